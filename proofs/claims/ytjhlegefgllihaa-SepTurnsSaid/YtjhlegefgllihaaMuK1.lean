/- The law, plainly: what is worked out. -/
import Derived.Test.YtjhlegefgllihaaMuV
import Derived.Test.YtjhlegefgllihaaMuDf
import Derived.Test.YtjhlegefgllihaaMuK0
/- A way of Zep that never ZgJ one way does not come back: numbers that rise along it. -/
set_option linter.unusedVariables false
set_option linter.unusedSimpArgs false
set_option maxRecDepth 10000
namespace Mu
theorem ZcA {α:Type} [Inhabited α] {l:List α}{x:α}(h:x∈l):∃ i,i<l.length∧gi l i=x:=by
 obtain ⟨i,hi,e⟩:=List.mem_iff_getElem.1 h;exact ⟨i,hi,by rw [Zaz hi,e]⟩
theorem ZoV {α:Type} [Inhabited α] {l:List α}(h:l.Nodup) {i j:Nat}(hi:i<l.length) (hj:j<l.length) (e:gi l i=gi l j):i=j:=by
 rw [List.Nodup,List.pairwise_iff_getElem] at h;rw [Zaz hi,Zaz hj] at e;refine Classical.byContradiction fun c=>?_;rcases Nat.lt_or_gt_of_ne c with q|q
 ·exact h i j hi hj q e
 ·exact h j i hj hi q e.symm
def Zqb (l:List Za) (A:Da→Bool) (v:Nat):Za:=⟨⟨if A (v,0) then nx l v 0 else -1,if A (v,1) then nx l v 1 else -1,if A (v,2) then nx l v 2 else -1,if A (v,3) then nx l v 3 else -1⟩,⟨if A (v,0) then ow l v 0 else 0,if A (v,1) then ow l v 1 else 0,if A (v,2) then ow l v 2 else 0,if A (v,3) then ow l v 3 else 0⟩⟩
def flt (l:List Za) (A:Da→Bool):List Za:=(List.range l.length).map (Zqb l A)
theorem Zhn {l:List Za}{A:Da→Bool}:(flt l A).length=l.length:=by simp [flt]
theorem Zgj {l:List Za}{A:Da→Bool}{v d:Nat}(hv:v<l.length) (hd:d<4):nx (flt l A) v d=(if A (v,d) then nx l v d else -1)∧ow (flt l A) v d=(if A (v,d) then ow l v d else 0):=by
 have e:gi (flt l A) v=Zqb l A v:=ZbM hv;unfold nx ow;rw [e]
 match d,hd with
 | 0,_|1,_|2,_|3,_=>exact ⟨rfl,rfl⟩
theorem Zg0 {l:List Za}{A:Da→Bool}{p:Da}:isD (flt l A) p↔isD l p∧A p=true:=by
 unfold isD;rw [Zhn];constructor
 ·rintro ⟨a,b,c⟩;rw [(Zgj a b).1] at c;by_cases q:A (p.1,p.2)=true
  ·rw [if_pos q] at c;exact ⟨⟨a,b,c⟩,q⟩
  ·rw [if_neg q] at c;omega
 ·rintro ⟨⟨a,b,c⟩,q⟩;have q':A (p.1,p.2)=true:=q;refine ⟨a,b,?_⟩;rw [(Zgj a b).1,if_pos q'];exact c
theorem Zn3 {l:List Za}{A:Da→Bool}:Sub (flt l A) l:=⟨Zhn,fun u e hu he=>by
 rw [(Zgj hu he).1];split
 ·exact .inl rfl
 ·exact .inr rfl⟩
theorem ZoU {l:List Za}(hc:Ck l) {A:Da→Bool}(hA:∀ p,isD l p→A p=true→A (opp l p)=true):Ck (flt l A):=by
 refine ⟨fun v d hv hd=>?_⟩;rw [Zhn] at hv ⊢;rw [(Zgj hv hd).1,(Zgj hv hd).2];rcases hc.s v d hv hd with ⟨a,b⟩|⟨w,a,b,c,e,f,g⟩
 ·left;constructor
  ·split
   ·exact a
   ·rfl
  ·split
   ·exact b
   ·rfl
 ·by_cases q:A (v,d)=true
  ·right;have iv:isD l (v,d):=⟨hv,hd,by rw [a];omega⟩;have q2:A (w,(d+2)%4)=true:=by
    have:=hA _ iv q;unfold opp at this;dsimp only at this;rw [a,itn] at this;exact this
   refine ⟨w,by rw [if_pos q,a],b,c,?_,?_,?_⟩
   ·rw [(Zgj b (by omega)).1,if_pos q2,e]
   ·rw [(Zgj b (by omega)).2,if_pos q2,if_pos q,f]
   ·rw [if_pos q];exact g
  ·left;rw [if_neg q,if_neg q];exact ⟨rfl,rfl⟩
def Wk (l:List Za):Nat→List Da→Nat→Prop
 | x,[],y=>x=y
 | x,p::t,y=>p.1=x∧isD l p∧Wk l (nx l p.1 p.2).toNat t y
theorem Wk.cut {l:List Za}{y:Nat}:∀ {s:List Da}{x u:Nat},Wk l x s y→u∈s.map (·.1)→∃ a b,s=a++b∧Wk l u b y
 | [],x,u,h,hu=>by simp at hu
 | p::s,x,u,h,hu=>by
  by_cases c:u=p.1
  ·exact ⟨[],p::s,rfl,by subst c;exact ⟨rfl,h.2.1,h.2.2⟩⟩
  ·have:u∈s.map (·.1):=by
    rw [List.map_cons,List.mem_cons] at hu;exact hu.resolve_left c
   obtain ⟨a,b,e,w⟩:=Wk.cut h.2.2 this;exact ⟨p::a,b,by rw [e];rfl,w⟩
theorem Wk.simple {l:List Za}{y:Nat}{D:Nat→Prop}:∀ {s:List Da}{x:Nat},Wk l x s y→(∀ p∈s,D p.2)→∃ s',Wk l x s' y∧(∀ p∈s',D p.2)∧(s'.map (·.1)).Nodup∧y ∉ s'.map (·.1)
 | [],x,h,hD=>⟨[],h,by simp,by simp,by simp⟩
 | p::s,x,h,hD=>by
  obtain ⟨s',w,d,nd,ny⟩:=Wk.simple h.2.2 (fun q hq=>hD q (by simp [hq]));by_cases c:x=y
  ·exact ⟨[],c,by simp,by simp,by simp⟩
  ·by_cases e:x∈s'.map (·.1)
   ·obtain ⟨a,b,e1,w1⟩:=Wk.cut w e;subst e1;rw [List.map_append] at nd ny;refine ⟨b,w1,fun q hq=>d q (by simp [hq]),(List.nodup_append.1 nd).2.1,fun q=>ny (by simp only [List.mem_append];exact .inr q)⟩
   ·refine ⟨p::s',⟨h.1,h.2.1,w⟩,?_,?_,?_⟩
    ·intro q hq;rcases List.mem_cons.1 hq with rfl|hq
     ·exact hD _ (by simp)
     ·exact d q hq
    ·rw [List.map_cons,List.nodup_cons,h.1];exact ⟨e,nd⟩
    ·rw [List.map_cons,List.mem_cons,h.1];rintro (q|q)
     ·exact c q.symm
     ·exact ny q
theorem Wk.at {l:List Za}{y:Nat}:∀ {s:List Da}{x:Nat},Wk l x s y→∀ i,i<s.length→isD l (gi s i)∧(nx l (gi s i).1 (gi s i).2).toNat=(if i+1<s.length then (gi s (i+1)).1 else y)∧(i=0→(gi s i).1=x)
 | [],x,h,i,hi=>by simp at hi
 | p::s,x,h,0,hi=>by
  have e0:gi (p::s) 0=p:=rfl;rw [e0];refine ⟨h.2.1,?_,fun _=>h.1⟩
  match s,h with
  | [],h=>simp;exact h.2.2
  | q::s,h =>
   rw [if_pos (by simp)];exact h.2.2.1.symm
 | p::s,x,h,i+1,hi=>by
  have hi':i<s.length:=by simpa using hi
  have e0:∀ j,gi (p::s) (j+1)=gi s j:=fun j=>rfl;rw [e0,e0];obtain ⟨a,b,_⟩:=Wk.at h.2.2 i hi';refine ⟨a,?_,fun c=>by omega⟩;rw [b];by_cases c:i+1<s.length
  ·rw [if_pos c,if_pos (by simp;omega)]
  ·rw [if_neg c,if_neg (by simp;omega)]
def ph (d0 e:Nat):Int:=if e=d0 then 0 else if e=(d0+1)%4 then 1 else -1
theorem Zp3:∀ d a b:Fin 4,a.1≠(d.1+2)%4→b.1≠(d.1+2)%4→b.1≠(a.1+2)%4→tn a.1 b.1=ph d.1 b.1-ph d.1 a.1:=by decide +kernel
theorem Zq4 {d a b:Nat}(hd:d<4) (ha:a<4) (hb:b<4) (h1:a≠(d+2)%4) (h2:b≠(d+2)%4) (h3:b≠(a+2)%4):tn a b=ph d b-ph d a:=Zp3 ⟨d,hd⟩ ⟨a,ha⟩ ⟨b,hb⟩ h1 h2 h3
theorem Zlg {f g:Da→Int}:∀ {L:List Da},(L.map fun p=>f p-g p).sum=(L.map f).sum-(L.map g).sum
 | []=>rfl
 | a::L=>by simp only [List.map_cons,List.sum_cons];rw [Zlg];omega
theorem ZmD {l:List Za}(hc:Ck l) (hV:Val l) (Cl:Cn l) {d0:Nat}(h4:d0<4) {p:Da}(hp:isD l p) (hp2:p.2=d0) {s:List Da}(hs:Wk l (nx l p.1 p.2).toNat s p.1) (hD:∀ q∈s,q.2≠(d0+2)%4):False:=by
 obtain ⟨s,hs,hD,nd,ny⟩:=hs.simple (D:=fun e=>e≠(d0+2)%4) hD;obtain ⟨f,hf⟩:∃ f,f=p::s:=⟨_,rfl⟩;have w:Wk l p.1 f p.1:=by rw [hf];exact ⟨rfl,hp,hs⟩
 have fnd:(f.map (·.1)).Nodup:=by rw [hf,List.map_cons,List.nodup_cons];exact ⟨ny,nd⟩
 have fD:∀ q∈f,q.2≠(d0+2)%4:=by
  intro q hq;rw [hf] at hq;rcases List.mem_cons.1 hq with rfl|hq
  ·omega
  ·exact hD q hq
 have f0:0<f.length:=by rw [hf];simp
 have g0:gi f 0=p:=by rw [hf];rfl
 have at_:=fun i hi=>w.at i hi;have inj:∀ i j,i<f.length→j<f.length→(gi f i).1=(gi f j).1→i=j:=by
  intro i j hi hj h;have k:∀ i,i<f.length→gi (f.map (·.1)) i=(gi f i).1:=fun i hi=>Zcd hi;rw [← k i hi,← k j hj] at h;exact ZoV fnd (by simpa using hi) (by simpa using hj) h
 obtain ⟨nxi,hnx⟩:∃ nxi:Nat→Nat,∀ i,nxi i=if i+1<f.length then i+1 else 0:=⟨fun i=>if i+1<f.length then i+1 else 0,fun _=>rfl⟩;have nlt:∀ i,i<f.length→nxi i<f.length:=fun i hi=>by rw [hnx];split<;>omega
 have tgt:∀ i,i<f.length→(nx l (gi f i).1 (gi f i).2).toNat=(gi f (nxi i)).1:=by
  intro i hi;rw [(at_ i hi).2.1,hnx];split
  ·rfl
  ·rw [g0]
 -- no turn back
 have nob:∀ i,i<f.length→(gi f (nxi i)).2≠((gi f i).2+2)%4:=by
  intro i hi e;have b:=(at_ i hi).1.fwd hc;have t2:=tgt (nxi i) (nlt i hi);have e1:(nx l (gi f (nxi i)).1 (gi f (nxi i)).2).toNat=(gi f i).1:=by
   rw [e,← tgt i hi,b.2];omega
  rw [t2] at e1;have k:=inj _ _ (nlt _ (nlt i hi)) hi e1;have c1:=fD _ (Zaw hi);have c2:=fD _ (Zaw (nlt i hi));have l1:=(at_ i hi).1.2.1;have l2:=(at_ _ (nlt i hi)).1.2.1;have n1:i≠0:=by
   rintro rfl;rw [g0] at e;omega
  have n2:nxi i≠0:=by
   intro z;rw [z,g0] at e;omega
  have h1:=hnx i;have h2:=hnx (nxi i);rw [k] at h2;split at h1<;>split at h2<;>omega
 -- the way's edges alone
 obtain ⟨A,hA⟩:∃ A:Da→Bool,∀ q,A q=true↔(q∈f∨opp l q∈f):=⟨fun q=>decide (q∈f∨opp l q∈f),fun q=>by simp⟩;have fis:∀ q∈f,isD l q:=fun q hq=>by
  obtain ⟨i,hi,e⟩:=ZcA hq;rw [← e];exact (at_ i hi).1
 have hm:Ck (flt l A):=ZoU hc fun q hq h=>by
  rw [hA] at h ⊢;rw [ZcC hc hq];exact h.symm
 have S:Sub (flt l A) l:=Zn3;have fm:∀ q∈f,isD (flt l A) q:=fun q hq=>Zg0.2 ⟨fis q hq,(hA q).2 (.inl hq)⟩;have nxm:∀ q∈f,nx (flt l A) q.1 q.2=nx l q.1 q.2:=fun q hq=>(S.is (fm q hq)).2
 -- what lies at a cell of the way
 have only:∀ i e,i<f.length→e<4→(0≤nx (flt l A) (gi f (nxi i)).1 e↔e=(gi f (nxi i)).2∨e=((gi f i).2+2)%4):=by
  intro i e hi he;have iN:=(at_ _ (nlt i hi)).1;constructor
  ·intro h;have hq:isD (flt l A) ((gi f (nxi i)).1,e):=⟨by rw [Zhn];exact iN.1,he,h⟩;obtain ⟨q1,q2⟩:=Zg0.1 hq;rcases (hA _).1 q2 with m|m
   ·obtain ⟨j,hj,ej⟩:=ZcA m;have:=inj j (nxi i) hj (nlt i hi) (by rw [ej]);left;rw [← this,ej]
   ·obtain ⟨j,hj,ej⟩:=ZcA m;have b:=(q1.opp hc).fwd hc;have o2:=ZcC hc q1;have t:=tgt j hj;rw [ej] at t;have t1:(nx l (opp l ((gi f (nxi i)).1,e)).1 (opp l ((gi f (nxi i)).1,e)).2).toNat=(gi f (nxi i)).1:=congrArg Prod.fst o2;rw [t1] at t;have k:=inj _ _ (nlt i hi) (nlt j hj) t;have ij:i=j:=by
     have h1:=hnx i;have h2:=hnx j;split at h1<;>split at h2<;>omega
    right;rw [ij,ej];unfold opp;dsimp only;omega
  ·rintro (q|q)
   ·rw [q];exact (fm _ (Zaw (nlt i hi))).2.2
   ·have:=((fm _ (Zaw hi)).opp hm).2.2;unfold opp at this;dsimp only at this;rw [nxm _ (Zaw hi),tgt i hi] at this;rw [q];exact this
 have bhm:∀ i,i<f.length→bh (flt l A) (gi f i)=gi f (nxi i):=by
  intro i hi;have nb:=nob i hi;have l1:=(at_ i hi).1.2.1;have l2:=(at_ _ (nlt i hi)).1.2.1;unfold bh;rw [nxm _ (Zaw hi),tgt i hi];have o:=fun e he=>only i e hi he;have e3:gi f (nxi i)=((gi f (nxi i)).1,(gi f (nxi i)).2):=rfl;generalize (gi f (nxi i)).2=r at *;generalize (gi f i).2=q at *;rw [e3];by_cases c1:r=(q+1)%4
  ·rw [if_pos ((o _ (by omega)).2 (.inl c1.symm)),c1]
  ·rw [if_neg (fun h=>by rcases (o _ (by omega)).1 h with k|k<;>omega)];by_cases c2:r=q
   ·rw [if_pos ((o _ (by omega)).2 (.inl c2.symm)),c2]
   ·rw [if_neg (fun h=>by rcases (o _ (by omega)).1 h with k|k<;>omega)];have c3:r=(q+3)%4:=by omega
    rw [if_pos ((o _ (by omega)).2 (.inl c3.symm)),c3]
 have fn:f.Nodup:=(List.pairwise_map.1 fnd).imp fun {a b} h e=>h (by rw [e]);have one:∀ C:Da→Prop,(∀ x,isD (flt l A) x→C x→C (bh (flt l A) x))→∀ q∈f,∀ r∈f,C q→C r:=by
  intro C hC q hq r hr h;obtain ⟨i,hi,ei⟩:=ZcA hq;obtain ⟨j,hj,ej⟩:=ZcA hr;have step:∀ i,i<f.length→C (gi f i)→C (gi f (nxi i)):=fun i hi h=>by
   rw [← bhm i hi];exact hC _ (fm _ (Zaw hi)) h
  have up:∀ k,∀ i,i<f.length→i+k<f.length→C (gi f i)→C (gi f (i+k)):=by
   intro k
   induction k with
   | zero=>intro i hi _ h;exact h
   | succ k ih =>
    intro i hi hk h;have:=step (i+k) (by omega) (ih i hi (by omega) h);rw [hnx,if_pos (by omega)] at this;exact this
  rw [← ei] at h;have hl:=up (f.length-1-i) i hi (by omega) h;have h0:=step _ (by omega) hl;rw [hnx,if_neg (by omega)] at h0;have:=up j 0 f0 (by omega) h0;rw [Nat.zero_add] at this;rw [← ej];exact this
 have cy:Cyc (flt l A) f:=⟨by rw [hf];simp,fn,fm,fun q hq=>by
  obtain ⟨i,hi,e⟩:=ZcA hq;rw [← e,bhm i hi];exact Zaw (nlt i hi),one⟩
 have Cm:Cn (flt l A):=by
  intro C hC x y hx hy h;have tof:∀ x,isD (flt l A) x→C x→∃ x'∈f,C x':=by
   intro x hx h;rcases (hA x).1 (Zg0.1 hx).2 with m|m
   ·exact ⟨x,m,h⟩
   ·exact ⟨_,m,by rw [← S.opp hx];exact (hC x hx h).2⟩
  obtain ⟨x',m1,c1⟩:=tof x hx h;have all:∀ r∈f,C r:=fun r hr=>one C (fun z hz k=>(hC z hz k).1) x' m1 r hr c1;rcases (hA y).1 (Zg0.1 hy).2 with m|m
  ·exact all y m
  ·have k:=(hC _ (fm _ m) (all _ m)).2;rw [S.opp (fm _ m),ZcC hc (Zg0.1 hy).1] at k;exact k
 have hpf:p∈f:=by rw [hf];simp
 have V:=Sub.val hc Cl hV _ (flt l A) hm S Cm ⟨p,fm p hpf⟩ (Nat.le_refl _);have r4:=((Zfq hm).1 V).1 f cy
 -- its turns are none in all
 have e1:Zbg (flt l A) f=(f.map fun q=>ph d0 (bh (flt l A) q).2-ph d0 q.2).sum:=by
  unfold Zbg tns;congr 1;refine List.map_congr_left fun q hq=>?_;obtain ⟨i,hi,e⟩:=ZcA hq;rw [← e,bhm i hi];exact Zq4 h4 (at_ i hi).1.2.1 (at_ _ (nlt i hi)).1.2.1 (fD _ (Zaw hi)) (fD _ (Zaw (nlt i hi))) (nob i hi)
 have pm:(f.map (bh (flt l A))).Perm f:=by
  have nd2:(f.map (bh (flt l A))).Nodup:=List.pairwise_map.2 (fn.imp_of_mem fun {a b} ha hb hne he=>hne (Zgf hm (fm a ha) (fm b hb) he));have sub:∀ x∈f.map (bh (flt l A)),x∈f:=fun x hx=>by
   obtain ⟨q,hq,rfl⟩:=List.mem_map.1 hx;exact cy.cl q hq
  exact (List.perm_ext_iff_of_nodup nd2 fn).2 fun x=>⟨sub x,ZiP nd2 fn sub (by simp) x⟩
 have e2:(f.map fun q=>ph d0 (bh (flt l A) q).2).sum=(f.map fun q=>ph d0 q.2).sum:=by
  have:=ZhM (f:=fun q:Da=>ph d0 q.2) pm;rw [List.map_map] at this;exact this
 rw [Zlg (f:=fun q=>ph d0 (bh (flt l A) q).2) (g:=fun q=>ph d0 q.2),e2] at e1;omega
theorem pot {l:List Za}(hc:Ck l) (hV:Val l) (Cl:Cn l) {d0:Nat}(h4:d0<4):∃ φ:Nat→Nat,(∀ x,φ x≤l.length)∧(∀ p,isD l p→p.2=d0→φ p.1<φ (nx l p.1 p.2).toNat)∧∀ p,isD l p→p.2=(d0+1)%4∨p.2=(d0+3)%4→φ p.1=φ (nx l p.1 p.2).toNat:=by
 obtain ⟨R,hR⟩:∃ R:Nat→Nat→Prop,∀ x y,R x y↔∃ s,Wk l x s y∧∀ q∈s,q.2≠(d0+2)%4:=⟨fun x y=>∃ s,Wk l x s y∧∀ q∈s,q.2≠(d0+2)%4,fun _ _=>Iff.rfl⟩;obtain ⟨B,hB⟩:∃ B:Nat→Nat→Bool,∀ x y,B x y=true↔R x y:=⟨fun x y=>@decide (R x y) (Classical.propDecidable _),fun x y=>by simp⟩;have step:∀ p,isD l p→p.2≠(d0+2)%4→∀ y,R (nx l p.1 p.2).toNat y→R p.1 y:=by
  intro p hp h y hy;obtain ⟨s,w,d⟩:=(hR _ _).1 hy;refine (hR _ _).2 ⟨p::s,⟨rfl,hp,w⟩,fun q hq=>?_⟩;rcases List.mem_cons.1 hq with rfl|hq
  ·exact h
  ·exact d q hq
 have len:∀ x,((List.range l.length).filter (B x)).length≤l.length:=fun x=>by
  have:=List.length_filter_le (B x) (List.range l.length);simpa using this
 refine ⟨fun x=>l.length-((List.range l.length).filter (B x)).length,fun x=>Nat.sub_le _ _,fun p hp h=>?_,fun p hp h=>?_⟩
 ·have hl:=p.2;have s:=step p hp (by have:=hp.2.1;omega);have f:=hp.fwd hc;have:((List.range l.length).filter (B (nx l p.1 p.2).toNat)).length+1≤((List.range l.length).filter (B p.1)).length:=by
   have nd:(p.1::(List.range l.length).filter (B (nx l p.1 p.2).toNat)).Nodup:=by
    refine List.nodup_cons.2 ⟨fun m=>?_,List.nodup_range.filter _⟩;have:=(hB _ _).1 (List.mem_filter.1 m).2;obtain ⟨t,w,d⟩:=(hR _ _).1 this;exact ZmD hc hV Cl h4 hp h w d
   have:=nd.length_le_of_subset (l₂:=(List.range l.length).filter (B p.1)) (fun x hx=>by
    rcases List.mem_cons.1 hx with rfl|hx
    ·exact List.mem_filter.2 ⟨List.mem_range.2 hp.1,(hB _ _).2 ((hR _ _).2 ⟨[],rfl,by simp⟩)⟩
    ·obtain ⟨a,b⟩:=List.mem_filter.1 hx;exact List.mem_filter.2 ⟨a,(hB _ _).2 (s x ((hB _ _).1 b))⟩)
   simpa using this
  have:=len p.1;show l.length-_<l.length-_;omega
 ·have f:=hp.fwd hc;have ho:=hp.opp hc;have h2:=hp.2.1;have e:∀ y,R p.1 y↔R (nx l p.1 p.2).toNat y:=by
   intro y;refine ⟨fun k=>?_,step p hp (by omega) y⟩;have:=step _ ho (by unfold opp;dsimp only;omega) y;have o:(nx l (opp l p).1 (opp l p).2).toNat=p.1:=congrArg Prod.fst (ZcC hc hp);rw [o] at this;exact this k
  have:B p.1=B (nx l p.1 p.2).toNat:=by
   funext y;have:=e y;rw [← hB,← hB] at this;cases h1:B p.1 y<;>cases h2:B (nx l p.1 p.2).toNat y<;>simp_all
  show l.length-_=l.length-_;rw [this]
end Mu
/- An edge more,from corner to corner of one loop. -/
namespace Mu
end Mu
/- Layer 20: FrontFirst. -/
namespace Mu
end Mu
/- Layer 20: what a turn to the right faces,by sums. -/
namespace Mu
def cs (t:List Int) (i:Nat):Nat→Int
 | 0=>0
 | k+1=>cs t i k+gi t ((i+k)%t.length)
end Mu
/- A cut: an edge split,and a corner joined to it. -/
namespace Mu
/-! Faces,once round from their first Zep. -/
/-! Edges split. -/
section spl
variable {l:List Za}{a b w:Nat}
variable {m:List Za}
end spl
end Mu
/- A cut of a face that turns to the right: what comes of it. -/
namespace Mu
end Mu
/- Layer 21: cuts in the code;refining,till no inner face turns to the right. -/
namespace Mu
end Mu
/- Layer 15,plainly: corners,sums,rotations. -/
namespace Mu

def knp (x:Int):Nat:=if x=-1 then 1 else if x=-2 then 2 else 0
def Zm0 (t:List Int):Nat→List (Nat×Nat)
 | 0=>[]
 | n+1=>Zm0 t n++(List.range (knp (gi t n))).map fun p=>(n,p)
def Zqf (t:List Int):List (Nat×Nat):=Zm0 t t.length
/-! right -/
/-! contains -/
/-! sums -/
def ZqR (t:List Int) (a b:Nat×Nat):Int:=ZnW t b.1-b.2-(ZnW t a.1-a.2)+if b.1<a.1∨(b.1=a.1∧b.2<a.2) then ZnW t t.length else 0
end Mu
/- Layer 15: the rotation there and back. -/
namespace Mu

end Mu
/- Layer 15: turns of 0,and where one begins. -/
namespace Mu

def looks (t:List Int):Prop:=∃ a∈Zqf t,∃ b∈Zqf t,ZqR t a b=2

/-! A list and another one whose turns,but those of 0,stand elsewhere. -/
/-! How many corners. -/
end Mu
/- Layer 15: the document's answer. -/
namespace Mu

/-! Single turns. -/
def Zqz (x:Int):List Int:=if x=-2 then [-1,-1] else [x]
def Zox (t:List Int):Nat→List Int
 | 0=>[]
 | n+1=>Zox t n++Zqz (gi t n)
def pos (t:List Int) (c:Nat×Nat):Nat:=(Zox t c.1).length+c.2
end Mu
/- Layer 15: KittyRegular. -/
namespace Mu
end Mu
/- Layer 22: corners that look at one another: an edge laid between them leaves cells that can be drawn. -/
namespace Mu
end Mu
/- Loops that turn one way alone,four times: rectangles. -/
namespace Mu
def tg (l:List Za) (p:Da):Nat:=(nx l p.1 p.2).toNat
def al (X Y:Nat→Int) (d v:Nat):Int:=if d=0 then X v else if d=1 then Y v else if d=2 then -X v else -Y v
def ac (X Y:Nat→Int) (d v:Nat):Int:=if d=0 then Y v else if d=1 then X v else if d=2 then Y v else X v
def Str (l:List Za) (X Y:Nat→Int):Prop:=∀ p,isD l p→al X Y p.2 p.1<al X Y p.2 (tg l p)∧ac X Y p.2 p.1=ac X Y p.2 (tg l p)
end Mu
/- Rectangles laid side by side: a covering of the frame,once. -/
namespace Mu
def wd (l:List Za) (X Y:Nat→Int) (i j:Int) (p:Da):Int:=if p.2=1 then (if i<X p.1∧Y p.1≤j∧j<Y (tg l p) then 1 else 0) else if p.2=3 then (if i<X p.1∧Y (tg l p)≤j∧j<Y p.1 then -1 else 0) else 0
end Mu
/- Rectangles laid side by side: no two cells at a Zg9,none in an edge,no two edges cross. -/
namespace Mu
variable {l:List Za}{X Y:Nat→Int}
def sx (q:Nat) (x:Int):Int:=if q=1∨q=2 then x-1 else x
def sy (q:Nat) (y:Int):Int:=if q=2∨q=3 then y-1 else y
def wq (l:List Za) (v q:Nat):Da:=(v,prv (fun e=>decide (0≤nx l v e)) ((q+3)%4))
end Mu
/- Cells beside cells. -/
namespace Mu
def sh1 (n:Nat) (x:Int):Int:=if 0≤x then x+n else -1
def shC (n:Nat) (c:Za):Za:=⟨⟨sh1 n c.Next.a,sh1 n c.Next.b,sh1 n c.Next.c,sh1 n c.Next.d⟩,c.Owner⟩
def app (l k:List Za):List Za:=l++k.map (shC l.length)
end Mu
/- Layer 21: cells framed. -/
namespace Mu
instance Pt.dec {l:List Za}:∀ (s:List Da) (x y:Da),Decidable (Pt l x s y)
 | [],x,y=>inferInstanceAs (Decidable (x=y))
 | a::s,x,y=>by
  have:=Pt.dec (l:=l) s (bh l a) y;exact inferInstanceAs (Decidable (x=a∧isD l a∧Pt l (bh l a) s y))
end Mu
/- Layer 21: framed cells can be drawn. -/
namespace Mu
end Mu
/- Cells that lie on a plane can be drawn,if they hang together. -/
namespace Mu
def dx (d:Nat):Int:=if d=0 then 1 else if d=2 then -1 else 0
def dy (d:Nat):Int:=if d=1 then 1 else if d=3 then -1 else 0
structure Geo (l:List Za) (at_:List Zl):Prop where
 ck:Ck l
 len:l.length=at_.length
 in8:∀ i,i<l.length→0≤(gi at_ i).X∧(gi at_ i).X<8∧0≤(gi at_ i).Y∧(gi at_ i).Y<8
 inj:∀ i j,i<l.length→j<l.length→(gi at_ i).X=(gi at_ j).X→(gi at_ i).Y=(gi at_ j).Y→i=j
 str:∀ p,isD l p→∃ n:Nat,1≤n∧(gi at_ (nx l p.1 p.2).toNat).X=(gi at_ p.1).X+n*dx p.2∧(gi at_ (nx l p.1 p.2).toNat).Y=(gi at_ p.1).Y+n*dy p.2 ∧
  ∀ u,u<l.length→∀ i:Nat,0<i→i<n→(gi at_ u).X=(gi at_ p.1).X+i*dx p.2→(gi at_ u).Y=(gi at_ p.1).Y+i*dy p.2→False
 nc:NX at_ l
theorem Made.geo {l:List Za}{at_:List Zl}(h:Made l at_):Geo l at_:=by
 have pos:∀ v e,v<l.length→e<2→0≤nx l v e→∃ n:Nat,1≤n∧(gi at_ (nx l v e).toNat).X=(gi at_ v).X+n*dx e∧(gi at_ (nx l v e).toNat).Y=(gi at_ v).Y+n*dy e ∧
   ∀ u,u<l.length→∀ i:Nat,0<i→i<n→(gi at_ u).X=(gi at_ v).X+i*dx e→(gi at_ u).Y=(gi at_ v).Y+i*dy e→False:=by
  intro v e hv he h0;rcases h.near v e hv he with q|q
  ·omega
  ·rcases q with ⟨q,_⟩|⟨j,q,j1,j2,j3⟩
   ·omega
   ·rw [q,itn];have hl:=h.len;have:e=0∨e=1:=by omega
    rcases this with rfl|rfl
    ·obtain ⟨_,c⟩:=j2;rw [if_pos rfl] at c;refine ⟨((gi at_ j).X-(gi at_ v).X).toNat,by omega,by simp [dx];omega,by simp [dy];omega,fun u hu i i0 i1 hx hy=>?_⟩;simp [dx,dy] at hx hy;have:=j3 u (by omega) ⟨by omega,by rw [if_pos rfl];omega⟩;unfold ZcF at this;rw [if_pos rfl] at this;omega
    ·obtain ⟨_,c⟩:=j2;rw [if_neg (by omega)] at c;refine ⟨((gi at_ j).Y-(gi at_ v).Y).toNat,by omega,by simp [dx];omega,by simp [dy];omega,fun u hu i i0 i1 hx hy=>?_⟩;simp [dx,dy] at hx hy;have:=j3 u (by omega) ⟨by omega,by rw [if_neg (by omega)];omega⟩;unfold ZcF at this;rw [if_neg (by omega)] at this;omega
 refine ⟨h.ck,h.len,fun i hi=>h.pts.b i (by rw [← h.len];exact hi),fun i j hi hj hx hy=>h.pts.d i j (by rw [← h.len];exact hi) (by rw [← h.len];exact hj) ?_,fun p hp=>?_,h.nc⟩
 ·generalize gi at_ i=a at *;generalize gi at_ j=b at *;obtain ⟨a1,a2⟩:=a;obtain ⟨b1,b2⟩:=b;dsimp only at hx hy;rw [hx,hy]
 ·obtain ⟨v,d⟩:=p;have f:=hp.fwd h.ck;obtain ⟨v1,d1,n1⟩:=hp;dsimp only at v1 d1 n1 f ⊢;by_cases c:d<2
  ·exact pos v d v1 c n1
  ·have hw:(((nx l v d).toNat:Nat):Int)=nx l v d:=by omega
   generalize (nx l v d).toNat=w at *;obtain ⟨n,a1,a2,a3,a4⟩:=pos w ((d+2)%4) f.1 (by omega) (by rw [f.2];omega);rw [f.2,itn] at a2 a3;have sx:dx ((d+2)%4)=- dx d:=by
    have:d=2∨d=3:=by omega
    rcases this with rfl|rfl<;>rfl
   have sy:dy ((d+2)%4)=- dy d:=by
    have:d=2∨d=3:=by omega
    rcases this with rfl|rfl<;>rfl
   rw [sx] at a2 a4;rw [sy] at a3 a4;rw [Int.mul_neg] at a2 a3;refine ⟨n,a1,by omega,by omega,fun u hu i i0 i1 hx hy=>a4 u hu (n-i) (by omega) (by omega) ?_ ?_⟩
   ·rw [Int.mul_neg,Int.natCast_sub (by omega),Int.sub_mul];omega
   ·rw [Int.mul_neg,Int.natCast_sub (by omega),Int.sub_mul];omega
section geo
variable {l:List Za}{at_:List Zl}
def pX (at_:List Zl) (p:Da) (i:Int):Int:=(gi at_ p.1).X+i*dx p.2
def pY (at_:List Zl) (p:Da) (i:Int):Int:=(gi at_ p.1).Y+i*dy p.2
end geo
end Mu
/- Layer 14: ValidPlane: the board's cells that lie under cells on a plane. -/
namespace Mu
def ps (x y:Int):Nat:=(8*y+x).toNat
section geo
variable {l:List Za}{at_:List Zl}
def un (at_:List Zl) (p:Da) (i:Nat):Da:=(ps (pX at_ p i) (pY at_ p i),p.2)
end geo
end Mu
/- Layer 21: framing and refining in the code;RectCounts. -/
namespace Mu
/-! Turns to the right,face by face. -/
end Mu
/- Layer 21: RectKeeps: old edges are there still,straight on. -/
namespace Mu
end Mu
/- Layer 16: straight chains of cells. -/
namespace Mu
theorem Ck.back {l:List Za}(h:Ck l) {v d w:Nat}(hv:v<l.length) (hd:d<4) (hw:nx l v d=w):w<l.length∧nx l w ((d+2)%4)=v:=by
 rcases h.s v d hv hd with ⟨a,_⟩|⟨u,a,b,_,c,_⟩
 ·omega
 ·have:w=u:=by omega
  subst this;exact ⟨b,c⟩
structure IsCh (l:List Za) (d:Nat) (C:List Int):Prop where
 ne:0<C.length
 lt:∀ i,i<C.length→0≤gi C i∧gi C i<l.length
 nxt:∀ i,i+1<C.length→nx l (gi C i).toNat d=gi C (i+1)
 fin:nx l (gi C (C.length-1)).toNat d=-1
 beg:nx l (gi C 0).toNat ((d+2)%4)=-1
theorem IsCh.bk {l:List Za}(hc:Ck l) {d:Nat}(hd:d<4) {C:List Int}(h:IsCh l d C) {i:Nat}(hi:i+1<C.length):nx l (gi C (i+1)).toNat ((d+2)%4)=gi C i:=by
 have a:=h.lt i (by omega);have b:=h.lt (i+1) hi;have:=(hc.back (v:=(gi C i).toNat) (d:=d) (w:=(gi C (i+1)).toNat) (by omega) hd (by rw [h.nxt i hi];omega)).2;rw [this];omega
theorem IsCh.at0 {l:List Za}(hc:Ck l) {d:Nat}(hd:d<4) {C C':List Int}(h:IsCh l d C) (h':IsCh l d C'):∀ i j,i<C.length→j<C'.length→gi C i=gi C' j→i=j∧gi C 0=gi C' 0
 | 0,0,_,_,e=>⟨rfl,e⟩
 | 0,j+1,_,hj,e=>by
  have a:=h'.bk hc hd hj;have b:=h.beg;rw [e,a] at b;have:=h'.lt j (by omega);omega
 | i+1,0,hi,_,e=>by
  have a:=h.bk hc hd hi;have b:=h'.beg;rw [← e,a] at b;have:=h.lt i (by omega);omega
 | i+1,j+1,hi,hj,e=>by
  have a:=h.bk hc hd hi;have b:=h'.bk hc hd hj;rw [e,b] at a;obtain ⟨q,r⟩:=IsCh.at0 hc hd h h' i j (by omega) (by omega) a.symm;exact ⟨by omega,r⟩
theorem IsCh.uniq0 {l:List Za}{d:Nat}{C C':List Int}(h:IsCh l d C) (h':IsCh l d C') (h0:gi C 0=gi C' 0):C=C':=by
 have key:∀ {C C':List Int},IsCh l d C→IsCh l d C'→gi C 0=gi C' 0→∀ k,k<C.length→k<C'.length∧gi C k=gi C' k:=by
  intro C C' h h' h0 k
  induction k with
  | zero=>intro _;exact ⟨h'.ne,h0⟩
  | succ k ih =>
   intro hk;obtain ⟨a,b⟩:=ih (by omega);have n:=h.nxt k hk;have q:=h.lt (k+1) hk;by_cases c:k+1<C'.length
   ·refine ⟨c,?_⟩;rw [← n,← h'.nxt k c,b]
   ·have f:=h'.fin;rw [show C'.length-1=k by omega,← b,n] at f;omega
 have k1:=key h h' h0;have k2:=key h' h h0.symm;have hl:C.length=C'.length:=by
  have a:=h.ne;have b:=h'.ne;have:=(k1 (C.length-1) (by omega)).1;have:=(k2 (C'.length-1) (by omega)).1;omega
 exact Zd3 hl fun i hi=>(k1 i hi).2
theorem IsCh.uniq {l:List Za}(hc:Ck l) {d:Nat}(hd:d<4) {C C':List Int}(h:IsCh l d C) (h':IsCh l d C') {v:Int}(hv:v∈C) (hv':v∈C'):C=C':=by
 obtain ⟨i,hi,rfl⟩:=List.mem_iff_getElem.1 hv;obtain ⟨j,hj,e⟩:=List.mem_iff_getElem.1 hv';exact h.uniq0 h' (h.at0 hc hd h' i j hi hj (by rw [Zaz hi,Zaz hj];exact e.symm)).2
theorem IsCh.len {l:List Za}(hc:Ck l) {d:Nat}(hd:d<4) {C:List Int}(h:IsCh l d C):C.length≤l.length:=by
 refine Zkv (fun i=>(gi C i).toNat) (fun i hi=>?_) (fun i j hi hj e=>?_)
 ·have:=h.lt i hi;show (gi C i).toNat<l.length;omega
 ·have a:=h.lt i hi;have b:=h.lt j hj;have e:(gi C i).toNat=(gi C j).toNat:=e;exact (h.at0 hc hd h i j hi hj (by omega)).1
theorem Zm1 {P:Nat→Prop}:∀ k,P k→∃ k,P k∧∀ i,i<k→¬ P i:=by
 intro k
 induction k using Nat.strongRecOn with
 | _ k ih =>
  intro h;by_cases c:∃ i,i<k∧P i
  ·obtain ⟨i,hi,hp⟩:=c;exact ih i hi hp
  ·exact ⟨k,h,fun i hi hp=>c ⟨i,hi,hp⟩⟩
def fwd (l:List Za) (d r:Nat):Nat→Int
 | 0=>r
 | n+1=>if 0≤fwd l d r n then nx l (fwd l d r n).toNat d else -1
theorem Zmh {l:List Za}(hc:Ck l) {d r:Nat}(hd:d<4) (hr:r<l.length) (hb:nx l r ((d+2)%4)=-1):∃ C,IsCh l d C∧gi C 0=r:=by
 have step:∀ n,0≤fwd l d r n→fwd l d r (n+1)=nx l (fwd l d r n).toNat d:=fun n h=>by rw [fwd,if_pos h]
 have pre:∀ n,0≤fwd l d r (n+1)→0≤fwd l d r n:=by
  intro n h;by_cases c:0≤fwd l d r n
  ·exact c
  ·rw [fwd,if_neg c] at h;omega
 have lt:∀ n,0≤fwd l d r n→fwd l d r n<l.length:=by
  intro n
  induction n with
  | zero=>intro _;show (r:Int)<l.length;omega
  | succ n ih =>
   intro h;have c:=pre n h;have:=ih c;rw [step n c];exact (hc.lt (by omega) hd).2
 have bkw:∀ n,0≤fwd l d r (n+1)→nx l (fwd l d r (n+1)).toNat ((d+2)%4)=fwd l d r n:=by
  intro n h;have c:=pre n h;have a:=lt n c;have b:=lt (n+1) h;have:=(hc.back (v:=(fwd l d r n).toNat) (d:=d) (w:=(fwd l d r (n+1)).toNat) (by omega) hd (by rw [← step n c];omega)).2;rw [this];omega
 have z:fwd l d r 0=r:=rfl;have inj:∀ i j,0≤fwd l d r i→0≤fwd l d r j→fwd l d r i=fwd l d r j→i=j:=by
  intro i
  induction i with
  | zero =>
   intro j _ hj e
   cases j with
   | zero=>rfl
   | succ j =>
    have:=bkw j hj;rw [← e,z,itn,hb] at this;have:=pre j hj;omega
  | succ i ih =>
   intro j hi hj e
   cases j with
   | zero =>
    have:=bkw i hi;rw [e,z,itn,hb] at this;have:=pre i hi;omega
   | succ j =>
    have a:=bkw i hi;have b:=bkw j hj;rw [e,b] at a;have:=ih j (pre i hi) (pre j hj) a.symm;omega
 have ex:∃ k,fwd l d r k<0:=by
  refine Classical.byContradiction fun hn=>?_;have all:∀ k,0≤fwd l d r k:=fun k=>by
   by_cases c:0≤fwd l d r k
   ·exact c
   ·exact absurd ⟨k,by omega⟩ hn
  have:=Zkv (n:=l.length+1) (m:=l.length) (fun i=>(fwd l d r i).toNat) (fun i _=>by
   have:=lt i (all i);have:=all i;show (fwd l d r i).toNat<l.length;omega) (fun i j _ _ e=>inj i j (all i) (all j) (by
   have e:(fwd l d r i).toNat=(fwd l d r j).toNat:=e;have:=all i;have:=all j;omega))
  omega
 obtain ⟨k0,hk0⟩:=ex;obtain ⟨k,hk,hm⟩:=Zm1 (P:=fun k=>fwd l d r k<0) k0 hk0;have hpos:0<k:=by
  cases k with
  | zero=>rw [z] at hk;omega
  | succ k=>omega
 have g:∀ i,i<k→gi ((List.range k).map (fwd l d r)) i=fwd l d r i:=fun i hi=>ZbM hi;have hlen:((List.range k).map (fwd l d r)).length=k:=by simp
 have ge:∀ i,i<k→0≤fwd l d r i:=fun i hi=>by have:=hm i hi;omega
 refine ⟨(List.range k).map (fwd l d r),⟨by omega,fun i hi=>?_,fun i hi=>?_,?_,?_⟩,?_⟩
 ·rw [hlen] at hi;rw [g i hi];exact ⟨ge i hi,lt i (ge i hi)⟩
 ·rw [hlen] at hi;rw [g i (by omega),g (i+1) hi,step i (ge i (by omega))]
 ·rw [hlen,g _ (by omega),← step _ (ge _ (by omega)),show k-1+1=k by omega];have:=ge (k-1) (by omega);have a:=step (k-1) this;rw [show k-1+1=k by omega] at a;have:=lt (k-1) this;have:=hc.lt (l:=l) (v:=(fwd l d r (k-1)).toNat) (d:=d) (by omega) hd;omega
 ·rw [g 0 hpos,z,itn];exact hb
 ·rw [g 0 hpos,z]
def Zer (l:List Za) (b:Nat):Nat→Nat→Option Nat
 | 0,_=>none
 | n+1,v=>if nx l v b<0 then some v else Zer l b n (nx l v b).toNat
theorem Zgp {l:List Za}(hc:Ck l) {d:Nat}(hd:d<4) {C:List Int}(h:IsCh l d C):∀ i m,i<C.length→i<m→Zer l ((d+2)%4) m (gi C i).toNat=some (gi C 0).toNat
 | 0,m+1,_,_=>by rw [Zer,h.beg,if_pos (by omega)]
 | i+1,m+1,hi,hm=>by
  have:=h.lt i (by omega);rw [Zer,h.bk hc hd hi,if_neg (by omega)];exact Zgp hc hd h i m (by omega) (by omega)
theorem Zgh {l:List Za}(hc:Ck l) {d:Nat}(hd:d<4):∀ m v r,v<l.length→Zer l ((d+2)%4) m v=some r→∃ C,IsCh l d C∧gi C 0=r∧∃ i,i<C.length∧gi C i=v
 | 0,v,r,_,h=>by cases h
 | m+1,v,r,hv,h=>by
  have hb:=hc.lt hv (d:=(d+2)%4) (by omega);rw [Zer] at h;by_cases c:nx l v ((d+2)%4)<0
  ·rw [if_pos c] at h;cases h;obtain ⟨C,hC,h0⟩:=Zmh hc hd hv (by omega);exact ⟨C,hC,h0,0,hC.ne,h0⟩
  ·rw [if_neg c] at h;have bk:=hc.back (v:=v) (d:=(d+2)%4) (w:=(nx l v ((d+2)%4)).toNat) hv (by omega) (by omega);rw [show ((d+2)%4+2)%4=d by omega] at bk;obtain ⟨C,hC,h0,i,hi,e⟩:=Zgh hc hd m _ r (by omega) h;have n:nx l (gi C i).toNat d=v:=by rw [e,itn];exact bk.2
   by_cases q:i+1<C.length
   ·exact ⟨C,hC,h0,i+1,q,by rw [← hC.nxt i q];exact n⟩
   ·have f:=hC.fin;rw [show C.length-1=i by omega,n] at f;omega
def AllCh (l:List Za) (d:Nat):Prop:=∀ v:Nat,v<l.length→∃ C,IsCh l d C∧(v:Int)∈C
theorem AllCh.root {l:List Za}(hc:Ck l) {d:Nat}(hd:d<4) (h:AllCh l d) {v:Nat}(hv:v<l.length):∃ r C,Zer l ((d+2)%4) (l.length+1) v=some r∧IsCh l d C∧gi C 0=r∧(v:Int)∈C:=by
 obtain ⟨C,hC,hm⟩:=h v hv;obtain ⟨i,hi,e⟩:=List.mem_iff_getElem.1 hm;have:=hC.len hc hd;have r:=Zgp hc hd hC i (l.length+1) hi (by omega);rw [Zaz hi,e,itn] at r;have:=hC.lt 0 hC.ne;exact ⟨_,C,r,hC,by omega,hm⟩
theorem Zi1 {l:List Za}(hc:Ck l) {d:Nat}(hd:d<4) (h:¬ AllCh l d):∃ v,v<l.length∧Zer l ((d+2)%4) (l.length+1) v=none:=by
 refine Classical.byContradiction fun hn=>h fun v hv=>?_
 cases r:Zer l ((d+2)%4) (l.length+1) v with
 | none=>exact absurd ⟨v,hv,r⟩ hn
 | some r' =>
  obtain ⟨C,hC,h0,i,hi,e⟩:=Zgh hc hd _ v r' hv r;exact ⟨C,hC,by rw [← e];exact Zaw hi⟩
structure CH (l:List Za) (d:Nat) (a:List Int) (L:List (List Int)):Prop where
 alen:a.length=l.length
 ch:∀ i,i<L.length→IsCh l d (gi L i)
 mem:∀ u:Nat,u<l.length→∃ i:Nat,i<L.length∧gi a u=i∧(u:Int)∈gi L i
 one:∀ i u:Nat,i<L.length→u<l.length→(u:Int)∈gi L i→gi a u=i
 seen:∀ i:Nat,i<L.length→∃ u,u<l.length∧gi a u=i
 ord:∀ u i:Nat,u<l.length→gi a u=i+1→∃ u',u'<u∧gi a u'=i
 Ll:L.length≤l.length
theorem Zks {n:Nat}{a:List Int}(ord:∀ u i:Nat,u<n→gi a u=i+1→∃ u',u'<u∧gi a u'=i):∀ (k u i:Nat),u<n→gi a u=i+(k+1:Nat)→∃ u',u'<u∧gi a u'=i
 | 0,u,i,hu,e=>ord u i hu (by omega)
 | k+1,u,i,hu,e=>by
  obtain ⟨u',h1,h2⟩:=ord u (i+(k+1)) hu (by omega);obtain ⟨u'',h3,h4⟩:=Zks ord k u' i (by omega) (by omega);exact ⟨u'',by omega,h4⟩
theorem Zpv {n:Nat}{a a':List Int}(p:∀ u:Nat,u<n→∃ i:Nat,gi a u=i) (p':∀ u:Nat,u<n→∃ i:Nat,gi a' u=i) (o:∀ u i:Nat,u<n→gi a u=i+1→∃ u',u'<u∧gi a u'=i) (o':∀ u i:Nat,u<n→gi a' u=i+1→∃ u',u'<u∧gi a' u'=i)
  (h:∀ u v:Nat,u<n→v<n→(gi a u=gi a v↔gi a' u=gi a' v)):∀ v:Nat,v<n→gi a v=gi a' v:=by
 intro v
 induction v using Nat.strongRecOn with
 | _ v ih =>
  intro hv;obtain ⟨i,hi⟩:=p v hv;obtain ⟨j,hj⟩:=p' v hv;by_cases c:i=j
  ·rw [hi,hj,c]
  ·by_cases q:i<j
   ·obtain ⟨u,h1,h2⟩:=Zks o' (j-i-1) v i hv (by omega);have:=ih u h1 (by omega);have:=(h u v (by omega) hv).1 (by omega);omega
   ·obtain ⟨u,h1,h2⟩:=Zks o (i-j-1) v j hv (by omega);have:=ih u h1 (by omega);have:=(h u v (by omega) hv).2 (by omega);omega
theorem CH.eq {l m:List Za}{d e:Nat}{a a':List Int}{L L':List (List Int)}(h:CH l d a L) (h':CH m e a' L') (hn:l.length=m.length) (f:List Int→List Int) (hf:∀ C C' v,IsCh l d C→IsCh m e C'→v∈C→v∈C'→C'=f C) (hm:∀ C v,v∈f C↔v∈C):a=a'∧L'=L.map f:=by
 have key:∀ u v:Nat,u<l.length→v<l.length→(gi a u=gi a v↔gi a' u=gi a' v):=by
  intro u v hu hv;obtain ⟨i,i1,i2,i3⟩:=h.mem u hu;obtain ⟨j,j1,j2,j3⟩:=h'.mem u (by omega);have e:=hf _ _ _ (h.ch i i1) (h'.ch j j1) i3 j3;constructor
  ·intro q;obtain ⟨k,k1,k2,k3⟩:=h.mem v hv;have:k=i:=by omega
   subst this;have:=h'.one j v j1 (by omega) (by rw [e];exact (hm _ _).2 k3);omega
  ·intro q;obtain ⟨k,k1,k2,k3⟩:=h'.mem v (by omega);have:k=j:=by omega
   subst this;rw [e] at k3;have:=h.one i v i1 hv ((hm _ _).1 k3);omega
 have ae:∀ v:Nat,v<l.length→gi a v=gi a' v:=Zpv (n:=l.length) (fun u hu=>by obtain ⟨i,_,e,_⟩:=h.mem u hu;exact ⟨i,e⟩) (fun u hu=>by obtain ⟨i,_,e,_⟩:=h'.mem u (by omega);exact ⟨i,e⟩) h.ord (fun u i hu=>h'.ord u i (by omega)) key;refine ⟨Zd3 (by rw [h.alen,h'.alen,hn]) fun i hi=>ae i (by rw [h.alen] at hi;exact hi),?_⟩;have ll:L'.length=L.length:=by
  have A:∀ i,i<L.length→i<L'.length:=by
   intro i hi;obtain ⟨u,hu,e⟩:=h.seen i hi;obtain ⟨j,j1,j2,_⟩:=h'.mem u (by omega);have:=ae u hu;omega
  have B:∀ i,i<L'.length→i<L.length:=by
   intro i hi;obtain ⟨u,hu,e⟩:=h'.seen i hi;obtain ⟨j,j1,j2,_⟩:=h.mem u (by omega);have:=ae u (by omega);omega
  have a1:=A (L.length-1);have b1:=B (L'.length-1);omega
 apply Zd3 (by rw [ll,List.length_map]);intro i hi;have hi':i<L.length:=by omega
 obtain ⟨u,hu,e⟩:=h.seen i hi';obtain ⟨k,k1,k2,k3⟩:=h.mem u hu;obtain ⟨j,j1,j2,j3⟩:=h'.mem u (by omega);have:=ae u hu;have ek:k=i:=by omega
 have ej:j=i:=by omega
 subst ek;subst ej;rw [hf _ _ _ (h.ch _ hi') (h'.ch _ hi) k3 j3,Zaz (l:=L.map f) (by simpa using hi'),Zaz hi',List.getElem_map]
end Mu
/- Layer 16: what the chains' code works out. -/
namespace Mu
theorem Zq0 {l:List Za}(hc:Ck l) (hl:l.length≤1000) {b:Nat}(hb:b<4):∀ (m u j:Nat),j+m=l.length→u<l.length→ZX (zB.s1 l b) (m+1) ((u:Int),(j:Int))=some (match Zer l b (m+1) u with|some r=>.inl (r:Int)|none=>.inr ()):=by
 intro m
 induction m with
 | zero =>
  intro u j hj hu;have e:(gi l u).Next.get (b:Int)=nx l u b:=rfl;simp only [ZX,zB.s1,Zer];rw [Z2 (by omega),Z2 (by omega),itn,e];by_cases c:nx l u b<0
  ·rw [ZW (by omega),if_pos c]
  ·rw [zb (by omega),zb (by omega),if_neg c]
 | succ m ih =>
  intro u j hj hu;have e:(gi l u).Next.get (b:Int)=nx l u b:=rfl;have hlt:=hc.lt hu hb;rw [ZX,Zer];simp only [zB.s1];rw [Z2 (by omega),Z2 (by omega),itn,e];by_cases c:nx l u b<0
  ·rw [ZW (by omega),if_pos c]
  ·rw [zb (by omega),ZW (by omega),Zai (by omega),if_neg c];have:=ih (nx l u b).toNat (j+1) (by omega) (by omega);rw [show ((nx l u b).toNat:Int)=nx l u b by omega,show ((j+1:Nat):Int)=(j:Int)+1 by omega] at this;exact this
theorem ZjJ {l:List Za}(hc:Ck l) (hl:l.length≤1000) {b v:Nat}(hb:b<4) (hv:v<l.length):ZX (zB.s1 l b) big ((v:Int),0)=some (match Zer l b (l.length+1) v with|some r=>.inl (r:Int)|none=>.inr ()):=by
 have:=Zq0 hc hl hb l.length v 0 (by omega) hv;exact ZdZ this (by unfold big;omega)
theorem Zke {C:List Int}{i:Nat}(hi:i<C.length):gi (C++[-1]) i=gi C i:=Zc1 hi
theorem ZkJ {C:List Int}:gi (C++[-1]) C.length=-1:=by
 have:=Zcc (l:=C) (m:=[(-1:Int)]) (i:=0);rwa [Nat.add_zero] at this
theorem Znx {l:List Za}{d:Nat}{C:List Int}(h:IsCh l d C) {i:Nat}(hi:i<C.length):nx l (gi C i).toNat d=gi (C++[-1]) (i+1):=by
 by_cases c:i+1<C.length
 ·rw [Zke c];exact h.nxt i c
 ·have e:i+1=C.length:=by omega
  rw [e,ZkJ];have:=h.fin;rwa [show C.length-1=i by omega] at this
theorem ZmR {l:List Za}(hl:l.length≤1000) {d:Nat}(hd:d<4) {C:List Int}(h:IsCh l d C) (hCl:C.length≤l.length) {a:List Int}(ha:a.length=l.length) {L:List (List Int)}:∃ r,ZX (zB.s2 l d L) big (a,([]:List Int),gi C 0)=some r∧(r.2=C∧r.1.length=l.length∧∀ u:Nat,u<l.length→gi r.1 u=if (u:Int)∈C then (L.length:Int) else gi a u):=by
 refine Zdf (fun (k:Nat) (s:List Int×List Int×Int)=>s.2.1=C.take k∧s.2.2=gi (C++[-1]) k∧s.1.length=l.length∧∀ u:Nat,u<l.length→gi s.1 u=if (u:Int)∈C.take k then (L.length:Int) else gi a u) (n:=C.length) (ZaK (by omega)) ⟨by simp,(Zke h.ne).symm,ha,fun u hu=>by simp⟩ ?_ ?_
 ·rintro k ⟨a',c,w⟩ hk ⟨h1,h2,h3,h4⟩;dsimp only at h1 h2 h3 h4 ⊢;subst h1;rw [Zke hk] at h2;subst h2;have hlt:=h.lt k hk;have e:(gi l (gi C k).toNat).Next.get (d:Int)=nx l (gi C k).toNat d:=rfl;simp only [zB.s2];rw [zb (by omega),Z2 (by omega),Z2 (by rw [List.length_take];simp;omega),Z2 (by omega),Z2 (by omega),e,Znx h hk];refine ⟨_,rfl,by dsimp only;rw [Zey hk],rfl,by rw [List.length_set];exact h3,fun u hu=>?_⟩;dsimp only;have hmem:(u:Int)∈C.take k++[gi C k]↔((u:Int)∈C.take k∨(u:Int)=gi C k):=by rw [List.mem_append,List.mem_singleton]
  rw [Zcg (by omega),h4 u hu,Zey hk];by_cases q:u=(gi C k).toNat
  ·rw [if_pos q,if_pos (hmem.2 (.inr (by omega)))]
  ·rw [if_neg q];by_cases q2:(u:Int)∈C.take k
   ·rw [if_pos q2,if_pos (hmem.2 (.inl q2))]
   ·rw [if_neg q2,if_neg (fun h=>by rcases hmem.1 h with q3|q3;exact q2 q3;omega)]
 ·rintro ⟨a',c,w⟩ ⟨h1,h2,h3,h4⟩;dsimp only at h1 h2 h3 h4 ⊢;subst h1;rw [ZkJ] at h2;subst h2;simp only [zB.s2];rw [ZW (by omega)];rw [List.take_length] at h4 ⊢;exact ⟨_,rfl,rfl,h3,h4⟩
structure SI (l:List Za) (d:Nat) (a:List Int) (L:List (List Int)) (v:Nat):Prop where
 alen:a.length=l.length
 ch:∀ i,i<L.length→IsCh l d (gi L i)
 mem:∀ u:Nat,u<l.length→(gi a u=-1∧∀ i,i<L.length→(u:Int) ∉ gi L i)∨∃ i:Nat,i<L.length∧gi a u=i∧(u:Int)∈gi L i
 one:∀ i u:Nat,i<L.length→u<l.length→(u:Int)∈gi L i→gi a u=i
 done:∀ u,u<v→0≤gi a u
 seen:∀ i:Nat,i<L.length→∃ u,u<v∧gi a u=i
 ord:∀ u i:Nat,u<l.length→gi a u=i+1→∃ u',u'<u∧gi a u'=i
 Ll:L.length≤v
theorem Zg1 {α:Type} [Inhabited α] {L:List α}{C:α}{i:Nat}(hi:i<L.length+1):gi (L++[C]) i=if i<L.length then gi L i else C:=by
 by_cases c:i<L.length
 ·rw [if_pos c,Zc1 c]
 ·rw [if_neg c,show i=L.length+0 by omega,Zcc];rfl
theorem SI.skip {l:List Za}{d v:Nat}{a:List Int}{L:List (List Int)}(h:SI l d a L v) (hv:0≤gi a v):SI l d a L (v+1) :=
 ⟨h.alen,h.ch,h.mem,h.one,fun u hu=>by
  by_cases c:u=v
  ·subst c;exact hv
  ·exact h.done u (by omega),fun i hi=>by obtain ⟨u,a,b⟩:=h.seen i hi;exact ⟨u,by omega,b⟩,h.ord,by have:=h.Ll;omega⟩
theorem SI.add {l:List Za}(hc:Ck l) {d v:Nat}(hd:d<4) {a a':List Int}{L:List (List Int)}(h:SI l d a L v) (hv:v<l.length) (hneg:gi a v<0) {C:List Int}(hC:IsCh l d C) (hm:(v:Int)∈C) (al:a'.length=l.length) (ha:∀ u:Nat,u<l.length→gi a' u=if (u:Int)∈C then (L.length:Int) else gi a u):SI l d a' (L++[C]) (v+1):=by
 have hL:(L++[C]).length=L.length+1:=by simp
 have off:∀ i,i<L.length→∀ u:Nat,u<l.length→(u:Int)∈gi L i→(u:Int) ∉ C:=by
  intro i hi u hu h1 h2;have e:=(h.ch i hi).uniq hc hd hC h1 h2;have:=h.one i v hi hv (by rw [e];exact hm);omega
 have late:∀ u:Nat,u<l.length→(u:Int)∈C→v≤u∧gi a u=-1:=by
  intro u hu h2;have hneg1:gi a u=-1:=by
   rcases h.mem u hu with ⟨q,_⟩|⟨i,i1,_,i3⟩
   ·exact q
   ·exact absurd h2 (off i i1 u hu i3)
  refine ⟨?_,hneg1⟩;by_cases c:u<v
  ·have:=h.done u c;omega
  ·omega
 have av:gi a' v=L.length:=by rw [ha v hv,if_pos hm]
 have old:∀ u:Nat,u<l.length→(u:Int) ∉ C→gi a' u=gi a u:=fun u hu q=>by rw [ha u hu,if_neg q]
 refine ⟨al,fun i hi=>?_,fun u hu=>?_,fun i u hi hu hmem=>?_,fun u hu=>?_,fun i hi=>?_,fun u i hu e=>?_,by rw [hL];have:=h.Ll;omega⟩
 ·rw [Zg1 (by omega)];split
  ·exact h.ch i (by assumption)
  ·exact hC
 ·by_cases q:(u:Int)∈C
  ·exact .inr ⟨L.length,by omega,by rw [ha u hu,if_pos q],by rw [Zg1 (by omega),if_neg (by omega)];exact q⟩
  ·rw [old u hu q];rcases h.mem u hu with ⟨p,r⟩|⟨i,i1,i2,i3⟩
   ·refine .inl ⟨p,fun i hi=>?_⟩;rw [Zg1 (by omega)];split
    ·exact r i (by assumption)
    ·exact q
   ·exact .inr ⟨i,by omega,i2,by rw [Zg1 (by omega),if_pos i1];exact i3⟩
 ·rw [Zg1 (by omega)] at hmem;by_cases c:i<L.length
  ·rw [if_pos c] at hmem;rw [old u hu (off i c u hu hmem)];exact h.one i u c hu hmem
  ·rw [if_neg c] at hmem;rw [ha u hu,if_pos hmem];omega
 ·by_cases c:u=v
  ·subst c;rw [av];omega
  ·have hul:u<l.length:=by omega
   by_cases q:(u:Int)∈C
   ·rw [ha u hul,if_pos q];omega
   ·rw [old u hul q];exact h.done u (by omega)
 ·by_cases c:i<L.length
  ·obtain ⟨u,u1,u2⟩:=h.seen i c;refine ⟨u,by omega,?_⟩;have hul:u<l.length:=by omega
   rw [old u hul (fun q=>by have:=late u hul q;omega)];exact u2
  ·exact ⟨v,by omega,by rw [av];omega⟩
 ·have push:∀ u',u'<v→gi a u'=i→∃ u',u'<v∧gi a' u'=i:=fun u' h1 h2=>⟨u',h1,by rw [old u' (by omega) (fun q=>by have:=late u' (by omega) q;omega)];exact h2⟩;by_cases q:(u:Int)∈C
  ·rw [ha u hu,if_pos q] at e;obtain ⟨u',u1,u2⟩:=h.seen i (by omega);obtain ⟨u'',w1,w2⟩:=push u' u1 u2;exact ⟨u'',by have:=late u hu q;omega,w2⟩
  ·rw [old u hu q] at e;obtain ⟨u',u1,u2⟩:=h.ord u i hu e;refine ⟨u',u1,?_⟩;rw [old u' (by omega) (fun q=>by have:=late u' (by omega) q;omega)];exact u2
theorem Zla {l:List Za}(hc:Ck l) (hl:l.length≤64) {d:Nat}(hd:d<4):(AllCh l d→∃ a L,zB l d=some (a,L,true)∧CH l d a L)∧(¬ AllCh l d→zB l d=some ([],[],false)):=by
 have rep:=ZkM (n:=l.length) (by omega);have bk:=Zor hd;have z:∀ u:Nat,u<l.length→gi (List.replicate l.length (-1:Int)) u=-1:=fun u hu=>by rw [Zaz (by simpa using hu),List.getElem_replicate]
 have st:SI l d (List.replicate l.length (-1:Int)) [] 0:=⟨by simp,fun i hi=>by simp at hi,fun u hu=>.inl ⟨z u hu,fun i hi=>by simp at hi⟩,fun i u hi=>by simp at hi,fun u hu=>by omega,fun i hi=>by simp at hi,fun u i hu e=>by rw [z u hu] at e;omega,by simp⟩;constructor
 ·intro hA;have:∃ r:(List Int×List (List Int))⊕Unit,ZX (zB.s0 l d (((d+2)%4:Nat):Int)) big (List.replicate l.length (-1:Int),([]:List (List Int)),0)=some r∧∃ a L,r=.inl (a,L)∧SI l d a L l.length:=by
   refine Zdf (fun (k:Nat) (s:List Int×List (List Int)×Int)=>SI l d s.1 s.2.1 k∧s.2.2=k) (n:=l.length) (ZaK (by omega)) ⟨st,rfl⟩ ?_ ?_
   ·rintro k ⟨a,L,x⟩ hk ⟨h1,h2⟩;dsimp only at h1 h2 ⊢;subst h2;have hal:=h1.alen;have hLl:=h1.Ll;simp only [zB.s0];rw [zb (by omega),Z2 (by omega),itn];by_cases c:0≤gi a k
    ·rw [zb c,Zai (by omega)];exact ⟨_,rfl,h1.skip c,by dsimp only;omega⟩
    ·obtain ⟨r,C,hr,hC,h0,hm⟩:=hA.root hc hd hk;rw [ZW c,ZjJ hc (by omega) (by omega) hk,hr,obs];dsimp only;obtain ⟨⟨a',C'⟩,e,e1,e2,e3⟩:=ZmR (by omega) hd hC (hC.len hc hd) hal (L:=L);dsimp only at e1 e2 e3;subst e1;rw [← h0,e,obs];dsimp only;rw [Z2 (by omega),Zai (by omega)];exact ⟨_,rfl,h1.add hc hd hk (by omega) hC hm e2 e3,by dsimp only;omega⟩
   ·rintro ⟨a,L,x⟩ ⟨h1,h2⟩;dsimp only at h1 h2 ⊢;subst h2;simp only [zB.s0];rw [ZW (by omega)];exact ⟨_,rfl,a,L,rfl,h1⟩
  obtain ⟨r,e,a,L,rfl,h⟩:=this;refine ⟨a,L,?_,h.alen,h.ch,fun u hu=>?_,h.one,h.seen,h.ord,h.Ll⟩
  ·unfold zB;rw [rep,obs,bk,obs,e,obs]
  ·rcases h.mem u hu with ⟨q,_⟩|q
   ·have:=h.done u hu;omega
   ·exact q
 ·intro hA;obtain ⟨v0,hv0,hr0⟩:=Zi1 hc hd hA;have:∃ r:(List Int×List (List Int))⊕Unit,ZX (zB.s0 l d (((d+2)%4:Nat):Int)) big (List.replicate l.length (-1:Int),([]:List (List Int)),0)=some r∧r=.inr ():=by
   refine ZeU (fun s:List Int×List (List Int)×Int=>l.length-s.2.2.toNat) (fun s=>∃ k:Nat,s.2.2=k∧k≤v0∧SI l d s.1 s.2.1 k) (ZaK (by dsimp only;omega)) ⟨0,rfl,by omega,st⟩ ?_;rintro ⟨a,L,x⟩ ⟨k,h2,hk0,h1⟩;dsimp only at h1 h2 ⊢;subst h2;have hal:=h1.alen;have hLl:=h1.Ll;have hk:k<l.length:=by omega
   simp only [zB.s0];rw [zb (by omega),Z2 (by omega),itn];by_cases c:0≤gi a k
   ·left;have hne:k≠v0:=by
     rintro rfl;rcases h1.mem k hk with ⟨q,_⟩|⟨i,i1,i2,i3⟩
     ·omega
     ·obtain ⟨j,hj,e⟩:=List.mem_iff_getElem.1 i3;have:=(h1.ch i i1).len hc hd;have r:=Zgp hc hd (h1.ch i i1) j (l.length+1) hj (by omega);rw [Zaz hj,e,itn,hr0] at r;cases r
    rw [zb c,Zai (by omega)];exact ⟨_,rfl,⟨k+1,by dsimp only;omega,by omega,h1.skip c⟩,by dsimp only;omega⟩
   ·rw [ZW c,ZjJ hc (by omega) (by omega) hk]
    cases hr:Zer l ((d+2)%4) (l.length+1) k with
    | none =>
     right;exact ⟨_,rfl,rfl⟩
    | some r =>
     left;have hne:k≠v0:=by rintro rfl;rw [hr] at hr0;cases hr0
     obtain ⟨C,hC,h0,i,hi,ei⟩:=Zgh hc hd _ k r hk hr;have hm:(k:Int)∈C:=by rw [← ei];exact Zaw hi
     rw [obs];dsimp only;obtain ⟨⟨a',C'⟩,e,e1,e2,e3⟩:=ZmR (by omega) hd hC (hC.len hc hd) hal (L:=L);dsimp only at e1 e2 e3;subst e1;rw [← h0,e,obs];dsimp only;rw [Z2 (by omega),Zai (by omega)];exact ⟨_,rfl,⟨k+1,by dsimp only;omega,by omega,h1.add hc hd hk (by omega) hC hm e2 e3⟩,by dsimp only;omega⟩
  obtain ⟨r,e,rfl⟩:=this;unfold zB;rw [rep,obs,bk,obs,e,obs]
end Mu
/- Layer 16: what the document's chains are. -/
namespace Mu
/-! both together -/
theorem Zm5 {l:List Za}(hl:l.length≤64) (h:Zfe l=0) (A:AllCh l 1∧AllCh l 0):∃ X Y V H,Zd5 l=some (⟨X,Y,V,H⟩,0)∧CH l 1 X V∧CH l 0 Y H:=by
 have hc:=(ZeG.1 h).2;have s1:=Zla hc hl (d:=1) (by omega);have s0:=Zla hc hl (d:=0) (by omega);rw [show ((1:Nat):Int)=1 from rfl] at s1;rw [show ((0:Nat):Int)=0 from rfl] at s0;obtain ⟨X,V,e1,c1⟩:=s1.1 A.1;obtain ⟨Y,H,e2,c2⟩:=s0.1 A.2;refine ⟨X,Y,V,H,?_,c1,c2⟩;unfold Zd5;rw [ZhI (by omega),obs,Zcy h,e1,obs];dsimp only;rw [e2,obs];rfl
end Mu
/- Layer 16: SegTells,SegMeets,SegTurns. -/
namespace Mu
theorem IsCh.move {l m:List Za}{d e:Nat}{C:List Int}(h:IsCh l d C) (hl:m.length=l.length) (h1:∀ v,v<l.length→nx m v e=nx l v d) (h2:∀ v,v<l.length→nx m v ((e+2)%4)=nx l v ((d+2)%4)):IsCh m e C:=by
 have hne:=h.ne;refine ⟨h.ne,fun i hi=>by rw [hl];exact h.lt i hi,fun i hi=>?_,?_,?_⟩
 ·have:=h.lt i (by omega);rw [h1 _ (by omega)];exact h.nxt i hi
 ·have:=h.lt (C.length-1) (by omega);rw [h1 _ (by omega)];exact h.fin
 ·have:=h.lt 0 h.ne;rw [h2 _ (by omega)];exact h.beg
theorem Zfj {C:List Int}{i:Nat}(hi:i<C.length):gi C.reverse i=gi C (C.length-1-i):=by
 rw [Zaz (by simpa using hi),Zaz (by omega),List.getElem_reverse]
theorem IsCh.rev {l:List Za}(hc:Ck l) {d:Nat}(hd:d<4) {C:List Int}(h:IsCh l d C):IsCh l ((d+2)%4) C.reverse:=by
 have hne:=h.ne;have hr:C.reverse.length=C.length:=by simp
 refine ⟨by omega,fun i hi=>?_,fun i hi=>?_,?_,?_⟩
 ·rw [Zfj (by omega)];exact h.lt _ (by omega)
 ·rw [Zfj (by omega),Zfj (by omega)];have:=h.bk hc hd (i:=C.length-1-(i+1)) (by omega);rw [show C.length-1-(i+1)+1=C.length-1-i by omega] at this;exact this
 ·rw [hr,Zfj (by omega),show C.length-1-(C.length-1)=0 by omega];exact h.beg
 ·rw [Zfj (by omega),Nat.sub_zero,show ((d+2)%4+2)%4=d by omega];exact h.fin
theorem Zof {l:List Za}{C:List Int}:IsCh (trn l) 1 C↔IsCh l 0 C:=by
 have hL:=Zco (l:=l);constructor
 ·intro h;exact h.move hL.symm (fun v hv=>(Zcu (l:=l) (v:=v) (e:=1) (by omega) (by omega)).1.symm) (fun v hv=>(Zcu (l:=l) (v:=v) (e:=3) (by omega) (by omega)).1.symm)
 ·intro h;exact h.move hL (fun v hv=>(Zcu (l:=l) (v:=v) (e:=1) hv (by omega)).1) (fun v hv=>(Zcu (l:=l) (v:=v) (e:=3) hv (by omega)).1)
theorem Zoe {l:List Za}{C:List Int}:IsCh (trn l) 0 C↔IsCh l 3 C:=by
 have hL:=Zco (l:=l);constructor
 ·intro h;exact h.move hL.symm (fun v hv=>(Zcu (l:=l) (v:=v) (e:=0) (by omega) (by omega)).1.symm) (fun v hv=>(Zcu (l:=l) (v:=v) (e:=2) (by omega) (by omega)).1.symm)
 ·intro h;exact h.move hL (fun v hv=>(Zcu (l:=l) (v:=v) (e:=0) hv (by omega)).1) (fun v hv=>(Zcu (l:=l) (v:=v) (e:=2) hv (by omega)).1)
theorem CH.small {l:List Za}(hc:Ck l) {d:Nat}(hd:d<4) {a:List Int}{L:List (List Int)}(h:CH l d a L) {i:Nat}(hi:i<L.length):(gi L i).length≤l.length:=(h.ch i hi).len hc hd
def cl (L:List (List Int)) (i:Int):List Int:=if i<0∨(L.length:Int)≤i then [] else gi L i.toNat
theorem Zkh {X Y:List Int}{V H:List (List Int)}{ver:Bool}{i:Int}:ZaF ⟨X,Y,V,H⟩ ver i=some (cl (if ver=true then V else H) i):=by
 unfold ZaF cl;have e:(if ver=true then some V else some H)=some (if ver=true then V else H):=by cases ver<;>rfl
 dsimp only;rw [e,obs];by_cases c:i<0∨((if ver=true then V else H).length:Int)≤i
 ·rw [if_pos c,if_pos (by simpa using c)]
 ·rw [if_neg c,if_neg (by simpa using c),Z2 (by omega)]
theorem Zmj {l:List Za}(hc:Ck l) {d:Nat}(hd:d<4) {a:List Int}{L:List (List Int)}(h:CH l d a L) {i:Int}:(cl L i).length≤l.length:=by
 unfold cl;split
 ·simp
 ·exact h.small hc hd (by omega)
theorem Zpb {s:List Int}{f:Int→Option Bool}{g:Int→Bool}(hn:s.length≤1000000) (h:∀ a∈s,f a=some (g a)):ZaO s f=some (s.any g):=by
 have h1:ZX (Zaa.s0 s f) big 0=some (match (List.range s.length).find? (fun i=>g (gi s i)) with|some i=>.inr (i:Int)|none=>.inl ()):=by
  refine ZdG (n:=s.length) (P:=fun i=>g (gi s i)) (f:=fun i=>(i:Int)) (ZaK (by omega)) (fun i hi=>?_) ?_
  ·simp only [Zaa.s0];rw [zb (by omega),Z2 (by omega),itn,h _ (Zaw hi),obs,Zai (by omega)];cases g (gi s i)<;>rfl
  ·simp only [Zaa.s0];rw [ZW (by omega)]
 unfold ZaO Zaa;rw [h1,obs]
 cases hf:(List.range s.length).find? (fun i=>g (gi s i)) with
 | none =>
  rw [List.find?_range_eq_none] at hf;have:s.any g=false:=by
   rw [List.any_eq_false];intro a ha;obtain ⟨i,hi,rfl⟩:=List.mem_iff_getElem.1 ha;have:=hf i hi;rw [Zaz hi] at this;simpa using this
  rw [this];rfl
 | some i =>
  rw [List.find?_range_eq_some] at hf;obtain ⟨h1,h2,_⟩:=hf;have hi:i<s.length:=by simpa using h2
  have:s.any g=true:=by
   rw [List.any_eq_true];exact ⟨gi s i,Zaw hi,h1⟩
  rw [this];dsimp only;rw [obs,ZcV (by omega)]
end Mu
/- Old cells' lines,laid over rectangles: those that have no cell in common are apart. -/
namespace Mu
inductive TH (m:List Za) (n0:Nat) (hm:Nat→Option Da) (v d:Nat):Nat→Nat→Prop
 | one {a b:Nat}:a<m.length→nx m a d=b→TH m n0 hm v d a b
 | step {a c b:Nat}:a<m.length→nx m a d=c→n0≤c→hm c=some (v,d)→TH m n0 hm v d c b→TH m n0 hm v d a b
def KH (l m:List Za):Prop:=l.length≤m.length∧∃ hm:Nat→Option Da,∀ v d w:Nat,v<l.length→d<2→nx l v d=w→TH m l.length hm v d v w
theorem KH.refl (l:List Za):KH l l:=⟨Nat.le_refl _,fun _=>none,fun v d w hv hd h=>.one hv h⟩
variable {l m:List Za}{X Y:Nat→Int}
theorem TH.end' (hS:Str m X Y) (hc:Ck m) {n0 d v:Nat}{hm:Nat→Option Da}(hd:d<4) {a b:Nat}(t:TH m n0 hm v d a b):b<m.length∧al X Y d a<al X Y d b∧ac X Y d a=ac X Y d b:=by
 induction t with
 | @one a b h1 h2 =>
  have lb:=(hc.back' h1 hd h2).1;have:=hS (a,d) ⟨h1,hd,by rw [h2];omega⟩;have e:tg m (a,d)=b:=by unfold tg;rw [h2];omega
  rw [e] at this;exact ⟨lb,this⟩
 | @step a c b h1 h2 h3 h4 h5 ih =>
  have:=hS (a,d) ⟨h1,hd,by rw [h2];omega⟩;have e:tg m (a,d)=c:=by unfold tg;rw [h2];omega
  rw [e] at this;dsimp only at this;exact ⟨ih.1,by omega,by omega⟩
theorem TH.cov (hS:Str m X Y) (hc:Ck m) {n0 d v:Nat}{hm:Nat→Option Da}(hd:d<4) {a b:Nat}(th:TH m n0 hm v d a b) {t:Int}(h1:al X Y d a≤t) (h2:t≤al X Y d b) (inv:a=v∨(n0≤a∧hm a=some (v,d))) :
  (∃ z,z<m.length∧(z=b∨z=v∨(n0≤z∧hm z=some (v,d)))∧al X Y d z=t∧ac X Y d z=ac X Y d a) ∨
  ∃ z,isD m (z,d)∧(z=v∨(n0≤z∧hm z=some (v,d)))∧al X Y d z<t∧t<al X Y d (tg m (z,d))∧ac X Y d z=ac X Y d a:=by
 induction th with
 | @one a b g1 g2 =>
  have lb:=(hc.back' g1 hd g2).1;have dd:isD m (a,d):=⟨g1,hd,by rw [g2];omega⟩;have:=hS (a,d) dd;have e:tg m (a,d)=b:=by unfold tg;rw [g2];omega
  rw [e] at this;dsimp only at this;by_cases c1:t=al X Y d a
  ·exact .inl ⟨a,g1,.inr inv,c1.symm,rfl⟩
  ·by_cases c2:t=al X Y d b
   ·exact .inl ⟨b,lb,.inl rfl,c2.symm,by omega⟩
   ·exact .inr ⟨a,dd,inv,by omega,by rw [e];omega,rfl⟩
 | @step a c b g1 g2 g3 g4 g5 ih =>
  have dd:isD m (a,d):=⟨g1,hd,by rw [g2];omega⟩;have:=hS (a,d) dd;have e:tg m (a,d)=c:=by unfold tg;rw [g2];omega
  rw [e] at this;dsimp only at this;by_cases c2:al X Y d c≤t
  ·rcases ih c2 h2 (.inr ⟨g3,g4⟩) with ⟨z,z1,z2,z3,z4⟩|⟨z,z1,z2,z3,z4,z5⟩
   ·exact .inl ⟨z,z1,z2,z3,by omega⟩
   ·exact .inr ⟨z,z1,z2,z3,z4,by omega⟩
  ·by_cases c1:t=al X Y d a
   ·exact .inl ⟨a,g1,.inr inv,c1.symm,rfl⟩
   ·exact .inr ⟨a,dd,inv,by omega,by rw [e];omega,rfl⟩
def OnL (l:List Za) (hm:Nat→Option Da) (d:Nat) (C:List Int) (z:Nat):Prop:=(z:Int)∈C∧z<l.length∨(l.length≤z∧∃ v,hm z=some (v,d)∧(v:Int)∈C)
theorem ZiE (hS:Str m X Y) (hc:Ck m) {hm:Nat→Option Da}(kl:l.length≤m.length) (kt:∀ v d w:Nat,v<l.length→d<2→nx l v d=w→TH m l.length hm v d v w) {d:Nat}(hd:d<2) {C:List Int}(h:IsCh l d C):∀ (k:Nat),k<C.length →
  al X Y d (gi C 0).toNat≤al X Y d (gi C k).toNat∧ac X Y d (gi C k).toNat=ac X Y d (gi C 0).toNat∧∀ t,al X Y d (gi C 0).toNat≤t→t≤al X Y d (gi C k).toNat →
  (∃ z,z<m.length∧OnL l hm d C z∧al X Y d z=t∧ac X Y d z=ac X Y d (gi C 0).toNat)∨∃ z,isD m (z,d)∧OnL l hm d C z∧al X Y d z<t∧t<al X Y d (tg m (z,d))∧ac X Y d z=ac X Y d (gi C 0).toNat:=by
 have old:∀ k,k<C.length→OnL l hm d C (gi C k).toNat∧(gi C k).toNat<l.length:=fun k hk=>by
  have:=h.lt k hk;refine ⟨.inl ⟨?_,by omega⟩,by omega⟩;rw [show (((gi C k).toNat:Nat):Int)=gi C k by omega];exact Zaw hk
 intro k
 induction k with
 | zero=>exact fun h0=>⟨Int.le_refl _,rfl,fun t h1 h2=>.inl ⟨_,by have:=(old 0 h0).2;omega,(old 0 h0).1,by omega,rfl⟩⟩
 | succ k ih =>
  intro hk;obtain ⟨i1,i2,i3⟩:=ih (by omega);have lk:=h.lt k (by omega);have lk1:=h.lt (k+1) hk;have th:=kt (gi C k).toNat d (gi C (k+1)).toNat (by omega) hd (by rw [h.nxt k hk];omega);have e:=th.end' hS hc (by omega);refine ⟨by omega,by omega,fun t h1 h2=>?_⟩;by_cases c:t≤al X Y d (gi C k).toNat
  ·exact i3 t h1 c
  ·have to:∀ z,z=(gi C k).toNat∨(l.length≤z∧hm z=some ((gi C k).toNat,d))→OnL l hm d C z:=by
    rintro z (z2|⟨z2,z3⟩)
    ·rw [z2];exact (old k (by omega)).1
    ·refine .inr ⟨z2,_,z3,?_⟩;rw [show (((gi C k).toNat:Nat):Int)=gi C k by omega];exact Zaw (by omega)
   rcases th.cov hS hc (by omega) (t:=t) (by omega) h2 (.inl rfl) with ⟨z,z1,z2,z3,z4⟩|⟨z,z1,z2,z3,z4,z5⟩
   ·refine .inl ⟨z,z1,?_,z3,by omega⟩;rcases z2 with z2|z2
    ·rw [z2];exact (old _ hk).1
    ·exact to z z2
   ·exact .inr ⟨z,z1,to z z2,z3,z4,by omega⟩
structure Pln (m:List Za) (X Y:Nat→Int):Prop where
 ck:Ck m
 str:Str m X Y
 V:∀ z w,z<m.length→w<m.length→X z=X w→Y z=Y w→z=w
 E:∀ z d,isD m (z,d)→∀ w,w<m.length→ac X Y d w=ac X Y d z→al X Y d z<al X Y d w→al X Y d w<al X Y d (tg m (z,d))→False
 Xs:∀ p q:Da,isD m p→isD m q→p.2=0→q.2=1→X p.1<X q.1→X q.1<X (tg m p)→Y q.1<Y p.1→Y p.1<Y (tg m q)→False
theorem Zkg (R:Pln m X Y) {hm:Nat→Option Da}(kl:l.length≤m.length) (kt:∀ v d w:Nat,v<l.length→d<2→nx l v d=w→TH m l.length hm v d v w) {d d':Nat}(hd:d<2) (hd':d'<2) {C C':List Int}(h:IsCh l d C) (h':IsCh l d' C') {x y:Int}
  (p1:al X Y d (gi C 0).toNat≤(if d=0 then x else y)) (p2:(if d=0 then x else y)≤al X Y d (gi C (C.length-1)).toNat) (p3:ac X Y d (gi C 0).toNat=if d=0 then y else x)
  (q1:al X Y d' (gi C' 0).toNat≤(if d'=0 then x else y)) (q2:(if d'=0 then x else y)≤al X Y d' (gi C' (C'.length-1)).toNat) (q3:ac X Y d' (gi C' 0).toNat=if d'=0 then y else x):∃ v,v∈C∧v∈C':=by
 have hc:=R.ck;have hS:=R.str;have ne:=h.ne;have ne':=h'.ne;have A:=(ZiE hS hc kl kt hd h (C.length-1) (by omega)).2.2 _ p1 p2;have B:=(ZiE hS hc kl kt hd' h' (C'.length-1) (by omega)).2.2 _ q1 q2;rw [p3] at A;rw [q3] at B
 -- a cell of both
 have both:∀ z,OnL l hm d C z→OnL l hm d' C' z→∃ v,v∈C∧v∈C':=by
  rintro z (⟨a1,a2⟩|⟨a1,v,a2,a3⟩) (⟨b1,b2⟩|⟨b1,w,b2,b3⟩)
  ·exact ⟨z,a1,b1⟩
  ·omega
  ·omega
  ·rw [a2] at b2;have:=congrArg Prod.fst (Option.some.inj b2);dsimp only at this;exact ⟨v,a3,by rw [this];exact b3⟩
 have V:=R.V;have E:=R.E;have d01:d=0∨d=1:=by omega
 have d01':d'=0∨d'=1:=by omega
 rcases A with ⟨z,z1,z2,z3,z4⟩|⟨z,z1,z2,z3,z4,z5⟩<;>rcases B with ⟨w,w1,w2,w3,w4⟩|⟨w,w1,w2,w3,w4,w5⟩
 ·have:z=w:=by
   refine V z w z1 w1 ?_ ?_<;>rcases d01 with rfl|rfl<;>rcases d01' with rfl|rfl<;>simp [al,ac] at z3 z4 w3 w4<;>omega
  rw [← this] at w2;exact both z z2 w2
 ·exfalso;refine E w d' w1 z z1 ?_ ?_ ?_<;>rcases d01 with rfl|rfl<;>rcases d01' with rfl|rfl<;>simp [al,ac] at z3 z4 w3 w4 w5 ⊢ <;> omega
 ·exfalso;refine E z d z1 w w1 ?_ ?_ ?_<;>rcases d01 with rfl|rfl<;>rcases d01' with rfl|rfl<;>simp [al,ac] at z3 z4 z5 w3 w4 ⊢ <;> omega
 ·by_cases dd:d=d'
  ·subst dd;by_cases c1:al X Y d z<al X Y d w
   ·exfalso;exact E z d z1 w w1.1 (by omega) c1 (by omega)
   ·by_cases c2:al X Y d w<al X Y d z
    ·exfalso;exact E w d w1 z z1.1 (by omega) c2 (by omega)
    ·have:z=w:=by
      refine V z w z1.1 w1.1 ?_ ?_<;>rcases d01 with rfl|rfl<;>simp [al,ac] at c1 c2 z5 w5<;>omega
     rw [← this] at w2;exact both z z2 w2
  ·exfalso;rcases d01 with rfl|rfl<;>rcases d01' with rfl|rfl
   ·exact dd rfl
   ·simp [al,ac] at z3 z4 z5 w3 w4 w5;exact R.Xs _ _ z1 w1 rfl rfl (by dsimp only;omega) (by dsimp only;omega) (by dsimp only;omega) (by dsimp only;omega)
   ·simp [al,ac] at z3 z4 z5 w3 w4 w5;exact R.Xs _ _ w1 z1 rfl rfl (by dsimp only;omega) (by dsimp only;omega) (by dsimp only;omega) (by dsimp only;omega)
   ·exact dd rfl
end Mu
/- Layer 16: SegTells,SegTurns. -/
namespace Mu
end Mu
/- Layer 17: lengths of edges. -/
namespace Mu
def strt (d:Nat) (a b:Zl):Prop:=if d=0 then a.Y=b.Y∧a.X<b.X else a.X=b.X∧a.Y<b.Y
instance {d:Nat}{a b:Zl}:Decidable (strt d a b):=by unfold strt;infer_instance
def wt (o:Int):Int:=if 0≤o then 1 else 0
theorem ZnM {o:Int}:Zcv o=some (wt o):=by
 unfold Zcv wt;by_cases c:0≤o
 ·rw [zb c,if_pos c]
 ·rw [ZW c,if_neg c]
def okE (l:List Za) (p:List Zl) (v d:Nat):Prop:=nx l v d<0∨strt d (gi p v) (gi p (nx l v d).toNat)
instance {l:List Za}{p:List Zl}{v d:Nat}:Decidable (okE l p v d):=by unfold okE;infer_instance
end Mu
/- Layer 17: graphs,places,ArcsFit. -/
namespace Mu
def Zch (l:List Za) (of:List Int) (d:Nat):Nat→List Zj
 | 0=>[]
 | n+1=>if nx l n d<0 then Zch l of d n else Zch l of d n++[⟨gi of n,gi of (nx l n d).toNat,wt (ow l n d)⟩]
theorem ZfG {l:List Za}{of:List Int}{d:Nat}:∀ n,(Zch l of d n).length≤n
 | 0=>by simp [Zch]
 | n+1=>by
  have:=ZfG (l:=l) (of:=of) (d:=d) n;rw [Zch];split
  ·omega
  ·rw [List.length_append,List.length_singleton];omega
theorem ZkL {l:List Za}(hc:Ck l) (hl:l.length≤64) {of:List Int}(ho:of.length=l.length) {d:Nat}(hd:d<4):Zbs l d of=some (Zch l of d l.length):=by
 unfold Zbs;rw [Zio (x:=Zch l of d l.length)];refine Zbv (fun n:Nat=>(Zch l of d n,(n:Int))) (n:=l.length) (ZaK (by omega)) rfl (fun n hn=>?_) ?_
 ·have hlt:=hc.lt hn hd;have e:(gi l n).Next.get (d:Int)=nx l n d:=rfl;have eo:(gi l n).Owner.get (d:Int)=ow l n d:=rfl;have gl:=ZfG (l:=l) (of:=of) (d:=d) n;simp only [Zbs.s0];rw [zb (by omega),Z2 (by omega),Z2 (by omega),itn,e,eo,Zch];by_cases c:nx l n d<0
  ·rw [ZW (by omega),Zai (by omega),if_pos c,show ((n+1:Nat):Int)=(n:Int)+1 by omega]
  ·rw [zb (by omega),Z2 (by omega),Z2 (by omega),ZnM,obs,Z2 (by simp;omega),Zai (by omega),if_neg c,show ((n+1:Nat):Int)=(n:Int)+1 by omega]
 ·simp only [Zbs.s0];rw [ZW (by omega)]
theorem Zc8 {l:List Za}{of:List Int}{d:Nat}{e:Zj}:∀ n,e∈Zch l of d n↔∃ v,v<n∧0≤nx l v d∧e=⟨gi of v,gi of (nx l v d).toNat,wt (ow l v d)⟩
 | 0=>by
  constructor
  ·intro h;simp [Zch] at h
  ·rintro ⟨v,hv,_⟩;omega
 | n+1=>by
  have ih:=Zc8 (l:=l) (of:=of) (d:=d) (e:=e) n;rw [Zch];by_cases c:nx l n d<0
  ·rw [if_pos c,ih];constructor
   ·rintro ⟨v,h1,h2⟩;exact ⟨v,by omega,h2⟩
   ·rintro ⟨v,h1,h2,h3⟩;have:v≠n:=by rintro rfl;omega
    exact ⟨v,by omega,h2,h3⟩
  ·rw [if_neg c,List.mem_append,List.mem_singleton,ih];constructor
   ·rintro (⟨v,h1,h2⟩|h)
    ·exact ⟨v,by omega,h2⟩
    ·exact ⟨n,by omega,by omega,h⟩
   ·rintro ⟨v,h1,h2,h3⟩;by_cases q:v=n
    ·subst q;exact .inr h3
    ·exact .inl ⟨v,by omega,h2,h3⟩
theorem ZnB {l:List Za}(hc:Ck l) (hl:l.length≤64) (h:AllCh l 1∧AllCh l 0):∃ X Y V H,ZcP l=some (⟨⟨X,Y,V,H⟩,Zch l X 0 l.length,Zch l Y 1 l.length⟩,0)∧CH l 1 X V∧CH l 0 Y H:=by
 obtain ⟨X,Y,V,H,s1,cx,cy⟩:=Zm5 hl (ZeG.2 ⟨by omega,hc⟩) h;refine ⟨X,Y,V,H,?_,cx,cy⟩;have g0:=ZkL hc hl cx.alen (d:=0) (by omega);have g1:=ZkL hc hl cy.alen (d:=1) (by omega);rw [show ((0:Nat):Int)=0 from rfl] at g0;rw [show ((1:Nat):Int)=1 from rfl] at g1;unfold ZcP;rw [s1,obs];dsimp only;rw [Zcy rfl,g0,obs,g1,obs]
def InR (n:Nat) (arcs:List Zj):Prop:=∀ a∈arcs,(0≤a.From∧a.From<n)∧(0≤a.To∧a.To<n)
theorem CH.rng {l:List Za}{d:Nat}{a:List Int}{L:List (List Int)}(h:CH l d a L) {v:Nat}(hv:v<l.length):0≤gi a v∧gi a v<L.length:=by
 obtain ⟨i,i1,i2,_⟩:=h.mem v hv;omega
theorem ZiQ {l:List Za}(hc:Ck l) {k d:Nat}(hd:d<4) {a:List Int}{L:List (List Int)}(h:CH l k a L):InR L.length (Zch l a d l.length):=by
 intro e he;obtain ⟨v,hv,h0,rfl⟩:=(Zc8 _).1 he;have:=hc.lt hv hd;exact ⟨h.rng hv,h.rng (by omega)⟩
def Zg9 (X Y a b:List Int) (n:Nat):List Zl:=(List.range n).map fun v=>⟨gi a (gi X v).toNat,gi b (gi Y v).toNat⟩
end Mu
/- Layer 17: ArcsFit. -/
namespace Mu
end Mu
/- Layer 17: the document's graphs;ArcsTell. -/
namespace Mu
end Mu
/- Layer 17: ArcsTurn. -/
namespace Mu
theorem Made.strt {l:List Za}{pts:List Zl}(h:Made l pts) {v d w:Nat}(hv:v<l.length) (hd:d<2) (hw:nx l v d=w):strt d (gi pts v) (gi pts w):=by
 rcases h.near v d hv hd with q|q
 ·omega
 ·rw [hw] at q;rcases q with ⟨q,_⟩|⟨j,e,_,q,_⟩
  ·omega
  ·have:j=w:=by omega
   subst this;have:=q.2;unfold Mu.strt;by_cases z:d=0
   ·rw [if_pos z] at this ⊢; exact ⟨this.1.symm,this.2⟩
   ·rw [if_neg z] at this ⊢; exact ⟨this.1.symm,this.2⟩
theorem Made.okE {l:List Za}{pts:List Zl}(h:Made l pts) {v d:Nat}(hv:v<l.length) (hd:d<2):okE l pts v d:=by
 by_cases c:nx l v d<0
 ·exact .inl c
 ·exact .inr (h.strt hv hd (by omega))
end Mu
/- Layer 17: ArcsPlace. -/
namespace Mu
end Mu
/- Layer 26: CheckTells. -/
namespace Mu
def LNo (b:Bool) (L:List (List Int)) (n:Nat):List (Bool×Nat):=((List.range n).filter fun i=>decide (1<(gi L i).length)).map fun i=>(b,i)
def LN (V H:List (List Int)):List (Bool×Nat):=LNo true V V.length++LNo false H H.length
def Zdh (p:Bool×Nat):ZB:=⟨p.1,p.2⟩
theorem Zfb {b:Bool}{L:List (List Int)}{n:Nat}:(LNo b L n).length≤n:=by
 unfold LNo;rw [List.length_map];have:=List.length_filter_le (fun i=>decide (1<(gi L i).length)) (List.range n);simpa using this
theorem Zjp {b:Bool}{L:List (List Int)}{n:Nat}:LNo b L (n+1)=if 1<(gi L n).length then LNo b L n++[(b,n)] else LNo b L n:=by
 unfold LNo;rw [List.range_succ,List.filter_append,List.map_append];by_cases c:1<(gi L n).length
 ·rw [if_pos c,List.filter_cons,if_pos (by simpa using c)];rfl
 ·rw [if_neg c,List.filter_cons,if_neg (by simpa using c)];simp
theorem Zpe {X Y:List Int}{V H:List (List Int)}(hV:V.length≤1000) (hH:H.length≤1000):ZaA ⟨X,Y,V,H⟩=some ((LN V H).map Zdh):=by
 have l0:ZX (ZaA.s0 ⟨X,Y,V,H⟩) big (([]:List ZB),0)=some ((LNo true V V.length).map Zdh):=by
  refine Zbv (fun n:Nat=>((LNo true V n).map Zdh,(n:Int))) (n:=V.length) (ZaK (by omega)) rfl (fun n hn=>?_) ?_
  ·have:=Zfb (b:=true) (L:=V) (n:=n);simp only [ZaA.s0,itn];rw [zb (by omega),Z2 (by omega),Zjp];by_cases c:1<(gi V n).length
   ·rw [zb (by omega),Z2 (by simp;omega),Zai (by omega),if_pos c,show ((n+1:Nat):Int)=(n:Int)+1 by omega,List.map_append];rfl
   ·rw [ZW (by omega),Zai (by omega),if_neg c,show ((n+1:Nat):Int)=(n:Int)+1 by omega]
  ·simp only [ZaA.s0];rw [ZW (by omega)]
 have l1:ZX (ZaA.s1 ⟨X,Y,V,H⟩) big ((LNo true V V.length).map Zdh,0)=some ((LN V H).map Zdh):=by
  refine Zbv (fun n:Nat=>((LNo true V V.length++LNo false H n).map Zdh,(n:Int))) (n:=H.length) (ZaK (by omega)) (by simp [LNo]) (fun n hn=>?_) ?_
  ·have a:=Zfb (b:=false) (L:=H) (n:=n);have b:=Zfb (b:=true) (L:=V) (n:=V.length);simp only [ZaA.s1,itn];rw [zb (by omega),Z2 (by omega),Zjp];by_cases c:1<(gi H n).length
   ·rw [zb (by omega),Z2 (by simp;omega),Zai (by omega),if_pos c,show ((n+1:Nat):Int)=(n:Int)+1 by omega,← List.append_assoc,List.map_append (l₂:=[(false,n)])];rfl
   ·rw [ZW (by omega),Zai (by omega),if_neg c,show ((n+1:Nat):Int)=(n:Int)+1 by omega]
  ·simp only [ZaA.s1];rw [ZW (by omega)];rfl
 unfold ZaA;rw [l0,obs,l1,obs]
theorem Zgl {V H:List (List Int)}{p:Bool×Nat}(h:p∈LN V H):p.2<(if p.1=true then V else H).length:=by
 unfold LN LNo at h;rcases List.mem_append.1 h with q|q
 ·obtain ⟨i,hi,rfl⟩:=List.mem_map.1 q;have:=List.mem_range.1 (List.mem_filter.1 hi).1;simpa using this
 ·obtain ⟨i,hi,rfl⟩:=List.mem_map.1 q;have:=List.mem_range.1 (List.mem_filter.1 hi).1;simpa using this
def Zff (V H:List (List Int)) (p:List Zl) (a:Bool×Nat):Zl:=gi p (gi (gi (if a.1=true then V else H) a.2) 0).toNat
def Zfg (V H:List (List Int)) (p:List Zl) (a:Bool×Nat):Zl:=gi p (gi (gi (if a.1=true then V else H) a.2) ((gi (if a.1=true then V else H) a.2).length-1)).toNat
structure Zoz (n:Nat) (L:List (List Int)):Prop where
 ne:∀ i,i<L.length→0<(gi L i).length∧(gi L i).length≤1000000
 lt:∀ i,i<L.length→∀ k,k<(gi L i).length→0≤gi (gi L i) k∧gi (gi L i) k<n
theorem CH.ok {l:List Za}(hc:Ck l) (hl:l.length≤1000) {d:Nat}(hd:d<4) {a:List Int}{L:List (List Int)}(h:CH l d a L):Zoz l.length L:=⟨fun i hi=>⟨(h.ch i hi).ne,by have:=(h.ch i hi).len hc hd;omega⟩,fun i hi=>(h.ch i hi).lt⟩
def ZeH (a b c d:Zl):Bool:=(((decide (b.X<c.X))||(decide (d.X<a.X)))||(decide (b.Y<c.Y)))||(decide (d.Y<a.Y))
theorem Zmv {α:Type} [Inhabited α] {l:List α}{n i:Nat}:gi (l.drop n) i=gi l (n+i):=by
 unfold gi;simp
theorem Zpj {l:List Za}(hc:Ck l) (hl:l.length≤64) {X Y:List Int}{V H:List (List Int)}(hx:CH l 1 X V) (hy:CH l 0 Y H) (ver oth:Bool) (i k:Int):Zb6 ⟨X,Y,V,H⟩ ver i oth k=some ((cl (if ver=true then V else H) i).any fun v=>decide (v∈cl (if oth=true then V else H) k)):=by
 have kind:∀ w:Bool,∃ d,d<4∧CH l d (if w=true then X else Y) (if w=true then V else H):=by
  intro w
  cases w with
  | true=>exact ⟨1,by omega,hx⟩
  | false=>exact ⟨0,by omega,hy⟩
 obtain ⟨d1,hd1,c1⟩:=kind ver;obtain ⟨d2,hd2,c2⟩:=kind oth;have n1:=Zmj hc hd1 c1 (i:=i);have n2:=Zmj hc hd2 c2 (i:=k);unfold Zb6;rw [Zkh,obs,Zkh,obs,Zpb (g:=fun v=>decide (v∈cl (if oth=true then V else H) k)) (by omega) (fun v _=>by
  unfold ZbQ;rw [Zki (by omega),obs]),obs]
def shc (V H:List (List Int)) (a b:Bool×Nat):Bool:=(cl (if a.1=true then V else H) a.2).any fun v=>decide (v∈cl (if b.1=true then V else H) b.2)
/-! Stretched. -/
end Mu
/- Layer 26: CheckTurns. -/
namespace Mu
theorem Zoj {V H:List (List Int)}:(LN V H).Nodup:=by
 unfold LN LNo;rw [List.nodup_append];have one:∀ (b:Bool) (L:List (List Int)) n,(((List.range n).filter fun i=>decide (1<(gi L i).length)).map fun i=>(b,i)).Nodup:=by
  intro b L n;refine List.pairwise_map.2 ((List.Pairwise.filter _ List.nodup_range).imp fun {a c} h e=>h (congrArg Prod.snd e))
 refine ⟨one _ _ _,one _ _ _,fun a ha b hb e=>?_⟩;obtain ⟨i,_,rfl⟩:=List.mem_map.1 ha;obtain ⟨j,_,rfl⟩:=List.mem_map.1 hb;exact absurd (congrArg Prod.fst e) (by simp)
theorem ZfR {V H:List (List Int)}{a:Bool×Nat}:a∈LN V H↔a.2<(if a.1=true then V else H).length∧1<(gi (if a.1=true then V else H) a.2).length:=by
 unfold LN LNo;rw [List.mem_append,List.mem_map,List.mem_map];constructor
 ·rintro (⟨i,hi,rfl⟩|⟨i,hi,rfl⟩)
  ·have:=List.mem_filter.1 hi;exact ⟨List.mem_range.1 this.1,by simpa using this.2⟩
  ·have:=List.mem_filter.1 hi;exact ⟨List.mem_range.1 this.1,by simpa using this.2⟩
 ·rintro ⟨h1,h2⟩;obtain ⟨b,i⟩:=a
  cases b with
  | true=>exact .inl ⟨i,List.mem_filter.2 ⟨List.mem_range.2 h1,by simpa using h2⟩,rfl⟩
  | false=>exact .inr ⟨i,List.mem_filter.2 ⟨List.mem_range.2 h1,by simpa using h2⟩,rfl⟩
def Crs (V H:List (List Int)) (p:List Zl):Prop:=∃ a b,a∈LN V H∧b∈LN V H∧a≠b∧ZeH (Zff V H p a) (Zfg V H p a) (Zff V H p b) (Zfg V H p b)=false∧shc V H a b=false
theorem Zlb {V H:List (List Int)}{a b:Bool×Nat}:shc V H a b=shc V H b a:=by
 unfold shc;rw [Bool.eq_iff_iff,List.any_eq_true,List.any_eq_true];constructor<;>rintro ⟨v,h1,h2⟩<;>exact ⟨v,by simpa using h2,by simpa using h1⟩
/-! Moved and stretched. -/
/-! Turned. -/
def rtp (p:Zl):Zl:=⟨-p.Y,p.X⟩
theorem ZnR {l:List Za}(hc:Ck l) {p q:List Zl}(hq:∀ v,v<l.length→gi q v=rtp (gi p v)):(∀ v,v<l.length→okE (trn l) q v 0∧okE (trn l) q v 1)↔∀ v,v<l.length→okE l p v 0∧okE l p v 1:=by
 have n0:∀ v,v<l.length→nx (trn l) v 0=nx l v 3:=fun v hv=>(Zcu hv (by omega)).1;have n1:∀ v,v<l.length→nx (trn l) v 1=nx l v 0:=fun v hv=>(Zcu hv (by omega)).1;have e1:∀ v,v<l.length→(okE (trn l) q v 1↔okE l p v 0):=by
  intro v hv;have hlt:=hc.lt hv (d:=0) (by omega);unfold okE;rw [n1 v hv];by_cases c:nx l v 0<0
  ·exact ⟨fun _=>.inl c,fun _=>.inl c⟩
  ·rw [hq v hv,hq _ (by omega)];unfold strt rtp;rw [if_neg (by decide),if_pos rfl];dsimp only;omega
 have e0:∀ v w:Nat,v<l.length→w<l.length→nx l v 3=w→(okE (trn l) q v 0↔okE l p w 1):=by
  intro v w hv hw e;have bk:=(hc.back (v:=v) (d:=3) (w:=w) hv (by omega) e).2;rw [show (3+2)%4=1 from rfl] at bk;unfold okE;rw [n0 v hv,e,bk,itn,itn,hq v hv,hq w hw];unfold strt rtp;rw [if_pos rfl,if_neg (by decide)];dsimp only;omega
 constructor
 ·intro h w hw;refine ⟨(e1 w hw).1 (h w hw).2,?_⟩;have hlt:=hc.lt hw (d:=1) (by omega);by_cases c:nx l w 1<0
  ·exact .inl c
  ·have bk:=hc.back (v:=w) (d:=1) (w:=(nx l w 1).toNat) hw (by omega) (by omega);exact (e0 _ w bk.1 hw (by rw [show (1+2)%4=3 from rfl] at bk;exact bk.2)).1 (h _ bk.1).1
 ·intro h v hv;refine ⟨?_,(e1 v hv).2 (h v hv).1⟩;have hlt:=hc.lt hv (d:=3) (by omega);by_cases c:nx l v 3<0
  ·unfold okE;rw [n0 v hv];exact .inl c
  ·have bk:=hc.back (v:=v) (d:=3) (w:=(nx l v 3).toNat) hv (by omega) (by omega);exact (e0 v _ hv bk.1 (by omega)).2 (h _ bk.1).2
theorem ZjY {l:List Za}{p:List Zl}(hs:∀ v,v<l.length→okE l p v 0∧okE l p v 1) {d:Nat}(hd:d<2) {C:List Int}(h:IsCh l d C):∀ k,k<C.length→(if d=0 then (gi p (gi C k).toNat).Y=(gi p (gi C 0).toNat).Y else (gi p (gi C k).toNat).X=(gi p (gi C 0).toNat).X)
 | 0,_=>by split<;>rfl
 | k+1,hk=>by
  have ih:=ZjY hs hd h k (by omega);have r:=h.lt k (by omega);have r':=h.lt (k+1) hk;have e:=h.nxt k hk;have s:okE l p (gi C k).toNat d:=by
   have:=hs (gi C k).toNat (by omega);have dd:d=0∨d=1:=by omega
   rcases dd with rfl|rfl
   ·exact this.1
   ·exact this.2
  unfold okE at s;rw [e] at s;rcases s with s|s
  ·omega
  ·unfold strt at s;by_cases z:d=0
   ·rw [if_pos z] at ih s ⊢; rw [← ih];exact s.1.symm
   ·rw [if_neg z] at ih s ⊢; rw [← ih];exact s.1.symm
def flp (a:Bool×Nat):Bool×Nat:=(!a.1,a.2)
theorem Zca {a:Bool×Nat}:flp (flp a)=a:=by
 unfold flp;simp
theorem Zlk {a b c d:Zl}:ZeH ⟨-b.Y,a.X⟩ ⟨-a.Y,b.X⟩ ⟨-d.Y,c.X⟩ ⟨-c.Y,d.X⟩=ZeH a b c d:=by
 unfold ZeH;dsimp only;rw [Bool.eq_iff_iff];simp only [Bool.or_eq_true,decide_eq_true_eq];omega
theorem ZmZ {l:List Za}(hc:Ck l) (hl:l.length≤1000) {X Y:List Int}{V H:List (List Int)}(cx:CH l 1 X V) (cy:CH l 0 Y H) {p q:List Zl}(hq:∀ v,v<l.length→gi q v=rtp (gi p v)) (hs:∀ v,v<l.length→okE l p v 0∧okE l p v 1):Crs H (V.map List.reverse) q↔Crs V H p:=by
 have oV:=cx.ok hc hl (by omega);have oH:=cy.ok hc hl (by omega);have gr:∀ i,i<V.length→gi (V.map List.reverse) i=(gi V i).reverse:=fun i hi=>Zcd hi;have mem:∀ a,flp a∈LN H (V.map List.reverse)↔a∈LN V H:=by
  rintro ⟨b,i⟩;rw [ZfR,ZfR];unfold flp
  cases b with
  | true =>
   simp only [Bool.not_true,Bool.false_eq_true,if_false,if_true,List.length_map];constructor
   ·rintro ⟨h1,h2⟩;rw [gr i h1,List.length_reverse] at h2;exact ⟨h1,h2⟩
   ·rintro ⟨h1,h2⟩;exact ⟨h1,by rw [gr i h1,List.length_reverse];exact h2⟩
  | false=>simp
 have ends:∀ a,a∈LN V H→Zff H (V.map List.reverse) q (flp a)=⟨-(Zfg V H p a).Y,(Zff V H p a).X⟩∧Zfg H (V.map List.reverse) q (flp a)=⟨-(Zff V H p a).Y,(Zfg V H p a).X⟩:=by
  rintro ⟨b,i⟩ ha;have hm:=Zgl ha;unfold Zff Zfg flp
  cases b with
  | true =>
   simp only [Bool.not_true,Bool.false_eq_true,if_false,if_true] at hm ⊢;have h1:=oV.ne i hm;have h2:=oV.lt i hm 0 h1.1;have h3:=oV.lt i hm ((gi V i).length-1) (by omega);have c:=ZjY hs (by omega) (cx.ch i hm) ((gi V i).length-1) (by omega);rw [if_neg (by decide)] at c;rw [gr i hm,List.length_reverse,Zfj (by omega),Zfj (by omega),show (gi V i).length-1-0=(gi V i).length-1 by omega,show (gi V i).length-1-((gi V i).length-1)=0 by omega,hq _ (by omega),hq _ (by omega)];unfold rtp;exact ⟨by rw [c],by rw [c]⟩
  | false =>
   simp only [Bool.not_false,Bool.false_eq_true,if_false,if_true] at hm ⊢;have h1:=oH.ne i hm;have h2:=oH.lt i hm 0 h1.1;have h3:=oH.lt i hm ((gi H i).length-1) (by omega);have c:=ZjY hs (by omega) (cy.ch i hm) ((gi H i).length-1) (by omega);rw [if_pos rfl] at c;rw [hq _ (by omega),hq _ (by omega)];unfold rtp;exact ⟨by rw [c],by rw [c]⟩
 have clm:∀ a,a∈LN V H→∀ v,v∈cl (if (flp a).1=true then H else V.map List.reverse) ((flp a).2:Int)↔v∈cl (if a.1=true then V else H) (a.2:Int):=by
  rintro ⟨b,i⟩ ha v;have hm:=Zgl ha;unfold flp cl
  cases b with
  | true =>
   simp only [Bool.not_true,Bool.false_eq_true,if_false,if_true,List.length_map] at hm ⊢;rw [if_neg (by omega),if_neg (by omega),itn,gr i hm,List.mem_reverse]
  | false =>
   simp only [Bool.not_false,Bool.false_eq_true,if_false,if_true]
 have sh:∀ a b,a∈LN V H→b∈LN V H→shc H (V.map List.reverse) (flp a) (flp b)=shc V H a b:=by
  intro a b ha hb;unfold shc;rw [Bool.eq_iff_iff,List.any_eq_true,List.any_eq_true];constructor
  ·rintro ⟨v,h1,h2⟩;exact ⟨v,(clm a ha v).1 h1,by rw [decide_eq_true_eq] at h2 ⊢; exact (clm b hb v).1 h2⟩
  ·rintro ⟨v,h1,h2⟩;exact ⟨v,(clm a ha v).2 h1,by rw [decide_eq_true_eq] at h2 ⊢; exact (clm b hb v).2 h2⟩
 have ap:∀ a b,a∈LN V H→b∈LN V H→ZeH (Zff H (V.map List.reverse) q (flp a)) (Zfg H (V.map List.reverse) q (flp a)) (Zff H (V.map List.reverse) q (flp b)) (Zfg H (V.map List.reverse) q (flp b))=ZeH (Zff V H p a) (Zfg V H p a) (Zff V H p b) (Zfg V H p b):=by
  intro a b ha hb;rw [(ends a ha).1,(ends a ha).2,(ends b hb).1,(ends b hb).2];exact Zlk
 constructor
 ·rintro ⟨a,b,ha,hb,hne,h1,h2⟩;have ha':flp a∈LN V H:=(mem (flp a)).1 (by rw [Zca];exact ha);have hb':flp b∈LN V H:=(mem (flp b)).1 (by rw [Zca];exact hb);have a1:=ap _ _ ha' hb';have s1:=sh _ _ ha' hb';rw [Zca,Zca] at a1 s1;exact ⟨flp a,flp b,ha',hb',fun e=>hne (by rw [← Zca (a:=a),e,Zca]),by rw [← a1];exact h1,by rw [← s1];exact h2⟩
 ·rintro ⟨a,b,ha,hb,hne,h1,h2⟩;exact ⟨flp a,flp b,(mem a).2 ha,(mem b).2 hb,fun e=>hne (by rw [← Zca (a:=a),e,Zca]),by rw [ap a b ha hb];exact h1,by rw [sh a b ha hb];exact h2⟩
end Mu
/- Layer 19: the document's word on drawings. -/
namespace Mu
end Mu
/- Layer 4: orders and layers of graphs,plainly. -/
namespace Mu
def RA (n:Nat) (arcs:List Zj):Prop:=∀ a∈arcs,0≤a.From∧a.From<n∧0≤a.To∧a.To<n∧0≤a.Weight∧a.Weight≤1000000
end Mu
/- Layer 2: what a heap of numbers holds. -/
namespace Mu
end Mu
/- Layer 3: the order of a graph. -/
namespace Mu
instance {n:Nat}{arcs:List Zj}:Decidable (RA n arcs):=by unfold RA;exact inferInstance
end Mu
/- Layer 4: the layers are the least coordinates. -/
namespace Mu
/-! the given graphs -/
end Mu
/- Layer 4: LayerTight. -/
namespace Mu
end Mu
/- Layer 4: LayerLeast. -/
namespace Mu
end Mu
/- Layer 4: more arcs. -/
namespace Mu
end Mu
/- Layer 4: LayerTells and LayerMore. -/
namespace Mu
end Mu
/- Numbers raised till they fit;lines of rectangles. -/
namespace Mu
theorem ZjC {l:List Za}(hc:Ck l) {d:Nat}(hd:d<4) {φ:Nat→Nat}(h1:∀ p,isD l p→p.2=d→φ p.1<φ (nx l p.1 p.2).toNat):∀ m v,v<l.length→φ v<m→∃ r,Zer l ((d+2)%4) m v=some r
 | 0,v,hv,h=>by omega
 | m+1,v,hv,h=>by
  rw [Zer];by_cases c:nx l v ((d+2)%4)<0
  ·rw [if_pos c];exact ⟨_,rfl⟩
  ·rw [if_neg c];have dd:isD l (v,(d+2)%4):=⟨hv,by dsimp only;omega,by dsimp only;omega⟩;have f:=dd.fwd hc;have o:=dd.opp hc;have oo:(nx l (opp l (v,(d+2)%4)).1 (opp l (v,(d+2)%4)).2).toNat=v:=congrArg Prod.fst (ZcC hc dd);have:=h1 _ o (by unfold opp;dsimp only;omega);rw [oo] at this;exact ZjC hc hd h1 m _ f.1 (by unfold opp at this;dsimp only at this;omega)
theorem ZgH {l:List Za}(hc:Ck l) {d:Nat}(hd:d<4) {φ:Nat→Nat}(h0:∀ x,φ x≤l.length) (h1:∀ p,isD l p→p.2=d→φ p.1<φ (nx l p.1 p.2).toNat):AllCh l d:=by
 refine Classical.byContradiction fun h=>?_;obtain ⟨v,hv,e⟩:=Zi1 hc hd h;obtain ⟨r,e'⟩:=ZjC hc hd h1 (l.length+1) v hv (by have:=h0 v;omega);rw [e] at e';cases e'
theorem Str.of {l:List Za}(hc:Ck l) {p:List Zl}(h:∀ v,v<l.length→okE l p v 0∧okE l p v 1):Str l (fun v=>(gi p v).X) (fun v=>(gi p v).Y):=by
 have k:∀ q,isD l q→q.2<2→al (fun v=>(gi p v).X) (fun v=>(gi p v).Y) q.2 q.1<al (fun v=>(gi p v).X) (fun v=>(gi p v).Y) q.2 (tg l q)∧ac (fun v=>(gi p v).X) (fun v=>(gi p v).Y) q.2 q.1=ac (fun v=>(gi p v).X) (fun v=>(gi p v).Y) q.2 (tg l q):=by
  rintro ⟨v,d⟩ ⟨h1,h2,h3⟩ h4;dsimp only at h1 h2 h3 h4 ⊢;have:d=0∨d=1:=by omega
  rcases this with rfl|rfl
  ·rcases (h v h1).1 with q|q
   ·omega
   ·unfold strt at q;rw [if_pos rfl] at q;exact ⟨q.2,q.1⟩
  ·rcases (h v h1).2 with q|q
   ·omega
   ·unfold strt at q;rw [if_neg (by omega)] at q;exact ⟨q.2,q.1⟩
 intro q hq;by_cases c:q.2<2
 ·exact k q hq c
 ·have:=k _ (hq.opp hc) (by unfold opp;dsimp only;have:=hq.2.1;omega);have o:tg l (opp l q)=q.1:=congrArg Prod.fst (ZcC hc hq);rw [o] at this;have e:(opp l q).1=tg l q:=rfl;rw [e] at this;have d4:=hq.2.1;have:(opp l q).2=(q.2+2)%4:=rfl;have d23:q.2=2∨q.2=3:=by omega
  rcases d23 with z|z<;>rw [z] at this<;>simp_all [al,ac]<;>omega
theorem ZmC {l m:List Za}{X Y:Nat→Int}(R:Pln m X Y) (K:KH l m) {A B:List Int}{V H:List (List Int)}(cx:CH l 1 A V) (cy:CH l 0 B H) {p:List Zl}(hp:∀ v,v<l.length→gi p v=⟨X v,Y v⟩):¬ Crs V H p:=by
 rintro ⟨a,b,ha,hb,ne,hap,hsh⟩;obtain ⟨kl,hm,kt⟩:=K;obtain ⟨a1,a2⟩:=ZfR.1 ha;obtain ⟨b1,b2⟩:=ZfR.1 hb;have ck:∀ a:Bool×Nat,a.2<(if a.1=true then V else H).length→∃ d,d<2∧(d=0↔a.1=false)∧IsCh l d (gi (if a.1=true then V else H) a.2):=by
  rintro ⟨u,i⟩ hi
  cases u with
  | true=>exact ⟨1,by omega,by simp,cx.ch i hi⟩
  | false=>exact ⟨0,by omega,by simp,cy.ch i hi⟩
 obtain ⟨d,hd,e1,C⟩:=ck a a1;obtain ⟨d',hd',e2,C'⟩:=ck b b1;unfold Zff Zfg at hap;have cc:∀ (w:Bool) (i:Nat),i<(if w=true then V else H).length→cl (if w=true then V else H) i=gi (if w=true then V else H) i:=fun w i hi=>by
  unfold cl;rw [if_neg (by omega),itn]
 unfold shc at hsh;rw [cc _ _ a1,cc _ _ b1] at hsh;generalize gi (if a.1=true then V else H) a.2=P at *;generalize gi (if b.1=true then V else H) b.2=Q at *;have u1:=C.lt 0 (by omega);have u2:=C.lt (P.length-1) (by omega);have w1:=C'.lt 0 (by omega);have w2:=C'.lt (Q.length-1) (by omega);rw [hp _ (by omega),hp _ (by omega),hp _ (by omega),hp _ (by omega)] at hap;obtain ⟨g1,g2,_⟩:=ZiE R.str R.ck kl kt hd C (P.length-1) (by omega);obtain ⟨h1,h2,_⟩:=ZiE R.str R.ck kl kt hd' C' (Q.length-1) (by omega);unfold ZeH at hap;simp only [Bool.or_eq_false_iff,decide_eq_false_iff_not] at hap;obtain ⟨⟨⟨k1,k2⟩,k3⟩,k4⟩:=hap;have:∃ v,v∈P∧v∈Q:=by
  have d01:d=0∨d=1:=by omega
  have d01':d'=0∨d'=1:=by omega
  refine Zkg R kl kt hd hd' C C' (x:=max (X (gi P 0).toNat) (X (gi Q 0).toNat)) (y:=max (Y (gi P 0).toNat) (Y (gi Q 0).toNat)) ?_ ?_ ?_ ?_ ?_ ?_<;>rcases d01 with rfl|rfl<;>rcases d01' with rfl|rfl<;>simp [al,ac] at g1 g2 h1 h2 ⊢ <;> omega
 obtain ⟨v,v1,v2⟩:=this;rw [List.any_eq_false] at hsh;exact hsh v v1 (by simpa using v2)
end Mu
/- Layer 18: what is reached from what: bits of words. -/
namespace Mu
open Go (IntKind)
def W64 (w:Int):Prop:=0≤w∧w<18446744073709551616
theorem ZmY {x:Int}(h:W64 x):IntKind.u64.wrap x=x:=by
 obtain ⟨h1,h2⟩:=h;simp only [IntKind.wrap,IntKind.bits,IntKind.signed];simp;omega
theorem Zja {n:Nat}:BitVec.ofInt 64 (n:Int)=BitVec.ofNat 64 n:=by
 apply BitVec.eq_of_toNat_eq;simp [BitVec.toNat_ofInt]
theorem orW {x y:Int}(hx:W64 x) (hy:W64 y):ZbH .u64 x y=((x.toNat ||| y.toNat:Nat):Int)∧W64 (ZbH .u64 x y):=by
 obtain ⟨n,rfl⟩:=Int.eq_ofNat_of_zero_le hx.1;obtain ⟨m,rfl⟩:=Int.eq_ofNat_of_zero_le hy.1;have hn:n<2 ^ 64:=by have:=hx.2;omega
 have hm:m<2 ^ 64:=by have:=hy.2;omega
 have hor:n ||| m<2 ^ 64:=Nat.or_lt_two_pow hn hm;have e:((BitVec.ofInt 64 (n:Int) ||| BitVec.ofInt 64 (m:Int)).toNat)=n ||| m:=by
  rw [Zja,Zja,BitVec.toNat_or,BitVec.toNat_ofNat,BitVec.toNat_ofNat,Nat.mod_eq_of_lt hn,Nat.mod_eq_of_lt hm]
 have w:W64 ((n ||| m:Nat):Int):=⟨by omega,by omega⟩;have key:ZbH .u64 (n:Int) (m:Int)=((n ||| m:Nat):Int):=by
  show IntKind.u64.wrap (((BitVec.ofInt 64 (n:Int) ||| BitVec.ofInt 64 (m:Int)).toNat:Nat):Int)=_;rw [e,ZmY w]
 rw [key];exact ⟨rfl,w⟩
theorem ZqH {x:Int}(hx:W64 x) {j:Nat}(hj:j<64):decide (ZC .u64 (zj .u64 x (j:Int)) 1=1)=x.toNat.testBit j:=by
 obtain ⟨n,rfl⟩:=Int.eq_ofNat_of_zero_le hx.1;have hn:n<2 ^ 64:=by have:=hx.2;omega
 have s:zj .u64 (n:Int) (j:Int)=((n / 2 ^ j:Nat):Int):=by
  show (n:Int).fdiv (2 ^ (min (j:Int).toNat 64))=_;rw [itn,show min j 64=j by omega,Int.fdiv_eq_ediv_of_nonneg _ (by exact_mod_cast Nat.zero_le _)]
  push_cast
  rfl
 have hd:n / 2 ^ j<2 ^ 64:=Nat.lt_of_le_of_lt (Nat.div_le_self _ _) hn;have e:ZC .u64 ((n / 2 ^ j:Nat):Int) 1=((n / 2 ^ j%2:Nat):Int):=by
  show IntKind.u64.wrap (((BitVec.ofInt 64 ((n / 2 ^ j:Nat):Int) &&& BitVec.ofInt 64 ((1:Nat):Int)).toNat:Nat):Int)=_;rw [Zja,Zja,BitVec.toNat_and,BitVec.toNat_ofNat,BitVec.toNat_ofNat,Nat.mod_eq_of_lt hd,Nat.mod_eq_of_lt (show 1<2 ^ 64 by decide),Nat.and_one_is_mod,ZmY ⟨by omega,by omega⟩]
 rw [s,e,itn,Nat.testBit_eq_decide_div_mod_eq];by_cases c:n / 2 ^ j%2=1
 ·rw [c];rfl
 ·have:n / 2 ^ j%2=0:=by omega
  rw [this];rfl
theorem Zpz {j:Nat}(hj:j<64):ZbZ .u64 1 (j:Int)=((2 ^ j:Nat):Int)∧W64 (ZbZ .u64 1 (j:Int)):=by
 have h:2 ^ j<2 ^ 64:=Nat.pow_lt_pow_right (by decide) hj;have w:W64 ((2 ^ j:Nat):Int):=by
  generalize 2 ^ j=m at h;exact ⟨by omega,by omega⟩
 have e:ZbZ .u64 1 (j:Int)=((2 ^ j:Nat):Int):=by
  show IntKind.u64.wrap (1*2 ^ (min (j:Int).toNat 64))=_;rw [itn,show min j 64=j by omega,Int.one_mul];have:((2:Int) ^ j)=((2 ^ j:Nat):Int):=by push_cast;rfl
  rw [this,ZmY w]
 rw [e];exact ⟨rfl,w⟩
theorem Zhd {x y:Nat}{j:Nat}:(x ||| y).testBit j=(x.testBit j||y.testBit j):=Nat.testBit_or ..
theorem Zjl {i j:Nat}:(2 ^ i).testBit j=decide (i=j):=Nat.testBit_two_pow ..

def Zgv (row:List Int) (v:Nat):Bool:=(gi row (v / 64)).toNat.testBit (v%64)
structure RR (n:Nat) (r:zr) (R:Nat→Nat→Prop):Prop where
 len:r.rows.length=n
 row:∀ u,u<n→(gi r.rows u).length=(n+63) / 64
 wd:∀ u i,u<n→i<(n+63) / 64→W64 (gi (gi r.rows u) i)
 bit:∀ u v,u<n→v<n→(Zgv (gi r.rows u) v=true↔R u v)
theorem RR.congr {n:Nat}{r:zr}{R R':Nat→Nat→Prop}(h:RR n r R) (e:∀ u v,u<n→v<n→(R u v↔R' u v)):RR n r R':=⟨h.len,h.row,h.wd,fun u v hu hv=>(h.bit u v hu hv).trans (e u v hu hv)⟩
theorem Zj4 {v:Nat}:(v:Int).tdiv 64=((v / 64:Nat):Int):=by
 rw [Int.tdiv_eq_ediv_of_nonneg (by omega)];push_cast;rfl
theorem Zm8 {v:Nat}:(v:Int).tmod 64=((v%64:Nat):Int):=by
 rw [Int.tmod_eq_emod_of_nonneg (by omega)];push_cast;rfl
theorem ZoX {rows:List (List Int)}{n u v:Nat}(hl:rows.length=n) (hu:u<n) (hv:v<n) (hn:n≤100000) (hr:(gi rows u).length=(n+63) / 64) (hw:W64 (gi (gi rows u) (v / 64))):zA ⟨rows⟩ u v=some (Zgv (gi rows u) v):=by
 unfold zA Zao;simp only [obs];rw [ZcV (show (0:Int)≤u by omega),ZcV (show (u:Int)<(rows.length:Int) by omega),ZcV (show (0:Int)≤v by omega),ZcV (show (v:Int)<(rows.length:Int) by omega)];simp only [Bool.and_self,if_true,obs,itn,Zj4,Zm8];rw [Z2 (by omega),Z2 (by omega),Z2 (by omega),Z2 (by omega),ZqH hw (by omega)];rfl
theorem RR.has {n:Nat}{r:zr}{R:Nat→Nat→Prop}(h:RR n r R) (hn:n≤100000) {u v:Nat}(hu:u<n) (hv:v<n):∃ b,zA r u v=some b∧(b=true↔R u v) :=
 ⟨_,ZoX h.len hu hv hn (h.row u hu) (h.wd u _ hu (by omega)),h.bit u v hu hv⟩
theorem Ziz {n:Nat}(hn:n≤4096):∃ r,Zbz n=some (some r,0)∧RR n r fun _ _=>False:=by
 have e:ZX (Zbz.s0 n) big ((List.replicate n []:List (List Int)),0)=some (List.replicate n (List.replicate ((n+63) / 64) 0)):=by
  refine Zbv (fun i:Nat=>(List.replicate i (List.replicate ((n+63) / 64) (0:Int))++List.replicate (n-i) [],(i:Int))) (n:=n) (ZaK (by omega)) (by simp) (fun i hi=>?_) ?_
  ·simp only [Zbz.s0,itn];have e1:((n:Int)+64-1).tdiv 64=((n+63) / 64:Nat):=by rw [show (n:Int)+64-1=((n+63:Nat):Int) by omega,Zj4]
   rw [zb (by simp;omega),Zai (by omega),Zai (by omega),e1,Z2 (by omega),Z2 (by omega),Z2 (by simp;omega),Zai (by omega),itn];have e2:(List.replicate i (List.replicate ((n+63) / 64) (0:Int))++List.replicate (n-i) []).set i (List.replicate ((n+63) / 64) 0)=List.replicate (i+1) (List.replicate ((n+63) / 64) 0)++List.replicate (n-(i+1)) []:=by
    rw [show n-i=n-(i+1)+1 by omega,List.replicate_succ,List.set_append_right _ _ (by simp)];simp [List.replicate_succ']
   rw [e2];rfl
  ·simp only [Zbz.s0,itn];rw [ZW (by simp)];simp
 refine ⟨⟨List.replicate n (List.replicate ((n+63) / 64) 0)⟩,?_,?_⟩
 ·unfold Zbz;rw [ZeE (by omega),ZeE (by omega),if_neg (by decide),Z2 (by omega),itn,e,obs]
 ·have g:∀ u,u<n→gi (List.replicate n (List.replicate ((n+63) / 64) (0:Int))) u=List.replicate ((n+63) / 64) 0:=fun u hu=>by simp [gi,hu]
  have g0:∀ i,gi (List.replicate ((n+63) / 64) (0:Int)) i=0:=fun i=>by
   by_cases c:i<(n+63) / 64
   ·simp [gi,c]
   ·rw [Zgk (by simp;omega)];rfl
  refine ⟨by simp,fun u hu=>by rw [g u hu];simp,fun u i hu hi=>by rw [g u hu,g0];exact ⟨by omega,by omega⟩,fun u v hu hv=>?_⟩;rw [g u hu];unfold Zgv;rw [g0];simp
def Zie (a b:List Int) (k:Nat):List Int:=(List.range a.length).map fun i=>if i<k then ZbH .u64 (gi a i) (gi b i) else gi a i
theorem Zea {a b:List Int}{k:Nat}:(Zie a b k).length=a.length:=by simp [Zie]
theorem ZfO {a b:List Int}{k i:Nat}(h:i<a.length):gi (Zie a b k) i=if i<k then ZbH .u64 (gi a i) (gi b i) else gi a i:=ZbM h
theorem ZhC {α:Type} [Inhabited α] {l m:List α}(h:l.length=m.length) (hg:∀ i,i<l.length→gi l i=gi m i):l=m:=by
 apply List.ext_getElem h;intro i h1 h2;have:=hg i h1;rwa [Zaz h1,Zaz h2] at this
def ZeV (x:List Int) (v:Nat):List Int:=x.set (v / 64) (ZbH .u64 (gi x (v / 64)) (ZbZ .u64 1 ((v%64:Nat):Int)))
theorem Zot {x:List Int}{v:Nat}:x.set ((v:Int).tdiv 64).toNat (ZbH .u64 (gi x ((v:Int).tdiv 64).toNat) (ZbZ .u64 1 ((v:Int).tmod 64)))=ZeV x v:=by
 rw [Zj4,Zm8,itn];rfl
theorem ZpW {rows:List (List Int)}{x:List Int}{v w:Nat}(hw:w<rows.length) (hx:x.length=(gi rows w).length) (hl:x.length≤100000) (hr:rows.length≤100000):ZX (ze.s1 v x w) big (rows,0)=some (rows.set w (Zie (gi rows w) (ZeV x v) x.length)):=by
 have ml:(ZeV x v).length=x.length:=by simp [ZeV]
 refine Zbv (fun k:Nat=>(rows.set w (Zie (gi rows w) (ZeV x v) k),(k:Int))) (n:=x.length) (ZaK (by omega)) ?_ (fun k hk=>?_) ?_
 ·have:Zie (gi rows w) (ZeV x v) 0=gi rows w:=ZhC Zea fun i hi=>by rw [Zea] at hi;rw [ZfO hi,if_neg (by omega)]
  rw [this,Zaz hw];simp
 ·simp only [ze.s1];rw [Zot,ml,zb (by omega),Z2 (by omega),Z2 (by rw [List.length_set];omega),itn,itn,Zcg hw,if_pos rfl,Z2 (by rw [Zea];omega),Zai (by omega),List.set_set,ZfO (by omega),if_neg (by omega)];have:(Zie (gi rows w) (ZeV x v) k).set k (ZbH .u64 (gi (gi rows w) k) (gi (ZeV x v) k))=Zie (gi rows w) (ZeV x v) (k+1):=by
   refine ZhC (by rw [List.length_set,Zea,Zea]) fun i hi=>?_;rw [List.length_set,Zea] at hi;rw [Zcg (by rw [Zea];omega),ZfO hi,ZfO hi];by_cases c:i=k
   ·subst c;rw [if_pos rfl,if_pos (by omega)]
   ·rw [if_neg c];by_cases d:i<k
    ·rw [if_pos d,if_pos (by omega)]
    ·rw [if_neg d,if_neg (by omega)]
  rw [this];rfl
 ·simp only [ze.s1];rw [Zot,ml,ZW (by omega)]
def Zcs (rows:List (List Int)) (m:List Int) (u w:Nat):List (List Int):=(List.range rows.length).map fun a=>if a<w∧(a=u∨Zgv (gi rows a) u=true) then Zie (gi rows a) m m.length else gi rows a
theorem Zm2 {n:Nat}{r:zr}{R:Nat→Nat→Prop}(h:RR n r R) (hT:∀ a b c,R a b→R b c→R a c) (hn:n≤100000) {u v:Nat}(hu:u<n) (hv:v<n):∃ e r',ze r u v=some (e,r')∧RR n r' fun a b=>R a b∨((a=u∨R a u)∧(b=v∨R v b)):=by
 obtain ⟨rows⟩:=r;have hlen:=h.len;dsimp only at hlen;unfold ze;have is1:Zao ⟨rows⟩ u=some true:=by
  unfold Zao;rw [ZcV (by omega),ZcV (show (u:Int)<(rows.length:Int) by omega)];rfl
 have is2:Zao ⟨rows⟩ v=some true:=by
  unfold Zao;rw [ZcV (by omega),ZcV (show (v:Int)<(rows.length:Int) by omega)];rfl
 rw [is1,is2];simp only [obs,Bool.not_true,Bool.false_eq_true,if_false];have hb:=h.bit u v hu hv;rw [ZoX hlen hu hv hn (h.row u hu) (h.wd u _ hu (by omega)),obs];by_cases c:Zgv (gi rows u) v=true
 ·rw [c];refine ⟨_,_,rfl,h.congr fun a b ha hb'=>⟨fun q=>.inl q,?_⟩⟩;have q0:=hb.1 c;rintro (q|⟨q1,q2⟩)
  ·exact q
  ·have e1:R a v:=by
    rcases q1 with rfl|q1
    ·exact q0
    ·exact hT _ _ _ q1 q0
   rcases q2 with rfl|q2
   ·exact e1
   ·exact hT _ _ _ e1 q2
 ·simp only [Bool.not_eq_true] at c;have hrv:(gi rows v).length=(n+63) / 64:=h.row v hv;rw [c,if_neg (by decide),Z2 (by omega),itn];unfold ZbU;have mm:=@Zm8 v;rw [Z2 (by omega),obs,Z2 (by rw [Zj4];omega),Z2 (by rw [Zj4];omega),Z2 (by omega)];generalize hM:ZeV (gi rows v) v=M;have Ml:M.length=(n+63) / 64:=by rw [← hM];simp only [ZeV,List.length_set];exact hrv
  have Mw:∀ i,i<(n+63) / 64→W64 (gi M i):=fun i hi=>by
   rw [← hM];unfold ZeV;rw [Zcg (by omega)];split
   ·exact (orW (h.wd v _ hv (by omega)) (Zpz (by omega)).2).2
   ·exact h.wd v i hv hi
  have Mb:∀ b,b<n→(Zgv M b=true↔b=v∨R v b):=fun b hb=>by
   have q:=h.bit v b hv hb;rw [← hM];unfold Zgv at q ⊢;unfold ZeV;rw [Zcg (by omega)];by_cases d:b / 64=v / 64
   ·rw [if_pos d,(orW (h.wd v _ hv (by omega)) (Zpz (show v%64<64 by omega)).2).1,itn,Zhd,(Zpz (show v%64<64 by omega)).1,itn,Zjl,Bool.or_eq_true,decide_eq_true_eq,← d,q];constructor
    ·rintro (e|e)
     ·exact .inr e
     ·exact .inl (by omega)
    ·rintro (rfl|e)
     ·exact .inr rfl
     ·exact .inl e
   ·rw [if_neg d,q];constructor
    ·exact fun e=>.inr e
    ·rintro (rfl|e)
     ·exact absurd rfl d
     ·exact e
  have ag:∀ w a,a<n→gi (Zcs rows M u w) a=if a<w∧(a=u∨Zgv (gi rows a) u=true) then Zie (gi rows a) M M.length else gi rows a:=fun w a ha=>ZbM (by omega);have al:∀ w,(Zcs rows M u w).length=n:=fun w=>by simp [Zcs,hlen]
  have e:ZX (ze.s0 ⟨rows⟩ u v (gi rows v)) big (rows,0)=some (Zcs rows M u n):=by
   refine Zbv (fun w:Nat=>(Zcs rows M u w,(w:Int))) (n:=n) (ZaK (by omega)) ?_ (fun w hw=>?_) ?_
   ·have:Zcs rows M u 0=rows:=ZhC (by rw [al,hlen]) fun a ha=>by rw [al] at ha;rw [ag 0 a ha,if_neg (by omega)]
    rw [this];rfl
   ·have gw:gi (Zcs rows M u w) w=gi rows w:=by rw [ag w w hw,if_neg (by omega)]
    have nxt:∀ row,(Zcs rows M u w).set w row=Zcs rows M u (w+1)↔row=gi (Zcs rows M u (w+1)) w:=fun row=>by
     constructor
     ·intro q;rw [← q,Zcg (by rw [al];exact hw),if_pos rfl]
     ·rintro rfl;refine ZhC (by rw [List.length_set,al,al]) fun a ha=>?_;rw [List.length_set,al] at ha;rw [Zcg (by rw [al];exact hw)];by_cases d:a=w
      ·rw [if_pos d,d]
      ·rw [if_neg d,ag w a ha,ag (w+1) a ha];by_cases d2:a<w∧(a=u∨Zgv (gi rows a) u=true)
       ·rw [if_pos d2,if_pos ⟨by omega,d2.2⟩]
       ·rw [if_neg d2,if_neg (fun q=>d2 ⟨by omega,q.2⟩)]
    simp only [ze.s0];rw [zb (by omega)];have hasw:=ZoX (rows:=Zcs rows M u w) (al w) hw hu hn (by rw [gw];exact h.row w hw) (by rw [gw];exact h.wd w _ hw (by omega));rw [gw] at hasw;by_cases d:w=u∨Zgv (gi rows w) u=true
    ·have t:(if (!decide ((w:Int)=(u:Int)))=true then (zA ⟨Zcs rows M u w⟩ w u).bind fun x5=>some (!x5) else some false)=some false:=by
      by_cases d1:w=u
      ·rw [Zcy (by omega)]
      ·rw [Zdj (by omega),hasw,obs,d.resolve_left d1];rfl
     rw [t,obs,if_neg (by decide),ZpW (by rw [al];exact hw) (by rw [gw,hrv];exact (h.row w hw).symm) (by omega) (by rw [al];exact hn),obs,Zai (by omega),gw,hM];rw [(nxt _).2 (by rw [ag (w+1) w hw,if_pos ⟨by omega,d⟩,Ml,hrv])];rfl
    ·have d':¬ w=u∧Zgv (gi rows w) u=false:=⟨fun q=>d (.inl q),by simpa using fun q=>d (.inr q)⟩;rw [Zdj (by omega),hasw,d'.2,obs,obs,if_pos (by decide),Zai (by omega)];have:Zcs rows M u w=Zcs rows M u (w+1):=by
      have:=(nxt (gi rows w)).2 (by rw [ag (w+1) w hw,if_neg (fun q=>d q.2)]);rw [← this];refine ZhC (by rw [List.length_set]) fun a ha=>?_;rw [Zcg (by rw [al];exact hw)];split
      ·rename_i q;rw [q,gw]
      ·rfl
     rw [this];rfl
   ·simp only [ze.s0];rw [ZW (by omega)]
  rw [e,obs];refine ⟨_,_,rfl,al n,fun a ha=>?_,fun a i ha hi=>?_,fun a b ha hb'=>?_⟩
  ·show (gi (Zcs rows M u n) a).length=_;rw [ag n a ha];split
   ·rw [Zea];exact h.row a ha
   ·exact h.row a ha
  ·show W64 (gi (gi (Zcs rows M u n) a) i);have ra:(gi rows a).length=(n+63) / 64:=h.row a ha;rw [ag n a ha];split
   ·rw [ZfO (by omega),if_pos (by omega)];exact (orW (h.wd a i ha hi) (Mw i hi)).2
   ·exact h.wd a i ha hi
  ·show Zgv (gi (Zcs rows M u n) a) b=true↔_;have ra:(gi rows a).length=(n+63) / 64:=h.row a ha;have q1:=h.bit a u ha hu;have q2:=h.bit a b ha hb';dsimp only at q1 q2;rw [ag n a ha];by_cases d:a=u∨Zgv (gi rows a) u=true
   ·rw [if_pos ⟨ha,d⟩];have mb:=Mb b hb';unfold Zgv at mb q2 ⊢;rw [ZfO (by omega),if_pos (by omega),(orW (h.wd a _ ha (by omega)) (Mw _ (by omega))).1,itn,Zhd,Bool.or_eq_true,mb,q2];rw [q1] at d;exact ⟨fun q=>q.elim .inl fun q=>.inr ⟨d,q⟩,fun q=>q.elim .inl fun q=>.inr q.2⟩
   ·rw [if_neg (fun q=>d q.2),q2];rw [q1] at d;exact ⟨.inl,fun q=>q.elim id fun q=>absurd q.1 d⟩
end Mu
/- Layer 19: what is ahead of what: paths of arcs,the sides of lines,the ways of two lines. -/
namespace Mu
open Go (IntKind)
inductive Pth (arcs:List Zj):Nat→Nat→Prop
 | one {a:Zj}(h:a∈arcs):Pth arcs a.From.toNat a.To.toNat
 | cons {a:Zj}{y:Nat}(h:a∈arcs) (t:Pth arcs a.To.toNat y):Pth arcs a.From.toNat y
theorem Pth.trans {arcs:List Zj}{x y z:Nat}(h:Pth arcs x y) (t:Pth arcs y z):Pth arcs x z:=by
 induction h with
 | one h=>exact .cons h t
 | cons h _ ih=>exact .cons h (ih t)
theorem Pth.mono {A B:List Zj}(hs:∀ a∈A,a∈B) {x y:Nat}(h:Pth A x y):Pth B x y:=by
 induction h with
 | one h=>exact .one (hs _ h)
 | cons h _ ih=>exact .cons (hs _ h) ih
theorem Pth.nil {x y:Nat}(h:Pth [] x y):False:=by
 cases h with
 | one h=>cases h
 | cons h _=>cases h
theorem Pth.snoc {A:List Zj}{e:Zj}{x y:Nat}:Pth (A++[e]) x y↔Pth A x y∨((x=e.From.toNat∨Pth A x e.From.toNat)∧(y=e.To.toNat∨Pth A e.To.toNat y)):=by
 constructor
 ·intro h
  induction h with
  | @one a h =>
   rcases List.mem_append.1 h with h|h
   ·exact .inl (.one h)
   ·have:a=e:=by simpa using h
    subst this;exact .inr ⟨.inl rfl,.inl rfl⟩
  | @cons a y h t ih =>
   rcases List.mem_append.1 h with h|h
   ·rcases ih with q|⟨q1,q2⟩
    ·exact .inl (.cons h q)
    ·refine .inr ⟨.inr ?_,q2⟩;rcases q1 with q1|q1
     ·rw [← q1];exact .one h
     ·exact .cons h q1
   ·have:a=e:=by simpa using h
    subst this;rcases ih with q|⟨q1,q2⟩
    ·exact .inr ⟨.inl rfl,.inr q⟩
    ·exact .inr ⟨.inl rfl,q2⟩
 ·rintro (h|⟨q1,q2⟩)
  ·exact h.mono fun a ha=>by simp [ha]
  ·have e1:Pth (A++[e]) e.From.toNat e.To.toNat:=.one (by simp);have e2:Pth (A++[e]) e.From.toNat y:=by
    rcases q2 with rfl|q2
    ·exact e1
    ·exact e1.trans (q2.mono fun a ha=>by simp [ha])
   rcases q1 with rfl|q1
   ·exact e2
   ·exact (q1.mono fun a ha=>by simp [ha]).trans e2
theorem Pth.up {A:List Zj}{x:List Int}(h:∀ a∈A,gi x a.From.toNat<gi x a.To.toNat) {u v:Nat}(t:Pth A u v):gi x u<gi x v:=by
 induction t with
 | one q=>exact h _ q
 | cons q _ ih=>exact Int.lt_trans (h _ q) ih
/-! Lines and their sides. -/
def sd (X Y:List Int) (V H:List (List Int)) (a:Bool×Nat):zP :=
 if a.1=true then ⟨a.2,a.2,gi Y (gi (gi V a.2) 0).toNat,gi Y (gi (gi V a.2) ((gi V a.2).length-1)).toNat⟩
 else ⟨gi X (gi (gi H a.2) 0).toNat,gi X (gi (gi H a.2) ((gi H a.2).length-1)).toNat,a.2,a.2⟩
theorem ZqN {l:List Za}{X Y:List Int}{V H:List (List Int)}(oV:Zoz l.length V) (oH:Zoz l.length H) (hX:X.length=l.length) (hY:Y.length=l.length) {a:Bool×Nat}(ha:a∈LN V H):Ze7 ⟨X,Y,V,H⟩ (Zdh a)=some (sd X Y V H a):=by
 have hm:=Zgl ha;obtain ⟨b,i⟩:=a;unfold Ze7 Zcb;simp only [Zdh,Zkh,obs]
 cases b with
 | true =>
  simp only [if_true] at hm ⊢;have ne:=oV.ne i hm;have lt0:=oV.lt i hm 0 ne.1;have lt1:=oV.lt i hm ((gi V i).length-1) (by omega);have ec:cl V (i:Int)=gi V i:=by unfold cl;rw [if_neg (by omega),itn]
  have e:(((gi V i).length:Int)-1).toNat=(gi V i).length-1:=by omega
  rw [ec,ZW (show ¬ ((gi V i).length:Int)=0 by omega),obs,e,Z2 (by omega),Z2 (by show (0:Int)≤gi (gi V i) 0∧gi (gi V i) 0<Y.length;omega),Zai (by omega),Z2 (by omega),Z2 (by omega)];rfl
 | false =>
  simp only [Bool.false_eq_true,if_false] at hm ⊢;have ne:=oH.ne i hm;have lt0:=oH.lt i hm 0 ne.1;have lt1:=oH.lt i hm ((gi H i).length-1) (by omega);have ec:cl H (i:Int)=gi H i:=by unfold cl;rw [if_neg (by omega),itn]
  have e:(((gi H i).length:Int)-1).toNat=(gi H i).length-1:=by omega
  rw [ec,ZW (show ¬ ((gi H i).length:Int)=0 by omega),obs,e,Z2 (by omega),Z2 (by show (0:Int)≤gi (gi H i) 0∧gi (gi H i) 0<X.length;omega),Zai (by omega),Z2 (by omega),Z2 (by omega)];rfl
def wy (a b:zP):List Zn:=[⟨true,a.right,b.left⟩,⟨true,b.right,a.left⟩,⟨false,a.top,b.bottom⟩,⟨false,b.top,a.bottom⟩]
def grW (hs vs:List Zj) (w:Zn):List Zj:=if w.horizontal=true then hs else vs
def isP (hs vs:List Zj) (w:Zn):Prop:=Pth (grW hs vs w) w.from_.toNat w.to.toNat
def Zlm (hs vs:List Zj) (w:Zn):Prop:=w.from_≠w.to∧¬ Pth (grW hs vs w) w.to.toNat w.from_.toNat
open Classical in
noncomputable def Zfd (hs vs:List Zj) (w:Zn):Bool:=decide (Zlm hs vs w)
open Classical in
noncomputable def isF (hs vs:List Zj) (w:Zn):Bool:=decide (isP hs vs w)
theorem ZeQ {hs vs:List Zj}{w:Zn}:Zfd hs vs w=true↔Zlm hs vs w:=by simp [Zfd]
theorem ZfP {hs vs:List Zj}{w:Zn}:isF hs vs w=true↔isP hs vs w:=by simp [isF]

theorem Zoq {s:List Zn}{f:Zn→Option Bool}{g:Zn→Bool}(hn:s.length≤1000000) (h:∀ a∈s,f a=some (g a)):ZX (zm.s0 s f) big 0=some (match (List.range s.length).find? (fun i=>g (gi s i)) with|some i=>.inr (i:Int)|none=>.inl ()):=by
 refine ZdG (n:=s.length) (P:=fun i=>g (gi s i)) (f:=fun i=>(i:Int)) (ZaK (by omega)) (fun i hi=>?_) ?_
 ·simp only [zm.s0];rw [zb (by omega),Z2 (by omega),itn,h _ (Zaw hi),obs,Zai (by omega)];cases g (gi s i)<;>rfl
 ·simp only [zm.s0];rw [ZW (by omega)]
theorem Zpc {s:List Zn}{f:Zn→Option Bool}{g:Zn→Bool}(hn:s.length≤1000000) (h:∀ a∈s,f a=some (g a)):Zaj s f=some (s.any g):=by
 unfold Zaj zm;rw [Zoq hn h,obs]
 cases hf:(List.range s.length).find? (fun i=>g (gi s i)) with
 | none =>
  rw [List.find?_range_eq_none] at hf;have:s.any g=false:=by
   rw [List.any_eq_false];intro a ha;obtain ⟨i,hi,rfl⟩:=List.mem_iff_getElem.1 ha;have:=hf i hi;rw [Zaz hi] at this;simpa using this
  rw [this];rfl
 | some i =>
  rw [List.find?_range_eq_some] at hf;obtain ⟨h1,h2,_⟩:=hf;have hi:i<s.length:=by simpa using h2
  have:s.any g=true:=by
   rw [List.any_eq_true];exact ⟨gi s i,Zaw hi,h1⟩
  rw [this];dsimp only;rw [obs,ZcV (by omega)]
theorem ZeS {s:List Zn}{g:Zn→Bool}{j:Nat}(hj:j<s.length):(s.take (j+1)).filter g=(s.take j).filter g++(if g (gi s j)=true then [gi s j] else []):=by
 rw [Zey hj,List.filter_append];congr 1;cases h:g (gi s j)<;>simp [h]
theorem Zqj {s:List Zn}{f:Zn→Option Bool}{g:Zn→Bool}(hn:s.length≤1000000) (h:∀ a∈s,f a=some (!g a)):zh s f=some (s.filter g):=by
 unfold zh zm;rw [Zoq hn h,obs]
 cases hf:(List.range s.length).find? (fun i=>!g (gi s i)) with
 | none =>
  rw [List.find?_range_eq_none] at hf;dsimp only;rw [obs,zb rfl,List.filter_eq_self.2];intro a ha;obtain ⟨i,hi,rfl⟩:=List.mem_iff_getElem.1 ha;have:=hf i hi;rw [Zaz hi] at this;simpa using this
 | some x =>
  rw [List.find?_range_eq_some] at hf;obtain ⟨h1,h2,h3⟩:=hf;have hx:x<s.length:=by simpa using h2
  dsimp only;rw [obs,ZW (by omega),Zai (by omega)];have flt:∀ j,(s.take j).filter g=(s.take j).filter g:=fun _=>rfl;have cnt:∀ j,j≤s.length→((s.take j).filter g).length≤j:=fun j hj=>by
   have:=List.length_filter_le g (s.take j);rw [List.length_take] at this;omega
  have f0:(s.take x).filter g=s.take x:=List.filter_eq_self.2 fun a ha=>by
   obtain ⟨i,hi,rfl⟩:=List.mem_iff_getElem.1 ha;rw [List.length_take] at hi;have:=h3 i (by omega);rw [Zaz (by omega)] at this;simpa using this
  have f1:(s.take (x+1)).filter g=s.take x:=by
   rw [ZeS hx,f0,if_neg (by simpa using h1),List.append_nil]
  have e:ZX (zh.s0 f) big (s,(x:Int),(x:Int)+1)=some ((s.filter g)++s.drop (s.filter g).length,((s.filter g).length:Int)):=by
   have key:=Zbv (step:=zh.s0 f) (fun n:Nat=>(((s.take (x+1+n)).filter g)++s.drop ((s.take (x+1+n)).filter g).length,(((s.take (x+1+n)).filter g).length:Int),((x+1+n:Nat):Int))) (s0:=(s,(x:Int),(x:Int)+1)) (n:=s.length-(x+1)) (r:=((s.filter g)++s.drop (s.filter g).length,((s.filter g).length:Int))) (ZaK (by omega)) ?_ (fun n hn'=>?_) ?_
   ·exact key
   ·rw [Nat.add_zero,f1,List.length_take,Nat.min_eq_left (by omega),List.take_append_drop];rfl
   ·generalize hj:x+1+n=j;have hjl:j<s.length:=by omega
    have c:=cnt j (by omega);generalize hF:(s.take j).filter g=F at c;have e0:(F++s.drop F.length).length=s.length:=by rw [List.length_append,List.length_drop];omega
    have e1:gi (F++s.drop F.length) j=gi s j:=by
     have:=Zcc (l:=F) (m:=s.drop F.length) (i:=j-F.length);rw [show F.length+(j-F.length)=j by omega] at this;rw [this,Zmv,show F.length+(j-F.length)=j by omega]
    simp only [zh.s0];rw [e0,zb (by omega),Z2 (by omega),itn,e1,h _ (Zaw hjl),obs,Bool.not_not,itn,Z2 (by omega),Zai (by omega),Zai (by omega),show x+1+(n+1)=j+1 by omega,ZeS hjl,hF];by_cases gq:g (gi s j)=true
    ·rw [if_pos gq,if_pos gq];have:(F++s.drop F.length).set F.length (gi s j)=F++[gi s j]++s.drop (F++[gi s j]).length:=by
      rw [List.set_append_right _ _ (Nat.le_refl _),Nat.sub_self,ZkI (show F.length<s.length by omega)];simp
     rw [this];simp
    ·rw [if_neg gq,if_neg gq,List.append_nil,Zai (by omega)];rfl
   ·rw [show x+1+(s.length-(x+1))=s.length by omega,List.take_length];have c:=cnt s.length (Nat.le_refl _);rw [List.take_length] at c;simp only [zh.s0];rw [ZW (by rw [List.length_append,List.length_drop];omega)]
  rw [e,obs];have c:=List.length_filter_le g s;dsimp only;rw [Z2 (by rw [List.length_append];omega),itn];have t:(s.filter g++s.drop (s.filter g).length).take (s.filter g).length=s.filter g:=by
   rw [List.take_append_of_le_length (Nat.le_refl _),List.take_length]
  rw [t,Z2 (by rw [List.length_append];omega),List.take_append_of_le_length (Nat.le_refl _),List.take_length]
end Mu
/- Layer 19: the settler: what it holds,how it looks at two lines. -/
namespace Mu
open Go (IntKind)
structure SS (X Y:List Int) (V H:List (List Int)) (hs vs:List Zj) (s:zi):Prop where
 g:s.result.Graphs=⟨⟨X,Y,V,H⟩,hs,vs⟩
 op:s.result.Open=[]
 h:RR V.length s.h (Pth hs)
 v:RR H.length s.v (Pth vs)
 li:s.lines=(LN V H).map Zdh
 si:s.sides=(LN V H).map (sd X Y V H)
 ih:InR V.length hs
 iv:InR H.length vs
def nW (V H:List (List Int)) (w:Zn):Nat:=if w.horizontal=true then V.length else H.length
def wOk (V H:List (List Int)) (w:Zn):Prop:=(0≤w.from_∧w.from_<nW V H w)∧0≤w.to∧w.to<nW V H w
theorem ZmT {l:List Za}(hc:Ck l) {X Y:List Int}{V H:List (List Int)}(cx:CH l 1 X V) (cy:CH l 0 Y H) {a:Bool×Nat}(ha:a∈LN V H):((0≤(sd X Y V H a).left∧(sd X Y V H a).left<V.length)∧0≤(sd X Y V H a).right∧(sd X Y V H a).right<V.length)∧(0≤(sd X Y V H a).bottom∧(sd X Y V H a).bottom<H.length)∧0≤(sd X Y V H a).top∧(sd X Y V H a).top<H.length:=by
 have hm:=Zgl ha;obtain ⟨b,i⟩:=a
 cases b with
 | true =>
  simp only [if_true] at hm;have C:=cx.ch i hm;have ne:=C.ne;have l0:=C.lt 0 ne;have l1:=C.lt ((gi V i).length-1) (by omega);have r0:=cy.rng (v:=(gi (gi V i) 0).toNat) (by omega);have r1:=cy.rng (v:=(gi (gi V i) ((gi V i).length-1)).toNat) (by omega);simp only [sd,if_true];omega
 | false =>
  simp only [Bool.false_eq_true,if_false] at hm;have C:=cy.ch i hm;have ne:=C.ne;have l0:=C.lt 0 ne;have l1:=C.lt ((gi H i).length-1) (by omega);have r0:=cx.rng (v:=(gi (gi H i) 0).toNat) (by omega);have r1:=cx.rng (v:=(gi (gi H i) ((gi H i).length-1)).toNat) (by omega);simp only [sd,Bool.false_eq_true,if_false];omega
theorem Zq8 {l:List Za}(hc:Ck l) {X Y:List Int}{V H:List (List Int)}(cx:CH l 1 X V) (cy:CH l 0 Y H) {a b:Bool×Nat}(ha:a∈LN V H) (hb:b∈LN V H):∀ w∈wy (sd X Y V H a) (sd X Y V H b),wOk V H w:=by
 have A:=ZmT hc cx cy ha;have B:=ZmT hc cx cy hb;intro w hw;simp only [wy,List.mem_cons,List.not_mem_nil,or_false] at hw;rcases hw with rfl|rfl|rfl|rfl<;>simp only [wOk,nW,if_true,Bool.false_eq_true,if_false]<;>omega
section
variable {X Y:List Int}{V H:List (List Int)}{hs vs:List Zj}{s:zi}
theorem ZiT {w:Zn}:Za7 s w=some w.horizontal:=by
 unfold Za7;cases w.horizontal<;>rfl
theorem SS.has (S:SS X Y V H hs vs s) (hV:V.length≤1000) (hH:H.length≤1000) {w:Zn}{u v:Int}(hu:0≤u∧u<nW V H w) (hv:0≤v∧v<nW V H w):∃ b,(if w.horizontal=true then zA s.h u v else zA s.v u v)=some b∧(b=true↔Pth (grW hs vs w) u.toNat v.toNat):=by
 unfold nW at hu hv;unfold grW;by_cases c:w.horizontal=true
 ·rw [if_pos c] at hu hv ⊢;rw [if_pos c];have:=S.h.has (by omega) (u:=u.toNat) (v:=v.toNat) (by omega) (by omega);rwa [Int.toNat_of_nonneg hu.1,Int.toNat_of_nonneg hv.1] at this
 ·rw [if_neg c] at hu hv ⊢;rw [if_neg c];have:=S.v.has (by omega) (u:=u.toNat) (v:=v.toNat) (by omega) (by omega);rwa [Int.toNat_of_nonneg hu.1,Int.toNat_of_nonneg hv.1] at this
theorem SS.is (S:SS X Y V H hs vs s) (hV:V.length≤1000) (hH:H.length≤1000) {w:Zn}(hw:wOk V H w):ZbG s w=some (isF hs vs w):=by
 obtain ⟨b,e,hb⟩:=S.has hV hH hw.1 hw.2;have:b=isF hs vs w:=by rw [Bool.eq_iff_iff,hb,ZfP];rfl
 unfold ZbG;rw [ZiT,obs,← this];cases c:w.horizontal<;>simp only [c,if_true,Bool.false_eq_true,if_false] at e ⊢ <;> rw [e]<;>rfl
theorem SS.can (S:SS X Y V H hs vs s) (hV:V.length≤1000) (hH:H.length≤1000) {w:Zn}(hw:wOk V H w):ZbN s w=some (Zfd hs vs w):=by
 obtain ⟨b,e,hb⟩:=S.has hV hH (w:=w) hw.2 hw.1;unfold ZbN;by_cases c0:w.from_=w.to
 ·rw [Zcy c0];have:Zfd hs vs w=false:=by rw [Bool.eq_false_iff,ne_eq,ZeQ];exact fun h=>h.1 c0
  rw [this]
 ·have:(!b)=Zfd hs vs w:=by
   rw [Bool.eq_iff_iff,ZeQ,Bool.not_eq_true',← Bool.not_eq_true,hb];exact ⟨fun h=>⟨c0,h⟩,fun h=>h.2⟩
  rw [Zdj c0,ZiT,obs,← this];cases c:w.horizontal<;>simp only [c,if_true,Bool.false_eq_true,if_false] at e ⊢ <;> rw [e]<;>rfl
def ZhZ (w:Zn):Zj:=⟨w.from_,w.to,0⟩
def fH (hs:List Zj) (w:Zn):List Zj:=if w.horizontal=true then hs++[ZhZ w] else hs
def fV (vs:List Zj) (w:Zn):List Zj:=if w.horizontal=true then vs else vs++[ZhZ w]
theorem SS.force (S:SS X Y V H hs vs s) (hV:V.length≤1000) (hH:H.length≤1000) {w:Zn}(hw:wOk V H w) (lh:hs.length≤100000000) (lv:vs.length≤100000000):∃ s',Zb5 s w=some s'∧SS X Y V H (fH hs w) (fV vs w) s':=by
 obtain ⟨ho,f,t⟩:=w;obtain ⟨⟨gr,op⟩,h,v,li,si⟩:=s;have g:=S.g;dsimp only at g;subst g;unfold Zb5;rw [ZiT,obs]
 cases ho with
 | true =>
  simp only [wOk,nW,if_true] at hw;obtain ⟨e,r',q1,q2⟩:=Zm2 S.h (fun _ _ _ a b=>a.trans b) (by omega) (u:=f.toNat) (v:=t.toNat) (by omega) (by omega);rw [Int.toNat_of_nonneg hw.1.1,Int.toNat_of_nonneg hw.2.1] at q1;simp only [if_true];rw [q1,obs];dsimp only;rw [Z2 (by simp;omega)];refine ⟨_,rfl,rfl,S.op,q2.congr fun a b _ _=>?_,S.v,S.li,S.si,?_,S.iv⟩
  ·exact (Pth.snoc (e:=⟨f,t,0⟩)).symm
  ·intro a ha;simp only [fH,if_true] at ha;rcases List.mem_append.1 ha with q|q
   ·exact S.ih a q
   ·have:a=ZhZ ⟨true,f,t⟩:=by simpa using q
    subst this;exact hw
 | false =>
  simp only [wOk,nW,Bool.false_eq_true,if_false] at hw;obtain ⟨e,r',q1,q2⟩:=Zm2 S.v (fun _ _ _ a b=>a.trans b) (by omega) (u:=f.toNat) (v:=t.toNat) (by omega) (by omega);rw [Int.toNat_of_nonneg hw.1.1,Int.toNat_of_nonneg hw.2.1] at q1;simp only [Bool.false_eq_true,if_false];rw [q1,obs];dsimp only;rw [Z2 (by simp;omega)];refine ⟨_,rfl,rfl,S.op,S.h,q2.congr fun a b _ _=>?_,S.li,S.si,S.ih,?_⟩
  ·exact (Pth.snoc (e:=⟨f,t,0⟩)).symm
  ·intro a ha;simp only [fV,Bool.false_eq_true,if_false] at ha;rcases List.mem_append.1 ha with q|q
   ·exact S.iv a q
   ·have:a=ZhZ ⟨false,f,t⟩:=by simpa using q
    subst this;exact hw
def wyN (X Y:List Int) (V H:List (List Int)) (i k:Nat):List Zn:=wy (sd X Y V H (gi (LN V H) i)) (sd X Y V H (gi (LN V H) k))
inductive Zna (hs vs:List Zj) (W:List Zn):Bool→Bool→List Zj→List Zj→Prop
 | is {w:Zn}(hw:w∈W) (h:isP hs vs w):Zna hs vs W true false hs vs
 | no (h:∀ w∈W,¬ isP hs vs w) (n:(W.filter (Zfd hs vs)).length≠1):Zna hs vs W false false hs vs
 | force {w:Zn}(h:∀ w∈W,¬ isP hs vs w) (e:W.filter (Zfd hs vs)=[w]):Zna hs vs W true true (fH hs w) (fV vs w)
theorem Zqm {l:List Za}(hc:Ck l) (cx:CH l 1 X V) (cy:CH l 0 Y H) (S:SS X Y V H hs vs s) (hV:V.length≤1000) (hH:H.length≤1000) (lh:hs.length≤100000000) (lv:vs.length≤100000000) {i k:Nat}(hi:i<(LN V H).length) (hk:k<(LN V H).length) :
  ∃ p f s' hs' vs',Zbd s i k=some (p,f,s')∧SS X Y V H hs' vs' s'∧Zna hs vs (wyN X Y V H i k) p f hs' vs':=by
 have ok:∀ w∈wyN X Y V H i k,wOk V H w:=Zq8 hc cx cy (Zaw hi) (Zaw hk);have w1:ZbD s i k=some ⟨⟨true,(sd X Y V H (gi (LN V H) i)).right,(sd X Y V H (gi (LN V H) k)).left⟩,⟨true,(sd X Y V H (gi (LN V H) k)).right,(sd X Y V H (gi (LN V H) i)).left⟩,⟨false,(sd X Y V H (gi (LN V H) i)).top,(sd X Y V H (gi (LN V H) k)).bottom⟩,⟨false,(sd X Y V H (gi (LN V H) k)).top,(sd X Y V H (gi (LN V H) i)).bottom⟩⟩:=by
  unfold ZbD;rw [S.si,List.length_map,Z2 (by omega),Z2 (by omega),itn,itn,Zcd hi,Zcd hk]
 unfold Zbd;rw [w1,obs];dsimp only;change ∃ p f s' hs' vs',(Zaj (wyN X Y V H i k) fun y0=>ZbG s y0).bind _=some (p,f,s')∧_;rw [Zpc (g:=isF hs vs) (by simp [wyN,wy]) (fun w hw=>S.is hV hH (ok w hw)),obs];by_cases c:(wyN X Y V H i k).any (isF hs vs)=true
 ·rw [if_pos c];obtain ⟨w,hw,q⟩:=List.any_eq_true.1 c;exact ⟨_,_,_,_,_,rfl,S,.is hw (ZfP.1 q)⟩
 ·rw [if_neg c];have nis:∀ w∈wyN X Y V H i k,¬ isP hs vs w:=fun w hw q=>c (List.any_eq_true.2 ⟨w,hw,ZfP.2 q⟩);change ∃ p f s' hs' vs',(zh (wyN X Y V H i k) fun y0=>Zbb y0 s).bind _=some (p,f,s')∧_;rw [Zqj (g:=Zfd hs vs) (by simp [wyN,wy]) (fun w hw=>by unfold Zbb;rw [S.can hV hH (ok w hw)];rfl),obs];by_cases c1:((wyN X Y V H i k).filter (Zfd hs vs)).length=1
  ·obtain ⟨w,e⟩:=List.length_eq_one_iff.1 c1;have hw:w∈wyN X Y V H i k:=(List.mem_filter.1 (e ▸ List.mem_singleton.2 rfl:w∈(wyN X Y V H i k).filter (Zfd hs vs))).1;obtain ⟨s',q1,q2⟩:=S.force hV hH (ok w hw) lh lv;have gw:gi [w] (0:Int).toNat=w:=rfl;rw [e,Zcy (by simp),Z2 (by simp),gw,q1,obs];exact ⟨_,_,_,_,_,rfl,q2,.force nis e⟩
  ·rw [Zdj (by omega)];exact ⟨_,_,_,_,_,rfl,S,.no nis c1⟩
end
end Mu
/- Layer 19: how settling starts. -/
namespace Mu
open Go (IntKind)
theorem Zho {σ τ:Type}{step:σ×Int→Option ((σ×Int)⊕τ)}{n:Nat}(I:Nat→σ→Prop) {s0:σ}{f:σ→τ}(hn:n<18000000000000000000) (h0:I 0 s0) (hs:∀ (i:Nat) s,i<n→I i s→∃ s',step (s,(i:Int))=some (.inl (s',(i:Int)+1))∧I (i+1) s') (he:∀ s,I n s→step (s,(n:Int))=some (.inr (f s))):∃ s,ZX step big (s0,0)=some (f s)∧I n s:=by
 obtain ⟨r,e,s,h1,h2⟩:=Zdf (step:=step) (n:=n) (fun i p=>p.2=(i:Int)∧I i p.1) (s0:=(s0,0)) (R:=fun r=>∃ s,r=f s∧I n s) (ZaK hn) ⟨rfl,h0⟩ (fun i p hi hp=>by
  obtain ⟨s,z⟩:=p;obtain ⟨rfl,hI⟩:=hp;obtain ⟨s',e,h'⟩:=hs i s hi hI;exact ⟨_,e,by simp,h'⟩) (fun p hp=>by
  obtain ⟨s,z⟩:=p;obtain ⟨rfl,hI⟩:=hp;exact ⟨_,he s hI,s,rfl,hI⟩)
 exact ⟨s,by rw [e,h1],h2⟩
def prs (N:Nat) (M:Nat→Nat→Bool):List (Nat×Nat):=(List.range N).flatMap fun i=>((List.range N).filter fun k=>decide (i<k)&&M i k).map fun k=>(i,k)
theorem Zg5 {N:Nat}{M:Nat→Nat→Bool}{i k:Nat}:(i,k)∈prs N M↔i<k∧k<N∧M i k=true:=by
 simp only [prs,List.mem_flatMap,List.mem_range,List.mem_map,List.mem_filter,Bool.and_eq_true,decide_eq_true_eq,Prod.mk.injEq];constructor
 ·rintro ⟨i',h1,k',⟨h2,h3,h4⟩,rfl,rfl⟩;exact ⟨h3,h2,h4⟩
 ·rintro ⟨h1,h2,h3⟩;exact ⟨i,by omega,k,⟨h2,h1,h3⟩,rfl,rfl⟩
theorem ZnU {N:Nat}{M:Nat→Nat→Bool}:(prs N M).length≤N*N:=by
 have key:∀ n,((List.range n).flatMap fun i=>((List.range N).filter fun k=>decide (i<k)&&M i k).map fun k=>(i,k)).length≤n*N:=by
  intro n
  induction n with
  | zero=>simp
  | succ n ih =>
   rw [List.range_succ,List.flatMap_append,List.length_append,Nat.add_mul,Nat.one_mul];refine Nat.add_le_add ih ?_;simp only [List.flatMap_cons,List.flatMap_nil,List.append_nil,List.length_map];have:=List.length_filter_le (fun k=>decide (n<k)&&M n k) (List.range N);simpa using this
 exact key N
def toA (p:Nat×Nat):A2 Int:=⟨p.1,p.2⟩
section
variable {X Y:List Int}{V H:List (List Int)}
theorem ZlZ {arcs:List Zj}{n:Nat}(hn:n≤1000) (hr:InR n arcs) (hl:arcs.length≤1000000) {g:zr}(h:RR n g fun _ _=>False) {F:(List (List Int))×Int→Option (((List (List Int))×Int)⊕(List (List Int)))}
  (hF:∀ (s:List (List Int)) (i:Int),F (s,i)=if decide (i<(arcs.length:Int))=true then ck ((0:Int)≤i∧i<(arcs.length:Int)) ((ze ⟨s⟩ (gi arcs i.toNat).From (gi arcs i.toNat).To).bind fun x=>ck (Za6 (i+1)) (some (.inl (x.2.rows,i+1)))) else some (.inr s)):∃ s,ZX F big (g.rows,0)=some s∧RR n ⟨s⟩ (Pth arcs):=by
 have:=Zho (step:=F) (n:=arcs.length) (fun i s=>RR n ⟨s⟩ (Pth (arcs.take i))) (s0:=g.rows) (f:=id) (by omega) ?_ (fun i s hi hI=>?_) (fun s hI=>?_)
 ·obtain ⟨s,e,h⟩:=this;rw [List.take_length] at h;exact ⟨s,e,h⟩
 ·exact h.congr fun u v _ _=>⟨fun q=>q.elim,fun q=>(Pth.nil q).elim⟩
 ·have a:=hr _ (Zaw hi);obtain ⟨e,r',q1,q2⟩:=Zm2 hI (fun _ _ _ a b=>a.trans b) (by omega) (u:=(gi arcs i).From.toNat) (v:=(gi arcs i).To.toNat) (by omega) (by omega);rw [Int.toNat_of_nonneg a.1.1,Int.toNat_of_nonneg a.2.1] at q1;rw [hF,zb (by omega),Z2 (by omega),itn,q1,obs,Zai (by omega)];refine ⟨_,rfl,q2.congr fun u v _ _=>?_⟩;rw [Zey hi];exact (Pth.snoc (e:=gi arcs i)).symm
 ·rw [hF,ZW (by omega)];rfl
theorem Zpk {l:List Za}(hc:Ck l) (hl:l.length≤64) (A:AllCh l 1∧AllCh l 0):∃ X Y V H s,ZcP l=some (⟨⟨X,Y,V,H⟩,Zch l X 0 l.length,Zch l Y 1 l.length⟩,0)∧CH l 1 X V∧CH l 0 Y H ∧
  zF l=some (s,(prs (LN V H).length fun i k=>!shc V H (gi (LN V H) i) (gi (LN V H) k)).map toA)∧SS X Y V H (Zch l X 0 l.length) (Zch l Y 1 l.length) s:=by
 obtain ⟨X,Y,V,H,e1,cx,cy⟩:=ZnB hc hl A;have x3:=cx.Ll;have y3:=cy.Ll;have oV:=cx.ok hc (by omega) (by omega);have oH:=cy.ok hc (by omega) (by omega);have ll:(LN V H).length≤128:=by
  unfold LN;rw [List.length_append];have a:=Zfb (b:=true) (L:=V) (n:=V.length);have b:=Zfb (b:=false) (L:=H) (n:=H.length);omega
 have gl:∀ of d,(Zch l of d l.length).length≤64:=fun of d=>Nat.le_trans (ZfG _) hl;obtain ⟨r1,f1,g1⟩:=Ziz (n:=V.length) (by omega);obtain ⟨r2,f2,g2⟩:=Ziz (n:=H.length) (by omega);obtain ⟨s1,a1,b1⟩:=ZlZ (F:=zF.s0 ⟨⟨X,Y,V,H⟩,Zch l X 0 l.length,Zch l Y 1 l.length⟩) (by omega) (ZiQ hc (by omega) cx) (by have:=gl X 0;omega) g1 (fun _ _=>rfl);obtain ⟨s2,a2,b2⟩:=ZlZ (F:=zF.s1 ⟨⟨X,Y,V,H⟩,Zch l X 0 l.length,Zch l Y 1 l.length⟩) (by omega) (ZiQ hc (by omega) cy) (by have:=gl Y 1;omega) g2 (fun _ _=>rfl);generalize hN:(LN V H).length=N at ll;have a3:ZX (zF.s2 ⟨⟨X,Y,V,H⟩,Zch l X 0 l.length,Zch l Y 1 l.length⟩ ((LN V H).map Zdh)) big (([]:List zP),0)=some ((LN V H).map (sd X Y V H)):=by
  refine Zbv (fun i:Nat=>(((LN V H).take i).map (sd X Y V H),(i:Int))) (n:=N) (ZaK (by omega)) (by simp) (fun i hi=>?_) ?_
  ·simp only [zF.s2,List.length_map,itn];rw [zb (by omega),Z2 (by omega),Zcd (by omega),ZqN oV oH cx.alen cy.alen (Zaw (by omega)),obs,Z2 (by simp;omega),Zai (by omega),Zey (by omega)];simp
  ·simp only [zF.s2,List.length_map];rw [ZW (by omega),← hN,List.take_length]
 generalize hM:(fun i k=>!shc V H (gi (LN V H) i) (gi (LN V H) k))=M;have inner:∀ i,i<N→∀ o:List (A2 Int),o.length≤100000→ZX (zF.s4 ⟨⟨X,Y,V,H⟩,Zch l X 0 l.length,Zch l Y 1 l.length⟩ ((LN V H).map Zdh) i) big (o,((i+1:Nat):Int))=some (o++(((List.range N).filter fun k=>decide (i<k)&&M i k).map fun k=>(i,k)).map toA):=by
  intro i hi o ho;have f0:(List.range (i+1)).filter (fun k=>decide (i<k)&&M i k)=[]:=by
   rw [List.filter_eq_nil_iff];intro k hk;have:=List.mem_range.1 hk;simp;omega
  have:=Zbv (step:=zF.s4 ⟨⟨X,Y,V,H⟩,Zch l X 0 l.length,Zch l Y 1 l.length⟩ ((LN V H).map Zdh) i) (fun n:Nat=>(o++(((List.range (i+1+n)).filter fun k=>decide (i<k)&&M i k).map fun k=>(i,k)).map toA,((i+1+n:Nat):Int))) (s0:=(o,((i+1:Nat):Int))) (n:=N-(i+1)) (r:=o++(((List.range N).filter fun k=>decide (i<k)&&M i k).map fun k=>(i,k)).map toA) (ZaK (by omega)) (by rw [Nat.add_zero,f0];simp) (fun n hn=>?_) ?_
  ·exact this
  ·generalize hk:i+1+n=k;have flen:=List.length_filter_le (fun k=>decide (i<k)&&M i k) (List.range k);rw [List.length_range] at flen;have me:=Zpj hc hl cx cy (gi (LN V H) i).1 (gi (LN V H) k).1 (gi (LN V H) i).2 (gi (LN V H) k).2;have me':Zb6 ⟨X,Y,V,H⟩ (Zdh (gi (LN V H) i)).Vertical (Zdh (gi (LN V H) i)).Place (Zdh (gi (LN V H) k)).Vertical (Zdh (gi (LN V H) k)).Place=some (!M i k):=by rw [← hM,Bool.not_not];exact me
   simp only [zF.s4,List.length_map,itn];rw [zb (by omega),Z2 (by omega),Zcd (by omega),Zcd (by omega),me',obs,Bool.not_not,show i+1+(n+1)=k+1 by omega,List.range_succ,List.filter_append];by_cases c:M i k=true
   ·rw [if_pos c,Z2 (by simp;omega),Zai (by omega),List.filter_cons,if_pos (by rw [c];simp;omega)];simp [toA]
   ·rw [if_neg c,Zai (by omega),List.filter_cons,if_neg (by simp [c])];simp
  ·rw [show i+1+(N-(i+1))=N by omega];simp only [zF.s4,List.length_map];rw [ZW (by omega)]
 have a4:ZX (zF.s3 ⟨⟨X,Y,V,H⟩,Zch l X 0 l.length,Zch l Y 1 l.length⟩ ((LN V H).map Zdh)) big (([]:List (A2 Int)),0)=some ((prs N M).map toA):=by
  refine Zbv (fun n:Nat=>(((List.range n).flatMap fun i=>((List.range N).filter fun k=>decide (i<k)&&M i k).map fun k=>(i,k)).map toA,(n:Int))) (n:=N) (ZaK (by omega)) rfl (fun n hn=>?_) ?_
  ·have bl:(((List.range n).flatMap fun i=>((List.range N).filter fun k=>decide (i<k)&&M i k).map fun k=>(i,k)).map toA).length≤n*N:=by
    rw [List.length_map];clear inner
    induction n with
    | zero=>simp
    | succ n ih =>
     have:=ih (by omega);rw [List.range_succ,List.flatMap_append,List.length_append,Nat.add_mul,Nat.one_mul];refine Nat.add_le_add this ?_;simp only [List.flatMap_cons,List.flatMap_nil,List.append_nil,List.length_map];have:=List.length_filter_le (fun k=>decide (n<k)&&M n k) (List.range N);simpa using this
   have:n*N≤128*128:=Nat.mul_le_mul (by omega) ll;simp only [zF.s3,List.length_map];rw [zb (by omega),Z2 (by omega),Zai (by omega),show (n:Int)+1=((n+1:Nat):Int) by omega,inner n hn _ (by omega),obs,List.range_succ,List.flatMap_append,List.map_append];simp only [List.flatMap_cons,List.flatMap_nil,List.append_nil]
  ·simp only [zF.s3,List.length_map];rw [ZW (by omega)];rfl
 refine ⟨X,Y,V,H,⟨⟨⟨⟨X,Y,V,H⟩,Zch l X 0 l.length,Zch l Y 1 l.length⟩,[]⟩,⟨s1⟩,⟨s2⟩,(LN V H).map Zdh,(LN V H).map (sd X Y V H)⟩,e1,cx,cy,?_,⟨rfl,rfl,b1,b2,rfl,rfl,ZiQ hc (by omega) cx,ZiQ hc (by omega) cy⟩⟩;unfold zF;rw [e1,obs];dsimp only;rw [Zpe (by omega) (by omega),obs,f1,obs];dsimp only;rw [obs,f2,obs];dsimp only;rw [obs,a1,obs,a2,obs,a3,obs,a4,obs,hM,hN]
end
end Mu
/- Layer 19: settling comes to an end. -/
namespace Mu
open Go (IntKind)
inductive Der (P:List (Nat×Nat)) (W:Nat→Nat→List Zn) (h0 v0:List Zj):List Zj→List Zj→Prop
 | refl:Der P W h0 v0 h0 v0
 | step {hs vs:List Zj}{i k:Nat}{w:Zn}(d:Der P W h0 v0 hs vs) (hp:(i,k)∈P) (h:∀ w∈W i k,¬ isP hs vs w) (e:(W i k).filter (Zfd hs vs)=[w]):Der P W h0 v0 (fH hs w) (fV vs w)
theorem Zka {hs:List Zj}{w:Zn}:∀ a∈hs,a∈fH hs w:=fun a ha=>by unfold fH;split<;>simp [ha]
theorem Zkb {vs:List Zj}{w:Zn}:∀ a∈vs,a∈fV vs w:=fun a ha=>by unfold fV;split<;>simp [ha]
theorem Der.base {P:List (Nat×Nat)}{W:Nat→Nat→List Zn}{h0 v0 hs vs:List Zj}(D:Der P W h0 v0 hs vs):(∀ a∈h0,a∈hs)∧∀ a∈v0,a∈vs:=by
 induction D with
 | refl=>exact ⟨fun a h=>h,fun a h=>h⟩
 | step d hp h e ih=>exact ⟨fun a ha=>Zka a (ih.1 a ha),fun a ha=>Zkb a (ih.2 a ha)⟩
theorem Zmy {hs vs hs' vs':List Zj}(h:∀ a∈hs,a∈hs') (v:∀ a∈vs,a∈vs') {w:Zn}(p:isP hs vs w):isP hs' vs' w:=by
 unfold isP grW at p ⊢;split at p
 ·rename_i c;rw [if_pos c];exact p.mono h
 ·rename_i c;rw [if_neg c];exact p.mono v
theorem Zlt {hs vs:List Zj}{w:Zn}:isP (fH hs w) (fV vs w) w:=by
 unfold isP grW fH fV;by_cases c:w.horizontal=true
 ·rw [if_pos c,if_pos c];exact .one (a:=ZhZ w) (by simp)
 ·rw [if_neg c,if_neg c];exact .one (a:=ZhZ w) (by simp)
theorem ZpY {hs vs:List Zj}{w:Zn}:(fH hs w).length+(fV vs w).length=hs.length+vs.length+1:=by
 unfold fH fV;split<;>simp<;>omega
def ptd (W:Nat→Nat→List Zn) (hs vs:List Zj) (p:Nat×Nat):Prop:=∃ w∈W p.1 p.2,isP hs vs w
noncomputable def npB (W:Nat→Nat→List Zn) (hs vs:List Zj) (p:Nat×Nat):Bool:=!(W p.1 p.2).any (isF hs vs)
theorem ZiZ {W:Nat→Nat→List Zn}{hs vs:List Zj}{p:Nat×Nat}:npB W hs vs p=true↔¬ ptd W hs vs p:=by
 simp only [npB,ptd,Bool.not_eq_true',List.any_eq_false,ZfP,not_exists,not_and]
theorem ZjA {W:Nat→Nat→List Zn}{hs vs hs' vs':List Zj}(h:∀ a∈hs,a∈hs') (v:∀ a∈vs,a∈vs') {p:Nat×Nat}(q:ptd W hs vs p):ptd W hs' vs' p:=by
 obtain ⟨w,hw,q⟩:=q;exact ⟨w,hw,Zmy h v q⟩
def Clsd (P:List (Nat×Nat)) (W:Nat→Nat→List Zn) (hs vs:List Zj):Prop:=∀ p∈P,ptd W hs vs p∨((W p.1 p.2).filter (Zfd hs vs)).length≠1
theorem Zkc {α:Type}{f:α→Bool}{L P:List α}(h:L.Sublist P) (nd:P.Nodup) (q:∀ p∈P,p ∉ L→f p=false):P.filter f=L.filter f:=by
 induction h with
 | slnil=>rfl
 | @cons L P a h ih =>
  rw [List.nodup_cons] at nd;have ha:f a=false:=q a (by simp) fun hm=>nd.1 (h.subset hm);rw [List.filter_cons,if_neg (by simp [ha])];exact ih nd.2 fun p hp hl=>q p (by simp [hp]) hl
 | @cons_cons L P a h ih =>
  rw [List.nodup_cons] at nd;have:=ih nd.2 fun p hp hl=>q p (by simp [hp]) fun hm=>by
   rcases List.mem_cons.1 hm with rfl|hm
   ·exact nd.1 hp
   ·exact hl hm
  rw [List.filter_cons,List.filter_cons,this]
theorem Zpw {N:Nat}{M:Nat→Nat→Bool}:(prs N M).Nodup:=by
 unfold prs List.Nodup;rw [List.pairwise_flatMap];refine ⟨fun i _=>List.pairwise_map.2 ((List.Pairwise.filter _ List.nodup_range).imp fun h e=>h (by simpa using e)),(List.nodup_range (n:=N)).imp fun {i j} h=>?_⟩;intro x hx y hy e;obtain ⟨k,_,rfl⟩:=List.mem_map.1 hx;obtain ⟨k',_,rfl⟩:=List.mem_map.1 hy;exact h (congrArg Prod.fst e)

abbrev SeT:=(List Int)×(List Int)×(List (List Int))×(List (List Int))×(List Zj)×(List Zj)×(List (A2 ZB))×(List (List Int))×(List (List Int))×(List ZB)×(List zP)×Bool×(List (A2 Int))×Int
def tS (s:zi) (c:Bool) (o:List (A2 Int)) (x:Int):SeT:=(s.result.Graphs.Chains.X,s.result.Graphs.Chains.Y,s.result.Graphs.Chains.Vert,s.result.Graphs.Chains.Horz,s.result.Graphs.H,s.result.Graphs.V,s.result.Open,s.h.rows,s.v.rows,s.lines,s.sides,c,o,x)
section
variable {X Y:List Int}{V H:List (List Int)}{l:List Za}{h0 v0:List Zj}{P:List (Nat×Nat)}
structure ScI (X Y:List Int) (V H:List (List Int)) (P:List (Nat×Nat)) (h0 v0:List Zj) (C0:Nat) (O:List (Nat×Nat)) (h1 v1:List Zj) (j:Nat) (s:zi) (c:Bool) (L:List (Nat×Nat)) (hs vs:List Zj):Prop where
 ss:SS X Y V H hs vs s
 der:Der P (wyN X Y V H) h0 v0 hs vs
 sub:L.Sublist (O.take j)
 pd:∀ p∈O.take j,p ∉ L→ptd (wyN X Y V H) hs vs p
 hm:∀ a∈h1,a∈hs
 vm:∀ a∈v1,a∈vs
 len:hs.length+vs.length+L.length+(O.length-j)≤C0
 f:c=false→hs=h1∧vs=v1∧L=(O.take j).filter (npB (wyN X Y V H) h1 v1)∧∀ p∈L,((wyN X Y V H p.1 p.2).filter (Zfd h1 v1)).length≠1
 t:c=true→L.length<j
theorem ZnJ (hc:Ck l) (cx:CH l 1 X V) (cy:CH l 0 Y H) (hV:V.length≤1000) (hH:H.length≤1000) {C0:Nat}(hC:C0≤10000000) {O:List (Nat×Nat)}(hO:O.Sublist P) (hP:∀ p∈P,p.1<(LN V H).length∧p.2<(LN V H).length) {h1 v1:List Zj}{s1:zi}(S1:SS X Y V H h1 v1 s1) (D1:Der P (wyN X Y V H) h0 v0 h1 v1) (hlen:h1.length+v1.length+O.length≤C0) :
  ∃ s c L hs vs,ZX (zg.s1 (O.map toA)) big (tS s1 false [] 0)=some ((s.result.Graphs.Chains.X,s.result.Graphs.Chains.Y,s.result.Graphs.Chains.Vert,s.result.Graphs.Chains.Horz,s.result.Graphs.H,s.result.Graphs.V,s.result.Open,s.h.rows,s.v.rows,s.lines,s.sides,c,L.map toA))∧ScI X Y V H P h0 v0 C0 O h1 v1 O.length s c L hs vs:=by
 have key:=Zdf (step:=zg.s1 (O.map toA)) (n:=O.length) (fun j p=>∃ s c L hs vs,p=tS s c (L.map toA) j∧ScI X Y V H P h0 v0 C0 O h1 v1 j s c L hs vs) (s0:=tS s1 false [] 0)
  (R:=fun r=>∃ s c L hs vs,r=(s.result.Graphs.Chains.X,s.result.Graphs.Chains.Y,s.result.Graphs.Chains.Vert,s.result.Graphs.Chains.Horz,s.result.Graphs.H,s.result.Graphs.V,s.result.Open,s.h.rows,s.v.rows,s.lines,s.sides,c,L.map toA)∧ScI X Y V H P h0 v0 C0 O h1 v1 O.length s c L hs vs) (ZaK (by omega)) ?_ ?_ ?_
 ·obtain ⟨r,e,s,c,L,hs,vs,rfl,h⟩:=key;exact ⟨s,c,L,hs,vs,e,h⟩
 ·exact ⟨s1,false,[],h1,v1,rfl,S1,D1,by simp,by simp,fun a h=>h,fun a h=>h,by simpa using hlen,fun _=>⟨rfl,rfl,by simp,by simp⟩,fun h=>by cases h⟩
 ·rintro j _ hj ⟨s,c,L,hs,vs,rfl,I⟩;have hm:=hO.subset (Zaw hj);obtain ⟨b1,b2⟩:=hP _ hm;have ilen:=I.len;obtain ⟨p,f,s',hs',vs',e,S',lk⟩:=Zqm hc cx cy I.ss hV hH (by omega) (by omega) b1 b2;have tk:=Zey hj;have ga:gi (O.map toA) j=toA (gi O j):=Zcd hj;have sl:=I.sub.length_le;rw [List.length_take] at sl;have st:∀ (L':List (Nat×Nat)),zg.s1 (O.map toA) (tS s c (L.map toA) j)=(if (!p)=true then ck ((L.map toA).length+[gi (O.map toA) (j:Int).toNat].length≤1000000000) (ck (Za6 ((j:Int)+1)) (some (.inl (tS s' (c||f) (L.map toA++[gi (O.map toA) (j:Int).toNat]) ((j:Int)+1))))) else ck (Za6 ((j:Int)+1)) (some (.inl (tS s' (c||f) (L.map toA) ((j:Int)+1))))):=by
   intro _;unfold zg.s1 tS;dsimp only;rw [zb (show (j:Int)<((O.map toA).length:Int) by simp;omega),Z2 (by simp;omega)];have:Zbd s ((gi (O.map toA) (j:Int).toNat).get 0) ((gi (O.map toA) (j:Int).toNat).get 1)=some (p,f,s'):=by
    rw [itn,ga];exact e
   change ((Zbd s ((gi (O.map toA) (j:Int).toNat).get 0) ((gi (O.map toA) (j:Int).toNat).get 1)).bind _=_);rw [this,obs]
  rw [st L,itn,ga]
  cases lk with
  | @is w hw q =>
   rw [if_neg (by decide),Zai (by omega)];refine ⟨_,rfl,s',c||false,L,hs,vs,rfl,S',I.der,?_,fun p hp hl=>?_,I.hm,I.vm,by omega,fun hc'=>?_,fun hc'=>?_⟩
   ·rw [tk];exact I.sub.trans (List.sublist_append_left _ _)
   ·rw [tk] at hp;rcases List.mem_append.1 hp with hp|hp
    ·exact I.pd p hp hl
    ·have:p=gi O j:=by simpa using hp
     subst this;exact ⟨w,hw,q⟩
   ·rw [Bool.or_false] at hc';obtain ⟨rfl,rfl,f3,f4⟩:=I.f hc';refine ⟨rfl,rfl,?_,f4⟩;rw [tk,List.filter_append,← f3];have:npB (wyN X Y V H) hs vs (gi O j)=false:=by
     rw [← Bool.not_eq_true,ZiZ,Classical.not_not];exact ⟨w,hw,q⟩
    simp [this]
   ·rw [Bool.or_false] at hc';have:=I.t hc';omega
  | no q n =>
   rw [if_pos (by decide),Z2 (by simp;omega),Zai (by omega)];refine ⟨_,rfl,s',c||false,L++[gi O j],hs,vs,by simp,S',I.der,?_,fun p hp hl=>?_,I.hm,I.vm,by rw [List.length_append];simp;omega,fun hc'=>?_,fun hc'=>?_⟩
   ·rw [tk];exact I.sub.append (List.Sublist.refl _)
   ·rw [tk] at hp;rcases List.mem_append.1 hp with hp|hp
    ·exact I.pd p hp fun h=>hl (by simp [h])
    ·exact absurd (by simpa using .inr (by simpa using hp)) hl
   ·rw [Bool.or_false] at hc';obtain ⟨rfl,rfl,f3,f4⟩:=I.f hc';refine ⟨rfl,rfl,?_,fun p hp=>?_⟩
    ·rw [tk,List.filter_append,← f3];have:npB (wyN X Y V H) hs vs (gi O j)=true:=by
      rw [ZiZ];rintro ⟨w,hw,h⟩;exact q w hw h
     simp [this]
    ·rcases List.mem_append.1 hp with hp|hp
     ·exact f4 p hp
     ·have:p=gi O j:=by simpa using hp
      subst this;exact n
   ·rw [Bool.or_false] at hc';have:=I.t hc';rw [List.length_append];simp;omega
  | @force w q e1 =>
   rw [if_neg (by decide),Zai (by omega)];have fl:=ZpY (hs:=hs) (vs:=vs) (w:=w);have hw:w∈wyN X Y V H (gi O j).1 (gi O j).2:=(List.mem_filter.1 (e1 ▸ List.mem_singleton.2 rfl:w∈(wyN X Y V H (gi O j).1 (gi O j).2).filter (Zfd hs vs))).1;refine ⟨_,rfl,s',c||true,L,_,_,rfl,S',.step I.der hm q e1,?_,fun p hp hl=>?_,fun a ha=>Zka a (I.hm a ha),fun a ha=>Zkb a (I.vm a ha),by omega,fun hc'=>by simp at hc',fun hc'=>by omega⟩
   ·rw [tk];exact I.sub.trans (List.sublist_append_left _ _)
   ·rw [tk] at hp;rcases List.mem_append.1 hp with hp|hp
    ·exact ZjA Zka Zkb (I.pd p hp hl)
    ·have:p=gi O j:=by simpa using hp
     subst this;exact ⟨w,hw,Zlt⟩
 ·rintro _ ⟨s,c,L,hs,vs,rfl,I⟩;refine ⟨_,?_,s,c,L,hs,vs,rfl,I⟩;unfold zg.s1 tS;dsimp only;rw [ZW (show ¬ (O.length:Int)<((O.map toA).length:Int) by simp)]
theorem ZnK (hc:Ck l) (cx:CH l 1 X V) (cy:CH l 0 Y H) (hV:V.length≤1000) (hH:H.length≤1000) (hP:∀ p∈P,p.1<(LN V H).length∧p.2<(LN V H).length) (nd:P.Nodup) {s0:zi}(S0:SS X Y V H h0 v0 s0) (hlen:h0.length+v0.length+P.length≤10000000) :
  ∃ s hs vs,ZX zg.s0 big (s0.result.Graphs.Chains.X,s0.result.Graphs.Chains.Y,s0.result.Graphs.Chains.Vert,s0.result.Graphs.Chains.Horz,s0.result.Graphs.H,s0.result.Graphs.V,s0.result.Open,s0.h.rows,s0.v.rows,s0.lines,s0.sides,P.map toA,true)=some (s.result.Graphs.Chains.X,s.result.Graphs.Chains.Y,s.result.Graphs.Chains.Vert,s.result.Graphs.Chains.Horz,s.result.Graphs.H,s.result.Graphs.V,s.result.Open,s.h.rows,s.v.rows,s.lines,s.sides,(P.filter (npB (wyN X Y V H) hs vs)).map toA) ∧
   SS X Y V H hs vs s∧Der P (wyN X Y V H) h0 v0 hs vs∧Clsd P (wyN X Y V H) hs vs∧hs.length+vs.length≤h0.length+v0.length+P.length:=by
 have key:=ZeU (step:=zg.s0) (s0:=(s0.result.Graphs.Chains.X,s0.result.Graphs.Chains.Y,s0.result.Graphs.Chains.Vert,s0.result.Graphs.Chains.Horz,s0.result.Graphs.H,s0.result.Graphs.V,s0.result.Open,s0.h.rows,s0.v.rows,s0.lines,s0.sides,P.map toA,true))
  (fun x=>2*x.2.2.2.2.2.2.2.2.2.2.2.1.length+if x.2.2.2.2.2.2.2.2.2.2.2.2=true then 1 else 0)
  (fun x=>∃ (s:zi) (hs vs:List Zj) (O:List (Nat×Nat)) (c:Bool),x=(s.result.Graphs.Chains.X,s.result.Graphs.Chains.Y,s.result.Graphs.Chains.Vert,s.result.Graphs.Chains.Horz,s.result.Graphs.H,s.result.Graphs.V,s.result.Open,s.h.rows,s.v.rows,s.lines,s.sides,O.map toA,c)∧SS X Y V H hs vs s∧Der P (wyN X Y V H) h0 v0 hs vs∧O.Sublist P∧(∀ p∈P,p ∉ O→ptd (wyN X Y V H) hs vs p)∧hs.length+vs.length+O.length≤h0.length+v0.length+P.length∧(c=false→O=O.filter (npB (wyN X Y V H) hs vs)∧∀ p∈O,((wyN X Y V H p.1 p.2).filter (Zfd hs vs)).length≠1))
  (R:=fun r=>∃ (s:zi) (hs vs:List Zj),r=(s.result.Graphs.Chains.X,s.result.Graphs.Chains.Y,s.result.Graphs.Chains.Vert,s.result.Graphs.Chains.Horz,s.result.Graphs.H,s.result.Graphs.V,s.result.Open,s.h.rows,s.v.rows,s.lines,s.sides,(P.filter (npB (wyN X Y V H) hs vs)).map toA)∧SS X Y V H hs vs s∧Der P (wyN X Y V H) h0 v0 hs vs∧Clsd P (wyN X Y V H) hs vs∧hs.length+vs.length≤h0.length+v0.length+P.length)
  ?_ ?_ ?_
 ·obtain ⟨r,e,s,hs,vs,rfl,h⟩:=key;exact ⟨s,hs,vs,e,h⟩
 ·have:2*P.length+1<big:=by unfold big;omega
  simpa using this
 ·exact ⟨s0,h0,v0,P,true,rfl,S0,.refl,List.Sublist.refl _,fun p hp hl=>absurd hp hl,Nat.le_refl _,fun h=>by cases h⟩
 ·rintro _ ⟨s,hs,vs,O,c,rfl,S,D,sub,pd,len,fin⟩
  cases c with
  | true =>
   left;obtain ⟨s',c',L,hs',vs',e,I⟩:=ZnJ hc cx cy hV hH (C0:=h0.length+v0.length+P.length) (by omega) sub hP S D len;have e':zg.s0 (s.result.Graphs.Chains.X,s.result.Graphs.Chains.Y,s.result.Graphs.Chains.Vert,s.result.Graphs.Chains.Horz,s.result.Graphs.H,s.result.Graphs.V,s.result.Open,s.h.rows,s.v.rows,s.lines,s.sides,O.map toA,true)=some (.inl (s'.result.Graphs.Chains.X,s'.result.Graphs.Chains.Y,s'.result.Graphs.Chains.Vert,s'.result.Graphs.Chains.Horz,s'.result.Graphs.H,s'.result.Graphs.V,s'.result.Open,s'.h.rows,s'.v.rows,s'.lines,s'.sides,L.map toA,c')):=by
    unfold zg.s0;unfold tS at e;dsimp only;rw [if_pos rfl,e,obs]
   have tl:=List.take_length (l:=O);have isub:=I.sub;have ipd:=I.pd;have it:=I.t;have ifn:=I.f;rw [tl] at isub ipd ifn;have il:=I.len;have sl:=isub.length_le;refine ⟨_,e',⟨s',hs',vs',L,c',rfl,I.ss,I.der,isub.trans sub,fun p hp hl=>?_,by omega,fun h=>?_⟩,?_⟩
   ·by_cases hO:p∈O
    ·exact ipd p hO hl
    ·exact ZjA I.hm I.vm (pd p hp hO)
   ·obtain ⟨rfl,rfl,f3,f4⟩:=ifn h;refine ⟨?_,f4⟩;rw [f3,List.filter_filter];congr 1;funext x;simp
   ·dsimp only;rw [List.length_map,List.length_map,if_pos rfl]
    cases c' with
    | true=>have:=it rfl;rw [if_pos rfl];omega
    | false=>rw [if_neg (by decide)];omega
  | false =>
   right;obtain ⟨f1,f2⟩:=fin rfl;refine ⟨(s.result.Graphs.Chains.X,s.result.Graphs.Chains.Y,s.result.Graphs.Chains.Vert,s.result.Graphs.Chains.Horz,s.result.Graphs.H,s.result.Graphs.V,s.result.Open,s.h.rows,s.v.rows,s.lines,s.sides,O.map toA),rfl,s,hs,vs,?_,S,D,fun p hp=>?_,by omega⟩
   ·rw [Zkc sub nd fun p hp hl=>?_,← f1];rw [← Bool.not_eq_true,ZiZ,Classical.not_not];exact pd p hp hl
   ·by_cases hO:p∈O
    ·exact .inr (f2 p hO)
    ·exact .inl (pd p hp hO)
def PR (V H:List (List Int)):List (Nat×Nat):=prs (LN V H).length fun i k=>!shc V H (gi (LN V H) i) (gi (LN V H) k)
def opL (V H:List (List Int)) (p:Nat×Nat):A2 ZB:=⟨Zdh (gi (LN V H) p.1),Zdh (gi (LN V H) p.2)⟩
theorem ZkN (hc:Ck l) (hl:l.length≤64) (hv:ZeZ l=0) (A:AllCh l 1∧AllCh l 0):∃ X Y V H hs vs,ZcP l=some (⟨⟨X,Y,V,H⟩,Zch l X 0 l.length,Zch l Y 1 l.length⟩,0)∧CH l 1 X V∧CH l 0 Y H ∧
  zg l=some (⟨⟨⟨X,Y,V,H⟩,hs,vs⟩,((PR V H).filter (npB (wyN X Y V H) hs vs)).map (opL V H)⟩,0)∧Der (PR V H) (wyN X Y V H) (Zch l X 0 l.length) (Zch l Y 1 l.length) hs vs∧Clsd (PR V H) (wyN X Y V H) hs vs ∧
  hs.length+vs.length≤2*l.length+(PR V H).length∧(PR V H).length≤(2*l.length)*(2*l.length)∧InR V.length hs∧InR H.length vs:=by
 obtain ⟨X,Y,V,H,s,e1,cx,cy,e2,S⟩:=Zpk hc hl A;have x3:=cx.Ll;have y3:=cy.Ll;have ll:(LN V H).length≤2*l.length:=by
  unfold LN;rw [List.length_append];have a:=Zfb (b:=true) (L:=V) (n:=V.length);have b:=Zfb (b:=false) (L:=H) (n:=H.length);omega
 have pl:(PR V H).length≤(2*l.length)*(2*l.length):=Nat.le_trans ZnU (Nat.mul_le_mul ll ll);have pl2:(2*l.length)*(2*l.length)≤128*128:=Nat.mul_le_mul (by omega) (by omega);have g0:=ZfG (l:=l) (of:=X) (d:=0) l.length;have g1:=ZfG (l:=l) (of:=Y) (d:=1) l.length;have hP:∀ p∈PR V H,p.1<(LN V H).length∧p.2<(LN V H).length:=fun p hp=>by
  obtain ⟨i,k⟩:=p;have:=Zg5.1 hp;exact ⟨by dsimp only;omega,by dsimp only;omega⟩
 obtain ⟨s',hs,vs,e3,S',D,C,len⟩:=ZnK hc cx cy (by omega) (by omega) hP Zpw S (by omega);refine ⟨X,Y,V,H,hs,vs,e1,cx,cy,?_,D,C,by omega,pl,S'.ih,S'.iv⟩;have e4:ZX (zg.s2 ((LN V H).map Zdh) (((PR V H).filter (npB (wyN X Y V H) hs vs)).map toA)) big (([]:List (A2 ZB)),0)=some (((PR V H).filter (npB (wyN X Y V H) hs vs)).map (opL V H)):=by
  generalize hF:(PR V H).filter (npB (wyN X Y V H) hs vs)=F;have fl:F.length≤128*128:=by rw [← hF];have:=List.length_filter_le (npB (wyN X Y V H) hs vs) (PR V H);omega
  have fm:∀ j,j<F.length→(gi F j).1<(LN V H).length∧(gi F j).2<(LN V H).length:=fun j hj=>hP _ (by
   have:=Zaw hj;rw [← hF] at this ⊢;exact (List.mem_filter.1 this).1)
  refine Zbv (fun j:Nat=>((F.take j).map (opL V H),(j:Int))) (n:=F.length) (ZaK (by omega)) rfl (fun j hj=>?_) ?_
  ·obtain ⟨m1,m2⟩:=fm j hj;have g:gi (F.map toA) j=toA (gi F j):=Zcd hj;have t0:(toA (gi F j)).get 0=((gi F j).1:Int):=rfl;have t1:(toA (gi F j)).get 1=((gi F j).2:Int):=rfl;simp only [zg.s2,List.length_map,itn];rw [zb (by omega),Z2 (by omega),g,t0,t1,Z2 (by omega),Z2 (by omega),Z2 (by simp;omega),Zai (by omega),itn,itn,Zcd m1,Zcd m2,Zey hj,List.map_append];rfl
  ·simp only [zg.s2,List.length_map];rw [ZW (by omega),List.take_length]
 unfold zg;rw [ZkP (by omega),obs,Zcy hv,e2,obs];dsimp only;change (ZX zg.s0 big (_,_,_,_,_,_,_,_,_,_,_,(PR V H).map toA,true)).bind _=_;rw [e3,obs];dsimp only;rw [S'.op,S'.li,e4,obs,S'.g]
end
end Mu
/- Cells on a plane: their lines do not cross. -/
namespace Mu
theorem Made.pln {l:List Za}{at_:List Zl}(h:Made l at_):Pln l (fun v=>(gi at_ v).X) (fun v=>(gi at_ v).Y):=by
 have G:=h.geo;have hl:=h.len;refine ⟨h.ck,Str.of h.ck fun v hv=>⟨h.okE hv (by omega),h.okE hv (by omega)⟩,fun z w hz hw ex ey=>G.inj z w hz hw ex ey,?_,?_⟩
 ·intro z d hz w hw a b c;obtain ⟨n,n1,e1,e2,e3⟩:=G.str (z,d) hz;dsimp only at e1 e2 e3;have d4:d<4:=hz.2.1;have:d=0∨d=1∨d=2∨d=3:=by omega
  unfold tg at c;rcases this with rfl|rfl|rfl|rfl<;>simp [al,ac,dx,dy] at a b c e1 e2 e3
  ·exact e3 w hw ((gi at_ w).X-(gi at_ z).X).toNat (by omega) (by omega) (by omega) (by omega)
  ·exact e3 w hw ((gi at_ w).Y-(gi at_ z).Y).toNat (by omega) (by omega) (by omega) (by omega)
  ·exact e3 w hw ((gi at_ z).X-(gi at_ w).X).toNat (by omega) (by omega) (by omega) (by omega)
  ·exact e3 w hw ((gi at_ z).Y-(gi at_ w).Y).toNat (by omega) (by omega) (by omega) (by omega)
 ·rintro ⟨a,d⟩ ⟨b,e⟩ ha hb h0 h1 x1 x2 y1 y2;dsimp only at h0 h1 x1 x2 y1 y2;subst h0 h1;unfold tg at x2 y2;exact G.nc a b ha.1 hb.1 ha.2.2 hb.2.2 ⟨x1,x2,y1,y2⟩
theorem Made.nocross {l:List Za}{at_:List Zl}(h:Made l at_) {A B:List Int}{V H:List (List Int)}(cx:CH l 1 A V) (cy:CH l 0 B H):¬ Crs V H at_:=ZmC h.pln (KH.refl l) cx cy fun v hv=>rfl
end Mu
/- Layer 19: the numbers of each drawing fit what is forced. -/
namespace Mu
open Go (IntKind)
section
variable {l:List Za}{X Y:List Int}{V H:List (List Int)}{p:List Zl}{x y:List Int}
theorem ZiF (hc:Ck l) {d:Nat}(hd:d<2) {C:List Int}(h:IsCh l d C) {f:Nat→Int}(hf:∀ v,v<l.length→0≤nx l v d→f v=f (nx l v d).toNat):∀ i,i<C.length→f (gi C i).toNat=f (gi C 0).toNat
 | 0,_=>rfl
 | i+1,hi=>by
  have lt:=h.lt i (by omega);have l1:=h.lt (i+1) hi;have n:=h.nxt i hi;have:=hf (gi C i).toNat (by omega) (by omega);rw [n] at this;rw [← this];exact ZiF hc hd h hf i (by omega)
theorem CH.alike (hc:Ck l) {d:Nat}(hd:d<2) {a:List Int}{L:List (List Int)}(h:CH l d a L) {f:Nat→Int}(hf:∀ v,v<l.length→0≤nx l v d→f v=f (nx l v d).toNat) {u v:Nat}(hu:u<l.length) (hv:v<l.length) (e:gi a u=gi a v):f u=f v:=by
 obtain ⟨i,h1,h2,h3⟩:=h.mem u hu;obtain ⟨j,j1,j2,j3⟩:=h.mem v hv;have:i=j:=by omega
 subst this;obtain ⟨x,x1,x2⟩:=List.mem_iff_getElem.1 h3;obtain ⟨y,y1,y2⟩:=List.mem_iff_getElem.1 j3;have ex:=ZiF hc hd (h.ch i h1) hf x x1;have ey:=ZiF hc hd (h.ch i h1) hf y y1;rw [Zaz x1,x2,itn] at ex;rw [Zaz y1,y2,itn] at ey;rw [ex,ey]
theorem okX (h:∀ v,v<l.length→okE l p v 0∧okE l p v 1):∀ v,v<l.length→0≤nx l v 1→(gi p v).X=(gi p (nx l v 1).toNat).X:=fun v hv h0=>by
 rcases (h v hv).2 with q|q
 ·omega
 ·unfold strt at q;rw [if_neg (by omega)] at q;exact q.1
theorem okY (h:∀ v,v<l.length→okE l p v 0∧okE l p v 1):∀ v,v<l.length→0≤nx l v 0→(gi p v).Y=(gi p (nx l v 0).toNat).Y:=fun v hv h0=>by
 rcases (h v hv).1 with q|q
 ·omega
 ·unfold strt at q;rw [if_pos rfl] at q;exact q.1
structure Num (l:List Za) (X Y:List Int) (p:List Zl) (x y:List Int):Prop where
 hx:∀ v,v<l.length→gi x (gi X v).toNat=(gi p v).X
 hy:∀ v,v<l.length→gi y (gi Y v).toNat=(gi p v).Y
def Zic (x:List Int) (A:List Zj):Prop:=∀ a∈A,gi x a.From.toNat<gi x a.To.toNat
theorem Num.own (hc:Ck l) (N:Num l X Y p x y) (h:∀ v,v<l.length→okE l p v 0∧okE l p v 1):Zic x (Zch l X 0 l.length)∧Zic y (Zch l Y 1 l.length):=by
 constructor
 ·intro a ha;obtain ⟨v,h1,h2,rfl⟩:=(Zc8 _).1 ha;have w:=(hc.back h1 (d:=0) (by omega) (w:=(nx l v 0).toNat) (by omega)).1;dsimp only;rw [N.hx v h1,N.hx _ w];rcases (h v h1).1 with q|q
  ·omega
  ·unfold strt at q;rw [if_pos rfl] at q;exact q.2
 ·intro a ha;obtain ⟨v,h1,h2,rfl⟩:=(Zc8 _).1 ha;have w:=(hc.back h1 (d:=1) (by omega) (w:=(nx l v 1).toNat) (by omega)).1;dsimp only;rw [N.hy v h1,N.hy _ w];rcases (h v h1).2 with q|q
  ·omega
  ·unfold strt at q;rw [if_neg (by omega)] at q;exact q.2
theorem Num.sides (hc:Ck l) (cx:CH l 1 X V) (cy:CH l 0 Y H) (N:Num l X Y p x y) {a:Bool×Nat}(ha:a∈LN V H):gi x (sd X Y V H a).left.toNat=(Zff V H p a).X∧gi x (sd X Y V H a).right.toNat=(Zfg V H p a).X∧gi y (sd X Y V H a).bottom.toNat=(Zff V H p a).Y∧gi y (sd X Y V H a).top.toNat=(Zfg V H p a).Y:=by
 have hm:=Zgl ha;obtain ⟨b,i⟩:=a
 cases b with
 | true =>
  simp only [if_true] at hm;have C:=cx.ch i hm;have ne:=C.ne;have l0:=C.lt 0 ne;have l1:=C.lt ((gi V i).length-1) (by omega);have m0:=cx.one i (gi (gi V i) 0).toNat hm (by omega) (by rw [Int.toNat_of_nonneg l0.1];exact Zaw ne);have m1:=cx.one i (gi (gi V i) ((gi V i).length-1)).toNat hm (by omega) (by rw [Int.toNat_of_nonneg l1.1];exact Zaw (by omega));have a0:=N.hx (gi (gi V i) 0).toNat (by omega);have a1:=N.hx (gi (gi V i) ((gi V i).length-1)).toNat (by omega);have b0:=N.hy (gi (gi V i) 0).toNat (by omega);have b1:=N.hy (gi (gi V i) ((gi V i).length-1)).toNat (by omega);rw [m0] at a0;rw [m1] at a1;simp only [sd,Zff,Zfg,if_true];exact ⟨a0,a1,b0,b1⟩
 | false =>
  simp only [Bool.false_eq_true,if_false] at hm;have C:=cy.ch i hm;have ne:=C.ne;have l0:=C.lt 0 ne;have l1:=C.lt ((gi H i).length-1) (by omega);have m0:=cy.one i (gi (gi H i) 0).toNat hm (by omega) (by rw [Int.toNat_of_nonneg l0.1];exact Zaw ne);have m1:=cy.one i (gi (gi H i) ((gi H i).length-1)).toNat hm (by omega) (by rw [Int.toNat_of_nonneg l1.1];exact Zaw (by omega));have a0:=N.hx (gi (gi H i) 0).toNat (by omega);have a1:=N.hx (gi (gi H i) ((gi H i).length-1)).toNat (by omega);have b0:=N.hy (gi (gi H i) 0).toNat (by omega);have b1:=N.hy (gi (gi H i) ((gi H i).length-1)).toNat (by omega);rw [m0] at b0;rw [m1] at b1;simp only [sd,Zff,Zfg,Bool.false_eq_true,if_false];exact ⟨a0,a1,b0,b1⟩
def ZgJ (x y:List Int) (w:Zn):Prop:=if w.horizontal=true then gi x w.from_.toNat<gi x w.to.toNat else gi y w.from_.toNat<gi y w.to.toNat
theorem Zj6 {hs vs:List Zj}{x y:List Int}(fx:Zic x hs) (fy:Zic y vs) {w:Zn}(h:ZgJ x y w):Zlm hs vs w:=by
 unfold ZgJ at h;unfold Zlm grW;refine ⟨fun e=>?_,fun t=>?_⟩
 ·rw [e] at h;split at h<;>omega
 ·split at h
  ·rename_i c;rw [if_pos c] at t;have:=t.up fx;omega
  ·rename_i c;rw [if_neg c] at t;have:=t.up fy;omega
theorem Zin (hc:Ck l) (cx:CH l 1 X V) (cy:CH l 0 Y H) (N:Num l X Y p x y) (nc:¬ Crs V H p) {i k:Nat}(hp:(i,k)∈PR V H):∃ w∈wyN X Y V H i k,ZgJ x y w:=by
 obtain ⟨h1,h2,h3⟩:=Zg5.1 hp;have hi:=Zaw (l:=LN V H) (i:=i) (by omega);have hk:=Zaw (l:=LN V H) (i:=k) (by omega);have ne:gi (LN V H) i≠gi (LN V H) k:=fun e=>by
  have nd:=List.pairwise_iff_getElem.1 (Zoj (V:=V) (H:=H)) i k (by omega) h2 h1;rw [Zaz (by omega),Zaz h2] at e;exact nd e
 have ap:ZeH (Zff V H p (gi (LN V H) i)) (Zfg V H p (gi (LN V H) i)) (Zff V H p (gi (LN V H) k)) (Zfg V H p (gi (LN V H) k))=true:=by
  by_cases c:ZeH (Zff V H p (gi (LN V H) i)) (Zfg V H p (gi (LN V H) i)) (Zff V H p (gi (LN V H) k)) (Zfg V H p (gi (LN V H) k))=true
  ·exact c
  ·exact absurd ⟨_,_,hi,hk,ne,by simpa using c,by simpa using h3⟩ nc
 obtain ⟨s1,s2,s3,s4⟩:=N.sides hc cx cy hi;obtain ⟨t1,t2,t3,t4⟩:=N.sides hc cx cy hk;unfold ZeH at ap;simp only [Bool.or_eq_true,decide_eq_true_eq] at ap;unfold wyN wy;rcases ap with ((q|q)|q)|q
 ·exact ⟨_,by simp,show ZgJ x y ⟨true,(sd X Y V H (gi (LN V H) i)).right,(sd X Y V H (gi (LN V H) k)).left⟩ by simp only [ZgJ,if_true];omega⟩
 ·exact ⟨⟨true,(sd X Y V H (gi (LN V H) k)).right,(sd X Y V H (gi (LN V H) i)).left⟩,by simp,by simp only [ZgJ,if_true];omega⟩
 ·exact ⟨⟨false,(sd X Y V H (gi (LN V H) i)).top,(sd X Y V H (gi (LN V H) k)).bottom⟩,by simp,by simp only [ZgJ,Bool.false_eq_true,if_false];omega⟩
 ·exact ⟨⟨false,(sd X Y V H (gi (LN V H) k)).top,(sd X Y V H (gi (LN V H) i)).bottom⟩,by simp,by simp only [ZgJ,Bool.false_eq_true,if_false];omega⟩
theorem Der.fit (hc:Ck l) (cx:CH l 1 X V) (cy:CH l 0 Y H) (N:Num l X Y p x y) (nc:¬ Crs V H p) {h0 v0 hs vs:List Zj}(D:Der (PR V H) (wyN X Y V H) h0 v0 hs vs) (f0:Zic x h0∧Zic y v0):Zic x hs∧Zic y vs:=by
 induction D with
 | refl=>exact f0
 | @step hs vs i k w D hp h e ih =>
  obtain ⟨fx,fy⟩:=ih;obtain ⟨w',hw',g⟩:=Zin hc cx cy N nc hp;have:w'∈(wyN X Y V H i k).filter (Zfd hs vs):=List.mem_filter.2 ⟨hw',ZeQ.2 (Zj6 fx fy g)⟩;rw [e] at this;have:w'=w:=by simpa using this
  subst this;unfold ZgJ at g;by_cases c:w'.horizontal=true
  ·rw [if_pos c] at g;unfold fH fV;rw [if_pos c,if_pos c];refine ⟨fun a ha=>?_,fy⟩;rcases List.mem_append.1 ha with q|q
   ·exact fx a q
   ·have:a=ZhZ w':=by simpa using q
    subst this;exact g
  ·rw [if_neg c] at g;unfold fH fV;rw [if_neg c,if_neg c];refine ⟨fx,fun a ha=>?_⟩;rcases List.mem_append.1 ha with q|q
   ·exact fy a q
   ·have:a=ZhZ w':=by simpa using q
    subst this;exact g
theorem Zim (hv:ZeZ l=0):AllCh l 1∧AllCh l 0:=by
 obtain ⟨h1,h2,h3⟩:=ZhT.1 hv;have hc:=(ZeG.1 h1).2;by_cases c:l.length=1
 ·have one:∀ d,d<2→AllCh l d:=fun d hd=>by
   refine ZgH hc (by omega) (φ:=fun _=>0) (fun x=>Nat.zero_le _) fun p hp hd'=>?_;exfalso;rcases hc.s p.1 p.2 hp.1 hp.2.1 with ⟨a,_⟩|⟨w,a,b,c,_⟩
   ·have:=hp.2.2;omega
   ·have:=hp.1;omega
  exact ⟨one 1 (by omega),one 0 (by omega)⟩
 ·have V:=h3 c;obtain ⟨φ,p1,p2,_⟩:=pot hc V (Zj1 hc h2) (d0:=1) (by omega);obtain ⟨ψ,q1,q2,_⟩:=pot hc V (Zj1 hc h2) (d0:=0) (by omega);exact ⟨ZgH hc (by omega) p1 p2,ZgH hc (by omega) q1 q2⟩
end
end Mu
/- Layer 19: wakes. -/
namespace Mu
theorem Zix:ZbP=some true:=by decide +kernel
end Mu
/- Layer 21: RectMakes. -/
namespace Mu
end Mu
/- SepHolds,SepMakes. -/
namespace Mu
open Go (IntKind)
theorem ZhJ {l:List Za}(hl:l.length≤64) (hv:ZeZ l≠0):∃ r,zg l=some (r,ZeZ l)∧r.Open=[]∧r.Graphs.H=[]∧r.Graphs.V=[]:=by
 unfold zg;rw [ZkP (by omega),obs,Zdj hv];exact ⟨_,rfl,rfl,rfl,rfl⟩
end Mu
/- Layer 19: whatever is forced first,the same comes of it. -/
namespace Mu
open Go (IntKind)
def Tw (T:Bool→Nat→Nat→Prop) (w:Zn):Prop:=T w.horizontal w.from_.toNat w.to.toNat
def Zia (T:Bool→Nat→Nat→Prop) (w:Zn):Prop:=w.from_≠w.to∧¬ T w.horizontal w.to.toNat w.from_.toNat
open Classical in
noncomputable def cTF (T:Bool→Nat→Nat→Prop) (w:Zn):Bool:=decide (Zia T w)
theorem ZfN {T:Bool→Nat→Nat→Prop}{w:Zn}:cTF T w=true↔Zia T w:=by simp [cTF]
def ClW (T:Bool→Nat→Nat→Prop) (W:List Zn):Prop:=(∃ w∈W,Tw T w)∨(W.filter (cTF T)).length≠1
structure ClT (P:List (Nat×Nat)) (W:Nat→Nat→List Zn) (h0 v0:List Zj) (T:Bool→Nat→Nat→Prop):Prop where
 tr:∀ b x y z,T b x y→T b y z→T b x z
 irr:∀ b x,¬ T b x x
 oh:∀ a∈h0,T true a.From.toNat a.To.toNat
 ov:∀ a∈v0,T false a.From.toNat a.To.toNat
 cl:∀ p∈P,ClW T (W p.1 p.2)
 ap:∀ p∈P,∃ w∈W p.1 p.2,Zia T w
def TP (hs vs:List Zj) (b:Bool) (u v:Nat):Prop:=Pth (if b=true then hs else vs) u v
theorem Znw {hs vs:List Zj}{w:Zn}:Zia (TP hs vs) w↔Zlm hs vs w:=Iff.rfl
theorem ZoG {hs vs:List Zj}:cTF (TP hs vs)=Zfd hs vs:=by
 funext w;rw [Bool.eq_iff_iff,ZfN,ZeQ,Znw]
theorem ZkW {T:Nat→Nat→Prop}{A:List Zj}(tr:∀ x y z,T x y→T y z→T x z) (h:∀ a∈A,T a.From.toNat a.To.toNat) {u v:Nat}(p:Pth A u v):T u v:=by
 induction p with
 | one q=>exact h _ q
 | cons q _ ih=>exact tr _ _ _ (h _ q) ih
theorem Der.conf {P:List (Nat×Nat)}{W:Nat→Nat→List Zn}{h0 v0 hs vs:List Zj}{T:Bool→Nat→Nat→Prop}(D:Der P W h0 v0 hs vs) (C:ClT P W h0 v0 T):(∀ a∈hs,T true a.From.toNat a.To.toNat)∧∀ a∈vs,T false a.From.toNat a.To.toNat:=by
 induction D with
 | refl=>exact ⟨C.oh,C.ov⟩
 | @step hs vs i k w D hp h e ih =>
  have sub:∀ b u v,TP hs vs b u v→T b u v:=fun b u v q=>by
   cases b with
   | true=>exact ZkW (T:=T true) (C.tr true) ih.1 q
   | false=>exact ZkW (T:=T false) (C.tr false) ih.2 q
  have can:∀ w,Zia T w→Zlm hs vs w:=fun w q=>⟨q.1,fun z=>q.2 (sub _ _ _ z)⟩;have tw:Tw T w:=by
   rcases C.cl _ hp with ⟨w',hw',q⟩|q
   ·have:Zia T w':=by
     refine ⟨fun e=>?_,fun z=>C.irr _ _ (C.tr _ _ _ _ q z)⟩;unfold Tw at q;rw [e] at q;exact C.irr _ _ q
    have:w'∈(W i k).filter (Zfd hs vs):=List.mem_filter.2 ⟨hw',ZeQ.2 (can _ this)⟩;rw [e] at this;have:w'=w:=by simpa using this
    rw [← this];exact q
   ·exfalso;obtain ⟨w',hw',q'⟩:=C.ap _ hp;have e2:(W i k).filter (cTF T)=((W i k).filter (Zfd hs vs)).filter (cTF T):=by
     rw [List.filter_filter];refine List.filter_congr fun w _=>?_
     cases c:cTF T w with
     | false=>simp
     | true=>rw [ZeQ.2 (can _ (ZfN.1 c))];rfl
    have m':w'∈(W i k).filter (cTF T):=List.mem_filter.2 ⟨hw',ZfN.2 q'⟩;dsimp only at q;rw [e2,e] at q m';have:w'=w:=by simpa using (List.mem_filter.1 m').1
    subst this;rw [List.filter_cons,if_pos (ZfN.2 q')] at q;simp at q
  unfold Tw at tw;by_cases c:w.horizontal=true
  ·rw [c] at tw;unfold fH fV;rw [if_pos c,if_pos c];refine ⟨fun a ha=>?_,ih.2⟩;rcases List.mem_append.1 ha with q|q
   ·exact ih.1 a q
   ·have:a=ZhZ w:=by simpa using q
    subst this;exact tw
  ·rw [Bool.not_eq_true] at c;rw [c] at tw;unfold fH fV;rw [c];simp only [Bool.false_eq_true,if_false];refine ⟨ih.1,fun a ha=>?_⟩;rcases List.mem_append.1 ha with q|q
   ·exact ih.2 a q
   ·have:a=ZhZ w:=by simpa using q
    subst this;exact tw
theorem Der.sub {P:List (Nat×Nat)}{W:Nat→Nat→List Zn}{h0 v0 hs vs:List Zj}{T:Bool→Nat→Nat→Prop}(D:Der P W h0 v0 hs vs) (C:ClT P W h0 v0 T) (b:Bool) (u v:Nat) (q:TP hs vs b u v):T b u v:=by
 have h:=D.conf C
 cases b with
 | true=>exact ZkW (T:=T true) (C.tr true) h.1 q
 | false=>exact ZkW (T:=T false) (C.tr false) h.2 q
theorem ClW.perm {T:Bool→Nat→Nat→Prop}{W W':List Zn}(p:W.Perm W') (h:ClW T W):ClW T W':=by
 rcases h with ⟨w,hw,q⟩|q
 ·exact .inl ⟨w,p.mem_iff.1 hw,q⟩
 ·exact .inr (by rw [← (p.filter _).length_eq];exact q)
section
variable {l:List Za}{X Y:List Int}{V H:List (List Int)}
theorem Zhu {a b:zP}:(wy a b).Perm (wy b a):=by
 unfold wy;exact (List.Perm.swap _ _ _).trans (((List.Perm.swap _ _ _).cons _).cons _)
def WL (X Y:List Int) (V H:List (List Int)) (a b:Bool×Nat):List Zn:=wy (sd X Y V H a) (sd X Y V H b)
theorem ZmI {a b:Bool×Nat}(ha:a∈LN V H) (hb:b∈LN V H) (ne:a≠b) (hs:shc V H a b=false):∃ i k,(i,k)∈PR V H∧((a=gi (LN V H) i∧b=gi (LN V H) k)∨(b=gi (LN V H) i∧a=gi (LN V H) k)):=by
 obtain ⟨i,hi,rfl⟩:=ZcA ha;obtain ⟨k,hk,rfl⟩:=ZcA hb;have:i≠k:=fun e=>ne (by rw [e]);by_cases c:i<k
 ·exact ⟨i,k,Zg5.2 ⟨c,hk,by rw [hs];rfl⟩,.inl ⟨rfl,rfl⟩⟩
 ·exact ⟨k,i,Zg5.2 ⟨by omega,hi,by rw [Zlb,hs];rfl⟩,.inr ⟨rfl,rfl⟩⟩
theorem ZmE {i k:Nat}(h:(i,k)∈PR V H):gi (LN V H) i∈LN V H∧gi (LN V H) k∈LN V H∧gi (LN V H) i≠gi (LN V H) k∧shc V H (gi (LN V H) i) (gi (LN V H) k)=false:=by
 obtain ⟨h1,h2,h3⟩:=Zg5.1 h;refine ⟨Zaw (by omega),Zaw h2,fun e=>?_,by simpa using h3⟩;have nd:=List.pairwise_iff_getElem.1 (Zoj (V:=V) (H:=H)) i k (by omega) h2 h1;rw [Zaz (by omega),Zaz h2] at e;exact nd e
theorem Zjy {T:Bool→Nat→Nat→Prop}(h:∀ p∈PR V H,ClW T (wyN X Y V H p.1 p.2)) {a b:Bool×Nat}(ha:a∈LN V H) (hb:b∈LN V H) (ne:a≠b) (hs:shc V H a b=false):ClW T (WL X Y V H a b):=by
 obtain ⟨i,k,hp,q⟩:=ZmI ha hb ne hs;have:=h _ hp;rcases q with ⟨rfl,rfl⟩|⟨rfl,rfl⟩
 ·exact this
 ·exact ClW.perm Zhu this
theorem Clsd.clW {hs vs:List Zj}(C:Clsd (PR V H) (wyN X Y V H) hs vs):∀ p∈PR V H,ClW (TP hs vs) (wyN X Y V H p.1 p.2):=fun p hp=>by
 rcases C p hp with ⟨w,hw,q⟩|q
 ·exact .inl ⟨w,hw,q⟩
 ·exact .inr (by rw [ZoG];exact q)
theorem Clsd.clT (hc:Ck l) (cx:CH l 1 X V) (cy:CH l 0 Y H) {p:List Zl}{x y:List Int}(N:Num l X Y p x y) (nc:¬ Crs V H p) {h0 v0 hs vs:List Zj}(D:Der (PR V H) (wyN X Y V H) h0 v0 hs vs) (f0:Zic x h0∧Zic y v0) (C:Clsd (PR V H) (wyN X Y V H) hs vs):ClT (PR V H) (wyN X Y V H) h0 v0 (TP hs vs):=by
 obtain ⟨fx,fy⟩:=D.fit hc cx cy N nc f0;refine ⟨fun b _ _ _ p q=>p.trans q,fun b u q=>?_,fun a ha=>.one (D.base.1 a ha),fun a ha=>.one (D.base.2 a ha),C.clW,fun q hq=>?_⟩
 ·cases b with
  | true=>have:=Pth.up fx q;omega
  | false=>have:=Pth.up fy q;omega
 ·obtain ⟨w,hw,g⟩:=Zin hc cx cy N nc (i:=q.1) (k:=q.2) hq;exact ⟨w,hw,Zj6 fx fy g⟩
end
/-! All that is reached. -/
def toP (A:List Zj):List (A2 Int):=A.map fun a=>⟨a.From,a.To⟩
theorem Zm4 {n:Nat}{A:List Zj}(hr:InR n A) (hl:A.length≤1000000) {u:Nat}{m:List Bool}(hm:m.length=n) (hs:∀ v,v<n→gi m v=true→Pth A u v):∃ m',ZX (z8.s1 (toP A) u) big (m,0)=some m'∧m'.length=n∧(∀ v,v<n→gi m' v=true→Pth A u v)∧(∀ v,gi m v=true→gi m' v=true)∧∀ a∈A,(a.From=u∨gi m a.From.toNat=true)→gi m' a.To.toNat=true:=by
 have gp:∀ i,i<A.length→gi (toP A) i=⟨(gi A i).From,(gi A i).To⟩:=fun i hi=>Zcd hi;have pl:(toP A).length=A.length:=by simp [toP]
 obtain ⟨m',e,h⟩:=Zho (step:=z8.s1 (toP A) u) (n:=A.length) (fun i (s:List Bool)=>s.length=n∧(∀ v,v<n→gi s v=true→Pth A u v)∧(∀ v,gi m v=true→gi s v=true)∧∀ j,j<i→((gi A j).From=u∨gi m (gi A j).From.toNat=true)→gi s (gi A j).To.toNat=true) (s0:=m) (f:=id) (by omega) ⟨hm,hs,fun v h=>h,fun j hj=>by omega⟩ (fun i s hi I=>by
  obtain ⟨i1,i2,i3,i4⟩:=I;have r:=hr _ (Zaw hi);have g0:(gi (toP A) i).get 0=(gi A i).From:=by rw [gp i hi];rfl
  have g1:(gi (toP A) i).get 1=(gi A i).To:=by rw [gp i hi];rfl
  have t:(if decide ((gi (toP A) i).get 0=(u:Int))=true then some true else ck ((0:Int)≤(gi (toP A) i).get 0∧(gi (toP A) i).get 0<(s.length:Int)) (some (gi s ((gi (toP A) i).get 0).toNat)))=some (decide ((gi A i).From=(u:Int))||gi s (gi A i).From.toNat):=by
   by_cases c:(gi A i).From=(u:Int)
   ·rw [zb (by rw [g0];exact c),ZcV c];rfl
   ·rw [ZW (by rw [g0];exact c),Z2 (by rw [g0];omega),ZeE c,g0];rfl
  simp only [z8.s1,itn];rw [zb (by omega),Z2 (by omega),t,obs];simp only [g1];by_cases c:(decide ((gi A i).From=(u:Int))||gi s (gi A i).From.toNat)=true
  ·rw [if_pos c,Z2 (by omega),Zai (by omega)];have gs:∀ v,gi (s.set (gi A i).To.toNat true) v=if v=(gi A i).To.toNat then true else gi s v:=fun v=>Zcg (by omega);refine ⟨_,rfl,by simp [i1],fun v hv q=>?_,fun v q=>?_,fun j hj q=>?_⟩
   ·rw [gs] at q;split at q
    ·rename_i ev;rw [ev];rcases Bool.or_eq_true _ _ |>.mp c with c|c
     ·rw [decide_eq_true_eq] at c;have:=Pth.one (Zaw hi);rwa [c,itn] at this
     ·exact (i2 _ (by omega) c).trans (.one (Zaw hi))
    ·exact i2 v hv q
   ·rw [gs];split
    ·rfl
    ·exact i3 v q
   ·rw [gs];by_cases ji:j=i
    ·subst ji;rw [if_pos rfl]
    ·split
     ·rfl
     ·exact i4 j (by omega) q
  ·rw [if_neg c,Zai (by omega)];refine ⟨_,rfl,i1,i2,i3,fun j hj q=>?_⟩;by_cases ji:j=i
   ·subst ji;exfalso;apply c;rw [Bool.or_eq_true,decide_eq_true_eq];exact q.imp id (i3 _)
   ·exact i4 j (by omega) q) (fun s I=>by
  simp only [z8.s1];rw [ZW (by omega)];rfl)
 obtain ⟨i1,i2,i3,i4⟩:=h;refine ⟨m',e,i1,i2,i3,fun a ha q=>?_⟩;obtain ⟨j,hj,rfl⟩:=ZcA ha;exact i4 j hj q
theorem Zj3:∀ (a b:List Bool),a.length=b.length→(∀ v,gi a v=true→gi b v=true)→a.count true≤b.count true∧(a≠b→a.count true<b.count true)
 | [],[],_,_=>⟨Nat.le_refl _,fun h=>absurd rfl h⟩
 | [],_::_,h,_=>by simp at h
 | _::_,[],h,_=>by simp at h
 | x::a,y::b,h,q=>by
  obtain ⟨i1,i2⟩:=Zj3 a b (by simpa using h) fun v z=>q (v+1) z;have h0:x=true→y=true:=fun z=>q 0 z;rw [List.count_cons,List.count_cons];by_cases e:a=b
  ·subst e;cases x<;>cases y
   ·exact ⟨Nat.le_refl _,fun h=>absurd rfl h⟩
   ·exact ⟨by simp,fun _=>by simp⟩
   ·exact absurd (h0 rfl) (by decide)
   ·exact ⟨Nat.le_refl _,fun h=>absurd rfl h⟩
  ·have:=i2 e;cases x<;>cases y
   ·exact ⟨by simp;omega,fun _=>by simp;omega⟩
   ·exact ⟨by simp;omega,fun _=>by simp;omega⟩
   ·exact absurd (h0 rfl) (by decide)
   ·exact ⟨by simp;omega,fun _=>by simp;omega⟩
theorem Zjz {n:Nat}{A:List Zj}(hr:InR n A) {u:Nat}{m:List Bool}(hcl:∀ a∈A,(a.From=u∨gi m a.From.toNat=true)→gi m a.To.toNat=true) {x y:Nat}(p:Pth A x y):(x=u∨gi m x=true)→gi m y=true:=by
 induction p with
 | @one a q =>
  intro h;have r:=hr a q;exact hcl a q (h.imp (fun h=>by omega) id)
 | @cons a y q _ ih =>
  intro h;have r:=hr a q;exact ih (.inr (hcl a q (h.imp (fun h=>by omega) id)))
theorem Zqk {n:Nat}(hn:n≤4096) {A:List Zj}(hr:InR n A) (hl:A.length≤1000000) {u:Nat}(hu:u<n):∃ m,z8 n (toP A) u=some m∧m.length=n∧∀ v,v<n→(gi m v=true↔Pth A u v):=by
 obtain ⟨m,e,i1,i2,i3⟩:=Zho (step:=z8.s0 n (toP A) u) (n:=n+1) (fun i (s:List Bool)=>s.length=n∧(∀ v,v<n→gi s v=true→Pth A u v)∧(i≤s.count true∨∀ a∈A,(a.From=u∨gi s a.From.toNat=true)→gi s a.To.toNat=true)) (s0:=List.replicate n false) (f:=id) (by omega) ⟨by simp,fun v hv q=>by simp [gi,hv] at q,.inl (Nat.zero_le _)⟩ (fun i s hi I=>by
  obtain ⟨i1,i2,i3⟩:=I;obtain ⟨m',e,r1,r2,r3,r4⟩:=Zm4 hr hl i1 i2;simp only [z8.s0];rw [zb (by omega),e,obs,Zai (by omega)];refine ⟨_,rfl,r1,r2,?_⟩;rcases i3 with i3|i3
  ·by_cases same:m'=s
   ·right;rw [same] at r4 ⊢;exact r4
   ·left;have:=(Zj3 s m' (by rw [i1,r1]) r3).2 fun q=>same q.symm;omega
  ·right;intro a ha q;have r:=hr a ha;rcases q with q|q
   ·exact r4 a ha (.inl q)
   ·exact r4 a ha (.inr (Zjz hr i3 (r2 _ (by omega) q) (.inl rfl)))) (fun s I=>by
  simp only [z8.s0];rw [ZW (by omega)];rfl)
 refine ⟨m,?_,i1,fun v hv=>⟨i2 v hv,fun p=>?_⟩⟩
 ·unfold z8;rw [Z2 (by omega),itn,e,obs];rfl
 ·rcases i3 with i3|i3
  ·have:m.count true≤m.length:=List.count_le_length;omega
  ·exact Zjz hr i3 p (.inl rfl)
theorem ZnA {n:Nat}(hn:n≤4096) {A:List Zj}(hr:InR n A) (hl:A.length≤1000000):∃ L,zK n (toP A)=some L∧L.length=n∧∀ u,u<n→(gi L u).length=n∧∀ v,v<n→(gi (gi L u) v=true↔Pth A u v):=by
 obtain ⟨L,e,i1,i2⟩:=Zho (step:=zK.s0 n (toP A)) (n:=n) (fun i (s:List (List Bool))=>s.length=i∧∀ u,u<i→(gi s u).length=n∧∀ v,v<n→(gi (gi s u) v=true↔Pth A u v)) (s0:=[]) (f:=id) (by omega) ⟨rfl,fun u hu=>by omega⟩ (fun i s hi I=>by
  obtain ⟨i1,i2⟩:=I;obtain ⟨m,em,m1,m2⟩:=Zqk hn hr hl hi;simp only [zK.s0];rw [zb (by omega),em,obs,Z2 (by omega),Zai (by omega)];refine ⟨_,rfl,by simp [i1],fun u hu=>?_⟩;by_cases c:u<i
  ·rw [Zc1 (by omega)];exact i2 u c
  ·have:u=s.length+0:=by omega
   rw [this,Zcc,Nat.add_zero,i1];exact ⟨m1,m2⟩) (fun s I=>by
  simp only [zK.s0];rw [ZW (by omega)];rfl)
 refine ⟨L,?_,i1,i2⟩;unfold zK;rw [e,obs];rfl
theorem Zg4 {A:List Zj}(hl:A.length≤1000000):zz A=some (toP A):=by
 unfold zz;have:ZX (zz.s0 A) big (([]:List (A2 Int)),0)=some (toP A):=by
  refine Zbv (fun i:Nat=>(toP (A.take i),(i:Int))) (n:=A.length) (ZaK (by omega)) rfl (fun i hi=>?_) ?_
  ·simp only [zz.s0,itn];rw [zb (by omega),Z2 (by omega),Z2 (by simp [toP];omega),Zai (by omega),Zey hi];simp [toP]
  ·simp only [zz.s0];rw [ZW (by omega),List.take_length]
 rw [this,obs]
end Mu
/- SepTurns. -/
namespace Mu
open Go (IntKind)
section
variable {l:List Za}{X Y:List Int}{V H:List (List Int)}
theorem ZfS {a:Bool×Nat}:flp a∈LN H (V.map List.reverse)↔a∈LN V H:=by
 have gr:∀ i,i<V.length→gi (V.map List.reverse) i=(gi V i).reverse:=fun i hi=>Zcd hi;obtain ⟨b,i⟩:=a;rw [ZfR,ZfR];unfold flp
 cases b with
 | true =>
  simp only [Bool.not_true,Bool.false_eq_true,if_false,if_true,List.length_map];constructor
  ·rintro ⟨h1,h2⟩;rw [gr i h1,List.length_reverse] at h2;exact ⟨h1,h2⟩
  ·rintro ⟨h1,h2⟩;exact ⟨h1,by rw [gr i h1,List.length_reverse];exact h2⟩
 | false=>simp
theorem Zht {a b:Bool×Nat}(ha:a∈LN V H) (hb:b∈LN V H):shc H (V.map List.reverse) (flp a) (flp b)=shc V H a b:=by
 have gr:∀ i,i<V.length→gi (V.map List.reverse) i=(gi V i).reverse:=fun i hi=>Zcd hi;have clm:∀ a,a∈LN V H→∀ v,v∈cl (if (flp a).1=true then H else V.map List.reverse) ((flp a).2:Int)↔v∈cl (if a.1=true then V else H) (a.2:Int):=by
  rintro ⟨b,i⟩ ha v;have hm:=Zgl ha;unfold flp cl
  cases b with
  | true =>
   simp only [Bool.not_true,Bool.false_eq_true,if_false,if_true,List.length_map] at hm ⊢;rw [if_neg (by omega),if_neg (by omega),itn,gr i hm,List.mem_reverse]
  | false =>
   simp only [Bool.not_false,Bool.false_eq_true,if_false,if_true]
 unfold shc;rw [Bool.eq_iff_iff,List.any_eq_true,List.any_eq_true];constructor
 ·rintro ⟨v,h1,h2⟩;exact ⟨v,(clm a ha v).1 h1,by rw [decide_eq_true_eq] at h2 ⊢; exact (clm b hb v).1 h2⟩
 ·rintro ⟨v,h1,h2⟩;exact ⟨v,(clm a ha v).2 h1,by rw [decide_eq_true_eq] at h2 ⊢; exact (clm b hb v).2 h2⟩
theorem ZmS (hc:Ck l) (cx:CH l 1 X V) (cy:CH l 0 Y H) {a:Bool×Nat}(ha:a∈LN V H):sd Y X H (V.map List.reverse) (flp a)=⟨(sd X Y V H a).top,(sd X Y V H a).bottom,(sd X Y V H a).left,(sd X Y V H a).right⟩:=by
 have hm:=Zgl ha;obtain ⟨b,i⟩:=a
 cases b with
 | true =>
  simp only [if_true] at hm;have g:gi (V.map List.reverse) i=(gi V i).reverse:=Zcd hm;have ne:=(cx.ch i hm).ne;simp only [flp,sd,Bool.not_true,Bool.false_eq_true,if_false,if_true];rw [g,List.length_reverse,Zfj (by omega),Zfj (by omega),show (gi V i).length-1-0=(gi V i).length-1 by omega,show (gi V i).length-1-((gi V i).length-1)=0 by omega]
 | false =>
  simp only [flp,sd,Bool.not_false,Bool.false_eq_true,if_false,if_true]
def tw (w:Zn):Zn:=if w.horizontal=true then ⟨false,w.from_,w.to⟩ else ⟨true,w.to,w.from_⟩
theorem Zh1 (hc:Ck l) (cx:CH l 1 X V) (cy:CH l 0 Y H) {a b:Bool×Nat}(ha:a∈LN V H) (hb:b∈LN V H):(WL Y X H (V.map List.reverse) (flp a) (flp b)).Perm ((WL X Y V H a b).map tw):=by
 unfold WL;rw [ZmS hc cx cy ha,ZmS hc cx cy hb];generalize sd X Y V H a=p;generalize sd X Y V H b=q;simp only [wy,List.map_cons,List.map_nil,tw,if_true,Bool.false_eq_true,if_false]
 -- [H(pb,qt),H(qb,pt),V(pr,ql),V(qr,pl)] ~ [V(pr,ql),V(qr,pl),H(qb,pt),H(pb,qt)]
 refine (List.perm_append_comm (l₁:=[(⟨true,p.bottom,q.top⟩:Zn),⟨true,q.bottom,p.top⟩]) (l₂:=[⟨false,p.right,q.left⟩,⟨false,q.right,p.left⟩])).trans ?_;exact ((List.Perm.swap _ _ _).cons _).cons _
def tT (T:Bool→Nat→Nat→Prop) (b:Bool) (u v:Nat):Prop:=if b=true then T false v u else T true u v
theorem Zok {T:Bool→Nat→Nat→Prop}{w:Zn}:Tw (tT T) (tw w)↔Tw T w:=by
 obtain ⟨h,f,t⟩:=w;cases h<;>simp [Tw,tT,tw]
theorem ZiD {T:Bool→Nat→Nat→Prop}{w:Zn}:Zia (tT T) (tw w)↔Zia T w:=by
 obtain ⟨h,f,t⟩:=w;cases h
 ·simp only [Zia,tT,tw,Bool.false_eq_true,if_false,if_true];exact ⟨fun h=>⟨fun e=>h.1 e.symm,h.2⟩,fun h=>⟨fun e=>h.1 e.symm,h.2⟩⟩
 ·simp only [Zia,tT,tw,Bool.false_eq_true,if_false,if_true]
theorem ZlB {T:Bool→Nat→Nat→Prop}{W:List Zn}:ClW (tT T) (W.map tw)↔ClW T W:=by
 have e:(W.map tw).filter (cTF (tT T))=(W.filter (cTF T)).map tw:=by
  rw [List.filter_map];congr 1;refine List.filter_congr fun w _=>?_;rw [Function.comp,Bool.eq_iff_iff,ZfN,ZfN,ZiD]
 unfold ClW;rw [e,List.length_map];refine or_congr ⟨?_,?_⟩ Iff.rfl
 ·rintro ⟨w,hw,q⟩;obtain ⟨w',h',rfl⟩:=List.mem_map.1 hw;exact ⟨w',h',Zok.1 q⟩
 ·rintro ⟨w,hw,q⟩;exact ⟨_,List.mem_map.2 ⟨w,hw,rfl⟩,Zok.2 q⟩
theorem ClT.turn (hc:Ck l) (cx:CH l 1 X V) (cy:CH l 0 Y H) (cx':CH (trn l) 1 Y H) (cy':CH (trn l) 0 X (V.map List.reverse)) {T:Bool→Nat→Nat→Prop}(C:ClT (PR V H) (wyN X Y V H) (Zch l X 0 l.length) (Zch l Y 1 l.length) T):ClT (PR H (V.map List.reverse)) (wyN Y X H (V.map List.reverse)) (Zch (trn l) Y 0 (trn l).length) (Zch (trn l) X 1 (trn l).length) (tT T):=by
 have back:∀ i k,(i,k)∈PR H (V.map List.reverse)→∃ a b,a∈LN V H∧b∈LN V H∧a≠b∧shc V H a b=false∧flp a=gi (LN H (V.map List.reverse)) i∧flp b=gi (LN H (V.map List.reverse)) k:=by
  intro i k h;obtain ⟨h1,h2,h3,h4⟩:=ZmE h;have f1:flp (gi (LN H (V.map List.reverse)) i)∈LN V H:=by rw [← ZfS (V:=V),Zca];exact h1
  have f2:flp (gi (LN H (V.map List.reverse)) k)∈LN V H:=by rw [← ZfS (V:=V),Zca];exact h2
  refine ⟨_,_,f1,f2,fun e=>h3 (by rw [← Zca (a:=gi (LN H (V.map List.reverse)) i),e,Zca]),?_,Zca,Zca⟩;rw [← Zht f1 f2,Zca,Zca];exact h4
 refine ⟨fun b x y z p q=>?_,fun b x p=>?_,fun a ha=>?_,fun a ha=>?_,fun p hp=>?_,fun p hp=>?_⟩
 ·cases b with
  | true=>exact C.tr false _ _ _ q p
  | false=>exact C.tr true _ _ _ p q
 ·cases b with
  | true=>exact C.irr false _ p
  | false=>exact C.irr true _ p
 ·-- East in turned cells is North,from above
  obtain ⟨v,h1,h2,rfl⟩:=(Zc8 _).1 ha;rw [Zco] at h1;have e:nx (trn l) v 0=nx l v 3:=(Zcu h1 (e:=0) (by omega)).1;rw [e] at h2 ⊢;have bk:=hc.back (v:=v) (d:=3) (w:=(nx l v 3).toNat) h1 (by omega) (by omega);show T false (gi Y (nx l v 3).toNat).toNat (gi Y v).toNat
  refine C.ov ⟨gi Y (nx l v 3).toNat,gi Y v,wt (ow l (nx l v 3).toNat 1)⟩ ((Zc8 _).2 ⟨(nx l v 3).toNat,bk.1,?_,?_⟩)
  ·have:=bk.2;rw [show (3+2)%4=1 from rfl] at this;omega
  ·have:=bk.2;rw [show (3+2)%4=1 from rfl] at this;rw [this,itn]
 ·obtain ⟨v,h1,h2,rfl⟩:=(Zc8 _).1 ha;rw [Zco] at h1;have e:nx (trn l) v 1=nx l v 0:=(Zcu h1 (e:=1) (by omega)).1;rw [e] at h2 ⊢;exact C.oh ⟨gi X v,gi X (nx l v 0).toNat,wt (ow l v 0)⟩ ((Zc8 _).2 ⟨v,h1,h2,rfl⟩)
 ·obtain ⟨i,k⟩:=p;obtain ⟨a,b,ha,hb,ne,hs,e1,e2⟩:=back i k hp;have:=Zjy C.cl ha hb ne hs;have:=ZlB.2 this;have:=ClW.perm (Zh1 hc cx cy ha hb).symm this;unfold WL at this;rw [e1,e2] at this;exact this
 ·obtain ⟨i,k⟩:=p;obtain ⟨a,b,ha,hb,ne,hs,e1,e2⟩:=back i k hp;obtain ⟨i',k',hp',q⟩:=ZmI ha hb ne hs;obtain ⟨w,hw,g⟩:=C.ap _ hp';have hw':w∈WL X Y V H a b:=by
   rcases q with ⟨rfl,rfl⟩|⟨rfl,rfl⟩
   ·exact hw
   ·exact (Zhu (a:=sd X Y V H (gi (LN V H) i')) (b:=sd X Y V H (gi (LN V H) k'))).mem_iff.1 hw
  have:=(Zh1 hc cx cy ha hb).mem_iff.2 (List.mem_map.2 ⟨w,hw',rfl⟩);unfold WL at this;rw [e1,e2] at this;exact ⟨_,this,ZiD.2 g⟩
theorem ClT.unturn (hc:Ck l) (cx:CH l 1 X V) (cy:CH l 0 Y H) {T:Bool→Nat→Nat→Prop}(C:ClT (PR H (V.map List.reverse)) (wyN Y X H (V.map List.reverse)) (Zch (trn l) Y 0 (trn l).length) (Zch (trn l) X 1 (trn l).length) (tT T)):ClT (PR V H) (wyN X Y V H) (Zch l X 0 l.length) (Zch l Y 1 l.length) T:=by
 refine ⟨fun b x y z p q=>?_,fun b x p=>?_,fun a ha=>?_,fun a ha=>?_,fun p hp=>?_,fun p hp=>?_⟩
 ·cases b with
  | true=>exact C.tr false _ _ _ p q
  | false=>exact C.tr true _ _ _ q p
 ·cases b with
  | true=>exact C.irr false _ p
  | false=>exact C.irr true _ p
 ·obtain ⟨v,h1,h2,rfl⟩:=(Zc8 _).1 ha;have e:nx (trn l) v 1=nx l v 0:=(Zcu h1 (e:=1) (by omega)).1;exact C.ov ⟨gi X v,gi X (nx l v 0).toNat,wt (ow (trn l) v 1)⟩ ((Zc8 _).2 ⟨v,by rw [Zco];exact h1,by omega,by rw [e]⟩)
 ·obtain ⟨v,h1,h2,rfl⟩:=(Zc8 _).1 ha;have bk:=hc.back (v:=v) (d:=1) (w:=(nx l v 1).toNat) h1 (by omega) (by omega);have e:nx (trn l) (nx l v 1).toNat 0=v:=(Zcu bk.1 (e:=0) (by omega)).1.trans bk.2;exact C.oh ⟨gi Y (nx l v 1).toNat,gi Y v,wt (ow (trn l) (nx l v 1).toNat 0)⟩ ((Zc8 _).2 ⟨(nx l v 1).toNat,by rw [Zco];exact bk.1,by omega,by rw [e,itn]⟩)
 ·obtain ⟨i,k⟩:=p;obtain ⟨h1,h2,h3,h4⟩:=ZmE hp;have:=Zjy C.cl (ZfS.2 h1) (ZfS.2 h2) (fun e=>h3 (by rw [← Zca (a:=gi (LN V H) i),e,Zca])) (by rw [Zht h1 h2];exact h4);exact ZlB.1 (ClW.perm (Zh1 hc cx cy h1 h2) this)
 ·obtain ⟨i,k⟩:=p;obtain ⟨h1,h2,h3,h4⟩:=ZmE hp;obtain ⟨i',k',hp',q⟩:=ZmI (ZfS.2 h1) (ZfS.2 h2) (fun e=>h3 (by rw [← Zca (a:=gi (LN V H) i),e,Zca])) (by rw [Zht h1 h2];exact h4);obtain ⟨w,hw,g⟩:=C.ap _ hp';have hw':w∈WL Y X H (V.map List.reverse) (flp (gi (LN V H) i)) (flp (gi (LN V H) k)):=by
   rcases q with ⟨e1,e2⟩|⟨e1,e2⟩
   ·unfold WL;rw [e1,e2];exact hw
   ·unfold WL;rw [e1,e2];exact (Zhu (a:=sd Y X H (V.map List.reverse) (gi (LN H (V.map List.reverse)) i')) (b:=sd Y X H (V.map List.reverse) (gi (LN H (V.map List.reverse)) k'))).mem_iff.1 hw
  obtain ⟨w',h',rfl⟩:=List.mem_map.1 ((Zh1 hc cx cy h1 h2).mem_iff.1 hw');exact ⟨w',h',ZiD.1 g⟩
def bT (T:Bool→Nat→Nat→Prop) (b:Bool) (u v:Nat):Prop:=if b=true then T false u v else T true v u
theorem Zq2 {T:Bool→Nat→Nat→Prop}:tT (bT T)=T:=by
 funext b u v;cases b<;>simp [tT,bT]
/-! How many pairs there are. -/
def ZfX {α:Type}(Q:α→α→Bool):List α→Nat
 | []=>0
 | a::l=>l.countP (Q a)+ZfX Q l
theorem Zlo {α:Type}{Q:α→α→Bool}(hQ:∀ a b,Q a b=Q b a) {l m:List α}(p:l.Perm m):ZfX Q l=ZfX Q m:=by
 induction p with
 | nil=>rfl
 | cons a p ih=>simp only [ZfX];rw [ih,p.countP_eq]
 | swap a b l =>
  simp only [ZfX,List.countP_cons];rw [hQ a b];omega
 | trans _ _ ih1 ih2=>rw [ih1,ih2]
theorem Zj2 {α β:Type}{Q:β→β→Bool}{f:α→β}:∀ {l:List α},ZfX Q (l.map f)=ZfX (fun a b=>Q (f a) (f b)) l
 | []=>rfl
 | a::l=>by simp only [List.map_cons,ZfX,List.countP_map,Zj2 (l:=l)];rfl
theorem Zh8 {α:Type}{Q R:α→α→Bool}:∀ {l:List α},(∀ a∈l,∀ b∈l,Q a b=R a b)→ZfX Q l=ZfX R l
 | [],_=>rfl
 | a::l,h=>by
  simp only [ZfX];rw [Zh8 fun x hx y hy=>h x (by simp [hx]) y (by simp [hy]),List.countP_congr fun x hx=>by rw [h a (by simp) x (by simp [hx])]]
theorem ZnT {α:Type} [Inhabited α] {Q:α→α→Bool}:∀ {L:List α},(prs L.length fun i k=>Q (gi L i) (gi L k)).length=ZfX Q L:=by
 -- rows
 have row:∀ (L:List α) (i:Nat) (a:α),((List.range L.length).filter fun k=>decide (i<k)&&Q a (gi L k)).length=(L.drop (i+1)).countP (Q a):=by
  intro L
  induction L with
  | nil=>intro i a;simp
  | cons b L ih =>
   intro i a;rw [List.length_cons,List.range_succ_eq_map,List.filter_cons,if_neg (by simp),List.filter_map,List.length_map,List.drop_succ_cons]
   cases i with
   | zero =>
    rw [List.drop_zero];have:((List.range L.length).filter ((fun k=>decide (0<k)&&Q a (gi (b::L) k)) ∘ Nat.succ))=(List.range L.length).filter fun k=>Q a (gi L k):=List.filter_congr fun k _=>by
     simp only [Function.comp];rw [show decide (0<k.succ)=true by simp,Bool.true_and];rfl
    rw [this];clear this
    induction L with
    | nil=>rfl
    | cons c L ih2 =>
     rw [List.length_cons,List.range_succ_eq_map,List.filter_cons,List.countP_cons,List.filter_map];have e2:((List.range L.length).filter ((fun k=>Q a (gi (c::L) k)) ∘ Nat.succ))=(List.range L.length).filter fun k=>Q a (gi L k):=List.filter_congr fun k _=>rfl;rw [e2];have ih':((List.range L.length).filter fun k=>Q a (gi L k)).length=L.countP (Q a):=by
      clear ih2 e2 ih
      induction L with
      | nil=>rfl
      | cons d L ih3 =>
       rw [List.length_cons,List.range_succ_eq_map,List.filter_cons,List.countP_cons,List.filter_map];have e3:((List.range L.length).filter ((fun k=>Q a (gi (d::L) k)) ∘ Nat.succ))=(List.range L.length).filter fun k=>Q a (gi L k):=List.filter_congr fun k _=>rfl;rw [e3,show gi (d::L) 0=d from rfl];split<;>simp [*]
     rw [show gi (c::L) 0=c from rfl];split<;>simp [*]
   | succ i =>
    rw [← ih i a];congr 1;refine List.filter_congr fun k _=>?_;simp only [Function.comp];rw [show gi (b::L) k.succ=gi L k from rfl];congr 1;simp
 have tot:∀ (L:List α) (n:Nat),n≤L.length→((List.range n).flatMap fun i=>((List.range L.length).filter fun k=>decide (i<k)&&Q (gi L i) (gi L k)).map fun k=>(i,k)).length+ZfX Q (L.drop n)=ZfX Q L:=by
  intro L n
  induction n with
  | zero=>intro _;simp
  | succ n ih =>
   intro hn;have:=ih (by omega);rw [List.range_succ,List.flatMap_append,List.length_append];simp only [List.flatMap_cons,List.flatMap_nil,List.append_nil,List.length_map];rw [row L n (gi L n),← this,ZkI (show n<L.length by omega)];simp only [ZfX];omega
 intro L;have:=tot L L.length (Nat.le_refl _);rw [List.drop_length] at this;exact this
theorem Zkx {N:Nat}{M:Nat→Nat→Bool}{f:Nat×Nat→Bool}:(prs N M).filter f=prs N fun i k=>M i k&&f (i,k):=by
 unfold prs;rw [List.filter_flatMap];congr 1;funext i;rw [List.filter_map,List.filter_filter];congr 1;refine List.filter_congr fun k _=>?_;simp only [Function.comp];cases decide (i<k)<;>cases M i k<;>cases f (i,k)<;>rfl
theorem Zo0:(LN H (V.map List.reverse)).Perm ((LN V H).map flp):=by
 have e:((List.range (V.map List.reverse).length).filter fun i=>decide (1<(gi (V.map List.reverse) i).length))=(List.range V.length).filter fun i=>decide (1<(gi V i).length):=by
  rw [List.length_map];refine List.filter_congr fun i hi=>?_;have g:gi (V.map List.reverse) i=(gi V i).reverse:=Zcd (List.mem_range.1 hi);rw [g,List.length_reverse]
 unfold LN;rw [List.map_append];refine List.perm_append_comm.trans ?_;have e1:LNo false (V.map List.reverse) (V.map List.reverse).length=(LNo true V V.length).map flp:=by
  unfold LNo;rw [e,List.map_map];rfl
 have e2:LNo true H H.length=(LNo false H H.length).map flp:=by
  unfold LNo;rw [List.map_map];rfl
 rw [e1,e2]
end
end Mu
/- SepTurns: the law. -/
namespace Mu
open Go (IntKind)
section
variable {l:List Za}{X Y:List Int}{V H:List (List Int)}{p:List Zl}
theorem Num.of (hc:Ck l) (cx:CH l 1 X V) (cy:CH l 0 Y H) (hst:∀ v,v<l.length→okE l p v 0∧okE l p v 1):∃ x y,Num l X Y p x y:=by
 refine ⟨(List.range V.length).map fun i=>(gi p (gi (gi V i) 0).toNat).X,(List.range H.length).map fun i=>(gi p (gi (gi H i) 0).toNat).Y,fun v hv=>?_,fun v hv=>?_⟩
 ·have r:=cx.rng hv;obtain ⟨i,j1,j2,j3⟩:=cx.mem v hv;have Ci:=cx.ch i j1;have l0:=Ci.lt 0 Ci.ne;rw [j2,itn,ZbM j1];refine cx.alike hc (by omega) (f:=fun v=>(gi p v).X) (okX hst) (by omega) hv ?_;rw [j2];exact cx.one i _ j1 (by omega) (by rw [Int.toNat_of_nonneg l0.1];exact Zaw Ci.ne)
 ·have r:=cy.rng hv;obtain ⟨i,j1,j2,j3⟩:=cy.mem v hv;have Ci:=cy.ch i j1;have l0:=Ci.lt 0 Ci.ne;rw [j2,itn,ZbM j1];refine cy.alike hc (by omega) (f:=fun v=>(gi p v).Y) (okY hst) (by omega) hv ?_;rw [j2];exact cy.one i _ j1 (by omega) (by rw [Int.toNat_of_nonneg l0.1];exact Zaw Ci.ne)
theorem Zj9 {hs vs:List Zj}:((PR V H).filter (npB (wyN X Y V H) hs vs)).length=ZfX (fun a b=>!shc V H a b && !(WL X Y V H a b).any (isF hs vs)) (LN V H):=by
 unfold PR;rw [Zkx,← ZnT];rfl
theorem ZjL (hc:Ck l) (hl:l.length≤64) (hv:ZeZ l=0) (hst:∀ v,v<l.length→okE l p v 0∧okE l p v 1) (nc:∀ {A B:List Int}{V H:List (List Int)},CH l 1 A V→CH l 0 B H→¬ Crs V H p) :
  ∃ X Y V H hs vs hs' vs',CH l 1 X V∧CH l 0 Y H∧zg l=some (⟨⟨⟨X,Y,V,H⟩,hs,vs⟩,((PR V H).filter (npB (wyN X Y V H) hs vs)).map (opL V H)⟩,0) ∧
   zg (trn l)=some (⟨⟨⟨Y,X,H,V.map List.reverse⟩,hs',vs'⟩,((PR H (V.map List.reverse)).filter (npB (wyN Y X H (V.map List.reverse)) hs' vs')).map (opL H (V.map List.reverse))⟩,0) ∧
   (InR V.length hs∧InR H.length vs∧InR H.length hs'∧InR V.length vs')∧(∀ u v,Pth hs u v↔Pth vs' u v)∧(∀ u v,Pth vs u v↔Pth hs' v u)∧(hs.length+vs.length≤100000∧hs'.length+vs'.length≤100000):=by
 have hL:=Zco (l:=l);have hv':ZeZ (trn l)=0:=by rw [ZjQ hc (by omega)];exact hv
 obtain ⟨X,Y,V,H,hs,vs,ea,cx,cy,es,D,C,len,plen,ih,iv⟩:=ZkN hc hl hv (Zim hv);obtain ⟨X',Y',V',H',hs',vs',ea',cx',cy',es',D',C',len',plen',ih',iv'⟩:=ZkN (l:=trn l) hc.turn (by omega) hv' (Zim hv');have q1:=cy.eq cx' hL.symm id (fun C C' v c1 c2 h1 h2=>(c1.uniq hc (by omega) (Zof.1 c2) h1 h2).symm) (fun C v=>Iff.rfl);have q0:=cx.eq cy' hL.symm List.reverse (fun C C' v c1 c2 h1 h2=>((c1.rev hc (by omega)).uniq hc (by omega) (Zoe.1 c2) (by simpa using h1) h2).symm) (fun C v=>List.mem_reverse);rw [List.map_id] at q1;obtain ⟨rfl,rfl⟩:=q1;obtain ⟨rfl,rfl⟩:=q0;rw [List.length_map] at iv'
 -- drawings of both
 obtain ⟨q,hq⟩:∃ q:List Zl,∀ v,v<l.length→gi q v=rtp (gi p v):=⟨(List.range l.length).map fun i=>rtp (gi p i),fun v hv=>ZbM hv⟩;have hst':∀ v,v<(trn l).length→okE (trn l) q v 0∧okE (trn l) q v 1:=by rw [hL];exact (ZnR hc hq).2 hst
 have nc0:=nc cx cy;have nc':¬ Crs V' (V.map List.reverse) q:=fun z=>nc0 ((ZmZ hc (by omega) cx cy hq hst).1 z);obtain ⟨x,y,N⟩:=Num.of hc cx cy hst;obtain ⟨x',y',N'⟩:=Num.of hc.turn cx' cy' hst';have T1:=C.clT hc cx cy N nc0 D (N.own hc hst);have T2:=C'.clT hc.turn cx' cy' N' nc' D' (N'.own hc.turn hst');have s1:=D.sub (ClT.unturn (T:=bT (TP hs' vs')) hc cx cy (by rw [Zq2];exact T2));have s2:=D'.sub (T1.turn hc cx cy cx' cy');have b1:(2*l.length)*(2*l.length)≤128*128:=Nat.mul_le_mul (by omega) (by omega);rw [hL] at len' plen';refine ⟨X,Y,V,V',hs,vs,hs',vs',cx,cy,es,es',⟨ih,iv,ih',iv'⟩,fun u v=>⟨fun z=>s1 true u v z,fun z=>s2 false u v z⟩,fun u v=>⟨fun z=>s1 false u v z,fun z=>s2 true v u z⟩,by omega,by omega⟩
theorem Zly (hc:Ck l) (cx:CH l 1 X V) (cy:CH l 0 Y H) {hs vs hs' vs':List Zj}(h1:∀ u v,Pth hs u v↔Pth vs' u v) (h2:∀ u v,Pth vs u v↔Pth hs' v u):((PR H (V.map List.reverse)).filter (npB (wyN Y X H (V.map List.reverse)) hs' vs')).length=((PR V H).filter (npB (wyN X Y V H) hs vs)).length:=by
 rw [Zj9,Zj9];have sym:∀ {X Y:List Int}{V H:List (List Int)}{hs vs:List Zj}(a b:Bool×Nat),(!shc V H a b && !(WL X Y V H a b).any (isF hs vs))=(!shc V H b a && !(WL X Y V H b a).any (isF hs vs)):=fun a b=>by
  rw [Zlb,show (WL _ _ _ _ a b).any _=(WL _ _ _ _ b a).any _ from (Zhu).any_eq]
 rw [Zlo (fun a b=>sym a b) Zo0,Zj2];refine Zh8 fun a ha b hb=>?_;rw [Zht ha hb];congr 2;rw [(Zh1 hc cx cy ha hb).any_eq,List.any_map];congr 1;funext w;rw [Function.comp,Bool.eq_iff_iff,ZfP,ZfP];obtain ⟨h,f,t⟩:=w;cases h
 ·exact (h2 f.toNat t.toNat).symm
 ·exact (h1 f.toNat t.toNat).symm
end
theorem ZhY (z:zH) (m1:z.At.length≤Go.maxLen) (b1:∀ y∈z.At,Zil y) (m2:z.Bits.length≤Go.maxLen) (b2:∀ y∈z.Bits,Zil y) (m3:z.Own.length≤Go.maxLen) (b3:∀ y∈z.Own,Zk7 y):Z3 z=some true:=by
 obtain ⟨l,pts,e1,hM,hlen⟩:=Zqn (z:=z) (most:=12) (ZqP m1 b1 b3) (by omega);unfold Z3;rw [e1,obs];dsimp only;have hc:=hM.ck;have hL:=Zco (l:=l);have vt:=ZjQ hc (by omega);by_cases hv:ZeZ l=0
 ·have hst:∀ v,v<l.length→okE l pts v 0∧okE l pts v 1:=fun v hv=>⟨hM.okE hv (by omega),hM.okE hv (by omega)⟩;obtain ⟨X,Y,V,H,hs,vs,hs',vs',cx,cy,es,et,⟨ih,iv,ih',iv'⟩,h1,h2,len,len'⟩:=ZjL hc (by omega) hv hst (fun cx cy=>hM.nocross cx cy);have oc:=Zly hc cx cy h1 h2;have cV:=cx.Ll;have cH:=cy.Ll;obtain ⟨A,eA,A1,A2⟩:=ZnA (n:=V.length) (by omega) ih (by omega);obtain ⟨B,eB,B1,B2⟩:=ZnA (n:=H.length) (by omega) iv (by omega);obtain ⟨C,eC,C1,C2⟩:=ZnA (n:=H.length) (by omega) ih' (by omega);obtain ⟨D,eD,D1,D2⟩:=ZnA (n:=V.length) (by omega) iv' (by omega);rw [es,obs];dsimp only;rw [ZkO (by omega),obs,et,obs];dsimp only;rw [Zix,obs,if_neg (by simp),if_neg (by simp),Zcy (by rw [List.length_map,List.length_map,oc]),if_neg (by simp),Zg4 (by omega),obs,eA,obs,Zg4 (by omega),obs,eB,obs,Zg4 (by omega),obs,eC,obs,Zg4 (by omega),obs,eD,obs];have AD:∀ i k,i<V.length→k<V.length→gi (gi A i) k=gi (gi D i) k:=fun i k hi hk=>by
   rw [Bool.eq_iff_iff,(A2 i hi).2 k hk,(D2 i hi).2 k hk];exact h1 i k
  have BC:∀ i k,i<H.length→k<H.length→gi (gi B i) k=gi (gi C k) i:=fun i k hi hk=>by
   rw [Bool.eq_iff_iff,(B2 i hi).2 k hk,(C2 k hk).2 i hi];exact h2 i k
  generalize hR:(⟨⟨⟨X,Y,V,H⟩,hs,vs⟩,((PR V H).filter (npB (wyN X Y V H) hs vs)).map (opL V H)⟩:ZaR)=R;have rV:R.Graphs.Chains.Vert=V:=by rw [← hR]
  have rH:R.Graphs.Chains.Horz=H:=by rw [← hR]
  have l1:ZX (Z3.s0 R A D) big 0=some (.inl ()):=by
   refine Zbv (fun i:Nat=>(i:Int)) (n:=V.length) (ZaK (by omega)) rfl (fun i hi=>?_) ?_
   ·have inner:ZX (Z3.s1 R A D i) big 0=some (.inl ()):=by
     refine Zbv (fun k:Nat=>(k:Int)) (n:=V.length) (ZaK (by omega)) rfl (fun k hk=>?_) ?_
     ·have a:=(A2 i hi).1;have d:=(D2 i hi).1;simp only [Z3.s1,rV,itn];rw [zb (by omega),Z2 (by omega),Z2 (by omega),Z2 (by omega),Z2 (by omega),if_neg (by simp [AD i k hi hk]),Zai (by omega)];rfl
     ·simp only [Z3.s1,rV];rw [ZW (by omega)]
    simp only [Z3.s0,rV];rw [zb (by omega),inner,obs];dsimp only;rw [Zai (by omega)];rfl
   ·simp only [Z3.s0,rV];rw [ZW (by omega)]
  have l2:ZX (Z3.s2 R B C) big 0=some (.inl ()):=by
   refine Zbv (fun i:Nat=>(i:Int)) (n:=H.length) (ZaK (by omega)) rfl (fun i hi=>?_) ?_
   ·have inner:ZX (Z3.s3 R B C i) big 0=some (.inl ()):=by
     refine Zbv (fun k:Nat=>(k:Int)) (n:=H.length) (ZaK (by omega)) rfl (fun k hk=>?_) ?_
     ·have a:=(B2 i hi).1;have d:=(C2 k hk).1;simp only [Z3.s3,rH,itn];rw [zb (by omega),Z2 (by omega),Z2 (by omega),Z2 (by omega),Z2 (by omega),if_neg (by simp [BC i k hi hk]),Zai (by omega)];rfl
     ·simp only [Z3.s3,rH];rw [ZW (by omega)]
    simp only [Z3.s2,rH];rw [zb (by omega),inner,obs];dsimp only;rw [Zai (by omega)];rfl
   ·simp only [Z3.s2,rH];rw [ZW (by omega)]
  rw [l1,obs];dsimp only;rw [l2,obs]
 ·obtain ⟨r,er,_⟩:=ZhJ (l:=l) (by omega) hv;obtain ⟨r',er',_⟩:=ZhJ (l:=trn l) (by omega) (by rw [vt];exact hv);rw [er,obs];dsimp only;rw [ZkO (by omega),obs,er',obs];dsimp only;rw [Zix,obs,vt,if_neg (by simp),Zdj hv]
end Mu
