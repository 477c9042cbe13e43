/- The law, plainly: what is worked out. -/
import Derived.Test.YtfdidkebomeiaaaMuV
import Derived.Test.YtfdidkebomeiaaaMuDf
import Derived.Test.YtfdidkebomeiaaaMuK0
/- A way of Zce that never goes one way does not come back: numbers that rise along it. -/
set_option linter.unusedVariables false
set_option linter.unusedSimpArgs false
set_option maxRecDepth 10000
namespace Mu
theorem ZbC {α:Type} [Inhabited α] {l:List α}{x:α}(h:x∈l):∃ i,i<l.length∧gi l i=x:=by
 obtain ⟨i,hi,e⟩:=List.mem_iff_getElem.1 h
 exact ⟨i,hi,by rw [ZaM hi,e]⟩
theorem Zpp {α:Type} [Inhabited α] {l:List α}(h:l.Nodup) {i j:Nat}(hi:i<l.length) (hj:j<l.length) (e:gi l i=gi l j):i=j:=by
 rw [List.Nodup,List.pairwise_iff_getElem] at h
 rw [ZaM hi,ZaM hj] at e
 refine Classical.byContradiction fun c=>?_
 rcases Nat.lt_or_gt_of_ne c with q|q
 ·exact h i j hi hj q e
 ·exact h j i hj hi q e.symm
def Zqx (l:List Za) (A:Da→Bool) (v:Nat):Za:=⟨⟨if A (v,0) then nx l v 0 else -1,if A (v,1) then nx l v 1 else -1,if A (v,2) then nx l v 2 else -1,if A (v,3) then nx l v 3 else -1⟩,⟨if A (v,0) then ow l v 0 else 0,if A (v,1) then ow l v 1 else 0,if A (v,2) then ow l v 2 else 0,if A (v,3) then ow l v 3 else 0⟩⟩
def flt (l:List Za) (A:Da→Bool):List Za:=(List.range l.length).map (Zqx l A)
theorem Zhq {l:List Za}{A:Da→Bool}:(flt l A).length=l.length:=by simp [flt]
theorem Zgn {l:List Za}{A:Da→Bool}{v d:Nat}(hv:v<l.length) (hd:d<4):nx (flt l A) v d=(if A (v,d) then nx l v d else -1)∧ow (flt l A) v d=(if A (v,d) then ow l v d else 0):=by
 have e:gi (flt l A) v=Zqx l A v:=Zb4 hv
 unfold nx ow
 rw [e]
 match d,hd with
 | 0,_|1,_|2,_|3,_=>exact ⟨rfl,rfl⟩
theorem Zg3 {l:List Za}{A:Da→Bool}{p:Da}:isD (flt l A) p↔isD l p∧A p=true:=by
 unfold isD
 rw [Zhq]
 constructor
 ·rintro ⟨a,b,c⟩
  rw [(Zgn a b).1] at c
  by_cases q:A (p.1,p.2)=true
  ·rw [if_pos q] at c;exact ⟨⟨a,b,c⟩,q⟩
  ·rw [if_neg q] at c;omega
 ·rintro ⟨⟨a,b,c⟩,q⟩
  have q':A (p.1,p.2)=true:=q
  refine ⟨a,b,?_⟩
  rw [(Zgn a b).1,if_pos q'];exact c
theorem ZnO {l:List Za}{A:Da→Bool}:Sub (flt l A) l:=⟨Zhq,fun u e hu he=>by
 rw [(Zgn hu he).1]
 split
 ·exact .inl rfl
 ·exact .inr rfl⟩
theorem Zpl {l:List Za}(hc:Ck l) {A:Da→Bool}(hA:∀ p,isD l p→A p=true→A (opp l p)=true):Ck (flt l A):=by
 refine ⟨fun v d hv hd=>?_⟩
 rw [Zhq] at hv ⊢
 rw [(Zgn hv hd).1,(Zgn hv hd).2]
 rcases hc.s v d hv hd with ⟨a,b⟩|⟨w,a,b,c,e,f,g⟩
 ·left
  constructor
  ·split
   ·exact a
   ·rfl
  ·split
   ·exact b
   ·rfl
 ·by_cases q:A (v,d)=true
  ·right
   have iv:isD l (v,d):=⟨hv,hd,by rw [a];omega⟩
   have q2:A (w,(d+2)%4)=true:=by
    have:=hA _ iv q
    unfold opp at this
    dsimp only at this
    rw [a,itn] at this
    exact this
   refine ⟨w,by rw [if_pos q,a],b,c,?_,?_,?_⟩
   ·rw [(Zgn b (by omega)).1,if_pos q2,e]
   ·rw [(Zgn b (by omega)).2,if_pos q2,if_pos q,f]
   ·rw [if_pos q];exact g
  ·left
   rw [if_neg q,if_neg q]
   exact ⟨rfl,rfl⟩
def Wk (l:List Za):Nat→List Da→Nat→Prop
 | x,[],y=>x=y
 | x,p::t,y=>p.1=x∧isD l p∧Wk l (nx l p.1 p.2).toNat t y
theorem Wk.app {l:List Za}:∀ {s t:List Da}{x y z:Nat},Wk l x s y→Wk l y t z→Wk l x (s++t) z
 | [],t,x,y,z,h,k=>by have e:x=y:=h;subst e;exact k
 | p::s,t,x,y,z,h,k=>⟨h.1,h.2.1,Wk.app h.2.2 k⟩
theorem Wk.cut {l:List Za}{y:Nat}:∀ {s:List Da}{x u:Nat},Wk l x s y→u∈s.map (·.1)→∃ a b,s=a++b∧Wk l u b y
 | [],x,u,h,hu=>by simp at hu
 | p::s,x,u,h,hu=>by
  by_cases c:u=p.1
  ·exact ⟨[],p::s,rfl,by subst c;exact ⟨rfl,h.2.1,h.2.2⟩⟩
  ·have:u∈s.map (·.1):=by
    rw [List.map_cons,List.mem_cons] at hu
    exact hu.resolve_left c
   obtain ⟨a,b,e,w⟩:=Wk.cut h.2.2 this
   exact ⟨p::a,b,by rw [e];rfl,w⟩
theorem Wk.simple {l:List Za}{y:Nat}{D:Nat→Prop}:∀ {s:List Da}{x:Nat},Wk l x s y→(∀ p∈s,D p.2)→∃ s',Wk l x s' y∧(∀ p∈s',D p.2)∧(s'.map (·.1)).Nodup∧y ∉ s'.map (·.1)
 | [],x,h,hD=>⟨[],h,by simp,by simp,by simp⟩
 | p::s,x,h,hD=>by
  obtain ⟨s',w,d,nd,ny⟩:=Wk.simple h.2.2 (fun q hq=>hD q (by simp [hq]))
  by_cases c:x=y
  ·exact ⟨[],c,by simp,by simp,by simp⟩
  ·by_cases e:x∈s'.map (·.1)
   ·obtain ⟨a,b,e1,w1⟩:=Wk.cut w e
    subst e1
    rw [List.map_append] at nd ny
    refine ⟨b,w1,fun q hq=>d q (by simp [hq]),(List.nodup_append.1 nd).2.1,fun q=>ny (by simp only [List.mem_append];exact .inr q)⟩
   ·refine ⟨p::s',⟨h.1,h.2.1,w⟩,?_,?_,?_⟩
    ·intro q hq
     rcases List.mem_cons.1 hq with rfl|hq
     ·exact hD _ (by simp)
     ·exact d q hq
    ·rw [List.map_cons,List.nodup_cons,h.1];exact ⟨e,nd⟩
    ·rw [List.map_cons,List.mem_cons,h.1]
     rintro (q|q)
     ·exact c q.symm
     ·exact ny q
theorem Wk.at {l:List Za}{y:Nat}:∀ {s:List Da}{x:Nat},Wk l x s y→∀ i,i<s.length→isD l (gi s i)∧(nx l (gi s i).1 (gi s i).2).toNat=(if i+1<s.length then (gi s (i+1)).1 else y)∧(i=0→(gi s i).1=x)
 | [],x,h,i,hi=>by simp at hi
 | p::s,x,h,0,hi=>by
  have e0:gi (p::s) 0=p:=rfl
  rw [e0]
  refine ⟨h.2.1,?_,fun _=>h.1⟩
  match s,h with
  | [],h=>simp;exact h.2.2
  | q::s,h =>
   rw [if_pos (by simp)]
   exact h.2.2.1.symm
 | p::s,x,h,i+1,hi=>by
  have hi':i<s.length:=by simpa using hi
  have e0:∀ j,gi (p::s) (j+1)=gi s j:=fun j=>rfl
  rw [e0,e0]
  obtain ⟨a,b,_⟩:=Wk.at h.2.2 i hi'
  refine ⟨a,?_,fun c=>by omega⟩
  rw [b]
  by_cases c:i+1<s.length
  ·rw [if_pos c,if_pos (by simp;omega)]
  ·rw [if_neg c,if_neg (by simp;omega)]
def ph (d0 e:Nat):Int:=if e=d0 then 0 else if e=(d0+1)%4 then 1 else -1
theorem ZpR:∀ d a b:Fin 4,a.1≠(d.1+2)%4→b.1≠(d.1+2)%4→b.1≠(a.1+2)%4→tn a.1 b.1=ph d.1 b.1-ph d.1 a.1:=by decide +kernel
theorem ZqV {d a b:Nat}(hd:d<4) (ha:a<4) (hb:b<4) (h1:a≠(d+2)%4) (h2:b≠(d+2)%4) (h3:b≠(a+2)%4):tn a b=ph d b-ph d a:=ZpR ⟨d,hd⟩ ⟨a,ha⟩ ⟨b,hb⟩ h1 h2 h3
theorem Zl0 {f g:Da→Int}:∀ {L:List Da},(L.map fun p=>f p-g p).sum=(L.map f).sum-(L.map g).sum
 | []=>rfl
 | a::L=>by simp only [List.map_cons,List.sum_cons];rw [Zl0];omega
theorem ZmU {l:List Za}(hc:Ck l) (hV:Val l) (Cl:Cn l) {d0:Nat}(h4:d0<4) {p:Da}(hp:isD l p) (hp2:p.2=d0) {s:List Da}(hs:Wk l (nx l p.1 p.2).toNat s p.1) (hD:∀ q∈s,q.2≠(d0+2)%4):False:=by
 obtain ⟨s,hs,hD,nd,ny⟩:=hs.simple (D:=fun e=>e≠(d0+2)%4) hD
 obtain ⟨f,hf⟩:∃ f,f=p::s:=⟨_,rfl⟩
 have w:Wk l p.1 f p.1:=by rw [hf];exact ⟨rfl,hp,hs⟩
 have fnd:(f.map (·.1)).Nodup:=by rw [hf,List.map_cons,List.nodup_cons];exact ⟨ny,nd⟩
 have fD:∀ q∈f,q.2≠(d0+2)%4:=by
  intro q hq
  rw [hf] at hq
  rcases List.mem_cons.1 hq with rfl|hq
  ·omega
  ·exact hD q hq
 have f0:0<f.length:=by rw [hf];simp
 have g0:gi f 0=p:=by rw [hf];rfl
 have at_:=fun i hi=>w.at i hi
 have inj:∀ i j,i<f.length→j<f.length→(gi f i).1=(gi f j).1→i=j:=by
  intro i j hi hj h
  have k:∀ i,i<f.length→gi (f.map (·.1)) i=(gi f i).1:=fun i hi=>Zcj hi
  rw [← k i hi,← k j hj] at h
  exact Zpp fnd (by simpa using hi) (by simpa using hj) h
 obtain ⟨nxi,hnx⟩:∃ nxi:Nat→Nat,∀ i,nxi i=if i+1<f.length then i+1 else 0:=⟨fun i=>if i+1<f.length then i+1 else 0,fun _=>rfl⟩
 have nlt:∀ i,i<f.length→nxi i<f.length:=fun i hi=>by rw [hnx];split<;>omega
 have tgt:∀ i,i<f.length→(nx l (gi f i).1 (gi f i).2).toNat=(gi f (nxi i)).1:=by
  intro i hi
  rw [(at_ i hi).2.1,hnx]
  split
  ·rfl
  ·rw [g0]
 -- no turn back
 have nob:∀ i,i<f.length→(gi f (nxi i)).2≠((gi f i).2+2)%4:=by
  intro i hi e
  have b:=(at_ i hi).1.fwd hc
  have t2:=tgt (nxi i) (nlt i hi)
  have e1:(nx l (gi f (nxi i)).1 (gi f (nxi i)).2).toNat=(gi f i).1:=by
   rw [e,← tgt i hi,b.2];omega
  rw [t2] at e1
  have k:=inj _ _ (nlt _ (nlt i hi)) hi e1
  have c1:=fD _ (Zao hi)
  have c2:=fD _ (Zao (nlt i hi))
  have l1:=(at_ i hi).1.2.1
  have l2:=(at_ _ (nlt i hi)).1.2.1
  have n1:i≠0:=by
   rintro rfl
   rw [g0] at e
   omega
  have n2:nxi i≠0:=by
   intro z
   rw [z,g0] at e
   omega
  have h1:=hnx i
  have h2:=hnx (nxi i)
  rw [k] at h2
  split at h1<;>split at h2<;>omega
 -- the way's edges alone
 obtain ⟨A,hA⟩:∃ A:Da→Bool,∀ q,A q=true↔(q∈f∨opp l q∈f):=⟨fun q=>decide (q∈f∨opp l q∈f),fun q=>by simp⟩
 have fis:∀ q∈f,isD l q:=fun q hq=>by
  obtain ⟨i,hi,e⟩:=ZbC hq
  rw [← e];exact (at_ i hi).1
 have hm:Ck (flt l A):=Zpl hc fun q hq h=>by
  rw [hA] at h ⊢
  rw [ZbJ hc hq]
  exact h.symm
 have S:Sub (flt l A) l:=ZnO
 have fm:∀ q∈f,isD (flt l A) q:=fun q hq=>Zg3.2 ⟨fis q hq,(hA q).2 (.inl hq)⟩
 have nxm:∀ q∈f,nx (flt l A) q.1 q.2=nx l q.1 q.2:=fun q hq=>(S.is (fm q hq)).2
 -- what lies at a cell of the way
 have only:∀ i e,i<f.length→e<4→(0≤nx (flt l A) (gi f (nxi i)).1 e↔e=(gi f (nxi i)).2∨e=((gi f i).2+2)%4):=by
  intro i e hi he
  have iN:=(at_ _ (nlt i hi)).1
  constructor
  ·intro h
   have hq:isD (flt l A) ((gi f (nxi i)).1,e):=⟨by rw [Zhq];exact iN.1,he,h⟩
   obtain ⟨q1,q2⟩:=Zg3.1 hq
   rcases (hA _).1 q2 with m|m
   ·obtain ⟨j,hj,ej⟩:=ZbC m
    have:=inj j (nxi i) hj (nlt i hi) (by rw [ej])
    left
    rw [← this,ej]
   ·obtain ⟨j,hj,ej⟩:=ZbC m
    have b:=(q1.opp hc).fwd hc
    have o2:=ZbJ hc q1
    have t:=tgt j hj
    rw [ej] at t
    have t1:(nx l (opp l ((gi f (nxi i)).1,e)).1 (opp l ((gi f (nxi i)).1,e)).2).toNat=(gi f (nxi i)).1:=congrArg Prod.fst o2
    rw [t1] at t
    have k:=inj _ _ (nlt i hi) (nlt j hj) t
    have ij:i=j:=by
     have h1:=hnx i
     have h2:=hnx j
     split at h1<;>split at h2<;>omega
    right
    rw [ij,ej]
    unfold opp
    dsimp only
    omega
  ·rintro (q|q)
   ·rw [q]
    exact (fm _ (Zao (nlt i hi))).2.2
   ·have:=((fm _ (Zao hi)).opp hm).2.2
    unfold opp at this
    dsimp only at this
    rw [nxm _ (Zao hi),tgt i hi] at this
    rw [q];exact this
 have bhm:∀ i,i<f.length→bh (flt l A) (gi f i)=gi f (nxi i):=by
  intro i hi
  have nb:=nob i hi
  have l1:=(at_ i hi).1.2.1
  have l2:=(at_ _ (nlt i hi)).1.2.1
  unfold bh
  rw [nxm _ (Zao hi),tgt i hi]
  have o:=fun e he=>only i e hi he
  have e3:gi f (nxi i)=((gi f (nxi i)).1,(gi f (nxi i)).2):=rfl
  generalize (gi f (nxi i)).2=r at *
  generalize (gi f i).2=q at *
  rw [e3]
  by_cases c1:r=(q+1)%4
  ·rw [if_pos ((o _ (by omega)).2 (.inl c1.symm)),c1]
  ·rw [if_neg (fun h=>by rcases (o _ (by omega)).1 h with k|k<;>omega)]
   by_cases c2:r=q
   ·rw [if_pos ((o _ (by omega)).2 (.inl c2.symm)),c2]
   ·rw [if_neg (fun h=>by rcases (o _ (by omega)).1 h with k|k<;>omega)]
    have c3:r=(q+3)%4:=by omega
    rw [if_pos ((o _ (by omega)).2 (.inl c3.symm)),c3]
 have fn:f.Nodup:=(List.pairwise_map.1 fnd).imp fun {a b} h e=>h (by rw [e])
 have one:∀ C:Da→Prop,(∀ x,isD (flt l A) x→C x→C (bh (flt l A) x))→∀ q∈f,∀ r∈f,C q→C r:=by
  intro C hC q hq r hr h
  obtain ⟨i,hi,ei⟩:=ZbC hq
  obtain ⟨j,hj,ej⟩:=ZbC hr
  have step:∀ i,i<f.length→C (gi f i)→C (gi f (nxi i)):=fun i hi h=>by
   rw [← bhm i hi];exact hC _ (fm _ (Zao hi)) h
  have up:∀ k,∀ i,i<f.length→i+k<f.length→C (gi f i)→C (gi f (i+k)):=by
   intro k
   induction k with
   | zero=>intro i hi _ h;exact h
   | succ k ih =>
    intro i hi hk h
    have:=step (i+k) (by omega) (ih i hi (by omega) h)
    rw [hnx,if_pos (by omega)] at this
    exact this
  rw [← ei] at h
  have hl:=up (f.length-1-i) i hi (by omega) h
  have h0:=step _ (by omega) hl
  rw [hnx,if_neg (by omega)] at h0
  have:=up j 0 f0 (by omega) h0
  rw [Nat.zero_add] at this
  rw [← ej];exact this
 have cy:Cyc (flt l A) f:=⟨by rw [hf];simp,fn,fm,fun q hq=>by
  obtain ⟨i,hi,e⟩:=ZbC hq
  rw [← e,bhm i hi];exact Zao (nlt i hi),one⟩
 have Cm:Cn (flt l A):=by
  intro C hC x y hx hy h
  have tof:∀ x,isD (flt l A) x→C x→∃ x'∈f,C x':=by
   intro x hx h
   rcases (hA x).1 (Zg3.1 hx).2 with m|m
   ·exact ⟨x,m,h⟩
   ·exact ⟨_,m,by rw [← S.opp hx];exact (hC x hx h).2⟩
  obtain ⟨x',m1,c1⟩:=tof x hx h
  have all:∀ r∈f,C r:=fun r hr=>one C (fun z hz k=>(hC z hz k).1) x' m1 r hr c1
  rcases (hA y).1 (Zg3.1 hy).2 with m|m
  ·exact all y m
  ·have k:=(hC _ (fm _ m) (all _ m)).2
   rw [S.opp (fm _ m),ZbJ hc (Zg3.1 hy).1] at k
   exact k
 have hpf:p∈f:=by rw [hf];simp
 have V:=Sub.val hc Cl hV _ (flt l A) hm S Cm ⟨p,fm p hpf⟩ (Nat.le_refl _)
 have r4:=((Zdn hm).1 V).1 f cy
 -- its turns are none in all
 have e1:zi (flt l A) f=(f.map fun q=>ph d0 (bh (flt l A) q).2-ph d0 q.2).sum:=by
  unfold zi tns
  congr 1
  refine List.map_congr_left fun q hq=>?_
  obtain ⟨i,hi,e⟩:=ZbC hq
  rw [← e,bhm i hi]
  exact ZqV h4 (at_ i hi).1.2.1 (at_ _ (nlt i hi)).1.2.1 (fD _ (Zao hi)) (fD _ (Zao (nlt i hi))) (nob i hi)
 have pm:(f.map (bh (flt l A))).Perm f:=by
  have nd2:(f.map (bh (flt l A))).Nodup:=List.pairwise_map.2 (fn.imp_of_mem fun {a b} ha hb hne he=>hne (Zcm hm (fm a ha) (fm b hb) he))
  have sub:∀ x∈f.map (bh (flt l A)),x∈f:=fun x hx=>by
   obtain ⟨q,hq,rfl⟩:=List.mem_map.1 hx
   exact cy.cl q hq
  exact (List.perm_ext_iff_of_nodup nd2 fn).2 fun x=>⟨sub x,Zg4 nd2 fn sub (by simp) x⟩
 have e2:(f.map fun q=>ph d0 (bh (flt l A) q).2).sum=(f.map fun q=>ph d0 q.2).sum:=by
  have:=Zdi (f:=fun q:Da=>ph d0 q.2) pm
  rw [List.map_map] at this
  exact this
 rw [Zl0 (f:=fun q=>ph d0 (bh (flt l A) q).2) (g:=fun q=>ph d0 q.2),e2] at e1
 omega
theorem pot {l:List Za}(hc:Ck l) (hV:Val l) (Cl:Cn l) {d0:Nat}(h4:d0<4):∃ φ:Nat→Nat,(∀ x,φ x≤l.length)∧(∀ p,isD l p→p.2=d0→φ p.1<φ (nx l p.1 p.2).toNat)∧∀ p,isD l p→p.2=(d0+1)%4∨p.2=(d0+3)%4→φ p.1=φ (nx l p.1 p.2).toNat:=by
 obtain ⟨R,hR⟩:∃ R:Nat→Nat→Prop,∀ x y,R x y↔∃ s,Wk l x s y∧∀ q∈s,q.2≠(d0+2)%4:=⟨fun x y=>∃ s,Wk l x s y∧∀ q∈s,q.2≠(d0+2)%4,fun _ _=>Iff.rfl⟩
 obtain ⟨B,hB⟩:∃ B:Nat→Nat→Bool,∀ x y,B x y=true↔R x y:=⟨fun x y=>@decide (R x y) (Classical.propDecidable _),fun x y=>by simp⟩
 have step:∀ p,isD l p→p.2≠(d0+2)%4→∀ y,R (nx l p.1 p.2).toNat y→R p.1 y:=by
  intro p hp h y hy
  obtain ⟨s,w,d⟩:=(hR _ _).1 hy
  refine (hR _ _).2 ⟨p::s,⟨rfl,hp,w⟩,fun q hq=>?_⟩
  rcases List.mem_cons.1 hq with rfl|hq
  ·exact h
  ·exact d q hq
 have len:∀ x,((List.range l.length).filter (B x)).length≤l.length:=fun x=>by
  have:=List.length_filter_le (B x) (List.range l.length)
  simpa using this
 refine ⟨fun x=>l.length-((List.range l.length).filter (B x)).length,fun x=>Nat.sub_le _ _,fun p hp h=>?_,fun p hp h=>?_⟩
 ·have hl:=p.2
  have s:=step p hp (by have:=hp.2.1;omega)
  have f:=hp.fwd hc
  have:((List.range l.length).filter (B (nx l p.1 p.2).toNat)).length+1≤((List.range l.length).filter (B p.1)).length:=by
   have nd:(p.1::(List.range l.length).filter (B (nx l p.1 p.2).toNat)).Nodup:=by
    refine List.nodup_cons.2 ⟨fun m=>?_,List.nodup_range.filter _⟩
    have:=(hB _ _).1 (List.mem_filter.1 m).2
    obtain ⟨t,w,d⟩:=(hR _ _).1 this
    exact ZmU hc hV Cl h4 hp h w d
   have:=nd.length_le_of_subset (l₂:=(List.range l.length).filter (B p.1)) (fun x hx=>by
    rcases List.mem_cons.1 hx with rfl|hx
    ·exact List.mem_filter.2 ⟨List.mem_range.2 hp.1,(hB _ _).2 ((hR _ _).2 ⟨[],rfl,by simp⟩)⟩
    ·obtain ⟨a,b⟩:=List.mem_filter.1 hx
     exact List.mem_filter.2 ⟨a,(hB _ _).2 (s x ((hB _ _).1 b))⟩)
   simpa using this
  have:=len p.1
  show l.length-_<l.length-_
  omega
 ·have f:=hp.fwd hc
  have ho:=hp.opp hc
  have h2:=hp.2.1
  have e:∀ y,R p.1 y↔R (nx l p.1 p.2).toNat y:=by
   intro y
   refine ⟨fun k=>?_,step p hp (by omega) y⟩
   have:=step _ ho (by unfold opp;dsimp only;omega) y
   have o:(nx l (opp l p).1 (opp l p).2).toNat=p.1:=congrArg Prod.fst (ZbJ hc hp)
   rw [o] at this
   exact this k
  have:B p.1=B (nx l p.1 p.2).toNat:=by
   funext y
   have:=e y
   rw [← hB,← hB] at this
   cases h1:B p.1 y<;>cases h2:B (nx l p.1 p.2).toNat y<;>simp_all
  show l.length-_=l.length-_
  rw [this]
end Mu
/- An edge more,from corner to corner of one loop. -/
namespace Mu
theorem Zig {l:List Za}(h0:0<l.length) (h:∀ w,w<l.length→∃ n,Rch l 0 n w):whole l:=by
 have e1:PS l 1=([Zd8 l 0 l.length],Ze3 l 0 (List.replicate l.length false) l.length):=by
  have g:gi (PS l 0).2 0=false:=by
   show gi (List.replicate l.length false) 0=false
   rw [ZaM (by simp;omega)];simp
  rw [PS,if_neg (by rw [g];decide)]
  rfl
 have key:∀ n,n+1≤l.length→PS l (n+1)=PS l 1:=by
  intro n
  induction n with
  | zero=>intro _;rfl
  | succ n ih =>
   intro hn
   have i:=ih (by omega)
   rw [PS,if_pos]
   ·exact i
   ·rw [i,e1]
    dsimp only
    rw [Ze0 (by omega),if_pos (by omega),ZgQ.2 (h (n+1) (by omega)),Bool.or_true]
 have k:=key (l.length-1) (by omega)
 rw [show l.length-1+1=l.length by omega] at k
 unfold whole
 rw [k,e1]
 rfl
theorem Rch.mono {l m:List Za}(h:∀ a b,a<l.length→Adj l a b→Adj m a b) (hc:Ck l) {v n w:Nat}(hv:v<l.length) (hr:Rch l v n w):Rch m v n w:=by
 induction hr with
 | zero=>exact .zero
 | succ hr hab ih=>exact .succ ih (h _ _ (hr.lt hc hv) hab)
theorem Del.of_wth {l:List Za}(hc:Ck l) {v d w:Nat}{o:Int}(hv:v<l.length) (hw:w<l.length) (hvw:v≠w) (hd:d<4) (h1:Mu.nx l v d=-1) (h2:Mu.nx l w ((d+2)%4)=-1):Del (wth l v d w o) l v d w:=by
 have nw:=fun u e (hu:u<l.length) (he:e<4)=>(Zd6 (o:=o) hv hw hvw hd hu he).1
 have hlen:(wth l v d w o).length=l.length:=Zab
 refine ⟨hlen.symm,by rw [hlen];exact hv,hd,by rw [hlen];exact hw,by rw [nw v d hv hd,if_pos ⟨rfl,rfl⟩],fun u e hu he=>?_⟩
 rw [hlen] at hu
 rw [nw u e hu he]
 by_cases c1:u=v∧e=d
 ·rw [if_pos (.inl c1),c1.1,c1.2,h1]
 ·by_cases c2:u=w∧e=(d+2)%4
  ·rw [if_pos (.inr c2),c2.1,c2.2,h2]
  ·rw [if_neg (by rintro (q|q);exact c1 q;exact c2 q),if_neg c1,if_neg c2]
theorem Del.whole {l m:List Za}(hc:Ck l) (hm:Ck m) {v d w:Nat}(D:Del l m v d w) (h:whole m):Mu.whole l:=by
 have h0:=ZdO h
 have len:=D.len
 refine Zig (by omega) fun u hu=>?_
 obtain ⟨n,r⟩:=ZcK h (w:=u) (by omega)
 refine ⟨n,r.mono (fun a b ha hab=>?_) hm (by omega)⟩
 obtain ⟨e,he,q⟩:=hab
 have:=D.nx a e (by omega) he
 rw [q] at this
 refine ⟨e,he,?_⟩
 split at this
 ·omega
 ·exact this.symm
theorem ZmY:∀ a b c d:Bool,∀ i j:Fin 4,(!(Zct a b c d j.1)&&Zct a b c d ((i.1+2)%4)&&decide (tn i.1 (prv (Zct a b c d) i.1)<tn i.1 j.1))=true→prv (fun e=>Zct a b c d e||(e == j.1)) i.1=j.1:=by decide +kernel
theorem Del.enter {l m:List Za}(hc:Ck l) (hm:Ck m) {v d w:Nat}(D:Del l m v d w) {x:Da}(hx:Mu.isD m x):((Mu.nx m x.1 x.2).toNat=v→tt m x<tn x.2 d→Mu.bh l x=(v,d))∧((Mu.nx m x.1 x.2).toNat=w→tt m x<tn x.2 ((d+2)%4)→Mu.bh l x=(w,(d+2)%4)):=by
 have hd:=D.hd
 have hne:=D.ne hc
 have f:=hx.fwd hm
 have x4:=hx.2.1
 have ex:=D.nx' hx
 have key:∀ {u j:Nat},u<l.length→j<4→(Mu.nx m x.1 x.2).toNat=u→tt m x<tn x.2 j→(∀ e,e<4→(0≤Mu.nx l u e↔(0≤Mu.nx m u e∨e=j)))→¬ 0≤Mu.nx m u j→Mu.bh l x=(u,j):=by
  intro u j hu hj e1 e2 e3 e4
  rw [Zcd,← ex,e1]
  refine Prod.ext rfl ?_
  dsimp only
  rw [e1] at f
  have t0:tn x.2 (prv (fun e=>decide (0≤Mu.nx m u e)) x.2)<tn x.2 j:=by
   have:tt m x=tn x.2 (prv (fun e=>decide (0≤Mu.nx m u e)) x.2):=by unfold tt;rw [Zcd,e1]
   rw [← this];exact e2
  have q:=ZmY (decide (0≤Mu.nx m u 0)) (decide (0≤Mu.nx m u 1)) (decide (0≤Mu.nx m u 2)) (decide (0≤Mu.nx m u 3)) ⟨x.2,x4⟩ ⟨j,hj⟩
  have se:∀ e,e<4→Zct (decide (0≤Mu.nx m u 0)) (decide (0≤Mu.nx m u 1)) (decide (0≤Mu.nx m u 2)) (decide (0≤Mu.nx m u 3)) e=decide (0≤Mu.nx m u e):=fun e he=>ZcG (A:=fun e=>decide (0≤Mu.nx m u e)) he
  dsimp only at q
  rw [se _ hj,se _ (by omega),Zdm (A:=fun e=>decide (0≤Mu.nx m u e)) x4] at q
  have q:=q (by rw [decide_eq_false e4,f.2];simp [t0])
  refine (ZcJ (fun e he=>?_) x4).trans q
  rw [se e he]
  rw [Bool.eq_iff_iff]
  simp [e3 e he]
 have nw:=fun u e (hu:u<l.length) (he:e<4)=>D.nx u e hu he
 constructor
 ·intro e1 e2
  have:=nw v d D.hv hd
  rw [if_pos (.inl ⟨rfl,rfl⟩)] at this
  refine key D.hv hd e1 e2 (fun e he=>?_) (by omega)
  have n:=nw v e D.hv he
  by_cases c:e=d
  ·subst c;rw [D.hn];exact ⟨fun _=>.inr rfl,fun _=>by omega⟩
  ·rw [if_neg (by rintro (q|q);exact c q.2;exact hne q.1.symm)] at n
   rw [n]
   exact ⟨fun q=>.inl q,fun q=>q.resolve_right c⟩
 ·intro e1 e2
  have:=nw w ((d+2)%4) D.hw (by omega)
  rw [if_pos (.inr ⟨rfl,rfl⟩)] at this
  refine key D.hw (by omega) e1 e2 (fun e he=>?_) (by omega)
  have n:=nw w e D.hw he
  by_cases c:e=(d+2)%4
  ·subst c;rw [D.hb hc];exact ⟨fun _=>.inr rfl,fun _=>by omega⟩
  ·rw [if_neg (by rintro (q|q);exact hne q.1;exact c q.2)] at n
   rw [n]
   exact ⟨fun q=>.inl q,fun q=>q.resolve_right c⟩
theorem Del.back {l m:List Za}(hc:Ck l) {v d w:Nat}(D:Del l m v d w):∀ {s:List Da}{p q:Da},Pt m p s q→(∀ a∈s,Mu.bh l a≠(v,d)∧Mu.bh l a≠(w,(d+2)%4))→Pt l p s q∧zi l s=zi m s
 | [],p,q,h,_=>⟨h,rfl⟩
 | a::s,p,q,h,hs=>by
  rw [Pt] at h
  obtain ⟨rfl,h1,h2⟩:=h
  have k:=hs p (by simp)
  have b:=D.bh hc h1
  rw [if_neg k.1,if_neg k.2,if_neg k.1,if_neg k.2] at b
  rw [b.1] at h2
  obtain ⟨i1,i2⟩:=D.back hc h2 fun a ha=>hs a (List.mem_cons_of_mem _ ha)
  exact ⟨⟨rfl,(D.isD.1 h1).1,i1⟩,by rw [Za5,Za5,i2,b.2]⟩
theorem Del.chord {l m:List Za}(hc:Ck l) (hm:Ck m) {v d w:Nat}(D:Del l m v d w) {A B:List Da}{x y:Da}(hL:Lp m (B++[y]++(A++[x]))) (hx:Mu.bh l x=(v,d)) (hy:Mu.bh l y=(w,(d+2)%4)) :
  Lp l ((w,(d+2)%4)::(B++[y]))∧Lp l ((v,d)::(A++[x])) ∧
  zi l ((w,(d+2)%4)::(B++[y]))=zi m (B++[y])+tt m x-tt m y+2-tn x.2 d+tn y.2 ((d+2)%4) ∧
  zi l ((w,(d+2)%4)::(B++[y]))+zi l ((v,d)::(A++[x]))=zi m (B++[y]++(A++[x]))+4:=by
 have is:=hL.is
 obtain ⟨p,P⟩:=hL.pt
 obtain ⟨r,P1,P2⟩:=Pt.app.1 P
 obtain ⟨y',Q1,Q2⟩:=Pt.app.1 P1
 obtain ⟨x',R1,R2⟩:=Pt.app.1 P2
 rw [Pt,Pt] at Q2 R2
 obtain ⟨rfl,dy,ey⟩:=Q2
 obtain ⟨rfl,dx,ex⟩:=R2
 have nd:=hL.nd
 have ee:=D.ee hc
 have bx:=D.bh hc dx
 have by':=D.bh hc dy
 rw [hx,if_pos rfl,if_pos rfl] at bx
 rw [hy,if_neg ee,if_pos rfl,if_neg ee,if_pos rfl] at by'
 have nd1:=List.nodup_append.1 nd
 have nd2:=List.nodup_append.1 nd1.1
 have nd3:=List.nodup_append.1 nd1.2.1
 have ne1:∀ a∈B,Mu.bh l a≠(v,d)∧Mu.bh l a≠(w,(d+2)%4):=by
  intro a ha
  have da:=(D.isD.1 (is a (by simp [ha]))).1
  refine ⟨fun q=>?_,fun q=>?_⟩
  ·rw [← hx] at q
   have:=Zcm hc da (D.isD.1 dx).1 q
   exact nd1.2.2 a (by simp [ha]) x' (by simp) this
  ·rw [← hy] at q
   have:=Zcm hc da (D.isD.1 dy).1 q
   exact nd2.2.2 a ha y' (by simp) this
 have ne2:∀ a∈A,Mu.bh l a≠(v,d)∧Mu.bh l a≠(w,(d+2)%4):=by
  intro a ha
  have da:=(D.isD.1 (is a (by simp [ha]))).1
  refine ⟨fun q=>?_,fun q=>?_⟩
  ·rw [← hx] at q
   have:=Zcm hc da (D.isD.1 dx).1 q
   exact nd3.2.2 a ha x' (by simp) this
  ·rw [← hy] at q
   have:=Zcm hc da (D.isD.1 dy).1 q
   exact nd1.2.2 y' (by simp) a (by simp [ha]) this.symm
 obtain ⟨B1,B2⟩:=D.back hc Q1 ne1
 obtain ⟨A1,A2⟩:=D.back hc R1 ne2
 have e1:Mu.bh l (w,(d+2)%4)=p:=by rw [← bx.1,ex]
 have e2:Mu.bh l (v,d)=r:=by rw [← by'.1,ey]
 have notm:∀ {s:List Da},(∀ a∈s,Mu.isD m a)→(v,d) ∉ s∧(w,(d+2)%4) ∉ s:=fun h=>⟨fun q=>(D.isD.1 (h _ q)).2.1 rfl,fun q=>(D.isD.1 (h _ q)).2.2 rfl⟩
 have iB:∀ a∈B++[y'],Mu.isD m a:=fun a ha=>is a (List.mem_append.2 (.inl ha))
 have iA:∀ a∈A++[x'],Mu.isD m a:=fun a ha=>is a (List.mem_append.2 (.inr ha))
 have t1:tt l x'=tn x'.2 d:=by unfold tt;rw [hx]
 have t2:tt l y'=tn y'.2 ((d+2)%4):=by unfold tt;rw [hy]
 refine ⟨⟨by simp,List.nodup_cons.2 ⟨(notm iB).2,nd1.1⟩,(w,(d+2)%4),rfl,D.e' hc,?_⟩,⟨by simp,List.nodup_cons.2 ⟨(notm iA).1,nd1.2.1⟩,(v,d),rfl,D.e,?_⟩,?_,?_⟩
 ·rw [e1]
  exact Pt.app.2 ⟨y',B1,rfl,(D.isD.1 dy).1,hy⟩
 ·rw [e2]
  exact Pt.app.2 ⟨x',A1,rfl,(D.isD.1 dx).1,hx⟩
 ·rw [Za5,Zcw,Zcw,Za5,Za5,Zcx,Zcx,B2]
  rw [t2]
  have:=bx.2
  rw [t1] at this
  omega
 ·have a1:=bx.2
  have a2:=by'.2
  rw [Za5,Za5,Zcw,Zcw,Zcw,Zcw,Zcw]
  simp only [Za5,Zcx]
  omega
theorem Del.chord_val {l m:List Za}(hc:Ck l) (hm:Ck m) {v d w:Nat}(D:Del l m v d w) {A B:List Da}{x y:Da}(hL:Lp m (B++[y]++(A++[x]))) (hx:Mu.bh l x=(v,d)) (hy:Mu.bh l y=(w,(d+2)%4)) (h4:zi m (B++[y])+tt m x-tt m y+2-tn x.2 d+tn y.2 ((d+2)%4)=4) (h:Val m):Val l:=by
 obtain ⟨k1,k2,k3,k4⟩:=D.chord hc hm hL hx hy
 rw [h4] at k3
 obtain ⟨h1,h2⟩:=(Zdn hm).1 h
 have r:=h1 _ hL.cyc
 have ee:=D.ee hc
 have iA:∀ a∈A++[x],Mu.isD m a:=fun a ha=>hL.is a (List.mem_append.2 (.inr ha))
 have nA:(w,(d+2)%4) ∉ (v,d)::(A++[x]):=by
  intro q
  rcases List.mem_cons.1 q with q|q
  ·exact ee q
  ·exact (D.isD.1 (iA _ q)).2.2 rfl
 have X:Mu.chi l=4:=by
  have a1:=D.cD hc
  have a2:=D.cV hc
  have b1:=Zea hc D.e
  have b2:=Zea hc (D.e' hc)
  rw [D.opp] at b1
  rw [← D.opp,ZbJ hc D.e,D.opp] at b2
  dsimp only at b1 b2
  cases D.kind hc with
  | two A' B' R hA hB hl hm' rot same n1 n2 lm =>
   have f1:=hl.len (Fcs.faces hc)
   have f2:=hm'.len (Fcs.faces hm)
   simp only [List.length_cons] at f1 f2
   rw [if_neg fun q=>n2 (b2.2 q),if_neg fun q=>n1 (b1.2 q)] at a2
   unfold Mu.chi at h2 ⊢
   omega
  | one A' B' R hA hl hm' rot same n1 n2 lA lB=>exact absurd (hA.cyc.sub k2.cyc (p:=(v,d)) (by simp) (by simp) (w,(d+2)%4) (by simp)) nA
  | leaf A' R hA hl hm' rot same n=>exact absurd (hA.sub k2.cyc (p:=(v,d)) (by simp) (by simp) (w,(d+2)%4) (by simp)) nA
  | iso R hA hl hm' same n1 n2=>exact absurd (hA.sub k2.cyc (p:=(v,d)) (by simp) (by simp) (w,(d+2)%4) (by simp)) nA
 refine (Zdn hc).2 ⟨fun f hf=>?_,X⟩
 by_cases c1:(v,d)∈f
 ·rw [ZbM (hf.perm k2.cyc c1 (by simp))];omega
 ·by_cases c2:(w,(d+2)%4)∈f
  ·rw [ZbM (hf.perm k1.cyc c2 (by simp))];omega
  ·obtain ⟨q1,q2⟩:=D.keep hc hf c1 c2
   rw [← q2];exact h1 f q1
end Mu
/- Layer 20: FrontFirst. -/
namespace Mu
def ZjR (t:List Int):Option Nat:=(List.range t.length).find? fun k=>decide (gi t k<0)
theorem Zl9 {t:List Int}(ht:t.length≤1000000):za t (fun y0=>ZbO y0)=some (match ZjR t with|some k=>(k:Int)|none=>-1):=by
 have h:ZZ (za.s0 t (fun y0=>ZbO y0)) big 0=some (match (List.range t.length).find? (fun k=>decide (gi t k<0)) with|some i=>.inr (i:Int)|none=>.inl ()):=by
  refine Zdx (n:=t.length) (P:=fun k=>decide (gi t k<0)) (f:=fun i=>(i:Int)) (ZaN (by omega)) (fun i hi=>?_) ?_
  ·simp only [za.s0,ZbO]
   rw [ZB (by omega),Zt (by omega),itn,obs,zN (by omega)]
   cases decide (gi t i<0)<;>rfl
  ·simp only [za.s0]
   rw [Z9 (by omega)]
 unfold za ZjR
 rw [h,obs]
 cases (List.range t.length).find? (fun k=>decide (gi t k<0))<;>rfl
noncomputable def gF (l:List Za) (i:Nat):Option Nat:=if (i:Int)=ZfS l then none else ZjR (tns l (gi (faces l) i))
noncomputable def Zdo (l:List Za):Option Nat:=(List.range (faces l).length).find? fun i=>(gF l i).isSome
theorem Zog {l:List Za}(hl:l.length≤1200):ZaS l=some (if Zc1 l=0∧l.length≠1 then (match Zdo l with|some i=>((i:Int),(((gF l i).getD 0:Nat):Int),true)|none=>(0,0,false)) else (0,0,false)):=by
 unfold ZaS
 rw [Zjk (by omega),obs]
 by_cases e:Zc1 l=0
 ·rw [if_pos e]
  by_cases c:l.length=1
  ·rw [if_pos c,if_neg fun h=>h.2 c]
   rfl
  ·rw [if_neg c,if_pos ⟨e,c⟩]
   obtain ⟨k,w,_⟩:=ZdR e
   have hc:=(Zda.1 k).2
   obtain ⟨o1,o2,o3,_⟩:=Zd4 hc
   dsimp only
   rw [Za4 rfl,Zjg (by omega) k,obs]
   dsimp only
   have L:ZZ (ZaS.s0 l (ZfS l) ((faces l).map (List.map dt))) big 0=some (match (List.range (faces l).length).find? (fun i=>(gF l i).isSome) with|some i=>.inr ((i:Int),(((gF l i).getD 0:Nat):Int))|none=>.inl ()):=by
    refine Zdx (n:=(faces l).length) (P:=fun i=>(gF l i).isSome) (f:=fun i=>((i:Int),(((gF l i).getD 0:Nat):Int))) (ZaN (by omega)) (fun i hi=>?_) ?_
    ·have hm:=Zao hi
     have fl:=o3 _ hm
     simp only [ZaS.s0,itn]
     rw [ZB (by simp;omega),Zt (by simp;omega),Zcj hi,Zjj (by omega) k (o1 _ hm) (by omega),obs,Zl9 (by rw [Zeq];omega),obs]
     unfold gF
     by_cases q:(i:Int)=ZfS l
     ·rw [if_pos q,if_neg (by simp [q]),zN (by omega)]
      rfl
     ·rw [if_neg q]
      cases ZjR (tns l (gi (faces l) i)) with
      | none=>rw [if_neg (by simp),zN (by omega)];rfl
      | some j=>rw [if_pos (by simp [q])];rfl
    ·simp only [ZaS.s0]
     rw [Z9 (by simp)]
   rw [L,obs]
   unfold Zdo
   cases (List.range (faces l).length).find? (fun i=>(gF l i).isSome)<;>rfl
 ·rw [if_neg e,if_neg fun h=>e h.1]
  dsimp only
  rw [Zbi e]
end Mu
/- Layer 20: what a turn to the right faces,by sums. -/
namespace Mu
def Rng (t:List Int):Prop:=∀ i,-2≤gi t i∧gi t i≤1
theorem Zhs {t:List Int}(h:Rng t) (ht:t.length≤1000000):ZbW t=some true:=by
 unfold ZbW Zbg za
 rw [Zdx (n:=t.length) (P:=fun _=>false) (f:=fun i=>(i:Int)) (ZaN (by omega))]
 ·have:(List.range t.length).find? (fun _=>false)=none:=by rw [List.find?_range_eq_none];intro i _;rfl
  rw [this]
  simp
 ·intro i hi
  have:=h i
  simp only [za.s0,Zcu,itn]
  rw [ZB (by omega),Zt (by omega),obs,ZbB (by omega),ZbB (by omega),if_neg (by decide),zN (by omega),if_neg (by decide)]
 ·simp only [za.s0]
  rw [Z9 (by omega)]
def cs (t:List Int) (i:Nat):Nat→Int
 | 0=>0
 | k+1=>cs t i k+gi t ((i+k)%t.length)
theorem Zmv {t:List Int}(h:Rng t) {i:Nat}:∀ k:Nat,-2*(k:Int)≤cs t i k∧cs t i k≤k
 | 0=>by simp [cs]
 | k+1=>by
  have:=Zmv h (i:=i) k
  have:=h ((i+k)%t.length)
  rw [cs];omega
theorem ZkA {t:List Int}(h:Rng t) (ht:t.length≤1000000) {i k:Nat}(hi:i<t.length) (hk:k<t.length):Zba.s0 t i (cs t i k,(k:Int))=some (if cs t i (k+1)=1 then .inr (.inr ((((i+k)%t.length+1)%t.length:Nat):Int)) else .inl (cs t i (k+1),((k+1:Nat):Int))):=by
 have r:=Zmv h (i:=i) k
 have g:=h ((i+k)%t.length)
 have m:((i:Int)+(k:Int)).tmod (t.length:Int)=(((i+k)%t.length:Nat):Int):=by
  rw [Int.tmod_eq_emod_of_nonneg (by omega)];rfl
 have lt:(i+k)%t.length<t.length:=Nat.mod_lt _ (by omega)
 simp only [Zba.s0]
 rw [ZB (by omega),zN (by omega),Zt (by omega),m,Zt (by omega),itn,zN (by omega)]
 by_cases c:cs t i (k+1)=1
 ·have c':cs t i k+gi t ((i+k)%t.length)=1:=c
  rw [ZB c',zN (by omega),if_pos c]
  have m2:((((i+k)%t.length:Nat):Int)+1).tmod (t.length:Int)=((((i+k)%t.length+1)%t.length:Nat):Int):=by
   rw [Int.tmod_eq_emod_of_nonneg (by omega)];rfl
  rw [m2]
 ·have c':¬ cs t i k+gi t ((i+k)%t.length)=1:=c
  rw [Z9 c',zN (by omega),if_neg c]
  rfl
theorem ZmK {t:List Int}(h:Rng t) (ht:t.length≤1000000) {i k:Nat}(hi:i<t.length) (h0:gi t i<0) (hk:k<t.length) (h1:cs t i (k+1)=1) (h2:∀ j,j<k→cs t i (j+1)≠1):Zba t i=some (((((i+k)%t.length+1)%t.length:Nat):Int),true):=by
 unfold Zba
 rw [Zhs h ht,obs,if_neg (by simp;omega),Zt (by omega),itn,obs,ZbB (by omega),if_neg (by decide)]
 rw [ZbP (fun j:Nat=>(cs t i j,(j:Int))) (s0:=((0:Int),(0:Int))) (n:=k) (r:=.inr ((((i+k)%t.length+1)%t.length:Nat):Int)) (ZaN (by omega)) rfl (fun j hj=>?_) ?_]
 ·rfl
 ·rw [ZkA h ht hi hk,if_pos h1]
 ·rw [ZkA h ht hi (by omega),if_neg (h2 j hj)]
theorem Zoi {t:List Int}(h:Rng t) (ht:t.length≤1000000) {i:Nat}(hi:i<t.length) (h2:∀ j,j<t.length→cs t i (j+1)≠1):Zba t i=some (0,false):=by
 unfold Zba
 rw [Zhs h ht,obs,if_neg (by simp;omega),Zt (by omega),itn,obs]
 by_cases c:0≤gi t i
 ·rw [Zbx c,if_pos rfl]
 ·rw [ZbB c,if_neg (by decide)]
  rw [ZbP (fun j:Nat=>(cs t i j,(j:Int))) (s0:=((0:Int),(0:Int))) (n:=t.length) (r:=.inl ()) (ZaN (by omega)) rfl (fun j hj=>?_) ?_]
  ·rfl
  ·simp only [Zba.s0]
   rw [Z9 (by omega)]
  ·rw [ZkA h ht hi hj,if_neg (h2 j hj)]
theorem ZqC {t:List Int}(h:Rng t) (ht:t.length≤1000000) {i:Nat}(hi:i<t.length) (h0:0≤gi t i):Zba t i=some (0,false):=by
 unfold Zba
 rw [Zhs h ht,obs,if_neg (by simp;omega),Zt (by omega),itn,obs,Zbx h0,if_pos rfl]
theorem ZiT {t:List Int}{i:Nat}(hi:i<t.length):∀ k,k≤t.length→cs t i k=if i+k≤t.length then Ze4 t (i+k)-Ze4 t i else Ze4 t t.length-Ze4 t i+Ze4 t (i+k-t.length)
 | 0,_=>by rw [if_pos (by omega),cs];simp
 | k+1,hk=>by
  rw [cs,ZiT hi k (by omega)]
  by_cases c:i+(k+1)≤t.length
  ·rw [if_pos (by omega),if_pos c,Nat.mod_eq_of_lt (by omega),show i+(k+1)=(i+k)+1 by omega,Ze4];omega
  ·rw [if_neg c]
   by_cases c2:i+k≤t.length
   ·have e:i+k=t.length:=by omega
    rw [if_pos c2,e,Nat.mod_self,show i+(k+1)-t.length=0+1 by omega,Ze4,Ze4];omega
   ·rw [if_neg c2,show i+(k+1)-t.length=(i+k-t.length)+1 by omega,Ze4,Nat.mod_eq_sub_mod (by omega),Nat.mod_eq_of_lt (by omega)];omega
theorem Zi7 {t:List Int}:∀ n,n≤t.length→Ze4 t n=(t.take n).sum
 | 0,_=>by simp [Ze4]
 | n+1,h=>by rw [Ze4,Zi7 n (by omega),Zic (by omega)]
theorem ZfN {t:List Int}:Ze4 t t.length=t.sum:=by rw [Zi7 _ (Nat.le_refl _),List.take_length]
theorem Zrm {t:List Int}(h:Rng t) (hs:t.sum=4) {i:Nat}(hi:i<t.length) (h0:gi t i<0):∃ k,0<k∧k+1<t.length∧cs t i (k+1)=1∧(∀ j,j<k→cs t i (j+1)≠1)∧cs t i k=0∧gi t ((i+k)%t.length)=1:=by
 have all:cs t i t.length=4:=by
  rw [ZiT hi _ (Nat.le_refl _),ZfN,hs]
  split
  ·have:i=0:=by omega
   subst this
   rw [show 0+t.length=t.length by omega,ZfN,hs,Ze4];rfl
  ·rw [show i+t.length-t.length=i by omega];omega
 have first:cs t i 1=gi t i:=by rw [cs,cs,Nat.add_zero,Nat.mod_eq_of_lt hi];omega
 have key:∀ n,1≤n→1≤cs t i n→∃ k,0<k∧k+1≤n∧cs t i (k+1)=1∧(∀ j,j<k+1→cs t i j≤0):=by
  intro n
  induction n with
  | zero=>intro h1 _;omega
  | succ n ih =>
   intro _ h2
   by_cases c:∃ j,j<n+1∧1≤cs t i j
   ·obtain ⟨j,hj,hc⟩:=c
    -- a smaller one
    have:∀ m,m≤n→1≤cs t i m→∃ k,0<k∧k+1≤n∧cs t i (k+1)=1∧(∀ j,j<k+1→cs t i j≤0):=by
     intro m
     induction m with
     | zero=>intro _ h3;rw [cs] at h3;omega
     | succ m ihm =>
      intro hm h3
      by_cases c:1≤cs t i n
      ·exact ih (by
        by_cases q:n=0
        ·subst q;rw [cs] at c;omega
        ·omega) c
      ·by_cases c2:∃ j,j<m+1∧1≤cs t i j
       ·obtain ⟨j,hj,hc⟩:=c2
        by_cases q:j=m
        ·subst q;exact ihm (by omega) hc
        ·-- go down
         have down:∀ r,r≤m→1≤cs t i r→∃ k,0<k∧k+1≤n∧cs t i (k+1)=1∧(∀ j,j<k+1→cs t i j≤0):=by
          intro r
          induction r using Nat.strongRecOn with
          | _ r ihr =>
           intro hr h4
           by_cases c3:∃ j,j<r∧1≤cs t i j
           ·obtain ⟨j,hj,hc⟩:=c3
            exact ihr j hj (by omega) hc
           ·cases r with
            | zero=>rw [cs] at h4;omega
            | succ r =>
             have z:∀ j,j<r+1→cs t i j≤0:=fun j hj=>by
              refine Classical.byContradiction fun q=>c3 ⟨j,hj,by omega⟩
             have:=z r (by omega)
             have g:=h ((i+r)%t.length)
             have e:=h4
             rw [cs] at e
             refine ⟨r,?_,by omega,?_,z⟩
             ·by_cases q:r=0
              ·subst q;rw [first] at h4;omega
              ·omega
             ·rw [cs];omega
         exact down j (by omega) hc
       ·have z:∀ j,j<m+1→cs t i j≤0:=fun j hj=>by
         refine Classical.byContradiction fun q=>c2 ⟨j,hj,by omega⟩
        have:=z m (by omega)
        have g:=h ((i+m)%t.length)
        have e:=h3
        rw [cs] at e
        refine ⟨m,?_,by omega,?_,z⟩
        ·by_cases q:m=0
         ·subst q;rw [first] at h3;omega
         ·omega
        ·rw [cs];omega
    obtain ⟨k,a,b,c,d⟩:=this j (by omega) hc
    exact ⟨k,a,by omega,c,d⟩
   ·have z:∀ j,j<n+1→cs t i j≤0:=fun j hj=>by
     refine Classical.byContradiction fun q=>c ⟨j,hj,by omega⟩
    have:=z n (by omega)
    have g:=h ((i+n)%t.length)
    have e:=h2
    rw [cs] at e
    refine ⟨n,?_,by omega,?_,z⟩
    ·by_cases q:n=0
     ·subst q;rw [first] at h2;omega
     ·omega
    ·rw [cs];omega
 obtain ⟨k,a,b,c,d⟩:=key t.length (by omega) (by omega)
 have z:=d k (by omega)
 have c':=c
 rw [cs] at c'
 have g:=h ((i+k)%t.length)
 refine ⟨k,a,?_,c,fun j hj=>by have:=d (j+1) (by omega);omega,by omega,by omega⟩
 by_cases q:k+1=t.length
 ·rw [q] at c;omega
 ·omega
def ZgH (t:List Int) (i:Nat):Prop:=gi t i<0∧∀ j,j<t.length→cs t i (j+1)≠1
theorem ZjT {f:Nat→Int}:∀ n,0<n→∃ i,i<n∧(∀ j,j<n→f j≤f i)∧∀ j,i<j→j<n→f j<f i
 | 1,_=>⟨0,by omega,fun j hj=>by rw [show j=0 by omega];exact Int.le_refl _,fun j h1 h2=>by omega⟩
 | n+2,_=>by
  obtain ⟨i,h1,h2,h3⟩:=ZjT (f:=f) (n+1) (by omega)
  by_cases c:f i≤f (n+1)
  ·refine ⟨n+1,by omega,fun j hj=>?_,fun j h4 h5=>by omega⟩
   by_cases q:j=n+1
   ·subst q;omega
   ·have:=h2 j (by omega);omega
  ·refine ⟨i,by omega,fun j hj=>?_,fun j h4 h5=>?_⟩
   ·by_cases q:j=n+1
    ·subst q;omega
    ·exact h2 j (by omega)
   ·by_cases q:j=n+1
    ·subst q;omega
    ·exact h3 j h4 (by omega)
theorem ZqJ {t:List Int}(hs:t.sum=-4):∃ i,i<t.length∧ZgH t i:=by
 have h0:0<t.length:=by
  cases t with
  | nil=>simp at hs
  | cons a t=>simp
 obtain ⟨i,h1,h2,h3⟩:=ZjT (f:=Ze4 t) t.length h0
 have p0:Ze4 t 0=0:=rfl
 have m0:=h2 0 h0
 refine ⟨i,h1,?_,fun j hj=>?_⟩
 ·by_cases c:i+1<t.length
  ·have:=h3 (i+1) (by omega) c
   rw [Ze4] at this;omega
  ·have e:i+1=t.length:=by omega
   have:Ze4 t (i+1)=-4:=by rw [e,ZfN,hs]
   rw [Ze4] at this;omega
 ·rw [ZiT h1 _ (by omega),ZfN,hs]
  split
  ·by_cases c:i+(j+1)=t.length
   ·rw [c,ZfN,hs];omega
   ·have:=h2 (i+(j+1)) (by omega);omega
  ·have:=h2 (i+(j+1)-t.length) (by omega);omega
theorem Zp2 {t:List Int}(h:Rng t) (ht:t.length≤1000000) (hs:t.sum=-4):∃ i:Nat,i<t.length∧ZgH t i∧Zb5 t=some ((i:Int),true):=by
 obtain ⟨i0,h1,h2⟩:=ZqJ hs
 have least:∀ n,∀ i,i≤n→i<t.length→ZgH t i→∃ i,i<t.length∧ZgH t i∧∀ j,j<i→¬ ZgH t j:=by
  intro n
  induction n with
  | zero=>intro i hi hl ho;exact ⟨i,hl,ho,fun j hj=>by omega⟩
  | succ n ih =>
   intro i hi hl ho
   by_cases c:∃ j,j<i∧ZgH t j
   ·obtain ⟨j,hj,hjo⟩:=c
    exact ih j (by omega) (by omega) hjo
   ·exact ⟨i,hl,ho,fun j hj q=>c ⟨j,hj,q⟩⟩
 obtain ⟨i,hi,ho,hm⟩:=least i0 i0 (Nat.le_refl _) h1 h2
 refine ⟨i,hi,ho,?_⟩
 unfold Zb5
 rw [Zhs h ht,obs,if_neg (by decide)]
 rw [ZbP (fun j:Nat=>(j:Int)) (s0:=(0:Int)) (n:=i) (r:=.inr (i:Int)) (ZaN (by omega)) rfl (fun j hj=>?_) ?_]
 ·rfl
 ·simp only [Zb5.s0,itn]
  rw [ZB (by omega),Zt (by omega),Zoi h ht hi ho.2,obs]
  dsimp only
  rw [if_pos (by have:=ho.1;simp;omega)]
 ·simp only [Zb5.s0,itn]
  rw [ZB (by omega),Zt (by omega)]
  have nj:=hm j hj
  by_cases c:0≤gi t j
  ·rw [ZqC h ht (by omega) c,obs]
   dsimp only
   rw [if_neg (by simp;omega),zN (by omega)]
   congr 2
  ·have:∃ k,k<t.length∧cs t j (k+1)=1:=by
    refine Classical.byContradiction fun q=>nj ⟨by omega,fun k hk e=>q ⟨k,hk,e⟩⟩
   obtain ⟨k,hk,e⟩:=this
   have fst:∀ n,∀ k,k≤n→k<t.length→cs t j (k+1)=1→∃ k,k<t.length∧cs t j (k+1)=1∧∀ m,m<k→cs t j (m+1)≠1:=by
    intro n
    induction n with
    | zero=>intro k h1 h2 h3;exact ⟨k,h2,h3,fun m hm=>by omega⟩
    | succ n ih =>
     intro k h1 h2 h3
     by_cases c:∃ m,m<k∧cs t j (m+1)=1
     ·obtain ⟨m,hm,e⟩:=c
      exact ih m (by omega) (by omega) e
     ·exact ⟨k,h2,h3,fun m hm q=>c ⟨m,hm,q⟩⟩
   obtain ⟨k,hk,e,hl⟩:=fst k k (Nat.le_refl _) hk e
   rw [ZmK h ht (by omega) (by omega) hk e hl,obs]
   dsimp only
   rw [if_neg (by simp),zN (by omega)]
   congr 2
end Mu
/- A cut: an edge split,and a corner joined to it. -/
namespace Mu
/-! Faces,once round from their first Zce. -/
theorem ZkR {l:List Za}(hc:Ck l) {M:List Da}(hM:Mets l M) (cl:∀ p∈M,bh l p∈M) {x:Da}(hx:isD l x) (hn:x ∉ M):∃ K,walk l (4*l.length+1) M x=(List.range K).map (fun i=>it l i x)∧it l K x=x:=by
 obtain ⟨K,e1,e2⟩:=Zhw hc (4*l.length+1) M x hM hx (by omega)
 obtain ⟨C,_⟩:=ZgF hc hM cl hx hn
 refine ⟨K,e1,?_⟩
 have wnd:=C.nd
 have notM:∀ i,it l i x ∉ M:=by
  intro i
  induction i with
  | zero=>exact hn
  | succ i ih=>exact fun h=>ih (ZfF hc hM cl (Ze1 hc hx i) h)
 rcases List.mem_append.1 e2 with h|h
 ·exact absurd h (notM K)
 ·rw [e1] at h wnd
  obtain ⟨j,hj,e⟩:=List.mem_map.1 h
  rw [List.mem_range] at hj
  cases j with
  | zero=>exact e.symm
  | succ j =>
   cases K with
   | zero=>omega
   | succ K =>
    have:=Zcm hc (Ze1 hc hx j) (Ze1 hc hx K) e
    have q:=List.pairwise_map.1 wnd
    rw [List.pairwise_iff_getElem] at q
    have q2:=q j K (by simp;omega) (by simp) (by omega)
    rw [List.getElem_range,List.getElem_range] at q2
    exact absurd this q2
def Round (l:List Za) (f:List Da):Prop:=∃ x,isD l x∧f=(List.range f.length).map (fun i=>it l i x)∧it l f.length x=x
theorem Round.of {l:List Za}{f:List Da}{x:Da}{K:Nat}(hx:isD l x) (h:f=(List.range K).map (fun i=>it l i x)) (h2:it l K x=x):Round l f:=by
 have:f.length=K:=by rw [h];simp
 exact ⟨x,hx,by rw [this];exact h,by rw [this];exact h2⟩
structure FR (l:List Za) (s:List Da×List (List Da)):Prop where
 fc:FC l s
 rd:∀ f∈s.2,Round l f
theorem FR.st {l:List Za}(hc:Ck l) {s:List Da×List (List Da)}(h:FR l s) {p:Da}(h1:p.1<l.length) (h2:p.2<4):FR l (stF l s p):=by
 refine ⟨h.fc.st hc h1 h2,?_⟩
 unfold stF
 split
 ·exact h.rd
 ·rename_i c
  intro f hf
  rcases List.mem_append.1 hf with k|k
  ·exact h.rd f k
  ·rw [List.mem_singleton.1 k]
   have hp:isD l p:=⟨h1,h2,by omega⟩
   obtain ⟨K,a,b⟩:=ZkR hc h.fc.fi.m h.fc.cl hp fun q=>c (.inr q)
   exact Round.of hp a b
theorem FR.row {l:List Za}(hc:Ck l) {s:List Da×List (List Da)}(h:FR l s) {v:Nat}(hv:v<l.length):∀ e,e≤4→FR l (ZgR l v s e)
 | 0,_=>h
 | e+1,he=>(FR.row hc h hv e (by omega)).st hc hv (by dsimp only;omega)
theorem Zj8 {l:List Za}(hc:Ck l):∀ v,v≤l.length→FR l (FS l v)
 | 0,_=>⟨Zkn hc 0 (by omega),by simp [FS]⟩
 | v+1,hv=>(Zj8 hc v (by omega)).row hc (by omega) 4 (by omega)
theorem Zha {l:List Za}(hc:Ck l):∀ f∈faces l,Round l f:=(Zj8 hc l.length (by omega)).rd
theorem ZmD {l:List Za}{x:Da}(a:Nat):∀ b,it l (a+b) x=it l b (it l a x)
 | 0=>rfl
 | b+1=>by rw [← Nat.add_assoc,it,ZmD a b];rfl
theorem ZhI {l:List Za}{x:Da}{n:Nat}(h:it l n x=x):∀ k i,it l (i+n*k) x=it l i x
 | 0,i=>by rw [Nat.mul_zero,Nat.add_zero]
 | k+1,i=>by rw [Nat.mul_succ,← Nat.add_assoc,Nat.add_comm _ n,ZmD,h,ZhI h k i]
theorem Zps {l:List Za}{x:Da}{n:Nat}(h:it l n x=x) (i:Nat):it l (i%n) x=it l i x:=by
 have:=ZhI h (i / n) (i%n)
 rw [Nat.mod_add_div] at this
 exact this.symm
theorem Round.at {l:List Za}{f:List Da}{x:Da}(h:f=(List.range f.length).map (fun i=>it l i x)) (h2:it l f.length x=x) {i:Nat}(hf:0<f.length):gi f (i%f.length)=it l i x:=by
 have lt:i%f.length<f.length:=Nat.mod_lt _ hf
 have:gi f (i%f.length)=gi ((List.range f.length).map (fun i=>it l i x)) (i%f.length):=by rw [← h]
 rw [this,Zb4 lt,Zps h2]
def seg (l:List Za) (x:Da) (a n:Nat):List Da:=(List.range n).map fun i=>it l (a+i) x
theorem ZkM {l:List Za}(hc:Ck l) {x:Da}(hx:isD l x) {a:Nat}:∀ n,Pt l (it l a x) (seg l x a n) (it l (a+n) x)
 | 0=>rfl
 | n+1=>by
  unfold seg
  rw [List.range_succ,List.map_append,Pt.app]
  exact ⟨_,ZkM hc hx n,rfl,Ze1 hc hx _,rfl⟩
theorem ZeI {l:List Za}{x:Da}{a m:Nat}:∀ n,seg l x a (m+n)=seg l x a m++seg l x (a+m) n
 | 0=>by simp [seg]
 | n+1=>by
  have ih:=ZeI (l:=l) (x:=x) (a:=a) (m:=m) n
  unfold seg at ih ⊢
  rw [← Nat.add_assoc,List.range_succ,List.map_append,ih,List.range_succ,List.map_append,List.append_assoc]
  simp [Nat.add_assoc]
theorem Zgd {l:List Za}{x:Da}{a:Nat}:seg l x a 1=[it l a x]:=by simp [seg]
theorem Znf {l:List Za}{x:Da}{a n:Nat}:zi l (seg l x a (n+1))=zi l (seg l x a n)+tt l (it l (a+n) x):=by
 rw [ZeI,Zcw,Zgd,Za5,Zcx];omega
theorem ZhZ {l:List Za}{x:Da}{n:Nat}(h:it l n x=x) (h0:0<n):∀ a,(seg l x a n).Perm (seg l x 0 n)
 | 0=>List.Perm.refl _
 | a+1=>by
  refine List.Perm.trans ?_ (ZhZ h h0 a)
  obtain ⟨m,rfl⟩:∃ m,n=1+m:=⟨n-1,by omega⟩
  have e1:seg l x (a+1) (1+m)=seg l x (a+1) m++[it l (a+1+m) x]:=by rw [Nat.add_comm 1 m,ZeI,Zgd]
  have e2:seg l x a (1+m)=[it l a x]++seg l x (a+1) m:=by rw [ZeI,Zgd]
  have e3:it l (a+1+m) x=it l a x:=by
   have:=ZhI h 1 a
   rw [Nat.mul_one] at this
   rw [← this,Nat.add_assoc]
  rw [e1,e2,e3]
  exact List.perm_append_comm
theorem ZpQ {d e:Nat}(hd:d<4) (he:e<4):∃ k:Int,(e:Int)=d+tn d e+4*k:=by
 have a:d=0∨d=1∨d=2∨d=3:=by omega
 have b:e=0∨e=1∨e=2∨e=3:=by omega
 rcases a with rfl|rfl|rfl|rfl<;>rcases b with rfl|rfl|rfl|rfl<;>first|exact ⟨0,by decide⟩|exact ⟨1,by decide⟩|exact ⟨-1,by decide⟩
theorem Pt.dir {l:List Za}(hc:Ck l):∀ {s:List Da}{x y:Da},Pt l x s y→∃ k:Int,(y.2:Int)=x.2+zi l s+4*k
 | [],x,y,h=>by
  rw [Pt] at h;subst h
  exact ⟨0,by rw [Zcx];omega⟩
 | a::s,x,y,h=>by
  rw [Pt] at h
  obtain ⟨rfl,h1,h2⟩:=h
  obtain ⟨k,e⟩:=Pt.dir hc h2
  obtain ⟨k',e'⟩:=ZpQ h1.2.1 (h1.bh hc).2.1
  refine ⟨k+k',?_⟩
  rw [Za5]
  unfold tt
  omega
/-! Edges split. -/
section spl
variable {l:List Za}{a b w:Nat}
def Zdc (l:List Za) (a b w:Nat) (p:Da):List Da:=if p=(a,b) then [p,(l.length,b)] else if p=(w,(b+2)%4) then [p,(l.length,(b+2)%4)] else [p]
structure Sp (l m:List Za) (a b w:Nat):Prop where
 ck:Ck m
 len:m.length=l.length+1
 ha:a<l.length
 hb:b<4
 hw:w<l.length
 hn:nx l a b=w
 hne:w≠a
 nx:∀ i e,i≤l.length→e<4→nx m i e=(if i=l.length then (if e=b then (w:Int) else if e=(b+2)%4 then (a:Int) else -1) else if i=w∧e=(b+2)%4 then (l.length:Int) else if i=a∧e=b then (l.length:Int) else nx l i e)
 ow:∀ i e,i≤l.length→e<4→ow m i e=(if i=l.length then (if e=b then ow l a b else if e=(b+2)%4 then ow l a b else 0) else if i=w∧e=(b+2)%4 then ow l a b else if i=a∧e=b then ow l a b else ow l i e)
theorem Sp.of (hc:Ck l) (ha:a<l.length) (hb:b<4) (hn:Mu.nx l a b=w):Sp l (spl l a b w (Mu.ow l a b)) a b w:=by
 obtain ⟨h1,h2,h3⟩:=hc.spl ha hb hn
 exact ⟨h3,Zlv,ha,hb,h1,hn,h2,fun i e hi he=>(Zk9 ha h1 hb hi he).1,fun i e hi he=>(Zk9 ha h1 hb hi he).2⟩
variable {m:List Za}
theorem Sp.back (hc:Ck l) (S:Sp l m a b w):Mu.nx l w ((b+2)%4)=a:=(hc.back' S.ha S.hb S.hn).2
theorem Sp.old (hc:Ck l) (S:Sp l m a b w) {i e:Nat}(hi:i<l.length) (he:e<4):0≤Mu.nx m i e↔0≤Mu.nx l i e:=by
 rw [S.nx i e (by omega) he,if_neg (by omega)]
 have:=S.back hc
 have:=S.hn
 by_cases c1:i=w∧e=(b+2)%4
 ·rw [if_pos c1,c1.1,c1.2];omega
 ·rw [if_neg c1]
  by_cases c2:i=a∧e=b
  ·rw [if_pos c2,c2.1,c2.2];omega
  ·rw [if_neg c2]
theorem Sp.y (S:Sp l m a b w):isD l (a,b):=⟨S.ha,S.hb,by rw [S.hn];omega⟩
theorem Sp.oy (S:Sp l m a b w):opp l (a,b)=(w,(b+2)%4):=by unfold opp;dsimp only;rw [S.hn,itn]
theorem Sp.y' (hc:Ck l) (S:Sp l m a b w):isD l (w,(b+2)%4):=by rw [← S.oy];exact S.y.opp hc
theorem Sp.is (hc:Ck l) (S:Sp l m a b w) {p:Da}(h:isD l p):isD m p:=⟨by rw [S.len];have:=h.1;omega,h.2.1,(S.old hc h.1 h.2.1).2 h.2.2⟩
theorem Sp.bh0 (hc:Ck l) (S:Sp l m a b w) {p:Da}(h:isD l p) (h1:p≠(a,b)) (h2:p≠(w,(b+2)%4)):Mu.nx m p.1 p.2=Mu.nx l p.1 p.2∧bh m p=bh l p:=by
 have f:=h.fwd hc
 have hlt:=h.1
 have e:Mu.nx m p.1 p.2=Mu.nx l p.1 p.2:=by
  rw [S.nx p.1 p.2 (by omega) h.2.1,if_neg (by omega),if_neg fun q=>h2 (Prod.ext q.1 q.2),if_neg fun q=>h1 (Prod.ext q.1 q.2)]
 refine ⟨e,?_⟩
 rw [Zcd,Zcd,e]
 refine congrArg (Prod.mk _) (ZcJ (fun e he=>?_) h.2.1)
 rw [decide_eq_decide]
 exact S.old hc f.1 he
theorem Sp.bh1 (hc:Ck l) (S:Sp l m a b w):Mu.nx m a b=l.length∧bh m (a,b)=(l.length,b)∧bh m (l.length,b)=bh l (a,b)∧bh m (w,(b+2)%4)=(l.length,(b+2)%4)∧bh m (l.length,(b+2)%4)=bh l (w,(b+2)%4):=by
 have hb:=S.hb
 have hne:=S.hne
 have ha:=S.ha
 have hw:=S.hw
 have e1:Mu.nx m a b=l.length:=by rw [S.nx a b (by omega) hb,if_neg (by omega),if_neg fun q=>hne q.1.symm,if_pos ⟨rfl,rfl⟩]
 have e2:Mu.nx m w ((b+2)%4)=l.length:=by rw [S.nx w _ (by omega) (by omega),if_neg (by omega),if_pos ⟨rfl,rfl⟩]
 have e3:Mu.nx m l.length b=w:=by rw [S.nx _ b (by omega) hb,if_pos rfl,if_pos rfl]
 have e4:Mu.nx m l.length ((b+2)%4)=a:=by rw [S.nx _ _ (by omega) (by omega),if_pos rfl,if_neg (by omega),if_pos rfl]
 have ne1:Mu.nx m l.length ((b+1)%4)=-1:=by rw [S.nx _ _ (by omega) (by omega),if_pos rfl,if_neg (by omega),if_neg (by omega)]
 have ne3:Mu.nx m l.length ((b+3)%4)=-1:=by rw [S.nx _ _ (by omega) (by omega),if_pos rfl,if_neg (by omega),if_neg (by omega)]
 refine ⟨e1,?_,?_,?_,?_⟩
 ·unfold bh
  dsimp only
  rw [e1,itn,ne1,e3,if_neg (by omega),if_pos (by omega)]
 ·rw [Zcd,Zcd]
  dsimp only
  rw [e3,S.hn,itn]
  exact congrArg (Prod.mk _) (ZcJ (fun e he=>by rw [decide_eq_decide];exact S.old hc hw he) hb)
 ·unfold bh
  dsimp only
  rw [e2,itn,show ((b+2)%4+1)%4=(b+3)%4 by omega,ne3,e4,if_neg (by omega),if_pos (by omega)]
 ·rw [Zcd,Zcd]
  dsimp only
  rw [e4,S.back hc,itn]
  exact congrArg (Prod.mk _) (ZcJ (fun e he=>by rw [decide_eq_decide];exact S.old hc ha he) (by omega))
theorem Sp.ins (hc:Ck l) (S:Sp l m a b w):Ins l m (Zdc l a b w):=by
 have hb:=S.hb
 have hne:=S.hne
 have ha:=S.ha
 have hw:=S.hw
 obtain ⟨n1,b1,b2,b3,b4⟩:=S.bh1 hc
 have n3:Mu.nx m l.length b=w:=by rw [S.nx _ b (by omega) hb,if_pos rfl,if_pos rfl]
 have n4:Mu.nx m l.length ((b+2)%4)=a:=by rw [S.nx _ _ (by omega) (by omega),if_pos rfl,if_neg (by omega),if_pos rfl]
 have yy:((w,(b+2)%4):Da)≠(a,b):=fun q=>hne (congrArg Prod.fst q)
 have U1:isD m (l.length,b):=⟨by rw [S.len];dsimp only;omega,hb,by dsimp only;rw [n3];omega⟩
 have U2:isD m (l.length,(b+2)%4):=⟨by rw [S.len];dsimp only;omega,by dsimp only;omega,by dsimp only;rw [n4];omega⟩
 have hd:∀ p,isD l p→p∈Zdc l a b w p:=by
  intro p _;unfold Zdc;split
  ·simp
  ·split<;>simp
 refine ⟨fun p hp e=>?_,fun p hp=>?_,fun p hp x hx=>?_,fun p q hp hq x h1 h2=>?_,fun p hp=>?_,fun p hp x hx=>?_,fun C hC p hp hx y hy=>?_,fun x hx=>?_⟩
 ·have:=hd p hp;rw [e] at this;simp at this
 ·have:=hp.1
  unfold Zdc
  split
  ·rename_i c;rw [c];simp;omega
  ·split
   ·rename_i c;rw [c];simp;omega
   ·simp
 ·unfold Zdc at hx
  split at hx
  ·rcases List.mem_cons.1 hx with rfl|hx
   ·exact S.is hc hp
   ·rw [List.mem_singleton.1 hx];exact U1
  ·split at hx
   ·rcases List.mem_cons.1 hx with rfl|hx
    ·exact S.is hc hp
    ·rw [List.mem_singleton.1 hx];exact U2
   ·rw [List.mem_singleton.1 hx];exact S.is hc hp
 ·have hp1:=hp.1
  have hq1:=hq.1
  have key:∀ {p x},isD l p→x∈Zdc l a b w p→x=p∨(x=(l.length,b)∧p=(a,b))∨(x=(l.length,(b+2)%4)∧p=(w,(b+2)%4)):=by
   intro p x hp h
   unfold Zdc at h
   split at h
   ·rename_i c
    rcases List.mem_cons.1 h with h|h
    ·exact .inl h
    ·exact .inr (.inl ⟨List.mem_singleton.1 h,c⟩)
   ·split at h
    ·rename_i c
     rcases List.mem_cons.1 h with h|h
     ·exact .inl h
     ·exact .inr (.inr ⟨List.mem_singleton.1 h,c⟩)
    ·exact .inl (List.mem_singleton.1 h)
  rcases key hp h1 with k|⟨k,k'⟩|⟨k,k'⟩<;>rcases key hq h2 with r|⟨r,r'⟩|⟨r,r'⟩
  ·rw [← k,r]
  ·rw [← k,r] at hp1;dsimp only at hp1;omega
  ·rw [← k,r] at hp1;dsimp only at hp1;omega
  ·rw [← r,k] at hq1;dsimp only at hq1;omega
  ·rw [k',r']
  ·rw [k] at r;injection r with _ r;omega
  ·rw [← r,k] at hq1;dsimp only at hq1;omega
  ·rw [k] at r;injection r with _ r;omega
  ·rw [k',r']
 ·unfold Zdc
  split
  ·rename_i c
   subst c
   simp only [List.map_cons,List.map_nil,List.sum_cons,List.sum_nil,b1,b2]
   have:tn b b=0:=by unfold tn;rw [if_pos rfl]
   omega
  ·split
   ·rename_i c
    subst c
    simp only [List.map_cons,List.map_nil,List.sum_cons,List.sum_nil,b3,b4]
    have:tn ((b+2)%4) ((b+2)%4)=0:=by unfold tn;rw [if_pos rfl]
    omega
   ·rename_i c1 c2
    simp only [List.map_cons,List.map_nil,List.sum_cons,List.sum_nil,(S.bh0 hc hp c1 c2).2]
    omega
 ·unfold Zdc at hx
  split at hx
  ·rename_i c
   rcases List.mem_cons.1 hx with rfl|hx
   ·subst c;rw [b1];left;unfold Zdc;rw [if_pos rfl];simp
   ·rw [List.mem_singleton.1 hx,b2,c];right;exact hd _ (S.y.bh hc)
  ·split at hx
   ·rename_i c
    rcases List.mem_cons.1 hx with rfl|hx
    ·subst c;rw [b3];left;unfold Zdc;rw [if_neg yy,if_pos rfl];simp
    ·rw [List.mem_singleton.1 hx,b4,c];right;exact hd _ ((S.y' hc).bh hc)
   ·rename_i c1 c2
    rw [List.mem_singleton.1 hx,(S.bh0 hc hp c1 c2).2];right;exact hd _ (hp.bh hc)
 ·-- one's first dart,then all
  have all:∀ q,isD l q→C q→∀ y∈Zdc l a b w q,C y:=by
   intro q hq hCq y hy
   unfold Zdc at hy
   split at hy
   ·rename_i c
    subst c
    rcases List.mem_cons.1 hy with rfl|hy
    ·exact hCq
    ·rw [List.mem_singleton.1 hy,← b1];exact hC _ (S.is hc hq) hCq
   ·split at hy
    ·rename_i c
     subst c
     rcases List.mem_cons.1 hy with rfl|hy
     ·exact hCq
     ·rw [List.mem_singleton.1 hy,← b3];exact hC _ (S.is hc hq) hCq
    ·rw [List.mem_singleton.1 hy];exact hCq
  refine all _ (hp.bh hc) ?_ y hy
  obtain ⟨x,hx,hCx⟩:=hx
  unfold Zdc at hx
  split at hx
  ·rename_i c
   subst c
   have:C (l.length,b):=by
    rcases List.mem_cons.1 hx with rfl|hx
    ·rw [← b1];exact hC _ (S.is hc hp) hCx
    ·rw [← List.mem_singleton.1 hx];exact hCx
   rw [← b2];exact hC _ U1 this
  ·split at hx
   ·rename_i c
    subst c
    have:C (l.length,(b+2)%4):=by
     rcases List.mem_cons.1 hx with rfl|hx
     ·rw [← b3];exact hC _ (S.is hc hp) hCx
     ·rw [← List.mem_singleton.1 hx];exact hCx
    rw [← b4];exact hC _ U2 this
   ·rename_i c1 c2
    rw [List.mem_singleton.1 hx] at hCx
    rw [← (S.bh0 hc hp c1 c2).2];exact hC _ (S.is hc hp) hCx
 ·have h1:=hx.1
  have h2:=hx.2.1
  rw [S.len] at h1
  by_cases c:x.1=l.length
  ·have h3:=hx.2.2
   rw [S.nx x.1 x.2 (by omega) h2,if_pos c] at h3
   by_cases c1:x.2=b
   ·refine ⟨(a,b),S.y,?_⟩
    unfold Zdc
    rw [if_pos rfl]
    have:x=(l.length,b):=Prod.ext c c1
    rw [this];simp
   ·rw [if_neg c1] at h3
    by_cases c2:x.2=(b+2)%4
    ·refine ⟨(w,(b+2)%4),S.y' hc,?_⟩
     unfold Zdc
     rw [if_neg yy,if_pos rfl]
     have:x=(l.length,(b+2)%4):=Prod.ext c c2
     rw [this];simp
    ·rw [if_neg c2] at h3;omega
  ·have:isD l x:=⟨by omega,h2,(S.old hc (by omega) h2).1 hx.2.2⟩
   exact ⟨x,this,hd x this⟩
theorem Sp.val (hc:Ck l) (S:Sp l m a b w) (h:Val l):Val m:=((S.ins hc).val hc S.ck (ZgI hc) (ZgI S.ck)).1 h
theorem Sp.Pt (hc:Ck l) (S:Sp l m a b w):∀ {s:List Da}{x y:Da},Mu.Pt l x s y→Mu.Pt m x (s.flatMap (Zdc l a b w)) y
 | [],x,y,h=>h
 | p::s,x,y,h=>by
  rw [Mu.Pt] at h
  obtain ⟨rfl,h1,h2⟩:=h
  obtain ⟨n1,b1,b2,b3,b4⟩:=S.bh1 hc
  have I:=S.ins hc
  rw [List.flatMap_cons]
  refine Pt.app.2 ⟨bh l x,?_,S.Pt hc h2⟩
  have is:=fun z hz=>I.is x h1 z hz
  unfold Zdc at is ⊢
  split
  ·rename_i c
   rw [if_pos c] at is
   subst c
   refine ⟨rfl,is _ (by simp),?_⟩
   rw [b1]
   exact ⟨rfl,is _ (by simp),b2⟩
  ·rename_i c
   rw [if_neg c] at is
   split
   ·rename_i c2
    rw [if_pos c2] at is
    subst c2
    refine ⟨rfl,is _ (by simp),?_⟩
    rw [b3]
    exact ⟨rfl,is _ (by simp),b4⟩
   ·rename_i c2
    exact ⟨rfl,S.is hc h1,(S.bh0 hc h1 c c2).2⟩
theorem Sp.Lp (hc:Ck l) (S:Sp l m a b w) {f:List Da}(h:Mu.Lp l f):Mu.Lp m (f.flatMap (Zdc l a b w)):=by
 have C:=(S.ins hc).cyc hc h.cyc
 obtain ⟨x,hx⟩:=h.pt
 exact ⟨C.ne,C.nd,x,S.Pt hc hx⟩
theorem Sp.whole (hc:Ck l) (S:Sp l m a b w) (h:Mu.whole l):Mu.whole m:=by
 have h0:=ZdO h
 -- each old cell is reached: through the new one where the edge was
 have e1:=S.nx a b (by have:=S.ha;omega) S.hb
 have hne:=S.hne
 have ha:=S.ha
 have hw:=S.hw
 have hb:=S.hb
 rw [if_neg (by omega),if_neg (fun q=>hne q.1.symm),if_pos ⟨rfl,rfl⟩] at e1
 have e2:Mu.nx m w ((b+2)%4)=l.length:=by rw [S.nx w _ (by omega) (by omega),if_neg (by omega),if_pos ⟨rfl,rfl⟩]
 have e3:Mu.nx m l.length b=w:=by rw [S.nx _ b (by omega) hb,if_pos rfl,if_pos rfl]
 have e4:Mu.nx m l.length ((b+2)%4)=a:=by rw [S.nx _ _ (by omega) (by omega),if_pos rfl,if_neg (by omega),if_pos rfl]
 have old:∀ {u n},Rch l 0 n u→∃ k,Rch m 0 k u:=by
  intro u n hr
  induction hr with
  | zero=>exact ⟨0,.zero⟩
  | succ hr hab ih =>
   rename_i n p q
   obtain ⟨k,r⟩:=ih
   have hp:=hr.lt hc h0
   obtain ⟨d,hd,e⟩:=hab
   have n:=S.nx p d (by omega) hd
   rw [if_neg (by omega)] at n
   by_cases c1:p=w∧d=(b+2)%4
   ·have:q=a:=by
     have:=S.back hc
     rw [← c1.1,← c1.2,e] at this;omega
    subst this
    rw [if_pos c1] at n
    exact ⟨k+1+1,.succ (.succ r ⟨d,hd,n⟩) ⟨_,by omega,e4⟩⟩
   ·rw [if_neg c1] at n
    by_cases c2:p=a∧d=b
    ·have:q=w:=by
      have:=S.hn
      rw [← c2.1,← c2.2,e] at this;omega
     subst this
     rw [if_pos c2] at n
     exact ⟨k+1+1,.succ (.succ r ⟨d,hd,n⟩) ⟨_,hb,e3⟩⟩
    ·rw [if_neg c2,e] at n
     exact ⟨k+1,.succ r ⟨d,hd,n⟩⟩
 refine Zig (by rw [S.len];omega) fun u hu=>?_
 rw [S.len] at hu
 by_cases c:u=l.length
 ·subst c
  obtain ⟨n,r⟩:=ZcK h ha
  obtain ⟨k,r⟩:=old r
  exact ⟨k+1,.succ r ⟨b,hb,e1⟩⟩
 ·obtain ⟨n,r⟩:=ZcK h (w:=u) (by omega)
  exact old r
end spl
end Mu
/- A cut of a face that turns to the right: what comes of it. -/
namespace Mu
def ng (t:Int):Int:=if t<0 then -t else 0
def negs (l:List Za):Int:=((Zce l).map fun p=>ng (tt l p)).sum
theorem Ins.perm {l m:List Za}{ins:Da→List Da}(I:Ins l m ins):(Zce m).Perm ((Zce l).flatMap ins):=by
 refine (List.perm_ext_iff_of_nodup Zdg ?_).2 fun x=>?_
 ·rw [List.Nodup,List.pairwise_flatMap]
  refine ⟨fun p hp=>I.nd p (Zbf.1 hp),(Zdg (l:=l)).imp_of_mem ?_⟩
  intro p q hp hq hne x hx y hy e
  subst e
  exact hne (I.dj p q (Zbf.1 hp) (Zbf.1 hq) x hx hy)
 ·rw [Zbf,List.mem_flatMap]
  constructor
  ·intro hx
   obtain ⟨p,hp,h⟩:=I.al x hx
   exact ⟨p,Zbf.2 hp,h⟩
  ·rintro ⟨p,hp,h⟩
   exact I.is p (Zbf.1 hp) x h
theorem Zhi {g:Da→Int}{ins:Da→List Da}:∀ {L:List Da},((L.flatMap ins).map g).sum=(L.map fun p=>((ins p).map g).sum).sum
 | []=>rfl
 | a::L=>by rw [List.flatMap_cons,List.map_append,List.sum_append,Zhi (L:=L),List.map_cons,List.sum_cons]
theorem Sp.negs {l m:List Za}{a b w:Nat}(hc:Ck l) (S:Sp l m a b w):negs m=negs l:=by
 obtain ⟨n1,b1,b2,b3,b4⟩:=S.bh1 hc
 unfold Mu.negs
 rw [Zdi (S.ins hc).perm,Zhi]
 congr 1
 refine List.map_congr_left fun p hp=>?_
 have hp:=Zbf.1 hp
 unfold Zdc tt
 have z:ng 0=0:=rfl
 have t0:∀ d,tn d d=0:=fun d=>by unfold tn;rw [if_pos rfl]
 split
 ·rename_i c
  subst c
  simp only [List.map_cons,List.map_nil,List.sum_cons,List.sum_nil,b1,b2,t0,z];omega
 ·split
  ·rename_i c
   subst c
   simp only [List.map_cons,List.map_nil,List.sum_cons,List.sum_nil,b3,b4,t0,z];omega
  ·rename_i c1 c2
   simp only [List.map_cons,List.map_nil,List.sum_cons,List.sum_nil,(S.bh0 hc hp c1 c2).2];omega
theorem Del.dperm {l m:List Za}(hc:Ck l) {v d w:Nat}(D:Del l m v d w):(Zce l).Perm ((v,d)::(w,(d+2)%4)::Zce m):=by
 refine (List.perm_ext_iff_of_nodup Zdg ?_).2 fun x=>?_
 ·refine List.nodup_cons.2 ⟨fun q=>?_,List.nodup_cons.2 ⟨fun q=>?_,Zdg⟩⟩
  ·rcases List.mem_cons.1 q with q|q
   ·exact D.ee hc q.symm
   ·exact (D.isD.1 (Zbf.1 q)).2.1 rfl
  ·exact (D.isD.1 (Zbf.1 q)).2.2 rfl
 ·rw [List.mem_cons,List.mem_cons,Zbf,Zbf]
  constructor
  ·intro hx
   by_cases c1:x=(v,d)
   ·exact .inl c1
   ·by_cases c2:x=(w,(d+2)%4)
    ·exact .inr (.inl c2)
    ·exact .inr (.inr (D.isD.2 ⟨hx,c1,c2⟩))
  ·rintro (rfl|rfl|h)
   ·exact D.e
   ·exact D.e' hc
   ·exact (D.isD.1 h).1
theorem Znn {f g:Da→Int}:∀ {L:List Da},(∀ x∈L,f x≤g x)→(L.map f).sum≤(L.map g).sum
 | [],_=>by simp
 | a::L,h=>by
  have:=Znn (L:=L) fun x hx=>h x (by simp [hx])
  have:=h a (by simp)
  rw [List.map_cons,List.map_cons,List.sum_cons,List.sum_cons];omega
theorem ZpP {f g:Da→Int}{L:List Da}{a:Da}(h:∀ x∈L,f x≤g x) (ha:a∈L) (h1:f a+1≤g a):(L.map f).sum+1≤(L.map g).sum:=by
 have p:L.Perm (a::L.erase a):=List.perm_cons_erase ha
 rw [Zdi p,Zdi p,List.map_cons,List.map_cons,List.sum_cons,List.sum_cons]
 have:=Znn (f:=f) (g:=g) (L:=L.erase a) fun x hx=>h x (List.mem_of_mem_erase hx)
 omega
theorem Zj6 {l:List Za}{p:Da}(h4:p.2<4) (h:tt l p<0):nx l (nx l p.1 p.2).toNat p.2<0∧nx l (nx l p.1 p.2).toNat ((p.2+1)%4)<0:=by
 unfold tt at h
 rw [ZoJ h4] at h
 unfold arr at h
 by_cases c1:0≤nx l (nx l p.1 p.2).toNat ((p.2+1)%4)
 ·rw [if_pos c1] at h;omega
 ·rw [if_neg c1] at h
  by_cases c2:0≤nx l (nx l p.1 p.2).toNat p.2
  ·rw [if_pos c2] at h;omega
  ·omega
theorem Zmw {l:List Za}{f:List Da}{x:Da}(h:f=(List.range f.length).map (fun i=>it l i x)) (h2:it l f.length x=x) (hf:0<f.length) {i:Nat}:∀ k,cs (tns l f) i k=zi l (seg l x i k)
 | 0=>rfl
 | k+1=>by
  rw [cs,Zmw h h2 hf k,Znf,Zeq]
  congr 1
  unfold tns
  rw [Zcj (Nat.mod_lt _ hf),Round.at h h2 hf]
  rfl
structure Cut (l m:List Za):Prop where
 ck:Ck m
 val:Val m
 whole:whole m
 len:m.length=l.length+1
 negs:negs m+1≤negs l
 sub:∃ (l1:List Za) (a b w v d:Nat),Sp l l1 a b w∧m=wth l1 v d l.length (-2)∧Del m l1 v d l.length∧v<l.length∧d<4∧nx l1 v d=-1∧nx l1 l.length ((d+2)%4)=-1
 out:∀ g,Cyc l g→zi l g=-4→(∀ p∈g,-1≤tt l p∧tt l p≤0)→∃ g',Cyc m g'∧zi m g'=-4∧∀ p∈g',-1≤tt m p∧tt m p≤0
theorem Zmx {l:List Za}(hc:Ck l) (hV:Val l) (hW:whole l) {f:List Da}(hf:f∈faces l) (h4:zi l f=4) {i:Nat}(hi:i<f.length) (h0:gi (tns l f) i<0) (hlen:f.length≤1000000):∃ kk:Nat,kk<f.length∧Zba (tns l f) i=some ((kk:Int),true) ∧
  isD l (gi f i)∧isD l (gi f kk)∧(nx l (gi f i).1 (gi f i).2).toNat<l.length∧(∃ w:Nat,nx l (gi f kk).1 (gi f kk).2=w∧w<l.length ∧
  Sp l (spl l (gi f kk).1 (gi f kk).2 w (ow l (gi f kk).1 (gi f kk).2)) (gi f kk).1 (gi f kk).2 w ∧
  nx (spl l (gi f kk).1 (gi f kk).2 w (ow l (gi f kk).1 (gi f kk).2)) (nx l (gi f i).1 (gi f i).2).toNat (gi f i).2=-1 ∧
  nx (spl l (gi f kk).1 (gi f kk).2 w (ow l (gi f kk).1 (gi f kk).2)) l.length (((gi f i).2+2)%4)=-1 ∧
  Cut l (wth (spl l (gi f kk).1 (gi f kk).2 w (ow l (gi f kk).1 (gi f kk).2)) (nx l (gi f i).1 (gi f i).2).toNat (gi f i).2 l.length (-2))):=by
 obtain ⟨x0,hx0,e1,e2⟩:=Zha hc f hf
 have n0:0<f.length:=by omega
 have tl:=Zeq (l:=l) (f:=f)
 obtain ⟨k,k0,k1,c1,c2,c3,c4⟩:=Zrm (t:=tns l f) Zhv h4 (by omega) h0
 rw [tl] at k1 c4
 have hit:=ZmK (t:=tns l f) Zhv (by omega) (by omega) h0 (by omega) c1 c2
 rw [tl] at hit
 have ek:((i+k)%f.length+1)%f.length=(i+k+1)%f.length:=by rw [Nat.mod_add_mod]
 rw [ek] at hit
 have lk:(i+k+1)%f.length<f.length:=Nat.mod_lt _ n0
 have gx:gi f i=it l i x0:=by
  have:=Round.at e1 e2 n0 (i:=i)
  rwa [Nat.mod_eq_of_lt hi] at this
 have gy:gi f ((i+k+1)%f.length)=it l (i+k+1) x0:=Round.at e1 e2 n0
 refine ⟨(i+k+1)%f.length,lk,hit,?_⟩
 rw [gx,gy]
 have dX:=Ze1 hc hx0 i
 have dY:=Ze1 hc hx0 (i+k+1)
 have tX:tt l (it l i x0)<0:=by
  unfold tns at h0
  rw [Zcj hi,gx] at h0
  exact h0
 have s1:zi l (seg l x0 i (k+1))=1:=by rw [← Zmw e1 e2 n0];exact c1
 have P1:=ZkM hc hx0 (a:=i) (k+1)
 obtain ⟨q,hq⟩:=P1.dir hc
 rw [s1,← Nat.add_assoc] at hq
 -- the loop from behind the corner on
 have L:Lp l (seg l x0 (i+1) f.length):=by
  have pm:=ZhZ (l:=l) e2 n0 (i+1)
  have e0:seg l x0 0 f.length=f:=by
   unfold seg
   simp only [Nat.zero_add]
   exact e1.symm
  refine ⟨?_,?_,it l (i+1) x0,?_⟩
  ·intro z
   rw [z] at pm
   have:=pm.length_eq
   rw [e0] at this
   simp at this;omega
  ·rw [pm.nodup_iff,e0];exact (Zbw hc f hf).nd
  ·have:=ZkM hc hx0 (a:=i+1) f.length
   have p:=ZhI e2 1 (i+1)
   rw [Nat.mul_one] at p
   rwa [p] at this
 have eX:it l (i+f.length) x0=it l i x0:=by have:=ZhI e2 1 i;rwa [Nat.mul_one] at this
 have spli:seg l x0 (i+1) f.length=seg l x0 (i+1) k++[it l (i+k+1) x0]++(seg l x0 (i+k+2) (f.length-k-2)++[it l i x0]):=by
  have a:f.length=k+(1+((f.length-k-2)+1)):=by omega
  rw [← eX]
  generalize hr:f.length-k-2=r at *
  rw [a,ZeI,ZeI,ZeI,Zgd,Zgd,← List.append_assoc,show i+1+k=i+k+1 by omega,show i+k+1+1=i+k+2 by omega,show i+k+2+r=i+(k+(1+(r+1))) by omega]
 have rB:tt l (it l i x0)+zi l (seg l x0 (i+1) k)=1:=by
  have:seg l x0 i (k+1)=[it l i x0]++seg l x0 (i+1) k:=by rw [Nat.add_comm k 1,ZeI,Zgd]
  rw [this,Zcw,Za5,Zcx] at s1
  omega
 have rL:zi l (seg l x0 (i+1) f.length)=4:=by
  have e0:seg l x0 0 f.length=f:=by
   unfold seg
   simp only [Nat.zero_add]
   exact e1.symm
  rw [ZbM (ZhZ (l:=l) e2 n0 (i+1)),e0];exact h4
 rw [spli] at L rL
 generalize hX:it l i x0=X at *
 generalize hY:it l (i+k+1) x0=Y at *
 generalize hB:seg l x0 (i+1) k=B at *
 generalize hA:seg l x0 (i+k+2) (f.length-k-2)=A at *
 have fX:=dX.fwd hc
 have fY:=dY.fwd hc
 have X4:=dX.2.1
 have Y4:=dY.2.1
 have tf:=Zj6 X4 tX
 have hwY:nx l Y.1 Y.2=((nx l Y.1 Y.2).toNat:Nat):=by have:=dY.2.2;omega
 refine ⟨dX,dY,fX.1,(nx l Y.1 Y.2).toNat,hwY,fY.1,?_⟩
 have S:=Sp.of hc dY.1 Y4 hwY
 refine ⟨S,?_⟩
 have dir:Y.2=(X.2+1)%4:=by omega
 generalize hv:(nx l X.1 X.2).toNat=v at *
 generalize hw:(nx l Y.1 Y.2).toNat=w at *
 generalize hl1:spl l Y.1 Y.2 w (ow l Y.1 Y.2)=l1 at *
 have lv:=hc.lt fX.1 X4
 have f1:nx l1 v X.2=-1:=by
  have:=S.old hc fX.1 X4
  have:=S.ck.lt (v:=v) (d:=X.2) (by rw [S.len];omega) X4
  omega
 have f2:nx l1 l.length ((X.2+2)%4)=-1:=by
  rw [S.nx _ _ (by omega) (by omega),if_pos rfl,if_neg (by omega),if_neg (by omega)]
 refine ⟨f1,f2,?_⟩
 have hvl:v<l1.length:=by rw [S.len];have:=fX.1;omega
 have hul:l.length<l1.length:=by rw [S.len];omega
 have hvu:v≠l.length:=by have:=fX.1;omega
 have D:Del (wth l1 v X.2 l.length (-2)) l1 v X.2 l.length:=Del.of_wth S.ck hvl hul hvu X4 f1 f2
 have hcm:Ck (wth l1 v X.2 l.length (-2)):=S.ck.wth hvl hul hvu X4 f1 f2 (by omega)
 generalize hm:wth l1 v X.2 l.length (-2)=m at *
 have nXY:X≠Y:=by
  intro z
  have nd:=List.nodup_append.1 L.nd
  exact nd.2.2 Y (by simp) X (by simp) z.symm
 have nXY':X≠(w,(Y.2+2)%4):=by
  intro z
  have:=congrArg Prod.snd z
  dsimp only at this
  omega
 obtain ⟨n1,b1,b2,b3,b4⟩:=S.bh1 hc
 have eY:(Y.1,Y.2)=Y:=rfl
 have iX:Zdc l Y.1 Y.2 w X=[X]:=by
  unfold Zdc
  rw [if_neg nXY,if_neg nXY']
 have iY:Zdc l Y.1 Y.2 w Y=[Y,(l.length,Y.2)]:=by
  unfold Zdc
  rw [if_pos rfl]
 have L1:=S.Lp hc L
 have fl:(B++[Y]++(A++[X])).flatMap (Zdc l Y.1 Y.2 w)=B.flatMap (Zdc l Y.1 Y.2 w)++[Y]++(((l.length,Y.2)::A.flatMap (Zdc l Y.1 Y.2 w))++[X]):=by
  simp [List.flatMap_append,iX,iY]
 rw [fl] at L1
 have x1:=S.bh0 hc dX nXY nXY'
 have tX1:tt l1 X=tt l X:=by unfold tt;rw [x1.2]
 have tY1:tt l1 Y=0:=by unfold tt;rw [b1];unfold tn;rw [if_pos rfl]
 have t0:tn X.2 X.2=0:=by unfold tn;rw [if_pos rfl]
 have t1:tn Y.2 ((X.2+2)%4)=1:=by unfold tn;rw [if_neg (by omega),if_pos (by omega)]
 have bX:bh m X=(v,X.2):=(D.enter hcm S.ck (S.is hc dX)).1 (by rw [x1.1];exact hv) (by rw [tX1,t0];exact tX)
 have bY:bh m Y=(l.length,(X.2+2)%4):=(D.enter hcm S.ck (S.is hc dY)).2 (by rw [n1,itn]) (by rw [tY1,t1];omega)
 have rB1:zi l1 (B.flatMap (Zdc l Y.1 Y.2 w))=zi l B:=(S.ins hc).rot fun p hp=>L.is p (by simp [hp])
 refine ⟨hcm,D.chord_val hcm S.ck L1 bX bY ?_ (S.val hc hV),D.whole hcm S.ck (S.whole hc hW),by rw [← hm,Zab,S.len],?_,⟨l1,Y.1,Y.2,w,v,X.2,S,hm.symm,D,fX.1,X4,f1,f2⟩,?_⟩
 ·rw [Zcw,rB1,Za5,Zcx,tY1,tX1,t0,t1];omega
 ·rw [← S.negs hc]
  unfold Mu.negs
  rw [Zdi (D.dperm hcm)]
  simp only [List.map_cons,List.sum_cons]
  have B1:=D.bh hcm (S.is hc dX)
  have B2:=D.bh hcm (S.is hc dY)
  have ee:=D.ee hcm
  rw [bX,if_pos rfl,if_pos rfl] at B1
  rw [bY,if_neg ee,if_pos rfl,if_neg ee,if_pos rfl] at B2
  have mX:tt m X=0:=by unfold tt;rw [bX];exact t0
  have mY:tt m Y=1:=by unfold tt;rw [bY];exact t1
  have r1:=B1.2
  have r2:=B2.2
  rw [tX1,mX] at r1
  rw [tY1,mY] at r2
  have rX:-2≤tt l X:=Zid.1
  have g1:ng (tt m (v,X.2))=0:=by unfold ng;rw [if_neg (by omega)]
  have g2:ng (tt m (l.length,(X.2+2)%4))=0:=by unfold ng;rw [if_neg (by omega)]
  rw [g1,g2]
  have:=ZpP (f:=fun p=>ng (tt m p)) (g:=fun p=>ng (tt l1 p)) (L:=Zce l1) (a:=X) (fun p hp=>?_) (Zbf.2 (S.is hc dX)) (by rw [mX,tX1];unfold ng;rw [if_neg (by omega),if_pos tX];omega)
  ·omega
  ·have hp:=Zbf.1 hp
   by_cases c1:p=X
   ·subst c1
    rw [mX];unfold ng;rw [if_neg (by omega)];split<;>omega
   ·by_cases c2:p=Y
    ·subst c2
     rw [mY];unfold ng;rw [if_neg (by omega)];split<;>omega
    ·have dp:=(D.isD.1 hp).1
     have a1:bh m p≠(v,X.2):=fun z=>c1 (Zcm hcm dp (D.isD.1 (S.is hc dX)).1 (z.trans bX.symm))
     have a2:bh m p≠(l.length,(X.2+2)%4):=fun z=>c2 (Zcm hcm dp (D.isD.1 (S.is hc dY)).1 (z.trans bY.symm))
     have:=(D.bh hcm hp).2
     rw [if_neg a1,if_neg a2] at this
     rw [this];exact Int.le_refl _
 ·intro g hg g4 gt
  have nX:X ∉ g:=fun z=>by
   have:=ZbM (l:=l) (hg.perm L.cyc z (by simp));omega
  have nY:Y ∉ g:=fun z=>by
   have:=ZbM (l:=l) (hg.perm L.cyc z (by simp));omega
  have I:=S.ins hc
  have C1:=I.cyc hc hg
  have m1:∀ q∈g.flatMap (Zdc l Y.1 Y.2 w),q≠X∧q≠Y∧-1≤tt l1 q∧tt l1 q≤0:=by
   intro q hq
   obtain ⟨p,hp,hq⟩:=List.mem_flatMap.1 hq
   have dp:=hg.is p hp
   refine ⟨fun z=>?_,fun z=>?_,?_⟩
   ·rw [z] at hq
    rw [I.dj p X dp dX X hq (by rw [iX];simp)] at hp
    exact nX hp
   ·rw [z] at hq
    rw [I.dj p Y dp dY Y hq (by rw [iY];simp)] at hp
    exact nY hp
   ·have tp:=gt p hp
    unfold Zdc at hq
    rw [if_neg (show p≠(Y.1,Y.2) from fun z=>nY (by rw [z] at hp;exact hp))] at hq
    by_cases c:p=(w,(Y.2+2)%4)
    ·rw [if_pos c] at hq
     have t0:tt l1 (w,(Y.2+2)%4)=0:=by unfold tt;rw [b3];unfold tn;rw [if_pos rfl]
     have t1:tt l1 (l.length,(Y.2+2)%4)=tt l p:=by rw [c];unfold tt;rw [b4]
     rcases List.mem_cons.1 hq with q1|hq
     ·rw [q1,c,t0];omega
     ·rw [List.mem_singleton.1 hq,t1];exact tp
    ·rw [if_neg c] at hq
     rw [List.mem_singleton.1 hq]
     unfold tt
     rw [(S.bh0 hc dp (fun z=>nY (by rw [z] at hp;exact hp)) c).2];exact tp
  have B:∀ q∈g.flatMap (Zdc l Y.1 Y.2 w),bh l1 q=bh m q∧tt l1 q=tt m q:=by
   intro q hq
   have iq:=C1.is q hq
   have dq:=(D.isD.1 iq).1
   have a1:bh m q≠(v,X.2):=fun z=>(m1 q hq).1 (Zcm hcm dq (D.isD.1 (S.is hc dX)).1 (z.trans bX.symm))
   have a2:bh m q≠(l.length,(X.2+2)%4):=fun z=>(m1 q hq).2.1 (Zcm hcm dq (D.isD.1 (S.is hc dY)).1 (z.trans bY.symm))
   have:=D.bh hcm iq
   rw [if_neg a1,if_neg a2,if_neg a1,if_neg a2] at this
   exact this
  refine ⟨_,⟨C1.ne,C1.nd,fun q hq=>(D.isD.1 (C1.is q hq)).1,fun q hq=>by rw [← (B q hq).1];exact C1.cl q hq,fun C hC p hp q hq hCp=>(C1.one (fun z=>z∈g.flatMap (Zdc l Y.1 Y.2 w)∧C z) (fun z hz h=>⟨C1.cl z h.1,by rw [(B z h.1).1];exact hC z (D.isD.1 hz).1 h.2⟩) p hp q hq ⟨hp,hCp⟩).2⟩,?_,fun q hq=>by rw [← (B q hq).2];exact (m1 q hq).2.2⟩
  have r1:zi l1 (g.flatMap (Zdc l Y.1 Y.2 w))=zi l g:=I.rot fun p hp=>hg.is p hp
  rw [← g4,← r1]
  unfold zi tns
  congr 1
  exact List.map_congr_left fun q hq=>(B q hq).2.symm
end Mu
/- Layer 21: cuts in the code;refining,till no inner face turns to the right. -/
namespace Mu
theorem Zjh {l:List Za}{v d w:Nat}{o:Int}(hl:l.length≤4096) (hv:v<l.length) (hw:w<l.length) (hvw:v≠w) (hd:d<4) (ho:-2≤o) (h1:nx l v d=-1) (h2:nx l w ((d+2)%4)=-1) :
  zK ⟨l⟩ v d w o=some (0,⟨wth l v d w o⟩)∧ZbA l v d w o=some (wth l v d w o,0):=by
 simp only [zK,ZbA]
 rw [mIs,mIs,obs]
 have hb:(((d:Int)+2).tmod 4)=(((d+2)%4:Nat):Int):=by
  match d,hd with
  | 0,_|1,_|2,_|3,_=>rfl
 have q1:((!decide (0≤(w:Int)∧(w:Int)<l.length∧0≤(d:Int)∧(d:Int)<4))||decide ((v:Int)=(w:Int))||decide (o < -2))=false:=by simp;omega
 have q2:(decide ((v:Int)<0)||decide ((l.length:Int)≤(v:Int))||decide ((w:Int)<0)||decide ((l.length:Int)≤(w:Int))||decide ((v:Int)=(w:Int))||decide ((d:Int)<0)||decide (3<(d:Int))||decide (o < -2))=false:=by simp;omega
 have f:(gi l v).Next.get (d:Int)=-1:=h1
 have g:(gi l w).Next.get (((d+2)%4:Nat):Int)=-1:=h2
 rw [Zbx (show 0≤(v:Int)∧(v:Int)<l.length∧0≤(d:Int)∧(d:Int)<4 by omega),Bool.not_true,if_neg Bool.false_ne_true,obs,obs,q1,q2,if_neg Bool.false_ne_true,if_neg Bool.false_ne_true,Zt (by omega),Zt (by omega),Zt (by omega),Zt (by omega),itn,itn,Zo8 (by omega),zN (by omega),hb,obs,Zt (by omega),Zt (by omega)]
 rw [Za4 f,obs,obs,Zbx g,Bool.not_true,if_neg Bool.false_ne_true,if_neg Bool.false_ne_true,Zpx (by omega) (by omega) (by omega),obs,ZoA (by omega) (by omega),obs]
 exact ⟨rfl,rfl⟩
theorem ZhP:∀ {R:List Int}{i a b:Int},ZdI R i a=some b→0≤i→b=a∨(i≤b∧b<i+R.length∧gi R (b-i).toNat=-4)
 | [],i,a,b,h,_=>by
  simp only [ZdI,Option.some.injEq] at h
  exact .inl h.symm
 | r::R,i,a,b,h,hi=>by
  have up:∀ {b:Int},(i+1≤b∧b<i+1+R.length∧gi R (b-(i+1)).toNat=-4)→(i≤b∧b<i+((r::R).length:Nat)∧gi (r::R) (b-i).toNat=-4):=by
   rintro b ⟨h1,h2,h3⟩
   refine ⟨by omega,by simp;omega,?_⟩
   rw [show (b-i).toNat=(b-(i+1)).toNat+1 by omega]
   exact h3
  rw [ZdI] at h
  split at h
  ·rcases ZhP h (by omega) with k|k
   ·exact .inl k
   ·exact .inr (up k)
  ·split at h
   ·rename_i c
    split at h
    ·cases h
    ·rcases ZhP h (by omega) with k|k
     ·right
      refine ⟨by omega,by simp;omega,?_⟩
      rw [k,show (i-i).toNat=0 by omega]
      exact c
     ·exact .inr (up k)
   ·cases h
theorem Zie {l:List Za}(h:Zc1 l=0) (h1:l.length≠1) {i:Nat}(hi:i<(faces l).length):(zi l (gi (faces l) i)=4∧(i:Int)≠ZfS l)∨(zi l (gi (faces l) i)=-4∧(i:Int)=ZfS l):=by
 obtain ⟨k,w,o⟩:=ZdR h
 have hV:=(Zee.1 h).2.2 h1
 obtain ⟨a,q,ha⟩:=o h1
 have e:ZfS l=a:=by unfold ZfS;rw [if_neg h1,q]
 have at':gi ((faces l).map (zi l)) a.toNat=-4∧a.toNat<(faces l).length:=by
  unfold Zfm at q
  rcases ZhP q (by omega) with z|⟨z1,z2,z3⟩
  ·omega
  ·rw [List.length_map] at z2
   rw [show (a-0).toNat=a.toNat by omega] at z3
   exact ⟨z3,by omega⟩
 rw [Zcj at'.2] at at'
 rw [e]
 rcases hV.1 i hi with r|r
 ·left
  refine ⟨r,fun z=>?_⟩
  have:a.toNat=i:=by omega
  rw [this] at at';omega
 ·right
  refine ⟨r,?_⟩
  have:=hV.2.2 i a.toNat hi at'.2 r at'.1
  omega
theorem ZjP {l:List Za}{i:Nat}(h:Zdo l=some i):i<(faces l).length∧(i:Int)≠ZfS l∧∃ j,gF l i=some j∧j<(gi (faces l) i).length∧gi (tns l (gi (faces l) i)) j<0:=by
 unfold Zdo at h
 rw [List.find?_range_eq_some] at h
 obtain ⟨h1,h2,_⟩:=h
 refine ⟨by simpa using h2,?_,?_⟩
 ·intro q
  unfold gF at h1
  rw [if_pos q] at h1
  cases h1
 ·cases q:gF l i with
  | none=>rw [q] at h1;cases h1
  | some j =>
   refine ⟨j,rfl,?_⟩
   unfold gF at q
   split at q
   ·cases q
   ·unfold ZjR at q
    rw [List.find?_range_eq_some] at q
    obtain ⟨k1,k2,_⟩:=q
    rw [List.mem_range,Zeq] at k2
    exact ⟨k2,by simpa using k1⟩
theorem ZjO {l:List Za}(h:Zdo l=none):∀ i,i<(faces l).length→(i:Int)≠ZfS l→∀ j,0≤gi (tns l (gi (faces l) i)) j:=by
 intro i hi hne j
 unfold Zdo at h
 rw [List.find?_range_eq_none] at h
 have:=h i hi
 unfold gF at this
 rw [if_neg hne] at this
 by_cases c:j<(tns l (gi (faces l) i)).length
 ·have q:ZjR (tns l (gi (faces l) i))=none:=by
   cases z:ZjR (tns l (gi (faces l) i)) with
   | none=>rfl
   | some k=>rw [z] at this;simp at this
  unfold ZjR at q
  rw [List.find?_range_eq_none] at q
  have:=q j c
  simp at this
  exact this
 ·rw [Zgo (by omega)];decide
theorem Zro {l:List Za}(hl:l.length≤1100) (h:Zc1 l=0) (h1:l.length≠1) :
  (Zdo l=none∧ZcT ⟨l⟩=some (false,0,⟨l⟩))∨∃ m,ZcT ⟨l⟩=some (true,0,⟨m⟩)∧Cut l m∧Zdo l≠none:=by
 obtain ⟨k,hW,_⟩:=ZdR h
 have hc:=(Zda.1 k).2
 have hV:=(Zee.1 h).2.2 h1
 unfold ZcT
 rw [ZmG (by omega),obs,Zog (by omega),obs,if_pos ⟨h,h1⟩]
 cases q:Zdo l with
 | none =>
  left
  exact ⟨rfl,rfl⟩
 | some i =>
  right
  obtain ⟨hi,hne,j,e,hj,h0⟩:=ZjP q
  obtain ⟨o1,o2,o3,_⟩:=Zd4 hc
  have hm:=Zao hi
  have fl:=o3 _ hm
  have r4:zi l (gi (faces l) i)=4:=by
   rcases Zie h h1 hi with z|z
   ·exact z.1
   ·exact absurd z.2 hne
  obtain ⟨kk,k1,k2,dX,dY,lv,w,ew,lw,S,f1,f2,C⟩:=Zmx hc hV hW hm r4 hj h0 (by omega)
  generalize hf:gi (faces l) i=f at *
  dsimp only
  rw [e]
  simp only [Option.getD_some]
  rw [if_neg (by decide),Zjg (by omega) k,obs]
  dsimp only
  rw [Zt (by simp;omega),itn,itn,Zcj hi,hf,Zjj (by omega) k (by rw [← hf];exact o1 _ (Zao hi)) (by omega),obs,k2,obs]
  dsimp only
  rw [List.length_map,Zt (by omega),Zt (by omega),itn,Zcj hj,Zcj k1]
  have nX:=dX.2.2
  have nY:=dY.2.2
  refine ⟨_,?_,C,by simp⟩
  show (ZaG ⟨l⟩ ((gi f j).1:Int) ((gi f j).2:Int)).bind _=_
  rw [ZmJ dX.1 dX.2.1,if_neg (by omega),obs]
  dsimp only
  show (Zb0 ⟨l⟩ ((gi f kk).1:Int) ((gi f kk).2:Int)).bind _=_
  rw [ZmN (by omega) dY.1 dY.2.1 ew lw,obs]
  dsimp only
  rw [Za4 rfl]
  show (zK ⟨spl l (gi f kk).1 (gi f kk).2 w (ow l (gi f kk).1 (gi f kk).2)⟩ (nx l (gi f j).1 (gi f j).2) ((gi f j).2:Int) (l.length:Int) (-2)).bind _=_
  have en:nx l (gi f j).1 (gi f j).2=((nx l (gi f j).1 (gi f j).2).toNat:Nat):=by omega
  rw [en,(Zjh (by rw [S.len];omega) (by rw [S.len];omega) (by rw [S.len];omega) (by omega) dX.2.1 (by omega) f1 f2).1,obs]
  rfl
inductive Cuts (l:List Za):Nat→List Za→Prop
 | zero:Cuts l 0 l
 | succ {n m m'}:Cuts l n m→Cut m m'→Cuts l (n+1) m'
theorem ZqI {t:Int}:0≤ng t:=by unfold ng;split<;>omega
theorem Zg8 {l:List Za}:0≤negs l:=by
 unfold negs
 have:∀ L:List Da,0≤(L.map fun p=>ng (tt l p)).sum:=by
  intro L
  induction L with
  | nil=>simp
  | cons a L ih=>rw [List.map_cons,List.sum_cons];have:=ZqI (t:=tt l a);omega
 exact this _
theorem Cut.err {l m:List Za}(C:Cut l m) (hl:l.length+1≤4096):Zc1 m=0:=Zee.2 ⟨Zda.2 ⟨by rw [C.len];exact hl,C.ck⟩,C.whole,fun _=>C.val⟩
theorem ZmM {F cells:List Za}(h:Zc1 F=0) (h1:F.length≠1) (hb:(F.length:Int)+negs F≤1000):∃ m n,ZZ (Zaf.s0 cells) big (F,true)=some (.inl m)∧Cuts F n m∧Zc1 m=0∧m.length=F.length+n∧(n:Int)+negs m≤negs F∧Zdo m=none:=by
 have h0:0<F.length:=ZdO (ZdR h).2.1
 have:=Zer (step:=Zaf.s0 cells) (s0:=(F,true)) (μ:=fun s:List Za×Bool=>2*(negs s.1).toNat+(if s.2 then 1 else 0))
  (I:=fun s=>∃ n,Cuts F n s.1∧Zc1 s.1=0∧s.1.length=F.length+n∧(n:Int)+negs s.1≤negs F∧(s.2=false→Zdo s.1=none))
  (R:=fun r=>∃ m n,r=.inl m∧Cuts F n m∧Zc1 m=0∧m.length=F.length+n∧(n:Int)+negs m≤negs F∧Zdo m=none)
  (ZaN (by have:=Zg8 (l:=F);dsimp only;rw [if_pos rfl];omega)) ⟨0,.zero,h,rfl,by dsimp only;omega,fun z=>by cases z⟩ ?_
 ·obtain ⟨r,e,m,n,rfl,q⟩:=this
  exact ⟨m,n,e,q⟩
 ·rintro ⟨g,more⟩ ⟨n,hC,hv,hlen,hn,hf⟩
  dsimp only at hC hv hlen hn hf
  have nn:=Zg8 (l:=g)
  cases more with
  | false =>
   right
   simp only [Zaf.s0]
   exact ⟨_,rfl,g,n,rfl,hC,hv,hlen,hn,hf rfl⟩
  | true =>
   left
   simp only [Zaf.s0,if_true]
   rcases Zro (l:=g) (by omega) hv (by omega) with ⟨a,b⟩|⟨m,a,C,_⟩
   ·rw [b,obs]
    dsimp only
    rw [Za4 rfl]
    exact ⟨_,rfl,⟨n,hC,hv,hlen,hn,fun _=>a⟩,by simp⟩
   ·rw [a,obs]
    dsimp only
    rw [Za4 rfl]
    have:=C.negs
    have:=Zg8 (l:=m)
    have:=C.len
    exact ⟨_,rfl,⟨n+1,.succ hC C,C.err (by omega),by dsimp only;omega,by dsimp only;omega,fun z=>by cases z⟩,by dsimp only;simp;omega⟩
end Mu
/- Layer 15,plainly: corners,sums,rotations. -/
namespace Mu

def knp (x:Int):Nat:=if x=-1 then 1 else if x=-2 then 2 else 0
def ZmF (t:List Int):Nat→List (Nat×Nat)
 | 0=>[]
 | n+1=>ZmF t n++(List.range (knp (gi t n))).map fun p=>(n,p)
def Zq2 (t:List Int):List (Nat×Nat):=ZmF t t.length
/-! right -/
/-! contains -/
/-! sums -/
def Zrt (t:List Int) (a b:Nat×Nat):Int:=Ze4 t b.1-b.2-(Ze4 t a.1-a.2)+if b.1<a.1∨(b.1=a.1∧b.2<a.2) then Ze4 t t.length else 0
end Mu
/- Layer 15: the rotation there and back. -/
namespace Mu

end Mu
/- Layer 15: turns of 0,and where one begins. -/
namespace Mu

def looks (t:List Int):Prop:=∃ a∈Zq2 t,∃ b∈Zq2 t,Zrt t a b=2

/-! A list and another one whose turns,but those of 0,stand elsewhere. -/
/-! How many corners. -/
end Mu
/- Layer 15: the document's answer. -/
namespace Mu

/-! Single turns. -/
def ZqT (x:Int):List Int:=if x=-2 then [-1,-1] else [x]
def ZoI (t:List Int):Nat→List Int
 | 0=>[]
 | n+1=>ZoI t n++ZqT (gi t n)
def pos (t:List Int) (c:Nat×Nat):Nat:=(ZoI t c.1).length+c.2
end Mu
/- Layer 15: KittyRegular. -/
namespace Mu
end Mu
/- Layer 22: corners that look at one another: an edge laid between them leaves cells that can be drawn. -/
namespace Mu
theorem ZjM {l:List Za}(hc:Ck l) {f:List Da}(hf:f∈faces l):Lp l f:=by
 obtain ⟨x0,hx0,e1,e2⟩:=Zha hc f hf
 have C:=Zbw hc f hf
 refine ⟨C.ne,C.nd,x0,?_⟩
 have:=ZmC hc hx0 f.length
 rw [e2,← e1] at this
 exact this
end Mu
/- Loops that turn one way alone,four times: rectangles. -/
namespace Mu
def tg (l:List Za) (p:Da):Nat:=(nx l p.1 p.2).toNat
def al (X Y:Nat→Int) (d v:Nat):Int:=if d=0 then X v else if d=1 then Y v else if d=2 then -X v else -Y v
def ac (X Y:Nat→Int) (d v:Nat):Int:=if d=0 then Y v else if d=1 then X v else if d=2 then Y v else X v
def Str (l:List Za) (X Y:Nat→Int):Prop:=∀ p,isD l p→al X Y p.2 p.1<al X Y p.2 (tg l p)∧ac X Y p.2 p.1=ac X Y p.2 (tg l p)
structure Rn (l:List Za) (d a:Nat) (s:List Da) (b:Nat):Prop where
 w:Wk l a s b
 d:∀ p∈s,p.2=d
 ne:s≠[]
theorem Pt.wk {l:List Za}:∀ {s:List Da}{x y:Da},Pt l x s y→Wk l x.1 s y.1
 | [],x,y,h=>congrArg Prod.fst h
 | p::s,x,y,h=>by
  have w:=Pt.wk h.2.2
  rw [ZiJ] at w
  exact ⟨by rw [h.1],h.2.1,w⟩
theorem ZdN {l:List Za}{X Y:Nat→Int}(hS:Str l X Y) {d b:Nat}:∀ {s:List Da}{a:Nat},Wk l a s b→(∀ p∈s,p.2=d) →
  ac X Y d b=ac X Y d a∧al X Y d a≤al X Y d b∧(s≠[]→al X Y d a<al X Y d b)∧(∀ p∈s,ac X Y d p.1=ac X Y d a∧ac X Y d (tg l p)=ac X Y d a∧al X Y d a≤al X Y d p.1∧al X Y d p.1<al X Y d (tg l p)∧al X Y d (tg l p)≤al X Y d b) ∧
  s.Pairwise (fun p q=>al X Y d (tg l p)≤al X Y d q.1)∧∀ j,(s.map fun p=>if al X Y d p.1≤j∧j<al X Y d (tg l p) then (1:Int) else 0).sum=if al X Y d a≤j∧j<al X Y d b then 1 else 0
 | [],a,h,hd=>by
  have e:a=b:=h
  subst e
  refine ⟨rfl,Int.le_refl _,fun c=>absurd rfl c,by simp,.nil,fun j=>?_⟩
  rw [if_neg (by omega)];rfl
 | p::s,a,h,hd=>by
  obtain ⟨h1,h2,h3⟩:=h
  have hp:p.2=d:=hd p (by simp)
  obtain ⟨i1,i2,i3,i4,i5,i6⟩:=ZdN hS h3 (fun q hq=>hd q (by simp [hq]))
  obtain ⟨k1,k2⟩:=hS p h2
  rw [hp,h1] at k1 k2
  have e:(nx l p.1 p.2).toNat=tg l p:=rfl
  rw [e] at i1 i2 i3 i4 i6
  refine ⟨by omega,by omega,fun _=>by omega,fun q hq=>?_,List.pairwise_cons.2 ⟨fun q hq=>(i4 q hq).2.2.1,i5⟩,fun j=>?_⟩
  ·rcases List.mem_cons.1 hq with rfl|hq
   ·rw [h1];omega
   ·have:=i4 q hq;omega
  ·rw [List.map_cons,List.sum_cons,i6 j,h1]
   split<;>split<;>split<;>omega
theorem ZpL {l:List Za}(hc:Ck l) {σ:Int}:∀ {f:List Da}{x y:Da},Pt l x f y→f≠[]→(∀ p∈f,tt l p=0∨tt l p=σ)→∃ s1 s2 y',f=s1++s2∧s1≠[]∧(∀ p∈s1,p.2=x.2)∧Pt l x s1 y'∧Pt l y' s2 y ∧
  ((s2=[]∧zi l s1=0)∨(zi l s1=σ∧tn x.2 y'.2=σ∧∃ t c,s1=t++[c]∧tt l c=σ))
 | [],x,y,h,ne,ht=>absurd rfl ne
 | p::t,x,y,h,ne,ht=>by
  obtain ⟨rfl,hp,h3⟩:=h
  have rc:∀ t,zi l (x::t)=tt l x+zi l t:=fun t=>Za5
  by_cases c:tt l x=σ
  ·refine ⟨[x],t,bh l x,rfl,by simp,by simp,⟨rfl,hp,rfl⟩,h3,.inr ⟨by rw [rc,Zcx,c];omega,c,[],x,rfl,c⟩⟩
  ·have z:tt l x=0:=(ht x (by simp)).resolve_right c
   have ed:(bh l x).2=x.2:=by
    unfold tt tn at z
    split at z
    ·assumption
    ·split at z
     ·omega
     ·split at z<;>omega
   by_cases n:t=[]
   ·subst n
    exact ⟨[x],[],bh l x,rfl,by simp,by simp,⟨rfl,hp,rfl⟩,h3,.inl ⟨rfl,by rw [rc,Zcx,z];rfl⟩⟩
   ·obtain ⟨s1,s2,y',e,n1,d1,P1,P2,k⟩:=ZpL hc h3 n (fun q hq=>ht q (by simp [hq]))
    refine ⟨x::s1,s2,y',by rw [e];rfl,by simp,fun q hq=>?_,⟨rfl,hp,P1⟩,P2,?_⟩
    ·rcases List.mem_cons.1 hq with rfl|hq
     ·rfl
     ·rw [d1 q hq,ed]
    ·rcases k with ⟨k1,k2⟩|⟨k1,k2,tl,c',k3,k4⟩
     ·exact .inl ⟨k1,by rw [rc,k2,z];rfl⟩
     ·exact .inr ⟨by rw [rc,k1,z];omega,by rw [← ed];exact k2,x::tl,c',by rw [k3];rfl,k4⟩
theorem Zng {l:List Za}{σ:Int}(hσ:σ=1∨σ=-1):∀ {f:List Da},(∀ p∈f,tt l p=0∨tt l p=σ)→0≤σ*zi l f∧((∃ c∈f,tt l c=σ)→1≤σ*zi l f)
 | [],h=>⟨by rw [Zcx];omega,by rintro ⟨c,hc,_⟩;simp at hc⟩
 | a::t,h=>by
  obtain ⟨i1,i2⟩:=Zng hσ (fun q hq=>h q (List.mem_cons_of_mem a hq))
  have ha:=h a (by simp)
  have e:zi l (a::t)=tt l a+zi l t:=Za5
  rw [e]
  constructor
  ·rcases hσ with rfl|rfl<;>omega
  ·rintro ⟨c,hc,tc⟩
   rcases List.mem_cons.1 hc with rfl|hc
   ·rcases hσ with rfl|rfl<;>omega
   ·have:=i2 ⟨c,hc,tc⟩
    rcases hσ with rfl|rfl<;>omega
structure Cnr (l:List Za) (σ:Int) (f g:List Da) (x:Da):Prop where
 pt:Pt l x g x
 perm:g.Perm f
 t:∀ p∈g,tt l p=0∨tt l p=σ
 last:∃ t c,g=t++[c]∧tt l c=σ
theorem Znp {a b:Nat}(ha:a<4) (hb:b<4) {σ:Int}(hσ:σ=1∨σ=-1) (h:tn a b=σ):(b:Int)=(a+σ)%4:=by
 unfold tn at h
 rcases hσ with rfl|rfl
 ·split at h
  ·omega
  ·split at h
   ·omega
   ·split at h<;>omega
 ·split at h
  ·omega
  ·split at h
   ·omega
   ·split at h<;>omega
theorem Pt.end4 {l:List Za}(hc:Ck l):∀ {s:List Da}{x y:Da},Pt l x s y→x.2<4→y.2<4
 | [],x,y,h,hx=>by have e:x=y:=h;rw [← e];exact hx
 | p::s,x,y,h,hx=>Pt.end4 hc h.2.2 (h.2.1.bh hc).2.1
theorem Cnr.next {l:List Za}(hc:Ck l) {σ:Int}(hσ:σ=1∨σ=-1) {f g:List Da}{x:Da}(h:Cnr l σ f g x) (hr:zi l f=4*σ):∃ g' x',Cnr l σ f g' x'∧(x'.2:Int)=(x.2+σ)%4:=by
 have gne:g≠[]:=by
  obtain ⟨t,c,e,_⟩:=h.last
  rw [e];simp
 have x4:x.2<4:=by
  match g,h.pt,gne with
  | p::t,k,_=>rw [k.1];exact k.2.1.2.1
 obtain ⟨s1,s2,y',e,n1,d1,P1,P2,k⟩:=ZpL hc h.pt gne h.t
 have rg:zi l g=4*σ:=by rw [ZbM h.perm,hr]
 rcases k with ⟨k1,k2⟩|⟨k1,k2,t,c,k3,k4⟩
 ·subst k1
  rw [e,List.append_nil,k2] at rg
  omega
 ·refine ⟨s2++s1,y',⟨Pt.app.2 ⟨x,P2,P1⟩,?_,fun p hp=>h.t p ?_,s2++t,c,by rw [k3,List.append_assoc],k4⟩,Znp x4 (P1.end4 hc x4) hσ k2⟩
  ·exact List.perm_append_comm.trans (by rw [← e];exact h.perm)
  ·rw [e];exact List.mem_append.2 ((List.mem_append.1 hp).symm)
theorem Cnr.to {l:List Za}(hc:Ck l) {σ:Int}(hσ:σ=1∨σ=-1) {f:List Da}(hr:zi l f=4*σ):∀ (n:Nat) {g:List Da}{x:Da},Cnr l σ f g x→((x.2:Int)+n*σ)%4=0→x.2<4→∃ g' x',Cnr l σ f g' x'∧x'.2=0
 | 0,g,x,h,hx,h4=>⟨g,x,h,by omega⟩
 | n+1,g,x,h,hx,h4=>by
  obtain ⟨g',x',h',e⟩:=h.next hc hσ hr
  refine Cnr.to hc hσ hr n h' ?_ (by omega)
  rcases hσ with rfl|rfl<;>omega
structure Zrh (l:List Za) (σ:Int) (f:List Da) (c:Nat→Nat) (s:Nat→List Da):Prop where
 r:∀ i:Nat,i<4→Rn l (((i:Int)*σ)%4).toNat (c i) (s i) (c ((i+1)%4))
 perm:(s 0++(s 1++(s 2++s 3))).Perm f
theorem Zlr {l:List Za}(hc:Ck l) {σ:Int}(hσ:σ=1∨σ=-1) {f:List Da}(hL:Lp l f) (ht:∀ p∈f,tt l p=0∨tt l p=σ) (hr:zi l f=4*σ):∃ c s,Zrh l σ f c s:=by
 -- a corner
 have:∃ c∈f,tt l c=σ:=by
  refine Classical.byContradiction fun q=>?_
  have z:∀ f:List Da,(∀ p∈f,tt l p=0)→zi l f=0:=by
   intro f
   induction f with
   | nil=>intro _;rfl
   | cons a t ih =>
    intro h
    have e:zi l (a::t)=tt l a+zi l t:=Za5
    rw [e,h a (by simp),ih (fun p hp=>h p (by simp [hp]))];rfl
  have:=z f fun p hp=>(ht p hp).resolve_right fun k=>q ⟨p,hp,k⟩
  omega
 obtain ⟨c,hcf,tc⟩:=this
 obtain ⟨a,b,e⟩:=List.append_of_mem hcf
 have L2:Lp l (b++(a++[c])):=by
  have:f=(a++[c])++b:=by rw [e];simp
  rw [this] at hL
  exact hL.turn
 obtain ⟨x,hx⟩:=L2.pt
 have pm:(b++(a++[c])).Perm f:=by
  have:f=(a++[c])++b:=by rw [e];simp
  rw [this];exact List.perm_append_comm
 have C0:Cnr l σ f (b++(a++[c])) x:=⟨hx,pm,fun p hp=>ht p (pm.mem_iff.1 hp),b++a,c,by simp,tc⟩
 have x4:x.2<4:=by
  have ne:=L2.ne
  revert hx ne
  generalize b++(a++[c])=g
  intro hx ne
  match g,hx,ne with
  | p::t,k,_=>rw [k.1];exact k.2.1.2.1
 obtain ⟨g,x,C,x0⟩:∃ g' x',Cnr l σ f g' x'∧x'.2=0:=by
  rcases hσ with rfl|rfl
  ·exact C0.to hc (.inl rfl) hr (4-x.2) (by omega) x4
  ·exact C0.to hc (.inr rfl) hr x.2 (by omega) x4
 have rg:zi l g=4*σ:=by rw [ZbM C.perm,hr]
 -- way for way
 have go:∀ (k:Nat) {h:List Da}{y:Da},Pt l y h x→y.2<4→(∀ p∈h,tt l p=0∨tt l p=σ)→zi l h=(k+1)*σ→∃ s1 s2 y',h=s1++s2∧Rn l y.2 y.1 s1 y'.1∧Pt l y' s2 x∧y'.2<4∧(y'.2:Int)=(y.2+σ)%4∧(∀ p∈s2,tt l p=0∨tt l p=σ)∧zi l s2=k*σ:=by
  intro k h y hp y4 ht hr
  have hne:h≠[]:=by
   rintro rfl
   rw [Zcx] at hr
   have:(k+1:Int)*σ≠0:=by rcases hσ with rfl|rfl<;>omega
   omega
  obtain ⟨s1,s2,y',e,n1,d1,P1,P2,q⟩:=ZpL hc hp hne ht
  rcases q with ⟨q1,q2⟩|⟨q1,q2,_⟩
  ·subst q1
   rw [e,List.append_nil,q2] at hr
   have:(k+1:Int)*σ≠0:=by rcases hσ with rfl|rfl<;>omega
   omega
  ·have e4:=P1.end4 hc y4
   refine ⟨s1,s2,y',e,⟨P1.wk,d1,n1⟩,P2,e4,Znp y4 e4 hσ q2,fun p hp=>ht p (by rw [e];exact List.mem_append.2 (.inr hp)),?_⟩
   rw [e,Zcw,q1,Int.add_mul] at hr
   omega
 obtain ⟨s0,h1,y1,e1,R0,P1,y14,d1,t1,r1⟩:=go 3 C.pt (by omega) C.t (by rw [rg];rfl)
 obtain ⟨s1,h2,y2,e2,R1,P2,y24,d2,t2,r2⟩:=go 2 P1 y14 t1 (by rw [r1];rfl)
 obtain ⟨s2,h3,y3,e3,R2,P3,y34,d3,t3,r3⟩:=go 1 P2 y24 t2 (by rw [r2];rfl)
 obtain ⟨s3,h4,y4,e4,R3,P4,y44,d4,t4,r4⟩:=go 0 P3 y34 t3 (by rw [r3];rfl)
 have n4:h4=[]:=by
  refine Classical.byContradiction fun n=>?_
  obtain ⟨t,c',e5,tc'⟩:=C.last
  have:c'∈h4:=by
   have q:g=(s0++s1++s2++s3)++h4:=by rw [e1,e2,e3,e4];simp
   rw [q] at e5
   obtain ⟨u,c'',eu⟩:∃ u c'',h4=u++[c'']:=⟨h4.dropLast,h4.getLast n,(List.dropLast_concat_getLast n).symm⟩
   rw [eu,← List.append_assoc] at e5
   have:=List.append_inj_right' e5 rfl
   rw [eu]
   simp at this ⊢
   exact .inr this.symm
  have:=(Zng hσ t4).2 ⟨c',this,tc'⟩
  rw [r4] at this
  omega
 subst n4
 have y4x:y4=x:=P4
 rw [List.append_nil] at e4
 subst e4
 rw [y4x] at R3
 refine ⟨fun i=>if i=0 then x.1 else if i=1 then y1.1 else if i=2 then y2.1 else y3.1,fun i=>if i=0 then s0 else if i=1 then s1 else if i=2 then s2 else h3,⟨?_,?_⟩⟩
 ·intro i hi
  have:i=0∨i=1∨i=2∨i=3:=by omega
  rcases this with rfl|rfl|rfl|rfl
  ·have:(((0:Nat):Int)*σ%4).toNat=x.2:=by rw [x0];simp
   rw [this];exact R0
  ·have:(((1:Nat):Int)*σ%4).toNat=y1.2:=by rcases hσ with rfl|rfl<;>omega
   rw [this];exact R1
  ·have:(((2:Nat):Int)*σ%4).toNat=y2.2:=by rcases hσ with rfl|rfl<;>omega
   rw [this];exact R2
  ·have:(((3:Nat):Int)*σ%4).toNat=y3.2:=by rcases hσ with rfl|rfl<;>omega
   rw [this];exact R3
 ·show (s0++(s1++(s2++h3))).Perm f
  rw [← e3,← e2,← e1];exact C.perm
end Mu
/- Rectangles laid side by side: a covering of the frame,once. -/
namespace Mu
def wd (l:List Za) (X Y:Nat→Int) (i j:Int) (p:Da):Int:=if p.2=1 then (if i<X p.1∧Y p.1≤j∧j<Y (tg l p) then 1 else 0) else if p.2=3 then (if i<X p.1∧Y (tg l p)≤j∧j<Y p.1 then -1 else 0) else 0
structure Bx (l:List Za) (X Y:Nat→Int) (f:List Da) (x0 x1 y0 y1 xa xb ya yb:Int):Prop where
 hx:x0<x1
 hy:y0<y1
 h0:∀ p∈f,p.2=0→Y p.1=ya∧Y (tg l p)=ya∧x0≤X p.1∧X p.1<X (tg l p)∧X (tg l p)≤x1
 h1:∀ p∈f,p.2=1→X p.1=xa∧X (tg l p)=xa∧y0≤Y p.1∧Y p.1<Y (tg l p)∧Y (tg l p)≤y1
 h2:∀ p∈f,p.2=2→Y p.1=yb∧Y (tg l p)=yb∧x0≤X (tg l p)∧X (tg l p)<X p.1∧X p.1≤x1
 h3:∀ p∈f,p.2=3→X p.1=xb∧X (tg l p)=xb∧y0≤Y (tg l p)∧Y (tg l p)<Y p.1∧Y p.1≤y1
 dj:∀ p∈f,∀ q∈f,p≠q→p.2=q.2→al X Y p.2 (tg l p)≤al X Y p.2 q.1∨al X Y p.2 (tg l q)≤al X Y p.2 p.1
 w:∀ i j,(f.map (wd l X Y i j)).sum=if y0≤j∧j<y1 then (if i<xa then 1 else 0)-(if i<xb then 1 else 0) else 0
theorem Zkc {R:Da→Da→Prop}{p q:Da}:∀ {s:List Da},s.Pairwise R→p∈s→q∈s→p≠q→R p q∨R q p
 | [],_,hp,_,_=>by simp at hp
 | a::s,h,hp,hq,ne=>by
  rw [List.pairwise_cons] at h
  rcases List.mem_cons.1 hp with e1|hp1
  ·rcases List.mem_cons.1 hq with e2|hq1
   ·exact absurd (e1.trans e2.symm) ne
   ·rw [e1];exact .inl (h.1 q hq1)
  ·rcases List.mem_cons.1 hq with e2|hq1
   ·rw [e2];exact .inr (h.1 p hp1)
   ·exact Zkc h.2 hp1 hq1 ne
theorem Znl {g:Da→Int}{s:List Da}{c:Prop} [Decidable c]:(s.map fun p=>if c then g p else 0).sum=if c then (s.map g).sum else 0:=by
 by_cases h:c
 ·simp only [if_pos h]
 ·simp only [if_neg h]
  induction s with
  | nil=>rfl
  | cons a s ih=>rw [List.map_cons,List.sum_cons,ih];rfl
theorem Zo6 {l:List Za}{X Y:Nat→Int}(hS:Str l X Y) {a0 b0 a1 b1 a2 b2 a3 b3:Nat}{sE sN sW sS f:List Da}(RE:Rn l 0 a0 sE b0) (RN:Rn l 1 a1 sN b1) (RW:Rn l 2 a2 sW b2) (RS:Rn l 3 a3 sS b3) (pm:(sE++(sN++(sW++sS))).Perm f) {x0 x1 y0 y1:Int}
  (e1:X a0=x0) (e2:X b0=x1) (e3:Y a1=y0) (e4:Y b1=y1) (e5:X a2=x1) (e6:X b2=x0) (e7:Y a3=y1) (e8:Y b3=y0):Bx l X Y f x0 x1 y0 y1 (X a1) (X a3) (Y a0) (Y a2):=by
 obtain ⟨E1,E2,E3,E4,E5,E6⟩:=ZdN hS RE.w RE.d
 obtain ⟨N1,N2,N3,N4,N5,N6⟩:=ZdN hS RN.w RN.d
 obtain ⟨W1,W2,W3,W4,W5,W6⟩:=ZdN hS RW.w RW.d
 obtain ⟨S1,S2,S3,S4,S5,S6⟩:=ZdN hS RS.w RS.d
 have E3:=E3 RE.ne
 have N3:=N3 RN.ne
 have a00:∀ v,al X Y 0 v=X v:=fun _=>rfl
 have a01:∀ v,al X Y 1 v=Y v:=fun _=>rfl
 have a02:∀ v,al X Y 2 v=-X v:=fun _=>rfl
 have a03:∀ v,al X Y 3 v=-Y v:=fun _=>rfl
 have c00:∀ v,ac X Y 0 v=Y v:=fun _=>rfl
 have c01:∀ v,ac X Y 1 v=X v:=fun _=>rfl
 have c02:∀ v,ac X Y 2 v=Y v:=fun _=>rfl
 have c03:∀ v,ac X Y 3 v=X v:=fun _=>rfl
 simp only [a00,c00] at E1 E2 E3 E4
 simp only [a01,c01] at N1 N2 N3 N4
 simp only [a02,c02] at W1 W2 W4
 simp only [a03,c03] at S1 S2 S4
 have sp:∀ p,p∈f→p∈sE∧p.2=0∨p∈sN∧p.2=1∨p∈sW∧p.2=2∨p∈sS∧p.2=3:=by
  intro p hp
  have:=pm.mem_iff.2 hp
  simp only [List.mem_append] at this
  rcases this with q|q|q|q
  ·exact .inl ⟨q,RE.d p q⟩
  ·exact .inr (.inl ⟨q,RN.d p q⟩)
  ·exact .inr (.inr (.inl ⟨q,RW.d p q⟩))
  ·exact .inr (.inr (.inr ⟨q,RS.d p q⟩))
 refine ⟨by omega,by omega,fun p hp d=>?_,fun p hp d=>?_,fun p hp d=>?_,fun p hp d=>?_,fun p hp q hq ne d=>?_,fun i j=>?_⟩
 ·rcases sp p hp with ⟨m,k⟩|⟨m,k⟩|⟨m,k⟩|⟨m,k⟩
  ·have:=E4 p m;omega
  all_goals omega
 ·rcases sp p hp with ⟨m,k⟩|⟨m,k⟩|⟨m,k⟩|⟨m,k⟩
  ·omega
  ·have:=N4 p m;omega
  all_goals omega
 ·rcases sp p hp with ⟨m,k⟩|⟨m,k⟩|⟨m,k⟩|⟨m,k⟩
  ·omega
  ·omega
  ·have:=W4 p m;omega
  ·omega
 ·rcases sp p hp with ⟨m,k⟩|⟨m,k⟩|⟨m,k⟩|⟨m,k⟩
  ·omega
  ·omega
  ·omega
  ·have:=S4 p m;omega
 ·rcases sp p hp with ⟨m,k⟩|⟨m,k⟩|⟨m,k⟩|⟨m,k⟩<;>rcases sp q hq with ⟨m',k'⟩|⟨m',k'⟩|⟨m',k'⟩|⟨m',k'⟩
  all_goals first|(exfalso;omega)|skip
  ·rw [k];exact Zkc E5 m m' ne
  ·rw [k];exact Zkc N5 m m' ne
  ·rw [k];exact Zkc W5 m m' ne
  ·rw [k];exact Zkc S5 m m' ne
 ·rw [← Zdi pm]
  simp only [List.map_append,List.sum_append]
  have z:∀ s:List Da,(∀ p∈s,p.2=0∨p.2=2)→(s.map (wd l X Y i j)).sum=0:=by
   intro s
   induction s with
   | nil=>intro _;rfl
   | cons a s ih =>
    intro h
    have ha:=h a (by simp)
    rw [List.map_cons,List.sum_cons,ih fun p hp=>h p (by simp [hp])]
    unfold wd
    rw [if_neg (by omega),if_neg (by omega)];rfl
  rw [z sE (fun p hp=>.inl (RE.d p hp)),z sW (fun p hp=>.inr (RW.d p hp))]
  have n:(sN.map (wd l X Y i j)).sum=if i<X a1 then (if Y a1≤j∧j<Y b1 then 1 else 0) else 0:=by
   have:=N6 j
   simp only [a01] at this
   rw [← this,← Znl]
   congr 1
   refine List.map_congr_left fun p hp=>?_
   have k:=N4 p hp
   unfold wd
   rw [if_pos (RN.d p hp),k.1]
   split<;>split<;>first|(split<;>omega)|omega
  have s:(sS.map (wd l X Y i j)).sum=-(if i<X a3 then (if Y b3≤j∧j<Y a3 then 1 else 0) else 0):=by
   have:=S6 (-j-1)
   simp only [a03] at this
   have e:(if Y b3≤j∧j<Y a3 then (1:Int) else 0)=if -Y a3≤-j-1∧-j-1 < -Y b3 then 1 else 0:=by split<;>split<;>omega
   rw [e,← this,← Znl]
   have ng:∀ (g:Da→Int) (s:List Da),-(s.map g).sum=(s.map fun p=>-g p).sum:=by
    intro g s
    induction s with
    | nil=>rfl
    | cons a s ih=>rw [List.map_cons,List.sum_cons,List.map_cons,List.sum_cons,← ih];omega
   rw [ng]
   congr 1
   refine List.map_congr_left fun p hp=>?_
   have k:=S4 p hp
   unfold wd
   rw [if_neg (by rw [RS.d p hp];decide),if_pos (RS.d p hp),k.1]
   split<;>split<;>first|(split<;>omega)|omega
  rw [n,s,e3,e4,e7,e8]
  split<;>split<;>split<;>omega
theorem Zqu {l:List Za}(hc:Ck l) {X Y:Nat→Int}(hS:Str l X Y) {f:List Da}(hL:Lp l f) (hr:zi l f=4) (ht:∀ p∈f,0≤tt l p):∃ x0 x1 y0 y1,Bx l X Y f x0 x1 y0 y1 x1 x0 y0 y1:=by
 obtain ⟨c,s,Q⟩:=Zlr hc (σ:=1) (.inl rfl) hL (fun p hp=>by
  have:=ht p hp
  have:=(Zid (d:=p.2) (e:=(bh l p).2)).2
  have e:tt l p=tn p.2 (bh l p).2:=rfl
  omega) (by rw [hr];rfl)
 have R0:Rn l 0 (c 0) (s 0) (c 1):=Q.r 0 (by omega)
 have R1:Rn l 1 (c 1) (s 1) (c 2):=Q.r 1 (by omega)
 have R2:Rn l 2 (c 2) (s 2) (c 3):=Q.r 2 (by omega)
 have R3:Rn l 3 (c 3) (s 3) (c 0):=Q.r 3 (by omega)
 have q0:Y (c 1)=Y (c 0):=(ZdN hS R0.w R0.d).1
 have q1:X (c 2)=X (c 1):=(ZdN hS R1.w R1.d).1
 have q2:Y (c 3)=Y (c 2):=(ZdN hS R2.w R2.d).1
 have q3:X (c 0)=X (c 3):=(ZdN hS R3.w R3.d).1
 have:=Zo6 hS R0 R1 R2 R3 Q.perm (x0:=X (c 0)) (x1:=X (c 1)) (y0:=Y (c 0)) (y1:=Y (c 2)) rfl rfl q0 rfl q1 q3.symm q2 rfl
 refine ⟨X (c 0),X (c 1),Y (c 0),Y (c 2),?_⟩
 rw [← q3] at this
 exact this
theorem Zpa {l:List Za}(hc:Ck l) {X Y:Nat→Int}(hS:Str l X Y) {f:List Da}(hL:Lp l f) (hr:zi l f=-4) (ht:∀ p∈f,-1≤tt l p∧tt l p≤0):∃ x0 x1 y0 y1,Bx l X Y f x0 x1 y0 y1 x0 x1 y1 y0:=by
 obtain ⟨c,s,Q⟩:=Zlr hc (σ:=-1) (.inr rfl) hL (fun p hp=>by
  have:=ht p hp
  omega) (by rw [hr];rfl)
 have R0:Rn l 0 (c 0) (s 0) (c 1):=Q.r 0 (by omega)
 have R1:Rn l 3 (c 1) (s 1) (c 2):=Q.r 1 (by omega)
 have R2:Rn l 2 (c 2) (s 2) (c 3):=Q.r 2 (by omega)
 have R3:Rn l 1 (c 3) (s 3) (c 0):=Q.r 3 (by omega)
 have q0:Y (c 1)=Y (c 0):=(ZdN hS R0.w R0.d).1
 have q1:X (c 2)=X (c 1):=(ZdN hS R1.w R1.d).1
 have q2:Y (c 3)=Y (c 2):=(ZdN hS R2.w R2.d).1
 have q3:X (c 0)=X (c 3):=(ZdN hS R3.w R3.d).1
 have pm:(s 0++(s 3++(s 2++s 1))).Perm f:=by
  refine List.Perm.trans ?_ Q.perm
  refine List.Perm.append_left _ ?_
  exact List.perm_append_comm.trans ((List.Perm.append_right (s 3) List.perm_append_comm).trans (by rw [List.append_assoc]))
 have:=Zo6 hS R0 R3 R2 R1 pm (x0:=X (c 0)) (x1:=X (c 1)) (y0:=Y (c 2)) (y1:=Y (c 0)) rfl rfl q2 rfl q1 q3.symm q0 rfl
 refine ⟨X (c 0),X (c 1),Y (c 2),Y (c 0),?_⟩
 rw [← q3] at this
 exact this
theorem ZpU {l:List Za}(hc:Ck l) {X Y:Nat→Int}(hS:Str l X Y) (i j:Int):((Zce l).map (wd l X Y i j)).sum=0:=by
 have pm:((Zce l).map (opp l)).Perm (Zce l):=by
  have nd:((Zce l).map (opp l)).Nodup:=List.pairwise_map.2 (Zdg.imp_of_mem fun {a b} ha hb hne he=>hne (Zor hc (Zbf.1 ha) (Zbf.1 hb) he))
  have sub:∀ x∈(Zce l).map (opp l),x∈Zce l:=fun x hx=>by
   obtain ⟨q,hq,rfl⟩:=List.mem_map.1 hx
   exact Zbf.2 ((Zbf.1 hq).opp hc)
  exact (List.perm_ext_iff_of_nodup nd Zdg).2 fun x=>⟨sub x,Zg4 nd Zdg sub (by simp) x⟩
 have e:=Zdi (f:=wd l X Y i j) pm
 rw [List.map_map] at e
 have ng:∀ s:List Da,(∀ p∈s,isD l p)→(s.map (wd l X Y i j ∘ opp l)).sum=-(s.map (wd l X Y i j)).sum:=by
  intro s
  induction s with
  | nil=>intro _;rfl
  | cons a s ih =>
   intro h
   have ha:=h a (by simp)
   rw [List.map_cons,List.sum_cons,List.map_cons,List.sum_cons,ih fun p hp=>h p (by simp [hp])]
   have o:tg l (opp l a)=a.1:=congrArg Prod.fst (ZbJ hc ha)
   have st:=hS a ha
   have a4:=ha.2.1
   have w:wd l X Y i j (opp l a)=-wd l X Y i j a:=by
    unfold wd
    rw [o]
    unfold al ac at st
    unfold opp tg
    unfold tg at st
    dsimp only
    generalize (nx l a.1 a.2).toNat=b at *
    generalize a.2=d at *
    generalize a.1=v at *
    have:d=0∨d=1∨d=2∨d=3:=by omega
    rcases this with rfl|rfl|rfl|rfl<;>simp at st ⊢
    ·obtain ⟨s1,s2⟩:=st
     rw [s2]
     split<;>rfl
    ·obtain ⟨s1,s2⟩:=st
     rw [s2]
     split<;>rfl
   show wd l X Y i j (opp l a)+_=_
   rw [w];omega
 rw [ng _ fun p hp=>Zbf.1 hp] at e
 omega
theorem Znk {f:Nat→Int}:∀ {n:Nat},(∀ i,i<n→0≤f i)→0≤sg f n
 | 0,_=>Int.le_refl _
 | n+1,h=>by
  have:=Znk (f:=f) (n:=n) fun i hi=>h i (by omega)
  have:=h n (by omega)
  rw [sg];omega
theorem Zno {f:Nat→Int}{n o:Nat}(ho:o<n) (h0:sg f n=0) (hn:∀ i,i<n→i≠o→0≤f i) (h1:-1≤f o):∀ a,a<n→a≠o→f a=1→f o=-1∧∀ b,b<n→b≠o→f b=1→b=a:=by
 intro a ha ao fa
 have key:∀ b,b<n→b≠o→b≠a→f o+f a+f b≤0:=by
  intro b hb bo ba
  have e:sg (fun i=>f i+(-(if i=o then f o else 0)+(-(if i=a then f a else 0) + -(if i=b then f b else 0)))) n=sg f n-f o-f a-f b:=by
   rw [Zfp,Zfp,Zfp]
   have q:∀ c (v:Nat),v<n→sg (fun i=>-(if i=v then c else 0)) n=-c:=by
    intro c v hv
    have:(fun i:Nat=>-(if i=v then c else 0))=fun i=>if i=v then -c else 0:=by funext i;split<;>rfl
    rw [this,ZgT hv]
   rw [q _ o ho,q _ a ha,q _ b hb];omega
  have p:=Znk (f:=fun i=>f i+(-(if i=o then f o else 0)+(-(if i=a then f a else 0) + -(if i=b then f b else 0)))) (n:=n) fun i hi=>by
   by_cases c1:i=o
   ·subst c1;rw [if_pos rfl,if_neg (by omega),if_neg (by omega)];omega
   ·by_cases c2:i=a
    ·subst c2;rw [if_neg c1,if_pos rfl,if_neg (by omega)];omega
    ·by_cases c3:i=b
     ·subst c3;rw [if_neg c1,if_neg c2,if_pos rfl];omega
     ·have:=hn i hi c1
      rw [if_neg c1,if_neg c2,if_neg c3];omega
  omega
 have one:f o+f a≤0:=by
  have e:sg (fun i=>f i+(-(if i=o then f o else 0) + -(if i=a then f a else 0))) n=sg f n-f o-f a:=by
   rw [Zfp,Zfp]
   have q:∀ c (v:Nat),v<n→sg (fun i=>-(if i=v then c else 0)) n=-c:=by
    intro c v hv
    have:(fun i:Nat=>-(if i=v then c else 0))=fun i=>if i=v then -c else 0:=by funext i;split<;>rfl
    rw [this,ZgT hv]
   rw [q _ o ho,q _ a ha];omega
  have p:=Znk (f:=fun i=>f i+(-(if i=o then f o else 0) + -(if i=a then f a else 0))) (n:=n) fun i hi=>by
   by_cases c1:i=o
   ·subst c1;rw [if_pos rfl,if_neg (by omega)];omega
   ·by_cases c2:i=a
    ·subst c2;rw [if_neg c1,if_pos rfl];omega
    ·have:=hn i hi c1
     rw [if_neg c1,if_neg c2];omega
  omega
 refine ⟨by omega,fun b hb bo fb=>Classical.byContradiction fun c=>?_⟩
 have:=key b hb bo c
 omega
end Mu
/- Rectangles laid side by side: no two cells at a Zc9,none in an edge,no two edges cross. -/
namespace Mu
structure Rec (l:List Za) (X Y:Nat→Int):Prop where
 ck:Ck l
 str:Str l X Y
 one:∃ o,o<(faces l).length∧zi l (gi (faces l) o)=-4∧∀ i,i<(faces l).length→i≠o→zi l (gi (faces l) i)=4
 inn:∀ f∈faces l,zi l f=4→∀ p∈f,0≤tt l p
 out:∀ f∈faces l,zi l f=-4→∀ p∈f,-1≤tt l p∧tt l p≤0
def rnd (l:List Za) (X Y:Nat→Int) (f:List Da) (i j:Int):Int:=(f.map (wd l X Y i j)).sum
variable {l:List Za}{X Y:Nat→Int}
theorem Bx.inW {f:List Da}{x0 x1 y0 y1:Int}(B:Bx l X Y f x0 x1 y0 y1 x1 x0 y0 y1) (i j:Int):rnd l X Y f i j=if x0≤i∧i<x1∧y0≤j∧j<y1 then 1 else 0:=by
 unfold rnd
 rw [B.w]
 have:=B.hx
 split<;>split<;>first|omega|(split<;>split<;>omega)
theorem Bx.outW {f:List Da}{x0 x1 y0 y1:Int}(B:Bx l X Y f x0 x1 y0 y1 x0 x1 y1 y0) (i j:Int):rnd l X Y f i j=if x0≤i∧i<x1∧y0≤j∧j<y1 then -1 else 0:=by
 unfold rnd
 rw [B.w]
 have:=B.hx
 split<;>split<;>first|omega|(split<;>split<;>omega)
theorem Rec.bin (R:Rec l X Y) {f:List Da}(hf:f∈faces l) (h:zi l f=4):∃ x0 x1 y0 y1,Bx l X Y f x0 x1 y0 y1 x1 x0 y0 y1:=Zqu R.ck R.str (ZjM R.ck hf) h (R.inn f hf h)
theorem Rec.bout (R:Rec l X Y) {f:List Da}(hf:f∈faces l) (h:zi l f=-4):∃ x0 x1 y0 y1,Bx l X Y f x0 x1 y0 y1 x0 x1 y1 y0:=Zpa R.ck R.str (ZjM R.ck hf) h (R.out f hf h)
theorem Rec.kind (R:Rec l X Y) {f:List Da}(hf:f∈faces l):zi l f=4∨zi l f=-4:=by
 obtain ⟨o,ho,r1,r2⟩:=R.one
 obtain ⟨i,hi,e⟩:=ZbC hf
 by_cases c:i=o
 ·right;rw [← e,c,r1]
 ·left;rw [← e,r2 i hi c]
theorem Rec.same (R:Rec l X Y) {f g:List Da}(hf:f∈faces l) (hg:g∈faces l) (h1:zi l f=-4) (h2:zi l g=-4):f=g:=by
 obtain ⟨o,ho,r1,r2⟩:=R.one
 obtain ⟨i,hi,e⟩:=ZbC hf
 obtain ⟨j,hj,e'⟩:=ZbC hg
 have a:i=o:=Classical.byContradiction fun c=>by have:=r2 i hi c;rw [e] at this;omega
 have b:j=o:=Classical.byContradiction fun c=>by have:=r2 j hj c;rw [e'] at this;omega
 rw [← e,← e',a,b]
theorem Rec.uniq (R:Rec l X Y) {f:List Da}(hf:f∈faces l) (h4:zi l f=4) {i j:Int}(h1:rnd l X Y f i j=1):(∀ g∈faces l,zi l g=4→rnd l X Y g i j=1→g=f)∧∀ g∈faces l,zi l g=-4→rnd l X Y g i j=-1:=by
 obtain ⟨o,ho,r1,r2⟩:=R.one
 have tot:sg (fun k=>rnd l X Y (gi (faces l) k) i j) (faces l).length=0:=by
  rw [← ZpU R.ck R.str i j,← Zdi (Zkv R.ck),ZfR,← Zgf]
  have e:faces l=(List.range (faces l).length).map (gi (faces l)):=by
   refine List.ext_getElem (by simp) fun n h1 h2=>?_
   rw [List.getElem_map,List.getElem_range,ZaM h1]
  conv=>rhs;rw [e]
  rw [List.map_map]
  rfl
 have nn:∀ k,k<(faces l).length→k≠o→0≤rnd l X Y (gi (faces l) k) i j:=by
  intro k hk ko
  obtain ⟨x0,x1,y0,y1,B⟩:=R.bin (Zao hk) (r2 k hk ko)
  rw [B.inW];split<;>omega
 have n1:-1≤rnd l X Y (gi (faces l) o) i j:=by
  obtain ⟨x0,x1,y0,y1,B⟩:=R.bout (Zao ho) r1
  rw [B.outW];split<;>omega
 obtain ⟨a,ha,ea⟩:=ZbC hf
 have ao:a≠o:=by rintro rfl;rw [ea] at r1;omega
 obtain ⟨k1,k2⟩:=Zno ho tot nn n1 a ha ao (by rw [ea];exact h1)
 refine ⟨fun g hg g4 gw=>?_,fun g hg g4=>?_⟩
 ·obtain ⟨b,hb,eb⟩:=ZbC hg
  have bo:b≠o:=by rintro rfl;rw [eb] at r1;omega
  rw [← eb,← ea,k2 b hb bo (by rw [eb];exact gw)]
 ·rw [R.same hg (Zao ho) g4 r1];exact k1
def sx (q:Nat) (x:Int):Int:=if q=1∨q=2 then x-1 else x
def sy (q:Nat) (y:Int):Int:=if q=2∨q=3 then y-1 else y
def wq (l:List Za) (v q:Nat):Da:=(v,prv (fun e=>decide (0≤nx l v e)) ((q+3)%4))
def qok (i e q:Nat):Bool:=(tn i e != 1||q == e)&&(tn i e != 0||q == e||q == (e+1)%4)&&(tn i e != -1||q == e||q == (e+1)%4||q == (e+2)%4)
theorem ZpF:∀ a b c d:Bool,∀ i q:Fin 4,(!(Zct a b c d ((i.1+2)%4))||prv (Zct a b c d) ((q.1+3)%4) != prv (Zct a b c d) i.1||qok i.1 (prv (Zct a b c d) i.1) q.1)=true:=by decide +kernel
theorem ZpE:∀ a b c d:Bool,∀ q e:Fin 4,Zct a b c d e.1=true→Zct a b c d (prv (Zct a b c d) q.1)=true:=by decide +kernel
theorem ZqN {A:Nat→Bool}{q e:Nat}(hq:q<4) (he:e<4) (h:A e=true):A (prv A q)=true:=by
 have:=ZpE (A 0) (A 1) (A 2) (A 3) ⟨q,hq⟩ ⟨e,he⟩ (by rw [ZcG he];exact h)
 dsimp only at this
 rw [Zdm hq,ZcG (ZgN hq)] at this
 exact this
theorem ZqO {A:Nat→Bool}{i q:Nat}(hi:i<4) (hq:q<4) (h:A ((i+2)%4)=true) (h2:prv A ((q+3)%4)=prv A i) :
  (tn i (prv A i)=1→q=prv A i)∧(tn i (prv A i)=0→q=prv A i∨q=(prv A i+1)%4)∧(tn i (prv A i)=-1→q=prv A i∨q=(prv A i+1)%4∨q=(prv A i+2)%4):=by
 have:=ZpF (A 0) (A 1) (A 2) (A 3) ⟨i,hi⟩ ⟨q,hq⟩
 dsimp only at this
 rw [Zdm hi,Zdm (show (q+3)%4<4 by omega),ZcG (show (i+2)%4<4 by omega),h,h2] at this
 unfold qok at this
 simp at this
 generalize prv A i=e at *
 refine ⟨fun z=>?_,fun z=>?_,fun z=>?_⟩
 ·have:=this.1.1;omega
 ·have:=this.1.2;omega
 ·have:=this.2;omega
theorem Rec.quad (R:Rec l X Y) {v e0:Nat}(hv:v<l.length) (he:e0<4) (h0:0≤nx l v e0) {q:Nat}(hq:q<4):∃ f∈faces l,wq l v q∈f∧((zi l f=4∧rnd l X Y f (sx q (X v)) (sy q (Y v))=1)∨(zi l f=-4∧rnd l X Y f (sx q (X v)) (sy q (Y v))=0)):=by
 have hc:=R.ck
 have hA:=ZqN (A:=fun e=>decide (0≤nx l v e)) (q:=(q+3)%4) (by omega) he (by simpa using h0)
 have dW:isD l (wq l v q):=⟨hv,ZgN (A:=fun e=>decide (0≤nx l v e)) (d:=(q+3)%4) (by omega),by simpa [wq] using hA⟩
 obtain ⟨i,hi,hw⟩:=ZfW hc dW fun p hp=>(ZfX hc).2 hp
 have hf:=Zao hi
 refine ⟨gi (faces l) i,hf,hw,?_⟩
 have C:=Zbw hc _ hf
 generalize hF:gi (faces l) i=f at *
 -- the dart ahead
 obtain ⟨p,hp,bp⟩:∃ p∈f,bh l p=wq l v q:=by
  have nd:(f.map (bh l)).Nodup:=List.pairwise_map.2 (C.nd.imp_of_mem fun {a b} ha hb hne he=>hne (Zcm hc (C.is a ha) (C.is b hb) he))
  have:=Zg4 nd C.nd (fun x hx=>by
   obtain ⟨z,hz,rfl⟩:=List.mem_map.1 hx
   exact C.cl z hz) (by simp) _ hw
  obtain ⟨z,hz,e⟩:=List.mem_map.1 this
  exact ⟨z,hz,e⟩
 have dp:=C.is p hp
 have p4:=dp.2.1
 have fp:=dp.fwd hc
 have tv:tg l p=v:=by
  have:=congrArg Prod.fst bp
  rw [ZiJ] at this
  exact this
 have tp:tt l p=tn p.2 (wq l v q).2:=by unfold tt;rw [bp]
 have e2:prv (fun e=>decide (0≤nx l v e)) ((q+3)%4)=prv (fun e=>decide (0≤nx l v e)) p.2:=by
  have:=congrArg Prod.snd bp
  rw [Zcd] at this
  dsimp only at this
  rw [show (nx l p.1 p.2).toNat=v from tv] at this
  exact this.symm
 have k:=ZqO (A:=fun e=>decide (0≤nx l v e)) p4 hq (by
  have:nx l v ((p.2+2)%4)=p.1:=by rw [← tv];exact fp.2
  simp [this]) e2
 rw [← e2] at k
 have eW:wq l v q=(v,prv (fun e=>decide (0≤nx l v e)) ((q+3)%4)):=rfl
 have l4:prv (fun e=>decide (0≤nx l v e)) ((q+3)%4)<4:=ZgN (by omega)
 have td:tn p.2 (prv (fun e=>decide (0≤nx l v e)) ((q+3)%4))=tt l p:=by rw [tp];rfl
 rw [eW] at hw
 generalize prv (fun e=>decide (0≤nx l v e)) ((q+3)%4)=e at *
 have dd:(tt l p=0→p.2=e)∧(tt l p=-1→p.2=(e+1)%4):=by
  rw [← td]
  unfold tn
  constructor
  ·intro h
   split at h
   ·omega
   ·split at h
    ·omega
    ·split at h<;>omega
  ·intro h
   split at h
   ·omega
   ·split at h
    ·omega
    ·split at h
     ·omega
     ·omega
 rcases R.kind hf with r|r
 ·left
  refine ⟨r,?_⟩
  obtain ⟨x0,x1,y0,y1,B⟩:=R.bin hf r
  have t0:=R.inn f hf r p hp
  have t1:=(Zid (d:=p.2) (e:=e)).2
  rw [B.inW,if_pos]
  have b0:=B.h0 _ hw
  have b1:=B.h1 _ hw
  have b2:=B.h2 _ hw
  have b3:=B.h3 _ hw
  have c0:=B.h0 _ hp
  have c1:=B.h1 _ hp
  have c2:=B.h2 _ hp
  have c3:=B.h3 _ hp
  rw [tv] at c0 c1 c2 c3
  have hx:=B.hx
  have hy:=B.hy
  dsimp only at b0 b1 b2 b3
  have hk:q=e∨(q=(e+1)%4∧p.2=e):=by
   by_cases z:tt l p=0
   ·have:=k.2.1 (by omega);have:=dd.1 z;omega
   ·have:=k.1 (by omega);omega
  unfold sx sy
  have:e=0∨e=1∨e=2∨e=3:=by omega
  rcases this with rfl|rfl|rfl|rfl
  ·have:=b0 rfl
   rcases hk with rfl|⟨rfl,z⟩
   ·simp;omega
   ·have:=c0 z;simp;omega
  ·have:=b1 rfl
   rcases hk with rfl|⟨rfl,z⟩
   ·simp;omega
   ·have:=c1 z;simp;omega
  ·have:=b2 rfl
   rcases hk with rfl|⟨rfl,z⟩
   ·simp;omega
   ·have:=c2 z;simp;omega
  ·have:=b3 rfl
   rcases hk with rfl|⟨rfl,z⟩
   ·simp;omega
   ·have:=c3 z;simp;omega
 ·right
  refine ⟨r,?_⟩
  obtain ⟨x0,x1,y0,y1,B⟩:=R.bout hf r
  have t0:=R.out f hf r p hp
  rw [B.outW,if_neg]
  have b0:=B.h0 _ hw
  have b1:=B.h1 _ hw
  have b2:=B.h2 _ hw
  have b3:=B.h3 _ hw
  have c0:=B.h0 _ hp
  have c1:=B.h1 _ hp
  have c2:=B.h2 _ hp
  have c3:=B.h3 _ hp
  rw [tv] at c0 c1 c2 c3
  have hx:=B.hx
  have hy:=B.hy
  dsimp only at b0 b1 b2 b3
  have hk:q=e∨(q=(e+1)%4∧p.2=e)∨((q=(e+1)%4∨q=(e+2)%4)∧p.2=(e+1)%4):=by
   by_cases z:tt l p=0
   ·have:=k.2.1 (by omega);have:=dd.1 z;omega
   ·have:=k.2.2 (by omega);have:=dd.2 (by omega);omega
  unfold sx sy
  have:e=0∨e=1∨e=2∨e=3:=by omega
  rcases this with rfl|rfl|rfl|rfl
  ·have:=b0 rfl
   rcases hk with rfl|⟨rfl,z⟩|⟨rfl|rfl,z⟩
   ·simp;omega
   ·have:=c0 z;simp;omega
   ·have:=c1 z;simp;omega
   ·have:=c1 z;simp;omega
  ·have:=b1 rfl
   rcases hk with rfl|⟨rfl,z⟩|⟨rfl|rfl,z⟩
   ·simp;omega
   ·have:=c1 z;simp;omega
   ·have:=c2 z;simp;omega
   ·have:=c2 z;simp;omega
  ·have:=b2 rfl
   rcases hk with rfl|⟨rfl,z⟩|⟨rfl|rfl,z⟩
   ·simp;omega
   ·have:=c2 z;simp;omega
   ·have:=c3 z;simp;omega
   ·have:=c3 z;simp;omega
  ·have:=b3 rfl
   rcases hk with rfl|⟨rfl,z⟩|⟨rfl|rfl,z⟩
   ·simp;omega
   ·have:=c3 z;simp;omega
   ·have:=c0 z;simp;omega
   ·have:=c0 z;simp;omega
theorem Zik {d:Nat}(h:d<4):d=0∨d=1∨d=2∨d=3:=by omega
theorem Bx.start {f:List Da}{x0 x1 y0 y1:Int}(B:Bx l X Y f x0 x1 y0 y1 x1 x0 y0 y1) {p q:Da}(hp:p∈f) (hq:q∈f) (p4:p.2<4) (q4:q.2<4) (ex:X p.1=X q.1) (ey:Y p.1=Y q.1):p=q:=by
 refine Classical.byContradiction fun ne=>?_
 have hx:=B.hx
 have hy:=B.hy
 have j:=B.dj p hp q hq ne
 have a0:=B.h0 _ hp
 have a1:=B.h1 _ hp
 have a2:=B.h2 _ hp
 have a3:=B.h3 _ hp
 have b0:=B.h0 _ hq
 have b1:=B.h1 _ hq
 have b2:=B.h2 _ hq
 have b3:=B.h3 _ hq
 rcases Zik p4 with k|k|k|k<;>rcases Zik q4 with k'|k'|k'|k'<;>rw [k] at a0 a1 a2 a3 j<;>rw [k'] at b0 b1 b2 b3 j<;>simp [al] at a0 a1 a2 a3 b0 b1 b2 b3 j<;>omega
theorem Rec.at (R:Rec l X Y) {v e0 w e1:Nat}(hv:v<l.length) (he:e0<4) (h0:0≤nx l v e0) {q:Nat}(hq:q<4) {f:List Da}(hf:f∈faces l) (h4:zi l f=4) (h:rnd l X Y f (sx q (X v)) (sy q (Y v))=1):wq l v q∈f:=by
 obtain ⟨g,hg,m,k⟩:=R.quad hv he h0 hq
 obtain ⟨u1,u2⟩:=R.uniq hf h4 h
 rcases k with ⟨r,w⟩|⟨r,w⟩
 ·rw [← u1 g hg r w];exact m
 ·have:=u2 g hg r;omega
theorem wq4 {v q:Nat}:(wq l v q).2<4:=ZgN (A:=fun e=>decide (0≤nx l v e)) (d:=(q+3)%4) (by omega)
theorem Rec.V (R:Rec l X Y) {v e0 w e1:Nat}(hv:v<l.length) (he:e0<4) (h0:0≤nx l v e0) (hw:w<l.length) (he1:e1<4) (h1:0≤nx l w e1) (ex:X v=X w) (ey:Y v=Y w):v=w:=by
 obtain ⟨q,hq,f,hf,m,r,k⟩:∃ q,q<4∧∃ f∈faces l,wq l v q∈f∧zi l f=4∧rnd l X Y f (sx q (X v)) (sy q (Y v))=1:=by
  refine Classical.byContradiction fun c=>?_
  have all:∀ q,q<4→∃ f∈faces l,wq l v q∈f∧zi l f=-4∧rnd l X Y f (sx q (X v)) (sy q (Y v))=0:=by
   intro q hq
   obtain ⟨f,hf,m,k⟩:=R.quad hv he h0 hq
   rcases k with k|k
   ·exact absurd ⟨q,hq,f,hf,m,k⟩ c
   ·exact ⟨f,hf,m,k⟩
  obtain ⟨f,hf,m,r,w0⟩:=all 0 (by omega)
  obtain ⟨f1,hf1,_,r1,w1⟩:=all 1 (by omega)
  obtain ⟨f2,hf2,_,r2,w2⟩:=all 2 (by omega)
  obtain ⟨f3,hf3,_,r3,w3⟩:=all 3 (by omega)
  rw [R.same hf1 hf r1 r] at w1
  rw [R.same hf2 hf r2 r] at w2
  rw [R.same hf3 hf r3 r] at w3
  obtain ⟨x0,x1,y0,y1,B⟩:=R.bout hf r
  rw [B.outW] at w0 w1 w2 w3
  simp [sx,sy] at w0 w1 w2 w3
  have hx:=B.hx
  have hy:=B.hy
  have a0:=B.h0 _ m
  have a1:=B.h1 _ m
  have a2:=B.h2 _ m
  have a3:=B.h3 _ m
  have e:(wq l v 0).1=v:=rfl
  rw [e] at a0 a1 a2 a3
  have inb:x0≤X v∧X v≤x1∧y0≤Y v∧Y v≤y1:=by
   rcases Zik (wq4 (l:=l) (v:=v) (q:=0)) with k|k|k|k
   ·have:=a0 k;omega
   ·have:=a1 k;omega
   ·have:=a2 k;omega
   ·have:=a3 k;omega
  omega
 have m2:=R.at (w:=w) (e1:=e1) hw he1 h1 hq hf r (by rw [← ex,← ey];exact k)
 obtain ⟨x0,x1,y0,y1,B⟩:=R.bin hf r
 exact congrArg Prod.fst (B.start m m2 wq4 wq4 ex ey)
theorem Rec.face (R:Rec l X Y) {p:Da}(hp:isD l p):∃ f∈faces l,p∈f:=by
 obtain ⟨i,hi,hw⟩:=ZfW R.ck hp fun p hp=>(ZfX R.ck).2 hp
 exact ⟨_,Zao hi,hw⟩
theorem Rec.side (R:Rec l X Y) {p:Da}(hp:isD l p):(∃ f∈faces l,p∈f∧zi l f=4)∨∃ f∈faces l,opp l p∈f∧zi l f=4:=by
 obtain ⟨f,hf,m⟩:=R.face hp
 obtain ⟨g,hg,m'⟩:=R.face (hp.opp R.ck)
 rcases R.kind hf with r|r
 ·exact .inl ⟨f,hf,m,r⟩
 ·rcases R.kind hg with r'|r'
  ·exact .inr ⟨g,hg,m',r'⟩
  ·exfalso
   rw [R.same hg hf r' r] at m'
   obtain ⟨x0,x1,y0,y1,B⟩:=R.bout hf r
   have hx:=B.hx
   have hy:=B.hy
   have o:tg l (opp l p)=p.1:=congrArg Prod.fst (ZbJ R.ck hp)
   have a0:=B.h0 _ m
   have a1:=B.h1 _ m
   have a2:=B.h2 _ m
   have a3:=B.h3 _ m
   have b0:=B.h0 _ m'
   have b1:=B.h1 _ m'
   have b2:=B.h2 _ m'
   have b3:=B.h3 _ m'
   rw [o] at b0 b1 b2 b3
   unfold opp at b0 b1 b2 b3
   dsimp only at b0 b1 b2 b3
   rcases Zik hp.2.1 with k|k|k|k<;>rw [k] at a0 a1 a2 a3 b0 b1 b2 b3<;>simp at a0 a1 a2 a3 b0 b1 b2 b3<;>omega
theorem Rec.E1 (R:Rec l X Y) {p:Da}{f:List Da}(hf:f∈faces l) (hp:p∈f) (r:zi l f=4) {w e1:Nat}(hw:w<l.length) (he1:e1<4) (h1:0≤nx l w e1) (ea:ac X Y p.2 w=ac X Y p.2 p.1) (l1:al X Y p.2 p.1<al X Y p.2 w) (l2:al X Y p.2 w<al X Y p.2 (tg l p)):False:=by
 obtain ⟨x0,x1,y0,y1,B⟩:=R.bin hf r
 have p4:=((Zbw R.ck f hf).is p hp).2.1
 have hx:=B.hx
 have hy:=B.hy
 have a0:=B.h0 _ hp
 have a1:=B.h1 _ hp
 have a2:=B.h2 _ hp
 have a3:=B.h3 _ hp
 have m:=R.at (w:=w) (e1:=e1) hw he1 h1 p4 hf r (by
  rw [B.inW,if_pos]
  rcases Zik p4 with k|k|k|k<;>rw [k] at a0 a1 a2 a3 ea l1 l2 ⊢ <;> simp [al,ac,sx,sy] at a0 a1 a2 a3 ea l1 l2 ⊢ <;> omega)
 have e:(wq l w p.2).1=w:=rfl
 have ne:p≠wq l w p.2:=fun z=>by
  have:=congrArg Prod.fst z
  rw [e] at this
  rw [this] at l1
  omega
 have j:=B.dj p hp _ m ne
 have b0:=B.h0 _ m
 have b1:=B.h1 _ m
 have b2:=B.h2 _ m
 have b3:=B.h3 _ m
 rw [e] at b0 b1 b2 b3 j
 have q4:=wq4 (l:=l) (v:=w) (q:=p.2)
 generalize wq l w p.2=r' at *
 rcases Zik p4 with k|k|k|k<;>rcases Zik q4 with k'|k'|k'|k'<;>rw [k] at a0 a1 a2 a3 ea l1 l2 j<;>rw [k'] at b0 b1 b2 b3 j<;>simp [al,ac] at a0 a1 a2 a3 b0 b1 b2 b3 ea l1 l2 j<;>omega
theorem Rec.E (R:Rec l X Y) {p:Da}(hp:isD l p) {w e1:Nat}(hw:w<l.length) (he1:e1<4) (h1:0≤nx l w e1) (ea:ac X Y p.2 w=ac X Y p.2 p.1) (l1:al X Y p.2 p.1<al X Y p.2 w) (l2:al X Y p.2 w<al X Y p.2 (tg l p)):False:=by
 rcases R.side hp with ⟨f,hf,m,r⟩|⟨f,hf,m,r⟩
 ·exact R.E1 hf m r hw he1 h1 ea l1 l2
 ·have o:tg l (opp l p)=p.1:=congrArg Prod.fst (ZbJ R.ck hp)
  have st:=(R.str p hp).2
  have e:(opp l p).1=tg l p:=rfl
  refine R.E1 hf m r hw he1 h1 ?_ ?_ ?_
  ·rw [e]
   show ac X Y ((p.2+2)%4) w=ac X Y ((p.2+2)%4) (tg l p)
   rcases Zik hp.2.1 with k|k|k|k<;>rw [k] at ea st ⊢ <;> simp [ac] at ea st ⊢ <;> omega
  ·rw [e]
   show al X Y ((p.2+2)%4) (tg l p)<al X Y ((p.2+2)%4) w
   rcases Zik hp.2.1 with k|k|k|k<;>rw [k] at l2 ⊢ <;> simp [al] at l2 ⊢ <;> omega
  ·rw [o]
   show al X Y ((p.2+2)%4) w<al X Y ((p.2+2)%4) p.1
   rcases Zik hp.2.1 with k|k|k|k<;>rw [k] at l1 ⊢ <;> simp [al] at l1 ⊢ <;> omega
theorem Rec.Xs (R:Rec l X Y) {p q:Da}(hp:isD l p) (hq:isD l q) (p0:p.2=0) (q1:q.2=1) (x1:X p.1<X q.1) (x2:X q.1<X (tg l p)) (y1:Y q.1<Y p.1) (y2:Y p.1<Y (tg l q)):False:=by
 have sp:=(R.str p hp).2
 have sq:=(R.str q hq).2
 rw [p0] at sp
 rw [q1] at sq
 simp [ac] at sp sq
 have op:tg l (opp l p)=p.1:=congrArg Prod.fst (ZbJ R.ck hp)
 have oq:tg l (opp l q)=q.1:=congrArg Prod.fst (ZbJ R.ck hq)
 have ep:(opp l p).1=tg l p:=rfl
 have eq:(opp l q).1=tg l q:=rfl
 have hP:∃ f∈faces l,zi l f=4∧((rnd l X Y f (X q.1) (Y p.1)=1∧rnd l X Y f (X q.1-1) (Y p.1)=1)∨(rnd l X Y f (X q.1) (Y p.1-1)=1∧rnd l X Y f (X q.1-1) (Y p.1-1)=1)):=by
  rcases R.side hp with ⟨f,hf,m,r⟩|⟨f,hf,m,r⟩<;>refine ⟨f,hf,r,?_⟩<;>obtain ⟨a,b,c,d,B⟩:=R.bin hf r
  ·left
   have:=B.h0 _ m p0
   have:=B.hy
   rw [B.inW,B.inW,if_pos (by omega),if_pos (by omega)];exact ⟨rfl,rfl⟩
  ·right
   have h2:=B.h2 _ m (by unfold opp;dsimp only;omega)
   have:=B.hy
   rw [op,ep] at h2
   rw [B.inW,B.inW,if_pos (by omega),if_pos (by omega)];exact ⟨rfl,rfl⟩
 have hQ:∃ f∈faces l,zi l f=4∧((rnd l X Y f (X q.1-1) (Y p.1)=1∧rnd l X Y f (X q.1-1) (Y p.1-1)=1∧rnd l X Y f (X q.1) (Y p.1)=0∧rnd l X Y f (X q.1) (Y p.1-1)=0)∨(rnd l X Y f (X q.1) (Y p.1)=1∧rnd l X Y f (X q.1) (Y p.1-1)=1∧rnd l X Y f (X q.1-1) (Y p.1)=0∧rnd l X Y f (X q.1-1) (Y p.1-1)=0)):=by
  rcases R.side hq with ⟨f,hf,m,r⟩|⟨f,hf,m,r⟩<;>refine ⟨f,hf,r,?_⟩<;>obtain ⟨a,b,c,d,B⟩:=R.bin hf r
  ·left
   have:=B.h1 _ m q1
   have:=B.hx
   rw [B.inW,B.inW,B.inW,B.inW,if_pos (by omega),if_pos (by omega),if_neg (by omega),if_neg (by omega)];exact ⟨rfl,rfl,rfl,rfl⟩
  ·right
   have h3:=B.h3 _ m (by unfold opp;dsimp only;omega)
   have:=B.hx
   rw [oq,eq] at h3
   rw [B.inW,B.inW,B.inW,B.inW,if_pos (by omega),if_pos (by omega),if_neg (by omega),if_neg (by omega)];exact ⟨rfl,rfl,rfl,rfl⟩
 obtain ⟨f,hf,r,k⟩:=hP
 obtain ⟨g,hg,s,k'⟩:=hQ
 have U:=fun i j h=>(R.uniq (i:=i) (j:=j) hf r h).1 g hg s
 rcases k with ⟨a,b⟩|⟨a,b⟩<;>rcases k' with ⟨c,d,e,h⟩|⟨c,d,e,h⟩
 ·have z:=U _ _ b c;subst z;omega
 ·have z:=U _ _ a c;subst z;omega
 ·have z:=U _ _ b d;subst z;omega
 ·have z:=U _ _ a d;subst z;omega
end Mu
/- Cells beside cells. -/
namespace Mu
def sh1 (n:Nat) (x:Int):Int:=if 0≤x then x+n else -1
def shC (n:Nat) (c:Za):Za:=⟨⟨sh1 n c.Next.a,sh1 n c.Next.b,sh1 n c.Next.c,sh1 n c.Next.d⟩,c.Owner⟩
def app (l k:List Za):List Za:=l++k.map (shC l.length)
theorem ZcB {l k:List Za}:(app l k).length=l.length+k.length:=by simp [app]
theorem Zjb {l k:List Za}{i:Nat}(h:i<l.length):gi (app l k) i=gi l i:=Zcb h
theorem Zjc {l k:List Za}{i:Nat}(h:i<k.length):gi (app l k) (l.length+i)=shC l.length (gi k i):=by
 unfold app
 rw [ZbN,Zcj h]
theorem Zox {n:Nat}{c:Za}{e:Nat}(he:e<4):(shC n c).Next.get (e:Int)=sh1 n (c.Next.get (e:Int))∧(shC n c).Owner.get (e:Int)=c.Owner.get (e:Int):=by
 match e,he with
 | 0,_|1,_|2,_|3,_=>exact ⟨rfl,rfl⟩
theorem ZcD {l k:List Za}{i e:Nat}(h:i<l.length):nx (app l k) i e=nx l i e∧ow (app l k) i e=ow l i e:=by
 unfold nx ow;rw [Zjb h];exact ⟨rfl,rfl⟩
theorem Zdl {l k:List Za}{i e:Nat}(h:i<k.length) (he:e<4):nx (app l k) (l.length+i) e=sh1 l.length (nx k i e)∧ow (app l k) (l.length+i) e=ow k i e:=by
 unfold nx ow;rw [Zjc h];exact Zox he
theorem Ck.app {l k:List Za}(hl:Ck l) (hk:Ck k):Ck (app l k):=by
 refine ⟨fun v d hv hd=>?_⟩
 rw [ZcB] at hv ⊢
 by_cases c:v<l.length
 ·have a:=ZcD (k:=k) (e:=d) c
  rcases hl.s v d c hd with ⟨a1,a2⟩|⟨w,a1,a2,a3,a4,a5,a6⟩
  ·left;rw [a.1,a.2];exact ⟨a1,a2⟩
  ·right
   have b:=ZcD (k:=k) (e:=(d+2)%4) a2
   exact ⟨w,by rw [a.1];exact a1,by omega,a3,by rw [b.1];exact a4,by rw [b.2,a.2];exact a5,by rw [a.2];exact a6⟩
 ·obtain ⟨i,rfl⟩:∃ i,v=l.length+i:=⟨v-l.length,by omega⟩
  have hi:i<k.length:=by omega
  have a:=Zdl (l:=l) hi hd
  rcases hk.s i d hi hd with ⟨a1,a2⟩|⟨w,a1,a2,a3,a4,a5,a6⟩
  ·left;rw [a.1,a.2,a1];exact ⟨by unfold sh1;rw [if_neg (by omega)],a2⟩
  ·right
   have b:=Zdl (l:=l) (e:=(d+2)%4) a2 (by omega)
   refine ⟨l.length+w,by rw [a.1,a1];unfold sh1;rw [if_pos (by omega)];omega,by omega,by omega,by rw [b.1,a4];unfold sh1;rw [if_pos (by omega)];omega,by rw [b.2,a.2];exact a5,by rw [a.2];exact a6⟩
def shD (n:Nat) (p:Da):Da:=(n+p.1,p.2)
theorem Zj3 {n:Nat}{p q:Da}(h:shD n p=shD n q):p=q:=by
 unfold shD at h
 injection h with h1 h2
 exact Prod.ext (by omega) h2
theorem Zep {l k:List Za}{p:Da}:isD (app l k) p↔isD l p∨∃ q,isD k q∧p=shD l.length q:=by
 unfold isD
 rw [ZcB]
 constructor
 ·rintro ⟨h1,h2,h3⟩
  by_cases c:p.1<l.length
  ·left
   rw [(ZcD c).1] at h3
   exact ⟨c,h2,h3⟩
  ·right
   refine ⟨(p.1-l.length,p.2),⟨by dsimp only;omega,h2,?_⟩,Prod.ext (by unfold shD;dsimp only;omega) rfl⟩
   have:p.1=l.length+(p.1-l.length):=by omega
   rw [this,(Zdl (by omega) h2).1] at h3
   unfold sh1 at h3
   split at h3
   ·assumption
   ·omega
 ·rintro (⟨h1,h2,h3⟩|⟨q,⟨h1,h2,h3⟩,rfl⟩)
  ·exact ⟨by omega,h2,by rw [(ZcD h1).1];exact h3⟩
  ·refine ⟨by unfold shD;dsimp only;omega,h2,?_⟩
   show 0≤nx (app l k) (l.length+q.1) q.2
   rw [(Zdl h1 h2).1];unfold sh1;rw [if_pos h3];omega
theorem Zgx {l k:List Za}(hl:Ck l) {p:Da}(h:isD l p):bh (app l k) p=bh l p:=by
 have f:=h.fwd hl
 rw [Zcd,Zcd,(ZcD h.1).1]
 refine congrArg (Prod.mk _) (ZcJ (fun e he=>?_) h.2.1)
 rw [(ZcD f.1).1]
theorem ZfV {l k:List Za}(hk:Ck k) {p:Da}(h:isD k p):bh (app l k) (shD l.length p)=shD l.length (bh k p):=by
 have f:=h.fwd hk
 have h3:=h.2.2
 rw [Zcd,Zcd]
 have e:nx (app l k) (shD l.length p).1 (shD l.length p).2=((l.length+(nx k p.1 p.2).toNat:Nat):Int):=by
  show nx (app l k) (l.length+p.1) p.2=_
  rw [(Zdl h.1 h.2.1).1];unfold sh1;rw [if_pos h3];omega
 rw [e,itn]
 unfold shD
 dsimp only
 refine congrArg (Prod.mk _) (ZcJ (fun e he=>?_) h.2.1)
 rw [(Zdl f.1 he).1,decide_eq_decide]
 unfold sh1
 split
 ·rename_i c;exact ⟨fun _=>c,fun _=>by omega⟩
 ·rename_i c;exact ⟨fun q=>by omega,fun q=>absurd q c⟩
theorem Cyc.app1 {l k:List Za}(hl:Ck l) {f:List Da}(h:Cyc l f):Cyc (app l k) f∧zi (app l k) f=zi l f:=by
 refine ⟨⟨h.ne,h.nd,fun p hp=>Zep.2 (.inl (h.is p hp)),fun p hp=>by rw [Zgx hl (h.is p hp)];exact h.cl p hp,fun C hC p hp q hq hCp=>h.one C (fun x hx hCx=>by rw [← Zgx (k:=k) hl hx];exact hC x (Zep.2 (.inl hx)) hCx) p hp q hq hCp⟩,?_⟩
 unfold zi tns
 congr 1
 exact List.map_congr_left fun p hp=>by rw [Zgx hl (h.is p hp)]
theorem Cyc.app2 {l k:List Za}(hk:Ck k) {f:List Da}(h:Cyc k f):Cyc (app l k) (f.map (shD l.length))∧zi (app l k) (f.map (shD l.length))=zi k f:=by
 refine ⟨⟨by simpa using h.ne,?_,fun p hp=>?_,fun p hp=>?_,fun C hC p hp q hq hCp=>?_⟩,?_⟩
 ·exact List.pairwise_map.2 (h.nd.imp fun {a b} hne he=>hne (Zj3 he))
 ·obtain ⟨q,hq,rfl⟩:=List.mem_map.1 hp
  exact Zep.2 (.inr ⟨q,h.is q hq,rfl⟩)
 ·obtain ⟨q,hq,rfl⟩:=List.mem_map.1 hp
  rw [ZfV hk (h.is q hq)]
  exact List.mem_map.2 ⟨_,h.cl q hq,rfl⟩
 ·obtain ⟨p',hp',rfl⟩:=List.mem_map.1 hp
  obtain ⟨q',hq',rfl⟩:=List.mem_map.1 hq
  exact h.one (fun x=>C (shD l.length x)) (fun x hx hCx=>by
   rw [← ZfV hk hx];exact hC _ (Zep.2 (.inr ⟨x,hx,rfl⟩)) hCx) p' hp' q' hq' hCp
 ·unfold zi tns
  rw [List.map_map]
  congr 1
  refine List.map_congr_left fun p hp=>?_
  show tn (shD l.length p).2 (bh (app l k) (shD l.length p)).2=_
  rw [ZfV hk (h.is p hp)]
  rfl
theorem Lp.app1 {l k:List Za}(hl:Ck l) {f:List Da}(h:Lp l f):Lp (app l k) f:=by
 have:∀ {s:List Da}{x y:Da},Pt l x s y→Pt (app l k) x s y:=by
  intro s
  induction s with
  | nil=>intro x y h;exact h
  | cons a s ih =>
   intro x y h
   obtain ⟨h1,h2,h3⟩:=h
   exact ⟨h1,Zep.2 (.inl h2),by rw [Zgx hl h2];exact ih h3⟩
 obtain ⟨x,hx⟩:=h.pt
 exact ⟨h.ne,h.nd,x,this hx⟩
theorem Lp.app2 {l k:List Za}(hk:Ck k) {f:List Da}(h:Lp k f):Lp (app l k) (f.map (shD l.length)):=by
 have:∀ {s:List Da}{x y:Da},Pt k x s y→Pt (app l k) (shD l.length x) (s.map (shD l.length)) (shD l.length y):=by
  intro s
  induction s with
  | nil=>intro x y h;exact congrArg (shD l.length) h
  | cons a s ih =>
   intro x y h
   obtain ⟨h1,h2,h3⟩:=h
   exact ⟨by rw [h1],Zep.2 (.inr ⟨a,h2,rfl⟩),by rw [ZfV hk h2];exact ih h3⟩
 obtain ⟨x,hx⟩:=h.pt
 exact ⟨by simpa using h.ne,(Cyc.app2 (l:=l) hk h.cyc).1.nd,_,this hx⟩
theorem Fcs.app {l k:List Za}(hl:Ck l) (hk:Ck k) {F G:List (List Da)}(hF:Fcs l F) (hG:Fcs k G):Fcs (app l k) (F++G.map (List.map (shD l.length))):=by
 refine ⟨fun f hf=>?_,?_,fun p hp=>?_⟩
 ·rcases List.mem_append.1 hf with h|h
  ·exact (Cyc.app1 hl (hF.cy f h)).1
  ·obtain ⟨g,hg,rfl⟩:=List.mem_map.1 h
   exact (Cyc.app2 hk (hG.cy g hg)).1
 ·have e:(G.map (List.map (shD l.length))).flatten=G.flatten.map (shD l.length):=by rw [List.map_flatten]
  rw [List.flatten_append,e,List.nodup_append]
  refine ⟨hF.nd,List.pairwise_map.2 (hG.nd.imp fun {a b} hne he=>hne (Zj3 he)),fun a ha b hb q=>?_⟩
  obtain ⟨f,hf,haf⟩:=List.mem_flatten.1 ha
  obtain ⟨b',_,rfl⟩:=List.mem_map.1 hb
  have:=((hF.cy f hf).is a haf).1
  rw [q] at this
  unfold shD at this
  dsimp only at this
  omega
 ·rw [List.flatten_append,List.mem_append]
  rcases Zep.1 hp with h|⟨q,h,rfl⟩
  ·exact .inl (hF.al p h)
  ·right
   obtain ⟨g,hg,hq⟩:=List.mem_flatten.1 (hG.al q h)
   exact List.mem_flatten.2 ⟨g.map (shD l.length),List.mem_map.2 ⟨g,hg,rfl⟩,List.mem_map.2 ⟨q,hq,rfl⟩⟩
theorem Zia {f:Nat→Int}{n:Nat}:∀ m,sg f (n+m)=sg f n+sg (fun i=>f (n+i)) m
 | 0=>by simp [sg]
 | m+1=>by rw [← Nat.add_assoc,sg,Zia m,sg];omega
theorem ZjK {l k:List Za}{u:Nat}(h:u<l.length):deg (app l k) u=deg l u:=by
 rw [Zd3,Zd3,(ZcD h).1,(ZcD h).1,(ZcD h).1,(ZcD h).1]
theorem ZjL {l k:List Za}{u:Nat}(h:u<k.length):deg (app l k) (l.length+u)=deg k u:=by
 have e:∀ e,e<4→(if 0≤nx (app l k) (l.length+u) e then (1:Int) else 0)=if 0≤nx k u e then 1 else 0:=by
  intro e he
  rw [(Zdl h he).1]
  unfold sh1
  by_cases c:0≤nx k u e
  ·rw [if_pos c,if_pos (by omega),if_pos c]
  ·rw [if_neg c,if_neg (by omega),if_neg c]
 rw [Zd3,Zd3,e 0 (by omega),e 1 (by omega),e 2 (by omega),e 3 (by omega)]
theorem ZnJ {l k:List Za}(hl:Ck l) (hk:Ck k):chi (app l k)=chi l+chi k:=by
 have ln:=((Fcs.faces hl).app hl hk (Fcs.faces hk)).len (Fcs.faces (hl.app hk))
 rw [List.length_append,List.length_map] at ln
 have a:cV (app l k)=cV l+cV k:=by
  unfold cV
  rw [ZcB,Zia,Zcf (f:=fun w=>if deg (app l k) w=0 then (0:Int) else 1) (g:=fun w=>if deg l w=0 then (0:Int) else 1) fun u hu=>by rw [ZjK hu]]
  congr 1
  exact Zcf fun u hu=>by rw [ZjL hu]
 have b:cD (app l k)=cD l+cD k:=by
  unfold cD
  rw [ZcB,Zia,Zcf (f:=deg (app l k)) (g:=deg l) fun u hu=>ZjK hu]
  congr 1
  exact Zcf fun u hu=>ZjL hu
 unfold chi
 rw [a,b,← ln]
 omega
theorem Cyc.of_app {l k:List Za}(hl:Ck l) (hk:Ck k) {f:List Da}(h:Cyc (app l k) f):(∃ g,Cyc l g∧zi (app l k) f=zi l g)∨∃ g,Cyc k g∧zi (app l k) f=zi k g:=by
 obtain ⟨p,hp⟩:=List.exists_mem_of_ne_nil f h.ne
 have F:=(Fcs.faces hl).app hl hk (Fcs.faces hk)
 obtain ⟨g,hg,hpg⟩:=List.mem_flatten.1 (F.al p (h.is p hp))
 have e:=ZbM (l:=app l k) (h.perm (F.cy g hg) hp hpg)
 rcases List.mem_append.1 hg with q|q
 ·have c:=Zbw hl g q
  exact .inl ⟨g,c,by rw [e,(Cyc.app1 hl c).2]⟩
 ·obtain ⟨g',hg',rfl⟩:=List.mem_map.1 q
  have c:=Zbw hk g' hg'
  exact .inr ⟨g',c,by rw [e,(Cyc.app2 hk c).2]⟩
theorem ZkN {n:Nat}{c:Za}{d w:Nat}{o:Int}(hd:d<4):shC n (wC1 c d w o)=wC1 (shC n c) d ((n+w:Nat):Int) o:=by
 have e:sh1 n (w:Int)=((n+w:Nat):Int):=by unfold sh1;rw [if_pos (by omega)];omega
 match d,hd with
 | 0,_|1,_|2,_|3,_=>unfold shC wC1;simp only [A4.set];simp [e]
end Mu
/- Layer 21: cells framed. -/
namespace Mu
theorem Zo4 {l k:List Za}{a b d:Nat}{o:Int}(ha:a<k.length) (hb:b<k.length) (hd:d<4):wth (app l k) ((l.length+a:Nat):Int) d ((l.length+b:Nat):Int) o=app l (wth k a d b o):=by
 refine ZcH (by rw [Zab,ZcB,ZcB,Zab]) fun i hi=>?_
 rw [Zab,ZcB] at hi
 have e1:gi (wth (app l k) ((l.length+a:Nat):Int) d ((l.length+b:Nat):Int) o) i=wC (app l k) ((l.length+a:Nat):Int) d ((l.length+b:Nat):Int) o i:=by
  unfold wth;rw [Zb4 (by rw [ZcB];exact hi)]
 rw [e1]
 by_cases c:i<l.length
 ·rw [Zjb c]
  unfold wC
  dsimp only
  rw [if_neg (by omega),if_neg (by omega),Zjb c]
 ·obtain ⟨j,rfl⟩:∃ j,i=l.length+j:=⟨i-l.length,by omega⟩
  have hj:j<k.length:=by omega
  rw [Zjc (by rw [Zab];exact hj)]
  have e2:gi (wth k a d b o) j=wC k a d b o j:=by unfold wth;rw [Zb4 hj]
  rw [e2]
  unfold wC
  dsimp only
  rw [Zjc hj]
  have m:((d:Int)+2).tmod 4=(((d+2)%4:Nat):Int):=tm2 hd
  rw [m]
  by_cases c1:j=b
  ·subst c1
   rw [if_pos rfl,if_pos rfl,ZkN (show (d+2)%4<4 by omega)]
   by_cases c2:j=a
   ·subst c2
    rw [if_pos rfl,if_pos rfl,ZkN hd]
   ·rw [if_neg (by omega),if_neg (by omega)]
  ·rw [if_neg (show ¬ (((l.length+j:Nat):Int)=((l.length+b:Nat):Int)) by omega),if_neg (show ¬ ((j:Int)=(b:Int)) by omega)]
   by_cases c2:j=a
   ·subst c2
    rw [if_pos rfl,if_pos rfl,ZkN hd]
   ·rw [if_neg (by omega),if_neg (by omega)]
def frK (d:Nat):Nat→List Za
 | 0=>List.replicate 5 noC
 | j+1=>if (j+3)%4=d then wth (wth (frK d j) j j 4 (-2)) 4 j (((j+1)%4:Nat):Int) (-2) else wth (frK d j) j j (((j+1)%4:Nat):Int) (-2)
theorem Zhr {d:Nat}:∀ j,(frK d j).length=5
 | 0=>by simp [frK]
 | j+1=>by rw [frK];split<;>simp [Zab,Zhr j]
theorem ZnP:∀ d:Fin 4,∀ j:Fin 5,ZeJ (frK d.1 j.1)=0:=by decide +kernel
theorem Zpn {d j:Nat}(hd:d<4) (hj:j<5):Ck (frK d j):=(Zda.1 (ZnP ⟨d,hd⟩ ⟨j,hj⟩)).2
theorem Zl6:∀ d:Fin 4,∀ j:Fin 4,nx (frK d.1 j.1) j.1 j.1=-1∧nx (frK d.1 j.1) ((j.1+1)%4) ((j.1+2)%4)=-1∧((j.1+3)%4=d.1→nx (frK d.1 j.1) 4 ((j.1+2)%4)=-1):=by decide +kernel
theorem Zm6:∀ d:Fin 4,∀ j:Fin 4,(j.1+3)%4=d.1→nx (wth (frK d.1 j.1) j.1 j.1 4 (-2)) 4 j.1=-1∧nx (wth (frK d.1 j.1) j.1 j.1 4 (-2)) ((j.1+1)%4) ((j.1+2)%4)=-1:=by decide +kernel
theorem Zm7:∀ d:Fin 4,∃ a:Fin 4,Zfm (frK d.1 4)=some (a.1:Int):=by decide +kernel
theorem ZnQ {d:Nat}(hd:d<4):Val (frK d 4):=by
 obtain ⟨a,e⟩:=Zm7 ⟨d,hd⟩
 exact ZfM.1 ⟨_,e,by omega⟩
instance Pt.dec {l:List Za}:∀ (s:List Da) (x y:Da),Decidable (Pt l x s y)
 | [],x,y=>inferInstanceAs (Decidable (x=y))
 | a::s,x,y=>by
  have:=Pt.dec (l:=l) s (bh l a) y
  exact inferInstanceAs (Decidable (x=a∧isD l a∧Pt l (bh l a) s y))
def frT (d:Nat):List Da:=[(4,(d+1)%4),((d+2)%4,(d+2)%4),((d+3)%4,(d+3)%4),(d,d)]
def frY (d:Nat):Da:=((d+1)%4,(d+1)%4)
theorem Zlh:∀ d:Fin 4,Pt (frK d.1 4) (4,(d.1+1)%4) (frT d.1++[frY d.1]) (4,(d.1+1)%4)∧(frT d.1++[frY d.1]).Nodup∧zi (frK d.1 4) (frT d.1++[frY d.1])=4∧tt (frK d.1 4) (frY d.1)=0∧nx (frK d.1 4) (frY d.1).1 (frY d.1).2=4∧nx (frK d.1 4) 4 ((d.1+2)%4)=-1∧isD (frK d.1 4) (frY d.1):=by decide +kernel
theorem Zpm:∀ d:Fin 4,Adj (frK d.1 4) 4 ((d.1+2)%4)∧Adj (frK d.1 4) ((d.1+2)%4) ((d.1+3)%4)∧Adj (frK d.1 4) ((d.1+3)%4) d.1∧Adj (frK d.1 4) d.1 ((d.1+1)%4):=by
 have:∀ d:Fin 4,nx (frK d.1 4) 4 ((d.1+1)%4)=((d.1+2)%4:Nat)∧nx (frK d.1 4) ((d.1+2)%4) ((d.1+2)%4)=((d.1+3)%4:Nat)∧nx (frK d.1 4) ((d.1+3)%4) ((d.1+3)%4)=d.1∧nx (frK d.1 4) d.1 d.1=((d.1+1)%4:Nat):=by decide +kernel
 intro d
 obtain ⟨a,b,c,e⟩:=this d
 have:=d.2
 exact ⟨⟨_,by omega,a⟩,⟨_,by omega,b⟩,⟨_,by omega,c⟩,⟨_,by omega,e⟩⟩
theorem Zn9 {l:List Za}:∀ n,app l (List.replicate n noC)=l++List.replicate n noC:=by
 intro n
 unfold app
 rw [List.map_replicate]
 rfl
def frm (l:List Za) (v d:Nat):List Za:=wth (app l (frK d 4)) v d ((l.length+4:Nat):Int) (-2)
theorem Zpw {l:List Za}(hl:l.length≤4000) {p:Da}(hp:isD l p) (hc:Ck l) (hn:nx l (nx l p.1 p.2).toNat p.2=-1):ZaA ⟨l⟩ (dt p)=some ⟨frm l (nx l p.1 p.2).toNat p.2⟩:=by
 have hd:=hp.2.1
 have f:=hp.fwd hc
 have n0:=hp.2.2
 have L0:ZZ ZaA.s0 big (l,0)=some (l++List.replicate 5 noC):=by
  refine ZbP (fun j:Nat=>(l++List.replicate j noC,(j:Int))) (n:=5) (ZaN (by omega)) (by simp) (fun j hj=>?_) ?_
  ·simp only [ZaA.s0]
   rw [ZB (by omega),Zq5 (by simp;omega),obs]
   dsimp only
   rw [zN (by omega)]
   congr 3
   rw [List.append_assoc,List.replicate_succ']
  ·simp only [ZaA.s0]
   rw [Z9 (by omega)]
 have L1:ZZ (ZaA.s1 (dt p) (l.length:Int)) big (l++List.replicate 5 noC,0)=some (app l (frK p.2 4)):=by
  refine ZbP (fun j:Nat=>(app l (frK p.2 j),(j:Int))) (n:=4) (ZaN (by omega)) (by rw [frK,Zn9];rfl) (fun j hj=>?_) ?_
  ·obtain ⟨g1,g2,g3⟩:=Zl6 ⟨p.2,hd⟩ ⟨j,hj⟩
   have mid:=Zm6 ⟨p.2,hd⟩ ⟨j,hj⟩
   dsimp only at g1 g2 g3 mid
   have kl:=Zhr (d:=p.2) j
   have t3:((j:Int)+3).tmod 4=(((j+3)%4:Nat):Int):=by rw [Int.tmod_eq_emod_of_nonneg (by omega)];rfl
   have t1:((j:Int)+1).tmod 4=(((j+1)%4:Nat):Int):=by rw [Int.tmod_eq_emod_of_nonneg (by omega)];rfl
   have sN:∀ {k:List Za}{a e:Nat},a<k.length→e<4→nx k a e=-1→nx (app l k) (l.length+a) e=-1:=by
    intro k a e ha he h
    rw [(Zdl ha he).1,h];rfl
   have jo:∀ {k:List Za}{a b e:Nat},k.length=5→a<5→b<5→a≠b→e<4→nx k a e=-1→nx k b ((e+2)%4)=-1→zK ⟨app l k⟩ ((l.length+a:Nat):Int) e ((l.length+b:Nat):Int) (-2)=some (0,⟨app l (wth k a e b (-2))⟩):=by
    intro k a b e hk ha hb hab he h1 h2
    rw [(Zjh (by rw [ZcB];omega) (by rw [ZcB];omega) (by rw [ZcB];omega) (by omega) he (by omega) (sN (by omega) he h1) (sN (by omega) (by omega) h2)).1,Zo4 (by omega) (by omega) he]
   simp only [ZaA.s1]
   rw [ZB (by omega),zN (by omega),zN (by omega),zN (by omega),t1,zN (by omega),t3,zN (by omega)]
   rw [show (l.length:Int)+(j:Int)=((l.length+j:Nat):Int) by omega,show (l.length:Int)+(((j+1)%4:Nat):Int)=((l.length+(j+1)%4:Nat):Int) by omega,show (l.length:Int)+4=((l.length+4:Nat):Int) by omega]
   have ed:(dt p).Dir=(p.2:Int):=rfl
   rw [ed]
   by_cases c:(j+3)%4=p.2
   ·obtain ⟨m1,m2⟩:=mid c
    rw [ZB (by omega),jo kl (by omega) (by omega) (by omega) hj g1 (g3 c),obs]
    dsimp only
    rw [show ((4:Nat):Int)=4 from rfl,jo (by rw [Zab];exact kl) (by omega) (by omega) (by omega) hj m1 m2,obs]
    dsimp only
    rw [frK,if_pos c]
    rfl
   ·rw [Z9 (by omega),jo kl (by omega) (by omega) (by omega) hj g1 g2,obs]
    dsimp only
    rw [frK,if_neg c]
    rfl
  ·simp only [ZaA.s1]
   rw [Z9 (by omega)]
 unfold ZaA
 show (ZaG ⟨l⟩ (p.1:Int) (p.2:Int)).bind _=_
 rw [ZmJ hp.1 hd,if_neg (by omega),obs]
 dsimp only
 rw [show ZaI ⟨l⟩=some (l.length:Int) from rfl,obs,L0,obs,L1,obs,zN (by omega)]
 have ev:nx l p.1 p.2=((nx l p.1 p.2).toNat:Nat):=by omega
 have h4:=(Zlh ⟨p.2,hd⟩).2.2.2.2.2.1
 dsimp only at h4
 have kl:=Zhr (d:=p.2) 4
 have J:=(Zjh (l:=app l (frK p.2 4)) (v:=(nx l p.1 p.2).toNat) (d:=p.2) (w:=l.length+4) (o:=-2) (by rw [ZcB];omega) (by rw [ZcB];omega) (by rw [ZcB];omega) (by omega) hd (by omega) (by rw [(ZcD f.1).1];exact hn) (by rw [(Zdl (by omega) (by omega)).1,h4];rfl)).1
 show (zK ⟨app l (frK p.2 4)⟩ (nx l p.1 p.2) (p.2:Int) ((l.length:Int)+4) (-2)).bind _=_
 rw [ev,show (l.length:Int)+4=((l.length+4:Nat):Int) by omega,J,obs]
 rfl
end Mu
/- Layer 21: framed cells can be drawn. -/
namespace Mu
def frO (d:Nat):List Da:=((frT d++[frY d]).map (opp (frK d 4))).reverse
theorem ZnR:∀ d:Fin 4,Pt (frK d.1 4) ((frO d.1).headD (0,0)) (frO d.1) ((frO d.1).headD (0,0))∧(frO d.1).Nodup∧zi (frK d.1 4) (frO d.1)=-4∧((frO d.1).map fun p=>ng (tt (frK d.1 4) p)).sum=4∧frY d.1 ∉ frO d.1∧(frO d.1).length=5∧∀ p∈frO d.1,-1≤tt (frK d.1 4) p∧tt (frK d.1 4) p≤0:=by decide +kernel
theorem Del.bridge {l m:List Za}(hc:Ck l) {v d w:Nat}(D:Del l m v d w) {S T:List Da}{x y:Da}(hS:Lp m (S++[x])) (hT:Lp m (T++[y])) (hdj:∀ a∈S++[x],a ∉ T++[y]) (hx:Mu.bh l x=(v,d)) (hy:Mu.bh l y=(w,(d+2)%4)) :
  Lp l ((v,d)::(T++[y])++(w,(d+2)%4)::(S++[x]))∧zi l ((v,d)::(T++[y])++(w,(d+2)%4)::(S++[x]))=zi m (T++[y])+zi m (S++[x])+4:=by
 obtain ⟨p,P⟩:=hS.pt
 obtain ⟨q,Q⟩:=hT.pt
 obtain ⟨x',P1,P2⟩:=Pt.app.1 P
 obtain ⟨y',Q1,Q2⟩:=Pt.app.1 Q
 rw [Pt,Pt] at P2 Q2
 obtain ⟨rfl,dx,ex⟩:=P2
 obtain ⟨rfl,dy,ey⟩:=Q2
 have ee:=D.ee hc
 have bx:=D.bh hc dx
 have by':=D.bh hc dy
 rw [hx,if_pos rfl,if_pos rfl] at bx
 rw [hy,if_neg ee,if_pos rfl,if_neg ee,if_pos rfl] at by'
 have n1:=List.nodup_append.1 hS.nd
 have n2:=List.nodup_append.1 hT.nd
 have iS:=hS.is
 have iT:=hT.is
 have ne1:∀ a∈S,Mu.bh l a≠(v,d)∧Mu.bh l a≠(w,(d+2)%4):=by
  intro a ha
  have da:=(D.isD.1 (iS a (by simp [ha]))).1
  refine ⟨fun z=>?_,fun z=>?_⟩
  ·exact n1.2.2 a ha x' (by simp) (Zcm hc da (D.isD.1 dx).1 (z.trans hx.symm))
  ·have:=Zcm hc da (D.isD.1 dy).1 (z.trans hy.symm)
   exact hdj a (by simp [ha]) (by simp [this])
 have ne2:∀ a∈T,Mu.bh l a≠(v,d)∧Mu.bh l a≠(w,(d+2)%4):=by
  intro a ha
  have da:=(D.isD.1 (iT a (by simp [ha]))).1
  refine ⟨fun z=>?_,fun z=>?_⟩
  ·have:=Zcm hc da (D.isD.1 dx).1 (z.trans hx.symm)
   exact hdj x' (by simp) (by simp [← this,ha])
  ·exact n2.2.2 a ha y' (by simp) (Zcm hc da (D.isD.1 dy).1 (z.trans hy.symm))
 obtain ⟨S1,S2⟩:=D.back hc P1 ne1
 obtain ⟨T1,T2⟩:=D.back hc Q1 ne2
 have e1:Mu.bh l (w,(d+2)%4)=p:=by rw [← bx.1,ex]
 have e2:Mu.bh l (v,d)=q:=by rw [← by'.1,ey]
 have notm:∀ {s:List Da},(∀ a∈s,Mu.isD m a)→(v,d) ∉ s∧(w,(d+2)%4) ∉ s:=fun h=>⟨fun q=>(D.isD.1 (h _ q)).2.1 rfl,fun q=>(D.isD.1 (h _ q)).2.2 rfl⟩
 have mS:=notm iS
 have mT:=notm iT
 refine ⟨⟨by simp,?_,(v,d),?_⟩,?_⟩
 ·rw [List.cons_append,List.nodup_cons,List.nodup_append,List.nodup_cons]
  refine ⟨fun z=>?_,hT.nd,⟨mS.2,hS.nd⟩,fun a ha b hb z=>?_⟩
  ·rcases List.mem_append.1 z with z|z
   ·exact mT.1 z
   ·rcases List.mem_cons.1 z with z|z
    ·exact ee z.symm
    ·exact mS.1 z
  ·subst z
   rcases List.mem_cons.1 hb with z|z
   ·rw [z] at ha;exact mT.2 ha
   ·exact hdj a z ha
 ·rw [List.cons_append]
  refine ⟨rfl,D.e,?_⟩
  rw [e2]
  refine Pt.app.2 ⟨(w,(d+2)%4),Pt.app.2 ⟨y',T1,rfl,(D.isD.1 dy).1,hy⟩,rfl,D.e' hc,?_⟩
  rw [e1]
  exact Pt.app.2 ⟨x',S1,rfl,(D.isD.1 dx).1,hx⟩
 ·simp only [List.cons_append,Za5,Zcw,Zcx]
  have r1:=bx.2
  have r2:=by'.2
  omega
structure Framed (l F:List Za) (v d:Nat):Prop where
 ck:Ck F
 val:Val F
 whole:Mu.whole F
 len:F.length=l.length+5
 out:∃ g,Cyc F g∧zi F g=-4∧(g.map fun p=>ng (tt F p)).sum=4∧∀ p∈g,-1≤tt F p∧tt F p≤0
 old:∀ u e,u<l.length→e<4→(u=v∧e=d→nx l u e=-1)∧(¬ (u=v∧e=d)→nx F u e=nx l u e∧ow F u e=ow l u e)
theorem Zpo {l:List Za}(hc:Ck l) (hV:Val l) (hW:whole l) {f:List Da}(hf:Cyc l f) (h4:zi l f=-4) {x:Da}(hx:x∈f) (tx:tt l x<0):Framed l (frm l (nx l x.1 x.2).toNat x.2) (nx l x.1 x.2).toNat x.2:=by
 have dx:=hf.is x hx
 have hd:=dx.2.1
 have fx:=dx.fwd hc
 have tf:=Zj6 hd tx
 have lv:=hc.lt fx.1 hd
 have hn:nx l (nx l x.1 x.2).toNat x.2=-1:=by omega
 generalize hv:(nx l x.1 x.2).toNat=v at *
 have d4:x.2<4:=hd
 obtain ⟨a1,a2,a3,a4,a5,a6,a7⟩:=Zlh ⟨x.2,hd⟩
 obtain ⟨o1,o2,o3,o4,o5,o6,o7⟩:=ZnR ⟨x.2,hd⟩
 obtain ⟨j1,j2,j3,j4⟩:=Zpm ⟨x.2,hd⟩
 dsimp only at a1 a2 a3 a4 a5 a6 a7 o1 o2 o3 o4 o5 o6 o7 j1 j2 j3 j4
 have hk:Ck (frK x.2 4):=Zpn hd (by omega)
 have kV:=ZnQ hd
 have kl:=Zhr (d:=x.2) 4
 generalize hd':x.2=d at *
 have LT:Lp (frK d 4) (frT d++[frY d]):=⟨by simp,a2,_,a1⟩
 have LO:Lp (frK d 4) (frO d):=⟨fun z=>by rw [z] at o6;simp at o6,o2,_,o1⟩
 have h0:=hc.app hk
 have al:=ZcB (l:=l) (k:=frK d 4)
 have vlt:v<(app l (frK d 4)).length:=by rw [al];have:=fx.1;omega
 have wlt:l.length+4<(app l (frK d 4)).length:=by rw [al];omega
 have vw:v≠l.length+4:=by have:=fx.1;omega
 have f1:nx (app l (frK d 4)) v d=-1:=by rw [(ZcD fx.1).1];exact hn
 have f2:nx (app l (frK d 4)) (l.length+4) ((d+2)%4)=-1:=by rw [(Zdl (by omega) (by omega)).1,a6];rfl
 have D:Del (frm l v d) (app l (frK d 4)) v d (l.length+4):=Del.of_wth h0 vlt wlt vw hd f1 f2
 have hF:Ck (frm l v d):=h0.wth vlt wlt vw hd f1 f2 (by omega)
 have flen:(frm l v d).length=l.length+5:=by unfold frm;rw [Zab,al];omega
 have fnx:∀ u e,u<l.length→e<4→(u=v∧e=d→nx l u e=-1)∧(¬ (u=v∧e=d)→nx (frm l v d) u e=nx l u e∧ow (frm l v d) u e=ow l u e):=by
  intro u e hu he
  refine ⟨fun z=>by rw [z.1,z.2];exact hn,fun z=>?_⟩
  have:=Zd6 (l:=app l (frK d 4)) (o:=-2) vlt wlt vw hd (i:=u) (e:=e) (by rw [al];omega) he
  rw [if_neg z,if_neg (by omega),if_neg z,if_neg (by omega),(ZcD hu).1,(ZcD hu).2] at this
  exact this
 -- both loops
 obtain ⟨t,ht,pe⟩:=hf.lp hc hx
 have LS0:Lp l (t++[x]):=by
  have:=Lp.turn (s:=[x]) (t:=t) (by simpa using ht)
  exact this
 have LS:=LS0.app1 (k:=frK d 4) hc
 have LT':=LT.app2 (l:=l) hk
 rw [List.map_append,List.map_cons,List.map_nil] at LT'
 have rS:zi (app l (frK d 4)) (t++[x])=-4:=by
  rw [(Cyc.app1 hc LS0.cyc).2,← h4]
  refine ZbM ((List.perm_append_comm (l₁:=t) (l₂:=[x])).trans pe.symm)
 have rT:zi (app l (frK d 4)) ((frT d).map (shD l.length)++[shD l.length (frY d)])=4:=by
  have:=(Cyc.app2 (l:=l) hk LT.cyc).2
  rw [List.map_append,List.map_cons,List.map_nil] at this
  rw [this,a3]
 have dj:∀ a∈t++[x],a ∉ (frT d).map (shD l.length)++[shD l.length (frY d)]:=by
  intro a ha hb
  have h1:=(LS0.is a ha).1
  have:a∈(frT d++[frY d]).map (shD l.length):=by rw [List.map_append];exact hb
  obtain ⟨b,_,rfl⟩:=List.mem_map.1 this
  unfold shD at h1
  dsimp only at h1
  omega
 have isx:isD (app l (frK d 4)) x:=Zep.2 (.inl dx)
 have isy:isD (app l (frK d 4)) (shD l.length (frY d)):=Zep.2 (.inr ⟨_,a7,rfl⟩)
 have tx0:tt (app l (frK d 4)) x=tt l x:=by unfold tt;rw [Zgx hc dx]
 have ty0:tt (app l (frK d 4)) (shD l.length (frY d))=0:=by
  rw [← a4];unfold tt;rw [ZfV hk a7];rfl
 have ty1:tn (frY d).2 ((d+2)%4)=1:=by unfold frY tn;dsimp only;rw [if_neg (by omega),if_pos (by omega)]
 have td:tn d d=0:=by unfold tn;rw [if_pos rfl]
 have bX:bh (frm l v d) x=(v,d):=(D.enter hF h0 isx).1 (by rw [(ZcD dx.1).1];rw [hd'];exact hv) (by rw [tx0,hd',td];exact tx)
 have bY:bh (frm l v d) (shD l.length (frY d))=(l.length+4,(d+2)%4):=by
  refine (D.enter hF h0 isy).2 ?_ ?_
  ·show (nx (app l (frK d 4)) (l.length+(frY d).1) (frY d).2).toNat=_
   rw [(Zdl a7.1 a7.2.1).1,a5]
   unfold sh1;rw [if_pos (by omega)];omega
  ·rw [ty0]
   show 0<tn (frY d).2 ((d+2)%4)
   omega
 obtain ⟨LB,rB⟩:=D.bridge hF LS LT' dj bX bY
 rw [rS,rT] at rB
 obtain ⟨V1,V2⟩:=(Zdn hc).1 hV
 obtain ⟨K1,K2⟩:=(Zdn hk).1 kV
 have X:chi (frm l v d)=4:=by
  have c0:=ZnJ hc hk
  rw [V2,K2] at c0
  have b1:=D.cD hF
  have b2:=D.cV hF
  have e1:=Zea hF D.e
  have e2:=Zea hF (D.e' hF)
  rw [D.opp] at e1
  rw [← D.opp,ZbJ hF D.e,D.opp] at e2
  dsimp only at e1 e2
  have be:bh (frm l v d) (v,d)≠(l.length+4,(d+2)%4):=by
   intro z
   have:=(D.bh hF isy).1
   rw [bY,if_neg (D.ee hF),if_pos rfl,z] at this
   exact (D.isD.1 (isy.bh h0)).2.2 this
  have be':bh (frm l v d) (l.length+4,(d+2)%4)≠(v,d):=by
   intro z
   have:=(D.bh hF isx).1
   rw [bX,if_pos rfl,z] at this
   exact (D.isD.1 (isx.bh h0)).2.1 this
  cases D.kind hF with
  | two A B R hA hB hl hm' rot same n1 n2 lm =>
   exfalso
   have:=LB.cyc.sub hA.cyc (p:=(v,d)) (by simp) (by simp) (l.length+4,(d+2)%4) (by simp)
   have nd:=hl.nd
   rw [List.flatten_cons,List.flatten_cons,List.nodup_append] at nd
   exact nd.2.2 _ this _ (by simp) rfl
  | one A B R hA hl hm' rot same n1 n2 lA lB =>
   have g1:=hl.len (Fcs.faces hF)
   have g2:=hm'.len (Fcs.faces h0)
   simp only [List.length_cons] at g1 g2
   rw [if_neg fun q=>n2 (e2.2 q),if_neg fun q=>n1 (e1.2 q)] at b2
   unfold chi at c0 ⊢
   omega
  | leaf A R hA hl hm' rot same n =>
   rcases n with ⟨n1,_⟩|⟨_,n2⟩
   ·exact absurd n1 be
   ·exact absurd n2 be'
  | iso R hA hl hm' same n1 n2=>exact absurd n1 be
 refine ⟨hF,(Zdn hF).2 ⟨fun g hg=>?_,X⟩,?_,flen,?_,fnx⟩
 ·by_cases c1:(v,d)∈g
  ·rw [ZbM (hg.perm LB.cyc c1 (by simp)),rB];left;rfl
  ·by_cases c2:(l.length+4,(d+2)%4)∈g
   ·rw [ZbM (hg.perm LB.cyc c2 (by simp)),rB];left;rfl
   ·obtain ⟨q1,q2⟩:=D.keep hF hg c1 c2
    rw [← q2]
    rcases Cyc.of_app hc hk q1 with ⟨g',h1,h2⟩|⟨g',h1,h2⟩
    ·rw [h2];exact V1 g' h1
    ·rw [h2];exact K1 g' h1
 ·have hl0:=ZdO hW
  have adj:∀ a b,a<l.length→Adj l a b→Adj (frm l v d) a b:=by
   rintro a b ha ⟨e,he,q⟩
   refine ⟨e,he,?_⟩
   have:=fnx a e ha he
   by_cases z:a=v∧e=d
   ·have:=this.1 z;omega
   ·rw [(this.2 z).1];exact q
  have reach:∀ u,u<l.length→∃ n,Rch (frm l v d) 0 n u:=by
   intro u hu
   obtain ⟨n,r⟩:=ZcK hW hu
   exact ⟨n,r.mono adj hc hl0⟩
  have adK:∀ {a b},a<5→Adj (frK d 4) a b→Adj (frm l v d) (l.length+a) (l.length+b):=by
   rintro a b ha ⟨e,he,q⟩
   refine ⟨e,he,?_⟩
   have n0:=(Zdl (l:=l) (k:=frK d 4) (i:=a) (e:=e) (by omega) he).1
   rw [q] at n0
   have n1:nx (app l (frK d 4)) (l.length+a) e=((l.length+b:Nat):Int):=by rw [n0];unfold sh1;rw [if_pos (by omega)];omega
   have:=Zd6 (l:=app l (frK d 4)) (o:=-2) vlt wlt vw hd (i:=l.length+a) (e:=e) (by rw [al];omega) he
   rw [if_neg (by have:=fx.1;omega)] at this
   by_cases z:l.length+a=l.length+4∧e=(d+2)%4
   ·rw [z.1,z.2,f2] at n1;omega
   ·rw [if_neg z] at this
    exact this.1.trans n1
  obtain ⟨n,r⟩:=reach v fx.1
  have r4:Rch (frm l v d) 0 (n+1) (l.length+4):=.succ r ⟨d,hd,D.hn⟩
  have r5:=Rch.succ r4 (adK (by omega) j1)
  have r6:=Rch.succ r5 (adK (by omega) j2)
  have r7:=Rch.succ r6 (adK (by omega) j3)
  have r8:=Rch.succ r7 (adK (by omega) j4)
  refine Zig (by omega) fun u hu=>?_
  by_cases c:u<l.length
  ·exact reach u c
  ·have:u=l.length+4∨u=l.length+(d+2)%4∨u=l.length+(d+3)%4∨u=l.length+d∨u=l.length+(d+1)%4:=by omega
   rcases this with rfl|rfl|rfl|rfl|rfl
   ·exact ⟨_,r4⟩
   ·exact ⟨_,r5⟩
   ·exact ⟨_,r6⟩
   ·exact ⟨_,r7⟩
   ·exact ⟨_,r8⟩
 ·have C0:=Cyc.app2 (l:=l) hk LO.cyc
  have m1:∀ q∈(frO d).map (shD l.length),l.length≤q.1:=by
   intro q hq
   obtain ⟨b,_,rfl⟩:=List.mem_map.1 hq
   unfold shD;dsimp only;omega
  have notin:∀ q∈(frO d).map (shD l.length),q≠(v,d)∧q≠(l.length+4,(d+2)%4):=fun q hq=>⟨fun z=>(D.isD.1 (C0.1.is q hq)).2.1 z,fun z=>(D.isD.1 (C0.1.is q hq)).2.2 z⟩
  have ny:shD l.length (frY d) ∉ (frO d).map (shD l.length):=by
   intro z
   obtain ⟨b,hb,e⟩:=List.mem_map.1 z
   rw [Zj3 e] at hb
   exact o5 hb
  have hb:∀ q∈(frO d).map (shD l.length),bh (frm l v d) q≠(v,d)∧bh (frm l v d) q≠(l.length+4,(d+2)%4):=by
   intro q hq
   have dq:=(D.isD.1 (C0.1.is q hq)).1
   refine ⟨fun z=>?_,fun z=>?_⟩
   ·have:=Zcm hF dq (D.isD.1 isx).1 (z.trans bX.symm)
    have:=m1 q hq
    have:=dx.1
    subst q
    omega
   ·have:=Zcm hF dq (D.isD.1 isy).1 (z.trans bY.symm)
    rw [this] at hq
    exact ny hq
  have C1:Cyc (frm l v d) ((frO d).map (shD l.length)):=by
   refine ⟨C0.1.ne,C0.1.nd,fun q hq=>(D.isD.1 (C0.1.is q hq)).1,fun q hq=>?_,fun C hC p hp q hq hCp=>C0.1.one (fun z=>z∈(frO d).map (shD l.length)→C z) (fun z hz hCz hm=>?_) p hp q hq (fun _=>hCp) hq⟩
   ·have:=(D.bh hF (C0.1.is q hq)).1
    rw [if_neg (hb q hq).1,if_neg (hb q hq).2] at this
    rw [← this];exact C0.1.cl q hq
   ·-- what leads there is in it too
    have:z∈(frO d).map (shD l.length):=ZfF h0 ⟨C0.1.nd,C0.1.is⟩ C0.1.cl hz hm
    have e:=(D.bh hF (C0.1.is z this)).1
    rw [if_neg (hb z this).1,if_neg (hb z this).2] at e
    rw [e];exact hC z (D.isD.1 hz).1 (hCz this)
  have t2:∀ q∈(frO d).map (shD l.length),tt (frm l v d) q=tt (app l (frK d 4)) q:=by
   intro q hq
   have:=(D.bh hF (C0.1.is q hq)).2
   rw [if_neg (hb q hq).1,if_neg (hb q hq).2] at this
   exact this.symm
  have e1:zi (frm l v d) ((frO d).map (shD l.length))=zi (app l (frK d 4)) ((frO d).map (shD l.length)):=by
   unfold zi tns
   congr 1
   exact List.map_congr_left fun q hq=>t2 q hq
  have e2:∀ q∈frO d,tt (frm l v d) (shD l.length q)=tt (frK d 4) q:=by
   intro q hq
   rw [t2 _ (List.mem_map.2 ⟨q,hq,rfl⟩)]
   unfold tt
   rw [ZfV hk (LO.is q hq)]
   rfl
  have e3:((frO d).map (shD l.length)).map (fun p=>ng (tt (frm l v d) p))=(frO d).map fun p=>ng (tt (frK d 4) p):=by
   rw [List.map_map]
   exact List.map_congr_left fun q hq=>congrArg ng (e2 q hq)
  exact ⟨(frO d).map (shD l.length),C1,by rw [e1,C0.2,o3],by rw [e3];exact o4,fun p hp=>by
   obtain ⟨q,hq,rfl⟩:=List.mem_map.1 hp
   rw [e2 q hq];exact o7 q hq⟩
end Mu
/- Cells that lie on a plane can be drawn,if they hang together. -/
namespace Mu
def dx (d:Nat):Int:=if d=0 then 1 else if d=2 then -1 else 0
def dy (d:Nat):Int:=if d=1 then 1 else if d=3 then -1 else 0
structure Geo (l:List Za) (at_:List Zh):Prop where
 ck:Ck l
 len:l.length=at_.length
 in8:∀ i,i<l.length→0≤(gi at_ i).X∧(gi at_ i).X<8∧0≤(gi at_ i).Y∧(gi at_ i).Y<8
 inj:∀ i j,i<l.length→j<l.length→(gi at_ i).X=(gi at_ j).X→(gi at_ i).Y=(gi at_ j).Y→i=j
 str:∀ p,isD l p→∃ n:Nat,1≤n∧(gi at_ (nx l p.1 p.2).toNat).X=(gi at_ p.1).X+n*dx p.2∧(gi at_ (nx l p.1 p.2).toNat).Y=(gi at_ p.1).Y+n*dy p.2 ∧
  ∀ u,u<l.length→∀ i:Nat,0<i→i<n→(gi at_ u).X=(gi at_ p.1).X+i*dx p.2→(gi at_ u).Y=(gi at_ p.1).Y+i*dy p.2→False
 nc:NX at_ l
theorem Made.geo {l:List Za}{at_:List Zh}(h:Made l at_):Geo l at_:=by
 have pos:∀ v e,v<l.length→e<2→0≤nx l v e→∃ n:Nat,1≤n∧(gi at_ (nx l v e).toNat).X=(gi at_ v).X+n*dx e∧(gi at_ (nx l v e).toNat).Y=(gi at_ v).Y+n*dy e ∧
   ∀ u,u<l.length→∀ i:Nat,0<i→i<n→(gi at_ u).X=(gi at_ v).X+i*dx e→(gi at_ u).Y=(gi at_ v).Y+i*dy e→False:=by
  intro v e hv he h0
  rcases h.near v e hv he with q|q
  ·omega
  ·rcases q with ⟨q,_⟩|⟨j,q,j1,j2,j3⟩
   ·omega
   ·rw [q,itn]
    have hl:=h.len
    have:e=0∨e=1:=by omega
    rcases this with rfl|rfl
    ·obtain ⟨_,c⟩:=j2
     rw [if_pos rfl] at c
     refine ⟨((gi at_ j).X-(gi at_ v).X).toNat,by omega,by simp [dx];omega,by simp [dy];omega,fun u hu i i0 i1 hx hy=>?_⟩
     simp [dx,dy] at hx hy
     have:=j3 u (by omega) ⟨by omega,by rw [if_pos rfl];omega⟩
     unfold ZcP at this
     rw [if_pos rfl] at this
     omega
    ·obtain ⟨_,c⟩:=j2
     rw [if_neg (by omega)] at c
     refine ⟨((gi at_ j).Y-(gi at_ v).Y).toNat,by omega,by simp [dx];omega,by simp [dy];omega,fun u hu i i0 i1 hx hy=>?_⟩
     simp [dx,dy] at hx hy
     have:=j3 u (by omega) ⟨by omega,by rw [if_neg (by omega)];omega⟩
     unfold ZcP at this
     rw [if_neg (by omega)] at this
     omega
 refine ⟨h.ck,h.len,fun i hi=>h.pts.b i (by rw [← h.len];exact hi),fun i j hi hj hx hy=>h.pts.d i j (by rw [← h.len];exact hi) (by rw [← h.len];exact hj) ?_,fun p hp=>?_,h.nc⟩
 ·generalize gi at_ i=a at *
  generalize gi at_ j=b at *
  obtain ⟨a1,a2⟩:=a
  obtain ⟨b1,b2⟩:=b
  dsimp only at hx hy
  rw [hx,hy]
 ·obtain ⟨v,d⟩:=p
  have f:=hp.fwd h.ck
  obtain ⟨v1,d1,n1⟩:=hp
  dsimp only at v1 d1 n1 f ⊢
  by_cases c:d<2
  ·exact pos v d v1 c n1
  ·have hw:(((nx l v d).toNat:Nat):Int)=nx l v d:=by omega
   generalize (nx l v d).toNat=w at *
   obtain ⟨n,a1,a2,a3,a4⟩:=pos w ((d+2)%4) f.1 (by omega) (by rw [f.2];omega)
   rw [f.2,itn] at a2 a3
   have sx:dx ((d+2)%4)=- dx d:=by
    have:d=2∨d=3:=by omega
    rcases this with rfl|rfl<;>rfl
   have sy:dy ((d+2)%4)=- dy d:=by
    have:d=2∨d=3:=by omega
    rcases this with rfl|rfl<;>rfl
   rw [sx] at a2 a4
   rw [sy] at a3 a4
   rw [Int.mul_neg] at a2 a3
   refine ⟨n,a1,by omega,by omega,fun u hu i i0 i1 hx hy=>a4 u hu (n-i) (by omega) (by omega) ?_ ?_⟩
   ·rw [Int.mul_neg,Int.natCast_sub (by omega),Int.sub_mul];omega
   ·rw [Int.mul_neg,Int.natCast_sub (by omega),Int.sub_mul];omega
section geo
variable {l:List Za}{at_:List Zh}
def eL (l:List Za) (at_:List Zh) (p:Da):Nat:=(((gi at_ (nx l p.1 p.2).toNat).X-(gi at_ p.1).X)*dx p.2+((gi at_ (nx l p.1 p.2).toNat).Y-(gi at_ p.1).Y)*dy p.2).toNat
def pX (at_:List Zh) (p:Da) (i:Int):Int:=(gi at_ p.1).X+i*dx p.2
def pY (at_:List Zh) (p:Da) (i:Int):Int:=(gi at_ p.1).Y+i*dy p.2
theorem dxy {d:Nat}(h:d<4):(d=0∧dx d=1∧dy d=0)∨(d=1∧dx d=0∧dy d=1)∨(d=2∧dx d=-1∧dy d=0)∨(d=3∧dx d=0∧dy d=-1):=by
 have:d=0∨d=1∨d=2∨d=3:=by omega
 rcases this with rfl|rfl|rfl|rfl
 ·exact .inl ⟨rfl,rfl,rfl⟩
 ·exact .inr (.inl ⟨rfl,rfl,rfl⟩)
 ·exact .inr (.inr (.inl ⟨rfl,rfl,rfl⟩))
 ·exact .inr (.inr (.inr ⟨rfl,rfl,rfl⟩))
theorem Geo.e (G:Geo l at_) {p:Da}(hp:isD l p):1≤eL l at_ p∧(gi at_ (nx l p.1 p.2).toNat).X=pX at_ p (eL l at_ p)∧(gi at_ (nx l p.1 p.2).toNat).Y=pY at_ p (eL l at_ p) ∧
  ∀ u,u<l.length→∀ i:Nat,0<i→i<eL l at_ p→(gi at_ u).X=pX at_ p i→(gi at_ u).Y=pY at_ p i→False:=by
 obtain ⟨n,a1,a2,a3,a4⟩:=G.str p hp
 have:eL l at_ p=n:=by
  unfold eL
  rw [a2,a3]
  rcases dxy hp.2.1 with ⟨_,h1,h2⟩|⟨_,h1,h2⟩|⟨_,h1,h2⟩|⟨_,h1,h2⟩<;>rw [h1,h2]<;>omega
 rw [this]
 exact ⟨a1,a2,a3,a4⟩
theorem Zph {d:Nat}(h:d<4):dx ((d+2)%4)=- dx d∧dy ((d+2)%4)=- dy d:=by
 have:d=0∨d=1∨d=2∨d=3:=by omega
 rcases this with rfl|rfl|rfl|rfl<;>exact ⟨rfl,rfl⟩
theorem Geo.opp (G:Geo l at_) {p:Da}(hp:isD l p):eL l at_ (opp l p)=eL l at_ p∧∀ i:Int,pX at_ (Mu.opp l p) i=pX at_ p (eL l at_ p-i)∧pY at_ (Mu.opp l p) i=pY at_ p (eL l at_ p-i):=by
 obtain ⟨a1,a2,a3,_⟩:=G.e hp
 have f:=hp.fwd G.ck
 have o:=Zph hp.2.1
 have h:∀ i:Int,pX at_ (Mu.opp l p) i=pX at_ p (eL l at_ p-i)∧pY at_ (Mu.opp l p) i=pY at_ p (eL l at_ p-i):=by
  intro i
  constructor
  ·show (gi at_ (nx l p.1 p.2).toNat).X+i*dx ((p.2+2)%4)=_
   rw [a2,o.1]
   unfold pX
   rw [Int.mul_neg,Int.sub_mul];omega
  ·show (gi at_ (nx l p.1 p.2).toNat).Y+i*dy ((p.2+2)%4)=_
   rw [a3,o.2]
   unfold pY
   rw [Int.mul_neg,Int.sub_mul];omega
 refine ⟨?_,h⟩
 obtain ⟨b1,b2,b3,_⟩:=G.e (hp.opp G.ck)
 have e:(nx l (Mu.opp l p).1 (Mu.opp l p).2).toNat=p.1:=by
  show (nx l (nx l p.1 p.2).toNat ((p.2+2)%4)).toNat=_
  rw [f.2];omega
 rw [e,(h _).1] at b2
 rw [e,(h _).2] at b3
 unfold pX at b2
 unfold pY at b3
 rcases dxy hp.2.1 with ⟨_,h1,h2⟩|⟨_,h1,h2⟩|⟨_,h1,h2⟩|⟨_,h1,h2⟩<;>rw [h1] at b2<;>rw [h2] at b3<;>omega
theorem Geo.uniq (G:Geo l at_) {p q:Da}(hp:isD l p) (hq:isD l q) (hd:p.2=q.2) {i j:Nat}(hi:i<eL l at_ p) (hj:j<eL l at_ q) (h1:pX at_ p i=pX at_ q j) (h2:pY at_ p i=pY at_ q j):p=q∧i=j:=by
 have key:∀ {p q:Da},isD l p→isD l q→p.2=q.2→∀ {i j:Nat},i<eL l at_ p→pX at_ p i=pX at_ q j→pY at_ p i=pY at_ q j→i ≥ j→p=q∧i=j:=by
  intro p q hp hq hd i j hi h1 h2 hij
  have e:=G.e hp
  have x:(gi at_ q.1).X=pX at_ p ((i-j:Nat):Int):=by unfold pX at h1 ⊢; rw [hd] at h1 ⊢; rw [Int.natCast_sub hij,Int.sub_mul];omega
  have y:(gi at_ q.1).Y=pY at_ p ((i-j:Nat):Int):=by unfold pY at h2 ⊢; rw [hd] at h2 ⊢; rw [Int.natCast_sub hij,Int.sub_mul];omega
  by_cases c:i=j
  ·subst c
   rw [Nat.sub_self] at x y
   unfold pX at x
   unfold pY at y
   have:=G.inj q.1 p.1 hq.1 hp.1 (by omega) (by omega)
   exact ⟨Prod.ext this.symm hd,rfl⟩
  ·exact (e.2.2.2 q.1 hq.1 (i-j) (by omega) (by omega) x y).elim
 by_cases c:i ≥ j
 ·exact key hp hq hd hi h1 h2 c
 ·obtain ⟨a,b⟩:=key hq hp hd.symm hj h1.symm h2.symm (by omega)
  exact ⟨a.symm,b.symm⟩
theorem Geo.inner (G:Geo l at_) {p q:Da}(hp:isD l p) (hq:isD l q) {i j:Nat}(i0:0<i) (hi:i<eL l at_ p) (hj:j<eL l at_ q) (h1:pX at_ p i=pX at_ q j) (h2:pY at_ p i=pY at_ q j):q.2=p.2∨q.2=(p.2+2)%4:=by
 have e:=G.e hp
 have e':=G.e hq
 by_cases j0:j=0
 ·subst j0
  have x:(gi at_ q.1).X=pX at_ p i:=by rw [h1];unfold pX;omega
  have y:(gi at_ q.1).Y=pY at_ p i:=by rw [h2];unfold pY;omega
  exact (e.2.2.2 q.1 hq.1 i i0 hi x y).elim
 ·-- both within: one across,the other up
  have o:=G.opp hp
  have o':=G.opp hq
  have f:=hp.fwd G.ck
  have f':=hq.fwd G.ck
  have nc:=G.nc
  have hp2:=hp.2.1
  have hq2:=hq.2.1
  refine Classical.byContradiction fun hne=>?_
  -- the lower end of each
  have low:∀ {p:Da},isD l p→∃ a:Nat,a<l.length∧0≤nx l a (p.2%2)∧∀ k:Nat,0<k→k<eL l at_ p →
    (p.2%2=0→(gi at_ a).X<pX at_ p k∧pX at_ p k<(gi at_ (nx l a 0).toNat).X∧(gi at_ a).Y=pY at_ p k) ∧
    (p.2%2=1→(gi at_ a).Y<pY at_ p k∧pY at_ p k<(gi at_ (nx l a 1).toNat).Y∧(gi at_ a).X=pX at_ p k):=by
   intro p hp
   have e:=G.e hp
   have f:=hp.fwd G.ck
   rcases dxy hp.2.1 with ⟨d,x,y⟩|⟨d,x,y⟩|⟨d,x,y⟩|⟨d,x,y⟩
   ·refine ⟨p.1,hp.1,by rw [d];have:=hp.2.2;rw [d] at this;exact this,fun k k0 k1=>⟨fun _=>?_,fun h=>by rw [d] at h;omega⟩⟩
    have a:=e.2.1
    rw [d] at a
    rw [a]
    unfold pX pY
    rw [x,y];omega
   ·refine ⟨p.1,hp.1,by rw [d];have:=hp.2.2;rw [d] at this;exact this,fun k k0 k1=>⟨fun h=>by rw [d] at h;omega,fun _=>?_⟩⟩
    have a:=e.2.2.1
    rw [d] at a
    rw [a]
    unfold pX pY
    rw [x,y];omega
   ·have b:=f.2
    rw [d] at b
    refine ⟨(nx l p.1 p.2).toNat,f.1,by rw [d];show 0≤nx l (nx l p.1 2).toNat 0;rw [b];omega,fun k k0 k1=>⟨fun _=>?_,fun h=>by rw [d] at h;omega⟩⟩
    have a:=e.2.1
    have a':=e.2.2.1
    have b':(nx l (nx l p.1 p.2).toNat 0).toNat=p.1:=by rw [d];show (nx l (nx l p.1 2).toNat 0).toNat=_;rw [b];omega
    rw [b',a,a']
    unfold pX pY
    rw [x,y];omega
   ·have b:=f.2
    rw [d] at b
    refine ⟨(nx l p.1 p.2).toNat,f.1,by rw [d];show 0≤nx l (nx l p.1 3).toNat 1;rw [b];omega,fun k k0 k1=>⟨fun h=>by rw [d] at h;omega,fun _=>?_⟩⟩
    have a:=e.2.1
    have a':=e.2.2.1
    have b':(nx l (nx l p.1 p.2).toNat 1).toNat=p.1:=by rw [d];show (nx l (nx l p.1 3).toNat 1).toNat=_;rw [b];omega
    rw [b',a,a']
    unfold pX pY
    rw [x,y];omega
  obtain ⟨a,a1,a2,a3⟩:=low hp
  obtain ⟨b,b1,b2,b3⟩:=low hq
  have A:=a3 i i0 hi
  have B:=b3 j (by omega) hj
  by_cases c:p.2%2=0
  ·have c':q.2%2=1:=by omega
   rw [c] at a2
   rw [c'] at b2
   have A:=A.1 c
   have B:=B.2 c'
   exact nc a b a1 b1 a2 b2 ⟨by omega,by omega,by omega,by omega⟩
  ·have c1:p.2%2=1:=by omega
   have c':q.2%2=0:=by omega
   rw [c1] at a2
   rw [c'] at b2
   have A:=A.2 c1
   have B:=B.1 c'
   exact nc b a b1 a1 b2 a2 ⟨by omega,by omega,by omega,by omega⟩
theorem Geo.vert (G:Geo l at_) {q:Da}(hq:isD l q) {u j:Nat}(hu:u<l.length) (hj:j<eL l at_ q) (h1:(gi at_ u).X=pX at_ q j) (h2:(gi at_ u).Y=pY at_ q j):q.1=u∧j=0:=by
 by_cases j0:j=0
 ·subst j0
  unfold pX at h1
  unfold pY at h2
  exact ⟨G.inj q.1 u hq.1 hu (by omega) (by omega),rfl⟩
 ·exact ((G.e hq).2.2.2 u hu j (by omega) hj h1 h2).elim
end geo
end Mu
/- Layer 14: ValidPlane: the board's cells that lie under cells on a plane. -/
namespace Mu
def ps (x y:Int):Nat:=(8*y+x).toNat
theorem Zef {x y:Int}(hx:0≤x∧x<8) (hy:0≤y∧y<8):ps x y<64∧((ps x y%8:Nat):Int)=x∧((ps x y / 8:Nat):Int)=y:=by
 unfold ps;omega
theorem ZpG {x y x' y':Int}(hx:0≤x∧x<8) (hy:0≤y∧y<8) (hx':0≤x'∧x'<8) (hy':0≤y'∧y'<8) (h:ps x y=ps x' y'):x=x'∧y=y':=by
 have a:=Zef hx hy
 have b:=Zef hx' hy'
 rw [h] at a
 omega
theorem Zqy {x y:Int}{e:Nat}(he:e<4) (hx:0≤x∧x<8) (hy:0≤y∧y<8) (hx':0≤x+dx e∧x+dx e<8) (hy':0≤y+dy e∧y+dy e<8):gN (ps x y) e=(ps (x+dx e) (y+dy e):Nat):=by
 have a:=Zef hx hy
 have b:=Zef hx' hy'
 rcases dxy he with ⟨rfl,h1,h2⟩|⟨rfl,h1,h2⟩|⟨rfl,h1,h2⟩|⟨rfl,h1,h2⟩<;>rw [h1] at hx' b ⊢ <;> rw [h2] at hy' b ⊢
 ·rw [(ZfI a.1).2.2.1 (by omega)];unfold ps;omega
 ·rw [(ZfI a.1).2.2.2 (by omega)];unfold ps;omega
 ·rw [(ZfI a.1).1 (by omega)];unfold ps;omega
 ·rw [(ZfI a.1).2.1 (by omega)];unfold ps;omega
section geo
variable {l:List Za}{at_:List Zh}
def cov (l:List Za) (at_:List Zh) (k e:Nat):Bool:=(Zce l).any fun p=>decide (p.2=e)&&(List.range (eL l at_ p)).any fun i=>decide (pX at_ p i=(k%8:Nat))&&decide (pY at_ p i=(k / 8:Nat))
theorem ZeH {k e:Nat}:cov l at_ k e=true↔∃ p,isD l p∧p.2=e∧∃ i,i<eL l at_ p∧pX at_ p i=(k%8:Nat)∧pY at_ p i=(k / 8:Nat):=by
 unfold cov
 simp only [List.any_eq_true,Bool.and_eq_true,decide_eq_true_eq,List.mem_range,Zbf]
theorem Geo.box (G:Geo l at_) {p:Da}(hp:isD l p) {i:Nat}(hi:i≤eL l at_ p):(0≤pX at_ p i∧pX at_ p i<8)∧0≤pY at_ p i∧pY at_ p i<8:=by
 have e:=G.e hp
 have a:=G.in8 p.1 hp.1
 have b:=G.in8 _ (hp.fwd G.ck).1
 rw [e.2.1,e.2.2.1] at b
 unfold pX pY at b ⊢
 rcases dxy hp.2.1 with ⟨_,h1,h2⟩|⟨_,h1,h2⟩|⟨_,h1,h2⟩|⟨_,h1,h2⟩<;>rw [h1,h2] at b ⊢ <;> omega
def un (at_:List Zh) (p:Da) (i:Nat):Da:=(ps (pX at_ p i) (pY at_ p i),p.2)
theorem Geo.un_cov (G:Geo l at_) {p:Da}(hp:isD l p) {i:Nat}(hi:i<eL l at_ p):cov l at_ (ps (pX at_ p i) (pY at_ p i)) p.2=true:=by
 have b:=G.box hp (i:=i) (by omega)
 have c:=Zef b.1 b.2
 exact ZeH.2 ⟨p,hp,rfl,i,hi,c.2.1.symm,c.2.2.symm⟩
theorem Zos {p:Da}{i:Nat}:pX at_ p i+dx p.2=pX at_ p ((i+1:Nat):Int)∧pY at_ p i+dy p.2=pY at_ p ((i+1:Nat):Int):=by
 unfold pX pY
 rw [Int.natCast_add,Int.add_mul,Int.add_mul]
 constructor<;>omega
theorem Geo.gN_un (G:Geo l at_) {p:Da}(hp:isD l p) {i:Nat}(hi:i<eL l at_ p):gN (ps (pX at_ p i) (pY at_ p i)) p.2=(ps (pX at_ p ((i+1:Nat):Int)) (pY at_ p ((i+1:Nat):Int)):Nat):=by
 have b:=G.box hp (i:=i) (by omega)
 have b':=G.box hp (i:=i+1) (by omega)
 have s:=Zos (at_:=at_) (p:=p) (i:=i)
 rw [Zqy hp.2.1 b.1 b.2 (by rw [s.1];exact b'.1) (by rw [s.2];exact b'.2),s.1,s.2]
theorem Geo.cov_cl (G:Geo l at_) {k e:Nat}(hk:k<64) (he:e<4) (h:cov l at_ k e=true):0≤gN k e∧cov l at_ (gN k e).toNat ((e+2)%4)=true:=by
 obtain ⟨p,hp,rfl,i,hi,hx,hy⟩:=ZeH.1 h
 have b:=G.box hp (i:=i) (by omega)
 have ek:k=ps (pX at_ p i) (pY at_ p i):=by rw [hx,hy];unfold ps;omega
 rw [ek,G.gN_un hp hi,itn]
 have o:=G.opp hp
 have b':=G.box hp (i:=i+1) (by omega)
 have c':=Zef b'.1 b'.2
 refine ⟨by omega,ZeH.2 ⟨Mu.opp l p,hp.opp G.ck,rfl,eL l at_ p-1-i,by rw [o.1];omega,?_,?_⟩⟩
 ·rw [(o.2 _).1,c'.2.1];congr 1;omega
 ·rw [(o.2 _).2,c'.2.2];congr 1;omega
theorem Geo.bck (G:Geo l at_):Ck (brd (cov l at_)):=Zkr fun _ _ hk he h=>G.cov_cl hk he h
theorem Geo.nx_cov (G:Geo l at_) {k e:Nat}(hk:k<64) (he:e<4):0≤nx (brd (cov l at_)) k e↔cov l at_ k e=true:=by
 rw [(Zgq hk he).1]
 constructor
 ·intro h
  refine Classical.byContradiction fun q=>?_
  rw [if_neg q] at h;omega
 ·intro h
  rw [if_pos h];exact (G.cov_cl hk he h).1
theorem Geo.un_is (G:Geo l at_) {p:Da}(hp:isD l p) {i:Nat}(hi:i<eL l at_ p):isD (brd (cov l at_)) (un at_ p i):=by
 have b:=G.box hp (i:=i) (by omega)
 have c:=Zef b.1 b.2
 exact ⟨by rw [ZeG];exact c.1,hp.2.1,(G.nx_cov c.1 hp.2.1).2 (G.un_cov hp hi)⟩
theorem Geo.un_nx (G:Geo l at_) {p:Da}(hp:isD l p) {i:Nat}(hi:i<eL l at_ p):nx (brd (cov l at_)) (un at_ p i).1 (un at_ p i).2=(ps (pX at_ p ((i+1:Nat):Int)) (pY at_ p ((i+1:Nat):Int)):Nat):=by
 have b:=G.box hp (i:=i) (by omega)
 have c:=Zef b.1 b.2
 show nx _ (ps _ _) p.2=_
 rw [(Zgq c.1 hp.2.1).1,if_pos (G.un_cov hp hi),G.gN_un hp hi]
theorem Geo.at_inner (G:Geo l at_) {p:Da}(hp:isD l p) {i e:Nat}(he:e<4) (i0:0<i) (hi:i<eL l at_ p):cov l at_ (ps (pX at_ p i) (pY at_ p i)) e=true↔e=p.2∨e=(p.2+2)%4:=by
 have b:=G.box hp (i:=i) (by omega)
 have c:=Zef b.1 b.2
 constructor
 ·intro h
  obtain ⟨q,hq,rfl,j,hj,hx,hy⟩:=ZeH.1 h
  rw [c.2.1] at hx
  rw [c.2.2] at hy
  exact G.inner hp hq i0 hi hj hx.symm hy.symm
 ·rintro (rfl|rfl)
  ·exact G.un_cov hp hi
  ·have o:=G.opp hp
   refine ZeH.2 ⟨Mu.opp l p,hp.opp G.ck,rfl,eL l at_ p-i,by rw [o.1];omega,?_,?_⟩
   ·rw [(o.2 _).1,c.2.1];congr 1;omega
   ·rw [(o.2 _).2,c.2.2];congr 1;omega
theorem Geo.at_vert (G:Geo l at_) {u e:Nat}(hu:u<l.length) (he:e<4):cov l at_ (ps (gi at_ u).X (gi at_ u).Y) e=true↔0≤nx l u e:=by
 have b:=G.in8 u hu
 have c:=Zef (x:=(gi at_ u).X) (y:=(gi at_ u).Y) ⟨b.1,b.2.1⟩ ⟨b.2.2.1,b.2.2.2⟩
 constructor
 ·intro h
  obtain ⟨q,hq,rfl,j,hj,hx,hy⟩:=ZeH.1 h
  rw [c.2.1] at hx
  rw [c.2.2] at hy
  have:=(G.vert hq hu hj hx.symm hy.symm).1
  rw [← this];exact hq.2.2
 ·intro h
  have hp:isD l (u,e):=⟨hu,he,h⟩
  have e1:=(G.e hp).1
  refine ZeH.2 ⟨(u,e),hp,rfl,0,by omega,?_,?_⟩
  ·rw [c.2.1];unfold pX;dsimp only;omega
  ·rw [c.2.2];unfold pY;dsimp only;omega
theorem Geo.un_bh (G:Geo l at_) {p:Da}(hp:isD l p) {i:Nat}(hi:i<eL l at_ p):bh (brd (cov l at_)) (un at_ p i)=if i+1<eL l at_ p then un at_ p (i+1) else un at_ (bh l p) 0:=by
 rw [Zcd,G.un_nx hp hi,itn]
 have d4:=hp.2.1
 by_cases c:i+1<eL l at_ p
 ·rw [if_pos c]
  have b:=G.box hp (i:=i+1) (by omega)
  have k:=(Zef b.1 b.2).1
  have A:∀ e,e<4→decide (0≤nx (brd (cov l at_)) (ps (pX at_ p ((i+1:Nat):Int)) (pY at_ p ((i+1:Nat):Int))) e)=decide (e=p.2∨e=(p.2+2)%4):=by
   intro e he
   rw [decide_eq_decide,G.nx_cov k he,G.at_inner hp he (by omega) c]
  unfold un
  refine Prod.ext rfl ?_
  dsimp only
  rw [ZcJ A d4]
  unfold prv
  rw [if_neg (by simp;omega),if_pos (by simp)]
 ·rw [if_neg c]
  have e:=G.e hp
  have f:=hp.fwd G.ck
  have ei:i+1=eL l at_ p:=by omega
  rw [ei,← e.2.1,← e.2.2.1]
  have b:=G.in8 _ f.1
  have k:=(Zef (x:=(gi at_ (nx l p.1 p.2).toNat).X) (y:=(gi at_ (nx l p.1 p.2).toNat).Y) ⟨b.1,b.2.1⟩ ⟨b.2.2.1,b.2.2.2⟩).1
  unfold un
  rw [Zcd (l:=l)]
  refine Prod.ext ?_ ?_
  ·dsimp only
   unfold pX pY
   dsimp only
   congr 1<;>omega
  ·dsimp only
   refine ZcJ (fun e he=>?_) d4
   rw [decide_eq_decide,G.nx_cov k he,G.at_vert f.1 he]
def Zkx (l:List Za) (at_:List Zh) (p:Da):List Da:=(List.range (eL l at_ p)).map (un at_ p)
theorem ZcN {p x:Da}:x∈Zkx l at_ p↔∃ i,i<eL l at_ p∧un at_ p i=x:=by
 unfold Zkx
 simp [List.mem_map,List.mem_range]
theorem Geo.un_inj (G:Geo l at_) {p q:Da}(hp:isD l p) (hq:isD l q) {i j:Nat}(hi:i<eL l at_ p) (hj:j<eL l at_ q) (h:un at_ p i=un at_ q j):p=q∧i=j:=by
 have b:=G.box hp (i:=i) (by omega)
 have b':=G.box hq (i:=j) (by omega)
 injection h with h1 h2
 obtain ⟨x,y⟩:=ZpG b.1 b.2 b'.1 b'.2 h1
 exact G.uniq hp hq h2 hi hj x y
theorem Znm {f:Nat→Int}{m:Nat}(h:∀ i,i<m→f i=0):((List.range (m+1)).map f).sum=f m:=by
 rw [List.range_succ,List.map_append,List.sum_append]
 have:((List.range m).map f).sum=0:=by
  have:(List.range m).map f=(List.range m).map fun _=>0:=List.map_congr_left fun i hi=>h i (List.mem_range.1 hi)
  rw [this]
  have z:∀ n,((List.range n).map fun _=>(0:Int)).sum=0:=by
   intro n
   induction n with
   | zero=>rfl
   | succ n ih=>rw [List.range_succ,List.map_append,List.sum_append,ih];rfl
  exact z m
 rw [this]
 simp
theorem Geo.ins (G:Geo l at_):Ins l (brd (cov l at_)) (Zkx l at_):=by
 refine ⟨fun p hp=>?_,fun p hp=>?_,fun p hp x hx=>?_,fun p q hp hq x h1 h2=>?_,fun p hp=>?_,fun p hp x hx=>?_,fun C hC p hp hx y hy=>?_,fun x hx=>?_⟩
 ·intro e
  have:un at_ p 0∈Zkx l at_ p:=ZcN.2 ⟨0,(G.e hp).1,rfl⟩
  rw [e] at this;simp at this
 ·unfold Zkx
  refine List.pairwise_map.2 (List.nodup_range.imp_of_mem fun {a b} ha hb hne he=>hne (G.un_inj hp hp (List.mem_range.1 ha) (List.mem_range.1 hb) he).2)
 ·obtain ⟨i,hi,rfl⟩:=ZcN.1 hx
  exact G.un_is hp hi
 ·obtain ⟨i,hi,rfl⟩:=ZcN.1 h1
  obtain ⟨j,hj,e⟩:=ZcN.1 h2
  exact (G.un_inj hp hq hi hj e.symm).1
 ·have e1:=(G.e hp).1
  obtain ⟨m,hm⟩:∃ m,eL l at_ p=m+1:=⟨eL l at_ p-1,by omega⟩
  unfold Zkx
  rw [List.map_map,hm,Znm]
  ·show tn (un at_ p m).2 (bh _ (un at_ p m)).2=_
   rw [G.un_bh hp (by omega),if_neg (by omega)]
   rfl
  ·intro i hi
   show tn (un at_ p i).2 (bh _ (un at_ p i)).2=_
   rw [G.un_bh hp (by omega),if_pos (by omega)]
   show tn p.2 p.2=0
   unfold tn;rw [if_pos rfl]
 ·obtain ⟨i,hi,rfl⟩:=ZcN.1 hx
  rw [G.un_bh hp hi]
  by_cases c:i+1<eL l at_ p
  ·rw [if_pos c];exact .inl (ZcN.2 ⟨i+1,c,rfl⟩)
  ·rw [if_neg c];exact .inr (ZcN.2 ⟨0,(G.e (hp.bh G.ck)).1,rfl⟩)
 ·obtain ⟨x,hx,hCx⟩:=hx
  obtain ⟨i,hi,rfl⟩:=ZcN.1 hx
  have up:∀ {p:Da},isD l p→∀ {i:Nat},i<eL l at_ p→C (un at_ p i)→∀ m,i+m<eL l at_ p→C (un at_ p (i+m)):=by
   intro p hp i hi hC0 m
   induction m with
   | zero=>intro _;exact hC0
   | succ m ih =>
    intro hm
    have:=hC _ (G.un_is hp (i:=i+m) (by omega)) (ih (by omega))
    rw [G.un_bh hp (by omega),if_pos (by omega)] at this
    exact this
  have l1:=up hp hi hCx (eL l at_ p-1-i) (by omega)
  rw [show i+(eL l at_ p-1-i)=eL l at_ p-1 by omega] at l1
  have n1:=hC _ (G.un_is hp (by omega)) l1
  rw [G.un_bh hp (by omega),if_neg (by omega)] at n1
  obtain ⟨j,hj,rfl⟩:=ZcN.1 hy
  have:=up (hp.bh G.ck) (i:=0) (by omega) n1 j (by omega)
  rwa [Nat.zero_add] at this
 ·have h1:=hx.1
  rw [ZeG] at h1
  obtain ⟨p,hp,hd,i,hi,hX,hY⟩:=ZeH.1 ((G.nx_cov h1 hx.2.1).1 hx.2.2)
  refine ⟨p,hp,ZcN.2 ⟨i,hi,Prod.ext ?_ hd⟩⟩
  show ps _ _=_
  rw [hX,hY];unfold ps;omega
theorem Geo.cn (G:Geo l at_) (Cl:Cn l):Cn (brd (cov l at_)):=by
 intro C hC x y hx hy hCx
 have I:=G.ins
 obtain ⟨p,hp,hxp⟩:=I.al x hx
 obtain ⟨q,hq,hyq⟩:=I.al y hy
 have C1:∀ x,isD (brd (cov l at_)) x→C x→C (bh (brd (cov l at_)) x):=fun x hx h=>(hC x hx h).1
 have h1:=I.on C C1 p hp ⟨x,hxp,hCx⟩
 refine Cl (fun p=>∀ x∈Zkx l at_ p,C x) (fun z hz h=>⟨fun w hw=>?_,fun w hw=>?_⟩) _ q (hp.bh G.ck) hq h1 y hyq
 ·have e1:=(G.e hz).1
  exact I.on C C1 z hz ⟨un at_ z 0,ZcN.2 ⟨0,e1,rfl⟩,h _ (ZcN.2 ⟨0,e1,rfl⟩)⟩ w hw
 ·obtain ⟨j,hj,rfl⟩:=ZcN.1 hw
  have o:=G.opp hz
  rw [o.1] at hj
  have u1:=G.un_is hz (i:=eL l at_ z-1-j) (by omega)
  have:=(hC _ u1 (h _ (ZcN.2 ⟨_,by omega,rfl⟩))).2
  have e:Mu.opp (brd (cov l at_)) (un at_ z (eL l at_ z-1-j))=un at_ (Mu.opp l z) j:=by
   unfold Mu.opp
   rw [G.un_nx hz (by omega),itn]
   refine Prod.ext ?_ rfl
   show ps _ _=ps _ _
   have a:=(o.2 j).1
   have b:=(o.2 j).2
   unfold Mu.opp at a b
   rw [a,b]
   congr 2<;>omega
  rwa [e] at this
theorem Geo.val (G:Geo l at_) (Cl:Cn l) {p:Da}(hp:isD l p):Val l:=by
 have u:=G.un_is hp (i:=0) (by have:=(G.e hp).1;omega)
 exact (G.ins.val G.ck G.bck (ZgI G.ck) (ZgI G.bck)).2 (ZnH (fun _ _ hk he h=>G.cov_cl hk he h) (G.cn Cl) u)
end geo
theorem ZlG {l:List Za}{at_:List Zh}(h:Made l at_) (hw:whole l) (h2:l.length≠1):Val l:=by
 have:=ZdO hw
 obtain ⟨d,hd,h0⟩:=ZkT h.ck hw (by omega) (show 0<l.length by omega)
 exact h.geo.val (ZjJ h.ck hw) (p:=(0,d)) ⟨by omega,hd,h0⟩
theorem ZkF {l:List Za}{at_:List Zh}(h:Made l at_) (hl:l.length≤4096):Zc1 l=if whole l then 0 else 13:=by
 have k:ZeJ l=0:=Zda.2 ⟨hl,h.ck⟩
 by_cases w:whole l
 ·rw [if_pos w]
  exact Zee.2 ⟨k,w,fun h2=>ZlG h w h2⟩
 ·rw [if_neg w]
  unfold Zc1
  rw [if_pos k,if_neg w]
end Mu
/- Layer 21: framing and refining in the code;RectCounts. -/
namespace Mu
theorem ZmL {l:List Za}(hl:l.length≤1000) (h:Zc1 l=0) (h1:l.length≠1):∃ x,ZbK l=some (dt x,0)∧tt l x<0∧∃ f,Cyc l f∧zi l f=-4∧x∈f:=by
 obtain ⟨k,hW,_⟩:=ZdR h
 have hc:=(Zda.1 k).2
 obtain ⟨r1,r2⟩:=Zns h h1
 obtain ⟨o,ho⟩:∃ o:Nat,ZfS l=o:=⟨(ZfS l).toNat,by omega⟩
 rw [ho] at r2
 have hi:o<(faces l).length:=by omega
 have hm:=Zao hi
 obtain ⟨o1,o2,o3,_⟩:=Zd4 hc
 have fl:=o3 _ hm
 have r4:zi l (gi (faces l) o)=-4:=by
  rcases Zie h h1 hi with z|z
  ·exact absurd ho.symm z.2
  ·exact z.1
 obtain ⟨i,hi2,op,e⟩:=Zp2 (t:=tns l (gi (faces l) o)) Zhv (by rw [Zeq];omega) r4
 rw [Zeq] at hi2
 refine ⟨gi (gi (faces l) o) i,?_,?_,gi (faces l) o,Zbw hc _ hm,r4,Zao hi2⟩
 ·unfold ZbK
  rw [Zjk (by omega),if_pos h,if_neg h1,obs,ho]
  dsimp only
  rw [Za4 rfl,Zjg (by omega) k,obs]
  dsimp only
  rw [Zt (by simp;omega),itn,Zcj hi,Zjj (by omega) k (o1 _ hm) (by omega),obs,e,obs]
  dsimp only
  rw [Zt (by simp;omega),itn,Zcj hi2]
 ·have:=op.1
  unfold tns at this
  rw [Zcj hi2] at this
  exact this
theorem ZjX {l:List Za}(hl:l.length≤1000) (h:Zc1 l≠0∨l.length=1):∃ e:Int,ZbK l=some (⟨0,0⟩,e)∧e≠0∧e=if Zc1 l=0 then 2 else Zc1 l:=by
 unfold ZbK
 rw [Zjk (by omega),obs]
 by_cases c:Zc1 l=0
 ·have h1:=h.resolve_left fun q=>q c
  rw [if_pos c,if_pos h1]
  exact ⟨2,rfl,by decide,by rw [if_pos c]⟩
 ·rw [if_neg c]
  dsimp only
  rw [Zbi c]
  exact ⟨Zc1 l,rfl,c,by rw [if_neg c]⟩
theorem Zln {l:List Za}:negs l≤8*l.length:=by
 have a:(Zce l).length≤4*l.length:=by
  have:=Mets.len (l:=l) (met:=Zce l) ⟨Zdg,fun p hp=>Zbf.1 hp⟩
  exact this
 have b:∀ L:List Da,(L.map fun p=>ng (tt l p)).sum≤2*L.length:=by
  intro L
  induction L with
  | nil=>simp
  | cons a L ih =>
   rw [List.map_cons,List.sum_cons,List.length_cons]
   have:ng (tt l a)≤2:=by
    have:-2≤tt l a:=Zid.1
    unfold ng;split<;>omega
   omega
 have:=b (Zce l)
 unfold negs
 omega
theorem Zoh {l:List Za}(hl:l.length≤100) (h:Zc1 l=0) (h1:l.length≠1):∃ F v d,Zbu l=some (some ⟨F⟩,0)∧Framed l F v d∧v<l.length∧d<4:=by
 obtain ⟨k,hW,_⟩:=ZdR h
 have hc:=(Zda.1 k).2
 have hV:=(Zee.1 h).2.2 h1
 obtain ⟨x,e,tx,f,hf,r4,hx⟩:=ZmL (by omega) h h1
 have dx:=hf.is x hx
 have tf:=Zj6 dx.2.1 tx
 have fx:=dx.fwd hc
 have lv:=hc.lt fx.1 dx.2.1
 refine ⟨_,_,_,?_,Zpo hc hV hW hf r4 hx tx,fx.1,dx.2.1⟩
 unfold Zbu
 rw [e,obs]
 dsimp only
 rw [Za4 rfl,zN (by omega),zN (by omega),Z9 (by omega),mOf (by omega),if_pos k,obs,k]
 dsimp only
 rw [obs,Zpw (by omega) dx hc (by omega),obs]
theorem ZhN {l:List Za}(hl:l.length≤100) (h:Zc1 l≠0∨l.length=1):Zbu l=some (none,if Zc1 l=0 then 2 else Zc1 l):=by
 obtain ⟨e,h2,h3,h4⟩:=ZjX (by omega) h
 unfold Zbu
 rw [h2,obs]
 dsimp only
 rw [Zbi h3,h4]
theorem Framed.err {l F:List Za}{v d:Nat}(h:Framed l F v d) (hl:l.length≤100):Zc1 F=0:=Zee.2 ⟨Zda.2 ⟨by rw [h.len];omega,h.ck⟩,h.whole,fun _=>h.val⟩
theorem Zoj {l:List Za}(hl:l.length≤100) {F:List Za}{v d:Nat}(e:Zbu l=some (some ⟨F⟩,0)) (h:Framed l F v d):∃ m n,Zaf l=some (m,0)∧Cuts F n m∧Zc1 m=0∧m.length=F.length+n∧(n:Int)+negs m≤negs F∧Zdo m=none:=by
 have nl:=Zln (l:=F)
 have fl:=h.len
 obtain ⟨m,n,e1,q⟩:=ZmM (cells:=l) (h.err hl) (by omega) (by omega)
 refine ⟨m,n,?_,q⟩
 have qn:=q.2.2.2.1
 have:=Zg8 (l:=m)
 have:=q.2.2.1
 unfold Zaf
 rw [e,obs]
 dsimp only
 rw [Z9 (by omega),Za4 rfl,obs,e1,obs]
 dsimp only
 rw [ZmG (by omega),obs]
theorem Zk3 {l:List Za}(h:Zc1 l=0) (h1:l.length=1):Zaf l=some (l,0):=by
 unfold Zaf
 rw [ZhN (by omega) (.inr h1),if_pos h,obs]
 dsimp only
 rw [ZB (by decide)]
 unfold Zaa
 rw [Zt (by omega),obs]
theorem Zk2 {l:List Za}(hl:l.length≤100) (h:Zc1 l≠0) (h2:Zc1 l≠2):Zaf l=some ([],Zc1 l):=by
 unfold Zaf
 rw [ZhN hl (.inl h),if_neg h,obs]
 dsimp only
 rw [Z9 h2,Zbi h]
theorem ZhJ:Zbn=some true:=by decide +kernel
/-! Turns to the right,face by face. -/
end Mu
/- Layer 21: RectKeeps: old edges are there still,straight on. -/
namespace Mu
inductive Th (m:List Za) (n0 d:Nat) (o:Int):Nat→Nat→Nat→Prop
 | one {a b:Nat}:a<m.length→nx m a d=b→ow m a d=o→Th m n0 d o a b 1
 | step {a c b k:Nat}:a<m.length→nx m a d=c→ow m a d=o→n0≤c→Th m n0 d o c b k→Th m n0 d o a b (k+1)
theorem Th.det {m:List Za}{n0 d:Nat}{o:Int}{a b k:Nat}(h:Th m n0 d o a b k) (hb:b<n0):∀ k',Th m n0 d o a b k'→k=k':=by
 induction h with
 | one h1 h2 h3 =>
  intro k' h'
  cases h' with
  | one=>rfl
  | step g1 g2 g3 g4 g5=>omega
 | step h1 h2 h3 h4 h5 ih =>
  intro k' h'
  cases h' with
  | one g1 g2 g3=>omega
  | step g1 g2 g3 g4 g5 =>
   rename_i a c b k c' k'
   have:c=c':=by omega
   subst this
   rw [ih hb _ g5]
theorem Th.all {m:List Za}{n0 d:Nat}{o:Int}{a b k:Nat}(h:Th m n0 d o a b k) (hb:b<n0):∃ V:List Nat,V.length=k∧V.Nodup∧∀ v∈V,v<m.length∧∃ j,j≤k∧Th m n0 d o v b j:=by
 induction h with
 | one h1 h2 h3 =>
  rename_i a b
  exact ⟨[a],rfl,by simp,fun v hv=>by rw [List.mem_singleton.1 hv];exact ⟨h1,1,by omega,.one h1 h2 h3⟩⟩
 | step h1 h2 h3 h4 h5 ih =>
  rename_i a c b k
  obtain ⟨V,v1,v2,v3⟩:=ih hb
  refine ⟨a::V,by simp [v1],List.nodup_cons.2 ⟨fun hm=>?_,v2⟩,fun v hv=>?_⟩
  ·obtain ⟨_,j,hj,t⟩:=v3 a hm
   have:=(Th.step h1 h2 h3 h4 h5).det hb j t
   omega
  ·rcases List.mem_cons.1 hv with rfl|hv
   ·exact ⟨h1,k+1,by omega,.step h1 h2 h3 h4 h5⟩
   ·obtain ⟨q,j,hj,t⟩:=v3 v hv
    exact ⟨q,j,by omega,t⟩
theorem Th.le {m:List Za}{n0 d:Nat}{o:Int}{a b k:Nat}(h:Th m n0 d o a b k) (hb:b<n0):k≤m.length:=by
 obtain ⟨V,v1,v2,v3⟩:=h.all hb
 have:=v2.length_le_of_subset (l₂:=List.range m.length) fun v hv=>List.mem_range.2 (v3 v hv).1
 simp at this
 omega
theorem Th.add {l m:List Za}(hlen:l.length≤m.length) {n0 d:Nat}(hd:d<4) (h:∀ i e,i<l.length→e<4→0≤nx l i e→nx m i e=nx l i e∧ow m i e=ow l i e) {o:Int}{a b k:Nat}(t:Th l n0 d o a b k):Th m n0 d o a b k:=by
 induction t with
 | one h1 h2 h3 =>
  have:=h _ _ h1 hd (by omega)
  exact .one (by omega) (by rw [this.1];exact h2) (by rw [this.2];exact h3)
 | step h1 h2 h3 h4 h5 ih =>
  have:=h _ _ h1 hd (by omega)
  exact .step (by omega) (by rw [this.1];exact h2) (by rw [this.2];exact h3) h4 ih
theorem Th.spl {l m:List Za}{p q w:Nat}(hc:Ck l) (S:Sp l m p q w) {n0 d:Nat}(hd:d<4) (hn:n0≤l.length) {o:Int}{a b k:Nat}(t:Th l n0 d o a b k):∃ k',Th m n0 d o a b k':=by
 have hne:=S.hne
 have hp:=S.ha
 have hw:=S.hw
 have hq:=S.hb
 have hlen:=S.len
 have hb:=S.back hc
 -- one step of old
 have st:∀ {a c:Nat},a<l.length→nx l a d=c→ow l a d=o→(nx m a d=c∧ow m a d=o)∨(nx m a d=l.length∧ow m a d=o∧nx m l.length d=c∧ow m l.length d=o):=by
  intro a c ha h1 h2
  have n1:=S.nx a d (by omega) hd
  have o1:=S.ow a d (by omega) hd
  have n2:=S.nx l.length d (by omega) hd
  have o2:=S.ow l.length d (by omega) hd
  rw [if_neg (by omega)] at n1 o1
  rw [if_pos rfl] at n2 o2
  by_cases c1:a=w∧d=(q+2)%4
  ·right
   rw [if_pos c1] at n1 o1
   rw [if_neg (by omega),if_pos c1.2] at n2 o2
   have eo:ow l p q=o:=by
    rcases hc.s p q hp hq with ⟨z,_⟩|⟨w',z1,z2,z3,z4,z5,z6⟩
    ·have:=S.hn;omega
    ·have:=S.hn
     have:w'=w:=by omega
     subst this
     rw [← z5,← c1.2,← c1.1];exact h2
   refine ⟨n1,by rw [o1];exact eo,?_,by rw [o2];exact eo⟩
   rw [n2]
   rw [c1.1,c1.2,hb] at h1;exact h1
  ·rw [if_neg c1] at n1 o1
   by_cases c2:a=p∧d=q
   ·right
    rw [if_pos c2] at n1 o1
    rw [if_pos c2.2] at n2 o2
    have eo:ow l p q=o:=by rw [← c2.1,← c2.2];exact h2
    refine ⟨n1,by rw [o1];exact eo,?_,by rw [o2];exact eo⟩
    rw [n2]
    have:=S.hn
    rw [c2.1,c2.2] at h1;omega
   ·left
    rw [if_neg c2] at n1 o1
    exact ⟨n1.trans h1,o1.trans h2⟩
 induction t with
 | one h1 h2 h3 =>
  rcases st h1 h2 h3 with ⟨a1,a2⟩|⟨a1,a2,a3,a4⟩
  ·exact ⟨1,.one (by omega) a1 a2⟩
  ·exact ⟨2,.step (by omega) a1 a2 hn (.one (by omega) a3 a4)⟩
 | step h1 h2 h3 h4 h5 ih =>
  obtain ⟨k',t'⟩:=ih
  rcases st h1 h2 h3 with ⟨a1,a2⟩|⟨a1,a2,a3,a4⟩
  ·exact ⟨_,.step (by omega) a1 a2 h4 t'⟩
  ·exact ⟨_,.step (by omega) a1 a2 hn (.step (by omega) a3 a4 h4 t')⟩
def Keep (l m:List Za):Prop:=l.length≤m.length∧∀ v d w:Nat,v<l.length→d<4→nx l v d=w→∃ k,Th m l.length d (ow l v d) v w k
theorem Framed.keep {l F:List Za}{v d:Nat}(h:Framed l F v d):Keep l F:=by
 have hl:=h.len
 refine ⟨by omega,fun a e w ha he hw=>?_⟩
 have o:=h.old a e ha he
 by_cases c:a=v∧e=d
 ·have:=o.1 c;omega
 ·have:=o.2 c
  exact ⟨1,.one (by omega) (by rw [this.1];exact hw) this.2⟩
theorem Keep.cut {l m m':List Za}(hm:Ck m) (K:Keep l m) (C:Cut m m'):Keep l m':=by
 obtain ⟨l1,a,b,w,v,d,S,rfl,D,hv,hd,f1,f2⟩:=C.sub
 have len:=S.len
 refine ⟨by rw [Zab,len];have:=K.1;omega,fun p e q hp he hq=>?_⟩
 obtain ⟨k,t⟩:=K.2 p e q hp he hq
 obtain ⟨k',t'⟩:=t.spl hm S he K.1
 refine ⟨k',t'.add (by rw [Zab];exact Nat.le_refl _) he fun i e hi he h0=>?_⟩
 have:=Zd6 (l:=l1) (v:=v) (w:=m.length) (d:=d) (o:=-2) (by omega) (by omega) (by omega) hd hi he
 by_cases c1:i=v∧e=d
 ·rw [c1.1,c1.2] at h0;omega
 ·by_cases c2:i=m.length∧e=(d+2)%4
  ·rw [c2.1,c2.2] at h0;omega
  ·rw [if_neg c1,if_neg c2,if_neg c1,if_neg c2] at this
   exact this
theorem Cuts.props {F:List Za}(hF:Ck F) {n:Nat}{m:List Za}(C:Cuts F n m):Ck m:=by
 cases C with
 | zero=>exact hF
 | succ _ h=>exact h.ck
theorem Keep.cuts {l F:List Za}(hF:Ck F) (K:Keep l F) {n:Nat}{m:List Za}(C:Cuts F n m):Keep l m:=by
 induction C with
 | zero=>exact K
 | succ C h ih=>exact ih.cut (C.props hF) h
end Mu
/- Layer 16: straight chains of cells. -/
namespace Mu
theorem Ck.back {l:List Za}(h:Ck l) {v d w:Nat}(hv:v<l.length) (hd:d<4) (hw:nx l v d=w):w<l.length∧nx l w ((d+2)%4)=v:=by
 rcases h.s v d hv hd with ⟨a,_⟩|⟨u,a,b,_,c,_⟩
 ·omega
 ·have:w=u:=by omega
  subst this;exact ⟨b,c⟩
structure IsCh (l:List Za) (d:Nat) (C:List Int):Prop where
 ne:0<C.length
 lt:∀ i,i<C.length→0≤gi C i∧gi C i<l.length
 nxt:∀ i,i+1<C.length→nx l (gi C i).toNat d=gi C (i+1)
 fin:nx l (gi C (C.length-1)).toNat d=-1
 beg:nx l (gi C 0).toNat ((d+2)%4)=-1
theorem IsCh.bk {l:List Za}(hc:Ck l) {d:Nat}(hd:d<4) {C:List Int}(h:IsCh l d C) {i:Nat}(hi:i+1<C.length):nx l (gi C (i+1)).toNat ((d+2)%4)=gi C i:=by
 have a:=h.lt i (by omega)
 have b:=h.lt (i+1) hi
 have:=(hc.back (v:=(gi C i).toNat) (d:=d) (w:=(gi C (i+1)).toNat) (by omega) hd (by rw [h.nxt i hi];omega)).2
 rw [this];omega
theorem IsCh.at0 {l:List Za}(hc:Ck l) {d:Nat}(hd:d<4) {C C':List Int}(h:IsCh l d C) (h':IsCh l d C'):∀ i j,i<C.length→j<C'.length→gi C i=gi C' j→i=j∧gi C 0=gi C' 0
 | 0,0,_,_,e=>⟨rfl,e⟩
 | 0,j+1,_,hj,e=>by
  have a:=h'.bk hc hd hj
  have b:=h.beg
  rw [e,a] at b
  have:=h'.lt j (by omega)
  omega
 | i+1,0,hi,_,e=>by
  have a:=h.bk hc hd hi
  have b:=h'.beg
  rw [← e,a] at b
  have:=h.lt i (by omega)
  omega
 | i+1,j+1,hi,hj,e=>by
  have a:=h.bk hc hd hi
  have b:=h'.bk hc hd hj
  rw [e,b] at a
  obtain ⟨q,r⟩:=IsCh.at0 hc hd h h' i j (by omega) (by omega) a.symm
  exact ⟨by omega,r⟩
theorem IsCh.uniq0 {l:List Za}{d:Nat}{C C':List Int}(h:IsCh l d C) (h':IsCh l d C') (h0:gi C 0=gi C' 0):C=C':=by
 have key:∀ {C C':List Int},IsCh l d C→IsCh l d C'→gi C 0=gi C' 0→∀ k,k<C.length→k<C'.length∧gi C k=gi C' k:=by
  intro C C' h h' h0 k
  induction k with
  | zero=>intro _;exact ⟨h'.ne,h0⟩
  | succ k ih =>
   intro hk
   obtain ⟨a,b⟩:=ih (by omega)
   have n:=h.nxt k hk
   have q:=h.lt (k+1) hk
   by_cases c:k+1<C'.length
   ·refine ⟨c,?_⟩
    rw [← n,← h'.nxt k c,b]
   ·have f:=h'.fin
    rw [show C'.length-1=k by omega,← b,n] at f
    omega
 have k1:=key h h' h0
 have k2:=key h' h h0.symm
 have hl:C.length=C'.length:=by
  have a:=h.ne
  have b:=h'.ne
  have:=(k1 (C.length-1) (by omega)).1
  have:=(k2 (C'.length-1) (by omega)).1
  omega
 exact ZcH hl fun i hi=>(k1 i hi).2
theorem IsCh.uniq {l:List Za}(hc:Ck l) {d:Nat}(hd:d<4) {C C':List Int}(h:IsCh l d C) (h':IsCh l d C') {v:Int}(hv:v∈C) (hv':v∈C'):C=C':=by
 obtain ⟨i,hi,rfl⟩:=List.mem_iff_getElem.1 hv
 obtain ⟨j,hj,e⟩:=List.mem_iff_getElem.1 hv'
 exact h.uniq0 h' (h.at0 hc hd h' i j hi hj (by rw [ZaM hi,ZaM hj];exact e.symm)).2
theorem IsCh.len {l:List Za}(hc:Ck l) {d:Nat}(hd:d<4) {C:List Int}(h:IsCh l d C):C.length≤l.length:=by
 refine Zjv (fun i=>(gi C i).toNat) (fun i hi=>?_) (fun i j hi hj e=>?_)
 ·have:=h.lt i hi;show (gi C i).toNat<l.length;omega
 ·have a:=h.lt i hi
  have b:=h.lt j hj
  have e:(gi C i).toNat=(gi C j).toNat:=e
  exact (h.at0 hc hd h i j hi hj (by omega)).1
theorem ZjU {P:Nat→Prop}:∀ k,P k→∃ k,P k∧∀ i,i<k→¬ P i:=by
 intro k
 induction k using Nat.strongRecOn with
 | _ k ih =>
  intro h
  by_cases c:∃ i,i<k∧P i
  ·obtain ⟨i,hi,hp⟩:=c
   exact ih i hi hp
  ·exact ⟨k,h,fun i hi hp=>c ⟨i,hi,hp⟩⟩
def fwd (l:List Za) (d r:Nat):Nat→Int
 | 0=>r
 | n+1=>if 0≤fwd l d r n then nx l (fwd l d r n).toNat d else -1
theorem Zmq {l:List Za}(hc:Ck l) {d r:Nat}(hd:d<4) (hr:r<l.length) (hb:nx l r ((d+2)%4)=-1):∃ C,IsCh l d C∧gi C 0=r:=by
 have step:∀ n,0≤fwd l d r n→fwd l d r (n+1)=nx l (fwd l d r n).toNat d:=fun n h=>by rw [fwd,if_pos h]
 have pre:∀ n,0≤fwd l d r (n+1)→0≤fwd l d r n:=by
  intro n h
  by_cases c:0≤fwd l d r n
  ·exact c
  ·rw [fwd,if_neg c] at h;omega
 have lt:∀ n,0≤fwd l d r n→fwd l d r n<l.length:=by
  intro n
  induction n with
  | zero=>intro _;show (r:Int)<l.length;omega
  | succ n ih =>
   intro h
   have c:=pre n h
   have:=ih c
   rw [step n c]
   exact (hc.lt (by omega) hd).2
 have bkw:∀ n,0≤fwd l d r (n+1)→nx l (fwd l d r (n+1)).toNat ((d+2)%4)=fwd l d r n:=by
  intro n h
  have c:=pre n h
  have a:=lt n c
  have b:=lt (n+1) h
  have:=(hc.back (v:=(fwd l d r n).toNat) (d:=d) (w:=(fwd l d r (n+1)).toNat) (by omega) hd (by rw [← step n c];omega)).2
  rw [this];omega
 have z:fwd l d r 0=r:=rfl
 have inj:∀ i j,0≤fwd l d r i→0≤fwd l d r j→fwd l d r i=fwd l d r j→i=j:=by
  intro i
  induction i with
  | zero =>
   intro j _ hj e
   cases j with
   | zero=>rfl
   | succ j =>
    have:=bkw j hj
    rw [← e,z,itn,hb] at this
    have:=pre j hj
    omega
  | succ i ih =>
   intro j hi hj e
   cases j with
   | zero =>
    have:=bkw i hi
    rw [e,z,itn,hb] at this
    have:=pre i hi
    omega
   | succ j =>
    have a:=bkw i hi
    have b:=bkw j hj
    rw [e,b] at a
    have:=ih j (pre i hi) (pre j hj) a.symm
    omega
 have ex:∃ k,fwd l d r k<0:=by
  refine Classical.byContradiction fun hn=>?_
  have all:∀ k,0≤fwd l d r k:=fun k=>by
   by_cases c:0≤fwd l d r k
   ·exact c
   ·exact absurd ⟨k,by omega⟩ hn
  have:=Zjv (n:=l.length+1) (m:=l.length) (fun i=>(fwd l d r i).toNat) (fun i _=>by
   have:=lt i (all i);have:=all i
   show (fwd l d r i).toNat<l.length;omega) (fun i j _ _ e=>inj i j (all i) (all j) (by
   have e:(fwd l d r i).toNat=(fwd l d r j).toNat:=e
   have:=all i;have:=all j
   omega))
  omega
 obtain ⟨k0,hk0⟩:=ex
 obtain ⟨k,hk,hm⟩:=ZjU (P:=fun k=>fwd l d r k<0) k0 hk0
 have hpos:0<k:=by
  cases k with
  | zero=>rw [z] at hk;omega
  | succ k=>omega
 have g:∀ i,i<k→gi ((List.range k).map (fwd l d r)) i=fwd l d r i:=fun i hi=>Zb4 hi
 have hlen:((List.range k).map (fwd l d r)).length=k:=by simp
 have ge:∀ i,i<k→0≤fwd l d r i:=fun i hi=>by have:=hm i hi;omega
 refine ⟨(List.range k).map (fwd l d r),⟨by omega,fun i hi=>?_,fun i hi=>?_,?_,?_⟩,?_⟩
 ·rw [hlen] at hi
  rw [g i hi];exact ⟨ge i hi,lt i (ge i hi)⟩
 ·rw [hlen] at hi
  rw [g i (by omega),g (i+1) hi,step i (ge i (by omega))]
 ·rw [hlen,g _ (by omega),← step _ (ge _ (by omega)),show k-1+1=k by omega]
  have:=ge (k-1) (by omega)
  have a:=step (k-1) this
  rw [show k-1+1=k by omega] at a
  have:=lt (k-1) this
  have:=hc.lt (l:=l) (v:=(fwd l d r (k-1)).toNat) (d:=d) (by omega) hd
  omega
 ·rw [g 0 hpos,z,itn];exact hb
 ·rw [g 0 hpos,z]
def Zdy (l:List Za) (b:Nat):Nat→Nat→Option Nat
 | 0,_=>none
 | n+1,v=>if nx l v b<0 then some v else Zdy l b n (nx l v b).toNat
theorem ZhW {l:List Za}(hc:Ck l) {d:Nat}(hd:d<4) {C:List Int}(h:IsCh l d C):∀ i m,i<C.length→i<m→Zdy l ((d+2)%4) m (gi C i).toNat=some (gi C 0).toNat
 | 0,m+1,_,_=>by rw [Zdy,h.beg,if_pos (by omega)]
 | i+1,m+1,hi,hm=>by
  have:=h.lt i (by omega)
  rw [Zdy,h.bk hc hd hi,if_neg (by omega)]
  exact ZhW hc hd h i m (by omega) (by omega)
theorem Zfg {l:List Za}(hc:Ck l) {d:Nat}(hd:d<4):∀ m v r,v<l.length→Zdy l ((d+2)%4) m v=some r→∃ C,IsCh l d C∧gi C 0=r∧∃ i,i<C.length∧gi C i=v
 | 0,v,r,_,h=>by cases h
 | m+1,v,r,hv,h=>by
  have hb:=hc.lt hv (d:=(d+2)%4) (by omega)
  rw [Zdy] at h
  by_cases c:nx l v ((d+2)%4)<0
  ·rw [if_pos c] at h
   cases h
   obtain ⟨C,hC,h0⟩:=Zmq hc hd hv (by omega)
   exact ⟨C,hC,h0,0,hC.ne,h0⟩
  ·rw [if_neg c] at h
   have bk:=hc.back (v:=v) (d:=(d+2)%4) (w:=(nx l v ((d+2)%4)).toNat) hv (by omega) (by omega)
   rw [show ((d+2)%4+2)%4=d by omega] at bk
   obtain ⟨C,hC,h0,i,hi,e⟩:=Zfg hc hd m _ r (by omega) h
   have n:nx l (gi C i).toNat d=v:=by rw [e,itn];exact bk.2
   by_cases q:i+1<C.length
   ·exact ⟨C,hC,h0,i+1,q,by rw [← hC.nxt i q];exact n⟩
   ·have f:=hC.fin
    rw [show C.length-1=i by omega,n] at f
    omega
def AllCh (l:List Za) (d:Nat):Prop:=∀ v:Nat,v<l.length→∃ C,IsCh l d C∧(v:Int)∈C
theorem AllCh.root {l:List Za}(hc:Ck l) {d:Nat}(hd:d<4) (h:AllCh l d) {v:Nat}(hv:v<l.length):∃ r C,Zdy l ((d+2)%4) (l.length+1) v=some r∧IsCh l d C∧gi C 0=r∧(v:Int)∈C:=by
 obtain ⟨C,hC,hm⟩:=h v hv
 obtain ⟨i,hi,e⟩:=List.mem_iff_getElem.1 hm
 have:=hC.len hc hd
 have r:=ZhW hc hd hC i (l.length+1) hi (by omega)
 rw [ZaM hi,e,itn] at r
 have:=hC.lt 0 hC.ne
 exact ⟨_,C,r,hC,by omega,hm⟩
theorem Zi6 {l:List Za}(hc:Ck l) {d:Nat}(hd:d<4) (h:¬ AllCh l d):∃ v,v<l.length∧Zdy l ((d+2)%4) (l.length+1) v=none:=by
 refine Classical.byContradiction fun hn=>h fun v hv=>?_
 cases r:Zdy l ((d+2)%4) (l.length+1) v with
 | none=>exact absurd ⟨v,hv,r⟩ hn
 | some r' =>
  obtain ⟨C,hC,h0,i,hi,e⟩:=Zfg hc hd _ v r' hv r
  exact ⟨C,hC,by rw [← e];exact Zao hi⟩
structure CH (l:List Za) (d:Nat) (a:List Int) (L:List (List Int)):Prop where
 alen:a.length=l.length
 ch:∀ i,i<L.length→IsCh l d (gi L i)
 mem:∀ u:Nat,u<l.length→∃ i:Nat,i<L.length∧gi a u=i∧(u:Int)∈gi L i
 one:∀ i u:Nat,i<L.length→u<l.length→(u:Int)∈gi L i→gi a u=i
 seen:∀ i:Nat,i<L.length→∃ u,u<l.length∧gi a u=i
 ord:∀ u i:Nat,u<l.length→gi a u=i+1→∃ u',u'<u∧gi a u'=i
 Ll:L.length≤l.length
theorem ZkC {n:Nat}{a:List Int}(ord:∀ u i:Nat,u<n→gi a u=i+1→∃ u',u'<u∧gi a u'=i):∀ (k u i:Nat),u<n→gi a u=i+(k+1:Nat)→∃ u',u'<u∧gi a u'=i
 | 0,u,i,hu,e=>ord u i hu (by omega)
 | k+1,u,i,hu,e=>by
  obtain ⟨u',h1,h2⟩:=ord u (i+(k+1)) hu (by omega)
  obtain ⟨u'',h3,h4⟩:=ZkC ord k u' i (by omega) (by omega)
  exact ⟨u'',by omega,h4⟩
theorem ZpD {n:Nat}{a a':List Int}(p:∀ u:Nat,u<n→∃ i:Nat,gi a u=i) (p':∀ u:Nat,u<n→∃ i:Nat,gi a' u=i) (o:∀ u i:Nat,u<n→gi a u=i+1→∃ u',u'<u∧gi a u'=i) (o':∀ u i:Nat,u<n→gi a' u=i+1→∃ u',u'<u∧gi a' u'=i)
  (h:∀ u v:Nat,u<n→v<n→(gi a u=gi a v↔gi a' u=gi a' v)):∀ v:Nat,v<n→gi a v=gi a' v:=by
 intro v
 induction v using Nat.strongRecOn with
 | _ v ih =>
  intro hv
  obtain ⟨i,hi⟩:=p v hv
  obtain ⟨j,hj⟩:=p' v hv
  by_cases c:i=j
  ·rw [hi,hj,c]
  ·by_cases q:i<j
   ·obtain ⟨u,h1,h2⟩:=ZkC o' (j-i-1) v i hv (by omega)
    have:=ih u h1 (by omega)
    have:=(h u v (by omega) hv).1 (by omega)
    omega
   ·obtain ⟨u,h1,h2⟩:=ZkC o (i-j-1) v j hv (by omega)
    have:=ih u h1 (by omega)
    have:=(h u v (by omega) hv).2 (by omega)
    omega
theorem CH.eq {l m:List Za}{d e:Nat}{a a':List Int}{L L':List (List Int)}(h:CH l d a L) (h':CH m e a' L') (hn:l.length=m.length) (f:List Int→List Int) (hf:∀ C C' v,IsCh l d C→IsCh m e C'→v∈C→v∈C'→C'=f C) (hm:∀ C v,v∈f C↔v∈C):a=a'∧L'=L.map f:=by
 have key:∀ u v:Nat,u<l.length→v<l.length→(gi a u=gi a v↔gi a' u=gi a' v):=by
  intro u v hu hv
  obtain ⟨i,i1,i2,i3⟩:=h.mem u hu
  obtain ⟨j,j1,j2,j3⟩:=h'.mem u (by omega)
  have e:=hf _ _ _ (h.ch i i1) (h'.ch j j1) i3 j3
  constructor
  ·intro q
   obtain ⟨k,k1,k2,k3⟩:=h.mem v hv
   have:k=i:=by omega
   subst this
   have:=h'.one j v j1 (by omega) (by rw [e];exact (hm _ _).2 k3)
   omega
  ·intro q
   obtain ⟨k,k1,k2,k3⟩:=h'.mem v (by omega)
   have:k=j:=by omega
   subst this
   rw [e] at k3
   have:=h.one i v i1 hv ((hm _ _).1 k3)
   omega
 have ae:∀ v:Nat,v<l.length→gi a v=gi a' v:=ZpD (n:=l.length) (fun u hu=>by obtain ⟨i,_,e,_⟩:=h.mem u hu;exact ⟨i,e⟩) (fun u hu=>by obtain ⟨i,_,e,_⟩:=h'.mem u (by omega);exact ⟨i,e⟩) h.ord (fun u i hu=>h'.ord u i (by omega)) key
 refine ⟨ZcH (by rw [h.alen,h'.alen,hn]) fun i hi=>ae i (by rw [h.alen] at hi;exact hi),?_⟩
 have ll:L'.length=L.length:=by
  have A:∀ i,i<L.length→i<L'.length:=by
   intro i hi
   obtain ⟨u,hu,e⟩:=h.seen i hi
   obtain ⟨j,j1,j2,_⟩:=h'.mem u (by omega)
   have:=ae u hu
   omega
  have B:∀ i,i<L'.length→i<L.length:=by
   intro i hi
   obtain ⟨u,hu,e⟩:=h'.seen i hi
   obtain ⟨j,j1,j2,_⟩:=h.mem u (by omega)
   have:=ae u (by omega)
   omega
  have a1:=A (L.length-1)
  have b1:=B (L'.length-1)
  omega
 apply ZcH (by rw [ll,List.length_map])
 intro i hi
 have hi':i<L.length:=by omega
 obtain ⟨u,hu,e⟩:=h.seen i hi'
 obtain ⟨k,k1,k2,k3⟩:=h.mem u hu
 obtain ⟨j,j1,j2,j3⟩:=h'.mem u (by omega)
 have:=ae u hu
 have ek:k=i:=by omega
 have ej:j=i:=by omega
 subst ek;subst ej
 rw [hf _ _ _ (h.ch _ hi') (h'.ch _ hi) k3 j3,ZaM (l:=L.map f) (by simpa using hi'),ZaM hi',List.getElem_map]
end Mu
/- Layer 16: what the chains' code works out. -/
namespace Mu
theorem ZqS {l:List Za}(hc:Ck l) (hl:l.length≤1000) {d:Nat}(hd:d<4):∀ (m u j:Nat),j+m=l.length+1→u<l.length→ZZ (Zai.s0 l d) (m+1) ((u:Int),(j:Int))=some (match Zdy l ((d+2)%4) m u with|some r=>.inr (r:Int)|none=>.inl ()):=by
 have hbk:(((d:Int)+2).tmod 4)=(((d+2)%4:Nat):Int):=by
  match d,hd with
  | 0,_|1,_|2,_|3,_=>rfl
 intro m
 induction m with
 | zero =>
  intro u j hj hu
  simp only [ZZ,Zai.s0,Zdy]
  rw [Z9 (by omega)]
 | succ m ih =>
  intro u j hj hu
  have e:(gi l u).Next.get (((d+2)%4:Nat):Int)=nx l u ((d+2)%4):=rfl
  have hlt:=hc.lt (d:=(d+2)%4) hu (by omega)
  rw [ZZ,Zdy]
  simp only [Zai.s0]
  rw [ZB (by omega),zN (by omega),Zt (by omega),hbk,Zt (by omega),itn,e]
  by_cases c:nx l u ((d+2)%4)<0
  ·rw [ZB c,if_pos c]
  ·rw [Z9 c,zN (by omega),if_neg c]
   have:=ih (nx l u ((d+2)%4)).toNat (j+1) (by omega) (by omega)
   rw [show ((nx l u ((d+2)%4)).toNat:Int)=nx l u ((d+2)%4) by omega,show ((j+1:Nat):Int)=(j:Int)+1 by omega] at this
   exact this
theorem ZmI {l:List Za}(hc:Ck l) (hl:l.length≤1000) {d v:Nat}(hd:d<4) (hv:v<l.length):Zai l v d=some (match Zdy l ((d+2)%4) (l.length+1) v with|some r=>(r:Int)|none=>-1):=by
 have:=Zd5 (ZqS hc hl hd (l.length+1) v 0 (by omega) hv) (m:=big) (by unfold big;omega)
 unfold Zai
 rw [show (0:Int)=((0:Nat):Int) from rfl,this,obs]
 cases Zdy l ((d+2)%4) (l.length+1) v<;>rfl
theorem Zjd {C:List Int}{i:Nat}(hi:i<C.length):gi (C++[-1]) i=gi C i:=Zcb hi
theorem Zje {C:List Int}:gi (C++[-1]) C.length=-1:=by
 have:=ZbN (l:=C) (m:=[(-1:Int)]) (i:=0)
 rwa [Nat.add_zero] at this
theorem Zlg {l:List Za}{d:Nat}{C:List Int}(h:IsCh l d C) {i:Nat}(hi:i<C.length):nx l (gi C i).toNat d=gi (C++[-1]) (i+1):=by
 by_cases c:i+1<C.length
 ·rw [Zjd c];exact h.nxt i c
 ·have e:i+1=C.length:=by omega
  rw [e,Zje]
  have:=h.fin
  rwa [show C.length-1=i by omega] at this
theorem ZpH {l:List Za}(hl:l.length≤1000) {d:Nat}(hd:d<4) {C:List Int}(h:IsCh l d C) (hCl:C.length≤l.length):ZZ (Z0.s2 l d) big (([]:List Int),gi C 0)=some C:=by
 refine ZbP (fun k:Nat=>(C.take k,gi (C++[-1]) k)) (n:=C.length) (ZaN (by omega)) (by rw [Zjd h.ne];rfl) (fun k hk=>?_) ?_
 ·have hlt:=h.lt k hk
  have e:(gi l (gi C k).toNat).Next.get (d:Int)=nx l (gi C k).toNat d:=rfl
  simp only [Z0.s2]
  rw [Zjd hk,ZB (by omega),Zt (by rw [List.length_take];simp;omega),Zt (by omega),Zt (by omega),e,Zlg h hk,Zj5 hk]
 ·simp only [Z0.s2]
  rw [Zje,Z9 (by omega),List.take_length]
structure SI (l:List Za) (d:Nat) (a:List Int) (L:List (List Int)) (v:Nat):Prop where
 alen:a.length=l.length
 ch:∀ i,i<L.length→IsCh l d (gi L i)
 mem:∀ u:Nat,u<l.length→(gi a u=-1∧∀ i,i<L.length→(u:Int) ∉ gi L i)∨∃ i:Nat,i<L.length∧gi a u=i∧(u:Int)∈gi L i
 one:∀ i u:Nat,i<L.length→u<l.length→(u:Int)∈gi L i→gi a u=i
 done:∀ u,u<v→0≤gi a u
 seen:∀ i:Nat,i<L.length→∃ u,u<v∧gi a u=i
 ord:∀ u i:Nat,u<l.length→gi a u=i+1→∃ u',u'<u∧gi a u'=i
 Ll:L.length≤v
theorem Zen {α:Type} [Inhabited α] {L:List α}{C:α}{i:Nat}(hi:i<L.length+1):gi (L++[C]) i=if i<L.length then gi L i else C:=by
 by_cases c:i<L.length
 ·rw [if_pos c,Zcb c]
 ·rw [if_neg c,show i=L.length+0 by omega,ZbN];rfl
theorem SI.skip {l:List Za}{d v:Nat}{a:List Int}{L:List (List Int)}(h:SI l d a L v) (hv:0≤gi a v):SI l d a L (v+1) :=
 ⟨h.alen,h.ch,h.mem,h.one,fun u hu=>by
  by_cases c:u=v
  ·subst c;exact hv
  ·exact h.done u (by omega),fun i hi=>by obtain ⟨u,a,b⟩:=h.seen i hi;exact ⟨u,by omega,b⟩,h.ord,by have:=h.Ll;omega⟩
theorem SI.add {l:List Za}(hc:Ck l) {d v:Nat}(hd:d<4) {a a':List Int}{L:List (List Int)}(h:SI l d a L v) (hv:v<l.length) (hneg:gi a v<0) {C:List Int}(hC:IsCh l d C) (hm:(v:Int)∈C) (al:a'.length=l.length) (ha:∀ u:Nat,u<l.length→gi a' u=if (u:Int)∈C then (L.length:Int) else gi a u):SI l d a' (L++[C]) (v+1):=by
 have hL:(L++[C]).length=L.length+1:=by simp
 have off:∀ i,i<L.length→∀ u:Nat,u<l.length→(u:Int)∈gi L i→(u:Int) ∉ C:=by
  intro i hi u hu h1 h2
  have e:=(h.ch i hi).uniq hc hd hC h1 h2
  have:=h.one i v hi hv (by rw [e];exact hm)
  omega
 have late:∀ u:Nat,u<l.length→(u:Int)∈C→v≤u∧gi a u=-1:=by
  intro u hu h2
  have hneg1:gi a u=-1:=by
   rcases h.mem u hu with ⟨q,_⟩|⟨i,i1,_,i3⟩
   ·exact q
   ·exact absurd h2 (off i i1 u hu i3)
  refine ⟨?_,hneg1⟩
  by_cases c:u<v
  ·have:=h.done u c;omega
  ·omega
 have av:gi a' v=L.length:=by rw [ha v hv,if_pos hm]
 have old:∀ u:Nat,u<l.length→(u:Int) ∉ C→gi a' u=gi a u:=fun u hu q=>by rw [ha u hu,if_neg q]
 refine ⟨al,fun i hi=>?_,fun u hu=>?_,fun i u hi hu hmem=>?_,fun u hu=>?_,fun i hi=>?_,fun u i hu e=>?_,by rw [hL];have:=h.Ll;omega⟩
 ·rw [Zen (by omega)]
  split
  ·exact h.ch i (by assumption)
  ·exact hC
 ·by_cases q:(u:Int)∈C
  ·exact .inr ⟨L.length,by omega,by rw [ha u hu,if_pos q],by rw [Zen (by omega),if_neg (by omega)];exact q⟩
  ·rw [old u hu q]
   rcases h.mem u hu with ⟨p,r⟩|⟨i,i1,i2,i3⟩
   ·refine .inl ⟨p,fun i hi=>?_⟩
    rw [Zen (by omega)]
    split
    ·exact r i (by assumption)
    ·exact q
   ·exact .inr ⟨i,by omega,i2,by rw [Zen (by omega),if_pos i1];exact i3⟩
 ·rw [Zen (by omega)] at hmem
  by_cases c:i<L.length
  ·rw [if_pos c] at hmem
   rw [old u hu (off i c u hu hmem)]
   exact h.one i u c hu hmem
  ·rw [if_neg c] at hmem
   rw [ha u hu,if_pos hmem];omega
 ·by_cases c:u=v
  ·subst c;rw [av];omega
  ·have hul:u<l.length:=by omega
   by_cases q:(u:Int)∈C
   ·rw [ha u hul,if_pos q];omega
   ·rw [old u hul q];exact h.done u (by omega)
 ·by_cases c:i<L.length
  ·obtain ⟨u,u1,u2⟩:=h.seen i c
   refine ⟨u,by omega,?_⟩
   have hul:u<l.length:=by omega
   rw [old u hul (fun q=>by have:=late u hul q;omega)];exact u2
  ·exact ⟨v,by omega,by rw [av];omega⟩
 ·have push:∀ u',u'<v→gi a u'=i→∃ u',u'<v∧gi a' u'=i:=fun u' h1 h2=>⟨u',h1,by rw [old u' (by omega) (fun q=>by have:=late u' (by omega) q;omega)];exact h2⟩
  by_cases q:(u:Int)∈C
  ·rw [ha u hu,if_pos q] at e
   obtain ⟨u',u1,u2⟩:=h.seen i (by omega)
   obtain ⟨u'',w1,w2⟩:=push u' u1 u2
   exact ⟨u'',by have:=late u hu q;omega,w2⟩
  ·rw [old u hu q] at e
   obtain ⟨u',u1,u2⟩:=h.ord u i hu e
   refine ⟨u',u1,?_⟩
   rw [old u' (by omega) (fun q=>by have:=late u' (by omega) q;omega)];exact u2
end Mu
/- Layer 16: what the document's chains are. -/
namespace Mu
structure RI (l:List Za) (d:Nat) (a F:List Int) (L:List (List Int)) (v:Nat):Prop where
 alen:a.length=l.length
 flen:F.length=L.length
 ch:∀ i,i<L.length→IsCh l d (gi L i)∧gi (gi L i) 0=gi F i
 mem:∀ u:Nat,u<v→∃ i:Nat,i<L.length∧gi a u=i∧(u:Int)∈gi L i
 inj:∀ i j,i<L.length→j<L.length→gi F i=gi F j→i=j
 seen:∀ i:Nat,i<L.length→∃ u,u<v∧gi a u=i
 ord:∀ u i:Nat,u<v→gi a u=i+1→∃ u',u'<u∧gi a u'=i
 Ll:L.length≤v
theorem ZqP {F:List Int}{x:Int}(hF:F.length≤1000):∃ k:Nat,ZZ (Z0.s1 F x) big 0=some (k:Int)∧((k<F.length∧gi F k=x)∨(k=F.length∧∀ j,j<F.length→gi F j≠x)):=by
 have:∃ r:Int,ZZ (Z0.s1 F x) big 0=some r∧∃ k:Nat,r=k∧((k<F.length∧gi F k=x)∨(k=F.length∧∀ j,j<F.length→gi F j≠x)):=by
  refine Zer (fun s:Int=>F.length-s.toNat) (fun s=>∃ k:Nat,s=k∧k≤F.length∧∀ j,j<k→gi F j≠x) (ZaN (by omega)) ⟨0,rfl,by omega,fun j hj=>by omega⟩ ?_
  rintro s ⟨k,rfl,hk,hn⟩
  simp only [Z0.s1]
  by_cases c:k<F.length
  ·rw [ZB (by omega),Zt (by omega),itn,obs]
   by_cases q:gi F k=x
   ·right
    rw [Za4 q]
    exact ⟨_,rfl,k,rfl,.inl ⟨c,q⟩⟩
   ·left
    rw [Zbi q,zN (by omega)]
    refine ⟨_,rfl,⟨k+1,by omega,by omega,fun j hj=>?_⟩,by omega⟩
    by_cases e:j=k
    ·subst e;exact q
    ·exact hn j (by omega)
  ·right
   rw [Z9 (by omega),obs,if_neg (by decide)]
   exact ⟨_,rfl,k,rfl,.inr ⟨by omega,fun j hj=>hn j (by omega)⟩⟩
 obtain ⟨r,e,k,rfl,h⟩:=this
 exact ⟨k,e,h⟩
theorem RI.old {l:List Za}{d v k:Nat}{a F:List Int}{L:List (List Int)}(h:RI l d a F L v) (hv:v<l.length) (hk:k<L.length) (hm:(v:Int)∈gi L k):RI l d (a.set v k) F L (v+1):=by
 have hal:=h.alen
 have g:∀ u,gi (a.set v (k:Int)) u=if u=v then (k:Int) else gi a u:=fun u=>Zcs (by omega)
 refine ⟨by rw [List.length_set,hal],h.flen,h.ch,fun u hu=>?_,h.inj,fun i hi=>?_,fun u i hu e=>?_,by have:=h.Ll;omega⟩
 ·rw [g]
  by_cases c:u=v
  ·subst c;exact ⟨k,hk,by rw [if_pos rfl],hm⟩
  ·rw [if_neg c];exact h.mem u (by omega)
 ·obtain ⟨u,u1,u2⟩:=h.seen i hi
  exact ⟨u,by omega,by rw [g,if_neg (by omega)];exact u2⟩
 ·rw [g] at e
  by_cases c:u=v
  ·rw [if_pos c] at e
   obtain ⟨u',u1,u2⟩:=h.seen i (by omega)
   exact ⟨u',by omega,by rw [g,if_neg (by omega)];exact u2⟩
  ·rw [if_neg c] at e
   obtain ⟨u',u1,u2⟩:=h.ord u i (by omega) e
   exact ⟨u',u1,by rw [g,if_neg (by omega)];exact u2⟩
theorem RI.new {l:List Za}{d v:Nat}{a F:List Int}{L:List (List Int)}(h:RI l d a F L v) (hv:v<l.length) {C:List Int}(hC:IsCh l d C) (hm:(v:Int)∈C) (hn:∀ j,j<F.length→gi F j≠gi C 0):RI l d (a.set v (L.length:Nat)) (F++[gi C 0]) (L++[C]) (v+1):=by
 have hal:=h.alen
 have hfl:=h.flen
 have hL:(L++[C]).length=L.length+1:=by simp
 have g:∀ u,gi (a.set v (L.length:Int)) u=if u=v then (L.length:Int) else gi a u:=fun u=>Zcs (by omega)
 have gF:∀ i,i<L.length+1→gi (F++[gi C 0]) i=if i<L.length then gi F i else gi C 0:=fun i hi=>by rw [Zen (by omega),hfl]
 refine ⟨by rw [List.length_set,hal],by simp [hfl],fun i hi=>?_,fun u hu=>?_,fun i j hi hj e=>?_,fun i hi=>?_,fun u i hu e=>?_,by rw [hL];have:=h.Ll;omega⟩
 ·rw [Zen (by omega),gF i (by omega)]
  by_cases c:i<L.length
  ·rw [if_pos c,if_pos c];exact h.ch i c
  ·rw [if_neg c,if_neg c];exact ⟨hC,rfl⟩
 ·rw [g]
  by_cases c:u=v
  ·subst c;exact ⟨L.length,by omega,by rw [if_pos rfl],by rw [Zen (by omega),if_neg (by omega)];exact hm⟩
  ·rw [if_neg c]
   obtain ⟨i,i1,i2,i3⟩:=h.mem u (by omega)
   exact ⟨i,by omega,i2,by rw [Zen (by omega),if_pos i1];exact i3⟩
 ·rw [gF i (by omega),gF j (by omega)] at e
  by_cases c:i<L.length
  ·rw [if_pos c] at e
   by_cases c2:j<L.length
   ·rw [if_pos c2] at e;exact h.inj i j c c2 e
   ·rw [if_neg c2] at e;exact absurd e (hn i (by omega))
  ·rw [if_neg c] at e
   by_cases c2:j<L.length
   ·rw [if_pos c2] at e;exact absurd e.symm (hn j (by omega))
   ·omega
 ·by_cases c:i<L.length
  ·obtain ⟨u,u1,u2⟩:=h.seen i c
   exact ⟨u,by omega,by rw [g,if_neg (by omega)];exact u2⟩
  ·exact ⟨v,by omega,by rw [g,if_pos rfl];omega⟩
 ·rw [g] at e
  by_cases c:u=v
  ·rw [if_pos c] at e
   obtain ⟨u',u1,u2⟩:=h.seen i (by omega)
   exact ⟨u',by omega,by rw [g,if_neg (by omega)];exact u2⟩
  ·rw [if_neg c] at e
   obtain ⟨u',u1,u2⟩:=h.ord u i (by omega) e
   exact ⟨u',u1,by rw [g,if_neg (by omega)];exact u2⟩
theorem ZoG {l:List Za}(hc:Ck l) (hl:l.length≤1000) {d v:Nat}(hd:d<4) {a F:List Int}{L:List (List Int)}(h:RI l d a F L v) (hv:v<l.length) {r:Nat}{C:List Int}(hr:Zdy l ((d+2)%4) (l.length+1) v=some r) (hC:IsCh l d C) (h0:gi C 0=r) (hm:(v:Int)∈C):∃ a' F' L',Z0.s0 l d (a,F,L,(v:Int))=some (.inl (a',F',L',(v:Int)+1))∧RI l d a' F' L' (v+1):=by
 have hal:=h.alen
 have hfl:=h.flen
 have hLl:=h.Ll
 obtain ⟨k,e,hk⟩:=ZqP (F:=F) (x:=(r:Int)) (by omega)
 simp only [Z0.s0]
 rw [ZB (by omega),ZmI hc (by omega) hd hv,hr,obs]
 dsimp only
 rw [Z9 (by omega),e,obs,Zt (by omega),itn]
 rcases hk with ⟨k1,k2⟩|⟨rfl,k2⟩
 ·rw [Z9 (by omega),zN (by omega)]
  have hq:=h.ch k (by omega)
  have:C=gi L k:=hC.uniq0 hq.1 (by rw [h0,hq.2,k2])
  exact ⟨_,_,_,rfl,h.old hv (by omega) (this ▸ hm)⟩
 ·rw [ZB (by omega),Zt (by simp;omega),← h0,ZpH (by omega) hd hC (hC.len hc hd),obs,Zt (by omega),zN (by omega),hfl]
  exact ⟨_,_,_,rfl,h.new hv hC hm (fun j hj=>by rw [h0];exact k2 j hj)⟩
theorem RI.stop {l:List Za}(hc:Ck l) {d:Nat}(hd:d<4) {a F:List Int}{L:List (List Int)}(h:RI l d a F L l.length):CH l d a L :=
 ⟨h.alen,fun i hi=>(h.ch i hi).1,h.mem,fun i u hi hu hm=>by
  obtain ⟨j,j1,j2,j3⟩:=h.mem u hu
  have e:=(h.ch i hi).1.uniq hc hd (h.ch j j1).1 hm j3
  have:=h.inj i j hi j1 (by rw [← (h.ch i hi).2,← (h.ch j j1).2,e])
  omega,h.seen,h.ord,h.Ll⟩
theorem Zls {l:List Za}(hc:Ck l) (hl:l.length≤1000) {d:Nat}(hd:d<4):(AllCh l d→∃ a L,Z0 l d=some (a,L,true)∧CH l d a L)∧(¬ AllCh l d→Z0 l d=some ([],[],false)):=by
 have st:RI l d (List.replicate l.length (0:Int)) [] [] 0:=⟨by simp,rfl,fun i hi=>by simp at hi,fun u hu=>by omega,fun i j hi=>by simp at hi,fun i hi=>by simp at hi,fun u i hu=>by omega,by simp⟩
 constructor
 ·intro hA
  have:∃ r:(List Int×List (List Int))⊕Unit,ZZ (Z0.s0 l d) big (List.replicate l.length (0:Int),([]:List Int),([]:List (List Int)),0)=some r∧∃ a F L,r=.inl (a,L)∧RI l d a F L l.length:=by
   refine ZcI (fun (k:Nat) (s:List Int×List Int×List (List Int)×Int)=>RI l d s.1 s.2.1 s.2.2.1 k∧s.2.2.2=k) (n:=l.length) (ZaN (by omega)) ⟨st,rfl⟩ ?_ ?_
   ·rintro k ⟨a,F,L,x⟩ hk ⟨h1,h2⟩
    dsimp only at h1 h2 ⊢
    subst h2
    obtain ⟨r,C,hr,hC,h0,hm⟩:=hA.root hc hd hk
    obtain ⟨a',F',L',e,h'⟩:=ZoG hc hl hd h1 hk hr hC h0 hm
    exact ⟨_,e,h',by dsimp only;omega⟩
   ·rintro ⟨a,F,L,x⟩ ⟨h1,h2⟩
    dsimp only at h1 h2 ⊢
    subst h2
    simp only [Z0.s0]
    rw [Z9 (by omega)]
    exact ⟨_,rfl,a,F,L,rfl,h1⟩
  obtain ⟨r,e,a,F,L,rfl,h⟩:=this
  refine ⟨a,L,?_,h.stop hc hd⟩
  unfold Z0
  rw [Zt (by omega),itn,e,obs]
 ·intro hA
  obtain ⟨v0,hv0,hr0⟩:=Zi6 hc hd hA
  have:∃ r:(List Int×List (List Int))⊕Unit,ZZ (Z0.s0 l d) big (List.replicate l.length (0:Int),([]:List Int),([]:List (List Int)),0)=some r∧r=.inr ():=by
   refine Zer (fun s:List Int×List Int×List (List Int)×Int=>l.length-s.2.2.2.toNat) (fun s=>∃ k:Nat,s.2.2.2=k∧k≤v0∧RI l d s.1 s.2.1 s.2.2.1 k) (ZaN (by dsimp only;omega)) ⟨0,rfl,by omega,st⟩ ?_
   rintro ⟨a,F,L,x⟩ ⟨k,h2,hk0,h1⟩
   dsimp only at h1 h2 ⊢
   subst h2
   have hk:k<l.length:=by omega
   cases hr:Zdy l ((d+2)%4) (l.length+1) k with
   | none =>
    right
    simp only [Z0.s0]
    rw [ZB (by omega),ZmI hc (by omega) hd hk,hr,obs]
    dsimp only
    rw [ZB (by omega)]
    exact ⟨_,rfl,rfl⟩
   | some r =>
    left
    have hne:k≠v0:=by rintro rfl;rw [hr] at hr0;cases hr0
    obtain ⟨C,hC,h0,i,hi,ei⟩:=Zfg hc hd _ k r hk hr
    obtain ⟨a',F',L',e,h'⟩:=ZoG hc hl hd h1 hk hr hC h0 (by rw [← ei];exact Zao hi)
    exact ⟨_,e,⟨k+1,by dsimp only;omega,by omega,h'⟩,by dsimp only;omega⟩
  obtain ⟨r,e,rfl⟩:=this
  unfold Z0
  rw [Zt (by omega),itn,e,obs]
/-! both together -/
theorem CH.same {l:List Za}(hc:Ck l) {d:Nat}(hd:d<4) {a a':List Int}{L L':List (List Int)}(h:CH l d a L) (h':CH l d a' L'):a=a'∧L=L':=by
 have:=h.eq h' rfl id (fun C C' v c1 c2 m1 m2=>(c1.uniq hc hd c2 m1 m2).symm) (fun C v=>Iff.rfl)
 exact ⟨this.1,by rw [this.2,List.map_id]⟩
end Mu
