/- The law, plainly: what is worked out. -/
import Derived.Test.YtdefkboekpjiiaaMuV
import Derived.Test.YtdefkboekpjiiaaMuDf
import Derived.Test.YtdefkboekpjiiaaMuK0
/- Euler: cells that hang together,and those of which some edges are left. -/
set_option linter.unusedVariables false
set_option linter.unusedSimpArgs false
set_option maxRecDepth 10000
namespace Mu
def cV (l:List Za):Int:=sg (fun w=>if deg l w=0 then 0 else 1) l.length
def cD (l:List Za):Int:=sg (deg l) l.length
def chi (l:List Za):Int:=2 * cV l + 2 * ((faces l).length:Int) - cD l
theorem Zdh {l:List Za} {u:Nat}:deg l u=(if 0≤nx l u 0 then 1 else 0) + (if 0≤nx l u 1 then 1 else 0) + (if 0≤nx l u 2 then 1 else 0) + (if 0≤nx l u 3 then 1 else 0):=by
 unfold deg; rw [ZkI]
theorem Zg2 {l:List Za} {p:Da} (h:isD l p):1≤deg l p.1:=by
 have h1:=h.2.1
 have h2:=h.2.2
 rw [Zdh]
 have:p.2=0∨p.2=1∨p.2=2∨p.2=3:=by omega
 rcases this with q | q | q | q <;> rw [q] at h2 <;> rw [if_pos h2] <;> repeat' split <;> omega
theorem Zl5 {l:List Za} {u:Nat} (h:deg l u≠0):∃ d,d < 4∧0≤nx l u d:=by
 refine Classical.byContradiction fun q=>h ?_
 have k:∀ d,d < 4→¬ 0≤nx l u d:=fun d hd c=>q ⟨d,hd,c⟩
 rw [Zdh,if_neg (k 0 (by omega)),if_neg (k 1 (by omega)),if_neg (k 2 (by omega)),if_neg (k 3 (by omega))]
 rfl
theorem Zez {l:List Za} (hc:Ck l) {p:Da} (h:isD l p):bh l p=opp l p↔deg l (opp l p).1=1:=by
 have f:=h.fwd hc
 have h4:=h.2.1
 unfold bh opp
 dsimp only
 generalize (nx l p.1 p.2).toNat=u at *
 have hb:0≤nx l u ((p.2 + 2) % 4):=by rw [f.2]; omega
 rw [Zdh]
 have:p.2=0∨p.2=1∨p.2=2∨p.2=3:=by omega
 rcases this with q | q | q | q <;> rw [q] at hb ⊢ <;> simp only [show (0 + 2) % 4=2 from rfl,show (1 + 2) % 4=3 from rfl,show (2 + 2) % 4=0 from rfl,show (3 + 2) % 4=1 from rfl,show (0 + 1) % 4=1 from rfl,show (1 + 1) % 4=2 from rfl,show (2 + 1) % 4=3 from rfl,show (3 + 1) % 4=0 from rfl,show (0 + 3) % 4=3 from rfl,show (1 + 3) % 4=0 from rfl,show (2 + 3) % 4=1 from rfl,show (3 + 3) % 4=2 from rfl] at hb ⊢ <;>
 by_cases c0:0≤nx l u 0 <;> by_cases c1:0≤nx l u 1 <;> by_cases c2:0≤nx l u 2 <;> by_cases c3:0≤nx l u 3 <;> first | (exact absurd hb (by assumption)) | (simp [c0,c1,c2,c3])
theorem Del.deg {l m:List Za} (hc:Ck l) {v d w:Nat} (D:Del l m v d w) {u:Nat} (hu:u < l.length):deg m u=Mu.deg l u - (if u=v then 1 else 0) - (if u=w then 1 else 0):=by
 have hd:=D.hd
 have hne:=D.ne hc
 have e:∀ e,e < 4→(if 0≤Mu.nx m u e then (1:Int) else 0)=(if 0≤Mu.nx l u e then 1 else 0) - (if u=v∧e=d then 1 else 0) - (if u=w∧e=(d + 2) % 4 then 1 else 0):=by
  intro e he
  have q:=D.nx u e hu he
  by_cases c1:u=v∧e=d
  ·rw [if_pos (.inl c1)] at q
   have n2:¬ (u=w∧e=(d + 2) % 4):=fun k=>hne (k.1.symm.trans c1.1)
   have q2:Mu.nx l u e=w:=by rw [c1.1,c1.2,D.hn]
   rw [q,q2,if_pos c1,if_neg n2,if_neg (by omega),if_pos (by omega)]; rfl
  ·by_cases c2:u=w∧e=(d + 2) % 4
   ·rw [if_pos (.inr c2)] at q
    have q2:Mu.nx l u e=v:=by rw [c2.1,c2.2,D.hb hc]
    rw [q,q2,if_neg c1,if_pos c2,if_neg (by omega),if_pos (by omega)]; rfl
   ·rw [if_neg (by rintro (q | q); exact c1 q; exact c2 q)] at q
    rw [q,if_neg c1,if_neg c2]; omega
 rw [Zdh,Zdh,e 0 (by omega),e 1 (by omega),e 2 (by omega),e 3 (by omega)]
 have s1:(if u=v∧0=d then (1:Int) else 0) + (if u=v∧1=d then 1 else 0) + (if u=v∧2=d then 1 else 0) + (if u=v∧3=d then 1 else 0)=if u=v then 1 else 0:=by
  by_cases c:u=v
  ·simp only [c,true_and]
   have:d=0∨d=1∨d=2∨d=3:=by omega
   rcases this with rfl | rfl | rfl | rfl <;> rfl
  ·simp [c]
 have s2:(if u=w∧0=(d + 2) % 4 then (1:Int) else 0) + (if u=w∧1=(d + 2) % 4 then 1 else 0) + (if u=w∧2=(d + 2) % 4 then 1 else 0) + (if u=w∧3=(d + 2) % 4 then 1 else 0)=if u=w then 1 else 0:=by
  by_cases c:u=w
  ·simp only [c,true_and]
   have:d=0∨d=1∨d=2∨d=3:=by omega
   rcases this with rfl | rfl | rfl | rfl <;> rfl
  ·simp [c]
 omega
theorem ZgP {n v:Nat} (hv:v < n) {c:Int}:sg (fun u=>if u=v then c else 0) n=c:=by
 rw [ZgQ hv fun i _ hne=>if_neg hne,if_pos rfl]
theorem Del.cD {l m:List Za} (hc:Ck l) {v d w:Nat} (D:Del l m v d w):cD l=cD m + 2:=by
 unfold Mu.cD
 rw [D.len,Zb4 (f:=Mu.deg m) (fun u hu=>D.deg hc hu),ZgR,ZgR,ZgP D.hv,ZgP D.hw]
 omega
theorem Del.cV {l m:List Za} (hc:Ck l) {v d w:Nat} (D:Del l m v d w):cV l=cV m + (if Mu.deg l v=1 then 1 else 0) + (if Mu.deg l w=1 then 1 else 0):=by
 have hne:=D.ne hc
 have pv:=Zg2 D.e
 have pw:=Zg2 (D.e' hc)
 dsimp only at pv pw
 have e:∀ u,u < l.length→(if Mu.deg l u=0 then (0:Int) else 1)=(if Mu.deg m u=0 then 0 else 1) + (if u=v then (if Mu.deg l v=1 then 1 else 0) else 0) + (if u=w then (if Mu.deg l w=1 then 1 else 0) else 0):=by
  intro u hu
  rw [D.deg hc hu]
  by_cases c1:u=v
  ·subst c1
   have n:¬ u=w:=fun q=>hne q.symm
   simp only [n,if_true,if_false]
   (repeat' split) <;> omega
  ·by_cases c2:u=w
   ·subst c2
    simp only [c1,if_true,if_false]
    (repeat' split) <;> omega
   ·simp only [c1,c2,if_false]
    (repeat' split) <;> omega
 unfold Mu.cV
 rw [D.len,Zb4 e,ZgO,ZgO,ZgP D.hv,ZgP D.hw]
theorem Del.chi {l m:List Za} (hc:Ck l) (hm:Ck m) {v d w:Nat} (D:Del l m v d w):(chi l=chi m∨Mu.chi l=Mu.chi m - 4)∨(Mu.chi l=Mu.chi m + 4∧Mu.bh l (v,d)=(w,(d + 2) % 4)∧Mu.bh l (w,(d + 2) % 4)=(v,d)):=by
 have a1:=D.cD hc
 have a2:=D.cV hc
 have b1:=Zez hc D.e
 have b2:=Zez hc (D.e' hc)
 rw [D.opp] at b1
 rw [← D.opp,Zdg hc D.e,D.opp] at b2
 dsimp only at b1 b2
 unfold Mu.chi
 cases D.kind hc with
 | two A B R hA hB hl hm' rot same n1 n2 lm =>
  have f1:=hl.len (Fcs.faces hc)
  have f2:=hm'.len (Fcs.faces hm)
  simp only [List.length_cons] at f1 f2
  rw [if_neg fun q=>n2 (b2.2 q),if_neg fun q=>n1 (b1.2 q)] at a2
  left; left; omega
 | one A B R hA hl hm' rot same n1 n2 lA lB =>
  have f1:=hl.len (Fcs.faces hc)
  have f2:=hm'.len (Fcs.faces hm)
  simp only [List.length_cons] at f1 f2
  rw [if_neg fun q=>n2 (b2.2 q),if_neg fun q=>n1 (b1.2 q)] at a2
  left; right; omega
 | leaf A R hA hl hm' rot same n =>
  have f1:=hl.len (Fcs.faces hc)
  have f2:=hm'.len (Fcs.faces hm)
  simp only [List.length_cons] at f1 f2
  left; left
  rcases n with ⟨n1,n2⟩ | ⟨n1,n2⟩
  ·rw [if_neg fun q=>n2 (b2.2 q),if_pos (b1.1 n1)] at a2; omega
  ·rw [if_pos (b2.1 n2),if_neg fun q=>n1 (b1.2 q)] at a2; omega
 | iso R hA hl hm' same n1 n2 =>
  have f1:=hl.len (Fcs.faces hc)
  have f2:=hm'.len (Fcs.faces hm)
  simp only [List.length_cons] at f1
  rw [if_pos (b2.1 n2),if_pos (b1.1 n1)] at a2
  right
  exact ⟨by omega,n1,n2⟩

/-! What hangs together. -/
def Cn (l:List Za):Prop:=∀ C:Da→Prop,(∀ x,isD l x→C x→C (bh l x)∧C (opp l x))→∀ p q,isD l p→isD l q→C p→C q
structure Sub (m l:List Za):Prop where
 len:m.length=l.length
 nx:∀ u e,u < l.length→e < 4→nx m u e=nx l u e∨nx m u e=-1
theorem Sub.is {m l:List Za} (S:Sub m l) {p:Da} (h:isD m p):isD l p∧Mu.nx m p.1 p.2=Mu.nx l p.1 p.2:=by
 obtain ⟨h1,h2,h3⟩:=h
 rw [S.len] at h1
 rcases S.nx p.1 p.2 h1 h2 with q | q
 ·exact ⟨⟨h1,h2,by rw [← q]; exact h3⟩,q⟩
 ·omega
theorem Sub.opp {m l:List Za} (S:Sub m l) {p:Da} (h:isD m p):opp m p=Mu.opp l p:=by unfold Mu.opp; rw [(S.is h).2]
theorem ZjI:∀ a b c d:Bool,∀ a' b' c' d':Bool,∀ i:Fin 4,((!a' || a) && (!b' || b) && (!c' || c) && (!d' || d) && ZbZ a' b' c' d' ((i.1 + 2) % 4) && ZbZ a' b' c' d' (prv (ZbZ a b c d) i.1))=true→prv (ZbZ a' b' c' d') i.1=prv (ZbZ a b c d) i.1:=by decide +kernel
theorem Sub.bh {m l:List Za} (hm:Ck m) (hl:Ck l) (S:Sub m l) {p:Da} (h:isD m p) (h2:isD m (bh l p)):bh m p=Mu.bh l p:=by
 have i1:=S.is h
 have f:=h.fwd hm
 rw [Zbz] at h2 ⊢
 rw [Zbz (l:=l)]
 rw [i1.2] at f ⊢
 generalize (Mu.nx l p.1 p.2).toNat=u at *
 have hu:u < l.length:=by rw [← S.len]; exact f.1
 have h4:=h.2.1
 have im:∀ e,e < 4→decide (0≤Mu.nx m u e)=true→decide (0≤Mu.nx l u e)=true:=by
  intro e he q
  rcases S.nx u e hu he with k | k
  ·rw [← k]; exact q
  ·rw [k] at q; simp at q
 generalize hA:(fun e=>decide (0≤Mu.nx l u e))=A at *
 generalize hB:(fun e=>decide (0≤Mu.nx m u e))=B at *
 have eA:∀ e,A e=decide (0≤Mu.nx l u e):=fun e=>by rw [← hA]
 have eB:∀ e,B e=decide (0≤Mu.nx m u e):=fun e=>by rw [← hB]
 have q:=ZjI (A 0) (A 1) (A 2) (A 3) (B 0) (B 1) (B 2) (B 3) ⟨p.2,h4⟩
  (by
   have i0:∀ e,e < 4→(!B e || A e)=true:=fun e he=>by
    have:=im e he
    rw [← eA,← eB] at this
    cases q:B e
    ·rfl
    ·rw [this q]; rfl
   have k1:B ((p.2 + 2) % 4)=true:=by rw [eB,f.2]; simp
   have k2:B (prv A p.2)=true:=by rw [eB]; have:=h2.2.2; simpa using this
   dsimp only
   rw [i0 0 (by omega),i0 1 (by omega),i0 2 (by omega),i0 3 (by omega),Zcx h4,Zci (by omega),Zci (ZlU h4),k1,k2]; rfl)
 dsimp only at q
 rw [Zcx h4,Zcx h4] at q
 rw [q]
theorem Zkw {l m:List Za} (hl:Ck l) (hm:Ck m) (S:Sub m l) (Cl:Cn l) (Cm:Cn m) {p0:Da} (h0:isD m p0) {x:Da} (hx:isD l x) (hx':¬ isD m x):∃ m' v d w,Ck m'∧Del m' m v d w∧Sub m' l∧Cn m':=by
 have:∃ y,isD m y∧¬ isD m (bh l y):=by
  refine Classical.byContradiction fun q=>hx' ?_
  refine Cl (fun y=>isD m y) (fun y _ hy=>⟨Classical.byContradiction fun k=>q ⟨y,hy,k⟩,?_⟩) p0 x (S.is h0).1 hx h0
  rw [← S.opp hy]; exact hy.opp hm
 obtain ⟨y,hy,hz⟩:=this
 have dz:isD l (bh l y):=(S.is hy).1.bh hl
 rcases hv:bh l y with ⟨v,d⟩
 rw [hv] at hz dz
 obtain ⟨v1,d1,n1⟩:=dz
 dsimp only at v1 d1 n1
 rcases hl.s v d v1 d1 with ⟨a,_⟩ | ⟨w,w1,w2,w3,w4,w5,w6⟩
 ·omega
 have e1:nx m v d=-1:=by
  rcases S.nx v d v1 d1 with q | q
  ·exact absurd ⟨by rw [S.len]; exact v1,d1,by rw [q]; exact n1⟩ hz
  ·exact q
 have e2:nx m w ((d + 2) % 4)=-1:=by
  rcases S.nx w ((d + 2) % 4) w2 (by omega) with q | q
  ·have:=(hm.back' (v:=w) (d:=(d + 2) % 4) (w:=v) (by rw [S.len]; exact w2) (by omega) (by rw [q,w4])).2
   rw [show ((d + 2) % 4 + 2) % 4=d by omega,e1] at this
   omega
  ·exact q
 have v1':v < m.length:=by rw [S.len]; exact v1
 have w2':w < m.length:=by rw [S.len]; exact w2
 have hm':Ck (wth m v d w (ow l v d)):=hm.wth v1' w2' (fun q=>w3 q.symm) d1 e1 e2 w6
 have nw:∀ u e,u < m.length→e < 4→nx (wth m v d w (ow l v d)) u e=if u=v∧e=d then (w:Int) else if u=w∧e=(d + 2) % 4 then (v:Int) else nx m u e:=fun u e hu he=>(Zd8 v1' w2' (fun q=>w3 q.symm) d1 hu he).1
 have hlen:(wth m v d w (ow l v d)).length=m.length:=Za4
 generalize wth m v d w (ow l v d)=m' at *
 have D:Del m' m v d w:=by
  refine ⟨hlen.symm,by rw [hlen]; exact v1',d1,by rw [hlen]; exact w2',by rw [nw v d v1' d1,if_pos ⟨rfl,rfl⟩],fun u e hu he=>?_⟩
  rw [hlen] at hu
  rw [nw u e hu he]
  by_cases c1:u=v∧e=d
  ·rw [if_pos (.inl c1),c1.1,c1.2,e1]
  ·by_cases c2:u=w∧e=(d + 2) % 4
   ·rw [if_pos (.inr c2),c2.1,c2.2,e2]
   ·rw [if_neg (by rintro (q | q); exact c1 q; exact c2 q),if_neg c1,if_neg c2]
 have S':Sub m' l:=by
  refine ⟨by rw [hlen,S.len],fun u e hu he=>?_⟩
  have hu':u < m.length:=by rw [S.len]; exact hu
  rw [nw u e hu' he]
  by_cases c1:u=v∧e=d
  ·rw [if_pos c1,c1.1,c1.2]; exact .inl w1.symm
  ·rw [if_neg c1]
   by_cases c2:u=w∧e=(d + 2) % 4
   ·rw [if_pos c2,c2.1,c2.2]; exact .inl w4.symm
   ·rw [if_neg c2]; exact S.nx u e hu he
 have Sm:Sub m m':=by
  refine ⟨hlen.symm,fun u e hu he=>?_⟩
  rw [hlen] at hu
  by_cases c1:u=v∧e=d
  ·rw [c1.1,c1.2]; exact .inr e1
  ·by_cases c2:u=w∧e=(d + 2) % 4
   ·rw [c2.1,c2.2]; exact .inr e2
   ·rw [nw u e hu he,if_neg c1,if_neg c2]; exact .inl rfl
 have by':bh m' y=(v,d):=by
  have iy:=(Sm.is hy).1
  rw [S'.bh hm' hl iy (by rw [hv]; exact D.e),hv]
 have oe:opp m' (v,d)=(w,(d + 2) % 4):=D.opp
 have oe':opp m' (w,(d + 2) % 4)=(v,d):=by rw [← oe,Zdg hm' D.e]
 have de:=D.e
 have de':=D.e' hm'
 refine ⟨m',v,d,w,hm',D,S',fun C hC p q hp hq hCp=>?_⟩
 have cl:∀ x,isD m x→C x→C (bh m x)∧C (opp m x):=by
  intro x hx hCx
  have ix:=(Sm.is hx).1
  have c:=hC x ix hCx
  refine ⟨?_,by rw [Sm.opp hx]; exact c.2⟩
  rw [(D.bh hm' hx).1]
  split
  ·rename_i k
   rw [k] at c
   have:=(hC _ de c.1).2
   rw [oe] at this
   exact (hC _ de' this).1
  ·split
   ·rename_i k
    rw [k] at c
    have:=(hC _ de' c.1).2
    rw [oe'] at this
    exact (hC _ de this).1
   ·exact c.1
 have some:∃ x,isD m x∧C x:=by
  by_cases c1:isD m p
  ·exact ⟨p,c1,hCp⟩
  ·have pe:p=(v,d)∨p=(w,(d + 2) % 4):=by
    refine Classical.byContradiction fun k=>c1 (D.isD.2 ⟨hp,fun q=>k (.inl q),fun q=>k (.inr q)⟩)
   have ce':C (w,(d + 2) % 4):=by
    rcases pe with rfl | rfl
    ·have:=(hC _ de hCp).2; rwa [oe] at this
    ·exact hCp
   refine ⟨bh m' (w,(d + 2) % 4),D.isD.2 ⟨de'.bh hm',fun k=>?_,D.bh_e' hm'⟩,(hC _ de' ce').1⟩
   rw [← by'] at k
   have:=Zeo hm' de' (Sm.is hy).1 k
   rw [← this] at hy
   exact (D.isD.1 hy).2.2 rfl
 obtain ⟨x1,hx1,cx1⟩:=some
 have all:∀ z,isD m z→C z:=fun z hz=>Cm C cl x1 z hx1 hz cx1
 by_cases c1:isD m q
 ·exact all q c1
 ·have qe:q=(v,d)∨q=(w,(d + 2) % 4):=by
   refine Classical.byContradiction fun k=>c1 (D.isD.2 ⟨hq,fun q=>k (.inl q),fun q=>k (.inr q)⟩)
  have ce:=(hC y (Sm.is hy).1 (all y hy)).1
  rw [by'] at ce
  rcases qe with rfl | rfl
  ·exact ce
  ·have:=(hC _ de ce).2; rwa [oe] at this
end Mu
/- Cells of which some edges are left,that hang together,can be drawn if all could. -/
set_option linter.unusedVariables false
set_option linter.unusedSimpArgs false
set_option maxRecDepth 10000
namespace Mu
theorem Cyc.same {l m:List Za} (h1:∀ p,isD m p↔isD l p) (h2:∀ p,isD l p→bh m p=bh l p) {f:List Da} (h:Cyc l f):Cyc m f∧Zax m f=Zax l f:=by
 refine ⟨⟨h.ne,h.nd,fun p hp=>(h1 p).2 (h.is p hp),fun p hp=>by rw [h2 p (h.is p hp)]; exact h.cl p hp,fun C hC p hp q hq hCp=>h.one C (fun x hx hCx=>by rw [← h2 x hx]; exact hC x ((h1 x).2 hx) hCx) p hp q hq hCp⟩,?_⟩
 unfold Zax tns
 congr 1
 exact List.map_congr_left fun p hp=>by rw [h2 p (h.is p hp)]
theorem Sub.all {m l:List Za} (hm:Ck m) (hl:Ck l) (S:Sub m l) (h:∀ p,isD l p→isD m p):(∀ p,isD m p↔isD l p)∧(∀ p,isD l p→Mu.bh m p=Mu.bh l p)∧∀ u e,u < l.length→e < 4→(0≤Mu.nx m u e↔0≤Mu.nx l u e):=by
 refine ⟨fun p=>⟨fun q=>(S.is q).1,h p⟩,fun p hp=>S.bh hm hl (h p hp) (h _ (hp.bh hl)),fun u e hu he=>⟨fun q=>?_,fun q=>?_⟩⟩
 ·exact (S.is (p:=(u,e)) ⟨by rw [S.len]; exact hu,he,q⟩).1.2.2
 ·exact (h (u,e) ⟨hu,he,q⟩).2.2
theorem Sub.chi_all {m l:List Za} (hm:Ck m) (hl:Ck l) (S:Sub m l) (h:∀ p,isD l p→isD m p):chi l=chi m:=by
 obtain ⟨a,b,c⟩:=S.all hm hl h
 have hd:∀ u,u < l.length→deg m u=deg l u:=by
  intro u hu
  rw [Zdh,Zdh]
  simp only [c u 0 hu (by omega),c u 1 hu (by omega),c u 2 hu (by omega),c u 3 hu (by omega)]
 have hf:Fcs m (faces l):=⟨fun f hf=>((Zbv hl f hf).same a b).1,(Fcs.faces hl).nd,fun p hp=>(Fcs.faces hl).al p ((a p).1 hp)⟩
 unfold chi cV cD
 rw [S.len,hf.len (Fcs.faces hm),Zb4 (f:=deg m) hd,Zb4 (f:=fun w=>if deg m w=0 then (0:Int) else 1) (g:=fun w=>if deg l w=0 then (0:Int) else 1) fun u hu=>by rw [hd u hu]]
theorem Zlj {f g:Nat→Int}:∀ {n:Nat},(∀ i,i < n→f i≤g i)→sg f n≤sg g n
 | 0,_=>by simp [sg]
 | n + 1,h=>by
  rw [sg,sg]
  have:=Zlj (n:=n) fun i hi=>h i (by omega)
  have:=h n (by omega)
  omega
theorem Sub.cD_le {m l:List Za} (S:Sub m l):cD m≤cD l:=by
 unfold cD
 rw [S.len]
 refine Zlj fun u hu=>?_
 have k:∀ e,e < 4→(if 0≤Mu.nx m u e then (1:Int) else 0)≤if 0≤Mu.nx l u e then 1 else 0:=by
  intro e he
  rcases S.nx u e hu he with q | q
  ·rw [q]; omega
  ·rw [q,if_neg (by omega)]; split <;> omega
 have:=k 0 (by omega)
 have:=k 1 (by omega)
 have:=k 2 (by omega)
 have:=k 3 (by omega)
 rw [Zdh,Zdh]
 omega
theorem ZhD {l m:List Za} (hc:Ck l) {v d w:Nat} (D:Del l m v d w) (Cl:Cn l) {p:Da} (hp:isD m p) (h1:bh l (v,d)=(w,(d + 2) % 4)) (h2:bh l (w,(d + 2) % 4)=(v,d)):False:=by
 have ip:=D.isD.1 hp
 have:=Cl (fun x=>x=(v,d)∨x=(w,(d + 2) % 4)) (fun x hx hCx=>by
  rcases hCx with rfl | rfl
  ·exact ⟨.inr h1,.inr D.opp⟩
  ·exact ⟨.inl h2,.inl (by rw [← D.opp,Zdg hc D.e])⟩) (v,d) p D.e ip.1 (.inl rfl)
 rcases this with q | q
 ·exact ip.2.1 q
 ·exact ip.2.2 q
theorem Zjn {l:List Za} (hl:Ck l) (Cl:Cn l):∀ (k:Nat) (m:List Za),Ck m→Sub m l→Cn m→(∃ p,isD m p)→(cD l - cD m).toNat≤k→chi l≤chi m:=by
 intro k
 induction k with
 | zero =>
  intro m hm S Cm ⟨p0,h0⟩ hk
  by_cases c:∀ p,isD l p→isD m p
  ·rw [S.chi_all hm hl c]; exact Int.le_refl _
  ·have:∃ p,isD l p∧¬ isD m p:=Classical.byContradiction fun q=>c fun p hp=>Classical.byContradiction fun r=>q ⟨p,hp,r⟩
   obtain ⟨x,hx,hx'⟩:=this
   obtain ⟨m',v,d,w,hm',D,S',C'⟩:=Zkw hl hm S Cl Cm h0 hx hx'
   have:=D.cD hm'
   have:=S'.cD_le
   omega
 | succ k ih =>
  intro m hm S Cm ⟨p0,h0⟩ hk
  by_cases c:∀ p,isD l p→isD m p
  ·rw [S.chi_all hm hl c]; exact Int.le_refl _
  ·have:∃ p,isD l p∧¬ isD m p:=Classical.byContradiction fun q=>c fun p hp=>Classical.byContradiction fun r=>q ⟨p,hp,r⟩
   obtain ⟨x,hx,hx'⟩:=this
   obtain ⟨m',v,d,w,hm',D,S',C'⟩:=Zkw hl hm S Cl Cm h0 hx hx'
   have e1:=D.cD hm'
   have:=ih m' hm' S' C' ⟨p0,(D.isD.1 h0).1⟩ (by omega)
   rcases D.chi hm' hm with (q | q) | ⟨_,q1,q2⟩
   ·omega
   ·omega
   ·exact (ZhD hm' D C' h0 q1 q2).elim
theorem Zd7 {n u e:Nat} (h:u < n) (he:e < 4):nx (List.replicate n noC) u e=-1:=by
 have:gi (List.replicate n noC) u=noC:=by rw [ZaF (by simpa using h)]; simp
 unfold nx; rw [this]
 exact (ZgG he).1
theorem Zg1 {n:Nat}:chi (List.replicate n noC)=0:=by
 have hd:∀ u,u < n→deg (List.replicate n noC) u=0:=by
  intro u hu
  rw [Zdh,Zd7 hu (by omega),Zd7 hu (by omega),Zd7 hu (by omega),Zd7 hu (by omega)]
  rfl
 have hf:Fcs (List.replicate n noC) []:=⟨by simp,by simp,fun p hp=>by
  have h1:=hp.1
  have h2:=hp.2.2
  rw [Zd7 (by simpa using h1) hp.2.1] at h2
  omega⟩
 unfold chi cV cD
 rw [← hf.len (Fcs.faces (Ck.new n)),Zeg (f:=deg (List.replicate n noC)) (fun u hu=>hd u (by simpa using hu)),Zeg fun u hu=>by rw [if_pos (hd u (by simpa using hu))]]
 rfl
theorem Zkr {m:List Za} (hm:Ck m) (Cm:Cn m) {p:Da} (hp:isD m p):chi m≤4:=by
 obtain ⟨v,d⟩:=p
 obtain ⟨v1,d1,n1⟩:=hp
 dsimp only at v1 d1 n1
 rcases hm.s v d v1 d1 with ⟨a,_⟩ | ⟨w,w1,w2,w3,w4,w5,w6⟩
 ·omega
 have v1':v < (List.replicate m.length noC).length:=by simpa using v1
 have w2':w < (List.replicate m.length noC).length:=by simpa using w2
 have hs:Ck (wth (List.replicate m.length noC) v d w (ow m v d)):=(Ck.new _).wth v1' w2' (fun q=>w3 q.symm) d1 (Zd7 v1 d1) (Zd7 w2 (by omega)) w6
 have nw:∀ u e,u < m.length→e < 4→nx (wth (List.replicate m.length noC) v d w (ow m v d)) u e=if u=v∧e=d then (w:Int) else if u=w∧e=(d + 2) % 4 then (v:Int) else -1:=fun u e hu he=>by
  rw [(Zd8 v1' w2' (fun q=>w3 q.symm) d1 (by simpa using hu) he).1,Zd7 hu he]
 have hlen:(wth (List.replicate m.length noC) v d w (ow m v d)).length=m.length:=by rw [Za4]; simp
 generalize wth (List.replicate m.length noC) v d w (ow m v d)=s at *
 have D:Del s (List.replicate m.length noC) v d w:=by
  refine ⟨by rw [hlen]; simp,by rw [hlen]; exact v1,d1,by rw [hlen]; exact w2,by rw [nw v d v1 d1,if_pos ⟨rfl,rfl⟩],fun u e hu he=>?_⟩
  rw [hlen] at hu
  rw [nw u e hu he,Zd7 hu he]
  by_cases c1:u=v∧e=d
  ·rw [if_pos (.inl c1)]
  ·by_cases c2:u=w∧e=(d + 2) % 4
   ·rw [if_pos (.inr c2)]
   ·rw [if_neg (by rintro (q | q); exact c1 q; exact c2 q),if_neg c1,if_neg c2]
 have S:Sub s m:=by
  refine ⟨hlen,fun u e hu he=>?_⟩
  rw [nw u e hu he]
  by_cases c1:u=v∧e=d
  ·rw [if_pos c1,c1.1,c1.2]; exact .inl w1.symm
  ·rw [if_neg c1]
   by_cases c2:u=w∧e=(d + 2) % 4
   ·rw [if_pos c2,c2.1,c2.2]; exact .inl w4.symm
   ·rw [if_neg c2]; exact .inr rfl
 have only:∀ x,isD s x→x=(v,d)∨x=(w,(d + 2) % 4):=by
  intro x hx
  have h1:=hx.1
  rw [hlen] at h1
  have h3:=hx.2.2
  rw [nw _ _ h1 hx.2.1] at h3
  by_cases c1:x.1=v∧x.2=d
  ·exact .inl (Prod.ext c1.1 c1.2)
  ·rw [if_neg c1] at h3
   by_cases c2:x.1=w∧x.2=(d + 2) % 4
   ·exact .inr (Prod.ext c2.1 c2.2)
   ·rw [if_neg c2] at h3; omega
 have oe:opp s (v,d)=(w,(d + 2) % 4):=D.opp
 have oe':opp s (w,(d + 2) % 4)=(v,d):=by rw [← oe,Zdg hs D.e]
 have Cs:Cn s:=by
  intro C hC p q hp hq hCp
  have both:C (v,d)∧C (w,(d + 2) % 4):=by
   rcases only p hp with rfl | rfl
   ·have:=(hC _ D.e hCp).2; rw [oe] at this; exact ⟨hCp,this⟩
   ·have:=(hC _ (D.e' hs) hCp).2; rw [oe'] at this; exact ⟨this,hCp⟩
  rcases only q hq with rfl | rfl
  ·exact both.1
  ·exact both.2
 have b1:bh s (v,d)=(w,(d + 2) % 4):=by
  rcases only _ (D.e.bh hs) with q | q
  ·exact absurd q (D.bh_e hs)
  ·exact q
 have b2:bh s (w,(d + 2) % 4)=(v,d):=by
  rcases only _ ((D.e' hs).bh hs) with q | q
  ·exact q
  ·exact absurd q (D.bh_e' hs)
 have:=Zjn hm Cm _ s hs S Cs ⟨_,D.e⟩ (Nat.le_refl _)
 rcases D.chi hs (Ck.new _) with (q | q) | ⟨q,_⟩
 ·rw [Zg1] at q; omega
 ·rw [Zg1] at q; omega
 ·rw [Zg1] at q; omega

/-! Rotations and Euler's number. -/
theorem ZiK {l:List Za} (hc:Ck l):((ZcN l).map (tt l)).sum=2 * cD l - 4 * cV l:=by
 have:(ZcN l).map (tt l)=(ZcN l).map fun p=>tn p.2 (bh l p).2:=rfl
 rw [this,ZiI]
 have e1:sg (fun v=>sg (fun d=>if 0≤nx l v d then tn d (bh l (v,d)).2 else 0) 4) l.length=sg (fun d=>sg (fun v=>if 0≤nx l v d then tn d (bh l (v,d)).2 else 0) l.length) 4:=Zfq
 have e2:sg (fun d=>sg (fun v=>if 0≤nx l v d then tn d (bh l (v,d)).2 else 0) l.length) 4=sg (fun d=>sg (fun w=>if 0≤nx l w ((d + 2) % 4) then arr l w d else 0) l.length) 4:=by
  refine Zb4 fun d hd=>?_
  refine ZjP hc hd (fun v hv c=>if_neg (by omega)) (fun v hv c=>if_neg (by omega)) (fun v w hv hw e=>?_)
  have b:=(hc.back' hv hd e)
  rw [if_pos (by omega),if_pos (by omega)]
  have:=ZmR (l:=l) (p:=(v,d)) hd
  dsimp only at this
  rw [this,e,Int.toNat_natCast]
 have e3:sg (fun d=>sg (fun w=>if 0≤nx l w ((d + 2) % 4) then arr l w d else 0) l.length) 4=sg (fun w=>2 * deg l w - 4 * (if deg l w=0 then 0 else 1)) l.length:=by
  rw [Zfq]
  refine Zb4 fun w hw'=>?_
  by_cases c:deg l w=0
  ·rw [if_pos c,c]
   have k:∀ d,d < 4→¬ 0≤nx l w d:=by
    intro d hd q
    have:=Zg2 (l:=l) (p:=(w,d)) ⟨hw',hd,q⟩
    dsimp only at this
    omega
   rw [ZkI,if_neg (k _ (by omega)),if_neg (k _ (by omega)),if_neg (k _ (by omega)),if_neg (k _ (by omega))]
   rfl
  ·rw [if_neg c,Zh2 (Zl5 c)]; rfl
 show sg (fun v=>sg (fun d=>if 0≤nx l v d then tn d (bh l (v,d)).2 else 0) 4) l.length=_
 rw [e1,e2,e3,ZgR,ZhL,ZhL]
 rfl
theorem Fcs.sum {l:List Za} (hc:Ck l) {F:List (List Da)} (h:Fcs l F):(F.map (Zax l)).sum=2 * cD l - 4 * cV l:=by
 have pe:F.flatten.Perm (ZcN l):=(List.perm_ext_iff_of_nodup h.nd Zjq).2 fun p=>by
  rw [Zi9]
  refine ⟨fun q=>?_,h.al p⟩
  obtain ⟨f,hf,hp⟩:=List.mem_flatten.1 q
  exact (h.cy f hf).is p hp
 rw [← ZiK hc,← Zhh pe,ZeG]
 rfl
theorem ZhG:∀ {R:List Int},(∀ r∈R,r=4∨r=-4)→R.sum≤4 * R.length∧(R.sum=4 * R.length→∀ r∈R,r=4)
 | [],_=>⟨by simp,fun _ r hr=>by simp at hr⟩
 | a :: R,h=>by
  obtain ⟨i1,i2⟩:=ZhG (R:=R) fun r hr=>h r (List.mem_cons_of_mem _ hr)
  have ha:=h a (by simp)
  rw [List.sum_cons,List.length_cons]
  refine ⟨by omega,fun e r hr=>?_⟩
  rcases List.mem_cons.1 hr with rfl | hr
  ·omega
  ·exact i2 (by omega) r hr
theorem ZjE:∀ {R:List Int},(∀ r∈R,r=4∨r=-4)→R.sum=4 * R.length - 8→∃ i,i < R.length∧gi R i=-4∧∀ j,j < R.length→gi R j=-4→j=i
 | [],_,h=>by simp at h
 | a :: R,h,hs=>by
  have hR:=fun r hr=>h r (List.mem_cons_of_mem a hr)
  have ha:=h a (by simp)
  rw [List.sum_cons,List.length_cons] at hs
  rcases ha with rfl | rfl
  ·obtain ⟨i,h1,h2,h3⟩:=ZjE hR (by omega)
   refine ⟨i + 1,by simp; omega,h2,fun j hj e=>?_⟩
   cases j with
   | zero=>have e':(4:Int)=-4:=e; omega
   | succ j=>rw [h3 j (by simp at hj; omega) e]
  ·have:=(ZhG hR).2 (by omega)
   refine ⟨0,by simp,rfl,fun j hj e=>?_⟩
   cases j with
   | zero=>rfl
   | succ j =>
    have hj':j < R.length:=by simp at hj; omega
    have e':gi R j=-4:=e
    have:=this _ (Zbd hj')
    omega
theorem Zeh {l:List Za} (hc:Ck l):Val l↔(∀ f,Cyc l f→Zax l f=4∨Zax l f=-4)∧chi l=4:=by
 have sm:=(Fcs.faces hc).sum hc
 constructor
 ·intro h
  obtain ⟨a,ha,h0⟩:=Ze8.2 h
  have ft:=Zhc ha h0
  have e:(((faces l).flatten.map fun p=>tn p.2 (bh l p).2)).sum=((faces l).map (Zax l)).sum:=by rw [ZeG]; rfl
  rw [e,sm] at ft
  refine ⟨fun f hf=>?_,by unfold chi; omega⟩
  obtain ⟨p,hp⟩:=List.exists_mem_of_ne_nil f hf.ne
  obtain ⟨i,hi,hpi⟩:=Zg4 hc (hf.is p hp) (Zen hc)
  rw [Zee (hf.perm (Zbv hc _ (Zbd hi)) hp hpi)]
  exact h.1 i hi
 ·rintro ⟨h,hchi⟩
  have pm:∀ r∈(faces l).map (Zax l),r=4∨r=-4:=by
   intro r hr
   obtain ⟨f,hf,rfl⟩:=List.mem_map.1 hr
   exact h f (Zbv hc f hf)
  unfold chi at hchi
  obtain ⟨i,h1,h2,h3⟩:=ZjE pm (by rw [sm,List.length_map]; omega)
  rw [List.length_map] at h1 h3
  refine ⟨fun j hj=>h _ (Zbv hc _ (Zbd hj)),⟨i,h1,by rw [← Zd3 (f:=Zax l) h1]; exact h2⟩,fun j k hj hk e1 e2=>?_⟩
  rw [h3 j hj (by rw [Zd3 hj]; exact e1),h3 k hk (by rw [Zd3 hk]; exact e2)]
theorem ZkF {l:List Za} (hc:Ck l) {f g:List Da} {R:List (List Da)} (h:Fcs l (f :: g :: R)) (hp:∀ f,Cyc l f→Zax l f=4∨Zax l f=-4) (hchi:chi l=4) (h1:Zax l f=-4) (h2:Zax l g=-4):False:=by
 have sm:=h.sum hc
 have ln:=h.len (Fcs.faces hc)
 have:=(ZhG (R:=R.map (Zax l)) fun r hr=>by
  obtain ⟨x,hx,rfl⟩:=List.mem_map.1 hr
  exact hp x (h.cy x (by simp [hx]))).1
 unfold chi at hchi
 simp only [List.map_cons,List.sum_cons,List.length_cons,List.length_map] at sm ln this
 omega
theorem Del.val {l m:List Za} (hc:Ck l) (hm:Ck m) {v d w:Nat} (D:Del l m v d w) (Cl:Cn l) (Cm:Cn m) {p:Da} (hp:Mu.isD m p) (h:Val l):Val m:=by
 obtain ⟨h1,h2⟩:=(Zeh hc).1 h
 have t:=Zkr hm Cm hp
 have key:∀ F,Fcs m F→(∀ f∈F,Zax m f=4∨Zax m f=-4)→∀ f,Cyc m f→Zax m f=4∨Zax m f=-4:=by
  intro F hF hr f hf
  obtain ⟨x,hx⟩:=List.exists_mem_of_ne_nil f hf.ne
  obtain ⟨g,hg,hxg⟩:=List.mem_flatten.1 (hF.al x (hf.is x hx))
  rw [Zee (hf.perm (hF.cy g hg) hx hxg)]
  exact hr g hg
 have X:Mu.chi m=4:=by
  rcases D.chi hc hm with (q | q) | ⟨_,q1,q2⟩
  ·omega
  ·omega
  ·exact (ZhD hc D Cl hp q1 q2).elim
 refine (Zeh hm).2 ⟨?_,X⟩
 have a1:=D.cD hc
 have a2:=D.cV hc
 cases D.kind hc with
 | two A B R hA hB hl hm' rot same n1 n2 lm =>
  refine key _ hm' fun f hf=>?_
  rcases List.mem_cons.1 hf with rfl | hf
  ·rw [rot]
   rcases h1 _ hA.cyc with x | x <;> rcases h1 _ hB.cyc with y | y
   ·left; omega
   ·right; omega
   ·right; omega
   ·exact (ZkF hc hl h1 h2 x y).elim
  ·rw [same f hf]; exact h1 f (hl.cy f (by simp [hf]))
 | one A B R hA hl hm' rot same n1 n2 lA lB =>
  have f1:=hl.len (Fcs.faces hc)
  have f2:=hm'.len (Fcs.faces hm)
  simp only [List.length_cons] at f1 f2
  have b1:=Zez hc D.e
  have b2:=Zez hc (D.e' hc)
  rw [D.opp] at b1
  rw [← D.opp,Zdg hc D.e,D.opp] at b2
  dsimp only at b1 b2
  rw [if_neg fun q=>n2 (b2.2 q),if_neg fun q=>n1 (b1.2 q)] at a2
  unfold Mu.chi at h2 X
  omega
 | leaf A R hA hl hm' rot same n =>
  refine key _ hm' fun f hf=>?_
  rcases List.mem_cons.1 hf with rfl | hf
  ·rw [rot]; exact h1 _ hA
  ·rw [same f hf]; exact h1 f (hl.cy f (by simp [hf]))
 | iso R hA hl hm' same n1 n2=>exact (ZhD hc D Cl hp n1 n2).elim
theorem Sub.val {l:List Za} (hl:Ck l) (Cl:Cn l) (h:Val l):∀ (k:Nat) (m:List Za),Ck m→Sub m l→Cn m→(∃ p,isD m p)→(cD l - cD m).toNat≤k→Val m:=by
 intro k
 induction k with
 | zero =>
  intro m hm S Cm ⟨p0,h0⟩ hk
  by_cases c:∀ p,isD l p→isD m p
  ·obtain ⟨a,b,_⟩:=S.all hm hl c
   obtain ⟨h1,h2⟩:=(Zeh hl).1 h
   refine (Zeh hm).2 ⟨fun f hf=>?_,by rw [← S.chi_all hm hl c]; exact h2⟩
   obtain ⟨k1,k2⟩:=hf.same (l:=m) (m:=l) (fun p=>(a p).symm) fun p hp=>(b p ((a p).1 hp)).symm
   rw [← k2]; exact h1 f k1
  ·have:∃ p,isD l p∧¬ isD m p:=Classical.byContradiction fun q=>c fun p hp=>Classical.byContradiction fun r=>q ⟨p,hp,r⟩
   obtain ⟨x,hx,hx'⟩:=this
   obtain ⟨m',v,d,w,hm',D,S',C'⟩:=Zkw hl hm S Cl Cm h0 hx hx'
   have:=D.cD hm'
   have:=S'.cD_le
   omega
 | succ k ih =>
  intro m hm S Cm ⟨p0,h0⟩ hk
  by_cases c:∀ p,isD l p→isD m p
  ·obtain ⟨a,b,_⟩:=S.all hm hl c
   obtain ⟨h1,h2⟩:=(Zeh hl).1 h
   refine (Zeh hm).2 ⟨fun f hf=>?_,by rw [← S.chi_all hm hl c]; exact h2⟩
   obtain ⟨k1,k2⟩:=hf.same (l:=m) (m:=l) (fun p=>(a p).symm) fun p hp=>(b p ((a p).1 hp)).symm
   rw [← k2]; exact h1 f k1
  ·have:∃ p,isD l p∧¬ isD m p:=Classical.byContradiction fun q=>c fun p hp=>Classical.byContradiction fun r=>q ⟨p,hp,r⟩
   obtain ⟨x,hx,hx'⟩:=this
   obtain ⟨m',v,d,w,hm',D,S',C'⟩:=Zkw hl hm S Cl Cm h0 hx hx'
   have e1:=D.cD hm'
   exact D.val hm' hm C' Cm h0 (ih m' hm' S' C' ⟨p0,(D.isD.1 h0).1⟩ (by omega))
end Mu
/- An edge more,from corner to corner of one loop. -/
set_option linter.unusedVariables false
set_option linter.unusedSimpArgs false
set_option maxRecDepth 10000
namespace Mu
theorem Zhu {l:List Za} (h0:0 < l.length) (h:∀ w,w < l.length→∃ n,Rch l 0 n w):whole l:=by
 have e1:PS l 1=([Zbm l 0 l.length],ZbY l 0 (List.replicate l.length false) l.length):=by
  have g:gi (PS l 0).2 0=false:=by
   show gi (List.replicate l.length false) 0=false
   rw [ZaF (by simp; omega)]; simp
  rw [PS,if_neg (by rw [g]; decide)]
  rfl
 have key:∀ n,n + 1≤l.length→PS l (n + 1)=PS l 1:=by
  intro n
  induction n with
  | zero=>intro _; rfl
  | succ n ih =>
   intro hn
   have i:=ih (by omega)
   rw [PS,if_pos]
   ·exact i
   ·rw [i,e1]
    dsimp only
    rw [Zb3 (by omega),if_pos (by omega),ZcD.2 (h (n + 1) (by omega)),Bool.or_true]
 have k:=key (l.length - 1) (by omega)
 rw [show l.length - 1 + 1=l.length by omega] at k
 unfold whole
 rw [k,e1]
 rfl
theorem Rch.mono {l m:List Za} (h:∀ a b,a < l.length→Adj l a b→Adj m a b) (hc:Ck l) {v n w:Nat} (hv:v < l.length) (hr:Rch l v n w):Rch m v n w:=by
 induction hr with
 | zero=>exact .zero
 | succ hr hab ih=>exact .succ ih (h _ _ (hr.lt hc hv) hab)
theorem Del.whole {l m:List Za} (hc:Ck l) (hm:Ck m) {v d w:Nat} (D:Del l m v d w) (h:whole m):Mu.whole l:=by
 have h0:=ZeS h
 have len:=D.len
 refine Zhu (by omega) fun u hu=>?_
 obtain ⟨n,r⟩:=ZeT h (w:=u) (by omega)
 refine ⟨n,r.mono (fun a b ha hab=>?_) hm (by omega)⟩
 obtain ⟨e,he,q⟩:=hab
 have:=D.nx a e (by omega) he
 rw [q] at this
 refine ⟨e,he,?_⟩
 split at this
 ·omega
 ·exact this.symm
theorem ZjF:∀ a b c d:Bool,∀ i j:Fin 4,(!(ZbZ a b c d j.1) && ZbZ a b c d ((i.1 + 2) % 4) && decide (tn i.1 (prv (ZbZ a b c d) i.1) < tn i.1 j.1))=true→prv (fun e=>ZbZ a b c d e || (e == j.1)) i.1=j.1:=by decide +kernel
theorem Del.enter {l m:List Za} (hc:Ck l) (hm:Ck m) {v d w:Nat} (D:Del l m v d w) {x:Da} (hx:Mu.isD m x):((Mu.nx m x.1 x.2).toNat=v→tt m x < tn x.2 d→Mu.bh l x=(v,d))∧((Mu.nx m x.1 x.2).toNat=w→tt m x < tn x.2 ((d + 2) % 4)→Mu.bh l x=(w,(d + 2) % 4)):=by
 have hd:=D.hd
 have hne:=D.ne hc
 have f:=hx.fwd hm
 have x4:=hx.2.1
 have ex:=D.nx' hx
 have key:∀ {u j:Nat},u < l.length→j < 4→(Mu.nx m x.1 x.2).toNat=u→tt m x < tn x.2 j→(∀ e,e < 4→(0≤Mu.nx l u e↔(0≤Mu.nx m u e∨e=j)))→¬ 0≤Mu.nx m u j→Mu.bh l x=(u,j):=by
  intro u j hu hj e1 e2 e3 e4
  rw [Zbz,← ex,e1]
  refine Prod.ext rfl ?_
  dsimp only
  rw [e1] at f
  have t0:tn x.2 (prv (fun e=>decide (0≤Mu.nx m u e)) x.2) < tn x.2 j:=by
   have:tt m x=tn x.2 (prv (fun e=>decide (0≤Mu.nx m u e)) x.2):=by unfold tt; rw [Zbz,e1]
   rw [← this]; exact e2
  have q:=ZjF (decide (0≤Mu.nx m u 0)) (decide (0≤Mu.nx m u 1)) (decide (0≤Mu.nx m u 2)) (decide (0≤Mu.nx m u 3)) ⟨x.2,x4⟩ ⟨j,hj⟩
  have se:∀ e,e < 4→ZbZ (decide (0≤Mu.nx m u 0)) (decide (0≤Mu.nx m u 1)) (decide (0≤Mu.nx m u 2)) (decide (0≤Mu.nx m u 3)) e=decide (0≤Mu.nx m u e):=fun e he=>Zci (A:=fun e=>decide (0≤Mu.nx m u e)) he
  dsimp only at q
  rw [se _ hj,se _ (by omega),Zcx (A:=fun e=>decide (0≤Mu.nx m u e)) x4] at q
  have q:=q (by rw [decide_eq_false e4,f.2]; simp [t0])
  refine (ZcK (fun e he=>?_) x4).trans q
  rw [se e he]
  rw [Bool.eq_iff_iff]
  simp [e3 e he]
 have nw:=fun u e (hu:u < l.length) (he:e < 4)=>D.nx u e hu he
 constructor
 ·intro e1 e2
  have:=nw v d D.hv hd
  rw [if_pos (.inl ⟨rfl,rfl⟩)] at this
  refine key D.hv hd e1 e2 (fun e he=>?_) (by omega)
  have n:=nw v e D.hv he
  by_cases c:e=d
  ·subst c; rw [D.hn]; exact ⟨fun _=>.inr rfl,fun _=>by omega⟩
  ·rw [if_neg (by rintro (q | q); exact c q.2; exact hne q.1.symm)] at n
   rw [n]
   exact ⟨fun q=>.inl q,fun q=>q.resolve_right c⟩
 ·intro e1 e2
  have:=nw w ((d + 2) % 4) D.hw (by omega)
  rw [if_pos (.inr ⟨rfl,rfl⟩)] at this
  refine key D.hw (by omega) e1 e2 (fun e he=>?_) (by omega)
  have n:=nw w e D.hw he
  by_cases c:e=(d + 2) % 4
  ·subst c; rw [D.hb hc]; exact ⟨fun _=>.inr rfl,fun _=>by omega⟩
  ·rw [if_neg (by rintro (q | q); exact hne q.1; exact c q.2)] at n
   rw [n]
   exact ⟨fun q=>.inl q,fun q=>q.resolve_right c⟩
theorem Del.back {l m:List Za} (hc:Ck l) {v d w:Nat} (D:Del l m v d w):∀ {s:List Da} {p q:Da},Pt m p s q→(∀ a∈s,Mu.bh l a≠(v,d)∧Mu.bh l a≠(w,(d + 2) % 4))→Pt l p s q∧Zax l s=Zax m s
 | [],p,q,h,_=>⟨h,rfl⟩
 | a :: s,p,q,h,hs=>by
  rw [Pt] at h
  obtain ⟨rfl,h1,h2⟩:=h
  have k:=hs p (by simp)
  have b:=D.bh hc h1
  rw [if_neg k.1,if_neg k.2,if_neg k.1,if_neg k.2] at b
  rw [b.1] at h2
  obtain ⟨i1,i2⟩:=D.back hc h2 fun a ha=>hs a (List.mem_cons_of_mem _ ha)
  exact ⟨⟨rfl,(D.isD.1 h1).1,i1⟩,by rw [ZaY,ZaY,i2,b.2]⟩
end Mu
/- Layer 20: FrontFirst. -/
set_option linter.unusedVariables false
set_option linter.unusedSimpArgs false
set_option maxRecDepth 10000
namespace Mu
end Mu
/- Layer 20: what a turn to the right faces,by sums. -/
set_option linter.unusedVariables false
set_option linter.unusedSimpArgs false
set_option maxRecDepth 10000
namespace Mu
def cs (t:List Int) (i:Nat):Nat→Int
 | 0=>0
 | k + 1=>cs t i k + gi t ((i + k) % t.length)
end Mu
/- A cut: an edge split,and a corner joined to it. -/
set_option linter.unusedVariables false
set_option linter.unusedSimpArgs false
set_option maxRecDepth 10000
namespace Mu
/-! Faces,once round from their first ZcN. -/
theorem ZhM {l:List Za} (hc:Ck l) {M:List Da} (hM:Mets l M) (cl:∀ p∈M,bh l p∈M) {x:Da} (hx:isD l x) (hn:x ∉ M):∃ K,walk l (4 * l.length + 1) M x=(List.range K).map (fun i=>it l i x)∧it l K x=x:=by
 obtain ⟨K,e1,e2⟩:=Zfs hc (4 * l.length + 1) M x hM hx (by omega)
 obtain ⟨C,_⟩:=ZeH hc hM cl hx hn
 refine ⟨K,e1,?_⟩
 have wnd:=C.nd
 have notM:∀ i,it l i x ∉ M:=by
  intro i
  induction i with
  | zero=>exact hn
  | succ i ih=>exact fun h=>ih (ZeZ hc hM cl (ZdE hc hx i) h)
 rcases List.mem_append.1 e2 with h | h
 ·exact absurd h (notM K)
 ·rw [e1] at h wnd
  obtain ⟨j,hj,e⟩:=List.mem_map.1 h
  rw [List.mem_range] at hj
  cases j with
  | zero=>exact e.symm
  | succ j =>
   cases K with
   | zero=>omega
   | succ K =>
    have:=Zeo hc (ZdE hc hx j) (ZdE hc hx K) e
    have q:=List.pairwise_map.1 wnd
    rw [List.pairwise_iff_getElem] at q
    have q2:=q j K (by simp; omega) (by simp) (by omega)
    rw [List.getElem_range,List.getElem_range] at q2
    exact absurd this q2
def Round (l:List Za) (f:List Da):Prop:=∃ x,isD l x∧f=(List.range f.length).map (fun i=>it l i x)∧it l f.length x=x
theorem Round.of {l:List Za} {f:List Da} {x:Da} {K:Nat} (hx:isD l x) (h:f=(List.range K).map (fun i=>it l i x)) (h2:it l K x=x):Round l f:=by
 have:f.length=K:=by rw [h]; simp
 exact ⟨x,hx,by rw [this]; exact h,by rw [this]; exact h2⟩
structure FR (l:List Za) (s:List Da × List (List Da)):Prop where
 fc:FC l s
 rd:∀ f∈s.2,Round l f
theorem FR.st {l:List Za} (hc:Ck l) {s:List Da × List (List Da)} (h:FR l s) {p:Da} (h1:p.1 < l.length) (h2:p.2 < 4):FR l (stF l s p):=by
 refine ⟨h.fc.st hc h1 h2,?_⟩
 unfold stF
 split
 ·exact h.rd
 ·rename_i c
  intro f hf
  rcases List.mem_append.1 hf with k | k
  ·exact h.rd f k
  ·rw [List.mem_singleton.1 k]
   have hp:isD l p:=⟨h1,h2,by omega⟩
   obtain ⟨K,a,b⟩:=ZhM hc h.fc.fi.m h.fc.cl hp fun q=>c (.inr q)
   exact Round.of hp a b
theorem FR.row {l:List Za} (hc:Ck l) {s:List Da × List (List Da)} (h:FR l s) {v:Nat} (hv:v < l.length):∀ e,e≤4→FR l (ZeP l v s e)
 | 0,_=>h
 | e + 1,he=>(FR.row hc h hv e (by omega)).st hc hv (by dsimp only; omega)
theorem Zj1 {l:List Za} {x:Da} (a:Nat):∀ b,it l (a + b) x=it l b (it l a x)
 | 0=>rfl
 | b + 1=>by rw [← Nat.add_assoc,it,Zj1 a b]; rfl
theorem Zj3 {l:List Za} {x:Da} {n:Nat} (h:it l n x=x):∀ k i,it l (i + n * k) x=it l i x
 | 0,i=>by rw [Nat.mul_zero,Nat.add_zero]
 | k + 1,i=>by rw [Nat.mul_succ,← Nat.add_assoc,Nat.add_comm _ n,Zj1,h,Zj3 h k i]
theorem ZlA {l:List Za} {x:Da} {n:Nat} (h:it l n x=x) (i:Nat):it l (i % n) x=it l i x:=by
 have:=Zj3 h (i / n) (i % n)
 rw [Nat.mod_add_div] at this
 exact this.symm
theorem Round.at {l:List Za} {f:List Da} {x:Da} (h:f=(List.range f.length).map (fun i=>it l i x)) (h2:it l f.length x=x) {i:Nat} (hf:0 < f.length):gi f (i % f.length)=it l i x:=by
 have lt:i % f.length < f.length:=Nat.mod_lt _ hf
 have:gi f (i % f.length)=gi ((List.range f.length).map (fun i=>it l i x)) (i % f.length):=by rw [← h]
 rw [this,ZbE lt,ZlA h2]
theorem ZlY {d e:Nat} (hd:d < 4) (he:e < 4):∃ k:Int,(e:Int)=d + tn d e + 4 * k:=by
 have a:d=0∨d=1∨d=2∨d=3:=by omega
 have b:e=0∨e=1∨e=2∨e=3:=by omega
 rcases a with rfl | rfl | rfl | rfl <;> rcases b with rfl | rfl | rfl | rfl <;> first | exact ⟨0,by decide⟩ | exact ⟨1,by decide⟩ | exact ⟨-1,by decide⟩
theorem Pt.dir {l:List Za} (hc:Ck l):∀ {s:List Da} {x y:Da},Pt l x s y→∃ k:Int,(y.2:Int)=x.2 + Zax l s + 4 * k
 | [],x,y,h=>by
  rw [Pt] at h; subst h
  exact ⟨0,by rw [ZfL]; omega⟩
 | a :: s,x,y,h=>by
  rw [Pt] at h
  obtain ⟨rfl,h1,h2⟩:=h
  obtain ⟨k,e⟩:=Pt.dir hc h2
  obtain ⟨k',e'⟩:=ZlY h1.2.1 (h1.bh hc).2.1
  refine ⟨k + k',?_⟩
  rw [ZaY]
  unfold tt
  omega
/-! Edges split. -/
section spl
variable {l:List Za} {a b w:Nat}
def Zd4 (l:List Za) (a b w:Nat) (p:Da):List Da:=if p=(a,b) then [p,(l.length,b)] else if p=(w,(b + 2) % 4) then [p,(l.length,(b + 2) % 4)] else [p]
structure Sp (l m:List Za) (a b w:Nat):Prop where
 ck:Ck m
 len:m.length=l.length + 1
 ha:a < l.length
 hb:b < 4
 hw:w < l.length
 hn:nx l a b=w
 hne:w≠a
 nx:∀ i e,i≤l.length→e < 4→nx m i e=(if i=l.length then (if e=b then (w:Int) else if e=(b + 2) % 4 then (a:Int) else -1) else if i=w∧e=(b + 2) % 4 then (l.length:Int) else if i=a∧e=b then (l.length:Int) else nx l i e)
 ow:∀ i e,i≤l.length→e < 4→ow m i e=(if i=l.length then (if e=b then ow l a b else if e=(b + 2) % 4 then ow l a b else 0) else if i=w∧e=(b + 2) % 4 then ow l a b else if i=a∧e=b then ow l a b else ow l i e)
theorem Sp.of (hc:Ck l) (ha:a < l.length) (hb:b < 4) (hn:Mu.nx l a b=w):Sp l (spl l a b w (Mu.ow l a b)) a b w:=by
 obtain ⟨h1,h2,h3⟩:=hc.spl ha hb hn
 exact ⟨h3,ZbI,ha,hb,h1,hn,h2,fun i e hi he=>(ZgH ha h1 hb hi he).1,fun i e hi he=>(ZgH ha h1 hb hi he).2⟩
variable {m:List Za}
theorem Sp.back (hc:Ck l) (S:Sp l m a b w):Mu.nx l w ((b + 2) % 4)=a:=(hc.back' S.ha S.hb S.hn).2
theorem Sp.old (hc:Ck l) (S:Sp l m a b w) {i e:Nat} (hi:i < l.length) (he:e < 4):0≤Mu.nx m i e↔0≤Mu.nx l i e:=by
 rw [S.nx i e (by omega) he,if_neg (by omega)]
 have:=S.back hc
 have:=S.hn
 by_cases c1:i=w∧e=(b + 2) % 4
 ·rw [if_pos c1,c1.1,c1.2]; omega
 ·rw [if_neg c1]
  by_cases c2:i=a∧e=b
  ·rw [if_pos c2,c2.1,c2.2]; omega
  ·rw [if_neg c2]
theorem Sp.y (S:Sp l m a b w):isD l (a,b):=⟨S.ha,S.hb,by rw [S.hn]; omega⟩
theorem Sp.oy (S:Sp l m a b w):opp l (a,b)=(w,(b + 2) % 4):=by unfold opp; dsimp only; rw [S.hn,Int.toNat_natCast]
theorem Sp.y' (hc:Ck l) (S:Sp l m a b w):isD l (w,(b + 2) % 4):=by rw [← S.oy]; exact S.y.opp hc
theorem Sp.is (hc:Ck l) (S:Sp l m a b w) {p:Da} (h:isD l p):isD m p:=⟨by rw [S.len]; have:=h.1; omega,h.2.1,(S.old hc h.1 h.2.1).2 h.2.2⟩
theorem Sp.bh0 (hc:Ck l) (S:Sp l m a b w) {p:Da} (h:isD l p) (h1:p≠(a,b)) (h2:p≠(w,(b + 2) % 4)):Mu.nx m p.1 p.2=Mu.nx l p.1 p.2∧bh m p=bh l p:=by
 have f:=h.fwd hc
 have hlt:=h.1
 have e:Mu.nx m p.1 p.2=Mu.nx l p.1 p.2:=by
  rw [S.nx p.1 p.2 (by omega) h.2.1,if_neg (by omega),if_neg fun q=>h2 (Prod.ext q.1 q.2),if_neg fun q=>h1 (Prod.ext q.1 q.2)]
 refine ⟨e,?_⟩
 rw [Zbz,Zbz,e]
 refine congrArg (Prod.mk _) (ZcK (fun e he=>?_) h.2.1)
 rw [decide_eq_decide]
 exact S.old hc f.1 he
theorem Sp.bh1 (hc:Ck l) (S:Sp l m a b w):Mu.nx m a b=l.length∧bh m (a,b)=(l.length,b)∧bh m (l.length,b)=bh l (a,b)∧bh m (w,(b + 2) % 4)=(l.length,(b + 2) % 4)∧bh m (l.length,(b + 2) % 4)=bh l (w,(b + 2) % 4):=by
 have hb:=S.hb
 have hne:=S.hne
 have ha:=S.ha
 have hw:=S.hw
 have e1:Mu.nx m a b=l.length:=by rw [S.nx a b (by omega) hb,if_neg (by omega),if_neg fun q=>hne q.1.symm,if_pos ⟨rfl,rfl⟩]
 have e2:Mu.nx m w ((b + 2) % 4)=l.length:=by rw [S.nx w _ (by omega) (by omega),if_neg (by omega),if_pos ⟨rfl,rfl⟩]
 have e3:Mu.nx m l.length b=w:=by rw [S.nx _ b (by omega) hb,if_pos rfl,if_pos rfl]
 have e4:Mu.nx m l.length ((b + 2) % 4)=a:=by rw [S.nx _ _ (by omega) (by omega),if_pos rfl,if_neg (by omega),if_pos rfl]
 have ne1:Mu.nx m l.length ((b + 1) % 4)=-1:=by rw [S.nx _ _ (by omega) (by omega),if_pos rfl,if_neg (by omega),if_neg (by omega)]
 have ne3:Mu.nx m l.length ((b + 3) % 4)=-1:=by rw [S.nx _ _ (by omega) (by omega),if_pos rfl,if_neg (by omega),if_neg (by omega)]
 refine ⟨e1,?_,?_,?_,?_⟩
 ·unfold bh
  dsimp only
  rw [e1,Int.toNat_natCast,ne1,e3,if_neg (by omega),if_pos (by omega)]
 ·rw [Zbz,Zbz]
  dsimp only
  rw [e3,S.hn,Int.toNat_natCast]
  exact congrArg (Prod.mk _) (ZcK (fun e he=>by rw [decide_eq_decide]; exact S.old hc hw he) hb)
 ·unfold bh
  dsimp only
  rw [e2,Int.toNat_natCast,show ((b + 2) % 4 + 1) % 4=(b + 3) % 4 by omega,ne3,e4,if_neg (by omega),if_pos (by omega)]
 ·rw [Zbz,Zbz]
  dsimp only
  rw [e4,S.back hc,Int.toNat_natCast]
  exact congrArg (Prod.mk _) (ZcK (fun e he=>by rw [decide_eq_decide]; exact S.old hc ha he) (by omega))
theorem Sp.ins (hc:Ck l) (S:Sp l m a b w):Ins l m (Zd4 l a b w):=by
 have hb:=S.hb
 have hne:=S.hne
 have ha:=S.ha
 have hw:=S.hw
 obtain ⟨n1,b1,b2,b3,b4⟩:=S.bh1 hc
 have n3:Mu.nx m l.length b=w:=by rw [S.nx _ b (by omega) hb,if_pos rfl,if_pos rfl]
 have n4:Mu.nx m l.length ((b + 2) % 4)=a:=by rw [S.nx _ _ (by omega) (by omega),if_pos rfl,if_neg (by omega),if_pos rfl]
 have yy:((w,(b + 2) % 4):Da)≠(a,b):=fun q=>hne (congrArg Prod.fst q)
 have U1:isD m (l.length,b):=⟨by rw [S.len]; dsimp only; omega,hb,by dsimp only; rw [n3]; omega⟩
 have U2:isD m (l.length,(b + 2) % 4):=⟨by rw [S.len]; dsimp only; omega,by dsimp only; omega,by dsimp only; rw [n4]; omega⟩
 have hd:∀ p,isD l p→p∈Zd4 l a b w p:=by
  intro p _; unfold Zd4; split
  ·simp
  ·split <;> simp
 refine ⟨fun p hp e=>?_,fun p hp=>?_,fun p hp x hx=>?_,fun p q hp hq x h1 h2=>?_,fun p hp=>?_,fun p hp x hx=>?_,fun C hC p hp hx y hy=>?_,fun x hx=>?_⟩
 ·have:=hd p hp; rw [e] at this; simp at this
 ·have:=hp.1
  unfold Zd4
  split
  ·rename_i c; rw [c]; simp; omega
  ·split
   ·rename_i c; rw [c]; simp; omega
   ·simp
 ·unfold Zd4 at hx
  split at hx
  ·rcases List.mem_cons.1 hx with rfl | hx
   ·exact S.is hc hp
   ·rw [List.mem_singleton.1 hx]; exact U1
  ·split at hx
   ·rcases List.mem_cons.1 hx with rfl | hx
    ·exact S.is hc hp
    ·rw [List.mem_singleton.1 hx]; exact U2
   ·rw [List.mem_singleton.1 hx]; exact S.is hc hp
 ·have hp1:=hp.1
  have hq1:=hq.1
  have key:∀ {p x},isD l p→x∈Zd4 l a b w p→x=p∨(x=(l.length,b)∧p=(a,b))∨(x=(l.length,(b + 2) % 4)∧p=(w,(b + 2) % 4)):=by
   intro p x hp h
   unfold Zd4 at h
   split at h
   ·rename_i c
    rcases List.mem_cons.1 h with h | h
    ·exact .inl h
    ·exact .inr (.inl ⟨List.mem_singleton.1 h,c⟩)
   ·split at h
    ·rename_i c
     rcases List.mem_cons.1 h with h | h
     ·exact .inl h
     ·exact .inr (.inr ⟨List.mem_singleton.1 h,c⟩)
    ·exact .inl (List.mem_singleton.1 h)
  rcases key hp h1 with k | ⟨k,k'⟩ | ⟨k,k'⟩ <;> rcases key hq h2 with r | ⟨r,r'⟩ | ⟨r,r'⟩
  ·rw [← k,r]
  ·rw [← k,r] at hp1; dsimp only at hp1; omega
  ·rw [← k,r] at hp1; dsimp only at hp1; omega
  ·rw [← r,k] at hq1; dsimp only at hq1; omega
  ·rw [k',r']
  ·rw [k] at r; injection r with _ r; omega
  ·rw [← r,k] at hq1; dsimp only at hq1; omega
  ·rw [k] at r; injection r with _ r; omega
  ·rw [k',r']
 ·unfold Zd4
  split
  ·rename_i c
   subst c
   simp only [List.map_cons,List.map_nil,List.sum_cons,List.sum_nil,b1,b2]
   have:tn b b=0:=by unfold tn; rw [if_pos rfl]
   omega
  ·split
   ·rename_i c
    subst c
    simp only [List.map_cons,List.map_nil,List.sum_cons,List.sum_nil,b3,b4]
    have:tn ((b + 2) % 4) ((b + 2) % 4)=0:=by unfold tn; rw [if_pos rfl]
    omega
   ·rename_i c1 c2
    simp only [List.map_cons,List.map_nil,List.sum_cons,List.sum_nil,(S.bh0 hc hp c1 c2).2]
    omega
 ·unfold Zd4 at hx
  split at hx
  ·rename_i c
   rcases List.mem_cons.1 hx with rfl | hx
   ·subst c; rw [b1]; left; unfold Zd4; rw [if_pos rfl]; simp
   ·rw [List.mem_singleton.1 hx,b2,c]; right; exact hd _ (S.y.bh hc)
  ·split at hx
   ·rename_i c
    rcases List.mem_cons.1 hx with rfl | hx
    ·subst c; rw [b3]; left; unfold Zd4; rw [if_neg yy,if_pos rfl]; simp
    ·rw [List.mem_singleton.1 hx,b4,c]; right; exact hd _ ((S.y' hc).bh hc)
   ·rename_i c1 c2
    rw [List.mem_singleton.1 hx,(S.bh0 hc hp c1 c2).2]; right; exact hd _ (hp.bh hc)
 ·-- one's first dart,then all
  have all:∀ q,isD l q→C q→∀ y∈Zd4 l a b w q,C y:=by
   intro q hq hCq y hy
   unfold Zd4 at hy
   split at hy
   ·rename_i c
    subst c
    rcases List.mem_cons.1 hy with rfl | hy
    ·exact hCq
    ·rw [List.mem_singleton.1 hy,← b1]; exact hC _ (S.is hc hq) hCq
   ·split at hy
    ·rename_i c
     subst c
     rcases List.mem_cons.1 hy with rfl | hy
     ·exact hCq
     ·rw [List.mem_singleton.1 hy,← b3]; exact hC _ (S.is hc hq) hCq
    ·rw [List.mem_singleton.1 hy]; exact hCq
  refine all _ (hp.bh hc) ?_ y hy
  obtain ⟨x,hx,hCx⟩:=hx
  unfold Zd4 at hx
  split at hx
  ·rename_i c
   subst c
   have:C (l.length,b):=by
    rcases List.mem_cons.1 hx with rfl | hx
    ·rw [← b1]; exact hC _ (S.is hc hp) hCx
    ·rw [← List.mem_singleton.1 hx]; exact hCx
   rw [← b2]; exact hC _ U1 this
  ·split at hx
   ·rename_i c
    subst c
    have:C (l.length,(b + 2) % 4):=by
     rcases List.mem_cons.1 hx with rfl | hx
     ·rw [← b3]; exact hC _ (S.is hc hp) hCx
     ·rw [← List.mem_singleton.1 hx]; exact hCx
    rw [← b4]; exact hC _ U2 this
   ·rename_i c1 c2
    rw [List.mem_singleton.1 hx] at hCx
    rw [← (S.bh0 hc hp c1 c2).2]; exact hC _ (S.is hc hp) hCx
 ·have h1:=hx.1
  have h2:=hx.2.1
  rw [S.len] at h1
  by_cases c:x.1=l.length
  ·have h3:=hx.2.2
   rw [S.nx x.1 x.2 (by omega) h2,if_pos c] at h3
   by_cases c1:x.2=b
   ·refine ⟨(a,b),S.y,?_⟩
    unfold Zd4
    rw [if_pos rfl]
    have:x=(l.length,b):=Prod.ext c c1
    rw [this]; simp
   ·rw [if_neg c1] at h3
    by_cases c2:x.2=(b + 2) % 4
    ·refine ⟨(w,(b + 2) % 4),S.y' hc,?_⟩
     unfold Zd4
     rw [if_neg yy,if_pos rfl]
     have:x=(l.length,(b + 2) % 4):=Prod.ext c c2
     rw [this]; simp
    ·rw [if_neg c2] at h3; omega
  ·have:isD l x:=⟨by omega,h2,(S.old hc (by omega) h2).1 hx.2.2⟩
   exact ⟨x,this,hd x this⟩
theorem Sp.val (hc:Ck l) (S:Sp l m a b w) (h:Val l):Val m:=((S.ins hc).val hc S.ck (Zen hc) (Zen S.ck)).1 h
theorem Sp.Pt (hc:Ck l) (S:Sp l m a b w):∀ {s:List Da} {x y:Da},Mu.Pt l x s y→Mu.Pt m x (s.flatMap (Zd4 l a b w)) y
 | [],x,y,h=>h
 | p :: s,x,y,h=>by
  rw [Mu.Pt] at h
  obtain ⟨rfl,h1,h2⟩:=h
  obtain ⟨n1,b1,b2,b3,b4⟩:=S.bh1 hc
  have I:=S.ins hc
  rw [List.flatMap_cons]
  refine Pt.app.2 ⟨bh l x,?_,S.Pt hc h2⟩
  have is:=fun z hz=>I.is x h1 z hz
  unfold Zd4 at is ⊢
  split
  ·rename_i c
   rw [if_pos c] at is
   subst c
   refine ⟨rfl,is _ (by simp),?_⟩
   rw [b1]
   exact ⟨rfl,is _ (by simp),b2⟩
  ·rename_i c
   rw [if_neg c] at is
   split
   ·rename_i c2
    rw [if_pos c2] at is
    subst c2
    refine ⟨rfl,is _ (by simp),?_⟩
    rw [b3]
    exact ⟨rfl,is _ (by simp),b4⟩
   ·rename_i c2
    exact ⟨rfl,S.is hc h1,(S.bh0 hc h1 c c2).2⟩
theorem Sp.Lp (hc:Ck l) (S:Sp l m a b w) {f:List Da} (h:Mu.Lp l f):Mu.Lp m (f.flatMap (Zd4 l a b w)):=by
 have C:=(S.ins hc).cyc hc h.cyc
 obtain ⟨x,hx⟩:=h.pt
 exact ⟨C.ne,C.nd,x,S.Pt hc hx⟩
theorem Sp.whole (hc:Ck l) (S:Sp l m a b w) (h:Mu.whole l):Mu.whole m:=by
 have h0:=ZeS h
 -- each old cell is reached: through the new one where the edge was
 have e1:=S.nx a b (by have:=S.ha; omega) S.hb
 have hne:=S.hne
 have ha:=S.ha
 have hw:=S.hw
 have hb:=S.hb
 rw [if_neg (by omega),if_neg (fun q=>hne q.1.symm),if_pos ⟨rfl,rfl⟩] at e1
 have e2:Mu.nx m w ((b + 2) % 4)=l.length:=by rw [S.nx w _ (by omega) (by omega),if_neg (by omega),if_pos ⟨rfl,rfl⟩]
 have e3:Mu.nx m l.length b=w:=by rw [S.nx _ b (by omega) hb,if_pos rfl,if_pos rfl]
 have e4:Mu.nx m l.length ((b + 2) % 4)=a:=by rw [S.nx _ _ (by omega) (by omega),if_pos rfl,if_neg (by omega),if_pos rfl]
 have old:∀ {u n},Rch l 0 n u→∃ k,Rch m 0 k u:=by
  intro u n hr
  induction hr with
  | zero=>exact ⟨0,.zero⟩
  | succ hr hab ih =>
   rename_i n p q
   obtain ⟨k,r⟩:=ih
   have hp:=hr.lt hc h0
   obtain ⟨d,hd,e⟩:=hab
   have n:=S.nx p d (by omega) hd
   rw [if_neg (by omega)] at n
   by_cases c1:p=w∧d=(b + 2) % 4
   ·have:q=a:=by
     have:=S.back hc
     rw [← c1.1,← c1.2,e] at this; omega
    subst this
    rw [if_pos c1] at n
    exact ⟨k + 1 + 1,.succ (.succ r ⟨d,hd,n⟩) ⟨_,by omega,e4⟩⟩
   ·rw [if_neg c1] at n
    by_cases c2:p=a∧d=b
    ·have:q=w:=by
      have:=S.hn
      rw [← c2.1,← c2.2,e] at this; omega
     subst this
     rw [if_pos c2] at n
     exact ⟨k + 1 + 1,.succ (.succ r ⟨d,hd,n⟩) ⟨_,hb,e3⟩⟩
    ·rw [if_neg c2,e] at n
     exact ⟨k + 1,.succ r ⟨d,hd,n⟩⟩
 refine Zhu (by rw [S.len]; omega) fun u hu=>?_
 rw [S.len] at hu
 by_cases c:u=l.length
 ·subst c
  obtain ⟨n,r⟩:=ZeT h ha
  obtain ⟨k,r⟩:=old r
  exact ⟨k + 1,.succ r ⟨b,hb,e1⟩⟩
 ·obtain ⟨n,r⟩:=ZeT h (w:=u) (by omega)
  exact old r
end spl
end Mu
/- Layer 14: turned cells can be drawn just if they could; so they can with an edge split. -/
set_option linter.unusedVariables false
set_option linter.unusedSimpArgs false
set_option maxRecDepth 10000
namespace Mu
theorem ZjR {l:List Za} (hc:Ck l) (hl:l.length≤4000) {v d w:Nat} (hv:v < l.length) (hd:d < 4) (hw:nx l v d=w):Zew (spl l v d w (ow l v d))=Zew l:=by
 obtain ⟨h1,h2,h3⟩:=hc.spl hv hd hw
 have S:=Sp.of hc hv hd hw
 have k1:Zdo l=0:=Zdy.2 ⟨by omega,hc⟩
 have k2:Zdo (spl l v d w (ow l v d))=0:=Zdy.2 ⟨by rw [ZbI]; omega,h3⟩
 have hwh:whole (spl l v d w (ow l v d))↔whole l:=by
  unfold whole
  rw [ZbI,Ziw hc hv hd hw,List.length_map]
 have hval:Val (spl l v d w (ow l v d))↔Val l:=((S.ins hc).val hc S.ck (Zen hc) (Zen S.ck)).symm
 have hl2:l.length≠1:=by omega
 have hl3:(spl l v d w (ow l v d)).length≠1:=by rw [ZbI]; omega
 have a:=Zfr k1
 have b:=Zfr k2
 rw [hwh,hval] at b
 rcases a with ⟨a1,a2,a3⟩ | ⟨a1,a2⟩ | ⟨a1,a2,a3,a4⟩ <;> rcases b with ⟨b1,b2,b3⟩ | ⟨b1,b2⟩ | ⟨b1,b2,b3,b4⟩ <;> first | exact b1.trans a1.symm | exact absurd a2 b2 | exact absurd b2 a2 | exact absurd (a3 hl2) b4 | exact absurd (b3 hl3) a4
theorem mVT {l:List Za} {at_:A2 Int} {L:List (List Za)} {i:Nat} (hi:i < L.length) (hL:L.length≤10) (hg:gi L i=l) (hc:Ck l) (hl:l.length≤1200) (ha:Zfv at_):zi.s0 at_ L (i:Int)=some (.inl ((i:Int) + 1)):=by
 obtain ⟨⟨a1,a2⟩,⟨b1,b2⟩⟩:(0≤at_.get 0∧at_.get 0≤255)∧(0≤at_.get 1∧at_.get 1≤255):=by
  obtain ⟨x,y⟩:=ha
  exact ⟨Wf.u8 x,Wf.u8 y⟩
 simp only [zi.s0,Int.toNat_natCast,hg]
 rw [ZK (by omega),Zz (by omega),ZgB (by omega),Option.bind_some,ZkB (by omega),Option.bind_some,ZgB (by rw [Zcj]; omega),Option.bind_some,ZjS hc (by omega),Za5 rfl,Zbn (by omega),Zbn (by omega)]
 obtain ⟨r,er,h⟩:=ZmA (l:=l) (by omega) ⟨a1,a2⟩ ⟨b1,b2⟩
 rw [er,Option.bind_some]
 rcases h with rfl | ⟨v,d,rfl,hv,hd,hn⟩
 ·dsimp only
  rw [if_neg Bool.false_ne_true,zr (by omega)]
 ·dsimp only
  obtain ⟨w,hw⟩:∃ w:Nat,nx l v d=w:=⟨(nx l v d).toNat,by omega⟩
  obtain ⟨h1,_,h3⟩:=hc.spl hv hd hw
  rw [if_pos rfl,ZjJ (by omega) hv hd hw h1,Option.bind_some]
  dsimp only
  rw [ZgB (by rw [ZbI]; omega),Option.bind_some,ZjR hc (by omega) hv hd hw,Za5 rfl,zr (by omega)]
theorem Zff (z:zj) (y:Zaa) (at_:A2 Int) (m1:z.At.length≤Go.maxLen) (b1:∀ y∈z.At,Zek y) (m2:z.Bits.length≤Go.maxLen) (b2:∀ y∈z.Bits,Zek y) (m3:z.Own.length≤Go.maxLen) (b3:∀ y∈z.Own,ZhP y) (n1:y.Boxes.length≤Go.maxLen) (c1:∀ x∈y.Boxes,Zgt x) (n2:y.Edges.length≤Go.maxLen) (c2:∀ x∈y.Edges,Zey x) (n3:y.Bends.length≤Go.maxLen) (c3:∀ x∈y.Bends,Zek x) (ha:Zfv at_):zi z y at_=some true:=by
 obtain ⟨l,pts,e1,hM,hlen⟩:=ZmD (z:=z) (most:=16) (okZ m1 b1 b3) (by omega)
 obtain ⟨s,e2,hs,_⟩:=ZlJ (z:=y) c2 c3 (most:=6) (by omega)
 obtain ⟨w,e3⟩:=ZkO hs
 obtain ⟨n,e4,hn,hk⟩:=ZmP hs
 unfold zi
 rw [e1,Option.bind_some]
 dsimp only
 rw [e2,Option.bind_some,e3,Option.bind_some,e4,Option.bind_some]
 obtain ⟨L,eL,h10,hall⟩:∃ L:List (List Za),(if decide (w=0)=true then ck ([l].length + 1≤1000000000) (some ([l]++[n.Cells])) else some [l])=some L∧L.length≤10∧∀ i,i < L.length→Ck (gi L i)∧(gi L i).length≤1200:=by
  split
  ·rw [Zz (by simp)]
   refine ⟨_,rfl,by simp,fun i hi=>?_⟩
   match i,hi with
   | 0,_=>exact ⟨hM.ck,by show l.length≤1200; omega⟩
   | 1,_=>exact ⟨hk,hn⟩
  ·refine ⟨_,rfl,by simp,fun i hi=>?_⟩
   match i,hi with
   | 0,_=>exact ⟨hM.ck,by show l.length≤1200; omega⟩
 rw [eL,Option.bind_some]
 have F:ZW (zi.s0 at_ L) big 0=some (.inl ()):=by
  refine ZbF (fun i:Nat=>(i:Int)) (n:=L.length) (Zbg (by omega)) rfl (fun i hi=>?_) ?_
  ·rw [mVT hi h10 rfl (hall i hi).1 (hall i hi).2 ha]; rfl
  ·simp only [zi.s0]
   rw [ZG (by omega)]
 rw [F,Option.bind_some]
 dsimp only
 rw [Zhe]
 rfl
end Mu
