/- The law, plainly: what is worked out. -/
import Derived.Test.YtfdidkebomeiaaaMuV
import Derived.Test.YtfdidkebomeiaaaMuDf
import Derived.Test.YtfdidkebomeiaaaMuK0
/- Cells of which some edges are left,that hang together,can be drawn if all could. -/
set_option linter.unusedVariables false
set_option linter.unusedSimpArgs false
set_option maxRecDepth 10000
namespace Mu
theorem Cyc.same {l m:List Za}(h1:∀ p,isD m p↔isD l p) (h2:∀ p,isD l p→bh m p=bh l p) {f:List Da}(h:Cyc l f):Cyc m f∧zD m f=zD l f:=by
 refine ⟨⟨h.ne,h.nd,fun p hp=>(h1 p).2 (h.is p hp),fun p hp=>by rw [h2 p (h.is p hp)];exact h.cl p hp,fun C hC p hp q hq hCp=>h.one C (fun x hx hCx=>by rw [← h2 x hx];exact hC x ((h1 x).2 hx) hCx) p hp q hq hCp⟩,?_⟩;unfold zD tns;congr 1;exact List.map_congr_left fun p hp=>by rw [h2 p (h.is p hp)]
theorem Sub.all {m l:List Za}(hm:Ck m) (hl:Ck l) (S:Sub m l) (h:∀ p,isD l p→isD m p):(∀ p,isD m p↔isD l p)∧(∀ p,isD l p→Mu.bh m p=Mu.bh l p)∧∀ u e,u<l.length→e<4→(0≤Mu.nx m u e↔0≤Mu.nx l u e):=by
 refine ⟨fun p=>⟨fun q=>(S.is q).1,h p⟩,fun p hp=>S.bh hm hl (h p hp) (h _ (hp.bh hl)),fun u e hu he=>⟨fun q=>?_,fun q=>?_⟩⟩
 ·exact (S.is (p:=(u,e)) ⟨by rw [S.len];exact hu,he,q⟩).1.2.2
 ·exact (h (u,e) ⟨hu,he,q⟩).2.2
theorem Sub.chi_all {m l:List Za}(hm:Ck m) (hl:Ck l) (S:Sub m l) (h:∀ p,isD l p→isD m p):chi l=chi m:=by
 obtain ⟨a,b,c⟩:=S.all hm hl h;have hd:∀ u,u<l.length→deg m u=deg l u:=by
  intro u hu;rw [Zeg,Zeg];simp only [c u 0 hu (by omega),c u 1 hu (by omega),c u 2 hu (by omega),c u 3 hu (by omega)]
 have hf:Fcs m (faces l):=⟨fun f hf=>((ZbM hl f hf).same a b).1,(Fcs.faces hl).nd,fun p hp=>(Fcs.faces hl).al p ((a p).1 hp)⟩;unfold chi cV cD;rw [S.len,hf.len (Fcs.faces hm),ZcD (f:=deg m) hd,ZcD (f:=fun w=>if deg m w=0 then (0:Int) else 1) (g:=fun w=>if deg l w=0 then (0:Int) else 1) fun u hu=>by rw [hd u hu]]
theorem Zp7 {f g:Nat→Int}:∀ {n:Nat},(∀ i,i<n→f i≤g i)→sg f n≤sg g n
 | 0,_=>by simp [sg]
 | n+1,h=>by
  rw [sg,sg];have:=Zp7 (n:=n) fun i hi=>h i (by omega);have:=h n (by omega);omega
theorem Sub.cD_le {m l:List Za}(S:Sub m l):cD m≤cD l:=by
 unfold cD;rw [S.len];refine Zp7 fun u hu=>?_;have k:∀ e,e<4→(if 0≤Mu.nx m u e then (1:Int) else 0)≤if 0≤Mu.nx l u e then 1 else 0:=by
  intro e he;rcases S.nx u e hu he with q|q
  ·rw [q];omega
  ·rw [q,if_neg (by omega)];split<;>omega
 have:=k 0 (by omega);have:=k 1 (by omega);have:=k 2 (by omega);have:=k 3 (by omega);rw [Zeg,Zeg];omega
theorem Zlv {l m:List Za}(hc:Ck l) {v d w:Nat}(D:Del l m v d w) (Cl:Cn l) {p:Da}(hp:isD m p) (h1:bh l (v,d)=(w,(d+2)%4)) (h2:bh l (w,(d+2)%4)=(v,d)):False:=by
 have ip:=D.isD.1 hp;have:=Cl (fun x=>x=(v,d)∨x=(w,(d+2)%4)) (fun x hx hCx=>by
  rcases hCx with rfl|rfl
  ·exact ⟨.inr h1,.inr D.opp⟩
  ·exact ⟨.inl h2,.inl (by rw [← D.opp,Zcv hc D.e])⟩) (v,d) p D.e ip.1 (.inl rfl)
 rcases this with q|q
 ·exact ip.2.1 q
 ·exact ip.2.2 q
theorem ZmY {l:List Za}(hl:Ck l) (Cl:Cn l):∀ (k:Nat) (m:List Za),Ck m→Sub m l→Cn m→(∃ p,isD m p)→(cD l-cD m).toNat≤k→chi l≤chi m:=by
 intro k
 induction k with
 | zero =>
  intro m hm S Cm ⟨p0,h0⟩ hk;by_cases c:∀ p,isD l p→isD m p
  ·rw [S.chi_all hm hl c];exact Int.le_refl _
  ·have:∃ p,isD l p∧¬ isD m p:=Classical.byContradiction fun q=>c fun p hp=>Classical.byContradiction fun r=>q ⟨p,hp,r⟩;obtain ⟨x,hx,hx'⟩:=this;obtain ⟨m',v,d,w,hm',D,S',C'⟩:=ZoF hl hm S Cl Cm h0 hx hx';have:=D.cD hm';have:=S'.cD_le;omega
 | succ k ih =>
  intro m hm S Cm ⟨p0,h0⟩ hk;by_cases c:∀ p,isD l p→isD m p
  ·rw [S.chi_all hm hl c];exact Int.le_refl _
  ·have:∃ p,isD l p∧¬ isD m p:=Classical.byContradiction fun q=>c fun p hp=>Classical.byContradiction fun r=>q ⟨p,hp,r⟩;obtain ⟨x,hx,hx'⟩:=this;obtain ⟨m',v,d,w,hm',D,S',C'⟩:=ZoF hl hm S Cl Cm h0 hx hx';have e1:=D.cD hm';have:=ih m' hm' S' C' ⟨p0,(D.isD.1 h0).1⟩ (by omega);rcases D.chi hm' hm with (q|q)|⟨_,q1,q2⟩
   ·omega
   ·omega
   ·exact (Zlv hm' D C' h0 q1 q2).elim
theorem ZfX {n u e:Nat}(h:u<n) (he:e<4):nx (List.replicate n noC) u e=-1:=by
 have:gi (List.replicate n noC) u=noC:=by rw [Zb3 (by simpa using h)];simp
 unfold nx;rw [this];exact (Zn6 he).1
theorem ZjK {n:Nat}:chi (List.replicate n noC)=0:=by
 have hd:∀ u,u<n→deg (List.replicate n noC) u=0:=by
  intro u hu;rw [Zeg,ZfX hu (by omega),ZfX hu (by omega),ZfX hu (by omega),ZfX hu (by omega)];rfl
 have hf:Fcs (List.replicate n noC) []:=⟨by simp,by simp,fun p hp=>by
  have h1:=hp.1;have h2:=hp.2.2;rw [ZfX (by simpa using h1) hp.2.1] at h2;omega⟩
 unfold chi cV cD;rw [← hf.len (Fcs.faces (Ck.new n)),ZgJ (f:=deg (List.replicate n noC)) (fun u hu=>hd u (by simpa using hu)),ZgJ fun u hu=>by rw [if_pos (hd u (by simpa using hu))]];rfl
theorem Zo6 {m:List Za}(hm:Ck m) (Cm:Cn m) {p:Da}(hp:isD m p):chi m≤4:=by
 obtain ⟨v,d⟩:=p;obtain ⟨v1,d1,n1⟩:=hp;dsimp only at v1 d1 n1;rcases hm.s v d v1 d1 with ⟨a,_⟩|⟨w,w1,w2,w3,w4,w5,w6⟩
 ·omega
 have v1':v<(List.replicate m.length noC).length:=by simpa using v1
 have w2':w<(List.replicate m.length noC).length:=by simpa using w2
 have hs:Ck (wth (List.replicate m.length noC) v d w (ow m v d)):=(Ck.new _).wth v1' w2' (fun q=>w3 q.symm) d1 (ZfX v1 d1) (ZfX w2 (by omega)) w6;have nw:∀ u e,u<m.length→e<4→nx (wth (List.replicate m.length noC) v d w (ow m v d)) u e=if u=v∧e=d then (w:Int) else if u=w∧e=(d+2)%4 then (v:Int) else -1:=fun u e hu he=>by
  rw [(Ze6 v1' w2' (fun q=>w3 q.symm) d1 (by simpa using hu) he).1,ZfX hu he]
 have hlen:(wth (List.replicate m.length noC) v d w (ow m v d)).length=m.length:=by rw [ZaL];simp
 generalize wth (List.replicate m.length noC) v d w (ow m v d)=s at *;have D:Del s (List.replicate m.length noC) v d w:=by
  refine ⟨by rw [hlen];simp,by rw [hlen];exact v1,d1,by rw [hlen];exact w2,by rw [nw v d v1 d1,if_pos ⟨rfl,rfl⟩],fun u e hu he=>?_⟩;rw [hlen] at hu;rw [nw u e hu he,ZfX hu he];by_cases c1:u=v∧e=d
  ·rw [if_pos (.inl c1)]
  ·by_cases c2:u=w∧e=(d+2)%4
   ·rw [if_pos (.inr c2)]
   ·rw [if_neg (by rintro (q|q);exact c1 q;exact c2 q),if_neg c1,if_neg c2]
 have S:Sub s m:=by
  refine ⟨hlen,fun u e hu he=>?_⟩;rw [nw u e hu he];by_cases c1:u=v∧e=d
  ·rw [if_pos c1,c1.1,c1.2];exact .inl w1.symm
  ·rw [if_neg c1];by_cases c2:u=w∧e=(d+2)%4
   ·rw [if_pos c2,c2.1,c2.2];exact .inl w4.symm
   ·rw [if_neg c2];exact .inr rfl
 have only:∀ x,isD s x→x=(v,d)∨x=(w,(d+2)%4):=by
  intro x hx;have h1:=hx.1;rw [hlen] at h1;have h3:=hx.2.2;rw [nw _ _ h1 hx.2.1] at h3;by_cases c1:x.1=v∧x.2=d
  ·exact .inl (Prod.ext c1.1 c1.2)
  ·rw [if_neg c1] at h3;by_cases c2:x.1=w∧x.2=(d+2)%4
   ·exact .inr (Prod.ext c2.1 c2.2)
   ·rw [if_neg c2] at h3;omega
 have oe:opp s (v,d)=(w,(d+2)%4):=D.opp;have oe':opp s (w,(d+2)%4)=(v,d):=by rw [← oe,Zcv hs D.e]
 have Cs:Cn s:=by
  intro C hC p q hp hq hCp;have both:C (v,d)∧C (w,(d+2)%4):=by
   rcases only p hp with rfl|rfl
   ·have:=(hC _ D.e hCp).2;rw [oe] at this;exact ⟨hCp,this⟩
   ·have:=(hC _ (D.e' hs) hCp).2;rw [oe'] at this;exact ⟨this,hCp⟩
  rcases only q hq with rfl|rfl
  ·exact both.1
  ·exact both.2
 have b1:bh s (v,d)=(w,(d+2)%4):=by
  rcases only _ (D.e.bh hs) with q|q
  ·exact absurd q (D.bh_e hs)
  ·exact q
 have b2:bh s (w,(d+2)%4)=(v,d):=by
  rcases only _ ((D.e' hs).bh hs) with q|q
  ·exact q
  ·exact absurd q (D.bh_e' hs)
 have:=ZmY hm Cm _ s hs S Cs ⟨_,D.e⟩ (Nat.le_refl _);rcases D.chi hs (Ck.new _) with (q|q)|⟨q,_⟩
 ·rw [ZjK] at q;omega
 ·rw [ZjK] at q;omega
 ·rw [ZjK] at q;omega

/-! Rotations and Euler's number. -/
theorem Zm7 {l:List Za}(hc:Ck l):((ZcH l).map (tt l)).sum=2*cD l-4*cV l:=by
 have:(ZcH l).map (tt l)=(ZcH l).map fun p=>tn p.2 (bh l p).2:=rfl;rw [this,Zm5];have e1:sg (fun v=>sg (fun d=>if 0≤nx l v d then tn d (bh l (v,d)).2 else 0) 4) l.length=sg (fun d=>sg (fun v=>if 0≤nx l v d then tn d (bh l (v,d)).2 else 0) l.length) 4:=Zik;have e2:sg (fun d=>sg (fun v=>if 0≤nx l v d then tn d (bh l (v,d)).2 else 0) l.length) 4=sg (fun d=>sg (fun w=>if 0≤nx l w ((d+2)%4) then arr l w d else 0) l.length) 4:=by
  refine ZcD fun d hd=>?_;refine ZnR hc hd (fun v hv c=>if_neg (by omega)) (fun v hv c=>if_neg (by omega)) (fun v w hv hw e=>?_);have b:=(hc.back' hv hd e);rw [if_pos (by omega),if_pos (by omega)];have:=ZnY (l:=l) (p:=(v,d)) hd;dsimp only at this;rw [this,e,itn]
 have e3:sg (fun d=>sg (fun w=>if 0≤nx l w ((d+2)%4) then arr l w d else 0) l.length) 4=sg (fun w=>2*deg l w-4*(if deg l w=0 then 0 else 1)) l.length:=by
  rw [Zik];refine ZcD fun w hw'=>?_;by_cases c:deg l w=0
  ·rw [if_pos c,c];have k:∀ d,d<4→¬ 0≤nx l w d:=by
    intro d hd q;have:=ZjN (l:=l) (p:=(w,d)) ⟨hw',hd,q⟩;dsimp only at this;omega
   rw [ZnQ,if_neg (k _ (by omega)),if_neg (k _ (by omega)),if_neg (k _ (by omega)),if_neg (k _ (by omega))];rfl
  ·rw [if_neg c,Zlk (ZpW c)];rfl
 show sg (fun v=>sg (fun d=>if 0≤nx l v d then tn d (bh l (v,d)).2 else 0) 4) l.length=_;rw [e1,e2,e3,Zkr,Zl9,Zl9];rfl
theorem Fcs.sum {l:List Za}(hc:Ck l) {F:List (List Da)}(h:Fcs l F):(F.map (zD l)).sum=2*cD l-4*cV l:=by
 have pe:F.flatten.Perm (ZcH l):=(List.perm_ext_iff_of_nodup h.nd ZdE).2 fun p=>by
  rw [ZbD];refine ⟨fun q=>?_,h.al p⟩;obtain ⟨f,hf,hp⟩:=List.mem_flatten.1 q;exact (h.cy f hf).is p hp
 rw [← Zm7 hc,← ZdH pe,ZgA];rfl
theorem Zl0:∀ {R:List Int},(∀ r∈R,r=4∨r=-4)→R.sum≤4*R.length∧(R.sum=4*R.length→∀ r∈R,r=4)
 | [],_=>⟨by simp,fun _ r hr=>by simp at hr⟩
 | a::R,h=>by
  obtain ⟨i1,i2⟩:=Zl0 (R:=R) fun r hr=>h r (List.mem_cons_of_mem _ hr);have ha:=h a (by simp);rw [List.sum_cons,List.length_cons];refine ⟨by omega,fun e r hr=>?_⟩;rcases List.mem_cons.1 hr with rfl|hr
  ·omega
  ·exact i2 (by omega) r hr
theorem ZnA:∀ {R:List Int},(∀ r∈R,r=4∨r=-4)→R.sum=4*R.length-8→∃ i,i<R.length∧gi R i=-4∧∀ j,j<R.length→gi R j=-4→j=i
 | [],_,h=>by simp at h
 | a::R,h,hs=>by
  have hR:=fun r hr=>h r (List.mem_cons_of_mem a hr);have ha:=h a (by simp);rw [List.sum_cons,List.length_cons] at hs;rcases ha with rfl|rfl
  ·obtain ⟨i,h1,h2,h3⟩:=ZnA hR (by omega);refine ⟨i+1,by simp;omega,h2,fun j hj e=>?_⟩
   cases j with
   | zero=>have e':(4:Int)=-4:=e;omega
   | succ j=>rw [h3 j (by simp at hj;omega) e]
  ·have:=(Zl0 hR).2 (by omega);refine ⟨0,by simp,rfl,fun j hj e=>?_⟩
   cases j with
   | zero=>rfl
   | succ j =>
    have hj':j<R.length:=by simp at hj;omega
    have e':gi R j=-4:=e;have:=this _ (ZaH hj');omega
theorem Zd5 {l:List Za}(hc:Ck l):Val l↔(∀ f,Cyc l f→zD l f=4∨zD l f=-4)∧chi l=4:=by
 have sm:=(Fcs.faces hc).sum hc;constructor
 ·intro h;obtain ⟨a,ha,h0⟩:=Zhv.2 h;have ft:=ZkB ha h0;have e:(((faces l).flatten.map fun p=>tn p.2 (bh l p).2)).sum=((faces l).map (zD l)).sum:=by rw [ZgA];rfl
  rw [e,sm] at ft;refine ⟨fun f hf=>?_,by unfold chi;omega⟩;obtain ⟨p,hp⟩:=List.exists_mem_of_ne_nil f hf.ne;obtain ⟨i,hi,hpi⟩:=ZgD hc (hf.is p hp) (Zj9 hc);rw [Zcy (hf.perm (ZbM hc _ (ZaH hi)) hp hpi)];exact h.1 i hi
 ·rintro ⟨h,hchi⟩;have pm:∀ r∈(faces l).map (zD l),r=4∨r=-4:=by
   intro r hr;obtain ⟨f,hf,rfl⟩:=List.mem_map.1 hr;exact h f (ZbM hc f hf)
  unfold chi at hchi;obtain ⟨i,h1,h2,h3⟩:=ZnA pm (by rw [sm,List.length_map];omega);rw [List.length_map] at h1 h3;refine ⟨fun j hj=>h _ (ZbM hc _ (ZaH hj)),⟨i,h1,by rw [← ZbO (f:=zD l) h1];exact h2⟩,fun j k hj hk e1 e2=>?_⟩;rw [h3 j hj (by rw [ZbO hj];exact e1),h3 k hk (by rw [ZbO hk];exact e2)]
theorem Zpa {l:List Za}(hc:Ck l) {f g:List Da}{R:List (List Da)}(h:Fcs l (f::g::R)) (hp:∀ f,Cyc l f→zD l f=4∨zD l f=-4) (hchi:chi l=4) (h1:zD l f=-4) (h2:zD l g=-4):False:=by
 have sm:=h.sum hc;have ln:=h.len (Fcs.faces hc);have:=(Zl0 (R:=R.map (zD l)) fun r hr=>by
  obtain ⟨x,hx,rfl⟩:=List.mem_map.1 hr;exact hp x (h.cy x (by simp [hx]))).1
 unfold chi at hchi;simp only [List.map_cons,List.sum_cons,List.length_cons,List.length_map] at sm ln this;omega
theorem Del.val {l m:List Za}(hc:Ck l) (hm:Ck m) {v d w:Nat}(D:Del l m v d w) (Cl:Cn l) (Cm:Cn m) {p:Da}(hp:Mu.isD m p) (h:Val l):Val m:=by
 obtain ⟨h1,h2⟩:=(Zd5 hc).1 h;have t:=Zo6 hm Cm hp;have key:∀ F,Fcs m F→(∀ f∈F,zD m f=4∨zD m f=-4)→∀ f,Cyc m f→zD m f=4∨zD m f=-4:=by
  intro F hF hr f hf;obtain ⟨x,hx⟩:=List.exists_mem_of_ne_nil f hf.ne;obtain ⟨g,hg,hxg⟩:=List.mem_flatten.1 (hF.al x (hf.is x hx));rw [Zcy (hf.perm (hF.cy g hg) hx hxg)];exact hr g hg
 have X:Mu.chi m=4:=by
  rcases D.chi hc hm with (q|q)|⟨_,q1,q2⟩
  ·omega
  ·omega
  ·exact (Zlv hc D Cl hp q1 q2).elim
 refine (Zd5 hm).2 ⟨?_,X⟩;have a1:=D.cD hc;have a2:=D.cV hc
 cases D.kind hc with
 | two A B R hA hB hl hm' rot same n1 n2 lm =>
  refine key _ hm' fun f hf=>?_;rcases List.mem_cons.1 hf with rfl|hf
  ·rw [rot];rcases h1 _ hA.cyc with x|x<;>rcases h1 _ hB.cyc with y|y
   ·left;omega
   ·right;omega
   ·right;omega
   ·exact (Zpa hc hl h1 h2 x y).elim
  ·rw [same f hf];exact h1 f (hl.cy f (by simp [hf]))
 | one A B R hA hl hm' rot same n1 n2 lA lB =>
  have f1:=hl.len (Fcs.faces hc);have f2:=hm'.len (Fcs.faces hm);simp only [List.length_cons] at f1 f2;have b1:=ZeO hc D.e;have b2:=ZeO hc (D.e' hc);rw [D.opp] at b1;rw [← D.opp,Zcv hc D.e,D.opp] at b2;dsimp only at b1 b2;rw [if_neg fun q=>n2 (b2.2 q),if_neg fun q=>n1 (b1.2 q)] at a2;unfold Mu.chi at h2 X;omega
 | leaf A R hA hl hm' rot same n =>
  refine key _ hm' fun f hf=>?_;rcases List.mem_cons.1 hf with rfl|hf
  ·rw [rot];exact h1 _ hA
  ·rw [same f hf];exact h1 f (hl.cy f (by simp [hf]))
 | iso R hA hl hm' same n1 n2=>exact (Zlv hc D Cl hp n1 n2).elim
theorem Sub.val {l:List Za}(hl:Ck l) (Cl:Cn l) (h:Val l):∀ (k:Nat) (m:List Za),Ck m→Sub m l→Cn m→(∃ p,isD m p)→(cD l-cD m).toNat≤k→Val m:=by
 intro k
 induction k with
 | zero =>
  intro m hm S Cm ⟨p0,h0⟩ hk;by_cases c:∀ p,isD l p→isD m p
  ·obtain ⟨a,b,_⟩:=S.all hm hl c;obtain ⟨h1,h2⟩:=(Zd5 hl).1 h;refine (Zd5 hm).2 ⟨fun f hf=>?_,by rw [← S.chi_all hm hl c];exact h2⟩;obtain ⟨k1,k2⟩:=hf.same (l:=m) (m:=l) (fun p=>(a p).symm) fun p hp=>(b p ((a p).1 hp)).symm;rw [← k2];exact h1 f k1
  ·have:∃ p,isD l p∧¬ isD m p:=Classical.byContradiction fun q=>c fun p hp=>Classical.byContradiction fun r=>q ⟨p,hp,r⟩;obtain ⟨x,hx,hx'⟩:=this;obtain ⟨m',v,d,w,hm',D,S',C'⟩:=ZoF hl hm S Cl Cm h0 hx hx';have:=D.cD hm';have:=S'.cD_le;omega
 | succ k ih =>
  intro m hm S Cm ⟨p0,h0⟩ hk;by_cases c:∀ p,isD l p→isD m p
  ·obtain ⟨a,b,_⟩:=S.all hm hl c;obtain ⟨h1,h2⟩:=(Zd5 hl).1 h;refine (Zd5 hm).2 ⟨fun f hf=>?_,by rw [← S.chi_all hm hl c];exact h2⟩;obtain ⟨k1,k2⟩:=hf.same (l:=m) (m:=l) (fun p=>(a p).symm) fun p hp=>(b p ((a p).1 hp)).symm;rw [← k2];exact h1 f k1
  ·have:∃ p,isD l p∧¬ isD m p:=Classical.byContradiction fun q=>c fun p hp=>Classical.byContradiction fun r=>q ⟨p,hp,r⟩;obtain ⟨x,hx,hx'⟩:=this;obtain ⟨m',v,d,w,hm',D,S',C'⟩:=ZoF hl hm S Cl Cm h0 hx hx';have e1:=D.cD hm';exact D.val hm' hm C' Cm h0 (ih m' hm' S' C' ⟨p0,(D.isD.1 h0).1⟩ (by omega))
end Mu
/- An edge more,from corner to corner of one loop. -/
namespace Mu
theorem ZiW {l:List Za}(h0:0<l.length) (h:∀ w,w<l.length→∃ n,Rch l 0 n w):whole l:=by
 have e1:PS l 1=([Zd2 l 0 l.length],Ze1 l 0 (List.replicate l.length false) l.length):=by
  have g:gi (PS l 0).2 0=false:=by
   show gi (List.replicate l.length false) 0=false;rw [Zb3 (by simp;omega)];simp
  rw [PS,if_neg (by rw [g];decide)];rfl
 have key:∀ n,n+1≤l.length→PS l (n+1)=PS l 1:=by
  intro n
  induction n with
  | zero=>intro _;rfl
  | succ n ih =>
   intro hn;have i:=ih (by omega);rw [PS,if_pos]
   ·exact i
   ·rw [i,e1];dsimp only;rw [Zfl (by omega),if_pos (by omega),Zg6.2 (h (n+1) (by omega)),Bool.or_true]
 have k:=key (l.length-1) (by omega);rw [show l.length-1+1=l.length by omega] at k;unfold whole;rw [k,e1];rfl
theorem Rch.mono {l m:List Za}(h:∀ a b,a<l.length→Adj l a b→Adj m a b) (hc:Ck l) {v n w:Nat}(hv:v<l.length) (hr:Rch l v n w):Rch m v n w:=by
 induction hr with
 | zero=>exact .zero
 | succ hr hab ih=>exact .succ ih (h _ _ (hr.lt hc hv) hab)
theorem Del.of_wth {l:List Za}(hc:Ck l) {v d w:Nat}{o:Int}(hv:v<l.length) (hw:w<l.length) (hvw:v≠w) (hd:d<4) (h1:Mu.nx l v d=-1) (h2:Mu.nx l w ((d+2)%4)=-1):Del (wth l v d w o) l v d w:=by
 have nw:=fun u e (hu:u<l.length) (he:e<4)=>(Ze6 (o:=o) hv hw hvw hd hu he).1;have hlen:(wth l v d w o).length=l.length:=ZaL;refine ⟨hlen.symm,by rw [hlen];exact hv,hd,by rw [hlen];exact hw,by rw [nw v d hv hd,if_pos ⟨rfl,rfl⟩],fun u e hu he=>?_⟩;rw [hlen] at hu;rw [nw u e hu he];by_cases c1:u=v∧e=d
 ·rw [if_pos (.inl c1),c1.1,c1.2,h1]
 ·by_cases c2:u=w∧e=(d+2)%4
  ·rw [if_pos (.inr c2),c2.1,c2.2,h2]
  ·rw [if_neg (by rintro (q|q);exact c1 q;exact c2 q),if_neg c1,if_neg c2]
theorem Del.whole {l m:List Za}(hc:Ck l) (hm:Ck m) {v d w:Nat}(D:Del l m v d w) (h:whole m):Mu.whole l:=by
 have h0:=ZfO h;have len:=D.len;refine ZiW (by omega) fun u hu=>?_;obtain ⟨n,r⟩:=ZdY h (w:=u) (by omega);refine ⟨n,r.mono (fun a b ha hab=>?_) hm (by omega)⟩;obtain ⟨e,he,q⟩:=hab;have:=D.nx a e (by omega) he;rw [q] at this;refine ⟨e,he,?_⟩;split at this
 ·omega
 ·exact this.symm
theorem ZnB:∀ a b c d:Bool,∀ i j:Fin 4,(!(ZcS a b c d j.1)&&ZcS a b c d ((i.1+2)%4)&&decide (tn i.1 (prv (ZcS a b c d) i.1)<tn i.1 j.1))=true→prv (fun e=>ZcS a b c d e||(e == j.1)) i.1=j.1:=by decide +kernel
theorem Del.enter {l m:List Za}(hc:Ck l) (hm:Ck m) {v d w:Nat}(D:Del l m v d w) {x:Da}(hx:Mu.isD m x):((Mu.nx m x.1 x.2).toNat=v→tt m x<tn x.2 d→Mu.bh l x=(v,d))∧((Mu.nx m x.1 x.2).toNat=w→tt m x<tn x.2 ((d+2)%4)→Mu.bh l x=(w,(d+2)%4)):=by
 have hd:=D.hd;have hne:=D.ne hc;have f:=hx.fwd hm;have x4:=hx.2.1;have ex:=D.nx' hx;have key:∀ {u j:Nat},u<l.length→j<4→(Mu.nx m x.1 x.2).toNat=u→tt m x<tn x.2 j→(∀ e,e<4→(0≤Mu.nx l u e↔(0≤Mu.nx m u e∨e=j)))→¬ 0≤Mu.nx m u j→Mu.bh l x=(u,j):=by
  intro u j hu hj e1 e2 e3 e4;rw [ZcK,← ex,e1];refine Prod.ext rfl ?_;dsimp only;rw [e1] at f;have t0:tn x.2 (prv (fun e=>decide (0≤Mu.nx m u e)) x.2)<tn x.2 j:=by
   have:tt m x=tn x.2 (prv (fun e=>decide (0≤Mu.nx m u e)) x.2):=by unfold tt;rw [ZcK,e1]
   rw [← this];exact e2
  have q:=ZnB (decide (0≤Mu.nx m u 0)) (decide (0≤Mu.nx m u 1)) (decide (0≤Mu.nx m u 2)) (decide (0≤Mu.nx m u 3)) ⟨x.2,x4⟩ ⟨j,hj⟩;have se:∀ e,e<4→ZcS (decide (0≤Mu.nx m u 0)) (decide (0≤Mu.nx m u 1)) (decide (0≤Mu.nx m u 2)) (decide (0≤Mu.nx m u 3)) e=decide (0≤Mu.nx m u e):=fun e he=>Zdm (A:=fun e=>decide (0≤Mu.nx m u e)) he;dsimp only at q;rw [se _ hj,se _ (by omega),ZdM (A:=fun e=>decide (0≤Mu.nx m u e)) x4] at q;have q:=q (by rw [decide_eq_false e4,f.2];simp [t0]);refine (ZdW (fun e he=>?_) x4).trans q;rw [se e he];rw [Bool.eq_iff_iff];simp [e3 e he]
 have nw:=fun u e (hu:u<l.length) (he:e<4)=>D.nx u e hu he;constructor
 ·intro e1 e2;have:=nw v d D.hv hd;rw [if_pos (.inl ⟨rfl,rfl⟩)] at this;refine key D.hv hd e1 e2 (fun e he=>?_) (by omega);have n:=nw v e D.hv he;by_cases c:e=d
  ·subst c;rw [D.hn];exact ⟨fun _=>.inr rfl,fun _=>by omega⟩
  ·rw [if_neg (by rintro (q|q);exact c q.2;exact hne q.1.symm)] at n;rw [n];exact ⟨fun q=>.inl q,fun q=>q.resolve_right c⟩
 ·intro e1 e2;have:=nw w ((d+2)%4) D.hw (by omega);rw [if_pos (.inr ⟨rfl,rfl⟩)] at this;refine key D.hw (by omega) e1 e2 (fun e he=>?_) (by omega);have n:=nw w e D.hw he;by_cases c:e=(d+2)%4
  ·subst c;rw [D.hb hc];exact ⟨fun _=>.inr rfl,fun _=>by omega⟩
  ·rw [if_neg (by rintro (q|q);exact hne q.1;exact c q.2)] at n;rw [n];exact ⟨fun q=>.inl q,fun q=>q.resolve_right c⟩
theorem Del.back {l m:List Za}(hc:Ck l) {v d w:Nat}(D:Del l m v d w):∀ {s:List Da}{p q:Da},Pt m p s q→(∀ a∈s,Mu.bh l a≠(v,d)∧Mu.bh l a≠(w,(d+2)%4))→Pt l p s q∧zD l s=zD m s
 | [],p,q,h,_=>⟨h,rfl⟩
 | a::s,p,q,h,hs=>by
  rw [Pt] at h;obtain ⟨rfl,h1,h2⟩:=h;have k:=hs p (by simp);have b:=D.bh hc h1;rw [if_neg k.1,if_neg k.2,if_neg k.1,if_neg k.2] at b;rw [b.1] at h2;obtain ⟨i1,i2⟩:=D.back hc h2 fun a ha=>hs a (List.mem_cons_of_mem _ ha);exact ⟨⟨rfl,(D.isD.1 h1).1,i1⟩,by rw [ZaS,ZaS,i2,b.2]⟩
theorem Del.chord {l m:List Za}(hc:Ck l) (hm:Ck m) {v d w:Nat}(D:Del l m v d w) {A B:List Da}{x y:Da}(hL:Lp m (B++[y]++(A++[x]))) (hx:Mu.bh l x=(v,d)) (hy:Mu.bh l y=(w,(d+2)%4)) :
  Lp l ((w,(d+2)%4)::(B++[y]))∧Lp l ((v,d)::(A++[x])) ∧
  zD l ((w,(d+2)%4)::(B++[y]))=zD m (B++[y])+tt m x-tt m y+2-tn x.2 d+tn y.2 ((d+2)%4) ∧
  zD l ((w,(d+2)%4)::(B++[y]))+zD l ((v,d)::(A++[x]))=zD m (B++[y]++(A++[x]))+4:=by
 have is:=hL.is;obtain ⟨p,P⟩:=hL.pt;obtain ⟨r,P1,P2⟩:=Pt.app.1 P;obtain ⟨y',Q1,Q2⟩:=Pt.app.1 P1;obtain ⟨x',R1,R2⟩:=Pt.app.1 P2;rw [Pt,Pt] at Q2 R2;obtain ⟨rfl,dy,ey⟩:=Q2;obtain ⟨rfl,dx,ex⟩:=R2;have nd:=hL.nd;have ee:=D.ee hc;have bx:=D.bh hc dx;have by':=D.bh hc dy
 rw [hx,if_pos rfl,if_pos rfl] at bx;rw [hy,if_neg ee,if_pos rfl,if_neg ee,if_pos rfl] at by'
 have nd1:=List.nodup_append.1 nd;have nd2:=List.nodup_append.1 nd1.1;have nd3:=List.nodup_append.1 nd1.2.1;have ne1:∀ a∈B,Mu.bh l a≠(v,d)∧Mu.bh l a≠(w,(d+2)%4):=by
  intro a ha;have da:=(D.isD.1 (is a (by simp [ha]))).1;refine ⟨fun q=>?_,fun q=>?_⟩
  ·rw [← hx] at q;have:=ZcJ hc da (D.isD.1 dx).1 q;exact nd1.2.2 a (by simp [ha]) x' (by simp) this
  ·rw [← hy] at q;have:=ZcJ hc da (D.isD.1 dy).1 q;exact nd2.2.2 a ha y' (by simp) this
 have ne2:∀ a∈A,Mu.bh l a≠(v,d)∧Mu.bh l a≠(w,(d+2)%4):=by
  intro a ha;have da:=(D.isD.1 (is a (by simp [ha]))).1;refine ⟨fun q=>?_,fun q=>?_⟩
  ·rw [← hx] at q;have:=ZcJ hc da (D.isD.1 dx).1 q;exact nd3.2.2 a ha x' (by simp) this
  ·rw [← hy] at q;have:=ZcJ hc da (D.isD.1 dy).1 q;exact nd1.2.2 y' (by simp) a (by simp [ha]) this.symm
 obtain ⟨B1,B2⟩:=D.back hc Q1 ne1;obtain ⟨A1,A2⟩:=D.back hc R1 ne2;have e1:Mu.bh l (w,(d+2)%4)=p:=by rw [← bx.1,ex]
 have e2:Mu.bh l (v,d)=r:=by rw [← by'.1,ey]
 have notm:∀ {s:List Da},(∀ a∈s,Mu.isD m a)→(v,d) ∉ s∧(w,(d+2)%4) ∉ s:=fun h=>⟨fun q=>(D.isD.1 (h _ q)).2.1 rfl,fun q=>(D.isD.1 (h _ q)).2.2 rfl⟩;have iB:∀ a∈B++[y'],Mu.isD m a:=fun a ha=>is a (List.mem_append.2 (.inl ha));have iA:∀ a∈A++[x'],Mu.isD m a:=fun a ha=>is a (List.mem_append.2 (.inr ha));have t1:tt l x'=tn x'.2 d:=by unfold tt;rw [hx]
 have t2:tt l y'=tn y'.2 ((d+2)%4):=by unfold tt;rw [hy]
 refine ⟨⟨by simp,List.nodup_cons.2 ⟨(notm iB).2,nd1.1⟩,(w,(d+2)%4),rfl,D.e' hc,?_⟩,⟨by simp,List.nodup_cons.2 ⟨(notm iA).1,nd1.2.1⟩,(v,d),rfl,D.e,?_⟩,?_,?_⟩
 ·rw [e1];exact Pt.app.2 ⟨y',B1,rfl,(D.isD.1 dy).1,hy⟩
 ·rw [e2];exact Pt.app.2 ⟨x',A1,rfl,(D.isD.1 dx).1,hx⟩
 ·rw [ZaS,Zcl,Zcl,ZaS,ZaS,ZcO,ZcO,B2];rw [t2];have:=bx.2;rw [t1] at this;omega
 ·have a1:=bx.2;have a2:=by'.2
  rw [ZaS,ZaS,Zcl,Zcl,Zcl,Zcl,Zcl];simp only [ZaS,ZcO];omega
theorem Del.chord_val {l m:List Za}(hc:Ck l) (hm:Ck m) {v d w:Nat}(D:Del l m v d w) {A B:List Da}{x y:Da}(hL:Lp m (B++[y]++(A++[x]))) (hx:Mu.bh l x=(v,d)) (hy:Mu.bh l y=(w,(d+2)%4)) (h4:zD m (B++[y])+tt m x-tt m y+2-tn x.2 d+tn y.2 ((d+2)%4)=4) (h:Val m):Val l:=by
 obtain ⟨k1,k2,k3,k4⟩:=D.chord hc hm hL hx hy;rw [h4] at k3;obtain ⟨h1,h2⟩:=(Zd5 hm).1 h;have r:=h1 _ hL.cyc;have ee:=D.ee hc;have iA:∀ a∈A++[x],Mu.isD m a:=fun a ha=>hL.is a (List.mem_append.2 (.inr ha));have nA:(w,(d+2)%4) ∉ (v,d)::(A++[x]):=by
  intro q;rcases List.mem_cons.1 q with q|q
  ·exact ee q
  ·exact (D.isD.1 (iA _ q)).2.2 rfl
 have X:Mu.chi l=4:=by
  have a1:=D.cD hc;have a2:=D.cV hc;have b1:=ZeO hc D.e;have b2:=ZeO hc (D.e' hc);rw [D.opp] at b1;rw [← D.opp,Zcv hc D.e,D.opp] at b2;dsimp only at b1 b2
  cases D.kind hc with
  | two A' B' R hA hB hl hm' rot same n1 n2 lm =>
   have f1:=hl.len (Fcs.faces hc);have f2:=hm'.len (Fcs.faces hm);simp only [List.length_cons] at f1 f2;rw [if_neg fun q=>n2 (b2.2 q),if_neg fun q=>n1 (b1.2 q)] at a2;unfold Mu.chi at h2 ⊢;omega
  | one A' B' R hA hl hm' rot same n1 n2 lA lB=>exact absurd (hA.cyc.sub k2.cyc (p:=(v,d)) (by simp) (by simp) (w,(d+2)%4) (by simp)) nA
  | leaf A' R hA hl hm' rot same n=>exact absurd (hA.sub k2.cyc (p:=(v,d)) (by simp) (by simp) (w,(d+2)%4) (by simp)) nA
  | iso R hA hl hm' same n1 n2=>exact absurd (hA.sub k2.cyc (p:=(v,d)) (by simp) (by simp) (w,(d+2)%4) (by simp)) nA
 refine (Zd5 hc).2 ⟨fun f hf=>?_,X⟩;by_cases c1:(v,d)∈f
 ·rw [Zcy (hf.perm k2.cyc c1 (by simp))];omega
 ·by_cases c2:(w,(d+2)%4)∈f
  ·rw [Zcy (hf.perm k1.cyc c2 (by simp))];omega
  ·obtain ⟨q1,q2⟩:=D.keep hc hf c1 c2;rw [← q2];exact h1 f q1
end Mu
/- Layer 20: FrontFirst. -/
namespace Mu
def ZkG (t:List Int):Option Nat:=(List.range t.length).find? fun k=>decide (gi t k<0)
noncomputable def gF (l:List Za) (i:Nat):Option Nat:=if (i:Int)=ZeT l then none else ZkG (tns l (gi (faces l) i))
noncomputable def Zfk (l:List Za):Option Nat:=(List.range (faces l).length).find? fun i=>(gF l i).isSome
theorem Zpf {l:List Za}(hl:l.length≤1200):zJ l=some (if ZcQ l=0∧l.length≠1 then (match Zfk l with|some i=>((i:Int),(((gF l i).getD 0:Nat):Int))|none=>(-1,0)) else (-1,0)):=by
 unfold zJ;rw [Zl1 (by omega),obs];dsimp only;by_cases e:ZcQ l=0
 ·rw [if_pos e];by_cases c:l.length=1
  ·have v:ZeT l=-1:=by unfold ZeT;rw [if_pos c]
   rw [v,if_neg (show ¬ (ZcQ l=0∧l.length≠1) from fun h=>h.2 c),if_pos (by simp)]
  ·have r:=Zle e c;rw [if_pos (show ZcQ l=0∧l.length≠1 from ⟨e,c⟩),if_neg (by simp [e];omega)];obtain ⟨k,w,_⟩:=Zde e;have hc:=(ZcF.1 k).2;obtain ⟨o1,o2,o3,_⟩:=Zdp hc;rw [Zkn (by omega) k,obs];have I:∀ (i:Nat) (t:List Int),t.length≤1000000→ZV (zJ.s1 (ZeT l) i t) big 0=some (if (i:Int)=ZeT l then .inl () else match ZkG t with|some j=>.inr (j:Int)|none=>.inl ()):=by
    intro i t ht;by_cases q:(i:Int)=ZeT l
    ·rw [if_pos q];refine Zdq (n:=1) ?_ (by unfold big;omega);rw [ZV];simp only [zJ.s1];rw [if_neg (by simp [q])]
    ·rw [if_neg q];unfold ZkG;refine ZcA (n:=t.length) (P:=fun k=>decide (gi t k<0)) (f:=fun i=>(i:Int)) (ZaK (by omega)) (fun j hj=>?_) ?_
     ·simp only [zJ.s1];rw [if_pos (by simp [q];omega),Zz (by omega),itn,zR (by omega)];cases decide (gi t j<0)<;>rfl
     ·simp only [zJ.s1];rw [if_neg (by simp)]
   have L:ZV (zJ.s0 l (ZeT l) ((faces l).map (List.map rt))) big 0=some (match (List.range (faces l).length).find? (fun i=>(gF l i).isSome) with|some i=>.inr ((i:Int),(((gF l i).getD 0:Nat):Int))|none=>.inl ()):=by
    refine ZcA (n:=(faces l).length) (P:=fun i=>(gF l i).isSome) (f:=fun i=>((i:Int),(((gF l i).getD 0:Nat):Int))) (ZaK (by omega)) (fun i hi=>?_) ?_
    ·have hm:=ZaH hi;have fl:=o3 _ hm;simp only [zJ.s0,itn];rw [ZU (by simp;omega),Zz (by simp;omega),ZbO hi,Zko (by omega) k (o1 _ hm) (by omega),obs,I i _ (by rw [ZcP];omega),obs];unfold gF;by_cases q:(i:Int)=ZeT l
     ·rw [if_pos q,if_pos q];dsimp only;rw [zR (by omega)];rfl
     ·rw [if_neg q,if_neg q]
      cases ZkG (tns l (gi (faces l) i)) with
      | none=>dsimp only;rw [zR (by omega)];rfl
      | some j=>rfl
    ·simp only [zJ.s0];rw [ZS (by simp)]
   rw [L,obs];unfold Zfk;cases (List.range (faces l).length).find? (fun i=>(gF l i).isSome)<;>rfl
 ·rw [if_neg e,if_neg (show ¬ (ZcQ l=0∧l.length≠1) from fun h=>e h.1),if_pos (by simp [e])]
end Mu
/- Layer 20: what a turn to the right faces,by sums. -/
namespace Mu
def Rng (t:List Int):Prop:=∀ i,-2≤gi t i∧gi t i≤1
def cs (t:List Int) (i:Nat):Nat→Int
 | 0=>0
 | k+1=>cs t i k+gi t ((i+k)%t.length)
theorem Zll {t:List Int}(h:Rng t) {i:Nat}:∀ k:Nat,-2*(k:Int)≤cs t i k∧cs t i k≤k
 | 0=>by simp [cs]
 | k+1=>by
  have:=Zll h (i:=i) k;have:=h ((i+k)%t.length);rw [cs];omega
theorem ZjM {t:List Int}{i:Nat}(hi:i<t.length):∀ k,k≤t.length→cs t i k=if i+k≤t.length then Zdu t (i+k)-Zdu t i else Zdu t t.length-Zdu t i+Zdu t (i+k-t.length)
 | 0,_=>by rw [if_pos (by omega),cs];simp
 | k+1,hk=>by
  rw [cs,ZjM hi k (by omega)];by_cases c:i+(k+1)≤t.length
  ·rw [if_pos (by omega),if_pos c,Nat.mod_eq_of_lt (by omega),show i+(k+1)=(i+k)+1 by omega,Zdu];omega
  ·rw [if_neg c];by_cases c2:i+k≤t.length
   ·have e:i+k=t.length:=by omega
    rw [if_pos c2,e,Nat.mod_self,show i+(k+1)-t.length=0+1 by omega,Zdu,Zdu];omega
   ·rw [if_neg c2,show i+(k+1)-t.length=(i+k-t.length)+1 by omega,Zdu,Nat.mod_eq_sub_mod (by omega),Nat.mod_eq_of_lt (by omega)];omega
theorem ZhE {t:List Int}:∀ n,n≤t.length→Zdu t n=(t.take n).sum
 | 0,_=>by simp [Zdu]
 | n+1,h=>by rw [Zdu,ZhE n (by omega),Zh4 (by omega)]
theorem ZfL {t:List Int}:Zdu t t.length=t.sum:=by rw [ZhE _ (Nat.le_refl _),List.take_length]
theorem Zsq {t:List Int}(h:Rng t) (hs:t.sum=4) {i:Nat}(hi:i<t.length) (h0:gi t i<0):∃ k,0<k∧k+1<t.length∧cs t i (k+1)=1∧(∀ j,j<k→cs t i (j+1)≠1)∧cs t i k=0∧gi t ((i+k)%t.length)=1:=by
 have all:cs t i t.length=4:=by
  rw [ZjM hi _ (Nat.le_refl _),ZfL,hs];split
  ·have:i=0:=by omega
   subst this;rw [show 0+t.length=t.length by omega,ZfL,hs,Zdu];rfl
  ·rw [show i+t.length-t.length=i by omega];omega
 have first:cs t i 1=gi t i:=by rw [cs,cs,Nat.add_zero,Nat.mod_eq_of_lt hi];omega
 have key:∀ n,1≤n→1≤cs t i n→∃ k,0<k∧k+1≤n∧cs t i (k+1)=1∧(∀ j,j<k+1→cs t i j≤0):=by
  intro n
  induction n with
  | zero=>intro h1 _;omega
  | succ n ih =>
   intro _ h2;by_cases c:∃ j,j<n+1∧1≤cs t i j
   ·obtain ⟨j,hj,hc⟩:=c
    -- a smaller one
    have:∀ m,m≤n→1≤cs t i m→∃ k,0<k∧k+1≤n∧cs t i (k+1)=1∧(∀ j,j<k+1→cs t i j≤0):=by
     intro m
     induction m with
     | zero=>intro _ h3;rw [cs] at h3;omega
     | succ m ihm =>
      intro hm h3;by_cases c:1≤cs t i n
      ·exact ih (by
        by_cases q:n=0
        ·subst q;rw [cs] at c;omega
        ·omega) c
      ·by_cases c2:∃ j,j<m+1∧1≤cs t i j
       ·obtain ⟨j,hj,hc⟩:=c2;by_cases q:j=m
        ·subst q;exact ihm (by omega) hc
        ·-- go down
         have down:∀ r,r≤m→1≤cs t i r→∃ k,0<k∧k+1≤n∧cs t i (k+1)=1∧(∀ j,j<k+1→cs t i j≤0):=by
          intro r
          induction r using Nat.strongRecOn with
          | _ r ihr =>
           intro hr h4;by_cases c3:∃ j,j<r∧1≤cs t i j
           ·obtain ⟨j,hj,hc⟩:=c3;exact ihr j hj (by omega) hc
           ·cases r with
            | zero=>rw [cs] at h4;omega
            | succ r =>
             have z:∀ j,j<r+1→cs t i j≤0:=fun j hj=>by
              refine Classical.byContradiction fun q=>c3 ⟨j,hj,by omega⟩
             have:=z r (by omega);have g:=h ((i+r)%t.length);have e:=h4;rw [cs] at e;refine ⟨r,?_,by omega,?_,z⟩
             ·by_cases q:r=0
              ·subst q;rw [first] at h4;omega
              ·omega
             ·rw [cs];omega
         exact down j (by omega) hc
       ·have z:∀ j,j<m+1→cs t i j≤0:=fun j hj=>by
         refine Classical.byContradiction fun q=>c2 ⟨j,hj,by omega⟩
        have:=z m (by omega);have g:=h ((i+m)%t.length);have e:=h3;rw [cs] at e;refine ⟨m,?_,by omega,?_,z⟩
        ·by_cases q:m=0
         ·subst q;rw [first] at h3;omega
         ·omega
        ·rw [cs];omega
    obtain ⟨k,a,b,c,d⟩:=this j (by omega) hc;exact ⟨k,a,by omega,c,d⟩
   ·have z:∀ j,j<n+1→cs t i j≤0:=fun j hj=>by
     refine Classical.byContradiction fun q=>c ⟨j,hj,by omega⟩
    have:=z n (by omega);have g:=h ((i+n)%t.length);have e:=h2;rw [cs] at e;refine ⟨n,?_,by omega,?_,z⟩
    ·by_cases q:n=0
     ·subst q;rw [first] at h2;omega
     ·omega
    ·rw [cs];omega
 obtain ⟨k,a,b,c,d⟩:=key t.length (by omega) (by omega);have z:=d k (by omega);have c':=c;rw [cs] at c';have g:=h ((i+k)%t.length);refine ⟨k,a,?_,c,fun j hj=>by have:=d (j+1) (by omega);omega,by omega,by omega⟩;by_cases q:k+1=t.length
 ·rw [q] at c;omega
 ·omega
def Zp9 (t:List Int) (i:Nat):Prop:=gi t i<0∧∀ j,j<t.length→cs t i (j+1)≠1
theorem ZkJ {f:Nat→Int}:∀ n,0<n→∃ i,i<n∧(∀ j,j<n→f j≤f i)∧∀ j,i<j→j<n→f j<f i
 | 1,_=>⟨0,by omega,fun j hj=>by rw [show j=0 by omega];exact Int.le_refl _,fun j h1 h2=>by omega⟩
 | n+2,_=>by
  obtain ⟨i,h1,h2,h3⟩:=ZkJ (f:=f) (n+1) (by omega);by_cases c:f i≤f (n+1)
  ·refine ⟨n+1,by omega,fun j hj=>?_,fun j h4 h5=>by omega⟩;by_cases q:j=n+1
   ·subst q;omega
   ·have:=h2 j (by omega);omega
  ·refine ⟨i,by omega,fun j hj=>?_,fun j h4 h5=>?_⟩
   ·by_cases q:j=n+1
    ·subst q;omega
    ·exact h2 j (by omega)
   ·by_cases q:j=n+1
    ·subst q;omega
    ·exact h3 j h4 (by omega)
theorem ZrI {t:List Int}(hs:t.sum=-4):∃ i,i<t.length∧Zp9 t i:=by
 have h0:0<t.length:=by
  cases t with
  | nil=>simp at hs
  | cons a t=>simp
 obtain ⟨i,h1,h2,h3⟩:=ZkJ (f:=Zdu t) t.length h0;have p0:Zdu t 0=0:=rfl;have m0:=h2 0 h0;refine ⟨i,h1,?_,fun j hj=>?_⟩
 ·by_cases c:i+1<t.length
  ·have:=h3 (i+1) (by omega) c;rw [Zdu] at this;omega
  ·have e:i+1=t.length:=by omega
   have:Zdu t (i+1)=-4:=by rw [e,ZfL,hs]
   rw [Zdu] at this;omega
 ·rw [ZjM h1 _ (by omega),ZfL,hs];split
  ·by_cases c:i+(j+1)=t.length
   ·rw [c,ZfL,hs];omega
   ·have:=h2 (i+(j+1)) (by omega);omega
  ·have:=h2 (i+(j+1)-t.length) (by omega);omega
end Mu
/- A cut: an edge split,and a corner joined to it. -/
namespace Mu
/-! Faces,once round from their first ZcH. -/
theorem ZlB {l:List Za}(hc:Ck l) {M:List Da}(hM:Mets l M) (cl:∀ p∈M,bh l p∈M) {x:Da}(hx:isD l x) (hn:x ∉ M):∃ K,walk l (4*l.length+1) M x=(List.range K).map (fun i=>it l i x)∧it l K x=x:=by
 obtain ⟨K,e1,e2⟩:=Zil hc (4*l.length+1) M x hM hx (by omega);obtain ⟨C,_⟩:=Zh5 hc hM cl hx hn;refine ⟨K,e1,?_⟩;have wnd:=C.nd;have notM:∀ i,it l i x ∉ M:=by
  intro i
  induction i with
  | zero=>exact hn
  | succ i ih=>exact fun h=>ih (Zgy hc hM cl (Zfm hc hx i) h)
 rcases List.mem_append.1 e2 with h|h
 ·exact absurd h (notM K)
 ·rw [e1] at h wnd;obtain ⟨j,hj,e⟩:=List.mem_map.1 h;rw [List.mem_range] at hj
  cases j with
  | zero=>exact e.symm
  | succ j =>
   cases K with
   | zero=>omega
   | succ K =>
    have:=ZcJ hc (Zfm hc hx j) (Zfm hc hx K) e;have q:=List.pairwise_map.1 wnd;rw [List.pairwise_iff_getElem] at q;have q2:=q j K (by simp;omega) (by simp) (by omega);rw [List.getElem_range,List.getElem_range] at q2;exact absurd this q2
def Round (l:List Za) (f:List Da):Prop:=∃ x,isD l x∧f=(List.range f.length).map (fun i=>it l i x)∧it l f.length x=x
theorem Round.of {l:List Za}{f:List Da}{x:Da}{K:Nat}(hx:isD l x) (h:f=(List.range K).map (fun i=>it l i x)) (h2:it l K x=x):Round l f:=by
 have:f.length=K:=by rw [h];simp
 exact ⟨x,hx,by rw [this];exact h,by rw [this];exact h2⟩
structure FR (l:List Za) (s:List Da×List (List Da)):Prop where
 fc:FC l s
 rd:∀ f∈s.2,Round l f
theorem FR.st {l:List Za}(hc:Ck l) {s:List Da×List (List Da)}(h:FR l s) {p:Da}(h1:p.1<l.length) (h2:p.2<4):FR l (stF l s p):=by
 refine ⟨h.fc.st hc h1 h2,?_⟩;unfold stF;split
 ·exact h.rd
 ·rename_i c;intro f hf;rcases List.mem_append.1 hf with k|k
  ·exact h.rd f k
  ·rw [List.mem_singleton.1 k];have hp:isD l p:=⟨h1,h2,by omega⟩;obtain ⟨K,a,b⟩:=ZlB hc h.fc.fi.m h.fc.cl hp fun q=>c (.inr q);exact Round.of hp a b
theorem FR.row {l:List Za}(hc:Ck l) {s:List Da×List (List Da)}(h:FR l s) {v:Nat}(hv:v<l.length):∀ e,e≤4→FR l (Zhd l v s e)
 | 0,_=>h
 | e+1,he=>(FR.row hc h hv e (by omega)).st hc hv (by dsimp only;omega)
theorem Zkw {l:List Za}(hc:Ck l):∀ v,v≤l.length→FR l (FS l v)
 | 0,_=>⟨Zlf hc 0 (by omega),by simp [FS]⟩
 | v+1,hv=>(Zkw hc v (by omega)).row hc (by omega) 4 (by omega)
theorem ZhQ {l:List Za}(hc:Ck l):∀ f∈faces l,Round l f:=(Zkw hc l.length (by omega)).rd
theorem Zns {l:List Za}{x:Da}(a:Nat):∀ b,it l (a+b) x=it l b (it l a x)
 | 0=>rfl
 | b+1=>by rw [← Nat.add_assoc,it,Zns a b];rfl
theorem Zi7 {l:List Za}{x:Da}{n:Nat}(h:it l n x=x):∀ k i,it l (i+n*k) x=it l i x
 | 0,i=>by rw [Nat.mul_zero,Nat.add_zero]
 | k+1,i=>by rw [Nat.mul_succ,← Nat.add_assoc,Nat.add_comm _ n,Zns,h,Zi7 h k i]
theorem Zqk {l:List Za}{x:Da}{n:Nat}(h:it l n x=x) (i:Nat):it l (i%n) x=it l i x:=by
 have:=Zi7 h (i / n) (i%n);rw [Nat.mod_add_div] at this;exact this.symm
theorem Round.at {l:List Za}{f:List Da}{x:Da}(h:f=(List.range f.length).map (fun i=>it l i x)) (h2:it l f.length x=x) {i:Nat}(hf:0<f.length):gi f (i%f.length)=it l i x:=by
 have lt:i%f.length<f.length:=Nat.mod_lt _ hf;have:gi f (i%f.length)=gi ((List.range f.length).map (fun i=>it l i x)) (i%f.length):=by rw [← h]
 rw [this,Zcu lt,Zqk h2]
def seg (l:List Za) (x:Da) (a n:Nat):List Da:=(List.range n).map fun i=>it l (a+i) x
theorem Zl7 {l:List Za}(hc:Ck l) {x:Da}(hx:isD l x) {a:Nat}:∀ n,Pt l (it l a x) (seg l x a n) (it l (a+n) x)
 | 0=>rfl
 | n+1=>by
  unfold seg;rw [List.range_succ,List.map_append,Pt.app];exact ⟨_,Zl7 hc hx n,rfl,Zfm hc hx _,rfl⟩
theorem Zf0 {l:List Za}{x:Da}{a m:Nat}:∀ n,seg l x a (m+n)=seg l x a m++seg l x (a+m) n
 | 0=>by simp [seg]
 | n+1=>by
  have ih:=Zf0 (l:=l) (x:=x) (a:=a) (m:=m) n;unfold seg at ih ⊢;rw [← Nat.add_assoc,List.range_succ,List.map_append,ih,List.range_succ,List.map_append,List.append_assoc];simp [Nat.add_assoc]
theorem ZgI {l:List Za}{x:Da}{a:Nat}:seg l x a 1=[it l a x]:=by simp [seg]
theorem ZnM {l:List Za}{x:Da}{a n:Nat}:zD l (seg l x a (n+1))=zD l (seg l x a n)+tt l (it l (a+n) x):=by
 rw [Zf0,Zcl,ZgI,ZaS,ZcO];omega
theorem ZiR {l:List Za}{x:Da}{n:Nat}(h:it l n x=x) (h0:0<n):∀ a,(seg l x a n).Perm (seg l x 0 n)
 | 0=>List.Perm.refl _
 | a+1=>by
  refine List.Perm.trans ?_ (ZiR h h0 a);obtain ⟨m,rfl⟩:∃ m,n=1+m:=⟨n-1,by omega⟩;have e1:seg l x (a+1) (1+m)=seg l x (a+1) m++[it l (a+1+m) x]:=by rw [Nat.add_comm 1 m,Zf0,ZgI]
  have e2:seg l x a (1+m)=[it l a x]++seg l x (a+1) m:=by rw [Zf0,ZgI]
  have e3:it l (a+1+m) x=it l a x:=by
   have:=Zi7 h 1 a;rw [Nat.mul_one] at this;rw [← this,Nat.add_assoc]
  rw [e1,e2,e3];exact List.perm_append_comm
theorem Zoa {d e:Nat}(hd:d<4) (he:e<4):∃ k:Int,(e:Int)=d+tn d e+4*k:=by
 have a:d=0∨d=1∨d=2∨d=3:=by omega
 have b:e=0∨e=1∨e=2∨e=3:=by omega
 rcases a with rfl|rfl|rfl|rfl<;>rcases b with rfl|rfl|rfl|rfl<;>first|exact ⟨0,by decide⟩|exact ⟨1,by decide⟩|exact ⟨-1,by decide⟩
theorem Pt.dir {l:List Za}(hc:Ck l):∀ {s:List Da}{x y:Da},Pt l x s y→∃ k:Int,(y.2:Int)=x.2+zD l s+4*k
 | [],x,y,h=>by
  rw [Pt] at h;subst h;exact ⟨0,by rw [ZcO];omega⟩
 | a::s,x,y,h=>by
  rw [Pt] at h;obtain ⟨rfl,h1,h2⟩:=h;obtain ⟨k,e⟩:=Pt.dir hc h2;obtain ⟨k',e'⟩:=Zoa h1.2.1 (h1.bh hc).2.1;refine ⟨k+k',?_⟩;rw [ZaS];unfold tt;omega
/-! Edges split. -/
section spl
variable {l:List Za}{a b w:Nat}
def Zd8 (l:List Za) (a b w:Nat) (p:Da):List Da:=if p=(a,b) then [p,(l.length,b)] else if p=(w,(b+2)%4) then [p,(l.length,(b+2)%4)] else [p]
structure Sp (l m:List Za) (a b w:Nat):Prop where
 ck:Ck m
 len:m.length=l.length+1
 ha:a<l.length
 hb:b<4
 hw:w<l.length
 hn:nx l a b=w
 hne:w≠a
 nx:∀ i e,i≤l.length→e<4→nx m i e=(if i=l.length then (if e=b then (w:Int) else if e=(b+2)%4 then (a:Int) else -1) else if i=w∧e=(b+2)%4 then (l.length:Int) else if i=a∧e=b then (l.length:Int) else nx l i e)
 ow:∀ i e,i≤l.length→e<4→ow m i e=(if i=l.length then (if e=b then ow l a b else if e=(b+2)%4 then ow l a b else 0) else if i=w∧e=(b+2)%4 then ow l a b else if i=a∧e=b then ow l a b else ow l i e)
theorem Sp.of (hc:Ck l) (ha:a<l.length) (hb:b<4) (hn:Mu.nx l a b=w):Sp l (spl l a b w (Mu.ow l a b)) a b w:=by
 obtain ⟨h1,h2,h3⟩:=hc.spl ha hb hn;exact ⟨h3,Zmg,ha,hb,h1,hn,h2,fun i e hi he=>(Zlx ha h1 hb hi he).1,fun i e hi he=>(Zlx ha h1 hb hi he).2⟩
variable {m:List Za}
theorem Sp.back (hc:Ck l) (S:Sp l m a b w):Mu.nx l w ((b+2)%4)=a:=(hc.back' S.ha S.hb S.hn).2
theorem Sp.old (hc:Ck l) (S:Sp l m a b w) {i e:Nat}(hi:i<l.length) (he:e<4):0≤Mu.nx m i e↔0≤Mu.nx l i e:=by
 rw [S.nx i e (by omega) he,if_neg (by omega)];have:=S.back hc;have:=S.hn;by_cases c1:i=w∧e=(b+2)%4
 ·rw [if_pos c1,c1.1,c1.2];omega
 ·rw [if_neg c1];by_cases c2:i=a∧e=b
  ·rw [if_pos c2,c2.1,c2.2];omega
  ·rw [if_neg c2]
theorem Sp.y (S:Sp l m a b w):isD l (a,b):=⟨S.ha,S.hb,by rw [S.hn];omega⟩
theorem Sp.oy (S:Sp l m a b w):opp l (a,b)=(w,(b+2)%4):=by unfold opp;dsimp only;rw [S.hn,itn]
theorem Sp.y' (hc:Ck l) (S:Sp l m a b w):isD l (w,(b+2)%4):=by rw [← S.oy];exact S.y.opp hc
theorem Sp.is (hc:Ck l) (S:Sp l m a b w) {p:Da}(h:isD l p):isD m p:=⟨by rw [S.len];have:=h.1;omega,h.2.1,(S.old hc h.1 h.2.1).2 h.2.2⟩
theorem Sp.bh0 (hc:Ck l) (S:Sp l m a b w) {p:Da}(h:isD l p) (h1:p≠(a,b)) (h2:p≠(w,(b+2)%4)):Mu.nx m p.1 p.2=Mu.nx l p.1 p.2∧bh m p=bh l p:=by
 have f:=h.fwd hc;have hlt:=h.1;have e:Mu.nx m p.1 p.2=Mu.nx l p.1 p.2:=by
  rw [S.nx p.1 p.2 (by omega) h.2.1,if_neg (by omega),if_neg fun q=>h2 (Prod.ext q.1 q.2),if_neg fun q=>h1 (Prod.ext q.1 q.2)]
 refine ⟨e,?_⟩;rw [ZcK,ZcK,e];refine congrArg (Prod.mk _) (ZdW (fun e he=>?_) h.2.1);rw [decide_eq_decide];exact S.old hc f.1 he
theorem Sp.bh1 (hc:Ck l) (S:Sp l m a b w):Mu.nx m a b=l.length∧bh m (a,b)=(l.length,b)∧bh m (l.length,b)=bh l (a,b)∧bh m (w,(b+2)%4)=(l.length,(b+2)%4)∧bh m (l.length,(b+2)%4)=bh l (w,(b+2)%4):=by
 have hb:=S.hb;have hne:=S.hne;have ha:=S.ha;have hw:=S.hw;have e1:Mu.nx m a b=l.length:=by rw [S.nx a b (by omega) hb,if_neg (by omega),if_neg fun q=>hne q.1.symm,if_pos ⟨rfl,rfl⟩]
 have e2:Mu.nx m w ((b+2)%4)=l.length:=by rw [S.nx w _ (by omega) (by omega),if_neg (by omega),if_pos ⟨rfl,rfl⟩]
 have e3:Mu.nx m l.length b=w:=by rw [S.nx _ b (by omega) hb,if_pos rfl,if_pos rfl]
 have e4:Mu.nx m l.length ((b+2)%4)=a:=by rw [S.nx _ _ (by omega) (by omega),if_pos rfl,if_neg (by omega),if_pos rfl]
 have ne1:Mu.nx m l.length ((b+1)%4)=-1:=by rw [S.nx _ _ (by omega) (by omega),if_pos rfl,if_neg (by omega),if_neg (by omega)]
 have ne3:Mu.nx m l.length ((b+3)%4)=-1:=by rw [S.nx _ _ (by omega) (by omega),if_pos rfl,if_neg (by omega),if_neg (by omega)]
 refine ⟨e1,?_,?_,?_,?_⟩
 ·unfold bh;dsimp only;rw [e1,itn,ne1,e3,if_neg (by omega),if_pos (by omega)]
 ·rw [ZcK,ZcK];dsimp only;rw [e3,S.hn,itn];exact congrArg (Prod.mk _) (ZdW (fun e he=>by rw [decide_eq_decide];exact S.old hc hw he) hb)
 ·unfold bh;dsimp only;rw [e2,itn,show ((b+2)%4+1)%4=(b+3)%4 by omega,ne3,e4,if_neg (by omega),if_pos (by omega)]
 ·rw [ZcK,ZcK];dsimp only;rw [e4,S.back hc,itn];exact congrArg (Prod.mk _) (ZdW (fun e he=>by rw [decide_eq_decide];exact S.old hc ha he) (by omega))
theorem Sp.ins (hc:Ck l) (S:Sp l m a b w):Ins l m (Zd8 l a b w):=by
 have hb:=S.hb;have hne:=S.hne;have ha:=S.ha;have hw:=S.hw;obtain ⟨n1,b1,b2,b3,b4⟩:=S.bh1 hc;have n3:Mu.nx m l.length b=w:=by rw [S.nx _ b (by omega) hb,if_pos rfl,if_pos rfl]
 have n4:Mu.nx m l.length ((b+2)%4)=a:=by rw [S.nx _ _ (by omega) (by omega),if_pos rfl,if_neg (by omega),if_pos rfl]
 have yy:((w,(b+2)%4):Da)≠(a,b):=fun q=>hne (congrArg Prod.fst q);have U1:isD m (l.length,b):=⟨by rw [S.len];dsimp only;omega,hb,by dsimp only;rw [n3];omega⟩;have U2:isD m (l.length,(b+2)%4):=⟨by rw [S.len];dsimp only;omega,by dsimp only;omega,by dsimp only;rw [n4];omega⟩;have hd:∀ p,isD l p→p∈Zd8 l a b w p:=by
  intro p _;unfold Zd8;split
  ·simp
  ·split<;>simp
 refine ⟨fun p hp e=>?_,fun p hp=>?_,fun p hp x hx=>?_,fun p q hp hq x h1 h2=>?_,fun p hp=>?_,fun p hp x hx=>?_,fun C hC p hp hx y hy=>?_,fun x hx=>?_⟩
 ·have:=hd p hp;rw [e] at this;simp at this
 ·have:=hp.1;unfold Zd8;split
  ·rename_i c;rw [c];simp;omega
  ·split
   ·rename_i c;rw [c];simp;omega
   ·simp
 ·unfold Zd8 at hx;split at hx
  ·rcases List.mem_cons.1 hx with rfl|hx
   ·exact S.is hc hp
   ·rw [List.mem_singleton.1 hx];exact U1
  ·split at hx
   ·rcases List.mem_cons.1 hx with rfl|hx
    ·exact S.is hc hp
    ·rw [List.mem_singleton.1 hx];exact U2
   ·rw [List.mem_singleton.1 hx];exact S.is hc hp
 ·have hp1:=hp.1;have hq1:=hq.1;have key:∀ {p x},isD l p→x∈Zd8 l a b w p→x=p∨(x=(l.length,b)∧p=(a,b))∨(x=(l.length,(b+2)%4)∧p=(w,(b+2)%4)):=by
   intro p x hp h;unfold Zd8 at h;split at h
   ·rename_i c;rcases List.mem_cons.1 h with h|h
    ·exact .inl h
    ·exact .inr (.inl ⟨List.mem_singleton.1 h,c⟩)
   ·split at h
    ·rename_i c;rcases List.mem_cons.1 h with h|h
     ·exact .inl h
     ·exact .inr (.inr ⟨List.mem_singleton.1 h,c⟩)
    ·exact .inl (List.mem_singleton.1 h)
  rcases key hp h1 with k|⟨k,k'⟩|⟨k,k'⟩<;>rcases key hq h2 with r|⟨r,r'⟩|⟨r,r'⟩
  ·rw [← k,r]
  ·rw [← k,r] at hp1;dsimp only at hp1;omega
  ·rw [← k,r] at hp1;dsimp only at hp1;omega
  ·rw [← r,k] at hq1;dsimp only at hq1;omega
  ·rw [k',r']
  ·rw [k] at r;injection r with _ r;omega
  ·rw [← r,k] at hq1;dsimp only at hq1;omega
  ·rw [k] at r;injection r with _ r;omega
  ·rw [k',r']
 ·unfold Zd8;split
  ·rename_i c;subst c;simp only [List.map_cons,List.map_nil,List.sum_cons,List.sum_nil,b1,b2];have:tn b b=0:=by unfold tn;rw [if_pos rfl]
   omega
  ·split
   ·rename_i c;subst c;simp only [List.map_cons,List.map_nil,List.sum_cons,List.sum_nil,b3,b4];have:tn ((b+2)%4) ((b+2)%4)=0:=by unfold tn;rw [if_pos rfl]
    omega
   ·rename_i c1 c2;simp only [List.map_cons,List.map_nil,List.sum_cons,List.sum_nil,(S.bh0 hc hp c1 c2).2];omega
 ·unfold Zd8 at hx;split at hx
  ·rename_i c;rcases List.mem_cons.1 hx with rfl|hx
   ·subst c;rw [b1];left;unfold Zd8;rw [if_pos rfl];simp
   ·rw [List.mem_singleton.1 hx,b2,c];right;exact hd _ (S.y.bh hc)
  ·split at hx
   ·rename_i c;rcases List.mem_cons.1 hx with rfl|hx
    ·subst c;rw [b3];left;unfold Zd8;rw [if_neg yy,if_pos rfl];simp
    ·rw [List.mem_singleton.1 hx,b4,c];right;exact hd _ ((S.y' hc).bh hc)
   ·rename_i c1 c2;rw [List.mem_singleton.1 hx,(S.bh0 hc hp c1 c2).2];right;exact hd _ (hp.bh hc)
 ·-- one's first dart,then all
  have all:∀ q,isD l q→C q→∀ y∈Zd8 l a b w q,C y:=by
   intro q hq hCq y hy;unfold Zd8 at hy;split at hy
   ·rename_i c;subst c;rcases List.mem_cons.1 hy with rfl|hy
    ·exact hCq
    ·rw [List.mem_singleton.1 hy,← b1];exact hC _ (S.is hc hq) hCq
   ·split at hy
    ·rename_i c;subst c;rcases List.mem_cons.1 hy with rfl|hy
     ·exact hCq
     ·rw [List.mem_singleton.1 hy,← b3];exact hC _ (S.is hc hq) hCq
    ·rw [List.mem_singleton.1 hy];exact hCq
  refine all _ (hp.bh hc) ?_ y hy;obtain ⟨x,hx,hCx⟩:=hx;unfold Zd8 at hx;split at hx
  ·rename_i c;subst c;have:C (l.length,b):=by
    rcases List.mem_cons.1 hx with rfl|hx
    ·rw [← b1];exact hC _ (S.is hc hp) hCx
    ·rw [← List.mem_singleton.1 hx];exact hCx
   rw [← b2];exact hC _ U1 this
  ·split at hx
   ·rename_i c;subst c;have:C (l.length,(b+2)%4):=by
     rcases List.mem_cons.1 hx with rfl|hx
     ·rw [← b3];exact hC _ (S.is hc hp) hCx
     ·rw [← List.mem_singleton.1 hx];exact hCx
    rw [← b4];exact hC _ U2 this
   ·rename_i c1 c2;rw [List.mem_singleton.1 hx] at hCx;rw [← (S.bh0 hc hp c1 c2).2];exact hC _ (S.is hc hp) hCx
 ·have h1:=hx.1;have h2:=hx.2.1;rw [S.len] at h1;by_cases c:x.1=l.length
  ·have h3:=hx.2.2;rw [S.nx x.1 x.2 (by omega) h2,if_pos c] at h3;by_cases c1:x.2=b
   ·refine ⟨(a,b),S.y,?_⟩;unfold Zd8;rw [if_pos rfl];have:x=(l.length,b):=Prod.ext c c1;rw [this];simp
   ·rw [if_neg c1] at h3;by_cases c2:x.2=(b+2)%4
    ·refine ⟨(w,(b+2)%4),S.y' hc,?_⟩;unfold Zd8;rw [if_neg yy,if_pos rfl];have:x=(l.length,(b+2)%4):=Prod.ext c c2;rw [this];simp
    ·rw [if_neg c2] at h3;omega
  ·have:isD l x:=⟨by omega,h2,(S.old hc (by omega) h2).1 hx.2.2⟩;exact ⟨x,this,hd x this⟩
theorem Sp.val (hc:Ck l) (S:Sp l m a b w) (h:Val l):Val m:=((S.ins hc).val hc S.ck (Zj9 hc) (Zj9 S.ck)).1 h
theorem Sp.Pt (hc:Ck l) (S:Sp l m a b w):∀ {s:List Da}{x y:Da},Mu.Pt l x s y→Mu.Pt m x (s.flatMap (Zd8 l a b w)) y
 | [],x,y,h=>h
 | p::s,x,y,h=>by
  rw [Mu.Pt] at h;obtain ⟨rfl,h1,h2⟩:=h;obtain ⟨n1,b1,b2,b3,b4⟩:=S.bh1 hc;have I:=S.ins hc;rw [List.flatMap_cons];refine Pt.app.2 ⟨bh l x,?_,S.Pt hc h2⟩;have is:=fun z hz=>I.is x h1 z hz;unfold Zd8 at is ⊢;split
  ·rename_i c;rw [if_pos c] at is;subst c;refine ⟨rfl,is _ (by simp),?_⟩;rw [b1];exact ⟨rfl,is _ (by simp),b2⟩
  ·rename_i c;rw [if_neg c] at is;split
   ·rename_i c2;rw [if_pos c2] at is;subst c2;refine ⟨rfl,is _ (by simp),?_⟩;rw [b3];exact ⟨rfl,is _ (by simp),b4⟩
   ·rename_i c2;exact ⟨rfl,S.is hc h1,(S.bh0 hc h1 c c2).2⟩
theorem Sp.Lp (hc:Ck l) (S:Sp l m a b w) {f:List Da}(h:Mu.Lp l f):Mu.Lp m (f.flatMap (Zd8 l a b w)):=by
 have C:=(S.ins hc).cyc hc h.cyc;obtain ⟨x,hx⟩:=h.pt;exact ⟨C.ne,C.nd,x,S.Pt hc hx⟩
theorem Sp.whole (hc:Ck l) (S:Sp l m a b w) (h:Mu.whole l):Mu.whole m:=by
 have h0:=ZfO h
 -- each old cell is reached: through the new one where the edge was
 have e1:=S.nx a b (by have:=S.ha;omega) S.hb;have hne:=S.hne;have ha:=S.ha;have hw:=S.hw;have hb:=S.hb;rw [if_neg (by omega),if_neg (fun q=>hne q.1.symm),if_pos ⟨rfl,rfl⟩] at e1;have e2:Mu.nx m w ((b+2)%4)=l.length:=by rw [S.nx w _ (by omega) (by omega),if_neg (by omega),if_pos ⟨rfl,rfl⟩]
 have e3:Mu.nx m l.length b=w:=by rw [S.nx _ b (by omega) hb,if_pos rfl,if_pos rfl]
 have e4:Mu.nx m l.length ((b+2)%4)=a:=by rw [S.nx _ _ (by omega) (by omega),if_pos rfl,if_neg (by omega),if_pos rfl]
 have old:∀ {u n},Rch l 0 n u→∃ k,Rch m 0 k u:=by
  intro u n hr
  induction hr with
  | zero=>exact ⟨0,.zero⟩
  | succ hr hab ih =>
   rename_i n p q;obtain ⟨k,r⟩:=ih;have hp:=hr.lt hc h0;obtain ⟨d,hd,e⟩:=hab;have n:=S.nx p d (by omega) hd;rw [if_neg (by omega)] at n;by_cases c1:p=w∧d=(b+2)%4
   ·have:q=a:=by
     have:=S.back hc;rw [← c1.1,← c1.2,e] at this;omega
    subst this;rw [if_pos c1] at n;exact ⟨k+1+1,.succ (.succ r ⟨d,hd,n⟩) ⟨_,by omega,e4⟩⟩
   ·rw [if_neg c1] at n;by_cases c2:p=a∧d=b
    ·have:q=w:=by
      have:=S.hn;rw [← c2.1,← c2.2,e] at this;omega
     subst this;rw [if_pos c2] at n;exact ⟨k+1+1,.succ (.succ r ⟨d,hd,n⟩) ⟨_,hb,e3⟩⟩
    ·rw [if_neg c2,e] at n;exact ⟨k+1,.succ r ⟨d,hd,n⟩⟩
 refine ZiW (by rw [S.len];omega) fun u hu=>?_;rw [S.len] at hu;by_cases c:u=l.length
 ·subst c;obtain ⟨n,r⟩:=ZdY h ha;obtain ⟨k,r⟩:=old r;exact ⟨k+1,.succ r ⟨b,hb,e1⟩⟩
 ·obtain ⟨n,r⟩:=ZdY h (w:=u) (by omega);exact old r
end spl
end Mu
/- A cut of a face that turns to the right: what comes of it. -/
namespace Mu
def ng (t:Int):Int:=if t<0 then -t else 0
def negs (l:List Za):Int:=((ZcH l).map fun p=>ng (tt l p)).sum
theorem Ins.perm {l m:List Za}{ins:Da→List Da}(I:Ins l m ins):(ZcH m).Perm ((ZcH l).flatMap ins):=by
 refine (List.perm_ext_iff_of_nodup ZdE ?_).2 fun x=>?_
 ·rw [List.Nodup,List.pairwise_flatMap];refine ⟨fun p hp=>I.nd p (ZbD.1 hp),(ZdE (l:=l)).imp_of_mem ?_⟩;intro p q hp hq hne x hx y hy e;subst e;exact hne (I.dj p q (ZbD.1 hp) (ZbD.1 hq) x hx hy)
 ·rw [ZbD,List.mem_flatMap];constructor
  ·intro hx;obtain ⟨p,hp,h⟩:=I.al x hx;exact ⟨p,ZbD.2 hp,h⟩
  ·rintro ⟨p,hp,h⟩;exact I.is p (ZbD.1 hp) x h
theorem ZhX {g:Da→Int}{ins:Da→List Da}:∀ {L:List Da},((L.flatMap ins).map g).sum=(L.map fun p=>((ins p).map g).sum).sum
 | []=>rfl
 | a::L=>by rw [List.flatMap_cons,List.map_append,List.sum_append,ZhX (L:=L),List.map_cons,List.sum_cons]
theorem Sp.negs {l m:List Za}{a b w:Nat}(hc:Ck l) (S:Sp l m a b w):negs m=negs l:=by
 obtain ⟨n1,b1,b2,b3,b4⟩:=S.bh1 hc;unfold Mu.negs;rw [ZdH (S.ins hc).perm,ZhX];congr 1;refine List.map_congr_left fun p hp=>?_;have hp:=ZbD.1 hp;unfold Zd8 tt;have z:ng 0=0:=rfl;have t0:∀ d,tn d d=0:=fun d=>by unfold tn;rw [if_pos rfl]
 split
 ·rename_i c;subst c;simp only [List.map_cons,List.map_nil,List.sum_cons,List.sum_nil,b1,b2,t0,z];omega
 ·split
  ·rename_i c;subst c;simp only [List.map_cons,List.map_nil,List.sum_cons,List.sum_nil,b3,b4,t0,z];omega
  ·rename_i c1 c2;simp only [List.map_cons,List.map_nil,List.sum_cons,List.sum_nil,(S.bh0 hc hp c1 c2).2];omega
theorem Del.dperm {l m:List Za}(hc:Ck l) {v d w:Nat}(D:Del l m v d w):(ZcH l).Perm ((v,d)::(w,(d+2)%4)::ZcH m):=by
 refine (List.perm_ext_iff_of_nodup ZdE ?_).2 fun x=>?_
 ·refine List.nodup_cons.2 ⟨fun q=>?_,List.nodup_cons.2 ⟨fun q=>?_,ZdE⟩⟩
  ·rcases List.mem_cons.1 q with q|q
   ·exact D.ee hc q.symm
   ·exact (D.isD.1 (ZbD.1 q)).2.1 rfl
  ·exact (D.isD.1 (ZbD.1 q)).2.2 rfl
 ·rw [List.mem_cons,List.mem_cons,ZbD,ZbD];constructor
  ·intro hx;by_cases c1:x=(v,d)
   ·exact .inl c1
   ·by_cases c2:x=(w,(d+2)%4)
    ·exact .inr (.inl c2)
    ·exact .inr (.inr (D.isD.2 ⟨hx,c1,c2⟩))
  ·rintro (rfl|rfl|h)
   ·exact D.e
   ·exact D.e' hc
   ·exact (D.isD.1 h).1
theorem ZnW {f g:Da→Int}:∀ {L:List Da},(∀ x∈L,f x≤g x)→(L.map f).sum≤(L.map g).sum
 | [],_=>by simp
 | a::L,h=>by
  have:=ZnW (L:=L) fun x hx=>h x (by simp [hx]);have:=h a (by simp);rw [List.map_cons,List.map_cons,List.sum_cons,List.sum_cons];omega
theorem ZqL {f g:Da→Int}{L:List Da}{a:Da}(h:∀ x∈L,f x≤g x) (ha:a∈L) (h1:f a+1≤g a):(L.map f).sum+1≤(L.map g).sum:=by
 have p:L.Perm (a::L.erase a):=List.perm_cons_erase ha;rw [ZdH p,ZdH p,List.map_cons,List.map_cons,List.sum_cons,List.sum_cons];have:=ZnW (f:=f) (g:=g) (L:=L.erase a) fun x hx=>h x (List.mem_of_mem_erase hx);omega
theorem ZgL {l:List Za}{p:Da}(h4:p.2<4) (h:tt l p<0):nx l (nx l p.1 p.2).toNat p.2<0∧nx l (nx l p.1 p.2).toNat ((p.2+1)%4)<0:=by
 unfold tt at h;rw [ZnY h4] at h;unfold arr at h;by_cases c1:0≤nx l (nx l p.1 p.2).toNat ((p.2+1)%4)
 ·rw [if_pos c1] at h;omega
 ·rw [if_neg c1] at h;by_cases c2:0≤nx l (nx l p.1 p.2).toNat p.2
  ·rw [if_pos c2] at h;omega
  ·omega
theorem Znb {l:List Za}{f:List Da}{x:Da}(h:f=(List.range f.length).map (fun i=>it l i x)) (h2:it l f.length x=x) (hf:0<f.length) {i:Nat}:∀ k,cs (tns l f) i k=zD l (seg l x i k)
 | 0=>rfl
 | k+1=>by
  rw [cs,Znb h h2 hf k,ZnM,ZcP];congr 1;unfold tns;rw [ZbO (Nat.mod_lt _ hf),Round.at h h2 hf];rfl
def ZgN (t:List Int) (i:Nat):Option Nat:=(List.range t.length).find? fun k=>decide (cs t i (k+1)=1)
theorem Zmt {t:List Int}{i k:Nat}(h:ZgN t i=some k):k<t.length∧cs t i (k+1)=1∧∀ j,j<k→cs t i (j+1)≠1:=by
 unfold ZgN at h;rw [List.find?_range_eq_some] at h;exact ⟨by simpa using h.2.1,by simpa using h.1,fun j hj=>by simpa using h.2.2 j hj⟩
theorem Zms {t:List Int}{i:Nat}(h:ZgN t i=none):∀ j,j<t.length→cs t i (j+1)≠1:=by
 unfold ZgN at h;rw [List.find?_range_eq_none] at h;exact fun j hj=>by simpa using h j hj
structure Cut (l m:List Za):Prop where
 ck:Ck m
 val:Val m
 whole:whole m
 len:m.length=l.length+1
 negs:negs m+1≤negs l
 sub:∃ (l1:List Za) (a b w v d:Nat),Sp l l1 a b w∧m=wth l1 v d l.length (-2)∧Del m l1 v d l.length∧v<l.length∧d<4∧nx l1 v d=-1∧nx l1 l.length ((d+2)%4)=-1
 out:∀ g,Cyc l g→zD l g=-4→(∀ p∈g,-1≤tt l p∧tt l p≤0)→∃ g',Cyc m g'∧zD m g'=-4∧∀ p∈g',-1≤tt m p∧tt m p≤0
theorem Znc {l:List Za}(hc:Ck l) (hV:Val l) (hW:whole l) {f:List Da}(hf:f∈faces l) (h4:zD l f=4) {i:Nat}(hi:i<f.length) (h0:gi (tns l f) i<0) (hlen:f.length≤1000000):∃ kk:Nat,kk<f.length∧(∃ k,ZgN (tns l f) i=some k∧kk=((i+k)%f.length+1)%f.length) ∧
  isD l (gi f i)∧isD l (gi f kk)∧(nx l (gi f i).1 (gi f i).2).toNat<l.length∧(∃ w:Nat,nx l (gi f kk).1 (gi f kk).2=w∧w<l.length ∧
  Sp l (spl l (gi f kk).1 (gi f kk).2 w (ow l (gi f kk).1 (gi f kk).2)) (gi f kk).1 (gi f kk).2 w ∧
  nx (spl l (gi f kk).1 (gi f kk).2 w (ow l (gi f kk).1 (gi f kk).2)) (nx l (gi f i).1 (gi f i).2).toNat (gi f i).2=-1 ∧
  nx (spl l (gi f kk).1 (gi f kk).2 w (ow l (gi f kk).1 (gi f kk).2)) l.length (((gi f i).2+2)%4)=-1 ∧
  Cut l (wth (spl l (gi f kk).1 (gi f kk).2 w (ow l (gi f kk).1 (gi f kk).2)) (nx l (gi f i).1 (gi f i).2).toNat (gi f i).2 l.length (-2))):=by
 obtain ⟨x0,hx0,e1,e2⟩:=ZhQ hc f hf;have n0:0<f.length:=by omega
 have tl:=ZcP (l:=l) (f:=f);obtain ⟨k,k0,k1,c1,c2,c3,c4⟩:=Zsq (t:=tns l f) Zgd h4 (by omega) h0;rw [tl] at k1 c4;have hit:ZgN (tns l f) i=some k:=by
  unfold ZgN;rw [List.find?_range_eq_some];exact ⟨by simpa using c1,by simp;omega,fun j hj=>by simpa using c2 j hj⟩
 have ek:((i+k)%f.length+1)%f.length=(i+k+1)%f.length:=by rw [Nat.mod_add_mod]
 have lk:(i+k+1)%f.length<f.length:=Nat.mod_lt _ n0;have gx:gi f i=it l i x0:=by
  have:=Round.at e1 e2 n0 (i:=i);rwa [Nat.mod_eq_of_lt hi] at this
 have gy:gi f ((i+k+1)%f.length)=it l (i+k+1) x0:=Round.at e1 e2 n0;refine ⟨(i+k+1)%f.length,lk,⟨k,hit,ek.symm⟩,?_⟩;rw [gx,gy];have dX:=Zfm hc hx0 i;have dY:=Zfm hc hx0 (i+k+1);have tX:tt l (it l i x0)<0:=by
  unfold tns at h0;rw [ZbO hi,gx] at h0;exact h0
 have s1:zD l (seg l x0 i (k+1))=1:=by rw [← Znb e1 e2 n0];exact c1
 have P1:=Zl7 hc hx0 (a:=i) (k+1);obtain ⟨q,hq⟩:=P1.dir hc;rw [s1,← Nat.add_assoc] at hq
 -- the loop from behind the corner on
 have L:Lp l (seg l x0 (i+1) f.length):=by
  have pm:=ZiR (l:=l) e2 n0 (i+1);have e0:seg l x0 0 f.length=f:=by
   unfold seg;simp only [Nat.zero_add];exact e1.symm
  refine ⟨?_,?_,it l (i+1) x0,?_⟩
  ·intro z;rw [z] at pm;have:=pm.length_eq;rw [e0] at this;simp at this;omega
  ·rw [pm.nodup_iff,e0];exact (ZbM hc f hf).nd
  ·have:=Zl7 hc hx0 (a:=i+1) f.length;have p:=Zi7 e2 1 (i+1);rw [Nat.mul_one] at p;rwa [p] at this
 have eX:it l (i+f.length) x0=it l i x0:=by have:=Zi7 e2 1 i;rwa [Nat.mul_one] at this
 have spli:seg l x0 (i+1) f.length=seg l x0 (i+1) k++[it l (i+k+1) x0]++(seg l x0 (i+k+2) (f.length-k-2)++[it l i x0]):=by
  have a:f.length=k+(1+((f.length-k-2)+1)):=by omega
  rw [← eX];generalize hr:f.length-k-2=r at *;rw [a,Zf0,Zf0,Zf0,ZgI,ZgI,← List.append_assoc,show i+1+k=i+k+1 by omega,show i+k+1+1=i+k+2 by omega,show i+k+2+r=i+(k+(1+(r+1))) by omega]
 have rB:tt l (it l i x0)+zD l (seg l x0 (i+1) k)=1:=by
  have:seg l x0 i (k+1)=[it l i x0]++seg l x0 (i+1) k:=by rw [Nat.add_comm k 1,Zf0,ZgI]
  rw [this,Zcl,ZaS,ZcO] at s1;omega
 have rL:zD l (seg l x0 (i+1) f.length)=4:=by
  have e0:seg l x0 0 f.length=f:=by
   unfold seg;simp only [Nat.zero_add];exact e1.symm
  rw [Zcy (ZiR (l:=l) e2 n0 (i+1)),e0];exact h4
 rw [spli] at L rL;generalize hX:it l i x0=X at *;generalize hY:it l (i+k+1) x0=Y at *;generalize hB:seg l x0 (i+1) k=B at *;generalize hA:seg l x0 (i+k+2) (f.length-k-2)=A at *;have fX:=dX.fwd hc;have fY:=dY.fwd hc;have X4:=dX.2.1;have Y4:=dY.2.1;have tf:=ZgL X4 tX;have hwY:nx l Y.1 Y.2=((nx l Y.1 Y.2).toNat:Nat):=by have:=dY.2.2;omega
 refine ⟨dX,dY,fX.1,(nx l Y.1 Y.2).toNat,hwY,fY.1,?_⟩;have S:=Sp.of hc dY.1 Y4 hwY;refine ⟨S,?_⟩;have dir:Y.2=(X.2+1)%4:=by omega
 generalize hv:(nx l X.1 X.2).toNat=v at *;generalize hw:(nx l Y.1 Y.2).toNat=w at *;generalize hl1:spl l Y.1 Y.2 w (ow l Y.1 Y.2)=l1 at *;have lv:=hc.lt fX.1 X4;have f1:nx l1 v X.2=-1:=by
  have:=S.old hc fX.1 X4;have:=S.ck.lt (v:=v) (d:=X.2) (by rw [S.len];omega) X4;omega
 have f2:nx l1 l.length ((X.2+2)%4)=-1:=by
  rw [S.nx _ _ (by omega) (by omega),if_pos rfl,if_neg (by omega),if_neg (by omega)]
 refine ⟨f1,f2,?_⟩;have hvl:v<l1.length:=by rw [S.len];have:=fX.1;omega
 have hul:l.length<l1.length:=by rw [S.len];omega
 have hvu:v≠l.length:=by have:=fX.1;omega
 have D:Del (wth l1 v X.2 l.length (-2)) l1 v X.2 l.length:=Del.of_wth S.ck hvl hul hvu X4 f1 f2;have hcm:Ck (wth l1 v X.2 l.length (-2)):=S.ck.wth hvl hul hvu X4 f1 f2 (by omega);generalize hm:wth l1 v X.2 l.length (-2)=m at *;have nXY:X≠Y:=by
  intro z;have nd:=List.nodup_append.1 L.nd;exact nd.2.2 Y (by simp) X (by simp) z.symm
 have nXY':X≠(w,(Y.2+2)%4):=by
  intro z;have:=congrArg Prod.snd z;dsimp only at this;omega
 obtain ⟨n1,b1,b2,b3,b4⟩:=S.bh1 hc;have eY:(Y.1,Y.2)=Y:=rfl;have iX:Zd8 l Y.1 Y.2 w X=[X]:=by
  unfold Zd8;rw [if_neg nXY,if_neg nXY']
 have iY:Zd8 l Y.1 Y.2 w Y=[Y,(l.length,Y.2)]:=by
  unfold Zd8;rw [if_pos rfl]
 have L1:=S.Lp hc L;have fl:(B++[Y]++(A++[X])).flatMap (Zd8 l Y.1 Y.2 w)=B.flatMap (Zd8 l Y.1 Y.2 w)++[Y]++(((l.length,Y.2)::A.flatMap (Zd8 l Y.1 Y.2 w))++[X]):=by
  simp [List.flatMap_append,iX,iY]
 rw [fl] at L1;have x1:=S.bh0 hc dX nXY nXY';have tX1:tt l1 X=tt l X:=by unfold tt;rw [x1.2]
 have tY1:tt l1 Y=0:=by unfold tt;rw [b1];unfold tn;rw [if_pos rfl]
 have t0:tn X.2 X.2=0:=by unfold tn;rw [if_pos rfl]
 have t1:tn Y.2 ((X.2+2)%4)=1:=by unfold tn;rw [if_neg (by omega),if_pos (by omega)]
 have bX:bh m X=(v,X.2):=(D.enter hcm S.ck (S.is hc dX)).1 (by rw [x1.1];exact hv) (by rw [tX1,t0];exact tX);have bY:bh m Y=(l.length,(X.2+2)%4):=(D.enter hcm S.ck (S.is hc dY)).2 (by rw [n1,itn]) (by rw [tY1,t1];omega);have rB1:zD l1 (B.flatMap (Zd8 l Y.1 Y.2 w))=zD l B:=(S.ins hc).rot fun p hp=>L.is p (by simp [hp]);refine ⟨hcm,D.chord_val hcm S.ck L1 bX bY ?_ (S.val hc hV),D.whole hcm S.ck (S.whole hc hW),by rw [← hm,ZaL,S.len],?_,⟨l1,Y.1,Y.2,w,v,X.2,S,hm.symm,D,fX.1,X4,f1,f2⟩,?_⟩
 ·rw [Zcl,rB1,ZaS,ZcO,tY1,tX1,t0,t1];omega
 ·rw [← S.negs hc];unfold Mu.negs;rw [ZdH (D.dperm hcm)];simp only [List.map_cons,List.sum_cons];have B1:=D.bh hcm (S.is hc dX);have B2:=D.bh hcm (S.is hc dY);have ee:=D.ee hcm;rw [bX,if_pos rfl,if_pos rfl] at B1;rw [bY,if_neg ee,if_pos rfl,if_neg ee,if_pos rfl] at B2;have mX:tt m X=0:=by unfold tt;rw [bX];exact t0
  have mY:tt m Y=1:=by unfold tt;rw [bY];exact t1
  have r1:=B1.2;have r2:=B2.2;rw [tX1,mX] at r1;rw [tY1,mY] at r2;have rX:-2≤tt l X:=ZiU.1;have g1:ng (tt m (v,X.2))=0:=by unfold ng;rw [if_neg (by omega)]
  have g2:ng (tt m (l.length,(X.2+2)%4))=0:=by unfold ng;rw [if_neg (by omega)]
  rw [g1,g2];have:=ZqL (f:=fun p=>ng (tt m p)) (g:=fun p=>ng (tt l1 p)) (L:=ZcH l1) (a:=X) (fun p hp=>?_) (ZbD.2 (S.is hc dX)) (by rw [mX,tX1];unfold ng;rw [if_neg (by omega),if_pos tX];omega)
  ·omega
  ·have hp:=ZbD.1 hp;by_cases c1:p=X
   ·subst c1;rw [mX];unfold ng;rw [if_neg (by omega)];split<;>omega
   ·by_cases c2:p=Y
    ·subst c2;rw [mY];unfold ng;rw [if_neg (by omega)];split<;>omega
    ·have dp:=(D.isD.1 hp).1;have a1:bh m p≠(v,X.2):=fun z=>c1 (ZcJ hcm dp (D.isD.1 (S.is hc dX)).1 (z.trans bX.symm));have a2:bh m p≠(l.length,(X.2+2)%4):=fun z=>c2 (ZcJ hcm dp (D.isD.1 (S.is hc dY)).1 (z.trans bY.symm));have:=(D.bh hcm hp).2;rw [if_neg a1,if_neg a2] at this;rw [this];exact Int.le_refl _
 ·intro g hg g4 gt;have nX:X ∉ g:=fun z=>by
   have:=Zcy (l:=l) (hg.perm L.cyc z (by simp));omega
  have nY:Y ∉ g:=fun z=>by
   have:=Zcy (l:=l) (hg.perm L.cyc z (by simp));omega
  have I:=S.ins hc;have C1:=I.cyc hc hg;have m1:∀ q∈g.flatMap (Zd8 l Y.1 Y.2 w),q≠X∧q≠Y∧-1≤tt l1 q∧tt l1 q≤0:=by
   intro q hq;obtain ⟨p,hp,hq⟩:=List.mem_flatMap.1 hq;have dp:=hg.is p hp;refine ⟨fun z=>?_,fun z=>?_,?_⟩
   ·rw [z] at hq;rw [I.dj p X dp dX X hq (by rw [iX];simp)] at hp;exact nX hp
   ·rw [z] at hq;rw [I.dj p Y dp dY Y hq (by rw [iY];simp)] at hp;exact nY hp
   ·have tp:=gt p hp;unfold Zd8 at hq;rw [if_neg (show p≠(Y.1,Y.2) from fun z=>nY (by rw [z] at hp;exact hp))] at hq;by_cases c:p=(w,(Y.2+2)%4)
    ·rw [if_pos c] at hq;have t0:tt l1 (w,(Y.2+2)%4)=0:=by unfold tt;rw [b3];unfold tn;rw [if_pos rfl]
     have t1:tt l1 (l.length,(Y.2+2)%4)=tt l p:=by rw [c];unfold tt;rw [b4]
     rcases List.mem_cons.1 hq with q1|hq
     ·rw [q1,c,t0];omega
     ·rw [List.mem_singleton.1 hq,t1];exact tp
    ·rw [if_neg c] at hq;rw [List.mem_singleton.1 hq];unfold tt;rw [(S.bh0 hc dp (fun z=>nY (by rw [z] at hp;exact hp)) c).2];exact tp
  have B:∀ q∈g.flatMap (Zd8 l Y.1 Y.2 w),bh l1 q=bh m q∧tt l1 q=tt m q:=by
   intro q hq;have iq:=C1.is q hq;have dq:=(D.isD.1 iq).1;have a1:bh m q≠(v,X.2):=fun z=>(m1 q hq).1 (ZcJ hcm dq (D.isD.1 (S.is hc dX)).1 (z.trans bX.symm));have a2:bh m q≠(l.length,(X.2+2)%4):=fun z=>(m1 q hq).2.1 (ZcJ hcm dq (D.isD.1 (S.is hc dY)).1 (z.trans bY.symm));have:=D.bh hcm iq;rw [if_neg a1,if_neg a2,if_neg a1,if_neg a2] at this;exact this
  refine ⟨_,⟨C1.ne,C1.nd,fun q hq=>(D.isD.1 (C1.is q hq)).1,fun q hq=>by rw [← (B q hq).1];exact C1.cl q hq,fun C hC p hp q hq hCp=>(C1.one (fun z=>z∈g.flatMap (Zd8 l Y.1 Y.2 w)∧C z) (fun z hz h=>⟨C1.cl z h.1,by rw [(B z h.1).1];exact hC z (D.isD.1 hz).1 h.2⟩) p hp q hq ⟨hp,hCp⟩).2⟩,?_,fun q hq=>by rw [← (B q hq).2];exact (m1 q hq).2.2⟩;have r1:zD l1 (g.flatMap (Zd8 l Y.1 Y.2 w))=zD l g:=I.rot fun p hp=>hg.is p hp;rw [← g4,← r1];unfold zD tns;congr 1;exact List.map_congr_left fun q hq=>(B q hq).2.symm
end Mu
/- Layer 21: cuts in the code;refining,till no inner face turns to the right. -/
namespace Mu
theorem Zii {l:List Za}{v d w:Nat}{o:Int}(hl:l.length≤4096) (hv:v<l.length) (hw:w<l.length) (hvw:v≠w) (hd:d<4) (ho:-2≤o) (h1:nx l v d=-1) (h2:nx l w ((d+2)%4)=-1) :
  Zc2 ⟨l⟩ v d w o=some (0,⟨wth l v d w o⟩)∧zO l v d w o=some (wth l v d w o,0):=by
 simp only [Zc2,zO];rw [mIs,mIs,obs];have hb:(((d:Int)+2).tmod 4)=(((d+2)%4:Nat):Int):=by
  match d,hd with
  | 0,_|1,_|2,_|3,_=>rfl
 have q1:((!decide (0≤(w:Int)∧(w:Int)<l.length∧0≤(d:Int)∧(d:Int)<4))||decide ((v:Int)=(w:Int))||decide (o < -2))=false:=by simp;omega
 have q2:(decide ((v:Int)<0)||decide ((l.length:Int)≤(v:Int))||decide ((w:Int)<0)||decide ((l.length:Int)≤(w:Int))||decide ((v:Int)=(w:Int))||decide ((d:Int)<0)||decide (3<(d:Int))||decide (o < -2))=false:=by simp;omega
 have f:(gi l v).Next.get (d:Int)=-1:=h1;have g:(gi l w).Next.get (((d+2)%4:Nat):Int)=-1:=h2;rw [Zdf (show 0≤(v:Int)∧(v:Int)<l.length∧0≤(d:Int)∧(d:Int)<4 by omega),Bool.not_true,if_neg Bool.false_ne_true,obs,obs,q1,q2,if_neg Bool.false_ne_true,if_neg Bool.false_ne_true,Zz (by omega),Zz (by omega),Zz (by omega),Zz (by omega),itn,itn,Zpx (by omega),zR (by omega),hb,obs,Zz (by omega),Zz (by omega)];rw [Zcm f,obs,obs,Zdf g,Bool.not_true,if_neg Bool.false_ne_true,if_neg Bool.false_ne_true,Zst (by omega) (by omega) (by omega),obs,ZkN (by omega) (by omega),obs];exact ⟨rfl,rfl⟩
theorem ZiD:∀ {R:List Int}{i a b:Int},Ze2 R i a=some b→0≤i→b=a∨(i≤b∧b<i+R.length∧gi R (b-i).toNat=-4)
 | [],i,a,b,h,_=>by
  simp only [Ze2,Option.some.injEq] at h;exact .inl h.symm
 | r::R,i,a,b,h,hi=>by
  have up:∀ {b:Int},(i+1≤b∧b<i+1+R.length∧gi R (b-(i+1)).toNat=-4)→(i≤b∧b<i+((r::R).length:Nat)∧gi (r::R) (b-i).toNat=-4):=by
   rintro b ⟨h1,h2,h3⟩;refine ⟨by omega,by simp;omega,?_⟩;rw [show (b-i).toNat=(b-(i+1)).toNat+1 by omega];exact h3
  rw [Ze2] at h;split at h
  ·rcases ZiD h (by omega) with k|k
   ·exact .inl k
   ·exact .inr (up k)
  ·split at h
   ·rename_i c;split at h
    ·cases h
    ·rcases ZiD h (by omega) with k|k
     ·right;refine ⟨by omega,by simp;omega,?_⟩;rw [k,show (i-i).toNat=0 by omega];exact c
     ·exact .inr (up k)
   ·cases h
theorem ZiV {l:List Za}(h:ZcQ l=0) (h1:l.length≠1) {i:Nat}(hi:i<(faces l).length):(zD l (gi (faces l) i)=4∧(i:Int)≠ZeT l)∨(zD l (gi (faces l) i)=-4∧(i:Int)=ZeT l):=by
 obtain ⟨k,w,o⟩:=Zde h;have hV:=(ZdJ.1 h).2.2 h1;obtain ⟨a,q,ha⟩:=o h1;have e:ZeT l=a:=by unfold ZeT;rw [if_neg h1,q]
 have at':gi ((faces l).map (zD l)) a.toNat=-4∧a.toNat<(faces l).length:=by
  unfold Zg4 at q;rcases ZiD q (by omega) with z|⟨z1,z2,z3⟩
  ·omega
  ·rw [List.length_map] at z2;rw [show (a-0).toNat=a.toNat by omega] at z3;exact ⟨z3,by omega⟩
 rw [ZbO at'.2] at at';rw [e];rcases hV.1 i hi with r|r
 ·left;refine ⟨r,fun z=>?_⟩;have:a.toNat=i:=by omega
  rw [this] at at';omega
 ·right;refine ⟨r,?_⟩;have:=hV.2.2 i a.toNat hi at'.2 r at'.1;omega
theorem ZkE {l:List Za}{i:Nat}(h:Zfk l=some i):i<(faces l).length∧(i:Int)≠ZeT l∧∃ j,gF l i=some j∧j<(gi (faces l) i).length∧gi (tns l (gi (faces l) i)) j<0:=by
 unfold Zfk at h;rw [List.find?_range_eq_some] at h;obtain ⟨h1,h2,_⟩:=h;refine ⟨by simpa using h2,?_,?_⟩
 ·intro q;unfold gF at h1;rw [if_pos q] at h1;cases h1
 ·cases q:gF l i with
  | none=>rw [q] at h1;cases h1
  | some j =>
   refine ⟨j,rfl,?_⟩;unfold gF at q;split at q
   ·cases q
   ·unfold ZkG at q;rw [List.find?_range_eq_some] at q;obtain ⟨k1,k2,_⟩:=q;rw [List.mem_range,ZcP] at k2;exact ⟨k2,by simpa using k1⟩
theorem ZkD {l:List Za}(h:Zfk l=none):∀ i,i<(faces l).length→(i:Int)≠ZeT l→∀ j,0≤gi (tns l (gi (faces l) i)) j:=by
 intro i hi hne j;unfold Zfk at h;rw [List.find?_range_eq_none] at h;have:=h i hi;unfold gF at this;rw [if_neg hne] at this;by_cases c:j<(tns l (gi (faces l) i)).length
 ·have q:ZkG (tns l (gi (faces l) i))=none:=by
   cases z:ZkG (tns l (gi (faces l) i)) with
   | none=>rfl
   | some k=>rw [z] at this;simp at this
  unfold ZkG at q;rw [List.find?_range_eq_none] at q;have:=q j c;simp at this;exact this
 ·rw [ZfU (by omega)];decide
inductive Cuts (l:List Za):Nat→List Za→Prop
 | zero:Cuts l 0 l
 | succ {n m m'}:Cuts l n m→Cut m m'→Cuts l (n+1) m'
theorem ZrH {t:Int}:0≤ng t:=by unfold ng;split<;>omega
theorem Zkh {l:List Za}:0≤negs l:=by
 unfold negs;have:∀ L:List Da,0≤(L.map fun p=>ng (tt l p)).sum:=by
  intro L
  induction L with
  | nil=>simp
  | cons a L ih=>rw [List.map_cons,List.sum_cons];have:=ZrH (t:=tt l a);omega
 exact this _
theorem Cut.err {l m:List Za}(C:Cut l m) (hl:l.length+1≤4096):ZcQ m=0:=ZdJ.2 ⟨ZcF.2 ⟨by rw [C.len];exact hl,C.ck⟩,C.whole,fun _=>C.val⟩
end Mu
/- Cells beside cells. -/
namespace Mu
def sh1 (n:Nat) (x:Int):Int:=if 0≤x then x+n else -1
def shC (n:Nat) (c:Za):Za:=⟨⟨sh1 n c.Next.a,sh1 n c.Next.b,sh1 n c.Next.c,sh1 n c.Next.d⟩,c.Owner⟩
def app (l k:List Za):List Za:=l++k.map (shC l.length)
theorem Zdi {l k:List Za}:(app l k).length=l.length+k.length:=by simp [app]
theorem ZjU {l k:List Za}{i:Nat}(h:i<l.length):gi (app l k) i=gi l i:=ZcM h
theorem ZjV {l k:List Za}{i:Nat}(h:i<k.length):gi (app l k) (l.length+i)=shC l.length (gi k i):=by
 unfold app;rw [ZcB,ZbO h]
theorem Zpj {n:Nat}{c:Za}{e:Nat}(he:e<4):(shC n c).Next.get (e:Int)=sh1 n (c.Next.get (e:Int))∧(shC n c).Owner.get (e:Int)=c.Owner.get (e:Int):=by
 match e,he with
 | 0,_|1,_|2,_|3,_=>exact ⟨rfl,rfl⟩
theorem Zdk {l k:List Za}{i e:Nat}(h:i<l.length):nx (app l k) i e=nx l i e∧ow (app l k) i e=ow l i e:=by
 unfold nx ow;rw [ZjU h];exact ⟨rfl,rfl⟩
theorem ZdL {l k:List Za}{i e:Nat}(h:i<k.length) (he:e<4):nx (app l k) (l.length+i) e=sh1 l.length (nx k i e)∧ow (app l k) (l.length+i) e=ow k i e:=by
 unfold nx ow;rw [ZjV h];exact Zpj he
theorem Ck.app {l k:List Za}(hl:Ck l) (hk:Ck k):Ck (app l k):=by
 refine ⟨fun v d hv hd=>?_⟩;rw [Zdi] at hv ⊢;by_cases c:v<l.length
 ·have a:=Zdk (k:=k) (e:=d) c;rcases hl.s v d c hd with ⟨a1,a2⟩|⟨w,a1,a2,a3,a4,a5,a6⟩
  ·left;rw [a.1,a.2];exact ⟨a1,a2⟩
  ·right;have b:=Zdk (k:=k) (e:=(d+2)%4) a2;exact ⟨w,by rw [a.1];exact a1,by omega,a3,by rw [b.1];exact a4,by rw [b.2,a.2];exact a5,by rw [a.2];exact a6⟩
 ·obtain ⟨i,rfl⟩:∃ i,v=l.length+i:=⟨v-l.length,by omega⟩;have hi:i<k.length:=by omega
  have a:=ZdL (l:=l) hi hd;rcases hk.s i d hi hd with ⟨a1,a2⟩|⟨w,a1,a2,a3,a4,a5,a6⟩
  ·left;rw [a.1,a.2,a1];exact ⟨by unfold sh1;rw [if_neg (by omega)],a2⟩
  ·right;have b:=ZdL (l:=l) (e:=(d+2)%4) a2 (by omega);refine ⟨l.length+w,by rw [a.1,a1];unfold sh1;rw [if_pos (by omega)];omega,by omega,by omega,by rw [b.1,a4];unfold sh1;rw [if_pos (by omega)];omega,by rw [b.2,a.2];exact a5,by rw [a.2];exact a6⟩
def shD (n:Nat) (p:Da):Da:=(n+p.1,p.2)
theorem Zks {n:Nat}{p q:Da}(h:shD n p=shD n q):p=q:=by
 unfold shD at h;injection h with h1 h2
 exact Prod.ext (by omega) h2
theorem ZeZ {l k:List Za}{p:Da}:isD (app l k) p↔isD l p∨∃ q,isD k q∧p=shD l.length q:=by
 unfold isD;rw [Zdi];constructor
 ·rintro ⟨h1,h2,h3⟩;by_cases c:p.1<l.length
  ·left;rw [(Zdk c).1] at h3;exact ⟨c,h2,h3⟩
  ·right;refine ⟨(p.1-l.length,p.2),⟨by dsimp only;omega,h2,?_⟩,Prod.ext (by unfold shD;dsimp only;omega) rfl⟩;have:p.1=l.length+(p.1-l.length):=by omega
   rw [this,(ZdL (by omega) h2).1] at h3;unfold sh1 at h3;split at h3
   ·assumption
   ·omega
 ·rintro (⟨h1,h2,h3⟩|⟨q,⟨h1,h2,h3⟩,rfl⟩)
  ·exact ⟨by omega,h2,by rw [(Zdk h1).1];exact h3⟩
  ·refine ⟨by unfold shD;dsimp only;omega,h2,?_⟩;show 0≤nx (app l k) (l.length+q.1) q.2;rw [(ZdL h1 h2).1];unfold sh1;rw [if_pos h3];omega
theorem Zhl {l k:List Za}(hl:Ck l) {p:Da}(h:isD l p):bh (app l k) p=bh l p:=by
 have f:=h.fwd hl;rw [ZcK,ZcK,(Zdk h.1).1];refine congrArg (Prod.mk _) (ZdW (fun e he=>?_) h.2.1);rw [(Zdk f.1).1]
theorem ZgC {l k:List Za}(hk:Ck k) {p:Da}(h:isD k p):bh (app l k) (shD l.length p)=shD l.length (bh k p):=by
 have f:=h.fwd hk;have h3:=h.2.2;rw [ZcK,ZcK];have e:nx (app l k) (shD l.length p).1 (shD l.length p).2=((l.length+(nx k p.1 p.2).toNat:Nat):Int):=by
  show nx (app l k) (l.length+p.1) p.2=_;rw [(ZdL h.1 h.2.1).1];unfold sh1;rw [if_pos h3];omega
 rw [e,itn];unfold shD;dsimp only;refine congrArg (Prod.mk _) (ZdW (fun e he=>?_) h.2.1);rw [(ZdL f.1 he).1,decide_eq_decide];unfold sh1;split
 ·rename_i c;exact ⟨fun _=>c,fun _=>by omega⟩
 ·rename_i c;exact ⟨fun q=>by omega,fun q=>absurd q c⟩
theorem Cyc.app1 {l k:List Za}(hl:Ck l) {f:List Da}(h:Cyc l f):Cyc (app l k) f∧zD (app l k) f=zD l f:=by
 refine ⟨⟨h.ne,h.nd,fun p hp=>ZeZ.2 (.inl (h.is p hp)),fun p hp=>by rw [Zhl hl (h.is p hp)];exact h.cl p hp,fun C hC p hp q hq hCp=>h.one C (fun x hx hCx=>by rw [← Zhl (k:=k) hl hx];exact hC x (ZeZ.2 (.inl hx)) hCx) p hp q hq hCp⟩,?_⟩;unfold zD tns;congr 1;exact List.map_congr_left fun p hp=>by rw [Zhl hl (h.is p hp)]
theorem Cyc.app2 {l k:List Za}(hk:Ck k) {f:List Da}(h:Cyc k f):Cyc (app l k) (f.map (shD l.length))∧zD (app l k) (f.map (shD l.length))=zD k f:=by
 refine ⟨⟨by simpa using h.ne,?_,fun p hp=>?_,fun p hp=>?_,fun C hC p hp q hq hCp=>?_⟩,?_⟩
 ·exact List.pairwise_map.2 (h.nd.imp fun {a b} hne he=>hne (Zks he))
 ·obtain ⟨q,hq,rfl⟩:=List.mem_map.1 hp;exact ZeZ.2 (.inr ⟨q,h.is q hq,rfl⟩)
 ·obtain ⟨q,hq,rfl⟩:=List.mem_map.1 hp;rw [ZgC hk (h.is q hq)];exact List.mem_map.2 ⟨_,h.cl q hq,rfl⟩
 ·obtain ⟨p',hp',rfl⟩:=List.mem_map.1 hp;obtain ⟨q',hq',rfl⟩:=List.mem_map.1 hq;exact h.one (fun x=>C (shD l.length x)) (fun x hx hCx=>by
   rw [← ZgC hk hx];exact hC _ (ZeZ.2 (.inr ⟨x,hx,rfl⟩)) hCx) p' hp' q' hq' hCp
 ·unfold zD tns;rw [List.map_map];congr 1;refine List.map_congr_left fun p hp=>?_;show tn (shD l.length p).2 (bh (app l k) (shD l.length p)).2=_;rw [ZgC hk (h.is p hp)];rfl
theorem Lp.app1 {l k:List Za}(hl:Ck l) {f:List Da}(h:Lp l f):Lp (app l k) f:=by
 have:∀ {s:List Da}{x y:Da},Pt l x s y→Pt (app l k) x s y:=by
  intro s
  induction s with
  | nil=>intro x y h;exact h
  | cons a s ih =>
   intro x y h;obtain ⟨h1,h2,h3⟩:=h;exact ⟨h1,ZeZ.2 (.inl h2),by rw [Zhl hl h2];exact ih h3⟩
 obtain ⟨x,hx⟩:=h.pt;exact ⟨h.ne,h.nd,x,this hx⟩
theorem Lp.app2 {l k:List Za}(hk:Ck k) {f:List Da}(h:Lp k f):Lp (app l k) (f.map (shD l.length)):=by
 have:∀ {s:List Da}{x y:Da},Pt k x s y→Pt (app l k) (shD l.length x) (s.map (shD l.length)) (shD l.length y):=by
  intro s
  induction s with
  | nil=>intro x y h;exact congrArg (shD l.length) h
  | cons a s ih =>
   intro x y h;obtain ⟨h1,h2,h3⟩:=h;exact ⟨by rw [h1],ZeZ.2 (.inr ⟨a,h2,rfl⟩),by rw [ZgC hk h2];exact ih h3⟩
 obtain ⟨x,hx⟩:=h.pt;exact ⟨by simpa using h.ne,(Cyc.app2 (l:=l) hk h.cyc).1.nd,_,this hx⟩
theorem Fcs.app {l k:List Za}(hl:Ck l) (hk:Ck k) {F G:List (List Da)}(hF:Fcs l F) (hG:Fcs k G):Fcs (app l k) (F++G.map (List.map (shD l.length))):=by
 refine ⟨fun f hf=>?_,?_,fun p hp=>?_⟩
 ·rcases List.mem_append.1 hf with h|h
  ·exact (Cyc.app1 hl (hF.cy f h)).1
  ·obtain ⟨g,hg,rfl⟩:=List.mem_map.1 h;exact (Cyc.app2 hk (hG.cy g hg)).1
 ·have e:(G.map (List.map (shD l.length))).flatten=G.flatten.map (shD l.length):=by rw [List.map_flatten]
  rw [List.flatten_append,e,List.nodup_append];refine ⟨hF.nd,List.pairwise_map.2 (hG.nd.imp fun {a b} hne he=>hne (Zks he)),fun a ha b hb q=>?_⟩;obtain ⟨f,hf,haf⟩:=List.mem_flatten.1 ha;obtain ⟨b',_,rfl⟩:=List.mem_map.1 hb;have:=((hF.cy f hf).is a haf).1;rw [q] at this;unfold shD at this;dsimp only at this;omega
 ·rw [List.flatten_append,List.mem_append];rcases ZeZ.1 hp with h|⟨q,h,rfl⟩
  ·exact .inl (hF.al p h)
  ·right;obtain ⟨g,hg,hq⟩:=List.mem_flatten.1 (hG.al q h);exact List.mem_flatten.2 ⟨g.map (shD l.length),List.mem_map.2 ⟨g,hg,rfl⟩,List.mem_map.2 ⟨q,hq,rfl⟩⟩
theorem ZiS {f:Nat→Int}{n:Nat}:∀ m,sg f (n+m)=sg f n+sg (fun i=>f (n+i)) m
 | 0=>by simp [sg]
 | m+1=>by rw [← Nat.add_assoc,sg,ZiS m,sg];omega
theorem Zk9 {l k:List Za}{u:Nat}(h:u<l.length):deg (app l k) u=deg l u:=by
 rw [Zeg,Zeg,(Zdk h).1,(Zdk h).1,(Zdk h).1,(Zdk h).1]
theorem ZkA {l k:List Za}{u:Nat}(h:u<k.length):deg (app l k) (l.length+u)=deg k u:=by
 have e:∀ e,e<4→(if 0≤nx (app l k) (l.length+u) e then (1:Int) else 0)=if 0≤nx k u e then 1 else 0:=by
  intro e he;rw [(ZdL h he).1];unfold sh1;by_cases c:0≤nx k u e
  ·rw [if_pos c,if_pos (by omega),if_pos c]
  ·rw [if_neg c,if_neg (by omega),if_neg c]
 rw [Zeg,Zeg,e 0 (by omega),e 1 (by omega),e 2 (by omega),e 3 (by omega)]
theorem Zo5 {l k:List Za}(hl:Ck l) (hk:Ck k):chi (app l k)=chi l+chi k:=by
 have ln:=((Fcs.faces hl).app hl hk (Fcs.faces hk)).len (Fcs.faces (hl.app hk));rw [List.length_append,List.length_map] at ln;have a:cV (app l k)=cV l+cV k:=by
  unfold cV;rw [Zdi,ZiS,ZcD (f:=fun w=>if deg (app l k) w=0 then (0:Int) else 1) (g:=fun w=>if deg l w=0 then (0:Int) else 1) fun u hu=>by rw [Zk9 hu]];congr 1;exact ZcD fun u hu=>by rw [ZkA hu]
 have b:cD (app l k)=cD l+cD k:=by
  unfold cD;rw [Zdi,ZiS,ZcD (f:=deg (app l k)) (g:=deg l) fun u hu=>Zk9 hu];congr 1;exact ZcD fun u hu=>ZkA hu
 unfold chi;rw [a,b,← ln];omega
theorem Cyc.of_app {l k:List Za}(hl:Ck l) (hk:Ck k) {f:List Da}(h:Cyc (app l k) f):(∃ g,Cyc l g∧zD (app l k) f=zD l g)∨∃ g,Cyc k g∧zD (app l k) f=zD k g:=by
 obtain ⟨p,hp⟩:=List.exists_mem_of_ne_nil f h.ne;have F:=(Fcs.faces hl).app hl hk (Fcs.faces hk);obtain ⟨g,hg,hpg⟩:=List.mem_flatten.1 (F.al p (h.is p hp));have e:=Zcy (l:=app l k) (h.perm (F.cy g hg) hp hpg);rcases List.mem_append.1 hg with q|q
 ·have c:=ZbM hl g q;exact .inl ⟨g,c,by rw [e,(Cyc.app1 hl c).2]⟩
 ·obtain ⟨g',hg',rfl⟩:=List.mem_map.1 q;have c:=ZbM hk g' hg';exact .inr ⟨g',c,by rw [e,(Cyc.app2 hk c).2]⟩
theorem Zl8 {n:Nat}{c:Za}{d w:Nat}{o:Int}(hd:d<4):shC n (wC1 c d w o)=wC1 (shC n c) d ((n+w:Nat):Int) o:=by
 have e:sh1 n (w:Int)=((n+w:Nat):Int):=by unfold sh1;rw [if_pos (by omega)];omega
 match d,hd with
 | 0,_|1,_|2,_|3,_=>unfold shC wC1;simp only [A4.set];simp [e]
end Mu
/- Layer 21: cells framed. -/
namespace Mu
theorem Zpp {l k:List Za}{a b d:Nat}{o:Int}(ha:a<k.length) (hb:b<k.length) (hd:d<4):wth (app l k) ((l.length+a:Nat):Int) d ((l.length+b:Nat):Int) o=app l (wth k a d b o):=by
 refine ZdG (by rw [ZaL,Zdi,Zdi,ZaL]) fun i hi=>?_;rw [ZaL,Zdi] at hi;have e1:gi (wth (app l k) ((l.length+a:Nat):Int) d ((l.length+b:Nat):Int) o) i=wC (app l k) ((l.length+a:Nat):Int) d ((l.length+b:Nat):Int) o i:=by
  unfold wth;rw [Zcu (by rw [Zdi];exact hi)]
 rw [e1];by_cases c:i<l.length
 ·rw [ZjU c];unfold wC;dsimp only;rw [if_neg (by omega),if_neg (by omega),ZjU c]
 ·obtain ⟨j,rfl⟩:∃ j,i=l.length+j:=⟨i-l.length,by omega⟩;have hj:j<k.length:=by omega
  rw [ZjV (by rw [ZaL];exact hj)];have e2:gi (wth k a d b o) j=wC k a d b o j:=by unfold wth;rw [Zcu hj]
  rw [e2];unfold wC;dsimp only;rw [ZjV hj];have m:((d:Int)+2).tmod 4=(((d+2)%4:Nat):Int):=tm2 hd;rw [m];by_cases c1:j=b
  ·subst c1;rw [if_pos rfl,if_pos rfl,Zl8 (show (d+2)%4<4 by omega)];by_cases c2:j=a
   ·subst c2;rw [if_pos rfl,if_pos rfl,Zl8 hd]
   ·rw [if_neg (by omega),if_neg (by omega)]
  ·rw [if_neg (show ¬ (((l.length+j:Nat):Int)=((l.length+b:Nat):Int)) by omega),if_neg (show ¬ ((j:Int)=(b:Int)) by omega)];by_cases c2:j=a
   ·subst c2;rw [if_pos rfl,if_pos rfl,Zl8 hd]
   ·rw [if_neg (by omega),if_neg (by omega)]
def frK (d:Nat):Nat→List Za
 | 0=>List.replicate 5 noC
 | j+1=>if (j+3)%4=d then wth (wth (frK d j) j j 4 (-2)) 4 j (((j+1)%4:Nat):Int) (-2) else wth (frK d j) j j (((j+1)%4:Nat):Int) (-2)
theorem ZjT {d:Nat}:∀ j,(frK d j).length=5
 | 0=>by simp [frK]
 | j+1=>by rw [frK];split<;>simp [ZaL,ZjT j]
theorem ZoC:∀ d:Fin 4,∀ j:Fin 5,Ze3 (frK d.1 j.1)=0:=by decide +kernel
theorem Zqf {d j:Nat}(hd:d<4) (hj:j<5):Ck (frK d j):=(ZcF.1 (ZoC ⟨d,hd⟩ ⟨j,hj⟩)).2
theorem Znm:∀ d:Fin 4,∃ a:Fin 4,Zg4 (frK d.1 4)=some (a.1:Int):=by decide +kernel
theorem ZoD {d:Nat}(hd:d<4):Val (frK d 4):=by
 obtain ⟨a,e⟩:=Znm ⟨d,hd⟩;exact Zhv.1 ⟨_,e,by omega⟩
instance Pt.dec {l:List Za}:∀ (s:List Da) (x y:Da),Decidable (Pt l x s y)
 | [],x,y=>inferInstanceAs (Decidable (x=y))
 | a::s,x,y=>by
  have:=Pt.dec (l:=l) s (bh l a) y;exact inferInstanceAs (Decidable (x=a∧isD l a∧Pt l (bh l a) s y))
def frT (d:Nat):List Da:=[(4,(d+1)%4),((d+2)%4,(d+2)%4),((d+3)%4,(d+3)%4),(d,d)]
def frY (d:Nat):Da:=((d+1)%4,(d+1)%4)
theorem ZlQ:∀ d:Fin 4,Pt (frK d.1 4) (4,(d.1+1)%4) (frT d.1++[frY d.1]) (4,(d.1+1)%4)∧(frT d.1++[frY d.1]).Nodup∧zD (frK d.1 4) (frT d.1++[frY d.1])=4∧tt (frK d.1 4) (frY d.1)=0∧nx (frK d.1 4) (frY d.1).1 (frY d.1).2=4∧nx (frK d.1 4) 4 ((d.1+2)%4)=-1∧isD (frK d.1 4) (frY d.1):=by decide +kernel
theorem Zqe:∀ d:Fin 4,Adj (frK d.1 4) 4 ((d.1+2)%4)∧Adj (frK d.1 4) ((d.1+2)%4) ((d.1+3)%4)∧Adj (frK d.1 4) ((d.1+3)%4) d.1∧Adj (frK d.1 4) d.1 ((d.1+1)%4):=by
 have:∀ d:Fin 4,nx (frK d.1 4) 4 ((d.1+1)%4)=((d.1+2)%4:Nat)∧nx (frK d.1 4) ((d.1+2)%4) ((d.1+2)%4)=((d.1+3)%4:Nat)∧nx (frK d.1 4) ((d.1+3)%4) ((d.1+3)%4)=d.1∧nx (frK d.1 4) d.1 d.1=((d.1+1)%4:Nat):=by decide +kernel
 intro d;obtain ⟨a,b,c,e⟩:=this d;have:=d.2;exact ⟨⟨_,by omega,a⟩,⟨_,by omega,b⟩,⟨_,by omega,c⟩,⟨_,by omega,e⟩⟩
theorem Zov {l:List Za}:∀ n,app l (List.replicate n noC)=l++List.replicate n noC:=by
 intro n;unfold app;rw [List.map_replicate];rfl
def frm (l:List Za) (v d:Nat):List Za:=wth (app l (frK d 4)) v d ((l.length+4:Nat):Int) (-2)
end Mu
/- Layer 21: framed cells can be drawn. -/
namespace Mu
def frO (d:Nat):List Da:=((frT d++[frY d]).map (opp (frK d 4))).reverse
theorem ZoE:∀ d:Fin 4,Pt (frK d.1 4) ((frO d.1).headD (0,0)) (frO d.1) ((frO d.1).headD (0,0))∧(frO d.1).Nodup∧zD (frK d.1 4) (frO d.1)=-4∧((frO d.1).map fun p=>ng (tt (frK d.1 4) p)).sum=4∧frY d.1 ∉ frO d.1∧(frO d.1).length=5∧∀ p∈frO d.1,-1≤tt (frK d.1 4) p∧tt (frK d.1 4) p≤0:=by decide +kernel
theorem Del.bridge {l m:List Za}(hc:Ck l) {v d w:Nat}(D:Del l m v d w) {S T:List Da}{x y:Da}(hS:Lp m (S++[x])) (hT:Lp m (T++[y])) (hdj:∀ a∈S++[x],a ∉ T++[y]) (hx:Mu.bh l x=(v,d)) (hy:Mu.bh l y=(w,(d+2)%4)) :
  Lp l ((v,d)::(T++[y])++(w,(d+2)%4)::(S++[x]))∧zD l ((v,d)::(T++[y])++(w,(d+2)%4)::(S++[x]))=zD m (T++[y])+zD m (S++[x])+4:=by
 obtain ⟨p,P⟩:=hS.pt;obtain ⟨q,Q⟩:=hT.pt;obtain ⟨x',P1,P2⟩:=Pt.app.1 P;obtain ⟨y',Q1,Q2⟩:=Pt.app.1 Q;rw [Pt,Pt] at P2 Q2;obtain ⟨rfl,dx,ex⟩:=P2;obtain ⟨rfl,dy,ey⟩:=Q2;have ee:=D.ee hc;have bx:=D.bh hc dx;have by':=D.bh hc dy
 rw [hx,if_pos rfl,if_pos rfl] at bx;rw [hy,if_neg ee,if_pos rfl,if_neg ee,if_pos rfl] at by'
 have n1:=List.nodup_append.1 hS.nd;have n2:=List.nodup_append.1 hT.nd;have iS:=hS.is;have iT:=hT.is;have ne1:∀ a∈S,Mu.bh l a≠(v,d)∧Mu.bh l a≠(w,(d+2)%4):=by
  intro a ha;have da:=(D.isD.1 (iS a (by simp [ha]))).1;refine ⟨fun z=>?_,fun z=>?_⟩
  ·exact n1.2.2 a ha x' (by simp) (ZcJ hc da (D.isD.1 dx).1 (z.trans hx.symm))
  ·have:=ZcJ hc da (D.isD.1 dy).1 (z.trans hy.symm);exact hdj a (by simp [ha]) (by simp [this])
 have ne2:∀ a∈T,Mu.bh l a≠(v,d)∧Mu.bh l a≠(w,(d+2)%4):=by
  intro a ha;have da:=(D.isD.1 (iT a (by simp [ha]))).1;refine ⟨fun z=>?_,fun z=>?_⟩
  ·have:=ZcJ hc da (D.isD.1 dx).1 (z.trans hx.symm);exact hdj x' (by simp) (by simp [← this,ha])
  ·exact n2.2.2 a ha y' (by simp) (ZcJ hc da (D.isD.1 dy).1 (z.trans hy.symm))
 obtain ⟨S1,S2⟩:=D.back hc P1 ne1;obtain ⟨T1,T2⟩:=D.back hc Q1 ne2;have e1:Mu.bh l (w,(d+2)%4)=p:=by rw [← bx.1,ex]
 have e2:Mu.bh l (v,d)=q:=by rw [← by'.1,ey]
 have notm:∀ {s:List Da},(∀ a∈s,Mu.isD m a)→(v,d) ∉ s∧(w,(d+2)%4) ∉ s:=fun h=>⟨fun q=>(D.isD.1 (h _ q)).2.1 rfl,fun q=>(D.isD.1 (h _ q)).2.2 rfl⟩;have mS:=notm iS;have mT:=notm iT;refine ⟨⟨by simp,?_,(v,d),?_⟩,?_⟩
 ·rw [List.cons_append,List.nodup_cons,List.nodup_append,List.nodup_cons];refine ⟨fun z=>?_,hT.nd,⟨mS.2,hS.nd⟩,fun a ha b hb z=>?_⟩
  ·rcases List.mem_append.1 z with z|z
   ·exact mT.1 z
   ·rcases List.mem_cons.1 z with z|z
    ·exact ee z.symm
    ·exact mS.1 z
  ·subst z;rcases List.mem_cons.1 hb with z|z
   ·rw [z] at ha;exact mT.2 ha
   ·exact hdj a z ha
 ·rw [List.cons_append];refine ⟨rfl,D.e,?_⟩;rw [e2];refine Pt.app.2 ⟨(w,(d+2)%4),Pt.app.2 ⟨y',T1,rfl,(D.isD.1 dy).1,hy⟩,rfl,D.e' hc,?_⟩;rw [e1];exact Pt.app.2 ⟨x',S1,rfl,(D.isD.1 dx).1,hx⟩
 ·simp only [List.cons_append,ZaS,Zcl,ZcO];have r1:=bx.2;have r2:=by'.2
  omega
structure Framed (l F:List Za) (v d:Nat):Prop where
 ck:Ck F
 val:Val F
 whole:Mu.whole F
 len:F.length=l.length+5
 out:∃ g,Cyc F g∧zD F g=-4∧(g.map fun p=>ng (tt F p)).sum=4∧∀ p∈g,-1≤tt F p∧tt F p≤0
 old:∀ u e,u<l.length→e<4→(u=v∧e=d→nx l u e=-1)∧(¬ (u=v∧e=d)→nx F u e=nx l u e∧ow F u e=ow l u e)
theorem Zqg {l:List Za}(hc:Ck l) (hV:Val l) (hW:whole l) {f:List Da}(hf:Cyc l f) (h4:zD l f=-4) {x:Da}(hx:x∈f) (tx:tt l x<0):Framed l (frm l (nx l x.1 x.2).toNat x.2) (nx l x.1 x.2).toNat x.2:=by
 have dx:=hf.is x hx;have hd:=dx.2.1;have fx:=dx.fwd hc;have tf:=ZgL hd tx;have lv:=hc.lt fx.1 hd;have hn:nx l (nx l x.1 x.2).toNat x.2=-1:=by omega
 generalize hv:(nx l x.1 x.2).toNat=v at *;have d4:x.2<4:=hd;obtain ⟨a1,a2,a3,a4,a5,a6,a7⟩:=ZlQ ⟨x.2,hd⟩;obtain ⟨o1,o2,o3,o4,o5,o6,o7⟩:=ZoE ⟨x.2,hd⟩;obtain ⟨j1,j2,j3,j4⟩:=Zqe ⟨x.2,hd⟩;dsimp only at a1 a2 a3 a4 a5 a6 a7 o1 o2 o3 o4 o5 o6 o7 j1 j2 j3 j4;have hk:Ck (frK x.2 4):=Zqf hd (by omega);have kV:=ZoD hd;have kl:=ZjT (d:=x.2) 4;generalize hd':x.2=d at *;have LT:Lp (frK d 4) (frT d++[frY d]):=⟨by simp,a2,_,a1⟩;have LO:Lp (frK d 4) (frO d):=⟨fun z=>by rw [z] at o6;simp at o6,o2,_,o1⟩;have h0:=hc.app hk;have al:=Zdi (l:=l) (k:=frK d 4);have vlt:v<(app l (frK d 4)).length:=by rw [al];have:=fx.1;omega
 have wlt:l.length+4<(app l (frK d 4)).length:=by rw [al];omega
 have vw:v≠l.length+4:=by have:=fx.1;omega
 have f1:nx (app l (frK d 4)) v d=-1:=by rw [(Zdk fx.1).1];exact hn
 have f2:nx (app l (frK d 4)) (l.length+4) ((d+2)%4)=-1:=by rw [(ZdL (by omega) (by omega)).1,a6];rfl
 have D:Del (frm l v d) (app l (frK d 4)) v d (l.length+4):=Del.of_wth h0 vlt wlt vw hd f1 f2;have hF:Ck (frm l v d):=h0.wth vlt wlt vw hd f1 f2 (by omega);have flen:(frm l v d).length=l.length+5:=by unfold frm;rw [ZaL,al];omega
 have fnx:∀ u e,u<l.length→e<4→(u=v∧e=d→nx l u e=-1)∧(¬ (u=v∧e=d)→nx (frm l v d) u e=nx l u e∧ow (frm l v d) u e=ow l u e):=by
  intro u e hu he;refine ⟨fun z=>by rw [z.1,z.2];exact hn,fun z=>?_⟩;have:=Ze6 (l:=app l (frK d 4)) (o:=-2) vlt wlt vw hd (i:=u) (e:=e) (by rw [al];omega) he;rw [if_neg z,if_neg (by omega),if_neg z,if_neg (by omega),(Zdk hu).1,(Zdk hu).2] at this;exact this
 -- both loops
 obtain ⟨t,ht,pe⟩:=hf.lp hc hx;have LS0:Lp l (t++[x]):=by
  have:=Lp.turn (s:=[x]) (t:=t) (by simpa using ht);exact this
 have LS:=LS0.app1 (k:=frK d 4) hc;have LT':=LT.app2 (l:=l) hk;rw [List.map_append,List.map_cons,List.map_nil] at LT';have rS:zD (app l (frK d 4)) (t++[x])=-4:=by
  rw [(Cyc.app1 hc LS0.cyc).2,← h4];refine Zcy ((List.perm_append_comm (l₁:=t) (l₂:=[x])).trans pe.symm)
 have rT:zD (app l (frK d 4)) ((frT d).map (shD l.length)++[shD l.length (frY d)])=4:=by
  have:=(Cyc.app2 (l:=l) hk LT.cyc).2;rw [List.map_append,List.map_cons,List.map_nil] at this;rw [this,a3]
 have dj:∀ a∈t++[x],a ∉ (frT d).map (shD l.length)++[shD l.length (frY d)]:=by
  intro a ha hb;have h1:=(LS0.is a ha).1;have:a∈(frT d++[frY d]).map (shD l.length):=by rw [List.map_append];exact hb
  obtain ⟨b,_,rfl⟩:=List.mem_map.1 this;unfold shD at h1;dsimp only at h1;omega
 have isx:isD (app l (frK d 4)) x:=ZeZ.2 (.inl dx);have isy:isD (app l (frK d 4)) (shD l.length (frY d)):=ZeZ.2 (.inr ⟨_,a7,rfl⟩);have tx0:tt (app l (frK d 4)) x=tt l x:=by unfold tt;rw [Zhl hc dx]
 have ty0:tt (app l (frK d 4)) (shD l.length (frY d))=0:=by
  rw [← a4];unfold tt;rw [ZgC hk a7];rfl
 have ty1:tn (frY d).2 ((d+2)%4)=1:=by unfold frY tn;dsimp only;rw [if_neg (by omega),if_pos (by omega)]
 have td:tn d d=0:=by unfold tn;rw [if_pos rfl]
 have bX:bh (frm l v d) x=(v,d):=(D.enter hF h0 isx).1 (by rw [(Zdk dx.1).1];rw [hd'];exact hv) (by rw [tx0,hd',td];exact tx);have bY:bh (frm l v d) (shD l.length (frY d))=(l.length+4,(d+2)%4):=by
  refine (D.enter hF h0 isy).2 ?_ ?_
  ·show (nx (app l (frK d 4)) (l.length+(frY d).1) (frY d).2).toNat=_;rw [(ZdL a7.1 a7.2.1).1,a5];unfold sh1;rw [if_pos (by omega)];omega
  ·rw [ty0];show 0<tn (frY d).2 ((d+2)%4);omega
 obtain ⟨LB,rB⟩:=D.bridge hF LS LT' dj bX bY;rw [rS,rT] at rB;obtain ⟨V1,V2⟩:=(Zd5 hc).1 hV;obtain ⟨K1,K2⟩:=(Zd5 hk).1 kV;have X:chi (frm l v d)=4:=by
  have c0:=Zo5 hc hk;rw [V2,K2] at c0;have b1:=D.cD hF;have b2:=D.cV hF;have e1:=ZeO hF D.e;have e2:=ZeO hF (D.e' hF);rw [D.opp] at e1;rw [← D.opp,Zcv hF D.e,D.opp] at e2;dsimp only at e1 e2;have be:bh (frm l v d) (v,d)≠(l.length+4,(d+2)%4):=by
   intro z;have:=(D.bh hF isy).1;rw [bY,if_neg (D.ee hF),if_pos rfl,z] at this;exact (D.isD.1 (isy.bh h0)).2.2 this
  have be':bh (frm l v d) (l.length+4,(d+2)%4)≠(v,d):=by
   intro z;have:=(D.bh hF isx).1;rw [bX,if_pos rfl,z] at this;exact (D.isD.1 (isx.bh h0)).2.1 this
  cases D.kind hF with
  | two A B R hA hB hl hm' rot same n1 n2 lm =>
   exfalso;have:=LB.cyc.sub hA.cyc (p:=(v,d)) (by simp) (by simp) (l.length+4,(d+2)%4) (by simp);have nd:=hl.nd;rw [List.flatten_cons,List.flatten_cons,List.nodup_append] at nd;exact nd.2.2 _ this _ (by simp) rfl
  | one A B R hA hl hm' rot same n1 n2 lA lB =>
   have g1:=hl.len (Fcs.faces hF);have g2:=hm'.len (Fcs.faces h0);simp only [List.length_cons] at g1 g2;rw [if_neg fun q=>n2 (e2.2 q),if_neg fun q=>n1 (e1.2 q)] at b2;unfold chi at c0 ⊢;omega
  | leaf A R hA hl hm' rot same n =>
   rcases n with ⟨n1,_⟩|⟨_,n2⟩
   ·exact absurd n1 be
   ·exact absurd n2 be'
  | iso R hA hl hm' same n1 n2=>exact absurd n1 be
 refine ⟨hF,(Zd5 hF).2 ⟨fun g hg=>?_,X⟩,?_,flen,?_,fnx⟩
 ·by_cases c1:(v,d)∈g
  ·rw [Zcy (hg.perm LB.cyc c1 (by simp)),rB];left;rfl
  ·by_cases c2:(l.length+4,(d+2)%4)∈g
   ·rw [Zcy (hg.perm LB.cyc c2 (by simp)),rB];left;rfl
   ·obtain ⟨q1,q2⟩:=D.keep hF hg c1 c2;rw [← q2];rcases Cyc.of_app hc hk q1 with ⟨g',h1,h2⟩|⟨g',h1,h2⟩
    ·rw [h2];exact V1 g' h1
    ·rw [h2];exact K1 g' h1
 ·have hl0:=ZfO hW;have adj:∀ a b,a<l.length→Adj l a b→Adj (frm l v d) a b:=by
   rintro a b ha ⟨e,he,q⟩;refine ⟨e,he,?_⟩;have:=fnx a e ha he;by_cases z:a=v∧e=d
   ·have:=this.1 z;omega
   ·rw [(this.2 z).1];exact q
  have reach:∀ u,u<l.length→∃ n,Rch (frm l v d) 0 n u:=by
   intro u hu;obtain ⟨n,r⟩:=ZdY hW hu;exact ⟨n,r.mono adj hc hl0⟩
  have adK:∀ {a b},a<5→Adj (frK d 4) a b→Adj (frm l v d) (l.length+a) (l.length+b):=by
   rintro a b ha ⟨e,he,q⟩;refine ⟨e,he,?_⟩;have n0:=(ZdL (l:=l) (k:=frK d 4) (i:=a) (e:=e) (by omega) he).1;rw [q] at n0;have n1:nx (app l (frK d 4)) (l.length+a) e=((l.length+b:Nat):Int):=by rw [n0];unfold sh1;rw [if_pos (by omega)];omega
   have:=Ze6 (l:=app l (frK d 4)) (o:=-2) vlt wlt vw hd (i:=l.length+a) (e:=e) (by rw [al];omega) he;rw [if_neg (by have:=fx.1;omega)] at this;by_cases z:l.length+a=l.length+4∧e=(d+2)%4
   ·rw [z.1,z.2,f2] at n1;omega
   ·rw [if_neg z] at this;exact this.1.trans n1
  obtain ⟨n,r⟩:=reach v fx.1;have r4:Rch (frm l v d) 0 (n+1) (l.length+4):=.succ r ⟨d,hd,D.hn⟩;have r5:=Rch.succ r4 (adK (by omega) j1);have r6:=Rch.succ r5 (adK (by omega) j2);have r7:=Rch.succ r6 (adK (by omega) j3);have r8:=Rch.succ r7 (adK (by omega) j4);refine ZiW (by omega) fun u hu=>?_;by_cases c:u<l.length
  ·exact reach u c
  ·have:u=l.length+4∨u=l.length+(d+2)%4∨u=l.length+(d+3)%4∨u=l.length+d∨u=l.length+(d+1)%4:=by omega
   rcases this with rfl|rfl|rfl|rfl|rfl
   ·exact ⟨_,r4⟩
   ·exact ⟨_,r5⟩
   ·exact ⟨_,r6⟩
   ·exact ⟨_,r7⟩
   ·exact ⟨_,r8⟩
 ·have C0:=Cyc.app2 (l:=l) hk LO.cyc;have m1:∀ q∈(frO d).map (shD l.length),l.length≤q.1:=by
   intro q hq;obtain ⟨b,_,rfl⟩:=List.mem_map.1 hq;unfold shD;dsimp only;omega
  have notin:∀ q∈(frO d).map (shD l.length),q≠(v,d)∧q≠(l.length+4,(d+2)%4):=fun q hq=>⟨fun z=>(D.isD.1 (C0.1.is q hq)).2.1 z,fun z=>(D.isD.1 (C0.1.is q hq)).2.2 z⟩;have ny:shD l.length (frY d) ∉ (frO d).map (shD l.length):=by
   intro z;obtain ⟨b,hb,e⟩:=List.mem_map.1 z;rw [Zks e] at hb;exact o5 hb
  have hb:∀ q∈(frO d).map (shD l.length),bh (frm l v d) q≠(v,d)∧bh (frm l v d) q≠(l.length+4,(d+2)%4):=by
   intro q hq;have dq:=(D.isD.1 (C0.1.is q hq)).1;refine ⟨fun z=>?_,fun z=>?_⟩
   ·have:=ZcJ hF dq (D.isD.1 isx).1 (z.trans bX.symm);have:=m1 q hq;have:=dx.1;subst q;omega
   ·have:=ZcJ hF dq (D.isD.1 isy).1 (z.trans bY.symm);rw [this] at hq;exact ny hq
  have C1:Cyc (frm l v d) ((frO d).map (shD l.length)):=by
   refine ⟨C0.1.ne,C0.1.nd,fun q hq=>(D.isD.1 (C0.1.is q hq)).1,fun q hq=>?_,fun C hC p hp q hq hCp=>C0.1.one (fun z=>z∈(frO d).map (shD l.length)→C z) (fun z hz hCz hm=>?_) p hp q hq (fun _=>hCp) hq⟩
   ·have:=(D.bh hF (C0.1.is q hq)).1;rw [if_neg (hb q hq).1,if_neg (hb q hq).2] at this;rw [← this];exact C0.1.cl q hq
   ·-- what leads there is in it too
    have:z∈(frO d).map (shD l.length):=Zgy h0 ⟨C0.1.nd,C0.1.is⟩ C0.1.cl hz hm;have e:=(D.bh hF (C0.1.is z this)).1;rw [if_neg (hb z this).1,if_neg (hb z this).2] at e;rw [e];exact hC z (D.isD.1 hz).1 (hCz this)
  have t2:∀ q∈(frO d).map (shD l.length),tt (frm l v d) q=tt (app l (frK d 4)) q:=by
   intro q hq;have:=(D.bh hF (C0.1.is q hq)).2;rw [if_neg (hb q hq).1,if_neg (hb q hq).2] at this;exact this.symm
  have e1:zD (frm l v d) ((frO d).map (shD l.length))=zD (app l (frK d 4)) ((frO d).map (shD l.length)):=by
   unfold zD tns;congr 1;exact List.map_congr_left fun q hq=>t2 q hq
  have e2:∀ q∈frO d,tt (frm l v d) (shD l.length q)=tt (frK d 4) q:=by
   intro q hq;rw [t2 _ (List.mem_map.2 ⟨q,hq,rfl⟩)];unfold tt;rw [ZgC hk (LO.is q hq)];rfl
  have e3:((frO d).map (shD l.length)).map (fun p=>ng (tt (frm l v d) p))=(frO d).map fun p=>ng (tt (frK d 4) p):=by
   rw [List.map_map];exact List.map_congr_left fun q hq=>congrArg ng (e2 q hq)
  exact ⟨(frO d).map (shD l.length),C1,by rw [e1,C0.2,o3],by rw [e3];exact o4,fun p hp=>by
   obtain ⟨q,hq,rfl⟩:=List.mem_map.1 hp;rw [e2 q hq];exact o7 q hq⟩
end Mu
/- Cells on a plane: laid out on the board's own lines. -/
namespace Mu
/-! Cells that hang together,dart by dart. -/
theorem Zsy:∀ a b c d:Bool,∀ i j:Fin 4,ZcS a b c d i.1=true→ZcS a b c d j.1=true →
  j.1=i.1∨j.1=prv (ZcS a b c d) ((i.1+2)%4)∨j.1=prv (ZcS a b c d) ((prv (ZcS a b c d) ((i.1+2)%4)+2)%4)∨j.1=prv (ZcS a b c d) ((prv (ZcS a b c d) ((prv (ZcS a b c d) ((i.1+2)%4)+2)%4)+2)%4):=by decide +kernel
theorem Zmf {l:List Za}(hc:Ck l) {C:Da→Prop}(hC:∀ x,isD l x→C x→C (bh l x)∧C (opp l x)) {u i j:Nat}(hi:isD l (u,i)) (hj:isD l (u,j)) (h:C (u,i)):C (u,j):=by
 have st:∀ {k},isD l (u,k)→C (u,k)→isD l (u,prv (fun e=>decide (0≤nx l u e)) ((k+2)%4))∧C (u,prv (fun e=>decide (0≤nx l u e)) ((k+2)%4)):=by
  intro k hk hCk;have f:=hk.fwd hc;have o:=hk.opp hc;have c1:=(hC _ hk hCk).2;have c2:=(hC _ o c1).1;have c3:=o.bh hc;rw [ZcK] at c2 c3;have e:(nx l (opp l (u,k)).1 (opp l (u,k)).2).toNat=u:=by
   show (nx l (nx l u k).toNat ((k+2)%4)).toNat=u;have:=f.2;dsimp only at this;rw [this];omega
  rw [e] at c2 c3;exact ⟨c3,c2⟩
 have q:=Zsy (decide (0≤nx l u 0)) (decide (0≤nx l u 1)) (decide (0≤nx l u 2)) (decide (0≤nx l u 3)) ⟨i,hi.2.1⟩ ⟨j,hj.2.1⟩;have se:∀ e,e<4→ZcS (decide (0≤nx l u 0)) (decide (0≤nx l u 1)) (decide (0≤nx l u 2)) (decide (0≤nx l u 3)) e=decide (0≤nx l u e):=fun e he=>Zdm (A:=fun e=>decide (0≤nx l u e)) he;have pe:∀ e,e<4→prv (ZcS (decide (0≤nx l u 0)) (decide (0≤nx l u 1)) (decide (0≤nx l u 2)) (decide (0≤nx l u 3))) e=prv (fun e=>decide (0≤nx l u e)) e:=fun e he=>ZdM (A:=fun e=>decide (0≤nx l u e)) he;have i0:=hi.2.2;have j0:=hj.2.2;dsimp only at q i0 j0;have q:=q (by rw [se i hi.2.1];simpa using i0) (by rw [se j hj.2.1];simpa using j0);have l1:prv (fun e=>decide (0≤nx l u e)) ((i+2)%4)<4:=ZhD (by omega);rw [pe _ (by omega),pe _ (by omega),pe _ (by omega)] at q;obtain ⟨d1,c1⟩:=st hi h;obtain ⟨d2,c2⟩:=st d1 c1;obtain ⟨d3,c3⟩:=st d2 c2;rcases q with q|q|q|q
 ·rw [q];exact h
 ·rw [q];exact c1
 ·rw [q];exact c2
 ·rw [q];exact c3
theorem ZpT {l:List Za}(hc:Ck l) {C:Da→Prop}(hC:∀ x,isD l x→C x→C (bh l x)∧C (opp l x)) {u n w:Nat}(hu:u<l.length) (hr:Rch l u n w) (h:∀ j,isD l (u,j)→C (u,j)):∀ j,isD l (w,j)→C (w,j):=by
 induction hr with
 | zero=>exact h
 | succ hr hab ih =>
  rename_i n a b;have ha:=hr.lt hc hu;obtain ⟨d,hd,e⟩:=hab;have D:isD l (a,d):=⟨ha,hd,by rw [e];omega⟩;have c:=(hC _ D (ih d D)).2;have o:=D.opp hc;have eo:opp l (a,d)=(b,(d+2)%4):=by unfold opp;dsimp only;rw [e,itn]
  rw [eo] at c o;exact fun j hj=>Zmf hc hC o hj c
theorem Zk8 {l:List Za}(hc:Ck l) (h:whole l):Cn l:=by
 intro C hC p q hp hq hCp;have all:∀ j,isD l (p.1,j)→C (p.1,j):=fun j hj=>Zmf (i:=p.2) hc hC hp hj hCp;obtain ⟨n,r1⟩:=ZdY h hp.1;obtain ⟨m,r2⟩:=ZdY h hq.1;exact ZpT hc hC hp.1 ((r1.symm hc (by have:=hp.1;omega)).trans r2) all q.2 hq

/-! The board. -/
end Mu
/- Cells that lie on a plane can be drawn,if they hang together. -/
namespace Mu
def dx (d:Nat):Int:=if d=0 then 1 else if d=2 then -1 else 0
def dy (d:Nat):Int:=if d=1 then 1 else if d=3 then -1 else 0
section geo
variable {l:List Za}{at_:List Zl}
def pX (at_:List Zl) (p:Da) (i:Int):Int:=(gi at_ p.1).X+i*dx p.2
def pY (at_:List Zl) (p:Da) (i:Int):Int:=(gi at_ p.1).Y+i*dy p.2
end geo
end Mu
/- Layer 14: ValidPlane: the board's cells that lie under cells on a plane. -/
namespace Mu
def ps (x y:Int):Nat:=(8*y+x).toNat
section geo
variable {l:List Za}{at_:List Zl}
def un (at_:List Zl) (p:Da) (i:Nat):Da:=(ps (pX at_ p i) (pY at_ p i),p.2)
end geo
end Mu
/- Layer 21: framing and refining in the code;RectCounts. -/
namespace Mu
theorem ZoZ {l:List Za}:negs l≤8*l.length:=by
 have a:(ZcH l).length≤4*l.length:=by
  have:=Mets.len (l:=l) (met:=ZcH l) ⟨ZdE,fun p hp=>ZbD.1 hp⟩;exact this
 have b:∀ L:List Da,(L.map fun p=>ng (tt l p)).sum≤2*L.length:=by
  intro L
  induction L with
  | nil=>simp
  | cons a L ih =>
   rw [List.map_cons,List.sum_cons,List.length_cons];have:ng (tt l a)≤2:=by
    have:-2≤tt l a:=ZiU.1;unfold ng;split<;>omega
   omega
 have:=b (ZcH l);unfold negs;omega
theorem Framed.err {l F:List Za}{v d:Nat}(h:Framed l F v d) (hl:l.length≤100):ZcQ F=0:=ZdJ.2 ⟨ZcF.2 ⟨by rw [h.len];omega,h.ck⟩,h.whole,fun _=>h.val⟩
/-! Turns to the right,face by face. -/
end Mu
/- Layers 20 and 21: fronts,framing and refining are the document's. -/
namespace Mu
theorem Zp2 {t:List Int}(h:Rng t) (ht:t.length≤1000000):ZaN t=some true:=by
 unfold ZaN;rw [ZfF (x:=.inl ()) ?_];refine ZbC (fun i:Nat=>(i:Int)) (n:=t.length) (ZaK (by omega)) rfl (fun i hi=>?_) ?_
 ·have:=h i;simp only [ZaN.s0,itn];rw [ZU (by omega),Zz (by omega),if_neg (by simp;omega),zR (by omega)];rfl
 ·simp only [ZaN.s0];rw [ZS (by omega)]
theorem rOf {t:List Int}(h:Rng t) (ht:t.length≤1000000) {i:Nat}(hi:i<t.length):zP t i=some (if gi t i<0 then (match ZgN t i with|some k=>((((i+k)%t.length+1)%t.length:Nat):Int)|none=>-1) else -1):=by
 unfold zP;rw [Zp2 h ht,obs,if_neg (by simp;omega),Zz (by omega),itn];by_cases h0:gi t i<0
 ·rw [ZS (by omega),if_pos h0,zR (by omega)];have S:∀ n:Nat,n≤t.length+1→ZV (zP.s1 t ((i+n:Nat):Int)) big (0,(i:Int))=some (cs t i n):=by
   intro n hn;refine ZbC (fun k:Nat=>(cs t i k,((i+k:Nat):Int))) (n:=n) (ZaK (by omega)) (by simp [cs]) (fun k hk=>?_) ?_
   ·have r:=Zll h (i:=i) k;have r2:=Zll h (i:=i) (k+1);have m:((i+k:Nat):Int).tmod (t.length:Int)=(((i+k)%t.length:Nat):Int):=by rw [Int.tmod_eq_emod_of_nonneg (by omega)];rfl
    have ml:(i+k)%t.length<t.length:=Nat.mod_lt _ (by omega);have e:cs t i (k+1)=cs t i k+gi t ((i+k)%t.length):=rfl;simp only [zP.s1];rw [ZU (by omega),Zz (by omega),m,Zz (by omega),itn,← e,zR (by omega),zR (by omega)];congr 3<;>omega
   ·simp only [zP.s1];rw [ZS (by omega)]
  have L:ZV (zP.s0 t i) big ((i:Int)+1)=some (match ZgN t i with|some k=>.inr ((((i+k)%t.length+1)%t.length:Nat):Int)|none=>.inl ()):=by
   have one:∀ k:Nat,k<t.length→zP.s0 t i ((i:Int)+1+k)=some (if cs t i (k+1)=1 then .inr (.inr ((((i+k)%t.length+1)%t.length:Nat):Int)) else .inl ((i:Int)+1+((k+1:Nat):Int))):=by
    intro k hk;simp only [zP.s0];rw [zR (by omega),ZU (by omega),show (i:Int)+1+(k:Int)=((i+(k+1):Nat):Int) by omega,S (k+1) (by omega),obs];by_cases c:cs t i (k+1)=1
    ·rw [ZU c,if_pos c,Zz (by omega)];have m:((i+(k+1):Nat):Int).tmod (t.length:Int)=((((i+k)%t.length+1)%t.length:Nat):Int):=by
      rw [Int.tmod_eq_emod_of_nonneg (by omega),Nat.mod_add_mod];rfl
     rw [m]
    ·rw [ZS c,if_neg c,zR (by omega)];congr 2;omega
   cases e:ZgN t i with
   | none =>
    have q:=Zms e;refine ZbC (fun k:Nat=>(i:Int)+1+(k:Int)) (n:=t.length) (ZaK (by omega)) (by simp) (fun k hk=>?_) ?_
    ·rw [one k hk,if_neg (q k hk)]
    ·simp only [zP.s0];rw [zR (by omega),ZS (by omega)]
   | some k =>
    obtain ⟨a,b,c⟩:=Zmt e;refine ZbC (fun k:Nat=>(i:Int)+1+(k:Int)) (n:=k) (ZaK (by omega)) (by simp) (fun j hj=>?_) ?_
    ·rw [one j (by omega),if_neg (c j hj)]
    ·rw [one k a,if_pos b]
  rw [L,obs];cases ZgN t i<;>rfl
 ·rw [ZU (by omega),if_neg h0]
def opF (t:List Int):Option Nat:=(List.range t.length).find? fun i=>decide (gi t i<0)&&(ZgN t i).isNone
theorem ZqD {t:List Int}(h:Rng t) (ht:t.length≤1000000):ZaZ t=some (match opF t with|some i=>(i:Int)|none=>-1):=by
 unfold ZaZ;rw [Zp2 h ht,obs,Bool.not_true,if_neg Bool.false_ne_true];have L:ZV (ZaZ.s0 t) big 0=some (match opF t with|some i=>.inr (i:Int)|none=>.inl ()):=by
  refine ZcA (n:=t.length) (P:=fun i=>decide (gi t i<0)&&(ZgN t i).isNone) (f:=fun i=>(i:Int)) (ZaK (by omega)) (fun i hi=>?_) ?_
  ·simp only [ZaZ.s0,itn];rw [ZU (by omega),rOf h ht hi,obs,Zz (by omega)];by_cases c:gi t i<0
   ·rw [if_pos c]
    cases ZgN t i with
    | none=>simp [c]
    | some k =>
     have q:¬ (((((i+k)%t.length+1)%t.length:Nat):Int)<0):=by omega
     dsimp only;rw [if_neg (by rw [Zdo q,Bool.and_false];exact Bool.false_ne_true),zR (by omega),if_neg (by simp)]
   ·rw [if_neg c,if_neg (by simp;omega),zR (by omega),if_neg (by simp;omega)]
  ·simp only [ZaZ.s0];rw [ZS (by omega)]
 rw [L,obs];cases opF t<;>rfl
end Mu
/- Layer 21: what is framed and refined is the document's. -/
namespace Mu
def fqA (s:Nat):Nat:=if s=0 then 1 else if s=1 then 3 else 0
def fqB (s:Nat):Nat:=if s=0 then 2 else if s=1 then 2 else if s=2 then 3 else 1
def fqW (s:Nat):Nat:=if s=0 then 1 else if s=1 then 0 else if s=2 then 1 else 0
def frQ (d:Nat):Nat→List Za
 | 0=>List.replicate 5 noC
 | s+1=>if s=d then frQ d s else wth (frQ d s) (fqA s:Nat) (fqW s:Nat) (fqB s:Nat) (-2)
theorem Zig {d:Nat}:∀ j,(frQ d j).length=5
 | 0=>by simp [frQ]
 | j+1=>by rw [frQ];split<;>simp [ZaL,Zig j]
theorem Zmq:∀ d s:Fin 4,s.1≠d.1→nx (frQ d.1 s.1) (fqA s.1) (fqW s.1)=-1∧nx (frQ d.1 s.1) (fqB s.1) ((fqW s.1+2)%4)=-1:=by decide +kernel
theorem Zno:∀ d:Fin 4,nx (frQ d.1 4) (fqA d.1) (fqW d.1)=-1∧nx (frQ d.1 4) 4 ((fqW d.1+2)%4)=-1 ∧
  nx (wth (frQ d.1 4) (fqA d.1:Nat) (fqW d.1:Nat) (4:Nat) (-2)) 4 (fqW d.1)=-1∧nx (wth (frQ d.1 4) (fqA d.1:Nat) (fqW d.1:Nat) (4:Nat) (-2)) (fqB d.1) ((fqW d.1+2)%4)=-1:=by decide +kernel
theorem Znn:∀ d:Fin 4,wth (wth (frQ d.1 4) (fqA d.1:Nat) (fqW d.1:Nat) (4:Nat) (-2)) (4:Nat) (fqW d.1:Nat) (fqB d.1:Nat) (-2)=frK d.1 4:=by decide +kernel
theorem Zpu {n s:Nat}(hs:s<4):gi [(n:Int)+1,(n:Int)+3,(n:Int),(n:Int)] s=((n+fqA s:Nat):Int)∧gi ([1,0,1,0]:List Int) s=(fqW s:Nat)∧gi [(n:Int)+2,(n:Int)+2,(n:Int)+3,(n:Int)+1] s=((n+fqB s:Nat):Int)∧fqA s<5∧fqB s<5∧fqW s<4∧fqA s≠fqB s∧fqA s≠4∧fqB s≠4:=by
 match s,hs with
 | 0,_|1,_|2,_|3,_=>refine ⟨?_,rfl,?_,by decide,by decide,by decide,by decide,by decide,by decide⟩<;>simp [gi,fqA,fqB]
theorem Ziu {l k:List Za}{a b e:Nat}(hl:l.length≤4000) (hk:k.length=5) (ha:a<5) (hb:b<5) (hab:a≠b) (he:e<4) (h1:nx k a e=-1) (h2:nx k b ((e+2)%4)=-1):zO (app l k) ((l.length+a:Nat):Int) e ((l.length+b:Nat):Int) (-2)=some (app l (wth k a e b (-2)),0):=by
 have sN:∀ {k:List Za}{a e:Nat},a<k.length→e<4→nx k a e=-1→nx (app l k) (l.length+a) e=-1:=by
  intro k a e ha he h;rw [(ZdL ha he).1,h];rfl
 rw [(Zii (by rw [Zdi];omega) (by rw [Zdi];omega) (by rw [Zdi];omega) (by omega) he (by omega) (sN (by omega) he h1) (sN (by omega) (by omega) h2)).2,Zpp (by omega) (by omega) he]
end Mu
/- A way of ZcH that never goes one way does not come back: numbers that rise along it. -/
namespace Mu
theorem Zci {α:Type} [Inhabited α] {l:List α}{x:α}(h:x∈l):∃ i,i<l.length∧gi l i=x:=by
 obtain ⟨i,hi,e⟩:=List.mem_iff_getElem.1 h;exact ⟨i,hi,by rw [Zb3 hi,e]⟩
theorem Zqh {α:Type} [Inhabited α] {l:List α}(h:l.Nodup) {i j:Nat}(hi:i<l.length) (hj:j<l.length) (e:gi l i=gi l j):i=j:=by
 rw [List.Nodup,List.pairwise_iff_getElem] at h;rw [Zb3 hi,Zb3 hj] at e;refine Classical.byContradiction fun c=>?_;rcases Nat.lt_or_gt_of_ne c with q|q
 ·exact h i j hi hj q e
 ·exact h j i hj hi q e.symm
def Zrv (l:List Za) (A:Da→Bool) (v:Nat):Za:=⟨⟨if A (v,0) then nx l v 0 else -1,if A (v,1) then nx l v 1 else -1,if A (v,2) then nx l v 2 else -1,if A (v,3) then nx l v 3 else -1⟩,⟨if A (v,0) then ow l v 0 else 0,if A (v,1) then ow l v 1 else 0,if A (v,2) then ow l v 2 else 0,if A (v,3) then ow l v 3 else 0⟩⟩
def flt (l:List Za) (A:Da→Bool):List Za:=(List.range l.length).map (Zrv l A)
theorem Zif {l:List Za}{A:Da→Bool}:(flt l A).length=l.length:=by simp [flt]
theorem ZgX {l:List Za}{A:Da→Bool}{v d:Nat}(hv:v<l.length) (hd:d<4):nx (flt l A) v d=(if A (v,d) then nx l v d else -1)∧ow (flt l A) v d=(if A (v,d) then ow l v d else 0):=by
 have e:gi (flt l A) v=Zrv l A v:=Zcu hv;unfold nx ow;rw [e]
 match d,hd with
 | 0,_|1,_|2,_|3,_=>exact ⟨rfl,rfl⟩
theorem Zhp {l:List Za}{A:Da→Bool}{p:Da}:isD (flt l A) p↔isD l p∧A p=true:=by
 unfold isD;rw [Zif];constructor
 ·rintro ⟨a,b,c⟩;rw [(ZgX a b).1] at c;by_cases q:A (p.1,p.2)=true
  ·rw [if_pos q] at c;exact ⟨⟨a,b,c⟩,q⟩
  ·rw [if_neg q] at c;omega
 ·rintro ⟨⟨a,b,c⟩,q⟩;have q':A (p.1,p.2)=true:=q;refine ⟨a,b,?_⟩;rw [(ZgX a b).1,if_pos q'];exact c
theorem ZoB {l:List Za}{A:Da→Bool}:Sub (flt l A) l:=⟨Zif,fun u e hu he=>by
 rw [(ZgX hu he).1];split
 ·exact .inl rfl
 ·exact .inr rfl⟩
theorem Zqd {l:List Za}(hc:Ck l) {A:Da→Bool}(hA:∀ p,isD l p→A p=true→A (opp l p)=true):Ck (flt l A):=by
 refine ⟨fun v d hv hd=>?_⟩;rw [Zif] at hv ⊢;rw [(ZgX hv hd).1,(ZgX hv hd).2];rcases hc.s v d hv hd with ⟨a,b⟩|⟨w,a,b,c,e,f,g⟩
 ·left;constructor
  ·split
   ·exact a
   ·rfl
  ·split
   ·exact b
   ·rfl
 ·by_cases q:A (v,d)=true
  ·right;have iv:isD l (v,d):=⟨hv,hd,by rw [a];omega⟩;have q2:A (w,(d+2)%4)=true:=by
    have:=hA _ iv q;unfold opp at this;dsimp only at this;rw [a,itn] at this;exact this
   refine ⟨w,by rw [if_pos q,a],b,c,?_,?_,?_⟩
   ·rw [(ZgX b (by omega)).1,if_pos q2,e]
   ·rw [(ZgX b (by omega)).2,if_pos q2,if_pos q,f]
   ·rw [if_pos q];exact g
  ·left;rw [if_neg q,if_neg q];exact ⟨rfl,rfl⟩
def Wk (l:List Za):Nat→List Da→Nat→Prop
 | x,[],y=>x=y
 | x,p::t,y=>p.1=x∧isD l p∧Wk l (nx l p.1 p.2).toNat t y
theorem Wk.cut {l:List Za}{y:Nat}:∀ {s:List Da}{x u:Nat},Wk l x s y→u∈s.map (·.1)→∃ a b,s=a++b∧Wk l u b y
 | [],x,u,h,hu=>by simp at hu
 | p::s,x,u,h,hu=>by
  by_cases c:u=p.1
  ·exact ⟨[],p::s,rfl,by subst c;exact ⟨rfl,h.2.1,h.2.2⟩⟩
  ·have:u∈s.map (·.1):=by
    rw [List.map_cons,List.mem_cons] at hu;exact hu.resolve_left c
   obtain ⟨a,b,e,w⟩:=Wk.cut h.2.2 this;exact ⟨p::a,b,by rw [e];rfl,w⟩
theorem Wk.simple {l:List Za}{y:Nat}{D:Nat→Prop}:∀ {s:List Da}{x:Nat},Wk l x s y→(∀ p∈s,D p.2)→∃ s',Wk l x s' y∧(∀ p∈s',D p.2)∧(s'.map (·.1)).Nodup∧y ∉ s'.map (·.1)
 | [],x,h,hD=>⟨[],h,by simp,by simp,by simp⟩
 | p::s,x,h,hD=>by
  obtain ⟨s',w,d,nd,ny⟩:=Wk.simple h.2.2 (fun q hq=>hD q (by simp [hq]));by_cases c:x=y
  ·exact ⟨[],c,by simp,by simp,by simp⟩
  ·by_cases e:x∈s'.map (·.1)
   ·obtain ⟨a,b,e1,w1⟩:=Wk.cut w e;subst e1;rw [List.map_append] at nd ny;refine ⟨b,w1,fun q hq=>d q (by simp [hq]),(List.nodup_append.1 nd).2.1,fun q=>ny (by simp only [List.mem_append];exact .inr q)⟩
   ·refine ⟨p::s',⟨h.1,h.2.1,w⟩,?_,?_,?_⟩
    ·intro q hq;rcases List.mem_cons.1 hq with rfl|hq
     ·exact hD _ (by simp)
     ·exact d q hq
    ·rw [List.map_cons,List.nodup_cons,h.1];exact ⟨e,nd⟩
    ·rw [List.map_cons,List.mem_cons,h.1];rintro (q|q)
     ·exact c q.symm
     ·exact ny q
theorem Wk.at {l:List Za}{y:Nat}:∀ {s:List Da}{x:Nat},Wk l x s y→∀ i,i<s.length→isD l (gi s i)∧(nx l (gi s i).1 (gi s i).2).toNat=(if i+1<s.length then (gi s (i+1)).1 else y)∧(i=0→(gi s i).1=x)
 | [],x,h,i,hi=>by simp at hi
 | p::s,x,h,0,hi=>by
  have e0:gi (p::s) 0=p:=rfl;rw [e0];refine ⟨h.2.1,?_,fun _=>h.1⟩
  match s,h with
  | [],h=>simp;exact h.2.2
  | q::s,h =>
   rw [if_pos (by simp)];exact h.2.2.1.symm
 | p::s,x,h,i+1,hi=>by
  have hi':i<s.length:=by simpa using hi
  have e0:∀ j,gi (p::s) (j+1)=gi s j:=fun j=>rfl;rw [e0,e0];obtain ⟨a,b,_⟩:=Wk.at h.2.2 i hi';refine ⟨a,?_,fun c=>by omega⟩;rw [b];by_cases c:i+1<s.length
  ·rw [if_pos c,if_pos (by simp;omega)]
  ·rw [if_neg c,if_neg (by simp;omega)]
def ph (d0 e:Nat):Int:=if e=d0 then 0 else if e=(d0+1)%4 then 1 else -1
theorem ZqM:∀ d a b:Fin 4,a.1≠(d.1+2)%4→b.1≠(d.1+2)%4→b.1≠(a.1+2)%4→tn a.1 b.1=ph d.1 b.1-ph d.1 a.1:=by decide +kernel
theorem ZrZ {d a b:Nat}(hd:d<4) (ha:a<4) (hb:b<4) (h1:a≠(d+2)%4) (h2:b≠(d+2)%4) (h3:b≠(a+2)%4):tn a b=ph d b-ph d a:=ZqM ⟨d,hd⟩ ⟨a,ha⟩ ⟨b,hb⟩ h1 h2 h3
theorem Zmj {f g:Da→Int}:∀ {L:List Da},(L.map fun p=>f p-g p).sum=(L.map f).sum-(L.map g).sum
 | []=>rfl
 | a::L=>by simp only [List.map_cons,List.sum_cons];rw [Zmj];omega
theorem Zn5 {l:List Za}(hc:Ck l) (hV:Val l) (Cl:Cn l) {d0:Nat}(h4:d0<4) {p:Da}(hp:isD l p) (hp2:p.2=d0) {s:List Da}(hs:Wk l (nx l p.1 p.2).toNat s p.1) (hD:∀ q∈s,q.2≠(d0+2)%4):False:=by
 obtain ⟨s,hs,hD,nd,ny⟩:=hs.simple (D:=fun e=>e≠(d0+2)%4) hD;obtain ⟨f,hf⟩:∃ f,f=p::s:=⟨_,rfl⟩;have w:Wk l p.1 f p.1:=by rw [hf];exact ⟨rfl,hp,hs⟩
 have fnd:(f.map (·.1)).Nodup:=by rw [hf,List.map_cons,List.nodup_cons];exact ⟨ny,nd⟩
 have fD:∀ q∈f,q.2≠(d0+2)%4:=by
  intro q hq;rw [hf] at hq;rcases List.mem_cons.1 hq with rfl|hq
  ·omega
  ·exact hD q hq
 have f0:0<f.length:=by rw [hf];simp
 have g0:gi f 0=p:=by rw [hf];rfl
 have at_:=fun i hi=>w.at i hi;have inj:∀ i j,i<f.length→j<f.length→(gi f i).1=(gi f j).1→i=j:=by
  intro i j hi hj h;have k:∀ i,i<f.length→gi (f.map (·.1)) i=(gi f i).1:=fun i hi=>ZbO hi;rw [← k i hi,← k j hj] at h;exact Zqh fnd (by simpa using hi) (by simpa using hj) h
 obtain ⟨nxi,hnx⟩:∃ nxi:Nat→Nat,∀ i,nxi i=if i+1<f.length then i+1 else 0:=⟨fun i=>if i+1<f.length then i+1 else 0,fun _=>rfl⟩;have nlt:∀ i,i<f.length→nxi i<f.length:=fun i hi=>by rw [hnx];split<;>omega
 have tgt:∀ i,i<f.length→(nx l (gi f i).1 (gi f i).2).toNat=(gi f (nxi i)).1:=by
  intro i hi;rw [(at_ i hi).2.1,hnx];split
  ·rfl
  ·rw [g0]
 -- no turn back
 have nob:∀ i,i<f.length→(gi f (nxi i)).2≠((gi f i).2+2)%4:=by
  intro i hi e;have b:=(at_ i hi).1.fwd hc;have t2:=tgt (nxi i) (nlt i hi);have e1:(nx l (gi f (nxi i)).1 (gi f (nxi i)).2).toNat=(gi f i).1:=by
   rw [e,← tgt i hi,b.2];omega
  rw [t2] at e1;have k:=inj _ _ (nlt _ (nlt i hi)) hi e1;have c1:=fD _ (ZaH hi);have c2:=fD _ (ZaH (nlt i hi));have l1:=(at_ i hi).1.2.1;have l2:=(at_ _ (nlt i hi)).1.2.1;have n1:i≠0:=by
   rintro rfl;rw [g0] at e;omega
  have n2:nxi i≠0:=by
   intro z;rw [z,g0] at e;omega
  have h1:=hnx i;have h2:=hnx (nxi i);rw [k] at h2;split at h1<;>split at h2<;>omega
 -- the way's edges alone
 obtain ⟨A,hA⟩:∃ A:Da→Bool,∀ q,A q=true↔(q∈f∨opp l q∈f):=⟨fun q=>decide (q∈f∨opp l q∈f),fun q=>by simp⟩;have fis:∀ q∈f,isD l q:=fun q hq=>by
  obtain ⟨i,hi,e⟩:=Zci hq;rw [← e];exact (at_ i hi).1
 have hm:Ck (flt l A):=Zqd hc fun q hq h=>by
  rw [hA] at h ⊢;rw [Zcv hc hq];exact h.symm
 have S:Sub (flt l A) l:=ZoB;have fm:∀ q∈f,isD (flt l A) q:=fun q hq=>Zhp.2 ⟨fis q hq,(hA q).2 (.inl hq)⟩;have nxm:∀ q∈f,nx (flt l A) q.1 q.2=nx l q.1 q.2:=fun q hq=>(S.is (fm q hq)).2
 -- what lies at a cell of the way
 have only:∀ i e,i<f.length→e<4→(0≤nx (flt l A) (gi f (nxi i)).1 e↔e=(gi f (nxi i)).2∨e=((gi f i).2+2)%4):=by
  intro i e hi he;have iN:=(at_ _ (nlt i hi)).1;constructor
  ·intro h;have hq:isD (flt l A) ((gi f (nxi i)).1,e):=⟨by rw [Zif];exact iN.1,he,h⟩;obtain ⟨q1,q2⟩:=Zhp.1 hq;rcases (hA _).1 q2 with m|m
   ·obtain ⟨j,hj,ej⟩:=Zci m;have:=inj j (nxi i) hj (nlt i hi) (by rw [ej]);left;rw [← this,ej]
   ·obtain ⟨j,hj,ej⟩:=Zci m;have b:=(q1.opp hc).fwd hc;have o2:=Zcv hc q1;have t:=tgt j hj;rw [ej] at t;have t1:(nx l (opp l ((gi f (nxi i)).1,e)).1 (opp l ((gi f (nxi i)).1,e)).2).toNat=(gi f (nxi i)).1:=congrArg Prod.fst o2;rw [t1] at t;have k:=inj _ _ (nlt i hi) (nlt j hj) t;have ij:i=j:=by
     have h1:=hnx i;have h2:=hnx j;split at h1<;>split at h2<;>omega
    right;rw [ij,ej];unfold opp;dsimp only;omega
  ·rintro (q|q)
   ·rw [q];exact (fm _ (ZaH (nlt i hi))).2.2
   ·have:=((fm _ (ZaH hi)).opp hm).2.2;unfold opp at this;dsimp only at this;rw [nxm _ (ZaH hi),tgt i hi] at this;rw [q];exact this
 have bhm:∀ i,i<f.length→bh (flt l A) (gi f i)=gi f (nxi i):=by
  intro i hi;have nb:=nob i hi;have l1:=(at_ i hi).1.2.1;have l2:=(at_ _ (nlt i hi)).1.2.1;unfold bh;rw [nxm _ (ZaH hi),tgt i hi];have o:=fun e he=>only i e hi he;have e3:gi f (nxi i)=((gi f (nxi i)).1,(gi f (nxi i)).2):=rfl;generalize (gi f (nxi i)).2=r at *;generalize (gi f i).2=q at *;rw [e3];by_cases c1:r=(q+1)%4
  ·rw [if_pos ((o _ (by omega)).2 (.inl c1.symm)),c1]
  ·rw [if_neg (fun h=>by rcases (o _ (by omega)).1 h with k|k<;>omega)];by_cases c2:r=q
   ·rw [if_pos ((o _ (by omega)).2 (.inl c2.symm)),c2]
   ·rw [if_neg (fun h=>by rcases (o _ (by omega)).1 h with k|k<;>omega)];have c3:r=(q+3)%4:=by omega
    rw [if_pos ((o _ (by omega)).2 (.inl c3.symm)),c3]
 have fn:f.Nodup:=(List.pairwise_map.1 fnd).imp fun {a b} h e=>h (by rw [e]);have one:∀ C:Da→Prop,(∀ x,isD (flt l A) x→C x→C (bh (flt l A) x))→∀ q∈f,∀ r∈f,C q→C r:=by
  intro C hC q hq r hr h;obtain ⟨i,hi,ei⟩:=Zci hq;obtain ⟨j,hj,ej⟩:=Zci hr;have step:∀ i,i<f.length→C (gi f i)→C (gi f (nxi i)):=fun i hi h=>by
   rw [← bhm i hi];exact hC _ (fm _ (ZaH hi)) h
  have up:∀ k,∀ i,i<f.length→i+k<f.length→C (gi f i)→C (gi f (i+k)):=by
   intro k
   induction k with
   | zero=>intro i hi _ h;exact h
   | succ k ih =>
    intro i hi hk h;have:=step (i+k) (by omega) (ih i hi (by omega) h);rw [hnx,if_pos (by omega)] at this;exact this
  rw [← ei] at h;have hl:=up (f.length-1-i) i hi (by omega) h;have h0:=step _ (by omega) hl;rw [hnx,if_neg (by omega)] at h0;have:=up j 0 f0 (by omega) h0;rw [Nat.zero_add] at this;rw [← ej];exact this
 have cy:Cyc (flt l A) f:=⟨by rw [hf];simp,fn,fm,fun q hq=>by
  obtain ⟨i,hi,e⟩:=Zci hq;rw [← e,bhm i hi];exact ZaH (nlt i hi),one⟩
 have Cm:Cn (flt l A):=by
  intro C hC x y hx hy h;have tof:∀ x,isD (flt l A) x→C x→∃ x'∈f,C x':=by
   intro x hx h;rcases (hA x).1 (Zhp.1 hx).2 with m|m
   ·exact ⟨x,m,h⟩
   ·exact ⟨_,m,by rw [← S.opp hx];exact (hC x hx h).2⟩
  obtain ⟨x',m1,c1⟩:=tof x hx h;have all:∀ r∈f,C r:=fun r hr=>one C (fun z hz k=>(hC z hz k).1) x' m1 r hr c1;rcases (hA y).1 (Zhp.1 hy).2 with m|m
  ·exact all y m
  ·have k:=(hC _ (fm _ m) (all _ m)).2;rw [S.opp (fm _ m),Zcv hc (Zhp.1 hy).1] at k;exact k
 have hpf:p∈f:=by rw [hf];simp
 have V:=Sub.val hc Cl hV _ (flt l A) hm S Cm ⟨p,fm p hpf⟩ (Nat.le_refl _);have r4:=((Zd5 hm).1 V).1 f cy
 -- its turns are none in all
 have e1:zD (flt l A) f=(f.map fun q=>ph d0 (bh (flt l A) q).2-ph d0 q.2).sum:=by
  unfold zD tns;congr 1;refine List.map_congr_left fun q hq=>?_;obtain ⟨i,hi,e⟩:=Zci hq;rw [← e,bhm i hi];exact ZrZ h4 (at_ i hi).1.2.1 (at_ _ (nlt i hi)).1.2.1 (fD _ (ZaH hi)) (fD _ (ZaH (nlt i hi))) (nob i hi)
 have pm:(f.map (bh (flt l A))).Perm f:=by
  have nd2:(f.map (bh (flt l A))).Nodup:=List.pairwise_map.2 (fn.imp_of_mem fun {a b} ha hb hne he=>hne (ZcJ hm (fm a ha) (fm b hb) he));have sub:∀ x∈f.map (bh (flt l A)),x∈f:=fun x hx=>by
   obtain ⟨q,hq,rfl⟩:=List.mem_map.1 hx;exact cy.cl q hq
  exact (List.perm_ext_iff_of_nodup nd2 fn).2 fun x=>⟨sub x,Zhq nd2 fn sub (by simp) x⟩
 have e2:(f.map fun q=>ph d0 (bh (flt l A) q).2).sum=(f.map fun q=>ph d0 q.2).sum:=by
  have:=ZdH (f:=fun q:Da=>ph d0 q.2) pm;rw [List.map_map] at this;exact this
 rw [Zmj (f:=fun q=>ph d0 (bh (flt l A) q).2) (g:=fun q=>ph d0 q.2),e2] at e1;omega
theorem pot {l:List Za}(hc:Ck l) (hV:Val l) (Cl:Cn l) {d0:Nat}(h4:d0<4):∃ φ:Nat→Nat,(∀ x,φ x≤l.length)∧(∀ p,isD l p→p.2=d0→φ p.1<φ (nx l p.1 p.2).toNat)∧∀ p,isD l p→p.2=(d0+1)%4∨p.2=(d0+3)%4→φ p.1=φ (nx l p.1 p.2).toNat:=by
 obtain ⟨R,hR⟩:∃ R:Nat→Nat→Prop,∀ x y,R x y↔∃ s,Wk l x s y∧∀ q∈s,q.2≠(d0+2)%4:=⟨fun x y=>∃ s,Wk l x s y∧∀ q∈s,q.2≠(d0+2)%4,fun _ _=>Iff.rfl⟩;obtain ⟨B,hB⟩:∃ B:Nat→Nat→Bool,∀ x y,B x y=true↔R x y:=⟨fun x y=>@decide (R x y) (Classical.propDecidable _),fun x y=>by simp⟩;have step:∀ p,isD l p→p.2≠(d0+2)%4→∀ y,R (nx l p.1 p.2).toNat y→R p.1 y:=by
  intro p hp h y hy;obtain ⟨s,w,d⟩:=(hR _ _).1 hy;refine (hR _ _).2 ⟨p::s,⟨rfl,hp,w⟩,fun q hq=>?_⟩;rcases List.mem_cons.1 hq with rfl|hq
  ·exact h
  ·exact d q hq
 have len:∀ x,((List.range l.length).filter (B x)).length≤l.length:=fun x=>by
  have:=List.length_filter_le (B x) (List.range l.length);simpa using this
 refine ⟨fun x=>l.length-((List.range l.length).filter (B x)).length,fun x=>Nat.sub_le _ _,fun p hp h=>?_,fun p hp h=>?_⟩
 ·have hl:=p.2;have s:=step p hp (by have:=hp.2.1;omega);have f:=hp.fwd hc;have:((List.range l.length).filter (B (nx l p.1 p.2).toNat)).length+1≤((List.range l.length).filter (B p.1)).length:=by
   have nd:(p.1::(List.range l.length).filter (B (nx l p.1 p.2).toNat)).Nodup:=by
    refine List.nodup_cons.2 ⟨fun m=>?_,List.nodup_range.filter _⟩;have:=(hB _ _).1 (List.mem_filter.1 m).2;obtain ⟨t,w,d⟩:=(hR _ _).1 this;exact Zn5 hc hV Cl h4 hp h w d
   have:=nd.length_le_of_subset (l₂:=(List.range l.length).filter (B p.1)) (fun x hx=>by
    rcases List.mem_cons.1 hx with rfl|hx
    ·exact List.mem_filter.2 ⟨List.mem_range.2 hp.1,(hB _ _).2 ((hR _ _).2 ⟨[],rfl,by simp⟩)⟩
    ·obtain ⟨a,b⟩:=List.mem_filter.1 hx;exact List.mem_filter.2 ⟨a,(hB _ _).2 (s x ((hB _ _).1 b))⟩)
   simpa using this
  have:=len p.1;show l.length-_<l.length-_;omega
 ·have f:=hp.fwd hc;have ho:=hp.opp hc;have h2:=hp.2.1;have e:∀ y,R p.1 y↔R (nx l p.1 p.2).toNat y:=by
   intro y;refine ⟨fun k=>?_,step p hp (by omega) y⟩;have:=step _ ho (by unfold opp;dsimp only;omega) y;have o:(nx l (opp l p).1 (opp l p).2).toNat=p.1:=congrArg Prod.fst (Zcv hc hp);rw [o] at this;exact this k
  have:B p.1=B (nx l p.1 p.2).toNat:=by
   funext y;have:=e y;rw [← hB,← hB] at this;cases h1:B p.1 y<;>cases h2:B (nx l p.1 p.2).toNat y<;>simp_all
  show l.length-_=l.length-_;rw [this]
end Mu
/- Layer 15,plainly: corners,sums,rotations. -/
namespace Mu

def knp (x:Int):Nat:=if x=-1 then 1 else if x=-2 then 2 else 0
def Zei (t:List Int):Nat→List (Nat×Nat)
 | 0=>[]
 | n+1=>Zei t n++(List.range (knp (gi t n))).map fun p=>(n,p)
def Zcj (t:List Int):List (Nat×Nat):=Zei t t.length
def kC (c:Nat×Nat):Z6:=⟨c.1,c.2⟩
structure Tn (t:List Int):Prop where
 l:t.length≤250
 b:∀ i,-128≤gi t i∧gi t i≤127
def Gd (t:List Int):Prop:=∀ i,-2≤gi t i∧gi t i≤1

theorem Zka (x:Int):knp x≤2:=by unfold knp;split<;>(try split)<;>omega
theorem Zf2 (t:List Int):∀ n,(Zei t n).length≤2*n
 | 0=>by simp [Zei]
 | n+1=>by
  have:=Zf2 t n;have:=Zka (gi t n);simp only [Zei,List.length_append,List.length_map,List.length_range];omega
theorem Zi8 {t:List Int}{c:Nat×Nat}:∀ {n},c∈Zei t n↔c.1<n∧c.2<knp (gi t c.1)
 | 0=>by simp [Zei]
 | n+1=>by
  simp only [Zei,List.mem_append,Zi8,List.mem_map,List.mem_range];constructor
  ·rintro (⟨h1,h2⟩|⟨p,hp,rfl⟩)
   ·exact ⟨by omega,h2⟩
   ·exact ⟨by simp,hp⟩
  ·rintro ⟨h1,h2⟩;by_cases h:c.1<n
   ·exact .inl ⟨h,h2⟩
   ·have:c.1=n:=by omega
    refine .inr ⟨c.2,by rw [← this];exact h2,by rw [← this]⟩
theorem Zfn {t:List Int}{c:Nat×Nat}:c∈Zcj t↔c.1<t.length∧c.2<knp (gi t c.1):=Zi8
theorem ZkI {t:List Int}{n:Nat}{l:List Z6}(hl:l.length≤1000) (hx:-2≤gi t n) (hb:gi t n≤127) :
  ZV (Za5.s1 t n) big (l,0)=some (l++(List.range (knp (gi t n))).map fun p=>kC (n,p)):=by
 have hp:∀ p:Nat,p<knp (gi t n)↔(p:Int) < -gi t n:=by
  intro p;unfold knp;split
  ·omega
  ·split<;>omega
 have h2:=Zka (gi t n);refine ZbC (fun p:Nat=>(l++(List.range p).map fun q=>kC (n,q),(p:Int))) (n:=knp (gi t n)) (ZaK (by omega)) (by simp) (fun p h=>?_) ?_
 ·have:=(hp p).1 h;have h3:(List.map (fun q=>kC (n,q)) (List.range p)).length=p:=by simp
  simp (disch:=omega) only [Za5.s1,h3,evl]
  try simp (disch:=omega) only [evl]
  simp [List.range_succ,kC]
 ·have:¬((knp (gi t n):Nat):Int) < -gi t n:=fun h=>absurd ((hp _).2 h) (by omega);simp (disch:=omega) only [Za5.s1,evl]
  try simp (disch:=omega) only [evl]
theorem Znu {t:List Int}(ht:Tn t):Za5 t=some ((Zcj t).map kC):=by
 unfold Za5;have hlen:=ht.l;rw [ZfF (x:=(Zcj t).map kC)];refine ZbC (fun n:Nat=>((Zei t n).map kC,(n:Int))) (n:=t.length) (ZaK (by omega)) (by simp [Zei]) (fun n h=>?_) ?_
 ·have hb:=ht.b n;have hc:=Zf2 t n;by_cases hx:gi t n < -2
  ·simp (disch:=omega) only [Za5.s0,evl]
   try simp (disch:=omega) only [evl]
   have:knp (gi t n)=0:=by unfold knp;rw [if_neg (by omega),if_neg (by omega)]
   simp [Zei,this]
  ·have:=ZkI (t:=t) (n:=n) (l:=(Zei t n).map kC) (by simp;omega) (by omega) hb.2;simp (disch:=omega) only [Za5.s0,this,evl]
   try simp (disch:=omega) only [evl]
   simp [Zei,Function.comp_def]
 ·simp (disch:=omega) only [Za5.s0,evl]
  try simp (disch:=omega) only [evl]
  rfl

/-! right -/
def gdB (t:List Int):Bool:=(List.range t.length).all fun i=>!(decide (gi t i < -2)||decide (1<gi t i))
theorem ZlR {t:List Int}:gdB t=true↔Gd t:=by
 unfold gdB Gd;rw [List.all_eq_true];constructor
 ·intro h i;by_cases hi:i<t.length
  ·have:=h i (by simpa using hi);simp at this;omega
  ·rw [ZfU (by omega)];exact ⟨by decide,by decide⟩
 ·intro h i hi;have:=h i;simp;omega
theorem Zqn {t:List Int}(ht:t.length≤1000):Zda t=some (gdB t):=by
 unfold Zda Zb5 ZaP;rw [ZcA (n:=t.length) (P:=fun i=>decide (gi t i < -2)||decide (1<gi t i)) (f:=fun i=>(i:Int)) (ZaK (by omega))]
 ·cases h:(List.range t.length).find? (fun i=>decide (gi t i < -2)||decide (1<gi t i)) with
  | none =>
   rw [List.find?_range_eq_none] at h;have:gdB t=true:=by
    rw [gdB,List.all_eq_true];intro i hi;exact h i (by simpa using hi)
   simp [this]
  | some j =>
   rw [List.find?_range_eq_some] at h;have:gdB t=false:=by
    rw [← Bool.not_eq_true,ZlR];intro hg;have h1:=h.1;have:=hg j;simp at h1;omega
   simp [this]
 ·intro i hi;simp (disch:=omega) only [ZaP.s0,ZcU,evl]
  try simp (disch:=omega) only [evl]
  split<;>simp_all
 ·simp (disch:=omega) only [ZaP.s0,evl]
  try simp (disch:=omega) only [evl]

/-! contains -/
/-! sums -/
theorem ZiL {t:List Int}(hg:Gd t):∀ n:Nat,-2*(n:Int)≤Zdu t n∧Zdu t n≤n
 | 0=>by simp [Zdu]
 | n+1=>by
  have:=ZiL hg n;have:=hg n;simp only [Zdu];omega
def psL (t:List Int) (j:Nat):List Int:=(List.range (t.length+1)).map fun q=>if q≤j then Zdu t q else 0
theorem ZfZ {t:List Int}{j:Nat}:(psL t j).length=t.length+1:=by simp [psL]
theorem ZjY {t:List Int}{j q:Nat}(hq:q<t.length+1):gi (psL t j) q=if q≤j then Zdu t q else 0:=by
 rw [Zb3 (by rw [ZfZ];exact hq)];simp [psL]
theorem ZnG {t:List Int}:List.replicate (t.length+1) 0=psL t 0:=by
 refine List.ext_getElem (by rw [ZfZ];simp) fun q h1 h2=>?_;simp [psL];intro h3;subst h3;rfl
theorem ZnF {t:List Int}{j:Nat}:(psL t j).set (j+1) (Zdu t j+gi t j)=psL t (j+1):=by
 refine List.ext_getElem (by simp [psL]) fun q h1 h2=>?_;rw [List.getElem_set];simp only [psL,List.getElem_map,List.getElem_range];by_cases hq:j+1=q
 ·subst hq;rw [if_pos rfl,if_pos (Nat.le_refl _)];rfl
 ·rw [if_neg hq];by_cases hq2:q≤j
  ·rw [if_pos hq2,if_pos (by omega)]
  ·rw [if_neg hq2,if_neg (by omega)]
theorem Zr1 {t:List Int}(ht:t.length≤1000) (hg:Gd t):Zcb t=some (psL t t.length):=by
 unfold Zcb;have e:((t.length:Int)+1).toNat=t.length+1:=by omega
 rw [e,ZnG];simp (disch:=omega) only [evl];rw [ZfF (x:=psL t t.length)];refine ZbC (fun n:Nat=>(psL t n,(n:Int))) (n:=t.length) (ZaK (by omega)) (by simp [Zei]) (fun n h=>?_) ?_
 ·have h1:=ZfZ (t:=t) (j:=n);have h2:=ZiL hg n;have h3:=hg n;have h4:gi (psL t n) n=Zdu t n:=by rw [ZjY (by omega),if_pos (Nat.le_refl _)]
  have h5:((n:Int)+1).toNat=n+1:=by omega
  simp (disch:=omega) only [Zcb.s0,h4,h5,ZnF,evl]
  try simp (disch:=omega) only [evl]
  rfl
 ·simp (disch:=omega) only [Zcb.s0,evl]
  try simp (disch:=omega) only [evl]

def ZhH (t:List Int) (a b:Nat×Nat):Int:=Zdu t b.1-b.2-(Zdu t a.1-a.2)+if b.1<a.1∨(b.1=a.1∧b.2<a.2) then Zdu t t.length else 0
theorem Zr0 {t:List Int}(ht:t.length≤1000) (hg:Gd t) {a b:Nat×Nat}(ha:a.1≤t.length) (hb:b.1≤t.length) (ha2:a.2≤10) (hb2:b.2≤10):Zd0 (psL t t.length) (kC a) (kC b)=some (ZhH t a b):=by
 unfold Zd0 ZhH kC;have h1:=ZfZ (t:=t) (j:=t.length);have g1:gi (psL t t.length) a.1=Zdu t a.1:=by rw [ZjY (by omega),if_pos ha]
 have g2:gi (psL t t.length) b.1=Zdu t b.1:=by rw [ZjY (by omega),if_pos hb]
 have g3:gi (psL t t.length) t.length=Zdu t t.length:=by rw [ZjY (by omega),if_pos (Nat.le_refl _)]
 have b1:=ZiL hg a.1;have b2:=ZiL hg b.1;have b3:=ZiL hg t.length;have e:(((psL t t.length).length:Int)-1).toNat=t.length:=by rw [h1];omega
 by_cases c:b.1<a.1∨(b.1=a.1∧b.2<a.2)
 ·have hc:(decide ((b.1:Int)<a.1)||(decide ((b.1:Int)=a.1)&&decide ((b.2:Int)<a.2)))=true:=by
   simp;omega
  simp (disch:=omega) only [g1,g2,g3,hc,e,evl]
  try simp (disch:=omega) only [evl]
  rw [if_pos c]
 ·have hc:(decide ((b.1:Int)<a.1)||(decide ((b.1:Int)=a.1)&&decide ((b.2:Int)<a.2)))=false:=by
   simp;omega
  simp (disch:=omega) only [g1,g2,g3,e,evl]
  try simp (disch:=omega) only [evl]
  rw [if_neg (by simp;omega),if_neg c,Int.add_zero]
end Mu
/- Layer 15: the rotation there and back. -/
namespace Mu

theorem Zhu {t:List Int}{i:Nat}(hi:i<(Zcj t).length):gi ((Zcj t).map kC) i=kC (gi (Zcj t) i):=by
 rw [Zb3 (by simpa using hi),Zb3 hi];simp
end Mu
/- Layer 15: turns of 0,and where one begins. -/
namespace Mu

def looks (t:List Int):Prop:=∃ a∈Zcj t,∃ b∈Zcj t,ZhH t a b=2

def inP (t:List Int) (i:Nat):Option Nat:=(List.range (Zcj t).length).find? fun k=>decide (ZhH t (gi (Zcj t) i) (gi (Zcj t) k)=2)
def Zlz (t:List Int):Option Nat:=(List.range (Zcj t).length).find? fun i=>(inP t i).isSome
def Zg5 (t:List Int):Option (Nat×Nat):=match Zlz t with|some i=>(match inP t i with|some k=>some (i,k)|none=>none)|none=>none
theorem Zrz {t:List Int}(ht:Tn t) (hg:Gd t):Zbb t=some (match Zg5 t with|some (i,k)=>(kC (gi (Zcj t) i),kC (gi (Zcj t) k),true)|none=>(⟨0,0⟩,⟨0,0⟩,false)):=by
 have hl:=ht.l;have hcl:(Zcj t).length≤500:=by have:=Zf2 t t.length;unfold Zcj;omega
 unfold Zbb;rw [Zqn (by omega),ZlR.2 hg,obs,Znu ht,obs,Zr1 (by omega) hg,obs];have hml:((Zcj t).map kC).length=(Zcj t).length:=by simp
 have inner:∀ i:Nat,i<(Zcj t).length→ZV (Zbb.s1 ((Zcj t).map kC) (psL t t.length) i) big 0=some (match inP t i with|some k=>.inr (kC (gi (Zcj t) k))|none=>.inl ()):=by
  intro i hi;unfold inP;refine ZcA (n:=(Zcj t).length) (P:=fun k=>decide (ZhH t (gi (Zcj t) i) (gi (Zcj t) k)=2)) (f:=fun k=>kC (gi (Zcj t) k)) (ZaK (by omega)) (fun k hk=>?_) ?_
  ·have a1:=Zfn.1 (ZaH hi);have b1:=Zfn.1 (ZaH hk);have n1:=Zka (gi t (gi (Zcj t) i).1);have n2:=Zka (gi t (gi (Zcj t) k).1);have e:=Zr0 (t:=t) (by omega) hg (a:=gi (Zcj t) i) (b:=gi (Zcj t) k) (by omega) (by omega) (by omega) (by omega);by_cases c:ZhH t (gi (Zcj t) i) (gi (Zcj t) k)=2
   ·have c':decide (ZhH t (gi (Zcj t) i) (gi (Zcj t) k)=2)=true:=by simpa using c
    rw [c',if_pos rfl];simp (disch:=omega) only [Zbb.s1,hml,Zhu hi,Zhu hk,e,c,evl]
    try simp (disch:=omega) only [evl]
   ·have c':decide (ZhH t (gi (Zcj t) i) (gi (Zcj t) k)=2)=false:=by simpa using c
    rw [c',if_neg (by decide)];simp (disch:=omega) only [Zbb.s1,hml,Zhu hi,Zhu hk,e,evl]
    try simp (disch:=omega) only [evl]
  ·simp (disch:=omega) only [Zbb.s1,hml,evl]
   try simp (disch:=omega) only [evl]
 have outer:ZV (Zbb.s0 ((Zcj t).map kC) (psL t t.length)) big 0=some (match Zlz t with|some i=>.inr (kC (gi (Zcj t) i),match inP t i with|some k=>kC (gi (Zcj t) k)|none=>⟨0,0⟩)|none=>.inl ()):=by
  unfold Zlz;refine ZcA (n:=(Zcj t).length) (P:=fun i=>(inP t i).isSome) (f:=fun i=>(kC (gi (Zcj t) i),match inP t i with|some k=>kC (gi (Zcj t) k)|none=>⟨0,0⟩)) (ZaK (by omega)) (fun i hi=>?_) ?_
  ·have e:=inner i hi
   cases h:inP t i with
   | none =>
    rw [h] at e;simp (disch:=omega) only [Zbb.s0,hml,e,evl]
    try simp (disch:=omega) only [evl]
    rfl
   | some k =>
    rw [h] at e;simp (disch:=omega) only [Zbb.s0,hml,e,Zhu hi,evl]
    try simp (disch:=omega) only [evl]
    rfl
  ·simp (disch:=omega) only [Zbb.s0,hml,evl]
   try simp (disch:=omega) only [evl]
 have hnn:(!true)=false:=rfl;rw [outer];simp only [hnn,Bool.false_eq_true,if_false,obs];unfold Zg5
 cases ho:Zlz t with
 | none=>rfl
 | some i =>
  have:=ho;unfold Zlz at this;rw [List.find?_range_eq_some] at this
  cases hi:inP t i with
  | none=>rw [hi] at this;exact absurd this.1 (by simp)
  | some k=>simp [hi]

/-! A list and another one whose turns,but those of 0,stand elsewhere. -/
/-! How many corners. -/
end Mu
/- Layer 15: the document's answer. -/
namespace Mu

/-! Single turns. -/
def ZrV (x:Int):List Int:=if x=-2 then [-1,-1] else [x]
def Zp8 (t:List Int):Nat→List Int
 | 0=>[]
 | n+1=>Zp8 t n++ZrV (gi t n)
def pos (t:List Int) (c:Nat×Nat):Nat:=(Zp8 t c.1).length+c.2
end Mu
/- Layer 15: KittyRegular. -/
namespace Mu
theorem ZqN {l:List Za}{f:List Da}(h:f.length≤250):Tn (tns l f):=⟨by rw [ZcP];exact h,fun i=>by have:=Zgd (l:=l) (f:=f) i;omega⟩
def ZgZ (l:List Za) (i:Nat):Bool:=(Zg5 (tns l (gi (faces l) i))).isSome
end Mu
/- Layer 22: corners that Znv at one another: an edge laid between them leaves cells that can be drawn. -/
namespace Mu
theorem Zi0 {l:List Za}(hc:Ck l) {f:List Da}(hf:f∈faces l):Lp l f:=by
 obtain ⟨x0,hx0,e1,e2⟩:=ZhQ hc f hf;have C:=ZbM hc f hf;refine ⟨C.ne,C.nd,x0,?_⟩;have:=Znr hc hx0 f.length;rw [e2,← e1] at this;exact this
theorem ZrY:∀ e:Fin 4,∀ p t:Fin 2,tn e.1 ((e.1+4-p.1+t.1)%4)=(t.1:Int)-p.1:=by decide
theorem ZrX {e p t:Nat}(he:e<4) (hp:p<2) (ht:t<2):tn e ((e+4-p+t)%4)=(t:Int)-p:=ZrY ⟨e,he⟩ ⟨p,hp⟩ ⟨t,ht⟩
theorem Zoc {l:List Za}{p:Da}(h4:p.2<4) (h:tt l p=-2):nx l (nx l p.1 p.2).toNat ((p.2+3)%4)<0:=by
 unfold tt at h;rw [ZnY h4] at h;unfold arr at h;by_cases c:0≤nx l (nx l p.1 p.2).toNat ((p.2+3)%4)
 ·rw [if_pos c] at h;split at h<;>(try split at h)<;>omega
 ·omega
theorem ZgY {x:Int}{p:Nat}(h:p<knp x):x<0∧p<2∧(x:Int)<(0:Int)-p∧(p=1→x=-2):=by
 unfold knp at h;split at h
 ·omega
 ·split at h<;>omega
theorem Zpv {l:List Za}(hc:Ck l) (hV:Val l) (hW:whole l) {x y:Da}{A B:List Da}(hL:Lp l (B++[y]++(A++[x]))) {p q t:Nat}(hp:p<knp (tt l x)) (hq:q<knp (tt l y)) (hr:tt l x+p+zD l B-q=2) (ht:t<2) {d:Nat}(hd0:d=(x.2+4-p+t)%4) :
  (nx l x.1 x.2).toNat<l.length∧(nx l y.1 y.2).toNat<l.length∧(nx l x.1 x.2).toNat≠(nx l y.1 y.2).toNat ∧
  nx l (nx l x.1 x.2).toNat d=-1∧nx l (nx l y.1 y.2).toNat ((d+2)%4)=-1 ∧
  Ck (wth l (nx l x.1 x.2).toNat d (nx l y.1 y.2).toNat (-2))∧Val (wth l (nx l x.1 x.2).toNat d (nx l y.1 y.2).toNat (-2))∧whole (wth l (nx l x.1 x.2).toNat d (nx l y.1 y.2).toNat (-2)):=by
 obtain ⟨x1,p2,x2,x3⟩:=ZgY hp;obtain ⟨y1,q2,y2,y3⟩:=ZgY hq;have dX:isD l x:=hL.is x (by simp);have dY:isD l y:=hL.is y (by simp);have hne:x≠y:=by
  have:=hL.nd;rw [List.append_assoc,List.nodup_append] at this;have:=this.2.1;rw [List.singleton_append,List.nodup_cons] at this;intro e;exact this.1 (by rw [← e];simp)
 have hL2:Lp l (x::(B++[y]++A)):=by
  have:=hL;rw [← List.append_assoc] at this;exact this.turn
 obtain ⟨_,P⟩:=hL2.hd;rw [List.append_assoc] at P;obtain ⟨z,P1,P2⟩:=Pt.app.1 P;rw [List.singleton_append,Pt] at P2;obtain ⟨hz,_,_⟩:=P2;rw [hz] at P1;obtain ⟨k,e⟩:=P1.dir hc;obtain ⟨k',e'⟩:=Zoa dX.2.1 (dX.bh hc).2.1;have X4:=dX.2.1;have Y4:=dY.2.1;have fX:=dX.fwd hc;have fY:=dY.fwd hc;have tX:=ZgL X4 x1;have tY:=ZgL Y4 y1;have hd2:((x.2+4-p+t)%4+2)%4=(y.2+4-q+t)%4:=by
  unfold tt at hr;omega
 have hd:(x.2+4-p+t)%4<4:=Nat.mod_lt _ (by decide);have k1:=ZrX X4 p2 ht;have k2:=ZrX Y4 q2 ht;have free:∀ {z:Da}{r:Nat},isD l z→tt l z<0→r<2→(r=1→tt l z=-2)→nx l (nx l z.1 z.2).toNat ((z.2+4-r+t)%4)=-1:=by
  intro z r dz h1 hr h2;have Z4:=dz.2.1;have tz:=ZgL Z4 h1;have lo:=(hc.lt (dz.fwd hc).1 (d:=(z.2+4-r+t)%4) (Nat.mod_lt _ (by decide))).1;have:nx l (nx l z.1 z.2).toNat ((z.2+4-r+t)%4)<0:=by
   rcases (by omega:(z.2+4-r+t)%4=z.2∨(z.2+4-r+t)%4=(z.2+1)%4∨(r=1∧(z.2+4-r+t)%4=(z.2+3)%4)) with h|h|⟨h,h'⟩
   ·rw [h];exact tz.1
   ·rw [h];exact tz.2
   ·rw [h'];exact Zoc Z4 (h2 h)
  omega
 have f1:=free dX x1 p2 x3;have f2:=free dY y1 q2 y3;have hvw:(nx l x.1 x.2).toNat≠(nx l y.1 y.2).toNat:=by
  intro hv;rw [hv] at tX fX;have oX:=fX.2;have oY:=fY.2;have a1:¬ ((y.2+2)%4=x.2):=fun q=>by rw [q] at oY;omega
  have a2:¬ ((y.2+2)%4=(x.2+1)%4):=fun q=>by rw [q] at oY;omega
  have a3:¬ ((x.2+2)%4=y.2):=fun q=>by rw [q] at oX;omega
  have a4:¬ ((x.2+2)%4=(y.2+1)%4):=fun q=>by rw [q] at oX;omega
  have e2:x.2=y.2:=by omega
  rw [e2] at oX;refine hne (Prod.ext ?_ e2);omega
 rw [← hd2] at k2 f2;rw [← hd0] at hd k1 k2 f1 f2;refine ⟨fX.1,fY.1,hvw,f1,f2,?_⟩;have D:=Del.of_wth hc fX.1 fY.1 hvw hd (o:=-2) f1 f2;have hc':=hc.wth (o:=-2) fX.1 fY.1 hvw hd f1 f2 (by omega);have eX:=(D.enter hc' hc dX).1 rfl (by omega);have eY:=(D.enter hc' hc dY).2 rfl (by omega);refine ⟨hc',?_,D.whole hc' hc hW⟩;refine D.chord_val hc' hc hL eX eY ?_ hV;rw [Zcl,ZaS,ZcO];omega
theorem ZnT {f:List Da}{i:Nat}(h:i<f.length):f=f.take i++gi f i::f.drop (i+1):=by
 rw [Zb3 h,← List.drop_eq_getElem_cons h,List.take_append_drop]
theorem ZnU {f:List Da}{i j:Nat}(hij:i<j) (hj:j<f.length):∃ P B Q,f=P++gi f i::(B++gi f j::Q)∧P=f.take i∧P++gi f i::B=f.take j:=by
 have h1:=ZnT (f:=f) (i:=i) (by omega);have h2:=ZnT (f:=f.drop (i+1)) (i:=j-i-1) (by rw [List.length_drop];omega);have e:gi (f.drop (i+1)) (j-i-1)=gi f j:=by
  rw [Zb3 (by rw [List.length_drop];omega),Zb3 hj,List.getElem_drop];congr 1;omega
 rw [e] at h2;refine ⟨f.take i,(f.drop (i+1)).take (j-i-1),(f.drop (i+1)).drop (j-i-1+1),by rw [← h2];exact h1,rfl,?_⟩;have h3:f.take j=(f.take i++gi f i::f.drop (i+1)).take j:=by rw [← h1]
 rw [h3,List.take_append,List.take_take,Nat.min_eq_right (by omega),List.length_take,Nat.min_eq_left (by omega)];congr 1;obtain ⟨m,hm⟩:∃ m,j-i=m+1:=⟨j-i-1,by omega⟩;rw [hm,List.take_succ_cons,Nat.add_sub_cancel]
theorem ZkQ {l:List Za}{f:List Da}{n:Nat}(hn:n≤f.length):Zdu (tns l f) n=zD l (f.take n):=by
 rw [ZhE _ (by rw [ZcP];exact hn)];unfold zD tns;rw [List.map_take]
theorem Znv {l:List Za}(hc:Ck l) (hV:Val l) (hW:whole l) {f:List Da}(hf:f∈faces l) {a b:Nat×Nat}(ha:a∈Zcj (tns l f)) (hb:b∈Zcj (tns l f)) (hr:ZhH (tns l f) a b=2) {t:Nat}(ht:t<2) {d:Nat}(hd0:d=((gi f a.1).2+4-a.2+t)%4) :
  a.1<f.length∧b.1<f.length∧a.2<2∧isD l (gi f a.1)∧isD l (gi f b.1) ∧
  (nx l (gi f a.1).1 (gi f a.1).2).toNat<l.length∧(nx l (gi f b.1).1 (gi f b.1).2).toNat<l.length∧(nx l (gi f a.1).1 (gi f a.1).2).toNat≠(nx l (gi f b.1).1 (gi f b.1).2).toNat ∧
  nx l (nx l (gi f a.1).1 (gi f a.1).2).toNat d=-1∧nx l (nx l (gi f b.1).1 (gi f b.1).2).toNat ((d+2)%4)=-1 ∧
  Ck (wth l (nx l (gi f a.1).1 (gi f a.1).2).toNat d (nx l (gi f b.1).1 (gi f b.1).2).toNat (-2))∧Val (wth l (nx l (gi f a.1).1 (gi f a.1).2).toNat d (nx l (gi f b.1).1 (gi f b.1).2).toNat (-2))∧whole (wth l (nx l (gi f a.1).1 (gi f a.1).2).toNat d (nx l (gi f b.1).1 (gi f b.1).2).toNat (-2)):=by
 obtain ⟨a1,a2⟩:=Zfn.1 ha;obtain ⟨b1,b2⟩:=Zfn.1 hb;rw [ZcP] at a1 b1;have ga:gi (tns l f) a.1=tt l (gi f a.1):=ZbO a1;have gb:gi (tns l f) b.1=tt l (gi f b.1):=ZbO b1;rw [ga] at a2;rw [gb] at b2;have L:=Zi0 hc hf;have tot:Zdu (tns l f) (tns l f).length=zD l f:=ZfL;have p4:=((Zd5 hc).1 hV).1 f (ZbM hc f hf);refine ⟨a1,b1,(ZgY a2).2.1,L.is _ (ZaH a1),L.is _ (ZaH b1),?_⟩;have r1:=ZkQ (l:=l) (f:=f) (n:=a.1) (by omega);have r2:=ZkQ (l:=l) (f:=f) (n:=b.1) (by omega);unfold ZhH at hr;rw [r1,r2,tot] at hr;rcases Nat.lt_trichotomy a.1 b.1 with h|h|h
 ·obtain ⟨P,B,Q,e,e1,e2⟩:=ZnU h b1;rw [← e1,← e2,Zcl,ZaS,if_neg (by omega)] at hr;refine Zpv hc hV hW (A:=Q++P) (B:=B) ?_ a2 b2 (by omega) ht hd0;have h1:=L;rw [e] at h1;have h2:Lp l ((P++[gi f a.1])++(B++[gi f b.1]++Q)):=by simpa using h1
  have h3:=h2.turn;simpa using h3
 ·have ka:=(ZgY a2).2.1;have kb:=(ZgY b2).2.1;rw [h] at hr;split at hr<;>omega
 ·obtain ⟨P,B,Q,e,e1,e2⟩:=ZnU h a1;have et:zD l f=zD l P+tt l (gi f b.1)+zD l B+tt l (gi f a.1)+zD l Q:=by
   conv=>lhs;rw [e]
   rw [Zcl,ZaS,Zcl,ZaS];omega
  rw [← e1,← e2,Zcl,ZaS,if_pos (by omega),et] at hr;refine Zpv hc hV hW (A:=B) (B:=Q++P) ?_ a2 b2 (by rw [Zcl];omega) ht hd0;have h1:=L;rw [e] at h1;have h2:Lp l ((P++[gi f b.1]++B++[gi f a.1])++Q):=by simpa using h1
  have h3:=h2.turn;simpa using h3
end Mu
/- Loops that turn one way alone,four times: rectangles. -/
namespace Mu
def tg (l:List Za) (p:Da):Nat:=(nx l p.1 p.2).toNat
def al (X Y:Nat→Int) (d v:Nat):Int:=if d=0 then X v else if d=1 then Y v else if d=2 then -X v else -Y v
def ac (X Y:Nat→Int) (d v:Nat):Int:=if d=0 then Y v else if d=1 then X v else if d=2 then Y v else X v
def Str (l:List Za) (X Y:Nat→Int):Prop:=∀ p,isD l p→al X Y p.2 p.1<al X Y p.2 (tg l p)∧ac X Y p.2 p.1=ac X Y p.2 (tg l p)
structure Rn (l:List Za) (d a:Nat) (s:List Da) (b:Nat):Prop where
 w:Wk l a s b
 d:∀ p∈s,p.2=d
 ne:s≠[]
theorem Pt.wk {l:List Za}:∀ {s:List Da}{x y:Da},Pt l x s y→Wk l x.1 s y.1
 | [],x,y,h=>congrArg Prod.fst h
 | p::s,x,y,h=>by
  have w:=Pt.wk h.2.2;rw [ZjC] at w;exact ⟨by rw [h.1],h.2.1,w⟩
theorem Ze8 {l:List Za}{X Y:Nat→Int}(hS:Str l X Y) {d b:Nat}:∀ {s:List Da}{a:Nat},Wk l a s b→(∀ p∈s,p.2=d) →
  ac X Y d b=ac X Y d a∧al X Y d a≤al X Y d b∧(s≠[]→al X Y d a<al X Y d b)∧(∀ p∈s,ac X Y d p.1=ac X Y d a∧ac X Y d (tg l p)=ac X Y d a∧al X Y d a≤al X Y d p.1∧al X Y d p.1<al X Y d (tg l p)∧al X Y d (tg l p)≤al X Y d b) ∧
  s.Pairwise (fun p q=>al X Y d (tg l p)≤al X Y d q.1)∧∀ j,(s.map fun p=>if al X Y d p.1≤j∧j<al X Y d (tg l p) then (1:Int) else 0).sum=if al X Y d a≤j∧j<al X Y d b then 1 else 0
 | [],a,h,hd=>by
  have e:a=b:=h;subst e;refine ⟨rfl,Int.le_refl _,fun c=>absurd rfl c,by simp,.nil,fun j=>?_⟩;rw [if_neg (by omega)];rfl
 | p::s,a,h,hd=>by
  obtain ⟨h1,h2,h3⟩:=h;have hp:p.2=d:=hd p (by simp);obtain ⟨i1,i2,i3,i4,i5,i6⟩:=Ze8 hS h3 (fun q hq=>hd q (by simp [hq]));obtain ⟨k1,k2⟩:=hS p h2;rw [hp,h1] at k1 k2;have e:(nx l p.1 p.2).toNat=tg l p:=rfl;rw [e] at i1 i2 i3 i4 i6;refine ⟨by omega,by omega,fun _=>by omega,fun q hq=>?_,List.pairwise_cons.2 ⟨fun q hq=>(i4 q hq).2.2.1,i5⟩,fun j=>?_⟩
  ·rcases List.mem_cons.1 hq with rfl|hq
   ·rw [h1];omega
   ·have:=i4 q hq;omega
  ·rw [List.map_cons,List.sum_cons,i6 j,h1];split<;>split<;>split<;>omega
theorem ZqH {l:List Za}(hc:Ck l) {σ:Int}:∀ {f:List Da}{x y:Da},Pt l x f y→f≠[]→(∀ p∈f,tt l p=0∨tt l p=σ)→∃ s1 s2 y',f=s1++s2∧s1≠[]∧(∀ p∈s1,p.2=x.2)∧Pt l x s1 y'∧Pt l y' s2 y ∧
  ((s2=[]∧zD l s1=0)∨(zD l s1=σ∧tn x.2 y'.2=σ∧∃ t c,s1=t++[c]∧tt l c=σ))
 | [],x,y,h,ne,ht=>absurd rfl ne
 | p::t,x,y,h,ne,ht=>by
  obtain ⟨rfl,hp,h3⟩:=h;have rc:∀ t,zD l (x::t)=tt l x+zD l t:=fun t=>ZaS;by_cases c:tt l x=σ
  ·refine ⟨[x],t,bh l x,rfl,by simp,by simp,⟨rfl,hp,rfl⟩,h3,.inr ⟨by rw [rc,ZcO,c];omega,c,[],x,rfl,c⟩⟩
  ·have z:tt l x=0:=(ht x (by simp)).resolve_right c;have ed:(bh l x).2=x.2:=by
    unfold tt tn at z;split at z
    ·assumption
    ·split at z
     ·omega
     ·split at z<;>omega
   by_cases n:t=[]
   ·subst n;exact ⟨[x],[],bh l x,rfl,by simp,by simp,⟨rfl,hp,rfl⟩,h3,.inl ⟨rfl,by rw [rc,ZcO,z];rfl⟩⟩
   ·obtain ⟨s1,s2,y',e,n1,d1,P1,P2,k⟩:=ZqH hc h3 n (fun q hq=>ht q (by simp [hq]));refine ⟨x::s1,s2,y',by rw [e];rfl,by simp,fun q hq=>?_,⟨rfl,hp,P1⟩,P2,?_⟩
    ·rcases List.mem_cons.1 hq with rfl|hq
     ·rfl
     ·rw [d1 q hq,ed]
    ·rcases k with ⟨k1,k2⟩|⟨k1,k2,tl,c',k3,k4⟩
     ·exact .inl ⟨k1,by rw [rc,k2,z];rfl⟩
     ·exact .inr ⟨by rw [rc,k1,z];omega,by rw [← ed];exact k2,x::tl,c',by rw [k3];rfl,k4⟩
theorem ZnN {l:List Za}{σ:Int}(hσ:σ=1∨σ=-1):∀ {f:List Da},(∀ p∈f,tt l p=0∨tt l p=σ)→0≤σ*zD l f∧((∃ c∈f,tt l c=σ)→1≤σ*zD l f)
 | [],h=>⟨by rw [ZcO];omega,by rintro ⟨c,hc,_⟩;simp at hc⟩
 | a::t,h=>by
  obtain ⟨i1,i2⟩:=ZnN hσ (fun q hq=>h q (List.mem_cons_of_mem a hq));have ha:=h a (by simp);have e:zD l (a::t)=tt l a+zD l t:=ZaS;rw [e];constructor
  ·rcases hσ with rfl|rfl<;>omega
  ·rintro ⟨c,hc,tc⟩;rcases List.mem_cons.1 hc with rfl|hc
   ·rcases hσ with rfl|rfl<;>omega
   ·have:=i2 ⟨c,hc,tc⟩;rcases hσ with rfl|rfl<;>omega
structure Cnr (l:List Za) (σ:Int) (f g:List Da) (x:Da):Prop where
 pt:Pt l x g x
 perm:g.Perm f
 t:∀ p∈g,tt l p=0∨tt l p=σ
 last:∃ t c,g=t++[c]∧tt l c=σ
theorem ZnZ {a b:Nat}(ha:a<4) (hb:b<4) {σ:Int}(hσ:σ=1∨σ=-1) (h:tn a b=σ):(b:Int)=(a+σ)%4:=by
 unfold tn at h;rcases hσ with rfl|rfl
 ·split at h
  ·omega
  ·split at h
   ·omega
   ·split at h<;>omega
 ·split at h
  ·omega
  ·split at h
   ·omega
   ·split at h<;>omega
theorem Pt.end4 {l:List Za}(hc:Ck l):∀ {s:List Da}{x y:Da},Pt l x s y→x.2<4→y.2<4
 | [],x,y,h,hx=>by have e:x=y:=h;rw [← e];exact hx
 | p::s,x,y,h,hx=>Pt.end4 hc h.2.2 (h.2.1.bh hc).2.1
theorem Cnr.next {l:List Za}(hc:Ck l) {σ:Int}(hσ:σ=1∨σ=-1) {f g:List Da}{x:Da}(h:Cnr l σ f g x) (hr:zD l f=4*σ):∃ g' x',Cnr l σ f g' x'∧(x'.2:Int)=(x.2+σ)%4:=by
 have gne:g≠[]:=by
  obtain ⟨t,c,e,_⟩:=h.last;rw [e];simp
 have x4:x.2<4:=by
  match g,h.pt,gne with
  | p::t,k,_=>rw [k.1];exact k.2.1.2.1
 obtain ⟨s1,s2,y',e,n1,d1,P1,P2,k⟩:=ZqH hc h.pt gne h.t;have rg:zD l g=4*σ:=by rw [Zcy h.perm,hr]
 rcases k with ⟨k1,k2⟩|⟨k1,k2,t,c,k3,k4⟩
 ·subst k1;rw [e,List.append_nil,k2] at rg;omega
 ·refine ⟨s2++s1,y',⟨Pt.app.2 ⟨x,P2,P1⟩,?_,fun p hp=>h.t p ?_,s2++t,c,by rw [k3,List.append_assoc],k4⟩,ZnZ x4 (P1.end4 hc x4) hσ k2⟩
  ·exact List.perm_append_comm.trans (by rw [← e];exact h.perm)
  ·rw [e];exact List.mem_append.2 ((List.mem_append.1 hp).symm)
theorem Cnr.to {l:List Za}(hc:Ck l) {σ:Int}(hσ:σ=1∨σ=-1) {f:List Da}(hr:zD l f=4*σ):∀ (n:Nat) {g:List Da}{x:Da},Cnr l σ f g x→((x.2:Int)+n*σ)%4=0→x.2<4→∃ g' x',Cnr l σ f g' x'∧x'.2=0
 | 0,g,x,h,hx,h4=>⟨g,x,h,by omega⟩
 | n+1,g,x,h,hx,h4=>by
  obtain ⟨g',x',h',e⟩:=h.next hc hσ hr;refine Cnr.to hc hσ hr n h' ?_ (by omega);rcases hσ with rfl|rfl<;>omega
structure Zsl (l:List Za) (σ:Int) (f:List Da) (c:Nat→Nat) (s:Nat→List Da):Prop where
 r:∀ i:Nat,i<4→Rn l (((i:Int)*σ)%4).toNat (c i) (s i) (c ((i+1)%4))
 perm:(s 0++(s 1++(s 2++s 3))).Perm f
theorem Zma {l:List Za}(hc:Ck l) {σ:Int}(hσ:σ=1∨σ=-1) {f:List Da}(hL:Lp l f) (ht:∀ p∈f,tt l p=0∨tt l p=σ) (hr:zD l f=4*σ):∃ c s,Zsl l σ f c s:=by
 -- a corner
 have:∃ c∈f,tt l c=σ:=by
  refine Classical.byContradiction fun q=>?_;have z:∀ f:List Da,(∀ p∈f,tt l p=0)→zD l f=0:=by
   intro f
   induction f with
   | nil=>intro _;rfl
   | cons a t ih =>
    intro h;have e:zD l (a::t)=tt l a+zD l t:=ZaS;rw [e,h a (by simp),ih (fun p hp=>h p (by simp [hp]))];rfl
  have:=z f fun p hp=>(ht p hp).resolve_right fun k=>q ⟨p,hp,k⟩;omega
 obtain ⟨c,hcf,tc⟩:=this;obtain ⟨a,b,e⟩:=List.append_of_mem hcf;have L2:Lp l (b++(a++[c])):=by
  have:f=(a++[c])++b:=by rw [e];simp
  rw [this] at hL;exact hL.turn
 obtain ⟨x,hx⟩:=L2.pt;have pm:(b++(a++[c])).Perm f:=by
  have:f=(a++[c])++b:=by rw [e];simp
  rw [this];exact List.perm_append_comm
 have C0:Cnr l σ f (b++(a++[c])) x:=⟨hx,pm,fun p hp=>ht p (pm.mem_iff.1 hp),b++a,c,by simp,tc⟩;have x4:x.2<4:=by
  have ne:=L2.ne;revert hx ne;generalize b++(a++[c])=g;intro hx ne
  match g,hx,ne with
  | p::t,k,_=>rw [k.1];exact k.2.1.2.1
 obtain ⟨g,x,C,x0⟩:∃ g' x',Cnr l σ f g' x'∧x'.2=0:=by
  rcases hσ with rfl|rfl
  ·exact C0.to hc (.inl rfl) hr (4-x.2) (by omega) x4
  ·exact C0.to hc (.inr rfl) hr x.2 (by omega) x4
 have rg:zD l g=4*σ:=by rw [Zcy C.perm,hr]
 -- way for way
 have go:∀ (k:Nat) {h:List Da}{y:Da},Pt l y h x→y.2<4→(∀ p∈h,tt l p=0∨tt l p=σ)→zD l h=(k+1)*σ→∃ s1 s2 y',h=s1++s2∧Rn l y.2 y.1 s1 y'.1∧Pt l y' s2 x∧y'.2<4∧(y'.2:Int)=(y.2+σ)%4∧(∀ p∈s2,tt l p=0∨tt l p=σ)∧zD l s2=k*σ:=by
  intro k h y hp y4 ht hr;have hne:h≠[]:=by
   rintro rfl;rw [ZcO] at hr;have:(k+1:Int)*σ≠0:=by rcases hσ with rfl|rfl<;>omega
   omega
  obtain ⟨s1,s2,y',e,n1,d1,P1,P2,q⟩:=ZqH hc hp hne ht;rcases q with ⟨q1,q2⟩|⟨q1,q2,_⟩
  ·subst q1;rw [e,List.append_nil,q2] at hr;have:(k+1:Int)*σ≠0:=by rcases hσ with rfl|rfl<;>omega
   omega
  ·have e4:=P1.end4 hc y4;refine ⟨s1,s2,y',e,⟨P1.wk,d1,n1⟩,P2,e4,ZnZ y4 e4 hσ q2,fun p hp=>ht p (by rw [e];exact List.mem_append.2 (.inr hp)),?_⟩;rw [e,Zcl,q1,Int.add_mul] at hr;omega
 obtain ⟨s0,h1,y1,e1,R0,P1,y14,d1,t1,r1⟩:=go 3 C.pt (by omega) C.t (by rw [rg];rfl);obtain ⟨s1,h2,y2,e2,R1,P2,y24,d2,t2,r2⟩:=go 2 P1 y14 t1 (by rw [r1];rfl);obtain ⟨s2,h3,y3,e3,R2,P3,y34,d3,t3,r3⟩:=go 1 P2 y24 t2 (by rw [r2];rfl);obtain ⟨s3,h4,y4,e4,R3,P4,y44,d4,t4,r4⟩:=go 0 P3 y34 t3 (by rw [r3];rfl);have n4:h4=[]:=by
  refine Classical.byContradiction fun n=>?_;obtain ⟨t,c',e5,tc'⟩:=C.last;have:c'∈h4:=by
   have q:g=(s0++s1++s2++s3)++h4:=by rw [e1,e2,e3,e4];simp
   rw [q] at e5;obtain ⟨u,c'',eu⟩:∃ u c'',h4=u++[c'']:=⟨h4.dropLast,h4.getLast n,(List.dropLast_concat_getLast n).symm⟩;rw [eu,← List.append_assoc] at e5;have:=List.append_inj_right' e5 rfl;rw [eu];simp at this ⊢;exact .inr this.symm
  have:=(ZnN hσ t4).2 ⟨c',this,tc'⟩;rw [r4] at this;omega
 subst n4;have y4x:y4=x:=P4;rw [List.append_nil] at e4;subst e4;rw [y4x] at R3;refine ⟨fun i=>if i=0 then x.1 else if i=1 then y1.1 else if i=2 then y2.1 else y3.1,fun i=>if i=0 then s0 else if i=1 then s1 else if i=2 then s2 else h3,⟨?_,?_⟩⟩
 ·intro i hi;have:i=0∨i=1∨i=2∨i=3:=by omega
  rcases this with rfl|rfl|rfl|rfl
  ·have:(((0:Nat):Int)*σ%4).toNat=x.2:=by rw [x0];simp
   rw [this];exact R0
  ·have:(((1:Nat):Int)*σ%4).toNat=y1.2:=by rcases hσ with rfl|rfl<;>omega
   rw [this];exact R1
  ·have:(((2:Nat):Int)*σ%4).toNat=y2.2:=by rcases hσ with rfl|rfl<;>omega
   rw [this];exact R2
  ·have:(((3:Nat):Int)*σ%4).toNat=y3.2:=by rcases hσ with rfl|rfl<;>omega
   rw [this];exact R3
 ·show (s0++(s1++(s2++h3))).Perm f;rw [← e3,← e2,← e1];exact C.perm
end Mu
/- Rectangles laid side by side: a covering of the frame,once. -/
namespace Mu
def wd (l:List Za) (X Y:Nat→Int) (i j:Int) (p:Da):Int:=if p.2=1 then (if i<X p.1∧Y p.1≤j∧j<Y (tg l p) then 1 else 0) else if p.2=3 then (if i<X p.1∧Y (tg l p)≤j∧j<Y p.1 then -1 else 0) else 0
structure Bx (l:List Za) (X Y:Nat→Int) (f:List Da) (x0 x1 y0 y1 xa xb ya yb:Int):Prop where
 hx:x0<x1
 hy:y0<y1
 h0:∀ p∈f,p.2=0→Y p.1=ya∧Y (tg l p)=ya∧x0≤X p.1∧X p.1<X (tg l p)∧X (tg l p)≤x1
 h1:∀ p∈f,p.2=1→X p.1=xa∧X (tg l p)=xa∧y0≤Y p.1∧Y p.1<Y (tg l p)∧Y (tg l p)≤y1
 h2:∀ p∈f,p.2=2→Y p.1=yb∧Y (tg l p)=yb∧x0≤X (tg l p)∧X (tg l p)<X p.1∧X p.1≤x1
 h3:∀ p∈f,p.2=3→X p.1=xb∧X (tg l p)=xb∧y0≤Y (tg l p)∧Y (tg l p)<Y p.1∧Y p.1≤y1
 dj:∀ p∈f,∀ q∈f,p≠q→p.2=q.2→al X Y p.2 (tg l p)≤al X Y p.2 q.1∨al X Y p.2 (tg l q)≤al X Y p.2 p.1
 w:∀ i j,(f.map (wd l X Y i j)).sum=if y0≤j∧j<y1 then (if i<xa then 1 else 0)-(if i<xb then 1 else 0) else 0
theorem ZkR {R:Da→Da→Prop}{p q:Da}:∀ {s:List Da},s.Pairwise R→p∈s→q∈s→p≠q→R p q∨R q p
 | [],_,hp,_,_=>by simp at hp
 | a::s,h,hp,hq,ne=>by
  rw [List.pairwise_cons] at h;rcases List.mem_cons.1 hp with e1|hp1
  ·rcases List.mem_cons.1 hq with e2|hq1
   ·exact absurd (e1.trans e2.symm) ne
   ·rw [e1];exact .inl (h.1 q hq1)
  ·rcases List.mem_cons.1 hq with e2|hq1
   ·rw [e2];exact .inr (h.1 p hp1)
   ·exact ZkR h.2 hp1 hq1 ne
theorem ZnV {g:Da→Int}{s:List Da}{c:Prop} [Decidable c]:(s.map fun p=>if c then g p else 0).sum=if c then (s.map g).sum else 0:=by
 by_cases h:c
 ·simp only [if_pos h]
 ·simp only [if_neg h]
  induction s with
  | nil=>rfl
  | cons a s ih=>rw [List.map_cons,List.sum_cons,ih];rfl
theorem Zps {l:List Za}{X Y:Nat→Int}(hS:Str l X Y) {a0 b0 a1 b1 a2 b2 a3 b3:Nat}{sE sN sW sS f:List Da}(RE:Rn l 0 a0 sE b0) (RN:Rn l 1 a1 sN b1) (RW:Rn l 2 a2 sW b2) (RS:Rn l 3 a3 sS b3) (pm:(sE++(sN++(sW++sS))).Perm f) {x0 x1 y0 y1:Int}
  (e1:X a0=x0) (e2:X b0=x1) (e3:Y a1=y0) (e4:Y b1=y1) (e5:X a2=x1) (e6:X b2=x0) (e7:Y a3=y1) (e8:Y b3=y0):Bx l X Y f x0 x1 y0 y1 (X a1) (X a3) (Y a0) (Y a2):=by
 obtain ⟨E1,E2,E3,E4,E5,E6⟩:=Ze8 hS RE.w RE.d;obtain ⟨N1,N2,N3,N4,N5,N6⟩:=Ze8 hS RN.w RN.d;obtain ⟨W1,W2,W3,W4,W5,W6⟩:=Ze8 hS RW.w RW.d;obtain ⟨S1,S2,S3,S4,S5,S6⟩:=Ze8 hS RS.w RS.d;have E3:=E3 RE.ne;have N3:=N3 RN.ne;have a00:∀ v,al X Y 0 v=X v:=fun _=>rfl;have a01:∀ v,al X Y 1 v=Y v:=fun _=>rfl;have a02:∀ v,al X Y 2 v=-X v:=fun _=>rfl;have a03:∀ v,al X Y 3 v=-Y v:=fun _=>rfl;have c00:∀ v,ac X Y 0 v=Y v:=fun _=>rfl;have c01:∀ v,ac X Y 1 v=X v:=fun _=>rfl;have c02:∀ v,ac X Y 2 v=Y v:=fun _=>rfl;have c03:∀ v,ac X Y 3 v=X v:=fun _=>rfl;simp only [a00,c00] at E1 E2 E3 E4;simp only [a01,c01] at N1 N2 N3 N4;simp only [a02,c02] at W1 W2 W4;simp only [a03,c03] at S1 S2 S4;have sp:∀ p,p∈f→p∈sE∧p.2=0∨p∈sN∧p.2=1∨p∈sW∧p.2=2∨p∈sS∧p.2=3:=by
  intro p hp;have:=pm.mem_iff.2 hp;simp only [List.mem_append] at this;rcases this with q|q|q|q
  ·exact .inl ⟨q,RE.d p q⟩
  ·exact .inr (.inl ⟨q,RN.d p q⟩)
  ·exact .inr (.inr (.inl ⟨q,RW.d p q⟩))
  ·exact .inr (.inr (.inr ⟨q,RS.d p q⟩))
 refine ⟨by omega,by omega,fun p hp d=>?_,fun p hp d=>?_,fun p hp d=>?_,fun p hp d=>?_,fun p hp q hq ne d=>?_,fun i j=>?_⟩
 ·rcases sp p hp with ⟨m,k⟩|⟨m,k⟩|⟨m,k⟩|⟨m,k⟩
  ·have:=E4 p m;omega
  all_goals omega
 ·rcases sp p hp with ⟨m,k⟩|⟨m,k⟩|⟨m,k⟩|⟨m,k⟩
  ·omega
  ·have:=N4 p m;omega
  all_goals omega
 ·rcases sp p hp with ⟨m,k⟩|⟨m,k⟩|⟨m,k⟩|⟨m,k⟩
  ·omega
  ·omega
  ·have:=W4 p m;omega
  ·omega
 ·rcases sp p hp with ⟨m,k⟩|⟨m,k⟩|⟨m,k⟩|⟨m,k⟩
  ·omega
  ·omega
  ·omega
  ·have:=S4 p m;omega
 ·rcases sp p hp with ⟨m,k⟩|⟨m,k⟩|⟨m,k⟩|⟨m,k⟩<;>rcases sp q hq with ⟨m',k'⟩|⟨m',k'⟩|⟨m',k'⟩|⟨m',k'⟩
  all_goals first|(exfalso;omega)|skip
  ·rw [k];exact ZkR E5 m m' ne
  ·rw [k];exact ZkR N5 m m' ne
  ·rw [k];exact ZkR W5 m m' ne
  ·rw [k];exact ZkR S5 m m' ne
 ·rw [← ZdH pm];simp only [List.map_append,List.sum_append];have z:∀ s:List Da,(∀ p∈s,p.2=0∨p.2=2)→(s.map (wd l X Y i j)).sum=0:=by
   intro s
   induction s with
   | nil=>intro _;rfl
   | cons a s ih =>
    intro h;have ha:=h a (by simp);rw [List.map_cons,List.sum_cons,ih fun p hp=>h p (by simp [hp])];unfold wd;rw [if_neg (by omega),if_neg (by omega)];rfl
  rw [z sE (fun p hp=>.inl (RE.d p hp)),z sW (fun p hp=>.inr (RW.d p hp))];have n:(sN.map (wd l X Y i j)).sum=if i<X a1 then (if Y a1≤j∧j<Y b1 then 1 else 0) else 0:=by
   have:=N6 j;simp only [a01] at this;rw [← this,← ZnV];congr 1;refine List.map_congr_left fun p hp=>?_;have k:=N4 p hp;unfold wd;rw [if_pos (RN.d p hp),k.1];split<;>split<;>first|(split<;>omega)|omega
  have s:(sS.map (wd l X Y i j)).sum=-(if i<X a3 then (if Y b3≤j∧j<Y a3 then 1 else 0) else 0):=by
   have:=S6 (-j-1);simp only [a03] at this;have e:(if Y b3≤j∧j<Y a3 then (1:Int) else 0)=if -Y a3≤-j-1∧-j-1 < -Y b3 then 1 else 0:=by split<;>split<;>omega
   rw [e,← this,← ZnV];have ng:∀ (g:Da→Int) (s:List Da),-(s.map g).sum=(s.map fun p=>-g p).sum:=by
    intro g s
    induction s with
    | nil=>rfl
    | cons a s ih=>rw [List.map_cons,List.sum_cons,List.map_cons,List.sum_cons,← ih];omega
   rw [ng];congr 1;refine List.map_congr_left fun p hp=>?_;have k:=S4 p hp;unfold wd;rw [if_neg (by rw [RS.d p hp];decide),if_pos (RS.d p hp),k.1];split<;>split<;>first|(split<;>omega)|omega
  rw [n,s,e3,e4,e7,e8];split<;>split<;>split<;>omega
theorem Zrr {l:List Za}(hc:Ck l) {X Y:Nat→Int}(hS:Str l X Y) {f:List Da}(hL:Lp l f) (hr:zD l f=4) (ht:∀ p∈f,0≤tt l p):∃ x0 x1 y0 y1,Bx l X Y f x0 x1 y0 y1 x1 x0 y0 y1:=by
 obtain ⟨c,s,Q⟩:=Zma hc (σ:=1) (.inl rfl) hL (fun p hp=>by
  have:=ht p hp;have:=(ZiU (d:=p.2) (e:=(bh l p).2)).2;have e:tt l p=tn p.2 (bh l p).2:=rfl;omega) (by rw [hr];rfl)
 have R0:Rn l 0 (c 0) (s 0) (c 1):=Q.r 0 (by omega);have R1:Rn l 1 (c 1) (s 1) (c 2):=Q.r 1 (by omega);have R2:Rn l 2 (c 2) (s 2) (c 3):=Q.r 2 (by omega);have R3:Rn l 3 (c 3) (s 3) (c 0):=Q.r 3 (by omega);have q0:Y (c 1)=Y (c 0):=(Ze8 hS R0.w R0.d).1;have q1:X (c 2)=X (c 1):=(Ze8 hS R1.w R1.d).1;have q2:Y (c 3)=Y (c 2):=(Ze8 hS R2.w R2.d).1;have q3:X (c 0)=X (c 3):=(Ze8 hS R3.w R3.d).1;have:=Zps hS R0 R1 R2 R3 Q.perm (x0:=X (c 0)) (x1:=X (c 1)) (y0:=Y (c 0)) (y1:=Y (c 2)) rfl rfl q0 rfl q1 q3.symm q2 rfl;refine ⟨X (c 0),X (c 1),Y (c 0),Y (c 2),?_⟩;rw [← q3] at this;exact this
theorem ZpQ {l:List Za}(hc:Ck l) {X Y:Nat→Int}(hS:Str l X Y) {f:List Da}(hL:Lp l f) (hr:zD l f=-4) (ht:∀ p∈f,-1≤tt l p∧tt l p≤0):∃ x0 x1 y0 y1,Bx l X Y f x0 x1 y0 y1 x0 x1 y1 y0:=by
 obtain ⟨c,s,Q⟩:=Zma hc (σ:=-1) (.inr rfl) hL (fun p hp=>by
  have:=ht p hp;omega) (by rw [hr];rfl)
 have R0:Rn l 0 (c 0) (s 0) (c 1):=Q.r 0 (by omega);have R1:Rn l 3 (c 1) (s 1) (c 2):=Q.r 1 (by omega);have R2:Rn l 2 (c 2) (s 2) (c 3):=Q.r 2 (by omega);have R3:Rn l 1 (c 3) (s 3) (c 0):=Q.r 3 (by omega);have q0:Y (c 1)=Y (c 0):=(Ze8 hS R0.w R0.d).1;have q1:X (c 2)=X (c 1):=(Ze8 hS R1.w R1.d).1;have q2:Y (c 3)=Y (c 2):=(Ze8 hS R2.w R2.d).1;have q3:X (c 0)=X (c 3):=(Ze8 hS R3.w R3.d).1;have pm:(s 0++(s 3++(s 2++s 1))).Perm f:=by
  refine List.Perm.trans ?_ Q.perm;refine List.Perm.append_left _ ?_;exact List.perm_append_comm.trans ((List.Perm.append_right (s 3) List.perm_append_comm).trans (by rw [List.append_assoc]))
 have:=Zps hS R0 R3 R2 R1 pm (x0:=X (c 0)) (x1:=X (c 1)) (y0:=Y (c 2)) (y1:=Y (c 0)) rfl rfl q2 rfl q1 q3.symm q0 rfl;refine ⟨X (c 0),X (c 1),Y (c 2),Y (c 0),?_⟩;rw [← q3] at this;exact this
theorem ZqQ {l:List Za}(hc:Ck l) {X Y:Nat→Int}(hS:Str l X Y) (i j:Int):((ZcH l).map (wd l X Y i j)).sum=0:=by
 have pm:((ZcH l).map (opp l)).Perm (ZcH l):=by
  have nd:((ZcH l).map (opp l)).Nodup:=List.pairwise_map.2 (ZdE.imp_of_mem fun {a b} ha hb hne he=>hne (Zpb hc (ZbD.1 ha) (ZbD.1 hb) he));have sub:∀ x∈(ZcH l).map (opp l),x∈ZcH l:=fun x hx=>by
   obtain ⟨q,hq,rfl⟩:=List.mem_map.1 hx;exact ZbD.2 ((ZbD.1 hq).opp hc)
  exact (List.perm_ext_iff_of_nodup nd ZdE).2 fun x=>⟨sub x,Zhq nd ZdE sub (by simp) x⟩
 have e:=ZdH (f:=wd l X Y i j) pm;rw [List.map_map] at e;have ng:∀ s:List Da,(∀ p∈s,isD l p)→(s.map (wd l X Y i j ∘ opp l)).sum=-(s.map (wd l X Y i j)).sum:=by
  intro s
  induction s with
  | nil=>intro _;rfl
  | cons a s ih =>
   intro h;have ha:=h a (by simp);rw [List.map_cons,List.sum_cons,List.map_cons,List.sum_cons,ih fun p hp=>h p (by simp [hp])];have o:tg l (opp l a)=a.1:=congrArg Prod.fst (Zcv hc ha);have st:=hS a ha;have a4:=ha.2.1;have w:wd l X Y i j (opp l a)=-wd l X Y i j a:=by
    unfold wd;rw [o];unfold al ac at st;unfold opp tg;unfold tg at st;dsimp only;generalize (nx l a.1 a.2).toNat=b at *;generalize a.2=d at *;generalize a.1=v at *;have:d=0∨d=1∨d=2∨d=3:=by omega
    rcases this with rfl|rfl|rfl|rfl<;>simp at st ⊢
    ·obtain ⟨s1,s2⟩:=st;rw [s2];split<;>rfl
    ·obtain ⟨s1,s2⟩:=st;rw [s2];split<;>rfl
   show wd l X Y i j (opp l a)+_=_;rw [w];omega
 rw [ng _ fun p hp=>ZbD.1 hp] at e;omega
theorem ZnS {f:Nat→Int}:∀ {n:Nat},(∀ i,i<n→0≤f i)→0≤sg f n
 | 0,_=>Int.le_refl _
 | n+1,h=>by
  have:=ZnS (f:=f) (n:=n) fun i hi=>h i (by omega);have:=h n (by omega);rw [sg];omega
theorem ZnX {f:Nat→Int}{n o:Nat}(ho:o<n) (h0:sg f n=0) (hn:∀ i,i<n→i≠o→0≤f i) (h1:-1≤f o):∀ a,a<n→a≠o→f a=1→f o=-1∧∀ b,b<n→b≠o→f b=1→b=a:=by
 intro a ha ao fa;have key:∀ b,b<n→b≠o→b≠a→f o+f a+f b≤0:=by
  intro b hb bo ba;have e:sg (fun i=>f i+(-(if i=o then f o else 0)+(-(if i=a then f a else 0) + -(if i=b then f b else 0)))) n=sg f n-f o-f a-f b:=by
   rw [Zgb,Zgb,Zgb];have q:∀ c (v:Nat),v<n→sg (fun i=>-(if i=v then c else 0)) n=-c:=by
    intro c v hv;have:(fun i:Nat=>-(if i=v then c else 0))=fun i=>if i=v then -c else 0:=by funext i;split<;>rfl
    rw [this,ZhJ hv]
   rw [q _ o ho,q _ a ha,q _ b hb];omega
  have p:=ZnS (f:=fun i=>f i+(-(if i=o then f o else 0)+(-(if i=a then f a else 0) + -(if i=b then f b else 0)))) (n:=n) fun i hi=>by
   by_cases c1:i=o
   ·subst c1;rw [if_pos rfl,if_neg (by omega),if_neg (by omega)];omega
   ·by_cases c2:i=a
    ·subst c2;rw [if_neg c1,if_pos rfl,if_neg (by omega)];omega
    ·by_cases c3:i=b
     ·subst c3;rw [if_neg c1,if_neg c2,if_pos rfl];omega
     ·have:=hn i hi c1;rw [if_neg c1,if_neg c2,if_neg c3];omega
  omega
 have one:f o+f a≤0:=by
  have e:sg (fun i=>f i+(-(if i=o then f o else 0) + -(if i=a then f a else 0))) n=sg f n-f o-f a:=by
   rw [Zgb,Zgb];have q:∀ c (v:Nat),v<n→sg (fun i=>-(if i=v then c else 0)) n=-c:=by
    intro c v hv;have:(fun i:Nat=>-(if i=v then c else 0))=fun i=>if i=v then -c else 0:=by funext i;split<;>rfl
    rw [this,ZhJ hv]
   rw [q _ o ho,q _ a ha];omega
  have p:=ZnS (f:=fun i=>f i+(-(if i=o then f o else 0) + -(if i=a then f a else 0))) (n:=n) fun i hi=>by
   by_cases c1:i=o
   ·subst c1;rw [if_pos rfl,if_neg (by omega)];omega
   ·by_cases c2:i=a
    ·subst c2;rw [if_neg c1,if_pos rfl];omega
    ·have:=hn i hi c1;rw [if_neg c1,if_neg c2];omega
  omega
 refine ⟨by omega,fun b hb bo fb=>Classical.byContradiction fun c=>?_⟩;have:=key b hb bo c;omega
end Mu
/- Rectangles laid side by side: no two cells at a Zdg,none in an edge,no two edges cross. -/
namespace Mu
structure Rec (l:List Za) (X Y:Nat→Int):Prop where
 ck:Ck l
 str:Str l X Y
 one:∃ o,o<(faces l).length∧zD l (gi (faces l) o)=-4∧∀ i,i<(faces l).length→i≠o→zD l (gi (faces l) i)=4
 inn:∀ f∈faces l,zD l f=4→∀ p∈f,0≤tt l p
 out:∀ f∈faces l,zD l f=-4→∀ p∈f,-1≤tt l p∧tt l p≤0
def rnd (l:List Za) (X Y:Nat→Int) (f:List Da) (i j:Int):Int:=(f.map (wd l X Y i j)).sum
variable {l:List Za}{X Y:Nat→Int}
theorem Bx.inW {f:List Da}{x0 x1 y0 y1:Int}(B:Bx l X Y f x0 x1 y0 y1 x1 x0 y0 y1) (i j:Int):rnd l X Y f i j=if x0≤i∧i<x1∧y0≤j∧j<y1 then 1 else 0:=by
 unfold rnd;rw [B.w];have:=B.hx;split<;>split<;>first|omega|(split<;>split<;>omega)
theorem Bx.outW {f:List Da}{x0 x1 y0 y1:Int}(B:Bx l X Y f x0 x1 y0 y1 x0 x1 y1 y0) (i j:Int):rnd l X Y f i j=if x0≤i∧i<x1∧y0≤j∧j<y1 then -1 else 0:=by
 unfold rnd;rw [B.w];have:=B.hx;split<;>split<;>first|omega|(split<;>split<;>omega)
theorem Rec.bin (R:Rec l X Y) {f:List Da}(hf:f∈faces l) (h:zD l f=4):∃ x0 x1 y0 y1,Bx l X Y f x0 x1 y0 y1 x1 x0 y0 y1:=Zrr R.ck R.str (Zi0 R.ck hf) h (R.inn f hf h)
theorem Rec.bout (R:Rec l X Y) {f:List Da}(hf:f∈faces l) (h:zD l f=-4):∃ x0 x1 y0 y1,Bx l X Y f x0 x1 y0 y1 x0 x1 y1 y0:=ZpQ R.ck R.str (Zi0 R.ck hf) h (R.out f hf h)
theorem Rec.kind (R:Rec l X Y) {f:List Da}(hf:f∈faces l):zD l f=4∨zD l f=-4:=by
 obtain ⟨o,ho,r1,r2⟩:=R.one;obtain ⟨i,hi,e⟩:=Zci hf;by_cases c:i=o
 ·right;rw [← e,c,r1]
 ·left;rw [← e,r2 i hi c]
theorem Rec.same (R:Rec l X Y) {f g:List Da}(hf:f∈faces l) (hg:g∈faces l) (h1:zD l f=-4) (h2:zD l g=-4):f=g:=by
 obtain ⟨o,ho,r1,r2⟩:=R.one;obtain ⟨i,hi,e⟩:=Zci hf;obtain ⟨j,hj,e'⟩:=Zci hg;have a:i=o:=Classical.byContradiction fun c=>by have:=r2 i hi c;rw [e] at this;omega
 have b:j=o:=Classical.byContradiction fun c=>by have:=r2 j hj c;rw [e'] at this;omega
 rw [← e,← e',a,b]
theorem Rec.uniq (R:Rec l X Y) {f:List Da}(hf:f∈faces l) (h4:zD l f=4) {i j:Int}(h1:rnd l X Y f i j=1):(∀ g∈faces l,zD l g=4→rnd l X Y g i j=1→g=f)∧∀ g∈faces l,zD l g=-4→rnd l X Y g i j=-1:=by
 obtain ⟨o,ho,r1,r2⟩:=R.one;have tot:sg (fun k=>rnd l X Y (gi (faces l) k) i j) (faces l).length=0:=by
  rw [← ZqQ R.ck R.str i j,← ZdH (Zln R.ck),ZgA,← ZgK];have e:faces l=(List.range (faces l).length).map (gi (faces l)):=by
   refine List.ext_getElem (by simp) fun n h1 h2=>?_;rw [List.getElem_map,List.getElem_range,Zb3 h1]
  conv=>rhs;rw [e]
  rw [List.map_map];rfl
 have nn:∀ k,k<(faces l).length→k≠o→0≤rnd l X Y (gi (faces l) k) i j:=by
  intro k hk ko;obtain ⟨x0,x1,y0,y1,B⟩:=R.bin (ZaH hk) (r2 k hk ko);rw [B.inW];split<;>omega
 have n1:-1≤rnd l X Y (gi (faces l) o) i j:=by
  obtain ⟨x0,x1,y0,y1,B⟩:=R.bout (ZaH ho) r1;rw [B.outW];split<;>omega
 obtain ⟨a,ha,ea⟩:=Zci hf;have ao:a≠o:=by rintro rfl;rw [ea] at r1;omega
 obtain ⟨k1,k2⟩:=ZnX ho tot nn n1 a ha ao (by rw [ea];exact h1);refine ⟨fun g hg g4 gw=>?_,fun g hg g4=>?_⟩
 ·obtain ⟨b,hb,eb⟩:=Zci hg;have bo:b≠o:=by rintro rfl;rw [eb] at r1;omega
  rw [← eb,← ea,k2 b hb bo (by rw [eb];exact gw)]
 ·rw [R.same hg (ZaH ho) g4 r1];exact k1
def sx (q:Nat) (x:Int):Int:=if q=1∨q=2 then x-1 else x
def sy (q:Nat) (y:Int):Int:=if q=2∨q=3 then y-1 else y
def wq (l:List Za) (v q:Nat):Da:=(v,prv (fun e=>decide (0≤nx l v e)) ((q+3)%4))
def qok (i e q:Nat):Bool:=(tn i e != 1||q == e)&&(tn i e != 0||q == e||q == (e+1)%4)&&(tn i e != -1||q == e||q == (e+1)%4||q == (e+2)%4)
theorem Zq9:∀ a b c d:Bool,∀ i q:Fin 4,(!(ZcS a b c d ((i.1+2)%4))||prv (ZcS a b c d) ((q.1+3)%4) != prv (ZcS a b c d) i.1||qok i.1 (prv (ZcS a b c d) i.1) q.1)=true:=by decide +kernel
theorem Zq8:∀ a b c d:Bool,∀ q e:Fin 4,ZcS a b c d e.1=true→ZcS a b c d (prv (ZcS a b c d) q.1)=true:=by decide +kernel
theorem ZrM {A:Nat→Bool}{q e:Nat}(hq:q<4) (he:e<4) (h:A e=true):A (prv A q)=true:=by
 have:=Zq8 (A 0) (A 1) (A 2) (A 3) ⟨q,hq⟩ ⟨e,he⟩ (by rw [Zdm he];exact h);dsimp only at this;rw [ZdM hq,Zdm (ZhD hq)] at this;exact this
theorem ZrN {A:Nat→Bool}{i q:Nat}(hi:i<4) (hq:q<4) (h:A ((i+2)%4)=true) (h2:prv A ((q+3)%4)=prv A i) :
  (tn i (prv A i)=1→q=prv A i)∧(tn i (prv A i)=0→q=prv A i∨q=(prv A i+1)%4)∧(tn i (prv A i)=-1→q=prv A i∨q=(prv A i+1)%4∨q=(prv A i+2)%4):=by
 have:=Zq9 (A 0) (A 1) (A 2) (A 3) ⟨i,hi⟩ ⟨q,hq⟩;dsimp only at this;rw [ZdM hi,ZdM (show (q+3)%4<4 by omega),Zdm (show (i+2)%4<4 by omega),h,h2] at this;unfold qok at this;simp at this;generalize prv A i=e at *;refine ⟨fun z=>?_,fun z=>?_,fun z=>?_⟩
 ·have:=this.1.1;omega
 ·have:=this.1.2;omega
 ·have:=this.2;omega
theorem Rec.quad (R:Rec l X Y) {v e0:Nat}(hv:v<l.length) (he:e0<4) (h0:0≤nx l v e0) {q:Nat}(hq:q<4):∃ f∈faces l,wq l v q∈f∧((zD l f=4∧rnd l X Y f (sx q (X v)) (sy q (Y v))=1)∨(zD l f=-4∧rnd l X Y f (sx q (X v)) (sy q (Y v))=0)):=by
 have hc:=R.ck;have hA:=ZrM (A:=fun e=>decide (0≤nx l v e)) (q:=(q+3)%4) (by omega) he (by simpa using h0);have dW:isD l (wq l v q):=⟨hv,ZhD (A:=fun e=>decide (0≤nx l v e)) (d:=(q+3)%4) (by omega),by simpa [wq] using hA⟩;obtain ⟨i,hi,hw⟩:=ZgD hc dW fun p hp=>(ZgE hc).2 hp;have hf:=ZaH hi;refine ⟨gi (faces l) i,hf,hw,?_⟩;have C:=ZbM hc _ hf;generalize hF:gi (faces l) i=f at *
 -- the dart ahead
 obtain ⟨p,hp,bp⟩:∃ p∈f,bh l p=wq l v q:=by
  have nd:(f.map (bh l)).Nodup:=List.pairwise_map.2 (C.nd.imp_of_mem fun {a b} ha hb hne he=>hne (ZcJ hc (C.is a ha) (C.is b hb) he));have:=Zhq nd C.nd (fun x hx=>by
   obtain ⟨z,hz,rfl⟩:=List.mem_map.1 hx;exact C.cl z hz) (by simp) _ hw
  obtain ⟨z,hz,e⟩:=List.mem_map.1 this;exact ⟨z,hz,e⟩
 have dp:=C.is p hp;have p4:=dp.2.1;have fp:=dp.fwd hc;have tv:tg l p=v:=by
  have:=congrArg Prod.fst bp;rw [ZjC] at this;exact this
 have tp:tt l p=tn p.2 (wq l v q).2:=by unfold tt;rw [bp]
 have e2:prv (fun e=>decide (0≤nx l v e)) ((q+3)%4)=prv (fun e=>decide (0≤nx l v e)) p.2:=by
  have:=congrArg Prod.snd bp;rw [ZcK] at this;dsimp only at this;rw [show (nx l p.1 p.2).toNat=v from tv] at this;exact this.symm
 have k:=ZrN (A:=fun e=>decide (0≤nx l v e)) p4 hq (by
  have:nx l v ((p.2+2)%4)=p.1:=by rw [← tv];exact fp.2
  simp [this]) e2
 rw [← e2] at k;have eW:wq l v q=(v,prv (fun e=>decide (0≤nx l v e)) ((q+3)%4)):=rfl;have l4:prv (fun e=>decide (0≤nx l v e)) ((q+3)%4)<4:=ZhD (by omega);have td:tn p.2 (prv (fun e=>decide (0≤nx l v e)) ((q+3)%4))=tt l p:=by rw [tp];rfl
 rw [eW] at hw;generalize prv (fun e=>decide (0≤nx l v e)) ((q+3)%4)=e at *;have dd:(tt l p=0→p.2=e)∧(tt l p=-1→p.2=(e+1)%4):=by
  rw [← td];unfold tn;constructor
  ·intro h;split at h
   ·omega
   ·split at h
    ·omega
    ·split at h<;>omega
  ·intro h;split at h
   ·omega
   ·split at h
    ·omega
    ·split at h
     ·omega
     ·omega
 rcases R.kind hf with r|r
 ·left;refine ⟨r,?_⟩;obtain ⟨x0,x1,y0,y1,B⟩:=R.bin hf r;have t0:=R.inn f hf r p hp;have t1:=(ZiU (d:=p.2) (e:=e)).2;rw [B.inW,if_pos];have b0:=B.h0 _ hw;have b1:=B.h1 _ hw;have b2:=B.h2 _ hw;have b3:=B.h3 _ hw;have c0:=B.h0 _ hp;have c1:=B.h1 _ hp;have c2:=B.h2 _ hp;have c3:=B.h3 _ hp;rw [tv] at c0 c1 c2 c3;have hx:=B.hx;have hy:=B.hy;dsimp only at b0 b1 b2 b3;have hk:q=e∨(q=(e+1)%4∧p.2=e):=by
   by_cases z:tt l p=0
   ·have:=k.2.1 (by omega);have:=dd.1 z;omega
   ·have:=k.1 (by omega);omega
  unfold sx sy;have:e=0∨e=1∨e=2∨e=3:=by omega
  rcases this with rfl|rfl|rfl|rfl
  ·have:=b0 rfl;rcases hk with rfl|⟨rfl,z⟩
   ·simp;omega
   ·have:=c0 z;simp;omega
  ·have:=b1 rfl;rcases hk with rfl|⟨rfl,z⟩
   ·simp;omega
   ·have:=c1 z;simp;omega
  ·have:=b2 rfl;rcases hk with rfl|⟨rfl,z⟩
   ·simp;omega
   ·have:=c2 z;simp;omega
  ·have:=b3 rfl;rcases hk with rfl|⟨rfl,z⟩
   ·simp;omega
   ·have:=c3 z;simp;omega
 ·right;refine ⟨r,?_⟩;obtain ⟨x0,x1,y0,y1,B⟩:=R.bout hf r;have t0:=R.out f hf r p hp;rw [B.outW,if_neg];have b0:=B.h0 _ hw;have b1:=B.h1 _ hw;have b2:=B.h2 _ hw;have b3:=B.h3 _ hw;have c0:=B.h0 _ hp;have c1:=B.h1 _ hp;have c2:=B.h2 _ hp;have c3:=B.h3 _ hp;rw [tv] at c0 c1 c2 c3;have hx:=B.hx;have hy:=B.hy;dsimp only at b0 b1 b2 b3;have hk:q=e∨(q=(e+1)%4∧p.2=e)∨((q=(e+1)%4∨q=(e+2)%4)∧p.2=(e+1)%4):=by
   by_cases z:tt l p=0
   ·have:=k.2.1 (by omega);have:=dd.1 z;omega
   ·have:=k.2.2 (by omega);have:=dd.2 (by omega);omega
  unfold sx sy;have:e=0∨e=1∨e=2∨e=3:=by omega
  rcases this with rfl|rfl|rfl|rfl
  ·have:=b0 rfl;rcases hk with rfl|⟨rfl,z⟩|⟨rfl|rfl,z⟩
   ·simp;omega
   ·have:=c0 z;simp;omega
   ·have:=c1 z;simp;omega
   ·have:=c1 z;simp;omega
  ·have:=b1 rfl;rcases hk with rfl|⟨rfl,z⟩|⟨rfl|rfl,z⟩
   ·simp;omega
   ·have:=c1 z;simp;omega
   ·have:=c2 z;simp;omega
   ·have:=c2 z;simp;omega
  ·have:=b2 rfl;rcases hk with rfl|⟨rfl,z⟩|⟨rfl|rfl,z⟩
   ·simp;omega
   ·have:=c2 z;simp;omega
   ·have:=c3 z;simp;omega
   ·have:=c3 z;simp;omega
  ·have:=b3 rfl;rcases hk with rfl|⟨rfl,z⟩|⟨rfl|rfl,z⟩
   ·simp;omega
   ·have:=c3 z;simp;omega
   ·have:=c0 z;simp;omega
   ·have:=c0 z;simp;omega
theorem ZiZ {d:Nat}(h:d<4):d=0∨d=1∨d=2∨d=3:=by omega
theorem Bx.start {f:List Da}{x0 x1 y0 y1:Int}(B:Bx l X Y f x0 x1 y0 y1 x1 x0 y0 y1) {p q:Da}(hp:p∈f) (hq:q∈f) (p4:p.2<4) (q4:q.2<4) (ex:X p.1=X q.1) (ey:Y p.1=Y q.1):p=q:=by
 refine Classical.byContradiction fun ne=>?_;have hx:=B.hx;have hy:=B.hy;have j:=B.dj p hp q hq ne;have a0:=B.h0 _ hp;have a1:=B.h1 _ hp;have a2:=B.h2 _ hp;have a3:=B.h3 _ hp;have b0:=B.h0 _ hq;have b1:=B.h1 _ hq;have b2:=B.h2 _ hq;have b3:=B.h3 _ hq;rcases ZiZ p4 with k|k|k|k<;>rcases ZiZ q4 with k'|k'|k'|k'<;>rw [k] at a0 a1 a2 a3 j<;>rw [k'] at b0 b1 b2 b3 j<;>simp [al] at a0 a1 a2 a3 b0 b1 b2 b3 j<;>omega
theorem Rec.at (R:Rec l X Y) {v e0 w e1:Nat}(hv:v<l.length) (he:e0<4) (h0:0≤nx l v e0) {q:Nat}(hq:q<4) {f:List Da}(hf:f∈faces l) (h4:zD l f=4) (h:rnd l X Y f (sx q (X v)) (sy q (Y v))=1):wq l v q∈f:=by
 obtain ⟨g,hg,m,k⟩:=R.quad hv he h0 hq;obtain ⟨u1,u2⟩:=R.uniq hf h4 h;rcases k with ⟨r,w⟩|⟨r,w⟩
 ·rw [← u1 g hg r w];exact m
 ·have:=u2 g hg r;omega
theorem wq4 {v q:Nat}:(wq l v q).2<4:=ZhD (A:=fun e=>decide (0≤nx l v e)) (d:=(q+3)%4) (by omega)
theorem Rec.V (R:Rec l X Y) {v e0 w e1:Nat}(hv:v<l.length) (he:e0<4) (h0:0≤nx l v e0) (hw:w<l.length) (he1:e1<4) (h1:0≤nx l w e1) (ex:X v=X w) (ey:Y v=Y w):v=w:=by
 obtain ⟨q,hq,f,hf,m,r,k⟩:∃ q,q<4∧∃ f∈faces l,wq l v q∈f∧zD l f=4∧rnd l X Y f (sx q (X v)) (sy q (Y v))=1:=by
  refine Classical.byContradiction fun c=>?_;have all:∀ q,q<4→∃ f∈faces l,wq l v q∈f∧zD l f=-4∧rnd l X Y f (sx q (X v)) (sy q (Y v))=0:=by
   intro q hq;obtain ⟨f,hf,m,k⟩:=R.quad hv he h0 hq;rcases k with k|k
   ·exact absurd ⟨q,hq,f,hf,m,k⟩ c
   ·exact ⟨f,hf,m,k⟩
  obtain ⟨f,hf,m,r,w0⟩:=all 0 (by omega);obtain ⟨f1,hf1,_,r1,w1⟩:=all 1 (by omega);obtain ⟨f2,hf2,_,r2,w2⟩:=all 2 (by omega);obtain ⟨f3,hf3,_,r3,w3⟩:=all 3 (by omega);rw [R.same hf1 hf r1 r] at w1;rw [R.same hf2 hf r2 r] at w2;rw [R.same hf3 hf r3 r] at w3;obtain ⟨x0,x1,y0,y1,B⟩:=R.bout hf r;rw [B.outW] at w0 w1 w2 w3;simp [sx,sy] at w0 w1 w2 w3;have hx:=B.hx;have hy:=B.hy;have a0:=B.h0 _ m;have a1:=B.h1 _ m;have a2:=B.h2 _ m;have a3:=B.h3 _ m;have e:(wq l v 0).1=v:=rfl;rw [e] at a0 a1 a2 a3;have inb:x0≤X v∧X v≤x1∧y0≤Y v∧Y v≤y1:=by
   rcases ZiZ (wq4 (l:=l) (v:=v) (q:=0)) with k|k|k|k
   ·have:=a0 k;omega
   ·have:=a1 k;omega
   ·have:=a2 k;omega
   ·have:=a3 k;omega
  omega
 have m2:=R.at (w:=w) (e1:=e1) hw he1 h1 hq hf r (by rw [← ex,← ey];exact k);obtain ⟨x0,x1,y0,y1,B⟩:=R.bin hf r;exact congrArg Prod.fst (B.start m m2 wq4 wq4 ex ey)
theorem Rec.face (R:Rec l X Y) {p:Da}(hp:isD l p):∃ f∈faces l,p∈f:=by
 obtain ⟨i,hi,hw⟩:=ZgD R.ck hp fun p hp=>(ZgE R.ck).2 hp;exact ⟨_,ZaH hi,hw⟩
theorem Rec.side (R:Rec l X Y) {p:Da}(hp:isD l p):(∃ f∈faces l,p∈f∧zD l f=4)∨∃ f∈faces l,opp l p∈f∧zD l f=4:=by
 obtain ⟨f,hf,m⟩:=R.face hp;obtain ⟨g,hg,m'⟩:=R.face (hp.opp R.ck);rcases R.kind hf with r|r
 ·exact .inl ⟨f,hf,m,r⟩
 ·rcases R.kind hg with r'|r'
  ·exact .inr ⟨g,hg,m',r'⟩
  ·exfalso;rw [R.same hg hf r' r] at m';obtain ⟨x0,x1,y0,y1,B⟩:=R.bout hf r;have hx:=B.hx;have hy:=B.hy;have o:tg l (opp l p)=p.1:=congrArg Prod.fst (Zcv R.ck hp);have a0:=B.h0 _ m;have a1:=B.h1 _ m;have a2:=B.h2 _ m;have a3:=B.h3 _ m;have b0:=B.h0 _ m';have b1:=B.h1 _ m';have b2:=B.h2 _ m';have b3:=B.h3 _ m';rw [o] at b0 b1 b2 b3;unfold opp at b0 b1 b2 b3;dsimp only at b0 b1 b2 b3;rcases ZiZ hp.2.1 with k|k|k|k<;>rw [k] at a0 a1 a2 a3 b0 b1 b2 b3<;>simp at a0 a1 a2 a3 b0 b1 b2 b3<;>omega
theorem Rec.E1 (R:Rec l X Y) {p:Da}{f:List Da}(hf:f∈faces l) (hp:p∈f) (r:zD l f=4) {w e1:Nat}(hw:w<l.length) (he1:e1<4) (h1:0≤nx l w e1) (ea:ac X Y p.2 w=ac X Y p.2 p.1) (l1:al X Y p.2 p.1<al X Y p.2 w) (l2:al X Y p.2 w<al X Y p.2 (tg l p)):False:=by
 obtain ⟨x0,x1,y0,y1,B⟩:=R.bin hf r;have p4:=((ZbM R.ck f hf).is p hp).2.1;have hx:=B.hx;have hy:=B.hy;have a0:=B.h0 _ hp;have a1:=B.h1 _ hp;have a2:=B.h2 _ hp;have a3:=B.h3 _ hp;have m:=R.at (w:=w) (e1:=e1) hw he1 h1 p4 hf r (by
  rw [B.inW,if_pos];rcases ZiZ p4 with k|k|k|k<;>rw [k] at a0 a1 a2 a3 ea l1 l2 ⊢ <;> simp [al,ac,sx,sy] at a0 a1 a2 a3 ea l1 l2 ⊢ <;> omega)
 have e:(wq l w p.2).1=w:=rfl;have ne:p≠wq l w p.2:=fun z=>by
  have:=congrArg Prod.fst z;rw [e] at this;rw [this] at l1;omega
 have j:=B.dj p hp _ m ne;have b0:=B.h0 _ m;have b1:=B.h1 _ m;have b2:=B.h2 _ m;have b3:=B.h3 _ m;rw [e] at b0 b1 b2 b3 j;have q4:=wq4 (l:=l) (v:=w) (q:=p.2);generalize wq l w p.2=r' at *;rcases ZiZ p4 with k|k|k|k<;>rcases ZiZ q4 with k'|k'|k'|k'<;>rw [k] at a0 a1 a2 a3 ea l1 l2 j<;>rw [k'] at b0 b1 b2 b3 j<;>simp [al,ac] at a0 a1 a2 a3 b0 b1 b2 b3 ea l1 l2 j<;>omega
theorem Rec.E (R:Rec l X Y) {p:Da}(hp:isD l p) {w e1:Nat}(hw:w<l.length) (he1:e1<4) (h1:0≤nx l w e1) (ea:ac X Y p.2 w=ac X Y p.2 p.1) (l1:al X Y p.2 p.1<al X Y p.2 w) (l2:al X Y p.2 w<al X Y p.2 (tg l p)):False:=by
 rcases R.side hp with ⟨f,hf,m,r⟩|⟨f,hf,m,r⟩
 ·exact R.E1 hf m r hw he1 h1 ea l1 l2
 ·have o:tg l (opp l p)=p.1:=congrArg Prod.fst (Zcv R.ck hp);have st:=(R.str p hp).2;have e:(opp l p).1=tg l p:=rfl;refine R.E1 hf m r hw he1 h1 ?_ ?_ ?_
  ·rw [e];show ac X Y ((p.2+2)%4) w=ac X Y ((p.2+2)%4) (tg l p);rcases ZiZ hp.2.1 with k|k|k|k<;>rw [k] at ea st ⊢ <;> simp [ac] at ea st ⊢ <;> omega
  ·rw [e];show al X Y ((p.2+2)%4) (tg l p)<al X Y ((p.2+2)%4) w;rcases ZiZ hp.2.1 with k|k|k|k<;>rw [k] at l2 ⊢ <;> simp [al] at l2 ⊢ <;> omega
  ·rw [o];show al X Y ((p.2+2)%4) w<al X Y ((p.2+2)%4) p.1;rcases ZiZ hp.2.1 with k|k|k|k<;>rw [k] at l1 ⊢ <;> simp [al] at l1 ⊢ <;> omega
theorem Rec.Xs (R:Rec l X Y) {p q:Da}(hp:isD l p) (hq:isD l q) (p0:p.2=0) (q1:q.2=1) (x1:X p.1<X q.1) (x2:X q.1<X (tg l p)) (y1:Y q.1<Y p.1) (y2:Y p.1<Y (tg l q)):False:=by
 have sp:=(R.str p hp).2;have sq:=(R.str q hq).2;rw [p0] at sp;rw [q1] at sq;simp [ac] at sp sq;have op:tg l (opp l p)=p.1:=congrArg Prod.fst (Zcv R.ck hp);have oq:tg l (opp l q)=q.1:=congrArg Prod.fst (Zcv R.ck hq);have ep:(opp l p).1=tg l p:=rfl;have eq:(opp l q).1=tg l q:=rfl;have hP:∃ f∈faces l,zD l f=4∧((rnd l X Y f (X q.1) (Y p.1)=1∧rnd l X Y f (X q.1-1) (Y p.1)=1)∨(rnd l X Y f (X q.1) (Y p.1-1)=1∧rnd l X Y f (X q.1-1) (Y p.1-1)=1)):=by
  rcases R.side hp with ⟨f,hf,m,r⟩|⟨f,hf,m,r⟩<;>refine ⟨f,hf,r,?_⟩<;>obtain ⟨a,b,c,d,B⟩:=R.bin hf r
  ·left;have:=B.h0 _ m p0;have:=B.hy;rw [B.inW,B.inW,if_pos (by omega),if_pos (by omega)];exact ⟨rfl,rfl⟩
  ·right;have h2:=B.h2 _ m (by unfold opp;dsimp only;omega);have:=B.hy;rw [op,ep] at h2;rw [B.inW,B.inW,if_pos (by omega),if_pos (by omega)];exact ⟨rfl,rfl⟩
 have hQ:∃ f∈faces l,zD l f=4∧((rnd l X Y f (X q.1-1) (Y p.1)=1∧rnd l X Y f (X q.1-1) (Y p.1-1)=1∧rnd l X Y f (X q.1) (Y p.1)=0∧rnd l X Y f (X q.1) (Y p.1-1)=0)∨(rnd l X Y f (X q.1) (Y p.1)=1∧rnd l X Y f (X q.1) (Y p.1-1)=1∧rnd l X Y f (X q.1-1) (Y p.1)=0∧rnd l X Y f (X q.1-1) (Y p.1-1)=0)):=by
  rcases R.side hq with ⟨f,hf,m,r⟩|⟨f,hf,m,r⟩<;>refine ⟨f,hf,r,?_⟩<;>obtain ⟨a,b,c,d,B⟩:=R.bin hf r
  ·left;have:=B.h1 _ m q1;have:=B.hx;rw [B.inW,B.inW,B.inW,B.inW,if_pos (by omega),if_pos (by omega),if_neg (by omega),if_neg (by omega)];exact ⟨rfl,rfl,rfl,rfl⟩
  ·right;have h3:=B.h3 _ m (by unfold opp;dsimp only;omega);have:=B.hx;rw [oq,eq] at h3;rw [B.inW,B.inW,B.inW,B.inW,if_pos (by omega),if_pos (by omega),if_neg (by omega),if_neg (by omega)];exact ⟨rfl,rfl,rfl,rfl⟩
 obtain ⟨f,hf,r,k⟩:=hP;obtain ⟨g,hg,s,k'⟩:=hQ;have U:=fun i j h=>(R.uniq (i:=i) (j:=j) hf r h).1 g hg s;rcases k with ⟨a,b⟩|⟨a,b⟩<;>rcases k' with ⟨c,d,e,h⟩|⟨c,d,e,h⟩
 ·have z:=U _ _ b c;subst z;omega
 ·have z:=U _ _ a c;subst z;omega
 ·have z:=U _ _ b d;subst z;omega
 ·have z:=U _ _ a d;subst z;omega
end Mu
/- Layer 21: RectKeeps: old edges are there still,straight on. -/
namespace Mu
theorem Cuts.props {F:List Za}(hF:Ck F) {n:Nat}{m:List Za}(C:Cuts F n m):Ck m:=by
 cases C with
 | zero=>exact hF
 | succ _ h=>exact h.ck
end Mu
/- Layer 16: straight chains of cells. -/
namespace Mu
theorem Ck.back {l:List Za}(h:Ck l) {v d w:Nat}(hv:v<l.length) (hd:d<4) (hw:nx l v d=w):w<l.length∧nx l w ((d+2)%4)=v:=by
 rcases h.s v d hv hd with ⟨a,_⟩|⟨u,a,b,_,c,_⟩
 ·omega
 ·have:w=u:=by omega
  subst this;exact ⟨b,c⟩
structure IsCh (l:List Za) (d:Nat) (C:List Int):Prop where
 ne:0<C.length
 lt:∀ i,i<C.length→0≤gi C i∧gi C i<l.length
 nxt:∀ i,i+1<C.length→nx l (gi C i).toNat d=gi C (i+1)
 fin:nx l (gi C (C.length-1)).toNat d=-1
 beg:nx l (gi C 0).toNat ((d+2)%4)=-1
theorem IsCh.bk {l:List Za}(hc:Ck l) {d:Nat}(hd:d<4) {C:List Int}(h:IsCh l d C) {i:Nat}(hi:i+1<C.length):nx l (gi C (i+1)).toNat ((d+2)%4)=gi C i:=by
 have a:=h.lt i (by omega);have b:=h.lt (i+1) hi;have:=(hc.back (v:=(gi C i).toNat) (d:=d) (w:=(gi C (i+1)).toNat) (by omega) hd (by rw [h.nxt i hi];omega)).2;rw [this];omega
theorem IsCh.at0 {l:List Za}(hc:Ck l) {d:Nat}(hd:d<4) {C C':List Int}(h:IsCh l d C) (h':IsCh l d C'):∀ i j,i<C.length→j<C'.length→gi C i=gi C' j→i=j∧gi C 0=gi C' 0
 | 0,0,_,_,e=>⟨rfl,e⟩
 | 0,j+1,_,hj,e=>by
  have a:=h'.bk hc hd hj;have b:=h.beg;rw [e,a] at b;have:=h'.lt j (by omega);omega
 | i+1,0,hi,_,e=>by
  have a:=h.bk hc hd hi;have b:=h'.beg;rw [← e,a] at b;have:=h.lt i (by omega);omega
 | i+1,j+1,hi,hj,e=>by
  have a:=h.bk hc hd hi;have b:=h'.bk hc hd hj;rw [e,b] at a;obtain ⟨q,r⟩:=IsCh.at0 hc hd h h' i j (by omega) (by omega) a.symm;exact ⟨by omega,r⟩
theorem IsCh.uniq0 {l:List Za}{d:Nat}{C C':List Int}(h:IsCh l d C) (h':IsCh l d C') (h0:gi C 0=gi C' 0):C=C':=by
 have key:∀ {C C':List Int},IsCh l d C→IsCh l d C'→gi C 0=gi C' 0→∀ k,k<C.length→k<C'.length∧gi C k=gi C' k:=by
  intro C C' h h' h0 k
  induction k with
  | zero=>intro _;exact ⟨h'.ne,h0⟩
  | succ k ih =>
   intro hk;obtain ⟨a,b⟩:=ih (by omega);have n:=h.nxt k hk;have q:=h.lt (k+1) hk;by_cases c:k+1<C'.length
   ·refine ⟨c,?_⟩;rw [← n,← h'.nxt k c,b]
   ·have f:=h'.fin;rw [show C'.length-1=k by omega,← b,n] at f;omega
 have k1:=key h h' h0;have k2:=key h' h h0.symm;have hl:C.length=C'.length:=by
  have a:=h.ne;have b:=h'.ne;have:=(k1 (C.length-1) (by omega)).1;have:=(k2 (C'.length-1) (by omega)).1;omega
 exact ZdG hl fun i hi=>(k1 i hi).2
theorem IsCh.uniq {l:List Za}(hc:Ck l) {d:Nat}(hd:d<4) {C C':List Int}(h:IsCh l d C) (h':IsCh l d C') {v:Int}(hv:v∈C) (hv':v∈C'):C=C':=by
 obtain ⟨i,hi,rfl⟩:=List.mem_iff_getElem.1 hv;obtain ⟨j,hj,e⟩:=List.mem_iff_getElem.1 hv';exact h.uniq0 h' (h.at0 hc hd h' i j hi hj (by rw [Zb3 hi,Zb3 hj];exact e.symm)).2
theorem IsCh.len {l:List Za}(hc:Ck l) {d:Nat}(hd:d<4) {C:List Int}(h:IsCh l d C):C.length≤l.length:=by
 refine Zkk (fun i=>(gi C i).toNat) (fun i hi=>?_) (fun i j hi hj e=>?_)
 ·have:=h.lt i hi;show (gi C i).toNat<l.length;omega
 ·have a:=h.lt i hi;have b:=h.lt j hj;have e:(gi C i).toNat=(gi C j).toNat:=e;exact (h.at0 hc hd h i j hi hj (by omega)).1
theorem ZkK {P:Nat→Prop}:∀ k,P k→∃ k,P k∧∀ i,i<k→¬ P i:=by
 intro k
 induction k using Nat.strongRecOn with
 | _ k ih =>
  intro h;by_cases c:∃ i,i<k∧P i
  ·obtain ⟨i,hi,hp⟩:=c;exact ih i hi hp
  ·exact ⟨k,h,fun i hi hp=>c ⟨i,hi,hp⟩⟩
def fwd (l:List Za) (d r:Nat):Nat→Int
 | 0=>r
 | n+1=>if 0≤fwd l d r n then nx l (fwd l d r n).toNat d else -1
theorem ZmX {l:List Za}(hc:Ck l) {d r:Nat}(hd:d<4) (hr:r<l.length) (hb:nx l r ((d+2)%4)=-1):∃ C,IsCh l d C∧gi C 0=r:=by
 have step:∀ n,0≤fwd l d r n→fwd l d r (n+1)=nx l (fwd l d r n).toNat d:=fun n h=>by rw [fwd,if_pos h]
 have pre:∀ n,0≤fwd l d r (n+1)→0≤fwd l d r n:=by
  intro n h;by_cases c:0≤fwd l d r n
  ·exact c
  ·rw [fwd,if_neg c] at h;omega
 have lt:∀ n,0≤fwd l d r n→fwd l d r n<l.length:=by
  intro n
  induction n with
  | zero=>intro _;show (r:Int)<l.length;omega
  | succ n ih =>
   intro h;have c:=pre n h;have:=ih c;rw [step n c];exact (hc.lt (by omega) hd).2
 have bkw:∀ n,0≤fwd l d r (n+1)→nx l (fwd l d r (n+1)).toNat ((d+2)%4)=fwd l d r n:=by
  intro n h;have c:=pre n h;have a:=lt n c;have b:=lt (n+1) h;have:=(hc.back (v:=(fwd l d r n).toNat) (d:=d) (w:=(fwd l d r (n+1)).toNat) (by omega) hd (by rw [← step n c];omega)).2;rw [this];omega
 have z:fwd l d r 0=r:=rfl;have inj:∀ i j,0≤fwd l d r i→0≤fwd l d r j→fwd l d r i=fwd l d r j→i=j:=by
  intro i
  induction i with
  | zero =>
   intro j _ hj e
   cases j with
   | zero=>rfl
   | succ j =>
    have:=bkw j hj;rw [← e,z,itn,hb] at this;have:=pre j hj;omega
  | succ i ih =>
   intro j hi hj e
   cases j with
   | zero =>
    have:=bkw i hi;rw [e,z,itn,hb] at this;have:=pre i hi;omega
   | succ j =>
    have a:=bkw i hi;have b:=bkw j hj;rw [e,b] at a;have:=ih j (pre i hi) (pre j hj) a.symm;omega
 have ex:∃ k,fwd l d r k<0:=by
  refine Classical.byContradiction fun hn=>?_;have all:∀ k,0≤fwd l d r k:=fun k=>by
   by_cases c:0≤fwd l d r k
   ·exact c
   ·exact absurd ⟨k,by omega⟩ hn
  have:=Zkk (n:=l.length+1) (m:=l.length) (fun i=>(fwd l d r i).toNat) (fun i _=>by
   have:=lt i (all i);have:=all i;show (fwd l d r i).toNat<l.length;omega) (fun i j _ _ e=>inj i j (all i) (all j) (by
   have e:(fwd l d r i).toNat=(fwd l d r j).toNat:=e;have:=all i;have:=all j;omega))
  omega
 obtain ⟨k0,hk0⟩:=ex;obtain ⟨k,hk,hm⟩:=ZkK (P:=fun k=>fwd l d r k<0) k0 hk0;have hpos:0<k:=by
  cases k with
  | zero=>rw [z] at hk;omega
  | succ k=>omega
 have g:∀ i,i<k→gi ((List.range k).map (fwd l d r)) i=fwd l d r i:=fun i hi=>Zcu hi;have hlen:((List.range k).map (fwd l d r)).length=k:=by simp
 have ge:∀ i,i<k→0≤fwd l d r i:=fun i hi=>by have:=hm i hi;omega
 refine ⟨(List.range k).map (fwd l d r),⟨by omega,fun i hi=>?_,fun i hi=>?_,?_,?_⟩,?_⟩
 ·rw [hlen] at hi;rw [g i hi];exact ⟨ge i hi,lt i (ge i hi)⟩
 ·rw [hlen] at hi;rw [g i (by omega),g (i+1) hi,step i (ge i (by omega))]
 ·rw [hlen,g _ (by omega),← step _ (ge _ (by omega)),show k-1+1=k by omega];have:=ge (k-1) (by omega);have a:=step (k-1) this;rw [show k-1+1=k by omega] at a;have:=lt (k-1) this;have:=hc.lt (l:=l) (v:=(fwd l d r (k-1)).toNat) (d:=d) (by omega) hd;omega
 ·rw [g 0 hpos,z,itn];exact hb
 ·rw [g 0 hpos,z]
def ZdX (l:List Za) (b:Nat):Nat→Nat→Option Nat
 | 0,_=>none
 | n+1,v=>if nx l v b<0 then some v else ZdX l b n (nx l v b).toNat
theorem ZiO {l:List Za}(hc:Ck l) {d:Nat}(hd:d<4) {C:List Int}(h:IsCh l d C):∀ i m,i<C.length→i<m→ZdX l ((d+2)%4) m (gi C i).toNat=some (gi C 0).toNat
 | 0,m+1,_,_=>by rw [ZdX,h.beg,if_pos (by omega)]
 | i+1,m+1,hi,hm=>by
  have:=h.lt i (by omega);rw [ZdX,h.bk hc hd hi,if_neg (by omega)];exact ZiO hc hd h i m (by omega) (by omega)
theorem ZfR {l:List Za}(hc:Ck l) {d:Nat}(hd:d<4):∀ m v r,v<l.length→ZdX l ((d+2)%4) m v=some r→∃ C,IsCh l d C∧gi C 0=r∧∃ i,i<C.length∧gi C i=v
 | 0,v,r,_,h=>by cases h
 | m+1,v,r,hv,h=>by
  have hb:=hc.lt hv (d:=(d+2)%4) (by omega);rw [ZdX] at h;by_cases c:nx l v ((d+2)%4)<0
  ·rw [if_pos c] at h;cases h;obtain ⟨C,hC,h0⟩:=ZmX hc hd hv (by omega);exact ⟨C,hC,h0,0,hC.ne,h0⟩
  ·rw [if_neg c] at h;have bk:=hc.back (v:=v) (d:=(d+2)%4) (w:=(nx l v ((d+2)%4)).toNat) hv (by omega) (by omega);rw [show ((d+2)%4+2)%4=d by omega] at bk;obtain ⟨C,hC,h0,i,hi,e⟩:=ZfR hc hd m _ r (by omega) h;have n:nx l (gi C i).toNat d=v:=by rw [e,itn];exact bk.2
   by_cases q:i+1<C.length
   ·exact ⟨C,hC,h0,i+1,q,by rw [← hC.nxt i q];exact n⟩
   ·have f:=hC.fin;rw [show C.length-1=i by omega,n] at f;omega
def AllCh (l:List Za) (d:Nat):Prop:=∀ v:Nat,v<l.length→∃ C,IsCh l d C∧(v:Int)∈C
theorem AllCh.root {l:List Za}(hc:Ck l) {d:Nat}(hd:d<4) (h:AllCh l d) {v:Nat}(hv:v<l.length):∃ r C,ZdX l ((d+2)%4) (l.length+1) v=some r∧IsCh l d C∧gi C 0=r∧(v:Int)∈C:=by
 obtain ⟨C,hC,hm⟩:=h v hv;obtain ⟨i,hi,e⟩:=List.mem_iff_getElem.1 hm;have:=hC.len hc hd;have r:=ZiO hc hd hC i (l.length+1) hi (by omega);rw [Zb3 hi,e,itn] at r;have:=hC.lt 0 hC.ne;exact ⟨_,C,r,hC,by omega,hm⟩
theorem Zjy {l:List Za}(hc:Ck l) {d:Nat}(hd:d<4) (h:¬ AllCh l d):∃ v,v<l.length∧ZdX l ((d+2)%4) (l.length+1) v=none:=by
 refine Classical.byContradiction fun hn=>h fun v hv=>?_
 cases r:ZdX l ((d+2)%4) (l.length+1) v with
 | none=>exact absurd ⟨v,hv,r⟩ hn
 | some r' =>
  obtain ⟨C,hC,h0,i,hi,e⟩:=ZfR hc hd _ v r' hv r;exact ⟨C,hC,by rw [← e];exact ZaH hi⟩
structure CH (l:List Za) (d:Nat) (a:List Int) (L:List (List Int)):Prop where
 alen:a.length=l.length
 ch:∀ i,i<L.length→IsCh l d (gi L i)
 mem:∀ u:Nat,u<l.length→∃ i:Nat,i<L.length∧gi a u=i∧(u:Int)∈gi L i
 one:∀ i u:Nat,i<L.length→u<l.length→(u:Int)∈gi L i→gi a u=i
 seen:∀ i:Nat,i<L.length→∃ u,u<l.length∧gi a u=i
 ord:∀ u i:Nat,u<l.length→gi a u=i+1→∃ u',u'<u∧gi a u'=i
 Ll:L.length≤l.length
end Mu
/- Layer 16: what the chains' code works out. -/
namespace Mu
theorem ZrR {l:List Za}(hc:Ck l) (hl:l.length≤1000) {d:Nat}(hd:d<4):∀ (m u j:Nat),j+m=l.length+1→u<l.length→ZV (ZaQ.s0 l d) (m+1) ((u:Int),(j:Int))=some (match ZdX l ((d+2)%4) m u with|some r=>.inr (r:Int)|none=>.inl ()):=by
 have hbk:(((d:Int)+2).tmod 4)=(((d+2)%4:Nat):Int):=by
  match d,hd with
  | 0,_|1,_|2,_|3,_=>rfl
 intro m
 induction m with
 | zero =>
  intro u j hj hu;simp only [ZV,ZaQ.s0,ZdX];rw [ZS (by omega)]
 | succ m ih =>
  intro u j hj hu;have e:(gi l u).Next.get (((d+2)%4:Nat):Int)=nx l u ((d+2)%4):=rfl;have hlt:=hc.lt (d:=(d+2)%4) hu (by omega);rw [ZV,ZdX];simp only [ZaQ.s0];rw [ZU (by omega),zR (by omega),Zz (by omega),hbk,Zz (by omega),itn,e];by_cases c:nx l u ((d+2)%4)<0
  ·rw [ZU c,if_pos c]
  ·rw [ZS c,zR (by omega),if_neg c];have:=ih (nx l u ((d+2)%4)).toNat (j+1) (by omega) (by omega);rw [show ((nx l u ((d+2)%4)).toNat:Int)=nx l u ((d+2)%4) by omega,show ((j+1:Nat):Int)=(j:Int)+1 by omega] at this;exact this
theorem Zny {l:List Za}(hc:Ck l) (hl:l.length≤1000) {d v:Nat}(hd:d<4) (hv:v<l.length):ZaQ l v d=some (match ZdX l ((d+2)%4) (l.length+1) v with|some r=>(r:Int)|none=>-1):=by
 have:=Zdq (ZrR hc hl hd (l.length+1) v 0 (by omega) hv) (m:=big) (by unfold big;omega);unfold ZaQ;rw [show (0:Int)=((0:Nat):Int) from rfl,this,obs];cases ZdX l ((d+2)%4) (l.length+1) v<;>rfl
theorem ZjW {C:List Int}{i:Nat}(hi:i<C.length):gi (C++[-1]) i=gi C i:=ZcM hi
theorem ZjX {C:List Int}:gi (C++[-1]) C.length=-1:=by
 have:=ZcB (l:=C) (m:=[(-1:Int)]) (i:=0);rwa [Nat.add_zero] at this
theorem ZlP {l:List Za}{d:Nat}{C:List Int}(h:IsCh l d C) {i:Nat}(hi:i<C.length):nx l (gi C i).toNat d=gi (C++[-1]) (i+1):=by
 by_cases c:i+1<C.length
 ·rw [ZjW c];exact h.nxt i c
 ·have e:i+1=C.length:=by omega
  rw [e,ZjX];have:=h.fin;rwa [show C.length-1=i by omega] at this
theorem ZqA {l:List Za}(hl:l.length≤1000) {d:Nat}(hd:d<4) {C:List Int}(h:IsCh l d C) (hCl:C.length≤l.length):ZV (ZH.s2 l d) big (([]:List Int),gi C 0)=some C:=by
 refine ZbC (fun k:Nat=>(C.take k,gi (C++[-1]) k)) (n:=C.length) (ZaK (by omega)) (by rw [ZjW h.ne];rfl) (fun k hk=>?_) ?_
 ·have hlt:=h.lt k hk;have e:(gi l (gi C k).toNat).Next.get (d:Int)=nx l (gi C k).toNat d:=rfl;simp only [ZH.s2];rw [ZjW hk,ZU (by omega),Zz (by rw [List.length_take];simp;omega),Zz (by omega),Zz (by omega),e,ZlP h hk,Zku hk]
 ·simp only [ZH.s2];rw [ZjX,ZS (by omega),List.take_length]
theorem Zih {α:Type} [Inhabited α] {L:List α}{C:α}{i:Nat}(hi:i<L.length+1):gi (L++[C]) i=if i<L.length then gi L i else C:=by
 by_cases c:i<L.length
 ·rw [if_pos c,ZcM c]
 ·rw [if_neg c,show i=L.length+0 by omega,ZcB];rfl
end Mu
