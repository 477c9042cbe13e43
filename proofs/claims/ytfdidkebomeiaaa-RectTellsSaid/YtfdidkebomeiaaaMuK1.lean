/- The law, plainly: what is worked out. -/
import Derived.Test.YtfdidkebomeiaaaMuV
import Derived.Test.YtfdidkebomeiaaaMuDf
import Derived.Test.YtfdidkebomeiaaaMuK0
/- Loops of Zdq where an edge is taken out: how many there are,and their turns. -/
set_option linter.unusedVariables false
set_option linter.unusedSimpArgs false
set_option maxRecDepth 10000
namespace Mu
def nxE (l:List Za) (e e' y:Da):Da:=if y=e then bh l e' else if y=e' then bh l e else y
def crE (l:List Za) (e e' y:Da):Int:=if y=e then tt l e'-2 else if y=e' then tt l e-2 else 0
theorem Del.pt {l m:List Za}(hc:Ck l) {v d w:Nat}(D:Del l m v d w):∀ {s:List Da}{x y:Da},Pt l x s y→s≠[]→(∀ a∈s,a≠(v,d)∧a≠(w,(d+2)%4)) →
  Pt m x s (nxE l (v,d) (w,(d+2)%4) y)∧Za8 m s=Za8 l s+crE l (v,d) (w,(d+2)%4) y
 | [],_,_,_,h,_=>absurd rfl h
 | [a],x,y,h,_,hs=>by
  rw [Pt,Pt] at h
  obtain ⟨rfl,h1,rfl⟩:=h
  have q:=hs x (by simp)
  have hm:Mu.isD m x:=D.isD.2 ⟨h1,q.1,q.2⟩
  have b:=D.bh hc hm
  refine ⟨⟨rfl,hm,?_⟩,?_⟩
  ·rw [b.1];rfl
  ·rw [Zb0,Zb0,ZdO,ZdO,b.2]
   unfold crE
   split
   ·omega
   ·split<;>omega
 | a::b::s,x,y,h,_,hs=>by
  rw [Pt] at h
  obtain ⟨rfl,h1,h2⟩:=h
  have q:=hs x (by simp)
  have qb:=hs b (by simp)
  have hm:Mu.isD m x:=D.isD.2 ⟨h1,q.1,q.2⟩
  have eb:Mu.bh l x=b:=by rw [Pt] at h2;exact h2.1
  have B:=D.bh hc hm
  rw [eb,if_neg qb.1,if_neg qb.2,if_neg qb.1,if_neg qb.2] at B
  rw [eb] at h2
  obtain ⟨i1,i2⟩:=D.pt hc h2 (by simp) fun a ha=>hs a (List.mem_cons_of_mem _ ha)
  refine ⟨⟨rfl,hm,?_⟩,?_⟩
  ·rw [B.1];exact i1
  ·rw [Zb0,i2,Zb0 (t:=b::s),B.2];omega
theorem ZmH {l:List Za}{p:Da}:(bh l p).1=(nx l p.1 p.2).toNat:=by rw [ZcM]
theorem Del.bh_e {l m:List Za}(hc:Ck l) {v d w:Nat}(D:Del l m v d w):Mu.bh l (v,d)≠(v,d):=by
 intro q
 have:=congrArg Prod.fst q
 rw [ZmH] at this
 dsimp only at this
 rw [D.hn,itn] at this
 exact D.ne hc this
theorem Del.bh_e' {l m:List Za}(hc:Ck l) {v d w:Nat}(D:Del l m v d w):Mu.bh l (w,(d+2)%4)≠(w,(d+2)%4):=by
 intro q
 have:=congrArg Prod.fst q
 rw [ZmH] at this
 dsimp only at this
 rw [D.hb hc,itn] at this
 exact D.ne hc this.symm
theorem Del.ee {l m:List Za}(hc:Ck l) {v d w:Nat}(D:Del l m v d w):((w,(d+2)%4):Da)≠(v,d):=fun q=>D.ne hc (congrArg Prod.fst q)
theorem Del.joinA {l m:List Za}(hc:Ck l) {v d w:Nat}(D:Del l m v d w) {A B:List Da}(hA:Lp l ((v,d)::A)) (hB:Lp l ((w,(d+2)%4)::B)) (hdj:∀ x∈(v,d)::A,x ∉ (w,(d+2)%4)::B) :
  Lp m (A++B)∧Za8 m (A++B)=Za8 l ((v,d)::A)+Za8 l ((w,(d+2)%4)::B)-4:=by
 have ee:=D.ee hc
 obtain ⟨a1,a2⟩:=hA.hd
 obtain ⟨b1,b2⟩:=hB.hd
 have nA:A≠[]:=by rintro rfl;exact D.bh_e hc a2
 have nB:B≠[]:=by rintro rfl;exact D.bh_e' hc b2
 have ndA:=List.nodup_cons.1 hA.nd
 have ndB:=List.nodup_cons.1 hB.nd
 obtain ⟨p1,r1⟩:=D.pt hc a2 nA fun a ha=>⟨fun q=>ndA.1 (q ▸ ha),fun q=>hdj a (by simp [ha]) (by simp [q])⟩
 obtain ⟨p2,r2⟩:=D.pt hc b2 nB fun a ha=>⟨fun q=>hdj a (by simp [q]) (by simp [ha]),fun q=>ndB.1 (q ▸ ha)⟩
 unfold nxE at p1 p2
 unfold crE at r1 r2
 rw [if_pos rfl] at p1 r1
 rw [if_neg ee,if_pos rfl] at p2 r2
 refine ⟨⟨by simp [nA],?_,_,Pt.app.2 ⟨_,p1,p2⟩⟩,?_⟩
 ·rw [List.nodup_append]
  exact ⟨ndA.2,ndB.2,fun a ha b hb q=>hdj a (by simp [ha]) (by simp [q,hb])⟩
 ·rw [Zdk,r1,r2,Zb0,Zb0];omega
theorem Del.joinB {l m:List Za}(hc:Ck l) {v d w:Nat}(D:Del l m v d w) {A B:List Da}(h:Lp l ((v,d)::(A++(w,(d+2)%4)::B))) :
  (A≠[]→Lp m A∧Za8 m A=Za8 l A+tt l (v,d)-2)∧(B≠[]→Lp m B∧Za8 m B=Za8 l B+tt l (w,(d+2)%4)-2)∧(A=[]↔Mu.bh l (v,d)=(w,(d+2)%4))∧(B=[]↔Mu.bh l (w,(d+2)%4)=(v,d)):=by
 have ee:=D.ee hc
 obtain ⟨a1,a2⟩:=h.hd
 obtain ⟨y,c1,c2⟩:=Pt.app.1 a2
 rw [Pt] at c2
 obtain ⟨rfl,c2,c3⟩:=c2
 have nd:=List.nodup_cons.1 h.nd
 have nd2:=List.nodup_append.1 nd.2
 have nd3:=List.nodup_cons.1 nd2.2.1
 have qA:∀ a∈A,a≠(v,d)∧a≠(w,(d+2)%4):=fun a ha=>⟨fun q=>nd.1 (by simp [← q,ha]),fun q=>nd2.2.2 a ha (w,(d+2)%4) (by simp) q⟩
 have qB:∀ a∈B,a≠(v,d)∧a≠(w,(d+2)%4):=fun a ha=>⟨fun q=>nd.1 (by simp [← q,ha]),fun q=>nd3.1 (q ▸ ha)⟩
 refine ⟨fun nA=>?_,fun nB=>?_,⟨?_,fun q=>?_⟩,⟨?_,fun q=>?_⟩⟩
 ·obtain ⟨p1,r1⟩:=D.pt hc c1 nA qA
  unfold nxE at p1
  unfold crE at r1
  rw [if_neg ee,if_pos rfl] at p1 r1
  exact ⟨⟨nA,nd2.1,_,p1⟩,by rw [r1];omega⟩
 ·obtain ⟨p1,r1⟩:=D.pt hc c3 nB qB
  unfold nxE at p1
  unfold crE at r1
  rw [if_pos rfl] at p1 r1
  exact ⟨⟨nB,nd3.2,_,p1⟩,by rw [r1];omega⟩
 ·rintro rfl;exact c1
 ·cases A with
  | nil=>rfl
  | cons a A =>
   rw [Pt] at c1
   exact absurd (c1.1.symm.trans q) (qA a (by simp)).2
 ·rintro rfl;exact c3
 ·cases B with
  | nil=>rfl
  | cons a B =>
   rw [Pt] at c3
   exact absurd (c3.1.symm.trans q) (qB a (by simp)).1
theorem Cyc.of_perm {l:List Za}{f g:List Da}(h:Cyc l f) (p:f.Perm g):Cyc l g :=
 ⟨fun e=>h.ne (by rw [e] at p;exact p.eq_nil),p.nodup_iff.1 h.nd,fun x hx=>h.is x (p.mem_iff.2 hx),fun x hx=>p.mem_iff.1 (h.cl x (p.mem_iff.2 hx)),fun C hC x hx y hy=>h.one C hC x (p.mem_iff.2 hx) y (p.mem_iff.2 hy)⟩
theorem Cyc.lp {l:List Za}(hc:Ck l) {f:List Da}(h:Cyc l f) {p:Da}(hp:p∈f):∃ t,Lp l (p::t)∧f.Perm (p::t):=by
 obtain ⟨t,ht⟩:=Znr hc (h.is p hp)
 exact ⟨t,ht,h.perm ht.cyc hp (by simp)⟩
theorem Del.keep {l m:List Za}(hc:Ck l) {v d w:Nat}(D:Del l m v d w) {f:List Da}(h:Cyc l f) (h1:(v,d) ∉ f) (h2:(w,(d+2)%4) ∉ f):Cyc m f∧Za8 m f=Za8 l f:=by
 obtain ⟨p,hp⟩:=List.exists_mem_of_ne_nil f h.ne
 obtain ⟨t,ht,pe⟩:=h.lp hc hp
 obtain ⟨x,hx⟩:=ht.pt
 have q:∀ a∈p::t,a≠(v,d)∧a≠(w,(d+2)%4):=fun a ha=>⟨fun k=>h1 (k ▸ pe.mem_iff.2 ha),fun k=>h2 (k ▸ pe.mem_iff.2 ha)⟩
 have xp:x=p:=by rw [Pt] at hx;exact hx.1
 obtain ⟨k1,k2⟩:=D.pt hc hx (by simp) q
 subst xp
 unfold nxE at k1
 unfold crE at k2
 have qx:=q x (by simp)
 rw [if_neg qx.1,if_neg qx.2] at k1 k2
 have L:Lp m (x::t):=⟨by simp,ht.nd,x,k1⟩
 refine ⟨L.cyc.of_perm pe.symm,?_⟩
 rw [Zdt pe,Zdt pe,k2];omega

/-! All loops. -/
structure Fcs (l:List Za) (F:List (List Da)):Prop where
 cy:∀ f∈F,Cyc l f
 nd:F.flatten.Nodup
 al:∀ p,isD l p→p∈F.flatten
theorem Fcs.faces {l:List Za}(hc:Ck l):Fcs l (faces l):=⟨Zc9 hc,(Zd5 hc).2.2.2.1,fun p hp=>(Zmg hc).2 hp⟩
theorem Fcs.le {l:List Za}{F G:List (List Da)}(hF:Fcs l F) (hG:Fcs l G):F.length≤G.length:=by
 have key:∀ f∈F,∃ i,i<G.length∧∃ p,p∈f∧p∈gi G i:=by
  intro f hf
  obtain ⟨p,hp⟩:=List.exists_mem_of_ne_nil f (hF.cy f hf).ne
  obtain ⟨g,hg,hpg⟩:=List.mem_flatten.1 (hG.al p ((hF.cy f hf).is p hp))
  obtain ⟨i,hi,e⟩:=List.mem_iff_getElem.1 hg
  exact ⟨i,hi,p,hp,by rw [ZbY hi,e];exact hpg⟩
 have:∀ F:List (List Da),(∀ f∈F,Cyc l f)→F.flatten.Nodup→(∀ f∈F,∃ i,i<G.length∧∃ p,p∈f∧p∈gi G i)→∃ I:List Nat,I.length=F.length∧I.Nodup∧∀ i∈I,i<G.length∧∃ f∈F,∃ p,p∈f∧p∈gi G i:=by
  intro F
  induction F with
  | nil=>intro _ _ _;exact ⟨[],rfl,List.nodup_nil,by simp⟩
  | cons f F ih =>
   intro h1 h2 h3
   rw [List.flatten_cons,List.nodup_append] at h2
   obtain ⟨I,k1,k2,k3⟩:=ih (fun f hf=>h1 f (by simp [hf])) h2.2.1 fun f hf=>h3 f (by simp [hf])
   obtain ⟨i,hi,p,hp,hpi⟩:=h3 f (by simp)
   refine ⟨i::I,by simp [k1],List.nodup_cons.2 ⟨fun hm=>?_,k2⟩,fun j hj=>?_⟩
   ·obtain ⟨_,f',hf',p',hp',hpi'⟩:=k3 i hm
    have cg:=hG.cy _ (ZbW hi)
    have c1:=h1 f (by simp)
    -- f and f' share a dart
    have:=(cg.sub c1 hpi hp) p' hpi'
    exact h2.2.2 p' this p' (List.mem_flatten.2 ⟨f',hf',hp'⟩) rfl
   ·rcases List.mem_cons.1 hj with rfl|hj
    ·exact ⟨hi,f,by simp,p,hp,hpi⟩
    ·obtain ⟨a,f',hf',r⟩:=k3 j hj
     exact ⟨a,f',by simp [hf'],r⟩
 obtain ⟨I,k1,k2,k3⟩:=this F hF.cy hF.nd key
 have:=k2.length_le_of_subset (l₂:=List.range G.length) fun i hi=>List.mem_range.2 (k3 i hi).1
 simp at this
 omega
theorem Fcs.len {l:List Za}{F G:List (List Da)}(hF:Fcs l F) (hG:Fcs l G):F.length=G.length:=Nat.le_antisymm (hF.le hG) (hG.le hF)
theorem Fcs.perm {l:List Za}{F G:List (List Da)}(h:Fcs l F) (p:F.Perm G):Fcs l G :=
 ⟨fun f hf=>h.cy f (p.mem_iff.2 hf),p.flatten.nodup_iff.1 h.nd,fun x hx=>p.flatten.mem_iff.1 (h.al x hx)⟩
theorem Fcs.pick {l:List Za}{S F:List (List Da)}(h:Fcs l (S++F)) {g:List Da}(hg:Cyc l g) (hn:∀ p∈g,p ∉ S.flatten):∃ R,Fcs l (S++g::R)∧F.length=R.length+1:=by
 obtain ⟨p,hp⟩:=List.exists_mem_of_ne_nil g hg.ne
 have:=h.al p (hg.is p hp)
 rw [List.flatten_append,List.mem_append] at this
 rcases this with k|k
 ·exact absurd k (hn p hp)
 ·obtain ⟨g1,hg1,hpg⟩:=List.mem_flatten.1 k
  have pe:F.Perm (g1::F.erase g1):=List.perm_cons_erase hg1
  have pg:g1.Perm g:=(h.cy g1 (by simp [hg1])).perm hg hpg hp
  have h2:=h.perm (List.Perm.append_left S pe)
  have pf:(S++g1::F.erase g1).flatten.Perm (S++g::F.erase g1).flatten:=by
   rw [List.flatten_append,List.flatten_append,List.flatten_cons,List.flatten_cons]
   exact List.Perm.append_left _ (List.Perm.append_right _ pg)
  refine ⟨F.erase g1,⟨fun f hf=>?_,pf.nodup_iff.1 h2.nd,fun x hx=>pf.mem_iff.1 (h2.al x hx)⟩,by rw [pe.length_eq];rfl⟩
  rcases List.mem_append.1 hf with q|q
  ·exact h.cy f (by simp [q])
  ·rcases List.mem_cons.1 q with rfl|q
   ·exact hg
   ·exact h.cy f (by simp [List.mem_of_mem_erase q])
theorem Del.fcs {l m:List Za}(hc:Ck l) {v d w:Nat}(D:Del l m v d w) {S S' R:List (List Da)}(h:Fcs l (S++R)) (h1:∀ f∈S',Cyc m f) (h2:S'.flatten.Nodup) (h3:∀ p,p∈S'.flatten↔p∈S.flatten∧p≠(v,d)∧p≠(w,(d+2)%4)) (h4:(v,d)∈S.flatten) (h5:(w,(d+2)%4)∈S.flatten) :
  Fcs m (S'++R)∧∀ f∈R,Za8 m f=Za8 l f:=by
 have nd:=h.nd
 rw [List.flatten_append,List.nodup_append] at nd
 have keep:∀ f∈R,Cyc m f∧Za8 m f=Za8 l f:=fun f hf=>D.keep hc (h.cy f (by simp [hf]))
  (fun q=>nd.2.2 _ h4 _ (List.mem_flatten.2 ⟨f,hf,q⟩) rfl) (fun q=>nd.2.2 _ h5 _ (List.mem_flatten.2 ⟨f,hf,q⟩) rfl)
 refine ⟨⟨fun f hf=>?_,?_,fun p hp=>?_⟩,fun f hf=>(keep f hf).2⟩
 ·rcases List.mem_append.1 hf with q|q
  ·exact h1 f q
  ·exact (keep f q).1
 ·rw [List.flatten_append,List.nodup_append]
  exact ⟨h2,nd.2.1,fun a ha b hb=>nd.2.2 a ((h3 a).1 ha).1 b hb⟩
 ·obtain ⟨q1,q2,q3⟩:=D.isD.1 hp
  have:=h.al p q1
  rw [List.flatten_append,List.mem_append] at this ⊢
  rcases this with k|k
  ·exact .inl ((h3 p).2 ⟨k,q2,q3⟩)
  ·exact .inr k
inductive Zru (l m:List Za) (e e':Da):Prop where
 | two (A B:List Da) (R:List (List Da)) (hA:Lp l (e::A)) (hB:Lp l (e'::B)) (hl:Fcs l ((e::A)::(e'::B)::R)) (hm:Fcs m ((A++B)::R)) (rot:Za8 m (A++B)=Za8 l (e::A)+Za8 l (e'::B)-4) (same:∀ f∈R,Za8 m f=Za8 l f) (n1:bh l e≠e') (n2:bh l e'≠e) (lm:Lp m (A++B))
 | one (A B:List Da) (R:List (List Da)) (hA:Lp l (e::(A++e'::B))) (hl:Fcs l ((e::(A++e'::B))::R)) (hm:Fcs m (A::B::R)) (rot:Za8 m A+Za8 m B=Za8 l (e::(A++e'::B))-4) (same:∀ f∈R,Za8 m f=Za8 l f) (n1:bh l e≠e') (n2:bh l e'≠e) (lA:Lp m A) (lB:Lp m B)
 | leaf (A:List Da) (R:List (List Da)) (hA:Cyc l (e::e'::A)) (hl:Fcs l ((e::e'::A)::R)) (hm:Fcs m (A::R)) (rot:Za8 m A=Za8 l (e::e'::A)) (same:∀ f∈R,Za8 m f=Za8 l f) (n:(bh l e=e'∧bh l e'≠e)∨(bh l e≠e'∧bh l e'=e))
 | iso (R:List (List Da)) (hA:Cyc l [e,e']) (hl:Fcs l ([e,e']::R)) (hm:Fcs m R) (same:∀ f∈R,Za8 m f=Za8 l f) (n1:bh l e=e') (n2:bh l e'=e)
theorem Zma {l:List Za}{p:Da}(hp:p.2<4) (h:(bh l p).2=(p.2+2)%4):tt l p=-2:=by
 unfold tt tn
 rw [h,if_neg (by omega),if_neg (by omega),if_neg (by omega)]
theorem Del.kind {l m:List Za}(hc:Ck l) {v d w:Nat}(D:Del l m v d w):Zru l m (v,d) (w,(d+2)%4):=by
 have hd:=D.hd
 have ee:=D.ee hc
 have hF:Fcs l ([]++Mu.faces l):=by rw [List.nil_append];exact Fcs.faces hc
 obtain ⟨t,ht⟩:=Znr hc D.e
 by_cases c:(w,(d+2)%4)∈t
 ·obtain ⟨A,B,rfl⟩:=List.append_of_mem c
  obtain ⟨jA,jB,iA,iB⟩:=D.joinB hc ht
  obtain ⟨R,hR,_⟩:=hF.pick ht.cyc (by simp)
  rw [List.nil_append] at hR
  have nd:=List.nodup_cons.1 ht.nd
  have nd2:=List.nodup_append.1 nd.2
  have nd3:=List.nodup_cons.1 nd2.2.1
  by_cases cA:A=[]
  ·have bA:=iA.1 cA
   have tA:tt l (v,d)=-2:=Zma hd (by rw [bA])
   subst cA
   by_cases cB:B=[]
   ·have bB:=iB.1 cB
    subst cB
    obtain ⟨k1,k2⟩:=D.fcs hc (S:=[[(v,d),(w,(d+2)%4)]]) (S':=[]) (R:=R) hR (by simp) (by simp) (by intro p;simp;intro q;rcases q with rfl|rfl<;>simp) (by simp) (by simp)
    exact .iso R ht.cyc hR k1 k2 bA bB
   ·obtain ⟨lB,rB⟩:=jB cB
    obtain ⟨k1,k2⟩:=D.fcs hc (S:=[(v,d)::(w,(d+2)%4)::B]) (S':=[B]) (R:=R) hR (by intro f hf;rw [List.mem_singleton.1 hf];exact lB.cyc) (by simpa using lB.nd) (by
     intro p
     simp
     constructor
     ·intro q
      exact ⟨.inr (.inr q),fun k=>nd.1 (by simp [← k,q]),fun k=>nd3.1 (k ▸ q)⟩
     ·rintro ⟨q|q|q,q2,q3⟩
      ·exact absurd q q2
      ·exact absurd q q3
      ·exact q) (by simp) (by simp)
    refine .leaf B R ht.cyc hR k1 ?_ k2 (.inl ⟨bA,fun q=>cB (iB.2 q)⟩)
    rw [rB,Zb0,Zb0,tA];omega
  ·obtain ⟨lA,rA⟩:=jA cA
   by_cases cB:B=[]
   ·have bB:=iB.1 cB
    have tB:tt l (w,(d+2)%4)=-2:=Zma (show (d+2)%4<4 by omega) (by rw [bB];dsimp only;omega)
    subst cB
    have pe:((v,d)::(A++[(w,(d+2)%4)])).Perm ((v,d)::(w,(d+2)%4)::A):=List.Perm.cons _ List.perm_append_comm
    have C2:=ht.cyc.of_perm pe
    obtain ⟨R2,hR2,_⟩:=hF.pick C2 (by simp)
    rw [List.nil_append] at hR2
    obtain ⟨k1,k2⟩:=D.fcs hc (S:=[(v,d)::(w,(d+2)%4)::A]) (S':=[A]) (R:=R2) hR2 (by intro f hf;rw [List.mem_singleton.1 hf];exact lA.cyc) (by simpa using lA.nd) (by
     intro p
     simp
     constructor
     ·intro q
      exact ⟨.inr (.inr q),fun k=>nd.1 (by simp [← k,q]),fun k=>nd2.2.2 p q _ (by simp) k⟩
     ·rintro ⟨q|q|q,q2,q3⟩
      ·exact absurd q q2
      ·exact absurd q q3
      ·exact q) (by simp) (by simp)
    refine .leaf A R2 C2 hR2 k1 ?_ k2 (.inr ⟨fun q=>cA (iA.2 q),bB⟩)
    rw [rA,Zb0,Zb0,tB];omega
   ·obtain ⟨lB,rB⟩:=jB cB
    have dj:∀ a∈A,∀ b∈B,a≠b:=fun a ha b hb=>nd2.2.2 a ha b (by simp [hb])
    obtain ⟨k1,k2⟩:=D.fcs hc (S:=[(v,d)::(A++(w,(d+2)%4)::B)]) (S':=[A,B]) (R:=R) hR (by
     intro f hf
     simp at hf
     rcases hf with rfl|rfl
     ·exact lA.cyc
     ·exact lB.cyc) (by
     simp [List.nodup_append]
     exact ⟨lA.nd,lB.nd,fun a b ha x y hb q1 q2=>dj (a,b) ha (x,y) hb (Prod.ext q1 q2)⟩) (by
     intro p
     simp
     constructor
     ·rintro (q|q)
      ·exact ⟨.inr (.inl q),fun k=>nd.1 (by simp [← k,q]),fun k=>nd2.2.2 p q _ (by simp) k⟩
      ·exact ⟨.inr (.inr (.inr q)),fun k=>nd.1 (by simp [← k,q]),fun k=>nd3.1 (k ▸ q)⟩
     ·rintro ⟨q|q|q|q,q2,q3⟩
      ·exact absurd q q2
      ·exact .inl q
      ·exact absurd q q3
      ·exact .inr q) (by simp) (by simp)
    refine .one A B R ht hR k1 ?_ k2 (fun q=>cA (iA.2 q)) (fun q=>cB (iB.2 q)) lA lB
    rw [rA,rB,Zb0,Zdk,Zb0];omega
 ·obtain ⟨B,hB⟩:=Znr hc (D.e' hc)
  have dj:∀ x∈(v,d)::t,x ∉ (w,(d+2)%4)::B:=by
   intro x hx hx2
   have:=hB.cyc.sub ht.cyc hx2 hx (w,(d+2)%4) (by simp)
   rcases List.mem_cons.1 this with q|q
   ·exact ee q
   ·exact c q
  obtain ⟨j1,j2⟩:=D.joinA hc ht hB dj
  obtain ⟨R1,hR1,_⟩:=hF.pick ht.cyc (by simp)
  rw [List.nil_append] at hR1
  obtain ⟨R,hR,_⟩:=Fcs.pick (S:=[(v,d)::t]) (F:=R1) hR1 hB.cyc (fun p hp q=>by
   rw [List.flatten_cons,List.flatten_nil,List.append_nil] at q
   exact dj p q hp)
  have ndA:=List.nodup_cons.1 ht.nd
  have ndB:=List.nodup_cons.1 hB.nd
  obtain ⟨k1,k2⟩:=D.fcs hc (S:=[(v,d)::t,(w,(d+2)%4)::B]) (S':=[t++B]) (R:=R) hR (by intro f hf;rw [List.mem_singleton.1 hf];exact j1.cyc) (by simpa using j1.nd) (by
   intro p
   simp
   constructor
   ·rintro (q|q)
    ·exact ⟨.inr (.inl q),fun k=>ndA.1 (k ▸ q),fun k=>c (k ▸ q)⟩
    ·exact ⟨.inr (.inr (.inr q)),fun k=>dj p (by simp [k]) (by simp [q]),fun k=>ndB.1 (k ▸ q)⟩
   ·rintro ⟨q|q|q|q,q2,q3⟩
    ·exact absurd q q2
    ·exact .inl q
    ·exact absurd q q3
    ·exact .inr q) (by simp) (by simp)
  refine .two t B R ht hB hR k1 j2 k2 ?_ ?_ j1
  ·intro q
   have:=ht.cyc.cl (v,d) (by simp)
   rw [q] at this
   exact dj _ this (by simp)
  ·intro q
   have:=hB.cyc.cl (w,(d+2)%4) (by simp)
   rw [q] at this
   exact dj (v,d) (by simp) this
end Mu
/- Euler: cells that hang together,and those of which some edges are left. -/
namespace Mu
def cV (l:List Za):Int:=sg (fun w=>if deg l w=0 then 0 else 1) l.length
def cD (l:List Za):Int:=sg (deg l) l.length
def chi (l:List Za):Int:=2*cV l+2*((faces l).length:Int)-cD l
theorem Zed {l:List Za}{u:Nat}:deg l u=(if 0≤nx l u 0 then 1 else 0)+(if 0≤nx l u 1 then 1 else 0)+(if 0≤nx l u 2 then 1 else 0)+(if 0≤nx l u 3 then 1 else 0):=by
 unfold deg;rw [Zo9]
theorem ZjB {l:List Za}{p:Da}(h:isD l p):1≤deg l p.1:=by
 have h1:=h.2.1
 have h2:=h.2.2
 rw [Zed]
 have:p.2=0∨p.2=1∨p.2=2∨p.2=3:=by omega
 rcases this with q|q|q|q<;>rw [q] at h2<;>rw [if_pos h2]<;>repeat' split<;>omega
theorem Zp3 {l:List Za}{u:Nat}(h:deg l u≠0):∃ d,d<4∧0≤nx l u d:=by
 refine Classical.byContradiction fun q=>h ?_
 have k:∀ d,d<4→¬ 0≤nx l u d:=fun d hd c=>q ⟨d,hd,c⟩
 rw [Zed,if_neg (k 0 (by omega)),if_neg (k 1 (by omega)),if_neg (k 2 (by omega)),if_neg (k 3 (by omega))]
 rfl
theorem ZeO {l:List Za}(hc:Ck l) {p:Da}(h:isD l p):bh l p=opp l p↔deg l (opp l p).1=1:=by
 have f:=h.fwd hc
 have h4:=h.2.1
 unfold bh opp
 dsimp only
 generalize (nx l p.1 p.2).toNat=u at *
 have hb:0≤nx l u ((p.2+2)%4):=by rw [f.2];omega
 rw [Zed]
 have:p.2=0∨p.2=1∨p.2=2∨p.2=3:=by omega
 rcases this with q|q|q|q<;>rw [q] at hb ⊢ <;> simp only [show (0+2)%4=2 from rfl,show (1+2)%4=3 from rfl,show (2+2)%4=0 from rfl,show (3+2)%4=1 from rfl,show (0+1)%4=1 from rfl,show (1+1)%4=2 from rfl,show (2+1)%4=3 from rfl,show (3+1)%4=0 from rfl,show (0+3)%4=3 from rfl,show (1+3)%4=0 from rfl,show (2+3)%4=1 from rfl,show (3+3)%4=2 from rfl] at hb ⊢ <;>
 by_cases c0:0≤nx l u 0<;>by_cases c1:0≤nx l u 1<;>by_cases c2:0≤nx l u 2<;>by_cases c3:0≤nx l u 3<;>first|(exact absurd hb (by assumption))|(simp [c0,c1,c2,c3])
theorem Del.deg {l m:List Za}(hc:Ck l) {v d w:Nat}(D:Del l m v d w) {u:Nat}(hu:u<l.length):deg m u=Mu.deg l u-(if u=v then 1 else 0)-(if u=w then 1 else 0):=by
 have hd:=D.hd
 have hne:=D.ne hc
 have e:∀ e,e<4→(if 0≤Mu.nx m u e then (1:Int) else 0)=(if 0≤Mu.nx l u e then 1 else 0)-(if u=v∧e=d then 1 else 0)-(if u=w∧e=(d+2)%4 then 1 else 0):=by
  intro e he
  have q:=D.nx u e hu he
  by_cases c1:u=v∧e=d
  ·rw [if_pos (.inl c1)] at q
   have n2:¬ (u=w∧e=(d+2)%4):=fun k=>hne (k.1.symm.trans c1.1)
   have q2:Mu.nx l u e=w:=by rw [c1.1,c1.2,D.hn]
   rw [q,q2,if_pos c1,if_neg n2,if_neg (by omega),if_pos (by omega)];rfl
  ·by_cases c2:u=w∧e=(d+2)%4
   ·rw [if_pos (.inr c2)] at q
    have q2:Mu.nx l u e=v:=by rw [c2.1,c2.2,D.hb hc]
    rw [q,q2,if_neg c1,if_pos c2,if_neg (by omega),if_pos (by omega)];rfl
   ·rw [if_neg (by rintro (q|q);exact c1 q;exact c2 q)] at q
    rw [q,if_neg c1,if_neg c2];omega
 rw [Zed,Zed,e 0 (by omega),e 1 (by omega),e 2 (by omega),e 3 (by omega)]
 have s1:(if u=v∧0=d then (1:Int) else 0)+(if u=v∧1=d then 1 else 0)+(if u=v∧2=d then 1 else 0)+(if u=v∧3=d then 1 else 0)=if u=v then 1 else 0:=by
  by_cases c:u=v
  ·simp only [c,true_and]
   have:d=0∨d=1∨d=2∨d=3:=by omega
   rcases this with rfl|rfl|rfl|rfl<;>rfl
  ·simp [c]
 have s2:(if u=w∧0=(d+2)%4 then (1:Int) else 0)+(if u=w∧1=(d+2)%4 then 1 else 0)+(if u=w∧2=(d+2)%4 then 1 else 0)+(if u=w∧3=(d+2)%4 then 1 else 0)=if u=w then 1 else 0:=by
  by_cases c:u=w
  ·simp only [c,true_and]
   have:d=0∨d=1∨d=2∨d=3:=by omega
   rcases this with rfl|rfl|rfl|rfl<;>rfl
  ·simp [c]
 omega
theorem Zki {n v:Nat}(hv:v<n) {c:Int}:sg (fun u=>if u=v then c else 0) n=c:=by
 rw [Zkj hv fun i _ hne=>if_neg hne,if_pos rfl]
theorem Del.cD {l m:List Za}(hc:Ck l) {v d w:Nat}(D:Del l m v d w):cD l=cD m+2:=by
 unfold Mu.cD
 rw [D.len,ZcK (f:=Mu.deg m) (fun u hu=>D.deg hc hu),Zkk,Zkk,Zki D.hv,Zki D.hw]
 omega
theorem Del.cV {l m:List Za}(hc:Ck l) {v d w:Nat}(D:Del l m v d w):cV l=cV m+(if Mu.deg l v=1 then 1 else 0)+(if Mu.deg l w=1 then 1 else 0):=by
 have hne:=D.ne hc
 have pv:=ZjB D.e
 have pw:=ZjB (D.e' hc)
 dsimp only at pv pw
 have e:∀ u,u<l.length→(if Mu.deg l u=0 then (0:Int) else 1)=(if Mu.deg m u=0 then 0 else 1)+(if u=v then (if Mu.deg l v=1 then 1 else 0) else 0)+(if u=w then (if Mu.deg l w=1 then 1 else 0) else 0):=by
  intro u hu
  rw [D.deg hc hu]
  by_cases c1:u=v
  ·subst c1
   have n:¬ u=w:=fun q=>hne q.symm
   simp only [n,if_true,if_false]
   (repeat' split)<;>omega
  ·by_cases c2:u=w
   ·subst c2
    simp only [c1,if_true,if_false]
    (repeat' split)<;>omega
   ·simp only [c1,c2,if_false]
    (repeat' split)<;>omega
 unfold Mu.cV
 rw [D.len,ZcK e,Zkh,Zkh,Zki D.hv,Zki D.hw]
theorem Del.chi {l m:List Za}(hc:Ck l) (hm:Ck m) {v d w:Nat}(D:Del l m v d w):(chi l=chi m∨Mu.chi l=Mu.chi m-4)∨(Mu.chi l=Mu.chi m+4∧Mu.bh l (v,d)=(w,(d+2)%4)∧Mu.bh l (w,(d+2)%4)=(v,d)):=by
 have a1:=D.cD hc
 have a2:=D.cV hc
 have b1:=ZeO hc D.e
 have b2:=ZeO hc (D.e' hc)
 rw [D.opp] at b1
 rw [← D.opp,Ze7 hc D.e,D.opp] at b2
 dsimp only at b1 b2
 unfold Mu.chi
 cases D.kind hc with
 | two A B R hA hB hl hm' rot same n1 n2 lm =>
  have f1:=hl.len (Fcs.faces hc)
  have f2:=hm'.len (Fcs.faces hm)
  simp only [List.length_cons] at f1 f2
  rw [if_neg fun q=>n2 (b2.2 q),if_neg fun q=>n1 (b1.2 q)] at a2
  left;left;omega
 | one A B R hA hl hm' rot same n1 n2 lA lB =>
  have f1:=hl.len (Fcs.faces hc)
  have f2:=hm'.len (Fcs.faces hm)
  simp only [List.length_cons] at f1 f2
  rw [if_neg fun q=>n2 (b2.2 q),if_neg fun q=>n1 (b1.2 q)] at a2
  left;right;omega
 | leaf A R hA hl hm' rot same n =>
  have f1:=hl.len (Fcs.faces hc)
  have f2:=hm'.len (Fcs.faces hm)
  simp only [List.length_cons] at f1 f2
  left;left
  rcases n with ⟨n1,n2⟩|⟨n1,n2⟩
  ·rw [if_neg fun q=>n2 (b2.2 q),if_pos (b1.1 n1)] at a2;omega
  ·rw [if_pos (b2.1 n2),if_neg fun q=>n1 (b1.2 q)] at a2;omega
 | iso R hA hl hm' same n1 n2 =>
  have f1:=hl.len (Fcs.faces hc)
  have f2:=hm'.len (Fcs.faces hm)
  simp only [List.length_cons] at f1
  rw [if_pos (b2.1 n2),if_pos (b1.1 n1)] at a2
  right
  exact ⟨by omega,n1,n2⟩

/-! What hangs together. -/
def Cn (l:List Za):Prop:=∀ C:Da→Prop,(∀ x,isD l x→C x→C (bh l x)∧C (opp l x))→∀ p q,isD l p→isD l q→C p→C q
structure Sub (m l:List Za):Prop where
 len:m.length=l.length
 nx:∀ u e,u<l.length→e<4→nx m u e=nx l u e∨nx m u e=-1
theorem Sub.is {m l:List Za}(S:Sub m l) {p:Da}(h:isD m p):isD l p∧Mu.nx m p.1 p.2=Mu.nx l p.1 p.2:=by
 obtain ⟨h1,h2,h3⟩:=h
 rw [S.len] at h1
 rcases S.nx p.1 p.2 h1 h2 with q|q
 ·exact ⟨⟨h1,h2,by rw [← q];exact h3⟩,q⟩
 ·omega
theorem Sub.opp {m l:List Za}(S:Sub m l) {p:Da}(h:isD m p):opp m p=Mu.opp l p:=by unfold Mu.opp;rw [(S.is h).2]
theorem Zny:∀ a b c d:Bool,∀ a' b' c' d':Bool,∀ i:Fin 4,((!a'||a)&&(!b'||b)&&(!c'||c)&&(!d'||d)&&Zdr a' b' c' d' ((i.1+2)%4)&&Zdr a' b' c' d' (prv (Zdr a b c d) i.1))=true→prv (Zdr a' b' c' d') i.1=prv (Zdr a b c d) i.1:=by decide +kernel
theorem Sub.bh {m l:List Za}(hm:Ck m) (hl:Ck l) (S:Sub m l) {p:Da}(h:isD m p) (h2:isD m (bh l p)):bh m p=Mu.bh l p:=by
 have i1:=S.is h
 have f:=h.fwd hm
 rw [ZcM] at h2 ⊢
 rw [ZcM (l:=l)]
 rw [i1.2] at f ⊢
 generalize (Mu.nx l p.1 p.2).toNat=u at *
 have hu:u<l.length:=by rw [← S.len];exact f.1
 have h4:=h.2.1
 have im:∀ e,e<4→decide (0≤Mu.nx m u e)=true→decide (0≤Mu.nx l u e)=true:=by
  intro e he q
  rcases S.nx u e hu he with k|k
  ·rw [← k];exact q
  ·rw [k] at q;simp at q
 generalize hA:(fun e=>decide (0≤Mu.nx l u e))=A at *
 generalize hB:(fun e=>decide (0≤Mu.nx m u e))=B at *
 have eA:∀ e,A e=decide (0≤Mu.nx l u e):=fun e=>by rw [← hA]
 have eB:∀ e,B e=decide (0≤Mu.nx m u e):=fun e=>by rw [← hB]
 have q:=Zny (A 0) (A 1) (A 2) (A 3) (B 0) (B 1) (B 2) (B 3) ⟨p.2,h4⟩
  (by
   have i0:∀ e,e<4→(!B e||A e)=true:=fun e he=>by
    have:=im e he
    rw [← eA,← eB] at this
    cases q:B e
    ·rfl
    ·rw [this q];rfl
   have k1:B ((p.2+2)%4)=true:=by rw [eB,f.2];simp
   have k2:B (prv A p.2)=true:=by rw [eB];have:=h2.2.2;simpa using this
   dsimp only
   rw [i0 0 (by omega),i0 1 (by omega),i0 2 (by omega),i0 3 (by omega),Zfe h4,ZdQ (by omega),ZdQ (Znx h4),k1,k2];rfl)
 dsimp only at q
 rw [Zfe h4,Zfe h4] at q
 rw [q]
theorem Zok {l m:List Za}(hl:Ck l) (hm:Ck m) (S:Sub m l) (Cl:Cn l) (Cm:Cn m) {p0:Da}(h0:isD m p0) {x:Da}(hx:isD l x) (hx':¬ isD m x):∃ m' v d w,Ck m'∧Del m' m v d w∧Sub m' l∧Cn m':=by
 have:∃ y,isD m y∧¬ isD m (bh l y):=by
  refine Classical.byContradiction fun q=>hx' ?_
  refine Cl (fun y=>isD m y) (fun y _ hy=>⟨Classical.byContradiction fun k=>q ⟨y,hy,k⟩,?_⟩) p0 x (S.is h0).1 hx h0
  rw [← S.opp hy];exact hy.opp hm
 obtain ⟨y,hy,hz⟩:=this
 have dz:isD l (bh l y):=(S.is hy).1.bh hl
 rcases hv:bh l y with ⟨v,d⟩
 rw [hv] at hz dz
 obtain ⟨v1,d1,n1⟩:=dz
 dsimp only at v1 d1 n1
 rcases hl.s v d v1 d1 with ⟨a,_⟩|⟨w,w1,w2,w3,w4,w5,w6⟩
 ·omega
 have e1:nx m v d=-1:=by
  rcases S.nx v d v1 d1 with q|q
  ·exact absurd ⟨by rw [S.len];exact v1,d1,by rw [q];exact n1⟩ hz
  ·exact q
 have e2:nx m w ((d+2)%4)=-1:=by
  rcases S.nx w ((d+2)%4) w2 (by omega) with q|q
  ·have:=(hm.back' (v:=w) (d:=(d+2)%4) (w:=v) (by rw [S.len];exact w2) (by omega) (by rw [q,w4])).2
   rw [show ((d+2)%4+2)%4=d by omega,e1] at this
   omega
  ·exact q
 have v1':v<m.length:=by rw [S.len];exact v1
 have w2':w<m.length:=by rw [S.len];exact w2
 have hm':Ck (wth m v d w (ow l v d)):=hm.wth v1' w2' (fun q=>w3 q.symm) d1 e1 e2 w6
 have nw:∀ u e,u<m.length→e<4→nx (wth m v d w (ow l v d)) u e=if u=v∧e=d then (w:Int) else if u=w∧e=(d+2)%4 then (v:Int) else nx m u e:=fun u e hu he=>(ZeU v1' w2' (fun q=>w3 q.symm) d1 hu he).1
 have hlen:(wth m v d w (ow l v d)).length=m.length:=Za5
 generalize wth m v d w (ow l v d)=m' at *
 have D:Del m' m v d w:=by
  refine ⟨hlen.symm,by rw [hlen];exact v1',d1,by rw [hlen];exact w2',by rw [nw v d v1' d1,if_pos ⟨rfl,rfl⟩],fun u e hu he=>?_⟩
  rw [hlen] at hu
  rw [nw u e hu he]
  by_cases c1:u=v∧e=d
  ·rw [if_pos (.inl c1),c1.1,c1.2,e1]
  ·by_cases c2:u=w∧e=(d+2)%4
   ·rw [if_pos (.inr c2),c2.1,c2.2,e2]
   ·rw [if_neg (by rintro (q|q);exact c1 q;exact c2 q),if_neg c1,if_neg c2]
 have S':Sub m' l:=by
  refine ⟨by rw [hlen,S.len],fun u e hu he=>?_⟩
  have hu':u<m.length:=by rw [S.len];exact hu
  rw [nw u e hu' he]
  by_cases c1:u=v∧e=d
  ·rw [if_pos c1,c1.1,c1.2];exact .inl w1.symm
  ·rw [if_neg c1]
   by_cases c2:u=w∧e=(d+2)%4
   ·rw [if_pos c2,c2.1,c2.2];exact .inl w4.symm
   ·rw [if_neg c2];exact S.nx u e hu he
 have Sm:Sub m m':=by
  refine ⟨hlen.symm,fun u e hu he=>?_⟩
  rw [hlen] at hu
  by_cases c1:u=v∧e=d
  ·rw [c1.1,c1.2];exact .inr e1
  ·by_cases c2:u=w∧e=(d+2)%4
   ·rw [c2.1,c2.2];exact .inr e2
   ·rw [nw u e hu he,if_neg c1,if_neg c2];exact .inl rfl
 have by':bh m' y=(v,d):=by
  have iy:=(Sm.is hy).1
  rw [S'.bh hm' hl iy (by rw [hv];exact D.e),hv]
 have oe:opp m' (v,d)=(w,(d+2)%4):=D.opp
 have oe':opp m' (w,(d+2)%4)=(v,d):=by rw [← oe,Ze7 hm' D.e]
 have de:=D.e
 have de':=D.e' hm'
 refine ⟨m',v,d,w,hm',D,S',fun C hC p q hp hq hCp=>?_⟩
 have cl:∀ x,isD m x→C x→C (bh m x)∧C (opp m x):=by
  intro x hx hCx
  have ix:=(Sm.is hx).1
  have c:=hC x ix hCx
  refine ⟨?_,by rw [Sm.opp hx];exact c.2⟩
  rw [(D.bh hm' hx).1]
  split
  ·rename_i k
   rw [k] at c
   have:=(hC _ de c.1).2
   rw [oe] at this
   exact (hC _ de' this).1
  ·split
   ·rename_i k
    rw [k] at c
    have:=(hC _ de' c.1).2
    rw [oe'] at this
    exact (hC _ de this).1
   ·exact c.1
 have some:∃ x,isD m x∧C x:=by
  by_cases c1:isD m p
  ·exact ⟨p,c1,hCp⟩
  ·have pe:p=(v,d)∨p=(w,(d+2)%4):=by
    refine Classical.byContradiction fun k=>c1 (D.isD.2 ⟨hp,fun q=>k (.inl q),fun q=>k (.inr q)⟩)
   have ce':C (w,(d+2)%4):=by
    rcases pe with rfl|rfl
    ·have:=(hC _ de hCp).2;rwa [oe] at this
    ·exact hCp
   refine ⟨bh m' (w,(d+2)%4),D.isD.2 ⟨de'.bh hm',fun k=>?_,D.bh_e' hm'⟩,(hC _ de' ce').1⟩
   rw [← by'] at k
   have:=Zdn hm' de' (Sm.is hy).1 k
   rw [← this] at hy
   exact (D.isD.1 hy).2.2 rfl
 obtain ⟨x1,hx1,cx1⟩:=some
 have all:∀ z,isD m z→C z:=fun z hz=>Cm C cl x1 z hx1 hz cx1
 by_cases c1:isD m q
 ·exact all q c1
 ·have qe:q=(v,d)∨q=(w,(d+2)%4):=by
   refine Classical.byContradiction fun k=>c1 (D.isD.2 ⟨hq,fun q=>k (.inl q),fun q=>k (.inr q)⟩)
  have ce:=(hC y (Sm.is hy).1 (all y hy)).1
  rw [by'] at ce
  rcases qe with rfl|rfl
  ·exact ce
  ·have:=(hC _ de ce).2;rwa [oe] at this
end Mu
/- Cells of which some edges are left,that hang together,can be drawn if all could. -/
namespace Mu
theorem Cyc.same {l m:List Za}(h1:∀ p,isD m p↔isD l p) (h2:∀ p,isD l p→bh m p=bh l p) {f:List Da}(h:Cyc l f):Cyc m f∧Za8 m f=Za8 l f:=by
 refine ⟨⟨h.ne,h.nd,fun p hp=>(h1 p).2 (h.is p hp),fun p hp=>by rw [h2 p (h.is p hp)];exact h.cl p hp,fun C hC p hp q hq hCp=>h.one C (fun x hx hCx=>by rw [← h2 x hx];exact hC x ((h1 x).2 hx) hCx) p hp q hq hCp⟩,?_⟩
 unfold Za8 tns
 congr 1
 exact List.map_congr_left fun p hp=>by rw [h2 p (h.is p hp)]
theorem Sub.all {m l:List Za}(hm:Ck m) (hl:Ck l) (S:Sub m l) (h:∀ p,isD l p→isD m p):(∀ p,isD m p↔isD l p)∧(∀ p,isD l p→Mu.bh m p=Mu.bh l p)∧∀ u e,u<l.length→e<4→(0≤Mu.nx m u e↔0≤Mu.nx l u e):=by
 refine ⟨fun p=>⟨fun q=>(S.is q).1,h p⟩,fun p hp=>S.bh hm hl (h p hp) (h _ (hp.bh hl)),fun u e hu he=>⟨fun q=>?_,fun q=>?_⟩⟩
 ·exact (S.is (p:=(u,e)) ⟨by rw [S.len];exact hu,he,q⟩).1.2.2
 ·exact (h (u,e) ⟨hu,he,q⟩).2.2
theorem Sub.chi_all {m l:List Za}(hm:Ck m) (hl:Ck l) (S:Sub m l) (h:∀ p,isD l p→isD m p):chi l=chi m:=by
 obtain ⟨a,b,c⟩:=S.all hm hl h
 have hd:∀ u,u<l.length→deg m u=deg l u:=by
  intro u hu
  rw [Zed,Zed]
  simp only [c u 0 hu (by omega),c u 1 hu (by omega),c u 2 hu (by omega),c u 3 hu (by omega)]
 have hf:Fcs m (faces l):=⟨fun f hf=>((Zc9 hl f hf).same a b).1,(Fcs.faces hl).nd,fun p hp=>(Fcs.faces hl).al p ((a p).1 hp)⟩
 unfold chi cV cD
 rw [S.len,hf.len (Fcs.faces hm),ZcK (f:=deg m) hd,ZcK (f:=fun w=>if deg m w=0 then (0:Int) else 1) (g:=fun w=>if deg l w=0 then (0:Int) else 1) fun u hu=>by rw [hd u hu]]
theorem Zpe {f g:Nat→Int}:∀ {n:Nat},(∀ i,i<n→f i≤g i)→sg f n≤sg g n
 | 0,_=>by simp [sg]
 | n+1,h=>by
  rw [sg,sg]
  have:=Zpe (n:=n) fun i hi=>h i (by omega)
  have:=h n (by omega)
  omega
theorem Sub.cD_le {m l:List Za}(S:Sub m l):cD m≤cD l:=by
 unfold cD
 rw [S.len]
 refine Zpe fun u hu=>?_
 have k:∀ e,e<4→(if 0≤Mu.nx m u e then (1:Int) else 0)≤if 0≤Mu.nx l u e then 1 else 0:=by
  intro e he
  rcases S.nx u e hu he with q|q
  ·rw [q];omega
  ·rw [q,if_neg (by omega)];split<;>omega
 have:=k 0 (by omega)
 have:=k 1 (by omega)
 have:=k 2 (by omega)
 have:=k 3 (by omega)
 rw [Zed,Zed]
 omega
theorem Zll {l m:List Za}(hc:Ck l) {v d w:Nat}(D:Del l m v d w) (Cl:Cn l) {p:Da}(hp:isD m p) (h1:bh l (v,d)=(w,(d+2)%4)) (h2:bh l (w,(d+2)%4)=(v,d)):False:=by
 have ip:=D.isD.1 hp
 have:=Cl (fun x=>x=(v,d)∨x=(w,(d+2)%4)) (fun x hx hCx=>by
  rcases hCx with rfl|rfl
  ·exact ⟨.inr h1,.inr D.opp⟩
  ·exact ⟨.inl h2,.inl (by rw [← D.opp,Ze7 hc D.e])⟩) (v,d) p D.e ip.1 (.inl rfl)
 rcases this with q|q
 ·exact ip.2.1 q
 ·exact ip.2.2 q
theorem ZmM {l:List Za}(hl:Ck l) (Cl:Cn l):∀ (k:Nat) (m:List Za),Ck m→Sub m l→Cn m→(∃ p,isD m p)→(cD l-cD m).toNat≤k→chi l≤chi m:=by
 intro k
 induction k with
 | zero =>
  intro m hm S Cm ⟨p0,h0⟩ hk
  by_cases c:∀ p,isD l p→isD m p
  ·rw [S.chi_all hm hl c];exact Int.le_refl _
  ·have:∃ p,isD l p∧¬ isD m p:=Classical.byContradiction fun q=>c fun p hp=>Classical.byContradiction fun r=>q ⟨p,hp,r⟩
   obtain ⟨x,hx,hx'⟩:=this
   obtain ⟨m',v,d,w,hm',D,S',C'⟩:=Zok hl hm S Cl Cm h0 hx hx'
   have:=D.cD hm'
   have:=S'.cD_le
   omega
 | succ k ih =>
  intro m hm S Cm ⟨p0,h0⟩ hk
  by_cases c:∀ p,isD l p→isD m p
  ·rw [S.chi_all hm hl c];exact Int.le_refl _
  ·have:∃ p,isD l p∧¬ isD m p:=Classical.byContradiction fun q=>c fun p hp=>Classical.byContradiction fun r=>q ⟨p,hp,r⟩
   obtain ⟨x,hx,hx'⟩:=this
   obtain ⟨m',v,d,w,hm',D,S',C'⟩:=Zok hl hm S Cl Cm h0 hx hx'
   have e1:=D.cD hm'
   have:=ih m' hm' S' C' ⟨p0,(D.isD.1 h0).1⟩ (by omega)
   rcases D.chi hm' hm with (q|q)|⟨_,q1,q2⟩
   ·omega
   ·omega
   ·exact (Zll hm' D C' h0 q1 q2).elim
theorem Zgb {n u e:Nat}(h:u<n) (he:e<4):nx (List.replicate n noC) u e=-1:=by
 have:gi (List.replicate n noC) u=noC:=by rw [ZbY (by simpa using h)];simp
 unfold nx;rw [this]
 exact (ZjY he).1
theorem Zj7 {n:Nat}:chi (List.replicate n noC)=0:=by
 have hd:∀ u,u<n→deg (List.replicate n noC) u=0:=by
  intro u hu
  rw [Zed,Zgb hu (by omega),Zgb hu (by omega),Zgb hu (by omega),Zgb hu (by omega)]
  rfl
 have hf:Fcs (List.replicate n noC) []:=⟨by simp,by simp,fun p hp=>by
  have h1:=hp.1
  have h2:=hp.2.2
  rw [Zgb (by simpa using h1) hp.2.1] at h2
  omega⟩
 unfold chi cV cD
 rw [← hf.len (Fcs.faces (Ck.new n)),ZgP (f:=deg (List.replicate n noC)) (fun u hu=>hd u (by simpa using hu)),ZgP fun u hu=>by rw [if_pos (hd u (by simpa using hu))]]
 rfl
theorem Zoa {m:List Za}(hm:Ck m) (Cm:Cn m) {p:Da}(hp:isD m p):chi m≤4:=by
 obtain ⟨v,d⟩:=p
 obtain ⟨v1,d1,n1⟩:=hp
 dsimp only at v1 d1 n1
 rcases hm.s v d v1 d1 with ⟨a,_⟩|⟨w,w1,w2,w3,w4,w5,w6⟩
 ·omega
 have v1':v<(List.replicate m.length noC).length:=by simpa using v1
 have w2':w<(List.replicate m.length noC).length:=by simpa using w2
 have hs:Ck (wth (List.replicate m.length noC) v d w (ow m v d)):=(Ck.new _).wth v1' w2' (fun q=>w3 q.symm) d1 (Zgb v1 d1) (Zgb w2 (by omega)) w6
 have nw:∀ u e,u<m.length→e<4→nx (wth (List.replicate m.length noC) v d w (ow m v d)) u e=if u=v∧e=d then (w:Int) else if u=w∧e=(d+2)%4 then (v:Int) else -1:=fun u e hu he=>by
  rw [(ZeU v1' w2' (fun q=>w3 q.symm) d1 (by simpa using hu) he).1,Zgb hu he]
 have hlen:(wth (List.replicate m.length noC) v d w (ow m v d)).length=m.length:=by rw [Za5];simp
 generalize wth (List.replicate m.length noC) v d w (ow m v d)=s at *
 have D:Del s (List.replicate m.length noC) v d w:=by
  refine ⟨by rw [hlen];simp,by rw [hlen];exact v1,d1,by rw [hlen];exact w2,by rw [nw v d v1 d1,if_pos ⟨rfl,rfl⟩],fun u e hu he=>?_⟩
  rw [hlen] at hu
  rw [nw u e hu he,Zgb hu he]
  by_cases c1:u=v∧e=d
  ·rw [if_pos (.inl c1)]
  ·by_cases c2:u=w∧e=(d+2)%4
   ·rw [if_pos (.inr c2)]
   ·rw [if_neg (by rintro (q|q);exact c1 q;exact c2 q),if_neg c1,if_neg c2]
 have S:Sub s m:=by
  refine ⟨hlen,fun u e hu he=>?_⟩
  rw [nw u e hu he]
  by_cases c1:u=v∧e=d
  ·rw [if_pos c1,c1.1,c1.2];exact .inl w1.symm
  ·rw [if_neg c1]
   by_cases c2:u=w∧e=(d+2)%4
   ·rw [if_pos c2,c2.1,c2.2];exact .inl w4.symm
   ·rw [if_neg c2];exact .inr rfl
 have only:∀ x,isD s x→x=(v,d)∨x=(w,(d+2)%4):=by
  intro x hx
  have h1:=hx.1
  rw [hlen] at h1
  have h3:=hx.2.2
  rw [nw _ _ h1 hx.2.1] at h3
  by_cases c1:x.1=v∧x.2=d
  ·exact .inl (Prod.ext c1.1 c1.2)
  ·rw [if_neg c1] at h3
   by_cases c2:x.1=w∧x.2=(d+2)%4
   ·exact .inr (Prod.ext c2.1 c2.2)
   ·rw [if_neg c2] at h3;omega
 have oe:opp s (v,d)=(w,(d+2)%4):=D.opp
 have oe':opp s (w,(d+2)%4)=(v,d):=by rw [← oe,Ze7 hs D.e]
 have Cs:Cn s:=by
  intro C hC p q hp hq hCp
  have both:C (v,d)∧C (w,(d+2)%4):=by
   rcases only p hp with rfl|rfl
   ·have:=(hC _ D.e hCp).2;rw [oe] at this;exact ⟨hCp,this⟩
   ·have:=(hC _ (D.e' hs) hCp).2;rw [oe'] at this;exact ⟨this,hCp⟩
  rcases only q hq with rfl|rfl
  ·exact both.1
  ·exact both.2
 have b1:bh s (v,d)=(w,(d+2)%4):=by
  rcases only _ (D.e.bh hs) with q|q
  ·exact absurd q (D.bh_e hs)
  ·exact q
 have b2:bh s (w,(d+2)%4)=(v,d):=by
  rcases only _ ((D.e' hs).bh hs) with q|q
  ·exact q
  ·exact absurd q (D.bh_e' hs)
 have:=ZmM hm Cm _ s hs S Cs ⟨_,D.e⟩ (Nat.le_refl _)
 rcases D.chi hs (Ck.new _) with (q|q)|⟨q,_⟩
 ·rw [Zj7] at q;omega
 ·rw [Zj7] at q;omega
 ·rw [Zj7] at q;omega

/-! Rotations and Euler's number. -/
theorem Zmv {l:List Za}(hc:Ck l):((Zdq l).map (tt l)).sum=2*cD l-4*cV l:=by
 have:(Zdq l).map (tt l)=(Zdq l).map fun p=>tn p.2 (bh l p).2:=rfl
 rw [this,Zmt]
 have e1:sg (fun v=>sg (fun d=>if 0≤nx l v d then tn d (bh l (v,d)).2 else 0) 4) l.length=sg (fun d=>sg (fun v=>if 0≤nx l v d then tn d (bh l (v,d)).2 else 0) l.length) 4:=Zib
 have e2:sg (fun d=>sg (fun v=>if 0≤nx l v d then tn d (bh l (v,d)).2 else 0) l.length) 4=sg (fun d=>sg (fun w=>if 0≤nx l w ((d+2)%4) then arr l w d else 0) l.length) 4:=by
  refine ZcK fun d hd=>?_
  refine Zn4 hc hd (fun v hv c=>if_neg (by omega)) (fun v hv c=>if_neg (by omega)) (fun v w hv hw e=>?_)
  have b:=(hc.back' hv hd e)
  rw [if_pos (by omega),if_pos (by omega)]
  have:=Zpg (l:=l) (p:=(v,d)) hd
  dsimp only at this
  rw [this,e,itn]
 have e3:sg (fun d=>sg (fun w=>if 0≤nx l w ((d+2)%4) then arr l w d else 0) l.length) 4=sg (fun w=>2*deg l w-4*(if deg l w=0 then 0 else 1)) l.length:=by
  rw [Zib]
  refine ZcK fun w hw'=>?_
  by_cases c:deg l w=0
  ·rw [if_pos c,c]
   have k:∀ d,d<4→¬ 0≤nx l w d:=by
    intro d hd q
    have:=ZjB (l:=l) (p:=(w,d)) ⟨hw',hd,q⟩
    dsimp only at this
    omega
   rw [Zo9,if_neg (k _ (by omega)),if_neg (k _ (by omega)),if_neg (k _ (by omega)),if_neg (k _ (by omega))]
   rfl
  ·rw [if_neg c,ZkU (Zp3 c)];rfl
 show sg (fun v=>sg (fun d=>if 0≤nx l v d then tn d (bh l (v,d)).2 else 0) 4) l.length=_
 rw [e1,e2,e3,Zkk,Zlx,Zlx]
 rfl
theorem Fcs.sum {l:List Za}(hc:Ck l) {F:List (List Da)}(h:Fcs l F):(F.map (Za8 l)).sum=2*cD l-4*cV l:=by
 have pe:F.flatten.Perm (Zdq l):=(List.perm_ext_iff_of_nodup h.nd ZfL).2 fun p=>by
  rw [Zc3]
  refine ⟨fun q=>?_,h.al p⟩
  obtain ⟨f,hf,hp⟩:=List.mem_flatten.1 q
  exact (h.cy f hf).is p hp
 rw [← Zmv hc,← ZfP pe,Zh2]
 rfl
theorem Zlp:∀ {R:List Int},(∀ r∈R,r=4∨r=-4)→R.sum≤4*R.length∧(R.sum=4*R.length→∀ r∈R,r=4)
 | [],_=>⟨by simp,fun _ r hr=>by simp at hr⟩
 | a::R,h=>by
  obtain ⟨i1,i2⟩:=Zlp (R:=R) fun r hr=>h r (List.mem_cons_of_mem _ hr)
  have ha:=h a (by simp)
  rw [List.sum_cons,List.length_cons]
  refine ⟨by omega,fun e r hr=>?_⟩
  rcases List.mem_cons.1 hr with rfl|hr
  ·omega
  ·exact i2 (by omega) r hr
theorem Znt:∀ {R:List Int},(∀ r∈R,r=4∨r=-4)→R.sum=4*R.length-8→∃ i,i<R.length∧gi R i=-4∧∀ j,j<R.length→gi R j=-4→j=i
 | [],_,h=>by simp at h
 | a::R,h,hs=>by
  have hR:=fun r hr=>h r (List.mem_cons_of_mem a hr)
  have ha:=h a (by simp)
  rw [List.sum_cons,List.length_cons] at hs
  rcases ha with rfl|rfl
  ·obtain ⟨i,h1,h2,h3⟩:=Znt hR (by omega)
   refine ⟨i+1,by simp;omega,h2,fun j hj e=>?_⟩
   cases j with
   | zero=>have e':(4:Int)=-4:=e;omega
   | succ j=>rw [h3 j (by simp at hj;omega) e]
  ·have:=(Zlp hR).2 (by omega)
   refine ⟨0,by simp,rfl,fun j hj e=>?_⟩
   cases j with
   | zero=>rfl
   | succ j =>
    have hj':j<R.length:=by simp at hj;omega
    have e':gi R j=-4:=e
    have:=this _ (ZbW hj')
    omega
theorem Zei {l:List Za}(hc:Ck l):Val l↔(∀ f,Cyc l f→Za8 l f=4∨Za8 l f=-4)∧chi l=4:=by
 have sm:=(Fcs.faces hc).sum hc
 constructor
 ·intro h
  obtain ⟨a,ha,h0⟩:=ZgA.2 h
  have ft:=Zk2 ha h0
  have e:(((faces l).flatten.map fun p=>tn p.2 (bh l p).2)).sum=((faces l).map (Za8 l)).sum:=by rw [Zh2];rfl
  rw [e,sm] at ft
  refine ⟨fun f hf=>?_,by unfold chi;omega⟩
  obtain ⟨p,hp⟩:=List.exists_mem_of_ne_nil f hf.ne
  obtain ⟨i,hi,hpi⟩:=ZjD hc (hf.is p hp) (Zin hc)
  rw [Zdt (hf.perm (Zc9 hc _ (ZbW hi)) hp hpi)]
  exact h.1 i hi
 ·rintro ⟨h,hchi⟩
  have pm:∀ r∈(faces l).map (Za8 l),r=4∨r=-4:=by
   intro r hr
   obtain ⟨f,hf,rfl⟩:=List.mem_map.1 hr
   exact h f (Zc9 hc f hf)
  unfold chi at hchi
  obtain ⟨i,h1,h2,h3⟩:=Znt pm (by rw [sm,List.length_map];omega)
  rw [List.length_map] at h1 h3
  refine ⟨fun j hj=>h _ (Zc9 hc _ (ZbW hj)),⟨i,h1,by rw [← Zcf (f:=Za8 l) h1];exact h2⟩,fun j k hj hk e1 e2=>?_⟩
  rw [h3 j hj (by rw [Zcf hj];exact e1),h3 k hk (by rw [Zcf hk];exact e2)]
theorem Zo2 {l:List Za}(hc:Ck l) {f g:List Da}{R:List (List Da)}(h:Fcs l (f::g::R)) (hp:∀ f,Cyc l f→Za8 l f=4∨Za8 l f=-4) (hchi:chi l=4) (h1:Za8 l f=-4) (h2:Za8 l g=-4):False:=by
 have sm:=h.sum hc
 have ln:=h.len (Fcs.faces hc)
 have:=(Zlp (R:=R.map (Za8 l)) fun r hr=>by
  obtain ⟨x,hx,rfl⟩:=List.mem_map.1 hr
  exact hp x (h.cy x (by simp [hx]))).1
 unfold chi at hchi
 simp only [List.map_cons,List.sum_cons,List.length_cons,List.length_map] at sm ln this
 omega
theorem Del.val {l m:List Za}(hc:Ck l) (hm:Ck m) {v d w:Nat}(D:Del l m v d w) (Cl:Cn l) (Cm:Cn m) {p:Da}(hp:Mu.isD m p) (h:Val l):Val m:=by
 obtain ⟨h1,h2⟩:=(Zei hc).1 h
 have t:=Zoa hm Cm hp
 have key:∀ F,Fcs m F→(∀ f∈F,Za8 m f=4∨Za8 m f=-4)→∀ f,Cyc m f→Za8 m f=4∨Za8 m f=-4:=by
  intro F hF hr f hf
  obtain ⟨x,hx⟩:=List.exists_mem_of_ne_nil f hf.ne
  obtain ⟨g,hg,hxg⟩:=List.mem_flatten.1 (hF.al x (hf.is x hx))
  rw [Zdt (hf.perm (hF.cy g hg) hx hxg)]
  exact hr g hg
 have X:Mu.chi m=4:=by
  rcases D.chi hc hm with (q|q)|⟨_,q1,q2⟩
  ·omega
  ·omega
  ·exact (Zll hc D Cl hp q1 q2).elim
 refine (Zei hm).2 ⟨?_,X⟩
 have a1:=D.cD hc
 have a2:=D.cV hc
 cases D.kind hc with
 | two A B R hA hB hl hm' rot same n1 n2 lm =>
  refine key _ hm' fun f hf=>?_
  rcases List.mem_cons.1 hf with rfl|hf
  ·rw [rot]
   rcases h1 _ hA.cyc with x|x<;>rcases h1 _ hB.cyc with y|y
   ·left;omega
   ·right;omega
   ·right;omega
   ·exact (Zo2 hc hl h1 h2 x y).elim
  ·rw [same f hf];exact h1 f (hl.cy f (by simp [hf]))
 | one A B R hA hl hm' rot same n1 n2 lA lB =>
  have f1:=hl.len (Fcs.faces hc)
  have f2:=hm'.len (Fcs.faces hm)
  simp only [List.length_cons] at f1 f2
  have b1:=ZeO hc D.e
  have b2:=ZeO hc (D.e' hc)
  rw [D.opp] at b1
  rw [← D.opp,Ze7 hc D.e,D.opp] at b2
  dsimp only at b1 b2
  rw [if_neg fun q=>n2 (b2.2 q),if_neg fun q=>n1 (b1.2 q)] at a2
  unfold Mu.chi at h2 X
  omega
 | leaf A R hA hl hm' rot same n =>
  refine key _ hm' fun f hf=>?_
  rcases List.mem_cons.1 hf with rfl|hf
  ·rw [rot];exact h1 _ hA
  ·rw [same f hf];exact h1 f (hl.cy f (by simp [hf]))
 | iso R hA hl hm' same n1 n2=>exact (Zll hc D Cl hp n1 n2).elim
theorem Sub.val {l:List Za}(hl:Ck l) (Cl:Cn l) (h:Val l):∀ (k:Nat) (m:List Za),Ck m→Sub m l→Cn m→(∃ p,isD m p)→(cD l-cD m).toNat≤k→Val m:=by
 intro k
 induction k with
 | zero =>
  intro m hm S Cm ⟨p0,h0⟩ hk
  by_cases c:∀ p,isD l p→isD m p
  ·obtain ⟨a,b,_⟩:=S.all hm hl c
   obtain ⟨h1,h2⟩:=(Zei hl).1 h
   refine (Zei hm).2 ⟨fun f hf=>?_,by rw [← S.chi_all hm hl c];exact h2⟩
   obtain ⟨k1,k2⟩:=hf.same (l:=m) (m:=l) (fun p=>(a p).symm) fun p hp=>(b p ((a p).1 hp)).symm
   rw [← k2];exact h1 f k1
  ·have:∃ p,isD l p∧¬ isD m p:=Classical.byContradiction fun q=>c fun p hp=>Classical.byContradiction fun r=>q ⟨p,hp,r⟩
   obtain ⟨x,hx,hx'⟩:=this
   obtain ⟨m',v,d,w,hm',D,S',C'⟩:=Zok hl hm S Cl Cm h0 hx hx'
   have:=D.cD hm'
   have:=S'.cD_le
   omega
 | succ k ih =>
  intro m hm S Cm ⟨p0,h0⟩ hk
  by_cases c:∀ p,isD l p→isD m p
  ·obtain ⟨a,b,_⟩:=S.all hm hl c
   obtain ⟨h1,h2⟩:=(Zei hl).1 h
   refine (Zei hm).2 ⟨fun f hf=>?_,by rw [← S.chi_all hm hl c];exact h2⟩
   obtain ⟨k1,k2⟩:=hf.same (l:=m) (m:=l) (fun p=>(a p).symm) fun p hp=>(b p ((a p).1 hp)).symm
   rw [← k2];exact h1 f k1
  ·have:∃ p,isD l p∧¬ isD m p:=Classical.byContradiction fun q=>c fun p hp=>Classical.byContradiction fun r=>q ⟨p,hp,r⟩
   obtain ⟨x,hx,hx'⟩:=this
   obtain ⟨m',v,d,w,hm',D,S',C'⟩:=Zok hl hm S Cl Cm h0 hx hx'
   have e1:=D.cD hm'
   exact D.val hm' hm C' Cm h0 (ih m' hm' S' C' ⟨p0,(D.isD.1 h0).1⟩ (by omega))
end Mu
/- An edge more,from corner to corner of one loop. -/
namespace Mu
theorem ZiK {l:List Za}(h0:0<l.length) (h:∀ w,w<l.length→∃ n,Rch l 0 n w):whole l:=by
 have e1:PS l 1=([ZdB l 0 l.length],Zey l 0 (List.replicate l.length false) l.length):=by
  have g:gi (PS l 0).2 0=false:=by
   show gi (List.replicate l.length false) 0=false
   rw [ZbY (by simp;omega)];simp
  rw [PS,if_neg (by rw [g];decide)]
  rfl
 have key:∀ n,n+1≤l.length→PS l (n+1)=PS l 1:=by
  intro n
  induction n with
  | zero=>intro _;rfl
  | succ n ih =>
   intro hn
   have i:=ih (by omega)
   rw [PS,if_pos]
   ·exact i
   ·rw [i,e1]
    dsimp only
    rw [Zfr (by omega),if_pos (by omega),ZgC.2 (h (n+1) (by omega)),Bool.or_true]
 have k:=key (l.length-1) (by omega)
 rw [show l.length-1+1=l.length by omega] at k
 unfold whole
 rw [k,e1]
 rfl
theorem Rch.mono {l m:List Za}(h:∀ a b,a<l.length→Adj l a b→Adj m a b) (hc:Ck l) {v n w:Nat}(hv:v<l.length) (hr:Rch l v n w):Rch m v n w:=by
 induction hr with
 | zero=>exact .zero
 | succ hr hab ih=>exact .succ ih (h _ _ (hr.lt hc hv) hab)
theorem Del.of_wth {l:List Za}(hc:Ck l) {v d w:Nat}{o:Int}(hv:v<l.length) (hw:w<l.length) (hvw:v≠w) (hd:d<4) (h1:Mu.nx l v d=-1) (h2:Mu.nx l w ((d+2)%4)=-1):Del (wth l v d w o) l v d w:=by
 have nw:=fun u e (hu:u<l.length) (he:e<4)=>(ZeU (o:=o) hv hw hvw hd hu he).1
 have hlen:(wth l v d w o).length=l.length:=Za5
 refine ⟨hlen.symm,by rw [hlen];exact hv,hd,by rw [hlen];exact hw,by rw [nw v d hv hd,if_pos ⟨rfl,rfl⟩],fun u e hu he=>?_⟩
 rw [hlen] at hu
 rw [nw u e hu he]
 by_cases c1:u=v∧e=d
 ·rw [if_pos (.inl c1),c1.1,c1.2,h1]
 ·by_cases c2:u=w∧e=(d+2)%4
  ·rw [if_pos (.inr c2),c2.1,c2.2,h2]
  ·rw [if_neg (by rintro (q|q);exact c1 q;exact c2 q),if_neg c1,if_neg c2]
theorem Del.whole {l m:List Za}(hc:Ck l) (hm:Ck m) {v d w:Nat}(D:Del l m v d w) (h:whole m):Mu.whole l:=by
 have h0:=ZfT h
 have len:=D.len
 refine ZiK (by omega) fun u hu=>?_
 obtain ⟨n,r⟩:=ZgQ h (w:=u) (by omega)
 refine ⟨n,r.mono (fun a b ha hab=>?_) hm (by omega)⟩
 obtain ⟨e,he,q⟩:=hab
 have:=D.nx a e (by omega) he
 rw [q] at this
 refine ⟨e,he,?_⟩
 split at this
 ·omega
 ·exact this.symm
theorem Znu:∀ a b c d:Bool,∀ i j:Fin 4,(!(Zdr a b c d j.1)&&Zdr a b c d ((i.1+2)%4)&&decide (tn i.1 (prv (Zdr a b c d) i.1)<tn i.1 j.1))=true→prv (fun e=>Zdr a b c d e||(e == j.1)) i.1=j.1:=by decide +kernel
theorem Del.enter {l m:List Za}(hc:Ck l) (hm:Ck m) {v d w:Nat}(D:Del l m v d w) {x:Da}(hx:Mu.isD m x):((Mu.nx m x.1 x.2).toNat=v→tt m x<tn x.2 d→Mu.bh l x=(v,d))∧((Mu.nx m x.1 x.2).toNat=w→tt m x<tn x.2 ((d+2)%4)→Mu.bh l x=(w,(d+2)%4)):=by
 have hd:=D.hd
 have hne:=D.ne hc
 have f:=hx.fwd hm
 have x4:=hx.2.1
 have ex:=D.nx' hx
 have key:∀ {u j:Nat},u<l.length→j<4→(Mu.nx m x.1 x.2).toNat=u→tt m x<tn x.2 j→(∀ e,e<4→(0≤Mu.nx l u e↔(0≤Mu.nx m u e∨e=j)))→¬ 0≤Mu.nx m u j→Mu.bh l x=(u,j):=by
  intro u j hu hj e1 e2 e3 e4
  rw [ZcM,← ex,e1]
  refine Prod.ext rfl ?_
  dsimp only
  rw [e1] at f
  have t0:tn x.2 (prv (fun e=>decide (0≤Mu.nx m u e)) x.2)<tn x.2 j:=by
   have:tt m x=tn x.2 (prv (fun e=>decide (0≤Mu.nx m u e)) x.2):=by unfold tt;rw [ZcM,e1]
   rw [← this];exact e2
  have q:=Znu (decide (0≤Mu.nx m u 0)) (decide (0≤Mu.nx m u 1)) (decide (0≤Mu.nx m u 2)) (decide (0≤Mu.nx m u 3)) ⟨x.2,x4⟩ ⟨j,hj⟩
  have se:∀ e,e<4→Zdr (decide (0≤Mu.nx m u 0)) (decide (0≤Mu.nx m u 1)) (decide (0≤Mu.nx m u 2)) (decide (0≤Mu.nx m u 3)) e=decide (0≤Mu.nx m u e):=fun e he=>ZdQ (A:=fun e=>decide (0≤Mu.nx m u e)) he
  dsimp only at q
  rw [se _ hj,se _ (by omega),Zfe (A:=fun e=>decide (0≤Mu.nx m u e)) x4] at q
  have q:=q (by rw [decide_eq_false e4,f.2];simp [t0])
  refine (Zds (fun e he=>?_) x4).trans q
  rw [se e he]
  rw [Bool.eq_iff_iff]
  simp [e3 e he]
 have nw:=fun u e (hu:u<l.length) (he:e<4)=>D.nx u e hu he
 constructor
 ·intro e1 e2
  have:=nw v d D.hv hd
  rw [if_pos (.inl ⟨rfl,rfl⟩)] at this
  refine key D.hv hd e1 e2 (fun e he=>?_) (by omega)
  have n:=nw v e D.hv he
  by_cases c:e=d
  ·subst c;rw [D.hn];exact ⟨fun _=>.inr rfl,fun _=>by omega⟩
  ·rw [if_neg (by rintro (q|q);exact c q.2;exact hne q.1.symm)] at n
   rw [n]
   exact ⟨fun q=>.inl q,fun q=>q.resolve_right c⟩
 ·intro e1 e2
  have:=nw w ((d+2)%4) D.hw (by omega)
  rw [if_pos (.inr ⟨rfl,rfl⟩)] at this
  refine key D.hw (by omega) e1 e2 (fun e he=>?_) (by omega)
  have n:=nw w e D.hw he
  by_cases c:e=(d+2)%4
  ·subst c;rw [D.hb hc];exact ⟨fun _=>.inr rfl,fun _=>by omega⟩
  ·rw [if_neg (by rintro (q|q);exact hne q.1;exact c q.2)] at n
   rw [n]
   exact ⟨fun q=>.inl q,fun q=>q.resolve_right c⟩
theorem Del.back {l m:List Za}(hc:Ck l) {v d w:Nat}(D:Del l m v d w):∀ {s:List Da}{p q:Da},Pt m p s q→(∀ a∈s,Mu.bh l a≠(v,d)∧Mu.bh l a≠(w,(d+2)%4))→Pt l p s q∧Za8 l s=Za8 m s
 | [],p,q,h,_=>⟨h,rfl⟩
 | a::s,p,q,h,hs=>by
  rw [Pt] at h
  obtain ⟨rfl,h1,h2⟩:=h
  have k:=hs p (by simp)
  have b:=D.bh hc h1
  rw [if_neg k.1,if_neg k.2,if_neg k.1,if_neg k.2] at b
  rw [b.1] at h2
  obtain ⟨i1,i2⟩:=D.back hc h2 fun a ha=>hs a (List.mem_cons_of_mem _ ha)
  exact ⟨⟨rfl,(D.isD.1 h1).1,i1⟩,by rw [Zb0,Zb0,i2,b.2]⟩
theorem Del.chord {l m:List Za}(hc:Ck l) (hm:Ck m) {v d w:Nat}(D:Del l m v d w) {A B:List Da}{x y:Da}(hL:Lp m (B++[y]++(A++[x]))) (hx:Mu.bh l x=(v,d)) (hy:Mu.bh l y=(w,(d+2)%4)) :
  Lp l ((w,(d+2)%4)::(B++[y]))∧Lp l ((v,d)::(A++[x])) ∧
  Za8 l ((w,(d+2)%4)::(B++[y]))=Za8 m (B++[y])+tt m x-tt m y+2-tn x.2 d+tn y.2 ((d+2)%4) ∧
  Za8 l ((w,(d+2)%4)::(B++[y]))+Za8 l ((v,d)::(A++[x]))=Za8 m (B++[y]++(A++[x]))+4:=by
 have is:=hL.is
 obtain ⟨p,P⟩:=hL.pt
 obtain ⟨r,P1,P2⟩:=Pt.app.1 P
 obtain ⟨y',Q1,Q2⟩:=Pt.app.1 P1
 obtain ⟨x',R1,R2⟩:=Pt.app.1 P2
 rw [Pt,Pt] at Q2 R2
 obtain ⟨rfl,dy,ey⟩:=Q2
 obtain ⟨rfl,dx,ex⟩:=R2
 have nd:=hL.nd
 have ee:=D.ee hc
 have bx:=D.bh hc dx
 have by':=D.bh hc dy
 rw [hx,if_pos rfl,if_pos rfl] at bx
 rw [hy,if_neg ee,if_pos rfl,if_neg ee,if_pos rfl] at by'
 have nd1:=List.nodup_append.1 nd
 have nd2:=List.nodup_append.1 nd1.1
 have nd3:=List.nodup_append.1 nd1.2.1
 have ne1:∀ a∈B,Mu.bh l a≠(v,d)∧Mu.bh l a≠(w,(d+2)%4):=by
  intro a ha
  have da:=(D.isD.1 (is a (by simp [ha]))).1
  refine ⟨fun q=>?_,fun q=>?_⟩
  ·rw [← hx] at q
   have:=Zdn hc da (D.isD.1 dx).1 q
   exact nd1.2.2 a (by simp [ha]) x' (by simp) this
  ·rw [← hy] at q
   have:=Zdn hc da (D.isD.1 dy).1 q
   exact nd2.2.2 a ha y' (by simp) this
 have ne2:∀ a∈A,Mu.bh l a≠(v,d)∧Mu.bh l a≠(w,(d+2)%4):=by
  intro a ha
  have da:=(D.isD.1 (is a (by simp [ha]))).1
  refine ⟨fun q=>?_,fun q=>?_⟩
  ·rw [← hx] at q
   have:=Zdn hc da (D.isD.1 dx).1 q
   exact nd3.2.2 a ha x' (by simp) this
  ·rw [← hy] at q
   have:=Zdn hc da (D.isD.1 dy).1 q
   exact nd1.2.2 y' (by simp) a (by simp [ha]) this.symm
 obtain ⟨B1,B2⟩:=D.back hc Q1 ne1
 obtain ⟨A1,A2⟩:=D.back hc R1 ne2
 have e1:Mu.bh l (w,(d+2)%4)=p:=by rw [← bx.1,ex]
 have e2:Mu.bh l (v,d)=r:=by rw [← by'.1,ey]
 have notm:∀ {s:List Da},(∀ a∈s,Mu.isD m a)→(v,d) ∉ s∧(w,(d+2)%4) ∉ s:=fun h=>⟨fun q=>(D.isD.1 (h _ q)).2.1 rfl,fun q=>(D.isD.1 (h _ q)).2.2 rfl⟩
 have iB:∀ a∈B++[y'],Mu.isD m a:=fun a ha=>is a (List.mem_append.2 (.inl ha))
 have iA:∀ a∈A++[x'],Mu.isD m a:=fun a ha=>is a (List.mem_append.2 (.inr ha))
 have t1:tt l x'=tn x'.2 d:=by unfold tt;rw [hx]
 have t2:tt l y'=tn y'.2 ((d+2)%4):=by unfold tt;rw [hy]
 refine ⟨⟨by simp,List.nodup_cons.2 ⟨(notm iB).2,nd1.1⟩,(w,(d+2)%4),rfl,D.e' hc,?_⟩,⟨by simp,List.nodup_cons.2 ⟨(notm iA).1,nd1.2.1⟩,(v,d),rfl,D.e,?_⟩,?_,?_⟩
 ·rw [e1]
  exact Pt.app.2 ⟨y',B1,rfl,(D.isD.1 dy).1,hy⟩
 ·rw [e2]
  exact Pt.app.2 ⟨x',A1,rfl,(D.isD.1 dx).1,hx⟩
 ·rw [Zb0,Zdk,Zdk,Zb0,Zb0,ZdO,ZdO,B2]
  rw [t2]
  have:=bx.2
  rw [t1] at this
  omega
 ·have a1:=bx.2
  have a2:=by'.2
  rw [Zb0,Zb0,Zdk,Zdk,Zdk,Zdk,Zdk]
  simp only [Zb0,ZdO]
  omega
theorem Del.chord_val {l m:List Za}(hc:Ck l) (hm:Ck m) {v d w:Nat}(D:Del l m v d w) {A B:List Da}{x y:Da}(hL:Lp m (B++[y]++(A++[x]))) (hx:Mu.bh l x=(v,d)) (hy:Mu.bh l y=(w,(d+2)%4)) (h4:Za8 m (B++[y])+tt m x-tt m y+2-tn x.2 d+tn y.2 ((d+2)%4)=4) (h:Val m):Val l:=by
 obtain ⟨k1,k2,k3,k4⟩:=D.chord hc hm hL hx hy
 rw [h4] at k3
 obtain ⟨h1,h2⟩:=(Zei hm).1 h
 have r:=h1 _ hL.cyc
 have ee:=D.ee hc
 have iA:∀ a∈A++[x],Mu.isD m a:=fun a ha=>hL.is a (List.mem_append.2 (.inr ha))
 have nA:(w,(d+2)%4) ∉ (v,d)::(A++[x]):=by
  intro q
  rcases List.mem_cons.1 q with q|q
  ·exact ee q
  ·exact (D.isD.1 (iA _ q)).2.2 rfl
 have X:Mu.chi l=4:=by
  have a1:=D.cD hc
  have a2:=D.cV hc
  have b1:=ZeO hc D.e
  have b2:=ZeO hc (D.e' hc)
  rw [D.opp] at b1
  rw [← D.opp,Ze7 hc D.e,D.opp] at b2
  dsimp only at b1 b2
  cases D.kind hc with
  | two A' B' R hA hB hl hm' rot same n1 n2 lm =>
   have f1:=hl.len (Fcs.faces hc)
   have f2:=hm'.len (Fcs.faces hm)
   simp only [List.length_cons] at f1 f2
   rw [if_neg fun q=>n2 (b2.2 q),if_neg fun q=>n1 (b1.2 q)] at a2
   unfold Mu.chi at h2 ⊢
   omega
  | one A' B' R hA hl hm' rot same n1 n2 lA lB=>exact absurd (hA.cyc.sub k2.cyc (p:=(v,d)) (by simp) (by simp) (w,(d+2)%4) (by simp)) nA
  | leaf A' R hA hl hm' rot same n=>exact absurd (hA.sub k2.cyc (p:=(v,d)) (by simp) (by simp) (w,(d+2)%4) (by simp)) nA
  | iso R hA hl hm' same n1 n2=>exact absurd (hA.sub k2.cyc (p:=(v,d)) (by simp) (by simp) (w,(d+2)%4) (by simp)) nA
 refine (Zei hc).2 ⟨fun f hf=>?_,X⟩
 by_cases c1:(v,d)∈f
 ·rw [Zdt (hf.perm k2.cyc c1 (by simp))];omega
 ·by_cases c2:(w,(d+2)%4)∈f
  ·rw [Zdt (hf.perm k1.cyc c2 (by simp))];omega
  ·obtain ⟨q1,q2⟩:=D.keep hc hf c1 c2
   rw [← q2];exact h1 f q1
end Mu
/- Layer 20: FrontFirst. -/
namespace Mu
def Zk6 (t:List Int):Option Nat:=(List.range t.length).find? fun k=>decide (gi t k<0)
theorem Zml {t:List Int}(ht:t.length≤1000000):zE t (fun y0=>Zc5 y0)=some (match Zk6 t with|some k=>(k:Int)|none=>-1):=by
 have h:ZJ (zE.s0 t (fun y0=>Zc5 y0)) big 0=some (match (List.range t.length).find? (fun k=>decide (gi t k<0)) with|some i=>.inr (i:Int)|none=>.inl ()):=by
  refine ZcN (n:=t.length) (P:=fun k=>decide (gi t k<0)) (f:=fun i=>(i:Int)) (Zbg (by omega)) (fun i hi=>?_) ?_
  ·simp only [zE.s0,Zc5]
   rw [Z7 (by omega),Zr (by omega),itn,obs,zh (by omega)]
   cases decide (gi t i<0)<;>rfl
  ·simp only [zE.s0]
   rw [Z8 (by omega)]
 unfold zE Zk6
 rw [h,obs]
 cases (List.range t.length).find? (fun k=>decide (gi t k<0))<;>rfl
noncomputable def gF (l:List Za) (i:Nat):Option Nat:=if (i:Int)=Zeh l then none else Zk6 (tns l (gi (faces l) i))
noncomputable def Zfq (l:List Za):Option Nat:=(List.range (faces l).length).find? fun i=>(gF l i).isSome
theorem ZlH {l:List Za}(hl:l.length≤1200):Zb4 l=some (if Zcs l=0∧l.length≠1 then (match Zfq l with|some i=>((i:Int),(((gF l i).getD 0:Nat):Int),true)|none=>(0,0,false)) else (0,0,false)):=by
 unfold Zb4
 rw [ZjQ (by omega),obs]
 by_cases e:Zcs l=0
 ·rw [if_pos e]
  by_cases c:l.length=1
  ·rw [if_pos c,if_neg fun h=>h.2 c]
   rfl
  ·rw [if_neg c,if_pos ⟨e,c⟩]
   obtain ⟨k,w,_⟩:=Zff e
   have hc:=(Zdu.1 k).2
   obtain ⟨o1,o2,o3,_⟩:=Zd5 hc
   dsimp only
   rw [ZaJ rfl,ZjM (by omega) k,obs]
   dsimp only
   have L:ZJ (Zb4.s0 l (Zeh l) ((faces l).map (List.map dt))) big 0=some (match (List.range (faces l).length).find? (fun i=>(gF l i).isSome) with|some i=>.inr ((i:Int),(((gF l i).getD 0:Nat):Int))|none=>.inl ()):=by
    refine ZcN (n:=(faces l).length) (P:=fun i=>(gF l i).isSome) (f:=fun i=>((i:Int),(((gF l i).getD 0:Nat):Int))) (Zbg (by omega)) (fun i hi=>?_) ?_
    ·have hm:=ZbW hi
     have fl:=o3 _ hm
     simp only [Zb4.s0,itn]
     rw [Z7 (by simp;omega),Zr (by simp;omega),Zcf hi,ZjP (by omega) k (o1 _ hm) (by omega),obs,Zml (by rw [Zdb];omega),obs]
     unfold gF
     by_cases q:(i:Int)=Zeh l
     ·rw [if_pos q,if_neg (by simp [q]),zh (by omega)]
      rfl
     ·rw [if_neg q]
      cases Zk6 (tns l (gi (faces l) i)) with
      | none=>rw [if_neg (by simp),zh (by omega)];rfl
      | some j=>rw [if_pos (by simp [q])];rfl
    ·simp only [Zb4.s0]
     rw [Z8 (by simp)]
   rw [L,obs]
   unfold Zfq
   cases (List.range (faces l).length).find? (fun i=>(gF l i).isSome)<;>rfl
 ·rw [if_neg e,if_neg fun h=>e h.1]
  dsimp only
  rw [Zbj e]
theorem ZlS {l:List Za}(hl:l.length≤1200):z5 l=some (if Zcs l=0∧l.length≠1 then (match Zfq l with|some i=>((i:Int),(((gF l i).getD 0:Nat):Int))|none=>(-1,0)) else (-1,0)):=by
 unfold z5
 rw [Zgd (by omega),obs]
 dsimp only
 by_cases e:Zcs l=0
 ·rw [if_pos e]
  by_cases c:l.length=1
  ·have v:Zeh l=-1:=by unfold Zeh;rw [if_pos c]
   rw [v,if_neg (show ¬ (Zcs l=0∧l.length≠1) from fun h=>h.2 c),if_pos (by simp)]
  ·have r:=ZkL e c
   rw [if_pos (show Zcs l=0∧l.length≠1 from ⟨e,c⟩),if_neg (by simp [e];omega)]
   obtain ⟨k,w,_⟩:=Zff e
   have hc:=(Zdu.1 k).2
   obtain ⟨o1,o2,o3,_⟩:=Zd5 hc
   rw [Zkd (by omega) k,obs]
   have I:∀ (i:Nat) (t:List Int),t.length≤1000000→ZJ (z5.s1 (Zeh l) i t) big 0=some (if (i:Int)=Zeh l then .inl () else match Zk6 t with|some j=>.inr (j:Int)|none=>.inl ()):=by
    intro i t ht
    by_cases q:(i:Int)=Zeh l
    ·rw [if_pos q]
     refine Zd6 (n:=1) ?_ (by unfold big;omega)
     rw [ZJ]
     simp only [z5.s1]
     rw [if_neg (by simp [q])]
    ·rw [if_neg q]
     unfold Zk6
     refine ZcN (n:=t.length) (P:=fun k=>decide (gi t k<0)) (f:=fun i=>(i:Int)) (Zbg (by omega)) (fun j hj=>?_) ?_
     ·simp only [z5.s1]
      rw [if_pos (by simp [q];omega),Zr (by omega),itn,zh (by omega)]
      cases decide (gi t j<0)<;>rfl
     ·simp only [z5.s1]
      rw [if_neg (by simp)]
   have L:ZJ (z5.s0 l (Zeh l) ((faces l).map (List.map rt))) big 0=some (match (List.range (faces l).length).find? (fun i=>(gF l i).isSome) with|some i=>.inr ((i:Int),(((gF l i).getD 0:Nat):Int))|none=>.inl ()):=by
    refine ZcN (n:=(faces l).length) (P:=fun i=>(gF l i).isSome) (f:=fun i=>((i:Int),(((gF l i).getD 0:Nat):Int))) (Zbg (by omega)) (fun i hi=>?_) ?_
    ·have hm:=ZbW hi
     have fl:=o3 _ hm
     simp only [z5.s0,itn]
     rw [Z7 (by simp;omega),Zr (by simp;omega),Zcf hi,Zkf (by omega) k (o1 _ hm) (by omega),obs,I i _ (by rw [Zdb];omega),obs]
     unfold gF
     by_cases q:(i:Int)=Zeh l
     ·rw [if_pos q,if_pos q]
      dsimp only
      rw [zh (by omega)]
      rfl
     ·rw [if_neg q,if_neg q]
      cases Zk6 (tns l (gi (faces l) i)) with
      | none=>dsimp only;rw [zh (by omega)];rfl
      | some j=>rfl
    ·simp only [z5.s0]
     rw [Z8 (by simp)]
   rw [L,obs]
   unfold Zfq
   cases (List.range (faces l).length).find? (fun i=>(gF l i).isSome)<;>rfl
 ·rw [if_neg e,if_neg (show ¬ (Zcs l=0∧l.length≠1) from fun h=>e h.1),if_pos (by simp [e])]
end Mu
/- Layer 20: what a turn to the right faces,by sums. -/
namespace Mu
def Rng (t:List Int):Prop:=∀ i,-2≤gi t i∧gi t i≤1
theorem Zhu {t:List Int}(h:Rng t) (ht:t.length≤1000000):ZcF t=some true:=by
 unfold ZcF ZbF zE
 rw [ZcN (n:=t.length) (P:=fun _=>false) (f:=fun i=>(i:Int)) (Zbg (by omega))]
 ·have:(List.range t.length).find? (fun _=>false)=none:=by rw [List.find?_range_eq_none];intro i _;rfl
  rw [this]
  simp
 ·intro i hi
  have:=h i
  simp only [zE.s0,ZcY,itn]
  rw [Z7 (by omega),Zr (by omega),obs,Zcb (by omega),Zcb (by omega),if_neg (by decide),zh (by omega),if_neg (by decide)]
 ·simp only [zE.s0]
  rw [Z8 (by omega)]
def cs (t:List Int) (i:Nat):Nat→Int
 | 0=>0
 | k+1=>cs t i k+gi t ((i+k)%t.length)
theorem ZjA {t:List Int}(h:Rng t) {i:Nat}:∀ k:Nat,-2*(k:Int)≤cs t i k∧cs t i k≤k
 | 0=>by simp [cs]
 | k+1=>by
  have:=ZjA h (i:=i) k
  have:=h ((i+k)%t.length)
  rw [cs];omega
theorem Zlo {t:List Int}(h:Rng t) (ht:t.length≤1000000) {i k:Nat}(hi:i<t.length) (hk:k<t.length):Zb5.s0 t i (cs t i k,(k:Int))=some (if cs t i (k+1)=1 then .inr (.inr ((((i+k)%t.length+1)%t.length:Nat):Int)) else .inl (cs t i (k+1),((k+1:Nat):Int))):=by
 have r:=ZjA h (i:=i) k
 have g:=h ((i+k)%t.length)
 have m:((i:Int)+(k:Int)).tmod (t.length:Int)=(((i+k)%t.length:Nat):Int):=by
  rw [Int.tmod_eq_emod_of_nonneg (by omega)];rfl
 have lt:(i+k)%t.length<t.length:=Nat.mod_lt _ (by omega)
 simp only [Zb5.s0]
 rw [Z7 (by omega),zh (by omega),Zr (by omega),m,Zr (by omega),itn,zh (by omega)]
 by_cases c:cs t i (k+1)=1
 ·have c':cs t i k+gi t ((i+k)%t.length)=1:=c
  rw [Z7 c',zh (by omega),if_pos c]
  have m2:((((i+k)%t.length:Nat):Int)+1).tmod (t.length:Int)=((((i+k)%t.length+1)%t.length:Nat):Int):=by
   rw [Int.tmod_eq_emod_of_nonneg (by omega)];rfl
  rw [m2]
 ·have c':¬ cs t i k+gi t ((i+k)%t.length)=1:=c
  rw [Z8 c',zh (by omega),if_neg c]
  rfl
theorem Zlf {t:List Int}(h:Rng t) (ht:t.length≤1000000) {i k:Nat}(hi:i<t.length) (h0:gi t i<0) (hk:k<t.length) (h1:cs t i (k+1)=1) (h2:∀ j,j<k→cs t i (j+1)≠1):Zb5 t i=some (((((i+k)%t.length+1)%t.length:Nat):Int),true):=by
 unfold Zb5
 rw [Zhu h ht,obs,if_neg (by simp;omega),Zr (by omega),itn,obs,Zcb (by omega),if_neg (by decide)]
 rw [Zcc (fun j:Nat=>(cs t i j,(j:Int))) (s0:=((0:Int),(0:Int))) (n:=k) (r:=.inr ((((i+k)%t.length+1)%t.length:Nat):Int)) (Zbg (by omega)) rfl (fun j hj=>?_) ?_]
 ·rfl
 ·rw [Zlo h ht hi hk,if_pos h1]
 ·rw [Zlo h ht hi (by omega),if_neg (h2 j hj)]
theorem ZlI {t:List Int}(h:Rng t) (ht:t.length≤1000000) {i:Nat}(hi:i<t.length) (h2:∀ j,j<t.length→cs t i (j+1)≠1):Zb5 t i=some (0,false):=by
 unfold Zb5
 rw [Zhu h ht,obs,if_neg (by simp;omega),Zr (by omega),itn,obs]
 by_cases c:0≤gi t i
 ·rw [Zce c,if_pos rfl]
 ·rw [Zcb c,if_neg (by decide)]
  rw [Zcc (fun j:Nat=>(cs t i j,(j:Int))) (s0:=((0:Int),(0:Int))) (n:=t.length) (r:=.inl ()) (Zbg (by omega)) rfl (fun j hj=>?_) ?_]
  ·rfl
  ·simp only [Zb5.s0]
   rw [Z8 (by omega)]
  ·rw [Zlo h ht hi hj,if_neg (h2 j hj)]
theorem ZoY {t:List Int}(h:Rng t) (ht:t.length≤1000000) {i:Nat}(hi:i<t.length) (h0:0≤gi t i):Zb5 t i=some (0,false):=by
 unfold Zb5
 rw [Zhu h ht,obs,if_neg (by simp;omega),Zr (by omega),itn,obs,Zce h0,if_pos rfl]
theorem Zj9 {t:List Int}{i:Nat}(hi:i<t.length):∀ k,k≤t.length→cs t i k=if i+k≤t.length then ZfQ t (i+k)-ZfQ t i else ZfQ t t.length-ZfQ t i+ZfQ t (i+k-t.length)
 | 0,_=>by rw [if_pos (by omega),cs];simp
 | k+1,hk=>by
  rw [cs,Zj9 hi k (by omega)]
  by_cases c:i+(k+1)≤t.length
  ·rw [if_pos (by omega),if_pos c,Nat.mod_eq_of_lt (by omega),show i+(k+1)=(i+k)+1 by omega,ZfQ];omega
  ·rw [if_neg c]
   by_cases c2:i+k≤t.length
   ·have e:i+k=t.length:=by omega
    rw [if_pos c2,e,Nat.mod_self,show i+(k+1)-t.length=0+1 by omega,ZfQ,ZfQ];omega
   ·rw [if_neg c2,show i+(k+1)-t.length=(i+k-t.length)+1 by omega,ZfQ,Nat.mod_eq_sub_mod (by omega),Nat.mod_eq_of_lt (by omega)];omega
theorem Zjo {t:List Int}:∀ n,n≤t.length→ZfQ t n=(t.take n).sum
 | 0,_=>by simp [ZfQ]
 | n+1,h=>by rw [ZfQ,Zjo n (by omega),Zh3 (by omega)]
theorem ZgB {t:List Int}:ZfQ t t.length=t.sum:=by rw [Zjo _ (Nat.le_refl _),List.take_length]
theorem Zr1 {t:List Int}(h:Rng t) (hs:t.sum=4) {i:Nat}(hi:i<t.length) (h0:gi t i<0):∃ k,0<k∧k+1<t.length∧cs t i (k+1)=1∧(∀ j,j<k→cs t i (j+1)≠1)∧cs t i k=0∧gi t ((i+k)%t.length)=1:=by
 have all:cs t i t.length=4:=by
  rw [Zj9 hi _ (Nat.le_refl _),ZgB,hs]
  split
  ·have:i=0:=by omega
   subst this
   rw [show 0+t.length=t.length by omega,ZgB,hs,ZfQ];rfl
  ·rw [show i+t.length-t.length=i by omega];omega
 have first:cs t i 1=gi t i:=by rw [cs,cs,Nat.add_zero,Nat.mod_eq_of_lt hi];omega
 have key:∀ n,1≤n→1≤cs t i n→∃ k,0<k∧k+1≤n∧cs t i (k+1)=1∧(∀ j,j<k+1→cs t i j≤0):=by
  intro n
  induction n with
  | zero=>intro h1 _;omega
  | succ n ih =>
   intro _ h2
   by_cases c:∃ j,j<n+1∧1≤cs t i j
   ·obtain ⟨j,hj,hc⟩:=c
    -- a smaller one
    have:∀ m,m≤n→1≤cs t i m→∃ k,0<k∧k+1≤n∧cs t i (k+1)=1∧(∀ j,j<k+1→cs t i j≤0):=by
     intro m
     induction m with
     | zero=>intro _ h3;rw [cs] at h3;omega
     | succ m ihm =>
      intro hm h3
      by_cases c:1≤cs t i n
      ·exact ih (by
        by_cases q:n=0
        ·subst q;rw [cs] at c;omega
        ·omega) c
      ·by_cases c2:∃ j,j<m+1∧1≤cs t i j
       ·obtain ⟨j,hj,hc⟩:=c2
        by_cases q:j=m
        ·subst q;exact ihm (by omega) hc
        ·-- go down
         have down:∀ r,r≤m→1≤cs t i r→∃ k,0<k∧k+1≤n∧cs t i (k+1)=1∧(∀ j,j<k+1→cs t i j≤0):=by
          intro r
          induction r using Nat.strongRecOn with
          | _ r ihr =>
           intro hr h4
           by_cases c3:∃ j,j<r∧1≤cs t i j
           ·obtain ⟨j,hj,hc⟩:=c3
            exact ihr j hj (by omega) hc
           ·cases r with
            | zero=>rw [cs] at h4;omega
            | succ r =>
             have z:∀ j,j<r+1→cs t i j≤0:=fun j hj=>by
              refine Classical.byContradiction fun q=>c3 ⟨j,hj,by omega⟩
             have:=z r (by omega)
             have g:=h ((i+r)%t.length)
             have e:=h4
             rw [cs] at e
             refine ⟨r,?_,by omega,?_,z⟩
             ·by_cases q:r=0
              ·subst q;rw [first] at h4;omega
              ·omega
             ·rw [cs];omega
         exact down j (by omega) hc
       ·have z:∀ j,j<m+1→cs t i j≤0:=fun j hj=>by
         refine Classical.byContradiction fun q=>c2 ⟨j,hj,by omega⟩
        have:=z m (by omega)
        have g:=h ((i+m)%t.length)
        have e:=h3
        rw [cs] at e
        refine ⟨m,?_,by omega,?_,z⟩
        ·by_cases q:m=0
         ·subst q;rw [first] at h3;omega
         ·omega
        ·rw [cs];omega
    obtain ⟨k,a,b,c,d⟩:=this j (by omega) hc
    exact ⟨k,a,by omega,c,d⟩
   ·have z:∀ j,j<n+1→cs t i j≤0:=fun j hj=>by
     refine Classical.byContradiction fun q=>c ⟨j,hj,by omega⟩
    have:=z n (by omega)
    have g:=h ((i+n)%t.length)
    have e:=h2
    rw [cs] at e
    refine ⟨n,?_,by omega,?_,z⟩
    ·by_cases q:n=0
     ·subst q;rw [first] at h2;omega
     ·omega
    ·rw [cs];omega
 obtain ⟨k,a,b,c,d⟩:=key t.length (by omega) (by omega)
 have z:=d k (by omega)
 have c':=c
 rw [cs] at c'
 have g:=h ((i+k)%t.length)
 refine ⟨k,a,?_,c,fun j hj=>by have:=d (j+1) (by omega);omega,by omega,by omega⟩
 by_cases q:k+1=t.length
 ·rw [q] at c;omega
 ·omega
def Zh7 (t:List Int) (i:Nat):Prop:=gi t i<0∧∀ j,j<t.length→cs t i (j+1)≠1
theorem Zk7 {f:Nat→Int}:∀ n,0<n→∃ i,i<n∧(∀ j,j<n→f j≤f i)∧∀ j,i<j→j<n→f j<f i
 | 1,_=>⟨0,by omega,fun j hj=>by rw [show j=0 by omega];exact Int.le_refl _,fun j h1 h2=>by omega⟩
 | n+2,_=>by
  obtain ⟨i,h1,h2,h3⟩:=Zk7 (f:=f) (n+1) (by omega)
  by_cases c:f i≤f (n+1)
  ·refine ⟨n+1,by omega,fun j hj=>?_,fun j h4 h5=>by omega⟩
   by_cases q:j=n+1
   ·subst q;omega
   ·have:=h2 j (by omega);omega
  ·refine ⟨i,by omega,fun j hj=>?_,fun j h4 h5=>?_⟩
   ·by_cases q:j=n+1
    ·subst q;omega
    ·exact h2 j (by omega)
   ·by_cases q:j=n+1
    ·subst q;omega
    ·exact h3 j h4 (by omega)
theorem Zrc {t:List Int}(hs:t.sum=-4):∃ i,i<t.length∧Zh7 t i:=by
 have h0:0<t.length:=by
  cases t with
  | nil=>simp at hs
  | cons a t=>simp
 obtain ⟨i,h1,h2,h3⟩:=Zk7 (f:=ZfQ t) t.length h0
 have p0:ZfQ t 0=0:=rfl
 have m0:=h2 0 h0
 refine ⟨i,h1,?_,fun j hj=>?_⟩
 ·by_cases c:i+1<t.length
  ·have:=h3 (i+1) (by omega) c
   rw [ZfQ] at this;omega
  ·have e:i+1=t.length:=by omega
   have:ZfQ t (i+1)=-4:=by rw [e,ZgB,hs]
   rw [ZfQ] at this;omega
 ·rw [Zj9 h1 _ (by omega),ZgB,hs]
  split
  ·by_cases c:i+(j+1)=t.length
   ·rw [c,ZgB,hs];omega
   ·have:=h2 (i+(j+1)) (by omega);omega
  ·have:=h2 (i+(j+1)-t.length) (by omega);omega
theorem ZpN {t:List Int}(h:Rng t) (ht:t.length≤1000000) (hs:t.sum=-4):∃ i:Nat,i<t.length∧Zh7 t i∧Zb2 t=some ((i:Int),true):=by
 obtain ⟨i0,h1,h2⟩:=Zrc hs
 have least:∀ n,∀ i,i≤n→i<t.length→Zh7 t i→∃ i,i<t.length∧Zh7 t i∧∀ j,j<i→¬ Zh7 t j:=by
  intro n
  induction n with
  | zero=>intro i hi hl ho;exact ⟨i,hl,ho,fun j hj=>by omega⟩
  | succ n ih =>
   intro i hi hl ho
   by_cases c:∃ j,j<i∧Zh7 t j
   ·obtain ⟨j,hj,hjo⟩:=c
    exact ih j (by omega) (by omega) hjo
   ·exact ⟨i,hl,ho,fun j hj q=>c ⟨j,hj,q⟩⟩
 obtain ⟨i,hi,ho,hm⟩:=least i0 i0 (Nat.le_refl _) h1 h2
 refine ⟨i,hi,ho,?_⟩
 unfold Zb2
 rw [Zhu h ht,obs,if_neg (by decide)]
 rw [Zcc (fun j:Nat=>(j:Int)) (s0:=(0:Int)) (n:=i) (r:=.inr (i:Int)) (Zbg (by omega)) rfl (fun j hj=>?_) ?_]
 ·rfl
 ·simp only [Zb2.s0,itn]
  rw [Z7 (by omega),Zr (by omega),ZlI h ht hi ho.2,obs]
  dsimp only
  rw [if_pos (by have:=ho.1;simp;omega)]
 ·simp only [Zb2.s0,itn]
  rw [Z7 (by omega),Zr (by omega)]
  have nj:=hm j hj
  by_cases c:0≤gi t j
  ·rw [ZoY h ht (by omega) c,obs]
   dsimp only
   rw [if_neg (by simp;omega),zh (by omega)]
   congr 2
  ·have:∃ k,k<t.length∧cs t j (k+1)=1:=by
    refine Classical.byContradiction fun q=>nj ⟨by omega,fun k hk e=>q ⟨k,hk,e⟩⟩
   obtain ⟨k,hk,e⟩:=this
   have fst:∀ n,∀ k,k≤n→k<t.length→cs t j (k+1)=1→∃ k,k<t.length∧cs t j (k+1)=1∧∀ m,m<k→cs t j (m+1)≠1:=by
    intro n
    induction n with
    | zero=>intro k h1 h2 h3;exact ⟨k,h2,h3,fun m hm=>by omega⟩
    | succ n ih =>
     intro k h1 h2 h3
     by_cases c:∃ m,m<k∧cs t j (m+1)=1
     ·obtain ⟨m,hm,e⟩:=c
      exact ih m (by omega) (by omega) e
     ·exact ⟨k,h2,h3,fun m hm q=>c ⟨m,hm,q⟩⟩
   obtain ⟨k,hk,e,hl⟩:=fst k k (Nat.le_refl _) hk e
   rw [Zlf h ht (by omega) (by omega) hk e hl,obs]
   dsimp only
   rw [if_neg (by simp),zh (by omega)]
   congr 2
end Mu
/- A cut: an edge split,and a corner joined to it. -/
namespace Mu
/-! Faces,once round from their first Zdq. -/
theorem Zlz {l:List Za}(hc:Ck l) {M:List Da}(hM:Mets l M) (cl:∀ p∈M,bh l p∈M) {x:Da}(hx:isD l x) (hn:x ∉ M):∃ K,walk l (4*l.length+1) M x=(List.range K).map (fun i=>it l i x)∧it l K x=x:=by
 obtain ⟨K,e1,e2⟩:=Zic hc (4*l.length+1) M x hM hx (by omega)
 obtain ⟨C,_⟩:=Zh4 hc hM cl hx hn
 refine ⟨K,e1,?_⟩
 have wnd:=C.nd
 have notM:∀ i,it l i x ∉ M:=by
  intro i
  induction i with
  | zero=>exact hn
  | succ i ih=>exact fun h=>ih (Zg3 hc hM cl (Zfs hc hx i) h)
 rcases List.mem_append.1 e2 with h|h
 ·exact absurd h (notM K)
 ·rw [e1] at h wnd
  obtain ⟨j,hj,e⟩:=List.mem_map.1 h
  rw [List.mem_range] at hj
  cases j with
  | zero=>exact e.symm
  | succ j =>
   cases K with
   | zero=>omega
   | succ K =>
    have:=Zdn hc (Zfs hc hx j) (Zfs hc hx K) e
    have q:=List.pairwise_map.1 wnd
    rw [List.pairwise_iff_getElem] at q
    have q2:=q j K (by simp;omega) (by simp) (by omega)
    rw [List.getElem_range,List.getElem_range] at q2
    exact absurd this q2
def Round (l:List Za) (f:List Da):Prop:=∃ x,isD l x∧f=(List.range f.length).map (fun i=>it l i x)∧it l f.length x=x
theorem Round.of {l:List Za}{f:List Da}{x:Da}{K:Nat}(hx:isD l x) (h:f=(List.range K).map (fun i=>it l i x)) (h2:it l K x=x):Round l f:=by
 have:f.length=K:=by rw [h];simp
 exact ⟨x,hx,by rw [this];exact h,by rw [this];exact h2⟩
structure FR (l:List Za) (s:List Da×List (List Da)):Prop where
 fc:FC l s
 rd:∀ f∈s.2,Round l f
theorem FR.st {l:List Za}(hc:Ck l) {s:List Da×List (List Da)}(h:FR l s) {p:Da}(h1:p.1<l.length) (h2:p.2<4):FR l (stF l s p):=by
 refine ⟨h.fc.st hc h1 h2,?_⟩
 unfold stF
 split
 ·exact h.rd
 ·rename_i c
  intro f hf
  rcases List.mem_append.1 hf with k|k
  ·exact h.rd f k
  ·rw [List.mem_singleton.1 k]
   have hp:isD l p:=⟨h1,h2,by omega⟩
   obtain ⟨K,a,b⟩:=Zlz hc h.fc.fi.m h.fc.cl hp fun q=>c (.inr q)
   exact Round.of hp a b
theorem FR.row {l:List Za}(hc:Ck l) {s:List Da×List (List Da)}(h:FR l s) {v:Nat}(hv:v<l.length):∀ e,e≤4→FR l (Zhd l v s e)
 | 0,_=>h
 | e+1,he=>(FR.row hc h hv e (by omega)).st hc hv (by dsimp only;omega)
theorem Zkp {l:List Za}(hc:Ck l):∀ v,v≤l.length→FR l (FS l v)
 | 0,_=>⟨ZkN hc 0 (by omega),by simp [FS]⟩
 | v+1,hv=>(Zkp hc v (by omega)).row hc (by omega) 4 (by omega)
theorem Zk1 {l:List Za}(hc:Ck l):∀ f∈faces l,Round l f:=(Zkp hc l.length (by omega)).rd
theorem Zng {l:List Za}{x:Da}(a:Nat):∀ b,it l (a+b) x=it l b (it l a x)
 | 0=>rfl
 | b+1=>by rw [← Nat.add_assoc,it,Zng a b];rfl
theorem Ziz {l:List Za}{x:Da}{n:Nat}(h:it l n x=x):∀ k i,it l (i+n*k) x=it l i x
 | 0,i=>by rw [Nat.mul_zero,Nat.add_zero]
 | k+1,i=>by rw [Nat.mul_succ,← Nat.add_assoc,Nat.add_comm _ n,Zng,h,Ziz h k i]
theorem ZpD {l:List Za}{x:Da}{n:Nat}(h:it l n x=x) (i:Nat):it l (i%n) x=it l i x:=by
 have:=Ziz h (i / n) (i%n)
 rw [Nat.mod_add_div] at this
 exact this.symm
theorem Round.at {l:List Za}{f:List Da}{x:Da}(h:f=(List.range f.length).map (fun i=>it l i x)) (h2:it l f.length x=x) {i:Nat}(hf:0<f.length):gi f (i%f.length)=it l i x:=by
 have lt:i%f.length<f.length:=Nat.mod_lt _ hf
 have:gi f (i%f.length)=gi ((List.range f.length).map (fun i=>it l i x)) (i%f.length):=by rw [← h]
 rw [this,ZcE lt,ZpD h2]
def seg (l:List Za) (x:Da) (a n:Nat):List Da:=(List.range n).map fun i=>it l (a+i) x
theorem Zlv {l:List Za}(hc:Ck l) {x:Da}(hx:isD l x) {a:Nat}:∀ n,Pt l (it l a x) (seg l x a n) (it l (a+n) x)
 | 0=>rfl
 | n+1=>by
  unfold seg
  rw [List.range_succ,List.map_append,Pt.app]
  exact ⟨_,Zlv hc hx n,rfl,Zfs hc hx _,rfl⟩
theorem Zf7 {l:List Za}{x:Da}{a m:Nat}:∀ n,seg l x a (m+n)=seg l x a m++seg l x (a+m) n
 | 0=>by simp [seg]
 | n+1=>by
  have ih:=Zf7 (l:=l) (x:=x) (a:=a) (m:=m) n
  unfold seg at ih ⊢
  rw [← Nat.add_assoc,List.range_succ,List.map_append,ih,List.range_succ,List.map_append,List.append_assoc]
  simp [Nat.add_assoc]
theorem ZgO {l:List Za}{x:Da}{a:Nat}:seg l x a 1=[it l a x]:=by simp [seg]
theorem Zn2 {l:List Za}{x:Da}{a n:Nat}:Za8 l (seg l x a (n+1))=Za8 l (seg l x a n)+tt l (it l (a+n) x):=by
 rw [Zf7,Zdk,ZgO,Zb0,ZdO];omega
theorem ZkH {l:List Za}{x:Da}{n:Nat}(h:it l n x=x) (h0:0<n):∀ a,(seg l x a n).Perm (seg l x 0 n)
 | 0=>List.Perm.refl _
 | a+1=>by
  refine List.Perm.trans ?_ (ZkH h h0 a)
  obtain ⟨m,rfl⟩:∃ m,n=1+m:=⟨n-1,by omega⟩
  have e1:seg l x (a+1) (1+m)=seg l x (a+1) m++[it l (a+1+m) x]:=by rw [Nat.add_comm 1 m,Zf7,ZgO]
  have e2:seg l x a (1+m)=[it l a x]++seg l x (a+1) m:=by rw [Zf7,ZgO]
  have e3:it l (a+1+m) x=it l a x:=by
   have:=Ziz h 1 a
   rw [Nat.mul_one] at this
   rw [← this,Nat.add_assoc]
  rw [e1,e2,e3]
  exact List.perm_append_comm
theorem Zqi {d e:Nat}(hd:d<4) (he:e<4):∃ k:Int,(e:Int)=d+tn d e+4*k:=by
 have a:d=0∨d=1∨d=2∨d=3:=by omega
 have b:e=0∨e=1∨e=2∨e=3:=by omega
 rcases a with rfl|rfl|rfl|rfl<;>rcases b with rfl|rfl|rfl|rfl<;>first|exact ⟨0,by decide⟩|exact ⟨1,by decide⟩|exact ⟨-1,by decide⟩
theorem Pt.dir {l:List Za}(hc:Ck l):∀ {s:List Da}{x y:Da},Pt l x s y→∃ k:Int,(y.2:Int)=x.2+Za8 l s+4*k
 | [],x,y,h=>by
  rw [Pt] at h;subst h
  exact ⟨0,by rw [ZdO];omega⟩
 | a::s,x,y,h=>by
  rw [Pt] at h
  obtain ⟨rfl,h1,h2⟩:=h
  obtain ⟨k,e⟩:=Pt.dir hc h2
  obtain ⟨k',e'⟩:=Zqi h1.2.1 (h1.bh hc).2.1
  refine ⟨k+k',?_⟩
  rw [Zb0]
  unfold tt
  omega
/-! Edges split. -/
section spl
variable {l:List Za}{a b w:Nat}
def Zej (l:List Za) (a b w:Nat) (p:Da):List Da:=if p=(a,b) then [p,(l.length,b)] else if p=(w,(b+2)%4) then [p,(l.length,(b+2)%4)] else [p]
structure Sp (l m:List Za) (a b w:Nat):Prop where
 ck:Ck m
 len:m.length=l.length+1
 ha:a<l.length
 hb:b<4
 hw:w<l.length
 hn:nx l a b=w
 hne:w≠a
 nx:∀ i e,i≤l.length→e<4→nx m i e=(if i=l.length then (if e=b then (w:Int) else if e=(b+2)%4 then (a:Int) else -1) else if i=w∧e=(b+2)%4 then (l.length:Int) else if i=a∧e=b then (l.length:Int) else nx l i e)
 ow:∀ i e,i≤l.length→e<4→ow m i e=(if i=l.length then (if e=b then ow l a b else if e=(b+2)%4 then ow l a b else 0) else if i=w∧e=(b+2)%4 then ow l a b else if i=a∧e=b then ow l a b else ow l i e)
theorem Sp.of (hc:Ck l) (ha:a<l.length) (hb:b<4) (hn:Mu.nx l a b=w):Sp l (spl l a b w (Mu.ow l a b)) a b w:=by
 obtain ⟨h1,h2,h3⟩:=hc.spl ha hb hn
 exact ⟨h3,ZlW,ha,hb,h1,hn,h2,fun i e hi he=>(Zln ha h1 hb hi he).1,fun i e hi he=>(Zln ha h1 hb hi he).2⟩
variable {m:List Za}
theorem Sp.back (hc:Ck l) (S:Sp l m a b w):Mu.nx l w ((b+2)%4)=a:=(hc.back' S.ha S.hb S.hn).2
theorem Sp.old (hc:Ck l) (S:Sp l m a b w) {i e:Nat}(hi:i<l.length) (he:e<4):0≤Mu.nx m i e↔0≤Mu.nx l i e:=by
 rw [S.nx i e (by omega) he,if_neg (by omega)]
 have:=S.back hc
 have:=S.hn
 by_cases c1:i=w∧e=(b+2)%4
 ·rw [if_pos c1,c1.1,c1.2];omega
 ·rw [if_neg c1]
  by_cases c2:i=a∧e=b
  ·rw [if_pos c2,c2.1,c2.2];omega
  ·rw [if_neg c2]
theorem Sp.y (S:Sp l m a b w):isD l (a,b):=⟨S.ha,S.hb,by rw [S.hn];omega⟩
theorem Sp.oy (S:Sp l m a b w):opp l (a,b)=(w,(b+2)%4):=by unfold opp;dsimp only;rw [S.hn,itn]
theorem Sp.y' (hc:Ck l) (S:Sp l m a b w):isD l (w,(b+2)%4):=by rw [← S.oy];exact S.y.opp hc
theorem Sp.is (hc:Ck l) (S:Sp l m a b w) {p:Da}(h:isD l p):isD m p:=⟨by rw [S.len];have:=h.1;omega,h.2.1,(S.old hc h.1 h.2.1).2 h.2.2⟩
theorem Sp.bh0 (hc:Ck l) (S:Sp l m a b w) {p:Da}(h:isD l p) (h1:p≠(a,b)) (h2:p≠(w,(b+2)%4)):Mu.nx m p.1 p.2=Mu.nx l p.1 p.2∧bh m p=bh l p:=by
 have f:=h.fwd hc
 have hlt:=h.1
 have e:Mu.nx m p.1 p.2=Mu.nx l p.1 p.2:=by
  rw [S.nx p.1 p.2 (by omega) h.2.1,if_neg (by omega),if_neg fun q=>h2 (Prod.ext q.1 q.2),if_neg fun q=>h1 (Prod.ext q.1 q.2)]
 refine ⟨e,?_⟩
 rw [ZcM,ZcM,e]
 refine congrArg (Prod.mk _) (Zds (fun e he=>?_) h.2.1)
 rw [decide_eq_decide]
 exact S.old hc f.1 he
theorem Sp.bh1 (hc:Ck l) (S:Sp l m a b w):Mu.nx m a b=l.length∧bh m (a,b)=(l.length,b)∧bh m (l.length,b)=bh l (a,b)∧bh m (w,(b+2)%4)=(l.length,(b+2)%4)∧bh m (l.length,(b+2)%4)=bh l (w,(b+2)%4):=by
 have hb:=S.hb
 have hne:=S.hne
 have ha:=S.ha
 have hw:=S.hw
 have e1:Mu.nx m a b=l.length:=by rw [S.nx a b (by omega) hb,if_neg (by omega),if_neg fun q=>hne q.1.symm,if_pos ⟨rfl,rfl⟩]
 have e2:Mu.nx m w ((b+2)%4)=l.length:=by rw [S.nx w _ (by omega) (by omega),if_neg (by omega),if_pos ⟨rfl,rfl⟩]
 have e3:Mu.nx m l.length b=w:=by rw [S.nx _ b (by omega) hb,if_pos rfl,if_pos rfl]
 have e4:Mu.nx m l.length ((b+2)%4)=a:=by rw [S.nx _ _ (by omega) (by omega),if_pos rfl,if_neg (by omega),if_pos rfl]
 have ne1:Mu.nx m l.length ((b+1)%4)=-1:=by rw [S.nx _ _ (by omega) (by omega),if_pos rfl,if_neg (by omega),if_neg (by omega)]
 have ne3:Mu.nx m l.length ((b+3)%4)=-1:=by rw [S.nx _ _ (by omega) (by omega),if_pos rfl,if_neg (by omega),if_neg (by omega)]
 refine ⟨e1,?_,?_,?_,?_⟩
 ·unfold bh
  dsimp only
  rw [e1,itn,ne1,e3,if_neg (by omega),if_pos (by omega)]
 ·rw [ZcM,ZcM]
  dsimp only
  rw [e3,S.hn,itn]
  exact congrArg (Prod.mk _) (Zds (fun e he=>by rw [decide_eq_decide];exact S.old hc hw he) hb)
 ·unfold bh
  dsimp only
  rw [e2,itn,show ((b+2)%4+1)%4=(b+3)%4 by omega,ne3,e4,if_neg (by omega),if_pos (by omega)]
 ·rw [ZcM,ZcM]
  dsimp only
  rw [e4,S.back hc,itn]
  exact congrArg (Prod.mk _) (Zds (fun e he=>by rw [decide_eq_decide];exact S.old hc ha he) (by omega))
theorem Sp.ins (hc:Ck l) (S:Sp l m a b w):Ins l m (Zej l a b w):=by
 have hb:=S.hb
 have hne:=S.hne
 have ha:=S.ha
 have hw:=S.hw
 obtain ⟨n1,b1,b2,b3,b4⟩:=S.bh1 hc
 have n3:Mu.nx m l.length b=w:=by rw [S.nx _ b (by omega) hb,if_pos rfl,if_pos rfl]
 have n4:Mu.nx m l.length ((b+2)%4)=a:=by rw [S.nx _ _ (by omega) (by omega),if_pos rfl,if_neg (by omega),if_pos rfl]
 have yy:((w,(b+2)%4):Da)≠(a,b):=fun q=>hne (congrArg Prod.fst q)
 have U1:isD m (l.length,b):=⟨by rw [S.len];dsimp only;omega,hb,by dsimp only;rw [n3];omega⟩
 have U2:isD m (l.length,(b+2)%4):=⟨by rw [S.len];dsimp only;omega,by dsimp only;omega,by dsimp only;rw [n4];omega⟩
 have hd:∀ p,isD l p→p∈Zej l a b w p:=by
  intro p _;unfold Zej;split
  ·simp
  ·split<;>simp
 refine ⟨fun p hp e=>?_,fun p hp=>?_,fun p hp x hx=>?_,fun p q hp hq x h1 h2=>?_,fun p hp=>?_,fun p hp x hx=>?_,fun C hC p hp hx y hy=>?_,fun x hx=>?_⟩
 ·have:=hd p hp;rw [e] at this;simp at this
 ·have:=hp.1
  unfold Zej
  split
  ·rename_i c;rw [c];simp;omega
  ·split
   ·rename_i c;rw [c];simp;omega
   ·simp
 ·unfold Zej at hx
  split at hx
  ·rcases List.mem_cons.1 hx with rfl|hx
   ·exact S.is hc hp
   ·rw [List.mem_singleton.1 hx];exact U1
  ·split at hx
   ·rcases List.mem_cons.1 hx with rfl|hx
    ·exact S.is hc hp
    ·rw [List.mem_singleton.1 hx];exact U2
   ·rw [List.mem_singleton.1 hx];exact S.is hc hp
 ·have hp1:=hp.1
  have hq1:=hq.1
  have key:∀ {p x},isD l p→x∈Zej l a b w p→x=p∨(x=(l.length,b)∧p=(a,b))∨(x=(l.length,(b+2)%4)∧p=(w,(b+2)%4)):=by
   intro p x hp h
   unfold Zej at h
   split at h
   ·rename_i c
    rcases List.mem_cons.1 h with h|h
    ·exact .inl h
    ·exact .inr (.inl ⟨List.mem_singleton.1 h,c⟩)
   ·split at h
    ·rename_i c
     rcases List.mem_cons.1 h with h|h
     ·exact .inl h
     ·exact .inr (.inr ⟨List.mem_singleton.1 h,c⟩)
    ·exact .inl (List.mem_singleton.1 h)
  rcases key hp h1 with k|⟨k,k'⟩|⟨k,k'⟩<;>rcases key hq h2 with r|⟨r,r'⟩|⟨r,r'⟩
  ·rw [← k,r]
  ·rw [← k,r] at hp1;dsimp only at hp1;omega
  ·rw [← k,r] at hp1;dsimp only at hp1;omega
  ·rw [← r,k] at hq1;dsimp only at hq1;omega
  ·rw [k',r']
  ·rw [k] at r;injection r with _ r;omega
  ·rw [← r,k] at hq1;dsimp only at hq1;omega
  ·rw [k] at r;injection r with _ r;omega
  ·rw [k',r']
 ·unfold Zej
  split
  ·rename_i c
   subst c
   simp only [List.map_cons,List.map_nil,List.sum_cons,List.sum_nil,b1,b2]
   have:tn b b=0:=by unfold tn;rw [if_pos rfl]
   omega
  ·split
   ·rename_i c
    subst c
    simp only [List.map_cons,List.map_nil,List.sum_cons,List.sum_nil,b3,b4]
    have:tn ((b+2)%4) ((b+2)%4)=0:=by unfold tn;rw [if_pos rfl]
    omega
   ·rename_i c1 c2
    simp only [List.map_cons,List.map_nil,List.sum_cons,List.sum_nil,(S.bh0 hc hp c1 c2).2]
    omega
 ·unfold Zej at hx
  split at hx
  ·rename_i c
   rcases List.mem_cons.1 hx with rfl|hx
   ·subst c;rw [b1];left;unfold Zej;rw [if_pos rfl];simp
   ·rw [List.mem_singleton.1 hx,b2,c];right;exact hd _ (S.y.bh hc)
  ·split at hx
   ·rename_i c
    rcases List.mem_cons.1 hx with rfl|hx
    ·subst c;rw [b3];left;unfold Zej;rw [if_neg yy,if_pos rfl];simp
    ·rw [List.mem_singleton.1 hx,b4,c];right;exact hd _ ((S.y' hc).bh hc)
   ·rename_i c1 c2
    rw [List.mem_singleton.1 hx,(S.bh0 hc hp c1 c2).2];right;exact hd _ (hp.bh hc)
 ·-- one's first dart,then all
  have all:∀ q,isD l q→C q→∀ y∈Zej l a b w q,C y:=by
   intro q hq hCq y hy
   unfold Zej at hy
   split at hy
   ·rename_i c
    subst c
    rcases List.mem_cons.1 hy with rfl|hy
    ·exact hCq
    ·rw [List.mem_singleton.1 hy,← b1];exact hC _ (S.is hc hq) hCq
   ·split at hy
    ·rename_i c
     subst c
     rcases List.mem_cons.1 hy with rfl|hy
     ·exact hCq
     ·rw [List.mem_singleton.1 hy,← b3];exact hC _ (S.is hc hq) hCq
    ·rw [List.mem_singleton.1 hy];exact hCq
  refine all _ (hp.bh hc) ?_ y hy
  obtain ⟨x,hx,hCx⟩:=hx
  unfold Zej at hx
  split at hx
  ·rename_i c
   subst c
   have:C (l.length,b):=by
    rcases List.mem_cons.1 hx with rfl|hx
    ·rw [← b1];exact hC _ (S.is hc hp) hCx
    ·rw [← List.mem_singleton.1 hx];exact hCx
   rw [← b2];exact hC _ U1 this
  ·split at hx
   ·rename_i c
    subst c
    have:C (l.length,(b+2)%4):=by
     rcases List.mem_cons.1 hx with rfl|hx
     ·rw [← b3];exact hC _ (S.is hc hp) hCx
     ·rw [← List.mem_singleton.1 hx];exact hCx
    rw [← b4];exact hC _ U2 this
   ·rename_i c1 c2
    rw [List.mem_singleton.1 hx] at hCx
    rw [← (S.bh0 hc hp c1 c2).2];exact hC _ (S.is hc hp) hCx
 ·have h1:=hx.1
  have h2:=hx.2.1
  rw [S.len] at h1
  by_cases c:x.1=l.length
  ·have h3:=hx.2.2
   rw [S.nx x.1 x.2 (by omega) h2,if_pos c] at h3
   by_cases c1:x.2=b
   ·refine ⟨(a,b),S.y,?_⟩
    unfold Zej
    rw [if_pos rfl]
    have:x=(l.length,b):=Prod.ext c c1
    rw [this];simp
   ·rw [if_neg c1] at h3
    by_cases c2:x.2=(b+2)%4
    ·refine ⟨(w,(b+2)%4),S.y' hc,?_⟩
     unfold Zej
     rw [if_neg yy,if_pos rfl]
     have:x=(l.length,(b+2)%4):=Prod.ext c c2
     rw [this];simp
    ·rw [if_neg c2] at h3;omega
  ·have:isD l x:=⟨by omega,h2,(S.old hc (by omega) h2).1 hx.2.2⟩
   exact ⟨x,this,hd x this⟩
theorem Sp.val (hc:Ck l) (S:Sp l m a b w) (h:Val l):Val m:=((S.ins hc).val hc S.ck (Zin hc) (Zin S.ck)).1 h
theorem Sp.Pt (hc:Ck l) (S:Sp l m a b w):∀ {s:List Da}{x y:Da},Mu.Pt l x s y→Mu.Pt m x (s.flatMap (Zej l a b w)) y
 | [],x,y,h=>h
 | p::s,x,y,h=>by
  rw [Mu.Pt] at h
  obtain ⟨rfl,h1,h2⟩:=h
  obtain ⟨n1,b1,b2,b3,b4⟩:=S.bh1 hc
  have I:=S.ins hc
  rw [List.flatMap_cons]
  refine Pt.app.2 ⟨bh l x,?_,S.Pt hc h2⟩
  have is:=fun z hz=>I.is x h1 z hz
  unfold Zej at is ⊢
  split
  ·rename_i c
   rw [if_pos c] at is
   subst c
   refine ⟨rfl,is _ (by simp),?_⟩
   rw [b1]
   exact ⟨rfl,is _ (by simp),b2⟩
  ·rename_i c
   rw [if_neg c] at is
   split
   ·rename_i c2
    rw [if_pos c2] at is
    subst c2
    refine ⟨rfl,is _ (by simp),?_⟩
    rw [b3]
    exact ⟨rfl,is _ (by simp),b4⟩
   ·rename_i c2
    exact ⟨rfl,S.is hc h1,(S.bh0 hc h1 c c2).2⟩
theorem Sp.Lp (hc:Ck l) (S:Sp l m a b w) {f:List Da}(h:Mu.Lp l f):Mu.Lp m (f.flatMap (Zej l a b w)):=by
 have C:=(S.ins hc).cyc hc h.cyc
 obtain ⟨x,hx⟩:=h.pt
 exact ⟨C.ne,C.nd,x,S.Pt hc hx⟩
theorem Sp.whole (hc:Ck l) (S:Sp l m a b w) (h:Mu.whole l):Mu.whole m:=by
 have h0:=ZfT h
 -- each old cell is reached: through the new one where the edge was
 have e1:=S.nx a b (by have:=S.ha;omega) S.hb
 have hne:=S.hne
 have ha:=S.ha
 have hw:=S.hw
 have hb:=S.hb
 rw [if_neg (by omega),if_neg (fun q=>hne q.1.symm),if_pos ⟨rfl,rfl⟩] at e1
 have e2:Mu.nx m w ((b+2)%4)=l.length:=by rw [S.nx w _ (by omega) (by omega),if_neg (by omega),if_pos ⟨rfl,rfl⟩]
 have e3:Mu.nx m l.length b=w:=by rw [S.nx _ b (by omega) hb,if_pos rfl,if_pos rfl]
 have e4:Mu.nx m l.length ((b+2)%4)=a:=by rw [S.nx _ _ (by omega) (by omega),if_pos rfl,if_neg (by omega),if_pos rfl]
 have old:∀ {u n},Rch l 0 n u→∃ k,Rch m 0 k u:=by
  intro u n hr
  induction hr with
  | zero=>exact ⟨0,.zero⟩
  | succ hr hab ih =>
   rename_i n p q
   obtain ⟨k,r⟩:=ih
   have hp:=hr.lt hc h0
   obtain ⟨d,hd,e⟩:=hab
   have n:=S.nx p d (by omega) hd
   rw [if_neg (by omega)] at n
   by_cases c1:p=w∧d=(b+2)%4
   ·have:q=a:=by
     have:=S.back hc
     rw [← c1.1,← c1.2,e] at this;omega
    subst this
    rw [if_pos c1] at n
    exact ⟨k+1+1,.succ (.succ r ⟨d,hd,n⟩) ⟨_,by omega,e4⟩⟩
   ·rw [if_neg c1] at n
    by_cases c2:p=a∧d=b
    ·have:q=w:=by
      have:=S.hn
      rw [← c2.1,← c2.2,e] at this;omega
     subst this
     rw [if_pos c2] at n
     exact ⟨k+1+1,.succ (.succ r ⟨d,hd,n⟩) ⟨_,hb,e3⟩⟩
    ·rw [if_neg c2,e] at n
     exact ⟨k+1,.succ r ⟨d,hd,n⟩⟩
 refine ZiK (by rw [S.len];omega) fun u hu=>?_
 rw [S.len] at hu
 by_cases c:u=l.length
 ·subst c
  obtain ⟨n,r⟩:=ZgQ h ha
  obtain ⟨k,r⟩:=old r
  exact ⟨k+1,.succ r ⟨b,hb,e1⟩⟩
 ·obtain ⟨n,r⟩:=ZgQ h (w:=u) (by omega)
  exact old r
end spl
end Mu
/- A cut of a face that turns to the right: what comes of it. -/
namespace Mu
def ng (t:Int):Int:=if t<0 then -t else 0
def negs (l:List Za):Int:=((Zdq l).map fun p=>ng (tt l p)).sum
theorem Ins.perm {l m:List Za}{ins:Da→List Da}(I:Ins l m ins):(Zdq m).Perm ((Zdq l).flatMap ins):=by
 refine (List.perm_ext_iff_of_nodup ZfL ?_).2 fun x=>?_
 ·rw [List.Nodup,List.pairwise_flatMap]
  refine ⟨fun p hp=>I.nd p (Zc3.1 hp),(ZfL (l:=l)).imp_of_mem ?_⟩
  intro p q hp hq hne x hx y hy e
  subst e
  exact hne (I.dj p q (Zc3.1 hp) (Zc3.1 hq) x hx hy)
 ·rw [Zc3,List.mem_flatMap]
  constructor
  ·intro hx
   obtain ⟨p,hp,h⟩:=I.al x hx
   exact ⟨p,Zc3.2 hp,h⟩
  ·rintro ⟨p,hp,h⟩
   exact I.is p (Zc3.1 hp) x h
theorem ZhR {g:Da→Int}{ins:Da→List Da}:∀ {L:List Da},((L.flatMap ins).map g).sum=(L.map fun p=>((ins p).map g).sum).sum
 | []=>rfl
 | a::L=>by rw [List.flatMap_cons,List.map_append,List.sum_append,ZhR (L:=L),List.map_cons,List.sum_cons]
theorem Sp.negs {l m:List Za}{a b w:Nat}(hc:Ck l) (S:Sp l m a b w):negs m=negs l:=by
 obtain ⟨n1,b1,b2,b3,b4⟩:=S.bh1 hc
 unfold Mu.negs
 rw [ZfP (S.ins hc).perm,ZhR]
 congr 1
 refine List.map_congr_left fun p hp=>?_
 have hp:=Zc3.1 hp
 unfold Zej tt
 have z:ng 0=0:=rfl
 have t0:∀ d,tn d d=0:=fun d=>by unfold tn;rw [if_pos rfl]
 split
 ·rename_i c
  subst c
  simp only [List.map_cons,List.map_nil,List.sum_cons,List.sum_nil,b1,b2,t0,z];omega
 ·split
  ·rename_i c
   subst c
   simp only [List.map_cons,List.map_nil,List.sum_cons,List.sum_nil,b3,b4,t0,z];omega
  ·rename_i c1 c2
   simp only [List.map_cons,List.map_nil,List.sum_cons,List.sum_nil,(S.bh0 hc hp c1 c2).2];omega
theorem Del.dperm {l m:List Za}(hc:Ck l) {v d w:Nat}(D:Del l m v d w):(Zdq l).Perm ((v,d)::(w,(d+2)%4)::Zdq m):=by
 refine (List.perm_ext_iff_of_nodup ZfL ?_).2 fun x=>?_
 ·refine List.nodup_cons.2 ⟨fun q=>?_,List.nodup_cons.2 ⟨fun q=>?_,ZfL⟩⟩
  ·rcases List.mem_cons.1 q with q|q
   ·exact D.ee hc q.symm
   ·exact (D.isD.1 (Zc3.1 q)).2.1 rfl
  ·exact (D.isD.1 (Zc3.1 q)).2.2 rfl
 ·rw [List.mem_cons,List.mem_cons,Zc3,Zc3]
  constructor
  ·intro hx
   by_cases c1:x=(v,d)
   ·exact .inl c1
   ·by_cases c2:x=(w,(d+2)%4)
    ·exact .inr (.inl c2)
    ·exact .inr (.inr (D.isD.2 ⟨hx,c1,c2⟩))
  ·rintro (rfl|rfl|h)
   ·exact D.e
   ·exact D.e' hc
   ·exact (D.isD.1 h).1
theorem Zn6 {f g:Da→Int}:∀ {L:List Da},(∀ x∈L,f x≤g x)→(L.map f).sum≤(L.map g).sum
 | [],_=>by simp
 | a::L,h=>by
  have:=Zn6 (L:=L) fun x hx=>h x (by simp [hx])
  have:=h a (by simp)
  rw [List.map_cons,List.map_cons,List.sum_cons,List.sum_cons];omega
theorem Zqh {f g:Da→Int}{L:List Da}{a:Da}(h:∀ x∈L,f x≤g x) (ha:a∈L) (h1:f a+1≤g a):(L.map f).sum+1≤(L.map g).sum:=by
 have p:L.Perm (a::L.erase a):=List.perm_cons_erase ha
 rw [ZfP p,ZfP p,List.map_cons,List.map_cons,List.sum_cons,List.sum_cons]
 have:=Zn6 (f:=f) (g:=g) (L:=L.erase a) fun x hx=>h x (List.mem_of_mem_erase hx)
 omega
theorem Zkn {l:List Za}{p:Da}(h4:p.2<4) (h:tt l p<0):nx l (nx l p.1 p.2).toNat p.2<0∧nx l (nx l p.1 p.2).toNat ((p.2+1)%4)<0:=by
 unfold tt at h
 rw [Zpg h4] at h
 unfold arr at h
 by_cases c1:0≤nx l (nx l p.1 p.2).toNat ((p.2+1)%4)
 ·rw [if_pos c1] at h;omega
 ·rw [if_neg c1] at h
  by_cases c2:0≤nx l (nx l p.1 p.2).toNat p.2
  ·rw [if_pos c2] at h;omega
  ·omega
theorem ZmO {l:List Za}{f:List Da}{x:Da}(h:f=(List.range f.length).map (fun i=>it l i x)) (h2:it l f.length x=x) (hf:0<f.length) {i:Nat}:∀ k,cs (tns l f) i k=Za8 l (seg l x i k)
 | 0=>rfl
 | k+1=>by
  rw [cs,ZmO h h2 hf k,Zn2,Zdb]
  congr 1
  unfold tns
  rw [Zcf (Nat.mod_lt _ hf),Round.at h h2 hf]
  rfl
structure Cut (l m:List Za):Prop where
 ck:Ck m
 val:Val m
 whole:whole m
 len:m.length=l.length+1
 negs:negs m+1≤negs l
 sub:∃ (l1:List Za) (a b w v d:Nat),Sp l l1 a b w∧m=wth l1 v d l.length (-2)∧Del m l1 v d l.length∧v<l.length∧d<4∧nx l1 v d=-1∧nx l1 l.length ((d+2)%4)=-1
theorem ZmP {l:List Za}(hc:Ck l) (hV:Val l) (hW:whole l) {f:List Da}(hf:f∈faces l) (h4:Za8 l f=4) {i:Nat}(hi:i<f.length) (h0:gi (tns l f) i<0) (hlen:f.length≤1000000):∃ kk:Nat,kk<f.length∧Zb5 (tns l f) i=some ((kk:Int),true) ∧
  isD l (gi f i)∧isD l (gi f kk)∧(nx l (gi f i).1 (gi f i).2).toNat<l.length∧(∃ w:Nat,nx l (gi f kk).1 (gi f kk).2=w∧w<l.length ∧
  Sp l (spl l (gi f kk).1 (gi f kk).2 w (ow l (gi f kk).1 (gi f kk).2)) (gi f kk).1 (gi f kk).2 w ∧
  nx (spl l (gi f kk).1 (gi f kk).2 w (ow l (gi f kk).1 (gi f kk).2)) (nx l (gi f i).1 (gi f i).2).toNat (gi f i).2=-1 ∧
  nx (spl l (gi f kk).1 (gi f kk).2 w (ow l (gi f kk).1 (gi f kk).2)) l.length (((gi f i).2+2)%4)=-1 ∧
  Cut l (wth (spl l (gi f kk).1 (gi f kk).2 w (ow l (gi f kk).1 (gi f kk).2)) (nx l (gi f i).1 (gi f i).2).toNat (gi f i).2 l.length (-2))):=by
 obtain ⟨x0,hx0,e1,e2⟩:=Zk1 hc f hf
 have n0:0<f.length:=by omega
 have tl:=Zdb (l:=l) (f:=f)
 obtain ⟨k,k0,k1,c1,c2,c3,c4⟩:=Zr1 (t:=tns l f) Ze8 h4 (by omega) h0
 rw [tl] at k1 c4
 have hit:=Zlf (t:=tns l f) Ze8 (by omega) (by omega) h0 (by omega) c1 c2
 rw [tl] at hit
 have ek:((i+k)%f.length+1)%f.length=(i+k+1)%f.length:=by rw [Nat.mod_add_mod]
 rw [ek] at hit
 have lk:(i+k+1)%f.length<f.length:=Nat.mod_lt _ n0
 have gx:gi f i=it l i x0:=by
  have:=Round.at e1 e2 n0 (i:=i)
  rwa [Nat.mod_eq_of_lt hi] at this
 have gy:gi f ((i+k+1)%f.length)=it l (i+k+1) x0:=Round.at e1 e2 n0
 refine ⟨(i+k+1)%f.length,lk,hit,?_⟩
 rw [gx,gy]
 have dX:=Zfs hc hx0 i
 have dY:=Zfs hc hx0 (i+k+1)
 have tX:tt l (it l i x0)<0:=by
  unfold tns at h0
  rw [Zcf hi,gx] at h0
  exact h0
 have s1:Za8 l (seg l x0 i (k+1))=1:=by rw [← ZmO e1 e2 n0];exact c1
 have P1:=Zlv hc hx0 (a:=i) (k+1)
 obtain ⟨q,hq⟩:=P1.dir hc
 rw [s1,← Nat.add_assoc] at hq
 -- the loop from behind the corner on
 have L:Lp l (seg l x0 (i+1) f.length):=by
  have pm:=ZkH (l:=l) e2 n0 (i+1)
  have e0:seg l x0 0 f.length=f:=by
   unfold seg
   simp only [Nat.zero_add]
   exact e1.symm
  refine ⟨?_,?_,it l (i+1) x0,?_⟩
  ·intro z
   rw [z] at pm
   have:=pm.length_eq
   rw [e0] at this
   simp at this;omega
  ·rw [pm.nodup_iff,e0];exact (Zc9 hc f hf).nd
  ·have:=Zlv hc hx0 (a:=i+1) f.length
   have p:=Ziz e2 1 (i+1)
   rw [Nat.mul_one] at p
   rwa [p] at this
 have eX:it l (i+f.length) x0=it l i x0:=by have:=Ziz e2 1 i;rwa [Nat.mul_one] at this
 have spli:seg l x0 (i+1) f.length=seg l x0 (i+1) k++[it l (i+k+1) x0]++(seg l x0 (i+k+2) (f.length-k-2)++[it l i x0]):=by
  have a:f.length=k+(1+((f.length-k-2)+1)):=by omega
  rw [← eX]
  generalize hr:f.length-k-2=r at *
  rw [a,Zf7,Zf7,Zf7,ZgO,ZgO,← List.append_assoc,show i+1+k=i+k+1 by omega,show i+k+1+1=i+k+2 by omega,show i+k+2+r=i+(k+(1+(r+1))) by omega]
 have rB:tt l (it l i x0)+Za8 l (seg l x0 (i+1) k)=1:=by
  have:seg l x0 i (k+1)=[it l i x0]++seg l x0 (i+1) k:=by rw [Nat.add_comm k 1,Zf7,ZgO]
  rw [this,Zdk,Zb0,ZdO] at s1
  omega
 rw [spli] at L
 generalize hX:it l i x0=X at *
 generalize hY:it l (i+k+1) x0=Y at *
 generalize hB:seg l x0 (i+1) k=B at *
 generalize hA:seg l x0 (i+k+2) (f.length-k-2)=A at *
 have fX:=dX.fwd hc
 have fY:=dY.fwd hc
 have X4:=dX.2.1
 have Y4:=dY.2.1
 have tf:=Zkn X4 tX
 have hwY:nx l Y.1 Y.2=((nx l Y.1 Y.2).toNat:Nat):=by have:=dY.2.2;omega
 refine ⟨dX,dY,fX.1,(nx l Y.1 Y.2).toNat,hwY,fY.1,?_⟩
 have S:=Sp.of hc dY.1 Y4 hwY
 refine ⟨S,?_⟩
 have dir:Y.2=(X.2+1)%4:=by omega
 generalize hv:(nx l X.1 X.2).toNat=v at *
 generalize hw:(nx l Y.1 Y.2).toNat=w at *
 generalize hl1:spl l Y.1 Y.2 w (ow l Y.1 Y.2)=l1 at *
 have lv:=hc.lt fX.1 X4
 have f1:nx l1 v X.2=-1:=by
  have:=S.old hc fX.1 X4
  have:=S.ck.lt (v:=v) (d:=X.2) (by rw [S.len];omega) X4
  omega
 have f2:nx l1 l.length ((X.2+2)%4)=-1:=by
  rw [S.nx _ _ (by omega) (by omega),if_pos rfl,if_neg (by omega),if_neg (by omega)]
 refine ⟨f1,f2,?_⟩
 have hvl:v<l1.length:=by rw [S.len];have:=fX.1;omega
 have hul:l.length<l1.length:=by rw [S.len];omega
 have hvu:v≠l.length:=by have:=fX.1;omega
 have D:Del (wth l1 v X.2 l.length (-2)) l1 v X.2 l.length:=Del.of_wth S.ck hvl hul hvu X4 f1 f2
 have hcm:Ck (wth l1 v X.2 l.length (-2)):=S.ck.wth hvl hul hvu X4 f1 f2 (by omega)
 generalize hm:wth l1 v X.2 l.length (-2)=m at *
 have nXY:X≠Y:=by
  intro z
  have nd:=List.nodup_append.1 L.nd
  exact nd.2.2 Y (by simp) X (by simp) z.symm
 have nXY':X≠(w,(Y.2+2)%4):=by
  intro z
  have:=congrArg Prod.snd z
  dsimp only at this
  omega
 obtain ⟨n1,b1,b2,b3,b4⟩:=S.bh1 hc
 have eY:(Y.1,Y.2)=Y:=rfl
 have iX:Zej l Y.1 Y.2 w X=[X]:=by
  unfold Zej
  rw [if_neg nXY,if_neg nXY']
 have iY:Zej l Y.1 Y.2 w Y=[Y,(l.length,Y.2)]:=by
  unfold Zej
  rw [if_pos rfl]
 have L1:=S.Lp hc L
 have fl:(B++[Y]++(A++[X])).flatMap (Zej l Y.1 Y.2 w)=B.flatMap (Zej l Y.1 Y.2 w)++[Y]++(((l.length,Y.2)::A.flatMap (Zej l Y.1 Y.2 w))++[X]):=by
  simp [List.flatMap_append,iX,iY]
 rw [fl] at L1
 have x1:=S.bh0 hc dX nXY nXY'
 have tX1:tt l1 X=tt l X:=by unfold tt;rw [x1.2]
 have tY1:tt l1 Y=0:=by unfold tt;rw [b1];unfold tn;rw [if_pos rfl]
 have t0:tn X.2 X.2=0:=by unfold tn;rw [if_pos rfl]
 have t1:tn Y.2 ((X.2+2)%4)=1:=by unfold tn;rw [if_neg (by omega),if_pos (by omega)]
 have bX:bh m X=(v,X.2):=(D.enter hcm S.ck (S.is hc dX)).1 (by rw [x1.1];exact hv) (by rw [tX1,t0];exact tX)
 have bY:bh m Y=(l.length,(X.2+2)%4):=(D.enter hcm S.ck (S.is hc dY)).2 (by rw [n1,itn]) (by rw [tY1,t1];omega)
 have rB1:Za8 l1 (B.flatMap (Zej l Y.1 Y.2 w))=Za8 l B:=(S.ins hc).rot fun p hp=>L.is p (by simp [hp])
 refine ⟨hcm,D.chord_val hcm S.ck L1 bX bY ?_ (S.val hc hV),D.whole hcm S.ck (S.whole hc hW),by rw [← hm,Za5,S.len],?_,l1,Y.1,Y.2,w,v,X.2,S,hm.symm,D,fX.1,X4,f1,f2⟩
 ·rw [Zdk,rB1,Zb0,ZdO,tY1,tX1,t0,t1];omega
 ·rw [← S.negs hc]
  unfold Mu.negs
  rw [ZfP (D.dperm hcm)]
  simp only [List.map_cons,List.sum_cons]
  have B1:=D.bh hcm (S.is hc dX)
  have B2:=D.bh hcm (S.is hc dY)
  have ee:=D.ee hcm
  rw [bX,if_pos rfl,if_pos rfl] at B1
  rw [bY,if_neg ee,if_pos rfl,if_neg ee,if_pos rfl] at B2
  have mX:tt m X=0:=by unfold tt;rw [bX];exact t0
  have mY:tt m Y=1:=by unfold tt;rw [bY];exact t1
  have r1:=B1.2
  have r2:=B2.2
  rw [tX1,mX] at r1
  rw [tY1,mY] at r2
  have rX:-2≤tt l X:=Zly.1
  have g1:ng (tt m (v,X.2))=0:=by unfold ng;rw [if_neg (by omega)]
  have g2:ng (tt m (l.length,(X.2+2)%4))=0:=by unfold ng;rw [if_neg (by omega)]
  rw [g1,g2]
  have:=Zqh (f:=fun p=>ng (tt m p)) (g:=fun p=>ng (tt l1 p)) (L:=Zdq l1) (a:=X) (fun p hp=>?_) (Zc3.2 (S.is hc dX)) (by rw [mX,tX1];unfold ng;rw [if_neg (by omega),if_pos tX];omega)
  ·omega
  ·have hp:=Zc3.1 hp
   by_cases c1:p=X
   ·subst c1
    rw [mX];unfold ng;rw [if_neg (by omega)];split<;>omega
   ·by_cases c2:p=Y
    ·subst c2
     rw [mY];unfold ng;rw [if_neg (by omega)];split<;>omega
    ·have dp:=(D.isD.1 hp).1
     have a1:bh m p≠(v,X.2):=fun z=>c1 (Zdn hcm dp (D.isD.1 (S.is hc dX)).1 (z.trans bX.symm))
     have a2:bh m p≠(l.length,(X.2+2)%4):=fun z=>c2 (Zdn hcm dp (D.isD.1 (S.is hc dY)).1 (z.trans bY.symm))
     have:=(D.bh hcm hp).2
     rw [if_neg a1,if_neg a2] at this
     rw [this];exact Int.le_refl _
end Mu
/- Layer 21: cuts in the code;refining,till no inner face turns to the right. -/
namespace Mu
theorem Zhv {l:List Za}{v d w:Nat}{o:Int}(hl:l.length≤4096) (hv:v<l.length) (hw:w<l.length) (hvw:v≠w) (hd:d<4) (ho:-2≤o) (h1:nx l v d=-1) (h2:nx l w ((d+2)%4)=-1) :
  Za2 ⟨l⟩ v d w o=some (0,⟨wth l v d w o⟩)∧ZQ l v d w o=some (wth l v d w o,0):=by
 simp only [Za2,ZQ]
 rw [mIs,mIs,obs]
 have hb:(((d:Int)+2).tmod 4)=(((d+2)%4:Nat):Int):=by
  match d,hd with
  | 0,_|1,_|2,_|3,_=>rfl
 have q1:((!decide (0≤(w:Int)∧(w:Int)<l.length∧0≤(d:Int)∧(d:Int)<4))||decide ((v:Int)=(w:Int))||decide (o < -2))=false:=by simp;omega
 have q2:(decide ((v:Int)<0)||decide ((l.length:Int)≤(v:Int))||decide ((w:Int)<0)||decide ((l.length:Int)≤(w:Int))||decide ((v:Int)=(w:Int))||decide ((d:Int)<0)||decide (3<(d:Int))||decide (o < -2))=false:=by simp;omega
 have f:(gi l v).Next.get (d:Int)=-1:=h1
 have g:(gi l w).Next.get (((d+2)%4:Nat):Int)=-1:=h2
 rw [Zce (show 0≤(v:Int)∧(v:Int)<l.length∧0≤(d:Int)∧(d:Int)<4 by omega),Bool.not_true,if_neg Bool.false_ne_true,obs,obs,q1,q2,if_neg Bool.false_ne_true,if_neg Bool.false_ne_true,Zr (by omega),Zr (by omega),Zr (by omega),Zr (by omega),itn,itn,ZoX (by omega),zh (by omega),hb,obs,Zr (by omega),Zr (by omega)]
 rw [ZaJ f,obs,obs,Zce g,Bool.not_true,if_neg Bool.false_ne_true,if_neg Bool.false_ne_true,ZpI (by omega) (by omega) (by omega),obs,Zjj (by omega) (by omega),obs]
 exact ⟨rfl,rfl⟩
theorem Zi6:∀ {R:List Int}{i a b:Int},Zez R i a=some b→0≤i→b=a∨(i≤b∧b<i+R.length∧gi R (b-i).toNat=-4)
 | [],i,a,b,h,_=>by
  simp only [Zez,Option.some.injEq] at h
  exact .inl h.symm
 | r::R,i,a,b,h,hi=>by
  have up:∀ {b:Int},(i+1≤b∧b<i+1+R.length∧gi R (b-(i+1)).toNat=-4)→(i≤b∧b<i+((r::R).length:Nat)∧gi (r::R) (b-i).toNat=-4):=by
   rintro b ⟨h1,h2,h3⟩
   refine ⟨by omega,by simp;omega,?_⟩
   rw [show (b-i).toNat=(b-(i+1)).toNat+1 by omega]
   exact h3
  rw [Zez] at h
  split at h
  ·rcases Zi6 h (by omega) with k|k
   ·exact .inl k
   ·exact .inr (up k)
  ·split at h
   ·rename_i c
    split at h
    ·cases h
    ·rcases Zi6 h (by omega) with k|k
     ·right
      refine ⟨by omega,by simp;omega,?_⟩
      rw [k,show (i-i).toNat=0 by omega]
      exact c
     ·exact .inr (up k)
   ·cases h
theorem ZkM {l:List Za}(h:Zcs l=0) (h1:l.length≠1) {i:Nat}(hi:i<(faces l).length):(Za8 l (gi (faces l) i)=4∧(i:Int)≠Zeh l)∨(Za8 l (gi (faces l) i)=-4∧(i:Int)=Zeh l):=by
 obtain ⟨k,w,o⟩:=Zff h
 have hV:=(ZgH.1 h).2.2 h1
 obtain ⟨a,q,ha⟩:=o h1
 have e:Zeh l=a:=by unfold Zeh;rw [if_neg h1,q]
 have at':gi ((faces l).map (Za8 l)) a.toNat=-4∧a.toNat<(faces l).length:=by
  unfold ZfC at q
  rcases Zi6 q (by omega) with z|⟨z1,z2,z3⟩
  ·omega
  ·rw [List.length_map] at z2
   rw [show (a-0).toNat=a.toNat by omega] at z3
   exact ⟨z3,by omega⟩
 rw [Zcf at'.2] at at'
 rw [e]
 rcases hV.1 i hi with r|r
 ·left
  refine ⟨r,fun z=>?_⟩
  have:a.toNat=i:=by omega
  rw [this] at at';omega
 ·right
  refine ⟨r,?_⟩
  have:=hV.2.2 i a.toNat hi at'.2 r at'.1
  omega
theorem Zk4 {l:List Za}{i:Nat}(h:Zfq l=some i):i<(faces l).length∧(i:Int)≠Zeh l∧∃ j,gF l i=some j∧j<(gi (faces l) i).length∧gi (tns l (gi (faces l) i)) j<0:=by
 unfold Zfq at h
 rw [List.find?_range_eq_some] at h
 obtain ⟨h1,h2,_⟩:=h
 refine ⟨by simpa using h2,?_,?_⟩
 ·intro q
  unfold gF at h1
  rw [if_pos q] at h1
  cases h1
 ·cases q:gF l i with
  | none=>rw [q] at h1;cases h1
  | some j =>
   refine ⟨j,rfl,?_⟩
   unfold gF at q
   split at q
   ·cases q
   ·unfold Zk6 at q
    rw [List.find?_range_eq_some] at q
    obtain ⟨k1,k2,_⟩:=q
    rw [List.mem_range,Zdb] at k2
    exact ⟨k2,by simpa using k1⟩
theorem Zrb {t:Int}:0≤ng t:=by unfold ng;split<;>omega
theorem ZjW {l:List Za}:0≤negs l:=by
 unfold negs
 have:∀ L:List Da,0≤(L.map fun p=>ng (tt l p)).sum:=by
  intro L
  induction L with
  | nil=>simp
  | cons a L ih=>rw [List.map_cons,List.sum_cons];have:=Zrb (t:=tt l a);omega
 exact this _
theorem Cut.err {l m:List Za}(C:Cut l m) (hl:l.length+1≤4096):Zcs m=0:=ZgH.2 ⟨Zdu.2 ⟨by rw [C.len];exact hl,C.ck⟩,C.whole,fun _=>C.val⟩
end Mu
/- Cells beside cells. -/
namespace Mu
def sh1 (n:Nat) (x:Int):Int:=if 0≤x then x+n else -1
def shC (n:Nat) (c:Za):Za:=⟨⟨sh1 n c.Next.a,sh1 n c.Next.b,sh1 n c.Next.c,sh1 n c.Next.d⟩,c.Owner⟩
def app (l k:List Za):List Za:=l++k.map (shC l.length)
theorem ZcC {l k:List Za}:(app l k).length=l.length+k.length:=by simp [app]
theorem ZjJ {l k:List Za}{i:Nat}(h:i<l.length):gi (app l k) i=gi l i:=Zdj h
theorem ZjK {l k:List Za}{i:Nat}(h:i<k.length):gi (app l k) (l.length+i)=shC l.length (gi k i):=by
 unfold app
 rw [ZcX,Zcf h]
theorem ZoB {n:Nat}{c:Za}{e:Nat}(he:e<4):(shC n c).Next.get (e:Int)=sh1 n (c.Next.get (e:Int))∧(shC n c).Owner.get (e:Int)=c.Owner.get (e:Int):=by
 match e,he with
 | 0,_|1,_|2,_|3,_=>exact ⟨rfl,rfl⟩
theorem Zdf {l k:List Za}{i e:Nat}(h:i<l.length):nx (app l k) i e=nx l i e∧ow (app l k) i e=ow l i e:=by
 unfold nx ow;rw [ZjJ h];exact ⟨rfl,rfl⟩
theorem Zd0 {l k:List Za}{i e:Nat}(h:i<k.length) (he:e<4):nx (app l k) (l.length+i) e=sh1 l.length (nx k i e)∧ow (app l k) (l.length+i) e=ow k i e:=by
 unfold nx ow;rw [ZjK h];exact ZoB he
theorem Ck.app {l k:List Za}(hl:Ck l) (hk:Ck k):Ck (app l k):=by
 refine ⟨fun v d hv hd=>?_⟩
 rw [ZcC] at hv ⊢
 by_cases c:v<l.length
 ·have a:=Zdf (k:=k) (e:=d) c
  rcases hl.s v d c hd with ⟨a1,a2⟩|⟨w,a1,a2,a3,a4,a5,a6⟩
  ·left;rw [a.1,a.2];exact ⟨a1,a2⟩
  ·right
   have b:=Zdf (k:=k) (e:=(d+2)%4) a2
   exact ⟨w,by rw [a.1];exact a1,by omega,a3,by rw [b.1];exact a4,by rw [b.2,a.2];exact a5,by rw [a.2];exact a6⟩
 ·obtain ⟨i,rfl⟩:∃ i,v=l.length+i:=⟨v-l.length,by omega⟩
  have hi:i<k.length:=by omega
  have a:=Zd0 (l:=l) hi hd
  rcases hk.s i d hi hd with ⟨a1,a2⟩|⟨w,a1,a2,a3,a4,a5,a6⟩
  ·left;rw [a.1,a.2,a1];exact ⟨by unfold sh1;rw [if_neg (by omega)],a2⟩
  ·right
   have b:=Zd0 (l:=l) (e:=(d+2)%4) a2 (by omega)
   refine ⟨l.length+w,by rw [a.1,a1];unfold sh1;rw [if_pos (by omega)];omega,by omega,by omega,by rw [b.1,a4];unfold sh1;rw [if_pos (by omega)];omega,by rw [b.2,a.2];exact a5,by rw [a.2];exact a6⟩
def shD (n:Nat) (p:Da):Da:=(n+p.1,p.2)
theorem Zkl {n:Nat}{p q:Da}(h:shD n p=shD n q):p=q:=by
 unfold shD at h
 injection h with h1 h2
 exact Prod.ext (by omega) h2
theorem Zfd {l k:List Za}{p:Da}:isD (app l k) p↔isD l p∨∃ q,isD k q∧p=shD l.length q:=by
 unfold isD
 rw [ZcC]
 constructor
 ·rintro ⟨h1,h2,h3⟩
  by_cases c:p.1<l.length
  ·left
   rw [(Zdf c).1] at h3
   exact ⟨c,h2,h3⟩
  ·right
   refine ⟨(p.1-l.length,p.2),⟨by dsimp only;omega,h2,?_⟩,Prod.ext (by unfold shD;dsimp only;omega) rfl⟩
   have:p.1=l.length+(p.1-l.length):=by omega
   rw [this,(Zd0 (by omega) h2).1] at h3
   unfold sh1 at h3
   split at h3
   ·assumption
   ·omega
 ·rintro (⟨h1,h2,h3⟩|⟨q,⟨h1,h2,h3⟩,rfl⟩)
  ·exact ⟨by omega,h2,by rw [(Zdf h1).1];exact h3⟩
  ·refine ⟨by unfold shD;dsimp only;omega,h2,?_⟩
   show 0≤nx (app l k) (l.length+q.1) q.2
   rw [(Zd0 h1 h2).1];unfold sh1;rw [if_pos h3];omega
theorem Zhm {l k:List Za}(hl:Ck l) {p:Da}(h:isD l p):bh (app l k) p=bh l p:=by
 have f:=h.fwd hl
 rw [ZcM,ZcM,(Zdf h.1).1]
 refine congrArg (Prod.mk _) (Zds (fun e he=>?_) h.2.1)
 rw [(Zdf f.1).1]
theorem ZgI {l k:List Za}(hk:Ck k) {p:Da}(h:isD k p):bh (app l k) (shD l.length p)=shD l.length (bh k p):=by
 have f:=h.fwd hk
 have h3:=h.2.2
 rw [ZcM,ZcM]
 have e:nx (app l k) (shD l.length p).1 (shD l.length p).2=((l.length+(nx k p.1 p.2).toNat:Nat):Int):=by
  show nx (app l k) (l.length+p.1) p.2=_
  rw [(Zd0 h.1 h.2.1).1];unfold sh1;rw [if_pos h3];omega
 rw [e,itn]
 unfold shD
 dsimp only
 refine congrArg (Prod.mk _) (Zds (fun e he=>?_) h.2.1)
 rw [(Zd0 f.1 he).1,decide_eq_decide]
 unfold sh1
 split
 ·rename_i c;exact ⟨fun _=>c,fun _=>by omega⟩
 ·rename_i c;exact ⟨fun q=>by omega,fun q=>absurd q c⟩
theorem Cyc.app1 {l k:List Za}(hl:Ck l) {f:List Da}(h:Cyc l f):Cyc (app l k) f∧Za8 (app l k) f=Za8 l f:=by
 refine ⟨⟨h.ne,h.nd,fun p hp=>Zfd.2 (.inl (h.is p hp)),fun p hp=>by rw [Zhm hl (h.is p hp)];exact h.cl p hp,fun C hC p hp q hq hCp=>h.one C (fun x hx hCx=>by rw [← Zhm (k:=k) hl hx];exact hC x (Zfd.2 (.inl hx)) hCx) p hp q hq hCp⟩,?_⟩
 unfold Za8 tns
 congr 1
 exact List.map_congr_left fun p hp=>by rw [Zhm hl (h.is p hp)]
theorem Cyc.app2 {l k:List Za}(hk:Ck k) {f:List Da}(h:Cyc k f):Cyc (app l k) (f.map (shD l.length))∧Za8 (app l k) (f.map (shD l.length))=Za8 k f:=by
 refine ⟨⟨by simpa using h.ne,?_,fun p hp=>?_,fun p hp=>?_,fun C hC p hp q hq hCp=>?_⟩,?_⟩
 ·exact List.pairwise_map.2 (h.nd.imp fun {a b} hne he=>hne (Zkl he))
 ·obtain ⟨q,hq,rfl⟩:=List.mem_map.1 hp
  exact Zfd.2 (.inr ⟨q,h.is q hq,rfl⟩)
 ·obtain ⟨q,hq,rfl⟩:=List.mem_map.1 hp
  rw [ZgI hk (h.is q hq)]
  exact List.mem_map.2 ⟨_,h.cl q hq,rfl⟩
 ·obtain ⟨p',hp',rfl⟩:=List.mem_map.1 hp
  obtain ⟨q',hq',rfl⟩:=List.mem_map.1 hq
  exact h.one (fun x=>C (shD l.length x)) (fun x hx hCx=>by
   rw [← ZgI hk hx];exact hC _ (Zfd.2 (.inr ⟨x,hx,rfl⟩)) hCx) p' hp' q' hq' hCp
 ·unfold Za8 tns
  rw [List.map_map]
  congr 1
  refine List.map_congr_left fun p hp=>?_
  show tn (shD l.length p).2 (bh (app l k) (shD l.length p)).2=_
  rw [ZgI hk (h.is p hp)]
  rfl
theorem Lp.app1 {l k:List Za}(hl:Ck l) {f:List Da}(h:Lp l f):Lp (app l k) f:=by
 have:∀ {s:List Da}{x y:Da},Pt l x s y→Pt (app l k) x s y:=by
  intro s
  induction s with
  | nil=>intro x y h;exact h
  | cons a s ih =>
   intro x y h
   obtain ⟨h1,h2,h3⟩:=h
   exact ⟨h1,Zfd.2 (.inl h2),by rw [Zhm hl h2];exact ih h3⟩
 obtain ⟨x,hx⟩:=h.pt
 exact ⟨h.ne,h.nd,x,this hx⟩
theorem Lp.app2 {l k:List Za}(hk:Ck k) {f:List Da}(h:Lp k f):Lp (app l k) (f.map (shD l.length)):=by
 have:∀ {s:List Da}{x y:Da},Pt k x s y→Pt (app l k) (shD l.length x) (s.map (shD l.length)) (shD l.length y):=by
  intro s
  induction s with
  | nil=>intro x y h;exact congrArg (shD l.length) h
  | cons a s ih =>
   intro x y h
   obtain ⟨h1,h2,h3⟩:=h
   exact ⟨by rw [h1],Zfd.2 (.inr ⟨a,h2,rfl⟩),by rw [ZgI hk h2];exact ih h3⟩
 obtain ⟨x,hx⟩:=h.pt
 exact ⟨by simpa using h.ne,(Cyc.app2 (l:=l) hk h.cyc).1.nd,_,this hx⟩
theorem Fcs.app {l k:List Za}(hl:Ck l) (hk:Ck k) {F G:List (List Da)}(hF:Fcs l F) (hG:Fcs k G):Fcs (app l k) (F++G.map (List.map (shD l.length))):=by
 refine ⟨fun f hf=>?_,?_,fun p hp=>?_⟩
 ·rcases List.mem_append.1 hf with h|h
  ·exact (Cyc.app1 hl (hF.cy f h)).1
  ·obtain ⟨g,hg,rfl⟩:=List.mem_map.1 h
   exact (Cyc.app2 hk (hG.cy g hg)).1
 ·have e:(G.map (List.map (shD l.length))).flatten=G.flatten.map (shD l.length):=by rw [List.map_flatten]
  rw [List.flatten_append,e,List.nodup_append]
  refine ⟨hF.nd,List.pairwise_map.2 (hG.nd.imp fun {a b} hne he=>hne (Zkl he)),fun a ha b hb q=>?_⟩
  obtain ⟨f,hf,haf⟩:=List.mem_flatten.1 ha
  obtain ⟨b',_,rfl⟩:=List.mem_map.1 hb
  have:=((hF.cy f hf).is a haf).1
  rw [q] at this
  unfold shD at this
  dsimp only at this
  omega
 ·rw [List.flatten_append,List.mem_append]
  rcases Zfd.1 hp with h|⟨q,h,rfl⟩
  ·exact .inl (hF.al p h)
  ·right
   obtain ⟨g,hg,hq⟩:=List.mem_flatten.1 (hG.al q h)
   exact List.mem_flatten.2 ⟨g.map (shD l.length),List.mem_map.2 ⟨g,hg,rfl⟩,List.mem_map.2 ⟨q,hq,rfl⟩⟩
theorem ZiH {f:Nat→Int}{n:Nat}:∀ m,sg f (n+m)=sg f n+sg (fun i=>f (n+i)) m
 | 0=>by simp [sg]
 | m+1=>by rw [← Nat.add_assoc,sg,ZiH m,sg];omega
theorem Zkz {l k:List Za}{u:Nat}(h:u<l.length):deg (app l k) u=deg l u:=by
 rw [Zed,Zed,(Zdf h).1,(Zdf h).1,(Zdf h).1,(Zdf h).1]
theorem Zk0 {l k:List Za}{u:Nat}(h:u<k.length):deg (app l k) (l.length+u)=deg k u:=by
 have e:∀ e,e<4→(if 0≤nx (app l k) (l.length+u) e then (1:Int) else 0)=if 0≤nx k u e then 1 else 0:=by
  intro e he
  rw [(Zd0 h he).1]
  unfold sh1
  by_cases c:0≤nx k u e
  ·rw [if_pos c,if_pos (by omega),if_pos c]
  ·rw [if_neg c,if_neg (by omega),if_neg c]
 rw [Zed,Zed,e 0 (by omega),e 1 (by omega),e 2 (by omega),e 3 (by omega)]
theorem ZnZ {l k:List Za}(hl:Ck l) (hk:Ck k):chi (app l k)=chi l+chi k:=by
 have ln:=((Fcs.faces hl).app hl hk (Fcs.faces hk)).len (Fcs.faces (hl.app hk))
 rw [List.length_append,List.length_map] at ln
 have a:cV (app l k)=cV l+cV k:=by
  unfold cV
  rw [ZcC,ZiH,ZcK (f:=fun w=>if deg (app l k) w=0 then (0:Int) else 1) (g:=fun w=>if deg l w=0 then (0:Int) else 1) fun u hu=>by rw [Zkz hu]]
  congr 1
  exact ZcK fun u hu=>by rw [Zk0 hu]
 have b:cD (app l k)=cD l+cD k:=by
  unfold cD
  rw [ZcC,ZiH,ZcK (f:=deg (app l k)) (g:=deg l) fun u hu=>Zkz hu]
  congr 1
  exact ZcK fun u hu=>Zk0 hu
 unfold chi
 rw [a,b,← ln]
 omega
theorem Cyc.of_app {l k:List Za}(hl:Ck l) (hk:Ck k) {f:List Da}(h:Cyc (app l k) f):(∃ g,Cyc l g∧Za8 (app l k) f=Za8 l g)∨∃ g,Cyc k g∧Za8 (app l k) f=Za8 k g:=by
 obtain ⟨p,hp⟩:=List.exists_mem_of_ne_nil f h.ne
 have F:=(Fcs.faces hl).app hl hk (Fcs.faces hk)
 obtain ⟨g,hg,hpg⟩:=List.mem_flatten.1 (F.al p (h.is p hp))
 have e:=Zdt (l:=app l k) (h.perm (F.cy g hg) hp hpg)
 rcases List.mem_append.1 hg with q|q
 ·have c:=Zc9 hl g q
  exact .inl ⟨g,c,by rw [e,(Cyc.app1 hl c).2]⟩
 ·obtain ⟨g',hg',rfl⟩:=List.mem_map.1 q
  have c:=Zc9 hk g' hg'
  exact .inr ⟨g',c,by rw [e,(Cyc.app2 hk c).2]⟩
theorem Zlw {n:Nat}{c:Za}{d w:Nat}{o:Int}(hd:d<4):shC n (wC1 c d w o)=wC1 (shC n c) d ((n+w:Nat):Int) o:=by
 have e:sh1 n (w:Int)=((n+w:Nat):Int):=by unfold sh1;rw [if_pos (by omega)];omega
 match d,hd with
 | 0,_|1,_|2,_|3,_=>unfold shC wC1;simp only [A4.set];simp [e]
end Mu
/- Layer 21: cells framed. -/
namespace Mu
theorem Zmb {l k:List Za}{a b d:Nat}{o:Int}(ha:a<k.length) (hb:b<k.length) (hd:d<4):wth (app l k) ((l.length+a:Nat):Int) d ((l.length+b:Nat):Int) o=app l (wth k a d b o):=by
 refine ZeQ (by rw [Za5,ZcC,ZcC,Za5]) fun i hi=>?_
 rw [Za5,ZcC] at hi
 have e1:gi (wth (app l k) ((l.length+a:Nat):Int) d ((l.length+b:Nat):Int) o) i=wC (app l k) ((l.length+a:Nat):Int) d ((l.length+b:Nat):Int) o i:=by
  unfold wth;rw [ZcE (by rw [ZcC];exact hi)]
 rw [e1]
 by_cases c:i<l.length
 ·rw [ZjJ c]
  unfold wC
  dsimp only
  rw [if_neg (by omega),if_neg (by omega),ZjJ c]
 ·obtain ⟨j,rfl⟩:∃ j,i=l.length+j:=⟨i-l.length,by omega⟩
  have hj:j<k.length:=by omega
  rw [ZjK (by rw [Za5];exact hj)]
  have e2:gi (wth k a d b o) j=wC k a d b o j:=by unfold wth;rw [ZcE hj]
  rw [e2]
  unfold wC
  dsimp only
  rw [ZjK hj]
  have m:((d:Int)+2).tmod 4=(((d+2)%4:Nat):Int):=tm2 hd
  rw [m]
  by_cases c1:j=b
  ·subst c1
   rw [if_pos rfl,if_pos rfl,Zlw (show (d+2)%4<4 by omega)]
   by_cases c2:j=a
   ·subst c2
    rw [if_pos rfl,if_pos rfl,Zlw hd]
   ·rw [if_neg (by omega),if_neg (by omega)]
  ·rw [if_neg (show ¬ (((l.length+j:Nat):Int)=((l.length+b:Nat):Int)) by omega),if_neg (show ¬ ((j:Int)=(b:Int)) by omega)]
   by_cases c2:j=a
   ·subst c2
    rw [if_pos rfl,if_pos rfl,Zlw hd]
   ·rw [if_neg (by omega),if_neg (by omega)]
def frK (d:Nat):Nat→List Za
 | 0=>List.replicate 5 noC
 | j+1=>if (j+3)%4=d then wth (wth (frK d j) j j 4 (-2)) 4 j (((j+1)%4:Nat):Int) (-2) else wth (frK d j) j j (((j+1)%4:Nat):Int) (-2)
theorem Zhr {d:Nat}:∀ j,(frK d j).length=5
 | 0=>by simp [frK]
 | j+1=>by rw [frK];split<;>simp [Za5,Zhr j]
theorem Zof:∀ d:Fin 4,∀ j:Fin 5,Zeb (frK d.1 j.1)=0:=by decide +kernel
theorem ZpB {d j:Nat}(hd:d<4) (hj:j<5):Ck (frK d j):=(Zdu.1 (Zof ⟨d,hd⟩ ⟨j,hj⟩)).2
theorem Zmh:∀ d:Fin 4,∀ j:Fin 4,nx (frK d.1 j.1) j.1 j.1=-1∧nx (frK d.1 j.1) ((j.1+1)%4) ((j.1+2)%4)=-1∧((j.1+3)%4=d.1→nx (frK d.1 j.1) 4 ((j.1+2)%4)=-1):=by decide +kernel
theorem ZmY:∀ d:Fin 4,∀ j:Fin 4,(j.1+3)%4=d.1→nx (wth (frK d.1 j.1) j.1 j.1 4 (-2)) 4 j.1=-1∧nx (wth (frK d.1 j.1) j.1 j.1 4 (-2)) ((j.1+1)%4) ((j.1+2)%4)=-1:=by decide +kernel
theorem ZmZ:∀ d:Fin 4,∃ a:Fin 4,ZfC (frK d.1 4)=some (a.1:Int):=by decide +kernel
theorem Zog {d:Nat}(hd:d<4):Val (frK d 4):=by
 obtain ⟨a,e⟩:=ZmZ ⟨d,hd⟩
 exact ZgA.1 ⟨_,e,by omega⟩
instance Pt.dec {l:List Za}:∀ (s:List Da) (x y:Da),Decidable (Pt l x s y)
 | [],x,y=>inferInstanceAs (Decidable (x=y))
 | a::s,x,y=>by
  have:=Pt.dec (l:=l) s (bh l a) y
  exact inferInstanceAs (Decidable (x=a∧isD l a∧Pt l (bh l a) s y))
def frT (d:Nat):List Da:=[(4,(d+1)%4),((d+2)%4,(d+2)%4),((d+3)%4,(d+3)%4),(d,d)]
def frY (d:Nat):Da:=((d+1)%4,(d+1)%4)
theorem ZjH:∀ d:Fin 4,Pt (frK d.1 4) (4,(d.1+1)%4) (frT d.1++[frY d.1]) (4,(d.1+1)%4)∧(frT d.1++[frY d.1]).Nodup∧Za8 (frK d.1 4) (frT d.1++[frY d.1])=4∧tt (frK d.1 4) (frY d.1)=0∧nx (frK d.1 4) (frY d.1).1 (frY d.1).2=4∧nx (frK d.1 4) 4 ((d.1+2)%4)=-1∧isD (frK d.1 4) (frY d.1):=by decide +kernel
theorem ZpA:∀ d:Fin 4,Adj (frK d.1 4) 4 ((d.1+2)%4)∧Adj (frK d.1 4) ((d.1+2)%4) ((d.1+3)%4)∧Adj (frK d.1 4) ((d.1+3)%4) d.1∧Adj (frK d.1 4) d.1 ((d.1+1)%4):=by
 have:∀ d:Fin 4,nx (frK d.1 4) 4 ((d.1+1)%4)=((d.1+2)%4:Nat)∧nx (frK d.1 4) ((d.1+2)%4) ((d.1+2)%4)=((d.1+3)%4:Nat)∧nx (frK d.1 4) ((d.1+3)%4) ((d.1+3)%4)=d.1∧nx (frK d.1 4) d.1 d.1=((d.1+1)%4:Nat):=by decide +kernel
 intro d
 obtain ⟨a,b,c,e⟩:=this d
 have:=d.2
 exact ⟨⟨_,by omega,a⟩,⟨_,by omega,b⟩,⟨_,by omega,c⟩,⟨_,by omega,e⟩⟩
theorem ZlE {l:List Za}:∀ n,app l (List.replicate n noC)=l++List.replicate n noC:=by
 intro n
 unfold app
 rw [List.map_replicate]
 rfl
def frm (l:List Za) (v d:Nat):List Za:=wth (app l (frK d 4)) v d ((l.length+4:Nat):Int) (-2)
theorem ZpH {l:List Za}(hl:l.length≤4000) {p:Da}(hp:isD l p) (hc:Ck l) (hn:nx l (nx l p.1 p.2).toNat p.2=-1):Zbo ⟨l⟩ (dt p)=some ⟨frm l (nx l p.1 p.2).toNat p.2⟩:=by
 have hd:=hp.2.1
 have f:=hp.fwd hc
 have n0:=hp.2.2
 have L0:ZJ Zbo.s0 big (l,0)=some (l++List.replicate 5 noC):=by
  refine Zcc (fun j:Nat=>(l++List.replicate j noC,(j:Int))) (n:=5) (Zbg (by omega)) (by simp) (fun j hj=>?_) ?_
  ·simp only [Zbo.s0]
   rw [Z7 (by omega),ZqJ (by simp;omega),obs]
   dsimp only
   rw [zh (by omega)]
   congr 3
   rw [List.append_assoc,List.replicate_succ']
  ·simp only [Zbo.s0]
   rw [Z8 (by omega)]
 have L1:ZJ (Zbo.s1 (dt p) (l.length:Int)) big (l++List.replicate 5 noC,0)=some (app l (frK p.2 4)):=by
  refine Zcc (fun j:Nat=>(app l (frK p.2 j),(j:Int))) (n:=4) (Zbg (by omega)) (by rw [frK,ZlE];rfl) (fun j hj=>?_) ?_
  ·obtain ⟨g1,g2,g3⟩:=Zmh ⟨p.2,hd⟩ ⟨j,hj⟩
   have mid:=ZmY ⟨p.2,hd⟩ ⟨j,hj⟩
   dsimp only at g1 g2 g3 mid
   have kl:=Zhr (d:=p.2) j
   have t3:((j:Int)+3).tmod 4=(((j+3)%4:Nat):Int):=by rw [Int.tmod_eq_emod_of_nonneg (by omega)];rfl
   have t1:((j:Int)+1).tmod 4=(((j+1)%4:Nat):Int):=by rw [Int.tmod_eq_emod_of_nonneg (by omega)];rfl
   have sN:∀ {k:List Za}{a e:Nat},a<k.length→e<4→nx k a e=-1→nx (app l k) (l.length+a) e=-1:=by
    intro k a e ha he h
    rw [(Zd0 ha he).1,h];rfl
   have jo:∀ {k:List Za}{a b e:Nat},k.length=5→a<5→b<5→a≠b→e<4→nx k a e=-1→nx k b ((e+2)%4)=-1→Za2 ⟨app l k⟩ ((l.length+a:Nat):Int) e ((l.length+b:Nat):Int) (-2)=some (0,⟨app l (wth k a e b (-2))⟩):=by
    intro k a b e hk ha hb hab he h1 h2
    rw [(Zhv (by rw [ZcC];omega) (by rw [ZcC];omega) (by rw [ZcC];omega) (by omega) he (by omega) (sN (by omega) he h1) (sN (by omega) (by omega) h2)).1,Zmb (by omega) (by omega) he]
   simp only [Zbo.s1]
   rw [Z7 (by omega),zh (by omega),zh (by omega),zh (by omega),t1,zh (by omega),t3,zh (by omega)]
   rw [show (l.length:Int)+(j:Int)=((l.length+j:Nat):Int) by omega,show (l.length:Int)+(((j+1)%4:Nat):Int)=((l.length+(j+1)%4:Nat):Int) by omega,show (l.length:Int)+4=((l.length+4:Nat):Int) by omega]
   have ed:(dt p).Dir=(p.2:Int):=rfl
   rw [ed]
   by_cases c:(j+3)%4=p.2
   ·obtain ⟨m1,m2⟩:=mid c
    rw [Z7 (by omega),jo kl (by omega) (by omega) (by omega) hj g1 (g3 c),obs]
    dsimp only
    rw [show ((4:Nat):Int)=4 from rfl,jo (by rw [Za5];exact kl) (by omega) (by omega) (by omega) hj m1 m2,obs]
    dsimp only
    rw [frK,if_pos c]
    rfl
   ·rw [Z8 (by omega),jo kl (by omega) (by omega) (by omega) hj g1 g2,obs]
    dsimp only
    rw [frK,if_neg c]
    rfl
  ·simp only [Zbo.s1]
   rw [Z8 (by omega)]
 unfold Zbo
 show (Zbq ⟨l⟩ (p.1:Int) (p.2:Int)).bind _=_
 rw [Znj hp.1 hd,if_neg (by omega),obs]
 dsimp only
 rw [show Zbs ⟨l⟩=some (l.length:Int) from rfl,obs,L0,obs,L1,obs,zh (by omega)]
 have ev:nx l p.1 p.2=((nx l p.1 p.2).toNat:Nat):=by omega
 have h4:=(ZjH ⟨p.2,hd⟩).2.2.2.2.2.1
 dsimp only at h4
 have kl:=Zhr (d:=p.2) 4
 have J:=(Zhv (l:=app l (frK p.2 4)) (v:=(nx l p.1 p.2).toNat) (d:=p.2) (w:=l.length+4) (o:=-2) (by rw [ZcC];omega) (by rw [ZcC];omega) (by rw [ZcC];omega) (by omega) hd (by omega) (by rw [(Zdf f.1).1];exact hn) (by rw [(Zd0 (by omega) (by omega)).1,h4];rfl)).1
 show (Za2 ⟨app l (frK p.2 4)⟩ (nx l p.1 p.2) (p.2:Int) ((l.length:Int)+4) (-2)).bind _=_
 rw [ev,show (l.length:Int)+4=((l.length+4:Nat):Int) by omega,J,obs]
 rfl
end Mu
/- Layer 21: framed cells can be drawn. -/
namespace Mu
def frO (d:Nat):List Da:=((frT d++[frY d]).map (opp (frK d 4))).reverse
theorem Zoh:∀ d:Fin 4,Pt (frK d.1 4) ((frO d.1).headD (0,0)) (frO d.1) ((frO d.1).headD (0,0))∧(frO d.1).Nodup∧Za8 (frK d.1 4) (frO d.1)=-4∧((frO d.1).map fun p=>ng (tt (frK d.1 4) p)).sum=4∧frY d.1 ∉ frO d.1∧(frO d.1).length=5:=by decide +kernel
theorem Del.bridge {l m:List Za}(hc:Ck l) {v d w:Nat}(D:Del l m v d w) {S T:List Da}{x y:Da}(hS:Lp m (S++[x])) (hT:Lp m (T++[y])) (hdj:∀ a∈S++[x],a ∉ T++[y]) (hx:Mu.bh l x=(v,d)) (hy:Mu.bh l y=(w,(d+2)%4)) :
  Lp l ((v,d)::(T++[y])++(w,(d+2)%4)::(S++[x]))∧Za8 l ((v,d)::(T++[y])++(w,(d+2)%4)::(S++[x]))=Za8 m (T++[y])+Za8 m (S++[x])+4:=by
 obtain ⟨p,P⟩:=hS.pt
 obtain ⟨q,Q⟩:=hT.pt
 obtain ⟨x',P1,P2⟩:=Pt.app.1 P
 obtain ⟨y',Q1,Q2⟩:=Pt.app.1 Q
 rw [Pt,Pt] at P2 Q2
 obtain ⟨rfl,dx,ex⟩:=P2
 obtain ⟨rfl,dy,ey⟩:=Q2
 have ee:=D.ee hc
 have bx:=D.bh hc dx
 have by':=D.bh hc dy
 rw [hx,if_pos rfl,if_pos rfl] at bx
 rw [hy,if_neg ee,if_pos rfl,if_neg ee,if_pos rfl] at by'
 have n1:=List.nodup_append.1 hS.nd
 have n2:=List.nodup_append.1 hT.nd
 have iS:=hS.is
 have iT:=hT.is
 have ne1:∀ a∈S,Mu.bh l a≠(v,d)∧Mu.bh l a≠(w,(d+2)%4):=by
  intro a ha
  have da:=(D.isD.1 (iS a (by simp [ha]))).1
  refine ⟨fun z=>?_,fun z=>?_⟩
  ·exact n1.2.2 a ha x' (by simp) (Zdn hc da (D.isD.1 dx).1 (z.trans hx.symm))
  ·have:=Zdn hc da (D.isD.1 dy).1 (z.trans hy.symm)
   exact hdj a (by simp [ha]) (by simp [this])
 have ne2:∀ a∈T,Mu.bh l a≠(v,d)∧Mu.bh l a≠(w,(d+2)%4):=by
  intro a ha
  have da:=(D.isD.1 (iT a (by simp [ha]))).1
  refine ⟨fun z=>?_,fun z=>?_⟩
  ·have:=Zdn hc da (D.isD.1 dx).1 (z.trans hx.symm)
   exact hdj x' (by simp) (by simp [← this,ha])
  ·exact n2.2.2 a ha y' (by simp) (Zdn hc da (D.isD.1 dy).1 (z.trans hy.symm))
 obtain ⟨S1,S2⟩:=D.back hc P1 ne1
 obtain ⟨T1,T2⟩:=D.back hc Q1 ne2
 have e1:Mu.bh l (w,(d+2)%4)=p:=by rw [← bx.1,ex]
 have e2:Mu.bh l (v,d)=q:=by rw [← by'.1,ey]
 have notm:∀ {s:List Da},(∀ a∈s,Mu.isD m a)→(v,d) ∉ s∧(w,(d+2)%4) ∉ s:=fun h=>⟨fun q=>(D.isD.1 (h _ q)).2.1 rfl,fun q=>(D.isD.1 (h _ q)).2.2 rfl⟩
 have mS:=notm iS
 have mT:=notm iT
 refine ⟨⟨by simp,?_,(v,d),?_⟩,?_⟩
 ·rw [List.cons_append,List.nodup_cons,List.nodup_append,List.nodup_cons]
  refine ⟨fun z=>?_,hT.nd,⟨mS.2,hS.nd⟩,fun a ha b hb z=>?_⟩
  ·rcases List.mem_append.1 z with z|z
   ·exact mT.1 z
   ·rcases List.mem_cons.1 z with z|z
    ·exact ee z.symm
    ·exact mS.1 z
  ·subst z
   rcases List.mem_cons.1 hb with z|z
   ·rw [z] at ha;exact mT.2 ha
   ·exact hdj a z ha
 ·rw [List.cons_append]
  refine ⟨rfl,D.e,?_⟩
  rw [e2]
  refine Pt.app.2 ⟨(w,(d+2)%4),Pt.app.2 ⟨y',T1,rfl,(D.isD.1 dy).1,hy⟩,rfl,D.e' hc,?_⟩
  rw [e1]
  exact Pt.app.2 ⟨x',S1,rfl,(D.isD.1 dx).1,hx⟩
 ·simp only [List.cons_append,Zb0,Zdk,ZdO]
  have r1:=bx.2
  have r2:=by'.2
  omega
structure Framed (l F:List Za) (v d:Nat):Prop where
 ck:Ck F
 val:Val F
 whole:Mu.whole F
 len:F.length=l.length+5
 out:∃ g,Cyc F g∧Za8 F g=-4∧(g.map fun p=>ng (tt F p)).sum=4
 old:∀ u e,u<l.length→e<4→(u=v∧e=d→nx l u e=-1)∧(¬ (u=v∧e=d)→nx F u e=nx l u e∧ow F u e=ow l u e)
theorem ZpC {l:List Za}(hc:Ck l) (hV:Val l) (hW:whole l) {f:List Da}(hf:Cyc l f) (h4:Za8 l f=-4) {x:Da}(hx:x∈f) (tx:tt l x<0):Framed l (frm l (nx l x.1 x.2).toNat x.2) (nx l x.1 x.2).toNat x.2:=by
 have dx:=hf.is x hx
 have hd:=dx.2.1
 have fx:=dx.fwd hc
 have tf:=Zkn hd tx
 have lv:=hc.lt fx.1 hd
 have hn:nx l (nx l x.1 x.2).toNat x.2=-1:=by omega
 generalize hv:(nx l x.1 x.2).toNat=v at *
 have d4:x.2<4:=hd
 obtain ⟨a1,a2,a3,a4,a5,a6,a7⟩:=ZjH ⟨x.2,hd⟩
 obtain ⟨o1,o2,o3,o4,o5,o6⟩:=Zoh ⟨x.2,hd⟩
 obtain ⟨j1,j2,j3,j4⟩:=ZpA ⟨x.2,hd⟩
 dsimp only at a1 a2 a3 a4 a5 a6 a7 o1 o2 o3 o4 o5 o6 j1 j2 j3 j4
 have hk:Ck (frK x.2 4):=ZpB hd (by omega)
 have kV:=Zog hd
 have kl:=Zhr (d:=x.2) 4
 generalize hd':x.2=d at *
 have LT:Lp (frK d 4) (frT d++[frY d]):=⟨by simp,a2,_,a1⟩
 have LO:Lp (frK d 4) (frO d):=⟨fun z=>by rw [z] at o6;simp at o6,o2,_,o1⟩
 have h0:=hc.app hk
 have al:=ZcC (l:=l) (k:=frK d 4)
 have vlt:v<(app l (frK d 4)).length:=by rw [al];have:=fx.1;omega
 have wlt:l.length+4<(app l (frK d 4)).length:=by rw [al];omega
 have vw:v≠l.length+4:=by have:=fx.1;omega
 have f1:nx (app l (frK d 4)) v d=-1:=by rw [(Zdf fx.1).1];exact hn
 have f2:nx (app l (frK d 4)) (l.length+4) ((d+2)%4)=-1:=by rw [(Zd0 (by omega) (by omega)).1,a6];rfl
 have D:Del (frm l v d) (app l (frK d 4)) v d (l.length+4):=Del.of_wth h0 vlt wlt vw hd f1 f2
 have hF:Ck (frm l v d):=h0.wth vlt wlt vw hd f1 f2 (by omega)
 have flen:(frm l v d).length=l.length+5:=by unfold frm;rw [Za5,al];omega
 have fnx:∀ u e,u<l.length→e<4→(u=v∧e=d→nx l u e=-1)∧(¬ (u=v∧e=d)→nx (frm l v d) u e=nx l u e∧ow (frm l v d) u e=ow l u e):=by
  intro u e hu he
  refine ⟨fun z=>by rw [z.1,z.2];exact hn,fun z=>?_⟩
  have:=ZeU (l:=app l (frK d 4)) (o:=-2) vlt wlt vw hd (i:=u) (e:=e) (by rw [al];omega) he
  rw [if_neg z,if_neg (by omega),if_neg z,if_neg (by omega),(Zdf hu).1,(Zdf hu).2] at this
  exact this
 -- both loops
 obtain ⟨t,ht,pe⟩:=hf.lp hc hx
 have LS0:Lp l (t++[x]):=by
  have:=Lp.turn (s:=[x]) (t:=t) (by simpa using ht)
  exact this
 have LS:=LS0.app1 (k:=frK d 4) hc
 have LT':=LT.app2 (l:=l) hk
 rw [List.map_append,List.map_cons,List.map_nil] at LT'
 have rS:Za8 (app l (frK d 4)) (t++[x])=-4:=by
  rw [(Cyc.app1 hc LS0.cyc).2,← h4]
  refine Zdt ((List.perm_append_comm (l₁:=t) (l₂:=[x])).trans pe.symm)
 have rT:Za8 (app l (frK d 4)) ((frT d).map (shD l.length)++[shD l.length (frY d)])=4:=by
  have:=(Cyc.app2 (l:=l) hk LT.cyc).2
  rw [List.map_append,List.map_cons,List.map_nil] at this
  rw [this,a3]
 have dj:∀ a∈t++[x],a ∉ (frT d).map (shD l.length)++[shD l.length (frY d)]:=by
  intro a ha hb
  have h1:=(LS0.is a ha).1
  have:a∈(frT d++[frY d]).map (shD l.length):=by rw [List.map_append];exact hb
  obtain ⟨b,_,rfl⟩:=List.mem_map.1 this
  unfold shD at h1
  dsimp only at h1
  omega
 have isx:isD (app l (frK d 4)) x:=Zfd.2 (.inl dx)
 have isy:isD (app l (frK d 4)) (shD l.length (frY d)):=Zfd.2 (.inr ⟨_,a7,rfl⟩)
 have tx0:tt (app l (frK d 4)) x=tt l x:=by unfold tt;rw [Zhm hc dx]
 have ty0:tt (app l (frK d 4)) (shD l.length (frY d))=0:=by
  rw [← a4];unfold tt;rw [ZgI hk a7];rfl
 have ty1:tn (frY d).2 ((d+2)%4)=1:=by unfold frY tn;dsimp only;rw [if_neg (by omega),if_pos (by omega)]
 have td:tn d d=0:=by unfold tn;rw [if_pos rfl]
 have bX:bh (frm l v d) x=(v,d):=(D.enter hF h0 isx).1 (by rw [(Zdf dx.1).1];rw [hd'];exact hv) (by rw [tx0,hd',td];exact tx)
 have bY:bh (frm l v d) (shD l.length (frY d))=(l.length+4,(d+2)%4):=by
  refine (D.enter hF h0 isy).2 ?_ ?_
  ·show (nx (app l (frK d 4)) (l.length+(frY d).1) (frY d).2).toNat=_
   rw [(Zd0 a7.1 a7.2.1).1,a5]
   unfold sh1;rw [if_pos (by omega)];omega
  ·rw [ty0]
   show 0<tn (frY d).2 ((d+2)%4)
   omega
 obtain ⟨LB,rB⟩:=D.bridge hF LS LT' dj bX bY
 rw [rS,rT] at rB
 obtain ⟨V1,V2⟩:=(Zei hc).1 hV
 obtain ⟨K1,K2⟩:=(Zei hk).1 kV
 have X:chi (frm l v d)=4:=by
  have c0:=ZnZ hc hk
  rw [V2,K2] at c0
  have b1:=D.cD hF
  have b2:=D.cV hF
  have e1:=ZeO hF D.e
  have e2:=ZeO hF (D.e' hF)
  rw [D.opp] at e1
  rw [← D.opp,Ze7 hF D.e,D.opp] at e2
  dsimp only at e1 e2
  have be:bh (frm l v d) (v,d)≠(l.length+4,(d+2)%4):=by
   intro z
   have:=(D.bh hF isy).1
   rw [bY,if_neg (D.ee hF),if_pos rfl,z] at this
   exact (D.isD.1 (isy.bh h0)).2.2 this
  have be':bh (frm l v d) (l.length+4,(d+2)%4)≠(v,d):=by
   intro z
   have:=(D.bh hF isx).1
   rw [bX,if_pos rfl,z] at this
   exact (D.isD.1 (isx.bh h0)).2.1 this
  cases D.kind hF with
  | two A B R hA hB hl hm' rot same n1 n2 lm =>
   exfalso
   have:=LB.cyc.sub hA.cyc (p:=(v,d)) (by simp) (by simp) (l.length+4,(d+2)%4) (by simp)
   have nd:=hl.nd
   rw [List.flatten_cons,List.flatten_cons,List.nodup_append] at nd
   exact nd.2.2 _ this _ (by simp) rfl
  | one A B R hA hl hm' rot same n1 n2 lA lB =>
   have g1:=hl.len (Fcs.faces hF)
   have g2:=hm'.len (Fcs.faces h0)
   simp only [List.length_cons] at g1 g2
   rw [if_neg fun q=>n2 (e2.2 q),if_neg fun q=>n1 (e1.2 q)] at b2
   unfold chi at c0 ⊢
   omega
  | leaf A R hA hl hm' rot same n =>
   rcases n with ⟨n1,_⟩|⟨_,n2⟩
   ·exact absurd n1 be
   ·exact absurd n2 be'
  | iso R hA hl hm' same n1 n2=>exact absurd n1 be
 refine ⟨hF,(Zei hF).2 ⟨fun g hg=>?_,X⟩,?_,flen,?_,fnx⟩
 ·by_cases c1:(v,d)∈g
  ·rw [Zdt (hg.perm LB.cyc c1 (by simp)),rB];left;rfl
  ·by_cases c2:(l.length+4,(d+2)%4)∈g
   ·rw [Zdt (hg.perm LB.cyc c2 (by simp)),rB];left;rfl
   ·obtain ⟨q1,q2⟩:=D.keep hF hg c1 c2
    rw [← q2]
    rcases Cyc.of_app hc hk q1 with ⟨g',h1,h2⟩|⟨g',h1,h2⟩
    ·rw [h2];exact V1 g' h1
    ·rw [h2];exact K1 g' h1
 ·have hl0:=ZfT hW
  have adj:∀ a b,a<l.length→Adj l a b→Adj (frm l v d) a b:=by
   rintro a b ha ⟨e,he,q⟩
   refine ⟨e,he,?_⟩
   have:=fnx a e ha he
   by_cases z:a=v∧e=d
   ·have:=this.1 z;omega
   ·rw [(this.2 z).1];exact q
  have reach:∀ u,u<l.length→∃ n,Rch (frm l v d) 0 n u:=by
   intro u hu
   obtain ⟨n,r⟩:=ZgQ hW hu
   exact ⟨n,r.mono adj hc hl0⟩
  have adK:∀ {a b},a<5→Adj (frK d 4) a b→Adj (frm l v d) (l.length+a) (l.length+b):=by
   rintro a b ha ⟨e,he,q⟩
   refine ⟨e,he,?_⟩
   have n0:=(Zd0 (l:=l) (k:=frK d 4) (i:=a) (e:=e) (by omega) he).1
   rw [q] at n0
   have n1:nx (app l (frK d 4)) (l.length+a) e=((l.length+b:Nat):Int):=by rw [n0];unfold sh1;rw [if_pos (by omega)];omega
   have:=ZeU (l:=app l (frK d 4)) (o:=-2) vlt wlt vw hd (i:=l.length+a) (e:=e) (by rw [al];omega) he
   rw [if_neg (by have:=fx.1;omega)] at this
   by_cases z:l.length+a=l.length+4∧e=(d+2)%4
   ·rw [z.1,z.2,f2] at n1;omega
   ·rw [if_neg z] at this
    exact this.1.trans n1
  obtain ⟨n,r⟩:=reach v fx.1
  have r4:Rch (frm l v d) 0 (n+1) (l.length+4):=.succ r ⟨d,hd,D.hn⟩
  have r5:=Rch.succ r4 (adK (by omega) j1)
  have r6:=Rch.succ r5 (adK (by omega) j2)
  have r7:=Rch.succ r6 (adK (by omega) j3)
  have r8:=Rch.succ r7 (adK (by omega) j4)
  refine ZiK (by omega) fun u hu=>?_
  by_cases c:u<l.length
  ·exact reach u c
  ·have:u=l.length+4∨u=l.length+(d+2)%4∨u=l.length+(d+3)%4∨u=l.length+d∨u=l.length+(d+1)%4:=by omega
   rcases this with rfl|rfl|rfl|rfl|rfl
   ·exact ⟨_,r4⟩
   ·exact ⟨_,r5⟩
   ·exact ⟨_,r6⟩
   ·exact ⟨_,r7⟩
   ·exact ⟨_,r8⟩
 ·have C0:=Cyc.app2 (l:=l) hk LO.cyc
  have m1:∀ q∈(frO d).map (shD l.length),l.length≤q.1:=by
   intro q hq
   obtain ⟨b,_,rfl⟩:=List.mem_map.1 hq
   unfold shD;dsimp only;omega
  have notin:∀ q∈(frO d).map (shD l.length),q≠(v,d)∧q≠(l.length+4,(d+2)%4):=fun q hq=>⟨fun z=>(D.isD.1 (C0.1.is q hq)).2.1 z,fun z=>(D.isD.1 (C0.1.is q hq)).2.2 z⟩
  have ny:shD l.length (frY d) ∉ (frO d).map (shD l.length):=by
   intro z
   obtain ⟨b,hb,e⟩:=List.mem_map.1 z
   rw [Zkl e] at hb
   exact o5 hb
  have hb:∀ q∈(frO d).map (shD l.length),bh (frm l v d) q≠(v,d)∧bh (frm l v d) q≠(l.length+4,(d+2)%4):=by
   intro q hq
   have dq:=(D.isD.1 (C0.1.is q hq)).1
   refine ⟨fun z=>?_,fun z=>?_⟩
   ·have:=Zdn hF dq (D.isD.1 isx).1 (z.trans bX.symm)
    have:=m1 q hq
    have:=dx.1
    subst q
    omega
   ·have:=Zdn hF dq (D.isD.1 isy).1 (z.trans bY.symm)
    rw [this] at hq
    exact ny hq
  have C1:Cyc (frm l v d) ((frO d).map (shD l.length)):=by
   refine ⟨C0.1.ne,C0.1.nd,fun q hq=>(D.isD.1 (C0.1.is q hq)).1,fun q hq=>?_,fun C hC p hp q hq hCp=>C0.1.one (fun z=>z∈(frO d).map (shD l.length)→C z) (fun z hz hCz hm=>?_) p hp q hq (fun _=>hCp) hq⟩
   ·have:=(D.bh hF (C0.1.is q hq)).1
    rw [if_neg (hb q hq).1,if_neg (hb q hq).2] at this
    rw [← this];exact C0.1.cl q hq
   ·-- what leads there is in it too
    have:z∈(frO d).map (shD l.length):=Zg3 h0 ⟨C0.1.nd,C0.1.is⟩ C0.1.cl hz hm
    have e:=(D.bh hF (C0.1.is z this)).1
    rw [if_neg (hb z this).1,if_neg (hb z this).2] at e
    rw [e];exact hC z (D.isD.1 hz).1 (hCz this)
  have t2:∀ q∈(frO d).map (shD l.length),tt (frm l v d) q=tt (app l (frK d 4)) q:=by
   intro q hq
   have:=(D.bh hF (C0.1.is q hq)).2
   rw [if_neg (hb q hq).1,if_neg (hb q hq).2] at this
   exact this.symm
  have e1:Za8 (frm l v d) ((frO d).map (shD l.length))=Za8 (app l (frK d 4)) ((frO d).map (shD l.length)):=by
   unfold Za8 tns
   congr 1
   exact List.map_congr_left fun q hq=>t2 q hq
  have e2:∀ q∈frO d,ng (tt (frm l v d) (shD l.length q))=ng (tt (frK d 4) q):=by
   intro q hq
   rw [t2 _ (List.mem_map.2 ⟨q,hq,rfl⟩)]
   unfold tt
   rw [ZgI hk (LO.is q hq)]
   rfl
  have e3:((frO d).map (shD l.length)).map (fun p=>ng (tt (frm l v d) p))=(frO d).map fun p=>ng (tt (frK d 4) p):=by
   rw [List.map_map]
   exact List.map_congr_left e2
  exact ⟨(frO d).map (shD l.length),C1,by rw [e1,C0.2,o3],by rw [e3];exact o4⟩
end Mu
/- Cells on a plane: laid out on the board's own lines. -/
namespace Mu
/-! Cells that hang together,dart by dart. -/
theorem Zr7:∀ a b c d:Bool,∀ i j:Fin 4,Zdr a b c d i.1=true→Zdr a b c d j.1=true →
  j.1=i.1∨j.1=prv (Zdr a b c d) ((i.1+2)%4)∨j.1=prv (Zdr a b c d) ((prv (Zdr a b c d) ((i.1+2)%4)+2)%4)∨j.1=prv (Zdr a b c d) ((prv (Zdr a b c d) ((prv (Zdr a b c d) ((i.1+2)%4)+2)%4)+2)%4):=by decide +kernel
theorem ZlV {l:List Za}(hc:Ck l) {C:Da→Prop}(hC:∀ x,isD l x→C x→C (bh l x)∧C (opp l x)) {u i j:Nat}(hi:isD l (u,i)) (hj:isD l (u,j)) (h:C (u,i)):C (u,j):=by
 have st:∀ {k},isD l (u,k)→C (u,k)→isD l (u,prv (fun e=>decide (0≤nx l u e)) ((k+2)%4))∧C (u,prv (fun e=>decide (0≤nx l u e)) ((k+2)%4)):=by
  intro k hk hCk
  have f:=hk.fwd hc
  have o:=hk.opp hc
  have c1:=(hC _ hk hCk).2
  have c2:=(hC _ o c1).1
  have c3:=o.bh hc
  rw [ZcM] at c2 c3
  have e:(nx l (opp l (u,k)).1 (opp l (u,k)).2).toNat=u:=by
   show (nx l (nx l u k).toNat ((k+2)%4)).toNat=u
   have:=f.2
   dsimp only at this
   rw [this];omega
  rw [e] at c2 c3
  exact ⟨c3,c2⟩
 have q:=Zr7 (decide (0≤nx l u 0)) (decide (0≤nx l u 1)) (decide (0≤nx l u 2)) (decide (0≤nx l u 3)) ⟨i,hi.2.1⟩ ⟨j,hj.2.1⟩
 have se:∀ e,e<4→Zdr (decide (0≤nx l u 0)) (decide (0≤nx l u 1)) (decide (0≤nx l u 2)) (decide (0≤nx l u 3)) e=decide (0≤nx l u e):=fun e he=>ZdQ (A:=fun e=>decide (0≤nx l u e)) he
 have pe:∀ e,e<4→prv (Zdr (decide (0≤nx l u 0)) (decide (0≤nx l u 1)) (decide (0≤nx l u 2)) (decide (0≤nx l u 3))) e=prv (fun e=>decide (0≤nx l u e)) e:=fun e he=>Zfe (A:=fun e=>decide (0≤nx l u e)) he
 have i0:=hi.2.2
 have j0:=hj.2.2
 dsimp only at q i0 j0
 have q:=q (by rw [se i hi.2.1];simpa using i0) (by rw [se j hj.2.1];simpa using j0)
 have l1:prv (fun e=>decide (0≤nx l u e)) ((i+2)%4)<4:=Znx (by omega)
 rw [pe _ (by omega),pe _ (by omega),pe _ (by omega)] at q
 obtain ⟨d1,c1⟩:=st hi h
 obtain ⟨d2,c2⟩:=st d1 c1
 obtain ⟨d3,c3⟩:=st d2 c2
 rcases q with q|q|q|q
 ·rw [q];exact h
 ·rw [q];exact c1
 ·rw [q];exact c2
 ·rw [q];exact c3
theorem Zp0 {l:List Za}(hc:Ck l) {C:Da→Prop}(hC:∀ x,isD l x→C x→C (bh l x)∧C (opp l x)) {u n w:Nat}(hu:u<l.length) (hr:Rch l u n w) (h:∀ j,isD l (u,j)→C (u,j)):∀ j,isD l (w,j)→C (w,j):=by
 induction hr with
 | zero=>exact h
 | succ hr hab ih =>
  rename_i n a b
  have ha:=hr.lt hc hu
  obtain ⟨d,hd,e⟩:=hab
  have D:isD l (a,d):=⟨ha,hd,by rw [e];omega⟩
  have c:=(hC _ D (ih d D)).2
  have o:=D.opp hc
  have eo:opp l (a,d)=(b,(d+2)%4):=by unfold opp;dsimp only;rw [e,itn]
  rw [eo] at c o
  exact fun j hj=>ZlV hc hC o hj c
/-! The board. -/
def gN (k e:Nat):Int:=if e=0 then (if k%8<7 then (k:Int)+1 else -1) else if e=1 then (if k / 8<7 then (k:Int)+8 else -1) else if e=2 then (if 0<k%8 then (k:Int)-1 else -1) else (if 8≤k then (k:Int)-8 else -1)
def brd (c:Nat→Nat→Bool):List Za:=(List.range 64).map fun k=>⟨⟨if c k 0 then gN k 0 else -1,if c k 1 then gN k 1 else -1,if c k 2 then gN k 2 else -1,if c k 3 then gN k 3 else -1⟩,⟨0,0,0,0⟩⟩
theorem Zf5 {c:Nat→Nat→Bool}:(brd c).length=64:=by simp [brd]
theorem Zhc {c:Nat→Nat→Bool}{k e:Nat}(hk:k<64) (he:e<4):nx (brd c) k e=(if c k e then gN k e else -1)∧ow (brd c) k e=0:=by
 unfold nx ow brd
 rw [ZcE hk]
 have:e=0∨e=1∨e=2∨e=3:=by omega
 rcases this with rfl|rfl|rfl|rfl<;>exact ⟨rfl,rfl⟩
theorem Zoj:∀ k:Fin 64,∀ e:Fin 4,decide (gN k.1 e.1<0)=false→((gN k.1 e.1).toNat<64∧(gN k.1 e.1).toNat≠k.1)∧gN (gN k.1 e.1).toNat ((e.1+2)%4)=(k.1:Int):=by decide +kernel
theorem Znd {k e:Nat}(hk:k<64) (he:e<4) (h:0≤gN k e):(gN k e).toNat<64∧(gN k e).toNat≠k∧gN (gN k e).toNat ((e+2)%4)=k:=by
 have:=Zoj ⟨k,hk⟩ ⟨e,he⟩ (by simp;omega)
 exact ⟨this.1.1,this.1.2,this.2⟩
theorem ZkS {c:Nat→Nat→Bool}(h:∀ k e,k<64→e<4→c k e=true→0≤gN k e∧c (gN k e).toNat ((e+2)%4)=true):Ck (brd c):=by
 refine ⟨fun v d hv hd=>?_⟩
 rw [Zf5] at hv ⊢
 have n:=Zhc (c:=c) hv hd
 by_cases q:c v d=true
 ·obtain ⟨h1,h2⟩:=h v d hv hd q
  obtain ⟨g1,g2,g3⟩:=Znd hv hd h1
  have m:=Zhc (c:=c) g1 (show (d+2)%4<4 by omega)
  right
  refine ⟨(gN v d).toNat,?_,g1,g2,?_,?_,?_⟩
  ·rw [n.1,if_pos q];omega
  ·rw [m.1,if_pos h2,g3]
  ·rw [m.2,n.2]
  ·rw [n.2];omega
 ·left
  rw [n.1,if_neg q,n.2];exact ⟨rfl,rfl⟩
def Zfc (k e:Nat):Bool:=decide (0≤gN k e)
theorem ZjI:Ck (brd Zfc):=ZkS fun k e hk he h=>by
 unfold Zfc at h ⊢
 rw [decide_eq_true_eq] at h ⊢
 obtain ⟨_,_,g3⟩:=Znd hk he h
 exact ⟨h,by rw [g3];omega⟩
theorem Znc:Val (brd Zfc):=by
 rw [← ZgA]
 have:∃ a,ZfC (brd Zfc)=some a∧0≤a:=by
  refine ⟨1,?_,by decide⟩
  decide +kernel
 exact this
theorem ZgK {C:Da→Prop}(hC:∀ x,isD (brd Zfc) x→C x→C (bh (brd Zfc) x)∧C (opp (brd Zfc) x)) {k e:Nat}(hk:k<64) (he:e<4) (h0:0≤gN k e) (h:∀ j,isD (brd Zfc) (k,j)→C (k,j)):∀ j,isD (brd Zfc) ((gN k e).toNat,j)→C ((gN k e).toNat,j):=by
 refine Zp0 (u:=k) (n:=1) ZjI hC (by rw [Zf5];exact hk) (.succ .zero ⟨e,he,?_⟩) h
 rw [(Zhc hk he).1,if_pos (by unfold Zfc;simpa using h0)];omega
theorem Zg6 {k:Nat}(hk:k<64):(0<k%8→gN k 2=(k:Int)-1)∧(8≤k→gN k 3=(k:Int)-8)∧(k%8<7→gN k 0=(k:Int)+1)∧(k / 8<7→gN k 1=(k:Int)+8):=by
 refine ⟨fun h=>?_,fun h=>?_,fun h=>?_,fun h=>?_⟩<;>unfold gN<;>simp [h]
theorem Zoi:Cn (brd Zfc):=by
 intro C hC p q hp hq hCp
 have down:∀ (n k:Nat),k<64→k / 8+k%8≤n→(∀ j,isD (brd Zfc) (k,j)→C (k,j))→∀ j,isD (brd Zfc) (0,j)→C (0,j):=by
  intro n
  induction n with
  | zero =>
   intro k hk hn h
   have:k=0:=by omega
   subst this;exact h
  | succ n ih =>
   intro k hk hn h
   by_cases c:0<k%8
   ·have g:=(Zg6 hk).1 c
    have:=ZgK hC hk (show 2<4 by omega) (by omega) h
    rw [g,show ((k:Int)-1).toNat=k-1 by omega] at this
    exact ih (k-1) (by omega) (by omega) this
   ·by_cases c2:8≤k
    ·have g:=(Zg6 hk).2.1 c2
     have:=ZgK hC hk (show 3<4 by omega) (by omega) h
     rw [g,show ((k:Int)-8).toNat=k-8 by omega] at this
     exact ih (k-8) (by omega) (by omega) this
    ·have:k=0:=by omega
     subst this;exact h
 have up:∀ (n k:Nat),k<64→k / 8+k%8≤n→(∀ j,isD (brd Zfc) (0,j)→C (0,j))→∀ j,isD (brd Zfc) (k,j)→C (k,j):=by
  intro n
  induction n with
  | zero =>
   intro k hk hn h
   have:k=0:=by omega
   subst this;exact h
  | succ n ih =>
   intro k hk hn h
   by_cases c:0<k%8
   ·have h1:=ih (k-1) (by omega) (by omega) h
    have g:=(Zg6 (show k-1<64 by omega)).2.2.1 (by omega)
    have:=ZgK hC (show k-1<64 by omega) (show 0<4 by omega) (by omega) h1
    rw [g,show (((k-1:Nat):Int)+1).toNat=k by omega] at this
    exact this
   ·by_cases c2:8≤k
    ·have h1:=ih (k-8) (by omega) (by omega) h
     have g:=(Zg6 (show k-8<64 by omega)).2.2.2 (by omega)
     have:=ZgK hC (show k-8<64 by omega) (show 1<4 by omega) (by omega) h1
     rw [g,show (((k-8:Nat):Int)+8).toNat=k by omega] at this
     exact this
    ·have:k=0:=by omega
     subst this;exact h
 have p1:=hp.1
 have q1:=hq.1
 rw [Zf5] at p1 q1
 have h1:=down _ p.1 p1 (Nat.le_refl _) fun j hj=>ZlV (i:=p.2) ZjI hC hp hj hCp
 exact up _ q.1 q1 (Nat.le_refl _) h1 q.2 hq
theorem ZnX {c:Nat→Nat→Bool}(h:∀ k e,k<64→e<4→c k e=true→0≤gN k e∧c (gN k e).toNat ((e+2)%4)=true) (hn:Cn (brd c)) {p:Da}(hp:isD (brd c) p):Val (brd c):=by
 refine Sub.val ZjI Zoi Znc _ (brd c) (ZkS h) ⟨by rw [Zf5,Zf5],fun u e hu he=>?_⟩ hn ⟨p,hp⟩ (Nat.le_refl _)
 rw [Zf5] at hu
 rw [(Zhc hu he).1,(Zhc hu he).1]
 by_cases q:c u e=true
 ·rw [if_pos q,if_pos (by unfold Zfc;simpa using (h u e hu he q).1)];exact .inl rfl
 ·rw [if_neg q];exact .inr rfl
end Mu
/- Cells that lie on a plane can be drawn,if they hang together. -/
namespace Mu
def dx (d:Nat):Int:=if d=0 then 1 else if d=2 then -1 else 0
def dy (d:Nat):Int:=if d=1 then 1 else if d=3 then -1 else 0
structure Geo (l:List Za) (at_:List Z3):Prop where
 ck:Ck l
 len:l.length=at_.length
 in8:∀ i,i<l.length→0≤(gi at_ i).X∧(gi at_ i).X<8∧0≤(gi at_ i).Y∧(gi at_ i).Y<8
 inj:∀ i j,i<l.length→j<l.length→(gi at_ i).X=(gi at_ j).X→(gi at_ i).Y=(gi at_ j).Y→i=j
 str:∀ p,isD l p→∃ n:Nat,1≤n∧(gi at_ (nx l p.1 p.2).toNat).X=(gi at_ p.1).X+n*dx p.2∧(gi at_ (nx l p.1 p.2).toNat).Y=(gi at_ p.1).Y+n*dy p.2 ∧
  ∀ u,u<l.length→∀ i:Nat,0<i→i<n→(gi at_ u).X=(gi at_ p.1).X+i*dx p.2→(gi at_ u).Y=(gi at_ p.1).Y+i*dy p.2→False
 nc:NX at_ l
theorem Made.geo {l:List Za}{at_:List Z3}(h:Made l at_):Geo l at_:=by
 have pos:∀ v e,v<l.length→e<2→0≤nx l v e→∃ n:Nat,1≤n∧(gi at_ (nx l v e).toNat).X=(gi at_ v).X+n*dx e∧(gi at_ (nx l v e).toNat).Y=(gi at_ v).Y+n*dy e ∧
   ∀ u,u<l.length→∀ i:Nat,0<i→i<n→(gi at_ u).X=(gi at_ v).X+i*dx e→(gi at_ u).Y=(gi at_ v).Y+i*dy e→False:=by
  intro v e hv he h0
  rcases h.near v e hv he with q|q
  ·omega
  ·rcases q with ⟨q,_⟩|⟨j,q,j1,j2,j3⟩
   ·omega
   ·rw [q,itn]
    have hl:=h.len
    have:e=0∨e=1:=by omega
    rcases this with rfl|rfl
    ·obtain ⟨_,c⟩:=j2
     rw [if_pos rfl] at c
     refine ⟨((gi at_ j).X-(gi at_ v).X).toNat,by omega,by simp [dx];omega,by simp [dy];omega,fun u hu i i0 i1 hx hy=>?_⟩
     simp [dx,dy] at hx hy
     have:=j3 u (by omega) ⟨by omega,by rw [if_pos rfl];omega⟩
     unfold Zd3 at this
     rw [if_pos rfl] at this
     omega
    ·obtain ⟨_,c⟩:=j2
     rw [if_neg (by omega)] at c
     refine ⟨((gi at_ j).Y-(gi at_ v).Y).toNat,by omega,by simp [dx];omega,by simp [dy];omega,fun u hu i i0 i1 hx hy=>?_⟩
     simp [dx,dy] at hx hy
     have:=j3 u (by omega) ⟨by omega,by rw [if_neg (by omega)];omega⟩
     unfold Zd3 at this
     rw [if_neg (by omega)] at this
     omega
 refine ⟨h.ck,h.len,fun i hi=>h.pts.b i (by rw [← h.len];exact hi),fun i j hi hj hx hy=>h.pts.d i j (by rw [← h.len];exact hi) (by rw [← h.len];exact hj) ?_,fun p hp=>?_,h.nc⟩
 ·generalize gi at_ i=a at *
  generalize gi at_ j=b at *
  obtain ⟨a1,a2⟩:=a
  obtain ⟨b1,b2⟩:=b
  dsimp only at hx hy
  rw [hx,hy]
 ·obtain ⟨v,d⟩:=p
  have f:=hp.fwd h.ck
  obtain ⟨v1,d1,n1⟩:=hp
  dsimp only at v1 d1 n1 f ⊢
  by_cases c:d<2
  ·exact pos v d v1 c n1
  ·have hw:(((nx l v d).toNat:Nat):Int)=nx l v d:=by omega
   generalize (nx l v d).toNat=w at *
   obtain ⟨n,a1,a2,a3,a4⟩:=pos w ((d+2)%4) f.1 (by omega) (by rw [f.2];omega)
   rw [f.2,itn] at a2 a3
   have sx:dx ((d+2)%4)=- dx d:=by
    have:d=2∨d=3:=by omega
    rcases this with rfl|rfl<;>rfl
   have sy:dy ((d+2)%4)=- dy d:=by
    have:d=2∨d=3:=by omega
    rcases this with rfl|rfl<;>rfl
   rw [sx] at a2 a4
   rw [sy] at a3 a4
   rw [Int.mul_neg] at a2 a3
   refine ⟨n,a1,by omega,by omega,fun u hu i i0 i1 hx hy=>a4 u hu (n-i) (by omega) (by omega) ?_ ?_⟩
   ·rw [Int.mul_neg,Int.natCast_sub (by omega),Int.sub_mul];omega
   ·rw [Int.mul_neg,Int.natCast_sub (by omega),Int.sub_mul];omega
section geo
variable {l:List Za}{at_:List Z3}
def eL (l:List Za) (at_:List Z3) (p:Da):Nat:=(((gi at_ (nx l p.1 p.2).toNat).X-(gi at_ p.1).X)*dx p.2+((gi at_ (nx l p.1 p.2).toNat).Y-(gi at_ p.1).Y)*dy p.2).toNat
def pX (at_:List Z3) (p:Da) (i:Int):Int:=(gi at_ p.1).X+i*dx p.2
def pY (at_:List Z3) (p:Da) (i:Int):Int:=(gi at_ p.1).Y+i*dy p.2
theorem dxy {d:Nat}(h:d<4):(d=0∧dx d=1∧dy d=0)∨(d=1∧dx d=0∧dy d=1)∨(d=2∧dx d=-1∧dy d=0)∨(d=3∧dx d=0∧dy d=-1):=by
 have:d=0∨d=1∨d=2∨d=3:=by omega
 rcases this with rfl|rfl|rfl|rfl
 ·exact .inl ⟨rfl,rfl,rfl⟩
 ·exact .inr (.inl ⟨rfl,rfl,rfl⟩)
 ·exact .inr (.inr (.inl ⟨rfl,rfl,rfl⟩))
 ·exact .inr (.inr (.inr ⟨rfl,rfl,rfl⟩))
theorem Geo.e (G:Geo l at_) {p:Da}(hp:isD l p):1≤eL l at_ p∧(gi at_ (nx l p.1 p.2).toNat).X=pX at_ p (eL l at_ p)∧(gi at_ (nx l p.1 p.2).toNat).Y=pY at_ p (eL l at_ p) ∧
  ∀ u,u<l.length→∀ i:Nat,0<i→i<eL l at_ p→(gi at_ u).X=pX at_ p i→(gi at_ u).Y=pY at_ p i→False:=by
 obtain ⟨n,a1,a2,a3,a4⟩:=G.str p hp
 have:eL l at_ p=n:=by
  unfold eL
  rw [a2,a3]
  rcases dxy hp.2.1 with ⟨_,h1,h2⟩|⟨_,h1,h2⟩|⟨_,h1,h2⟩|⟨_,h1,h2⟩<;>rw [h1,h2]<;>omega
 rw [this]
 exact ⟨a1,a2,a3,a4⟩
theorem Zp5 {d:Nat}(h:d<4):dx ((d+2)%4)=- dx d∧dy ((d+2)%4)=- dy d:=by
 have:d=0∨d=1∨d=2∨d=3:=by omega
 rcases this with rfl|rfl|rfl|rfl<;>exact ⟨rfl,rfl⟩
theorem Geo.opp (G:Geo l at_) {p:Da}(hp:isD l p):eL l at_ (opp l p)=eL l at_ p∧∀ i:Int,pX at_ (Mu.opp l p) i=pX at_ p (eL l at_ p-i)∧pY at_ (Mu.opp l p) i=pY at_ p (eL l at_ p-i):=by
 obtain ⟨a1,a2,a3,_⟩:=G.e hp
 have f:=hp.fwd G.ck
 have o:=Zp5 hp.2.1
 have h:∀ i:Int,pX at_ (Mu.opp l p) i=pX at_ p (eL l at_ p-i)∧pY at_ (Mu.opp l p) i=pY at_ p (eL l at_ p-i):=by
  intro i
  constructor
  ·show (gi at_ (nx l p.1 p.2).toNat).X+i*dx ((p.2+2)%4)=_
   rw [a2,o.1]
   unfold pX
   rw [Int.mul_neg,Int.sub_mul];omega
  ·show (gi at_ (nx l p.1 p.2).toNat).Y+i*dy ((p.2+2)%4)=_
   rw [a3,o.2]
   unfold pY
   rw [Int.mul_neg,Int.sub_mul];omega
 refine ⟨?_,h⟩
 obtain ⟨b1,b2,b3,_⟩:=G.e (hp.opp G.ck)
 have e:(nx l (Mu.opp l p).1 (Mu.opp l p).2).toNat=p.1:=by
  show (nx l (nx l p.1 p.2).toNat ((p.2+2)%4)).toNat=_
  rw [f.2];omega
 rw [e,(h _).1] at b2
 rw [e,(h _).2] at b3
 unfold pX at b2
 unfold pY at b3
 rcases dxy hp.2.1 with ⟨_,h1,h2⟩|⟨_,h1,h2⟩|⟨_,h1,h2⟩|⟨_,h1,h2⟩<;>rw [h1] at b2<;>rw [h2] at b3<;>omega
theorem Geo.uniq (G:Geo l at_) {p q:Da}(hp:isD l p) (hq:isD l q) (hd:p.2=q.2) {i j:Nat}(hi:i<eL l at_ p) (hj:j<eL l at_ q) (h1:pX at_ p i=pX at_ q j) (h2:pY at_ p i=pY at_ q j):p=q∧i=j:=by
 have key:∀ {p q:Da},isD l p→isD l q→p.2=q.2→∀ {i j:Nat},i<eL l at_ p→pX at_ p i=pX at_ q j→pY at_ p i=pY at_ q j→i ≥ j→p=q∧i=j:=by
  intro p q hp hq hd i j hi h1 h2 hij
  have e:=G.e hp
  have x:(gi at_ q.1).X=pX at_ p ((i-j:Nat):Int):=by unfold pX at h1 ⊢; rw [hd] at h1 ⊢; rw [Int.natCast_sub hij,Int.sub_mul];omega
  have y:(gi at_ q.1).Y=pY at_ p ((i-j:Nat):Int):=by unfold pY at h2 ⊢; rw [hd] at h2 ⊢; rw [Int.natCast_sub hij,Int.sub_mul];omega
  by_cases c:i=j
  ·subst c
   rw [Nat.sub_self] at x y
   unfold pX at x
   unfold pY at y
   have:=G.inj q.1 p.1 hq.1 hp.1 (by omega) (by omega)
   exact ⟨Prod.ext this.symm hd,rfl⟩
  ·exact (e.2.2.2 q.1 hq.1 (i-j) (by omega) (by omega) x y).elim
 by_cases c:i ≥ j
 ·exact key hp hq hd hi h1 h2 c
 ·obtain ⟨a,b⟩:=key hq hp hd.symm hj h1.symm h2.symm (by omega)
  exact ⟨a.symm,b.symm⟩
theorem Geo.inner (G:Geo l at_) {p q:Da}(hp:isD l p) (hq:isD l q) {i j:Nat}(i0:0<i) (hi:i<eL l at_ p) (hj:j<eL l at_ q) (h1:pX at_ p i=pX at_ q j) (h2:pY at_ p i=pY at_ q j):q.2=p.2∨q.2=(p.2+2)%4:=by
 have e:=G.e hp
 have e':=G.e hq
 by_cases j0:j=0
 ·subst j0
  have x:(gi at_ q.1).X=pX at_ p i:=by rw [h1];unfold pX;omega
  have y:(gi at_ q.1).Y=pY at_ p i:=by rw [h2];unfold pY;omega
  exact (e.2.2.2 q.1 hq.1 i i0 hi x y).elim
 ·-- both within: one across,the other up
  have o:=G.opp hp
  have o':=G.opp hq
  have f:=hp.fwd G.ck
  have f':=hq.fwd G.ck
  have nc:=G.nc
  have hp2:=hp.2.1
  have hq2:=hq.2.1
  refine Classical.byContradiction fun hne=>?_
  -- the lower end of each
  have low:∀ {p:Da},isD l p→∃ a:Nat,a<l.length∧0≤nx l a (p.2%2)∧∀ k:Nat,0<k→k<eL l at_ p →
    (p.2%2=0→(gi at_ a).X<pX at_ p k∧pX at_ p k<(gi at_ (nx l a 0).toNat).X∧(gi at_ a).Y=pY at_ p k) ∧
    (p.2%2=1→(gi at_ a).Y<pY at_ p k∧pY at_ p k<(gi at_ (nx l a 1).toNat).Y∧(gi at_ a).X=pX at_ p k):=by
   intro p hp
   have e:=G.e hp
   have f:=hp.fwd G.ck
   rcases dxy hp.2.1 with ⟨d,x,y⟩|⟨d,x,y⟩|⟨d,x,y⟩|⟨d,x,y⟩
   ·refine ⟨p.1,hp.1,by rw [d];have:=hp.2.2;rw [d] at this;exact this,fun k k0 k1=>⟨fun _=>?_,fun h=>by rw [d] at h;omega⟩⟩
    have a:=e.2.1
    rw [d] at a
    rw [a]
    unfold pX pY
    rw [x,y];omega
   ·refine ⟨p.1,hp.1,by rw [d];have:=hp.2.2;rw [d] at this;exact this,fun k k0 k1=>⟨fun h=>by rw [d] at h;omega,fun _=>?_⟩⟩
    have a:=e.2.2.1
    rw [d] at a
    rw [a]
    unfold pX pY
    rw [x,y];omega
   ·have b:=f.2
    rw [d] at b
    refine ⟨(nx l p.1 p.2).toNat,f.1,by rw [d];show 0≤nx l (nx l p.1 2).toNat 0;rw [b];omega,fun k k0 k1=>⟨fun _=>?_,fun h=>by rw [d] at h;omega⟩⟩
    have a:=e.2.1
    have a':=e.2.2.1
    have b':(nx l (nx l p.1 p.2).toNat 0).toNat=p.1:=by rw [d];show (nx l (nx l p.1 2).toNat 0).toNat=_;rw [b];omega
    rw [b',a,a']
    unfold pX pY
    rw [x,y];omega
   ·have b:=f.2
    rw [d] at b
    refine ⟨(nx l p.1 p.2).toNat,f.1,by rw [d];show 0≤nx l (nx l p.1 3).toNat 1;rw [b];omega,fun k k0 k1=>⟨fun h=>by rw [d] at h;omega,fun _=>?_⟩⟩
    have a:=e.2.1
    have a':=e.2.2.1
    have b':(nx l (nx l p.1 p.2).toNat 1).toNat=p.1:=by rw [d];show (nx l (nx l p.1 3).toNat 1).toNat=_;rw [b];omega
    rw [b',a,a']
    unfold pX pY
    rw [x,y];omega
  obtain ⟨a,a1,a2,a3⟩:=low hp
  obtain ⟨b,b1,b2,b3⟩:=low hq
  have A:=a3 i i0 hi
  have B:=b3 j (by omega) hj
  by_cases c:p.2%2=0
  ·have c':q.2%2=1:=by omega
   rw [c] at a2
   rw [c'] at b2
   have A:=A.1 c
   have B:=B.2 c'
   exact nc a b a1 b1 a2 b2 ⟨by omega,by omega,by omega,by omega⟩
  ·have c1:p.2%2=1:=by omega
   have c':q.2%2=0:=by omega
   rw [c1] at a2
   rw [c'] at b2
   have A:=A.2 c1
   have B:=B.1 c'
   exact nc b a b1 a1 b2 a2 ⟨by omega,by omega,by omega,by omega⟩
theorem Geo.vert (G:Geo l at_) {q:Da}(hq:isD l q) {u j:Nat}(hu:u<l.length) (hj:j<eL l at_ q) (h1:(gi at_ u).X=pX at_ q j) (h2:(gi at_ u).Y=pY at_ q j):q.1=u∧j=0:=by
 by_cases j0:j=0
 ·subst j0
  unfold pX at h1
  unfold pY at h2
  exact ⟨G.inj q.1 u hq.1 hu (by omega) (by omega),rfl⟩
 ·exact ((G.e hq).2.2.2 u hu j (by omega) hj h1 h2).elim
end geo
end Mu
/- Layer 14: ValidPlane: the board's cells that lie under cells on a plane. -/
namespace Mu
def ps (x y:Int):Nat:=(8*y+x).toNat
theorem ZeV {x y:Int}(hx:0≤x∧x<8) (hy:0≤y∧y<8):ps x y<64∧((ps x y%8:Nat):Int)=x∧((ps x y / 8:Nat):Int)=y:=by
 unfold ps;omega
theorem ZpZ {x y x' y':Int}(hx:0≤x∧x<8) (hy:0≤y∧y<8) (hx':0≤x'∧x'<8) (hy':0≤y'∧y'<8) (h:ps x y=ps x' y'):x=x'∧y=y':=by
 have a:=ZeV hx hy
 have b:=ZeV hx' hy'
 rw [h] at a
 omega
theorem ZqF {x y:Int}{e:Nat}(he:e<4) (hx:0≤x∧x<8) (hy:0≤y∧y<8) (hx':0≤x+dx e∧x+dx e<8) (hy':0≤y+dy e∧y+dy e<8):gN (ps x y) e=(ps (x+dx e) (y+dy e):Nat):=by
 have a:=ZeV hx hy
 have b:=ZeV hx' hy'
 rcases dxy he with ⟨rfl,h1,h2⟩|⟨rfl,h1,h2⟩|⟨rfl,h1,h2⟩|⟨rfl,h1,h2⟩<;>rw [h1] at hx' b ⊢ <;> rw [h2] at hy' b ⊢
 ·rw [(Zg6 a.1).2.2.1 (by omega)];unfold ps;omega
 ·rw [(Zg6 a.1).2.2.2 (by omega)];unfold ps;omega
 ·rw [(Zg6 a.1).1 (by omega)];unfold ps;omega
 ·rw [(Zg6 a.1).2.1 (by omega)];unfold ps;omega
section geo
variable {l:List Za}{at_:List Z3}
def cov (l:List Za) (at_:List Z3) (k e:Nat):Bool:=(Zdq l).any fun p=>decide (p.2=e)&&(List.range (eL l at_ p)).any fun i=>decide (pX at_ p i=(k%8:Nat))&&decide (pY at_ p i=(k / 8:Nat))
theorem Zf6 {k e:Nat}:cov l at_ k e=true↔∃ p,isD l p∧p.2=e∧∃ i,i<eL l at_ p∧pX at_ p i=(k%8:Nat)∧pY at_ p i=(k / 8:Nat):=by
 unfold cov
 simp only [List.any_eq_true,Bool.and_eq_true,decide_eq_true_eq,List.mem_range,Zc3]
theorem Geo.box (G:Geo l at_) {p:Da}(hp:isD l p) {i:Nat}(hi:i≤eL l at_ p):(0≤pX at_ p i∧pX at_ p i<8)∧0≤pY at_ p i∧pY at_ p i<8:=by
 have e:=G.e hp
 have a:=G.in8 p.1 hp.1
 have b:=G.in8 _ (hp.fwd G.ck).1
 rw [e.2.1,e.2.2.1] at b
 unfold pX pY at b ⊢
 rcases dxy hp.2.1 with ⟨_,h1,h2⟩|⟨_,h1,h2⟩|⟨_,h1,h2⟩|⟨_,h1,h2⟩<;>rw [h1,h2] at b ⊢ <;> omega
def un (at_:List Z3) (p:Da) (i:Nat):Da:=(ps (pX at_ p i) (pY at_ p i),p.2)
theorem Geo.un_cov (G:Geo l at_) {p:Da}(hp:isD l p) {i:Nat}(hi:i<eL l at_ p):cov l at_ (ps (pX at_ p i) (pY at_ p i)) p.2=true:=by
 have b:=G.box hp (i:=i) (by omega)
 have c:=ZeV b.1 b.2
 exact Zf6.2 ⟨p,hp,rfl,i,hi,c.2.1.symm,c.2.2.symm⟩
theorem Zo3 {p:Da}{i:Nat}:pX at_ p i+dx p.2=pX at_ p ((i+1:Nat):Int)∧pY at_ p i+dy p.2=pY at_ p ((i+1:Nat):Int):=by
 unfold pX pY
 rw [Int.natCast_add,Int.add_mul,Int.add_mul]
 constructor<;>omega
theorem Geo.gN_un (G:Geo l at_) {p:Da}(hp:isD l p) {i:Nat}(hi:i<eL l at_ p):gN (ps (pX at_ p i) (pY at_ p i)) p.2=(ps (pX at_ p ((i+1:Nat):Int)) (pY at_ p ((i+1:Nat):Int)):Nat):=by
 have b:=G.box hp (i:=i) (by omega)
 have b':=G.box hp (i:=i+1) (by omega)
 have s:=Zo3 (at_:=at_) (p:=p) (i:=i)
 rw [ZqF hp.2.1 b.1 b.2 (by rw [s.1];exact b'.1) (by rw [s.2];exact b'.2),s.1,s.2]
theorem Geo.cov_cl (G:Geo l at_) {k e:Nat}(hk:k<64) (he:e<4) (h:cov l at_ k e=true):0≤gN k e∧cov l at_ (gN k e).toNat ((e+2)%4)=true:=by
 obtain ⟨p,hp,rfl,i,hi,hx,hy⟩:=Zf6.1 h
 have b:=G.box hp (i:=i) (by omega)
 have ek:k=ps (pX at_ p i) (pY at_ p i):=by rw [hx,hy];unfold ps;omega
 rw [ek,G.gN_un hp hi,itn]
 have o:=G.opp hp
 have b':=G.box hp (i:=i+1) (by omega)
 have c':=ZeV b'.1 b'.2
 refine ⟨by omega,Zf6.2 ⟨Mu.opp l p,hp.opp G.ck,rfl,eL l at_ p-1-i,by rw [o.1];omega,?_,?_⟩⟩
 ·rw [(o.2 _).1,c'.2.1];congr 1;omega
 ·rw [(o.2 _).2,c'.2.2];congr 1;omega
theorem Geo.bck (G:Geo l at_):Ck (brd (cov l at_)):=ZkS fun _ _ hk he h=>G.cov_cl hk he h
theorem Geo.nx_cov (G:Geo l at_) {k e:Nat}(hk:k<64) (he:e<4):0≤nx (brd (cov l at_)) k e↔cov l at_ k e=true:=by
 rw [(Zhc hk he).1]
 constructor
 ·intro h
  refine Classical.byContradiction fun q=>?_
  rw [if_neg q] at h;omega
 ·intro h
  rw [if_pos h];exact (G.cov_cl hk he h).1
theorem Geo.un_is (G:Geo l at_) {p:Da}(hp:isD l p) {i:Nat}(hi:i<eL l at_ p):isD (brd (cov l at_)) (un at_ p i):=by
 have b:=G.box hp (i:=i) (by omega)
 have c:=ZeV b.1 b.2
 exact ⟨by rw [Zf5];exact c.1,hp.2.1,(G.nx_cov c.1 hp.2.1).2 (G.un_cov hp hi)⟩
theorem Geo.un_nx (G:Geo l at_) {p:Da}(hp:isD l p) {i:Nat}(hi:i<eL l at_ p):nx (brd (cov l at_)) (un at_ p i).1 (un at_ p i).2=(ps (pX at_ p ((i+1:Nat):Int)) (pY at_ p ((i+1:Nat):Int)):Nat):=by
 have b:=G.box hp (i:=i) (by omega)
 have c:=ZeV b.1 b.2
 show nx _ (ps _ _) p.2=_
 rw [(Zhc c.1 hp.2.1).1,if_pos (G.un_cov hp hi),G.gN_un hp hi]
theorem Geo.at_inner (G:Geo l at_) {p:Da}(hp:isD l p) {i e:Nat}(he:e<4) (i0:0<i) (hi:i<eL l at_ p):cov l at_ (ps (pX at_ p i) (pY at_ p i)) e=true↔e=p.2∨e=(p.2+2)%4:=by
 have b:=G.box hp (i:=i) (by omega)
 have c:=ZeV b.1 b.2
 constructor
 ·intro h
  obtain ⟨q,hq,rfl,j,hj,hx,hy⟩:=Zf6.1 h
  rw [c.2.1] at hx
  rw [c.2.2] at hy
  exact G.inner hp hq i0 hi hj hx.symm hy.symm
 ·rintro (rfl|rfl)
  ·exact G.un_cov hp hi
  ·have o:=G.opp hp
   refine Zf6.2 ⟨Mu.opp l p,hp.opp G.ck,rfl,eL l at_ p-i,by rw [o.1];omega,?_,?_⟩
   ·rw [(o.2 _).1,c.2.1];congr 1;omega
   ·rw [(o.2 _).2,c.2.2];congr 1;omega
theorem Geo.at_vert (G:Geo l at_) {u e:Nat}(hu:u<l.length) (he:e<4):cov l at_ (ps (gi at_ u).X (gi at_ u).Y) e=true↔0≤nx l u e:=by
 have b:=G.in8 u hu
 have c:=ZeV (x:=(gi at_ u).X) (y:=(gi at_ u).Y) ⟨b.1,b.2.1⟩ ⟨b.2.2.1,b.2.2.2⟩
 constructor
 ·intro h
  obtain ⟨q,hq,rfl,j,hj,hx,hy⟩:=Zf6.1 h
  rw [c.2.1] at hx
  rw [c.2.2] at hy
  have:=(G.vert hq hu hj hx.symm hy.symm).1
  rw [← this];exact hq.2.2
 ·intro h
  have hp:isD l (u,e):=⟨hu,he,h⟩
  have e1:=(G.e hp).1
  refine Zf6.2 ⟨(u,e),hp,rfl,0,by omega,?_,?_⟩
  ·rw [c.2.1];unfold pX;dsimp only;omega
  ·rw [c.2.2];unfold pY;dsimp only;omega
theorem Geo.un_bh (G:Geo l at_) {p:Da}(hp:isD l p) {i:Nat}(hi:i<eL l at_ p):bh (brd (cov l at_)) (un at_ p i)=if i+1<eL l at_ p then un at_ p (i+1) else un at_ (bh l p) 0:=by
 rw [ZcM,G.un_nx hp hi,itn]
 have d4:=hp.2.1
 by_cases c:i+1<eL l at_ p
 ·rw [if_pos c]
  have b:=G.box hp (i:=i+1) (by omega)
  have k:=(ZeV b.1 b.2).1
  have A:∀ e,e<4→decide (0≤nx (brd (cov l at_)) (ps (pX at_ p ((i+1:Nat):Int)) (pY at_ p ((i+1:Nat):Int))) e)=decide (e=p.2∨e=(p.2+2)%4):=by
   intro e he
   rw [decide_eq_decide,G.nx_cov k he,G.at_inner hp he (by omega) c]
  unfold un
  refine Prod.ext rfl ?_
  dsimp only
  rw [Zds A d4]
  unfold prv
  rw [if_neg (by simp;omega),if_pos (by simp)]
 ·rw [if_neg c]
  have e:=G.e hp
  have f:=hp.fwd G.ck
  have ei:i+1=eL l at_ p:=by omega
  rw [ei,← e.2.1,← e.2.2.1]
  have b:=G.in8 _ f.1
  have k:=(ZeV (x:=(gi at_ (nx l p.1 p.2).toNat).X) (y:=(gi at_ (nx l p.1 p.2).toNat).Y) ⟨b.1,b.2.1⟩ ⟨b.2.2.1,b.2.2.2⟩).1
  unfold un
  rw [ZcM (l:=l)]
  refine Prod.ext ?_ ?_
  ·dsimp only
   unfold pX pY
   dsimp only
   congr 1<;>omega
  ·dsimp only
   refine Zds (fun e he=>?_) d4
   rw [decide_eq_decide,G.nx_cov k he,G.at_vert f.1 he]
def ZkY (l:List Za) (at_:List Z3) (p:Da):List Da:=(List.range (eL l at_ p)).map (un at_ p)
theorem Zdz {p x:Da}:x∈ZkY l at_ p↔∃ i,i<eL l at_ p∧un at_ p i=x:=by
 unfold ZkY
 simp [List.mem_map,List.mem_range]
theorem Geo.un_inj (G:Geo l at_) {p q:Da}(hp:isD l p) (hq:isD l q) {i j:Nat}(hi:i<eL l at_ p) (hj:j<eL l at_ q) (h:un at_ p i=un at_ q j):p=q∧i=j:=by
 have b:=G.box hp (i:=i) (by omega)
 have b':=G.box hq (i:=j) (by omega)
 injection h with h1 h2
 obtain ⟨x,y⟩:=ZpZ b.1 b.2 b'.1 b'.2 h1
 exact G.uniq hp hq h2 hi hj x y
theorem Zn5 {f:Nat→Int}{m:Nat}(h:∀ i,i<m→f i=0):((List.range (m+1)).map f).sum=f m:=by
 rw [List.range_succ,List.map_append,List.sum_append]
 have:((List.range m).map f).sum=0:=by
  have:(List.range m).map f=(List.range m).map fun _=>0:=List.map_congr_left fun i hi=>h i (List.mem_range.1 hi)
  rw [this]
  have z:∀ n,((List.range n).map fun _=>(0:Int)).sum=0:=by
   intro n
   induction n with
   | zero=>rfl
   | succ n ih=>rw [List.range_succ,List.map_append,List.sum_append,ih];rfl
  exact z m
 rw [this]
 simp
theorem Geo.ins (G:Geo l at_):Ins l (brd (cov l at_)) (ZkY l at_):=by
 refine ⟨fun p hp=>?_,fun p hp=>?_,fun p hp x hx=>?_,fun p q hp hq x h1 h2=>?_,fun p hp=>?_,fun p hp x hx=>?_,fun C hC p hp hx y hy=>?_,fun x hx=>?_⟩
 ·intro e
  have:un at_ p 0∈ZkY l at_ p:=Zdz.2 ⟨0,(G.e hp).1,rfl⟩
  rw [e] at this;simp at this
 ·unfold ZkY
  refine List.pairwise_map.2 (List.nodup_range.imp_of_mem fun {a b} ha hb hne he=>hne (G.un_inj hp hp (List.mem_range.1 ha) (List.mem_range.1 hb) he).2)
 ·obtain ⟨i,hi,rfl⟩:=Zdz.1 hx
  exact G.un_is hp hi
 ·obtain ⟨i,hi,rfl⟩:=Zdz.1 h1
  obtain ⟨j,hj,e⟩:=Zdz.1 h2
  exact (G.un_inj hp hq hi hj e.symm).1
 ·have e1:=(G.e hp).1
  obtain ⟨m,hm⟩:∃ m,eL l at_ p=m+1:=⟨eL l at_ p-1,by omega⟩
  unfold ZkY
  rw [List.map_map,hm,Zn5]
  ·show tn (un at_ p m).2 (bh _ (un at_ p m)).2=_
   rw [G.un_bh hp (by omega),if_neg (by omega)]
   rfl
  ·intro i hi
   show tn (un at_ p i).2 (bh _ (un at_ p i)).2=_
   rw [G.un_bh hp (by omega),if_pos (by omega)]
   show tn p.2 p.2=0
   unfold tn;rw [if_pos rfl]
 ·obtain ⟨i,hi,rfl⟩:=Zdz.1 hx
  rw [G.un_bh hp hi]
  by_cases c:i+1<eL l at_ p
  ·rw [if_pos c];exact .inl (Zdz.2 ⟨i+1,c,rfl⟩)
  ·rw [if_neg c];exact .inr (Zdz.2 ⟨0,(G.e (hp.bh G.ck)).1,rfl⟩)
 ·obtain ⟨x,hx,hCx⟩:=hx
  obtain ⟨i,hi,rfl⟩:=Zdz.1 hx
  have up:∀ {p:Da},isD l p→∀ {i:Nat},i<eL l at_ p→C (un at_ p i)→∀ m,i+m<eL l at_ p→C (un at_ p (i+m)):=by
   intro p hp i hi hC0 m
   induction m with
   | zero=>intro _;exact hC0
   | succ m ih =>
    intro hm
    have:=hC _ (G.un_is hp (i:=i+m) (by omega)) (ih (by omega))
    rw [G.un_bh hp (by omega),if_pos (by omega)] at this
    exact this
  have l1:=up hp hi hCx (eL l at_ p-1-i) (by omega)
  rw [show i+(eL l at_ p-1-i)=eL l at_ p-1 by omega] at l1
  have n1:=hC _ (G.un_is hp (by omega)) l1
  rw [G.un_bh hp (by omega),if_neg (by omega)] at n1
  obtain ⟨j,hj,rfl⟩:=Zdz.1 hy
  have:=up (hp.bh G.ck) (i:=0) (by omega) n1 j (by omega)
  rwa [Nat.zero_add] at this
 ·have h1:=hx.1
  rw [Zf5] at h1
  obtain ⟨p,hp,hd,i,hi,hX,hY⟩:=Zf6.1 ((G.nx_cov h1 hx.2.1).1 hx.2.2)
  refine ⟨p,hp,Zdz.2 ⟨i,hi,Prod.ext ?_ hd⟩⟩
  show ps _ _=_
  rw [hX,hY];unfold ps;omega
theorem Geo.cn (G:Geo l at_) (Cl:Cn l):Cn (brd (cov l at_)):=by
 intro C hC x y hx hy hCx
 have I:=G.ins
 obtain ⟨p,hp,hxp⟩:=I.al x hx
 obtain ⟨q,hq,hyq⟩:=I.al y hy
 have C1:∀ x,isD (brd (cov l at_)) x→C x→C (bh (brd (cov l at_)) x):=fun x hx h=>(hC x hx h).1
 have h1:=I.on C C1 p hp ⟨x,hxp,hCx⟩
 refine Cl (fun p=>∀ x∈ZkY l at_ p,C x) (fun z hz h=>⟨fun w hw=>?_,fun w hw=>?_⟩) _ q (hp.bh G.ck) hq h1 y hyq
 ·have e1:=(G.e hz).1
  exact I.on C C1 z hz ⟨un at_ z 0,Zdz.2 ⟨0,e1,rfl⟩,h _ (Zdz.2 ⟨0,e1,rfl⟩)⟩ w hw
 ·obtain ⟨j,hj,rfl⟩:=Zdz.1 hw
  have o:=G.opp hz
  rw [o.1] at hj
  have u1:=G.un_is hz (i:=eL l at_ z-1-j) (by omega)
  have:=(hC _ u1 (h _ (Zdz.2 ⟨_,by omega,rfl⟩))).2
  have e:Mu.opp (brd (cov l at_)) (un at_ z (eL l at_ z-1-j))=un at_ (Mu.opp l z) j:=by
   unfold Mu.opp
   rw [G.un_nx hz (by omega),itn]
   refine Prod.ext ?_ rfl
   show ps _ _=ps _ _
   have a:=(o.2 j).1
   have b:=(o.2 j).2
   unfold Mu.opp at a b
   rw [a,b]
   congr 2<;>omega
  rwa [e] at this
theorem Geo.val (G:Geo l at_) (Cl:Cn l) {p:Da}(hp:isD l p):Val l:=by
 have u:=G.un_is hp (i:=0) (by have:=(G.e hp).1;omega)
 exact (G.ins.val G.ck G.bck (Zin G.ck) (Zin G.bck)).2 (ZnX (fun _ _ hk he h=>G.cov_cl hk he h) (G.cn Cl) u)
end geo
end Mu
/- Layer 21: framing and refining in the code;RectCounts. -/
namespace Mu
theorem Zk9 {l:List Za}(hl:l.length≤1000) (h:Zcs l≠0∨l.length=1):∃ e:Int,Zc0 l=some (⟨0,0⟩,e)∧e≠0∧e=if Zcs l=0 then 2 else Zcs l:=by
 unfold Zc0
 rw [ZjQ (by omega),obs]
 by_cases c:Zcs l=0
 ·have h1:=h.resolve_left fun q=>q c
  rw [if_pos c,if_pos h1]
  exact ⟨2,rfl,by decide,by rw [if_pos c]⟩
 ·rw [if_neg c]
  dsimp only
  rw [Zbj c]
  exact ⟨Zcs l,rfl,c,by rw [if_neg c]⟩
theorem Zo1 {l:List Za}:negs l≤8*l.length:=by
 have a:(Zdq l).length≤4*l.length:=by
  have:=Mets.len (l:=l) (met:=Zdq l) ⟨ZfL,fun p hp=>Zc3.1 hp⟩
  exact this
 have b:∀ L:List Da,(L.map fun p=>ng (tt l p)).sum≤2*L.length:=by
  intro L
  induction L with
  | nil=>simp
  | cons a L ih =>
   rw [List.map_cons,List.sum_cons,List.length_cons]
   have:ng (tt l a)≤2:=by
    have:-2≤tt l a:=Zly.1
    unfold ng;split<;>omega
   omega
 have:=b (Zdq l)
 unfold negs
 omega
theorem Zha {l:List Za}(hl:l.length≤100) (h:Zcs l≠0∨l.length=1):ZbV l=some (none,if Zcs l=0 then 2 else Zcs l):=by
 obtain ⟨e,h2,h3,h4⟩:=Zk9 (by omega) h
 unfold ZbV
 rw [h2,obs]
 dsimp only
 rw [Zbj h3,h4]
theorem Framed.err {l F:List Za}{v d:Nat}(h:Framed l F v d) (hl:l.length≤100):Zcs F=0:=ZgH.2 ⟨Zdu.2 ⟨by rw [h.len];omega,h.ck⟩,h.whole,fun _=>h.val⟩
theorem Zlg {l:List Za}(hl:l.length≤100) {F:List Za}{v d:Nat}(e:ZbV l=some (some ⟨F⟩,0)) (h:Framed l F v d):ZbX l=some (F,0):=by
 unfold ZbX
 rw [e,obs]
 dsimp only
 rw [ZaJ rfl,obs,Zlb (by rw [h.len];omega),obs]
theorem Zli {l:List Za}(h:Zcs l=0) (h1:l.length=1):ZaF l=some (l,0):=by
 unfold ZaF
 rw [Zha (by omega) (.inr h1),if_pos h,obs]
 dsimp only
 rw [Z7 (by decide)]
 unfold ZaH
 rw [Zr (by omega),obs]
theorem Zlh {l:List Za}(hl:l.length≤100) (h:Zcs l≠0) (h2:Zcs l≠2):ZaF l=some ([],Zcs l):=by
 unfold ZaF
 rw [Zha hl (.inl h),if_neg h,obs]
 dsimp only
 rw [Z8 h2,Zbj h]
theorem Zji {l:List Za}(hl:l.length≤100) (h:Zcs l≠0∨l.length=1):ZbX l=some ([],if Zcs l=0 then 2 else Zcs l):=by
 unfold ZbX
 rw [Zha hl h,obs]
 dsimp only
 rw [Zbj (by split<;>omega)]
theorem ZkZ:Zc4=some true:=by decide +kernel
/-! Turns to the right,face by face. -/
end Mu
/- Layers 20 and 21: fronts,framing and refining are the document's. -/
namespace Mu
theorem Zpc {t:List Int}(h:Rng t) (ht:t.length≤1000000):ZaN t=some true:=by
 unfold ZaN
 rw [ZgU (x:=.inl ()) ?_]
 refine Zcc (fun i:Nat=>(i:Int)) (n:=t.length) (Zbg (by omega)) rfl (fun i hi=>?_) ?_
 ·have:=h i
  simp only [ZaN.s0,itn]
  rw [Z7 (by omega),Zr (by omega),if_neg (by simp;omega),zh (by omega)]
  rfl
 ·simp only [ZaN.s0]
  rw [Z8 (by omega)]
def ZgR (t:List Int) (i:Nat):Option Nat:=(List.range t.length).find? fun k=>decide (cs t i (k+1)=1)
theorem Zjf {t:List Int}{i k:Nat}(h:ZgR t i=some k):k<t.length∧cs t i (k+1)=1∧∀ j,j<k→cs t i (j+1)≠1:=by
 unfold ZgR at h
 rw [List.find?_range_eq_some] at h
 exact ⟨by simpa using h.2.1,by simpa using h.1,fun j hj=>by simpa using h.2.2 j hj⟩
theorem Zje {t:List Int}{i:Nat}(h:ZgR t i=none):∀ j,j<t.length→cs t i (j+1)≠1:=by
 unfold ZgR at h
 rw [List.find?_range_eq_none] at h
 exact fun j hj=>by simpa using h j hj
theorem ZqT {t:List Int}(h:Rng t) (ht:t.length≤1000000) {i:Nat}(hi:i<t.length) (h0:gi t i<0):Zb5 t i=some (match ZgR t i with|some k=>(((((i+k)%t.length+1)%t.length:Nat):Int),true)|none=>(0,false)):=by
 cases e:ZgR t i with
 | none=>exact ZlI h ht hi (Zje e)
 | some k =>
  obtain ⟨a,b,c⟩:=Zjf e
  exact Zlf h ht hi h0 a b c
theorem rOf {t:List Int}(h:Rng t) (ht:t.length≤1000000) {i:Nat}(hi:i<t.length):zV t i=some (if gi t i<0 then (match ZgR t i with|some k=>((((i+k)%t.length+1)%t.length:Nat):Int)|none=>-1) else -1):=by
 unfold zV
 rw [Zpc h ht,obs,if_neg (by simp;omega),Zr (by omega),itn]
 by_cases h0:gi t i<0
 ·rw [Z8 (by omega),if_pos h0,zh (by omega)]
  have S:∀ n:Nat,n≤t.length+1→ZJ (zV.s1 t ((i+n:Nat):Int)) big (0,(i:Int))=some (cs t i n):=by
   intro n hn
   refine Zcc (fun k:Nat=>(cs t i k,((i+k:Nat):Int))) (n:=n) (Zbg (by omega)) (by simp [cs]) (fun k hk=>?_) ?_
   ·have r:=ZjA h (i:=i) k
    have r2:=ZjA h (i:=i) (k+1)
    have m:((i+k:Nat):Int).tmod (t.length:Int)=(((i+k)%t.length:Nat):Int):=by rw [Int.tmod_eq_emod_of_nonneg (by omega)];rfl
    have ml:(i+k)%t.length<t.length:=Nat.mod_lt _ (by omega)
    have e:cs t i (k+1)=cs t i k+gi t ((i+k)%t.length):=rfl
    simp only [zV.s1]
    rw [Z7 (by omega),Zr (by omega),m,Zr (by omega),itn,← e,zh (by omega),zh (by omega)]
    congr 3<;>omega
   ·simp only [zV.s1]
    rw [Z8 (by omega)]
  have L:ZJ (zV.s0 t i) big ((i:Int)+1)=some (match ZgR t i with|some k=>.inr ((((i+k)%t.length+1)%t.length:Nat):Int)|none=>.inl ()):=by
   have one:∀ k:Nat,k<t.length→zV.s0 t i ((i:Int)+1+k)=some (if cs t i (k+1)=1 then .inr (.inr ((((i+k)%t.length+1)%t.length:Nat):Int)) else .inl ((i:Int)+1+((k+1:Nat):Int))):=by
    intro k hk
    simp only [zV.s0]
    rw [zh (by omega),Z7 (by omega),show (i:Int)+1+(k:Int)=((i+(k+1):Nat):Int) by omega,S (k+1) (by omega),obs]
    by_cases c:cs t i (k+1)=1
    ·rw [Z7 c,if_pos c,Zr (by omega)]
     have m:((i+(k+1):Nat):Int).tmod (t.length:Int)=((((i+k)%t.length+1)%t.length:Nat):Int):=by
      rw [Int.tmod_eq_emod_of_nonneg (by omega),Nat.mod_add_mod]
      rfl
     rw [m]
    ·rw [Z8 c,if_neg c,zh (by omega)]
     congr 2
     omega
   cases e:ZgR t i with
   | none =>
    have q:=Zje e
    refine Zcc (fun k:Nat=>(i:Int)+1+(k:Int)) (n:=t.length) (Zbg (by omega)) (by simp) (fun k hk=>?_) ?_
    ·rw [one k hk,if_neg (q k hk)]
    ·simp only [zV.s0]
     rw [zh (by omega),Z8 (by omega)]
   | some k =>
    obtain ⟨a,b,c⟩:=Zjf e
    refine Zcc (fun k:Nat=>(i:Int)+1+(k:Int)) (n:=k) (Zbg (by omega)) (by simp) (fun j hj=>?_) ?_
    ·rw [one j (by omega),if_neg (c j hj)]
    ·rw [one k a,if_pos b]
  rw [L,obs]
  cases ZgR t i<;>rfl
 ·rw [Z7 (by omega),if_neg h0]
def opF (t:List Int):Option Nat:=(List.range t.length).find? fun i=>decide (gi t i<0)&&(ZgR t i).isNone
theorem Znk {t:List Int}(h:Rng t) (ht:t.length≤1000000):Zb2 t=some (match opF t with|some i=>((i:Int),true)|none=>(0,false)):=by
 unfold Zb2
 rw [Zhu h ht,obs,Bool.not_true,if_neg Bool.false_ne_true]
 have L:ZJ (Zb2.s0 t) big 0=some (match opF t with|some i=>.inr (i:Int)|none=>.inl ()):=by
  refine ZcN (n:=t.length) (P:=fun i=>decide (gi t i<0)&&(ZgR t i).isNone) (f:=fun i=>(i:Int)) (Zbg (by omega)) (fun i hi=>?_) ?_
  ·simp only [Zb2.s0,itn]
   rw [Z7 (by omega),Zr (by omega)]
   by_cases c:gi t i<0
   ·rw [ZqT h ht hi c,obs]
    cases ZgR t i with
    | none=>simp [c]
    | some k=>dsimp only;rw [if_neg (by simp),zh (by omega),if_neg (by simp)]
   ·rw [ZoY h ht hi (by omega),obs]
    dsimp only
    rw [if_neg (by simp;omega),zh (by omega),if_neg (by simp;omega)]
  ·simp only [Zb2.s0]
   rw [Z8 (by omega)]
 rw [L,obs]
 cases opF t<;>rfl
theorem Zqb {t:List Int}(h:Rng t) (ht:t.length≤1000000):ZaW t=some (match opF t with|some i=>(i:Int)|none=>-1):=by
 unfold ZaW
 rw [Zpc h ht,obs,Bool.not_true,if_neg Bool.false_ne_true]
 have L:ZJ (ZaW.s0 t) big 0=some (match opF t with|some i=>.inr (i:Int)|none=>.inl ()):=by
  refine ZcN (n:=t.length) (P:=fun i=>decide (gi t i<0)&&(ZgR t i).isNone) (f:=fun i=>(i:Int)) (Zbg (by omega)) (fun i hi=>?_) ?_
  ·simp only [ZaW.s0,itn]
   rw [Z7 (by omega),rOf h ht hi,obs,Zr (by omega)]
   by_cases c:gi t i<0
   ·rw [if_pos c]
    cases ZgR t i with
    | none=>simp [c]
    | some k =>
     have q:¬ (((((i+k)%t.length+1)%t.length:Nat):Int)<0):=by omega
     dsimp only
     rw [if_neg (by rw [Zcb q,Bool.and_false];exact Bool.false_ne_true),zh (by omega),if_neg (by simp)]
   ·rw [if_neg c,if_neg (by simp;omega),zh (by omega),if_neg (by simp;omega)]
  ·simp only [ZaW.s0]
   rw [Z8 (by omega)]
 rw [L,obs]
 cases opF t<;>rfl
end Mu
/- Layer 21: what is framed and refined is the document's. -/
namespace Mu
def fqA (s:Nat):Nat:=if s=0 then 1 else if s=1 then 3 else 0
def fqB (s:Nat):Nat:=if s=0 then 2 else if s=1 then 2 else if s=2 then 3 else 1
def fqW (s:Nat):Nat:=if s=0 then 1 else if s=1 then 0 else if s=2 then 1 else 0
def frQ (d:Nat):Nat→List Za
 | 0=>List.replicate 5 noC
 | s+1=>if s=d then frQ d s else wth (frQ d s) (fqA s:Nat) (fqW s:Nat) (fqB s:Nat) (-2)
theorem ZhZ {d:Nat}:∀ j,(frQ d j).length=5
 | 0=>by simp [frQ]
 | j+1=>by rw [frQ];split<;>simp [Za5,ZhZ j]
theorem Zmi:∀ d s:Fin 4,s.1≠d.1→nx (frQ d.1 s.1) (fqA s.1) (fqW s.1)=-1∧nx (frQ d.1 s.1) (fqB s.1) ((fqW s.1+2)%4)=-1:=by decide +kernel
theorem Znb:∀ d:Fin 4,nx (frQ d.1 4) (fqA d.1) (fqW d.1)=-1∧nx (frQ d.1 4) 4 ((fqW d.1+2)%4)=-1 ∧
  nx (wth (frQ d.1 4) (fqA d.1:Nat) (fqW d.1:Nat) (4:Nat) (-2)) 4 (fqW d.1)=-1∧nx (wth (frQ d.1 4) (fqA d.1:Nat) (fqW d.1:Nat) (4:Nat) (-2)) (fqB d.1) ((fqW d.1+2)%4)=-1:=by decide +kernel
theorem Zna:∀ d:Fin 4,wth (wth (frQ d.1 4) (fqA d.1:Nat) (fqW d.1:Nat) (4:Nat) (-2)) (4:Nat) (fqW d.1:Nat) (fqB d.1:Nat) (-2)=frK d.1 4:=by decide +kernel
theorem ZoT {n s:Nat}(hs:s<4):gi [(n:Int)+1,(n:Int)+3,(n:Int),(n:Int)] s=((n+fqA s:Nat):Int)∧gi ([1,0,1,0]:List Int) s=(fqW s:Nat)∧gi [(n:Int)+2,(n:Int)+2,(n:Int)+3,(n:Int)+1] s=((n+fqB s:Nat):Int)∧fqA s<5∧fqB s<5∧fqW s<4∧fqA s≠fqB s∧fqA s≠4∧fqB s≠4:=by
 match s,hs with
 | 0,_|1,_|2,_|3,_=>refine ⟨?_,rfl,?_,by decide,by decide,by decide,by decide,by decide,by decide⟩<;>simp [gi,fqA,fqB]
theorem Zio {l k:List Za}{a b e:Nat}(hl:l.length≤4000) (hk:k.length=5) (ha:a<5) (hb:b<5) (hab:a≠b) (he:e<4) (h1:nx k a e=-1) (h2:nx k b ((e+2)%4)=-1):ZQ (app l k) ((l.length+a:Nat):Int) e ((l.length+b:Nat):Int) (-2)=some (app l (wth k a e b (-2)),0):=by
 have sN:∀ {k:List Za}{a e:Nat},a<k.length→e<4→nx k a e=-1→nx (app l k) (l.length+a) e=-1:=by
  intro k a e ha he h
  rw [(Zd0 ha he).1,h];rfl
 rw [(Zhv (by rw [ZcC];omega) (by rw [ZcC];omega) (by rw [ZcC];omega) (by omega) he (by omega) (sN (by omega) he h1) (sN (by omega) (by omega) h2)).2,Zmb (by omega) (by omega) he]
theorem ZpY {l:List Za}(hl:l.length≤1000) (h:Zcs l=0) (h1:l.length≠1):∃ o i:Nat,o<(faces l).length∧Zeh l=o∧Za8 l (gi (faces l) o)=-4∧i<(gi (faces l) o).length∧opF (tns l (gi (faces l) o))=some i∧tt l (gi (gi (faces l) o) i)<0:=by
 obtain ⟨k,hW,_⟩:=Zff h
 have hc:=(Zdu.1 k).2
 obtain ⟨r1,r2⟩:=ZkL h h1
 obtain ⟨o,ho⟩:∃ o:Nat,Zeh l=o:=⟨(Zeh l).toNat,by omega⟩
 rw [ho] at r2
 have hi:o<(faces l).length:=by omega
 obtain ⟨_,_,o3,_⟩:=Zd5 hc
 have fl:=o3 _ (ZbW hi)
 have r4:Za8 l (gi (faces l) o)=-4:=by
  rcases ZkM h h1 hi with z|z
  ·exact absurd ho.symm z.2
  ·exact z.1
 obtain ⟨i,hi2,op,e⟩:=ZpN (t:=tns l (gi (faces l) o)) Ze8 (by rw [Zdb];omega) r4
 rw [Znk Ze8 (by rw [Zdb];omega)] at e
 rw [Zdb] at hi2
 refine ⟨o,i,hi,ho,r4,hi2,?_,?_⟩
 ·cases q:opF (tns l (gi (faces l) o)) with
  | none=>rw [q] at e;simp at e
  | some j=>rw [q] at e;simp at e;congr 1;omega
 ·have:=op.1
  unfold tns at this
  rw [Zcf hi2] at this
  exact this
theorem Zoz {l:List Za}(hl:l.length≤100) (h:Zcs l=0) (h1:l.length≠1):∃ F v d,ZbV l=some (some ⟨F⟩,0)∧Framed l F v d∧zP l=some (F,0):=by
 obtain ⟨k,hW,_⟩:=Zff h
 have hc:=(Zdu.1 k).2
 have hV:=(ZgH.1 h).2.2 h1
 obtain ⟨o,i,hi,ho,r4,hi2,op,tx⟩:=ZpY (by omega) h h1
 have hm:=ZbW hi
 obtain ⟨o1,o2,o3,_⟩:=Zd5 hc
 have fl:=o3 _ hm
 have dx:=o1 _ hm _ (ZbW hi2)
 have tf:=Zkn dx.2.1 tx
 have fx:=dx.fwd hc
 have lv:=hc.lt fx.1 dx.2.1
 have hd:=dx.2.1
 have n0:=dx.2.2
 refine ⟨_,_,_,?_,ZpC hc hV hW (Zc9 hc _ hm) r4 (ZbW hi2) tx,?_⟩
 ·have e:Zc0 l=some (dt (gi (gi (faces l) o) i),0):=by
   unfold Zc0
   rw [ZjQ (by omega),if_pos h,if_neg h1,obs,ho]
   dsimp only
   rw [ZaJ rfl,ZjM (by omega) k,obs]
   dsimp only
   rw [Zr (by simp;omega),itn,Zcf hi,ZjP (by omega) k (o1 _ hm) (by omega),obs,Znk Ze8 (by rw [Zdb];omega),op,obs]
   dsimp only
   rw [Zr (by simp;omega),itn,Zcf hi2]
  unfold ZbV
  rw [e,obs]
  dsimp only
  rw [ZaJ rfl,zh (by omega),zh (by omega),Z8 (by omega),mOf (by omega),if_pos k,obs,k]
  dsimp only
  rw [obs,ZpH (by omega) dx hc (by omega),obs]
 ·have m5:=Zle (n:=5) (by omega)
  have m0:=Zle (n:=0) (by omega)
  rw [show ((5:Nat):Int)=5 from rfl] at m5
  rw [show ((0:Nat):Int)=0 from rfl] at m0
  have rO:=Zqb (t:=tns l (gi (faces l) o)) Ze8 (by rw [Zdb];omega)
  rw [op] at rO
  dsimp only at rO
  unfold zP
  rw [Zgd (by omega),if_pos h,h,obs,ho]
  dsimp only
  rw [ZaJ rfl,Z8 (by omega),zh (by omega),Z8 (by omega),Zkd (by omega) k,obs,Zr (by simp;omega)]
  have E:∀ p:Da,p=gi (gi (faces l) o) i→∀ (out:List Za),ZJ (zP.s0 l o ((faces l).map (List.map rt)) i) big (l++List.replicate 5 noC,0)=some (app l (frQ p.2 4)):=by
   intro p hp out
   refine Zcc (fun s:Nat=>(app l (frQ p.2 s),(s:Int))) (n:=4) (Zbg (by omega)) (by rw [frQ,ZlE];rfl) (fun s hs=>?_) ?_
   ·obtain ⟨q1,q2,q3,q4,q5,q6,q7,_,_⟩:=ZoT (n:=l.length) hs
    have g2:gi ((gi (faces l) o).map rt) i=rt p:=by rw [Zcf hi2,hp]
    simp only [zP.s0,itn,Zcf hi,g2]
    rw [Z7 (by omega),Zr (by simp;omega),Zr (by simp;omega),Zr (by simp;omega),q1,q2,q3]
    have er:(rt p).Dir=(p.2:Int):=rfl
    rw [er]
    by_cases c:s=p.2
    ·rw [ZaJ (by omega),zh (by omega),frQ,if_pos c]
     rfl
    ·obtain ⟨z1,z2⟩:=Zmi ⟨p.2,by rw [hp];exact hd⟩ ⟨s,hs⟩ c
     rw [Zbj (by omega),Zio (by omega) (ZhZ s) q4 q5 q7 q6 z1 z2,obs,zh (by omega),frQ,if_neg c]
     rfl
   ·simp only [zP.s0]
    rw [Z8 (by omega)]
  have g2:gi ((gi (faces l) o).map rt) i=rt (gi (gi (faces l) o) i):=Zcf hi2
  simp only [itn,Zcf hi]
  rw [Zkf (by omega) k (o1 _ hm) (by omega),obs,rO,obs]
  simp only [itn,g2]
  have E':=E _ rfl []
  generalize gi (gi (faces l) o) i=p at *
  obtain ⟨q1,q2,q3,q4,q5,q6,q7,q8,q9⟩:=ZoT (n:=l.length) hd
  obtain ⟨y1,y2,y3,y4⟩:=Znb ⟨p.2,hd⟩
  have y5:=Zna ⟨p.2,hd⟩
  dsimp only at y1 y2 y3 y4 y5
  have er:(rt p).Dir=(p.2:Int):=rfl
  have ec:(rt p).Cell=(p.1:Int):=rfl
  have p1:=dx.1
  simp only [er,ec,itn]
  rw [Zr (by simp;omega),Zr (by omega),Zr (by omega),m5,obs,m0,obs,Zr (by simp;omega),Zr (by simp;omega),zh (by omega),zh (by omega),Zr (by simp;omega),zh (by omega),Zr (by simp;omega),Zr (by simp;omega)]
  rw [show List.replicate 0 noC++l++List.replicate 5 noC=l++List.replicate 5 noC by simp,E',obs,zh (by omega),q1,q2,q3]
  rw [show (l.length:Int)+4=((l.length+4:Nat):Int) by omega,Zio (by omega) (ZhZ 4) q4 (by omega) q8 q6 y1 y2,obs]
  dsimp only
  rw [Zio (by omega) (by rw [Za5];exact ZhZ 4) (by omega) q5 (by omega) q6 y3 y4,obs,y5]
  dsimp only
  have h4:=(ZjH ⟨p.2,hd⟩).2.2.2.2.2.1
  dsimp only at h4
  have kl:=Zhr (d:=p.2) 4
  have ev:nx l p.1 p.2=((nx l p.1 p.2).toNat:Nat):=by omega
  have J:=(Zhv (l:=app l (frK p.2 4)) (v:=(nx l p.1 p.2).toNat) (d:=p.2) (w:=l.length+4) (o:=-2) (by rw [ZcC];omega) (by rw [ZcC];omega) (by rw [ZcC];omega) (by omega) hd (by omega) (by rw [(Zdf fx.1).1];omega) (by rw [(Zd0 (by omega) (by omega)).1,h4];rfl)).2
  show (ZQ (app l (frK p.2 4)) (nx l p.1 p.2) (p.2:Int) _ (-2)).bind _=_
  rw [ev,J,obs]
  rfl
end Mu
/- Layer 21: RectTells. -/
namespace Mu
theorem ZqZ {l:List Za}(hl:l.length≤1100) (h:Zcs l=0) (h1:l.length≠1) :
  (Zfq l=none∧ZdA ⟨l⟩=some (false,0,⟨l⟩)∧∀ s:Nat,s≤50000→z7.s0 (l,(s:Int))=some (.inr (.inr (l,0)))) ∨
  ∃ m,ZdA ⟨l⟩=some (true,0,⟨m⟩)∧Cut l m∧∀ s:Nat,s≤50000→z7.s0 (l,(s:Int))=some (.inl (m,(s:Int)+1)):=by
 obtain ⟨k,hW,_⟩:=Zff h
 have hc:=(Zdu.1 k).2
 have hV:=(ZgH.1 h).2.2 h1
 have F1:=ZlS (l:=l) (by omega)
 rw [if_pos ⟨h,h1⟩] at F1
 unfold ZdA
 rw [Zlb (by omega),obs,ZlH (by omega),obs,if_pos ⟨h,h1⟩]
 cases q:Zfq l with
 | none =>
  left
  refine ⟨rfl,rfl,fun s hs=>?_⟩
  rw [q] at F1
  simp only [z7.s0]
  rw [Z7 (by omega),F1,obs]
  dsimp only
  rw [Z7 (by omega)]
 | some i =>
  right
  obtain ⟨hi,hne,j,e,hj,h0⟩:=Zk4 q
  obtain ⟨o1,o2,o3,_⟩:=Zd5 hc
  have hm:=ZbW hi
  have fl:=o3 _ hm
  have r4:Za8 l (gi (faces l) i)=4:=by
   rcases ZkM h h1 hi with z|z
   ·exact z.1
   ·exact absurd z.2 hne
  obtain ⟨kk,k1,k2,dX,dY,lv,w,ew,lw,S,f1,f2,C⟩:=ZmP hc hV hW hm r4 hj h0 (by omega)
  have tl:=Zdb (l:=l) (f:=gi (faces l) i)
  have rk:zV (tns l (gi (faces l) i)) (j:Int)=some (kk:Int):=by
   have a:=ZqT (t:=tns l (gi (faces l) i)) Ze8 (by omega) (by omega) h0
   have b:=rOf (t:=tns l (gi (faces l) i)) Ze8 (by omega) (i:=j) (by omega)
   rw [k2] at a
   rw [b,if_pos h0]
   cases z:ZgR (tns l (gi (faces l) i)) j with
   | none=>rw [z] at a;simp at a
   | some x =>
    rw [z] at a
    simp only [Option.some.injEq,Prod.mk.injEq,and_true] at a
    dsimp only
    rw [a]
  rw [q] at F1
  simp only [e,Option.getD_some] at F1
  have nX:=dX.2.2
  have nY:=dY.2.2
  have en:nx l (gi (gi (faces l) i) j).1 (gi (gi (faces l) i) j).2=((nx l (gi (gi (faces l) i) j).1 (gi (gi (faces l) i) j).2).toNat:Nat):=by omega
  have J:=Zhv (l:=spl l (gi (gi (faces l) i) kk).1 (gi (gi (faces l) i) kk).2 w (ow l (gi (gi (faces l) i) kk).1 (gi (gi (faces l) i) kk).2)) (v:=(nx l (gi (gi (faces l) i) j).1 (gi (gi (faces l) i) j).2).toNat) (d:=(gi (gi (faces l) i) j).2) (w:=l.length) (o:=-2) (by rw [S.len];omega) (by rw [S.len];omega) (by rw [S.len];omega) (by omega) dX.2.1 (by omega) f1 f2
  refine ⟨_,?_,C,fun s hs=>?_⟩
  ·dsimp only
   rw [e]
   simp only [Option.getD_some]
   rw [if_neg (by decide),ZjM (by omega) k,obs]
   dsimp only
   rw [Zr (by simp;omega),itn,itn,Zcf hi,ZjP (by omega) k (o1 _ hm) (by omega),obs,k2,obs]
   dsimp only
   rw [List.length_map,Zr (by omega),Zr (by omega),itn,Zcf hj,Zcf k1]
   show (Zbq ⟨l⟩ ((gi (gi (faces l) i) j).1:Int) ((gi (gi (faces l) i) j).2:Int)).bind _=_
   rw [Znj dX.1 dX.2.1,if_neg (by omega),obs]
   dsimp only
   show (Zcd ⟨l⟩ ((gi (gi (faces l) i) kk).1:Int) ((gi (gi (faces l) i) kk).2:Int)).bind _=_
   rw [Znl (by omega) dY.1 dY.2.1 ew lw,obs]
   dsimp only
   rw [ZaJ rfl]
   show (Za2 ⟨spl l (gi (gi (faces l) i) kk).1 (gi (gi (faces l) i) kk).2 w (ow l (gi (gi (faces l) i) kk).1 (gi (gi (faces l) i) kk).2)⟩ (nx l (gi (gi (faces l) i) j).1 (gi (gi (faces l) i) j).2) ((gi (gi (faces l) i) j).2:Int) (l.length:Int) (-2)).bind _=_
   rw [en,J.1,obs]
   rfl
  ·have g1:gi ((gi (faces l) i).map rt) j=rt (gi (gi (faces l) i) j):=Zcf hj
   have g2:gi ((gi (faces l) i).map rt) kk=rt (gi (gi (faces l) i) kk):=Zcf k1
   simp only [z7.s0]
   rw [Z7 (by omega),F1,obs]
   dsimp only
   rw [Z8 (by omega),Zkd (by omega) k,obs,Zr (by simp;omega)]
   simp only [itn,Zcf hi]
   rw [Zkf (by omega) k (o1 _ hm) (by omega),obs,rk,obs]
   simp only [itn,g1,g2]
   generalize gi (gi (faces l) i) j=x at *
   generalize gi (gi (faces l) i) kk=y at *
   have x1:=dX.1
   have x2:=dX.2.1
   have y1:=dY.1
   have y2:=dY.2.1
   have er:∀ p:Da,(rt p).Dir=(p.2:Int)∧(rt p).Cell=(p.1:Int):=fun _=>⟨rfl,rfl⟩
   simp only [(er x).1,(er x).2,(er y).1,(er y).2,itn]
   rw [Zr (by simp;omega),Zr (by omega),Zr (by omega),Zr (by simp;omega),Znz (by omega) y1 y2 ew lw,obs]
   dsimp only
   rw [ZaJ rfl]
   show (ZQ _ (nx l x.1 x.2) (x.2:Int) _ (-2)).bind _=_
   rw [en,J.2,obs,zh (by omega)]
   rfl
theorem Zjl {cells:List Za}:∀ (f:Nat) (g:List Za) (n:Nat),Zcs g=0→2≤g.length→(g.length:Int)+negs g≤1000→(n:Int)+negs g≤40000→2*negs g+3≤f →
  ∃ m,ZJ (ZaF.s0 cells) f (g,true)=some (.inl m)∧ZJ z7.s0 f (g,(n:Int))=some (.inr (m,0))∧m.length≤1000
 | 0,g,n,_,_,_,_,hf=>by have:=ZjW (l:=g);omega
 | f+1,g,n,hv,h2,hb,hn,hf=>by
  have nn:=ZjW (l:=g)
  rcases ZqZ (l:=g) (by omega) hv (by omega) with ⟨a,b,c⟩|⟨m,a,C,c⟩
  ·refine ⟨g,?_,?_,by omega⟩
   ·have e1:ZaF.s0 cells (g,true)=some (.inl (g,false)):=by
     simp only [ZaF.s0,if_true]
     rw [b,obs]
     rfl
    rw [ZJ,e1]
    obtain ⟨f',rfl⟩:∃ f',f=f'+1:=⟨f-1,by omega⟩
    show ZJ (ZaF.s0 cells) (f'+1) (g,false)=_
    rw [ZJ]
    rfl
   ·rw [ZJ,c n (by omega)]
  ·have l1:=C.len
   have l2:=C.negs
   obtain ⟨r,r1,r2,r3⟩:=Zjl (cells:=cells) f m (n+1) (C.err (by omega)) (by omega) (by omega) (by omega) (by omega)
   refine ⟨r,?_,?_,r3⟩
   ·have e1:ZaF.s0 cells (g,true)=some (.inl (m,true)):=by
     simp only [ZaF.s0,if_true]
     rw [a,obs]
     rfl
    rw [ZJ,e1]
    exact r1
   ·rw [ZJ,c n (by omega)]
    exact r2
theorem Zn8 {l:List Za}:Zcs l≠2:=by
 have s:∀ v d,Ze0 l v d≠2:=fun v d=>by unfold Ze0;split<;>(try split)<;>(try split)<;>decide
 have r:∀ v,ZgE l v≠2:=fun v=>by
  unfold ZgE
  split
  ·exact s _ _
  ·decide
 have c:Zeb l≠2:=by
  unfold Zeb
  split
  ·decide
  ·split
   ·exact r _
   ·decide
 unfold Zcs
 split
 ·split
  ·split
   ·decide
   ·split
    ·split<;>decide
    ·decide
  ·decide
 ·exact c
theorem ZjO {l:List Za}(hl:l.length≤100):Zbx l=some true:=by
 unfold Zbx
 have Rc:ZbK l=some (if Zcs l=0 then (if l.length≠1 then (Zfq l).isNone else true,0) else (false,Zcs l)):=by
  unfold ZbK
  rw [ZlK (by omega),obs]
  by_cases h:Zcs l=0
  ·rw [ZaJ h,if_pos h,ZlH (by omega),obs]
   by_cases c:l.length=1
   ·rw [if_neg (by omega),if_neg (by omega)];rfl
   ·rw [if_pos ⟨h,c⟩,if_pos c]
    cases Zfq l<;>rfl
  ·rw [Zbj h,if_neg h]
 have Fi:=ZlS (l:=l) (by omega)
 by_cases h:Zcs l=0
 ·by_cases h1:l.length=1
  ·have hw:Zeh l=-1:=by unfold Zeh;rw [if_pos h1]
   have e2:zP l=some ([],2):=by
    unfold zP
    rw [Zgd (by omega),if_pos h,obs,hw,h]
    rfl
   have e3:z7 l=some (l,0):=by
    unfold z7
    rw [Z7 (by omega),Zgd (by omega),obs]
    dsimp only
    rw [Z7 h,obs]
   rw [Zji hl (.inr h1),if_pos h,obs]
   dsimp only
   rw [e2,obs]
   dsimp only
   rw [Zli h h1,obs]
   dsimp only
   rw [e3,obs]
   dsimp only
   rw [Rc,if_pos h,if_neg (by omega),obs]
   dsimp only
   rw [Zgd (by omega),obs]
   dsimp only
   rw [Fi,if_neg (by omega),obs]
   dsimp only
   rw [Z7 rfl,Zi3 (by simp),obs,obs,h,if_pos (by simp),Zi3 (by omega)]
   rfl
  ·have h2:2≤l.length:=by have:=ZfT (Zff h).2.1;omega
   obtain ⟨F,v,d,e1,Fr,e2⟩:=Zoz hl h h1
   have fl:=Fr.len
   have nl:=Zo1 (l:=F)
   have nn:=ZjW (l:=F)
   obtain ⟨m,r1,r2,r3⟩:=Zjl (cells:=l) (2*(negs F).toNat+3) F 0 (Fr.err hl) (by omega) (by omega) (by omega) (by omega)
   have hbig:2*(negs F).toNat+3≤big:=by have:5000<big:=Zbg (by omega);omega
   have r1':=Zd6 r1 hbig
   have r2':=Zd6 r2 hbig
   have e3:ZaF l=some (m,0):=by
    unfold ZaF
    rw [e1,obs]
    dsimp only
    rw [Z8 (by omega),ZaJ rfl,obs]
    refine (ZgU r1').trans ?_
    dsimp only
    rw [Zlb (by omega),obs]
   have e4:z7 l=some (m,0):=by
    unfold z7
    rw [Z8 (by omega),obs]
    dsimp only
    rw [e2,obs]
    dsimp only
    rw [ZaJ rfl]
    exact ZgU r2'
   rw [Zlg hl e1 Fr,obs]
   dsimp only
   rw [e2,obs]
   dsimp only
   rw [e3,obs]
   dsimp only
   rw [e4,obs]
   dsimp only
   rw [Rc,if_pos h,if_pos h1,obs]
   dsimp only
   rw [Zgd (by omega),obs]
   dsimp only
   rw [Fi,if_pos ⟨h,h1⟩,obs]
   cases Zfq l with
   | none =>
    dsimp only
    rw [Z7 rfl,Zi3 (by omega),obs,obs,h,if_pos (by simp),Zi3 (by omega)]
    rfl
   | some i =>
    dsimp only
    rw [Z7 rfl,Zi3 (by omega),obs,obs,h,if_pos (by simp),Zi3 (by omega)]
    simp
    try omega
 ·have e2:zP l=some ([],Zcs l):=by
   unfold zP
   rw [Zgd (by omega),obs]
   dsimp only
   rw [Zbj h]
  have e3:z7 l=some ([],Zcs l):=by
   unfold z7
   have:(if decide ((l.length:Int)=1)=true then (zJ l).bind fun (x,x1)=>if decide (x1=0)=true then some (.inr ():Unit⊕Unit) else some (.inl ()) else some (.inl ()))=some (.inl ()):=by
    by_cases c:(l.length:Int)=1
    ·rw [Z7 c,Zgd (by omega),obs]
     dsimp only
     rw [Z8 h]
    ·rw [Z8 c]
   refine (ZgU this).trans ?_
   dsimp only
   rw [e2,obs]
   dsimp only
   rw [Zbj h]
  rw [Zji hl (.inl h),if_neg h,obs]
  dsimp only
  rw [e2,obs]
  dsimp only
  rw [Zlh hl h Zn8,obs]
  dsimp only
  rw [e3,obs]
  dsimp only
  rw [Rc,if_neg h,obs]
  dsimp only
  rw [Zgd (by omega),obs]
  dsimp only
  rw [Fi,if_neg (fun z=>h z.1),obs]
  dsimp only
  rw [Z7 rfl,Zi3 (by simp),obs,obs,if_pos (by simp),obs]
  simp [h]
theorem Zif (z:Zao) (y:Zbr) (raw:List Za) (m1:z.At.length≤Go.maxLen) (b1:∀ y∈z.At,ZgT y) (m2:z.Bits.length≤Go.maxLen) (b2:∀ y∈z.Bits,ZgT y) (m3:z.Own.length≤Go.maxLen) (b3:∀ y∈z.Own,Zl2 y) (n1:y.Boxes.length≤Go.maxLen) (c1:∀ x∈y.Boxes,Zjv x) (n2:y.Edges.length≤Go.maxLen) (c2:∀ x∈y.Edges,Zhk x) (n3:y.Bends.length≤Go.maxLen) (c3:∀ x∈y.Bends,ZgT x) (mr:raw.length≤Go.maxLen) (br:∀ y∈raw,Zf8 y):ZbT z y raw=some true:=by
 obtain ⟨l,pts,e1,hM,hlen⟩:=ZqQ (z:=z) (most:=12) (okZ m1 b1 b3) (by omega)
 obtain ⟨s,e2,hs,_⟩:=ZpO (z:=y) c2 c3 (most:=4) (by omega)
 obtain ⟨w,e3⟩:=ZoG hs
 obtain ⟨n,e4,hn⟩:=Zr6 hs
 unfold ZbT
 rw [e1,obs]
 dsimp only
 rw [e2,obs,ZkZ,obs,Bool.not_true,if_neg Bool.false_ne_true,ZjO (by omega),obs,Bool.not_true,obs,if_neg Bool.false_ne_true,Zr (by omega),ZjO (by rw [List.length_take];omega),obs,Bool.not_true,obs,if_neg Bool.false_ne_true,e3,obs]
 by_cases hw:w=0
 ·rw [ZaJ hw,e4,obs]
  by_cases c:24<n.Cells.length
  ·rw [Z7 (by omega)];rfl
  ·rw [Z8 (by omega),ZjO (by omega)];rfl
 ·rw [Zbj hw]
end Mu
