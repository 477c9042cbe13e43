/- The law, plainly: what is worked out. -/
import Derived.Test.YtdefkboekpjiiaaMuV
import Derived.Test.YtdefkboekpjiiaaMuDf
import Derived.Test.YtdefkboekpjiiaaMuK0
/- Loops of Zeh where an edge is taken out: how many there are,and their turns. -/
set_option linter.unusedVariables false
set_option linter.unusedSimpArgs false
set_option maxRecDepth 10000
namespace Mu
def nxE (l:List Za) (e e' y:Da):Da:=if y=e then bh l e' else if y=e' then bh l e else y
def crE (l:List Za) (e e' y:Da):Int:=if y=e then tt l e' - 2 else if y=e' then tt l e - 2 else 0
theorem Del.pt {l m:List Za} (hc:Ck l) {v d w:Nat} (D:Del l m v d w):∀ {s:List Da} {x y:Da},Pt l x s y→s≠[]→(∀ a∈s,a≠(v,d)∧a≠(w,(d + 2) % 4)) →
  Pt m x s (nxE l (v,d) (w,(d + 2) % 4) y)∧Zbg m s=Zbg l s + crE l (v,d) (w,(d + 2) % 4) y
 | [],_,_,_,h,_=>absurd rfl h
 | [a],x,y,h,_,hs=>by
  rw [Pt,Pt] at h
  obtain ⟨rfl,h1,rfl⟩:=h
  have q:=hs x (by simp)
  have hm:Mu.isD m x:=D.isD.2 ⟨h1,q.1,q.2⟩
  have b:=D.bh hc hm
  refine ⟨⟨rfl,hm,?_⟩,?_⟩
  ·rw [b.1]; rfl
  ·rw [Zbt,Zbt,ZeZ,ZeZ,b.2]
   unfold crE
   split
   ·omega
   ·split <;> omega
 | a :: b :: s,x,y,h,_,hs=>by
  rw [Pt] at h
  obtain ⟨rfl,h1,h2⟩:=h
  have q:=hs x (by simp)
  have qb:=hs b (by simp)
  have hm:Mu.isD m x:=D.isD.2 ⟨h1,q.1,q.2⟩
  have eb:Mu.bh l x=b:=by rw [Pt] at h2; exact h2.1
  have B:=D.bh hc hm
  rw [eb,if_neg qb.1,if_neg qb.2,if_neg qb.1,if_neg qb.2] at B
  rw [eb] at h2
  obtain ⟨i1,i2⟩:=D.pt hc h2 (by simp) fun a ha=>hs a (List.mem_cons_of_mem _ ha)
  refine ⟨⟨rfl,hm,?_⟩,?_⟩
  ·rw [B.1]; exact i1
  ·rw [Zbt,i2,Zbt (t:=b :: s),B.2]; omega
theorem ZlU {l:List Za} {p:Da}:(bh l p).1=(nx l p.1 p.2).toNat:=by rw [Zdi]
theorem Del.bh_e {l m:List Za} (hc:Ck l) {v d w:Nat} (D:Del l m v d w):Mu.bh l (v,d)≠(v,d):=by
 intro q
 have:=congrArg Prod.fst q
 rw [ZlU] at this
 dsimp only at this
 rw [D.hn,Int.toNat_natCast] at this
 exact D.ne hc this
theorem Del.bh_e' {l m:List Za} (hc:Ck l) {v d w:Nat} (D:Del l m v d w):Mu.bh l (w,(d + 2) % 4)≠(w,(d + 2) % 4):=by
 intro q
 have:=congrArg Prod.fst q
 rw [ZlU] at this
 dsimp only at this
 rw [D.hb hc,Int.toNat_natCast] at this
 exact D.ne hc this.symm
theorem Del.ee {l m:List Za} (hc:Ck l) {v d w:Nat} (D:Del l m v d w):((w,(d + 2) % 4):Da)≠(v,d):=fun q=>D.ne hc (congrArg Prod.fst q)
theorem Del.joinA {l m:List Za} (hc:Ck l) {v d w:Nat} (D:Del l m v d w) {A B:List Da} (hA:Lp l ((v,d) :: A)) (hB:Lp l ((w,(d + 2) % 4) :: B)) (hdj:∀ x∈(v,d) :: A,x ∉ (w,(d + 2) % 4) :: B) :
  Lp m (A++B)∧Zbg m (A++B)=Zbg l ((v,d) :: A) + Zbg l ((w,(d + 2) % 4) :: B) - 4:=by
 have ee:=D.ee hc
 obtain ⟨a1,a2⟩:=hA.hd
 obtain ⟨b1,b2⟩:=hB.hd
 have nA:A≠[]:=by rintro rfl; exact D.bh_e hc a2
 have nB:B≠[]:=by rintro rfl; exact D.bh_e' hc b2
 have ndA:=List.nodup_cons.1 hA.nd
 have ndB:=List.nodup_cons.1 hB.nd
 obtain ⟨p1,r1⟩:=D.pt hc a2 nA fun a ha=>⟨fun q=>ndA.1 (q ▸ ha),fun q=>hdj a (by simp [ha]) (by simp [q])⟩
 obtain ⟨p2,r2⟩:=D.pt hc b2 nB fun a ha=>⟨fun q=>hdj a (by simp [q]) (by simp [ha]),fun q=>ndB.1 (q ▸ ha)⟩
 unfold nxE at p1 p2
 unfold crE at r1 r2
 rw [if_pos rfl] at p1 r1
 rw [if_neg ee,if_pos rfl] at p2 r2
 refine ⟨⟨by simp [nA],?_,_,Pt.app.2 ⟨_,p1,p2⟩⟩,?_⟩
 ·rw [List.nodup_append]
  exact ⟨ndA.2,ndB.2,fun a ha b hb q=>hdj a (by simp [ha]) (by simp [q,hb])⟩
 ·rw [ZcF,r1,r2,Zbt,Zbt]; omega
theorem Del.joinB {l m:List Za} (hc:Ck l) {v d w:Nat} (D:Del l m v d w) {A B:List Da} (h:Lp l ((v,d) :: (A++(w,(d + 2) % 4) :: B))) :
  (A≠[]→Lp m A∧Zbg m A=Zbg l A + tt l (v,d) - 2)∧(B≠[]→Lp m B∧Zbg m B=Zbg l B + tt l (w,(d + 2) % 4) - 2)∧(A=[]↔Mu.bh l (v,d)=(w,(d + 2) % 4))∧(B=[]↔Mu.bh l (w,(d + 2) % 4)=(v,d)):=by
 have ee:=D.ee hc
 obtain ⟨a1,a2⟩:=h.hd
 obtain ⟨y,c1,c2⟩:=Pt.app.1 a2
 rw [Pt] at c2
 obtain ⟨rfl,c2,c3⟩:=c2
 have nd:=List.nodup_cons.1 h.nd
 have nd2:=List.nodup_append.1 nd.2
 have nd3:=List.nodup_cons.1 nd2.2.1
 have qA:∀ a∈A,a≠(v,d)∧a≠(w,(d + 2) % 4):=fun a ha=>⟨fun q=>nd.1 (by simp [← q,ha]),fun q=>nd2.2.2 a ha (w,(d + 2) % 4) (by simp) q⟩
 have qB:∀ a∈B,a≠(v,d)∧a≠(w,(d + 2) % 4):=fun a ha=>⟨fun q=>nd.1 (by simp [← q,ha]),fun q=>nd3.1 (q ▸ ha)⟩
 refine ⟨fun nA=>?_,fun nB=>?_,⟨?_,fun q=>?_⟩,⟨?_,fun q=>?_⟩⟩
 ·obtain ⟨p1,r1⟩:=D.pt hc c1 nA qA
  unfold nxE at p1
  unfold crE at r1
  rw [if_neg ee,if_pos rfl] at p1 r1
  exact ⟨⟨nA,nd2.1,_,p1⟩,by rw [r1]; omega⟩
 ·obtain ⟨p1,r1⟩:=D.pt hc c3 nB qB
  unfold nxE at p1
  unfold crE at r1
  rw [if_pos rfl] at p1 r1
  exact ⟨⟨nB,nd3.2,_,p1⟩,by rw [r1]; omega⟩
 ·rintro rfl; exact c1
 ·cases A with
  | nil=>rfl
  | cons a A =>
   rw [Pt] at c1
   exact absurd (c1.1.symm.trans q) (qA a (by simp)).2
 ·rintro rfl; exact c3
 ·cases B with
  | nil=>rfl
  | cons a B =>
   rw [Pt] at c3
   exact absurd (c3.1.symm.trans q) (qB a (by simp)).1
theorem Cyc.of_perm {l:List Za} {f g:List Da} (h:Cyc l f) (p:f.Perm g):Cyc l g :=
 ⟨fun e=>h.ne (by rw [e] at p; exact p.eq_nil),p.nodup_iff.1 h.nd,fun x hx=>h.is x (p.mem_iff.2 hx),fun x hx=>p.mem_iff.1 (h.cl x (p.mem_iff.2 hx)),fun C hC x hx y hy=>h.one C hC x (p.mem_iff.2 hx) y (p.mem_iff.2 hy)⟩
theorem Cyc.lp {l:List Za} (hc:Ck l) {f:List Da} (h:Cyc l f) {p:Da} (hp:p∈f):∃ t,Lp l (p :: t)∧f.Perm (p :: t):=by
 obtain ⟨t,ht⟩:=Zm3 hc (h.is p hp)
 exact ⟨t,ht,h.perm ht.cyc hp (by simp)⟩
theorem Del.keep {l m:List Za} (hc:Ck l) {v d w:Nat} (D:Del l m v d w) {f:List Da} (h:Cyc l f) (h1:(v,d) ∉ f) (h2:(w,(d + 2) % 4) ∉ f):Cyc m f∧Zbg m f=Zbg l f:=by
 obtain ⟨p,hp⟩:=List.exists_mem_of_ne_nil f h.ne
 obtain ⟨t,ht,pe⟩:=h.lp hc hp
 obtain ⟨x,hx⟩:=ht.pt
 have q:∀ a∈p :: t,a≠(v,d)∧a≠(w,(d + 2) % 4):=fun a ha=>⟨fun k=>h1 (k ▸ pe.mem_iff.2 ha),fun k=>h2 (k ▸ pe.mem_iff.2 ha)⟩
 have xp:x=p:=by rw [Pt] at hx; exact hx.1
 obtain ⟨k1,k2⟩:=D.pt hc hx (by simp) q
 subst xp
 unfold nxE at k1
 unfold crE at k2
 have qx:=q x (by simp)
 rw [if_neg qx.1,if_neg qx.2] at k1 k2
 have L:Lp m (x :: t):=⟨by simp,ht.nd,x,k1⟩
 refine ⟨L.cyc.of_perm pe.symm,?_⟩
 rw [ZeM pe,ZeM pe,k2]; omega

/-! All loops. -/
structure Fcs (l:List Za) (F:List (List Da)):Prop where
 cy:∀ f∈F,Cyc l f
 nd:F.flatten.Nodup
 al:∀ p,isD l p→p∈F.flatten
theorem Fcs.faces {l:List Za} (hc:Ck l):Fcs l (faces l):=⟨ZcA hc,(ZdR hc).2.2.2.1,fun p hp=>(Zlo hc).2 hp⟩
theorem Fcs.le {l:List Za} {F G:List (List Da)} (hF:Fcs l F) (hG:Fcs l G):F.length≤G.length:=by
 have key:∀ f∈F,∃ i,i < G.length∧∃ p,p∈f∧p∈gi G i:=by
  intro f hf
  obtain ⟨p,hp⟩:=List.exists_mem_of_ne_nil f (hF.cy f hf).ne
  obtain ⟨g,hg,hpg⟩:=List.mem_flatten.1 (hG.al p ((hF.cy f hf).is p hp))
  obtain ⟨i,hi,e⟩:=List.mem_iff_getElem.1 hg
  exact ⟨i,hi,p,hp,by rw [ZbL hi,e]; exact hpg⟩
 have:∀ F:List (List Da),(∀ f∈F,Cyc l f)→F.flatten.Nodup→(∀ f∈F,∃ i,i < G.length∧∃ p,p∈f∧p∈gi G i)→∃ I:List Nat,I.length=F.length∧I.Nodup∧∀ i∈I,i < G.length∧∃ f∈F,∃ p,p∈f∧p∈gi G i:=by
  intro F
  induction F with
  | nil=>intro _ _ _; exact ⟨[],rfl,List.nodup_nil,by simp⟩
  | cons f F ih =>
   intro h1 h2 h3
   rw [List.flatten_cons,List.nodup_append] at h2
   obtain ⟨I,k1,k2,k3⟩:=ih (fun f hf=>h1 f (by simp [hf])) h2.2.1 fun f hf=>h3 f (by simp [hf])
   obtain ⟨i,hi,p,hp,hpi⟩:=h3 f (by simp)
   refine ⟨i :: I,by simp [k1],List.nodup_cons.2 ⟨fun hm=>?_,k2⟩,fun j hj=>?_⟩
   ·obtain ⟨_,f',hf',p',hp',hpi'⟩:=k3 i hm
    have cg:=hG.cy _ (Zbu hi)
    have c1:=h1 f (by simp)
    -- f and f' share a dart
    have:=(cg.sub c1 hpi hp) p' hpi'
    exact h2.2.2 p' this p' (List.mem_flatten.2 ⟨f',hf',hp'⟩) rfl
   ·rcases List.mem_cons.1 hj with rfl | hj
    ·exact ⟨hi,f,by simp,p,hp,hpi⟩
    ·obtain ⟨a,f',hf',r⟩:=k3 j hj
     exact ⟨a,f',by simp [hf'],r⟩
 obtain ⟨I,k1,k2,k3⟩:=this F hF.cy hF.nd key
 have:=k2.length_le_of_subset (l₂:=List.range G.length) fun i hi=>List.mem_range.2 (k3 i hi).1
 simp at this
 omega
theorem Fcs.len {l:List Za} {F G:List (List Da)} (hF:Fcs l F) (hG:Fcs l G):F.length=G.length:=Nat.le_antisymm (hF.le hG) (hG.le hF)
theorem Fcs.perm {l:List Za} {F G:List (List Da)} (h:Fcs l F) (p:F.Perm G):Fcs l G :=
 ⟨fun f hf=>h.cy f (p.mem_iff.2 hf),p.flatten.nodup_iff.1 h.nd,fun x hx=>p.flatten.mem_iff.1 (h.al x hx)⟩
theorem Fcs.pick {l:List Za} {S F:List (List Da)} (h:Fcs l (S++F)) {g:List Da} (hg:Cyc l g) (hn:∀ p∈g,p ∉ S.flatten):∃ R,Fcs l (S++g :: R)∧F.length=R.length + 1:=by
 obtain ⟨p,hp⟩:=List.exists_mem_of_ne_nil g hg.ne
 have:=h.al p (hg.is p hp)
 rw [List.flatten_append,List.mem_append] at this
 rcases this with k | k
 ·exact absurd k (hn p hp)
 ·obtain ⟨g1,hg1,hpg⟩:=List.mem_flatten.1 k
  have pe:F.Perm (g1 :: F.erase g1):=List.perm_cons_erase hg1
  have pg:g1.Perm g:=(h.cy g1 (by simp [hg1])).perm hg hpg hp
  have h2:=h.perm (List.Perm.append_left S pe)
  have pf:(S++g1 :: F.erase g1).flatten.Perm (S++g :: F.erase g1).flatten:=by
   rw [List.flatten_append,List.flatten_append,List.flatten_cons,List.flatten_cons]
   exact List.Perm.append_left _ (List.Perm.append_right _ pg)
  refine ⟨F.erase g1,⟨fun f hf=>?_,pf.nodup_iff.1 h2.nd,fun x hx=>pf.mem_iff.1 (h2.al x hx)⟩,by rw [pe.length_eq]; rfl⟩
  rcases List.mem_append.1 hf with q | q
  ·exact h.cy f (by simp [q])
  ·rcases List.mem_cons.1 q with rfl | q
   ·exact hg
   ·exact h.cy f (by simp [List.mem_of_mem_erase q])
theorem Del.fcs {l m:List Za} (hc:Ck l) {v d w:Nat} (D:Del l m v d w) {S S' R:List (List Da)} (h:Fcs l (S++R)) (h1:∀ f∈S',Cyc m f) (h2:S'.flatten.Nodup) (h3:∀ p,p∈S'.flatten↔p∈S.flatten∧p≠(v,d)∧p≠(w,(d + 2) % 4)) (h4:(v,d)∈S.flatten) (h5:(w,(d + 2) % 4)∈S.flatten) :
  Fcs m (S'++R)∧∀ f∈R,Zbg m f=Zbg l f:=by
 have nd:=h.nd
 rw [List.flatten_append,List.nodup_append] at nd
 have keep:∀ f∈R,Cyc m f∧Zbg m f=Zbg l f:=fun f hf=>D.keep hc (h.cy f (by simp [hf]))
  (fun q=>nd.2.2 _ h4 _ (List.mem_flatten.2 ⟨f,hf,q⟩) rfl) (fun q=>nd.2.2 _ h5 _ (List.mem_flatten.2 ⟨f,hf,q⟩) rfl)
 refine ⟨⟨fun f hf=>?_,?_,fun p hp=>?_⟩,fun f hf=>(keep f hf).2⟩
 ·rcases List.mem_append.1 hf with q | q
  ·exact h1 f q
  ·exact (keep f q).1
 ·rw [List.flatten_append,List.nodup_append]
  exact ⟨h2,nd.2.1,fun a ha b hb=>nd.2.2 a ((h3 a).1 ha).1 b hb⟩
 ·obtain ⟨q1,q2,q3⟩:=D.isD.1 hp
  have:=h.al p q1
  rw [List.flatten_append,List.mem_append] at this ⊢
  rcases this with k | k
  ·exact .inl ((h3 p).2 ⟨k,q2,q3⟩)
  ·exact .inr k
inductive Zqx (l m:List Za) (e e':Da):Prop where
 | two (A B:List Da) (R:List (List Da)) (hA:Lp l (e :: A)) (hB:Lp l (e' :: B)) (hl:Fcs l ((e :: A) :: (e' :: B) :: R)) (hm:Fcs m ((A++B) :: R)) (rot:Zbg m (A++B)=Zbg l (e :: A) + Zbg l (e' :: B) - 4) (same:∀ f∈R,Zbg m f=Zbg l f) (n1:bh l e≠e') (n2:bh l e'≠e) (lm:Lp m (A++B))
 | one (A B:List Da) (R:List (List Da)) (hA:Lp l (e :: (A++e' :: B))) (hl:Fcs l ((e :: (A++e' :: B)) :: R)) (hm:Fcs m (A :: B :: R)) (rot:Zbg m A + Zbg m B=Zbg l (e :: (A++e' :: B)) - 4) (same:∀ f∈R,Zbg m f=Zbg l f) (n1:bh l e≠e') (n2:bh l e'≠e) (lA:Lp m A) (lB:Lp m B)
 | leaf (A:List Da) (R:List (List Da)) (hA:Cyc l (e :: e' :: A)) (hl:Fcs l ((e :: e' :: A) :: R)) (hm:Fcs m (A :: R)) (rot:Zbg m A=Zbg l (e :: e' :: A)) (same:∀ f∈R,Zbg m f=Zbg l f) (n:(bh l e=e'∧bh l e'≠e)∨(bh l e≠e'∧bh l e'=e))
 | iso (R:List (List Da)) (hA:Cyc l [e,e']) (hl:Fcs l ([e,e'] :: R)) (hm:Fcs m R) (same:∀ f∈R,Zbg m f=Zbg l f) (n1:bh l e=e') (n2:bh l e'=e)
theorem Zli {l:List Za} {p:Da} (hp:p.2 < 4) (h:(bh l p).2=(p.2 + 2) % 4):tt l p=-2:=by
 unfold tt tn
 rw [h,if_neg (by omega),if_neg (by omega),if_neg (by omega)]
theorem Del.kind {l m:List Za} (hc:Ck l) {v d w:Nat} (D:Del l m v d w):Zqx l m (v,d) (w,(d + 2) % 4):=by
 have hd:=D.hd
 have ee:=D.ee hc
 have hF:Fcs l ([]++Mu.faces l):=by rw [List.nil_append]; exact Fcs.faces hc
 obtain ⟨t,ht⟩:=Zm3 hc D.e
 by_cases c:(w,(d + 2) % 4)∈t
 ·obtain ⟨A,B,rfl⟩:=List.append_of_mem c
  obtain ⟨jA,jB,iA,iB⟩:=D.joinB hc ht
  obtain ⟨R,hR,_⟩:=hF.pick ht.cyc (by simp)
  rw [List.nil_append] at hR
  have nd:=List.nodup_cons.1 ht.nd
  have nd2:=List.nodup_append.1 nd.2
  have nd3:=List.nodup_cons.1 nd2.2.1
  by_cases cA:A=[]
  ·have bA:=iA.1 cA
   have tA:tt l (v,d)=-2:=Zli hd (by rw [bA])
   subst cA
   by_cases cB:B=[]
   ·have bB:=iB.1 cB
    subst cB
    obtain ⟨k1,k2⟩:=D.fcs hc (S:=[[(v,d),(w,(d + 2) % 4)]]) (S':=[]) (R:=R) hR (by simp) (by simp) (by intro p; simp; intro q; rcases q with rfl | rfl <;> simp) (by simp) (by simp)
    exact .iso R ht.cyc hR k1 k2 bA bB
   ·obtain ⟨lB,rB⟩:=jB cB
    obtain ⟨k1,k2⟩:=D.fcs hc (S:=[(v,d) :: (w,(d + 2) % 4) :: B]) (S':=[B]) (R:=R) hR (by intro f hf; rw [List.mem_singleton.1 hf]; exact lB.cyc) (by simpa using lB.nd) (by
     intro p
     simp
     constructor
     ·intro q
      exact ⟨.inr (.inr q),fun k=>nd.1 (by simp [← k,q]),fun k=>nd3.1 (k ▸ q)⟩
     ·rintro ⟨q | q | q,q2,q3⟩
      ·exact absurd q q2
      ·exact absurd q q3
      ·exact q) (by simp) (by simp)
    refine .leaf B R ht.cyc hR k1 ?_ k2 (.inl ⟨bA,fun q=>cB (iB.2 q)⟩)
    rw [rB,Zbt,Zbt,tA]; omega
  ·obtain ⟨lA,rA⟩:=jA cA
   by_cases cB:B=[]
   ·have bB:=iB.1 cB
    have tB:tt l (w,(d + 2) % 4)=-2:=Zli (show (d + 2) % 4 < 4 by omega) (by rw [bB]; dsimp only; omega)
    subst cB
    have pe:((v,d) :: (A++[(w,(d + 2) % 4)])).Perm ((v,d) :: (w,(d + 2) % 4) :: A):=List.Perm.cons _ List.perm_append_comm
    have C2:=ht.cyc.of_perm pe
    obtain ⟨R2,hR2,_⟩:=hF.pick C2 (by simp)
    rw [List.nil_append] at hR2
    obtain ⟨k1,k2⟩:=D.fcs hc (S:=[(v,d) :: (w,(d + 2) % 4) :: A]) (S':=[A]) (R:=R2) hR2 (by intro f hf; rw [List.mem_singleton.1 hf]; exact lA.cyc) (by simpa using lA.nd) (by
     intro p
     simp
     constructor
     ·intro q
      exact ⟨.inr (.inr q),fun k=>nd.1 (by simp [← k,q]),fun k=>nd2.2.2 p q _ (by simp) k⟩
     ·rintro ⟨q | q | q,q2,q3⟩
      ·exact absurd q q2
      ·exact absurd q q3
      ·exact q) (by simp) (by simp)
    refine .leaf A R2 C2 hR2 k1 ?_ k2 (.inr ⟨fun q=>cA (iA.2 q),bB⟩)
    rw [rA,Zbt,Zbt,tB]; omega
   ·obtain ⟨lB,rB⟩:=jB cB
    have dj:∀ a∈A,∀ b∈B,a≠b:=fun a ha b hb=>nd2.2.2 a ha b (by simp [hb])
    obtain ⟨k1,k2⟩:=D.fcs hc (S:=[(v,d) :: (A++(w,(d + 2) % 4) :: B)]) (S':=[A,B]) (R:=R) hR (by
     intro f hf
     simp at hf
     rcases hf with rfl | rfl
     ·exact lA.cyc
     ·exact lB.cyc) (by
     simp [List.nodup_append]
     exact ⟨lA.nd,lB.nd,fun a b ha x y hb q1 q2=>dj (a,b) ha (x,y) hb (Prod.ext q1 q2)⟩) (by
     intro p
     simp
     constructor
     ·rintro (q | q)
      ·exact ⟨.inr (.inl q),fun k=>nd.1 (by simp [← k,q]),fun k=>nd2.2.2 p q _ (by simp) k⟩
      ·exact ⟨.inr (.inr (.inr q)),fun k=>nd.1 (by simp [← k,q]),fun k=>nd3.1 (k ▸ q)⟩
     ·rintro ⟨q | q | q | q,q2,q3⟩
      ·exact absurd q q2
      ·exact .inl q
      ·exact absurd q q3
      ·exact .inr q) (by simp) (by simp)
    refine .one A B R ht hR k1 ?_ k2 (fun q=>cA (iA.2 q)) (fun q=>cB (iB.2 q)) lA lB
    rw [rA,rB,Zbt,ZcF,Zbt]; omega
 ·obtain ⟨B,hB⟩:=Zm3 hc (D.e' hc)
  have dj:∀ x∈(v,d) :: t,x ∉ (w,(d + 2) % 4) :: B:=by
   intro x hx hx2
   have:=hB.cyc.sub ht.cyc hx2 hx (w,(d + 2) % 4) (by simp)
   rcases List.mem_cons.1 this with q | q
   ·exact ee q
   ·exact c q
  obtain ⟨j1,j2⟩:=D.joinA hc ht hB dj
  obtain ⟨R1,hR1,_⟩:=hF.pick ht.cyc (by simp)
  rw [List.nil_append] at hR1
  obtain ⟨R,hR,_⟩:=Fcs.pick (S:=[(v,d) :: t]) (F:=R1) hR1 hB.cyc (fun p hp q=>by
   rw [List.flatten_cons,List.flatten_nil,List.append_nil] at q
   exact dj p q hp)
  have ndA:=List.nodup_cons.1 ht.nd
  have ndB:=List.nodup_cons.1 hB.nd
  obtain ⟨k1,k2⟩:=D.fcs hc (S:=[(v,d) :: t,(w,(d + 2) % 4) :: B]) (S':=[t++B]) (R:=R) hR (by intro f hf; rw [List.mem_singleton.1 hf]; exact j1.cyc) (by simpa using j1.nd) (by
   intro p
   simp
   constructor
   ·rintro (q | q)
    ·exact ⟨.inr (.inl q),fun k=>ndA.1 (k ▸ q),fun k=>c (k ▸ q)⟩
    ·exact ⟨.inr (.inr (.inr q)),fun k=>dj p (by simp [k]) (by simp [q]),fun k=>ndB.1 (k ▸ q)⟩
   ·rintro ⟨q | q | q | q,q2,q3⟩
    ·exact absurd q q2
    ·exact .inl q
    ·exact absurd q q3
    ·exact .inr q) (by simp) (by simp)
  refine .two t B R ht hB hR k1 j2 k2 ?_ ?_ j1
  ·intro q
   have:=ht.cyc.cl (v,d) (by simp)
   rw [q] at this
   exact dj _ this (by simp)
  ·intro q
   have:=hB.cyc.cl (w,(d + 2) % 4) (by simp)
   rw [q] at this
   exact dj (v,d) (by simp) this
end Mu
/- Euler: cells that hang together,and those of which some edges are left. -/
set_option linter.unusedVariables false
set_option linter.unusedSimpArgs false
set_option maxRecDepth 10000
namespace Mu
def cV (l:List Za):Int:=sg (fun w=>if deg l w=0 then 0 else 1) l.length
def cD (l:List Za):Int:=sg (deg l) l.length
def chi (l:List Za):Int:=2 * cV l + 2 * ((faces l).length:Int) - cD l
theorem Zfq {l:List Za} {u:Nat}:deg l u=(if 0≤nx l u 0 then 1 else 0) + (if 0≤nx l u 1 then 1 else 0) + (if 0≤nx l u 2 then 1 else 0) + (if 0≤nx l u 3 then 1 else 0):=by
 unfold deg; rw [ZmL]
theorem Zjf {l:List Za} {p:Da} (h:isD l p):1≤deg l p.1:=by
 have h1:=h.2.1
 have h2:=h.2.2
 rw [Zfq]
 have:p.2=0∨p.2=1∨p.2=2∨p.2=3:=by omega
 rcases this with q | q | q | q <;> rw [q] at h2 <;> rw [if_pos h2] <;> repeat' split <;> omega
theorem Zo8 {l:List Za} {u:Nat} (h:deg l u≠0):∃ d,d < 4∧0≤nx l u d:=by
 refine Classical.byContradiction fun q=>h ?_
 have k:∀ d,d < 4→¬ 0≤nx l u d:=fun d hd c=>q ⟨d,hd,c⟩
 rw [Zfq,if_neg (k 0 (by omega)),if_neg (k 1 (by omega)),if_neg (k 2 (by omega)),if_neg (k 3 (by omega))]
 rfl
theorem Zf2 {l:List Za} (hc:Ck l) {p:Da} (h:isD l p):bh l p=opp l p↔deg l (opp l p).1=1:=by
 have f:=h.fwd hc
 have h4:=h.2.1
 unfold bh opp
 dsimp only
 generalize (nx l p.1 p.2).toNat=u at *
 have hb:0≤nx l u ((p.2 + 2) % 4):=by rw [f.2]; omega
 rw [Zfq]
 have:p.2=0∨p.2=1∨p.2=2∨p.2=3:=by omega
 rcases this with q | q | q | q <;> rw [q] at hb ⊢ <;> simp only [show (0 + 2) % 4=2 from rfl,show (1 + 2) % 4=3 from rfl,show (2 + 2) % 4=0 from rfl,show (3 + 2) % 4=1 from rfl,show (0 + 1) % 4=1 from rfl,show (1 + 1) % 4=2 from rfl,show (2 + 1) % 4=3 from rfl,show (3 + 1) % 4=0 from rfl,show (0 + 3) % 4=3 from rfl,show (1 + 3) % 4=0 from rfl,show (2 + 3) % 4=1 from rfl,show (3 + 3) % 4=2 from rfl] at hb ⊢ <;>
 by_cases c0:0≤nx l u 0 <;> by_cases c1:0≤nx l u 1 <;> by_cases c2:0≤nx l u 2 <;> by_cases c3:0≤nx l u 3 <;> first | (exact absurd hb (by assumption)) | (simp [c0,c1,c2,c3])
theorem Del.deg {l m:List Za} (hc:Ck l) {v d w:Nat} (D:Del l m v d w) {u:Nat} (hu:u < l.length):deg m u=Mu.deg l u - (if u=v then 1 else 0) - (if u=w then 1 else 0):=by
 have hd:=D.hd
 have hne:=D.ne hc
 have e:∀ e,e < 4→(if 0≤Mu.nx m u e then (1:Int) else 0)=(if 0≤Mu.nx l u e then 1 else 0) - (if u=v∧e=d then 1 else 0) - (if u=w∧e=(d + 2) % 4 then 1 else 0):=by
  intro e he
  have q:=D.nx u e hu he
  by_cases c1:u=v∧e=d
  ·rw [if_pos (.inl c1)] at q
   have n2:¬ (u=w∧e=(d + 2) % 4):=fun k=>hne (k.1.symm.trans c1.1)
   have q2:Mu.nx l u e=w:=by rw [c1.1,c1.2,D.hn]
   rw [q,q2,if_pos c1,if_neg n2,if_neg (by omega),if_pos (by omega)]; rfl
  ·by_cases c2:u=w∧e=(d + 2) % 4
   ·rw [if_pos (.inr c2)] at q
    have q2:Mu.nx l u e=v:=by rw [c2.1,c2.2,D.hb hc]
    rw [q,q2,if_neg c1,if_pos c2,if_neg (by omega),if_pos (by omega)]; rfl
   ·rw [if_neg (by rintro (q | q); exact c1 q; exact c2 q)] at q
    rw [q,if_neg c1,if_neg c2]; omega
 rw [Zfq,Zfq,e 0 (by omega),e 1 (by omega),e 2 (by omega),e 3 (by omega)]
 have s1:(if u=v∧0=d then (1:Int) else 0) + (if u=v∧1=d then 1 else 0) + (if u=v∧2=d then 1 else 0) + (if u=v∧3=d then 1 else 0)=if u=v then 1 else 0:=by
  by_cases c:u=v
  ·simp only [c,true_and]
   have:d=0∨d=1∨d=2∨d=3:=by omega
   rcases this with rfl | rfl | rfl | rfl <;> rfl
  ·simp [c]
 have s2:(if u=w∧0=(d + 2) % 4 then (1:Int) else 0) + (if u=w∧1=(d + 2) % 4 then 1 else 0) + (if u=w∧2=(d + 2) % 4 then 1 else 0) + (if u=w∧3=(d + 2) % 4 then 1 else 0)=if u=w then 1 else 0:=by
  by_cases c:u=w
  ·simp only [c,true_and]
   have:d=0∨d=1∨d=2∨d=3:=by omega
   rcases this with rfl | rfl | rfl | rfl <;> rfl
  ·simp [c]
 omega
theorem Zj0 {n v:Nat} (hv:v < n) {c:Int}:sg (fun u=>if u=v then c else 0) n=c:=by
 rw [Zj1 hv fun i _ hne=>if_neg hne,if_pos rfl]
theorem Del.cD {l m:List Za} (hc:Ck l) {v d w:Nat} (D:Del l m v d w):cD l=cD m + 2:=by
 unfold Mu.cD
 rw [D.len,Zdc (f:=Mu.deg m) (fun u hu=>D.deg hc hu),Zj2,Zj2,Zj0 D.hv,Zj0 D.hw]
 omega
theorem Del.cV {l m:List Za} (hc:Ck l) {v d w:Nat} (D:Del l m v d w):cV l=cV m + (if Mu.deg l v=1 then 1 else 0) + (if Mu.deg l w=1 then 1 else 0):=by
 have hne:=D.ne hc
 have pv:=Zjf D.e
 have pw:=Zjf (D.e' hc)
 dsimp only at pv pw
 have e:∀ u,u < l.length→(if Mu.deg l u=0 then (0:Int) else 1)=(if Mu.deg m u=0 then 0 else 1) + (if u=v then (if Mu.deg l v=1 then 1 else 0) else 0) + (if u=w then (if Mu.deg l w=1 then 1 else 0) else 0):=by
  intro u hu
  rw [D.deg hc hu]
  by_cases c1:u=v
  ·subst c1
   have n:¬ u=w:=fun q=>hne q.symm
   simp only [n,if_true,if_false]
   (repeat' split) <;> omega
  ·by_cases c2:u=w
   ·subst c2
    simp only [c1,if_true,if_false]
    (repeat' split) <;> omega
   ·simp only [c1,c2,if_false]
    (repeat' split) <;> omega
 unfold Mu.cV
 rw [D.len,Zdc e,Zjz,Zjz,Zj0 D.hv,Zj0 D.hw]
theorem Del.chi {l m:List Za} (hc:Ck l) (hm:Ck m) {v d w:Nat} (D:Del l m v d w):(chi l=chi m∨Mu.chi l=Mu.chi m - 4)∨(Mu.chi l=Mu.chi m + 4∧Mu.bh l (v,d)=(w,(d + 2) % 4)∧Mu.bh l (w,(d + 2) % 4)=(v,d)):=by
 have a1:=D.cD hc
 have a2:=D.cV hc
 have b1:=Zf2 hc D.e
 have b2:=Zf2 hc (D.e' hc)
 rw [D.opp] at b1
 rw [← D.opp,ZeI hc D.e,D.opp] at b2
 dsimp only at b1 b2
 unfold Mu.chi
 cases D.kind hc with
 | two A B R hA hB hl hm' rot same n1 n2 lm =>
  have f1:=hl.len (Fcs.faces hc)
  have f2:=hm'.len (Fcs.faces hm)
  simp only [List.length_cons] at f1 f2
  rw [if_neg fun q=>n2 (b2.2 q),if_neg fun q=>n1 (b1.2 q)] at a2
  left; left; omega
 | one A B R hA hl hm' rot same n1 n2 lA lB =>
  have f1:=hl.len (Fcs.faces hc)
  have f2:=hm'.len (Fcs.faces hm)
  simp only [List.length_cons] at f1 f2
  rw [if_neg fun q=>n2 (b2.2 q),if_neg fun q=>n1 (b1.2 q)] at a2
  left; right; omega
 | leaf A R hA hl hm' rot same n =>
  have f1:=hl.len (Fcs.faces hc)
  have f2:=hm'.len (Fcs.faces hm)
  simp only [List.length_cons] at f1 f2
  left; left
  rcases n with ⟨n1,n2⟩ | ⟨n1,n2⟩
  ·rw [if_neg fun q=>n2 (b2.2 q),if_pos (b1.1 n1)] at a2; omega
  ·rw [if_pos (b2.1 n2),if_neg fun q=>n1 (b1.2 q)] at a2; omega
 | iso R hA hl hm' same n1 n2 =>
  have f1:=hl.len (Fcs.faces hc)
  have f2:=hm'.len (Fcs.faces hm)
  simp only [List.length_cons] at f1
  rw [if_pos (b2.1 n2),if_pos (b1.1 n1)] at a2
  right
  exact ⟨by omega,n1,n2⟩

/-! What hangs together. -/
def Cn (l:List Za):Prop:=∀ C:Da→Prop,(∀ x,isD l x→C x→C (bh l x)∧C (opp l x))→∀ p q,isD l p→isD l q→C p→C q
structure Sub (m l:List Za):Prop where
 len:m.length=l.length
 nx:∀ u e,u < l.length→e < 4→nx m u e=nx l u e∨nx m u e=-1
theorem Sub.is {m l:List Za} (S:Sub m l) {p:Da} (h:isD m p):isD l p∧Mu.nx m p.1 p.2=Mu.nx l p.1 p.2:=by
 obtain ⟨h1,h2,h3⟩:=h
 rw [S.len] at h1
 rcases S.nx p.1 p.2 h1 h2 with q | q
 ·exact ⟨⟨h1,h2,by rw [← q]; exact h3⟩,q⟩
 ·omega
theorem Sub.opp {m l:List Za} (S:Sub m l) {p:Da} (h:isD m p):opp m p=Mu.opp l p:=by unfold Mu.opp; rw [(S.is h).2]
theorem ZmB:∀ a b c d:Bool,∀ a' b' c' d':Bool,∀ i:Fin 4,((!a' || a) && (!b' || b) && (!c' || c) && (!d' || d) && ZdV a' b' c' d' ((i.1 + 2) % 4) && ZdV a' b' c' d' (prv (ZdV a b c d) i.1))=true→prv (ZdV a' b' c' d') i.1=prv (ZdV a b c d) i.1:=by decide +kernel
theorem Sub.bh {m l:List Za} (hm:Ck m) (hl:Ck l) (S:Sub m l) {p:Da} (h:isD m p) (h2:isD m (bh l p)):bh m p=Mu.bh l p:=by
 have i1:=S.is h
 have f:=h.fwd hm
 rw [Zdi] at h2 ⊢
 rw [Zdi (l:=l)]
 rw [i1.2] at f ⊢
 generalize (Mu.nx l p.1 p.2).toNat=u at *
 have hu:u < l.length:=by rw [← S.len]; exact f.1
 have h4:=h.2.1
 have im:∀ e,e < 4→decide (0≤Mu.nx m u e)=true→decide (0≤Mu.nx l u e)=true:=by
  intro e he q
  rcases S.nx u e hu he with k | k
  ·rw [← k]; exact q
  ·rw [k] at q; simp at q
 generalize hA:(fun e=>decide (0≤Mu.nx l u e))=A at *
 generalize hB:(fun e=>decide (0≤Mu.nx m u e))=B at *
 have eA:∀ e,A e=decide (0≤Mu.nx l u e):=fun e=>by rw [← hA]
 have eB:∀ e,B e=decide (0≤Mu.nx m u e):=fun e=>by rw [← hB]
 have q:=ZmB (A 0) (A 1) (A 2) (A 3) (B 0) (B 1) (B 2) (B 3) ⟨p.2,h4⟩
  (by
   have i0:∀ e,e < 4→(!B e || A e)=true:=fun e he=>by
    have:=im e he
    rw [← eA,← eB] at this
    cases q:B e
    ·rfl
    ·rw [this q]; rfl
   have k1:B ((p.2 + 2) % 4)=true:=by rw [eB,f.2]; simp
   have k2:B (prv A p.2)=true:=by rw [eB]; have:=h2.2.2; simpa using this
   dsimp only
   rw [i0 0 (by omega),i0 1 (by omega),i0 2 (by omega),i0 3 (by omega),Zfm h4,ZdU (by omega),ZdU (Zpd h4),k1,k2]; rfl)
 dsimp only at q
 rw [Zfm h4,Zfm h4] at q
 rw [q]
theorem Znx {l m:List Za} (hl:Ck l) (hm:Ck m) (S:Sub m l) (Cl:Cn l) (Cm:Cn m) {p0:Da} (h0:isD m p0) {x:Da} (hx:isD l x) (hx':¬ isD m x):∃ m' v d w,Ck m'∧Del m' m v d w∧Sub m' l∧Cn m':=by
 have:∃ y,isD m y∧¬ isD m (bh l y):=by
  refine Classical.byContradiction fun q=>hx' ?_
  refine Cl (fun y=>isD m y) (fun y _ hy=>⟨Classical.byContradiction fun k=>q ⟨y,hy,k⟩,?_⟩) p0 x (S.is h0).1 hx h0
  rw [← S.opp hy]; exact hy.opp hm
 obtain ⟨y,hy,hz⟩:=this
 have dz:isD l (bh l y):=(S.is hy).1.bh hl
 rcases hv:bh l y with ⟨v,d⟩
 rw [hv] at hz dz
 obtain ⟨v1,d1,n1⟩:=dz
 dsimp only at v1 d1 n1
 rcases hl.s v d v1 d1 with ⟨a,_⟩ | ⟨w,w1,w2,w3,w4,w5,w6⟩
 ·omega
 have e1:nx m v d=-1:=by
  rcases S.nx v d v1 d1 with q | q
  ·exact absurd ⟨by rw [S.len]; exact v1,d1,by rw [q]; exact n1⟩ hz
  ·exact q
 have e2:nx m w ((d + 2) % 4)=-1:=by
  rcases S.nx w ((d + 2) % 4) w2 (by omega) with q | q
  ·have:=(hm.back' (v:=w) (d:=(d + 2) % 4) (w:=v) (by rw [S.len]; exact w2) (by omega) (by rw [q,w4])).2
   rw [show ((d + 2) % 4 + 2) % 4=d by omega,e1] at this
   omega
  ·exact q
 have v1':v < m.length:=by rw [S.len]; exact v1
 have w2':w < m.length:=by rw [S.len]; exact w2
 have hm':Ck (wth m v d w (ow l v d)):=hm.wth v1' w2' (fun q=>w3 q.symm) d1 e1 e2 w6
 have nw:∀ u e,u < m.length→e < 4→nx (wth m v d w (ow l v d)) u e=if u=v∧e=d then (w:Int) else if u=w∧e=(d + 2) % 4 then (v:Int) else nx m u e:=fun u e hu he=>(ZeX v1' w2' (fun q=>w3 q.symm) d1 hu he).1
 have hlen:(wth m v d w (ow l v d)).length=m.length:=ZbG
 generalize wth m v d w (ow l v d)=m' at *
 have D:Del m' m v d w:=by
  refine ⟨hlen.symm,by rw [hlen]; exact v1',d1,by rw [hlen]; exact w2',by rw [nw v d v1' d1,if_pos ⟨rfl,rfl⟩],fun u e hu he=>?_⟩
  rw [hlen] at hu
  rw [nw u e hu he]
  by_cases c1:u=v∧e=d
  ·rw [if_pos (.inl c1),c1.1,c1.2,e1]
  ·by_cases c2:u=w∧e=(d + 2) % 4
   ·rw [if_pos (.inr c2),c2.1,c2.2,e2]
   ·rw [if_neg (by rintro (q | q); exact c1 q; exact c2 q),if_neg c1,if_neg c2]
 have S':Sub m' l:=by
  refine ⟨by rw [hlen,S.len],fun u e hu he=>?_⟩
  have hu':u < m.length:=by rw [S.len]; exact hu
  rw [nw u e hu' he]
  by_cases c1:u=v∧e=d
  ·rw [if_pos c1,c1.1,c1.2]; exact .inl w1.symm
  ·rw [if_neg c1]
   by_cases c2:u=w∧e=(d + 2) % 4
   ·rw [if_pos c2,c2.1,c2.2]; exact .inl w4.symm
   ·rw [if_neg c2]; exact S.nx u e hu he
 have Sm:Sub m m':=by
  refine ⟨hlen.symm,fun u e hu he=>?_⟩
  rw [hlen] at hu
  by_cases c1:u=v∧e=d
  ·rw [c1.1,c1.2]; exact .inr e1
  ·by_cases c2:u=w∧e=(d + 2) % 4
   ·rw [c2.1,c2.2]; exact .inr e2
   ·rw [nw u e hu he,if_neg c1,if_neg c2]; exact .inl rfl
 have by':bh m' y=(v,d):=by
  have iy:=(Sm.is hy).1
  rw [S'.bh hm' hl iy (by rw [hv]; exact D.e),hv]
 have oe:opp m' (v,d)=(w,(d + 2) % 4):=D.opp
 have oe':opp m' (w,(d + 2) % 4)=(v,d):=by rw [← oe,ZeI hm' D.e]
 have de:=D.e
 have de':=D.e' hm'
 refine ⟨m',v,d,w,hm',D,S',fun C hC p q hp hq hCp=>?_⟩
 have cl:∀ x,isD m x→C x→C (bh m x)∧C (opp m x):=by
  intro x hx hCx
  have ix:=(Sm.is hx).1
  have c:=hC x ix hCx
  refine ⟨?_,by rw [Sm.opp hx]; exact c.2⟩
  rw [(D.bh hm' hx).1]
  split
  ·rename_i k
   rw [k] at c
   have:=(hC _ de c.1).2
   rw [oe] at this
   exact (hC _ de' this).1
  ·split
   ·rename_i k
    rw [k] at c
    have:=(hC _ de' c.1).2
    rw [oe'] at this
    exact (hC _ de this).1
   ·exact c.1
 have some:∃ x,isD m x∧C x:=by
  by_cases c1:isD m p
  ·exact ⟨p,c1,hCp⟩
  ·have pe:p=(v,d)∨p=(w,(d + 2) % 4):=by
    refine Classical.byContradiction fun k=>c1 (D.isD.2 ⟨hp,fun q=>k (.inl q),fun q=>k (.inr q)⟩)
   have ce':C (w,(d + 2) % 4):=by
    rcases pe with rfl | rfl
    ·have:=(hC _ de hCp).2; rwa [oe] at this
    ·exact hCp
   refine ⟨bh m' (w,(d + 2) % 4),D.isD.2 ⟨de'.bh hm',fun k=>?_,D.bh_e' hm'⟩,(hC _ de' ce').1⟩
   rw [← by'] at k
   have:=ZeS hm' de' (Sm.is hy).1 k
   rw [← this] at hy
   exact (D.isD.1 hy).2.2 rfl
 obtain ⟨x1,hx1,cx1⟩:=some
 have all:∀ z,isD m z→C z:=fun z hz=>Cm C cl x1 z hx1 hz cx1
 by_cases c1:isD m q
 ·exact all q c1
 ·have qe:q=(v,d)∨q=(w,(d + 2) % 4):=by
   refine Classical.byContradiction fun k=>c1 (D.isD.2 ⟨hq,fun q=>k (.inl q),fun q=>k (.inr q)⟩)
  have ce:=(hC y (Sm.is hy).1 (all y hy)).1
  rw [by'] at ce
  rcases qe with rfl | rfl
  ·exact ce
  ·have:=(hC _ de ce).2; rwa [oe] at this
end Mu
/- Cells of which some edges are left,that hang together,can be drawn if all could. -/
set_option linter.unusedVariables false
set_option linter.unusedSimpArgs false
set_option maxRecDepth 10000
namespace Mu
theorem Cyc.same {l m:List Za} (h1:∀ p,isD m p↔isD l p) (h2:∀ p,isD l p→bh m p=bh l p) {f:List Da} (h:Cyc l f):Cyc m f∧Zbg m f=Zbg l f:=by
 refine ⟨⟨h.ne,h.nd,fun p hp=>(h1 p).2 (h.is p hp),fun p hp=>by rw [h2 p (h.is p hp)]; exact h.cl p hp,fun C hC p hp q hq hCp=>h.one C (fun x hx hCx=>by rw [← h2 x hx]; exact hC x ((h1 x).2 hx) hCx) p hp q hq hCp⟩,?_⟩
 unfold Zbg tns
 congr 1
 exact List.map_congr_left fun p hp=>by rw [h2 p (h.is p hp)]
theorem Sub.all {m l:List Za} (hm:Ck m) (hl:Ck l) (S:Sub m l) (h:∀ p,isD l p→isD m p):(∀ p,isD m p↔isD l p)∧(∀ p,isD l p→Mu.bh m p=Mu.bh l p)∧∀ u e,u < l.length→e < 4→(0≤Mu.nx m u e↔0≤Mu.nx l u e):=by
 refine ⟨fun p=>⟨fun q=>(S.is q).1,h p⟩,fun p hp=>S.bh hm hl (h p hp) (h _ (hp.bh hl)),fun u e hu he=>⟨fun q=>?_,fun q=>?_⟩⟩
 ·exact (S.is (p:=(u,e)) ⟨by rw [S.len]; exact hu,he,q⟩).1.2.2
 ·exact (h (u,e) ⟨hu,he,q⟩).2.2
theorem Sub.chi_all {m l:List Za} (hm:Ck m) (hl:Ck l) (S:Sub m l) (h:∀ p,isD l p→isD m p):chi l=chi m:=by
 obtain ⟨a,b,c⟩:=S.all hm hl h
 have hd:∀ u,u < l.length→deg m u=deg l u:=by
  intro u hu
  rw [Zfq,Zfq]
  simp only [c u 0 hu (by omega),c u 1 hu (by omega),c u 2 hu (by omega),c u 3 hu (by omega)]
 have hf:Fcs m (faces l):=⟨fun f hf=>((ZcA hl f hf).same a b).1,(Fcs.faces hl).nd,fun p hp=>(Fcs.faces hl).al p ((a p).1 hp)⟩
 unfold chi cV cD
 rw [S.len,hf.len (Fcs.faces hm),Zdc (f:=deg m) hd,Zdc (f:=fun w=>if deg m w=0 then (0:Int) else 1) (g:=fun w=>if deg l w=0 then (0:Int) else 1) fun u hu=>by rw [hd u hu]]
theorem Zoj {f g:Nat→Int}:∀ {n:Nat},(∀ i,i < n→f i≤g i)→sg f n≤sg g n
 | 0,_=>by simp [sg]
 | n + 1,h=>by
  rw [sg,sg]
  have:=Zoj (n:=n) fun i hi=>h i (by omega)
  have:=h n (by omega)
  omega
theorem Sub.cD_le {m l:List Za} (S:Sub m l):cD m≤cD l:=by
 unfold cD
 rw [S.len]
 refine Zoj fun u hu=>?_
 have k:∀ e,e < 4→(if 0≤Mu.nx m u e then (1:Int) else 0)≤if 0≤Mu.nx l u e then 1 else 0:=by
  intro e he
  rcases S.nx u e hu he with q | q
  ·rw [q]; omega
  ·rw [q,if_neg (by omega)]; split <;> omega
 have:=k 0 (by omega)
 have:=k 1 (by omega)
 have:=k 2 (by omega)
 have:=k 3 (by omega)
 rw [Zfq,Zfq]
 omega
theorem Zks {l m:List Za} (hc:Ck l) {v d w:Nat} (D:Del l m v d w) (Cl:Cn l) {p:Da} (hp:isD m p) (h1:bh l (v,d)=(w,(d + 2) % 4)) (h2:bh l (w,(d + 2) % 4)=(v,d)):False:=by
 have ip:=D.isD.1 hp
 have:=Cl (fun x=>x=(v,d)∨x=(w,(d + 2) % 4)) (fun x hx hCx=>by
  rcases hCx with rfl | rfl
  ·exact ⟨.inr h1,.inr D.opp⟩
  ·exact ⟨.inl h2,.inl (by rw [← D.opp,ZeI hc D.e])⟩) (v,d) p D.e ip.1 (.inl rfl)
 rcases this with q | q
 ·exact ip.2.1 q
 ·exact ip.2.2 q
theorem ZlZ {l:List Za} (hl:Ck l) (Cl:Cn l):∀ (k:Nat) (m:List Za),Ck m→Sub m l→Cn m→(∃ p,isD m p)→(cD l - cD m).toNat≤k→chi l≤chi m:=by
 intro k
 induction k with
 | zero =>
  intro m hm S Cm ⟨p0,h0⟩ hk
  by_cases c:∀ p,isD l p→isD m p
  ·rw [S.chi_all hm hl c]; exact Int.le_refl _
  ·have:∃ p,isD l p∧¬ isD m p:=Classical.byContradiction fun q=>c fun p hp=>Classical.byContradiction fun r=>q ⟨p,hp,r⟩
   obtain ⟨x,hx,hx'⟩:=this
   obtain ⟨m',v,d,w,hm',D,S',C'⟩:=Znx hl hm S Cl Cm h0 hx hx'
   have:=D.cD hm'
   have:=S'.cD_le
   omega
 | succ k ih =>
  intro m hm S Cm ⟨p0,h0⟩ hk
  by_cases c:∀ p,isD l p→isD m p
  ·rw [S.chi_all hm hl c]; exact Int.le_refl _
  ·have:∃ p,isD l p∧¬ isD m p:=Classical.byContradiction fun q=>c fun p hp=>Classical.byContradiction fun r=>q ⟨p,hp,r⟩
   obtain ⟨x,hx,hx'⟩:=this
   obtain ⟨m',v,d,w,hm',D,S',C'⟩:=Znx hl hm S Cl Cm h0 hx hx'
   have e1:=D.cD hm'
   have:=ih m' hm' S' C' ⟨p0,(D.isD.1 h0).1⟩ (by omega)
   rcases D.chi hm' hm with (q | q) | ⟨_,q1,q2⟩
   ·omega
   ·omega
   ·exact (Zks hm' D C' h0 q1 q2).elim
theorem ZfI {n u e:Nat} (h:u < n) (he:e < 4):nx (List.replicate n noC) u e=-1:=by
 have:gi (List.replicate n noC) u=noC:=by rw [ZbL (by simpa using h)]; simp
 unfold nx; rw [this]
 exact (Zjs he).1
theorem Zjd {n:Nat}:chi (List.replicate n noC)=0:=by
 have hd:∀ u,u < n→deg (List.replicate n noC) u=0:=by
  intro u hu
  rw [Zfq,ZfI hu (by omega),ZfI hu (by omega),ZfI hu (by omega),ZfI hu (by omega)]
  rfl
 have hf:Fcs (List.replicate n noC) []:=⟨by simp,by simp,fun p hp=>by
  have h1:=hp.1
  have h2:=hp.2.2
  rw [ZfI (by simpa using h1) hp.2.1] at h2
  omega⟩
 unfold chi cV cD
 rw [← hf.len (Fcs.faces (Ck.new n)),Zgx (f:=deg (List.replicate n noC)) (fun u hu=>hd u (by simpa using hu)),Zgx fun u hu=>by rw [if_pos (hd u (by simpa using hu))]]
 rfl
theorem Zns {m:List Za} (hm:Ck m) (Cm:Cn m) {p:Da} (hp:isD m p):chi m≤4:=by
 obtain ⟨v,d⟩:=p
 obtain ⟨v1,d1,n1⟩:=hp
 dsimp only at v1 d1 n1
 rcases hm.s v d v1 d1 with ⟨a,_⟩ | ⟨w,w1,w2,w3,w4,w5,w6⟩
 ·omega
 have v1':v < (List.replicate m.length noC).length:=by simpa using v1
 have w2':w < (List.replicate m.length noC).length:=by simpa using w2
 have hs:Ck (wth (List.replicate m.length noC) v d w (ow m v d)):=(Ck.new _).wth v1' w2' (fun q=>w3 q.symm) d1 (ZfI v1 d1) (ZfI w2 (by omega)) w6
 have nw:∀ u e,u < m.length→e < 4→nx (wth (List.replicate m.length noC) v d w (ow m v d)) u e=if u=v∧e=d then (w:Int) else if u=w∧e=(d + 2) % 4 then (v:Int) else -1:=fun u e hu he=>by
  rw [(ZeX v1' w2' (fun q=>w3 q.symm) d1 (by simpa using hu) he).1,ZfI hu he]
 have hlen:(wth (List.replicate m.length noC) v d w (ow m v d)).length=m.length:=by rw [ZbG]; simp
 generalize wth (List.replicate m.length noC) v d w (ow m v d)=s at *
 have D:Del s (List.replicate m.length noC) v d w:=by
  refine ⟨by rw [hlen]; simp,by rw [hlen]; exact v1,d1,by rw [hlen]; exact w2,by rw [nw v d v1 d1,if_pos ⟨rfl,rfl⟩],fun u e hu he=>?_⟩
  rw [hlen] at hu
  rw [nw u e hu he,ZfI hu he]
  by_cases c1:u=v∧e=d
  ·rw [if_pos (.inl c1)]
  ·by_cases c2:u=w∧e=(d + 2) % 4
   ·rw [if_pos (.inr c2)]
   ·rw [if_neg (by rintro (q | q); exact c1 q; exact c2 q),if_neg c1,if_neg c2]
 have S:Sub s m:=by
  refine ⟨hlen,fun u e hu he=>?_⟩
  rw [nw u e hu he]
  by_cases c1:u=v∧e=d
  ·rw [if_pos c1,c1.1,c1.2]; exact .inl w1.symm
  ·rw [if_neg c1]
   by_cases c2:u=w∧e=(d + 2) % 4
   ·rw [if_pos c2,c2.1,c2.2]; exact .inl w4.symm
   ·rw [if_neg c2]; exact .inr rfl
 have only:∀ x,isD s x→x=(v,d)∨x=(w,(d + 2) % 4):=by
  intro x hx
  have h1:=hx.1
  rw [hlen] at h1
  have h3:=hx.2.2
  rw [nw _ _ h1 hx.2.1] at h3
  by_cases c1:x.1=v∧x.2=d
  ·exact .inl (Prod.ext c1.1 c1.2)
  ·rw [if_neg c1] at h3
   by_cases c2:x.1=w∧x.2=(d + 2) % 4
   ·exact .inr (Prod.ext c2.1 c2.2)
   ·rw [if_neg c2] at h3; omega
 have oe:opp s (v,d)=(w,(d + 2) % 4):=D.opp
 have oe':opp s (w,(d + 2) % 4)=(v,d):=by rw [← oe,ZeI hs D.e]
 have Cs:Cn s:=by
  intro C hC p q hp hq hCp
  have both:C (v,d)∧C (w,(d + 2) % 4):=by
   rcases only p hp with rfl | rfl
   ·have:=(hC _ D.e hCp).2; rw [oe] at this; exact ⟨hCp,this⟩
   ·have:=(hC _ (D.e' hs) hCp).2; rw [oe'] at this; exact ⟨this,hCp⟩
  rcases only q hq with rfl | rfl
  ·exact both.1
  ·exact both.2
 have b1:bh s (v,d)=(w,(d + 2) % 4):=by
  rcases only _ (D.e.bh hs) with q | q
  ·exact absurd q (D.bh_e hs)
  ·exact q
 have b2:bh s (w,(d + 2) % 4)=(v,d):=by
  rcases only _ ((D.e' hs).bh hs) with q | q
  ·exact q
  ·exact absurd q (D.bh_e' hs)
 have:=ZlZ hm Cm _ s hs S Cs ⟨_,D.e⟩ (Nat.le_refl _)
 rcases D.chi hs (Ck.new _) with (q | q) | ⟨q,_⟩
 ·rw [Zjd] at q; omega
 ·rw [Zjd] at q; omega
 ·rw [Zjd] at q; omega

/-! Rotations and Euler's number. -/
theorem Zl4 {l:List Za} (hc:Ck l):((Zeh l).map (tt l)).sum=2 * cD l - 4 * cV l:=by
 have:(Zeh l).map (tt l)=(Zeh l).map fun p=>tn p.2 (bh l p).2:=rfl
 rw [this,Zl2]
 have e1:sg (fun v=>sg (fun d=>if 0≤nx l v d then tn d (bh l (v,d)).2 else 0) 4) l.length=sg (fun d=>sg (fun v=>if 0≤nx l v d then tn d (bh l (v,d)).2 else 0) l.length) 4:=ZhG
 have e2:sg (fun d=>sg (fun v=>if 0≤nx l v d then tn d (bh l (v,d)).2 else 0) l.length) 4=sg (fun d=>sg (fun w=>if 0≤nx l w ((d + 2) % 4) then arr l w d else 0) l.length) 4:=by
  refine Zdc fun d hd=>?_
  refine ZmM hc hd (fun v hv c=>if_neg (by omega)) (fun v hv c=>if_neg (by omega)) (fun v w hv hw e=>?_)
  have b:=(hc.back' hv hd e)
  rw [if_pos (by omega),if_pos (by omega)]
  have:=ZmP (l:=l) (p:=(v,d)) hd
  dsimp only at this
  rw [this,e,Int.toNat_natCast]
 have e3:sg (fun d=>sg (fun w=>if 0≤nx l w ((d + 2) % 4) then arr l w d else 0) l.length) 4=sg (fun w=>2 * deg l w - 4 * (if deg l w=0 then 0 else 1)) l.length:=by
  rw [ZhG]
  refine Zdc fun w hw'=>?_
  by_cases c:deg l w=0
  ·rw [if_pos c,c]
   have k:∀ d,d < 4→¬ 0≤nx l w d:=by
    intro d hd q
    have:=Zjf (l:=l) (p:=(w,d)) ⟨hw',hd,q⟩
    dsimp only at this
    omega
   rw [ZmL,if_neg (k _ (by omega)),if_neg (k _ (by omega)),if_neg (k _ (by omega)),if_neg (k _ (by omega))]
   rfl
  ·rw [if_neg c,Zkh (Zo8 c)]; rfl
 show sg (fun v=>sg (fun d=>if 0≤nx l v d then tn d (bh l (v,d)).2 else 0) 4) l.length=_
 rw [e1,e2,e3,Zj2,Zk4,Zk4]
 rfl
theorem Fcs.sum {l:List Za} (hc:Ck l) {F:List (List Da)} (h:Fcs l F):(F.map (Zbg l)).sum=2 * cD l - 4 * cV l:=by
 have pe:F.flatten.Perm (Zeh l):=(List.perm_ext_iff_of_nodup h.nd ZhW).2 fun p=>by
  rw [ZdK]
  refine ⟨fun q=>?_,h.al p⟩
  obtain ⟨f,hf,hp⟩:=List.mem_flatten.1 q
  exact (h.cy f hf).is p hp
 rw [← Zl4 hc,← Zip pe,ZgY]
 rfl
theorem Zkw:∀ {R:List Int},(∀ r∈R,r=4∨r=-4)→R.sum≤4 * R.length∧(R.sum=4 * R.length→∀ r∈R,r=4)
 | [],_=>⟨by simp,fun _ r hr=>by simp at hr⟩
 | a :: R,h=>by
  obtain ⟨i1,i2⟩:=Zkw (R:=R) fun r hr=>h r (List.mem_cons_of_mem _ hr)
  have ha:=h a (by simp)
  rw [List.sum_cons,List.length_cons]
  refine ⟨by omega,fun e r hr=>?_⟩
  rcases List.mem_cons.1 hr with rfl | hr
  ·omega
  ·exact i2 (by omega) r hr
theorem Zm6:∀ {R:List Int},(∀ r∈R,r=4∨r=-4)→R.sum=4 * R.length - 8→∃ i,i < R.length∧gi R i=-4∧∀ j,j < R.length→gi R j=-4→j=i
 | [],_,h=>by simp at h
 | a :: R,h,hs=>by
  have hR:=fun r hr=>h r (List.mem_cons_of_mem a hr)
  have ha:=h a (by simp)
  rw [List.sum_cons,List.length_cons] at hs
  rcases ha with rfl | rfl
  ·obtain ⟨i,h1,h2,h3⟩:=Zm6 hR (by omega)
   refine ⟨i + 1,by simp; omega,h2,fun j hj e=>?_⟩
   cases j with
   | zero=>have e':(4:Int)=-4:=e; omega
   | succ j=>rw [h3 j (by simp at hj; omega) e]
  ·have:=(Zkw hR).2 (by omega)
   refine ⟨0,by simp,rfl,fun j hj e=>?_⟩
   cases j with
   | zero=>rfl
   | succ j =>
    have hj':j < R.length:=by simp at hj; omega
    have e':gi R j=-4:=e
    have:=this _ (Zbu hj')
    omega
theorem ZeJ {l:List Za} (hc:Ck l):Val l↔(∀ f,Cyc l f→Zbg l f=4∨Zbg l f=-4)∧chi l=4:=by
 have sm:=(Fcs.faces hc).sum hc
 constructor
 ·intro h
  obtain ⟨a,ha,h0⟩:=Zih.2 h
  have ft:=ZjG ha h0
  have e:(((faces l).flatten.map fun p=>tn p.2 (bh l p).2)).sum=((faces l).map (Zbg l)).sum:=by rw [ZgY]; rfl
  rw [e,sm] at ft
  refine ⟨fun f hf=>?_,by unfold chi; omega⟩
  obtain ⟨p,hp⟩:=List.exists_mem_of_ne_nil f hf.ne
  obtain ⟨i,hi,hpi⟩:=Zjh hc (hf.is p hp) (Zkf hc)
  rw [ZeM (hf.perm (ZcA hc _ (Zbu hi)) hp hpi)]
  exact h.1 i hi
 ·rintro ⟨h,hchi⟩
  have pm:∀ r∈(faces l).map (Zbg l),r=4∨r=-4:=by
   intro r hr
   obtain ⟨f,hf,rfl⟩:=List.mem_map.1 hr
   exact h f (ZcA hc f hf)
  unfold chi at hchi
  obtain ⟨i,h1,h2,h3⟩:=Zm6 pm (by rw [sm,List.length_map]; omega)
  rw [List.length_map] at h1 h3
  refine ⟨fun j hj=>h _ (ZcA hc _ (Zbu hj)),⟨i,h1,by rw [← ZcH (f:=Zbg l) h1]; exact h2⟩,fun j k hj hk e1 e2=>?_⟩
  rw [h3 j hj (by rw [ZcH hj]; exact e1),h3 k hk (by rw [ZcH hk]; exact e2)]
theorem ZnG {l:List Za} (hc:Ck l) {f g:List Da} {R:List (List Da)} (h:Fcs l (f :: g :: R)) (hp:∀ f,Cyc l f→Zbg l f=4∨Zbg l f=-4) (hchi:chi l=4) (h1:Zbg l f=-4) (h2:Zbg l g=-4):False:=by
 have sm:=h.sum hc
 have ln:=h.len (Fcs.faces hc)
 have:=(Zkw (R:=R.map (Zbg l)) fun r hr=>by
  obtain ⟨x,hx,rfl⟩:=List.mem_map.1 hr
  exact hp x (h.cy x (by simp [hx]))).1
 unfold chi at hchi
 simp only [List.map_cons,List.sum_cons,List.length_cons,List.length_map] at sm ln this
 omega
theorem Del.val {l m:List Za} (hc:Ck l) (hm:Ck m) {v d w:Nat} (D:Del l m v d w) (Cl:Cn l) (Cm:Cn m) {p:Da} (hp:Mu.isD m p) (h:Val l):Val m:=by
 obtain ⟨h1,h2⟩:=(ZeJ hc).1 h
 have t:=Zns hm Cm hp
 have key:∀ F,Fcs m F→(∀ f∈F,Zbg m f=4∨Zbg m f=-4)→∀ f,Cyc m f→Zbg m f=4∨Zbg m f=-4:=by
  intro F hF hr f hf
  obtain ⟨x,hx⟩:=List.exists_mem_of_ne_nil f hf.ne
  obtain ⟨g,hg,hxg⟩:=List.mem_flatten.1 (hF.al x (hf.is x hx))
  rw [ZeM (hf.perm (hF.cy g hg) hx hxg)]
  exact hr g hg
 have X:Mu.chi m=4:=by
  rcases D.chi hc hm with (q | q) | ⟨_,q1,q2⟩
  ·omega
  ·omega
  ·exact (Zks hc D Cl hp q1 q2).elim
 refine (ZeJ hm).2 ⟨?_,X⟩
 have a1:=D.cD hc
 have a2:=D.cV hc
 cases D.kind hc with
 | two A B R hA hB hl hm' rot same n1 n2 lm =>
  refine key _ hm' fun f hf=>?_
  rcases List.mem_cons.1 hf with rfl | hf
  ·rw [rot]
   rcases h1 _ hA.cyc with x | x <;> rcases h1 _ hB.cyc with y | y
   ·left; omega
   ·right; omega
   ·right; omega
   ·exact (ZnG hc hl h1 h2 x y).elim
  ·rw [same f hf]; exact h1 f (hl.cy f (by simp [hf]))
 | one A B R hA hl hm' rot same n1 n2 lA lB =>
  have f1:=hl.len (Fcs.faces hc)
  have f2:=hm'.len (Fcs.faces hm)
  simp only [List.length_cons] at f1 f2
  have b1:=Zf2 hc D.e
  have b2:=Zf2 hc (D.e' hc)
  rw [D.opp] at b1
  rw [← D.opp,ZeI hc D.e,D.opp] at b2
  dsimp only at b1 b2
  rw [if_neg fun q=>n2 (b2.2 q),if_neg fun q=>n1 (b1.2 q)] at a2
  unfold Mu.chi at h2 X
  omega
 | leaf A R hA hl hm' rot same n =>
  refine key _ hm' fun f hf=>?_
  rcases List.mem_cons.1 hf with rfl | hf
  ·rw [rot]; exact h1 _ hA
  ·rw [same f hf]; exact h1 f (hl.cy f (by simp [hf]))
 | iso R hA hl hm' same n1 n2=>exact (Zks hc D Cl hp n1 n2).elim
theorem Sub.val {l:List Za} (hl:Ck l) (Cl:Cn l) (h:Val l):∀ (k:Nat) (m:List Za),Ck m→Sub m l→Cn m→(∃ p,isD m p)→(cD l - cD m).toNat≤k→Val m:=by
 intro k
 induction k with
 | zero =>
  intro m hm S Cm ⟨p0,h0⟩ hk
  by_cases c:∀ p,isD l p→isD m p
  ·obtain ⟨a,b,_⟩:=S.all hm hl c
   obtain ⟨h1,h2⟩:=(ZeJ hl).1 h
   refine (ZeJ hm).2 ⟨fun f hf=>?_,by rw [← S.chi_all hm hl c]; exact h2⟩
   obtain ⟨k1,k2⟩:=hf.same (l:=m) (m:=l) (fun p=>(a p).symm) fun p hp=>(b p ((a p).1 hp)).symm
   rw [← k2]; exact h1 f k1
  ·have:∃ p,isD l p∧¬ isD m p:=Classical.byContradiction fun q=>c fun p hp=>Classical.byContradiction fun r=>q ⟨p,hp,r⟩
   obtain ⟨x,hx,hx'⟩:=this
   obtain ⟨m',v,d,w,hm',D,S',C'⟩:=Znx hl hm S Cl Cm h0 hx hx'
   have:=D.cD hm'
   have:=S'.cD_le
   omega
 | succ k ih =>
  intro m hm S Cm ⟨p0,h0⟩ hk
  by_cases c:∀ p,isD l p→isD m p
  ·obtain ⟨a,b,_⟩:=S.all hm hl c
   obtain ⟨h1,h2⟩:=(ZeJ hl).1 h
   refine (ZeJ hm).2 ⟨fun f hf=>?_,by rw [← S.chi_all hm hl c]; exact h2⟩
   obtain ⟨k1,k2⟩:=hf.same (l:=m) (m:=l) (fun p=>(a p).symm) fun p hp=>(b p ((a p).1 hp)).symm
   rw [← k2]; exact h1 f k1
  ·have:∃ p,isD l p∧¬ isD m p:=Classical.byContradiction fun q=>c fun p hp=>Classical.byContradiction fun r=>q ⟨p,hp,r⟩
   obtain ⟨x,hx,hx'⟩:=this
   obtain ⟨m',v,d,w,hm',D,S',C'⟩:=Znx hl hm S Cl Cm h0 hx hx'
   have e1:=D.cD hm'
   exact D.val hm' hm C' Cm h0 (ih m' hm' S' C' ⟨p0,(D.isD.1 h0).1⟩ (by omega))
end Mu
/- An edge more,from corner to corner of one loop. -/
set_option linter.unusedVariables false
set_option linter.unusedSimpArgs false
set_option maxRecDepth 10000
namespace Mu
theorem ZjZ {l:List Za} (h0:0 < l.length) (h:∀ w,w < l.length→∃ n,Rch l 0 n w):whole l:=by
 have e1:PS l 1=([Zdq l 0 l.length],Zei l 0 (List.replicate l.length false) l.length):=by
  have g:gi (PS l 0).2 0=false:=by
   show gi (List.replicate l.length false) 0=false
   rw [ZbL (by simp; omega)]; simp
  rw [PS,if_neg (by rw [g]; decide)]
  rfl
 have key:∀ n,n + 1≤l.length→PS l (n + 1)=PS l 1:=by
  intro n
  induction n with
  | zero=>intro _; rfl
  | succ n ih =>
   intro hn
   have i:=ih (by omega)
   rw [PS,if_pos]
   ·exact i
   ·rw [i,e1]
    dsimp only
    rw [ZeW (by omega),if_pos (by omega),Zgq.2 (h (n + 1) (by omega)),Bool.or_true]
 have k:=key (l.length - 1) (by omega)
 rw [show l.length - 1 + 1=l.length by omega] at k
 unfold whole
 rw [k,e1]
 rfl
theorem Rch.mono {l m:List Za} (h:∀ a b,a < l.length→Adj l a b→Adj m a b) (hc:Ck l) {v n w:Nat} (hv:v < l.length) (hr:Rch l v n w):Rch m v n w:=by
 induction hr with
 | zero=>exact .zero
 | succ hr hab ih=>exact .succ ih (h _ _ (hr.lt hc hv) hab)
theorem Del.of_wth {l:List Za} (hc:Ck l) {v d w:Nat} {o:Int} (hv:v < l.length) (hw:w < l.length) (hvw:v≠w) (hd:d < 4) (h1:Mu.nx l v d=-1) (h2:Mu.nx l w ((d + 2) % 4)=-1):Del (wth l v d w o) l v d w:=by
 have nw:=fun u e (hu:u < l.length) (he:e < 4)=>(ZeX (o:=o) hv hw hvw hd hu he).1
 have hlen:(wth l v d w o).length=l.length:=ZbG
 refine ⟨hlen.symm,by rw [hlen]; exact hv,hd,by rw [hlen]; exact hw,by rw [nw v d hv hd,if_pos ⟨rfl,rfl⟩],fun u e hu he=>?_⟩
 rw [hlen] at hu
 rw [nw u e hu he]
 by_cases c1:u=v∧e=d
 ·rw [if_pos (.inl c1),c1.1,c1.2,h1]
 ·by_cases c2:u=w∧e=(d + 2) % 4
  ·rw [if_pos (.inr c2),c2.1,c2.2,h2]
  ·rw [if_neg (by rintro (q | q); exact c1 q; exact c2 q),if_neg c1,if_neg c2]
theorem Del.whole {l m:List Za} (hc:Ck l) (hm:Ck m) {v d w:Nat} (D:Del l m v d w) (h:whole m):Mu.whole l:=by
 have h0:=Zht h
 have len:=D.len
 refine ZjZ (by omega) fun u hu=>?_
 obtain ⟨n,r⟩:=Zhu h (w:=u) (by omega)
 refine ⟨n,r.mono (fun a b ha hab=>?_) hm (by omega)⟩
 obtain ⟨e,he,q⟩:=hab
 have:=D.nx a e (by omega) he
 rw [q] at this
 refine ⟨e,he,?_⟩
 split at this
 ·omega
 ·exact this.symm
theorem Zm8:∀ a b c d:Bool,∀ i j:Fin 4,(!(ZdV a b c d j.1) && ZdV a b c d ((i.1 + 2) % 4) && decide (tn i.1 (prv (ZdV a b c d) i.1) < tn i.1 j.1))=true→prv (fun e=>ZdV a b c d e || (e == j.1)) i.1=j.1:=by decide +kernel
theorem Del.enter {l m:List Za} (hc:Ck l) (hm:Ck m) {v d w:Nat} (D:Del l m v d w) {x:Da} (hx:Mu.isD m x):((Mu.nx m x.1 x.2).toNat=v→tt m x < tn x.2 d→Mu.bh l x=(v,d))∧((Mu.nx m x.1 x.2).toNat=w→tt m x < tn x.2 ((d + 2) % 4)→Mu.bh l x=(w,(d + 2) % 4)):=by
 have hd:=D.hd
 have hne:=D.ne hc
 have f:=hx.fwd hm
 have x4:=hx.2.1
 have ex:=D.nx' hx
 have key:∀ {u j:Nat},u < l.length→j < 4→(Mu.nx m x.1 x.2).toNat=u→tt m x < tn x.2 j→(∀ e,e < 4→(0≤Mu.nx l u e↔(0≤Mu.nx m u e∨e=j)))→¬ 0≤Mu.nx m u j→Mu.bh l x=(u,j):=by
  intro u j hu hj e1 e2 e3 e4
  rw [Zdi,← ex,e1]
  refine Prod.ext rfl ?_
  dsimp only
  rw [e1] at f
  have t0:tn x.2 (prv (fun e=>decide (0≤Mu.nx m u e)) x.2) < tn x.2 j:=by
   have:tt m x=tn x.2 (prv (fun e=>decide (0≤Mu.nx m u e)) x.2):=by unfold tt; rw [Zdi,e1]
   rw [← this]; exact e2
  have q:=Zm8 (decide (0≤Mu.nx m u 0)) (decide (0≤Mu.nx m u 1)) (decide (0≤Mu.nx m u 2)) (decide (0≤Mu.nx m u 3)) ⟨x.2,x4⟩ ⟨j,hj⟩
  have se:∀ e,e < 4→ZdV (decide (0≤Mu.nx m u 0)) (decide (0≤Mu.nx m u 1)) (decide (0≤Mu.nx m u 2)) (decide (0≤Mu.nx m u 3)) e=decide (0≤Mu.nx m u e):=fun e he=>ZdU (A:=fun e=>decide (0≤Mu.nx m u e)) he
  dsimp only at q
  rw [se _ hj,se _ (by omega),Zfm (A:=fun e=>decide (0≤Mu.nx m u e)) x4] at q
  have q:=q (by rw [decide_eq_false e4,f.2]; simp [t0])
  refine (ZeL (fun e he=>?_) x4).trans q
  rw [se e he]
  rw [Bool.eq_iff_iff]
  simp [e3 e he]
 have nw:=fun u e (hu:u < l.length) (he:e < 4)=>D.nx u e hu he
 constructor
 ·intro e1 e2
  have:=nw v d D.hv hd
  rw [if_pos (.inl ⟨rfl,rfl⟩)] at this
  refine key D.hv hd e1 e2 (fun e he=>?_) (by omega)
  have n:=nw v e D.hv he
  by_cases c:e=d
  ·subst c; rw [D.hn]; exact ⟨fun _=>.inr rfl,fun _=>by omega⟩
  ·rw [if_neg (by rintro (q | q); exact c q.2; exact hne q.1.symm)] at n
   rw [n]
   exact ⟨fun q=>.inl q,fun q=>q.resolve_right c⟩
 ·intro e1 e2
  have:=nw w ((d + 2) % 4) D.hw (by omega)
  rw [if_pos (.inr ⟨rfl,rfl⟩)] at this
  refine key D.hw (by omega) e1 e2 (fun e he=>?_) (by omega)
  have n:=nw w e D.hw he
  by_cases c:e=(d + 2) % 4
  ·subst c; rw [D.hb hc]; exact ⟨fun _=>.inr rfl,fun _=>by omega⟩
  ·rw [if_neg (by rintro (q | q); exact hne q.1; exact c q.2)] at n
   rw [n]
   exact ⟨fun q=>.inl q,fun q=>q.resolve_right c⟩
theorem Del.back {l m:List Za} (hc:Ck l) {v d w:Nat} (D:Del l m v d w):∀ {s:List Da} {p q:Da},Pt m p s q→(∀ a∈s,Mu.bh l a≠(v,d)∧Mu.bh l a≠(w,(d + 2) % 4))→Pt l p s q∧Zbg l s=Zbg m s
 | [],p,q,h,_=>⟨h,rfl⟩
 | a :: s,p,q,h,hs=>by
  rw [Pt] at h
  obtain ⟨rfl,h1,h2⟩:=h
  have k:=hs p (by simp)
  have b:=D.bh hc h1
  rw [if_neg k.1,if_neg k.2,if_neg k.1,if_neg k.2] at b
  rw [b.1] at h2
  obtain ⟨i1,i2⟩:=D.back hc h2 fun a ha=>hs a (List.mem_cons_of_mem _ ha)
  exact ⟨⟨rfl,(D.isD.1 h1).1,i1⟩,by rw [Zbt,Zbt,i2,b.2]⟩
theorem Del.chord {l m:List Za} (hc:Ck l) (hm:Ck m) {v d w:Nat} (D:Del l m v d w) {A B:List Da} {x y:Da} (hL:Lp m (B++[y]++(A++[x]))) (hx:Mu.bh l x=(v,d)) (hy:Mu.bh l y=(w,(d + 2) % 4)) :
  Lp l ((w,(d + 2) % 4) :: (B++[y]))∧Lp l ((v,d) :: (A++[x])) ∧
  Zbg l ((w,(d + 2) % 4) :: (B++[y]))=Zbg m (B++[y]) + tt m x - tt m y + 2 - tn x.2 d + tn y.2 ((d + 2) % 4) ∧
  Zbg l ((w,(d + 2) % 4) :: (B++[y])) + Zbg l ((v,d) :: (A++[x]))=Zbg m (B++[y]++(A++[x])) + 4:=by
 have is:=hL.is
 obtain ⟨p,P⟩:=hL.pt
 obtain ⟨r,P1,P2⟩:=Pt.app.1 P
 obtain ⟨y',Q1,Q2⟩:=Pt.app.1 P1
 obtain ⟨x',R1,R2⟩:=Pt.app.1 P2
 rw [Pt,Pt] at Q2 R2
 obtain ⟨rfl,dy,ey⟩:=Q2
 obtain ⟨rfl,dx,ex⟩:=R2
 have nd:=hL.nd
 have ee:=D.ee hc
 have bx:=D.bh hc dx
 have by':=D.bh hc dy
 rw [hx,if_pos rfl,if_pos rfl] at bx
 rw [hy,if_neg ee,if_pos rfl,if_neg ee,if_pos rfl] at by'
 have nd1:=List.nodup_append.1 nd
 have nd2:=List.nodup_append.1 nd1.1
 have nd3:=List.nodup_append.1 nd1.2.1
 have ne1:∀ a∈B,Mu.bh l a≠(v,d)∧Mu.bh l a≠(w,(d + 2) % 4):=by
  intro a ha
  have da:=(D.isD.1 (is a (by simp [ha]))).1
  refine ⟨fun q=>?_,fun q=>?_⟩
  ·rw [← hx] at q
   have:=ZeS hc da (D.isD.1 dx).1 q
   exact nd1.2.2 a (by simp [ha]) x' (by simp) this
  ·rw [← hy] at q
   have:=ZeS hc da (D.isD.1 dy).1 q
   exact nd2.2.2 a ha y' (by simp) this
 have ne2:∀ a∈A,Mu.bh l a≠(v,d)∧Mu.bh l a≠(w,(d + 2) % 4):=by
  intro a ha
  have da:=(D.isD.1 (is a (by simp [ha]))).1
  refine ⟨fun q=>?_,fun q=>?_⟩
  ·rw [← hx] at q
   have:=ZeS hc da (D.isD.1 dx).1 q
   exact nd3.2.2 a ha x' (by simp) this
  ·rw [← hy] at q
   have:=ZeS hc da (D.isD.1 dy).1 q
   exact nd1.2.2 y' (by simp) a (by simp [ha]) this.symm
 obtain ⟨B1,B2⟩:=D.back hc Q1 ne1
 obtain ⟨A1,A2⟩:=D.back hc R1 ne2
 have e1:Mu.bh l (w,(d + 2) % 4)=p:=by rw [← bx.1,ex]
 have e2:Mu.bh l (v,d)=r:=by rw [← by'.1,ey]
 have notm:∀ {s:List Da},(∀ a∈s,Mu.isD m a)→(v,d) ∉ s∧(w,(d + 2) % 4) ∉ s:=fun h=>⟨fun q=>(D.isD.1 (h _ q)).2.1 rfl,fun q=>(D.isD.1 (h _ q)).2.2 rfl⟩
 have iB:∀ a∈B++[y'],Mu.isD m a:=fun a ha=>is a (List.mem_append.2 (.inl ha))
 have iA:∀ a∈A++[x'],Mu.isD m a:=fun a ha=>is a (List.mem_append.2 (.inr ha))
 have t1:tt l x'=tn x'.2 d:=by unfold tt; rw [hx]
 have t2:tt l y'=tn y'.2 ((d + 2) % 4):=by unfold tt; rw [hy]
 refine ⟨⟨by simp,List.nodup_cons.2 ⟨(notm iB).2,nd1.1⟩,(w,(d + 2) % 4),rfl,D.e' hc,?_⟩,⟨by simp,List.nodup_cons.2 ⟨(notm iA).1,nd1.2.1⟩,(v,d),rfl,D.e,?_⟩,?_,?_⟩
 ·rw [e1]
  exact Pt.app.2 ⟨y',B1,rfl,(D.isD.1 dy).1,hy⟩
 ·rw [e2]
  exact Pt.app.2 ⟨x',A1,rfl,(D.isD.1 dx).1,hx⟩
 ·rw [Zbt,ZcF,ZcF,Zbt,Zbt,ZeZ,ZeZ,B2]
  rw [t2]
  have:=bx.2
  rw [t1] at this
  omega
 ·have a1:=bx.2
  have a2:=by'.2
  rw [Zbt,Zbt,ZcF,ZcF,ZcF,ZcF,ZcF]
  simp only [Zbt,ZeZ]
  omega
theorem Del.chord_val {l m:List Za} (hc:Ck l) (hm:Ck m) {v d w:Nat} (D:Del l m v d w) {A B:List Da} {x y:Da} (hL:Lp m (B++[y]++(A++[x]))) (hx:Mu.bh l x=(v,d)) (hy:Mu.bh l y=(w,(d + 2) % 4)) (h4:Zbg m (B++[y]) + tt m x - tt m y + 2 - tn x.2 d + tn y.2 ((d + 2) % 4)=4) (h:Val m):Val l:=by
 obtain ⟨k1,k2,k3,k4⟩:=D.chord hc hm hL hx hy
 rw [h4] at k3
 obtain ⟨h1,h2⟩:=(ZeJ hm).1 h
 have r:=h1 _ hL.cyc
 have ee:=D.ee hc
 have iA:∀ a∈A++[x],Mu.isD m a:=fun a ha=>hL.is a (List.mem_append.2 (.inr ha))
 have nA:(w,(d + 2) % 4) ∉ (v,d) :: (A++[x]):=by
  intro q
  rcases List.mem_cons.1 q with q | q
  ·exact ee q
  ·exact (D.isD.1 (iA _ q)).2.2 rfl
 have X:Mu.chi l=4:=by
  have a1:=D.cD hc
  have a2:=D.cV hc
  have b1:=Zf2 hc D.e
  have b2:=Zf2 hc (D.e' hc)
  rw [D.opp] at b1
  rw [← D.opp,ZeI hc D.e,D.opp] at b2
  dsimp only at b1 b2
  cases D.kind hc with
  | two A' B' R hA hB hl hm' rot same n1 n2 lm =>
   have f1:=hl.len (Fcs.faces hc)
   have f2:=hm'.len (Fcs.faces hm)
   simp only [List.length_cons] at f1 f2
   rw [if_neg fun q=>n2 (b2.2 q),if_neg fun q=>n1 (b1.2 q)] at a2
   unfold Mu.chi at h2 ⊢
   omega
  | one A' B' R hA hl hm' rot same n1 n2 lA lB=>exact absurd (hA.cyc.sub k2.cyc (p:=(v,d)) (by simp) (by simp) (w,(d + 2) % 4) (by simp)) nA
  | leaf A' R hA hl hm' rot same n=>exact absurd (hA.sub k2.cyc (p:=(v,d)) (by simp) (by simp) (w,(d + 2) % 4) (by simp)) nA
  | iso R hA hl hm' same n1 n2=>exact absurd (hA.sub k2.cyc (p:=(v,d)) (by simp) (by simp) (w,(d + 2) % 4) (by simp)) nA
 refine (ZeJ hc).2 ⟨fun f hf=>?_,X⟩
 by_cases c1:(v,d)∈f
 ·rw [ZeM (hf.perm k2.cyc c1 (by simp))]; omega
 ·by_cases c2:(w,(d + 2) % 4)∈f
  ·rw [ZeM (hf.perm k1.cyc c2 (by simp))]; omega
  ·obtain ⟨q1,q2⟩:=D.keep hc hf c1 c2
   rw [← q2]; exact h1 f q1
end Mu
/- Layer 20: FrontFirst. -/
set_option linter.unusedVariables false
set_option linter.unusedSimpArgs false
set_option maxRecDepth 10000
namespace Mu
end Mu
/- Layer 20: what a turn to the right faces,by sums. -/
set_option linter.unusedVariables false
set_option linter.unusedSimpArgs false
set_option maxRecDepth 10000
namespace Mu
def cs (t:List Int) (i:Nat):Nat→Int
 | 0=>0
 | k + 1=>cs t i k + gi t ((i + k) % t.length)
theorem Zhj {t:List Int}:∀ n,n≤t.length→ZbH t n=(t.take n).sum
 | 0,_=>by simp [ZbH]
 | n + 1,h=>by rw [ZbH,Zhj n (by omega),ZgZ (by omega)]
theorem ZmE {t:List Int}:ZbH t t.length=t.sum:=by rw [Zhj _ (Nat.le_refl _),List.take_length]
end Mu
/- A cut: an edge split,and a corner joined to it. -/
set_option linter.unusedVariables false
set_option linter.unusedSimpArgs false
set_option maxRecDepth 10000
namespace Mu
/-! Faces,once round from their first Zeh. -/
theorem Zk6 {l:List Za} (hc:Ck l) {M:List Da} (hM:Mets l M) (cl:∀ p∈M,bh l p∈M) {x:Da} (hx:isD l x) (hn:x ∉ M):∃ K,walk l (4 * l.length + 1) M x=(List.range K).map (fun i=>it l i x)∧it l K x=x:=by
 obtain ⟨K,e1,e2⟩:=ZhI hc (4 * l.length + 1) M x hM hx (by omega)
 obtain ⟨C,_⟩:=Zha hc hM cl hx hn
 refine ⟨K,e1,?_⟩
 have wnd:=C.nd
 have notM:∀ i,it l i x ∉ M:=by
  intro i
  induction i with
  | zero=>exact hn
  | succ i ih=>exact fun h=>ih (Zh0 hc hM cl (ZfQ hc hx i) h)
 rcases List.mem_append.1 e2 with h | h
 ·exact absurd h (notM K)
 ·rw [e1] at h wnd
  obtain ⟨j,hj,e⟩:=List.mem_map.1 h
  rw [List.mem_range] at hj
  cases j with
  | zero=>exact e.symm
  | succ j =>
   cases K with
   | zero=>omega
   | succ K =>
    have:=ZeS hc (ZfQ hc hx j) (ZfQ hc hx K) e
    have q:=List.pairwise_map.1 wnd
    rw [List.pairwise_iff_getElem] at q
    have q2:=q j K (by simp; omega) (by simp) (by omega)
    rw [List.getElem_range,List.getElem_range] at q2
    exact absurd this q2
def Round (l:List Za) (f:List Da):Prop:=∃ x,isD l x∧f=(List.range f.length).map (fun i=>it l i x)∧it l f.length x=x
theorem Round.of {l:List Za} {f:List Da} {x:Da} {K:Nat} (hx:isD l x) (h:f=(List.range K).map (fun i=>it l i x)) (h2:it l K x=x):Round l f:=by
 have:f.length=K:=by rw [h]; simp
 exact ⟨x,hx,by rw [this]; exact h,by rw [this]; exact h2⟩
structure FR (l:List Za) (s:List Da × List (List Da)):Prop where
 fc:FC l s
 rd:∀ f∈s.2,Round l f
theorem FR.st {l:List Za} (hc:Ck l) {s:List Da × List (List Da)} (h:FR l s) {p:Da} (h1:p.1 < l.length) (h2:p.2 < 4):FR l (stF l s p):=by
 refine ⟨h.fc.st hc h1 h2,?_⟩
 unfold stF
 split
 ·exact h.rd
 ·rename_i c
  intro f hf
  rcases List.mem_append.1 hf with k | k
  ·exact h.rd f k
  ·rw [List.mem_singleton.1 k]
   have hp:isD l p:=⟨h1,h2,by omega⟩
   obtain ⟨K,a,b⟩:=Zk6 hc h.fc.fi.m h.fc.cl hp fun q=>c (.inr q)
   exact Round.of hp a b
theorem FR.row {l:List Za} (hc:Ck l) {s:List Da × List (List Da)} (h:FR l s) {v:Nat} (hv:v < l.length):∀ e,e≤4→FR l (ZgA l v s e)
 | 0,_=>h
 | e + 1,he=>(FR.row hc h hv e (by omega)).st hc hv (by dsimp only; omega)
theorem Zj6 {l:List Za} (hc:Ck l):∀ v,v≤l.length→FR l (FS l v)
 | 0,_=>⟨Zka hc 0 (by omega),by simp [FS]⟩
 | v + 1,hv=>(Zj6 hc v (by omega)).row hc (by omega) 4 (by omega)
theorem ZjF {l:List Za} (hc:Ck l):∀ f∈faces l,Round l f:=(Zj6 hc l.length (by omega)).rd
theorem Zmn {l:List Za} {x:Da} (a:Nat):∀ b,it l (a + b) x=it l b (it l a x)
 | 0=>rfl
 | b + 1=>by rw [← Nat.add_assoc,it,Zmn a b]; rfl
theorem Zmp {l:List Za} {x:Da} {n:Nat} (h:it l n x=x):∀ k i,it l (i + n * k) x=it l i x
 | 0,i=>by rw [Nat.mul_zero,Nat.add_zero]
 | k + 1,i=>by rw [Nat.mul_succ,← Nat.add_assoc,Nat.add_comm _ n,Zmn,h,Zmp h k i]
theorem ZoE {l:List Za} {x:Da} {n:Nat} (h:it l n x=x) (i:Nat):it l (i % n) x=it l i x:=by
 have:=Zmp h (i / n) (i % n)
 rw [Nat.mod_add_div] at this
 exact this.symm
theorem Round.at {l:List Za} {f:List Da} {x:Da} (h:f=(List.range f.length).map (fun i=>it l i x)) (h2:it l f.length x=x) {i:Nat} (hf:0 < f.length):gi f (i % f.length)=it l i x:=by
 have lt:i % f.length < f.length:=Nat.mod_lt _ hf
 have:gi f (i % f.length)=gi ((List.range f.length).map (fun i=>it l i x)) (i % f.length):=by rw [← h]
 rw [this,Zds lt,ZoE h2]
theorem ZmQ {d e:Nat} (hd:d < 4) (he:e < 4):∃ k:Int,(e:Int)=d + tn d e + 4 * k:=by
 have a:d=0∨d=1∨d=2∨d=3:=by omega
 have b:e=0∨e=1∨e=2∨e=3:=by omega
 rcases a with rfl | rfl | rfl | rfl <;> rcases b with rfl | rfl | rfl | rfl <;> first | exact ⟨0,by decide⟩ | exact ⟨1,by decide⟩ | exact ⟨-1,by decide⟩
theorem Pt.dir {l:List Za} (hc:Ck l):∀ {s:List Da} {x y:Da},Pt l x s y→∃ k:Int,(y.2:Int)=x.2 + Zbg l s + 4 * k
 | [],x,y,h=>by
  rw [Pt] at h; subst h
  exact ⟨0,by rw [ZeZ]; omega⟩
 | a :: s,x,y,h=>by
  rw [Pt] at h
  obtain ⟨rfl,h1,h2⟩:=h
  obtain ⟨k,e⟩:=Pt.dir hc h2
  obtain ⟨k',e'⟩:=ZmQ h1.2.1 (h1.bh hc).2.1
  refine ⟨k + k',?_⟩
  rw [Zbt]
  unfold tt
  omega
/-! Edges split. -/
section spl
variable {l:List Za} {a b w:Nat}
def Zf5 (l:List Za) (a b w:Nat) (p:Da):List Da:=if p=(a,b) then [p,(l.length,b)] else if p=(w,(b + 2) % 4) then [p,(l.length,(b + 2) % 4)] else [p]
structure Sp (l m:List Za) (a b w:Nat):Prop where
 ck:Ck m
 len:m.length=l.length + 1
 ha:a < l.length
 hb:b < 4
 hw:w < l.length
 hn:nx l a b=w
 hne:w≠a
 nx:∀ i e,i≤l.length→e < 4→nx m i e=(if i=l.length then (if e=b then (w:Int) else if e=(b + 2) % 4 then (a:Int) else -1) else if i=w∧e=(b + 2) % 4 then (l.length:Int) else if i=a∧e=b then (l.length:Int) else nx l i e)
 ow:∀ i e,i≤l.length→e < 4→ow m i e=(if i=l.length then (if e=b then ow l a b else if e=(b + 2) % 4 then ow l a b else 0) else if i=w∧e=(b + 2) % 4 then ow l a b else if i=a∧e=b then ow l a b else ow l i e)
theorem Sp.of (hc:Ck l) (ha:a < l.length) (hb:b < 4) (hn:Mu.nx l a b=w):Sp l (spl l a b w (Mu.ow l a b)) a b w:=by
 obtain ⟨h1,h2,h3⟩:=hc.spl ha hb hn
 exact ⟨h3,Zld,ha,hb,h1,hn,h2,fun i e hi he=>(Zku ha h1 hb hi he).1,fun i e hi he=>(Zku ha h1 hb hi he).2⟩
variable {m:List Za}
theorem Sp.back (hc:Ck l) (S:Sp l m a b w):Mu.nx l w ((b + 2) % 4)=a:=(hc.back' S.ha S.hb S.hn).2
theorem Sp.old (hc:Ck l) (S:Sp l m a b w) {i e:Nat} (hi:i < l.length) (he:e < 4):0≤Mu.nx m i e↔0≤Mu.nx l i e:=by
 rw [S.nx i e (by omega) he,if_neg (by omega)]
 have:=S.back hc
 have:=S.hn
 by_cases c1:i=w∧e=(b + 2) % 4
 ·rw [if_pos c1,c1.1,c1.2]; omega
 ·rw [if_neg c1]
  by_cases c2:i=a∧e=b
  ·rw [if_pos c2,c2.1,c2.2]; omega
  ·rw [if_neg c2]
theorem Sp.y (S:Sp l m a b w):isD l (a,b):=⟨S.ha,S.hb,by rw [S.hn]; omega⟩
theorem Sp.oy (S:Sp l m a b w):opp l (a,b)=(w,(b + 2) % 4):=by unfold opp; dsimp only; rw [S.hn,Int.toNat_natCast]
theorem Sp.y' (hc:Ck l) (S:Sp l m a b w):isD l (w,(b + 2) % 4):=by rw [← S.oy]; exact S.y.opp hc
theorem Sp.is (hc:Ck l) (S:Sp l m a b w) {p:Da} (h:isD l p):isD m p:=⟨by rw [S.len]; have:=h.1; omega,h.2.1,(S.old hc h.1 h.2.1).2 h.2.2⟩
theorem Sp.bh0 (hc:Ck l) (S:Sp l m a b w) {p:Da} (h:isD l p) (h1:p≠(a,b)) (h2:p≠(w,(b + 2) % 4)):Mu.nx m p.1 p.2=Mu.nx l p.1 p.2∧bh m p=bh l p:=by
 have f:=h.fwd hc
 have hlt:=h.1
 have e:Mu.nx m p.1 p.2=Mu.nx l p.1 p.2:=by
  rw [S.nx p.1 p.2 (by omega) h.2.1,if_neg (by omega),if_neg fun q=>h2 (Prod.ext q.1 q.2),if_neg fun q=>h1 (Prod.ext q.1 q.2)]
 refine ⟨e,?_⟩
 rw [Zdi,Zdi,e]
 refine congrArg (Prod.mk _) (ZeL (fun e he=>?_) h.2.1)
 rw [decide_eq_decide]
 exact S.old hc f.1 he
theorem Sp.bh1 (hc:Ck l) (S:Sp l m a b w):Mu.nx m a b=l.length∧bh m (a,b)=(l.length,b)∧bh m (l.length,b)=bh l (a,b)∧bh m (w,(b + 2) % 4)=(l.length,(b + 2) % 4)∧bh m (l.length,(b + 2) % 4)=bh l (w,(b + 2) % 4):=by
 have hb:=S.hb
 have hne:=S.hne
 have ha:=S.ha
 have hw:=S.hw
 have e1:Mu.nx m a b=l.length:=by rw [S.nx a b (by omega) hb,if_neg (by omega),if_neg fun q=>hne q.1.symm,if_pos ⟨rfl,rfl⟩]
 have e2:Mu.nx m w ((b + 2) % 4)=l.length:=by rw [S.nx w _ (by omega) (by omega),if_neg (by omega),if_pos ⟨rfl,rfl⟩]
 have e3:Mu.nx m l.length b=w:=by rw [S.nx _ b (by omega) hb,if_pos rfl,if_pos rfl]
 have e4:Mu.nx m l.length ((b + 2) % 4)=a:=by rw [S.nx _ _ (by omega) (by omega),if_pos rfl,if_neg (by omega),if_pos rfl]
 have ne1:Mu.nx m l.length ((b + 1) % 4)=-1:=by rw [S.nx _ _ (by omega) (by omega),if_pos rfl,if_neg (by omega),if_neg (by omega)]
 have ne3:Mu.nx m l.length ((b + 3) % 4)=-1:=by rw [S.nx _ _ (by omega) (by omega),if_pos rfl,if_neg (by omega),if_neg (by omega)]
 refine ⟨e1,?_,?_,?_,?_⟩
 ·unfold bh
  dsimp only
  rw [e1,Int.toNat_natCast,ne1,e3,if_neg (by omega),if_pos (by omega)]
 ·rw [Zdi,Zdi]
  dsimp only
  rw [e3,S.hn,Int.toNat_natCast]
  exact congrArg (Prod.mk _) (ZeL (fun e he=>by rw [decide_eq_decide]; exact S.old hc hw he) hb)
 ·unfold bh
  dsimp only
  rw [e2,Int.toNat_natCast,show ((b + 2) % 4 + 1) % 4=(b + 3) % 4 by omega,ne3,e4,if_neg (by omega),if_pos (by omega)]
 ·rw [Zdi,Zdi]
  dsimp only
  rw [e4,S.back hc,Int.toNat_natCast]
  exact congrArg (Prod.mk _) (ZeL (fun e he=>by rw [decide_eq_decide]; exact S.old hc ha he) (by omega))
theorem Sp.ins (hc:Ck l) (S:Sp l m a b w):Ins l m (Zf5 l a b w):=by
 have hb:=S.hb
 have hne:=S.hne
 have ha:=S.ha
 have hw:=S.hw
 obtain ⟨n1,b1,b2,b3,b4⟩:=S.bh1 hc
 have n3:Mu.nx m l.length b=w:=by rw [S.nx _ b (by omega) hb,if_pos rfl,if_pos rfl]
 have n4:Mu.nx m l.length ((b + 2) % 4)=a:=by rw [S.nx _ _ (by omega) (by omega),if_pos rfl,if_neg (by omega),if_pos rfl]
 have yy:((w,(b + 2) % 4):Da)≠(a,b):=fun q=>hne (congrArg Prod.fst q)
 have U1:isD m (l.length,b):=⟨by rw [S.len]; dsimp only; omega,hb,by dsimp only; rw [n3]; omega⟩
 have U2:isD m (l.length,(b + 2) % 4):=⟨by rw [S.len]; dsimp only; omega,by dsimp only; omega,by dsimp only; rw [n4]; omega⟩
 have hd:∀ p,isD l p→p∈Zf5 l a b w p:=by
  intro p _; unfold Zf5; split
  ·simp
  ·split <;> simp
 refine ⟨fun p hp e=>?_,fun p hp=>?_,fun p hp x hx=>?_,fun p q hp hq x h1 h2=>?_,fun p hp=>?_,fun p hp x hx=>?_,fun C hC p hp hx y hy=>?_,fun x hx=>?_⟩
 ·have:=hd p hp; rw [e] at this; simp at this
 ·have:=hp.1
  unfold Zf5
  split
  ·rename_i c; rw [c]; simp; omega
  ·split
   ·rename_i c; rw [c]; simp; omega
   ·simp
 ·unfold Zf5 at hx
  split at hx
  ·rcases List.mem_cons.1 hx with rfl | hx
   ·exact S.is hc hp
   ·rw [List.mem_singleton.1 hx]; exact U1
  ·split at hx
   ·rcases List.mem_cons.1 hx with rfl | hx
    ·exact S.is hc hp
    ·rw [List.mem_singleton.1 hx]; exact U2
   ·rw [List.mem_singleton.1 hx]; exact S.is hc hp
 ·have hp1:=hp.1
  have hq1:=hq.1
  have key:∀ {p x},isD l p→x∈Zf5 l a b w p→x=p∨(x=(l.length,b)∧p=(a,b))∨(x=(l.length,(b + 2) % 4)∧p=(w,(b + 2) % 4)):=by
   intro p x hp h
   unfold Zf5 at h
   split at h
   ·rename_i c
    rcases List.mem_cons.1 h with h | h
    ·exact .inl h
    ·exact .inr (.inl ⟨List.mem_singleton.1 h,c⟩)
   ·split at h
    ·rename_i c
     rcases List.mem_cons.1 h with h | h
     ·exact .inl h
     ·exact .inr (.inr ⟨List.mem_singleton.1 h,c⟩)
    ·exact .inl (List.mem_singleton.1 h)
  rcases key hp h1 with k | ⟨k,k'⟩ | ⟨k,k'⟩ <;> rcases key hq h2 with r | ⟨r,r'⟩ | ⟨r,r'⟩
  ·rw [← k,r]
  ·rw [← k,r] at hp1; dsimp only at hp1; omega
  ·rw [← k,r] at hp1; dsimp only at hp1; omega
  ·rw [← r,k] at hq1; dsimp only at hq1; omega
  ·rw [k',r']
  ·rw [k] at r; injection r with _ r; omega
  ·rw [← r,k] at hq1; dsimp only at hq1; omega
  ·rw [k] at r; injection r with _ r; omega
  ·rw [k',r']
 ·unfold Zf5
  split
  ·rename_i c
   subst c
   simp only [List.map_cons,List.map_nil,List.sum_cons,List.sum_nil,b1,b2]
   have:tn b b=0:=by unfold tn; rw [if_pos rfl]
   omega
  ·split
   ·rename_i c
    subst c
    simp only [List.map_cons,List.map_nil,List.sum_cons,List.sum_nil,b3,b4]
    have:tn ((b + 2) % 4) ((b + 2) % 4)=0:=by unfold tn; rw [if_pos rfl]
    omega
   ·rename_i c1 c2
    simp only [List.map_cons,List.map_nil,List.sum_cons,List.sum_nil,(S.bh0 hc hp c1 c2).2]
    omega
 ·unfold Zf5 at hx
  split at hx
  ·rename_i c
   rcases List.mem_cons.1 hx with rfl | hx
   ·subst c; rw [b1]; left; unfold Zf5; rw [if_pos rfl]; simp
   ·rw [List.mem_singleton.1 hx,b2,c]; right; exact hd _ (S.y.bh hc)
  ·split at hx
   ·rename_i c
    rcases List.mem_cons.1 hx with rfl | hx
    ·subst c; rw [b3]; left; unfold Zf5; rw [if_neg yy,if_pos rfl]; simp
    ·rw [List.mem_singleton.1 hx,b4,c]; right; exact hd _ ((S.y' hc).bh hc)
   ·rename_i c1 c2
    rw [List.mem_singleton.1 hx,(S.bh0 hc hp c1 c2).2]; right; exact hd _ (hp.bh hc)
 ·-- one's first dart,then all
  have all:∀ q,isD l q→C q→∀ y∈Zf5 l a b w q,C y:=by
   intro q hq hCq y hy
   unfold Zf5 at hy
   split at hy
   ·rename_i c
    subst c
    rcases List.mem_cons.1 hy with rfl | hy
    ·exact hCq
    ·rw [List.mem_singleton.1 hy,← b1]; exact hC _ (S.is hc hq) hCq
   ·split at hy
    ·rename_i c
     subst c
     rcases List.mem_cons.1 hy with rfl | hy
     ·exact hCq
     ·rw [List.mem_singleton.1 hy,← b3]; exact hC _ (S.is hc hq) hCq
    ·rw [List.mem_singleton.1 hy]; exact hCq
  refine all _ (hp.bh hc) ?_ y hy
  obtain ⟨x,hx,hCx⟩:=hx
  unfold Zf5 at hx
  split at hx
  ·rename_i c
   subst c
   have:C (l.length,b):=by
    rcases List.mem_cons.1 hx with rfl | hx
    ·rw [← b1]; exact hC _ (S.is hc hp) hCx
    ·rw [← List.mem_singleton.1 hx]; exact hCx
   rw [← b2]; exact hC _ U1 this
  ·split at hx
   ·rename_i c
    subst c
    have:C (l.length,(b + 2) % 4):=by
     rcases List.mem_cons.1 hx with rfl | hx
     ·rw [← b3]; exact hC _ (S.is hc hp) hCx
     ·rw [← List.mem_singleton.1 hx]; exact hCx
    rw [← b4]; exact hC _ U2 this
   ·rename_i c1 c2
    rw [List.mem_singleton.1 hx] at hCx
    rw [← (S.bh0 hc hp c1 c2).2]; exact hC _ (S.is hc hp) hCx
 ·have h1:=hx.1
  have h2:=hx.2.1
  rw [S.len] at h1
  by_cases c:x.1=l.length
  ·have h3:=hx.2.2
   rw [S.nx x.1 x.2 (by omega) h2,if_pos c] at h3
   by_cases c1:x.2=b
   ·refine ⟨(a,b),S.y,?_⟩
    unfold Zf5
    rw [if_pos rfl]
    have:x=(l.length,b):=Prod.ext c c1
    rw [this]; simp
   ·rw [if_neg c1] at h3
    by_cases c2:x.2=(b + 2) % 4
    ·refine ⟨(w,(b + 2) % 4),S.y' hc,?_⟩
     unfold Zf5
     rw [if_neg yy,if_pos rfl]
     have:x=(l.length,(b + 2) % 4):=Prod.ext c c2
     rw [this]; simp
    ·rw [if_neg c2] at h3; omega
  ·have:isD l x:=⟨by omega,h2,(S.old hc (by omega) h2).1 hx.2.2⟩
   exact ⟨x,this,hd x this⟩
theorem Sp.val (hc:Ck l) (S:Sp l m a b w) (h:Val l):Val m:=((S.ins hc).val hc S.ck (Zkf hc) (Zkf S.ck)).1 h
theorem Sp.Pt (hc:Ck l) (S:Sp l m a b w):∀ {s:List Da} {x y:Da},Mu.Pt l x s y→Mu.Pt m x (s.flatMap (Zf5 l a b w)) y
 | [],x,y,h=>h
 | p :: s,x,y,h=>by
  rw [Mu.Pt] at h
  obtain ⟨rfl,h1,h2⟩:=h
  obtain ⟨n1,b1,b2,b3,b4⟩:=S.bh1 hc
  have I:=S.ins hc
  rw [List.flatMap_cons]
  refine Pt.app.2 ⟨bh l x,?_,S.Pt hc h2⟩
  have is:=fun z hz=>I.is x h1 z hz
  unfold Zf5 at is ⊢
  split
  ·rename_i c
   rw [if_pos c] at is
   subst c
   refine ⟨rfl,is _ (by simp),?_⟩
   rw [b1]
   exact ⟨rfl,is _ (by simp),b2⟩
  ·rename_i c
   rw [if_neg c] at is
   split
   ·rename_i c2
    rw [if_pos c2] at is
    subst c2
    refine ⟨rfl,is _ (by simp),?_⟩
    rw [b3]
    exact ⟨rfl,is _ (by simp),b4⟩
   ·rename_i c2
    exact ⟨rfl,S.is hc h1,(S.bh0 hc h1 c c2).2⟩
theorem Sp.Lp (hc:Ck l) (S:Sp l m a b w) {f:List Da} (h:Mu.Lp l f):Mu.Lp m (f.flatMap (Zf5 l a b w)):=by
 have C:=(S.ins hc).cyc hc h.cyc
 obtain ⟨x,hx⟩:=h.pt
 exact ⟨C.ne,C.nd,x,S.Pt hc hx⟩
theorem Sp.whole (hc:Ck l) (S:Sp l m a b w) (h:Mu.whole l):Mu.whole m:=by
 have h0:=Zht h
 -- each old cell is reached: through the new one where the edge was
 have e1:=S.nx a b (by have:=S.ha; omega) S.hb
 have hne:=S.hne
 have ha:=S.ha
 have hw:=S.hw
 have hb:=S.hb
 rw [if_neg (by omega),if_neg (fun q=>hne q.1.symm),if_pos ⟨rfl,rfl⟩] at e1
 have e2:Mu.nx m w ((b + 2) % 4)=l.length:=by rw [S.nx w _ (by omega) (by omega),if_neg (by omega),if_pos ⟨rfl,rfl⟩]
 have e3:Mu.nx m l.length b=w:=by rw [S.nx _ b (by omega) hb,if_pos rfl,if_pos rfl]
 have e4:Mu.nx m l.length ((b + 2) % 4)=a:=by rw [S.nx _ _ (by omega) (by omega),if_pos rfl,if_neg (by omega),if_pos rfl]
 have old:∀ {u n},Rch l 0 n u→∃ k,Rch m 0 k u:=by
  intro u n hr
  induction hr with
  | zero=>exact ⟨0,.zero⟩
  | succ hr hab ih =>
   rename_i n p q
   obtain ⟨k,r⟩:=ih
   have hp:=hr.lt hc h0
   obtain ⟨d,hd,e⟩:=hab
   have n:=S.nx p d (by omega) hd
   rw [if_neg (by omega)] at n
   by_cases c1:p=w∧d=(b + 2) % 4
   ·have:q=a:=by
     have:=S.back hc
     rw [← c1.1,← c1.2,e] at this; omega
    subst this
    rw [if_pos c1] at n
    exact ⟨k + 1 + 1,.succ (.succ r ⟨d,hd,n⟩) ⟨_,by omega,e4⟩⟩
   ·rw [if_neg c1] at n
    by_cases c2:p=a∧d=b
    ·have:q=w:=by
      have:=S.hn
      rw [← c2.1,← c2.2,e] at this; omega
     subst this
     rw [if_pos c2] at n
     exact ⟨k + 1 + 1,.succ (.succ r ⟨d,hd,n⟩) ⟨_,hb,e3⟩⟩
    ·rw [if_neg c2,e] at n
     exact ⟨k + 1,.succ r ⟨d,hd,n⟩⟩
 refine ZjZ (by rw [S.len]; omega) fun u hu=>?_
 rw [S.len] at hu
 by_cases c:u=l.length
 ·subst c
  obtain ⟨n,r⟩:=Zhu h ha
  obtain ⟨k,r⟩:=old r
  exact ⟨k + 1,.succ r ⟨b,hb,e1⟩⟩
 ·obtain ⟨n,r⟩:=Zhu h (w:=u) (by omega)
  exact old r
end spl
end Mu
/- A cut of a face that turns to the right: what comes of it. -/
set_option linter.unusedVariables false
set_option linter.unusedSimpArgs false
set_option maxRecDepth 10000
namespace Mu
def ng (t:Int):Int:=if t < 0 then -t else 0
def negs (l:List Za):Int:=((Zeh l).map fun p=>ng (tt l p)).sum
theorem Ins.perm {l m:List Za} {ins:Da→List Da} (I:Ins l m ins):(Zeh m).Perm ((Zeh l).flatMap ins):=by
 refine (List.perm_ext_iff_of_nodup ZhW ?_).2 fun x=>?_
 ·rw [List.Nodup,List.pairwise_flatMap]
  refine ⟨fun p hp=>I.nd p (ZdK.1 hp),(ZhW (l:=l)).imp_of_mem ?_⟩
  intro p q hp hq hne x hx y hy e
  subst e
  exact hne (I.dj p q (ZdK.1 hp) (ZdK.1 hq) x hx hy)
 ·rw [ZdK,List.mem_flatMap]
  constructor
  ·intro hx
   obtain ⟨p,hp,h⟩:=I.al x hx
   exact ⟨p,ZdK.2 hp,h⟩
  ·rintro ⟨p,hp,h⟩
   exact I.is p (ZdK.1 hp) x h
theorem Zh7 {g:Da→Int} {ins:Da→List Da}:∀ {L:List Da},((L.flatMap ins).map g).sum=(L.map fun p=>((ins p).map g).sum).sum
 | []=>rfl
 | a :: L=>by rw [List.flatMap_cons,List.map_append,List.sum_append,Zh7 (L:=L),List.map_cons,List.sum_cons]
theorem Sp.negs {l m:List Za} {a b w:Nat} (hc:Ck l) (S:Sp l m a b w):negs m=negs l:=by
 obtain ⟨n1,b1,b2,b3,b4⟩:=S.bh1 hc
 unfold Mu.negs
 rw [Zip (S.ins hc).perm,Zh7]
 congr 1
 refine List.map_congr_left fun p hp=>?_
 have hp:=ZdK.1 hp
 unfold Zf5 tt
 have z:ng 0=0:=rfl
 have t0:∀ d,tn d d=0:=fun d=>by unfold tn; rw [if_pos rfl]
 split
 ·rename_i c
  subst c
  simp only [List.map_cons,List.map_nil,List.sum_cons,List.sum_nil,b1,b2,t0,z]; omega
 ·split
  ·rename_i c
   subst c
   simp only [List.map_cons,List.map_nil,List.sum_cons,List.sum_nil,b3,b4,t0,z]; omega
  ·rename_i c1 c2
   simp only [List.map_cons,List.map_nil,List.sum_cons,List.sum_nil,(S.bh0 hc hp c1 c2).2]; omega
theorem Zj4 {l:List Za} {p:Da} (h4:p.2 < 4) (h:tt l p < 0):nx l (nx l p.1 p.2).toNat p.2 < 0∧nx l (nx l p.1 p.2).toNat ((p.2 + 1) % 4) < 0:=by
 unfold tt at h
 rw [ZmP h4] at h
 unfold arr at h
 by_cases c1:0≤nx l (nx l p.1 p.2).toNat ((p.2 + 1) % 4)
 ·rw [if_pos c1] at h; omega
 ·rw [if_neg c1] at h
  by_cases c2:0≤nx l (nx l p.1 p.2).toNat p.2
  ·rw [if_pos c2] at h; omega
  ·omega
structure Cut (l m:List Za):Prop where
 ck:Ck m
 val:Val m
 whole:whole m
 len:m.length=l.length + 1
 negs:negs m + 1≤negs l
 sub:∃ (l1:List Za) (a b w v d:Nat),Sp l l1 a b w∧m=wth l1 v d l.length (-2)∧Del m l1 v d l.length∧v < l.length∧d < 4∧nx l1 v d=-1∧nx l1 l.length ((d + 2) % 4)=-1
end Mu
/- Layer 21: cuts in the code; refining,till no inner face turns to the right. -/
set_option linter.unusedVariables false
set_option linter.unusedSimpArgs false
set_option maxRecDepth 10000
namespace Mu
theorem ZkP {l:List Za} {v d w:Nat} {o:Int} (hl:l.length≤4096) (hv:v < l.length) (hw:w < l.length) (hvw:v≠w) (hd:d < 4) (ho:-2≤o) (h1:nx l v d=-1) (h2:nx l w ((d + 2) % 4)=-1) :
  Zcy ⟨l⟩ v d w o=some (0,⟨wth l v d w o⟩)∧zR l v d w o=some (wth l v d w o,0):=by
 simp only [Zcy,zR]
 rw [mIs,mIs,Option.bind_some]
 have hb:(((d:Int) + 2).tmod 4)=(((d + 2) % 4:Nat):Int):=by
  match d,hd with
  | 0,_ | 1,_ | 2,_ | 3,_=>rfl
 have q1:((!decide (0≤(w:Int)∧(w:Int) < l.length∧0≤(d:Int)∧(d:Int) < 4)) || decide ((v:Int)=(w:Int)) || decide (o < -2))=false:=by simp; omega
 have q2:(decide ((v:Int) < 0) || decide ((l.length:Int)≤(v:Int)) || decide ((w:Int) < 0) || decide ((l.length:Int)≤(w:Int)) || decide ((v:Int)=(w:Int)) || decide ((d:Int) < 0) || decide (3 < (d:Int)) || decide (o < -2))=false:=by simp; omega
 have f:(gi l v).Next.get (d:Int)=-1:=h1
 have g:(gi l w).Next.get (((d + 2) % 4:Nat):Int)=-1:=h2
 rw [Zal (show 0≤(v:Int)∧(v:Int) < l.length∧0≤(d:Int)∧(d:Int) < 4 by omega),Bool.not_true,if_neg Bool.false_ne_true,Option.bind_some,Option.bind_some,q1,q2,if_neg Bool.false_ne_true,if_neg Bool.false_ne_true,Zn (by omega),Zn (by omega),Zn (by omega),Zn (by omega),Int.toNat_natCast,Int.toNat_natCast,Zod (by omega),z6 (by omega),hb,Option.bind_some,Zn (by omega),Zn (by omega)]
 rw [ZP f,Option.bind_some,Option.bind_some,Zal g,Bool.not_true,if_neg Bool.false_ne_true,if_neg Bool.false_ne_true,Zq5 (by omega) (by omega) (by omega),Option.bind_some,Zmx (by omega) (by omega),Option.bind_some]
 exact ⟨rfl,rfl⟩
theorem Cut.err {l m:List Za} (C:Cut l m) (hl:l.length + 1≤4096):ZdB m=0:=Ziy.2 ⟨Zdx.2 ⟨by rw [C.len]; exact hl,C.ck⟩,C.whole,fun _=>C.val⟩
end Mu
/- Layer 15,plainly: corners,sums,rotations. -/
set_option linter.unusedVariables false
set_option linter.unusedSimpArgs false
namespace Mu

def knp (x:Int):Nat:=if x=-1 then 1 else if x=-2 then 2 else 0
def ZcY (t:List Int):Nat→List (Nat × Nat)
 | 0=>[]
 | n + 1=>ZcY t n++(List.range (knp (gi t n))).map fun p=>(n,p)
def Zbh (t:List Int):List (Nat × Nat):=ZcY t t.length
def kC (c:Nat × Nat):ZA:=⟨c.1,c.2⟩
structure Tn (t:List Int):Prop where
 l:t.length≤250
 b:∀ i,-128≤gi t i∧gi t i≤127
def Gd (t:List Int):Prop:=∀ i,-2≤gi t i∧gi t i≤1

theorem Zhe (x:Int):knp x≤2:=by unfold knp; split <;> (try split) <;> omega
theorem Zd4 (t:List Int):∀ n,(ZcY t n).length≤2 * n
 | 0=>by simp [ZcY]
 | n + 1=>by
  have:=Zd4 t n
  have:=Zhe (gi t n)
  simp only [ZcY,List.length_append,List.length_map,List.length_range]
  omega
theorem Zid {t:List Int} {c:Nat × Nat}:∀ {n},c∈ZcY t n↔c.1 < n∧c.2 < knp (gi t c.1)
 | 0=>by simp [ZcY]
 | n + 1=>by
  simp only [ZcY,List.mem_append,Zid,List.mem_map,List.mem_range]
  constructor
  ·rintro (⟨h1,h2⟩ | ⟨p,hp,rfl⟩)
   ·exact ⟨by omega,h2⟩
   ·exact ⟨by simp,hp⟩
  ·rintro ⟨h1,h2⟩
   by_cases h:c.1 < n
   ·exact .inl ⟨h,h2⟩
   ·have:c.1=n:=by omega
    refine .inr ⟨c.2,by rw [← this]; exact h2,by rw [← this]⟩
theorem ZcP {t:List Int} {c:Nat × Nat}:c∈Zbh t↔c.1 < t.length∧c.2 < knp (gi t c.1):=Zid
theorem ZjJ {t:List Int} {n:Nat} {l:List ZA} (hl:l.length≤1000) (hx:-2≤gi t n) (hb:gi t n≤127) :
  ZL (Za8.s1 t n) big (l,0)=some (l++(List.range (knp (gi t n))).map fun p=>kC (n,p)):=by
 have hp:∀ p:Nat,p < knp (gi t n)↔(p:Int) < -gi t n:=by
  intro p; unfold knp
  split
  ·omega
  ·split <;> omega
 have h2:=Zhe (gi t n)
 refine ZbS (fun p:Nat=>(l++(List.range p).map fun q=>kC (n,q),(p:Int))) (n:=knp (gi t n)) (ZaX (by omega)) (by simp) (fun p h=>?_) ?_
 ·have:=(hp p).1 h
  have h3:(List.map (fun q=>kC (n,q)) (List.range p)).length=p:=by simp
  simp (disch:=omega) only [Za8.s1,h3,Zn,Zax,Zb2,Zt,Zu,zb,ZP,Zal,Zah,Option.bind_some,Int.toNat_natCast,List.length_append,List.length_cons,List.length_nil,Nat.zero_add,if_true,if_false,Bool.false_eq_true,Bool.not_true,Bool.not_false,Bool.true_and,Bool.false_and,Bool.and_true,Bool.and_false,Bool.true_or,Bool.false_or,Bool.or_true,Bool.or_false]
  try simp (disch:=omega) only [Zn,Zax,Zb2,Zt,Zu,zb,ZP,Zal,Zah,Option.bind_some,Int.toNat_natCast,List.length_append,List.length_cons,List.length_nil,Nat.zero_add,if_true,if_false,Bool.false_eq_true,Bool.not_true,Bool.not_false,Bool.true_and,Bool.false_and,Bool.and_true,Bool.and_false,Bool.true_or,Bool.false_or,Bool.or_true,Bool.or_false]
  simp [List.range_succ,kC]
 ·have:¬((knp (gi t n):Nat):Int) < -gi t n:=fun h=>absurd ((hp _).2 h) (by omega)
  simp (disch:=omega) only [Za8.s1,Zn,Zax,Zb2,Zt,Zu,zb,ZP,Zal,Zah,Option.bind_some,Int.toNat_natCast,List.length_append,List.length_cons,List.length_nil,Nat.zero_add,if_true,if_false,Bool.false_eq_true,Bool.not_true,Bool.not_false,Bool.true_and,Bool.false_and,Bool.and_true,Bool.and_false,Bool.true_or,Bool.false_or,Bool.or_true,Bool.or_false]
  try simp (disch:=omega) only [Zn,Zax,Zb2,Zt,Zu,zb,ZP,Zal,Zah,Option.bind_some,Int.toNat_natCast,List.length_append,List.length_cons,List.length_nil,Nat.zero_add,if_true,if_false,Bool.false_eq_true,Bool.not_true,Bool.not_false,Bool.true_and,Bool.false_and,Bool.and_true,Bool.and_false,Bool.true_or,Bool.false_or,Bool.or_true,Bool.or_false]
theorem Zmq {t:List Int} (ht:Tn t):Za8 t=some ((Zbh t).map kC):=by
 unfold Za8
 have hlen:=ht.l
 rw [ZeR (x:=(Zbh t).map kC)]
 refine ZbS (fun n:Nat=>((ZcY t n).map kC,(n:Int))) (n:=t.length) (ZaX (by omega)) (by simp [ZcY]) (fun n h=>?_) ?_
 ·have hb:=ht.b n
  have hc:=Zd4 t n
  by_cases hx:gi t n < -2
  ·simp (disch:=omega) only [Za8.s0,Zn,Zax,Zb2,Zt,Zu,zb,ZP,Zal,Zah,Option.bind_some,Int.toNat_natCast,List.length_append,List.length_cons,List.length_nil,Nat.zero_add,if_true,if_false,Bool.false_eq_true,Bool.not_true,Bool.not_false,Bool.true_and,Bool.false_and,Bool.and_true,Bool.and_false,Bool.true_or,Bool.false_or,Bool.or_true,Bool.or_false]
   try simp (disch:=omega) only [Zn,Zax,Zb2,Zt,Zu,zb,ZP,Zal,Zah,Option.bind_some,Int.toNat_natCast,List.length_append,List.length_cons,List.length_nil,Nat.zero_add,if_true,if_false,Bool.false_eq_true,Bool.not_true,Bool.not_false,Bool.true_and,Bool.false_and,Bool.and_true,Bool.and_false,Bool.true_or,Bool.false_or,Bool.or_true,Bool.or_false]
   have:knp (gi t n)=0:=by unfold knp; rw [if_neg (by omega),if_neg (by omega)]
   simp [ZcY,this]
  ·have:=ZjJ (t:=t) (n:=n) (l:=(ZcY t n).map kC) (by simp; omega) (by omega) hb.2
   simp (disch:=omega) only [Za8.s0,this,Zn,Zax,Zb2,Zt,Zu,zb,ZP,Zal,Zah,Option.bind_some,Int.toNat_natCast,List.length_append,List.length_cons,List.length_nil,Nat.zero_add,if_true,if_false,Bool.false_eq_true,Bool.not_true,Bool.not_false,Bool.true_and,Bool.false_and,Bool.and_true,Bool.and_false,Bool.true_or,Bool.false_or,Bool.or_true,Bool.or_false]
   try simp (disch:=omega) only [Zn,Zax,Zb2,Zt,Zu,zb,ZP,Zal,Zah,Option.bind_some,Int.toNat_natCast,List.length_append,List.length_cons,List.length_nil,Nat.zero_add,if_true,if_false,Bool.false_eq_true,Bool.not_true,Bool.not_false,Bool.true_and,Bool.false_and,Bool.and_true,Bool.and_false,Bool.true_or,Bool.false_or,Bool.or_true,Bool.or_false]
   simp [ZcY,Function.comp_def]
 ·simp (disch:=omega) only [Za8.s0,Zn,Zax,Zb2,Zt,Zu,zb,ZP,Zal,Zah,Option.bind_some,Int.toNat_natCast,List.length_append,List.length_cons,List.length_nil,Nat.zero_add,if_true,if_false,Bool.false_eq_true,Bool.not_true,Bool.not_false,Bool.true_and,Bool.false_and,Bool.and_true,Bool.and_false,Bool.true_or,Bool.false_or,Bool.or_true,Bool.or_false]
  try simp (disch:=omega) only [Zn,Zax,Zb2,Zt,Zu,zb,ZP,Zal,Zah,Option.bind_some,Int.toNat_natCast,List.length_append,List.length_cons,List.length_nil,Nat.zero_add,if_true,if_false,Bool.false_eq_true,Bool.not_true,Bool.not_false,Bool.true_and,Bool.false_and,Bool.and_true,Bool.and_false,Bool.true_or,Bool.false_or,Bool.or_true,Bool.or_false]
  rfl

/-! right -/
def gdB (t:List Int):Bool:=(List.range t.length).all fun i=>!(decide (gi t i < -2) || decide (1 < gi t i))
theorem ZkN {t:List Int}:gdB t=true↔Gd t:=by
 unfold gdB Gd
 rw [List.all_eq_true]
 constructor
 ·intro h i
  by_cases hi:i < t.length
  ·have:=h i (by simpa using hi)
   simp at this
   omega
  ·rw [Zel (by omega)]; exact ⟨by decide,by decide⟩
 ·intro h i hi
  have:=h i
  simp
  omega
theorem ZoI {t:List Int} (ht:t.length≤1000):ZcR t=some (gdB t):=by
 unfold ZcR ZbC ZaL
 rw [ZcI (n:=t.length) (P:=fun i=>decide (gi t i < -2) || decide (1 < gi t i)) (f:=fun i=>(i:Int)) (ZaX (by omega))]
 ·cases h:(List.range t.length).find? (fun i=>decide (gi t i < -2) || decide (1 < gi t i)) with
  | none =>
   rw [List.find?_range_eq_none] at h
   have:gdB t=true:=by
    rw [gdB,List.all_eq_true]
    intro i hi
    exact h i (by simpa using hi)
   simp [this]
  | some j =>
   rw [List.find?_range_eq_some] at h
   have:gdB t=false:=by
    rw [← Bool.not_eq_true,ZkN]
    intro hg
    have h1:=h.1
    have:=hg j
    simp at h1
    omega
   simp [this]
 ·intro i hi
  simp (disch:=omega) only [ZaL.s0,ZcK,Zn,Zax,Zb2,Zt,Zu,zb,ZP,Zal,Zah,Option.bind_some,Int.toNat_natCast,List.length_append,List.length_cons,List.length_nil,Nat.zero_add,if_true,if_false,Bool.false_eq_true,Bool.not_true,Bool.not_false,Bool.true_and,Bool.false_and,Bool.and_true,Bool.and_false,Bool.true_or,Bool.false_or,Bool.or_true,Bool.or_false]
  try simp (disch:=omega) only [Zn,Zax,Zb2,Zt,Zu,zb,ZP,Zal,Zah,Option.bind_some,Int.toNat_natCast,List.length_append,List.length_cons,List.length_nil,Nat.zero_add,if_true,if_false,Bool.false_eq_true,Bool.not_true,Bool.not_false,Bool.true_and,Bool.false_and,Bool.and_true,Bool.and_false,Bool.true_or,Bool.false_or,Bool.or_true,Bool.or_false]
  split <;> simp_all
 ·simp (disch:=omega) only [ZaL.s0,Zn,Zax,Zb2,Zt,Zu,zb,ZP,Zal,Zah,Option.bind_some,Int.toNat_natCast,List.length_append,List.length_cons,List.length_nil,Nat.zero_add,if_true,if_false,Bool.false_eq_true,Bool.not_true,Bool.not_false,Bool.true_and,Bool.false_and,Bool.and_true,Bool.and_false,Bool.true_or,Bool.false_or,Bool.or_true,Bool.or_false]
  try simp (disch:=omega) only [Zn,Zax,Zb2,Zt,Zu,zb,ZP,Zal,Zah,Option.bind_some,Int.toNat_natCast,List.length_append,List.length_cons,List.length_nil,Nat.zero_add,if_true,if_false,Bool.false_eq_true,Bool.not_true,Bool.not_false,Bool.true_and,Bool.false_and,Bool.and_true,Bool.and_false,Bool.true_or,Bool.false_or,Bool.or_true,Bool.or_false]

/-! contains -/
/-! sums -/
theorem Zir {t:List Int} (hg:Gd t):∀ n:Nat,-2 * (n:Int)≤ZbH t n∧ZbH t n≤n
 | 0=>by simp [ZbH]
 | n + 1=>by
  have:=Zir hg n
  have:=hg n
  simp only [ZbH]
  omega
def psL (t:List Int) (j:Nat):List Int:=(List.range (t.length + 1)).map fun q=>if q≤j then ZbH t q else 0
theorem ZfJ {t:List Int} {j:Nat}:(psL t j).length=t.length + 1:=by simp [psL]
theorem Zjl {t:List Int} {j q:Nat} (hq:q < t.length + 1):gi (psL t j) q=if q≤j then ZbH t q else 0:=by
 rw [ZbL (by rw [ZfJ]; exact hq)]
 simp [psL]
theorem ZmD {t:List Int}:List.replicate (t.length + 1) 0=psL t 0:=by
 refine List.ext_getElem (by rw [ZfJ]; simp) fun q h1 h2=>?_
 simp [psL]
 intro h3
 subst h3
 rfl
theorem ZmC {t:List Int} {j:Nat}:(psL t j).set (j + 1) (ZbH t j + gi t j)=psL t (j + 1):=by
 refine List.ext_getElem (by simp [psL]) fun q h1 h2=>?_
 rw [List.getElem_set]
 simp only [psL,List.getElem_map,List.getElem_range]
 by_cases hq:j + 1=q
 ·subst hq
  rw [if_pos rfl,if_pos (Nat.le_refl _)]
  rfl
 ·rw [if_neg hq]
  by_cases hq2:q≤j
  ·rw [if_pos hq2,if_pos (by omega)]
  ·rw [if_neg hq2,if_neg (by omega)]
theorem ZpK {t:List Int} (ht:t.length≤1000) (hg:Gd t):Zca t=some (psL t t.length):=by
 unfold Zca
 have e:((t.length:Int) + 1).toNat=t.length + 1:=by omega
 rw [e,ZmD]
 simp (disch:=omega) only [Zn,Zax,Zb2,Zt,Zu,zb,ZP,Zal,Zah,Option.bind_some,Int.toNat_natCast,List.length_append,List.length_cons,List.length_nil,Nat.zero_add,if_true,if_false,Bool.false_eq_true,Bool.not_true,Bool.not_false,Bool.true_and,Bool.false_and,Bool.and_true,Bool.and_false,Bool.true_or,Bool.false_or,Bool.or_true,Bool.or_false]
 rw [ZeR (x:=psL t t.length)]
 refine ZbS (fun n:Nat=>(psL t n,(n:Int))) (n:=t.length) (ZaX (by omega)) (by simp [ZcY]) (fun n h=>?_) ?_
 ·have h1:=ZfJ (t:=t) (j:=n)
  have h2:=Zir hg n
  have h3:=hg n
  have h4:gi (psL t n) n=ZbH t n:=by rw [Zjl (by omega),if_pos (Nat.le_refl _)]
  have h5:((n:Int) + 1).toNat=n + 1:=by omega
  simp (disch:=omega) only [Zca.s0,h4,h5,ZmC,Zn,Zax,Zb2,Zt,Zu,zb,ZP,Zal,Zah,Option.bind_some,Int.toNat_natCast,List.length_append,List.length_cons,List.length_nil,Nat.zero_add,if_true,if_false,Bool.false_eq_true,Bool.not_true,Bool.not_false,Bool.true_and,Bool.false_and,Bool.and_true,Bool.and_false,Bool.true_or,Bool.false_or,Bool.or_true,Bool.or_false]
  try simp (disch:=omega) only [Zn,Zax,Zb2,Zt,Zu,zb,ZP,Zal,Zah,Option.bind_some,Int.toNat_natCast,List.length_append,List.length_cons,List.length_nil,Nat.zero_add,if_true,if_false,Bool.false_eq_true,Bool.not_true,Bool.not_false,Bool.true_and,Bool.false_and,Bool.and_true,Bool.and_false,Bool.true_or,Bool.false_or,Bool.or_true,Bool.or_false]
  rfl
 ·simp (disch:=omega) only [Zca.s0,Zn,Zax,Zb2,Zt,Zu,zb,ZP,Zal,Zah,Option.bind_some,Int.toNat_natCast,List.length_append,List.length_cons,List.length_nil,Nat.zero_add,if_true,if_false,Bool.false_eq_true,Bool.not_true,Bool.not_false,Bool.true_and,Bool.false_and,Bool.and_true,Bool.and_false,Bool.true_or,Bool.false_or,Bool.or_true,Bool.or_false]
  try simp (disch:=omega) only [Zn,Zax,Zb2,Zt,Zu,zb,ZP,Zal,Zah,Option.bind_some,Int.toNat_natCast,List.length_append,List.length_cons,List.length_nil,Nat.zero_add,if_true,if_false,Bool.false_eq_true,Bool.not_true,Bool.not_false,Bool.true_and,Bool.false_and,Bool.and_true,Bool.and_false,Bool.true_or,Bool.false_or,Bool.or_true,Bool.or_false]

def Zft (t:List Int) (a b:Nat × Nat):Int:=ZbH t b.1 - b.2 - (ZbH t a.1 - a.2) + if b.1 < a.1∨(b.1=a.1∧b.2 < a.2) then ZbH t t.length else 0
theorem ZpJ {t:List Int} (ht:t.length≤1000) (hg:Gd t) {a b:Nat × Nat} (ha:a.1≤t.length) (hb:b.1≤t.length) (ha2:a.2≤10) (hb2:b.2≤10):Zdp (psL t t.length) (kC a) (kC b)=some (Zft t a b):=by
 unfold Zdp Zft kC
 have h1:=ZfJ (t:=t) (j:=t.length)
 have g1:gi (psL t t.length) a.1=ZbH t a.1:=by rw [Zjl (by omega),if_pos ha]
 have g2:gi (psL t t.length) b.1=ZbH t b.1:=by rw [Zjl (by omega),if_pos hb]
 have g3:gi (psL t t.length) t.length=ZbH t t.length:=by rw [Zjl (by omega),if_pos (Nat.le_refl _)]
 have b1:=Zir hg a.1
 have b2:=Zir hg b.1
 have b3:=Zir hg t.length
 have e:(((psL t t.length).length:Int) - 1).toNat=t.length:=by rw [h1]; omega
 by_cases c:b.1 < a.1∨(b.1=a.1∧b.2 < a.2)
 ·have hc:(decide ((b.1:Int) < a.1) || (decide ((b.1:Int)=a.1) && decide ((b.2:Int) < a.2)))=true:=by
   simp
   omega
  simp (disch:=omega) only [g1,g2,g3,hc,e,Zn,Zax,Zb2,Zt,Zu,zb,ZP,Zal,Zah,Option.bind_some,Int.toNat_natCast,List.length_append,List.length_cons,List.length_nil,Nat.zero_add,if_true,if_false,Bool.false_eq_true,Bool.not_true,Bool.not_false,Bool.true_and,Bool.false_and,Bool.and_true,Bool.and_false,Bool.true_or,Bool.false_or,Bool.or_true,Bool.or_false]
  try simp (disch:=omega) only [Zn,Zax,Zb2,Zt,Zu,zb,ZP,Zal,Zah,Option.bind_some,Int.toNat_natCast,List.length_append,List.length_cons,List.length_nil,Nat.zero_add,if_true,if_false,Bool.false_eq_true,Bool.not_true,Bool.not_false,Bool.true_and,Bool.false_and,Bool.and_true,Bool.and_false,Bool.true_or,Bool.false_or,Bool.or_true,Bool.or_false]
  rw [if_pos c]
 ·have hc:(decide ((b.1:Int) < a.1) || (decide ((b.1:Int)=a.1) && decide ((b.2:Int) < a.2)))=false:=by
   simp
   omega
  simp (disch:=omega) only [g1,g2,g3,e,Zn,Zax,Zb2,Zt,Zu,zb,ZP,Zal,Zah,Option.bind_some,Int.toNat_natCast,List.length_append,List.length_cons,List.length_nil,Nat.zero_add,if_true,if_false,Bool.false_eq_true,Bool.not_true,Bool.not_false,Bool.true_and,Bool.false_and,Bool.and_true,Bool.and_false,Bool.true_or,Bool.false_or,Bool.or_true,Bool.or_false]
  try simp (disch:=omega) only [Zn,Zax,Zb2,Zt,Zu,zb,ZP,Zal,Zah,Option.bind_some,Int.toNat_natCast,List.length_append,List.length_cons,List.length_nil,Nat.zero_add,if_true,if_false,Bool.false_eq_true,Bool.not_true,Bool.not_false,Bool.true_and,Bool.false_and,Bool.and_true,Bool.and_false,Bool.true_or,Bool.false_or,Bool.or_true,Bool.or_false]
  rw [if_neg (by simp; omega),if_neg c,Int.add_zero]
end Mu
/- Layer 15: the rotation there and back. -/
set_option linter.unusedVariables false
set_option linter.unusedSimpArgs false
namespace Mu

theorem ZgQ {t:List Int} {i:Nat} (hi:i < (Zbh t).length):gi ((Zbh t).map kC) i=kC (gi (Zbh t) i):=by
 rw [ZbL (by simpa using hi),ZbL hi]; simp
def clt (a b:Nat × Nat):Prop:=a.1 < b.1∨(a.1=b.1∧a.2 < b.2)
end Mu
/- Layer 15: turns of 0,and where one begins. -/
set_option linter.unusedVariables false
set_option linter.unusedSimpArgs false
namespace Mu

def looks (t:List Int):Prop:=∃ a∈Zbh t,∃ b∈Zbh t,Zft t a b=2

def inP (t:List Int) (i:Nat):Option Nat:=(List.range (Zbh t).length).find? fun k=>decide (Zft t (gi (Zbh t) i) (gi (Zbh t) k)=2)
def Zij (t:List Int):Option Nat:=(List.range (Zbh t).length).find? fun i=>(inP t i).isSome
def Zd6 (t:List Int):Option (Nat × Nat):=match Zij t with | some i=>(match inP t i with | some k=>some (i,k) | none=>none) | none=>none
theorem ZpI {t:List Int} (ht:Tn t) (hg:Gd t):ZaV t=some (match Zd6 t with | some (i,k)=>(kC (gi (Zbh t) i),kC (gi (Zbh t) k),true) | none=>(⟨0,0⟩,⟨0,0⟩,false)):=by
 have hl:=ht.l
 have hcl:(Zbh t).length≤500:=by have:=Zd4 t t.length; unfold Zbh; omega
 unfold ZaV
 rw [ZoI (by omega),ZkN.2 hg,Option.bind_some,Zmq ht,Option.bind_some,ZpK (by omega) hg,Option.bind_some]
 have hml:((Zbh t).map kC).length=(Zbh t).length:=by simp
 have inner:∀ i:Nat,i < (Zbh t).length→ZL (ZaV.s1 ((Zbh t).map kC) (psL t t.length) i) big 0=some (match inP t i with | some k=>.inr (kC (gi (Zbh t) k)) | none=>.inl ()):=by
  intro i hi
  unfold inP
  refine ZcI (n:=(Zbh t).length) (P:=fun k=>decide (Zft t (gi (Zbh t) i) (gi (Zbh t) k)=2)) (f:=fun k=>kC (gi (Zbh t) k)) (ZaX (by omega)) (fun k hk=>?_) ?_
  ·have a1:=ZcP.1 (Zbu hi)
   have b1:=ZcP.1 (Zbu hk)
   have n1:=Zhe (gi t (gi (Zbh t) i).1)
   have n2:=Zhe (gi t (gi (Zbh t) k).1)
   have e:=ZpJ (t:=t) (by omega) hg (a:=gi (Zbh t) i) (b:=gi (Zbh t) k) (by omega) (by omega) (by omega) (by omega)
   by_cases c:Zft t (gi (Zbh t) i) (gi (Zbh t) k)=2
   ·have c':decide (Zft t (gi (Zbh t) i) (gi (Zbh t) k)=2)=true:=by simpa using c
    rw [c',if_pos rfl]
    simp (disch:=omega) only [ZaV.s1,hml,ZgQ hi,ZgQ hk,e,c,Zn,Zax,Zb2,Zt,Zu,zb,ZP,Zal,Zah,Option.bind_some,Int.toNat_natCast,List.length_append,List.length_cons,List.length_nil,Nat.zero_add,if_true,if_false,Bool.false_eq_true,Bool.not_true,Bool.not_false,Bool.true_and,Bool.false_and,Bool.and_true,Bool.and_false,Bool.true_or,Bool.false_or,Bool.or_true,Bool.or_false]
    try simp (disch:=omega) only [Zn,Zax,Zb2,Zt,Zu,zb,ZP,Zal,Zah,Option.bind_some,Int.toNat_natCast,List.length_append,List.length_cons,List.length_nil,Nat.zero_add,if_true,if_false,Bool.false_eq_true,Bool.not_true,Bool.not_false,Bool.true_and,Bool.false_and,Bool.and_true,Bool.and_false,Bool.true_or,Bool.false_or,Bool.or_true,Bool.or_false]
   ·have c':decide (Zft t (gi (Zbh t) i) (gi (Zbh t) k)=2)=false:=by simpa using c
    rw [c',if_neg (by decide)]
    simp (disch:=omega) only [ZaV.s1,hml,ZgQ hi,ZgQ hk,e,Zn,Zax,Zb2,Zt,Zu,zb,ZP,Zal,Zah,Option.bind_some,Int.toNat_natCast,List.length_append,List.length_cons,List.length_nil,Nat.zero_add,if_true,if_false,Bool.false_eq_true,Bool.not_true,Bool.not_false,Bool.true_and,Bool.false_and,Bool.and_true,Bool.and_false,Bool.true_or,Bool.false_or,Bool.or_true,Bool.or_false]
    try simp (disch:=omega) only [Zn,Zax,Zb2,Zt,Zu,zb,ZP,Zal,Zah,Option.bind_some,Int.toNat_natCast,List.length_append,List.length_cons,List.length_nil,Nat.zero_add,if_true,if_false,Bool.false_eq_true,Bool.not_true,Bool.not_false,Bool.true_and,Bool.false_and,Bool.and_true,Bool.and_false,Bool.true_or,Bool.false_or,Bool.or_true,Bool.or_false]
  ·simp (disch:=omega) only [ZaV.s1,hml,Zn,Zax,Zb2,Zt,Zu,zb,ZP,Zal,Zah,Option.bind_some,Int.toNat_natCast,List.length_append,List.length_cons,List.length_nil,Nat.zero_add,if_true,if_false,Bool.false_eq_true,Bool.not_true,Bool.not_false,Bool.true_and,Bool.false_and,Bool.and_true,Bool.and_false,Bool.true_or,Bool.false_or,Bool.or_true,Bool.or_false]
   try simp (disch:=omega) only [Zn,Zax,Zb2,Zt,Zu,zb,ZP,Zal,Zah,Option.bind_some,Int.toNat_natCast,List.length_append,List.length_cons,List.length_nil,Nat.zero_add,if_true,if_false,Bool.false_eq_true,Bool.not_true,Bool.not_false,Bool.true_and,Bool.false_and,Bool.and_true,Bool.and_false,Bool.true_or,Bool.false_or,Bool.or_true,Bool.or_false]
 have outer:ZL (ZaV.s0 ((Zbh t).map kC) (psL t t.length)) big 0=some (match Zij t with | some i=>.inr (kC (gi (Zbh t) i),match inP t i with | some k=>kC (gi (Zbh t) k) | none=>⟨0,0⟩) | none=>.inl ()):=by
  unfold Zij
  refine ZcI (n:=(Zbh t).length) (P:=fun i=>(inP t i).isSome) (f:=fun i=>(kC (gi (Zbh t) i),match inP t i with | some k=>kC (gi (Zbh t) k) | none=>⟨0,0⟩)) (ZaX (by omega)) (fun i hi=>?_) ?_
  ·have e:=inner i hi
   cases h:inP t i with
   | none =>
    rw [h] at e
    simp (disch:=omega) only [ZaV.s0,hml,e,Zn,Zax,Zb2,Zt,Zu,zb,ZP,Zal,Zah,Option.bind_some,Int.toNat_natCast,List.length_append,List.length_cons,List.length_nil,Nat.zero_add,if_true,if_false,Bool.false_eq_true,Bool.not_true,Bool.not_false,Bool.true_and,Bool.false_and,Bool.and_true,Bool.and_false,Bool.true_or,Bool.false_or,Bool.or_true,Bool.or_false]
    try simp (disch:=omega) only [Zn,Zax,Zb2,Zt,Zu,zb,ZP,Zal,Zah,Option.bind_some,Int.toNat_natCast,List.length_append,List.length_cons,List.length_nil,Nat.zero_add,if_true,if_false,Bool.false_eq_true,Bool.not_true,Bool.not_false,Bool.true_and,Bool.false_and,Bool.and_true,Bool.and_false,Bool.true_or,Bool.false_or,Bool.or_true,Bool.or_false]
    rfl
   | some k =>
    rw [h] at e
    simp (disch:=omega) only [ZaV.s0,hml,e,ZgQ hi,Zn,Zax,Zb2,Zt,Zu,zb,ZP,Zal,Zah,Option.bind_some,Int.toNat_natCast,List.length_append,List.length_cons,List.length_nil,Nat.zero_add,if_true,if_false,Bool.false_eq_true,Bool.not_true,Bool.not_false,Bool.true_and,Bool.false_and,Bool.and_true,Bool.and_false,Bool.true_or,Bool.false_or,Bool.or_true,Bool.or_false]
    try simp (disch:=omega) only [Zn,Zax,Zb2,Zt,Zu,zb,ZP,Zal,Zah,Option.bind_some,Int.toNat_natCast,List.length_append,List.length_cons,List.length_nil,Nat.zero_add,if_true,if_false,Bool.false_eq_true,Bool.not_true,Bool.not_false,Bool.true_and,Bool.false_and,Bool.and_true,Bool.and_false,Bool.true_or,Bool.false_or,Bool.or_true,Bool.or_false]
    rfl
  ·simp (disch:=omega) only [ZaV.s0,hml,Zn,Zax,Zb2,Zt,Zu,zb,ZP,Zal,Zah,Option.bind_some,Int.toNat_natCast,List.length_append,List.length_cons,List.length_nil,Nat.zero_add,if_true,if_false,Bool.false_eq_true,Bool.not_true,Bool.not_false,Bool.true_and,Bool.false_and,Bool.and_true,Bool.and_false,Bool.true_or,Bool.false_or,Bool.or_true,Bool.or_false]
   try simp (disch:=omega) only [Zn,Zax,Zb2,Zt,Zu,zb,ZP,Zal,Zah,Option.bind_some,Int.toNat_natCast,List.length_append,List.length_cons,List.length_nil,Nat.zero_add,if_true,if_false,Bool.false_eq_true,Bool.not_true,Bool.not_false,Bool.true_and,Bool.false_and,Bool.and_true,Bool.and_false,Bool.true_or,Bool.false_or,Bool.or_true,Bool.or_false]
 have hnn:(!true)=false:=rfl
 rw [outer]
 simp only [hnn,Bool.false_eq_true,if_false,Option.bind_some]
 unfold Zd6
 cases ho:Zij t with
 | none=>rfl
 | some i =>
  have:=ho
  unfold Zij at this
  rw [List.find?_range_eq_some] at this
  cases hi:inP t i with
  | none=>rw [hi] at this; exact absurd this.1 (by simp)
  | some k=>simp [hi]

/-! A list and another one whose turns,but those of 0,stand elsewhere. -/
theorem Zgp {t u:List Int}:∀ n,ZbH (t++u) (t.length + n)=ZbH t t.length + ZbH u n
 | 0=>by
  simp only [Nat.add_zero,ZbH,Int.add_zero]
  have:∀ n,n≤t.length→ZbH (t++u) n=ZbH t n:=by
   intro n
   induction n with
   | zero=>intro _; rfl
   | succ n ih =>
    intro hn
    simp only [ZbH]
    rw [ih (by omega),ZcD (by omega)]
  exact this _ (Nat.le_refl _)
 | n + 1=>by
  show ZbH (t++u) (t.length + n) + gi (t++u) (t.length + n)=ZbH t t.length + (ZbH u n + gi u n)
  rw [Zgp n,Zc8]
  omega
theorem Zlp {α:Type} [Inhabited α] {l m:List α} {i:Nat}:gi (l++m) i=if i < l.length then gi l i else gi m (i - l.length):=by
 split
 ·rw [ZcD (by assumption)]
 ·rw [show i=l.length + (i - l.length) by omega,Zc8]
  congr 1
  omega
/-! How many corners. -/
end Mu
/- Layer 15: the document's answer. -/
set_option linter.unusedVariables false
set_option linter.unusedSimpArgs false
namespace Mu

def rC (c:Nat × Nat):Zq:=⟨c.1,c.2⟩
theorem Zkl {t:List Int} (ht:Tn t):Zaw t=some ((Zbh t).map rC):=by
 have hl:=ht.l
 unfold Zaw
 rw [ZeR (x:=(Zbh t).map rC)]
 refine ZbS (fun n:Nat=>((ZcY t n).map rC,(n:Int))) (n:=t.length) (ZaX (by omega)) rfl (fun n hn=>?_) ?_
 ·have hk:=Zd4 t n
  have hm:((ZcY t n).map rC).length=(ZcY t n).length:=by simp
  have e2:ZcY t (n + 1)=ZcY t n++(List.range (knp (gi t n))).map fun p=>(n,p):=rfl
  by_cases c1:gi t n=-1
  ·have k1:knp (gi t n)=1:=by rw [c1]; rfl
   rw [e2,k1]
   simp (disch:=omega) only [Zaw.s0,c1,hm,Zn,Zax,Zb2,Zt,Zu,zb,ZP,Zal,Zah,Option.bind_some,Int.toNat_natCast,List.length_append,List.length_cons,List.length_nil,Nat.zero_add,if_true,if_false,Bool.false_eq_true,Bool.not_true,Bool.not_false,Bool.true_and,Bool.false_and,Bool.and_true,Bool.and_false,Bool.true_or,Bool.false_or,Bool.or_true,Bool.or_false]
   try simp (disch:=omega) only [Zn,Zax,Zb2,Zt,Zu,zb,ZP,Zal,Zah,Option.bind_some,Int.toNat_natCast,List.length_append,List.length_cons,List.length_nil,Nat.zero_add,if_true,if_false,Bool.false_eq_true,Bool.not_true,Bool.not_false,Bool.true_and,Bool.false_and,Bool.and_true,Bool.and_false,Bool.true_or,Bool.false_or,Bool.or_true,Bool.or_false]
   simp [rC,List.range_succ]
  ·by_cases c2:gi t n=-2
   ·have k1:knp (gi t n)=2:=by rw [c2]; rfl
    rw [e2,k1]
    simp (disch:=omega) only [Zaw.s0,c2,hm,Zn,Zax,Zb2,Zt,Zu,zb,ZP,Zal,Zah,Option.bind_some,Int.toNat_natCast,List.length_append,List.length_cons,List.length_nil,Nat.zero_add,if_true,if_false,Bool.false_eq_true,Bool.not_true,Bool.not_false,Bool.true_and,Bool.false_and,Bool.and_true,Bool.and_false,Bool.true_or,Bool.false_or,Bool.or_true,Bool.or_false]
    try simp (disch:=omega) only [Zn,Zax,Zb2,Zt,Zu,zb,ZP,Zal,Zah,Option.bind_some,Int.toNat_natCast,List.length_append,List.length_cons,List.length_nil,Nat.zero_add,if_true,if_false,Bool.false_eq_true,Bool.not_true,Bool.not_false,Bool.true_and,Bool.false_and,Bool.and_true,Bool.and_false,Bool.true_or,Bool.false_or,Bool.or_true,Bool.or_false]
    simp [rC,List.range_succ]
   ·have k1:knp (gi t n)=0:=by unfold knp; rw [if_neg c1,if_neg c2]
    rw [e2,k1]
    simp (disch:=omega) only [Zaw.s0,c1,c2,hm,Zn,Zax,Zb2,Zt,Zu,zb,ZP,Zal,Zah,Option.bind_some,Int.toNat_natCast,List.length_append,List.length_cons,List.length_nil,Nat.zero_add,if_true,if_false,Bool.false_eq_true,Bool.not_true,Bool.not_false,Bool.true_and,Bool.false_and,Bool.and_true,Bool.and_false,Bool.true_or,Bool.false_or,Bool.or_true,Bool.or_false]
    try simp (disch:=omega) only [Zn,Zax,Zb2,Zt,Zu,zb,ZP,Zal,Zah,Option.bind_some,Int.toNat_natCast,List.length_append,List.length_cons,List.length_nil,Nat.zero_add,if_true,if_false,Bool.false_eq_true,Bool.not_true,Bool.not_false,Bool.true_and,Bool.false_and,Bool.and_true,Bool.and_false,Bool.true_or,Bool.false_or,Bool.or_true,Bool.or_false]
    simp [rC,List.range_succ]
 ·simp (disch:=omega) only [Zaw.s0,Zn,Zax,Zb2,Zt,Zu,zb,ZP,Zal,Zah,Option.bind_some,Int.toNat_natCast,List.length_append,List.length_cons,List.length_nil,Nat.zero_add,if_true,if_false,Bool.false_eq_true,Bool.not_true,Bool.not_false,Bool.true_and,Bool.false_and,Bool.and_true,Bool.and_false,Bool.true_or,Bool.false_or,Bool.or_true,Bool.or_false]
  try simp (disch:=omega) only [Zn,Zax,Zb2,Zt,Zu,zb,ZP,Zal,Zah,Option.bind_some,Int.toNat_natCast,List.length_append,List.length_cons,List.length_nil,Nat.zero_add,if_true,if_false,Bool.false_eq_true,Bool.not_true,Bool.not_false,Bool.true_and,Bool.false_and,Bool.and_true,Bool.and_false,Bool.true_or,Bool.false_or,Bool.or_true,Bool.or_false]
  rfl
/-! Single turns. -/
def Zfn (x:Int):List Int:=if x=-2 then [-1,-1] else [x]
def Zc7 (t:List Int):Nat→List Int
 | 0=>[]
 | n + 1=>Zc7 t n++Zfn (gi t n)
theorem Zl0 (x:Int):1≤(Zfn x).length∧(Zfn x).length≤2:=by unfold Zfn; split <;> simp
theorem Zhp (t:List Int):∀ n,(Zc7 t n).length≤2 * n
 | 0=>by simp [Zc7]
 | n + 1=>by
  have:=Zhp t n
  have:=Zl0 (gi t n)
  simp only [Zc7,List.length_append]; omega
theorem Zhq {t:List Int} {n:Nat}:∀ k,∃ r,Zc7 t (n + k)=Zc7 t n++r
 | 0=>⟨[],by simp⟩
 | k + 1=>by
  obtain ⟨r,h⟩:=Zhq (t:=t) (n:=n) k
  exact ⟨r++Zfn (gi t (n + k)),by rw [← Nat.add_assoc,Zc7,h,List.append_assoc]⟩
theorem Zl1 (x:Int):ZbH (Zfn x) (Zfn x).length=x:=by
 unfold Zfn
 split
 ·rename_i h; rw [h]; rfl
 ·simp [ZbH,gi]
theorem Zhr (t:List Int):∀ n,ZbH (Zc7 t n) (Zc7 t n).length=ZbH t n
 | 0=>rfl
 | n + 1=>by
  simp only [Zc7,List.length_append]
  rw [Zgp,Zhr t n,Zl1]
  rfl
def pos (t:List Int) (c:Nat × Nat):Nat:=(Zc7 t c.1).length + c.2
theorem ZjW {t:List Int} {n m:Nat} (h:n≤m):(Zc7 t n).length≤(Zc7 t m).length:=by
 obtain ⟨r,e⟩:=Zhq (t:=t) (n:=n) (m - n)
 rw [show n + (m - n)=m by omega] at e
 rw [e,List.length_append]; omega
theorem Zm7 {t:List Int} {c:Nat × Nat} (hc:c∈Zbh t):pos t c < (Zc7 t (c.1 + 1)).length:=by
 have h:=(ZcP.1 hc).2
 simp only [pos,Zc7,List.length_append]
 unfold knp at h
 unfold Zfn
 split at h
 ·rename_i e; rw [e]; simp; omega
 ·split at h
  ·rename_i e; rw [if_pos e]; simp; omega
  ·omega
theorem ZkW {t:List Int} {c:Nat × Nat} (hc:c∈Zbh t):pos t c < (Zc7 t t.length).length :=
 Nat.lt_of_lt_of_le (Zm7 hc) (ZjW (by have:=(ZcP.1 hc).1; omega))
theorem ZjN {t:List Int} {a b:Nat × Nat} (ha:a∈Zbh t) (h:clt a b):pos t a < pos t b:=by
 rcases h with h | ⟨h1,h2⟩
 ·have:=Zm7 ha
  have:=ZjW (t:=t) (n:=a.1 + 1) (m:=b.1) (by omega)
  unfold pos at *; omega
 ·unfold pos; rw [h1]; omega
theorem ZkX {t:List Int} {c:Nat × Nat} (hc:c∈Zbh t):ZbH (Zc7 t t.length) (pos t c)=ZbH t c.1 - c.2:=by
 obtain ⟨h1,h2⟩:=ZcP.1 hc
 obtain ⟨r,e⟩:=Zhq (t:=t) (n:=c.1 + 1) (t.length - (c.1 + 1))
 rw [show c.1 + 1 + (t.length - (c.1 + 1))=t.length by omega,Zc7,List.append_assoc] at e
 rw [e,pos,Zgp,Zhr]
 have:c.2=0∨(c.2=1∧gi t c.1=-2):=by
  unfold knp at h2
  split at h2
  ·omega
  ·split at h2
   ·rename_i e; omega
   ·omega
 rcases this with h | ⟨h,h3⟩
 ·rw [h]; simp [ZbH]
 ·rw [h,h3]; simp [Zfn,ZbH,gi]; omega
theorem Zok {t:List Int} (ht:Tn t):∀ n i,-128≤gi (Zc7 t n) i∧gi (Zc7 t n) i≤127
 | 0,i=>by rw [Zel (by simp [Zc7])]; exact ⟨by decide,by decide⟩
 | n + 1,i=>by
  simp only [Zc7]
  rw [Zlp]
  split
  ·exact Zok ht n i
  ·have:=ht.b n
   unfold Zfn
   generalize i - (Zc7 t n).length=j
   split
   ·match j with
    | 0=>simp [gi]
    | 1=>simp [gi]
    | j + 2=>rw [Zel (by simp)]; exact ⟨by decide,by decide⟩
   ·match j with
    | 0=>simpa [gi] using this
    | j + 1=>rw [Zel (by simp)]; exact ⟨by decide,by decide⟩
theorem ZkZ {s:List Int} (h:∀ i,-128≤gi s i∧gi s i≤127):∀ n:Nat,-128 * (n:Int)≤ZbH s n∧ZbH s n≤127 * n
 | 0=>by simp [ZbH]
 | n + 1=>by
  have:=ZkZ h n
  have:=h n
  simp only [ZbH]
  omega
theorem ZoH {t:List Int} (ht:Tn t) {a b:Nat × Nat} (ha:a∈Zbh t) (hb:b∈Zbh t):Zad t (rC a) (rC b)=some (Zft t a b):=by
 have hl:=ht.l
 have a1:=ZcP.1 ha
 have b1:=ZcP.1 hb
 have a2:=Zhe (gi t a.1)
 have b2:=Zhe (gi t b.1)
 have first:ZL (Zad.s0 t (rC a) (rC b)) big (([]:List Int),0,0,0)=some (Zc7 t t.length,(pos t a:Int),(pos t b:Int)):=by
  refine ZbS (fun n:Nat=>(Zc7 t n,(if a.1 < n then (pos t a:Int) else 0),(if b.1 < n then (pos t b:Int) else 0),(n:Int))) (n:=t.length) (ZaX (by omega)) rfl (fun n hn=>?_) ?_
  ·have hs:=Zhp t n
   have e:Zc7 t (n + 1)=Zc7 t n++Zfn (gi t n):=rfl
   have key:∀ c:Nat × Nat,c.2≤2→(if decide ((n:Int)=(rC c).At)=true then ck (zU (((Zc7 t n).length:Int) + (rC c).Part)) (some (((Zc7 t n).length:Int) + (rC c).Part)) else some (if c.1 < n then (pos t c:Int) else 0))=some (if c.1 < n + 1 then (pos t c:Int) else 0):=by
    intro c hc
    by_cases h:n=c.1
    ·subst h
     rw [Zt (show ((c.1:Nat):Int)=(rC c).At from rfl),z6 (by simp only [rC]; omega),if_pos (by omega)]
     simp [rC,pos]
    ·rw [Zu (by simp only [rC]; omega)]
     by_cases h2:c.1 < n
     ·rw [if_pos h2,if_pos (by omega)]
     ·rw [if_neg h2,if_neg (by omega)]
   simp only [Zad.s0]
   rw [key a (by omega),key b (by omega),e]
   by_cases c:gi t n=-2
   ·simp (disch:=omega) only [c,Zfn,Zn,Zax,Zb2,Zt,Zu,zb,ZP,Zal,Zah,Option.bind_some,Int.toNat_natCast,List.length_append,List.length_cons,List.length_nil,Nat.zero_add,if_true,if_false,Bool.false_eq_true,Bool.not_true,Bool.not_false,Bool.true_and,Bool.false_and,Bool.and_true,Bool.and_false,Bool.true_or,Bool.false_or,Bool.or_true,Bool.or_false]
    try simp (disch:=omega) only [Zn,Zax,Zb2,Zt,Zu,zb,ZP,Zal,Zah,Option.bind_some,Int.toNat_natCast,List.length_append,List.length_cons,List.length_nil,Nat.zero_add,if_true,if_false,Bool.false_eq_true,Bool.not_true,Bool.not_false,Bool.true_and,Bool.false_and,Bool.and_true,Bool.and_false,Bool.true_or,Bool.false_or,Bool.or_true,Bool.or_false]
    rfl
   ·simp (disch:=omega) only [c,Zfn,Zn,Zax,Zb2,Zt,Zu,zb,ZP,Zal,Zah,Option.bind_some,Int.toNat_natCast,List.length_append,List.length_cons,List.length_nil,Nat.zero_add,if_true,if_false,Bool.false_eq_true,Bool.not_true,Bool.not_false,Bool.true_and,Bool.false_and,Bool.and_true,Bool.and_false,Bool.true_or,Bool.false_or,Bool.or_true,Bool.or_false]
    try simp (disch:=omega) only [Zn,Zax,Zb2,Zt,Zu,zb,ZP,Zal,Zah,Option.bind_some,Int.toNat_natCast,List.length_append,List.length_cons,List.length_nil,Nat.zero_add,if_true,if_false,Bool.false_eq_true,Bool.not_true,Bool.not_false,Bool.true_and,Bool.false_and,Bool.and_true,Bool.and_false,Bool.true_or,Bool.false_or,Bool.or_true,Bool.or_false]
    rfl
  ·simp (disch:=omega) only [Zad.s0,Zn,Zax,Zb2,Zt,Zu,zb,ZP,Zal,Zah,Option.bind_some,Int.toNat_natCast,List.length_append,List.length_cons,List.length_nil,Nat.zero_add,if_true,if_false,Bool.false_eq_true,Bool.not_true,Bool.not_false,Bool.true_and,Bool.false_and,Bool.and_true,Bool.and_false,Bool.true_or,Bool.false_or,Bool.or_true,Bool.or_false]
   try simp (disch:=omega) only [Zn,Zax,Zb2,Zt,Zu,zb,ZP,Zal,Zah,Option.bind_some,Int.toNat_natCast,List.length_append,List.length_cons,List.length_nil,Nat.zero_add,if_true,if_false,Bool.false_eq_true,Bool.not_true,Bool.not_false,Bool.true_and,Bool.false_and,Bool.and_true,Bool.and_false,Bool.true_or,Bool.false_or,Bool.or_true,Bool.or_false]
   rw [if_pos a1.1,if_pos b1.1]
 have pa:=ZkW ha
 have pb:=ZkW hb
 have hL:=Zhp t t.length
 unfold Zad
 rw [first,Option.bind_some]
 dsimp only
 rw [ZeR (x:=Zft t a b)]
 have sa:=ZkX ha
 have sb:=ZkX hb
 have sl:=Zhr t t.length
 have bnd:=Zok ht t.length
 have pab:pos t b < pos t a↔(b.1 < a.1∨(b.1=a.1∧b.2 < a.2)):=by
  constructor
  ·intro h
   by_cases c:clt b a
   ·exact c
   ·by_cases c2:a=b
    ·subst c2; omega
    ·have:clt a b:=by
      unfold clt at *
      rcases Nat.lt_trichotomy a.1 b.1 with h | h | h
      ·exact .inl h
      ·refine .inr ⟨h,?_⟩
       rcases Nat.lt_trichotomy a.2 b.2 with h2 | h2 | h2
       ·exact h2
       ·exact absurd (Prod.ext h h2) c2
       ·omega
      ·omega
     have:=ZjN ha this
     omega
  ·exact fun h=>ZjN hb h
 have hr:Zft t a b=ZbH (Zc7 t t.length) (pos t b) - ZbH (Zc7 t t.length) (pos t a) + if pos t b < pos t a then ZbH (Zc7 t t.length) (Zc7 t t.length).length else 0:=by
  unfold Zft
  rw [sa,sb,sl]
  simp only [pab]
 rw [hr]
 generalize pos t a=p at *
 generalize pos t b=q at *
 generalize Zc7 t t.length=s at *
 have ps:=ZkZ bnd
 have L0:s.length≤500:=by omega
 refine ZbS (fun i:Nat=>if p + i < s.length then (ZbH s (p + i) - ZbH s p,((p + i:Nat):Int)) else (ZbH s s.length - ZbH s p + ZbH s (p + i - s.length),((p + i - s.length:Nat):Int))) (n:=if q < p then s.length - p + q else q - p) (ZaX (by split <;> omega)) (by simp [pa]) (fun i hi=>?_) ?_
 ·have b0:=ps p
  have b1:=ps s.length
  by_cases c:p + i < s.length
  ·have b2:=ps (p + i)
   have b3:=bnd (p + i)
   have hne:¬ ((p + i:Nat):Int)=(q:Int):=by split at hi <;> omega
   rw [if_pos c]
   by_cases c2:p + (i + 1) < s.length
   ·have e:((p + i:Nat):Int).toNat=p + i:=by omega
    have e2:(((p + i:Nat):Int) + 1).tmod (s.length:Int)=((p + (i + 1):Nat):Int):=by
     rw [Int.tmod_eq_of_lt (by omega) (by omega)]; omega
    rw [if_pos c2]
    simp only [Zad.s1]
    rw [if_pos (by simpa using hne),Zn (by omega),z6 (by rw [e]; omega),z6 (by omega),Zn (by omega),e,e2]
    have:ZbH s (p + (i + 1))=ZbH s (p + i) + gi s (p + i):=rfl
    rw [show ZbH s (p + i) - ZbH s p + gi s (p + i)=ZbH s (p + (i + 1)) - ZbH s p by omega]
   ·have e:((p + i:Nat):Int).toNat=p + i:=by omega
    have hL1:p + i + 1=s.length:=by omega
    have e2:(((p + i:Nat):Int) + 1).tmod (s.length:Int)=((p + (i + 1) - s.length:Nat):Int):=by
     rw [show ((p + i:Nat):Int) + 1=(s.length:Int) by omega,Int.tmod_self]; omega
    rw [if_neg c2]
    simp only [Zad.s1]
    rw [if_pos (by simpa using hne),Zn (by omega),z6 (by rw [e]; omega),z6 (by omega),Zn (by omega),e,e2]
    have:ZbH s s.length=ZbH s (p + i) + gi s (p + i):=by rw [← hL1]; rfl
    have z:p + (i + 1) - s.length=0:=by omega
    have z2:ZbH s 0=0:=rfl
    rw [z,z2,show ZbH s (p + i) - ZbH s p + gi s (p + i)=ZbH s s.length - ZbH s p + 0 by omega]
  ·have hq:q < p:=by split at hi <;> omega
   rw [if_pos hq] at hi
   have b2:=ps (p + i - s.length)
   have b3:=bnd (p + i - s.length)
   have hne:¬ ((p + i - s.length:Nat):Int)=(q:Int):=by omega
   have e:((p + i - s.length:Nat):Int).toNat=p + i - s.length:=by omega
   have e2:(((p + i - s.length:Nat):Int) + 1).tmod (s.length:Int)=((p + (i + 1) - s.length:Nat):Int):=by
    rw [Int.tmod_eq_of_lt (by omega) (by omega)]; omega
   rw [if_neg c,if_neg (show ¬ p + (i + 1) < s.length by omega)]
   simp only [Zad.s1]
   rw [if_pos (by simpa using hne),Zn (by omega),z6 (by rw [e]; omega),z6 (by omega),Zn (by omega),e,e2]
   have:ZbH s (p + (i + 1) - s.length)=ZbH s (p + i - s.length) + gi s (p + i - s.length):=by
    rw [show p + (i + 1) - s.length=p + i - s.length + 1 by omega]; rfl
   rw [show ZbH s s.length - ZbH s p + ZbH s (p + i - s.length) + gi s (p + i - s.length)=ZbH s s.length - ZbH s p + ZbH s (p + (i + 1) - s.length) by omega]
 ·by_cases c:q < p
  ·rw [if_pos c,if_neg (by omega)]
   have:p + (s.length - p + q) - s.length=q:=by omega
   rw [this,if_pos c,show ZbH s q - ZbH s p + ZbH s s.length=ZbH s s.length - ZbH s p + ZbH s q by omega]
   simp (disch:=omega) only [Zad.s1,Zn,Zax,Zb2,Zt,Zu,zb,ZP,Zal,Zah,Option.bind_some,Int.toNat_natCast,List.length_append,List.length_cons,List.length_nil,Nat.zero_add,if_true,if_false,Bool.false_eq_true,Bool.not_true,Bool.not_false,Bool.true_and,Bool.false_and,Bool.and_true,Bool.and_false,Bool.true_or,Bool.false_or,Bool.or_true,Bool.or_false]
   try simp (disch:=omega) only [Zn,Zax,Zb2,Zt,Zu,zb,ZP,Zal,Zah,Option.bind_some,Int.toNat_natCast,List.length_append,List.length_cons,List.length_nil,Nat.zero_add,if_true,if_false,Bool.false_eq_true,Bool.not_true,Bool.not_false,Bool.true_and,Bool.false_and,Bool.and_true,Bool.and_false,Bool.true_or,Bool.false_or,Bool.or_true,Bool.or_false]
   simp
  ·rw [if_neg c,if_pos (by omega)]
   have:p + (q - p)=q:=by omega
   rw [this,if_neg c,Int.add_zero]
   simp (disch:=omega) only [Zad.s1,Zn,Zax,Zb2,Zt,Zu,zb,ZP,Zal,Zah,Option.bind_some,Int.toNat_natCast,List.length_append,List.length_cons,List.length_nil,Nat.zero_add,if_true,if_false,Bool.false_eq_true,Bool.not_true,Bool.not_false,Bool.true_and,Bool.false_and,Bool.and_true,Bool.and_false,Bool.true_or,Bool.false_or,Bool.or_true,Bool.or_false]
   try simp (disch:=omega) only [Zn,Zax,Zb2,Zt,Zu,zb,ZP,Zal,Zah,Option.bind_some,Int.toNat_natCast,List.length_append,List.length_cons,List.length_nil,Nat.zero_add,if_true,if_false,Bool.false_eq_true,Bool.not_true,Bool.not_false,Bool.true_and,Bool.false_and,Bool.and_true,Bool.and_false,Bool.true_or,Bool.false_or,Bool.or_true,Bool.or_false]
   simp
theorem Zmr {t:List Int} (ht:Tn t):zS t=some (match Zd6 t with | some (i,k)=>(rC (gi (Zbh t) i),rC (gi (Zbh t) k),true) | none=>(⟨0,0⟩,⟨0,0⟩,false)):=by
 have hl:=ht.l
 have hcl:(Zbh t).length≤500:=by have:=Zd4 t t.length; unfold Zbh; omega
 unfold zS
 rw [Zkl ht,Option.bind_some]
 have hml:((Zbh t).map rC).length=(Zbh t).length:=by simp
 have gr:∀ {i},i < (Zbh t).length→gi ((Zbh t).map rC) i=rC (gi (Zbh t) i):=by
  intro i hi
  rw [ZbL (by simpa using hi),ZbL hi]; simp
 have inner:∀ i:Nat,i < (Zbh t).length→ZL (zS.s1 t ((Zbh t).map rC) i) big 0=some (match inP t i with | some k=>.inr (rC (gi (Zbh t) k)) | none=>.inl ()):=by
  intro i hi
  unfold inP
  refine ZcI (n:=(Zbh t).length) (P:=fun k=>decide (Zft t (gi (Zbh t) i) (gi (Zbh t) k)=2)) (f:=fun k=>rC (gi (Zbh t) k)) (ZaX (by omega)) (fun k hk=>?_) ?_
  ·have e:=ZoH ht (Zbu hi) (Zbu hk)
   by_cases c:Zft t (gi (Zbh t) i) (gi (Zbh t) k)=2
   ·have c':decide (Zft t (gi (Zbh t) i) (gi (Zbh t) k)=2)=true:=by simpa using c
    rw [c',if_pos rfl]
    simp (disch:=omega) only [zS.s1,hml,gr hi,gr hk,e,c,Zn,Zax,Zb2,Zt,Zu,zb,ZP,Zal,Zah,Option.bind_some,Int.toNat_natCast,List.length_append,List.length_cons,List.length_nil,Nat.zero_add,if_true,if_false,Bool.false_eq_true,Bool.not_true,Bool.not_false,Bool.true_and,Bool.false_and,Bool.and_true,Bool.and_false,Bool.true_or,Bool.false_or,Bool.or_true,Bool.or_false]
    try simp (disch:=omega) only [Zn,Zax,Zb2,Zt,Zu,zb,ZP,Zal,Zah,Option.bind_some,Int.toNat_natCast,List.length_append,List.length_cons,List.length_nil,Nat.zero_add,if_true,if_false,Bool.false_eq_true,Bool.not_true,Bool.not_false,Bool.true_and,Bool.false_and,Bool.and_true,Bool.and_false,Bool.true_or,Bool.false_or,Bool.or_true,Bool.or_false]
   ·have c':decide (Zft t (gi (Zbh t) i) (gi (Zbh t) k)=2)=false:=by simpa using c
    rw [c',if_neg (by decide)]
    simp (disch:=omega) only [zS.s1,hml,gr hi,gr hk,e,Zn,Zax,Zb2,Zt,Zu,zb,ZP,Zal,Zah,Option.bind_some,Int.toNat_natCast,List.length_append,List.length_cons,List.length_nil,Nat.zero_add,if_true,if_false,Bool.false_eq_true,Bool.not_true,Bool.not_false,Bool.true_and,Bool.false_and,Bool.and_true,Bool.and_false,Bool.true_or,Bool.false_or,Bool.or_true,Bool.or_false]
    try simp (disch:=omega) only [Zn,Zax,Zb2,Zt,Zu,zb,ZP,Zal,Zah,Option.bind_some,Int.toNat_natCast,List.length_append,List.length_cons,List.length_nil,Nat.zero_add,if_true,if_false,Bool.false_eq_true,Bool.not_true,Bool.not_false,Bool.true_and,Bool.false_and,Bool.and_true,Bool.and_false,Bool.true_or,Bool.false_or,Bool.or_true,Bool.or_false]
  ·simp (disch:=omega) only [zS.s1,hml,Zn,Zax,Zb2,Zt,Zu,zb,ZP,Zal,Zah,Option.bind_some,Int.toNat_natCast,List.length_append,List.length_cons,List.length_nil,Nat.zero_add,if_true,if_false,Bool.false_eq_true,Bool.not_true,Bool.not_false,Bool.true_and,Bool.false_and,Bool.and_true,Bool.and_false,Bool.true_or,Bool.false_or,Bool.or_true,Bool.or_false]
   try simp (disch:=omega) only [Zn,Zax,Zb2,Zt,Zu,zb,ZP,Zal,Zah,Option.bind_some,Int.toNat_natCast,List.length_append,List.length_cons,List.length_nil,Nat.zero_add,if_true,if_false,Bool.false_eq_true,Bool.not_true,Bool.not_false,Bool.true_and,Bool.false_and,Bool.and_true,Bool.and_false,Bool.true_or,Bool.false_or,Bool.or_true,Bool.or_false]
 have outer:ZL (zS.s0 t ((Zbh t).map rC)) big 0=some (match Zij t with | some i=>.inr (rC (gi (Zbh t) i),match inP t i with | some k=>rC (gi (Zbh t) k) | none=>⟨0,0⟩) | none=>.inl ()):=by
  unfold Zij
  refine ZcI (n:=(Zbh t).length) (P:=fun i=>(inP t i).isSome) (f:=fun i=>(rC (gi (Zbh t) i),match inP t i with | some k=>rC (gi (Zbh t) k) | none=>⟨0,0⟩)) (ZaX (by omega)) (fun i hi=>?_) ?_
  ·have e:=inner i hi
   cases h:inP t i with
   | none =>
    rw [h] at e
    simp (disch:=omega) only [zS.s0,hml,e,Zn,Zax,Zb2,Zt,Zu,zb,ZP,Zal,Zah,Option.bind_some,Int.toNat_natCast,List.length_append,List.length_cons,List.length_nil,Nat.zero_add,if_true,if_false,Bool.false_eq_true,Bool.not_true,Bool.not_false,Bool.true_and,Bool.false_and,Bool.and_true,Bool.and_false,Bool.true_or,Bool.false_or,Bool.or_true,Bool.or_false]
    try simp (disch:=omega) only [Zn,Zax,Zb2,Zt,Zu,zb,ZP,Zal,Zah,Option.bind_some,Int.toNat_natCast,List.length_append,List.length_cons,List.length_nil,Nat.zero_add,if_true,if_false,Bool.false_eq_true,Bool.not_true,Bool.not_false,Bool.true_and,Bool.false_and,Bool.and_true,Bool.and_false,Bool.true_or,Bool.false_or,Bool.or_true,Bool.or_false]
    rfl
   | some k =>
    rw [h] at e
    simp (disch:=omega) only [zS.s0,hml,e,gr hi,Zn,Zax,Zb2,Zt,Zu,zb,ZP,Zal,Zah,Option.bind_some,Int.toNat_natCast,List.length_append,List.length_cons,List.length_nil,Nat.zero_add,if_true,if_false,Bool.false_eq_true,Bool.not_true,Bool.not_false,Bool.true_and,Bool.false_and,Bool.and_true,Bool.and_false,Bool.true_or,Bool.false_or,Bool.or_true,Bool.or_false]
    try simp (disch:=omega) only [Zn,Zax,Zb2,Zt,Zu,zb,ZP,Zal,Zah,Option.bind_some,Int.toNat_natCast,List.length_append,List.length_cons,List.length_nil,Nat.zero_add,if_true,if_false,Bool.false_eq_true,Bool.not_true,Bool.not_false,Bool.true_and,Bool.false_and,Bool.and_true,Bool.and_false,Bool.true_or,Bool.false_or,Bool.or_true,Bool.or_false]
    rfl
  ·simp (disch:=omega) only [zS.s0,hml,Zn,Zax,Zb2,Zt,Zu,zb,ZP,Zal,Zah,Option.bind_some,Int.toNat_natCast,List.length_append,List.length_cons,List.length_nil,Nat.zero_add,if_true,if_false,Bool.false_eq_true,Bool.not_true,Bool.not_false,Bool.true_and,Bool.false_and,Bool.and_true,Bool.and_false,Bool.true_or,Bool.false_or,Bool.or_true,Bool.or_false]
   try simp (disch:=omega) only [Zn,Zax,Zb2,Zt,Zu,zb,ZP,Zal,Zah,Option.bind_some,Int.toNat_natCast,List.length_append,List.length_cons,List.length_nil,Nat.zero_add,if_true,if_false,Bool.false_eq_true,Bool.not_true,Bool.not_false,Bool.true_and,Bool.false_and,Bool.and_true,Bool.and_false,Bool.true_or,Bool.false_or,Bool.or_true,Bool.or_false]
 rw [outer]
 simp only [Option.bind_some]
 unfold Zd6
 cases ho:Zij t with
 | none=>rfl
 | some i =>
  have:=ho
  unfold Zij at this
  rw [List.find?_range_eq_some] at this
  cases hi:inP t i with
  | none=>rw [hi] at this; exact absurd this.1 (by simp)
  | some k=>simp [hi]
end Mu
/- Layer 15: KittyRegular. -/
set_option linter.unusedVariables false
set_option linter.unusedSimpArgs false
set_option maxRecDepth 10000
namespace Mu
theorem Zk5 {l:List Za} {f:List Da} (h:f.length≤250):Tn (tns l f):=⟨by rw [Zd8]; exact h,fun i=>by have:=ZhH (l:=l) (f:=f) i; omega⟩
def Ze8 (l:List Za) (i:Nat):Bool:=(Zd6 (tns l (gi (faces l) i))).isSome
end Mu
/- Layer 22: corners that Zms at one another: an edge laid between them leaves cells that can be drawn. -/
set_option linter.unusedVariables false
set_option linter.unusedSimpArgs false
set_option maxRecDepth 10000
namespace Mu
theorem Zmh {l:List Za} (hc:Ck l) {f:List Da} (hf:f∈faces l):Lp l f:=by
 obtain ⟨x0,hx0,e1,e2⟩:=ZjF hc f hf
 have C:=ZcA hc f hf
 refine ⟨C.ne,C.nd,x0,?_⟩
 have:=Zmm hc hx0 f.length
 rw [e2,← e1] at this
 exact this
theorem Zqm:∀ e:Fin 4,∀ p t:Fin 2,tn e.1 ((e.1 + 4 - p.1 + t.1) % 4)=(t.1:Int) - p.1:=by decide
theorem Zql {e p t:Nat} (he:e < 4) (hp:p < 2) (ht:t < 2):tn e ((e + 4 - p + t) % 4)=(t:Int) - p:=Zqm ⟨e,he⟩ ⟨p,hp⟩ ⟨t,ht⟩
theorem ZmS {l:List Za} {p:Da} (h4:p.2 < 4) (h:tt l p=-2):nx l (nx l p.1 p.2).toNat ((p.2 + 3) % 4) < 0:=by
 unfold tt at h
 rw [ZmP h4] at h
 unfold arr at h
 by_cases c:0≤nx l (nx l p.1 p.2).toNat ((p.2 + 3) % 4)
 ·rw [if_pos c] at h
  split at h <;> (try split at h) <;> omega
 ·omega
theorem Zgl {x:Int} {p:Nat} (h:p < knp x):x < 0∧p < 2∧(x:Int) < (0:Int) - p∧(p=1→x=-2):=by
 unfold knp at h
 split at h
 ·omega
 ·split at h <;> omega
theorem Zob {l:List Za} (hc:Ck l) (hV:Val l) (hW:whole l) {x y:Da} {A B:List Da} (hL:Lp l (B++[y]++(A++[x]))) {p q t:Nat} (hp:p < knp (tt l x)) (hq:q < knp (tt l y)) (hr:tt l x + p + Zbg l B - q=2) (ht:t < 2) {d:Nat} (hd0:d=(x.2 + 4 - p + t) % 4) :
  (nx l x.1 x.2).toNat < l.length∧(nx l y.1 y.2).toNat < l.length∧(nx l x.1 x.2).toNat≠(nx l y.1 y.2).toNat ∧
  nx l (nx l x.1 x.2).toNat d=-1∧nx l (nx l y.1 y.2).toNat ((d + 2) % 4)=-1 ∧
  Ck (wth l (nx l x.1 x.2).toNat d (nx l y.1 y.2).toNat (-2))∧Val (wth l (nx l x.1 x.2).toNat d (nx l y.1 y.2).toNat (-2))∧whole (wth l (nx l x.1 x.2).toNat d (nx l y.1 y.2).toNat (-2)):=by
 obtain ⟨x1,p2,x2,x3⟩:=Zgl hp
 obtain ⟨y1,q2,y2,y3⟩:=Zgl hq
 have dX:isD l x:=hL.is x (by simp)
 have dY:isD l y:=hL.is y (by simp)
 have hne:x≠y:=by
  have:=hL.nd
  rw [List.append_assoc,List.nodup_append] at this
  have:=this.2.1
  rw [List.singleton_append,List.nodup_cons] at this
  intro e
  exact this.1 (by rw [← e]; simp)
 have hL2:Lp l (x :: (B++[y]++A)):=by
  have:=hL
  rw [← List.append_assoc] at this
  exact this.turn
 obtain ⟨_,P⟩:=hL2.hd
 rw [List.append_assoc] at P
 obtain ⟨z,P1,P2⟩:=Pt.app.1 P
 rw [List.singleton_append,Pt] at P2
 obtain ⟨hz,_,_⟩:=P2
 rw [hz] at P1
 obtain ⟨k,e⟩:=P1.dir hc
 obtain ⟨k',e'⟩:=ZmQ dX.2.1 (dX.bh hc).2.1
 have X4:=dX.2.1
 have Y4:=dY.2.1
 have fX:=dX.fwd hc
 have fY:=dY.fwd hc
 have tX:=Zj4 X4 x1
 have tY:=Zj4 Y4 y1
 have hd2:((x.2 + 4 - p + t) % 4 + 2) % 4=(y.2 + 4 - q + t) % 4:=by
  unfold tt at hr
  omega
 have hd:(x.2 + 4 - p + t) % 4 < 4:=Nat.mod_lt _ (by decide)
 have k1:=Zql X4 p2 ht
 have k2:=Zql Y4 q2 ht
 have free:∀ {z:Da} {r:Nat},isD l z→tt l z < 0→r < 2→(r=1→tt l z=-2)→nx l (nx l z.1 z.2).toNat ((z.2 + 4 - r + t) % 4)=-1:=by
  intro z r dz h1 hr h2
  have Z4:=dz.2.1
  have tz:=Zj4 Z4 h1
  have lo:=(hc.lt (dz.fwd hc).1 (d:=(z.2 + 4 - r + t) % 4) (Nat.mod_lt _ (by decide))).1
  have:nx l (nx l z.1 z.2).toNat ((z.2 + 4 - r + t) % 4) < 0:=by
   rcases (by omega:(z.2 + 4 - r + t) % 4=z.2∨(z.2 + 4 - r + t) % 4=(z.2 + 1) % 4∨(r=1∧(z.2 + 4 - r + t) % 4=(z.2 + 3) % 4)) with h | h | ⟨h,h'⟩
   ·rw [h]; exact tz.1
   ·rw [h]; exact tz.2
   ·rw [h']; exact ZmS Z4 (h2 h)
  omega
 have f1:=free dX x1 p2 x3
 have f2:=free dY y1 q2 y3
 have hvw:(nx l x.1 x.2).toNat≠(nx l y.1 y.2).toNat:=by
  intro hv
  rw [hv] at tX fX
  have oX:=fX.2
  have oY:=fY.2
  have a1:¬ ((y.2 + 2) % 4=x.2):=fun q=>by rw [q] at oY; omega
  have a2:¬ ((y.2 + 2) % 4=(x.2 + 1) % 4):=fun q=>by rw [q] at oY; omega
  have a3:¬ ((x.2 + 2) % 4=y.2):=fun q=>by rw [q] at oX; omega
  have a4:¬ ((x.2 + 2) % 4=(y.2 + 1) % 4):=fun q=>by rw [q] at oX; omega
  have e2:x.2=y.2:=by omega
  rw [e2] at oX
  refine hne (Prod.ext ?_ e2)
  omega
 rw [← hd2] at k2 f2
 rw [← hd0] at hd k1 k2 f1 f2
 refine ⟨fX.1,fY.1,hvw,f1,f2,?_⟩
 have D:=Del.of_wth hc fX.1 fY.1 hvw hd (o:=-2) f1 f2
 have hc':=hc.wth (o:=-2) fX.1 fY.1 hvw hd f1 f2 (by omega)
 have eX:=(D.enter hc' hc dX).1 rfl (by omega)
 have eY:=(D.enter hc' hc dY).2 rfl (by omega)
 refine ⟨hc',?_,D.whole hc' hc hW⟩
 refine D.chord_val hc' hc hL eX eY ?_ hV
 rw [ZcF,Zbt,ZeZ]
 omega
theorem ZmN {f:List Da} {i:Nat} (h:i < f.length):f=f.take i++gi f i :: f.drop (i + 1):=by
 rw [ZbL h,← List.drop_eq_getElem_cons h,List.take_append_drop]
theorem ZmO {f:List Da} {i j:Nat} (hij:i < j) (hj:j < f.length):∃ P B Q,f=P++gi f i :: (B++gi f j :: Q)∧P=f.take i∧P++gi f i :: B=f.take j:=by
 have h1:=ZmN (f:=f) (i:=i) (by omega)
 have h2:=ZmN (f:=f.drop (i + 1)) (i:=j - i - 1) (by rw [List.length_drop]; omega)
 have e:gi (f.drop (i + 1)) (j - i - 1)=gi f j:=by
  rw [ZbL (by rw [List.length_drop]; omega),ZbL hj,List.getElem_drop]
  congr 1
  omega
 rw [e] at h2
 refine ⟨f.take i,(f.drop (i + 1)).take (j - i - 1),(f.drop (i + 1)).drop (j - i - 1 + 1),by rw [← h2]; exact h1,rfl,?_⟩
 have h3:f.take j=(f.take i++gi f i :: f.drop (i + 1)).take j:=by rw [← h1]
 rw [h3,List.take_append,List.take_take,Nat.min_eq_right (by omega),List.length_take,Nat.min_eq_left (by omega)]
 congr 1
 obtain ⟨m,hm⟩:∃ m,j - i=m + 1:=⟨j - i - 1,by omega⟩
 rw [hm,List.take_succ_cons,Nat.add_sub_cancel]
theorem ZjO {l:List Za} {f:List Da} {n:Nat} (hn:n≤f.length):ZbH (tns l f) n=Zbg l (f.take n):=by
 rw [Zhj _ (by rw [Zd8]; exact hn)]
 unfold Zbg tns
 rw [List.map_take]
theorem Zms {l:List Za} (hc:Ck l) (hV:Val l) (hW:whole l) {f:List Da} (hf:f∈faces l) {a b:Nat × Nat} (ha:a∈Zbh (tns l f)) (hb:b∈Zbh (tns l f)) (hr:Zft (tns l f) a b=2) {t:Nat} (ht:t < 2) {d:Nat} (hd0:d=((gi f a.1).2 + 4 - a.2 + t) % 4) :
  a.1 < f.length∧b.1 < f.length∧a.2 < 2∧isD l (gi f a.1)∧isD l (gi f b.1) ∧
  (nx l (gi f a.1).1 (gi f a.1).2).toNat < l.length∧(nx l (gi f b.1).1 (gi f b.1).2).toNat < l.length∧(nx l (gi f a.1).1 (gi f a.1).2).toNat≠(nx l (gi f b.1).1 (gi f b.1).2).toNat ∧
  nx l (nx l (gi f a.1).1 (gi f a.1).2).toNat d=-1∧nx l (nx l (gi f b.1).1 (gi f b.1).2).toNat ((d + 2) % 4)=-1 ∧
  Ck (wth l (nx l (gi f a.1).1 (gi f a.1).2).toNat d (nx l (gi f b.1).1 (gi f b.1).2).toNat (-2))∧Val (wth l (nx l (gi f a.1).1 (gi f a.1).2).toNat d (nx l (gi f b.1).1 (gi f b.1).2).toNat (-2))∧whole (wth l (nx l (gi f a.1).1 (gi f a.1).2).toNat d (nx l (gi f b.1).1 (gi f b.1).2).toNat (-2)):=by
 obtain ⟨a1,a2⟩:=ZcP.1 ha
 obtain ⟨b1,b2⟩:=ZcP.1 hb
 rw [Zd8] at a1 b1
 have ga:gi (tns l f) a.1=tt l (gi f a.1):=ZcH a1
 have gb:gi (tns l f) b.1=tt l (gi f b.1):=ZcH b1
 rw [ga] at a2
 rw [gb] at b2
 have L:=Zmh hc hf
 have tot:ZbH (tns l f) (tns l f).length=Zbg l f:=ZmE
 have p4:=((ZeJ hc).1 hV).1 f (ZcA hc f hf)
 refine ⟨a1,b1,(Zgl a2).2.1,L.is _ (Zbu a1),L.is _ (Zbu b1),?_⟩
 have r1:=ZjO (l:=l) (f:=f) (n:=a.1) (by omega)
 have r2:=ZjO (l:=l) (f:=f) (n:=b.1) (by omega)
 unfold Zft at hr
 rw [r1,r2,tot] at hr
 rcases Nat.lt_trichotomy a.1 b.1 with h | h | h
 ·obtain ⟨P,B,Q,e,e1,e2⟩:=ZmO h b1
  rw [← e1,← e2,ZcF,Zbt,if_neg (by omega)] at hr
  refine Zob hc hV hW (A:=Q++P) (B:=B) ?_ a2 b2 (by omega) ht hd0
  have h1:=L
  rw [e] at h1
  have h2:Lp l ((P++[gi f a.1])++(B++[gi f b.1]++Q)):=by simpa using h1
  have h3:=h2.turn
  simpa using h3
 ·have ka:=(Zgl a2).2.1
  have kb:=(Zgl b2).2.1
  rw [h] at hr
  split at hr <;> omega
 ·obtain ⟨P,B,Q,e,e1,e2⟩:=ZmO h a1
  have et:Zbg l f=Zbg l P + tt l (gi f b.1) + Zbg l B + tt l (gi f a.1) + Zbg l Q:=by
   conv=>lhs; rw [e]
   rw [ZcF,Zbt,ZcF,Zbt]
   omega
  rw [← e1,← e2,ZcF,Zbt,if_pos (by omega),et] at hr
  refine Zob hc hV hW (A:=B) (B:=Q++P) ?_ a2 b2 (by rw [ZcF]; omega) ht hd0
  have h1:=L
  rw [e] at h1
  have h2:Lp l ((P++[gi f b.1]++B++[gi f a.1])++Q):=by simpa using h1
  have h3:=h2.turn
  simpa using h3
end Mu
/- Layer 22: what is made regular. -/
set_option linter.unusedVariables false
set_option linter.unusedSimpArgs false
set_option maxRecDepth 10000
namespace Mu
def pkF (l:List Za):Option (Nat × (Nat × Nat) × (Nat × Nat)) :=
 match (List.range (faces l).length).find? (Ze8 l) with
 | none=>none
 | some i=>match Zd6 (tns l (gi (faces l) i)) with
  | none=>none
  | some (j,k)=>some (i,gi (Zbh (tns l (gi (faces l) i))) j,gi (Zbh (tns l (gi (faces l) i))) k)
theorem Zmk {t:List Int} {i k:Nat} (h:inP t i=some k):k < (Zbh t).length∧Zft t (gi (Zbh t) i) (gi (Zbh t) k)=2:=by
 unfold inP at h
 rw [List.find?_range_eq_some] at h
 obtain ⟨h1,h2,_⟩:=h
 exact ⟨by simpa using h2,by simpa using h1⟩
theorem Zil {t:List Int} {i k:Nat} (h:Zd6 t=some (i,k)):gi (Zbh t) i∈Zbh t∧gi (Zbh t) k∈Zbh t∧Zft t (gi (Zbh t) i) (gi (Zbh t) k)=2:=by
 unfold Zd6 at h
 cases ho:Zij t with
 | none=>rw [ho] at h; cases h
 | some i' =>
  rw [ho] at h
  dsimp only at h
  cases hi:inP t i' with
  | none=>rw [hi] at h; cases h
  | some k' =>
   rw [hi] at h
   cases h
   obtain ⟨a,b⟩:=Zmk hi
   unfold Zij at ho
   rw [List.find?_range_eq_some] at ho
   exact ⟨Zbu (by simpa using ho.2.1),Zbu a,b⟩
theorem ZjM {l:List Za} {i:Nat} {a b:Nat × Nat} (h:pkF l=some (i,a,b)):i < (faces l).length∧a∈Zbh (tns l (gi (faces l) i))∧b∈Zbh (tns l (gi (faces l) i))∧Zft (tns l (gi (faces l) i)) a b=2:=by
 unfold pkF at h
 cases hf:(List.range (faces l).length).find? (Ze8 l) with
 | none=>rw [hf] at h; cases h
 | some i' =>
  rw [hf] at h
  dsimp only at h
  cases hp:Zd6 (tns l (gi (faces l) i')) with
  | none=>rw [hp] at h; cases h
  | some q =>
   rw [hp] at h
   obtain ⟨j,k⟩:=q
   cases h
   rw [List.find?_range_eq_some] at hf
   obtain ⟨c1,c2,c3⟩:=Zil hp
   exact ⟨by simpa using hf.2.1,c1,c2,c3⟩
theorem Zm5 {l:List Za} (h:pkF l=none):∀ i,i < (faces l).length→Zd6 (tns l (gi (faces l) i))=none:=by
 intro i hi
 unfold pkF at h
 cases hf:(List.range (faces l).length).find? (Ze8 l) with
 | none =>
  rw [List.find?_range_eq_none] at hf
  have:=hf i hi
  unfold Ze8 at this
  cases hp:Zd6 (tns l (gi (faces l) i)) with
  | none=>rfl
  | some q=>rw [hp] at this; simp at this
 | some i' =>
  rw [hf] at h
  dsimp only at h
  rw [List.find?_range_eq_some] at hf
  have:=hf.1
  unfold Ze8 at this
  cases hp:Zd6 (tns l (gi (faces l) i')) with
  | none=>rw [hp] at this; simp at this
  | some q=>rw [hp] at h; cases h
theorem ZoL {d p:Nat} (hd:d < 4) (hp:p < 2):Za6 d (-(p:Int))=some (((d + 4 - p) % 4:Nat):Int):=by
 have:p=0∨p=1:=by omega
 rcases this with rfl | rfl
 ·have e:=Zg7 hd (t:=0) (by omega)
  rw [if_neg (by decide),if_pos rfl] at e
  rw [show (-((0:Nat):Int))=0 from rfl,e]
  congr 2 <;> omega
 ·have e:=Zg7 hd (t:=-1) (by omega)
  rw [if_neg (by decide),if_neg (by decide),if_pos rfl] at e
  rw [show (-((1:Nat):Int))=-1 from rfl,e]
  congr 2 <;> omega
def pkR (l:List Za) (i:Nat) (a b:Nat × Nat):Int × Int × Int :=
 (nx l (gi (gi (faces l) i) a.1).1 (gi (gi (faces l) i) a.1).2,((((gi (gi (faces l) i) a.1).2 + 4 - a.2) % 4:Nat):Int),nx l (gi (gi (faces l) i) b.1).1 (gi (gi (faces l) i) b.1).2)
theorem ZoQ {l:List Za} (hl:l.length≤60) (k:ZdL l=0):Zb9 l=some (match pkF l with
  | none=>(0,0,0,false)
  | some (i,a,b)=>((pkR l i a b).1,(pkR l i a b).2.1,(pkR l i a b).2.2,true)):=by
 have hc:=(Zdx.1 k).2
 obtain ⟨o1,o2,o3,_⟩:=ZdR hc
 unfold Zb9
 rw [Zmu (by omega) k,Option.bind_some]
 have L:ZL (Zb9.s0 l ((faces l).map (List.map dt))) big 0=some (match (List.range (faces l).length).find? (Ze8 l) with
   | some i=>.inr (match Zd6 (tns l (gi (faces l) i)) with | none=>(0,0,0) | some (j,k)=>pkR l i (gi (Zbh (tns l (gi (faces l) i))) j) (gi (Zbh (tns l (gi (faces l) i))) k))
   | none=>.inl ()):=by
  refine ZcI (n:=(faces l).length) (P:=Ze8 l) (f:=fun i=>match Zd6 (tns l (gi (faces l) i)) with | none=>(0,0,0) | some (j,k)=>pkR l i (gi (Zbh (tns l (gi (faces l) i))) j) (gi (Zbh (tns l (gi (faces l) i))) k)) (ZaX (by omega)) (fun i hi=>?_) ?_
  ·have hm:=Zbu hi
   have fl:=o3 _ hm
   simp only [Zb9.s0,Int.toNat_natCast,ZcH hi]
   rw [Zt (by simp; omega),Zn (by simp; omega),Zmw (by omega) k (o1 _ hm) (by omega),Option.bind_some]
   have hk:=ZpI (t:=tns l (gi (faces l) i)) (Zk5 (by omega)) (fun i=>ZhH i)
   unfold Ze8
   cases hp:Zd6 (tns l (gi (faces l) i)) with
   | none=>rw [hp] at hk; dsimp only at hk; rw [hk,Option.bind_some,Bool.not_false,if_pos rfl,z6 (by omega)]; rfl
   | some q =>
    obtain ⟨j,k'⟩:=q
    obtain ⟨c1,c2,c3⟩:=Zil hp
    rw [hp] at hk
    dsimp only at hk ⊢
    generalize gi (Zbh (tns l (gi (faces l) i))) j=a at *
    generalize gi (Zbh (tns l (gi (faces l) i))) k'=b at *
    rw [hk,Option.bind_some]
    obtain ⟨a1,a2⟩:=ZcP.1 c1
    obtain ⟨b1,b2⟩:=ZcP.1 c2
    have a3:=(Zgl a2).2.1
    rw [Zd8] at a1 b1
    have dA:=o1 _ hm _ (Zbu a1)
    have dB:=o1 _ hm _ (Zbu b1)
    have A1:=dA.1
    have A2:=dA.2.1
    have B1:=dB.1
    have B2:=dB.2.1
    have ga:gi ((gi (faces l) i).map dt) a.1=dt (gi (gi (faces l) i) a.1):=ZcH a1
    have gb:gi ((gi (faces l) i).map dt) b.1=dt (gi (gi (faces l) i) b.1):=ZcH b1
    simp only [kC,Int.toNat_natCast,ga,gb,dt,List.length_map]
    rw [Bool.not_true,if_neg Bool.false_ne_true,Zn (by omega),Zn (by omega),Zn (by omega),Zn (by omega),z6 (by omega),ZoL A2 a3,Option.bind_some,Zn (by omega),Zn (by omega)]
    rfl
  ·simp only [Zb9.s0]
   rw [Zu (by simp)]
 dsimp only
 rw [L,Option.bind_some]
 unfold pkF
 cases hf:(List.range (faces l).length).find? (Ze8 l) with
 | none=>rfl
 | some i =>
  rw [List.find?_range_eq_some] at hf
  have:=hf.1
  unfold Ze8 at this
  dsimp only
  cases hp:Zd6 (tns l (gi (faces l) i)) with
  | none=>rw [hp] at this; simp at this
  | some q=>rfl
def Zfl (picks:List Bool) (n:Nat):Bool:=decide (n < picks.length) && gi picks n
def rgD (d:Nat) (b:Bool):Nat:=if decide (d % 2=0)=b then (d + 1) % 4 else d
def Ze9 (picks:List Bool) (n:Nat) (l:List Za):Option (List Za) :=
 match pkF l with
 | none=>none
 | some (i,a,b)=>some (wth l (nx l (gi (gi (faces l) i) a.1).1 (gi (gi (faces l) i) a.1).2).toNat (rgD (((gi (gi (faces l) i) a.1).2 + 4 - a.2) % 4) (Zfl picks n):Nat) (nx l (gi (gi (faces l) i) b.1).1 (gi (gi (faces l) i) b.1).2).toNat (-2))
theorem Zqi {d p:Nat} {b:Bool} (hp:p < 2) (hd:d < 4):∃ t,t < 2∧rgD ((d + 4 - p) % 4) b=(d + 4 - p + t) % 4:=by
 unfold rgD
 split
 ·exact ⟨1,by omega,by omega⟩
 ·exact ⟨0,by omega,by omega⟩
structure RgS (l m:List Za):Prop where
 ex:∃ v w d:Nat,v < l.length∧w < l.length∧v≠w∧d < 4∧nx l v d=-1∧nx l w ((d + 2) % 4)=-1∧m=wth l v d w (-2)
 err:ZdB m=0
theorem Zhm {l m:List Za} {picks:List Bool} {n:Nat} (h:ZdB l=0) (hl:l.length≤4096) (hm:Ze9 picks n l=some m):RgS l m∧∃ i a b v w d,pkF l=some (i,a,b)∧v < l.length∧w < l.length∧v≠w∧d < 4∧nx l v d=-1∧nx l w ((d + 2) % 4)=-1∧m=wth l (v:Nat) (d:Nat) (w:Nat) (-2)∧pkR l i a b=((v:Int),((((gi (gi (faces l) i) a.1).2 + 4 - a.2) % 4:Nat):Int),(w:Int))∧d=rgD (((gi (gi (faces l) i) a.1).2 + 4 - a.2) % 4) (Zfl picks n):=by
 obtain ⟨k,W,_⟩:=ZfL h
 have hc:=(Zdx.1 k).2
 unfold Ze9 at hm
 cases hp:pkF l with
 | none=>rw [hp] at hm; cases hm
 | some q =>
  obtain ⟨i,a,b⟩:=q
  rw [hp] at hm
  dsimp only at hm
  obtain ⟨hi,ha,hb,hr⟩:=ZjM hp
  have h1:l.length≠1:=fun e=>by rw [ZiD hc e] at hi; simp at hi
  have V:=(Ziy.1 h).2.2 h1
  obtain ⟨a1,a2⟩:=ZcP.1 ha
  rw [Zd8] at a1
  have dA:=(ZdR hc).1 _ (Zbu hi) _ (Zbu a1)
  obtain ⟨t,ht,ed⟩:=Zqi (b:=Zfl picks n) (Zgl a2).2.1 dA.2.1
  obtain ⟨x1,x2,x3,x4,x5,x6,x7,x8,x9,x10,x11,x12,x13⟩:=Zms hc V W (Zbu hi) ha hb hr ht ed
  have hd4:rgD (((gi (gi (faces l) i) a.1).2 + 4 - a.2) % 4) (Zfl picks n) < 4:=by rw [ed]; exact Nat.mod_lt _ (by decide)
  cases hm
  have er:ZdB (wth l (nx l (gi (gi (faces l) i) a.1).1 (gi (gi (faces l) i) a.1).2).toNat (rgD (((gi (gi (faces l) i) a.1).2 + 4 - a.2) % 4) (Zfl picks n):Nat) (nx l (gi (gi (faces l) i) b.1).1 (gi (gi (faces l) i) b.1).2).toNat (-2))=0 :=
   Ziy.2 ⟨Zdx.2 ⟨by rw [ZbG]; exact hl,x11⟩,x13,fun _=>x12⟩
  refine ⟨⟨⟨_,_,_,x6,x7,x8,hd4,x9,x10,rfl⟩,er⟩,i,a,b,_,_,_,rfl,x6,x7,x8,hd4,x9,x10,rfl,?_,rfl⟩
  have:=x4.2.2
  have:=x5.2.2
  unfold pkR
  rw [Int.toNat_of_nonneg x4.2.2,Int.toNat_of_nonneg x5.2.2]
theorem ZoR {l cells:List Za} {picks:List Bool} {n:Nat} (hl:l.length≤60) (h:ZdB l=0) (hn:n≤100000):ZaK.s0 cells picks (l,(n:Int))=some (match Ze9 picks n l with | none=>.inr (l,(n:Int),0) | some m=>.inl (m,(n:Int) + 1)):=by
 obtain ⟨k,W,_⟩:=ZfL h
 simp only [ZaK.s0,Int.toNat_natCast]
 rw [ZoK (by omega),Option.bind_some,ZoQ hl k,Option.bind_some]
 cases hm:Ze9 picks n l with
 | none =>
  cases hp:pkF l with
  | none=>rfl
  | some q=>unfold Ze9 at hm; rw [hp] at hm; cases hm
 | some m =>
  obtain ⟨S,i,a,b,v,w,d,hp,hv,hw,hvw,hd,f1,f2,rfl,er,ed⟩:=Zhm h (by omega) hm
  rw [hp]
  dsimp only
  rw [Bool.not_true,if_neg Bool.false_ne_true,er]
  dsimp only
  have hb:(if decide ((n:Int) < (picks.length:Int))=true then ck ((0:Int)≤(n:Int)∧(n:Int) < (picks.length:Int)) (some (gi picks n)) else some false)=some (Zfl picks n):=by
   unfold Zfl
   by_cases c:n < picks.length
   ·rw [Zt (by omega),Zn (by omega),Zal c,Bool.true_and]
   ·rw [Zu (by omega),Zah c,Bool.false_and]
  rw [hb,Option.bind_some]
  simp only [Zck,Option.bind_some]
  have hx:((gi (gi (faces l) i) a.1).2 + 4 - a.2) % 4 < 4:=Nat.mod_lt _ (by decide)
  generalize ((gi (gi (faces l) i) a.1).2 + 4 - a.2) % 4=e at *
  have hd':(if decide ((decide ((e:Int)=0) || decide ((e:Int)=2))=Zfl picks n)=true then (Za6 (e:Int) 1).bind fun x13=>some x13 else some (e:Int))=some (d:Int):=by
   have q:(decide ((e:Int)=0) || decide ((e:Int)=2))=decide (e % 2=0):=by
    match e,hx with
    | 0,_ | 1,_ | 2,_ | 3,_=>rfl
   rw [q,ed]
   unfold rgD
   by_cases c:decide (e % 2=0)=Zfl picks n
   ·rw [Zt c,if_pos c,Zg7 hx (by omega),if_pos rfl]; rfl
   ·rw [Zu c,if_neg c]
  rw [hd',Option.bind_some,(ZkP (o:=-2) (by omega) hv hw hvw hd (by omega) f1 f2).1,Option.bind_some]
  dsimp only
  rw [ZP rfl,z6 (by omega)]
structure RgI (l m:List Za) (n:Nat):Prop where
 err:ZdB m=0
 len:m.length=l.length
 cnt:cD m=cD l + 2 * n
 kp:∀ v d,v < l.length→d < 4→(nx m v d=nx l v d∧ow m v d=ow l v d)∨(nx l v d=-1∧0≤nx m v d∧ow m v d=-2)
theorem RgI.step {l m k:List Za} {n:Nat} (R:RgI l m n) (S:RgS m k):RgI l k (n + 1):=by
 obtain ⟨v,w,d,hv,hw,hvw,hd,f1,f2,rfl⟩:=S.ex
 have hc:=(Zdx.1 (ZfL R.err).1).2
 have hk:=(Zdx.1 (ZfL S.err).1).2
 have D:=Del.of_wth hc hv hw hvw hd (o:=-2) f1 f2
 refine ⟨S.err,by rw [ZbG,R.len],?_,?_⟩
 ·rw [D.cD hk,R.cnt]; omega
 ·intro u e hu he
  obtain ⟨n1,n2⟩:=ZeX (o:=-2) hv hw hvw hd (i:=u) (e:=e) (by rw [R.len]; exact hu) he
  rw [n1,n2]
  rcases R.kp u e hu he with ⟨h1,h2⟩ | ⟨h1,h2,h3⟩
  ·by_cases c1:u=v∧e=d
   ·rw [if_pos c1,if_pos c1]
    obtain ⟨rfl,rfl⟩:=c1
    exact .inr ⟨by rw [← h1]; exact f1,by omega,rfl⟩
   ·rw [if_neg c1,if_neg c1]
    by_cases c2:u=w∧e=(d + 2) % 4
    ·rw [if_pos c2,if_pos c2]
     obtain ⟨rfl,rfl⟩:=c2
     exact .inr ⟨by rw [← h1]; exact f2,by omega,rfl⟩
    ·rw [if_neg c2,if_neg c2]
     exact .inl ⟨h1,h2⟩
  ·have c1:¬ (u=v∧e=d):=by rintro ⟨rfl,rfl⟩; omega
   have c2:¬ (u=w∧e=(d + 2) % 4):=by rintro ⟨rfl,rfl⟩; omega
   rw [if_neg c1,if_neg c2,if_neg c1,if_neg c2]
   exact .inr ⟨h1,h2,h3⟩
theorem RgI.le {l m:List Za} {n:Nat} (R:RgI l m n):(2 * n:Int)≤4 * l.length:=by
 have h:=R.cnt
 have a:=Zho (l:=m) m.length
 have b:=Zho (l:=l) l.length
 rw [R.len] at a
 unfold cD at h
 rw [R.len] at h
 omega
theorem ZnA {l:List Za} {picks:List Bool} (hl:l.length≤1200) (h:ZdB l≠0):ZaK l picks=some ([],0,ZdB l):=by
 unfold ZaK
 rw [ZkQ (by omega),Option.bind_some,zb h]
end Mu
/- Layer 22: what is made regular can be drawn,no corners of it Zms at one another,and nothing but edges of Dummy is new. -/
set_option linter.unusedVariables false
set_option linter.unusedSimpArgs false
set_option maxRecDepth 10000
namespace Mu
theorem Zlr:Zct=some true:=by decide +kernel
def Zo0 (c:Za) (d:Nat):Za:=if 0≤c.Next.get (d:Int)∧c.Owner.get (d:Int)=-2 then ⟨c.Next.set (d:Int) (-1),c.Owner.set (d:Int) 0⟩ else c
def ZgK (c:Za):Nat→Za
 | 0=>c
 | d + 1=>Zo0 (ZgK c d) d
def ZlT (l:List Za):List Za:=l.map fun c=>ZgK c 4
theorem Zqf {l:List Za} (hl:l.length≤100000):Zak l=some (ZlT l):=by
 have row:∀ c:Za,ZL Zak.s1 big (c,0)=some (ZgK c 4):=by
  intro c
  refine ZbS (fun d:Nat=>(ZgK c d,(d:Int))) (n:=4) (ZaX (by omega)) rfl (fun d hd=>?_) ?_
  ·simp only [Zak.s1]
   rw [Zt (by omega),Zn (by omega),z6 (by omega),ZgK,show ((d + 1:Nat):Int)=(d:Int) + 1 by omega]
   unfold Zo0
   by_cases q:0≤(ZgK c d).Next.get (d:Int)∧(ZgK c d).Owner.get (d:Int)=-2
   ·rw [if_pos q,if_pos (by simp [q])]
   ·rw [if_neg q,if_neg (by simpa using q),z6 (by omega)]
  ·simp only [Zak.s1]
   rw [Zu (by omega)]
 unfold Zak
 have L:ZL (Zak.s0 l) big (([]:List Za),0)=some (ZlT l):=by
  refine ZbS (fun i:Nat=>((l.take i).map (fun c=>ZgK c 4),(i:Int))) (n:=l.length) (ZaX (by omega)) rfl (fun i hi=>?_) ?_
  ·simp only [Zak.s0,Int.toNat_natCast]
   rw [Zt (by omega),Zn (by omega),row,Option.bind_some,Zn (by simp; omega),z6 (by omega),show ((i + 1:Nat):Int)=(i:Int) + 1 by omega,List.take_succ_eq_append_getElem hi,List.map_append,ZbL hi]
   rfl
  ·simp only [Zak.s0]
   rw [Zu (by omega),List.take_length]
   rfl
 rw [L]; rfl
end Mu
/- Layer 22: what is made regular is the document's. -/
set_option linter.unusedVariables false
set_option linter.unusedSimpArgs false
set_option maxRecDepth 10000
namespace Mu
theorem Zlv {l:List Za} {i:Nat} {a b:Nat × Nat} (h:pkF l=some (i,a,b)):(∀ j,j < i→Zd6 (tns l (gi (faces l) j))=none)∧∃ j k,Zd6 (tns l (gi (faces l) i))=some (j,k)∧a=gi (Zbh (tns l (gi (faces l) i))) j∧b=gi (Zbh (tns l (gi (faces l) i))) k:=by
 unfold pkF at h
 cases hf:(List.range (faces l).length).find? (Ze8 l) with
 | none=>rw [hf] at h; cases h
 | some i' =>
  rw [hf] at h
  dsimp only at h
  cases hp:Zd6 (tns l (gi (faces l) i')) with
  | none=>rw [hp] at h; cases h
  | some q =>
   rw [hp] at h
   obtain ⟨j,k⟩:=q
   cases h
   rw [List.find?_range_eq_some] at hf
   refine ⟨fun m hm=>?_,j,k,hp,rfl,rfl⟩
   have:=hf.2.2 m hm
   unfold Ze8 at this
   cases hq:Zd6 (tns l (gi (faces l) m)) with
   | none=>rfl
   | some q=>rw [hq] at this; simp at this
theorem Zpf {l:List Za} {picks:List Bool} {n:Nat} (hl:l.length≤60) (hpk:picks.length≤1000) (h:ZdB l=0) (hn:n≤1000):zy.s0 picks (l,(n:Int))=some (match Ze9 picks n l with | none=>.inr (.inr (l,(n:Int))) | some m=>.inl (m,(n:Int) + 1)):=by
 obtain ⟨k,W,_⟩:=ZfL h
 have hc:=(Zdx.1 k).2
 obtain ⟨o1,o2,o3,_⟩:=ZdR hc
 have pass:∀ i,i < (faces l).length→Zd6 (tns l (gi (faces l) i))=none→zy.s1 picks n ((faces l).map (List.map rt)) (l,true,(i:Int))=some (.inl (l,true,(i:Int) + 1)):=by
  intro i hi hp
  have hm:=Zbu hi
  have fl:=o3 _ hm
  simp only [zy.s1,Int.toNat_natCast,ZcH hi]
  have hk:=Zmr (t:=tns l (gi (faces l) i)) (Zk5 (by omega))
  rw [hp] at hk
  dsimp only at hk
  rw [if_pos (by simp; omega),Zn (by simp; omega),Zkx (by omega) k (o1 _ hm) (by omega),Option.bind_some,hk,Option.bind_some,Bool.not_false,if_pos rfl,z6 (by omega)]
 simp only [zy.s0]
 rw [Zt (by omega),ZmG (by omega) k,Option.bind_some]
 cases hm:Ze9 picks n l with
 | none =>
  have hp:pkF l=none:=by
   cases hp:pkF l with
   | none=>rfl
   | some q=>unfold Ze9 at hm; rw [hp] at hm; cases hm
  have hq:=Zm5 hp
  have L:ZL (zy.s1 picks n ((faces l).map (List.map rt))) big (l,true,0)=some (l,true):=by
   refine ZbS (fun i:Nat=>(l,true,(i:Int))) (n:=(faces l).length) (ZaX (by omega)) rfl (fun i hi=>?_) ?_
   ·rw [pass i hi (hq i hi)]; rfl
   ·simp only [zy.s1]
    rw [if_neg (by simp)]
  rw [L,Option.bind_some]
  rfl
 | some m =>
  obtain ⟨S,i,a,b,v,w,d,hp,hv,hw,hvw,hd,f1,f2,rfl,er,ed⟩:=Zhm h (by omega) hm
  obtain ⟨hi,ha,hb,hr⟩:=ZjM hp
  obtain ⟨hpre,j,k',hpp,ea,eb⟩:=Zlv hp
  have L:ZL (zy.s1 picks n ((faces l).map (List.map rt))) big (l,true,0)=some (wth l v d w (-2),false):=by
   refine ZbS (fun q:Nat=>if q≤i then (l,true,(q:Int)) else (wth l v d w (-2),false,(i:Int) + 1)) (n:=i + 1) (ZaX (by omega)) (if_pos (Nat.zero_le _)) (fun q hq=>?_) ?_
   ·rw [if_pos (by omega)]
    by_cases c:q < i
    ·rw [pass q (by omega) (hpre q c),if_pos (by omega)]; rfl
    ·obtain rfl:q=i:=by omega
     rw [if_neg (by omega)]
     have hmm:=Zbu hi
     have fl:=o3 _ hmm
     simp only [zy.s1,Int.toNat_natCast,ZcH hi]
     have hk:=Zmr (t:=tns l (gi (faces l) q)) (Zk5 (by omega))
     rw [hpp] at hk
     dsimp only at hk
     rw [← ea,← eb] at hk
     obtain ⟨a1,a2⟩:=ZcP.1 ha
     obtain ⟨b1,b2⟩:=ZcP.1 hb
     have a3:=(Zgl a2).2.1
     rw [Zd8] at a1 b1
     have dA:=o1 _ hmm _ (Zbu a1)
     have dB:=o1 _ hmm _ (Zbu b1)
     have A1:=dA.1
     have A2:=dA.2.1
     have B1:=dB.1
     have B2:=dB.2.1
     have ga:gi ((gi (faces l) q).map rt) a.1=rt (gi (gi (faces l) q) a.1):=ZcH a1
     have gb:gi ((gi (faces l) q).map rt) b.1=rt (gi (gi (faces l) q) b.1):=ZcH b1
     rw [if_pos (by simp; omega),Zn (by simp; omega),Zkx (by omega) k (o1 _ hmm) (by omega),Option.bind_some,hk,Option.bind_some]
     unfold pkR at er
     have e1:=congrArg Prod.fst er
     have e2:=congrArg (fun z=>z.2.2) er
     dsimp only at e1 e2
     have hx:((gi (gi (faces l) q) a.1).2 + 4 - a.2) % 4 < 4:=Nat.mod_lt _ (by decide)
     have hd0:(if decide ((a.2:Int)=1)=true then ck (zU (((gi (gi (faces l) q) a.1).2:Int) + 3)) (some ((((gi (gi (faces l) q) a.1).2:Int) + 3).tmod 4)) else some ((gi (gi (faces l) q) a.1).2:Int))=some ((((gi (gi (faces l) q) a.1).2 + 4 - a.2) % 4:Nat):Int):=by
      by_cases c1:a.2=1
      ·rw [Zt (by omega),z6 (by omega),c1]
       congr 1 <;> (rw [Int.tmod_eq_emod_of_nonneg (by omega)] <;> omega)
      ·rw [Zu (by omega)]
       congr 2 <;> omega
     have hbb:(if decide ((n:Int) < (picks.length:Int))=true then ck (zU ((picks.length:Int) - 1)) (ck ((0:Int)≤(min (n:Int) (max ((picks.length:Int) - 1) 0))∧(min (n:Int) (max ((picks.length:Int) - 1) 0)) < (picks.length:Int)) (some (gi picks (min (n:Int) (max ((picks.length:Int) - 1) 0)).toNat))) else some false)=some (Zfl picks n):=by
      unfold Zfl
      by_cases c:n < picks.length
      ·have e:min (n:Int) (max ((picks.length:Int) - 1) 0)=n:=by omega
       rw [Zt (by omega),z6 (by omega),e,Zn (by omega),Zal c,Bool.true_and,Int.toNat_natCast]
      ·rw [Zu (by omega),Zah c,Bool.false_and]
     simp only [rC,ga,gb,rt,Int.toNat_natCast,List.length_map]
     rw [Bool.not_true,if_neg Bool.false_ne_true,Zn (by omega),Zn (by omega)]
     refine (ZeR hd0).trans ?_
     refine (ZeR hbb).trans ?_
     have hd1:∀ e:Nat,e < 4→d=rgD e (Zfl picks n)→(if decide (Zfl picks n=decide (((e:Nat):Int).tmod 2=0))=true then ck (zU ((e:Int) + 1)) (some (((e:Int) + 1).tmod 4)) else some (e:Int))=some (d:Int):=by
      intro e he ed
      have q:decide (((e:Nat):Int).tmod 2=0)=decide (e % 2=0):=by
       match e,he with
       | 0,_ | 1,_ | 2,_ | 3,_=>rfl
      rw [q,ed]
      unfold rgD
      by_cases c:Zfl picks n=decide (e % 2=0)
      ·rw [Zt c,if_pos c.symm,z6 (by omega)]
       congr 1 <;> (rw [Int.tmod_eq_emod_of_nonneg (by omega)] <;> omega)
      ·rw [Zu c,if_neg fun z=>c z.symm]
     refine (ZeR (hd1 _ hx ed)).trans ?_
     rw [Zn (by omega),Zn (by omega),Zn (by omega),Zn (by omega)]
     have n1:(gi l (gi (gi (faces l) q) a.1).1).Next.get ((gi (gi (faces l) q) a.1).2:Int)=(v:Int):=e1
     have n2:(gi l (gi (gi (faces l) q) b.1).1).Next.get ((gi (gi (faces l) q) b.1).2:Int)=(w:Int):=e2
     rw [n1,n2,(ZkP (o:=-2) (by omega) hv hw hvw hd (by omega) f1 f2).2,Option.bind_some,z6 (by omega)]
   ·rw [if_neg (by omega)]
    simp only [zy.s1]
    rw [if_neg (by simp)]
  rw [L,Option.bind_some]
  dsimp only
  rw [if_neg Bool.false_ne_true,z6 (by omega)]
def Ziu (picks:List Bool):Nat→Nat→List Za→List Za × Nat
 | 0,n,l=>(l,n)
 | f + 1,n,l=>match Ze9 picks n l with
  | none=>(l,n)
  | some m=>Ziu picks f (n + 1) m
theorem Zk1 {ρ:Type} {step:(List Za) × Int→Option (((List Za) × Int) ⊕ ρ)} {G:List Za→Nat→ρ} {picks:List Bool} {l:List Za} (hl:l.length≤4000) (hs:∀ m n,RgI l m n→step (m,(n:Int))=some (match Ze9 picks n m with | none=>.inr (G m n) | some m'=>.inl (m',(n:Int) + 1))) :
  ∀ f m n,RgI l m n→2 * l.length + 1≤n + f→ZL step f (m,(n:Int))=some (G (Ziu picks f n m).1 (Ziu picks f n m).2)∧RgI l (Ziu picks f n m).1 (Ziu picks f n m).2∧pkF (Ziu picks f n m).1=none
 | 0,m,n,R,hf=>by have:=R.le; omega
 | f + 1,m,n,R,hf=>by
  have e:=hs m n R
  rw [ZL,e,Ziu]
  cases h:Ze9 picks n m with
  | none =>
   refine ⟨rfl,R,?_⟩
   unfold Ze9 at h
   cases hp:pkF m with
   | none=>rfl
   | some q=>rw [hp] at h; cases h
  | some m'=>exact Zk1 hl hs f m' (n + 1) (R.step (Zhm R.err (by rw [R.len]; omega) h).1) (by omega)
theorem ZoX {l:List Za} {picks:List Bool} (hl:l.length≤60) (hp:picks.length≤1000) (h:ZdB l=0):∃ m n,ZaK l picks=some (m,((n:Nat):Int),0)∧zy l picks=some (m,(n:Int))∧RgI l m n∧pkF m=none:=by
 obtain ⟨k,W,_⟩:=ZfL h
 have R0:RgI l l 0:=⟨h,rfl,by omega,fun v d _ _=>.inl ⟨rfl,rfl⟩⟩
 obtain ⟨A,R,N⟩:=Zk1 (G:=fun m n=>(m,(n:Int),(0:Int))) (picks:=picks) (by omega) (fun m n R=>ZoR (cells:=l) (picks:=picks) (by rw [R.len]; omega) R.err (by have:=R.le; omega)) (2 * l.length + 1) l 0 R0 (by omega)
 obtain ⟨B,_,_⟩:=Zk1 (G:=fun m n=>(.inr (m,(n:Int)):List Za ⊕ (List Za × Int))) (picks:=picks) (by omega) (fun m n R=>Zpf (picks:=picks) (by rw [R.len]; omega) hp R.err (by have:=R.le; omega)) (2 * l.length + 1) l 0 R0 (by omega)
 have hb:2 * l.length + 1≤big:=by
  have:200 < big:=ZaX (by omega)
  omega
 have A':=Zd5 A hb
 have B':=Zd5 B hb
 refine ⟨_,_,?_,?_,R,N⟩
 ·unfold ZaK
  rw [ZkQ (by omega),Option.bind_some,ZP h,mOf (by omega),Option.bind_some,if_pos k]
  dsimp only
  rw [Option.bind_some]
  exact ZeR A'
 ·unfold zy
  exact ZeR B'
theorem ZpM {l:List Za} (hl:l.length≤100000):Za7 l=some (if ZdL l=0 then (ZlT l,0) else ([],ZdL l)):=by
 unfold Za7
 rw [Zhf (by omega),Option.bind_some]
 by_cases k:ZdL l=0
 ·rw [ZP k,if_pos k]
  have row:∀ c:Za,ZL Za7.s1 big (c,0)=some (ZgK c 4):=by
   intro c
   refine ZbS (fun d:Nat=>(ZgK c d,(d:Int))) (n:=4) (ZaX (by omega)) rfl (fun d hd=>?_) ?_
   ·simp only [Za7.s1]
    rw [Zt (by omega),Zn (by omega),z6 (by omega),ZgK,show ((d + 1:Nat):Int)=(d:Int) + 1 by omega]
    unfold Zo0
    by_cases q:0≤(ZgK c d).Next.get (d:Int)∧(ZgK c d).Owner.get (d:Int)=-2
    ·rw [if_pos q,if_pos (by simp [q])]
    ·rw [if_neg q,if_neg (by simpa using q),z6 (by omega)]
   ·simp only [Za7.s1]
    rw [Zu (by omega)]
  have L:ZL (Za7.s0 l) big (([]:List Za),0)=some (ZlT l):=by
   refine ZbS (fun i:Nat=>((l.take i).map (fun c=>ZgK c 4),(i:Int))) (n:=l.length) (ZaX (by omega)) rfl (fun i hi=>?_) ?_
   ·simp only [Za7.s0,Int.toNat_natCast]
    rw [Zt (by omega),Zn (by omega),row,Option.bind_some,Zn (by simp; omega),z6 (by omega),show ((i + 1:Nat):Int)=(i:Int) + 1 by omega,List.take_succ_eq_append_getElem hi,List.map_append,ZbL hi]
    rfl
   ·simp only [Za7.s0]
    rw [Zu (by omega),List.take_length]
    rfl
  rw [L]; rfl
 ·rw [zb k,if_neg k]
theorem Zjn {l:List Za} {picks:List Bool} (hl:l.length≤60) (hp:picks.length≤1000):Zbc l picks=some true:=by
 have T:Zbc l picks=(ZaK l picks).bind fun (x,x1,x2)=>(ZaC l).bind fun (x8,x9)=>if !(decide (x9=0)) then some (((decide (x2=x9)) && (decide ((x.length:Int)=0))) && (decide (x1=0))) else (zy l picks).bind fun (x10,x11)=>(if (decide (x2=0)) && (decide (x1=x11)) then (Zan x x10).bind fun x12=>some x12 else some false).bind fun t2=>some t2:=by
  unfold Zbc
  rw [ZpM (by omega),ZmF (by omega)]
  congr 1
  funext ⟨x,x1,x2⟩
  dsimp only
  rw [Option.bind_some,Option.bind_some,Zqf (by omega)]
  by_cases k:ZdL l=0
  ·rw [if_pos k,k]
   dsimp only
   rw [Option.bind_some,ZP rfl,Zt rfl,Zoe (by simp [ZlT]; omega)]
   rfl
  ·rw [if_neg k]
   dsimp only
   rw [ZP rfl,Zu k,Option.bind_some,Option.bind_some,if_neg (by simp)]
 rw [T]
 by_cases h:ZdB l=0
 ·obtain ⟨m,n,e1,e2,R,N⟩:=ZoX hl hp h
  rw [e1,Option.bind_some]
  dsimp only
  rw [ZmH (by omega),Option.bind_some]
  dsimp only
  rw [ZP h,e2,Option.bind_some]
  dsimp only
  rw [if_pos (by simp),Zoe (by rw [R.len]; omega)]
  rfl
 ·rw [ZnA (by omega) h,Option.bind_some]
  dsimp only
  rw [ZmH (by omega),Option.bind_some]
  dsimp only
  rw [zb h]
  simp
theorem ZgJ (z:ZcB) (m1:z.Places.At.length≤Go.maxLen) (b1:∀ y∈z.Places.At,Zg0 y) (m2:z.Places.Bits.length≤Go.maxLen) (b2:∀ y∈z.Places.Bits,Zg0 y) (m3:z.Places.Own.length≤Go.maxLen) (b3:∀ y∈z.Places.Own,Zk9 y) (n1:z.Shape.Boxes.length≤Go.maxLen) (c1:∀ x∈z.Shape.Boxes,ZgI x) (n2:z.Shape.Edges.length≤Go.maxLen) (c2:∀ x∈z.Shape.Edges,ZgH x) (n3:z.Shape.Bends.length≤Go.maxLen) (c3:∀ x∈z.Shape.Bends,Zg0 x) (mr:z.Raw.length≤Go.maxLen) (br:∀ x∈z.Raw,Zfo x) (mp:z.Picks.length≤Go.maxLen) (bp:∀ x∈z.Picks,ZgI x):Zb8 z=some true:=by
 obtain ⟨l,pts,e1,hM,hlen⟩:=ZpT (z:=z.Places) (most:=14) (okZ m1 b1 b3) (by omega)
 obtain ⟨s,e2,hs,_⟩:=ZoS (z:=z.Shape) c2 c3 (most:=4) (by omega)
 obtain ⟨w,e3⟩:=ZnR hs
 obtain ⟨n,e4,hn⟩:=Zq8 hs
 have hp:(z.Picks.take (min (z.Picks.length:Int) 20).toNat).length≤1000:=by rw [List.length_take]; omega
 unfold Zb8
 rw [Zn (by omega),e1,Option.bind_some]
 dsimp only
 rw [e2,Option.bind_some,Zlr,Option.bind_some,Bool.not_true,if_neg Bool.false_ne_true,Zjn (by omega) hp,Option.bind_some,Bool.not_true,Option.bind_some,if_neg Bool.false_ne_true,Zn (by omega),Zjn (by rw [List.length_take]; omega) hp,Option.bind_some,Bool.not_true,Option.bind_some,if_neg Bool.false_ne_true,e3,Option.bind_some]
 by_cases hw:w=0
 ·rw [ZP hw,e4,Option.bind_some]
  by_cases c:30 < n.Cells.length
  ·rw [Zt (by omega)]; rfl
  ·rw [Zu (by omega),Zjn (by omega) hp]; rfl
 ·rw [zb hw]
end Mu
