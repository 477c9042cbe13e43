/- The law, plainly: what is worked out. -/
import Derived.Test.YtjhlegefgllihaaGreatMuV
import Derived.Test.YtjhlegefgllihaaGreatMuDf
import Derived.Test.YtjhlegefgllihaaGreatMuK0
/- Loops of ZbW where an edge is taken out:how many there are,and their turns. -/
set_option linter.unusedVariables false
set_option linter.unusedSimpArgs false
set_option maxRecDepth 10000
namespace Mu
def nxE(l:List Za)(e e' y:Da):Da:=if y=e then bh l e' else if y=e' then bh l e else y
def crE(l:List Za)(e e' y:Da):Int:=if y=e then tt l e'-2 else if y=e' then tt l e-2 else 0
theorem Del.pt{l m:List Za}(hc:Ck l){v d w:Nat}(D:Del l m v d w):∀{s:List Da}{x y:Da},Pt l x s y->s≠[]->(∀a∈s,a≠(v,d)/\a≠(w,(d+2)%4))->
  Pt m x s (nxE l (v,d) (w,(d+2)%4) y)/\ZW m s=ZW l s+crE l (v,d) (w,(d+2)%4) y
 |[],_,_,_,h,_=>absurd rfl h
 | [a],x,y,h,_,hs=>by
  rw[Pt,Pt]at h;obtain⟨rfl,h1,rfl⟩:=h;have q:=hs x (by simp);have hm:Mu.isD m x:=D.isD.2 ⟨h1,q.1,q.2⟩;have b:=D.bh hc hm;refine⟨⟨rfl,hm,?_⟩,?_⟩
  .rw[b.1];rfl
  .rw[Zao,Zao,Zcm,Zcm,b.2];unfold crE;split
   .omega
   .split<;>omega
 |a::b::s,x,y,h,_,hs=>by
  rw[Pt]at h;obtain⟨rfl,h1,h2⟩:=h;have q:=hs x (by simp);have qb:=hs b (by simp);have hm:Mu.isD m x:=D.isD.2 ⟨h1,q.1,q.2⟩;have eb:Mu.bh l x=b:=by rw[Pt]at h2;exact h2.1
  have B:=D.bh hc hm;rw[eb,if_neg qb.1,if_neg qb.2,if_neg qb.1,if_neg qb.2]at B;rw[eb]at h2;obtain⟨i1,i2⟩:=D.pt hc h2 (by simp) λa ha=>hs a (List.mem_cons_of_mem _ ha);refine⟨⟨rfl,hm,?_⟩,?_⟩
  .rw[B.1];exact i1
  .rw[Zao,i2,Zao (t:=b::s),B.2];omega
theorem ZiF{l:List Za}{p:Da}:(bh l p).1=(nx l p.1 p.2).toNat:=by rw[ZbZ]
theorem Del.bh_e{l m:List Za}(hc:Ck l){v d w:Nat}(D:Del l m v d w):Mu.bh l (v,d)≠(v,d):=by
 intro q;have:=congrArg Prod.fst q;rw[ZiF]at this;dsimp only at this;rw[D.hn,itn]at this;exact D.ne hc this
theorem Del.bh_e'{l m:List Za}(hc:Ck l){v d w:Nat}(D:Del l m v d w):Mu.bh l (w,(d+2)%4)≠(w,(d+2)%4):=by
 intro q;have:=congrArg Prod.fst q;rw[ZiF]at this;dsimp only at this;rw[D.hb hc,itn]at this;exact D.ne hc this.symm
theorem Del.ee{l m:List Za}(hc:Ck l){v d w:Nat}(D:Del l m v d w):((w,(d+2)%4):Da)≠(v,d):=λq=>D.ne hc (congrArg Prod.fst q)
theorem Del.joinA{l m:List Za}(hc:Ck l){v d w:Nat}(D:Del l m v d w){A B:List Da}(hA:Lp l ((v,d)::A))(hB:Lp l ((w,(d+2)%4)::B))(hdj:∀x∈(v,d)::A,x∉(w,(d+2)%4)::B) :
  Lp m (A++B)/\ZW m (A++B)=ZW l ((v,d)::A)+ZW l ((w,(d+2)%4)::B)-4:=by
 have ee:=D.ee hc;obtain⟨a1,a2⟩:=hA.hd;obtain⟨b1,b2⟩:=hB.hd;have nA:A≠[]:=by rintro rfl;exact D.bh_e hc a2
 have nB:B≠[]:=by rintro rfl;exact D.bh_e' hc b2
 have ndA:=List.nodup_cons.1 hA.nd;have ndB:=List.nodup_cons.1 hB.nd;obtain⟨p1,r1⟩:=D.pt hc a2 nA λa ha=>⟨λq=>ndA.1 (q▸ha),λq=>hdj a (by simp[ha]) (by simp[q])⟩;obtain⟨p2,r2⟩:=D.pt hc b2 nB λa ha=>⟨λq=>hdj a (by simp[q]) (by simp[ha]),λq=>ndB.1 (q▸ha)⟩;unfold nxE at p1 p2;unfold crE at r1 r2;rw[if_pos rfl]at p1 r1;rw[if_neg ee,if_pos rfl]at p2 r2;refine⟨⟨by simp[nA],?_,_,Pt.app.2 ⟨_,p1,p2⟩⟩,?_⟩
 .rw[List.nodup_append];exact⟨ndA.2,ndB.2,λa ha b hb q=>hdj a (by simp[ha]) (by simp[q,hb])⟩
 .rw[Zcl,r1,r2,Zao,Zao];omega
theorem Del.joinB{l m:List Za}(hc:Ck l){v d w:Nat}(D:Del l m v d w){A B:List Da}(h:Lp l ((v,d)::(A++(w,(d+2)%4)::B))) :
  (A≠[]->Lp m A/\ZW m A=ZW l A+tt l (v,d)-2)/\(B≠[]->Lp m B/\ZW m B=ZW l B+tt l (w,(d+2)%4)-2)/\(A=[]↔Mu.bh l (v,d)=(w,(d+2)%4))/\(B=[]↔Mu.bh l (w,(d+2)%4)=(v,d)):=by
 have ee:=D.ee hc;obtain⟨a1,a2⟩:=h.hd;obtain⟨y,c1,c2⟩:=Pt.app.1 a2;rw[Pt]at c2;obtain⟨rfl,c2,c3⟩:=c2;have nd:=List.nodup_cons.1 h.nd;have nd2:=List.nodup_append.1 nd.2;have nd3:=List.nodup_cons.1 nd2.2.1;have qA:∀a∈A,a≠(v,d)/\a≠(w,(d+2)%4):=λa ha=>⟨λq=>nd.1 (by simp[<-q,ha]),λq=>nd2.2.2 a ha (w,(d+2)%4) (by simp) q⟩;have qB:∀a∈B,a≠(v,d)/\a≠(w,(d+2)%4):=λa ha=>⟨λq=>nd.1 (by simp[<-q,ha]),λq=>nd3.1 (q▸ha)⟩;refine⟨λnA=>?_,λnB=>?_,⟨?_,λq=>?_⟩,⟨?_,λq=>?_⟩⟩
 .obtain⟨p1,r1⟩:=D.pt hc c1 nA qA;unfold nxE at p1;unfold crE at r1;rw[if_neg ee,if_pos rfl]at p1 r1;exact⟨⟨nA,nd2.1,_,p1⟩,by rw[r1];omega⟩
 .obtain⟨p1,r1⟩:=D.pt hc c3 nB qB;unfold nxE at p1;unfold crE at r1;rw[if_pos rfl]at p1 r1;exact⟨⟨nB,nd3.2,_,p1⟩,by rw[r1];omega⟩
 .rintro rfl;exact c1
 .cases A with
  |nil=>rfl
  |cons a A=>
   rw[Pt]at c1;exact absurd (c1.1.symm.trans q) (qA a (by simp)).2
 .rintro rfl;exact c3
 .cases B with
  |nil=>rfl
  |cons a B=>
   rw[Pt]at c3;exact absurd (c3.1.symm.trans q) (qB a (by simp)).1
theorem Cyc.of_perm{l:List Za}{f g:List Da}(h:Cyc l f)(p:f.Perm g):Cyc l g :=
 ⟨λe=>h.ne (by rw[e]at p;exact p.eq_nil),p.nodup_iff.1 h.nd,λx hx=>h.is x (p.mem_iff.2 hx),λx hx=>p.mem_iff.1 (h.cl x (p.mem_iff.2 hx)),λC hC x hx y hy=>h.one C hC x (p.mem_iff.2 hx) y (p.mem_iff.2 hy)⟩
theorem Cyc.lp{l:List Za}(hc:Ck l){f:List Da}(h:Cyc l f){p:Da}(hp:p∈f):∃t,Lp l (p::t)/\f.Perm (p::t):=by
 obtain⟨t,ht⟩:=Znv hc (h.is p hp);exact⟨t,ht,h.perm ht.cyc hp (by simp)⟩
theorem Del.keep{l m:List Za}(hc:Ck l){v d w:Nat}(D:Del l m v d w){f:List Da}(h:Cyc l f)(h1:(v,d)∉f)(h2:(w,(d+2)%4)∉f):Cyc m f/\ZW m f=ZW l f:=by
 obtain⟨p,hp⟩:=List.exists_mem_of_ne_nil f h.ne;obtain⟨t,ht,pe⟩:=h.lp hc hp;obtain⟨x,hx⟩:=ht.pt;have q:∀a∈p::t,a≠(v,d)/\a≠(w,(d+2)%4):=λa ha=>⟨λk=>h1 (k▸pe.mem_iff.2 ha),λk=>h2 (k▸pe.mem_iff.2 ha)⟩;have xp:x=p:=by rw[Pt]at hx;exact hx.1
 obtain⟨k1,k2⟩:=D.pt hc hx (by simp) q;subst xp;unfold nxE at k1;unfold crE at k2;have qx:=q x (by simp);rw[if_neg qx.1,if_neg qx.2]at k1 k2;have L:Lp m (x::t):=⟨by simp,ht.nd,x,k1⟩;refine⟨L.cyc.of_perm pe.symm,?_⟩;rw[Zb7 pe,Zb7 pe,k2];omega

/-! All loops. -/
structure Fcs(l:List Za)(F:List (List Da)):Prop where
 cy:∀f∈F,Cyc l f
 nd:F.flatten.Nodup
 al:∀p,isD l p->p∈F.flatten
theorem Fcs.faces{l:List Za}(hc:Ck l):Fcs l (faces l):=⟨Zbe hc,(Zds hc).2.2.2.1,λp hp=>(Zfs hc).2 hp⟩
theorem Fcs.le{l:List Za}{F G:List (List Da)}(hF:Fcs l F)(hG:Fcs l G):F.length<=G.length:=by
 have key:∀f∈F,∃i,i<G.length/\∃p,p∈f/\p∈gi G i:=by
  intro f hf;obtain⟨p,hp⟩:=List.exists_mem_of_ne_nil f (hF.cy f hf).ne;obtain⟨g,hg,hpg⟩:=List.mem_flatten.1 (hG.al p ((hF.cy f hf).is p hp));obtain⟨i,hi,e⟩:=List.mem_iff_getElem.1 hg;exact⟨i,hi,p,hp,by rw[zO hi,e];exact hpg⟩
 have:∀F:List (List Da),(∀f∈F,Cyc l f)->F.flatten.Nodup->(∀f∈F,∃i,i<G.length/\∃p,p∈f/\p∈gi G i)->∃I:List Nat,I.length=F.length/\I.Nodup/\∀i∈I,i<G.length/\∃f∈F,∃p,p∈f/\p∈gi G i:=by
  intro F
  induction F with
  |nil=>intro _ _ _;exact⟨[],rfl,List.nodup_nil,by simp⟩
  | cons f F ih=>
   intro h1 h2 h3;rw[List.flatten_cons,List.nodup_append]at h2;obtain⟨I,k1,k2,k3⟩:=ih (λf hf=>h1 f (by simp[hf])) h2.2.1 λf hf=>h3 f (by simp[hf]);obtain⟨i,hi,p,hp,hpi⟩:=h3 f (by simp);refine⟨i::I,by simp[k1],List.nodup_cons.2 ⟨λhm=>?_,k2⟩,λj hj=>?_⟩
   .obtain⟨_,f',hf',p',hp',hpi'⟩:=k3 i hm;have cg:=hG.cy _ (zh hi);have c1:=h1 f (by simp)
    -- f and f' share a dart
    have:=(cg.sub c1 hpi hp) p' hpi';exact h2.2.2 p' this p' (List.mem_flatten.2 ⟨f',hf',hp'⟩) rfl
   .rcases List.mem_cons.1 hj with rfl|hj
    .exact⟨hi,f,by simp,p,hp,hpi⟩
    .obtain⟨a,f',hf',r⟩:=k3 j hj;exact⟨a,f',by simp[hf'],r⟩
 obtain⟨I,k1,k2,k3⟩:=this F hF.cy hF.nd key;have:=k2.length_le_of_subset (l₂:=List.range G.length) λi hi=>List.mem_range.2 (k3 i hi).1;simp at this;omega
theorem Fcs.len{l:List Za}{F G:List (List Da)}(hF:Fcs l F)(hG:Fcs l G):F.length=G.length:=Nat.le_antisymm (hF.le hG) (hG.le hF)
theorem Fcs.perm{l:List Za}{F G:List (List Da)}(h:Fcs l F)(p:F.Perm G):Fcs l G :=
 ⟨λf hf=>h.cy f (p.mem_iff.2 hf),p.flatten.nodup_iff.1 h.nd,λx hx=>p.flatten.mem_iff.1 (h.al x hx)⟩
theorem Fcs.pick{l:List Za}{S F:List (List Da)}(h:Fcs l (S++F)){g:List Da}(hg:Cyc l g)(hn:∀p∈g,p∉S.flatten):∃R,Fcs l (S++g::R)/\F.length=R.length+1:=by
 obtain⟨p,hp⟩:=List.exists_mem_of_ne_nil g hg.ne;have:=h.al p (hg.is p hp);rw[List.flatten_append,List.mem_append]at this;rcases this with k|k
 .exact absurd k (hn p hp)
 .obtain⟨g1,hg1,hpg⟩:=List.mem_flatten.1 k;have pe:F.Perm (g1::F.erase g1):=List.perm_cons_erase hg1;have pg:g1.Perm g:=(h.cy g1 (by simp[hg1])).perm hg hpg hp;have h2:=h.perm (List.Perm.append_left S pe);have pf:(S++g1::F.erase g1).flatten.Perm (S++g::F.erase g1).flatten:=by
   rw[List.flatten_append,List.flatten_append,List.flatten_cons,List.flatten_cons];exact List.Perm.append_left _ (List.Perm.append_right _ pg)
  refine⟨F.erase g1,⟨λf hf=>?_,pf.nodup_iff.1 h2.nd,λx hx=>pf.mem_iff.1 (h2.al x hx)⟩,by rw[pe.length_eq];rfl⟩;rcases List.mem_append.1 hf with q|q
  .exact h.cy f (by simp[q])
  .rcases List.mem_cons.1 q with rfl|q
   .exact hg
   .exact h.cy f (by simp[List.mem_of_mem_erase q])
theorem Del.fcs{l m:List Za}(hc:Ck l){v d w:Nat}(D:Del l m v d w){S S' R:List (List Da)}(h:Fcs l (S++R))(h1:∀f∈S',Cyc m f)(h2:S'.flatten.Nodup)(h3:∀p,p∈S'.flatten↔p∈S.flatten/\p≠(v,d)/\p≠(w,(d+2)%4))(h4:(v,d)∈S.flatten)(h5:(w,(d+2)%4)∈S.flatten) :
  Fcs m (S'++R)/\∀f∈R,ZW m f=ZW l f:=by
 have nd:=h.nd;rw[List.flatten_append,List.nodup_append]at nd;have keep:∀f∈R,Cyc m f/\ZW m f=ZW l f:=λf hf=>D.keep hc (h.cy f (by simp[hf]))
  (λq=>nd.2.2 _ h4 _ (List.mem_flatten.2 ⟨f,hf,q⟩) rfl) (λq=>nd.2.2 _ h5 _ (List.mem_flatten.2 ⟨f,hf,q⟩) rfl)
 refine⟨⟨λf hf=>?_,?_,λp hp=>?_⟩,λf hf=>(keep f hf).2⟩
 .rcases List.mem_append.1 hf with q|q
  .exact h1 f q
  .exact(keep f q).1
 .rw[List.flatten_append,List.nodup_append];exact⟨h2,nd.2.1,λa ha b hb=>nd.2.2 a ((h3 a).1 ha).1 b hb⟩
 .obtain⟨q1,q2,q3⟩:=D.isD.1 hp;have:=h.al p q1;rw[List.flatten_append,List.mem_append]at this⊢;rcases this with k|k
  .exact .inl ((h3 p).2 ⟨k,q2,q3⟩)
  .exact .inr k
inductive Zud(l m:List Za)(e e':Da):Prop where
 |two (A B:List Da) (R:List (List Da)) (hA:Lp l (e::A)) (hB:Lp l (e'::B)) (hl:Fcs l ((e::A)::(e'::B)::R)) (hm:Fcs m ((A++B)::R)) (rot:ZW m (A++B)=ZW l (e::A)+ZW l (e'::B)-4) (same:∀f∈R,ZW m f=ZW l f) (n1:bh l e≠e') (n2:bh l e'≠e) (lm:Lp m (A++B))
 |one (A B:List Da) (R:List (List Da)) (hA:Lp l (e::(A++e'::B))) (hl:Fcs l ((e::(A++e'::B))::R)) (hm:Fcs m (A::B::R)) (rot:ZW m A+ZW m B=ZW l (e::(A++e'::B))-4) (same:∀f∈R,ZW m f=ZW l f) (n1:bh l e≠e') (n2:bh l e'≠e) (lA:Lp m A) (lB:Lp m B)
 |leaf (A:List Da) (R:List (List Da)) (hA:Cyc l (e::e'::A)) (hl:Fcs l ((e::e'::A)::R)) (hm:Fcs m (A::R)) (rot:ZW m A=ZW l (e::e'::A)) (same:∀f∈R,ZW m f=ZW l f) (n:(bh l e=e'/\bh l e'≠e)\/(bh l e≠e'/\bh l e'=e))
 |iso (R:List (List Da)) (hA:Cyc l [e,e']) (hl:Fcs l ([e,e']::R)) (hm:Fcs m R) (same:∀f∈R,ZW m f=ZW l f) (n1:bh l e=e') (n2:bh l e'=e)
theorem ZlC{l:List Za}{p:Da}(hp:p.2<4)(h:(bh l p).2=(p.2+2)%4):tt l p=-2:=by
 unfold tt tn;rw[h,if_neg (by omega),if_neg (by omega),if_neg (by omega)]
theorem Del.kind{l m:List Za}(hc:Ck l){v d w:Nat}(D:Del l m v d w):Zud l m (v,d) (w,(d+2)%4):=by
 have hd:=D.hd;have ee:=D.ee hc;have hF:Fcs l ([]++Mu.faces l):=by rw[List.nil_append];exact Fcs.faces hc
 obtain⟨t,ht⟩:=Znv hc D.e;by_cases c:(w,(d+2)%4)∈t
 .obtain⟨A,B,rfl⟩:=List.append_of_mem c;obtain⟨jA,jB,iA,iB⟩:=D.joinB hc ht;obtain⟨R,hR,_⟩:=hF.pick ht.cyc (by simp);rw[List.nil_append]at hR;have nd:=List.nodup_cons.1 ht.nd;have nd2:=List.nodup_append.1 nd.2;have nd3:=List.nodup_cons.1 nd2.2.1;by_cases cA:A=[]
  .have bA:=iA.1 cA;have tA:tt l (v,d)=-2:=ZlC hd (by rw[bA]);subst cA;by_cases cB:B=[]
   .have bB:=iB.1 cB;subst cB;obtain⟨k1,k2⟩:=D.fcs hc (S:=[[(v,d),(w,(d+2)%4)]]) (S':=[]) (R:=R) hR (by simp) (by simp) (by intro p;simp;intro q;rcases q with rfl|rfl<;>simp) (by simp) (by simp);exact .iso R ht.cyc hR k1 k2 bA bB
   .obtain⟨lB,rB⟩:=jB cB;obtain⟨k1,k2⟩:=D.fcs hc (S:=[(v,d)::(w,(d+2)%4)::B]) (S':=[B]) (R:=R) hR (by intro f hf;rw[List.mem_singleton.1 hf];exact lB.cyc) (by simpa using lB.nd) (by
     intro p;simp;constructor
     .intro q;exact⟨.inr (.inr q),λk=>nd.1 (by simp[<-k,q]),λk=>nd3.1 (k▸q)⟩
     .rintro⟨q|q|q,q2,q3⟩
      .exact absurd q q2
      .exact absurd q q3
      .exact q) (by simp) (by simp)
    refine .leaf B R ht.cyc hR k1 ?_ k2 (.inl ⟨bA,λq=>cB (iB.2 q)⟩);rw[rB,Zao,Zao,tA];omega
  .obtain⟨lA,rA⟩:=jA cA;by_cases cB:B=[]
   .have bB:=iB.1 cB;have tB:tt l (w,(d+2)%4)=-2:=ZlC (show(d+2)%4<4 by omega) (by rw[bB];dsimp only;omega);subst cB;have pe:((v,d)::(A++[(w,(d+2)%4)])).Perm ((v,d)::(w,(d+2)%4)::A):=List.Perm.cons _ List.perm_append_comm;have C2:=ht.cyc.of_perm pe;obtain⟨R2,hR2,_⟩:=hF.pick C2 (by simp);rw[List.nil_append]at hR2;obtain⟨k1,k2⟩:=D.fcs hc (S:=[(v,d)::(w,(d+2)%4)::A]) (S':=[A]) (R:=R2) hR2 (by intro f hf;rw[List.mem_singleton.1 hf];exact lA.cyc) (by simpa using lA.nd) (by
     intro p;simp;constructor
     .intro q;exact⟨.inr (.inr q),λk=>nd.1 (by simp[<-k,q]),λk=>nd2.2.2 p q _ (by simp) k⟩
     .rintro⟨q|q|q,q2,q3⟩
      .exact absurd q q2
      .exact absurd q q3
      .exact q) (by simp) (by simp)
    refine .leaf A R2 C2 hR2 k1 ?_ k2 (.inr ⟨λq=>cA (iA.2 q),bB⟩);rw[rA,Zao,Zao,tB];omega
   .obtain⟨lB,rB⟩:=jB cB;have dj:∀a∈A,∀b∈B,a≠b:=λa ha b hb=>nd2.2.2 a ha b (by simp[hb]);obtain⟨k1,k2⟩:=D.fcs hc (S:=[(v,d)::(A++(w,(d+2)%4)::B)]) (S':=[A,B]) (R:=R) hR (by
     intro f hf;simp at hf;rcases hf with rfl|rfl
     .exact lA.cyc
     .exact lB.cyc) (by
     simp[List.nodup_append];exact⟨lA.nd,lB.nd,λa b ha x y hb q1 q2=>dj (a,b) ha (x,y) hb (Prod.ext q1 q2)⟩) (by
     intro p;simp;constructor
     .rintro(q|q)
      .exact⟨.inr (.inl q),λk=>nd.1 (by simp[<-k,q]),λk=>nd2.2.2 p q _ (by simp) k⟩
      .exact⟨.inr (.inr (.inr q)),λk=>nd.1 (by simp[<-k,q]),λk=>nd3.1 (k▸q)⟩
     .rintro⟨q|q|q|q,q2,q3⟩
      .exact absurd q q2
      .exact .inl q
      .exact absurd q q3
      .exact .inr q) (by simp) (by simp)
    refine .one A B R ht hR k1 ?_ k2 (λq=>cA (iA.2 q)) (λq=>cB (iB.2 q)) lA lB;rw[rA,rB,Zao,Zcl,Zao];omega
 .obtain⟨B,hB⟩:=Znv hc (D.e' hc);have dj:∀x∈(v,d)::t,x∉(w,(d+2)%4)::B:=by
   intro x hx hx2;have:=hB.cyc.sub ht.cyc hx2 hx (w,(d+2)%4) (by simp);rcases List.mem_cons.1 this with q|q
   .exact ee q
   .exact c q
  obtain⟨j1,j2⟩:=D.joinA hc ht hB dj;obtain⟨R1,hR1,_⟩:=hF.pick ht.cyc (by simp);rw[List.nil_append]at hR1;obtain⟨R,hR,_⟩:=Fcs.pick (S:=[(v,d)::t]) (F:=R1) hR1 hB.cyc (λp hp q=>by
   rw[List.flatten_cons,List.flatten_nil,List.append_nil]at q;exact dj p q hp)
  have ndA:=List.nodup_cons.1 ht.nd;have ndB:=List.nodup_cons.1 hB.nd;obtain⟨k1,k2⟩:=D.fcs hc (S:=[(v,d)::t,(w,(d+2)%4)::B]) (S':=[t++B]) (R:=R) hR (by intro f hf;rw[List.mem_singleton.1 hf];exact j1.cyc) (by simpa using j1.nd) (by
   intro p;simp;constructor
   .rintro(q|q)
    .exact⟨.inr (.inl q),λk=>ndA.1 (k▸q),λk=>c (k▸q)⟩
    .exact⟨.inr (.inr (.inr q)),λk=>dj p (by simp[k]) (by simp[q]),λk=>ndB.1 (k▸q)⟩
   .rintro⟨q|q|q|q,q2,q3⟩
    .exact absurd q q2
    .exact .inl q
    .exact absurd q q3
    .exact .inr q) (by simp) (by simp)
  refine .two t B R ht hB hR k1 j2 k2 ?_ ?_ j1
  .intro q;have:=ht.cyc.cl (v,d) (by simp);rw[q]at this;exact dj _ this (by simp)
  .intro q;have:=hB.cyc.cl (w,(d+2)%4) (by simp);rw[q]at this;exact dj (v,d) (by simp) this
end Mu
/- Euler:cells that hang together,and those of which some edges are left. -/
namespace Mu
def cV(l:List Za):Int:=sg (λw=>if deg l w=0 then 0 else 1) l.length
def cD(l:List Za):Int:=sg (deg l) l.length
def chi(l:List Za):Int:=2*cV l+2*((faces l).length:Int)-cD l
theorem Zdr{l:List Za}{u:Nat}:deg l u=(if 0<=nx l u 0 then 1 else 0)+(if 0<=nx l u 1 then 1 else 0)+(if 0<=nx l u 2 then 1 else 0)+(if 0<=nx l u 3 then 1 else 0):=by
 unfold deg;rw[Zpg]
theorem ZiN{l:List Za}{p:Da}(h:isD l p):1<=deg l p.1:=by
 have h1:=h.2.1;have h2:=h.2.2;rw[Zdr];have:p.2=0\/p.2=1\/p.2=2\/p.2=3:=by omega
 rcases this with q|q|q|q<;>rw[q]at h2<;>rw[if_pos h2]<;>repeat' split<;>omega
theorem Zq2{l:List Za}{u:Nat}(h:deg l u≠0):∃d,d<4/\0<=nx l u d:=by
 refine Classical.byContradiction λq=>h ?_;have k:∀d,d<4->¬0<=nx l u d:=λd hd c=>q ⟨d,hd,c⟩;rw[Zdr,if_neg (k 0 (by omega)),if_neg (k 1 (by omega)),if_neg (k 2 (by omega)),if_neg (k 3 (by omega))];rfl
theorem ZdB{l:List Za}(hc:Ck l){p:Da}(h:isD l p):bh l p=opp l p↔deg l (opp l p).1=1:=by
 have f:=h.fwd hc;have h4:=h.2.1;unfold bh opp;dsimp only;generalize(nx l p.1 p.2).toNat=u at*;have hb:0<=nx l u ((p.2+2)%4):=by rw[f.2];omega
 rw[Zdr];have:p.2=0\/p.2=1\/p.2=2\/p.2=3:=by omega
 rcases this with q|q|q|q<;>rw[q]at hb⊢ <;> simp only[show(0+2)%4=2 from rfl,show(1+2)%4=3 from rfl,show(2+2)%4=0 from rfl,show(3+2)%4=1 from rfl,show(0+1)%4=1 from rfl,show(1+1)%4=2 from rfl,show(2+1)%4=3 from rfl,show(3+1)%4=0 from rfl,show(0+3)%4=3 from rfl,show(1+3)%4=0 from rfl,show(2+3)%4=1 from rfl,show(3+3)%4=2 from rfl]at hb⊢ <;>
 by_cases c0:0<=nx l u 0<;>by_cases c1:0<=nx l u 1<;>by_cases c2:0<=nx l u 2<;>by_cases c3:0<=nx l u 3<;>first|(exact absurd hb (by assumption))|(simp[c0,c1,c2,c3])
theorem Del.deg{l m:List Za}(hc:Ck l){v d w:Nat}(D:Del l m v d w){u:Nat}(hu:u<l.length):deg m u=Mu.deg l u-(if u=v then 1 else 0)-(if u=w then 1 else 0):=by
 have hd:=D.hd;have hne:=D.ne hc;have e:∀e,e<4->(if 0<=Mu.nx m u e then(1:Int)else 0)=(if 0<=Mu.nx l u e then 1 else 0)-(if u=v/\e=d then 1 else 0)-(if u=w/\e=(d+2)%4 then 1 else 0):=by
  intro e he;have q:=D.nx u e hu he;by_cases c1:u=v/\e=d
  .rw[if_pos (.inl c1)]at q;have n2:¬(u=w/\e=(d+2)%4):=λk=>hne (k.1.symm.trans c1.1);have q2:Mu.nx l u e=w:=by rw[c1.1,c1.2,D.hn]
   rw[q,q2,if_pos c1,if_neg n2,if_neg (by omega),if_pos (by omega)];rfl
  .by_cases c2:u=w/\e=(d+2)%4
   .rw[if_pos (.inr c2)]at q;have q2:Mu.nx l u e=v:=by rw[c2.1,c2.2,D.hb hc]
    rw[q,q2,if_neg c1,if_pos c2,if_neg (by omega),if_pos (by omega)];rfl
   .rw[if_neg (by rintro(q|q);exact c1 q;exact c2 q)]at q;rw[q,if_neg c1,if_neg c2];omega
 rw[Zdr,Zdr,e 0 (by omega),e 1 (by omega),e 2 (by omega),e 3 (by omega)];have s1:(if u=v/\0=d then(1:Int)else 0)+(if u=v/\1=d then 1 else 0)+(if u=v/\2=d then 1 else 0)+(if u=v/\3=d then 1 else 0)=if u=v then 1 else 0:=by
  by_cases c:u=v
  .simp only[c,true_and];have:d=0\/d=1\/d=2\/d=3:=by omega
   rcases this with rfl|rfl|rfl|rfl<;>rfl
  .simp[c]
 have s2:(if u=w/\0=(d+2)%4 then(1:Int)else 0)+(if u=w/\1=(d+2)%4 then 1 else 0)+(if u=w/\2=(d+2)%4 then 1 else 0)+(if u=w/\3=(d+2)%4 then 1 else 0)=if u=w then 1 else 0:=by
  by_cases c:u=w
  .simp only[c,true_and];have:d=0\/d=1\/d=2\/d=3:=by omega
   rcases this with rfl|rfl|rfl|rfl<;>rfl
  .simp[c]
 omega
theorem Zg5{n v:Nat}(hv:v<n){c:Int}:sg (λu=>if u=v then c else 0) n=c:=by
 rw[Zjr hv λi _ hne=>if_neg hne,if_pos rfl]
theorem Del.cD{l m:List Za}(hc:Ck l){v d w:Nat}(D:Del l m v d w):cD l=cD m+2:=by
 unfold Mu.cD;rw[D.len,ZbT (f:=Mu.deg m) (λu hu=>D.deg hc hu),Zjs,Zjs,Zg5 D.hv,Zg5 D.hw];omega
theorem Del.cV{l m:List Za}(hc:Ck l){v d w:Nat}(D:Del l m v d w):cV l=cV m+(if Mu.deg l v=1 then 1 else 0)+(if Mu.deg l w=1 then 1 else 0):=by
 have hne:=D.ne hc;have pv:=ZiN D.e;have pw:=ZiN (D.e' hc);dsimp only at pv pw;have e:∀u,u<l.length->(if Mu.deg l u=0 then(0:Int)else 1)=(if Mu.deg m u=0 then 0 else 1)+(if u=v then(if Mu.deg l v=1 then 1 else 0)else 0)+(if u=w then(if Mu.deg l w=1 then 1 else 0)else 0):=by
  intro u hu;rw[D.deg hc hu];by_cases c1:u=v
  .subst c1;have n:¬u=w:=λq=>hne q.symm;simp only[n,if_true,if_false]
   (repeat' split)<;>omega
  .by_cases c2:u=w
   .subst c2;simp only[c1,if_true,if_false]
    (repeat' split)<;>omega
   .simp only[c1,c2,if_false]
    (repeat' split)<;>omega
 unfold Mu.cV;rw[D.len,ZbT e,ZeT,ZeT,Zg5 D.hv,Zg5 D.hw]
theorem Del.chi{l m:List Za}(hc:Ck l)(hm:Ck m){v d w:Nat}(D:Del l m v d w):(chi l=chi m\/Mu.chi l=Mu.chi m-4)\/(Mu.chi l=Mu.chi m+4/\Mu.bh l (v,d)=(w,(d+2)%4)/\Mu.bh l (w,(d+2)%4)=(v,d)):=by
 have a1:=D.cD hc;have a2:=D.cV hc;have b1:=ZdB hc D.e;have b2:=ZdB hc (D.e' hc);rw[D.opp]at b1;rw[<-D.opp,Zb3 hc D.e,D.opp]at b2;dsimp only at b1 b2;unfold Mu.chi
 cases D.kind hc with
 |two A B R hA hB hl hm' rot same n1 n2 lm=>
  have f1:=hl.len (Fcs.faces hc);have f2:=hm'.len (Fcs.faces hm);simp only[List.length_cons]at f1 f2;rw[if_neg λq=>n2 (b2.2 q),if_neg λq=>n1 (b1.2 q)]at a2;left;left;omega
 |one A B R hA hl hm' rot same n1 n2 lA lB=>
  have f1:=hl.len (Fcs.faces hc);have f2:=hm'.len (Fcs.faces hm);simp only[List.length_cons]at f1 f2;rw[if_neg λq=>n2 (b2.2 q),if_neg λq=>n1 (b1.2 q)]at a2;left;right;omega
 |leaf A R hA hl hm' rot same n=>
  have f1:=hl.len (Fcs.faces hc);have f2:=hm'.len (Fcs.faces hm);simp only[List.length_cons]at f1 f2;left;left;rcases n with⟨n1,n2⟩|⟨n1,n2⟩
  .rw[if_neg λq=>n2 (b2.2 q),if_pos (b1.1 n1)]at a2;omega
  .rw[if_pos (b2.1 n2),if_neg λq=>n1 (b1.2 q)]at a2;omega
 |iso R hA hl hm' same n1 n2=>
  have f1:=hl.len (Fcs.faces hc);have f2:=hm'.len (Fcs.faces hm);simp only[List.length_cons]at f1;rw[if_pos (b2.1 n2),if_pos (b1.1 n1)]at a2;right;exact⟨by omega,n1,n2⟩

/-! What hangs together. -/
def Cn(l:List Za):Prop:=∀C:Da->Prop,(∀x,isD l x->C x->C (bh l x)/\C (opp l x))->∀p q,isD l p->isD l q->C p->C q
structure Sub(m l:List Za):Prop where
 len:m.length=l.length
 nx:∀u e,u<l.length->e<4->nx m u e=nx l u e\/nx m u e=-1
theorem Sub.is{m l:List Za}(S:Sub m l){p:Da}(h:isD m p):isD l p/\Mu.nx m p.1 p.2=Mu.nx l p.1 p.2:=by
 obtain⟨h1,h2,h3⟩:=h;rw[S.len]at h1;rcases S.nx p.1 p.2 h1 h2 with q|q
 .exact⟨⟨h1,h2,by rw[<-q];exact h3⟩,q⟩
 .omega
theorem Sub.opp{m l:List Za}(S:Sub m l){p:Da}(h:isD m p):opp m p=Mu.opp l p:=by unfold Mu.opp;rw[(S.is h).2]
theorem Zn0:∀a b c d:Bool,∀a' b' c' d':Bool,∀i:Fin 4,((!a'||a)&&(!b'||b)&&(!c'||c)&&(!d'||d)&&Zch a' b' c' d' ((i.1+2)%4)&&Zch a' b' c' d' (prv (Zch a b c d) i.1))=true->prv (Zch a' b' c' d') i.1=prv (Zch a b c d) i.1:=by decide+kernel
theorem Sub.bh{m l:List Za}(hm:Ck m)(hl:Ck l)(S:Sub m l){p:Da}(h:isD m p)(h2:isD m (bh l p)):bh m p=Mu.bh l p:=by
 have i1:=S.is h;have f:=h.fwd hm;rw[ZbZ]at h2⊢;rw[ZbZ (l:=l)];rw[i1.2]at f⊢;generalize(Mu.nx l p.1 p.2).toNat=u at*;have hu:u<l.length:=by rw[<-S.len];exact f.1
 have h4:=h.2.1;have im:∀e,e<4->decide (0<=Mu.nx m u e)=true->decide (0<=Mu.nx l u e)=true:=by
  intro e he q;rcases S.nx u e hu he with k|k
  .rw[<-k];exact q
  .rw[k]at q;simp at q
 generalize hA:(λe=>decide (0<=Mu.nx l u e))=A at*;generalize hB:(λe=>decide (0<=Mu.nx m u e))=B at*;have eA:∀e,A e=decide (0<=Mu.nx l u e):=λe=>by rw[<-hA]
 have eB:∀e,B e=decide (0<=Mu.nx m u e):=λe=>by rw[<-hB]
 have q:=Zn0 (A 0) (A 1) (A 2) (A 3) (B 0) (B 1) (B 2) (B 3) ⟨p.2,h4⟩
  (by
   have i0:∀e,e<4->(!B e||A e)=true:=λe he=>by
    have:=im e he;rw[<-eA,<-eB]at this;cases q:B e
    .rfl
    .rw[this q];rfl
   have k1:B ((p.2+2)%4)=true:=by rw[eB,f.2];simp
   have k2:B (prv A p.2)=true:=by rw[eB];have:=h2.2.2;simpa using this
   dsimp only;rw[i0 0 (by omega),i0 1 (by omega),i0 2 (by omega),i0 3 (by omega),Zdb h4,Zc0 (by omega),Zc0 (Zg2 h4),k1,k2];rfl)
 dsimp only at q;rw[Zdb h4,Zdb h4]at q;rw[q]
theorem Zo4{l m:List Za}(hl:Ck l)(hm:Ck m)(S:Sub m l)(Cl:Cn l)(Cm:Cn m){p0:Da}(h0:isD m p0){x:Da}(hx:isD l x)(hx':¬isD m x):∃m' v d w,Ck m'/\Del m' m v d w/\Sub m' l/\Cn m':=by
 have:∃y,isD m y/\¬isD m (bh l y):=by
  refine Classical.byContradiction λq=>hx' ?_;refine Cl (λy=>isD m y) (λy _ hy=>⟨Classical.byContradiction λk=>q ⟨y,hy,k⟩,?_⟩) p0 x (S.is h0).1 hx h0;rw[<-S.opp hy];exact hy.opp hm
 obtain⟨y,hy,hz⟩:=this;have dz:isD l (bh l y):=(S.is hy).1.bh hl;rcases hv:bh l y with⟨v,d⟩;rw[hv]at hz dz;obtain⟨v1,d1,n1⟩:=dz;dsimp only at v1 d1 n1;rcases hl.s v d v1 d1 with⟨a,_⟩|⟨w,w1,w2,w3,w4,w5,w6⟩
 .omega
 have e1:nx m v d=-1:=by
  rcases S.nx v d v1 d1 with q|q
  .exact absurd ⟨by rw[S.len];exact v1,d1,by rw[q];exact n1⟩ hz
  .exact q
 have e2:nx m w ((d+2)%4)=-1:=by
  rcases S.nx w ((d+2)%4) w2 (by omega)with q|q
  .have:=(hm.back' (v:=w) (d:=(d+2)%4) (w:=v) (by rw[S.len];exact w2) (by omega) (by rw[q,w4])).2;rw[show((d+2)%4+2)%4=d by omega,e1]at this;omega
  .exact q
 have v1':v<m.length:=by rw[S.len];exact v1
 have w2':w<m.length:=by rw[S.len];exact w2
 have hm':Ck (wth m v d w (ow l v d)):=hm.wth v1' w2' (λq=>w3 q.symm) d1 e1 e2 w6;have nw:∀u e,u<m.length->e<4->nx (wth m v d w (ow l v d)) u e=if u=v/\e=d then(w:Int)else if u=w/\e=(d+2)%4 then(v:Int)else nx m u e:=λu e hu he=>(ZdK v1' w2' (λq=>w3 q.symm) d1 hu he).1;have hlen:(wth m v d w (ow l v d)).length=m.length:=ZaG;generalize wth m v d w (ow l v d)=m' at*;have D:Del m' m v d w:=by
  refine⟨hlen.symm,by rw[hlen];exact v1',d1,by rw[hlen];exact w2',by rw[nw v d v1' d1,if_pos ⟨rfl,rfl⟩],λu e hu he=>?_⟩;rw[hlen]at hu;rw[nw u e hu he];by_cases c1:u=v/\e=d
  .rw[if_pos (.inl c1),c1.1,c1.2,e1]
  .by_cases c2:u=w/\e=(d+2)%4
   .rw[if_pos (.inr c2),c2.1,c2.2,e2]
   .rw[if_neg (by rintro(q|q);exact c1 q;exact c2 q),if_neg c1,if_neg c2]
 have S':Sub m' l:=by
  refine⟨by rw[hlen,S.len],λu e hu he=>?_⟩;have hu':u<m.length:=by rw[S.len];exact hu
  rw[nw u e hu' he];by_cases c1:u=v/\e=d
  .rw[if_pos c1,c1.1,c1.2];exact .inl w1.symm
  .rw[if_neg c1];by_cases c2:u=w/\e=(d+2)%4
   .rw[if_pos c2,c2.1,c2.2];exact .inl w4.symm
   .rw[if_neg c2];exact S.nx u e hu he
 have Sm:Sub m m':=by
  refine⟨hlen.symm,λu e hu he=>?_⟩;rw[hlen]at hu;by_cases c1:u=v/\e=d
  .rw[c1.1,c1.2];exact .inr e1
  .by_cases c2:u=w/\e=(d+2)%4
   .rw[c2.1,c2.2];exact .inr e2
   .rw[nw u e hu he,if_neg c1,if_neg c2];exact .inl rfl
 have by':bh m' y=(v,d):=by
  have iy:=(Sm.is hy).1;rw[S'.bh hm' hl iy (by rw[hv];exact D.e),hv]
 have oe:opp m' (v,d)=(w,(d+2)%4):=D.opp;have oe':opp m' (w,(d+2)%4)=(v,d):=by rw[<-oe,Zb3 hm' D.e]
 have de:=D.e;have de':=D.e' hm';refine⟨m',v,d,w,hm',D,S',λC hC p q hp hq hCp=>?_⟩;have cl:∀x,isD m x->C x->C (bh m x)/\C (opp m x):=by
  intro x hx hCx;have ix:=(Sm.is hx).1;have c:=hC x ix hCx;refine⟨?_,by rw[Sm.opp hx];exact c.2⟩;rw[(D.bh hm' hx).1];split
  .rename_i k;rw[k]at c;have:=(hC _ de c.1).2;rw[oe]at this;exact(hC _ de' this).1
  .split
   .rename_i k;rw[k]at c;have:=(hC _ de' c.1).2;rw[oe']at this;exact(hC _ de this).1
   .exact c.1
 have some:∃x,isD m x/\C x:=by
  by_cases c1:isD m p
  .exact⟨p,c1,hCp⟩
  .have pe:p=(v,d)\/p=(w,(d+2)%4):=by
    refine Classical.byContradiction λk=>c1 (D.isD.2 ⟨hp,λq=>k (.inl q),λq=>k (.inr q)⟩)
   have ce':C (w,(d+2)%4):=by
    rcases pe with rfl|rfl
    .have:=(hC _ de hCp).2;rwa[oe]at this
    .exact hCp
   refine⟨bh m' (w,(d+2)%4),D.isD.2 ⟨de'.bh hm',λk=>?_,D.bh_e' hm'⟩,(hC _ de' ce').1⟩;rw[<-by']at k;have:=ZbY hm' de' (Sm.is hy).1 k;rw[<-this]at hy;exact(D.isD.1 hy).2.2 rfl
 obtain⟨x1,hx1,cx1⟩:=some;have all:∀z,isD m z->C z:=λz hz=>Cm C cl x1 z hx1 hz cx1;by_cases c1:isD m q
 .exact all q c1
 .have qe:q=(v,d)\/q=(w,(d+2)%4):=by
   refine Classical.byContradiction λk=>c1 (D.isD.2 ⟨hq,λq=>k (.inl q),λq=>k (.inr q)⟩)
  have ce:=(hC y (Sm.is hy).1 (all y hy)).1;rw[by']at ce;rcases qe with rfl|rfl
  .exact ce
  .have:=(hC _ de ce).2;rwa[oe]at this
end Mu
/- Cells of which some edges are left,that hang together,can be Zep if all could. -/
namespace Mu
theorem Cyc.same{l m:List Za}(h1:∀p,isD m p↔isD l p)(h2:∀p,isD l p->bh m p=bh l p){f:List Da}(h:Cyc l f):Cyc m f/\ZW m f=ZW l f:=by
 refine⟨⟨h.ne,h.nd,λp hp=>(h1 p).2 (h.is p hp),λp hp=>by rw[h2 p (h.is p hp)];exact h.cl p hp,λC hC p hp q hq hCp=>h.one C (λx hx hCx=>by rw[<-h2 x hx];exact hC x ((h1 x).2 hx) hCx) p hp q hq hCp⟩,?_⟩;unfold ZW tns;congr 1;exact List.map_congr_left λp hp=>by rw[h2 p (h.is p hp)]
theorem Sub.all{m l:List Za}(hm:Ck m)(hl:Ck l)(S:Sub m l)(h:∀p,isD l p->isD m p):(∀p,isD m p↔isD l p)/\(∀p,isD l p->Mu.bh m p=Mu.bh l p)/\∀u e,u<l.length->e<4->(0<=Mu.nx m u e↔0<=Mu.nx l u e):=by
 refine⟨λp=>⟨λq=>(S.is q).1,h p⟩,λp hp=>S.bh hm hl (h p hp) (h _ (hp.bh hl)),λu e hu he=>⟨λq=>?_,λq=>?_⟩⟩
 .exact(S.is (p:=(u,e)) ⟨by rw[S.len];exact hu,he,q⟩).1.2.2
 .exact(h (u,e) ⟨hu,he,q⟩).2.2
theorem Sub.chi_all{m l:List Za}(hm:Ck m)(hl:Ck l)(S:Sub m l)(h:∀p,isD l p->isD m p):chi l=chi m:=by
 obtain⟨a,b,c⟩:=S.all hm hl h;have hd:∀u,u<l.length->deg m u=deg l u:=by
  intro u hu;rw[Zdr,Zdr];simp only[c u 0 hu (by omega),c u 1 hu (by omega),c u 2 hu (by omega),c u 3 hu (by omega)]
 have hf:Fcs m (faces l):=⟨λf hf=>((Zbe hl f hf).same a b).1,(Fcs.faces hl).nd,λp hp=>(Fcs.faces hl).al p ((a p).1 hp)⟩;unfold chi cV cD;rw[S.len,hf.len (Fcs.faces hm),ZbT (f:=deg m) hd,ZbT (f:=λw=>if deg m w=0 then(0:Int)else 1) (g:=λw=>if deg l w=0 then(0:Int)else 1) λu hu=>by rw[hd u hu]]
theorem ZpP{f g:Nat->Int}:∀{n:Nat},(∀i,i<n->f i<=g i)->sg f n<=sg g n
 |0,_=>by simp[sg]
 |n+1,h=>by
  rw[sg,sg];have:=ZpP (n:=n) λi hi=>h i (by omega);have:=h n (by omega);omega
theorem Sub.cD_le{m l:List Za}(S:Sub m l):cD m<=cD l:=by
 unfold cD;rw[S.len];refine ZpP λu hu=>?_;have k:∀e,e<4->(if 0<=Mu.nx m u e then(1:Int)else 0)<=if 0<=Mu.nx l u e then 1 else 0:=by
  intro e he;rcases S.nx u e hu he with q|q
  .rw[q];omega
  .rw[q,if_neg (by omega)];split<;>omega
 have:=k 0 (by omega);have:=k 1 (by omega);have:=k 2 (by omega);have:=k 3 (by omega);rw[Zdr,Zdr];omega
theorem ZkF{l m:List Za}(hc:Ck l){v d w:Nat}(D:Del l m v d w)(Cl:Cn l){p:Da}(hp:isD m p)(h1:bh l (v,d)=(w,(d+2)%4))(h2:bh l (w,(d+2)%4)=(v,d)):False:=by
 have ip:=D.isD.1 hp;have:=Cl (λx=>x=(v,d)\/x=(w,(d+2)%4)) (λx hx hCx=>by
  rcases hCx with rfl|rfl
  .exact⟨.inr h1,.inr D.opp⟩
  .exact⟨.inl h2,.inl (by rw[<-D.opp,Zb3 hc D.e])⟩) (v,d) p D.e ip.1 (.inl rfl)
 rcases this with q|q
 .exact ip.2.1 q
 .exact ip.2.2 q
theorem ZmI{l:List Za}(hl:Ck l)(Cl:Cn l):∀(k:Nat)(m:List Za),Ck m->Sub m l->Cn m->(∃p,isD m p)->(cD l-cD m).toNat<=k->chi l<=chi m:=by
 intro k
 induction k with
 |zero=>
  intro m hm S Cm ⟨p0,h0⟩ hk;by_cases c:∀p,isD l p->isD m p
  .rw[S.chi_all hm hl c];exact Int.le_refl _
  .have:∃p,isD l p/\¬isD m p:=Classical.byContradiction λq=>c λp hp=>Classical.byContradiction λr=>q ⟨p,hp,r⟩;obtain⟨x,hx,hx'⟩:=this;obtain⟨m',v,d,w,hm',D,S',C'⟩:=Zo4 hl hm S Cl Cm h0 hx hx';have:=D.cD hm';have:=S'.cD_le;omega
 | succ k ih=>
  intro m hm S Cm ⟨p0,h0⟩ hk;by_cases c:∀p,isD l p->isD m p
  .rw[S.chi_all hm hl c];exact Int.le_refl _
  .have:∃p,isD l p/\¬isD m p:=Classical.byContradiction λq=>c λp hp=>Classical.byContradiction λr=>q ⟨p,hp,r⟩;obtain⟨x,hx,hx'⟩:=this;obtain⟨m',v,d,w,hm',D,S',C'⟩:=Zo4 hl hm S Cl Cm h0 hx hx';have e1:=D.cD hm';have:=ih m' hm' S' C' ⟨p0,(D.isD.1 h0).1⟩ (by omega);rcases D.chi hm' hm with(q|q)|⟨_,q1,q2⟩
   .omega
   .omega
   .exact(ZkF hm' D C' h0 q1 q2).elim
theorem ZeR{n u e:Nat}(h:u<n)(he:e<4):nx (List.replicate n noC) u e=-1:=by
 have:gi (List.replicate n noC) u=noC:=by rw[zO (by simpa using h)];simp
 unfold nx;rw[this];exact(Znt he).1
theorem ZiJ{n:Nat}:chi (List.replicate n noC)=0:=by
 have hd:∀u,u<n->deg (List.replicate n noC) u=0:=by
  intro u hu;rw[Zdr,ZeR hu (by omega),ZeR hu (by omega),ZeR hu (by omega),ZeR hu (by omega)];rfl
 have hf:Fcs (List.replicate n noC) []:=⟨by simp,by simp,λp hp=>by
  have h1:=hp.1;have h2:=hp.2.2;rw[ZeR (by simpa using h1) hp.2.1]at h2;omega⟩
 unfold chi cV cD;rw[<-hf.len (Fcs.faces (Ck.new n)),Zf0 (f:=deg (List.replicate n noC)) (λu hu=>hd u (by simpa using hu)),Zf0 λu hu=>by rw[if_pos (hd u (by simpa using hu))]];rfl
theorem Zor{m:List Za}(hm:Ck m)(Cm:Cn m){p:Da}(hp:isD m p):chi m<=4:=by
 obtain⟨v,d⟩:=p;obtain⟨v1,d1,n1⟩:=hp;dsimp only at v1 d1 n1;rcases hm.s v d v1 d1 with⟨a,_⟩|⟨w,w1,w2,w3,w4,w5,w6⟩
 .omega
 have v1':v<(List.replicate m.length noC).length:=by simpa using v1
 have w2':w<(List.replicate m.length noC).length:=by simpa using w2
 have hs:Ck (wth (List.replicate m.length noC) v d w (ow m v d)):=(Ck.new _).wth v1' w2' (λq=>w3 q.symm) d1 (ZeR v1 d1) (ZeR w2 (by omega)) w6;have nw:∀u e,u<m.length->e<4->nx (wth (List.replicate m.length noC) v d w (ow m v d)) u e=if u=v/\e=d then(w:Int)else if u=w/\e=(d+2)%4 then(v:Int)else -1:=λu e hu he=>by
  rw[(ZdK v1' w2' (λq=>w3 q.symm) d1 (by simpa using hu) he).1,ZeR hu he]
 have hlen:(wth (List.replicate m.length noC) v d w (ow m v d)).length=m.length:=by rw[ZaG];simp
 generalize wth (List.replicate m.length noC) v d w (ow m v d)=s at*;have D:Del s (List.replicate m.length noC) v d w:=by
  refine⟨by rw[hlen];simp,by rw[hlen];exact v1,d1,by rw[hlen];exact w2,by rw[nw v d v1 d1,if_pos ⟨rfl,rfl⟩],λu e hu he=>?_⟩;rw[hlen]at hu;rw[nw u e hu he,ZeR hu he];by_cases c1:u=v/\e=d
  .rw[if_pos (.inl c1)]
  .by_cases c2:u=w/\e=(d+2)%4
   .rw[if_pos (.inr c2)]
   .rw[if_neg (by rintro(q|q);exact c1 q;exact c2 q),if_neg c1,if_neg c2]
 have S:Sub s m:=by
  refine⟨hlen,λu e hu he=>?_⟩;rw[nw u e hu he];by_cases c1:u=v/\e=d
  .rw[if_pos c1,c1.1,c1.2];exact .inl w1.symm
  .rw[if_neg c1];by_cases c2:u=w/\e=(d+2)%4
   .rw[if_pos c2,c2.1,c2.2];exact .inl w4.symm
   .rw[if_neg c2];exact .inr rfl
 have only:∀x,isD s x->x=(v,d)\/x=(w,(d+2)%4):=by
  intro x hx;have h1:=hx.1;rw[hlen]at h1;have h3:=hx.2.2;rw[nw _ _ h1 hx.2.1]at h3;by_cases c1:x.1=v/\x.2=d
  .exact .inl (Prod.ext c1.1 c1.2)
  .rw[if_neg c1]at h3;by_cases c2:x.1=w/\x.2=(d+2)%4
   .exact .inr (Prod.ext c2.1 c2.2)
   .rw[if_neg c2]at h3;omega
 have oe:opp s (v,d)=(w,(d+2)%4):=D.opp;have oe':opp s (w,(d+2)%4)=(v,d):=by rw[<-oe,Zb3 hs D.e]
 have Cs:Cn s:=by
  intro C hC p q hp hq hCp;have both:C (v,d)/\C (w,(d+2)%4):=by
   rcases only p hp with rfl|rfl
   .have:=(hC _ D.e hCp).2;rw[oe]at this;exact⟨hCp,this⟩
   .have:=(hC _ (D.e' hs) hCp).2;rw[oe']at this;exact⟨this,hCp⟩
  rcases only q hq with rfl|rfl
  .exact both.1
  .exact both.2
 have b1:bh s (v,d)=(w,(d+2)%4):=by
  rcases only _ (D.e.bh hs)with q|q
  .exact absurd q (D.bh_e hs)
  .exact q
 have b2:bh s (w,(d+2)%4)=(v,d):=by
  rcases only _ ((D.e' hs).bh hs)with q|q
  .exact q
  .exact absurd q (D.bh_e' hs)
 have:=ZmI hm Cm _ s hs S Cs ⟨_,D.e⟩ (Nat.le_refl _);rcases D.chi hs (Ck.new _)with(q|q)|⟨q,_⟩
 .rw[ZiJ]at q;omega
 .rw[ZiJ]at q;omega
 .rw[ZiJ]at q;omega

/-! Rotations and Euler's number. -/
theorem Zmj{l:List Za}(hc:Ck l):((ZbW l).map (tt l)).sum=2*cD l-4*cV l:=by
 have:(ZbW l).map (tt l)=(ZbW l).map λp=>tn p.2 (bh l p).2:=rfl;rw[this,Zmi];have e1:sg (λv=>sg (λd=>if 0<=nx l v d then tn d (bh l (v,d)).2 else 0) 4) l.length=sg (λd=>sg (λv=>if 0<=nx l v d then tn d (bh l (v,d)).2 else 0) l.length) 4:=Zhf;have e2:sg (λd=>sg (λv=>if 0<=nx l v d then tn d (bh l (v,d)).2 else 0) l.length) 4=sg (λd=>sg (λw=>if 0<=nx l w ((d+2)%4)then arr l w d else 0) l.length) 4:=by
  refine ZbT λd hd=>?_;refine ZnB hc hd (λv hv c=>if_neg (by omega)) (λv hv c=>if_neg (by omega)) (λv w hv hw e=>?_);have b:=(hc.back' hv hd e);rw[if_pos (by omega),if_pos (by omega)];have:=ZpS (l:=l) (p:=(v,d)) hd;dsimp only at this;rw[this,e,itn]
 have e3:sg (λd=>sg (λw=>if 0<=nx l w ((d+2)%4)then arr l w d else 0) l.length) 4=sg (λw=>2*deg l w-4*(if deg l w=0 then 0 else 1)) l.length:=by
  rw[Zhf];refine ZbT λw hw'=>?_;by_cases c:deg l w=0
  .rw[if_pos c,c];have k:∀d,d<4->¬0<=nx l w d:=by
    intro d hd q;have:=ZiN (l:=l) (p:=(w,d)) ⟨hw',hd,q⟩;dsimp only at this;omega
   rw[Zpg,if_neg (k _ (by omega)),if_neg (k _ (by omega)),if_neg (k _ (by omega)),if_neg (k _ (by omega))];rfl
  .rw[if_neg c,Zkw (Zq2 c)];rfl
 show sg (λv=>sg (λd=>if 0<=nx l v d then tn d (bh l (v,d)).2 else 0) 4) l.length=_;rw[e1,e2,e3,Zjs,ZkR,ZkR];rfl
theorem Fcs.sum{l:List Za}(hc:Ck l){F:List (List Da)}(h:Fcs l F):(F.map (ZW l)).sum=2*cD l-4*cV l:=by
 have pe:F.flatten.Perm (ZbW l):=(List.perm_ext_iff_of_nodup h.nd ZcR).2 λp=>by
  rw[ZaL];refine⟨λq=>?_,h.al p⟩;obtain⟨f,hf,hp⟩:=List.mem_flatten.1 q;exact(h.cy f hf).is p hp
 rw[<-Zmj hc,<-ZcU pe,Zfo];rfl
theorem ZkJ:∀{R:List Int},(∀r∈R,r=4\/r=-4)->R.sum<=4*R.length/\(R.sum=4*R.length->∀r∈R,r=4)
 |[],_=>⟨by simp,λ_ r hr=>by simp at hr⟩
 |a::R,h=>by
  obtain⟨i1,i2⟩:=ZkJ (R:=R) λr hr=>h r (List.mem_cons_of_mem _ hr);have ha:=h a (by simp);rw[List.sum_cons,List.length_cons];refine⟨by omega,λe r hr=>?_⟩;rcases List.mem_cons.1 hr with rfl|hr
  .omega
  .exact i2 (by omega) r hr
theorem Znw:∀{R:List Int},(∀r∈R,r=4\/r=-4)->R.sum=4*R.length-8->∃i,i<R.length/\gi R i=-4/\∀j,j<R.length->gi R j=-4->j=i
 |[],_,h=>by simp at h
 | a::R,h,hs=>by
  have hR:=λr hr=>h r (List.mem_cons_of_mem a hr);have ha:=h a (by simp);rw[List.sum_cons,List.length_cons]at hs;rcases ha with rfl|rfl
  .obtain⟨i,h1,h2,h3⟩:=Znw hR (by omega);refine⟨i+1,by simp;omega,h2,λj hj e=>?_⟩
   cases j with
   |zero=>have e':(4:Int)=-4:=e;omega
   |succ j=>rw[h3 j (by simp at hj;omega) e]
  .have:=(ZkJ hR).2 (by omega);refine⟨0,by simp,rfl,λj hj e=>?_⟩
   cases j with
   |zero=>rfl
   |succ j=>
    have hj':j<R.length:=by simp at hj;omega
    have e':gi R j=-4:=e;have:=this _ (zh hj');omega
theorem Zdc{l:List Za}(hc:Ck l):Val l↔(∀f,Cyc l f->ZW l f=4\/ZW l f=-4)/\chi l=4:=by
 have sm:=(Fcs.faces hc).sum hc;constructor
 .intro h;obtain⟨a,ha,h0⟩:=Zgh.2 h;have ft:=ZjH ha h0;have e:(((faces l).flatten.map λp=>tn p.2 (bh l p).2)).sum=((faces l).map (ZW l)).sum:=by rw[Zfo];rfl
  rw[e,sm]at ft;refine⟨λf hf=>?_,by unfold chi;omega⟩;obtain⟨p,hp⟩:=List.exists_mem_of_ne_nil f hf.ne;obtain⟨i,hi,hpi⟩:=Zfr hc (hf.is p hp) (ZiD hc);rw[Zb7 (hf.perm (Zbe hc _ (zh hi)) hp hpi)];exact h.1 i hi
 .rintro⟨h,hchi⟩;have pm:∀r∈(faces l).map (ZW l),r=4\/r=-4:=by
   intro r hr;obtain⟨f,hf,rfl⟩:=List.mem_map.1 hr;exact h f (Zbe hc f hf)
  unfold chi at hchi;obtain⟨i,h1,h2,h3⟩:=Znw pm (by rw[sm,List.length_map];omega);rw[List.length_map]at h1 h3;refine⟨λj hj=>h _ (Zbe hc _ (zh hj)),⟨i,h1,by rw[<-ZaR (f:=ZW l) h1];exact h2⟩,λj k hj hk e1 e2=>?_⟩;rw[h3 j hj (by rw[ZaR hj];exact e1),h3 k hk (by rw[ZaR hk];exact e2)]
theorem ZoV{l:List Za}(hc:Ck l){f g:List Da}{R:List (List Da)}(h:Fcs l (f::g::R))(hp:∀f,Cyc l f->ZW l f=4\/ZW l f=-4)(hchi:chi l=4)(h1:ZW l f=-4)(h2:ZW l g=-4):False:=by
 have sm:=h.sum hc;have ln:=h.len (Fcs.faces hc);have:=(ZkJ (R:=R.map (ZW l)) λr hr=>by
  obtain⟨x,hx,rfl⟩:=List.mem_map.1 hr;exact hp x (h.cy x (by simp[hx]))).1
 unfold chi at hchi;simp only[List.map_cons,List.sum_cons,List.length_cons,List.length_map]at sm ln this;omega
theorem Del.val{l m:List Za}(hc:Ck l)(hm:Ck m){v d w:Nat}(D:Del l m v d w)(Cl:Cn l)(Cm:Cn m){p:Da}(hp:Mu.isD m p)(h:Val l):Val m:=by
 obtain⟨h1,h2⟩:=(Zdc hc).1 h;have t:=Zor hm Cm hp;have key:∀F,Fcs m F->(∀f∈F,ZW m f=4\/ZW m f=-4)->∀f,Cyc m f->ZW m f=4\/ZW m f=-4:=by
  intro F hF hr f hf;obtain⟨x,hx⟩:=List.exists_mem_of_ne_nil f hf.ne;obtain⟨g,hg,hxg⟩:=List.mem_flatten.1 (hF.al x (hf.is x hx));rw[Zb7 (hf.perm (hF.cy g hg) hx hxg)];exact hr g hg
 have X:Mu.chi m=4:=by
  rcases D.chi hc hm with(q|q)|⟨_,q1,q2⟩
  .omega
  .omega
  .exact(ZkF hc D Cl hp q1 q2).elim
 refine(Zdc hm).2 ⟨?_,X⟩;have a1:=D.cD hc;have a2:=D.cV hc
 cases D.kind hc with
 | two A B R hA hB hl hm' rot same n1 n2 lm=>
  refine key _ hm' λf hf=>?_;rcases List.mem_cons.1 hf with rfl|hf
  .rw[rot];rcases h1 _ hA.cyc with x|x<;>rcases h1 _ hB.cyc with y|y
   .left;omega
   .right;omega
   .right;omega
   .exact(ZoV hc hl h1 h2 x y).elim
  .rw[same f hf];exact h1 f (hl.cy f (by simp[hf]))
 |one A B R hA hl hm' rot same n1 n2 lA lB=>
  have f1:=hl.len (Fcs.faces hc);have f2:=hm'.len (Fcs.faces hm);simp only[List.length_cons]at f1 f2;have b1:=ZdB hc D.e;have b2:=ZdB hc (D.e' hc);rw[D.opp]at b1;rw[<-D.opp,Zb3 hc D.e,D.opp]at b2;dsimp only at b1 b2;rw[if_neg λq=>n2 (b2.2 q),if_neg λq=>n1 (b1.2 q)]at a2;unfold Mu.chi at h2 X;omega
 |leaf A R hA hl hm' rot same n=>
  refine key _ hm' λf hf=>?_;rcases List.mem_cons.1 hf with rfl|hf
  .rw[rot];exact h1 _ hA
  .rw[same f hf];exact h1 f (hl.cy f (by simp[hf]))
 |iso R hA hl hm' same n1 n2=>exact(ZkF hc D Cl hp n1 n2).elim
theorem Sub.val{l:List Za}(hl:Ck l)(Cl:Cn l)(h:Val l):∀(k:Nat)(m:List Za),Ck m->Sub m l->Cn m->(∃p,isD m p)->(cD l-cD m).toNat<=k->Val m:=by
 intro k
 induction k with
 |zero=>
  intro m hm S Cm ⟨p0,h0⟩ hk;by_cases c:∀p,isD l p->isD m p
  .obtain⟨a,b,_⟩:=S.all hm hl c;obtain⟨h1,h2⟩:=(Zdc hl).1 h;refine(Zdc hm).2 ⟨λf hf=>?_,by rw[<-S.chi_all hm hl c];exact h2⟩;obtain⟨k1,k2⟩:=hf.same (l:=m) (m:=l) (λp=>(a p).symm) λp hp=>(b p ((a p).1 hp)).symm;rw[<-k2];exact h1 f k1
  .have:∃p,isD l p/\¬isD m p:=Classical.byContradiction λq=>c λp hp=>Classical.byContradiction λr=>q ⟨p,hp,r⟩;obtain⟨x,hx,hx'⟩:=this;obtain⟨m',v,d,w,hm',D,S',C'⟩:=Zo4 hl hm S Cl Cm h0 hx hx';have:=D.cD hm';have:=S'.cD_le;omega
 |succ k ih=>
  intro m hm S Cm ⟨p0,h0⟩ hk;by_cases c:∀p,isD l p->isD m p
  .obtain⟨a,b,_⟩:=S.all hm hl c;obtain⟨h1,h2⟩:=(Zdc hl).1 h;refine(Zdc hm).2 ⟨λf hf=>?_,by rw[<-S.chi_all hm hl c];exact h2⟩;obtain⟨k1,k2⟩:=hf.same (l:=m) (m:=l) (λp=>(a p).symm) λp hp=>(b p ((a p).1 hp)).symm;rw[<-k2];exact h1 f k1
  .have:∃p,isD l p/\¬isD m p:=Classical.byContradiction λq=>c λp hp=>Classical.byContradiction λr=>q ⟨p,hp,r⟩;obtain⟨x,hx,hx'⟩:=this;obtain⟨m',v,d,w,hm',D,S',C'⟩:=Zo4 hl hm S Cl Cm h0 hx hx';have e1:=D.cD hm';exact D.val hm' hm C' Cm h0 (ih m' hm' S' C' ⟨p0,(D.isD.1 h0).1⟩ (by omega))
end Mu
/- Cells on a plane:laid out on the board's own lines. -/
namespace Mu
/-! Cells that hang together,dart by dart. -/
theorem ZuV:∀a b c d:Bool,∀i j:Fin 4,Zch a b c d i.1=true->Zch a b c d j.1=true->
  j.1=i.1\/j.1=prv (Zch a b c d) ((i.1+2)%4)\/j.1=prv (Zch a b c d) ((prv (Zch a b c d) ((i.1+2)%4)+2)%4)\/j.1=prv (Zch a b c d) ((prv (Zch a b c d) ((prv (Zch a b c d) ((i.1+2)%4)+2)%4)+2)%4):=by decide+kernel
theorem Zl7{l:List Za}(hc:Ck l){C:Da->Prop}(hC:∀x,isD l x->C x->C (bh l x)/\C (opp l x)){u i j:Nat}(hi:isD l (u,i))(hj:isD l (u,j))(h:C (u,i)):C (u,j):=by
 have st:∀{k},isD l (u,k)->C (u,k)->isD l (u,prv (λe=>decide (0<=nx l u e)) ((k+2)%4))/\C (u,prv (λe=>decide (0<=nx l u e)) ((k+2)%4)):=by
  intro k hk hCk;have f:=hk.fwd hc;have o:=hk.opp hc;have c1:=(hC _ hk hCk).2;have c2:=(hC _ o c1).1;have c3:=o.bh hc;rw[ZbZ]at c2 c3;have e:(nx l (opp l (u,k)).1 (opp l (u,k)).2).toNat=u:=by
   show(nx l (nx l u k).toNat ((k+2)%4)).toNat=u;have:=f.2;dsimp only at this;rw[this];omega
  rw[e]at c2 c3;exact⟨c3,c2⟩
 have q:=ZuV (decide (0<=nx l u 0)) (decide (0<=nx l u 1)) (decide (0<=nx l u 2)) (decide (0<=nx l u 3)) ⟨i,hi.2.1⟩ ⟨j,hj.2.1⟩;have se:∀e,e<4->Zch (decide (0<=nx l u 0)) (decide (0<=nx l u 1)) (decide (0<=nx l u 2)) (decide (0<=nx l u 3)) e=decide (0<=nx l u e):=λe he=>Zc0 (A:=λe=>decide (0<=nx l u e)) he;have pe:∀e,e<4->prv (Zch (decide (0<=nx l u 0)) (decide (0<=nx l u 1)) (decide (0<=nx l u 2)) (decide (0<=nx l u 3))) e=prv (λe=>decide (0<=nx l u e)) e:=λe he=>Zdb (A:=λe=>decide (0<=nx l u e)) he;have i0:=hi.2.2;have j0:=hj.2.2;dsimp only at q i0 j0;have q:=q (by rw[se i hi.2.1];simpa using i0) (by rw[se j hj.2.1];simpa using j0);have l1:prv (λe=>decide (0<=nx l u e)) ((i+2)%4)<4:=Zg2 (by omega);rw[pe _ (by omega),pe _ (by omega),pe _ (by omega)]at q;obtain⟨d1,c1⟩:=st hi h;obtain⟨d2,c2⟩:=st d1 c1;obtain⟨d3,c3⟩:=st d2 c2;rcases q with q|q|q|q
 .rw[q];exact h
 .rw[q];exact c1
 .rw[q];exact c2
 .rw[q];exact c3
theorem Zqz{l:List Za}(hc:Ck l){C:Da->Prop}(hC:∀x,isD l x->C x->C (bh l x)/\C (opp l x)){u n w:Nat}(hu:u<l.length)(hr:Rch l u n w)(h:∀j,isD l (u,j)->C (u,j)):∀j,isD l (w,j)->C (w,j):=by
 induction hr with
 |zero=>exact h
 |succ hr hab ih=>
  rename_i n a b;have ha:=hr.lt hc hu;obtain⟨d,hd,e⟩:=hab;have D:isD l (a,d):=⟨ha,hd,by rw[e];omega⟩;have c:=(hC _ D (ih d D)).2;have o:=D.opp hc;have eo:opp l (a,d)=(b,(d+2)%4):=by unfold opp;dsimp only;rw[e,itn]
  rw[eo]at c o;exact λj hj=>Zl7 hc hC o hj c
theorem Zhq{l:List Za}(hc:Ck l)(h:whole l):Cn l:=by
 intro C hC p q hp hq hCp;have all:∀j,isD l (p.1,j)->C (p.1,j):=λj hj=>Zl7 (i:=p.2) hc hC hp hj hCp;obtain⟨n,r1⟩:=Zdo h hp.1;obtain⟨m,r2⟩:=Zdo h hq.1;exact Zqz hc hC hp.1 ((r1.symm hc (by have:=hp.1;omega)).trans r2) all q.2 hq

/-! The board. -/
end Mu
/- A way of ZbW that never Zgx one way does not come back:numbers that rise along it. -/
namespace Mu
theorem Zbi{α:Type}[Inhabited α]{l:List α}{x:α}(h:x∈l):∃i,i<l.length/\gi l i=x:=by
 obtain⟨i,hi,e⟩:=List.mem_iff_getElem.1 h;exact⟨i,hi,by rw[zO hi,e]⟩
theorem ZqB{α:Type}[Inhabited α]{l:List α}(h:l.Nodup){i j:Nat}(hi:i<l.length)(hj:j<l.length)(e:gi l i=gi l j):i=j:=by
 rw[List.Nodup,List.pairwise_iff_getElem]at h;rw[zO hi,zO hj]at e;refine Classical.byContradiction λc=>?_;rcases Nat.lt_or_gt_of_ne c with q|q
 .exact h i j hi hj q e
 .exact h j i hj hi q e.symm
def ZsI(l:List Za)(A:Da->Bool)(v:Nat):Za:=⟨⟨if A (v,0)then nx l v 0 else -1,if A (v,1)then nx l v 1 else -1,if A (v,2)then nx l v 2 else -1,if A (v,3)then nx l v 3 else -1⟩,⟨if A (v,0)then ow l v 0 else 0,if A (v,1)then ow l v 1 else 0,if A (v,2)then ow l v 2 else 0,if A (v,3)then ow l v 3 else 0⟩⟩
def flt(l:List Za)(A:Da->Bool):List Za:=(List.range l.length).map (ZsI l A)
theorem ZgZ{l:List Za}{A:Da->Bool}:(flt l A).length=l.length:=by simp[flt]
theorem ZfB{l:List Za}{A:Da->Bool}{v d:Nat}(hv:v<l.length)(hd:d<4):nx (flt l A) v d=(if A (v,d)then nx l v d else -1)/\ow (flt l A) v d=(if A (v,d)then ow l v d else 0):=by
 have e:gi (flt l A) v=ZsI l A v:=Zbf hv;unfold nx ow;rw[e]
 match d,hd with
 |0,_|1,_|2,_|3,_=>exact⟨rfl,rfl⟩
theorem Zga{l:List Za}{A:Da->Bool}{p:Da}:isD (flt l A) p↔isD l p/\A p=true:=by
 unfold isD;rw[ZgZ];constructor
 .rintro⟨a,b,c⟩;rw[(ZfB a b).1]at c;by_cases q:A (p.1,p.2)=true
  .rw[if_pos q]at c;exact⟨⟨a,b,c⟩,q⟩
  .rw[if_neg q]at c;omega
 .rintro⟨⟨a,b,c⟩,q⟩;have q':A (p.1,p.2)=true:=q;refine⟨a,b,?_⟩;rw[(ZfB a b).1,if_pos q'];exact c
theorem Zox{l:List Za}{A:Da->Bool}:Sub (flt l A) l:=⟨ZgZ,λu e hu he=>by
 rw[(ZfB hu he).1];split
 .exact .inl rfl
 .exact .inr rfl⟩
theorem Zq7{l:List Za}(hc:Ck l){A:Da->Bool}(hA:∀p,isD l p->A p=true->A (opp l p)=true):Ck (flt l A):=by
 refine⟨λv d hv hd=>?_⟩;rw[ZgZ]at hv⊢;rw[(ZfB hv hd).1,(ZfB hv hd).2];rcases hc.s v d hv hd with⟨a,b⟩|⟨w,a,b,c,e,f,g⟩
 .left;constructor
  .split
   .exact a
   .rfl
  .split
   .exact b
   .rfl
 .by_cases q:A (v,d)=true
  .right;have iv:isD l (v,d):=⟨hv,hd,by rw[a];omega⟩;have q2:A (w,(d+2)%4)=true:=by
    have:=hA _ iv q;unfold opp at this;dsimp only at this;rw[a,itn]at this;exact this
   refine⟨w,by rw[if_pos q,a],b,c,?_,?_,?_⟩
   .rw[(ZfB b (by omega)).1,if_pos q2,e]
   .rw[(ZfB b (by omega)).2,if_pos q2,if_pos q,f]
   .rw[if_pos q];exact g
  .left;rw[if_neg q,if_neg q];exact⟨rfl,rfl⟩
def Wk(l:List Za):Nat->List Da->Nat->Prop
 |x,[],y=>x=y
 |x,p::t,y=>p.1=x/\isD l p/\Wk l (nx l p.1 p.2).toNat t y
theorem Wk.cut{l:List Za}{y:Nat}:∀{s:List Da}{x u:Nat},Wk l x s y->u∈s.map (·.1)->∃a b,s=a++b/\Wk l u b y
 |[],x,u,h,hu=>by simp at hu
 | p::s,x,u,h,hu=>by
  by_cases c:u=p.1
  .exact⟨[],p::s,rfl,by subst c;exact⟨rfl,h.2.1,h.2.2⟩⟩
  .have:u∈s.map (·.1):=by
    rw[List.map_cons,List.mem_cons]at hu;exact hu.resolve_left c
   obtain⟨a,b,e,w⟩:=Wk.cut h.2.2 this;exact⟨p::a,b,by rw[e];rfl,w⟩
theorem Wk.simple{l:List Za}{y:Nat}{D:Nat->Prop}:∀{s:List Da}{x:Nat},Wk l x s y->(∀p∈s,D p.2)->∃s',Wk l x s' y/\(∀p∈s',D p.2)/\(s'.map (·.1)).Nodup/\y∉s'.map (·.1)
 |[],x,h,hD=>⟨[],h,by simp,by simp,by simp⟩
 | p::s,x,h,hD=>by
  obtain⟨s',w,d,nd,ny⟩:=Wk.simple h.2.2 (λq hq=>hD q (by simp[hq]));by_cases c:x=y
  .exact⟨[],c,by simp,by simp,by simp⟩
  .by_cases e:x∈s'.map (·.1)
   .obtain⟨a,b,e1,w1⟩:=Wk.cut w e;subst e1;rw[List.map_append]at nd ny;refine⟨b,w1,λq hq=>d q (by simp[hq]),(List.nodup_append.1 nd).2.1,λq=>ny (by simp only[List.mem_append];exact .inr q)⟩
   .refine⟨p::s',⟨h.1,h.2.1,w⟩,?_,?_,?_⟩
    .intro q hq;rcases List.mem_cons.1 hq with rfl|hq
     .exact hD _ (by simp)
     .exact d q hq
    .rw[List.map_cons,List.nodup_cons,h.1];exact⟨e,nd⟩
    .rw[List.map_cons,List.mem_cons,h.1];rintro(q|q)
     .exact c q.symm
     .exact ny q
theorem Wk.at{l:List Za}{y:Nat}:∀{s:List Da}{x:Nat},Wk l x s y->∀i,i<s.length->isD l (gi s i)/\(nx l (gi s i).1 (gi s i).2).toNat=(if i+1<s.length then(gi s (i+1)).1 else y)/\(i=0->(gi s i).1=x)
 |[],x,h,i,hi=>by simp at hi
 | p::s,x,h,0,hi=>by
  have e0:gi (p::s) 0=p:=rfl;rw[e0];refine⟨h.2.1,?_,λ_=>h.1⟩
  match s,h with
  |[],h=>simp;exact h.2.2
  |q::s,h=>
   rw[if_pos (by simp)];exact h.2.2.1.symm
 |p::s,x,h,i+1,hi=>by
  have hi':i<s.length:=by simpa using hi
  have e0:∀j,gi (p::s) (j+1)=gi s j:=λj=>rfl;rw[e0,e0];obtain⟨a,b,_⟩:=Wk.at h.2.2 i hi';refine⟨a,?_,λc=>by omega⟩;rw[b];by_cases c:i+1<s.length
  .rw[if_pos c,if_pos (by simp;omega)]
  .rw[if_neg c,if_neg (by simp;omega)]
def ph(d0 e:Nat):Int:=if e=d0 then 0 else if e=(d0+1)%4 then 1 else -1
theorem ZrC:∀d a b:Fin 4,a.1≠(d.1+2)%4->b.1≠(d.1+2)%4->b.1≠(a.1+2)%4->tn a.1 b.1=ph d.1 b.1-ph d.1 a.1:=by decide+kernel
theorem ZtJ{d a b:Nat}(hd:d<4)(ha:a<4)(hb:b<4)(h1:a≠(d+2)%4)(h2:b≠(d+2)%4)(h3:b≠(a+2)%4):tn a b=ph d b-ph d a:=ZrC ⟨d,hd⟩ ⟨a,ha⟩ ⟨b,hb⟩ h1 h2 h3
theorem ZlB{f g:Da->Int}:∀{L:List Da},(L.map λp=>f p-g p).sum=(L.map f).sum-(L.map g).sum
 |[]=>rfl
 |a::L=>by simp only[List.map_cons,List.sum_cons];rw[ZlB];omega
theorem Zns{l:List Za}(hc:Ck l)(hV:Val l)(Cl:Cn l){d0:Nat}(h4:d0<4){p:Da}(hp:isD l p)(hp2:p.2=d0){s:List Da}(hs:Wk l (nx l p.1 p.2).toNat s p.1)(hD:∀q∈s,q.2≠(d0+2)%4):False:=by
 obtain⟨s,hs,hD,nd,ny⟩:=hs.simple (D:=λe=>e≠(d0+2)%4) hD;obtain⟨f,hf⟩:∃f,f=p::s:=⟨_,rfl⟩;have w:Wk l p.1 f p.1:=by rw[hf];exact⟨rfl,hp,hs⟩
 have fnd:(f.map (·.1)).Nodup:=by rw[hf,List.map_cons,List.nodup_cons];exact⟨ny,nd⟩
 have fD:∀q∈f,q.2≠(d0+2)%4:=by
  intro q hq;rw[hf]at hq;rcases List.mem_cons.1 hq with rfl|hq
  .omega
  .exact hD q hq
 have f0:0<f.length:=by rw[hf];simp
 have g0:gi f 0=p:=by rw[hf];rfl
 have at_:=λi hi=>w.at i hi;have inj:∀i j,i<f.length->j<f.length->(gi f i).1=(gi f j).1->i=j:=by
  intro i j hi hj h;have k:∀i,i<f.length->gi (f.map (·.1)) i=(gi f i).1:=λi hi=>ZaR hi;rw[<-k i hi,<-k j hj]at h;exact ZqB fnd (by simpa using hi) (by simpa using hj) h
 obtain⟨nxi,hnx⟩:∃nxi:Nat->Nat,∀i,nxi i=if i+1<f.length then i+1 else 0:=⟨λi=>if i+1<f.length then i+1 else 0,λ_=>rfl⟩;have nlt:∀i,i<f.length->nxi i<f.length:=λi hi=>by rw[hnx];split<;>omega
 have tgt:∀i,i<f.length->(nx l (gi f i).1 (gi f i).2).toNat=(gi f (nxi i)).1:=by
  intro i hi;rw[(at_ i hi).2.1,hnx];split
  .rfl
  .rw[g0]
 -- no turn back
 have nob:∀i,i<f.length->(gi f (nxi i)).2≠((gi f i).2+2)%4:=by
  intro i hi e;have b:=(at_ i hi).1.fwd hc;have t2:=tgt (nxi i) (nlt i hi);have e1:(nx l (gi f (nxi i)).1 (gi f (nxi i)).2).toNat=(gi f i).1:=by
   rw[e,<-tgt i hi,b.2];omega
  rw[t2]at e1;have k:=inj _ _ (nlt _ (nlt i hi)) hi e1;have c1:=fD _ (zh hi);have c2:=fD _ (zh (nlt i hi));have l1:=(at_ i hi).1.2.1;have l2:=(at_ _ (nlt i hi)).1.2.1;have n1:i≠0:=by
   rintro rfl;rw[g0]at e;omega
  have n2:nxi i≠0:=by
   intro z;rw[z,g0]at e;omega
  have h1:=hnx i;have h2:=hnx (nxi i);rw[k]at h2;split at h1<;>split at h2<;>omega
 -- the way's edges alone
 obtain⟨A,hA⟩:∃A:Da->Bool,∀q,A q=true↔(q∈f\/opp l q∈f):=⟨λq=>decide (q∈f\/opp l q∈f),λq=>by simp⟩;have fis:∀q∈f,isD l q:=λq hq=>by
  obtain⟨i,hi,e⟩:=Zbi hq;rw[<-e];exact(at_ i hi).1
 have hm:Ck (flt l A):=Zq7 hc λq hq h=>by
  rw[hA]at h⊢;rw[Zb3 hc hq];exact h.symm
 have S:Sub (flt l A) l:=Zox;have fm:∀q∈f,isD (flt l A) q:=λq hq=>Zga.2 ⟨fis q hq,(hA q).2 (.inl hq)⟩;have nxm:∀q∈f,nx (flt l A) q.1 q.2=nx l q.1 q.2:=λq hq=>(S.is (fm q hq)).2
 -- what lies at a cell of the way
 have only:∀i e,i<f.length->e<4->(0<=nx (flt l A) (gi f (nxi i)).1 e↔e=(gi f (nxi i)).2\/e=((gi f i).2+2)%4):=by
  intro i e hi he;have iN:=(at_ _ (nlt i hi)).1;constructor
  .intro h;have hq:isD (flt l A) ((gi f (nxi i)).1,e):=⟨by rw[ZgZ];exact iN.1,he,h⟩;obtain⟨q1,q2⟩:=Zga.1 hq;rcases(hA _).1 q2 with m|m
   .obtain⟨j,hj,ej⟩:=Zbi m;have:=inj j (nxi i) hj (nlt i hi) (by rw[ej]);left;rw[<-this,ej]
   .obtain⟨j,hj,ej⟩:=Zbi m;have b:=(q1.opp hc).fwd hc;have o2:=Zb3 hc q1;have t:=tgt j hj;rw[ej]at t;have t1:(nx l (opp l ((gi f (nxi i)).1,e)).1 (opp l ((gi f (nxi i)).1,e)).2).toNat=(gi f (nxi i)).1:=congrArg Prod.fst o2;rw[t1]at t;have k:=inj _ _ (nlt i hi) (nlt j hj) t;have ij:i=j:=by
     have h1:=hnx i;have h2:=hnx j;split at h1<;>split at h2<;>omega
    right;rw[ij,ej];unfold opp;dsimp only;omega
  .rintro(q|q)
   .rw[q];exact(fm _ (zh (nlt i hi))).2.2
   .have:=((fm _ (zh hi)).opp hm).2.2;unfold opp at this;dsimp only at this;rw[nxm _ (zh hi),tgt i hi]at this;rw[q];exact this
 have bhm:∀i,i<f.length->bh (flt l A) (gi f i)=gi f (nxi i):=by
  intro i hi;have nb:=nob i hi;have l1:=(at_ i hi).1.2.1;have l2:=(at_ _ (nlt i hi)).1.2.1;unfold bh;rw[nxm _ (zh hi),tgt i hi];have o:=λe he=>only i e hi he;have e3:gi f (nxi i)=((gi f (nxi i)).1,(gi f (nxi i)).2):=rfl;generalize(gi f (nxi i)).2=r at*;generalize(gi f i).2=q at*;rw[e3];by_cases c1:r=(q+1)%4
  .rw[if_pos ((o _ (by omega)).2 (.inl c1.symm)),c1]
  .rw[if_neg (λh=>by rcases(o _ (by omega)).1 h with k|k<;>omega)];by_cases c2:r=q
   .rw[if_pos ((o _ (by omega)).2 (.inl c2.symm)),c2]
   .rw[if_neg (λh=>by rcases(o _ (by omega)).1 h with k|k<;>omega)];have c3:r=(q+3)%4:=by omega
    rw[if_pos ((o _ (by omega)).2 (.inl c3.symm)),c3]
 have fn:f.Nodup:=(List.pairwise_map.1 fnd).imp λ{a b} h e=>h (by rw[e]);have one:∀C:Da->Prop,(∀x,isD (flt l A) x->C x->C (bh (flt l A) x))->∀q∈f,∀r∈f,C q->C r:=by
  intro C hC q hq r hr h;obtain⟨i,hi,ei⟩:=Zbi hq;obtain⟨j,hj,ej⟩:=Zbi hr;have step:∀i,i<f.length->C (gi f i)->C (gi f (nxi i)):=λi hi h=>by
   rw[<-bhm i hi];exact hC _ (fm _ (zh hi)) h
  have up:∀k,∀i,i<f.length->i+k<f.length->C (gi f i)->C (gi f (i+k)):=by
   intro k
   induction k with
   |zero=>intro i hi _ h;exact h
   |succ k ih=>
    intro i hi hk h;have:=step (i+k) (by omega) (ih i hi (by omega) h);rw[hnx,if_pos (by omega)]at this;exact this
  rw[<-ei]at h;have hl:=up (f.length-1-i) i hi (by omega) h;have h0:=step _ (by omega) hl;rw[hnx,if_neg (by omega)]at h0;have:=up j 0 f0 (by omega) h0;rw[Nat.zero_add]at this;rw[<-ej];exact this
 have cy:Cyc (flt l A) f:=⟨by rw[hf];simp,fn,fm,λq hq=>by
  obtain⟨i,hi,e⟩:=Zbi hq;rw[<-e,bhm i hi];exact zh (nlt i hi),one⟩
 have Cm:Cn (flt l A):=by
  intro C hC x y hx hy h;have tof:∀x,isD (flt l A) x->C x->∃x'∈f,C x':=by
   intro x hx h;rcases(hA x).1 (Zga.1 hx).2 with m|m
   .exact⟨x,m,h⟩
   .exact⟨_,m,by rw[<-S.opp hx];exact(hC x hx h).2⟩
  obtain⟨x',m1,c1⟩:=tof x hx h;have all:∀r∈f,C r:=λr hr=>one C (λz hz k=>(hC z hz k).1) x' m1 r hr c1;rcases(hA y).1 (Zga.1 hy).2 with m|m
  .exact all y m
  .have k:=(hC _ (fm _ m) (all _ m)).2;rw[S.opp (fm _ m),Zb3 hc (Zga.1 hy).1]at k;exact k
 have hpf:p∈f:=by rw[hf];simp
 have V:=Sub.val hc Cl hV _ (flt l A) hm S Cm ⟨p,fm p hpf⟩ (Nat.le_refl _);have r4:=((Zdc hm).1 V).1 f cy
 -- its turns are none in all
 have e1:ZW (flt l A) f=(f.map λq=>ph d0 (bh (flt l A) q).2-ph d0 q.2).sum:=by
  unfold ZW tns;congr 1;refine List.map_congr_left λq hq=>?_;obtain⟨i,hi,e⟩:=Zbi hq;rw[<-e,bhm i hi];exact ZtJ h4 (at_ i hi).1.2.1 (at_ _ (nlt i hi)).1.2.1 (fD _ (zh hi)) (fD _ (zh (nlt i hi))) (nob i hi)
 have pm:(f.map (bh (flt l A))).Perm f:=by
  have nd2:(f.map (bh (flt l A))).Nodup:=List.pairwise_map.2 (fn.imp_of_mem λ{a b} ha hb hne he=>hne (ZbY hm (fm a ha) (fm b hb) he));have sub:∀x∈f.map (bh (flt l A)),x∈f:=λx hx=>by
   obtain⟨q,hq,rfl⟩:=List.mem_map.1 hx;exact cy.cl q hq
  exact(List.perm_ext_iff_of_nodup nd2 fn).2 λx=>⟨sub x,Zgb nd2 fn sub (by simp) x⟩
 have e2:(f.map λq=>ph d0 (bh (flt l A) q).2).sum=(f.map λq=>ph d0 q.2).sum:=by
  have:=ZcU (f:=λq:Da=>ph d0 q.2) pm;rw[List.map_map]at this;exact this
 rw[ZlB (f:=λq=>ph d0 (bh (flt l A) q).2) (g:=λq=>ph d0 q.2),e2]at e1;omega
theorem pot{l:List Za}(hc:Ck l)(hV:Val l)(Cl:Cn l){d0:Nat}(h4:d0<4):∃φ:Nat->Nat,(∀x,φ x<=l.length)/\(∀p,isD l p->p.2=d0->φ p.1<φ (nx l p.1 p.2).toNat)/\∀p,isD l p->p.2=(d0+1)%4\/p.2=(d0+3)%4->φ p.1=φ (nx l p.1 p.2).toNat:=by
 obtain⟨R,hR⟩:∃R:Nat->Nat->Prop,∀x y,R x y↔∃s,Wk l x s y/\∀q∈s,q.2≠(d0+2)%4:=⟨λx y=>∃s,Wk l x s y/\∀q∈s,q.2≠(d0+2)%4,λ_ _=>Iff.rfl⟩;obtain⟨B,hB⟩:∃B:Nat->Nat->Bool,∀x y,B x y=true↔R x y:=⟨λx y=>@decide (R x y) (Classical.propDecidable _),λx y=>by simp⟩;have step:∀p,isD l p->p.2≠(d0+2)%4->∀y,R (nx l p.1 p.2).toNat y->R p.1 y:=by
  intro p hp h y hy;obtain⟨s,w,d⟩:=(hR _ _).1 hy;refine(hR _ _).2 ⟨p::s,⟨rfl,hp,w⟩,λq hq=>?_⟩;rcases List.mem_cons.1 hq with rfl|hq
  .exact h
  .exact d q hq
 have len:∀x,((List.range l.length).filter (B x)).length<=l.length:=λx=>by
  have:=List.length_filter_le (B x) (List.range l.length);simpa using this
 refine⟨λx=>l.length-((List.range l.length).filter (B x)).length,λx=>Nat.sub_le _ _,λp hp h=>?_,λp hp h=>?_⟩
 .have hl:=p.2;have s:=step p hp (by have:=hp.2.1;omega);have f:=hp.fwd hc;have:((List.range l.length).filter (B (nx l p.1 p.2).toNat)).length+1<=((List.range l.length).filter (B p.1)).length:=by
   have nd:(p.1::(List.range l.length).filter (B (nx l p.1 p.2).toNat)).Nodup:=by
    refine List.nodup_cons.2 ⟨λm=>?_,List.nodup_range.filter _⟩;have:=(hB _ _).1 (List.mem_filter.1 m).2;obtain⟨t,w,d⟩:=(hR _ _).1 this;exact Zns hc hV Cl h4 hp h w d
   have:=nd.length_le_of_subset (l₂:=(List.range l.length).filter (B p.1)) (λx hx=>by
    rcases List.mem_cons.1 hx with rfl|hx
    .exact List.mem_filter.2 ⟨List.mem_range.2 hp.1,(hB _ _).2 ((hR _ _).2 ⟨[],rfl,by simp⟩)⟩
    .obtain⟨a,b⟩:=List.mem_filter.1 hx;exact List.mem_filter.2 ⟨a,(hB _ _).2 (s x ((hB _ _).1 b))⟩)
   simpa using this
  have:=len p.1;show l.length-_<l.length-_;omega
 .have f:=hp.fwd hc;have ho:=hp.opp hc;have h2:=hp.2.1;have e:∀y,R p.1 y↔R (nx l p.1 p.2).toNat y:=by
   intro y;refine⟨λk=>?_,step p hp (by omega) y⟩;have:=step _ ho (by unfold opp;dsimp only;omega) y;have o:(nx l (opp l p).1 (opp l p).2).toNat=p.1:=congrArg Prod.fst (Zb3 hc hp);rw[o]at this;exact this k
  have:B p.1=B (nx l p.1 p.2).toNat:=by
   funext y;have:=e y;rw[<-hB,<-hB]at this;cases h1:B p.1 y<;>cases h2:B (nx l p.1 p.2).toNat y<;>simp_all
  show l.length-_=l.length-_;rw[this]
end Mu
/- An edge more,from corner to corner of one loop. -/
namespace Mu
theorem ZhP{l:List Za}(h0:0<l.length)(h:∀w,w<l.length->∃n,Rch l 0 n w):whole l:=by
 have e1:PS l 1=([ZcE l 0 l.length],Zdw l 0 (List.replicate l.length false) l.length):=by
  have g:gi (PS l 0).2 0=false:=by
   show gi (List.replicate l.length false) 0=false;rw[zO (by simp;omega)];simp
  rw[PS,if_neg (by rw[g];decide)];rfl
 have key:∀n,n+1<=l.length->PS l (n+1)=PS l 1:=by
  intro n
  induction n with
  |zero=>intro _;rfl
  |succ n ih=>
   intro hn;have i:=ih (by omega);rw[PS,if_pos]
   .exact i
   .rw[i,e1];dsimp only;rw[Zea (by omega),if_pos (by omega),Zfj.2 (h (n+1) (by omega)),Bool.or_true]
 have k:=key (l.length-1) (by omega);rw[show l.length-1+1=l.length by omega]at k;unfold whole;rw[k,e1];rfl
theorem Rch.mono{l m:List Za}(h:∀a b,a<l.length->Adj l a b->Adj m a b)(hc:Ck l){v n w:Nat}(hv:v<l.length)(hr:Rch l v n w):Rch m v n w:=by
 induction hr with
 |zero=>exact .zero
 |succ hr hab ih=>exact .succ ih (h _ _ (hr.lt hc hv) hab)
theorem Del.of_wth{l:List Za}(hc:Ck l){v d w:Nat}{o:Int}(hv:v<l.length)(hw:w<l.length)(hvw:v≠w)(hd:d<4)(h1:Mu.nx l v d=-1)(h2:Mu.nx l w ((d+2)%4)=-1):Del (wth l v d w o) l v d w:=by
 have nw:=λu e(hu:u<l.length)(he:e<4)=>(ZdK (o:=o) hv hw hvw hd hu he).1;have hlen:(wth l v d w o).length=l.length:=ZaG;refine⟨hlen.symm,by rw[hlen];exact hv,hd,by rw[hlen];exact hw,by rw[nw v d hv hd,if_pos ⟨rfl,rfl⟩],λu e hu he=>?_⟩;rw[hlen]at hu;rw[nw u e hu he];by_cases c1:u=v/\e=d
 .rw[if_pos (.inl c1),c1.1,c1.2,h1]
 .by_cases c2:u=w/\e=(d+2)%4
  .rw[if_pos (.inr c2),c2.1,c2.2,h2]
  .rw[if_neg (by rintro(q|q);exact c1 q;exact c2 q),if_neg c1,if_neg c2]
theorem Del.whole{l m:List Za}(hc:Ck l)(hm:Ck m){v d w:Nat}(D:Del l m v d w)(h:whole m):Mu.whole l:=by
 have h0:=Ze8 h;have len:=D.len;refine ZhP (by omega) λu hu=>?_;obtain⟨n,r⟩:=Zdo h (w:=u) (by omega);refine⟨n,r.mono (λa b ha hab=>?_) hm (by omega)⟩;obtain⟨e,he,q⟩:=hab;have:=D.nx a e (by omega) he;rw[q]at this;refine⟨e,he,?_⟩;split at this
 .omega
 .exact this.symm
theorem Znx:∀a b c d:Bool,∀i j:Fin 4,(!(Zch a b c d j.1)&&Zch a b c d ((i.1+2)%4)&&decide (tn i.1 (prv (Zch a b c d) i.1)<tn i.1 j.1))=true->prv (λe=>Zch a b c d e||(e==j.1)) i.1=j.1:=by decide+kernel
theorem Del.enter{l m:List Za}(hc:Ck l)(hm:Ck m){v d w:Nat}(D:Del l m v d w){x:Da}(hx:Mu.isD m x):((Mu.nx m x.1 x.2).toNat=v->tt m x<tn x.2 d->Mu.bh l x=(v,d))/\((Mu.nx m x.1 x.2).toNat=w->tt m x<tn x.2 ((d+2)%4)->Mu.bh l x=(w,(d+2)%4)):=by
 have hd:=D.hd;have hne:=D.ne hc;have f:=hx.fwd hm;have x4:=hx.2.1;have ex:=D.nx' hx;have key:∀{u j:Nat},u<l.length->j<4->(Mu.nx m x.1 x.2).toNat=u->tt m x<tn x.2 j->(∀e,e<4->(0<=Mu.nx l u e↔(0<=Mu.nx m u e\/e=j)))->¬0<=Mu.nx m u j->Mu.bh l x=(u,j):=by
  intro u j hu hj e1 e2 e3 e4;rw[ZbZ,<-ex,e1];refine Prod.ext rfl ?_;dsimp only;rw[e1]at f;have t0:tn x.2 (prv (λe=>decide (0<=Mu.nx m u e)) x.2)<tn x.2 j:=by
   have:tt m x=tn x.2 (prv (λe=>decide (0<=Mu.nx m u e)) x.2):=by unfold tt;rw[ZbZ,e1]
   rw[<-this];exact e2
  have q:=Znx (decide (0<=Mu.nx m u 0)) (decide (0<=Mu.nx m u 1)) (decide (0<=Mu.nx m u 2)) (decide (0<=Mu.nx m u 3)) ⟨x.2,x4⟩ ⟨j,hj⟩;have se:∀e,e<4->Zch (decide (0<=Mu.nx m u 0)) (decide (0<=Mu.nx m u 1)) (decide (0<=Mu.nx m u 2)) (decide (0<=Mu.nx m u 3)) e=decide (0<=Mu.nx m u e):=λe he=>Zc0 (A:=λe=>decide (0<=Mu.nx m u e)) he;dsimp only at q;rw[se _ hj,se _ (by omega),Zdb (A:=λe=>decide (0<=Mu.nx m u e)) x4]at q;have q:=q (by rw[decide_eq_false e4,f.2];simp[t0]);refine(Zdn (λe he=>?_) x4).trans q;rw[se e he];rw[Bool.eq_iff_iff];simp[e3 e he]
 have nw:=λu e(hu:u<l.length)(he:e<4)=>D.nx u e hu he;constructor
 .intro e1 e2;have:=nw v d D.hv hd;rw[if_pos (.inl ⟨rfl,rfl⟩)]at this;refine key D.hv hd e1 e2 (λe he=>?_) (by omega);have n:=nw v e D.hv he;by_cases c:e=d
  .subst c;rw[D.hn];exact⟨λ_=>.inr rfl,λ_=>by omega⟩
  .rw[if_neg (by rintro(q|q);exact c q.2;exact hne q.1.symm)]at n;rw[n];exact⟨λq=>.inl q,λq=>q.resolve_right c⟩
 .intro e1 e2;have:=nw w ((d+2)%4) D.hw (by omega);rw[if_pos (.inr ⟨rfl,rfl⟩)]at this;refine key D.hw (by omega) e1 e2 (λe he=>?_) (by omega);have n:=nw w e D.hw he;by_cases c:e=(d+2)%4
  .subst c;rw[D.hb hc];exact⟨λ_=>.inr rfl,λ_=>by omega⟩
  .rw[if_neg (by rintro(q|q);exact hne q.1;exact c q.2)]at n;rw[n];exact⟨λq=>.inl q,λq=>q.resolve_right c⟩
theorem Del.back{l m:List Za}(hc:Ck l){v d w:Nat}(D:Del l m v d w):∀{s:List Da}{p q:Da},Pt m p s q->(∀a∈s,Mu.bh l a≠(v,d)/\Mu.bh l a≠(w,(d+2)%4))->Pt l p s q/\ZW l s=ZW m s
 |[],p,q,h,_=>⟨h,rfl⟩
 |a::s,p,q,h,hs=>by
  rw[Pt]at h;obtain⟨rfl,h1,h2⟩:=h;have k:=hs p (by simp);have b:=D.bh hc h1;rw[if_neg k.1,if_neg k.2,if_neg k.1,if_neg k.2]at b;rw[b.1]at h2;obtain⟨i1,i2⟩:=D.back hc h2 λa ha=>hs a (List.mem_cons_of_mem _ ha);exact⟨⟨rfl,(D.isD.1 h1).1,i1⟩,by rw[Zao,Zao,i2,b.2]⟩
theorem Del.chord{l m:List Za}(hc:Ck l)(hm:Ck m){v d w:Nat}(D:Del l m v d w){A B:List Da}{x y:Da}(hL:Lp m (B++[y]++(A++[x])))(hx:Mu.bh l x=(v,d))(hy:Mu.bh l y=(w,(d+2)%4)) :
  Lp l ((w,(d+2)%4)::(B++[y]))/\Lp l ((v,d)::(A++[x]))/\
  ZW l ((w,(d+2)%4)::(B++[y]))=ZW m (B++[y])+tt m x-tt m y+2-tn x.2 d+tn y.2 ((d+2)%4)/\
  ZW l ((w,(d+2)%4)::(B++[y]))+ZW l ((v,d)::(A++[x]))=ZW m (B++[y]++(A++[x]))+4:=by
 have is:=hL.is;obtain⟨p,P⟩:=hL.pt;obtain⟨r,P1,P2⟩:=Pt.app.1 P;obtain⟨y',Q1,Q2⟩:=Pt.app.1 P1;obtain⟨x',R1,R2⟩:=Pt.app.1 P2;rw[Pt,Pt]at Q2 R2;obtain⟨rfl,dy,ey⟩:=Q2;obtain⟨rfl,dx,ex⟩:=R2;have nd:=hL.nd;have ee:=D.ee hc;have bx:=D.bh hc dx;have by':=D.bh hc dy
 rw[hx,if_pos rfl,if_pos rfl]at bx;rw[hy,if_neg ee,if_pos rfl,if_neg ee,if_pos rfl]at by'
 have nd1:=List.nodup_append.1 nd;have nd2:=List.nodup_append.1 nd1.1;have nd3:=List.nodup_append.1 nd1.2.1;have ne1:∀a∈B,Mu.bh l a≠(v,d)/\Mu.bh l a≠(w,(d+2)%4):=by
  intro a ha;have da:=(D.isD.1 (is a (by simp[ha]))).1;refine⟨λq=>?_,λq=>?_⟩
  .rw[<-hx]at q;have:=ZbY hc da (D.isD.1 dx).1 q;exact nd1.2.2 a (by simp[ha]) x' (by simp) this
  .rw[<-hy]at q;have:=ZbY hc da (D.isD.1 dy).1 q;exact nd2.2.2 a ha y' (by simp) this
 have ne2:∀a∈A,Mu.bh l a≠(v,d)/\Mu.bh l a≠(w,(d+2)%4):=by
  intro a ha;have da:=(D.isD.1 (is a (by simp[ha]))).1;refine⟨λq=>?_,λq=>?_⟩
  .rw[<-hx]at q;have:=ZbY hc da (D.isD.1 dx).1 q;exact nd3.2.2 a ha x' (by simp) this
  .rw[<-hy]at q;have:=ZbY hc da (D.isD.1 dy).1 q;exact nd1.2.2 y' (by simp) a (by simp[ha]) this.symm
 obtain⟨B1,B2⟩:=D.back hc Q1 ne1;obtain⟨A1,A2⟩:=D.back hc R1 ne2;have e1:Mu.bh l (w,(d+2)%4)=p:=by rw[<-bx.1,ex]
 have e2:Mu.bh l (v,d)=r:=by rw[<-by'.1,ey]
 have notm:∀{s:List Da},(∀a∈s,Mu.isD m a)->(v,d)∉s/\(w,(d+2)%4)∉s:=λh=>⟨λq=>(D.isD.1 (h _ q)).2.1 rfl,λq=>(D.isD.1 (h _ q)).2.2 rfl⟩;have iB:∀a∈B++[y'],Mu.isD m a:=λa ha=>is a (List.mem_append.2 (.inl ha));have iA:∀a∈A++[x'],Mu.isD m a:=λa ha=>is a (List.mem_append.2 (.inr ha));have t1:tt l x'=tn x'.2 d:=by unfold tt;rw[hx]
 have t2:tt l y'=tn y'.2 ((d+2)%4):=by unfold tt;rw[hy]
 refine⟨⟨by simp,List.nodup_cons.2 ⟨(notm iB).2,nd1.1⟩,(w,(d+2)%4),rfl,D.e' hc,?_⟩,⟨by simp,List.nodup_cons.2 ⟨(notm iA).1,nd1.2.1⟩,(v,d),rfl,D.e,?_⟩,?_,?_⟩
 .rw[e1];exact Pt.app.2 ⟨y',B1,rfl,(D.isD.1 dy).1,hy⟩
 .rw[e2];exact Pt.app.2 ⟨x',A1,rfl,(D.isD.1 dx).1,hx⟩
 .rw[Zao,Zcl,Zcl,Zao,Zao,Zcm,Zcm,B2];rw[t2];have:=bx.2;rw[t1]at this;omega
 .have a1:=bx.2;have a2:=by'.2
  rw[Zao,Zao,Zcl,Zcl,Zcl,Zcl,Zcl];simp only[Zao,Zcm];omega
theorem Del.chord_val{l m:List Za}(hc:Ck l)(hm:Ck m){v d w:Nat}(D:Del l m v d w){A B:List Da}{x y:Da}(hL:Lp m (B++[y]++(A++[x])))(hx:Mu.bh l x=(v,d))(hy:Mu.bh l y=(w,(d+2)%4))(h4:ZW m (B++[y])+tt m x-tt m y+2-tn x.2 d+tn y.2 ((d+2)%4)=4)(h:Val m):Val l:=by
 obtain⟨k1,k2,k3,k4⟩:=D.chord hc hm hL hx hy;rw[h4]at k3;obtain⟨h1,h2⟩:=(Zdc hm).1 h;have r:=h1 _ hL.cyc;have ee:=D.ee hc;have iA:∀a∈A++[x],Mu.isD m a:=λa ha=>hL.is a (List.mem_append.2 (.inr ha));have nA:(w,(d+2)%4)∉(v,d)::(A++[x]):=by
  intro q;rcases List.mem_cons.1 q with q|q
  .exact ee q
  .exact(D.isD.1 (iA _ q)).2.2 rfl
 have X:Mu.chi l=4:=by
  have a1:=D.cD hc;have a2:=D.cV hc;have b1:=ZdB hc D.e;have b2:=ZdB hc (D.e' hc);rw[D.opp]at b1;rw[<-D.opp,Zb3 hc D.e,D.opp]at b2;dsimp only at b1 b2
  cases D.kind hc with
  |two A' B' R hA hB hl hm' rot same n1 n2 lm=>
   have f1:=hl.len (Fcs.faces hc);have f2:=hm'.len (Fcs.faces hm);simp only[List.length_cons]at f1 f2;rw[if_neg λq=>n2 (b2.2 q),if_neg λq=>n1 (b1.2 q)]at a2;unfold Mu.chi at h2⊢;omega
  |one A' B' R hA hl hm' rot same n1 n2 lA lB=>exact absurd (hA.cyc.sub k2.cyc (p:=(v,d)) (by simp) (by simp) (w,(d+2)%4) (by simp)) nA
  |leaf A' R hA hl hm' rot same n=>exact absurd (hA.sub k2.cyc (p:=(v,d)) (by simp) (by simp) (w,(d+2)%4) (by simp)) nA
  |iso R hA hl hm' same n1 n2=>exact absurd (hA.sub k2.cyc (p:=(v,d)) (by simp) (by simp) (w,(d+2)%4) (by simp)) nA
 refine(Zdc hc).2 ⟨λf hf=>?_,X⟩;by_cases c1:(v,d)∈f
 .rw[Zb7 (hf.perm k2.cyc c1 (by simp))];omega
 .by_cases c2:(w,(d+2)%4)∈f
  .rw[Zb7 (hf.perm k1.cyc c2 (by simp))];omega
  .obtain⟨q1,q2⟩:=D.keep hc hf c1 c2;rw[<-q2];exact h1 f q1
end Mu
/- Layer 20:FrontFirst. -/
namespace Mu
def ZmT(t:List Int):Option Nat:=(List.range t.length).find? λk=>decide (gi t k<0)
noncomputable def gF(l:List Za)(i:Nat):Option Nat:=if(i:Int)=ZeY l then none else ZmT (tns l (gi (faces l) i))
noncomputable def ZeM(l:List Za):Option Nat:=(List.range (faces l).length).find? λi=>(gF l i).isSome
end Mu
/- Layer 20:what a turn to the right faces,by sums. -/
namespace Mu
def Rng(t:List Int):Prop:=∀i,-2<=gi t i/\gi t i<=1
def cs(t:List Int)(i:Nat):Nat->Int
 |0=>0
 |k+1=>cs t i k+gi t ((i+k)%t.length)
theorem ZiM{t:List Int}{i:Nat}(hi:i<t.length):∀k,k<=t.length->cs t i k=if i+k<=t.length then Zee t (i+k)-Zee t i else Zee t t.length-Zee t i+Zee t (i+k-t.length)
 |0,_=>by rw[if_pos (by omega),cs];simp
 | k+1,hk=>by
  rw[cs,ZiM hi k (by omega)];by_cases c:i+(k+1)<=t.length
  .rw[if_pos (by omega),if_pos c,Nat.mod_eq_of_lt (by omega),show i+(k+1)=(i+k)+1 by omega,Zee];omega
  .rw[if_neg c];by_cases c2:i+k<=t.length
   .have e:i+k=t.length:=by omega
    rw[if_pos c2,e,Nat.mod_self,show i+(k+1)-t.length=0+1 by omega,Zee,Zee];omega
   .rw[if_neg c2,show i+(k+1)-t.length=(i+k-t.length)+1 by omega,Zee,Nat.mod_eq_sub_mod (by omega),Nat.mod_eq_of_lt (by omega)];omega
theorem Ziw{t:List Int}:∀n,n<=t.length->Zee t n=(t.take n).sum
 |0,_=>by simp[Zee]
 |n+1,h=>by rw[Zee,Ziw n (by omega),Zgn (by omega)]
theorem Zfi{t:List Int}:Zee t t.length=t.sum:=by rw[Ziw _ (Nat.le_refl _),List.take_length]
theorem Zu4 {t:List Int}(h:Rng t)(hs:t.sum=4){i:Nat}(hi:i<t.length)(h0:gi t i<0):∃k,0<k/\k+1<t.length/\cs t i (k+1)=1/\(∀j,j<k->cs t i (j+1)≠1)/\cs t i k=0/\gi t ((i+k)%t.length)=1:=by
 have all:cs t i t.length=4:=by
  rw[ZiM hi _ (Nat.le_refl _),Zfi,hs];split
  .have:i=0:=by omega
   subst this;rw[show 0+t.length=t.length by omega,Zfi,hs,Zee];rfl
  .rw[show i+t.length-t.length=i by omega];omega
 have first:cs t i 1=gi t i:=by rw[cs,cs,Nat.add_zero,Nat.mod_eq_of_lt hi];omega
 have key:∀ n,1<=n->1<=cs t i n->∃k,0<k/\k+1<=n/\cs t i (k+1)=1/\(∀j,j<k+1->cs t i j<=0):=by
  intro n
  induction n with
  |zero=>intro h1 _;omega
  | succ n ih =>
   intro _ h2;by_cases c:∃j,j<n+1/\1<=cs t i j
   .obtain ⟨j,hj,hc⟩:=c
    -- a smaller one
    have:∀ m,m<=n->1<=cs t i m->∃k,0<k/\k+1<=n/\cs t i (k+1)=1/\(∀j,j<k+1->cs t i j<=0):=by
     intro m
     induction m with
     |zero=>intro _ h3;rw[cs]at h3;omega
     | succ m ihm=>
      intro hm h3;by_cases c:1<=cs t i n
      .exact ih (by
        by_cases q:n=0
        .subst q;rw[cs]at c;omega
        .omega) c
      .by_cases c2:∃j,j<m+1/\1<=cs t i j
       .obtain⟨j,hj,hc⟩:=c2;by_cases q:j=m
        .subst q;exact ihm (by omega) hc
        ·-- go down
         have down:∀r,r<=m->1<=cs t i r->∃k,0<k/\k+1<=n/\cs t i (k+1)=1/\(∀j,j<k+1->cs t i j<=0):=by
          intro r
          induction r using Nat.strongRecOn with
          | _ r ihr=>
           intro hr h4;by_cases c3:∃j,j<r/\1<=cs t i j
           .obtain⟨j,hj,hc⟩:=c3;exact ihr j hj (by omega) hc
           .cases r with
            |zero=>rw[cs]at h4;omega
            | succ r=>
             have z:∀j,j<r+1->cs t i j<=0:=λj hj=>by
              refine Classical.byContradiction λq=>c3 ⟨j,hj,by omega⟩
             have:=z r (by omega);have g:=h ((i+r)%t.length);have e:=h4;rw[cs]at e;refine⟨r,?_,by omega,?_,z⟩
             .by_cases q:r=0
              .subst q;rw[first]at h4;omega
              .omega
             .rw[cs];omega
         exact down j (by omega) hc
       .have z:∀j,j<m+1->cs t i j<=0:=λj hj=>by
         refine Classical.byContradiction λq=>c2 ⟨j,hj,by omega⟩
        have:=z m (by omega);have g:=h ((i+m)%t.length);have e:=h3;rw[cs]at e;refine⟨m,?_,by omega,?_,z⟩
        .by_cases q:m=0
         .subst q;rw[first]at h3;omega
         .omega
        .rw[cs];omega
    obtain⟨k,a,b,c,d⟩:=this j (by omega) hc;exact⟨k,a,by omega,c,d⟩
   .have z:∀j,j<n+1->cs t i j<=0:=λj hj=>by
     refine Classical.byContradiction λq=>c ⟨j,hj,by omega⟩
    have:=z n (by omega);have g:=h ((i+n)%t.length);have e:=h2;rw[cs]at e;refine⟨n,?_,by omega,?_,z⟩
    .by_cases q:n=0
     .subst q;rw[first]at h2;omega
     .omega
    .rw[cs];omega
 obtain⟨k,a,b,c,d⟩:=key t.length (by omega) (by omega);have z:=d k (by omega);have c':=c;rw[cs]at c';have g:=h ((i+k)%t.length);refine⟨k,a,?_,c,λj hj=>by have:=d (j+1) (by omega);omega,by omega,by omega⟩;by_cases q:k+1=t.length
 .rw[q]at c;omega
 .omega
def ZpU(t:List Int)(i:Nat):Prop:=gi t i<0/\∀j,j<t.length->cs t i (j+1)≠1
theorem ZjO{f:Nat->Int}:∀n,0<n->∃i,i<n/\(∀j,j<n->f j<=f i)/\∀j,i<j->j<n->f j<f i
 |1,_=>⟨0,by omega,λj hj=>by rw[show j=0 by omega];exact Int.le_refl _,λj h1 h2=>by omega⟩
 | n+2,_=>by
  obtain⟨i,h1,h2,h3⟩:=ZjO (f:=f) (n+1) (by omega);by_cases c:f i<=f (n+1)
  .refine⟨n+1,by omega,λj hj=>?_,λj h4 h5=>by omega⟩;by_cases q:j=n+1
   .subst q;omega
   .have:=h2 j (by omega);omega
  .refine⟨i,by omega,λj hj=>?_,λj h4 h5=>?_⟩
   .by_cases q:j=n+1
    .subst q;omega
    .exact h2 j (by omega)
   .by_cases q:j=n+1
    .subst q;omega
    .exact h3 j h4 (by omega)
theorem Ztn{t:List Int}(hs:t.sum=-4):∃i,i<t.length/\ZpU t i:=by
 have h0:0<t.length:=by
  cases t with
  |nil=>simp at hs
  |cons a t=>simp
 obtain⟨i,h1,h2,h3⟩:=ZjO (f:=Zee t) t.length h0;have p0:Zee t 0=0:=rfl;have m0:=h2 0 h0;refine⟨i,h1,?_,λj hj=>?_⟩
 .by_cases c:i+1<t.length
  .have:=h3 (i+1) (by omega) c;rw[Zee]at this;omega
  .have e:i+1=t.length:=by omega
   have:Zee t (i+1)=-4:=by rw[e,Zfi,hs]
   rw[Zee]at this;omega
 .rw[ZiM h1 _ (by omega),Zfi,hs];split
  .by_cases c:i+(j+1)=t.length
   .rw[c,Zfi,hs];omega
   .have:=h2 (i+(j+1)) (by omega);omega
  .have:=h2 (i+(j+1)-t.length) (by omega);omega
end Mu
/- A cut:an edge split,and a corner joined to it. -/
namespace Mu
/-! Faces,once round from their first ZbW. -/
theorem ZkS{l:List Za}(hc:Ck l){M:List Da}(hM:Mets l M)(cl:∀p∈M,bh l p∈M){x:Da}(hx:isD l x)(hn:x∉M):∃K,walk l (4*l.length+1) M x=(List.range K).map (λi=>it l i x)/\it l K x=x:=by
 obtain⟨K,e1,e2⟩:=Zhg hc (4*l.length+1) M x hM hx (by omega);obtain⟨C,_⟩:=Zgo hc hM cl hx hn;refine⟨K,e1,?_⟩;have wnd:=C.nd;have notM:∀i,it l i x∉M:=by
  intro i
  induction i with
  |zero=>exact hn
  |succ i ih=>exact λh=>ih (Zfc hc hM cl (Zeb hc hx i) h)
 rcases List.mem_append.1 e2 with h|h
 .exact absurd h (notM K)
 .rw[e1]at h wnd;obtain⟨j,hj,e⟩:=List.mem_map.1 h;rw[List.mem_range]at hj
  cases j with
  |zero=>exact e.symm
  | succ j=>
   cases K with
   |zero=>omega
   |succ K=>
    have:=ZbY hc (Zeb hc hx j) (Zeb hc hx K) e;have q:=List.pairwise_map.1 wnd;rw[List.pairwise_iff_getElem]at q;have q2:=q j K (by simp;omega) (by simp) (by omega);rw[List.getElem_range,List.getElem_range]at q2;exact absurd this q2
def Round(l:List Za)(f:List Da):Prop:=∃x,isD l x/\f=(List.range f.length).map (λi=>it l i x)/\it l f.length x=x
theorem Round.of{l:List Za}{f:List Da}{x:Da}{K:Nat}(hx:isD l x)(h:f=(List.range K).map (λi=>it l i x))(h2:it l K x=x):Round l f:=by
 have:f.length=K:=by rw[h];simp
 exact⟨x,hx,by rw[this];exact h,by rw[this];exact h2⟩
structure FR(l:List Za)(s:List Da×List (List Da)):Prop where
 fc:FC l s
 rd:∀f∈s.2,Round l f
theorem FR.st{l:List Za}(hc:Ck l){s:List Da×List (List Da)}(h:FR l s){p:Da}(h1:p.1<l.length)(h2:p.2<4):FR l (stF l s p):=by
 refine⟨h.fc.st hc h1 h2,?_⟩;unfold stF;split
 .exact h.rd
 .rename_i c;intro f hf;rcases List.mem_append.1 hf with k|k
  .exact h.rd f k
  .rw[List.mem_singleton.1 k];have hp:isD l p:=⟨h1,h2,by omega⟩;obtain⟨K,a,b⟩:=ZkS hc h.fc.fi.m h.fc.cl hp λq=>c (.inr q);exact Round.of hp a b
theorem FR.row{l:List Za}(hc:Ck l){s:List Da×List (List Da)}(h:FR l s){v:Nat}(hv:v<l.length):∀e,e<=4->FR l (ZfF l v s e)
 |0,_=>h
 |e+1,he=>(FR.row hc h hv e (by omega)).st hc hv (by dsimp only;omega)
theorem Zjz{l:List Za}(hc:Ck l):∀v,v<=l.length->FR l (Fj l v)
 |0,_=>⟨Zkm hc 0 (by omega),by simp[Fj]⟩
 |v+1,hv=>(Zjz hc v (by omega)).row hc (by omega) 4 (by omega)
theorem ZgD{l:List Za}(hc:Ck l):∀f∈faces l,Round l f:=(Zjz hc l.length (by omega)).rd
theorem Znb{l:List Za}{x:Da}(a:Nat):∀b,it l (a+b) x=it l b (it l a x)
 |0=>rfl
 |b+1=>by rw[<-Nat.add_assoc,it,Znb a b];rfl
theorem Zh1{l:List Za}{x:Da}{n:Nat}(h:it l n x=x):∀k i,it l (i+n*k) x=it l i x
 |0,i=>by rw[Nat.mul_zero,Nat.add_zero]
 |k+1,i=>by rw[Nat.mul_succ,<-Nat.add_assoc,Nat.add_comm _ n,Znb,h,Zh1 h k i]
theorem ZqE{l:List Za}{x:Da}{n:Nat}(h:it l n x=x)(i:Nat):it l (i%n) x=it l i x:=by
 have:=Zh1 h (i/n) (i%n);rw[Nat.mod_add_div]at this;exact this.symm
theorem Round.at{l:List Za}{f:List Da}{x:Da}(h:f=(List.range f.length).map (λi=>it l i x))(h2:it l f.length x=x){i:Nat}(hf:0<f.length):gi f (i%f.length)=it l i x:=by
 have lt:i%f.length<f.length:=Nat.mod_lt _ hf;have:gi f (i%f.length)=gi ((List.range f.length).map (λi=>it l i x)) (i%f.length):=by rw[<-h]
 rw[this,Zbf lt,ZqE h2]
def seg(l:List Za)(x:Da)(a n:Nat):List Da:=(List.range n).map λi=>it l (a+i) x
theorem ZkQ{l:List Za}(hc:Ck l){x:Da}(hx:isD l x){a:Nat}:∀n,Pt l (it l a x) (seg l x a n) (it l (a+n) x)
 |0=>rfl
 |n+1=>by
  unfold seg;rw[List.range_succ,List.map_append,Pt.app];exact⟨_,ZkQ hc hx n,rfl,Zeb hc hx _,rfl⟩
theorem Zet{l:List Za}{x:Da}{a m:Nat}:∀n,seg l x a (m+n)=seg l x a m++seg l x (a+m) n
 |0=>by simp[seg]
 |n+1=>by
  have ih:=Zet (l:=l) (x:=x) (a:=a) (m:=m) n;unfold seg at ih⊢;rw[<-Nat.add_assoc,List.range_succ,List.map_append,ih,List.range_succ,List.map_append,List.append_assoc];simp[Nat.add_assoc]
theorem Zfz{l:List Za}{x:Da}{a:Nat}:seg l x a 1=[it l a x]:=by simp[seg]
theorem Zn6{l:List Za}{x:Da}{a n:Nat}:ZW l (seg l x a (n+1))=ZW l (seg l x a n)+tt l (it l (a+n) x):=by
 rw[Zet,Zcl,Zfz,Zao,Zcm];omega
theorem ZhJ{l:List Za}{x:Da}{n:Nat}(h:it l n x=x)(h0:0<n):∀a,(seg l x a n).Perm (seg l x 0 n)
 |0=>List.Perm.refl _
 | a+1=>by
  refine List.Perm.trans ?_ (ZhJ h h0 a);obtain⟨m,rfl⟩:∃m,n=1+m:=⟨n-1,by omega⟩;have e1:seg l x (a+1) (1+m)=seg l x (a+1) m++[it l (a+1+m) x]:=by rw[Nat.add_comm 1 m,Zet,Zfz]
  have e2:seg l x a (1+m)=[it l a x]++seg l x (a+1) m:=by rw[Zet,Zfz]
  have e3:it l (a+1+m) x=it l a x:=by
   have:=Zh1 h 1 a;rw[Nat.mul_one]at this;rw[<-this,Nat.add_assoc]
  rw[e1,e2,e3];exact List.perm_append_comm
theorem ZrB{d e:Nat}(hd:d<4)(he:e<4):∃k:Int,(e:Int)=d+tn d e+4*k:=by
 have a:d=0\/d=1\/d=2\/d=3:=by omega
 have b:e=0\/e=1\/e=2\/e=3:=by omega
 rcases a with rfl|rfl|rfl|rfl<;>rcases b with rfl|rfl|rfl|rfl<;>first|exact⟨0,by decide⟩|exact⟨1,by decide⟩|exact⟨-1,by decide⟩
theorem Pt.dir{l:List Za}(hc:Ck l):∀{s:List Da}{x y:Da},Pt l x s y->∃k:Int,(y.2:Int)=x.2+ZW l s+4*k
 |[],x,y,h=>by
  rw[Pt]at h;subst h;exact⟨0,by rw[Zcm];omega⟩
 |a::s,x,y,h=>by
  rw[Pt]at h;obtain⟨rfl,h1,h2⟩:=h;obtain⟨k,e⟩:=Pt.dir hc h2;obtain⟨k',e'⟩:=ZrB h1.2.1 (h1.bh hc).2.1;refine⟨k+k',?_⟩;rw[Zao];unfold tt;omega
/-! Edges split. -/
section spl
variable {l:List Za}{a b w:Nat}
def ZcO(l:List Za)(a b w:Nat)(p:Da):List Da:=if p=(a,b)then [p,(l.length,b)]else if p=(w,(b+2)%4)then [p,(l.length,(b+2)%4)]else [p]
structure Sp(l m:List Za)(a b w:Nat):Prop where
 ck:Ck m
 len:m.length=l.length+1
 ha:a<l.length
 hb:b<4
 hw:w<l.length
 hn:nx l a b=w
 hne:w≠a
 nx:∀i e,i<=l.length->e<4->nx m i e=(if i=l.length then(if e=b then(w:Int)else if e=(b+2)%4 then(a:Int)else -1)else if i=w/\e=(b+2)%4 then(l.length:Int)else if i=a/\e=b then(l.length:Int)else nx l i e)
 ow:∀i e,i<=l.length->e<4->ow m i e=(if i=l.length then(if e=b then ow l a b else if e=(b+2)%4 then ow l a b else 0)else if i=w/\e=(b+2)%4 then ow l a b else if i=a/\e=b then ow l a b else ow l i e)
theorem Sp.of(hc:Ck l)(ha:a<l.length)(hb:b<4)(hn:Mu.nx l a b=w):Sp l (spl l a b w (Mu.ow l a b)) a b w:=by
 obtain⟨h1,h2,h3⟩:=hc.spl ha hb hn;exact⟨h3,Zl8,ha,hb,h1,hn,h2,λi e hi he=>(ZkG ha h1 hb hi he).1,λi e hi he=>(ZkG ha h1 hb hi he).2⟩
variable {m:List Za}
theorem Sp.back(hc:Ck l)(S:Sp l m a b w):Mu.nx l w ((b+2)%4)=a:=(hc.back' S.ha S.hb S.hn).2
theorem Sp.old(hc:Ck l)(S:Sp l m a b w){i e:Nat}(hi:i<l.length)(he:e<4):0<=Mu.nx m i e↔0<=Mu.nx l i e:=by
 rw[S.nx i e (by omega) he,if_neg (by omega)];have:=S.back hc;have:=S.hn;by_cases c1:i=w/\e=(b+2)%4
 .rw[if_pos c1,c1.1,c1.2];omega
 .rw[if_neg c1];by_cases c2:i=a/\e=b
  .rw[if_pos c2,c2.1,c2.2];omega
  .rw[if_neg c2]
theorem Sp.y(S:Sp l m a b w):isD l (a,b):=⟨S.ha,S.hb,by rw[S.hn];omega⟩
theorem Sp.oy(S:Sp l m a b w):opp l (a,b)=(w,(b+2)%4):=by unfold opp;dsimp only;rw[S.hn,itn]
theorem Sp.y'(hc:Ck l)(S:Sp l m a b w):isD l (w,(b+2)%4):=by rw[<-S.oy];exact S.y.opp hc
theorem Sp.is(hc:Ck l)(S:Sp l m a b w){p:Da}(h:isD l p):isD m p:=⟨by rw[S.len];have:=h.1;omega,h.2.1,(S.old hc h.1 h.2.1).2 h.2.2⟩
theorem Sp.bh0(hc:Ck l)(S:Sp l m a b w){p:Da}(h:isD l p)(h1:p≠(a,b))(h2:p≠(w,(b+2)%4)):Mu.nx m p.1 p.2=Mu.nx l p.1 p.2/\bh m p=bh l p:=by
 have f:=h.fwd hc;have hlt:=h.1;have e:Mu.nx m p.1 p.2=Mu.nx l p.1 p.2:=by
  rw[S.nx p.1 p.2 (by omega) h.2.1,if_neg (by omega),if_neg λq=>h2 (Prod.ext q.1 q.2),if_neg λq=>h1 (Prod.ext q.1 q.2)]
 refine⟨e,?_⟩;rw[ZbZ,ZbZ,e];refine congrArg (Prod.mk _) (Zdn (λe he=>?_) h.2.1);rw[decide_eq_decide];exact S.old hc f.1 he
theorem Sp.bh1(hc:Ck l)(S:Sp l m a b w):Mu.nx m a b=l.length/\bh m (a,b)=(l.length,b)/\bh m (l.length,b)=bh l (a,b)/\bh m (w,(b+2)%4)=(l.length,(b+2)%4)/\bh m (l.length,(b+2)%4)=bh l (w,(b+2)%4):=by
 have hb:=S.hb;have hne:=S.hne;have ha:=S.ha;have hw:=S.hw;have e1:Mu.nx m a b=l.length:=by rw[S.nx a b (by omega) hb,if_neg (by omega),if_neg λq=>hne q.1.symm,if_pos ⟨rfl,rfl⟩]
 have e2:Mu.nx m w ((b+2)%4)=l.length:=by rw[S.nx w _ (by omega) (by omega),if_neg (by omega),if_pos ⟨rfl,rfl⟩]
 have e3:Mu.nx m l.length b=w:=by rw[S.nx _ b (by omega) hb,if_pos rfl,if_pos rfl]
 have e4:Mu.nx m l.length ((b+2)%4)=a:=by rw[S.nx _ _ (by omega) (by omega),if_pos rfl,if_neg (by omega),if_pos rfl]
 have ne1:Mu.nx m l.length ((b+1)%4)=-1:=by rw[S.nx _ _ (by omega) (by omega),if_pos rfl,if_neg (by omega),if_neg (by omega)]
 have ne3:Mu.nx m l.length ((b+3)%4)=-1:=by rw[S.nx _ _ (by omega) (by omega),if_pos rfl,if_neg (by omega),if_neg (by omega)]
 refine⟨e1,?_,?_,?_,?_⟩
 .unfold bh;dsimp only;rw[e1,itn,ne1,e3,if_neg (by omega),if_pos (by omega)]
 .rw[ZbZ,ZbZ];dsimp only;rw[e3,S.hn,itn];exact congrArg (Prod.mk _) (Zdn (λe he=>by rw[decide_eq_decide];exact S.old hc hw he) hb)
 .unfold bh;dsimp only;rw[e2,itn,show((b+2)%4+1)%4=(b+3)%4 by omega,ne3,e4,if_neg (by omega),if_pos (by omega)]
 .rw[ZbZ,ZbZ];dsimp only;rw[e4,S.back hc,itn];exact congrArg (Prod.mk _) (Zdn (λe he=>by rw[decide_eq_decide];exact S.old hc ha he) (by omega))
theorem Sp.ins(hc:Ck l)(S:Sp l m a b w):Ins l m (ZcO l a b w):=by
 have hb:=S.hb;have hne:=S.hne;have ha:=S.ha;have hw:=S.hw;obtain⟨n1,b1,b2,b3,b4⟩:=S.bh1 hc;have n3:Mu.nx m l.length b=w:=by rw[S.nx _ b (by omega) hb,if_pos rfl,if_pos rfl]
 have n4:Mu.nx m l.length ((b+2)%4)=a:=by rw[S.nx _ _ (by omega) (by omega),if_pos rfl,if_neg (by omega),if_pos rfl]
 have yy:((w,(b+2)%4):Da)≠(a,b):=λq=>hne (congrArg Prod.fst q);have U1:isD m (l.length,b):=⟨by rw[S.len];dsimp only;omega,hb,by dsimp only;rw[n3];omega⟩;have U2:isD m (l.length,(b+2)%4):=⟨by rw[S.len];dsimp only;omega,by dsimp only;omega,by dsimp only;rw[n4];omega⟩;have hd:∀p,isD l p->p∈ZcO l a b w p:=by
  intro p _;unfold ZcO;split
  .simp
  .split<;>simp
 refine⟨λp hp e=>?_,λp hp=>?_,λp hp x hx=>?_,λp q hp hq x h1 h2=>?_,λp hp=>?_,λp hp x hx=>?_,λC hC p hp hx y hy=>?_,λx hx=>?_⟩
 .have:=hd p hp;rw[e]at this;simp at this
 .have:=hp.1;unfold ZcO;split
  .rename_i c;rw[c];simp;omega
  .split
   .rename_i c;rw[c];simp;omega
   .simp
 .unfold ZcO at hx;split at hx
  .rcases List.mem_cons.1 hx with rfl|hx
   .exact S.is hc hp
   .rw[List.mem_singleton.1 hx];exact U1
  .split at hx
   .rcases List.mem_cons.1 hx with rfl|hx
    .exact S.is hc hp
    .rw[List.mem_singleton.1 hx];exact U2
   .rw[List.mem_singleton.1 hx];exact S.is hc hp
 .have hp1:=hp.1;have hq1:=hq.1;have key:∀{p x},isD l p->x∈ZcO l a b w p->x=p\/(x=(l.length,b)/\p=(a,b))\/(x=(l.length,(b+2)%4)/\p=(w,(b+2)%4)):=by
   intro p x hp h;unfold ZcO at h;split at h
   .rename_i c;rcases List.mem_cons.1 h with h|h
    .exact .inl h
    .exact .inr (.inl ⟨List.mem_singleton.1 h,c⟩)
   .split at h
    .rename_i c;rcases List.mem_cons.1 h with h|h
     .exact .inl h
     .exact .inr (.inr ⟨List.mem_singleton.1 h,c⟩)
    .exact .inl (List.mem_singleton.1 h)
  rcases key hp h1 with k|⟨k,k'⟩|⟨k,k'⟩<;>rcases key hq h2 with r|⟨r,r'⟩|⟨r,r'⟩
  .rw[<-k,r]
  .rw[<-k,r]at hp1;dsimp only at hp1;omega
  .rw[<-k,r]at hp1;dsimp only at hp1;omega
  .rw[<-r,k]at hq1;dsimp only at hq1;omega
  .rw[k',r']
  .rw[k]at r;injection r with _ r;omega
  .rw[<-r,k]at hq1;dsimp only at hq1;omega
  .rw[k]at r;injection r with _ r;omega
  .rw[k',r']
 .unfold ZcO;split
  .rename_i c;subst c;simp only[List.map_cons,List.map_nil,List.sum_cons,List.sum_nil,b1,b2];have:tn b b=0:=by unfold tn;rw[if_pos rfl]
   omega
  .split
   .rename_i c;subst c;simp only[List.map_cons,List.map_nil,List.sum_cons,List.sum_nil,b3,b4];have:tn ((b+2)%4) ((b+2)%4)=0:=by unfold tn;rw[if_pos rfl]
    omega
   .rename_i c1 c2;simp only[List.map_cons,List.map_nil,List.sum_cons,List.sum_nil,(S.bh0 hc hp c1 c2).2];omega
 .unfold ZcO at hx;split at hx
  .rename_i c;rcases List.mem_cons.1 hx with rfl|hx
   .subst c;rw[b1];left;unfold ZcO;rw[if_pos rfl];simp
   .rw[List.mem_singleton.1 hx,b2,c];right;exact hd _ (S.y.bh hc)
  .split at hx
   .rename_i c;rcases List.mem_cons.1 hx with rfl|hx
    .subst c;rw[b3];left;unfold ZcO;rw[if_neg yy,if_pos rfl];simp
    .rw[List.mem_singleton.1 hx,b4,c];right;exact hd _ ((S.y' hc).bh hc)
   .rename_i c1 c2;rw[List.mem_singleton.1 hx,(S.bh0 hc hp c1 c2).2];right;exact hd _ (hp.bh hc)
 ·-- one's first dart,then all
  have all:∀q,isD l q->C q->∀y∈ZcO l a b w q,C y:=by
   intro q hq hCq y hy;unfold ZcO at hy;split at hy
   .rename_i c;subst c;rcases List.mem_cons.1 hy with rfl|hy
    .exact hCq
    .rw[List.mem_singleton.1 hy,<-b1];exact hC _ (S.is hc hq) hCq
   .split at hy
    .rename_i c;subst c;rcases List.mem_cons.1 hy with rfl|hy
     .exact hCq
     .rw[List.mem_singleton.1 hy,<-b3];exact hC _ (S.is hc hq) hCq
    .rw[List.mem_singleton.1 hy];exact hCq
  refine all _ (hp.bh hc) ?_ y hy;obtain⟨x,hx,hCx⟩:=hx;unfold ZcO at hx;split at hx
  .rename_i c;subst c;have:C (l.length,b):=by
    rcases List.mem_cons.1 hx with rfl|hx
    .rw[<-b1];exact hC _ (S.is hc hp) hCx
    .rw[<-List.mem_singleton.1 hx];exact hCx
   rw[<-b2];exact hC _ U1 this
  .split at hx
   .rename_i c;subst c;have:C (l.length,(b+2)%4):=by
     rcases List.mem_cons.1 hx with rfl|hx
     .rw[<-b3];exact hC _ (S.is hc hp) hCx
     .rw[<-List.mem_singleton.1 hx];exact hCx
    rw[<-b4];exact hC _ U2 this
   .rename_i c1 c2;rw[List.mem_singleton.1 hx]at hCx;rw[<-(S.bh0 hc hp c1 c2).2];exact hC _ (S.is hc hp) hCx
 .have h1:=hx.1;have h2:=hx.2.1;rw[S.len]at h1;by_cases c:x.1=l.length
  .have h3:=hx.2.2;rw[S.nx x.1 x.2 (by omega) h2,if_pos c]at h3;by_cases c1:x.2=b
   .refine⟨(a,b),S.y,?_⟩;unfold ZcO;rw[if_pos rfl];have:x=(l.length,b):=Prod.ext c c1;rw[this];simp
   .rw[if_neg c1]at h3;by_cases c2:x.2=(b+2)%4
    .refine⟨(w,(b+2)%4),S.y' hc,?_⟩;unfold ZcO;rw[if_neg yy,if_pos rfl];have:x=(l.length,(b+2)%4):=Prod.ext c c2;rw[this];simp
    .rw[if_neg c2]at h3;omega
  .have:isD l x:=⟨by omega,h2,(S.old hc (by omega) h2).1 hx.2.2⟩;exact⟨x,this,hd x this⟩
theorem Sp.val(hc:Ck l)(S:Sp l m a b w)(h:Val l):Val m:=((S.ins hc).val hc S.ck (ZiD hc) (ZiD S.ck)).1 h
theorem Sp.Pt(hc:Ck l)(S:Sp l m a b w):∀{s:List Da}{x y:Da},Mu.Pt l x s y->Mu.Pt m x (s.flatMap (ZcO l a b w)) y
 |[],x,y,h=>h
 | p::s,x,y,h=>by
  rw[Mu.Pt]at h;obtain⟨rfl,h1,h2⟩:=h;obtain⟨n1,b1,b2,b3,b4⟩:=S.bh1 hc;have I:=S.ins hc;rw[List.flatMap_cons];refine Pt.app.2 ⟨bh l x,?_,S.Pt hc h2⟩;have is:=λz hz=>I.is x h1 z hz;unfold ZcO at is⊢;split
  .rename_i c;rw[if_pos c]at is;subst c;refine⟨rfl,is _ (by simp),?_⟩;rw[b1];exact⟨rfl,is _ (by simp),b2⟩
  .rename_i c;rw[if_neg c]at is;split
   .rename_i c2;rw[if_pos c2]at is;subst c2;refine⟨rfl,is _ (by simp),?_⟩;rw[b3];exact⟨rfl,is _ (by simp),b4⟩
   .rename_i c2;exact⟨rfl,S.is hc h1,(S.bh0 hc h1 c c2).2⟩
theorem Sp.Lp(hc:Ck l)(S:Sp l m a b w){f:List Da}(h:Mu.Lp l f):Mu.Lp m (f.flatMap (ZcO l a b w)):=by
 have C:=(S.ins hc).cyc hc h.cyc;obtain⟨x,hx⟩:=h.pt;exact⟨C.ne,C.nd,x,S.Pt hc hx⟩
theorem Sp.whole(hc:Ck l)(S:Sp l m a b w)(h:Mu.whole l):Mu.whole m:=by
 have h0:=Ze8 h
 -- each old cell is reached:through the new one where the edge was
 have e1:=S.nx a b (by have:=S.ha;omega) S.hb;have hne:=S.hne;have ha:=S.ha;have hw:=S.hw;have hb:=S.hb;rw[if_neg (by omega),if_neg (λq=>hne q.1.symm),if_pos ⟨rfl,rfl⟩]at e1;have e2:Mu.nx m w ((b+2)%4)=l.length:=by rw[S.nx w _ (by omega) (by omega),if_neg (by omega),if_pos ⟨rfl,rfl⟩]
 have e3:Mu.nx m l.length b=w:=by rw[S.nx _ b (by omega) hb,if_pos rfl,if_pos rfl]
 have e4:Mu.nx m l.length ((b+2)%4)=a:=by rw[S.nx _ _ (by omega) (by omega),if_pos rfl,if_neg (by omega),if_pos rfl]
 have old:∀{u n},Rch l 0 n u->∃k,Rch m 0 k u:=by
  intro u n hr
  induction hr with
  |zero=>exact⟨0,.zero⟩
  | succ hr hab ih=>
   rename_i n p q;obtain⟨k,r⟩:=ih;have hp:=hr.lt hc h0;obtain⟨d,hd,e⟩:=hab;have n:=S.nx p d (by omega) hd;rw[if_neg (by omega)]at n;by_cases c1:p=w/\d=(b+2)%4
   .have:q=a:=by
     have:=S.back hc;rw[<-c1.1,<-c1.2,e]at this;omega
    subst this;rw[if_pos c1]at n;exact⟨k+1+1,.succ (.succ r ⟨d,hd,n⟩) ⟨_,by omega,e4⟩⟩
   .rw[if_neg c1]at n;by_cases c2:p=a/\d=b
    .have:q=w:=by
      have:=S.hn;rw[<-c2.1,<-c2.2,e]at this;omega
     subst this;rw[if_pos c2]at n;exact⟨k+1+1,.succ (.succ r ⟨d,hd,n⟩) ⟨_,hb,e3⟩⟩
    .rw[if_neg c2,e]at n;exact⟨k+1,.succ r ⟨d,hd,n⟩⟩
 refine ZhP (by rw[S.len];omega) λu hu=>?_;rw[S.len]at hu;by_cases c:u=l.length
 .subst c;obtain⟨n,r⟩:=Zdo h ha;obtain⟨k,r⟩:=old r;exact⟨k+1,.succ r ⟨b,hb,e1⟩⟩
 .obtain⟨n,r⟩:=Zdo h (w:=u) (by omega);exact old r
end spl
end Mu
/- A cut of a face that turns to the right:what comes of it. -/
namespace Mu
def ng(t:Int):Int:=if t<0 then -t else 0
def negs(l:List Za):Int:=((ZbW l).map λp=>ng (tt l p)).sum
theorem Ins.perm{l m:List Za}{ins:Da->List Da}(I:Ins l m ins):(ZbW m).Perm ((ZbW l).flatMap ins):=by
 refine(List.perm_ext_iff_of_nodup ZcR ?_).2 λx=>?_
 .rw[List.Nodup,List.pairwise_flatMap];refine⟨λp hp=>I.nd p (ZaL.1 hp),(ZcR (l:=l)).imp_of_mem ?_⟩;intro p q hp hq hne x hx y hy e;subst e;exact hne (I.dj p q (ZaL.1 hp) (ZaL.1 hq) x hx hy)
 .rw[ZaL,List.mem_flatMap];constructor
  .intro hx;obtain⟨p,hp,h⟩:=I.al x hx;exact⟨p,ZaL.2 hp,h⟩
  .rintro⟨p,hp,h⟩;exact I.is p (ZaL.1 hp) x h
theorem ZgL{g:Da->Int}{ins:Da->List Da}:∀{L:List Da},((L.flatMap ins).map g).sum=(L.map λp=>((ins p).map g).sum).sum
 |[]=>rfl
 |a::L=>by rw[List.flatMap_cons,List.map_append,List.sum_append,ZgL (L:=L),List.map_cons,List.sum_cons]
theorem Sp.negs{l m:List Za}{a b w:Nat}(hc:Ck l)(S:Sp l m a b w):negs m=negs l:=by
 obtain⟨n1,b1,b2,b3,b4⟩:=S.bh1 hc;unfold Mu.negs;rw[ZcU (S.ins hc).perm,ZgL];congr 1;refine List.map_congr_left λp hp=>?_;have hp:=ZaL.1 hp;unfold ZcO tt;have z:ng 0=0:=rfl;have t0:∀d,tn d d=0:=λd=>by unfold tn;rw[if_pos rfl]
 split
 .rename_i c;subst c;simp only[List.map_cons,List.map_nil,List.sum_cons,List.sum_nil,b1,b2,t0,z];omega
 .split
  .rename_i c;subst c;simp only[List.map_cons,List.map_nil,List.sum_cons,List.sum_nil,b3,b4,t0,z];omega
  .rename_i c1 c2;simp only[List.map_cons,List.map_nil,List.sum_cons,List.sum_nil,(S.bh0 hc hp c1 c2).2];omega
theorem Del.dperm{l m:List Za}(hc:Ck l){v d w:Nat}(D:Del l m v d w):(ZbW l).Perm ((v,d)::(w,(d+2)%4)::ZbW m):=by
 refine(List.perm_ext_iff_of_nodup ZcR ?_).2 λx=>?_
 .refine List.nodup_cons.2 ⟨λq=>?_,List.nodup_cons.2 ⟨λq=>?_,ZcR⟩⟩
  .rcases List.mem_cons.1 q with q|q
   .exact D.ee hc q.symm
   .exact(D.isD.1 (ZaL.1 q)).2.1 rfl
  .exact(D.isD.1 (ZaL.1 q)).2.2 rfl
 .rw[List.mem_cons,List.mem_cons,ZaL,ZaL];constructor
  .intro hx;by_cases c1:x=(v,d)
   .exact .inl c1
   .by_cases c2:x=(w,(d+2)%4)
    .exact .inr (.inl c2)
    .exact .inr (.inr (D.isD.2 ⟨hx,c1,c2⟩))
  .rintro(rfl|rfl|h)
   .exact D.e
   .exact D.e' hc
   .exact(D.isD.1 h).1
theorem ZnE{f g:Da->Int}:∀{L:List Da},(∀x∈L,f x<=g x)->(L.map f).sum<=(L.map g).sum
 |[],_=>by simp
 |a::L,h=>by
  have:=ZnE (L:=L) λx hx=>h x (by simp[hx]);have:=h a (by simp);rw[List.map_cons,List.map_cons,List.sum_cons,List.sum_cons];omega
theorem Zr3{f g:Da->Int}{L:List Da}{a:Da}(h:∀x∈L,f x<=g x)(ha:a∈L)(h1:f a+1<=g a):(L.map f).sum+1<=(L.map g).sum:=by
 have p:L.Perm (a::L.erase a):=List.perm_cons_erase ha;rw[ZcU p,ZcU p,List.map_cons,List.map_cons,List.sum_cons,List.sum_cons];have:=ZnE (f:=f) (g:=g) (L:=L.erase a) λx hx=>h x (List.mem_of_mem_erase hx);omega
theorem ZlD{l:List Za}{p:Da}(h4:p.2<4)(h:tt l p<0):nx l (nx l p.1 p.2).toNat p.2<0/\nx l (nx l p.1 p.2).toNat ((p.2+1)%4)<0:=by
 unfold tt at h;rw[ZpS h4]at h;unfold arr at h;by_cases c1:0<=nx l (nx l p.1 p.2).toNat ((p.2+1)%4)
 .rw[if_pos c1]at h;omega
 .rw[if_neg c1]at h;by_cases c2:0<=nx l (nx l p.1 p.2).toNat p.2
  .rw[if_pos c2]at h;omega
  .omega
theorem ZmK{l:List Za}{f:List Da}{x:Da}(h:f=(List.range f.length).map (λi=>it l i x))(h2:it l f.length x=x)(hf:0<f.length){i:Nat}:∀k,cs (tns l f) i k=ZW l (seg l x i k)
 |0=>rfl
 |k+1=>by
  rw[cs,ZmK h h2 hf k,Zn6,Zd9];congr 1;unfold tns;rw[ZaR (Nat.mod_lt _ hf),Round.at h h2 hf];rfl
def ZlQ(t:List Int)(i:Nat):Option Nat:=(List.range t.length).find? λk=>decide (cs t i (k+1)=1)
structure Cut(l m:List Za):Prop where
 ck:Ck m
 val:Val m
 whole:whole m
 len:m.length=l.length+1
 negs:negs m+1<=negs l
 sub:∃(l1:List Za)(a b w v d:Nat),Sp l l1 a b w/\m=wth l1 v d l.length (-2)/\Del m l1 v d l.length/\v<l.length/\d<4/\nx l1 v d=-1/\nx l1 l.length ((d+2)%4)=-1
 out:∀g,Cyc l g->ZW l g=-4->(∀p∈g,-1<=tt l p/\tt l p<=0)->∃g',Cyc m g'/\ZW m g'=-4/\∀p∈g',-1<=tt m p/\tt m p<=0
theorem ZmL{l:List Za}(hc:Ck l)(hV:Val l)(hW:whole l){f:List Da}(hf:f∈faces l)(h4:ZW l f=4){i:Nat}(hi:i<f.length)(h0:gi (tns l f) i<0)(hlen:f.length<=1000000):∃kk:Nat,kk<f.length/\(∃k,ZlQ (tns l f) i=some k/\kk=((i+k)%f.length+1)%f.length)/\
  isD l (gi f i)/\isD l (gi f kk)/\(nx l (gi f i).1 (gi f i).2).toNat<l.length/\(∃w:Nat,nx l (gi f kk).1 (gi f kk).2=w/\w<l.length/\
  Sp l (spl l (gi f kk).1 (gi f kk).2 w (ow l (gi f kk).1 (gi f kk).2)) (gi f kk).1 (gi f kk).2 w/\
  nx (spl l (gi f kk).1 (gi f kk).2 w (ow l (gi f kk).1 (gi f kk).2)) (nx l (gi f i).1 (gi f i).2).toNat (gi f i).2=-1/\
  nx (spl l (gi f kk).1 (gi f kk).2 w (ow l (gi f kk).1 (gi f kk).2)) l.length (((gi f i).2+2)%4)=-1/\
  Cut l (wth (spl l (gi f kk).1 (gi f kk).2 w (ow l (gi f kk).1 (gi f kk).2)) (nx l (gi f i).1 (gi f i).2).toNat (gi f i).2 l.length (-2))):=by
 obtain⟨x0,hx0,e1,e2⟩:=ZgD hc f hf;have n0:0<f.length:=by omega
 have tl:=Zd9 (l:=l) (f:=f);obtain⟨k,k0,k1,c1,c2,c3,c4⟩:=Zu4 (t:=tns l f) Zjw h4 (by omega) h0;rw[tl]at k1 c4;have hit:ZlQ (tns l f) i=some k:=by
  unfold ZlQ;rw[List.find?_range_eq_some];exact⟨by simpa using c1,by simp;omega,λj hj=>by simpa using c2 j hj⟩
 have ek:((i+k)%f.length+1)%f.length=(i+k+1)%f.length:=by rw[Nat.mod_add_mod]
 have lk:(i+k+1)%f.length<f.length:=Nat.mod_lt _ n0;have gx:gi f i=it l i x0:=by
  have:=Round.at e1 e2 n0 (i:=i);rwa[Nat.mod_eq_of_lt hi]at this
 have gy:gi f ((i+k+1)%f.length)=it l (i+k+1) x0:=Round.at e1 e2 n0;refine⟨(i+k+1)%f.length,lk,⟨k,hit,ek.symm⟩,?_⟩;rw[gx,gy];have dX:=Zeb hc hx0 i;have dY:=Zeb hc hx0 (i+k+1);have tX:tt l (it l i x0)<0:=by
  unfold tns at h0;rw[ZaR hi,gx]at h0;exact h0
 have s1:ZW l (seg l x0 i (k+1))=1:=by rw[<-ZmK e1 e2 n0];exact c1
 have P1:=ZkQ hc hx0 (a:=i) (k+1);obtain⟨q,hq⟩:=P1.dir hc;rw[s1,<-Nat.add_assoc]at hq
 -- the loop from behind the corner on
 have L:Lp l (seg l x0 (i+1) f.length):=by
  have pm:=ZhJ (l:=l) e2 n0 (i+1);have e0:seg l x0 0 f.length=f:=by
   unfold seg;simp only[Nat.zero_add];exact e1.symm
  refine⟨?_,?_,it l (i+1) x0,?_⟩
  .intro z;rw[z]at pm;have:=pm.length_eq;rw[e0]at this;simp at this;omega
  .rw[pm.nodup_iff,e0];exact(Zbe hc f hf).nd
  .have:=ZkQ hc hx0 (a:=i+1) f.length;have p:=Zh1 e2 1 (i+1);rw[Nat.mul_one]at p;rwa[p]at this
 have eX:it l (i+f.length) x0=it l i x0:=by have:=Zh1 e2 1 i;rwa[Nat.mul_one]at this
 have spli:seg l x0 (i+1) f.length=seg l x0 (i+1) k++[it l (i+k+1) x0]++(seg l x0 (i+k+2) (f.length-k-2)++[it l i x0]):=by
  have a:f.length=k+(1+((f.length-k-2)+1)):=by omega
  rw[<-eX];generalize hr:f.length-k-2=r at*;rw[a,Zet,Zet,Zet,Zfz,Zfz,<-List.append_assoc,show i+1+k=i+k+1 by omega,show i+k+1+1=i+k+2 by omega,show i+k+2+r=i+(k+(1+(r+1))) by omega]
 have rB:tt l (it l i x0)+ZW l (seg l x0 (i+1) k)=1:=by
  have:seg l x0 i (k+1)=[it l i x0]++seg l x0 (i+1) k:=by rw[Nat.add_comm k 1,Zet,Zfz]
  rw[this,Zcl,Zao,Zcm]at s1;omega
 have rL:ZW l (seg l x0 (i+1) f.length)=4:=by
  have e0:seg l x0 0 f.length=f:=by
   unfold seg;simp only[Nat.zero_add];exact e1.symm
  rw[Zb7 (ZhJ (l:=l) e2 n0 (i+1)),e0];exact h4
 rw[spli]at L rL;generalize hX:it l i x0=X at*;generalize hY:it l (i+k+1) x0=Y at*;generalize hB:seg l x0 (i+1) k=B at*;generalize hA:seg l x0 (i+k+2) (f.length-k-2)=A at*;have fX:=dX.fwd hc;have fY:=dY.fwd hc;have X4:=dX.2.1;have Y4:=dY.2.1;have tf:=ZlD X4 tX;have hwY:nx l Y.1 Y.2=((nx l Y.1 Y.2).toNat:Nat):=by have:=dY.2.2;omega
 refine⟨dX,dY,fX.1,(nx l Y.1 Y.2).toNat,hwY,fY.1,?_⟩;have S:=Sp.of hc dY.1 Y4 hwY;refine⟨S,?_⟩;have dir:Y.2=(X.2+1)%4:=by omega
 generalize hv:(nx l X.1 X.2).toNat=v at*;generalize hw:(nx l Y.1 Y.2).toNat=w at*;generalize hl1:spl l Y.1 Y.2 w (ow l Y.1 Y.2)=l1 at*;have lv:=hc.lt fX.1 X4;have f1:nx l1 v X.2=-1:=by
  have:=S.old hc fX.1 X4;have:=S.ck.lt (v:=v) (d:=X.2) (by rw[S.len];omega) X4;omega
 have f2:nx l1 l.length ((X.2+2)%4)=-1:=by
  rw[S.nx _ _ (by omega) (by omega),if_pos rfl,if_neg (by omega),if_neg (by omega)]
 refine⟨f1,f2,?_⟩;have hvl:v<l1.length:=by rw[S.len];have:=fX.1;omega
 have hul:l.length<l1.length:=by rw[S.len];omega
 have hvu:v≠l.length:=by have:=fX.1;omega
 have D:Del (wth l1 v X.2 l.length (-2)) l1 v X.2 l.length:=Del.of_wth S.ck hvl hul hvu X4 f1 f2;have hcm:Ck (wth l1 v X.2 l.length (-2)):=S.ck.wth hvl hul hvu X4 f1 f2 (by omega);generalize hm:wth l1 v X.2 l.length (-2)=m at*;have nXY:X≠Y:=by
  intro z;have nd:=List.nodup_append.1 L.nd;exact nd.2.2 Y (by simp) X (by simp) z.symm
 have nXY':X≠(w,(Y.2+2)%4):=by
  intro z;have:=congrArg Prod.snd z;dsimp only at this;omega
 obtain⟨n1,b1,b2,b3,b4⟩:=S.bh1 hc;have eY:(Y.1,Y.2)=Y:=rfl;have iX:ZcO l Y.1 Y.2 w X=[X]:=by
  unfold ZcO;rw[if_neg nXY,if_neg nXY']
 have iY:ZcO l Y.1 Y.2 w Y=[Y,(l.length,Y.2)]:=by
  unfold ZcO;rw[if_pos rfl]
 have L1:=S.Lp hc L;have fl:(B++[Y]++(A++[X])).flatMap (ZcO l Y.1 Y.2 w)=B.flatMap (ZcO l Y.1 Y.2 w)++[Y]++(((l.length,Y.2)::A.flatMap (ZcO l Y.1 Y.2 w))++[X]):=by
  simp[List.flatMap_append,iX,iY]
 rw[fl]at L1;have x1:=S.bh0 hc dX nXY nXY';have tX1:tt l1 X=tt l X:=by unfold tt;rw[x1.2]
 have tY1:tt l1 Y=0:=by unfold tt;rw[b1];unfold tn;rw[if_pos rfl]
 have t0:tn X.2 X.2=0:=by unfold tn;rw[if_pos rfl]
 have t1:tn Y.2 ((X.2+2)%4)=1:=by unfold tn;rw[if_neg (by omega),if_pos (by omega)]
 have bX:bh m X=(v,X.2):=(D.enter hcm S.ck (S.is hc dX)).1 (by rw[x1.1];exact hv) (by rw[tX1,t0];exact tX);have bY:bh m Y=(l.length,(X.2+2)%4):=(D.enter hcm S.ck (S.is hc dY)).2 (by rw[n1,itn]) (by rw[tY1,t1];omega);have rB1:ZW l1 (B.flatMap (ZcO l Y.1 Y.2 w))=ZW l B:=(S.ins hc).rot λp hp=>L.is p (by simp[hp]);refine⟨hcm,D.chord_val hcm S.ck L1 bX bY ?_ (S.val hc hV),D.whole hcm S.ck (S.whole hc hW),by rw[<-hm,ZaG,S.len],?_,⟨l1,Y.1,Y.2,w,v,X.2,S,hm.symm,D,fX.1,X4,f1,f2⟩,?_⟩
 .rw[Zcl,rB1,Zao,Zcm,tY1,tX1,t0,t1];omega
 .rw[<-S.negs hc];unfold Mu.negs;rw[ZcU (D.dperm hcm)];simp only[List.map_cons,List.sum_cons];have B1:=D.bh hcm (S.is hc dX);have B2:=D.bh hcm (S.is hc dY);have ee:=D.ee hcm;rw[bX,if_pos rfl,if_pos rfl]at B1;rw[bY,if_neg ee,if_pos rfl,if_neg ee,if_pos rfl]at B2;have mX:tt m X=0:=by unfold tt;rw[bX];exact t0
  have mY:tt m Y=1:=by unfold tt;rw[bY];exact t1
  have r1:=B1.2;have r2:=B2.2;rw[tX1,mX]at r1;rw[tY1,mY]at r2;have rX:-2<=tt l X:=ZhN.1;have g1:ng (tt m (v,X.2))=0:=by unfold ng;rw[if_neg (by omega)]
  have g2:ng (tt m (l.length,(X.2+2)%4))=0:=by unfold ng;rw[if_neg (by omega)]
  rw[g1,g2];have:=Zr3 (f:=λp=>ng (tt m p)) (g:=λp=>ng (tt l1 p)) (L:=ZbW l1) (a:=X) (λp hp=>?_) (ZaL.2 (S.is hc dX)) (by rw[mX,tX1];unfold ng;rw[if_neg (by omega),if_pos tX];omega)
  .omega
  .have hp:=ZaL.1 hp;by_cases c1:p=X
   .subst c1;rw[mX];unfold ng;rw[if_neg (by omega)];split<;>omega
   .by_cases c2:p=Y
    .subst c2;rw[mY];unfold ng;rw[if_neg (by omega)];split<;>omega
    .have dp:=(D.isD.1 hp).1;have a1:bh m p≠(v,X.2):=λz=>c1 (ZbY hcm dp (D.isD.1 (S.is hc dX)).1 (z.trans bX.symm));have a2:bh m p≠(l.length,(X.2+2)%4):=λz=>c2 (ZbY hcm dp (D.isD.1 (S.is hc dY)).1 (z.trans bY.symm));have:=(D.bh hcm hp).2;rw[if_neg a1,if_neg a2]at this;rw[this];exact Int.le_refl _
 .intro g hg g4 gt;have nX:X∉g:=λz=>by
   have:=Zb7 (l:=l) (hg.perm L.cyc z (by simp));omega
  have nY:Y∉g:=λz=>by
   have:=Zb7 (l:=l) (hg.perm L.cyc z (by simp));omega
  have I:=S.ins hc;have C1:=I.cyc hc hg;have m1:∀q∈g.flatMap (ZcO l Y.1 Y.2 w),q≠X/\q≠Y/\-1<=tt l1 q/\tt l1 q<=0:=by
   intro q hq;obtain⟨p,hp,hq⟩:=List.mem_flatMap.1 hq;have dp:=hg.is p hp;refine⟨λz=>?_,λz=>?_,?_⟩
   .rw[z]at hq;rw[I.dj p X dp dX X hq (by rw[iX];simp)]at hp;exact nX hp
   .rw[z]at hq;rw[I.dj p Y dp dY Y hq (by rw[iY];simp)]at hp;exact nY hp
   .have tp:=gt p hp;unfold ZcO at hq;rw[if_neg (show p≠(Y.1,Y.2) from λz=>nY (by rw[z]at hp;exact hp))]at hq;by_cases c:p=(w,(Y.2+2)%4)
    .rw[if_pos c]at hq;have t0:tt l1 (w,(Y.2+2)%4)=0:=by unfold tt;rw[b3];unfold tn;rw[if_pos rfl]
     have t1:tt l1 (l.length,(Y.2+2)%4)=tt l p:=by rw[c];unfold tt;rw[b4]
     rcases List.mem_cons.1 hq with q1|hq
     .rw[q1,c,t0];omega
     .rw[List.mem_singleton.1 hq,t1];exact tp
    .rw[if_neg c]at hq;rw[List.mem_singleton.1 hq];unfold tt;rw[(S.bh0 hc dp (λz=>nY (by rw[z]at hp;exact hp)) c).2];exact tp
  have B:∀q∈g.flatMap (ZcO l Y.1 Y.2 w),bh l1 q=bh m q/\tt l1 q=tt m q:=by
   intro q hq;have iq:=C1.is q hq;have dq:=(D.isD.1 iq).1;have a1:bh m q≠(v,X.2):=λz=>(m1 q hq).1 (ZbY hcm dq (D.isD.1 (S.is hc dX)).1 (z.trans bX.symm));have a2:bh m q≠(l.length,(X.2+2)%4):=λz=>(m1 q hq).2.1 (ZbY hcm dq (D.isD.1 (S.is hc dY)).1 (z.trans bY.symm));have:=D.bh hcm iq;rw[if_neg a1,if_neg a2,if_neg a1,if_neg a2]at this;exact this
  refine⟨_,⟨C1.ne,C1.nd,λq hq=>(D.isD.1 (C1.is q hq)).1,λq hq=>by rw[<-(B q hq).1];exact C1.cl q hq,λC hC p hp q hq hCp=>(C1.one (λz=>z∈g.flatMap (ZcO l Y.1 Y.2 w)/\C z) (λz hz h=>⟨C1.cl z h.1,by rw[(B z h.1).1];exact hC z (D.isD.1 hz).1 h.2⟩) p hp q hq ⟨hp,hCp⟩).2⟩,?_,λq hq=>by rw[<-(B q hq).2];exact(m1 q hq).2.2⟩;have r1:ZW l1 (g.flatMap (ZcO l Y.1 Y.2 w))=ZW l g:=I.rot λp hp=>hg.is p hp;rw[<-g4,<-r1];unfold ZW tns;congr 1;exact List.map_congr_left λq hq=>(B q hq).2.symm
end Mu
/- Layer 21:cuts in the code;refining,till no inner face turns to the right. -/
namespace Mu
theorem Zh8:∀{R:List Int}{i a b:Int},Zdx R i a=some b->0<=i->b=a\/(i<=b/\b<i+R.length/\gi R (b-i).toNat=-4)
 |[],i,a,b,h,_=>by
  simp only[Zdx,Option.some.injEq]at h;exact .inl h.symm
 | r::R,i,a,b,h,hi=>by
  have up:∀{b:Int},(i+1<=b/\b<i+1+R.length/\gi R (b-(i+1)).toNat=-4)->(i<=b/\b<i+((r::R).length:Nat)/\gi (r::R) (b-i).toNat=-4):=by
   rintro b ⟨h1,h2,h3⟩;refine⟨by omega,by simp;omega,?_⟩;rw[show(b-i).toNat=(b-(i+1)).toNat+1 by omega];exact h3
  rw[Zdx]at h;split at h
  .rcases Zh8 h (by omega)with k|k
   .exact .inl k
   .exact .inr (up k)
  .split at h
   .rename_i c;split at h
    .cases h
    .rcases Zh8 h (by omega)with k|k
     .right;refine⟨by omega,by simp;omega,?_⟩;rw[k,show(i-i).toNat=0 by omega];exact c
     .exact .inr (up k)
   .cases h
theorem ZhO{l:List Za}(h:Zc2 l=0)(h1:l.length≠1){i:Nat}(hi:i<(faces l).length):(ZW l (gi (faces l) i)=4/\(i:Int)≠ZeY l)\/(ZW l (gi (faces l) i)=-4/\(i:Int)=ZeY l):=by
 obtain⟨k,w,o⟩:=ZdA h;have hV:=(ZdI.1 h).2.2 h1;obtain⟨a,q,ha⟩:=o h1;have e:ZeY l=a:=by unfold ZeY;rw[if_neg h1,q]
 have at':gi ((faces l).map (ZW l)) a.toNat=-4/\a.toNat<(faces l).length:=by
  unfold Zfh at q;rcases Zh8 q (by omega)with z|⟨z1,z2,z3⟩
  .omega
  .rw[List.length_map]at z2;rw[show(a-0).toNat=a.toNat by omega]at z3;exact⟨z3,by omega⟩
 rw[ZaR at'.2]at at';rw[e];rcases hV.1 i hi with r|r
 .left;refine⟨r,λz=>?_⟩;have:a.toNat=i:=by omega
  rw[this]at at';omega
 .right;refine⟨r,?_⟩;have:=hV.2.2 i a.toNat hi at'.2 r at'.1;omega
theorem ZjK{l:List Za}{i:Nat}(h:ZeM l=some i):i<(faces l).length/\(i:Int)≠ZeY l/\∃j,gF l i=some j/\j<(gi (faces l) i).length/\gi (tns l (gi (faces l) i)) j<0:=by
 unfold ZeM at h;rw[List.find?_range_eq_some]at h;obtain⟨h1,h2,_⟩:=h;refine⟨by simpa using h2,?_,?_⟩
 .intro q;unfold gF at h1;rw[if_pos q]at h1;cases h1
 .cases q:gF l i with
  |none=>rw[q]at h1;cases h1
  |some j=>
   refine⟨j,rfl,?_⟩;unfold gF at q;split at q
   .cases q
   .unfold ZmT at q;rw[List.find?_range_eq_some]at q;obtain⟨k1,k2,_⟩:=q;rw[List.mem_range,Zd9]at k2;exact⟨k2,by simpa using k1⟩
theorem ZjJ{l:List Za}(h:ZeM l=none):∀i,i<(faces l).length->(i:Int)≠ZeY l->∀j,0<=gi (tns l (gi (faces l) i)) j:=by
 intro i hi hne j;unfold ZeM at h;rw[List.find?_range_eq_none]at h;have:=h i hi;unfold gF at this;rw[if_neg hne]at this;by_cases c:j<(tns l (gi (faces l) i)).length
 .have q:ZmT (tns l (gi (faces l) i))=none:=by
   cases z:ZmT (tns l (gi (faces l) i))with
   |none=>rfl
   |some k=>rw[z]at this;simp at this
  unfold ZmT at q;rw[List.find?_range_eq_none]at q;have:=q j c;simp at this;exact this
 .rw[ZeN (by omega)];decide
inductive Cuts(l:List Za):Nat->List Za->Prop
 |zero:Cuts l 0 l
 |succ {n m m'}:Cuts l n m->Cut m m'->Cuts l (n+1) m'
theorem Zth{t:Int}:0<=ng t:=by unfold ng;split<;>omega
theorem Zjd{l:List Za}:0<=negs l:=by
 unfold negs;have:∀L:List Da,0<=(L.map λp=>ng (tt l p)).sum:=by
  intro L
  induction L with
  |nil=>simp
  |cons a L ih=>rw[List.map_cons,List.sum_cons];have:=Zth (t:=tt l a);omega
 exact this _
theorem Cut.err{l m:List Za}(C:Cut l m)(hl:l.length+1<=4096):Zc2 m=0:=ZdI.2 ⟨Zcf.2 ⟨by rw[C.len];exact hl,C.ck⟩,C.whole,λ_=>C.val⟩
end Mu
/- Layer 15,plainly:corners,sums,rotations. -/
namespace Mu

def knp(x:Int):Nat:=if x=-1 then 1 else if x=-2 then 2 else 0
def Znd(t:List Int):Nat->List (Nat×Nat)
 |0=>[]
 |n+1=>Znd t n++(List.range (knp (gi t n))).map λp=>(n,p)
def ZsM(t:List Int):List (Nat×Nat):=Znd t t.length
/-! right -/
/-! contains -/
/-! sums -/
def ZuS(t:List Int)(a b:Nat×Nat):Int:=Zee t b.1-b.2-(Zee t a.1-a.2)+if b.1<a.1\/(b.1=a.1/\b.2<a.2)then Zee t t.length else 0
end Mu
/- Layer 15:the rotation there and back. -/
namespace Mu

end Mu
/- Layer 15:turns of 0,and where one begins. -/
namespace Mu

def looks(t:List Int):Prop:=∃a∈ZsM t,∃b∈ZsM t,ZuS t a b=2

/-! A list and another one whose turns,but those of 0,stand elsewhere. -/
/-! How many corners. -/
end Mu
/- Layer 15:the document's answer. -/
namespace Mu

/-! Single turns. -/
def Ztz(x:Int):List Int:=if x=-2 then [-1,-1]else [x]
def ZpQ(t:List Int):Nat->List Int
 |0=>[]
 |n+1=>ZpQ t n++Ztz (gi t n)
def pos(t:List Int)(c:Nat×Nat):Nat:=(ZpQ t c.1).length+c.2
end Mu
/- Layer 15:KittyRegular. -/
namespace Mu
end Mu
/- Layer 22:corners that look at one another:an edge laid between them leaves cells that can be Zep. -/
namespace Mu
theorem ZjG{l:List Za}(hc:Ck l){f:List Da}(hf:f∈faces l):Lp l f:=by
 obtain⟨x0,hx0,e1,e2⟩:=ZgD hc f hf;have C:=Zbe hc f hf;refine⟨C.ne,C.nd,x0,?_⟩;have:=Zna hc hx0 f.length;rw[e2,<-e1]at this;exact this
end Mu
/- Loops that turn one way alone,four times:rectangles. -/
namespace Mu
def tg(l:List Za)(p:Da):Nat:=(nx l p.1 p.2).toNat
def al(X Y:Nat->Int)(d v:Nat):Int:=if d=0 then X v else if d=1 then Y v else if d=2 then -X v else -Y v
def ac(X Y:Nat->Int)(d v:Nat):Int:=if d=0 then Y v else if d=1 then X v else if d=2 then Y v else X v
def Str(l:List Za)(X Y:Nat->Int):Prop:=∀p,isD l p->al X Y p.2 p.1<al X Y p.2 (tg l p)/\ac X Y p.2 p.1=ac X Y p.2 (tg l p)
structure Rn(l:List Za)(d a:Nat)(s:List Da)(b:Nat):Prop where
 w:Wk l a s b
 d:∀p∈s,p.2=d
 ne:s≠[]
theorem Pt.wk{l:List Za}:∀{s:List Da}{x y:Da},Pt l x s y->Wk l x.1 s y.1
 |[],x,y,h=>congrArg Prod.fst h
 |p::s,x,y,h=>by
  have w:=Pt.wk h.2.2;rw[ZiF]at w;exact⟨by rw[h.1],h.2.1,w⟩
theorem Zd4{l:List Za}{X Y:Nat->Int}(hS:Str l X Y){d b:Nat}:∀{s:List Da}{a:Nat},Wk l a s b->(∀p∈s,p.2=d)->
  ac X Y d b=ac X Y d a/\al X Y d a<=al X Y d b/\(s≠[]->al X Y d a<al X Y d b)/\(∀p∈s,ac X Y d p.1=ac X Y d a/\ac X Y d (tg l p)=ac X Y d a/\al X Y d a<=al X Y d p.1/\al X Y d p.1<al X Y d (tg l p)/\al X Y d (tg l p)<=al X Y d b)/\
  s.Pairwise (λp q=>al X Y d (tg l p)<=al X Y d q.1)/\∀j,(s.map λp=>if al X Y d p.1<=j/\j<al X Y d (tg l p)then(1:Int)else 0).sum=if al X Y d a<=j/\j<al X Y d b then 1 else 0
 |[],a,h,hd=>by
  have e:a=b:=h;subst e;refine⟨rfl,Int.le_refl _,λc=>absurd rfl c,by simp,.nil,λj=>?_⟩;rw[if_neg (by omega)];rfl
 | p::s,a,h,hd=>by
  obtain⟨h1,h2,h3⟩:=h;have hp:p.2=d:=hd p (by simp);obtain⟨i1,i2,i3,i4,i5,i6⟩:=Zd4 hS h3 (λq hq=>hd q (by simp[hq]));obtain⟨k1,k2⟩:=hS p h2;rw[hp,h1]at k1 k2;have e:(nx l p.1 p.2).toNat=tg l p:=rfl;rw[e]at i1 i2 i3 i4 i6;refine⟨by omega,by omega,λ_=>by omega,λq hq=>?_,List.pairwise_cons.2 ⟨λq hq=>(i4 q hq).2.2.1,i5⟩,λj=>?_⟩
  .rcases List.mem_cons.1 hq with rfl|hq
   .rw[h1];omega
   .have:=i4 q hq;omega
  .rw[List.map_cons,List.sum_cons,i6 j,h1];split<;>split<;>split<;>omega
theorem Zrx{l:List Za}(hc:Ck l){σ:Int}:∀{f:List Da}{x y:Da},Pt l x f y->f≠[]->(∀p∈f,tt l p=0\/tt l p=σ)->∃s1 s2 y',f=s1++s2/\s1≠[]/\(∀p∈s1,p.2=x.2)/\Pt l x s1 y'/\Pt l y' s2 y/\
  ((s2=[]/\ZW l s1=0)\/(ZW l s1=σ/\tn x.2 y'.2=σ/\∃t c,s1=t++[c]/\tt l c=σ))
 |[],x,y,h,ne,ht=>absurd rfl ne
 | p::t,x,y,h,ne,ht=>by
  obtain⟨rfl,hp,h3⟩:=h;have rc:∀t,ZW l (x::t)=tt l x+ZW l t:=λt=>Zao;by_cases c:tt l x=σ
  .refine⟨[x],t,bh l x,rfl,by simp,by simp,⟨rfl,hp,rfl⟩,h3,.inr ⟨by rw[rc,Zcm,c];omega,c,[],x,rfl,c⟩⟩
  .have z:tt l x=0:=(ht x (by simp)).resolve_right c;have ed:(bh l x).2=x.2:=by
    unfold tt tn at z;split at z
    .assumption
    .split at z
     .omega
     .split at z<;>omega
   by_cases n:t=[]
   .subst n;exact⟨[x],[],bh l x,rfl,by simp,by simp,⟨rfl,hp,rfl⟩,h3,.inl ⟨rfl,by rw[rc,Zcm,z];rfl⟩⟩
   .obtain⟨s1,s2,y',e,n1,d1,P1,P2,k⟩:=Zrx hc h3 n (λq hq=>ht q (by simp[hq]));refine⟨x::s1,s2,y',by rw[e];rfl,by simp,λq hq=>?_,⟨rfl,hp,P1⟩,P2,?_⟩
    .rcases List.mem_cons.1 hq with rfl|hq
     .rfl
     .rw[d1 q hq,ed]
    .rcases k with⟨k1,k2⟩|⟨k1,k2,tl,c',k3,k4⟩
     .exact .inl ⟨k1,by rw[rc,k2,z];rfl⟩
     .exact .inr ⟨by rw[rc,k1,z];omega,by rw[<-ed];exact k2,x::tl,c',by rw[k3];rfl,k4⟩
theorem Zn7{l:List Za}{σ:Int}(hσ:σ=1\/σ=-1):∀{f:List Da},(∀p∈f,tt l p=0\/tt l p=σ)->0<=σ*ZW l f/\((∃c∈f,tt l c=σ)->1<=σ*ZW l f)
 |[],h=>⟨by rw[Zcm];omega,by rintro⟨c,hc,_⟩;simp at hc⟩
 | a::t,h=>by
  obtain⟨i1,i2⟩:=Zn7 hσ (λq hq=>h q (List.mem_cons_of_mem a hq));have ha:=h a (by simp);have e:ZW l (a::t)=tt l a+ZW l t:=Zao;rw[e];constructor
  .rcases hσ with rfl|rfl<;>omega
  .rintro⟨c,hc,tc⟩;rcases List.mem_cons.1 hc with rfl|hc
   .rcases hσ with rfl|rfl<;>omega
   .have:=i2 ⟨c,hc,tc⟩;rcases hσ with rfl|rfl<;>omega
structure Cnr(l:List Za)(σ:Int)(f g:List Da)(x:Da):Prop where
 pt:Pt l x g x
 perm:g.Perm f
 t:∀p∈g,tt l p=0\/tt l p=σ
 last:∃t c,g=t++[c]/\tt l c=σ
theorem ZnH{a b:Nat}(ha:a<4)(hb:b<4){σ:Int}(hσ:σ=1\/σ=-1)(h:tn a b=σ):(b:Int)=(a+σ)%4:=by
 unfold tn at h;rcases hσ with rfl|rfl
 .split at h
  .omega
  .split at h
   .omega
   .split at h<;>omega
 .split at h
  .omega
  .split at h
   .omega
   .split at h<;>omega
theorem Pt.end4{l:List Za}(hc:Ck l):∀{s:List Da}{x y:Da},Pt l x s y->x.2<4->y.2<4
 |[],x,y,h,hx=>by have e:x=y:=h;rw[<-e];exact hx
 |p::s,x,y,h,hx=>Pt.end4 hc h.2.2 (h.2.1.bh hc).2.1
theorem Cnr.next{l:List Za}(hc:Ck l){σ:Int}(hσ:σ=1\/σ=-1){f g:List Da}{x:Da}(h:Cnr l σ f g x)(hr:ZW l f=4*σ):∃g' x',Cnr l σ f g' x'/\(x'.2:Int)=(x.2+σ)%4:=by
 have gne:g≠[]:=by
  obtain⟨t,c,e,_⟩:=h.last;rw[e];simp
 have x4:x.2<4:=by
  match g,h.pt,gne with
  |p::t,k,_=>rw[k.1];exact k.2.1.2.1
 obtain⟨s1,s2,y',e,n1,d1,P1,P2,k⟩:=Zrx hc h.pt gne h.t;have rg:ZW l g=4*σ:=by rw[Zb7 h.perm,hr]
 rcases k with⟨k1,k2⟩|⟨k1,k2,t,c,k3,k4⟩
 .subst k1;rw[e,List.append_nil,k2]at rg;omega
 .refine⟨s2++s1,y',⟨Pt.app.2 ⟨x,P2,P1⟩,?_,λp hp=>h.t p ?_,s2++t,c,by rw[k3,List.append_assoc],k4⟩,ZnH x4 (P1.end4 hc x4) hσ k2⟩
  .exact List.perm_append_comm.trans (by rw[<-e];exact h.perm)
  .rw[e];exact List.mem_append.2 ((List.mem_append.1 hp).symm)
theorem Cnr.to{l:List Za}(hc:Ck l){σ:Int}(hσ:σ=1\/σ=-1){f:List Da}(hr:ZW l f=4*σ):∀(n:Nat){g:List Da}{x:Da},Cnr l σ f g x->((x.2:Int)+n*σ)%4=0->x.2<4->∃g' x',Cnr l σ f g' x'/\x'.2=0
 |0,g,x,h,hx,h4=>⟨g,x,h,by omega⟩
 |n+1,g,x,h,hx,h4=>by
  obtain⟨g',x',h',e⟩:=h.next hc hσ hr;refine Cnr.to hc hσ hr n h' ?_ (by omega);rcases hσ with rfl|rfl<;>omega
structure Zuf(l:List Za)(σ:Int)(f:List Da)(c:Nat->Nat)(s:Nat->List Da):Prop where
 r:∀i:Nat,i<4->Rn l (((i:Int)*σ)%4).toNat (c i) (s i) (c ((i+1)%4))
 perm:(s 0++(s 1++(s 2++s 3))).Perm f
theorem Zl0{l:List Za}(hc:Ck l){σ:Int}(hσ:σ=1\/σ=-1){f:List Da}(hL:Lp l f)(ht:∀p∈f,tt l p=0\/tt l p=σ)(hr:ZW l f=4*σ):∃c s,Zuf l σ f c s:=by
 -- a corner
 have:∃c∈f,tt l c=σ:=by
  refine Classical.byContradiction λq=>?_;have z:∀f:List Da,(∀p∈f,tt l p=0)->ZW l f=0:=by
   intro f
   induction f with
   |nil=>intro _;rfl
   |cons a t ih=>
    intro h;have e:ZW l (a::t)=tt l a+ZW l t:=Zao;rw[e,h a (by simp),ih (λp hp=>h p (by simp[hp]))];rfl
  have:=z f λp hp=>(ht p hp).resolve_right λk=>q ⟨p,hp,k⟩;omega
 obtain⟨c,hcf,tc⟩:=this;obtain⟨a,b,e⟩:=List.append_of_mem hcf;have L2:Lp l (b++(a++[c])):=by
  have:f=(a++[c])++b:=by rw[e];simp
  rw[this]at hL;exact hL.turn
 obtain⟨x,hx⟩:=L2.pt;have pm:(b++(a++[c])).Perm f:=by
  have:f=(a++[c])++b:=by rw[e];simp
  rw[this];exact List.perm_append_comm
 have C0:Cnr l σ f (b++(a++[c])) x:=⟨hx,pm,λp hp=>ht p (pm.mem_iff.1 hp),b++a,c,by simp,tc⟩;have x4:x.2<4:=by
  have ne:=L2.ne;revert hx ne;generalize b++(a++[c])=g;intro hx ne
  match g,hx,ne with
  |p::t,k,_=>rw[k.1];exact k.2.1.2.1
 obtain⟨g,x,C,x0⟩:∃g' x',Cnr l σ f g' x'/\x'.2=0:=by
  rcases hσ with rfl|rfl
  .exact C0.to hc (.inl rfl) hr (4-x.2) (by omega) x4
  .exact C0.to hc (.inr rfl) hr x.2 (by omega) x4
 have rg:ZW l g=4*σ:=by rw[Zb7 C.perm,hr]
 -- way for way
 have go:∀(k:Nat){h:List Da}{y:Da},Pt l y h x->y.2<4->(∀p∈h,tt l p=0\/tt l p=σ)->ZW l h=(k+1)*σ->∃s1 s2 y',h=s1++s2/\Rn l y.2 y.1 s1 y'.1/\Pt l y' s2 x/\y'.2<4/\(y'.2:Int)=(y.2+σ)%4/\(∀p∈s2,tt l p=0\/tt l p=σ)/\ZW l s2=k*σ:=by
  intro k h y hp y4 ht hr;have hne:h≠[]:=by
   rintro rfl;rw[Zcm]at hr;have:(k+1:Int)*σ≠0:=by rcases hσ with rfl|rfl<;>omega
   omega
  obtain⟨s1,s2,y',e,n1,d1,P1,P2,q⟩:=Zrx hc hp hne ht;rcases q with⟨q1,q2⟩|⟨q1,q2,_⟩
  .subst q1;rw[e,List.append_nil,q2]at hr;have:(k+1:Int)*σ≠0:=by rcases hσ with rfl|rfl<;>omega
   omega
  .have e4:=P1.end4 hc y4;refine⟨s1,s2,y',e,⟨P1.wk,d1,n1⟩,P2,e4,ZnH y4 e4 hσ q2,λp hp=>ht p (by rw[e];exact List.mem_append.2 (.inr hp)),?_⟩;rw[e,Zcl,q1,Int.add_mul]at hr;omega
 obtain⟨s0,h1,y1,e1,R0,P1,y14,d1,t1,r1⟩:=go 3 C.pt (by omega) C.t (by rw[rg];rfl);obtain⟨s1,h2,y2,e2,R1,P2,y24,d2,t2,r2⟩:=go 2 P1 y14 t1 (by rw[r1];rfl);obtain⟨s2,h3,y3,e3,R2,P3,y34,d3,t3,r3⟩:=go 1 P2 y24 t2 (by rw[r2];rfl);obtain⟨s3,h4,y4,e4,R3,P4,y44,d4,t4,r4⟩:=go 0 P3 y34 t3 (by rw[r3];rfl);have n4:h4=[]:=by
  refine Classical.byContradiction λn=>?_;obtain⟨t,c',e5,tc'⟩:=C.last;have:c'∈h4:=by
   have q:g=(s0++s1++s2++s3)++h4:=by rw[e1,e2,e3,e4];simp
   rw[q]at e5;obtain⟨u,c'',eu⟩:∃u c'',h4=u++[c'']:=⟨h4.dropLast,h4.getLast n,(List.dropLast_concat_getLast n).symm⟩;rw[eu,<-List.append_assoc]at e5;have:=List.append_inj_right' e5 rfl;rw[eu];simp at this⊢;exact .inr this.symm
  have:=(Zn7 hσ t4).2 ⟨c',this,tc'⟩;rw[r4]at this;omega
 subst n4;have y4x:y4=x:=P4;rw[List.append_nil]at e4;subst e4;rw[y4x]at R3;refine⟨λi=>if i=0 then x.1 else if i=1 then y1.1 else if i=2 then y2.1 else y3.1,λi=>if i=0 then s0 else if i=1 then s1 else if i=2 then s2 else h3,⟨?_,?_⟩⟩
 .intro i hi;have:i=0\/i=1\/i=2\/i=3:=by omega
  rcases this with rfl|rfl|rfl|rfl
  .have:(((0:Nat):Int)*σ%4).toNat=x.2:=by rw[x0];simp
   rw[this];exact R0
  .have:(((1:Nat):Int)*σ%4).toNat=y1.2:=by rcases hσ with rfl|rfl<;>omega
   rw[this];exact R1
  .have:(((2:Nat):Int)*σ%4).toNat=y2.2:=by rcases hσ with rfl|rfl<;>omega
   rw[this];exact R2
  .have:(((3:Nat):Int)*σ%4).toNat=y3.2:=by rcases hσ with rfl|rfl<;>omega
   rw[this];exact R3
 .show(s0++(s1++(s2++h3))).Perm f;rw[<-e3,<-e2,<-e1];exact C.perm
end Mu
/- Rectangles laid side by side:a covering of the frame,once. -/
namespace Mu
def wd(l:List Za)(X Y:Nat->Int)(i j:Int)(p:Da):Int:=if p.2=1 then(if i<X p.1/\Y p.1<=j/\j<Y (tg l p)then 1 else 0)else if p.2=3 then(if i<X p.1/\Y (tg l p)<=j/\j<Y p.1 then -1 else 0)else 0
structure Bj(l:List Za)(X Y:Nat->Int)(f:List Da)(x0 x1 y0 y1 xa xb ya yb:Int):Prop where
 hx:x0<x1
 hy:y0<y1
 h0:∀p∈f,p.2=0->Y p.1=ya/\Y (tg l p)=ya/\x0<=X p.1/\X p.1<X (tg l p)/\X (tg l p)<=x1
 h1:∀p∈f,p.2=1->X p.1=xa/\X (tg l p)=xa/\y0<=Y p.1/\Y p.1<Y (tg l p)/\Y (tg l p)<=y1
 h2:∀p∈f,p.2=2->Y p.1=yb/\Y (tg l p)=yb/\x0<=X (tg l p)/\X (tg l p)<X p.1/\X p.1<=x1
 h3:∀p∈f,p.2=3->X p.1=xb/\X (tg l p)=xb/\y0<=Y (tg l p)/\Y (tg l p)<Y p.1/\Y p.1<=y1
 dj:∀p∈f,∀q∈f,p≠q->p.2=q.2->al X Y p.2 (tg l p)<=al X Y p.2 q.1\/al X Y p.2 (tg l q)<=al X Y p.2 p.1
 w:∀i j,(f.map (wd l X Y i j)).sum=if y0<=j/\j<y1 then(if i<xa then 1 else 0)-(if i<xb then 1 else 0)else 0
theorem ZjY{R:Da->Da->Prop}{p q:Da}:∀{s:List Da},s.Pairwise R->p∈s->q∈s->p≠q->R p q\/R q p
 |[],_,hp,_,_=>by simp at hp
 | a::s,h,hp,hq,ne=>by
  rw[List.pairwise_cons]at h;rcases List.mem_cons.1 hp with e1|hp1
  .rcases List.mem_cons.1 hq with e2|hq1
   .exact absurd (e1.trans e2.symm) ne
   .rw[e1];exact .inl (h.1 q hq1)
  .rcases List.mem_cons.1 hq with e2|hq1
   .rw[e2];exact .inr (h.1 p hp1)
   .exact ZjY h.2 hp1 hq1 ne
theorem ZnD{g:Da->Int}{s:List Da}{c:Prop}[Decidable c]:(s.map λp=>if c then g p else 0).sum=if c then(s.map g).sum else 0:=by
 by_cases h:c
 .simp only[if_pos h]
 .simp only[if_neg h]
  induction s with
  |nil=>rfl
  |cons a s ih=>rw[List.map_cons,List.sum_cons,ih];rfl
theorem Zp5{l:List Za}{X Y:Nat->Int}(hS:Str l X Y){a0 b0 a1 b1 a2 b2 a3 b3:Nat}{sE sN sW sS f:List Da}(RE:Rn l 0 a0 sE b0)(RN:Rn l 1 a1 sN b1)(RW:Rn l 2 a2 sW b2)(RS:Rn l 3 a3 sS b3)(pm:(sE++(sN++(sW++sS))).Perm f){x0 x1 y0 y1:Int}
  (e1:X a0=x0)(e2:X b0=x1)(e3:Y a1=y0)(e4:Y b1=y1)(e5:X a2=x1)(e6:X b2=x0)(e7:Y a3=y1)(e8:Y b3=y0):Bj l X Y f x0 x1 y0 y1 (X a1) (X a3) (Y a0) (Y a2):=by
 obtain⟨E1,E2,E3,E4,E5,E6⟩:=Zd4 hS RE.w RE.d;obtain⟨N1,N2,N3,N4,N5,N6⟩:=Zd4 hS RN.w RN.d;obtain⟨W1,W2,W3,W4,W5,W6⟩:=Zd4 hS RW.w RW.d;obtain⟨S1,S2,S3,S4,S5,S6⟩:=Zd4 hS RS.w RS.d;have E3:=E3 RE.ne;have N3:=N3 RN.ne;have a00:∀v,al X Y 0 v=X v:=λ_=>rfl;have a01:∀v,al X Y 1 v=Y v:=λ_=>rfl;have a02:∀v,al X Y 2 v=-X v:=λ_=>rfl;have a03:∀v,al X Y 3 v=-Y v:=λ_=>rfl;have c00:∀v,ac X Y 0 v=Y v:=λ_=>rfl;have c01:∀v,ac X Y 1 v=X v:=λ_=>rfl;have c02:∀v,ac X Y 2 v=Y v:=λ_=>rfl;have c03:∀v,ac X Y 3 v=X v:=λ_=>rfl;simp only[a00,c00]at E1 E2 E3 E4;simp only[a01,c01]at N1 N2 N3 N4;simp only[a02,c02]at W1 W2 W4;simp only[a03,c03]at S1 S2 S4;have sp:∀p,p∈f->p∈sE/\p.2=0\/p∈sN/\p.2=1\/p∈sW/\p.2=2\/p∈sS/\p.2=3:=by
  intro p hp;have:=pm.mem_iff.2 hp;simp only[List.mem_append]at this;rcases this with q|q|q|q
  .exact .inl ⟨q,RE.d p q⟩
  .exact .inr (.inl ⟨q,RN.d p q⟩)
  .exact .inr (.inr (.inl ⟨q,RW.d p q⟩))
  .exact .inr (.inr (.inr ⟨q,RS.d p q⟩))
 refine⟨by omega,by omega,λp hp d=>?_,λp hp d=>?_,λp hp d=>?_,λp hp d=>?_,λp hp q hq ne d=>?_,λi j=>?_⟩
 .rcases sp p hp with⟨m,k⟩|⟨m,k⟩|⟨m,k⟩|⟨m,k⟩
  .have:=E4 p m;omega
  all_goals omega
 .rcases sp p hp with⟨m,k⟩|⟨m,k⟩|⟨m,k⟩|⟨m,k⟩
  .omega
  .have:=N4 p m;omega
  all_goals omega
 .rcases sp p hp with⟨m,k⟩|⟨m,k⟩|⟨m,k⟩|⟨m,k⟩
  .omega
  .omega
  .have:=W4 p m;omega
  .omega
 .rcases sp p hp with⟨m,k⟩|⟨m,k⟩|⟨m,k⟩|⟨m,k⟩
  .omega
  .omega
  .omega
  .have:=S4 p m;omega
 .rcases sp p hp with⟨m,k⟩|⟨m,k⟩|⟨m,k⟩|⟨m,k⟩<;>rcases sp q hq with⟨m',k'⟩|⟨m',k'⟩|⟨m',k'⟩|⟨m',k'⟩
  all_goals first|(exfalso;omega)|skip
  .rw[k];exact ZjY E5 m m' ne
  .rw[k];exact ZjY N5 m m' ne
  .rw[k];exact ZjY W5 m m' ne
  .rw[k];exact ZjY S5 m m' ne
 .rw[<-ZcU pm];simp only[List.map_append,List.sum_append];have z:∀s:List Da,(∀p∈s,p.2=0\/p.2=2)->(s.map (wd l X Y i j)).sum=0:=by
   intro s
   induction s with
   |nil=>intro _;rfl
   |cons a s ih=>
    intro h;have ha:=h a (by simp);rw[List.map_cons,List.sum_cons,ih λp hp=>h p (by simp[hp])];unfold wd;rw[if_neg (by omega),if_neg (by omega)];rfl
  rw[z sE (λp hp=>.inl (RE.d p hp)),z sW (λp hp=>.inr (RW.d p hp))];have n:(sN.map (wd l X Y i j)).sum=if i<X a1 then(if Y a1<=j/\j<Y b1 then 1 else 0)else 0:=by
   have:=N6 j;simp only[a01]at this;rw[<-this,<-ZnD];congr 1;refine List.map_congr_left λp hp=>?_;have k:=N4 p hp;unfold wd;rw[if_pos (RN.d p hp),k.1];split<;>split<;>first|(split<;>omega)|omega
  have s:(sS.map (wd l X Y i j)).sum=-(if i<X a3 then(if Y b3<=j/\j<Y a3 then 1 else 0)else 0):=by
   have:=S6 (-j-1);simp only[a03]at this;have e:(if Y b3<=j/\j<Y a3 then(1:Int)else 0)=if -Y a3<=-j-1/\-j-1 < -Y b3 then 1 else 0:=by split<;>split<;>omega
   rw[e,<-this,<-ZnD];have ng:∀(g:Da->Int)(s:List Da),-(s.map g).sum=(s.map λp=>-g p).sum:=by
    intro g s
    induction s with
    |nil=>rfl
    |cons a s ih=>rw[List.map_cons,List.sum_cons,List.map_cons,List.sum_cons,<-ih];omega
   rw[ng];congr 1;refine List.map_congr_left λp hp=>?_;have k:=S4 p hp;unfold wd;rw[if_neg (by rw[RS.d p hp];decide),if_pos (RS.d p hp),k.1];split<;>split<;>first|(split<;>omega)|omega
  rw[n,s,e3,e4,e7,e8];split<;>split<;>split<;>omega
theorem Zs9{l:List Za}(hc:Ck l){X Y:Nat->Int}(hS:Str l X Y){f:List Da}(hL:Lp l f)(hr:ZW l f=4)(ht:∀p∈f,0<=tt l p):∃x0 x1 y0 y1,Bj l X Y f x0 x1 y0 y1 x1 x0 y0 y1:=by
 obtain⟨c,s,Q⟩:=Zl0 hc (σ:=1) (.inl rfl) hL (λp hp=>by
  have:=ht p hp;have:=(ZhN (d:=p.2) (e:=(bh l p).2)).2;have e:tt l p=tn p.2 (bh l p).2:=rfl;omega) (by rw[hr];rfl)
 have R0:Rn l 0 (c 0) (s 0) (c 1):=Q.r 0 (by omega);have R1:Rn l 1 (c 1) (s 1) (c 2):=Q.r 1 (by omega);have R2:Rn l 2 (c 2) (s 2) (c 3):=Q.r 2 (by omega);have R3:Rn l 3 (c 3) (s 3) (c 0):=Q.r 3 (by omega);have q0:Y (c 1)=Y (c 0):=(Zd4 hS R0.w R0.d).1;have q1:X (c 2)=X (c 1):=(Zd4 hS R1.w R1.d).1;have q2:Y (c 3)=Y (c 2):=(Zd4 hS R2.w R2.d).1;have q3:X (c 0)=X (c 3):=(Zd4 hS R3.w R3.d).1;have:=Zp5 hS R0 R1 R2 R3 Q.perm (x0:=X (c 0)) (x1:=X (c 1)) (y0:=Y (c 0)) (y1:=Y (c 2)) rfl rfl q0 rfl q1 q3.symm q2 rfl;refine⟨X (c 0),X (c 1),Y (c 0),Y (c 2),?_⟩;rw[<-q3]at this;exact this
theorem Zqu{l:List Za}(hc:Ck l){X Y:Nat->Int}(hS:Str l X Y){f:List Da}(hL:Lp l f)(hr:ZW l f=-4)(ht:∀p∈f,-1<=tt l p/\tt l p<=0):∃x0 x1 y0 y1,Bj l X Y f x0 x1 y0 y1 x0 x1 y1 y0:=by
 obtain⟨c,s,Q⟩:=Zl0 hc (σ:=-1) (.inr rfl) hL (λp hp=>by
  have:=ht p hp;omega) (by rw[hr];rfl)
 have R0:Rn l 0 (c 0) (s 0) (c 1):=Q.r 0 (by omega);have R1:Rn l 3 (c 1) (s 1) (c 2):=Q.r 1 (by omega);have R2:Rn l 2 (c 2) (s 2) (c 3):=Q.r 2 (by omega);have R3:Rn l 1 (c 3) (s 3) (c 0):=Q.r 3 (by omega);have q0:Y (c 1)=Y (c 0):=(Zd4 hS R0.w R0.d).1;have q1:X (c 2)=X (c 1):=(Zd4 hS R1.w R1.d).1;have q2:Y (c 3)=Y (c 2):=(Zd4 hS R2.w R2.d).1;have q3:X (c 0)=X (c 3):=(Zd4 hS R3.w R3.d).1;have pm:(s 0++(s 3++(s 2++s 1))).Perm f:=by
  refine List.Perm.trans ?_ Q.perm;refine List.Perm.append_left _ ?_;exact List.perm_append_comm.trans ((List.Perm.append_right (s 3) List.perm_append_comm).trans (by rw[List.append_assoc]))
 have:=Zp5 hS R0 R3 R2 R1 pm (x0:=X (c 0)) (x1:=X (c 1)) (y0:=Y (c 2)) (y1:=Y (c 0)) rfl rfl q2 rfl q1 q3.symm q0 rfl;refine⟨X (c 0),X (c 1),Y (c 2),Y (c 0),?_⟩;rw[<-q3]at this;exact this
theorem ZrF{l:List Za}(hc:Ck l){X Y:Nat->Int}(hS:Str l X Y)(i j:Int):((ZbW l).map (wd l X Y i j)).sum=0:=by
 have pm:((ZbW l).map (opp l)).Perm (ZbW l):=by
  have nd:((ZbW l).map (opp l)).Nodup:=List.pairwise_map.2 (ZcR.imp_of_mem λ{a b} ha hb hne he=>hne (ZoX hc (ZaL.1 ha) (ZaL.1 hb) he));have sub:∀x∈(ZbW l).map (opp l),x∈ZbW l:=λx hx=>by
   obtain⟨q,hq,rfl⟩:=List.mem_map.1 hx;exact ZaL.2 ((ZaL.1 hq).opp hc)
  exact(List.perm_ext_iff_of_nodup nd ZcR).2 λx=>⟨sub x,Zgb nd ZcR sub (by simp) x⟩
 have e:=ZcU (f:=wd l X Y i j) pm;rw[List.map_map]at e;have ng:∀s:List Da,(∀p∈s,isD l p)->(s.map (wd l X Y i j∘opp l)).sum=-(s.map (wd l X Y i j)).sum:=by
  intro s
  induction s with
  |nil=>intro _;rfl
  | cons a s ih=>
   intro h;have ha:=h a (by simp);rw[List.map_cons,List.sum_cons,List.map_cons,List.sum_cons,ih λp hp=>h p (by simp[hp])];have o:tg l (opp l a)=a.1:=congrArg Prod.fst (Zb3 hc ha);have st:=hS a ha;have a4:=ha.2.1;have w:wd l X Y i j (opp l a)=-wd l X Y i j a:=by
    unfold wd;rw[o];unfold al ac at st;unfold opp tg;unfold tg at st;dsimp only;generalize(nx l a.1 a.2).toNat=b at*;generalize a.2=d at*;generalize a.1=v at*;have:d=0\/d=1\/d=2\/d=3:=by omega
    rcases this with rfl|rfl|rfl|rfl<;>simp at st⊢
    .obtain⟨s1,s2⟩:=st;rw[s2];split<;>rfl
    .obtain⟨s1,s2⟩:=st;rw[s2];split<;>rfl
   show wd l X Y i j (opp l a)+_=_;rw[w];omega
 rw[ng _ λp hp=>ZaL.1 hp]at e;omega
theorem ZnC{f:Nat->Int}:∀{n:Nat},(∀i,i<n->0<=f i)->0<=sg f n
 |0,_=>Int.le_refl _
 |n+1,h=>by
  have:=ZnC (f:=f) (n:=n) λi hi=>h i (by omega);have:=h n (by omega);rw[sg];omega
theorem ZnF{f:Nat->Int}{n o:Nat}(ho:o<n)(h0:sg f n=0)(hn:∀i,i<n->i≠o->0<=f i)(h1:-1<=f o):∀a,a<n->a≠o->f a=1->f o=-1/\∀b,b<n->b≠o->f b=1->b=a:=by
 intro a ha ao fa;have key:∀b,b<n->b≠o->b≠a->f o+f a+f b<=0:=by
  intro b hb bo ba;have e:sg (λi=>f i+(-(if i=o then f o else 0)+(-(if i=a then f a else 0)+ -(if i=b then f b else 0)))) n=sg f n-f o-f a-f b:=by
   rw[ZeT,ZeT,ZeT];have q:∀c(v:Nat),v<n->sg (λi=>-(if i=v then c else 0)) n=-c:=by
    intro c v hv;have:(λi:Nat=>-(if i=v then c else 0))=λi=>if i=v then -c else 0:=by funext i;split<;>rfl
    rw[this,Zg5 hv]
   rw[q _ o ho,q _ a ha,q _ b hb];omega
  have p:=ZnC (f:=λi=>f i+(-(if i=o then f o else 0)+(-(if i=a then f a else 0)+ -(if i=b then f b else 0)))) (n:=n) λi hi=>by
   by_cases c1:i=o
   .subst c1;rw[if_pos rfl,if_neg (by omega),if_neg (by omega)];omega
   .by_cases c2:i=a
    .subst c2;rw[if_neg c1,if_pos rfl,if_neg (by omega)];omega
    .by_cases c3:i=b
     .subst c3;rw[if_neg c1,if_neg c2,if_pos rfl];omega
     .have:=hn i hi c1;rw[if_neg c1,if_neg c2,if_neg c3];omega
  omega
 have one:f o+f a<=0:=by
  have e:sg (λi=>f i+(-(if i=o then f o else 0)+ -(if i=a then f a else 0))) n=sg f n-f o-f a:=by
   rw[ZeT,ZeT];have q:∀c(v:Nat),v<n->sg (λi=>-(if i=v then c else 0)) n=-c:=by
    intro c v hv;have:(λi:Nat=>-(if i=v then c else 0))=λi=>if i=v then -c else 0:=by funext i;split<;>rfl
    rw[this,Zg5 hv]
   rw[q _ o ho,q _ a ha];omega
  have p:=ZnC (f:=λi=>f i+(-(if i=o then f o else 0)+ -(if i=a then f a else 0))) (n:=n) λi hi=>by
   by_cases c1:i=o
   .subst c1;rw[if_pos rfl,if_neg (by omega)];omega
   .by_cases c2:i=a
    .subst c2;rw[if_neg c1,if_pos rfl];omega
    .have:=hn i hi c1;rw[if_neg c1,if_neg c2];omega
  omega
 refine⟨by omega,λb hb bo fb=>Classical.byContradiction λc=>?_⟩;have:=key b hb bo c;omega
end Mu
/- Rectangles laid side by side:no two cells at a Zed,none in an edge,no two edges cross. -/
namespace Mu
structure Rec(l:List Za)(X Y:Nat->Int):Prop where
 ck:Ck l
 str:Str l X Y
 one:∃o,o<(faces l).length/\ZW l (gi (faces l) o)=-4/\∀i,i<(faces l).length->i≠o->ZW l (gi (faces l) i)=4
 inn:∀f∈faces l,ZW l f=4->∀p∈f,0<=tt l p
 out:∀f∈faces l,ZW l f=-4->∀p∈f,-1<=tt l p/\tt l p<=0
def rnd(l:List Za)(X Y:Nat->Int)(f:List Da)(i j:Int):Int:=(f.map (wd l X Y i j)).sum
variable {l:List Za}{X Y:Nat->Int}
theorem Bj.inW{f:List Da}{x0 x1 y0 y1:Int}(B:Bj l X Y f x0 x1 y0 y1 x1 x0 y0 y1)(i j:Int):rnd l X Y f i j=if x0<=i/\i<x1/\y0<=j/\j<y1 then 1 else 0:=by
 unfold rnd;rw[B.w];have:=B.hx;split<;>split<;>first|omega|(split<;>split<;>omega)
theorem Bj.outW{f:List Da}{x0 x1 y0 y1:Int}(B:Bj l X Y f x0 x1 y0 y1 x0 x1 y1 y0)(i j:Int):rnd l X Y f i j=if x0<=i/\i<x1/\y0<=j/\j<y1 then -1 else 0:=by
 unfold rnd;rw[B.w];have:=B.hx;split<;>split<;>first|omega|(split<;>split<;>omega)
theorem Rec.bin(R:Rec l X Y){f:List Da}(hf:f∈faces l)(h:ZW l f=4):∃x0 x1 y0 y1,Bj l X Y f x0 x1 y0 y1 x1 x0 y0 y1:=Zs9 R.ck R.str (ZjG R.ck hf) h (R.inn f hf h)
theorem Rec.bout(R:Rec l X Y){f:List Da}(hf:f∈faces l)(h:ZW l f=-4):∃x0 x1 y0 y1,Bj l X Y f x0 x1 y0 y1 x0 x1 y1 y0:=Zqu R.ck R.str (ZjG R.ck hf) h (R.out f hf h)
theorem Rec.kind(R:Rec l X Y){f:List Da}(hf:f∈faces l):ZW l f=4\/ZW l f=-4:=by
 obtain⟨o,ho,r1,r2⟩:=R.one;obtain⟨i,hi,e⟩:=Zbi hf;by_cases c:i=o
 .right;rw[<-e,c,r1]
 .left;rw[<-e,r2 i hi c]
theorem Rec.same(R:Rec l X Y){f g:List Da}(hf:f∈faces l)(hg:g∈faces l)(h1:ZW l f=-4)(h2:ZW l g=-4):f=g:=by
 obtain⟨o,ho,r1,r2⟩:=R.one;obtain⟨i,hi,e⟩:=Zbi hf;obtain⟨j,hj,e'⟩:=Zbi hg;have a:i=o:=Classical.byContradiction λc=>by have:=r2 i hi c;rw[e]at this;omega
 have b:j=o:=Classical.byContradiction λc=>by have:=r2 j hj c;rw[e']at this;omega
 rw[<-e,<-e',a,b]
theorem Rec.uniq(R:Rec l X Y){f:List Da}(hf:f∈faces l)(h4:ZW l f=4){i j:Int}(h1:rnd l X Y f i j=1):(∀g∈faces l,ZW l g=4->rnd l X Y g i j=1->g=f)/\∀g∈faces l,ZW l g=-4->rnd l X Y g i j=-1:=by
 obtain⟨o,ho,r1,r2⟩:=R.one;have tot:sg (λk=>rnd l X Y (gi (faces l) k) i j) (faces l).length=0:=by
  rw[<-ZrF R.ck R.str i j,<-ZcU (Zk3 R.ck),Zfo,<-Zf1];have e:faces l=(List.range (faces l).length).map (gi (faces l)):=by
   refine List.ext_getElem (by simp) λn h1 h2=>?_;rw[List.getElem_map,List.getElem_range,zO h1]
  conv=>rhs;rw[e]
  rw[List.map_map];rfl
 have nn:∀k,k<(faces l).length->k≠o->0<=rnd l X Y (gi (faces l) k) i j:=by
  intro k hk ko;obtain⟨x0,x1,y0,y1,B⟩:=R.bin (zh hk) (r2 k hk ko);rw[B.inW];split<;>omega
 have n1:-1<=rnd l X Y (gi (faces l) o) i j:=by
  obtain⟨x0,x1,y0,y1,B⟩:=R.bout (zh ho) r1;rw[B.outW];split<;>omega
 obtain⟨a,ha,ea⟩:=Zbi hf;have ao:a≠o:=by rintro rfl;rw[ea]at r1;omega
 obtain⟨k1,k2⟩:=ZnF ho tot nn n1 a ha ao (by rw[ea];exact h1);refine⟨λg hg g4 gw=>?_,λg hg g4=>?_⟩
 .obtain⟨b,hb,eb⟩:=Zbi hg;have bo:b≠o:=by rintro rfl;rw[eb]at r1;omega
  rw[<-eb,<-ea,k2 b hb bo (by rw[eb];exact gw)]
 .rw[R.same hg (zh ho) g4 r1];exact k1
def sx(q:Nat)(x:Int):Int:=if q=1\/q=2 then x-1 else x
def sy(q:Nat)(y:Int):Int:=if q=2\/q=3 then y-1 else y
def wq(l:List Za)(v q:Nat):Da:=(v,prv (λe=>decide (0<=nx l v e)) ((q+3)%4))
def qok(i e q:Nat):Bool:=(tn i e !=1||q==e)&&(tn i e !=0||q==e||q==(e+1)%4)&&(tn i e != -1||q==e||q==(e+1)%4||q==(e+2)%4)
theorem Zrm:∀a b c d:Bool,∀i q:Fin 4,(!(Zch a b c d ((i.1+2)%4))||prv (Zch a b c d) ((q.1+3)%4) !=prv (Zch a b c d) i.1||qok i.1 (prv (Zch a b c d) i.1) q.1)=true:=by decide+kernel
theorem Zrl:∀a b c d:Bool,∀q e:Fin 4,Zch a b c d e.1=true->Zch a b c d (prv (Zch a b c d) q.1)=true:=by decide+kernel
theorem Zts{A:Nat->Bool}{q e:Nat}(hq:q<4)(he:e<4)(h:A e=true):A (prv A q)=true:=by
 have:=Zrl (A 0) (A 1) (A 2) (A 3) ⟨q,hq⟩ ⟨e,he⟩ (by rw[Zc0 he];exact h);dsimp only at this;rw[Zdb hq,Zc0 (Zg2 hq)]at this;exact this
theorem Ztt{A:Nat->Bool}{i q:Nat}(hi:i<4)(hq:q<4)(h:A ((i+2)%4)=true)(h2:prv A ((q+3)%4)=prv A i) :
  (tn i (prv A i)=1->q=prv A i)/\(tn i (prv A i)=0->q=prv A i\/q=(prv A i+1)%4)/\(tn i (prv A i)=-1->q=prv A i\/q=(prv A i+1)%4\/q=(prv A i+2)%4):=by
 have:=Zrm (A 0) (A 1) (A 2) (A 3) ⟨i,hi⟩ ⟨q,hq⟩;dsimp only at this;rw[Zdb hi,Zdb (show(q+3)%4<4 by omega),Zc0 (show(i+2)%4<4 by omega),h,h2]at this;unfold qok at this;simp at this;generalize prv A i=e at*;refine⟨λz=>?_,λz=>?_,λz=>?_⟩
 .have:=this.1.1;omega
 .have:=this.1.2;omega
 .have:=this.2;omega
theorem Rec.quad(R:Rec l X Y){v e0:Nat}(hv:v<l.length)(he:e0<4)(h0:0<=nx l v e0){q:Nat}(hq:q<4):∃f∈faces l,wq l v q∈f/\((ZW l f=4/\rnd l X Y f (sx q (X v)) (sy q (Y v))=1)\/(ZW l f=-4/\rnd l X Y f (sx q (X v)) (sy q (Y v))=0)):=by
 have hc:=R.ck;have hA:=Zts (A:=λe=>decide (0<=nx l v e)) (q:=(q+3)%4) (by omega) he (by simpa using h0);have dW:isD l (wq l v q):=⟨hv,Zg2 (A:=λe=>decide (0<=nx l v e)) (d:=(q+3)%4) (by omega),by simpa[wq]using hA⟩;obtain⟨i,hi,hw⟩:=Zfr hc dW λp hp=>(Zfs hc).2 hp;have hf:=zh hi;refine⟨gi (faces l) i,hf,hw,?_⟩;have C:=Zbe hc _ hf;generalize hF:gi (faces l) i=f at*
 -- the dart ahead
 obtain⟨p,hp,bp⟩:∃p∈f,bh l p=wq l v q:=by
  have nd:(f.map (bh l)).Nodup:=List.pairwise_map.2 (C.nd.imp_of_mem λ{a b} ha hb hne he=>hne (ZbY hc (C.is a ha) (C.is b hb) he));have:=Zgb nd C.nd (λx hx=>by
   obtain⟨z,hz,rfl⟩:=List.mem_map.1 hx;exact C.cl z hz) (by simp) _ hw
  obtain⟨z,hz,e⟩:=List.mem_map.1 this;exact⟨z,hz,e⟩
 have dp:=C.is p hp;have p4:=dp.2.1;have fp:=dp.fwd hc;have tv:tg l p=v:=by
  have:=congrArg Prod.fst bp;rw[ZiF]at this;exact this
 have tp:tt l p=tn p.2 (wq l v q).2:=by unfold tt;rw[bp]
 have e2:prv (λe=>decide (0<=nx l v e)) ((q+3)%4)=prv (λe=>decide (0<=nx l v e)) p.2:=by
  have:=congrArg Prod.snd bp;rw[ZbZ]at this;dsimp only at this;rw[show(nx l p.1 p.2).toNat=v from tv]at this;exact this.symm
 have k:=Ztt (A:=λe=>decide (0<=nx l v e)) p4 hq (by
  have:nx l v ((p.2+2)%4)=p.1:=by rw[<-tv];exact fp.2
  simp[this]) e2
 rw[<-e2]at k;have eW:wq l v q=(v,prv (λe=>decide (0<=nx l v e)) ((q+3)%4)):=rfl;have l4:prv (λe=>decide (0<=nx l v e)) ((q+3)%4)<4:=Zg2 (by omega);have td:tn p.2 (prv (λe=>decide (0<=nx l v e)) ((q+3)%4))=tt l p:=by rw[tp];rfl
 rw [eW]at hw;generalize prv (λe=>decide (0<=nx l v e)) ((q+3)%4)=e at*;have dd:(tt l p=0->p.2=e)/\(tt l p=-1->p.2=(e+1)%4):=by
  rw[<-td];unfold tn;constructor
  .intro h;split at h
   .omega
   .split at h
    .omega
    .split at h<;>omega
  .intro h;split at h
   .omega
   .split at h
    .omega
    .split at h
     .omega
     .omega
 rcases R.kind hf with r|r
 .left;refine⟨r,?_⟩;obtain⟨x0,x1,y0,y1,B⟩:=R.bin hf r;have t0:=R.inn f hf r p hp;have t1:=(ZhN (d:=p.2) (e:=e)).2;rw[B.inW,if_pos];have b0:=B.h0 _ hw;have b1:=B.h1 _ hw;have b2:=B.h2 _ hw;have b3:=B.h3 _ hw;have c0:=B.h0 _ hp;have c1:=B.h1 _ hp;have c2:=B.h2 _ hp;have c3:=B.h3 _ hp;rw[tv]at c0 c1 c2 c3;have hx:=B.hx;have hy:=B.hy;dsimp only at b0 b1 b2 b3;have hk:q=e\/(q=(e+1)%4/\p.2=e):=by
   by_cases z:tt l p=0
   .have:=k.2.1 (by omega);have:=dd.1 z;omega
   .have:=k.1 (by omega);omega
  unfold sx sy;have:e=0\/e=1\/e=2\/e=3:=by omega
  rcases this with rfl|rfl|rfl|rfl
  .have:=b0 rfl;rcases hk with rfl|⟨rfl,z⟩
   .simp;omega
   .have:=c0 z;simp;omega
  .have:=b1 rfl;rcases hk with rfl|⟨rfl,z⟩
   .simp;omega
   .have:=c1 z;simp;omega
  .have:=b2 rfl;rcases hk with rfl|⟨rfl,z⟩
   .simp;omega
   .have:=c2 z;simp;omega
  .have:=b3 rfl;rcases hk with rfl|⟨rfl,z⟩
   .simp;omega
   .have:=c3 z;simp;omega
 .right;refine⟨r,?_⟩;obtain⟨x0,x1,y0,y1,B⟩:=R.bout hf r;have t0:=R.out f hf r p hp;rw[B.outW,if_neg];have b0:=B.h0 _ hw;have b1:=B.h1 _ hw;have b2:=B.h2 _ hw;have b3:=B.h3 _ hw;have c0:=B.h0 _ hp;have c1:=B.h1 _ hp;have c2:=B.h2 _ hp;have c3:=B.h3 _ hp;rw[tv]at c0 c1 c2 c3;have hx:=B.hx;have hy:=B.hy;dsimp only at b0 b1 b2 b3;have hk:q=e\/(q=(e+1)%4/\p.2=e)\/((q=(e+1)%4\/q=(e+2)%4)/\p.2=(e+1)%4):=by
   by_cases z:tt l p=0
   .have:=k.2.1 (by omega);have:=dd.1 z;omega
   .have:=k.2.2 (by omega);have:=dd.2 (by omega);omega
  unfold sx sy;have:e=0\/e=1\/e=2\/e=3:=by omega
  rcases this with rfl|rfl|rfl|rfl
  .have:=b0 rfl;rcases hk with rfl|⟨rfl,z⟩|⟨rfl|rfl,z⟩
   .simp;omega
   .have:=c0 z;simp;omega
   .have:=c1 z;simp;omega
   .have:=c1 z;simp;omega
  .have:=b1 rfl;rcases hk with rfl|⟨rfl,z⟩|⟨rfl|rfl,z⟩
   .simp;omega
   .have:=c1 z;simp;omega
   .have:=c2 z;simp;omega
   .have:=c2 z;simp;omega
  .have:=b2 rfl;rcases hk with rfl|⟨rfl,z⟩|⟨rfl|rfl,z⟩
   .simp;omega
   .have:=c2 z;simp;omega
   .have:=c3 z;simp;omega
   .have:=c3 z;simp;omega
  .have:=b3 rfl;rcases hk with rfl|⟨rfl,z⟩|⟨rfl|rfl,z⟩
   .simp;omega
   .have:=c3 z;simp;omega
   .have:=c0 z;simp;omega
   .have:=c0 z;simp;omega
theorem ZhS{d:Nat}(h:d<4):d=0\/d=1\/d=2\/d=3:=by omega
theorem Bj.start{f:List Da}{x0 x1 y0 y1:Int}(B:Bj l X Y f x0 x1 y0 y1 x1 x0 y0 y1){p q:Da}(hp:p∈f)(hq:q∈f)(p4:p.2<4)(q4:q.2<4)(ex:X p.1=X q.1)(ey:Y p.1=Y q.1):p=q:=by
 refine Classical.byContradiction λne=>?_;have hx:=B.hx;have hy:=B.hy;have j:=B.dj p hp q hq ne;have a0:=B.h0 _ hp;have a1:=B.h1 _ hp;have a2:=B.h2 _ hp;have a3:=B.h3 _ hp;have b0:=B.h0 _ hq;have b1:=B.h1 _ hq;have b2:=B.h2 _ hq;have b3:=B.h3 _ hq;rcases ZhS p4 with k|k|k|k<;>rcases ZhS q4 with k'|k'|k'|k'<;>rw[k]at a0 a1 a2 a3 j<;>rw[k']at b0 b1 b2 b3 j<;>simp[al]at a0 a1 a2 a3 b0 b1 b2 b3 j<;>omega
theorem Rec.at(R:Rec l X Y){v e0 w e1:Nat}(hv:v<l.length)(he:e0<4)(h0:0<=nx l v e0){q:Nat}(hq:q<4){f:List Da}(hf:f∈faces l)(h4:ZW l f=4)(h:rnd l X Y f (sx q (X v)) (sy q (Y v))=1):wq l v q∈f:=by
 obtain⟨g,hg,m,k⟩:=R.quad hv he h0 hq;obtain⟨u1,u2⟩:=R.uniq hf h4 h;rcases k with⟨r,w⟩|⟨r,w⟩
 .rw[<-u1 g hg r w];exact m
 .have:=u2 g hg r;omega
theorem wq4{v q:Nat}:(wq l v q).2<4:=Zg2 (A:=λe=>decide (0<=nx l v e)) (d:=(q+3)%4) (by omega)
theorem Rec.V(R:Rec l X Y){v e0 w e1:Nat}(hv:v<l.length)(he:e0<4)(h0:0<=nx l v e0)(hw:w<l.length)(he1:e1<4)(h1:0<=nx l w e1)(ex:X v=X w)(ey:Y v=Y w):v=w:=by
 obtain⟨q,hq,f,hf,m,r,k⟩:∃q,q<4/\∃f∈faces l,wq l v q∈f/\ZW l f=4/\rnd l X Y f (sx q (X v)) (sy q (Y v))=1:=by
  refine Classical.byContradiction λc=>?_;have all:∀q,q<4->∃f∈faces l,wq l v q∈f/\ZW l f=-4/\rnd l X Y f (sx q (X v)) (sy q (Y v))=0:=by
   intro q hq;obtain⟨f,hf,m,k⟩:=R.quad hv he h0 hq;rcases k with k|k
   .exact absurd ⟨q,hq,f,hf,m,k⟩ c
   .exact⟨f,hf,m,k⟩
  obtain⟨f,hf,m,r,w0⟩:=all 0 (by omega);obtain⟨f1,hf1,_,r1,w1⟩:=all 1 (by omega);obtain⟨f2,hf2,_,r2,w2⟩:=all 2 (by omega);obtain⟨f3,hf3,_,r3,w3⟩:=all 3 (by omega);rw[R.same hf1 hf r1 r]at w1;rw[R.same hf2 hf r2 r]at w2;rw[R.same hf3 hf r3 r]at w3;obtain⟨x0,x1,y0,y1,B⟩:=R.bout hf r;rw[B.outW]at w0 w1 w2 w3;simp[sx,sy]at w0 w1 w2 w3;have hx:=B.hx;have hy:=B.hy;have a0:=B.h0 _ m;have a1:=B.h1 _ m;have a2:=B.h2 _ m;have a3:=B.h3 _ m;have e:(wq l v 0).1=v:=rfl;rw[e]at a0 a1 a2 a3;have inb:x0<=X v/\X v<=x1/\y0<=Y v/\Y v<=y1:=by
   rcases ZhS (wq4 (l:=l) (v:=v) (q:=0))with k|k|k|k
   .have:=a0 k;omega
   .have:=a1 k;omega
   .have:=a2 k;omega
   .have:=a3 k;omega
  omega
 have m2:=R.at (w:=w) (e1:=e1) hw he1 h1 hq hf r (by rw[<-ex,<-ey];exact k);obtain⟨x0,x1,y0,y1,B⟩:=R.bin hf r;exact congrArg Prod.fst (B.start m m2 wq4 wq4 ex ey)
theorem Rec.face(R:Rec l X Y){p:Da}(hp:isD l p):∃f∈faces l,p∈f:=by
 obtain⟨i,hi,hw⟩:=Zfr R.ck hp λp hp=>(Zfs R.ck).2 hp;exact⟨_,zh hi,hw⟩
theorem Rec.side(R:Rec l X Y){p:Da}(hp:isD l p):(∃f∈faces l,p∈f/\ZW l f=4)\/∃f∈faces l,opp l p∈f/\ZW l f=4:=by
 obtain⟨f,hf,m⟩:=R.face hp;obtain⟨g,hg,m'⟩:=R.face (hp.opp R.ck);rcases R.kind hf with r|r
 .exact .inl ⟨f,hf,m,r⟩
 .rcases R.kind hg with r'|r'
  .exact .inr ⟨g,hg,m',r'⟩
  .exfalso;rw[R.same hg hf r' r]at m';obtain⟨x0,x1,y0,y1,B⟩:=R.bout hf r;have hx:=B.hx;have hy:=B.hy;have o:tg l (opp l p)=p.1:=congrArg Prod.fst (Zb3 R.ck hp);have a0:=B.h0 _ m;have a1:=B.h1 _ m;have a2:=B.h2 _ m;have a3:=B.h3 _ m;have b0:=B.h0 _ m';have b1:=B.h1 _ m';have b2:=B.h2 _ m';have b3:=B.h3 _ m';rw[o]at b0 b1 b2 b3;unfold opp at b0 b1 b2 b3;dsimp only at b0 b1 b2 b3;rcases ZhS hp.2.1 with k|k|k|k<;>rw[k]at a0 a1 a2 a3 b0 b1 b2 b3<;>simp at a0 a1 a2 a3 b0 b1 b2 b3<;>omega
theorem Rec.E1(R:Rec l X Y){p:Da}{f:List Da}(hf:f∈faces l)(hp:p∈f)(r:ZW l f=4){w e1:Nat}(hw:w<l.length)(he1:e1<4)(h1:0<=nx l w e1)(ea:ac X Y p.2 w=ac X Y p.2 p.1)(l1:al X Y p.2 p.1<al X Y p.2 w)(l2:al X Y p.2 w<al X Y p.2 (tg l p)):False:=by
 obtain⟨x0,x1,y0,y1,B⟩:=R.bin hf r;have p4:=((Zbe R.ck f hf).is p hp).2.1;have hx:=B.hx;have hy:=B.hy;have a0:=B.h0 _ hp;have a1:=B.h1 _ hp;have a2:=B.h2 _ hp;have a3:=B.h3 _ hp;have m:=R.at (w:=w) (e1:=e1) hw he1 h1 p4 hf r (by
  rw[B.inW,if_pos];rcases ZhS p4 with k|k|k|k<;>rw[k]at a0 a1 a2 a3 ea l1 l2⊢ <;> simp[al,ac,sx,sy]at a0 a1 a2 a3 ea l1 l2⊢ <;> omega)
 have e:(wq l w p.2).1=w:=rfl;have ne:p≠wq l w p.2:=λz=>by
  have:=congrArg Prod.fst z;rw[e]at this;rw[this]at l1;omega
 have j:=B.dj p hp _ m ne;have b0:=B.h0 _ m;have b1:=B.h1 _ m;have b2:=B.h2 _ m;have b3:=B.h3 _ m;rw[e]at b0 b1 b2 b3 j;have q4:=wq4 (l:=l) (v:=w) (q:=p.2);generalize wq l w p.2=r' at*;rcases ZhS p4 with k|k|k|k<;>rcases ZhS q4 with k'|k'|k'|k'<;>rw[k]at a0 a1 a2 a3 ea l1 l2 j<;>rw[k']at b0 b1 b2 b3 j<;>simp[al,ac]at a0 a1 a2 a3 b0 b1 b2 b3 ea l1 l2 j<;>omega
theorem Rec.E(R:Rec l X Y){p:Da}(hp:isD l p){w e1:Nat}(hw:w<l.length)(he1:e1<4)(h1:0<=nx l w e1)(ea:ac X Y p.2 w=ac X Y p.2 p.1)(l1:al X Y p.2 p.1<al X Y p.2 w)(l2:al X Y p.2 w<al X Y p.2 (tg l p)):False:=by
 rcases R.side hp with⟨f,hf,m,r⟩|⟨f,hf,m,r⟩
 .exact R.E1 hf m r hw he1 h1 ea l1 l2
 .have o:tg l (opp l p)=p.1:=congrArg Prod.fst (Zb3 R.ck hp);have st:=(R.str p hp).2;have e:(opp l p).1=tg l p:=rfl;refine R.E1 hf m r hw he1 h1 ?_ ?_ ?_
  .rw[e];show ac X Y ((p.2+2)%4) w=ac X Y ((p.2+2)%4) (tg l p);rcases ZhS hp.2.1 with k|k|k|k<;>rw[k]at ea st⊢ <;> simp[ac]at ea st⊢ <;> omega
  .rw[e];show al X Y ((p.2+2)%4) (tg l p)<al X Y ((p.2+2)%4) w;rcases ZhS hp.2.1 with k|k|k|k<;>rw[k]at l2⊢ <;> simp[al]at l2⊢ <;> omega
  .rw[o];show al X Y ((p.2+2)%4) w<al X Y ((p.2+2)%4) p.1;rcases ZhS hp.2.1 with k|k|k|k<;>rw[k]at l1⊢ <;> simp[al]at l1⊢ <;> omega
theorem Rec.Xs(R:Rec l X Y){p q:Da}(hp:isD l p)(hq:isD l q)(p0:p.2=0)(q1:q.2=1)(x1:X p.1<X q.1)(x2:X q.1<X (tg l p))(y1:Y q.1<Y p.1)(y2:Y p.1<Y (tg l q)):False:=by
 have sp:=(R.str p hp).2;have sq:=(R.str q hq).2;rw[p0]at sp;rw[q1]at sq;simp[ac]at sp sq;have op:tg l (opp l p)=p.1:=congrArg Prod.fst (Zb3 R.ck hp);have oq:tg l (opp l q)=q.1:=congrArg Prod.fst (Zb3 R.ck hq);have ep:(opp l p).1=tg l p:=rfl;have eq:(opp l q).1=tg l q:=rfl;have hP:∃f∈faces l,ZW l f=4/\((rnd l X Y f (X q.1) (Y p.1)=1/\rnd l X Y f (X q.1-1) (Y p.1)=1)\/(rnd l X Y f (X q.1) (Y p.1-1)=1/\rnd l X Y f (X q.1-1) (Y p.1-1)=1)):=by
  rcases R.side hp with⟨f,hf,m,r⟩|⟨f,hf,m,r⟩<;>refine⟨f,hf,r,?_⟩<;>obtain⟨a,b,c,d,B⟩:=R.bin hf r
  .left;have:=B.h0 _ m p0;have:=B.hy;rw[B.inW,B.inW,if_pos (by omega),if_pos (by omega)];exact⟨rfl,rfl⟩
  .right;have h2:=B.h2 _ m (by unfold opp;dsimp only;omega);have:=B.hy;rw[op,ep]at h2;rw[B.inW,B.inW,if_pos (by omega),if_pos (by omega)];exact⟨rfl,rfl⟩
 have hQ:∃f∈faces l,ZW l f=4/\((rnd l X Y f (X q.1-1) (Y p.1)=1/\rnd l X Y f (X q.1-1) (Y p.1-1)=1/\rnd l X Y f (X q.1) (Y p.1)=0/\rnd l X Y f (X q.1) (Y p.1-1)=0)\/(rnd l X Y f (X q.1) (Y p.1)=1/\rnd l X Y f (X q.1) (Y p.1-1)=1/\rnd l X Y f (X q.1-1) (Y p.1)=0/\rnd l X Y f (X q.1-1) (Y p.1-1)=0)):=by
  rcases R.side hq with⟨f,hf,m,r⟩|⟨f,hf,m,r⟩<;>refine⟨f,hf,r,?_⟩<;>obtain⟨a,b,c,d,B⟩:=R.bin hf r
  .left;have:=B.h1 _ m q1;have:=B.hx;rw[B.inW,B.inW,B.inW,B.inW,if_pos (by omega),if_pos (by omega),if_neg (by omega),if_neg (by omega)];exact⟨rfl,rfl,rfl,rfl⟩
  .right;have h3:=B.h3 _ m (by unfold opp;dsimp only;omega);have:=B.hx;rw[oq,eq]at h3;rw[B.inW,B.inW,B.inW,B.inW,if_pos (by omega),if_pos (by omega),if_neg (by omega),if_neg (by omega)];exact⟨rfl,rfl,rfl,rfl⟩
 obtain⟨f,hf,r,k⟩:=hP;obtain⟨g,hg,s,k'⟩:=hQ;have U:=λi j h=>(R.uniq (i:=i) (j:=j) hf r h).1 g hg s;rcases k with⟨a,b⟩|⟨a,b⟩<;>rcases k' with⟨c,d,e,h⟩|⟨c,d,e,h⟩
 .have z:=U _ _ b c;subst z;omega
 .have z:=U _ _ a c;subst z;omega
 .have z:=U _ _ b d;subst z;omega
 .have z:=U _ _ a d;subst z;omega
end Mu
/- Cells beside cells. -/
namespace Mu
def sh1(n:Nat)(x:Int):Int:=if 0<=x then x+n else -1
def shC(n:Nat)(c:Za):Za:=⟨⟨sh1 n c.Next.a,sh1 n c.Next.b,sh1 n c.Next.c,sh1 n c.Next.d⟩,c.Owner⟩
def app(l k:List Za):List Za:=l++k.map (shC l.length)
theorem ZfQ{l k:List Za}:(app l k).length=l.length+k.length:=by simp[app]
theorem Zo2{l k:List Za}{i:Nat}(h:i<l.length):gi (app l k) i=gi l i:=ZbJ h
theorem Zo3{l k:List Za}{i:Nat}(h:i<k.length):gi (app l k) (l.length+i)=shC l.length (gi k i):=by
 unfold app;rw[Zbo,ZaR h]
theorem Zpi{n:Nat}{c:Za}{e:Nat}(he:e<4):(shC n c).Next.get (e:Int)=sh1 n (c.Next.get (e:Int))/\(shC n c).Owner.get (e:Int)=c.Owner.get (e:Int):=by
 match e,he with
 |0,_|1,_|2,_|3,_=>exact⟨rfl,rfl⟩
theorem Zc8{l k:List Za}{i e:Nat}(h:i<l.length):nx (app l k) i e=nx l i e/\ow (app l k) i e=ow l i e:=by
 unfold nx ow;rw[Zo2 h];exact⟨rfl,rfl⟩
theorem Zd8{l k:List Za}{i e:Nat}(h:i<k.length)(he:e<4):nx (app l k) (l.length+i) e=sh1 l.length (nx k i e)/\ow (app l k) (l.length+i) e=ow k i e:=by
 unfold nx ow;rw[Zo3 h];exact Zpi he
theorem Ck.app{l k:List Za}(hl:Ck l)(hk:Ck k):Ck (app l k):=by
 refine⟨λv d hv hd=>?_⟩;rw[ZfQ]at hv⊢;by_cases c:v<l.length
 .have a:=Zc8 (k:=k) (e:=d) c;rcases hl.s v d c hd with⟨a1,a2⟩|⟨w,a1,a2,a3,a4,a5,a6⟩
  .left;rw[a.1,a.2];exact⟨a1,a2⟩
  .right;have b:=Zc8 (k:=k) (e:=(d+2)%4) a2;exact⟨w,by rw[a.1];exact a1,by omega,a3,by rw[b.1];exact a4,by rw[b.2,a.2];exact a5,by rw[a.2];exact a6⟩
 .obtain⟨i,rfl⟩:∃i,v=l.length+i:=⟨v-l.length,by omega⟩;have hi:i<k.length:=by omega
  have a:=Zd8 (l:=l) hi hd;rcases hk.s i d hi hd with⟨a1,a2⟩|⟨w,a1,a2,a3,a4,a5,a6⟩
  .left;rw[a.1,a.2,a1];exact⟨by unfold sh1;rw[if_neg (by omega)],a2⟩
  .right;have b:=Zd8 (l:=l) (e:=(d+2)%4) a2 (by omega);refine⟨l.length+w,by rw[a.1,a1];unfold sh1;rw[if_pos (by omega)];omega,by omega,by omega,by rw[b.1,a4];unfold sh1;rw[if_pos (by omega)];omega,by rw[b.2,a.2];exact a5,by rw[a.2];exact a6⟩
def shD(n:Nat)(p:Da):Da:=(n+p.1,p.2)
theorem Zjt{n:Nat}{p q:Da}(h:shD n p=shD n q):p=q:=by
 unfold shD at h;injection h with h1 h2
 exact Prod.ext (by omega) h2
theorem ZdT{l k:List Za}{p:Da}:isD (app l k) p↔isD l p\/∃q,isD k q/\p=shD l.length q:=by
 unfold isD;rw[ZfQ];constructor
 .rintro⟨h1,h2,h3⟩;by_cases c:p.1<l.length
  .left;rw[(Zc8 c).1]at h3;exact⟨c,h2,h3⟩
  .right;refine⟨(p.1-l.length,p.2),⟨by dsimp only;omega,h2,?_⟩,Prod.ext (by unfold shD;dsimp only;omega) rfl⟩;have:p.1=l.length+(p.1-l.length):=by omega
   rw[this,(Zd8 (by omega) h2).1]at h3;unfold sh1 at h3;split at h3
   .assumption
   .omega
 .rintro(⟨h1,h2,h3⟩|⟨q,⟨h1,h2,h3⟩,rfl⟩)
  .exact⟨by omega,h2,by rw[(Zc8 h1).1];exact h3⟩
  .refine⟨by unfold shD;dsimp only;omega,h2,?_⟩;show 0<=nx (app l k) (l.length+q.1) q.2;rw[(Zd8 h1 h2).1];unfold sh1;rw[if_pos h3];omega
theorem ZfS{l k:List Za}(hl:Ck l){p:Da}(h:isD l p):bh (app l k) p=bh l p:=by
 have f:=h.fwd hl;rw[ZbZ,ZbZ,(Zc8 h.1).1];refine congrArg (Prod.mk _) (Zdn (λe he=>?_) h.2.1);rw[(Zc8 f.1).1]
theorem Zfq{l k:List Za}(hk:Ck k){p:Da}(h:isD k p):bh (app l k) (shD l.length p)=shD l.length (bh k p):=by
 have f:=h.fwd hk;have h3:=h.2.2;rw[ZbZ,ZbZ];have e:nx (app l k) (shD l.length p).1 (shD l.length p).2=((l.length+(nx k p.1 p.2).toNat:Nat):Int):=by
  show nx (app l k) (l.length+p.1) p.2=_;rw[(Zd8 h.1 h.2.1).1];unfold sh1;rw[if_pos h3];omega
 rw[e,itn];unfold shD;dsimp only;refine congrArg (Prod.mk _) (Zdn (λe he=>?_) h.2.1);rw[(Zd8 f.1 he).1,decide_eq_decide];unfold sh1;split
 .rename_i c;exact⟨λ_=>c,λ_=>by omega⟩
 .rename_i c;exact⟨λq=>by omega,λq=>absurd q c⟩
theorem Cyc.app1{l k:List Za}(hl:Ck l){f:List Da}(h:Cyc l f):Cyc (app l k) f/\ZW (app l k) f=ZW l f:=by
 refine⟨⟨h.ne,h.nd,λp hp=>ZdT.2 (.inl (h.is p hp)),λp hp=>by rw[ZfS hl (h.is p hp)];exact h.cl p hp,λC hC p hp q hq hCp=>h.one C (λx hx hCx=>by rw[<-ZfS (k:=k) hl hx];exact hC x (ZdT.2 (.inl hx)) hCx) p hp q hq hCp⟩,?_⟩;unfold ZW tns;congr 1;exact List.map_congr_left λp hp=>by rw[ZfS hl (h.is p hp)]
theorem Cyc.app2{l k:List Za}(hk:Ck k){f:List Da}(h:Cyc k f):Cyc (app l k) (f.map (shD l.length))/\ZW (app l k) (f.map (shD l.length))=ZW k f:=by
 refine⟨⟨by simpa using h.ne,?_,λp hp=>?_,λp hp=>?_,λC hC p hp q hq hCp=>?_⟩,?_⟩
 .exact List.pairwise_map.2 (h.nd.imp λ{a b} hne he=>hne (Zjt he))
 .obtain⟨q,hq,rfl⟩:=List.mem_map.1 hp;exact ZdT.2 (.inr ⟨q,h.is q hq,rfl⟩)
 .obtain⟨q,hq,rfl⟩:=List.mem_map.1 hp;rw[Zfq hk (h.is q hq)];exact List.mem_map.2 ⟨_,h.cl q hq,rfl⟩
 .obtain⟨p',hp',rfl⟩:=List.mem_map.1 hp;obtain⟨q',hq',rfl⟩:=List.mem_map.1 hq;exact h.one (λx=>C (shD l.length x)) (λx hx hCx=>by
   rw[<-Zfq hk hx];exact hC _ (ZdT.2 (.inr ⟨x,hx,rfl⟩)) hCx) p' hp' q' hq' hCp
 .unfold ZW tns;rw[List.map_map];congr 1;refine List.map_congr_left λp hp=>?_;show tn (shD l.length p).2 (bh (app l k) (shD l.length p)).2=_;rw[Zfq hk (h.is p hp)];rfl
theorem Lp.app1{l k:List Za}(hl:Ck l){f:List Da}(h:Lp l f):Lp (app l k) f:=by
 have:∀{s:List Da}{x y:Da},Pt l x s y->Pt (app l k) x s y:=by
  intro s
  induction s with
  |nil=>intro x y h;exact h
  |cons a s ih=>
   intro x y h;obtain⟨h1,h2,h3⟩:=h;exact⟨h1,ZdT.2 (.inl h2),by rw[ZfS hl h2];exact ih h3⟩
 obtain⟨x,hx⟩:=h.pt;exact⟨h.ne,h.nd,x,this hx⟩
theorem Lp.app2{l k:List Za}(hk:Ck k){f:List Da}(h:Lp k f):Lp (app l k) (f.map (shD l.length)):=by
 have:∀{s:List Da}{x y:Da},Pt k x s y->Pt (app l k) (shD l.length x) (s.map (shD l.length)) (shD l.length y):=by
  intro s
  induction s with
  |nil=>intro x y h;exact congrArg (shD l.length) h
  |cons a s ih=>
   intro x y h;obtain⟨h1,h2,h3⟩:=h;exact⟨by rw[h1],ZdT.2 (.inr ⟨a,h2,rfl⟩),by rw[Zfq hk h2];exact ih h3⟩
 obtain⟨x,hx⟩:=h.pt;exact⟨by simpa using h.ne,(Cyc.app2 (l:=l) hk h.cyc).1.nd,_,this hx⟩
theorem Fcs.app{l k:List Za}(hl:Ck l)(hk:Ck k){F G:List (List Da)}(hF:Fcs l F)(hG:Fcs k G):Fcs (app l k) (F++G.map (List.map (shD l.length))):=by
 refine⟨λf hf=>?_,?_,λp hp=>?_⟩
 .rcases List.mem_append.1 hf with h|h
  .exact(Cyc.app1 hl (hF.cy f h)).1
  .obtain⟨g,hg,rfl⟩:=List.mem_map.1 h;exact(Cyc.app2 hk (hG.cy g hg)).1
 .have e:(G.map (List.map (shD l.length))).flatten=G.flatten.map (shD l.length):=by rw[List.map_flatten]
  rw[List.flatten_append,e,List.nodup_append];refine⟨hF.nd,List.pairwise_map.2 (hG.nd.imp λ{a b} hne he=>hne (Zjt he)),λa ha b hb q=>?_⟩;obtain⟨f,hf,haf⟩:=List.mem_flatten.1 ha;obtain⟨b',_,rfl⟩:=List.mem_map.1 hb;have:=((hF.cy f hf).is a haf).1;rw[q]at this;unfold shD at this;dsimp only at this;omega
 .rw[List.flatten_append,List.mem_append];rcases ZdT.1 hp with h|⟨q,h,rfl⟩
  .exact .inl (hF.al p h)
  .right;obtain⟨g,hg,hq⟩:=List.mem_flatten.1 (hG.al q h);exact List.mem_flatten.2 ⟨g.map (shD l.length),List.mem_map.2 ⟨g,hg,rfl⟩,List.mem_map.2 ⟨q,hq,rfl⟩⟩
theorem ZhK{f:Nat->Int}{n:Nat}:∀m,sg f (n+m)=sg f n+sg (λi=>f (n+i)) m
 |0=>by simp[sg]
 |m+1=>by rw[<-Nat.add_assoc,sg,ZhK m,sg];omega
theorem ZjC{l k:List Za}{u:Nat}(h:u<l.length):deg (app l k) u=deg l u:=by
 rw[Zdr,Zdr,(Zc8 h).1,(Zc8 h).1,(Zc8 h).1,(Zc8 h).1]
theorem ZjD{l k:List Za}{u:Nat}(h:u<k.length):deg (app l k) (l.length+u)=deg k u:=by
 have e:∀e,e<4->(if 0<=nx (app l k) (l.length+u) e then(1:Int)else 0)=if 0<=nx k u e then 1 else 0:=by
  intro e he;rw[(Zd8 h he).1];unfold sh1;by_cases c:0<=nx k u e
  .rw[if_pos c,if_pos (by omega),if_pos c]
  .rw[if_neg c,if_neg (by omega),if_neg c]
 rw[Zdr,Zdr,e 0 (by omega),e 1 (by omega),e 2 (by omega),e 3 (by omega)]
theorem Zoq{l k:List Za}(hl:Ck l)(hk:Ck k):chi (app l k)=chi l+chi k:=by
 have ln:=((Fcs.faces hl).app hl hk (Fcs.faces hk)).len (Fcs.faces (hl.app hk));rw[List.length_append,List.length_map]at ln;have a:cV (app l k)=cV l+cV k:=by
  unfold cV;rw[ZfQ,ZhK,ZbT (f:=λw=>if deg (app l k) w=0 then(0:Int)else 1) (g:=λw=>if deg l w=0 then(0:Int)else 1) λu hu=>by rw[ZjC hu]];congr 1;exact ZbT λu hu=>by rw[ZjD hu]
 have b:cD (app l k)=cD l+cD k:=by
  unfold cD;rw[ZfQ,ZhK,ZbT (f:=deg (app l k)) (g:=deg l) λu hu=>ZjC hu];congr 1;exact ZbT λu hu=>ZjD hu
 unfold chi;rw[a,b,<-ln];omega
theorem Cyc.of_app{l k:List Za}(hl:Ck l)(hk:Ck k){f:List Da}(h:Cyc (app l k) f):(∃g,Cyc l g/\ZW (app l k) f=ZW l g)\/∃g,Cyc k g/\ZW (app l k) f=ZW k g:=by
 obtain⟨p,hp⟩:=List.exists_mem_of_ne_nil f h.ne;have F:=(Fcs.faces hl).app hl hk (Fcs.faces hk);obtain⟨g,hg,hpg⟩:=List.mem_flatten.1 (F.al p (h.is p hp));have e:=Zb7 (l:=app l k) (h.perm (F.cy g hg) hp hpg);rcases List.mem_append.1 hg with q|q
 .have c:=Zbe hl g q;exact .inl ⟨g,c,by rw[e,(Cyc.app1 hl c).2]⟩
 .obtain⟨g',hg',rfl⟩:=List.mem_map.1 q;have c:=Zbe hk g' hg';exact .inr ⟨g',c,by rw[e,(Cyc.app2 hk c).2]⟩
end Mu
/- Layer 21:cells framed. -/
namespace Mu
def frK(d:Nat):Nat->List Za
 |0=>List.replicate 5 noC
 |j+1=>if(j+3)%4=d then wth (wth (frK d j) j j 4 (-2)) 4 j (((j+1)%4:Nat):Int) (-2)else wth (frK d j) j j (((j+1)%4:Nat):Int) (-2)
theorem Zlh{d:Nat}:∀j,(frK d j).length=5
 |0=>by simp[frK]
 |j+1=>by rw[frK];split<;>simp[ZaG,Zlh j]
theorem Zoy:∀d:Fin 4,∀j:Fin 5,ZdR (frK d.1 j.1)=0:=by decide+kernel
theorem Zq9{d j:Nat}(hd:d<4)(hj:j<5):Ck (frK d j):=(Zcf.1 (Zoy ⟨d,hd⟩ ⟨j,hj⟩)).2
theorem ZmU:∀d:Fin 4,∃a:Fin 4,Zfh (frK d.1 4)=some (a.1:Int):=by decide+kernel
theorem Zoz{d:Nat}(hd:d<4):Val (frK d 4):=by
 obtain⟨a,e⟩:=ZmU ⟨d,hd⟩;exact Zgh.1 ⟨_,e,by omega⟩
instance Pt.dec{l:List Za}:∀(s:List Da)(x y:Da),Decidable (Pt l x s y)
 |[],x,y=>inferInstanceAs (Decidable (x=y))
 |a::s,x,y=>by
  have:=Pt.dec (l:=l) s (bh l a) y;exact inferInstanceAs (Decidable (x=a/\isD l a/\Pt l (bh l a) s y))
def frT(d:Nat):List Da:=[(4,(d+1)%4),((d+2)%4,(d+2)%4),((d+3)%4,(d+3)%4),(d,d)]
def frY(d:Nat):Da:=((d+1)%4,(d+1)%4)
theorem Zo1:∀d:Fin 4,Pt (frK d.1 4) (4,(d.1+1)%4) (frT d.1++[frY d.1]) (4,(d.1+1)%4)/\(frT d.1++[frY d.1]).Nodup/\ZW (frK d.1 4) (frT d.1++[frY d.1])=4/\tt (frK d.1 4) (frY d.1)=0/\nx (frK d.1 4) (frY d.1).1 (frY d.1).2=4/\nx (frK d.1 4) 4 ((d.1+2)%4)=-1/\isD (frK d.1 4) (frY d.1):=by decide+kernel
theorem Zq8:∀d:Fin 4,Adj (frK d.1 4) 4 ((d.1+2)%4)/\Adj (frK d.1 4) ((d.1+2)%4) ((d.1+3)%4)/\Adj (frK d.1 4) ((d.1+3)%4) d.1/\Adj (frK d.1 4) d.1 ((d.1+1)%4):=by
 have:∀d:Fin 4,nx (frK d.1 4) 4 ((d.1+1)%4)=((d.1+2)%4:Nat)/\nx (frK d.1 4) ((d.1+2)%4) ((d.1+2)%4)=((d.1+3)%4:Nat)/\nx (frK d.1 4) ((d.1+3)%4) ((d.1+3)%4)=d.1/\nx (frK d.1 4) d.1 d.1=((d.1+1)%4:Nat):=by decide+kernel
 intro d;obtain⟨a,b,c,e⟩:=this d;have:=d.2;exact⟨⟨_,by omega,a⟩,⟨_,by omega,b⟩,⟨_,by omega,c⟩,⟨_,by omega,e⟩⟩
def frm(l:List Za)(v d:Nat):List Za:=wth (app l (frK d 4)) v d ((l.length+4:Nat):Int) (-2)
end Mu
/- Layer 21:framed cells can be Zep. -/
namespace Mu
def frO(d:Nat):List Da:=((frT d++[frY d]).map (opp (frK d 4))).reverse
theorem Zo0:∀d:Fin 4,Pt (frK d.1 4) ((frO d.1).headD (0,0)) (frO d.1) ((frO d.1).headD (0,0))/\(frO d.1).Nodup/\ZW (frK d.1 4) (frO d.1)=-4/\((frO d.1).map λp=>ng (tt (frK d.1 4) p)).sum=4/\frY d.1∉frO d.1/\(frO d.1).length=5/\∀p∈frO d.1,-1<=tt (frK d.1 4) p/\tt (frK d.1 4) p<=0:=by decide+kernel
theorem Del.bridge{l m:List Za}(hc:Ck l){v d w:Nat}(D:Del l m v d w){S T:List Da}{x y:Da}(hS:Lp m (S++[x]))(hT:Lp m (T++[y]))(hdj:∀a∈S++[x],a∉T++[y])(hx:Mu.bh l x=(v,d))(hy:Mu.bh l y=(w,(d+2)%4)) :
  Lp l ((v,d)::(T++[y])++(w,(d+2)%4)::(S++[x]))/\ZW l ((v,d)::(T++[y])++(w,(d+2)%4)::(S++[x]))=ZW m (T++[y])+ZW m (S++[x])+4:=by
 obtain⟨p,P⟩:=hS.pt;obtain⟨q,Q⟩:=hT.pt;obtain⟨x',P1,P2⟩:=Pt.app.1 P;obtain⟨y',Q1,Q2⟩:=Pt.app.1 Q;rw[Pt,Pt]at P2 Q2;obtain⟨rfl,dx,ex⟩:=P2;obtain⟨rfl,dy,ey⟩:=Q2;have ee:=D.ee hc;have bx:=D.bh hc dx;have by':=D.bh hc dy
 rw[hx,if_pos rfl,if_pos rfl]at bx;rw[hy,if_neg ee,if_pos rfl,if_neg ee,if_pos rfl]at by'
 have n1:=List.nodup_append.1 hS.nd;have n2:=List.nodup_append.1 hT.nd;have iS:=hS.is;have iT:=hT.is;have ne1:∀a∈S,Mu.bh l a≠(v,d)/\Mu.bh l a≠(w,(d+2)%4):=by
  intro a ha;have da:=(D.isD.1 (iS a (by simp[ha]))).1;refine⟨λz=>?_,λz=>?_⟩
  .exact n1.2.2 a ha x' (by simp) (ZbY hc da (D.isD.1 dx).1 (z.trans hx.symm))
  .have:=ZbY hc da (D.isD.1 dy).1 (z.trans hy.symm);exact hdj a (by simp[ha]) (by simp[this])
 have ne2:∀a∈T,Mu.bh l a≠(v,d)/\Mu.bh l a≠(w,(d+2)%4):=by
  intro a ha;have da:=(D.isD.1 (iT a (by simp[ha]))).1;refine⟨λz=>?_,λz=>?_⟩
  .have:=ZbY hc da (D.isD.1 dx).1 (z.trans hx.symm);exact hdj x' (by simp) (by simp[<-this,ha])
  .exact n2.2.2 a ha y' (by simp) (ZbY hc da (D.isD.1 dy).1 (z.trans hy.symm))
 obtain⟨S1,S2⟩:=D.back hc P1 ne1;obtain⟨T1,T2⟩:=D.back hc Q1 ne2;have e1:Mu.bh l (w,(d+2)%4)=p:=by rw[<-bx.1,ex]
 have e2:Mu.bh l (v,d)=q:=by rw[<-by'.1,ey]
 have notm:∀{s:List Da},(∀a∈s,Mu.isD m a)->(v,d)∉s/\(w,(d+2)%4)∉s:=λh=>⟨λq=>(D.isD.1 (h _ q)).2.1 rfl,λq=>(D.isD.1 (h _ q)).2.2 rfl⟩;have mS:=notm iS;have mT:=notm iT;refine⟨⟨by simp,?_,(v,d),?_⟩,?_⟩
 .rw[List.cons_append,List.nodup_cons,List.nodup_append,List.nodup_cons];refine⟨λz=>?_,hT.nd,⟨mS.2,hS.nd⟩,λa ha b hb z=>?_⟩
  .rcases List.mem_append.1 z with z|z
   .exact mT.1 z
   .rcases List.mem_cons.1 z with z|z
    .exact ee z.symm
    .exact mS.1 z
  .subst z;rcases List.mem_cons.1 hb with z|z
   .rw[z]at ha;exact mT.2 ha
   .exact hdj a z ha
 .rw[List.cons_append];refine⟨rfl,D.e,?_⟩;rw[e2];refine Pt.app.2 ⟨(w,(d+2)%4),Pt.app.2 ⟨y',T1,rfl,(D.isD.1 dy).1,hy⟩,rfl,D.e' hc,?_⟩;rw[e1];exact Pt.app.2 ⟨x',S1,rfl,(D.isD.1 dx).1,hx⟩
 .simp only[List.cons_append,Zao,Zcl,Zcm];have r1:=bx.2;have r2:=by'.2
  omega
structure Framed(l F:List Za)(v d:Nat):Prop where
 ck:Ck F
 val:Val F
 whole:Mu.whole F
 len:F.length=l.length+5
 out:∃g,Cyc F g/\ZW F g=-4/\(g.map λp=>ng (tt F p)).sum=4/\∀p∈g,-1<=tt F p/\tt F p<=0
 old:∀u e,u<l.length->e<4->(u=v/\e=d->nx l u e=-1)/\(¬(u=v/\e=d)->nx F u e=nx l u e/\ow F u e=ow l u e)
theorem ZqA{l:List Za}(hc:Ck l)(hV:Val l)(hW:whole l){f:List Da}(hf:Cyc l f)(h4:ZW l f=-4){x:Da}(hx:x∈f)(tx:tt l x<0):Framed l (frm l (nx l x.1 x.2).toNat x.2) (nx l x.1 x.2).toNat x.2:=by
 have dx:=hf.is x hx;have hd:=dx.2.1;have fx:=dx.fwd hc;have tf:=ZlD hd tx;have lv:=hc.lt fx.1 hd;have hn:nx l (nx l x.1 x.2).toNat x.2=-1:=by omega
 generalize hv:(nx l x.1 x.2).toNat=v at*;have d4:x.2<4:=hd;obtain⟨a1,a2,a3,a4,a5,a6,a7⟩:=Zo1 ⟨x.2,hd⟩;obtain⟨o1,o2,o3,o4,o5,o6,o7⟩:=Zo0 ⟨x.2,hd⟩;obtain⟨j1,j2,j3,j4⟩:=Zq8 ⟨x.2,hd⟩;dsimp only at a1 a2 a3 a4 a5 a6 a7 o1 o2 o3 o4 o5 o6 o7 j1 j2 j3 j4;have hk:Ck (frK x.2 4):=Zq9 hd (by omega);have kV:=Zoz hd;have kl:=Zlh (d:=x.2) 4;generalize hd':x.2=d at*;have LT:Lp (frK d 4) (frT d++[frY d]):=⟨by simp,a2,_,a1⟩;have LO:Lp (frK d 4) (frO d):=⟨λz=>by rw[z]at o6;simp at o6,o2,_,o1⟩;have h0:=hc.app hk;have al:=ZfQ (l:=l) (k:=frK d 4);have vlt:v<(app l (frK d 4)).length:=by rw[al];have:=fx.1;omega
 have wlt:l.length+4<(app l (frK d 4)).length:=by rw[al];omega
 have vw:v≠l.length+4:=by have:=fx.1;omega
 have f1:nx (app l (frK d 4)) v d=-1:=by rw[(Zc8 fx.1).1];exact hn
 have f2:nx (app l (frK d 4)) (l.length+4) ((d+2)%4)=-1:=by rw[(Zd8 (by omega) (by omega)).1,a6];rfl
 have D:Del (frm l v d) (app l (frK d 4)) v d (l.length+4):=Del.of_wth h0 vlt wlt vw hd f1 f2;have hF:Ck (frm l v d):=h0.wth vlt wlt vw hd f1 f2 (by omega);have flen:(frm l v d).length=l.length+5:=by unfold frm;rw[ZaG,al];omega
 have fnx:∀u e,u<l.length->e<4->(u=v/\e=d->nx l u e=-1)/\(¬(u=v/\e=d)->nx (frm l v d) u e=nx l u e/\ow (frm l v d) u e=ow l u e):=by
  intro u e hu he;refine⟨λz=>by rw[z.1,z.2];exact hn,λz=>?_⟩;have:=ZdK (l:=app l (frK d 4)) (o:=-2) vlt wlt vw hd (i:=u) (e:=e) (by rw[al];omega) he;rw[if_neg z,if_neg (by omega),if_neg z,if_neg (by omega),(Zc8 hu).1,(Zc8 hu).2]at this;exact this
 -- both loops
 obtain⟨t,ht,pe⟩:=hf.lp hc hx;have LS0:Lp l (t++[x]):=by
  have:=Lp.turn (s:=[x]) (t:=t) (by simpa using ht);exact this
 have LS:=LS0.app1 (k:=frK d 4) hc;have LT':=LT.app2 (l:=l) hk;rw[List.map_append,List.map_cons,List.map_nil]at LT';have rS:ZW (app l (frK d 4)) (t++[x])=-4:=by
  rw[(Cyc.app1 hc LS0.cyc).2,<-h4];refine Zb7 ((List.perm_append_comm (l₁:=t) (l₂:=[x])).trans pe.symm)
 have rT:ZW (app l (frK d 4)) ((frT d).map (shD l.length)++[shD l.length (frY d)])=4:=by
  have:=(Cyc.app2 (l:=l) hk LT.cyc).2;rw[List.map_append,List.map_cons,List.map_nil]at this;rw[this,a3]
 have dj:∀a∈t++[x],a∉(frT d).map (shD l.length)++[shD l.length (frY d)]:=by
  intro a ha hb;have h1:=(LS0.is a ha).1;have:a∈(frT d++[frY d]).map (shD l.length):=by rw[List.map_append];exact hb
  obtain⟨b,_,rfl⟩:=List.mem_map.1 this;unfold shD at h1;dsimp only at h1;omega
 have isx:isD (app l (frK d 4)) x:=ZdT.2 (.inl dx);have isy:isD (app l (frK d 4)) (shD l.length (frY d)):=ZdT.2 (.inr ⟨_,a7,rfl⟩);have tx0:tt (app l (frK d 4)) x=tt l x:=by unfold tt;rw[ZfS hc dx]
 have ty0:tt (app l (frK d 4)) (shD l.length (frY d))=0:=by
  rw[<-a4];unfold tt;rw[Zfq hk a7];rfl
 have ty1:tn (frY d).2 ((d+2)%4)=1:=by unfold frY tn;dsimp only;rw[if_neg (by omega),if_pos (by omega)]
 have td:tn d d=0:=by unfold tn;rw[if_pos rfl]
 have bX:bh (frm l v d) x=(v,d):=(D.enter hF h0 isx).1 (by rw[(Zc8 dx.1).1];rw[hd'];exact hv) (by rw[tx0,hd',td];exact tx);have bY:bh (frm l v d) (shD l.length (frY d))=(l.length+4,(d+2)%4):=by
  refine(D.enter hF h0 isy).2 ?_ ?_
  .show(nx (app l (frK d 4)) (l.length+(frY d).1) (frY d).2).toNat=_;rw[(Zd8 a7.1 a7.2.1).1,a5];unfold sh1;rw[if_pos (by omega)];omega
  .rw[ty0];show 0<tn (frY d).2 ((d+2)%4);omega
 obtain⟨LB,rB⟩:=D.bridge hF LS LT' dj bX bY;rw[rS,rT]at rB;obtain⟨V1,V2⟩:=(Zdc hc).1 hV;obtain⟨K1,K2⟩:=(Zdc hk).1 kV;have X:chi (frm l v d)=4:=by
  have c0:=Zoq hc hk;rw[V2,K2]at c0;have b1:=D.cD hF;have b2:=D.cV hF;have e1:=ZdB hF D.e;have e2:=ZdB hF (D.e' hF);rw[D.opp]at e1;rw[<-D.opp,Zb3 hF D.e,D.opp]at e2;dsimp only at e1 e2;have be:bh (frm l v d) (v,d)≠(l.length+4,(d+2)%4):=by
   intro z;have:=(D.bh hF isy).1;rw[bY,if_neg (D.ee hF),if_pos rfl,z]at this;exact(D.isD.1 (isy.bh h0)).2.2 this
  have be':bh (frm l v d) (l.length+4,(d+2)%4)≠(v,d):=by
   intro z;have:=(D.bh hF isx).1;rw[bX,if_pos rfl,z]at this;exact(D.isD.1 (isx.bh h0)).2.1 this
  cases D.kind hF with
  |two A B R hA hB hl hm' rot same n1 n2 lm=>
   exfalso;have:=LB.cyc.sub hA.cyc (p:=(v,d)) (by simp) (by simp) (l.length+4,(d+2)%4) (by simp);have nd:=hl.nd;rw[List.flatten_cons,List.flatten_cons,List.nodup_append]at nd;exact nd.2.2 _ this _ (by simp) rfl
  |one A B R hA hl hm' rot same n1 n2 lA lB=>
   have g1:=hl.len (Fcs.faces hF);have g2:=hm'.len (Fcs.faces h0);simp only[List.length_cons]at g1 g2;rw[if_neg λq=>n2 (e2.2 q),if_neg λq=>n1 (e1.2 q)]at b2;unfold chi at c0⊢;omega
  |leaf A R hA hl hm' rot same n=>
   rcases n with⟨n1,_⟩|⟨_,n2⟩
   .exact absurd n1 be
   .exact absurd n2 be'
  |iso R hA hl hm' same n1 n2=>exact absurd n1 be
 refine⟨hF,(Zdc hF).2 ⟨λg hg=>?_,X⟩,?_,flen,?_,fnx⟩
 .by_cases c1:(v,d)∈g
  .rw[Zb7 (hg.perm LB.cyc c1 (by simp)),rB];left;rfl
  .by_cases c2:(l.length+4,(d+2)%4)∈g
   .rw[Zb7 (hg.perm LB.cyc c2 (by simp)),rB];left;rfl
   .obtain⟨q1,q2⟩:=D.keep hF hg c1 c2;rw[<-q2];rcases Cyc.of_app hc hk q1 with⟨g',h1,h2⟩|⟨g',h1,h2⟩
    .rw[h2];exact V1 g' h1
    .rw[h2];exact K1 g' h1
 .have hl0:=Ze8 hW;have adj:∀a b,a<l.length->Adj l a b->Adj (frm l v d) a b:=by
   rintro a b ha ⟨e,he,q⟩;refine⟨e,he,?_⟩;have:=fnx a e ha he;by_cases z:a=v/\e=d
   .have:=this.1 z;omega
   .rw[(this.2 z).1];exact q
  have reach:∀u,u<l.length->∃n,Rch (frm l v d) 0 n u:=by
   intro u hu;obtain⟨n,r⟩:=Zdo hW hu;exact⟨n,r.mono adj hc hl0⟩
  have adK:∀{a b},a<5->Adj (frK d 4) a b->Adj (frm l v d) (l.length+a) (l.length+b):=by
   rintro a b ha ⟨e,he,q⟩;refine⟨e,he,?_⟩;have n0:=(Zd8 (l:=l) (k:=frK d 4) (i:=a) (e:=e) (by omega) he).1;rw[q]at n0;have n1:nx (app l (frK d 4)) (l.length+a) e=((l.length+b:Nat):Int):=by rw[n0];unfold sh1;rw[if_pos (by omega)];omega
   have:=ZdK (l:=app l (frK d 4)) (o:=-2) vlt wlt vw hd (i:=l.length+a) (e:=e) (by rw[al];omega) he;rw[if_neg (by have:=fx.1;omega)]at this;by_cases z:l.length+a=l.length+4/\e=(d+2)%4
   .rw[z.1,z.2,f2]at n1;omega
   .rw[if_neg z]at this;exact this.1.trans n1
  obtain⟨n,r⟩:=reach v fx.1;have r4:Rch (frm l v d) 0 (n+1) (l.length+4):=.succ r ⟨d,hd,D.hn⟩;have r5:=Rch.succ r4 (adK (by omega) j1);have r6:=Rch.succ r5 (adK (by omega) j2);have r7:=Rch.succ r6 (adK (by omega) j3);have r8:=Rch.succ r7 (adK (by omega) j4);refine ZhP (by omega) λu hu=>?_;by_cases c:u<l.length
  .exact reach u c
  .have:u=l.length+4\/u=l.length+(d+2)%4\/u=l.length+(d+3)%4\/u=l.length+d\/u=l.length+(d+1)%4:=by omega
   rcases this with rfl|rfl|rfl|rfl|rfl
   .exact⟨_,r4⟩
   .exact⟨_,r5⟩
   .exact⟨_,r6⟩
   .exact⟨_,r7⟩
   .exact⟨_,r8⟩
 .have C0:=Cyc.app2 (l:=l) hk LO.cyc;have m1:∀q∈(frO d).map (shD l.length),l.length<=q.1:=by
   intro q hq;obtain⟨b,_,rfl⟩:=List.mem_map.1 hq;unfold shD;dsimp only;omega
  have notin:∀q∈(frO d).map (shD l.length),q≠(v,d)/\q≠(l.length+4,(d+2)%4):=λq hq=>⟨λz=>(D.isD.1 (C0.1.is q hq)).2.1 z,λz=>(D.isD.1 (C0.1.is q hq)).2.2 z⟩;have ny:shD l.length (frY d)∉(frO d).map (shD l.length):=by
   intro z;obtain⟨b,hb,e⟩:=List.mem_map.1 z;rw[Zjt e]at hb;exact o5 hb
  have hb:∀q∈(frO d).map (shD l.length),bh (frm l v d) q≠(v,d)/\bh (frm l v d) q≠(l.length+4,(d+2)%4):=by
   intro q hq;have dq:=(D.isD.1 (C0.1.is q hq)).1;refine⟨λz=>?_,λz=>?_⟩
   .have:=ZbY hF dq (D.isD.1 isx).1 (z.trans bX.symm);have:=m1 q hq;have:=dx.1;subst q;omega
   .have:=ZbY hF dq (D.isD.1 isy).1 (z.trans bY.symm);rw[this]at hq;exact ny hq
  have C1:Cyc (frm l v d) ((frO d).map (shD l.length)):=by
   refine⟨C0.1.ne,C0.1.nd,λq hq=>(D.isD.1 (C0.1.is q hq)).1,λq hq=>?_,λC hC p hp q hq hCp=>C0.1.one (λz=>z∈(frO d).map (shD l.length)->C z) (λz hz hCz hm=>?_) p hp q hq (λ_=>hCp) hq⟩
   .have:=(D.bh hF (C0.1.is q hq)).1;rw[if_neg (hb q hq).1,if_neg (hb q hq).2]at this;rw[<-this];exact C0.1.cl q hq
   ·-- what leads there is in it too
    have:z∈(frO d).map (shD l.length):=Zfc h0 ⟨C0.1.nd,C0.1.is⟩ C0.1.cl hz hm;have e:=(D.bh hF (C0.1.is z this)).1;rw[if_neg (hb z this).1,if_neg (hb z this).2]at e;rw[e];exact hC z (D.isD.1 hz).1 (hCz this)
  have t2:∀q∈(frO d).map (shD l.length),tt (frm l v d) q=tt (app l (frK d 4)) q:=by
   intro q hq;have:=(D.bh hF (C0.1.is q hq)).2;rw[if_neg (hb q hq).1,if_neg (hb q hq).2]at this;exact this.symm
  have e1:ZW (frm l v d) ((frO d).map (shD l.length))=ZW (app l (frK d 4)) ((frO d).map (shD l.length)):=by
   unfold ZW tns;congr 1;exact List.map_congr_left λq hq=>t2 q hq
  have e2:∀q∈frO d,tt (frm l v d) (shD l.length q)=tt (frK d 4) q:=by
   intro q hq;rw[t2 _ (List.mem_map.2 ⟨q,hq,rfl⟩)];unfold tt;rw[Zfq hk (LO.is q hq)];rfl
  have e3:((frO d).map (shD l.length)).map (λp=>ng (tt (frm l v d) p))=(frO d).map λp=>ng (tt (frK d 4) p):=by
   rw[List.map_map];exact List.map_congr_left λq hq=>congrArg ng (e2 q hq)
  exact⟨(frO d).map (shD l.length),C1,by rw[e1,C0.2,o3],by rw[e3];exact o4,λp hp=>by
   obtain⟨q,hq,rfl⟩:=List.mem_map.1 hp;rw[e2 q hq];exact o7 q hq⟩
end Mu
/- Cells that lie on a plane can be Zep,if they hang together. -/
namespace Mu
def dx(d:Nat):Int:=if d=0 then 1 else if d=2 then -1 else 0
def dy(d:Nat):Int:=if d=1 then 1 else if d=3 then -1 else 0
section geo
variable {l:List Za}{at_:List Zk}
def pX(at_:List Zk)(p:Da)(i:Int):Int:=(gi at_ p.1).X+i*dx p.2
def pY(at_:List Zk)(p:Da)(i:Int):Int:=(gi at_ p.1).Y+i*dy p.2
end geo
end Mu
/- Layer 14:ValidPlane:the board's cells that lie under cells on a plane. -/
namespace Mu
def ps(x y:Int):Nat:=(8*y+x).toNat
section geo
variable {l:List Za}{at_:List Zk}
def un(at_:List Zk)(p:Da)(i:Nat):Da:=(ps (pX at_ p i) (pY at_ p i),p.2)
end geo
end Mu
/- Layer 21:framing and refining in the code;RectCounts. -/
namespace Mu
theorem ZoU{l:List Za}:negs l<=8*l.length:=by
 have a:(ZbW l).length<=4*l.length:=by
  have:=Mets.len (l:=l) (met:=ZbW l) ⟨ZcR,λp hp=>ZaL.1 hp⟩;exact this
 have b:∀L:List Da,(L.map λp=>ng (tt l p)).sum<=2*L.length:=by
  intro L
  induction L with
  |nil=>simp
  | cons a L ih=>
   rw[List.map_cons,List.sum_cons,List.length_cons];have:ng (tt l a)<=2:=by
    have:-2<=tt l a:=ZhN.1;unfold ng;split<;>omega
   omega
 have:=b (ZbW l);unfold negs;omega
theorem Framed.err{l F:List Za}{v d:Nat}(h:Framed l F v d)(hl:l.length<=100):Zc2 F=0:=ZdI.2 ⟨Zcf.2 ⟨by rw[h.len];omega,h.ck⟩,h.whole,λ_=>h.val⟩
/-! Turns to the right,face by face. -/
end Mu
/- Layer 21:RectKeeps:old edges are there still,straight on. -/
namespace Mu
inductive Th(m:List Za)(n0 d:Nat)(o:Int):Nat->Nat->Nat->Prop
 |one {a b:Nat}:a<m.length->nx m a d=b->ow m a d=o->Th m n0 d o a b 1
 |step {a c b k:Nat}:a<m.length->nx m a d=c->ow m a d=o->n0<=c->Th m n0 d o c b k->Th m n0 d o a b (k+1)
def Kee(l m:List Za):Prop:=l.length<=m.length/\∀v d w:Nat,v<l.length->d<4->nx l v d=w->∃k,Th m l.length d (ow l v d) v w k
theorem Cuts.props{F:List Za}(hF:Ck F){n:Nat}{m:List Za}(C:Cuts F n m):Ck m:=by
 cases C with
 |zero=>exact hF
 |succ _ h=>exact h.ck
end Mu
/- Layer 16:straight chains of cells. -/
namespace Mu
theorem Ck.back{l:List Za}(h:Ck l){v d w:Nat}(hv:v<l.length)(hd:d<4)(hw:nx l v d=w):w<l.length/\nx l w ((d+2)%4)=v:=by
 rcases h.s v d hv hd with⟨a,_⟩|⟨u,a,b,_,c,_⟩
 .omega
 .have:w=u:=by omega
  subst this;exact⟨b,c⟩
structure IsCh(l:List Za)(d:Nat)(C:List Int):Prop where
 ne:0<C.length
 lt:∀i,i<C.length->0<=gi C i/\gi C i<l.length
 nxt:∀i,i+1<C.length->nx l (gi C i).toNat d=gi C (i+1)
 fin:nx l (gi C (C.length-1)).toNat d=-1
 beg:nx l (gi C 0).toNat ((d+2)%4)=-1
theorem IsCh.bk{l:List Za}(hc:Ck l){d:Nat}(hd:d<4){C:List Int}(h:IsCh l d C){i:Nat}(hi:i+1<C.length):nx l (gi C (i+1)).toNat ((d+2)%4)=gi C i:=by
 have a:=h.lt i (by omega);have b:=h.lt (i+1) hi;have:=(hc.back (v:=(gi C i).toNat) (d:=d) (w:=(gi C (i+1)).toNat) (by omega) hd (by rw[h.nxt i hi];omega)).2;rw[this];omega
theorem IsCh.at0{l:List Za}(hc:Ck l){d:Nat}(hd:d<4){C C':List Int}(h:IsCh l d C)(h':IsCh l d C'):∀i j,i<C.length->j<C'.length->gi C i=gi C' j->i=j/\gi C 0=gi C' 0
 |0,0,_,_,e=>⟨rfl,e⟩
 |0,j+1,_,hj,e=>by
  have a:=h'.bk hc hd hj;have b:=h.beg;rw[e,a]at b;have:=h'.lt j (by omega);omega
 |i+1,0,hi,_,e=>by
  have a:=h.bk hc hd hi;have b:=h'.beg;rw[<-e,a]at b;have:=h.lt i (by omega);omega
 |i+1,j+1,hi,hj,e=>by
  have a:=h.bk hc hd hi;have b:=h'.bk hc hd hj;rw[e,b]at a;obtain⟨q,r⟩:=IsCh.at0 hc hd h h' i j (by omega) (by omega) a.symm;exact⟨by omega,r⟩
theorem IsCh.uniq0{l:List Za}{d:Nat}{C C':List Int}(h:IsCh l d C)(h':IsCh l d C')(h0:gi C 0=gi C' 0):C=C':=by
 have key:∀{C C':List Int},IsCh l d C->IsCh l d C'->gi C 0=gi C' 0->∀k,k<C.length->k<C'.length/\gi C k=gi C' k:=by
  intro C C' h h' h0 k
  induction k with
  |zero=>intro _;exact⟨h'.ne,h0⟩
  |succ k ih=>
   intro hk;obtain⟨a,b⟩:=ih (by omega);have n:=h.nxt k hk;have q:=h.lt (k+1) hk;by_cases c:k+1<C'.length
   .refine⟨c,?_⟩;rw[<-n,<-h'.nxt k c,b]
   .have f:=h'.fin;rw[show C'.length-1=k by omega,<-b,n]at f;omega
 have k1:=key h h' h0;have k2:=key h' h h0.symm;have hl:C.length=C'.length:=by
  have a:=h.ne;have b:=h'.ne;have:=(k1 (C.length-1) (by omega)).1;have:=(k2 (C'.length-1) (by omega)).1;omega
 exact ZdE hl λi hi=>(k1 i hi).2
theorem IsCh.uniq{l:List Za}(hc:Ck l){d:Nat}(hd:d<4){C C':List Int}(h:IsCh l d C)(h':IsCh l d C'){v:Int}(hv:v∈C)(hv':v∈C'):C=C':=by
 obtain⟨i,hi,rfl⟩:=List.mem_iff_getElem.1 hv;obtain⟨j,hj,e⟩:=List.mem_iff_getElem.1 hv';exact h.uniq0 h' (h.at0 hc hd h' i j hi hj (by rw[zO hi,zO hj];exact e.symm)).2
theorem IsCh.len{l:List Za}(hc:Ck l){d:Nat}(hd:d<4){C:List Int}(h:IsCh l d C):C.length<=l.length:=by
 refine Zjj (λi=>(gi C i).toNat) (λi hi=>?_) (λi j hi hj e=>?_)
 .have:=h.lt i hi;show(gi C i).toNat<l.length;omega
 .have a:=h.lt i hi;have b:=h.lt j hj;have e:(gi C i).toNat=(gi C j).toNat:=e;exact(h.at0 hc hd h i j hi hj (by omega)).1
theorem Zne{P:Nat->Prop}:∀k,P k->∃k,P k/\∀i,i<k->¬P i:=by
 intro k
 induction k using Nat.strongRecOn with
 |_ k ih=>
  intro h;by_cases c:∃i,i<k/\P i
  .obtain⟨i,hi,hp⟩:=c;exact ih i hi hp
  .exact⟨k,h,λi hi hp=>c ⟨i,hi,hp⟩⟩
def fwd(l:List Za)(d r:Nat):Nat->Int
 |0=>r
 |n+1=>if 0<=fwd l d r n then nx l (fwd l d r n).toNat d else -1
theorem ZmH{l:List Za}(hc:Ck l){d r:Nat}(hd:d<4)(hr:r<l.length)(hb:nx l r ((d+2)%4)=-1):∃C,IsCh l d C/\gi C 0=r:=by
 have step:∀n,0<=fwd l d r n->fwd l d r (n+1)=nx l (fwd l d r n).toNat d:=λn h=>by rw[fwd,if_pos h]
 have pre:∀n,0<=fwd l d r (n+1)->0<=fwd l d r n:=by
  intro n h;by_cases c:0<=fwd l d r n
  .exact c
  .rw[fwd,if_neg c]at h;omega
 have lt:∀n,0<=fwd l d r n->fwd l d r n<l.length:=by
  intro n
  induction n with
  |zero=>intro _;show(r:Int)<l.length;omega
  |succ n ih=>
   intro h;have c:=pre n h;have:=ih c;rw[step n c];exact(hc.lt (by omega) hd).2
 have bkw:∀n,0<=fwd l d r (n+1)->nx l (fwd l d r (n+1)).toNat ((d+2)%4)=fwd l d r n:=by
  intro n h;have c:=pre n h;have a:=lt n c;have b:=lt (n+1) h;have:=(hc.back (v:=(fwd l d r n).toNat) (d:=d) (w:=(fwd l d r (n+1)).toNat) (by omega) hd (by rw[<-step n c];omega)).2;rw[this];omega
 have z:fwd l d r 0=r:=rfl;have inj:∀i j,0<=fwd l d r i->0<=fwd l d r j->fwd l d r i=fwd l d r j->i=j:=by
  intro i
  induction i with
  | zero=>
   intro j _ hj e
   cases j with
   |zero=>rfl
   |succ j=>
    have:=bkw j hj;rw[<-e,z,itn,hb]at this;have:=pre j hj;omega
  | succ i ih=>
   intro j hi hj e
   cases j with
   |zero=>
    have:=bkw i hi;rw[e,z,itn,hb]at this;have:=pre i hi;omega
   |succ j=>
    have a:=bkw i hi;have b:=bkw j hj;rw[e,b]at a;have:=ih j (pre i hi) (pre j hj) a.symm;omega
 have ex:∃k,fwd l d r k<0:=by
  refine Classical.byContradiction λhn=>?_;have all:∀k,0<=fwd l d r k:=λk=>by
   by_cases c:0<=fwd l d r k
   .exact c
   .exact absurd ⟨k,by omega⟩ hn
  have:=Zjj (n:=l.length+1) (m:=l.length) (λi=>(fwd l d r i).toNat) (λi _=>by
   have:=lt i (all i);have:=all i;show(fwd l d r i).toNat<l.length;omega) (λi j _ _ e=>inj i j (all i) (all j) (by
   have e:(fwd l d r i).toNat=(fwd l d r j).toNat:=e;have:=all i;have:=all j;omega))
  omega
 obtain⟨k0,hk0⟩:=ex;obtain⟨k,hk,hm⟩:=Zne (P:=λk=>fwd l d r k<0) k0 hk0;have hpos:0<k:=by
  cases k with
  |zero=>rw[z]at hk;omega
  |succ k=>omega
 have g:∀i,i<k->gi ((List.range k).map (fwd l d r)) i=fwd l d r i:=λi hi=>Zbf hi;have hlen:((List.range k).map (fwd l d r)).length=k:=by simp
 have ge:∀i,i<k->0<=fwd l d r i:=λi hi=>by have:=hm i hi;omega
 refine⟨(List.range k).map (fwd l d r),⟨by omega,λi hi=>?_,λi hi=>?_,?_,?_⟩,?_⟩
 .rw[hlen]at hi;rw[g i hi];exact⟨ge i hi,lt i (ge i hi)⟩
 .rw[hlen]at hi;rw[g i (by omega),g (i+1) hi,step i (ge i (by omega))]
 .rw[hlen,g _ (by omega),<-step _ (ge _ (by omega)),show k-1+1=k by omega];have:=ge (k-1) (by omega);have a:=step (k-1) this;rw[show k-1+1=k by omega]at a;have:=lt (k-1) this;have:=hc.lt (l:=l) (v:=(fwd l d r (k-1)).toNat) (d:=d) (by omega) hd;omega
 .rw[g 0 hpos,z,itn];exact hb
 .rw[g 0 hpos,z]
def ZcF(l:List Za)(b:Nat):Nat->Nat->Option Nat
 |0,_=>none
 |n+1,v=>if nx l v b<0 then some v else ZcF l b n (nx l v b).toNat
theorem ZfE{l:List Za}(hc:Ck l){d:Nat}(hd:d<4){C:List Int}(h:IsCh l d C):∀i m,i<C.length->i<m->ZcF l ((d+2)%4) m (gi C i).toNat=some (gi C 0).toNat
 |0,m+1,_,_=>by rw[ZcF,h.beg,if_pos (by omega)]
 |i+1,m+1,hi,hm=>by
  have:=h.lt i (by omega);rw[ZcF,h.bk hc hd hi,if_neg (by omega)];exact ZfE hc hd h i m (by omega) (by omega)
theorem ZeI{l:List Za}(hc:Ck l){d:Nat}(hd:d<4):∀m v r,v<l.length->ZcF l ((d+2)%4) m v=some r->∃C,IsCh l d C/\gi C 0=r/\∃i,i<C.length/\gi C i=v
 |0,v,r,_,h=>by cases h
 | m+1,v,r,hv,h=>by
  have hb:=hc.lt hv (d:=(d+2)%4) (by omega);rw[ZcF]at h;by_cases c:nx l v ((d+2)%4)<0
  .rw[if_pos c]at h;cases h;obtain⟨C,hC,h0⟩:=ZmH hc hd hv (by omega);exact⟨C,hC,h0,0,hC.ne,h0⟩
  .rw[if_neg c]at h;have bk:=hc.back (v:=v) (d:=(d+2)%4) (w:=(nx l v ((d+2)%4)).toNat) hv (by omega) (by omega);rw[show((d+2)%4+2)%4=d by omega]at bk;obtain⟨C,hC,h0,i,hi,e⟩:=ZeI hc hd m _ r (by omega) h;have n:nx l (gi C i).toNat d=v:=by rw[e,itn];exact bk.2
   by_cases q:i+1<C.length
   .exact⟨C,hC,h0,i+1,q,by rw[<-hC.nxt i q];exact n⟩
   .have f:=hC.fin;rw[show C.length-1=i by omega,n]at f;omega
def AllCh(l:List Za)(d:Nat):Prop:=∀v:Nat,v<l.length->∃C,IsCh l d C/\(v:Int)∈C
theorem AllCh.root{l:List Za}(hc:Ck l){d:Nat}(hd:d<4)(h:AllCh l d){v:Nat}(hv:v<l.length):∃r C,ZcF l ((d+2)%4) (l.length+1) v=some r/\IsCh l d C/\gi C 0=r/\(v:Int)∈C:=by
 obtain⟨C,hC,hm⟩:=h v hv;obtain⟨i,hi,e⟩:=List.mem_iff_getElem.1 hm;have:=hC.len hc hd;have r:=ZfE hc hd hC i (l.length+1) hi (by omega);rw[zO hi,e,itn]at r;have:=hC.lt 0 hC.ne;exact⟨_,C,r,hC,by omega,hm⟩
theorem Zgy{l:List Za}(hc:Ck l){d:Nat}(hd:d<4)(h:¬AllCh l d):∃v,v<l.length/\ZcF l ((d+2)%4) (l.length+1) v=none:=by
 refine Classical.byContradiction λhn=>h λv hv=>?_
 cases r:ZcF l ((d+2)%4) (l.length+1) v with
 |none=>exact absurd ⟨v,hv,r⟩ hn
 |some r'=>
  obtain⟨C,hC,h0,i,hi,e⟩:=ZeI hc hd _ v r' hv r;exact⟨C,hC,by rw[<-e];exact zh hi⟩
structure CH(l:List Za)(d:Nat)(a:List Int)(L:List (List Int)):Prop where
 alen:a.length=l.length
 ch:∀i,i<L.length->IsCh l d (gi L i)
 mem:∀u:Nat,u<l.length->∃i:Nat,i<L.length/\gi a u=i/\(u:Int)∈gi L i
 one:∀i u:Nat,i<L.length->u<l.length->(u:Int)∈gi L i->gi a u=i
 seen:∀i:Nat,i<L.length->∃u,u<l.length/\gi a u=i
 ord:∀u i:Nat,u<l.length->gi a u=i+1->∃u',u'<u/\gi a u'=i
 Ll:L.length<=l.length
theorem ZkI{n:Nat}{a:List Int}(ord:∀u i:Nat,u<n->gi a u=i+1->∃u',u'<u/\gi a u'=i):∀(k u i:Nat),u<n->gi a u=i+(k+1:Nat)->∃u',u'<u/\gi a u'=i
 |0,u,i,hu,e=>ord u i hu (by omega)
 |k+1,u,i,hu,e=>by
  obtain⟨u',h1,h2⟩:=ord u (i+(k+1)) hu (by omega);obtain⟨u'',h3,h4⟩:=ZkI ord k u' i (by omega) (by omega);exact⟨u'',by omega,h4⟩
theorem Zrg{n:Nat}{a a':List Int}(p:∀u:Nat,u<n->∃i:Nat,gi a u=i)(p':∀u:Nat,u<n->∃i:Nat,gi a' u=i)(o:∀u i:Nat,u<n->gi a u=i+1->∃u',u'<u/\gi a u'=i)(o':∀u i:Nat,u<n->gi a' u=i+1->∃u',u'<u/\gi a' u'=i)
  (h:∀u v:Nat,u<n->v<n->(gi a u=gi a v↔gi a' u=gi a' v)):∀v:Nat,v<n->gi a v=gi a' v:=by
 intro v
 induction v using Nat.strongRecOn with
 | _ v ih=>
  intro hv;obtain⟨i,hi⟩:=p v hv;obtain⟨j,hj⟩:=p' v hv;by_cases c:i=j
  .rw[hi,hj,c]
  .by_cases q:i<j
   .obtain⟨u,h1,h2⟩:=ZkI o' (j-i-1) v i hv (by omega);have:=ih u h1 (by omega);have:=(h u v (by omega) hv).1 (by omega);omega
   .obtain⟨u,h1,h2⟩:=ZkI o (i-j-1) v j hv (by omega);have:=ih u h1 (by omega);have:=(h u v (by omega) hv).2 (by omega);omega
theorem CH.eq{l m:List Za}{d e:Nat}{a a':List Int}{L L':List (List Int)}(h:CH l d a L)(h':CH m e a' L')(hn:l.length=m.length)(f:List Int->List Int)(hf:∀C C' v,IsCh l d C->IsCh m e C'->v∈C->v∈C'->C'=f C)(hm:∀C v,v∈f C↔v∈C):a=a'/\L'=L.map f:=by
 have key:∀u v:Nat,u<l.length->v<l.length->(gi a u=gi a v↔gi a' u=gi a' v):=by
  intro u v hu hv;obtain⟨i,i1,i2,i3⟩:=h.mem u hu;obtain⟨j,j1,j2,j3⟩:=h'.mem u (by omega);have e:=hf _ _ _ (h.ch i i1) (h'.ch j j1) i3 j3;constructor
  .intro q;obtain⟨k,k1,k2,k3⟩:=h.mem v hv;have:k=i:=by omega
   subst this;have:=h'.one j v j1 (by omega) (by rw[e];exact(hm _ _).2 k3);omega
  .intro q;obtain⟨k,k1,k2,k3⟩:=h'.mem v (by omega);have:k=j:=by omega
   subst this;rw[e]at k3;have:=h.one i v i1 hv ((hm _ _).1 k3);omega
 have ae:∀v:Nat,v<l.length->gi a v=gi a' v:=Zrg (n:=l.length) (λu hu=>by obtain⟨i,_,e,_⟩:=h.mem u hu;exact⟨i,e⟩) (λu hu=>by obtain⟨i,_,e,_⟩:=h'.mem u (by omega);exact⟨i,e⟩) h.ord (λu i hu=>h'.ord u i (by omega)) key;refine⟨ZdE (by rw[h.alen,h'.alen,hn]) λi hi=>ae i (by rw[h.alen]at hi;exact hi),?_⟩;have ll:L'.length=L.length:=by
  have A:∀i,i<L.length->i<L'.length:=by
   intro i hi;obtain⟨u,hu,e⟩:=h.seen i hi;obtain⟨j,j1,j2,_⟩:=h'.mem u (by omega);have:=ae u hu;omega
  have B:∀i,i<L'.length->i<L.length:=by
   intro i hi;obtain⟨u,hu,e⟩:=h'.seen i hi;obtain⟨j,j1,j2,_⟩:=h.mem u (by omega);have:=ae u (by omega);omega
  have a1:=A (L.length-1);have b1:=B (L'.length-1);omega
 apply ZdE (by rw[ll,List.length_map]);intro i hi;have hi':i<L.length:=by omega
 obtain⟨u,hu,e⟩:=h.seen i hi';obtain⟨k,k1,k2,k3⟩:=h.mem u hu;obtain⟨j,j1,j2,j3⟩:=h'.mem u (by omega);have:=ae u hu;have ek:k=i:=by omega
 have ej:j=i:=by omega
 subst ek;subst ej;rw[hf _ _ _ (h.ch _ hi') (h'.ch _ hi) k3 j3,zO (l:=L.map f) (by simpa using hi'),zO hi',List.getElem_map]
end Mu
/- Layer 16:what the chains' code works out. -/
namespace Mu
theorem Zt0{l:List Za}(hc:Ck l)(hl:l.length<=1000){b:Nat}(hb:b<4):∀(m u j:Nat),j+m=l.length->u<l.length->Zn (zp.s1 l b) (m+1) ((u:Int),(j:Int))=some (match ZcF l b (m+1) u with|some r=>.inl (r:Int)|none=>.inr ()):=by
 intro m
 induction m with
 |zero=>
  intro u j hj hu;have e:(gi l u).Next.get (b:Int)=nx l u b:=rfl;simp only[Zn,zp.s1,ZcF];rw[Zf (by omega),Zf (by omega),itn,e];by_cases c:nx l u b<0
  .rw[Zq (by omega),if_pos c]
  .rw[Zo (by omega),Zo (by omega),if_neg c]
 |succ m ih=>
  intro u j hj hu;have e:(gi l u).Next.get (b:Int)=nx l u b:=rfl;have hlt:=hc.lt hu hb;rw[Zn,ZcF];simp only[zp.s1];rw[Zf (by omega),Zf (by omega),itn,e];by_cases c:nx l u b<0
  .rw[Zq (by omega),if_pos c]
  .rw[Zo (by omega),Zq (by omega),Zw (by omega),if_neg c];have:=ih (nx l u b).toNat (j+1) (by omega) (by omega);rw[show((nx l u b).toNat:Int)=nx l u b by omega,show((j+1:Nat):Int)=(j:Int)+1 by omega]at this;exact this
theorem Zkh{l:List Za}(hc:Ck l)(hl:l.length<=1000){b v:Nat}(hb:b<4)(hv:v<l.length):Zn (zp.s1 l b) big ((v:Int),0)=some (match ZcF l b (l.length+1) v with|some r=>.inl (r:Int)|none=>.inr ()):=by
 have:=Zt0 hc hl hb l.length v 0 (by omega) hv;exact ZcT this (by unfold big;omega)
theorem Ztw{l:List Za}(hc:Ck l)(hl:l.length<=1000){d:Nat}(hd:d<4):∀(m u j:Nat),j+m=l.length+1->u<l.length->Zn (Zae.s0 l d) (m+1) ((u:Int),(j:Int))=some (match ZcF l ((d+2)%4) m u with|some r=>.inr (r:Int)|none=>.inl ()):=by
 have hbk:(((d:Int)+2).tmod 4)=(((d+2)%4:Nat):Int):=by
  match d,hd with
  |0,_|1,_|2,_|3,_=>rfl
 intro m
 induction m with
 |zero=>
  intro u j hj hu;simp only[Zn,Zae.s0,ZcF];rw[Zq (by omega)]
 |succ m ih=>
  intro u j hj hu;have e:(gi l u).Next.get (((d+2)%4:Nat):Int)=nx l u ((d+2)%4):=rfl;have hlt:=hc.lt (d:=(d+2)%4) hu (by omega);rw[Zn,ZcF];simp only[Zae.s0];rw[Zo (by omega),Zw (by omega),Zf (by omega),hbk,Zf (by omega),itn,e];by_cases c:nx l u ((d+2)%4)<0
  .rw[Zo c,if_pos c]
  .rw[Zq c,Zw (by omega),if_neg c];have:=ih (nx l u ((d+2)%4)).toNat (j+1) (by omega) (by omega);rw[show((nx l u ((d+2)%4)).toNat:Int)=nx l u ((d+2)%4) by omega,show((j+1:Nat):Int)=(j:Int)+1 by omega]at this;exact this
theorem Znh{l:List Za}(hc:Ck l)(hl:l.length<=1000){d v:Nat}(hd:d<4)(hv:v<l.length):Zae l v d=some (match ZcF l ((d+2)%4) (l.length+1) v with|some r=>(r:Int)|none=>-1):=by
 have:=ZcT (Ztw hc hl hd (l.length+1) v 0 (by omega) hv) (m:=big) (by unfold big;omega);unfold Zae;rw[show(0:Int)=((0:Nat):Int) from rfl,this,obs];cases ZcF l ((d+2)%4) (l.length+1) v<;>rfl
theorem Zgw{C:List Int}{i:Nat}(hi:i<C.length):gi (C++[-1]) i=gi C i:=ZbJ hi
theorem Zha{C:List Int}:gi (C++[-1]) C.length=-1:=by
 have:=Zbo (l:=C) (m:=[(-1:Int)]) (i:=0);rwa[Nat.add_zero]at this
theorem ZiH{l:List Za}{d:Nat}{C:List Int}(h:IsCh l d C){i:Nat}(hi:i<C.length):nx l (gi C i).toNat d=gi (C++[-1]) (i+1):=by
 by_cases c:i+1<C.length
 .rw[Zgw c];exact h.nxt i c
 .have e:i+1=C.length:=by omega
  rw[e,Zha];have:=h.fin;rwa[show C.length-1=i by omega]at this
theorem Zn9{l:List Za}(hl:l.length<=1000){d:Nat}(hd:d<4){C:List Int}(h:IsCh l d C)(hCl:C.length<=l.length){a:List Int}(ha:a.length=l.length){L:List (List Int)}:∃r,Zn (zp.s2 l d L) big (a,([]:List Int),gi C 0)=some r/\(r.2=C/\r.1.length=l.length/\∀u:Nat,u<l.length->gi r.1 u=if(u:Int)∈C then(L.length:Int)else gi a u):=by
 refine ZbA (λ(k:Nat)(s:List Int×List Int×Int)=>s.2.1=C.take k/\s.2.2=gi (C++[-1]) k/\s.1.length=l.length/\∀u:Nat,u<l.length->gi s.1 u=if(u:Int)∈C.take k then(L.length:Int)else gi a u) (n:=C.length) (zy (by omega)) ⟨by simp,(Zgw h.ne).symm,ha,λu hu=>by simp⟩ ?_ ?_
 .rintro k ⟨a',c,w⟩ hk ⟨h1,h2,h3,h4⟩;dsimp only at h1 h2 h3 h4⊢;subst h1;rw[Zgw hk]at h2;subst h2;have hlt:=h.lt k hk;have e:(gi l (gi C k).toNat).Next.get (d:Int)=nx l (gi C k).toNat d:=rfl;simp only[zp.s2];rw[Zo (by omega),Zf (by omega),Zf (by rw[List.length_take];simp;omega),Zf (by omega),Zf (by omega),e,ZiH h hk];refine⟨_,rfl,by dsimp only;rw[Zc9 hk],rfl,by rw[List.length_set];exact h3,λu hu=>?_⟩;dsimp only;have hmem:(u:Int)∈C.take k++[gi C k]↔((u:Int)∈C.take k\/(u:Int)=gi C k):=by rw[List.mem_append,List.mem_singleton]
  rw[Zb1 (by omega),h4 u hu,Zc9 hk];by_cases q:u=(gi C k).toNat
  .rw[if_pos q,if_pos (hmem.2 (.inr (by omega)))]
  .rw[if_neg q];by_cases q2:(u:Int)∈C.take k
   .rw[if_pos q2,if_pos (hmem.2 (.inl q2))]
   .rw[if_neg q2,if_neg (λh=>by rcases hmem.1 h with q3|q3;exact q2 q3;omega)]
 .rintro⟨a',c,w⟩ ⟨h1,h2,h3,h4⟩;dsimp only at h1 h2 h3 h4⊢;subst h1;rw[Zha]at h2;subst h2;simp only[zp.s2];rw[Zq (by omega)];rw[List.take_length]at h4⊢;exact⟨_,rfl,rfl,h3,h4⟩
theorem Zro{l:List Za}(hl:l.length<=1000){d:Nat}(hd:d<4){C:List Int}(h:IsCh l d C)(hCl:C.length<=l.length):Zn (Z2.s2 l d) big (([]:List Int),gi C 0)=some C:=by
 refine Zaj (λk:Nat=>(C.take k,gi (C++[-1]) k)) (n:=C.length) (zy (by omega)) (by rw[Zgw h.ne];rfl) (λk hk=>?_) ?_
 .have hlt:=h.lt k hk;have e:(gi l (gi C k).toNat).Next.get (d:Int)=nx l (gi C k).toNat d:=rfl;simp only[Z2.s2];rw[Zgw hk,Zo (by omega),Zf (by rw[List.length_take];simp;omega),Zf (by omega),Zf (by omega),e,ZiH h hk,Zc9 hk]
 .simp only[Z2.s2];rw[Zha,Zq (by omega),List.take_length]
structure SI(l:List Za)(d:Nat)(a:List Int)(L:List (List Int))(v:Nat):Prop where
 alen:a.length=l.length
 ch:∀i,i<L.length->IsCh l d (gi L i)
 mem:∀u:Nat,u<l.length->(gi a u=-1/\∀i,i<L.length->(u:Int)∉gi L i)\/∃i:Nat,i<L.length/\gi a u=i/\(u:Int)∈gi L i
 one:∀i u:Nat,i<L.length->u<l.length->(u:Int)∈gi L i->gi a u=i
 done:∀u,u<v->0<=gi a u
 seen:∀i:Nat,i<L.length->∃u,u<v/\gi a u=i
 ord:∀u i:Nat,u<l.length->gi a u=i+1->∃u',u'<u/\gi a u'=i
 Ll:L.length<=v
theorem ZdS{α:Type}[Inhabited α]{L:List α}{C:α}{i:Nat}(hi:i<L.length+1):gi (L++[C]) i=if i<L.length then gi L i else C:=by
 by_cases c:i<L.length
 .rw[if_pos c,ZbJ c]
 .rw[if_neg c,show i=L.length+0 by omega,Zbo];rfl
theorem SI.skip{l:List Za}{d v:Nat}{a:List Int}{L:List (List Int)}(h:SI l d a L v)(hv:0<=gi a v):SI l d a L (v+1) :=
 ⟨h.alen,h.ch,h.mem,h.one,λu hu=>by
  by_cases c:u=v
  .subst c;exact hv
  .exact h.done u (by omega),λi hi=>by obtain⟨u,a,b⟩:=h.seen i hi;exact⟨u,by omega,b⟩,h.ord,by have:=h.Ll;omega⟩
theorem SI.add{l:List Za}(hc:Ck l){d v:Nat}(hd:d<4){a a':List Int}{L:List (List Int)}(h:SI l d a L v)(hv:v<l.length)(hneg:gi a v<0){C:List Int}(hC:IsCh l d C)(hm:(v:Int)∈C)(al:a'.length=l.length)(ha:∀u:Nat,u<l.length->gi a' u=if(u:Int)∈C then(L.length:Int)else gi a u):SI l d a' (L++[C]) (v+1):=by
 have hL:(L++[C]).length=L.length+1:=by simp
 have off:∀i,i<L.length->∀u:Nat,u<l.length->(u:Int)∈gi L i->(u:Int)∉C:=by
  intro i hi u hu h1 h2;have e:=(h.ch i hi).uniq hc hd hC h1 h2;have:=h.one i v hi hv (by rw[e];exact hm);omega
 have late:∀u:Nat,u<l.length->(u:Int)∈C->v<=u/\gi a u=-1:=by
  intro u hu h2;have hneg1:gi a u=-1:=by
   rcases h.mem u hu with⟨q,_⟩|⟨i,i1,_,i3⟩
   .exact q
   .exact absurd h2 (off i i1 u hu i3)
  refine⟨?_,hneg1⟩;by_cases c:u<v
  .have:=h.done u c;omega
  .omega
 have av:gi a' v=L.length:=by rw[ha v hv,if_pos hm]
 have old:∀u:Nat,u<l.length->(u:Int)∉C->gi a' u=gi a u:=λu hu q=>by rw[ha u hu,if_neg q]
 refine⟨al,λi hi=>?_,λu hu=>?_,λi u hi hu hmem=>?_,λu hu=>?_,λi hi=>?_,λu i hu e=>?_,by rw[hL];have:=h.Ll;omega⟩
 .rw[ZdS (by omega)];split
  .exact h.ch i (by assumption)
  .exact hC
 .by_cases q:(u:Int)∈C
  .exact .inr ⟨L.length,by omega,by rw[ha u hu,if_pos q],by rw[ZdS (by omega),if_neg (by omega)];exact q⟩
  .rw[old u hu q];rcases h.mem u hu with⟨p,r⟩|⟨i,i1,i2,i3⟩
   .refine .inl ⟨p,λi hi=>?_⟩;rw[ZdS (by omega)];split
    .exact r i (by assumption)
    .exact q
   .exact .inr ⟨i,by omega,i2,by rw[ZdS (by omega),if_pos i1];exact i3⟩
 .rw[ZdS (by omega)]at hmem;by_cases c:i<L.length
  .rw[if_pos c]at hmem;rw[old u hu (off i c u hu hmem)];exact h.one i u c hu hmem
  .rw[if_neg c]at hmem;rw[ha u hu,if_pos hmem];omega
 .by_cases c:u=v
  .subst c;rw[av];omega
  .have hul:u<l.length:=by omega
   by_cases q:(u:Int)∈C
   .rw[ha u hul,if_pos q];omega
   .rw[old u hul q];exact h.done u (by omega)
 .by_cases c:i<L.length
  .obtain⟨u,u1,u2⟩:=h.seen i c;refine⟨u,by omega,?_⟩;have hul:u<l.length:=by omega
   rw[old u hul (λq=>by have:=late u hul q;omega)];exact u2
  .exact⟨v,by omega,by rw[av];omega⟩
 .have push:∀u',u'<v->gi a u'=i->∃u',u'<v/\gi a' u'=i:=λu' h1 h2=>⟨u',h1,by rw[old u' (by omega) (λq=>by have:=late u' (by omega) q;omega)];exact h2⟩;by_cases q:(u:Int)∈C
  .rw[ha u hu,if_pos q]at e;obtain⟨u',u1,u2⟩:=h.seen i (by omega);obtain⟨u'',w1,w2⟩:=push u' u1 u2;exact⟨u'',by have:=late u hu q;omega,w2⟩
  .rw[old u hu q]at e;obtain⟨u',u1,u2⟩:=h.ord u i hu e;refine⟨u',u1,?_⟩;rw[old u' (by omega) (λq=>by have:=late u' (by omega) q;omega)];exact u2
theorem Zl6{l:List Za}(hc:Ck l)(hl:l.length<=1000){d:Nat}(hd:d<4):(AllCh l d->∃a L,zp l d=some (a,L,true)/\CH l d a L)/\(¬AllCh l d->zp l d=some ([],[],false)):=by
 have rep:=Zlo (n:=l.length) (by omega);have bk:=ZpC hd;have z:∀u:Nat,u<l.length->gi (List.replicate l.length (-1:Int)) u=-1:=λu hu=>by rw[zO (by simpa using hu),List.getElem_replicate]
 have st:SI l d (List.replicate l.length (-1:Int)) [] 0:=⟨by simp,λi hi=>by simp at hi,λu hu=>.inl ⟨z u hu,λi hi=>by simp at hi⟩,λi u hi=>by simp at hi,λu hu=>by omega,λi hi=>by simp at hi,λu i hu e=>by rw[z u hu]at e;omega,by simp⟩;constructor
 .intro hA;have:∃r:(List Int×List (List Int))⊕Unit,Zn (zp.s0 l d (((d+2)%4:Nat):Int)) big (List.replicate l.length (-1:Int),([]:List (List Int)),0)=some r/\∃a L,r=.inl (a,L)/\SI l d a L l.length:=by
   refine ZbA (λ(k:Nat)(s:List Int×List (List Int)×Int)=>SI l d s.1 s.2.1 k/\s.2.2=k) (n:=l.length) (zy (by omega)) ⟨st,rfl⟩ ?_ ?_
   .rintro k ⟨a,L,x⟩ hk ⟨h1,h2⟩;dsimp only at h1 h2⊢;subst h2;have hal:=h1.alen;have hLl:=h1.Ll;simp only[zp.s0];rw[Zo (by omega),Zf (by omega),itn];by_cases c:0<=gi a k
    .rw[Zo c,Zw (by omega)];exact⟨_,rfl,h1.skip c,by dsimp only;omega⟩
    .obtain⟨r,C,hr,hC,h0,hm⟩:=hA.root hc hd hk;rw[Zq c,Zkh hc (by omega) (by omega) hk,hr,obs];dsimp only;obtain⟨⟨a',C'⟩,e,e1,e2,e3⟩:=Zn9 (by omega) hd hC (hC.len hc hd) hal (L:=L);dsimp only at e1 e2 e3;subst e1;rw[<-h0,e,obs];dsimp only;rw[Zf (by omega),Zw (by omega)];exact⟨_,rfl,h1.add hc hd hk (by omega) hC hm e2 e3,by dsimp only;omega⟩
   .rintro⟨a,L,x⟩ ⟨h1,h2⟩;dsimp only at h1 h2⊢;subst h2;simp only[zp.s0];rw[Zq (by omega)];exact⟨_,rfl,a,L,rfl,h1⟩
  obtain⟨r,e,a,L,rfl,h⟩:=this;refine⟨a,L,?_,h.alen,h.ch,λu hu=>?_,h.one,h.seen,h.ord,h.Ll⟩
  .unfold zp;rw[rep,obs,bk,obs,e,obs]
  .rcases h.mem u hu with⟨q,_⟩|q
   .have:=h.done u hu;omega
   .exact q
 .intro hA;obtain⟨v0,hv0,hr0⟩:=Zgy hc hd hA;have:∃r:(List Int×List (List Int))⊕Unit,Zn (zp.s0 l d (((d+2)%4:Nat):Int)) big (List.replicate l.length (-1:Int),([]:List (List Int)),0)=some r/\r=.inr ():=by
   refine Za1 (λs:List Int×List (List Int)×Int=>l.length-s.2.2.toNat) (λs=>∃k:Nat,s.2.2=k/\k<=v0/\SI l d s.1 s.2.1 k) (zy (by dsimp only;omega)) ⟨0,rfl,by omega,st⟩ ?_;rintro⟨a,L,x⟩ ⟨k,h2,hk0,h1⟩;dsimp only at h1 h2⊢;subst h2;have hal:=h1.alen;have hLl:=h1.Ll;have hk:k<l.length:=by omega
   simp only[zp.s0];rw[Zo (by omega),Zf (by omega),itn];by_cases c:0<=gi a k
   .left;have hne:k≠v0:=by
     rintro rfl;rcases h1.mem k hk with⟨q,_⟩|⟨i,i1,i2,i3⟩
     .omega
     .obtain⟨j,hj,e⟩:=List.mem_iff_getElem.1 i3;have:=(h1.ch i i1).len hc hd;have r:=ZfE hc hd (h1.ch i i1) j (l.length+1) hj (by omega);rw[zO hj,e,itn,hr0]at r;cases r
    rw[Zo c,Zw (by omega)];exact⟨_,rfl,⟨k+1,by dsimp only;omega,by omega,h1.skip c⟩,by dsimp only;omega⟩
   .rw[Zq c,Zkh hc (by omega) (by omega) hk]
    cases hr:ZcF l ((d+2)%4) (l.length+1) k with
    |none=>
     right;exact⟨_,rfl,rfl⟩
    |some r=>
     left;have hne:k≠v0:=by rintro rfl;rw[hr]at hr0;cases hr0
     obtain⟨C,hC,h0,i,hi,ei⟩:=ZeI hc hd _ k r hk hr;have hm:(k:Int)∈C:=by rw[<-ei];exact zh hi
     rw[obs];dsimp only;obtain⟨⟨a',C'⟩,e,e1,e2,e3⟩:=Zn9 (by omega) hd hC (hC.len hc hd) hal (L:=L);dsimp only at e1 e2 e3;subst e1;rw[<-h0,e,obs];dsimp only;rw[Zf (by omega),Zw (by omega)];exact⟨_,rfl,⟨k+1,by dsimp only;omega,by omega,h1.add hc hd hk (by omega) hC hm e2 e3⟩,by dsimp only;omega⟩
  obtain⟨r,e,rfl⟩:=this;unfold zp;rw[rep,obs,bk,obs,e,obs]
end Mu
