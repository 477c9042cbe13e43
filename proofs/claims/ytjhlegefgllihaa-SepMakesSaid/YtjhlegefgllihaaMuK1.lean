/- The law, plainly: what is worked out. -/
import Derived.Test.YtjhlegefgllihaaMuV
import Derived.Test.YtjhlegefgllihaaMuDf
import Derived.Test.YtjhlegefgllihaaMuK0
/- Layer 16: straight chains of cells. -/
set_option linter.unusedVariables false
set_option linter.unusedSimpArgs false
set_option maxRecDepth 10000
namespace Mu
theorem Ck.back {l:List Za}(h:Ck l) {v d w:Nat}(hv:v<l.length) (hd:d<4) (hw:nx l v d=w):w<l.length∧nx l w ((d+2)%4)=v:=by
 rcases h.s v d hv hd with ⟨a,_⟩|⟨u,a,b,_,c,_⟩
 ·omega
 ·have:w=u:=by omega
  subst this;exact ⟨b,c⟩
structure IsCh (l:List Za) (d:Nat) (C:List Int):Prop where
 ne:0<C.length
 lt:∀ i,i<C.length→0≤gi C i∧gi C i<l.length
 nxt:∀ i,i+1<C.length→nx l (gi C i).toNat d=gi C (i+1)
 fin:nx l (gi C (C.length-1)).toNat d=-1
 beg:nx l (gi C 0).toNat ((d+2)%4)=-1
theorem IsCh.bk {l:List Za}(hc:Ck l) {d:Nat}(hd:d<4) {C:List Int}(h:IsCh l d C) {i:Nat}(hi:i+1<C.length):nx l (gi C (i+1)).toNat ((d+2)%4)=gi C i:=by
 have a:=h.lt i (by omega);have b:=h.lt (i+1) hi;have:=(hc.back (v:=(gi C i).toNat) (d:=d) (w:=(gi C (i+1)).toNat) (by omega) hd (by rw [h.nxt i hi];omega)).2;rw [this];omega
theorem IsCh.at0 {l:List Za}(hc:Ck l) {d:Nat}(hd:d<4) {C C':List Int}(h:IsCh l d C) (h':IsCh l d C'):∀ i j,i<C.length→j<C'.length→gi C i=gi C' j→i=j∧gi C 0=gi C' 0
 | 0,0,_,_,e=>⟨rfl,e⟩
 | 0,j+1,_,hj,e=>by
  have a:=h'.bk hc hd hj;have b:=h.beg;rw [e,a] at b;have:=h'.lt j (by omega);omega
 | i+1,0,hi,_,e=>by
  have a:=h.bk hc hd hi;have b:=h'.beg;rw [← e,a] at b;have:=h.lt i (by omega);omega
 | i+1,j+1,hi,hj,e=>by
  have a:=h.bk hc hd hi;have b:=h'.bk hc hd hj;rw [e,b] at a;obtain ⟨q,r⟩:=IsCh.at0 hc hd h h' i j (by omega) (by omega) a.symm;exact ⟨by omega,r⟩
theorem IsCh.uniq0 {l:List Za}{d:Nat}{C C':List Int}(h:IsCh l d C) (h':IsCh l d C') (h0:gi C 0=gi C' 0):C=C':=by
 have key:∀ {C C':List Int},IsCh l d C→IsCh l d C'→gi C 0=gi C' 0→∀ k,k<C.length→k<C'.length∧gi C k=gi C' k:=by
  intro C C' h h' h0 k
  induction k with
  | zero=>intro _;exact ⟨h'.ne,h0⟩
  | succ k ih =>
   intro hk;obtain ⟨a,b⟩:=ih (by omega);have n:=h.nxt k hk;have q:=h.lt (k+1) hk;by_cases c:k+1<C'.length
   ·refine ⟨c,?_⟩;rw [← n,← h'.nxt k c,b]
   ·have f:=h'.fin;rw [show C'.length-1=k by omega,← b,n] at f;omega
 have k1:=key h h' h0;have k2:=key h' h h0.symm;have hl:C.length=C'.length:=by
  have a:=h.ne;have b:=h'.ne;have:=(k1 (C.length-1) (by omega)).1;have:=(k2 (C'.length-1) (by omega)).1;omega
 exact ZdR hl fun i hi=>(k1 i hi).2
theorem IsCh.uniq {l:List Za}(hc:Ck l) {d:Nat}(hd:d<4) {C C':List Int}(h:IsCh l d C) (h':IsCh l d C') {v:Int}(hv:v∈C) (hv':v∈C'):C=C':=by
 obtain ⟨i,hi,rfl⟩:=List.mem_iff_getElem.1 hv;obtain ⟨j,hj,e⟩:=List.mem_iff_getElem.1 hv';exact h.uniq0 h' (h.at0 hc hd h' i j hi hj (by rw [ZaH hi,ZaH hj];exact e.symm)).2
theorem IsCh.len {l:List Za}(hc:Ck l) {d:Nat}(hd:d<4) {C:List Int}(h:IsCh l d C):C.length≤l.length:=by
 refine Zkz (fun i=>(gi C i).toNat) (fun i hi=>?_) (fun i j hi hj e=>?_)
 ·have:=h.lt i hi;show (gi C i).toNat<l.length;omega
 ·have a:=h.lt i hi;have b:=h.lt j hj;have e:(gi C i).toNat=(gi C j).toNat:=e;exact (h.at0 hc hd h i j hi hj (by omega)).1
theorem ZjF {P:Nat→Prop}:∀ k,P k→∃ k,P k∧∀ i,i<k→¬ P i:=by
 intro k
 induction k using Nat.strongRecOn with
 | _ k ih =>
  intro h;by_cases c:∃ i,i<k∧P i
  ·obtain ⟨i,hi,hp⟩:=c;exact ih i hi hp
  ·exact ⟨k,h,fun i hi hp=>c ⟨i,hi,hp⟩⟩
def fwd (l:List Za) (d r:Nat):Nat→Int
 | 0=>r
 | n+1=>if 0≤fwd l d r n then nx l (fwd l d r n).toNat d else -1
theorem Zme {l:List Za}(hc:Ck l) {d r:Nat}(hd:d<4) (hr:r<l.length) (hb:nx l r ((d+2)%4)=-1):∃ C,IsCh l d C∧gi C 0=r:=by
 have step:∀ n,0≤fwd l d r n→fwd l d r (n+1)=nx l (fwd l d r n).toNat d:=fun n h=>by rw [fwd,if_pos h]
 have pre:∀ n,0≤fwd l d r (n+1)→0≤fwd l d r n:=by
  intro n h;by_cases c:0≤fwd l d r n
  ·exact c
  ·rw [fwd,if_neg c] at h;omega
 have lt:∀ n,0≤fwd l d r n→fwd l d r n<l.length:=by
  intro n
  induction n with
  | zero=>intro _;show (r:Int)<l.length;omega
  | succ n ih =>
   intro h;have c:=pre n h;have:=ih c;rw [step n c];exact (hc.lt (by omega) hd).2
 have bkw:∀ n,0≤fwd l d r (n+1)→nx l (fwd l d r (n+1)).toNat ((d+2)%4)=fwd l d r n:=by
  intro n h;have c:=pre n h;have a:=lt n c;have b:=lt (n+1) h;have:=(hc.back (v:=(fwd l d r n).toNat) (d:=d) (w:=(fwd l d r (n+1)).toNat) (by omega) hd (by rw [← step n c];omega)).2;rw [this];omega
 have z:fwd l d r 0=r:=rfl;have inj:∀ i j,0≤fwd l d r i→0≤fwd l d r j→fwd l d r i=fwd l d r j→i=j:=by
  intro i
  induction i with
  | zero =>
   intro j _ hj e
   cases j with
   | zero=>rfl
   | succ j =>
    have:=bkw j hj;rw [← e,z,itn,hb] at this;have:=pre j hj;omega
  | succ i ih =>
   intro j hi hj e
   cases j with
   | zero =>
    have:=bkw i hi;rw [e,z,itn,hb] at this;have:=pre i hi;omega
   | succ j =>
    have a:=bkw i hi;have b:=bkw j hj;rw [e,b] at a;have:=ih j (pre i hi) (pre j hj) a.symm;omega
 have ex:∃ k,fwd l d r k<0:=by
  refine Classical.byContradiction fun hn=>?_;have all:∀ k,0≤fwd l d r k:=fun k=>by
   by_cases c:0≤fwd l d r k
   ·exact c
   ·exact absurd ⟨k,by omega⟩ hn
  have:=Zkz (n:=l.length+1) (m:=l.length) (fun i=>(fwd l d r i).toNat) (fun i _=>by
   have:=lt i (all i);have:=all i;show (fwd l d r i).toNat<l.length;omega) (fun i j _ _ e=>inj i j (all i) (all j) (by
   have e:(fwd l d r i).toNat=(fwd l d r j).toNat:=e;have:=all i;have:=all j;omega))
  omega
 obtain ⟨k0,hk0⟩:=ex;obtain ⟨k,hk,hm⟩:=ZjF (P:=fun k=>fwd l d r k<0) k0 hk0;have hpos:0<k:=by
  cases k with
  | zero=>rw [z] at hk;omega
  | succ k=>omega
 have g:∀ i,i<k→gi ((List.range k).map (fwd l d r)) i=fwd l d r i:=fun i hi=>Zcq hi;have hlen:((List.range k).map (fwd l d r)).length=k:=by simp
 have ge:∀ i,i<k→0≤fwd l d r i:=fun i hi=>by have:=hm i hi;omega
 refine ⟨(List.range k).map (fwd l d r),⟨by omega,fun i hi=>?_,fun i hi=>?_,?_,?_⟩,?_⟩
 ·rw [hlen] at hi;rw [g i hi];exact ⟨ge i hi,lt i (ge i hi)⟩
 ·rw [hlen] at hi;rw [g i (by omega),g (i+1) hi,step i (ge i (by omega))]
 ·rw [hlen,g _ (by omega),← step _ (ge _ (by omega)),show k-1+1=k by omega];have:=ge (k-1) (by omega);have a:=step (k-1) this;rw [show k-1+1=k by omega] at a;have:=lt (k-1) this;have:=hc.lt (l:=l) (v:=(fwd l d r (k-1)).toNat) (d:=d) (by omega) hd;omega
 ·rw [g 0 hpos,z,itn];exact hb
 ·rw [g 0 hpos,z]
def Zdg (l:List Za) (b:Nat):Nat→Nat→Option Nat
 | 0,_=>none
 | n+1,v=>if nx l v b<0 then some v else Zdg l b n (nx l v b).toNat
theorem Zg4 {l:List Za}(hc:Ck l) {d:Nat}(hd:d<4) {C:List Int}(h:IsCh l d C):∀ i m,i<C.length→i<m→Zdg l ((d+2)%4) m (gi C i).toNat=some (gi C 0).toNat
 | 0,m+1,_,_=>by rw [Zdg,h.beg,if_pos (by omega)]
 | i+1,m+1,hi,hm=>by
  have:=h.lt i (by omega);rw [Zdg,h.bk hc hd hi,if_neg (by omega)];exact Zg4 hc hd h i m (by omega) (by omega)
theorem Zf3 {l:List Za}(hc:Ck l) {d:Nat}(hd:d<4):∀ m v r,v<l.length→Zdg l ((d+2)%4) m v=some r→∃ C,IsCh l d C∧gi C 0=r∧∃ i,i<C.length∧gi C i=v
 | 0,v,r,_,h=>by cases h
 | m+1,v,r,hv,h=>by
  have hb:=hc.lt hv (d:=(d+2)%4) (by omega);rw [Zdg] at h;by_cases c:nx l v ((d+2)%4)<0
  ·rw [if_pos c] at h;cases h;obtain ⟨C,hC,h0⟩:=Zme hc hd hv (by omega);exact ⟨C,hC,h0,0,hC.ne,h0⟩
  ·rw [if_neg c] at h;have bk:=hc.back (v:=v) (d:=(d+2)%4) (w:=(nx l v ((d+2)%4)).toNat) hv (by omega) (by omega);rw [show ((d+2)%4+2)%4=d by omega] at bk;obtain ⟨C,hC,h0,i,hi,e⟩:=Zf3 hc hd m _ r (by omega) h;have n:nx l (gi C i).toNat d=v:=by rw [e,itn];exact bk.2
   by_cases q:i+1<C.length
   ·exact ⟨C,hC,h0,i+1,q,by rw [← hC.nxt i q];exact n⟩
   ·have f:=hC.fin;rw [show C.length-1=i by omega,n] at f;omega
def AllCh (l:List Za) (d:Nat):Prop:=∀ v:Nat,v<l.length→∃ C,IsCh l d C∧(v:Int)∈C
theorem AllCh.root {l:List Za}(hc:Ck l) {d:Nat}(hd:d<4) (h:AllCh l d) {v:Nat}(hv:v<l.length):∃ r C,Zdg l ((d+2)%4) (l.length+1) v=some r∧IsCh l d C∧gi C 0=r∧(v:Int)∈C:=by
 obtain ⟨C,hC,hm⟩:=h v hv;obtain ⟨i,hi,e⟩:=List.mem_iff_getElem.1 hm;have:=hC.len hc hd;have r:=Zg4 hc hd hC i (l.length+1) hi (by omega);rw [ZaH hi,e,itn] at r;have:=hC.lt 0 hC.ne;exact ⟨_,C,r,hC,by omega,hm⟩
theorem ZgZ {l:List Za}(hc:Ck l) {d:Nat}(hd:d<4) (h:¬ AllCh l d):∃ v,v<l.length∧Zdg l ((d+2)%4) (l.length+1) v=none:=by
 refine Classical.byContradiction fun hn=>h fun v hv=>?_
 cases r:Zdg l ((d+2)%4) (l.length+1) v with
 | none=>exact absurd ⟨v,hv,r⟩ hn
 | some r' =>
  obtain ⟨C,hC,h0,i,hi,e⟩:=Zf3 hc hd _ v r' hv r;exact ⟨C,hC,by rw [← e];exact ZaG hi⟩
structure CH (l:List Za) (d:Nat) (a:List Int) (L:List (List Int)):Prop where
 alen:a.length=l.length
 ch:∀ i,i<L.length→IsCh l d (gi L i)
 mem:∀ u:Nat,u<l.length→∃ i:Nat,i<L.length∧gi a u=i∧(u:Int)∈gi L i
 one:∀ i u:Nat,i<L.length→u<l.length→(u:Int)∈gi L i→gi a u=i
 seen:∀ i:Nat,i<L.length→∃ u,u<l.length∧gi a u=i
 ord:∀ u i:Nat,u<l.length→gi a u=i+1→∃ u',u'<u∧gi a u'=i
 Ll:L.length≤l.length
theorem Zkw {n:Nat}{a:List Int}(ord:∀ u i:Nat,u<n→gi a u=i+1→∃ u',u'<u∧gi a u'=i):∀ (k u i:Nat),u<n→gi a u=i+(k+1:Nat)→∃ u',u'<u∧gi a u'=i
 | 0,u,i,hu,e=>ord u i hu (by omega)
 | k+1,u,i,hu,e=>by
  obtain ⟨u',h1,h2⟩:=ord u (i+(k+1)) hu (by omega);obtain ⟨u'',h3,h4⟩:=Zkw ord k u' i (by omega) (by omega);exact ⟨u'',by omega,h4⟩
theorem Zpi {n:Nat}{a a':List Int}(p:∀ u:Nat,u<n→∃ i:Nat,gi a u=i) (p':∀ u:Nat,u<n→∃ i:Nat,gi a' u=i) (o:∀ u i:Nat,u<n→gi a u=i+1→∃ u',u'<u∧gi a u'=i) (o':∀ u i:Nat,u<n→gi a' u=i+1→∃ u',u'<u∧gi a' u'=i)
  (h:∀ u v:Nat,u<n→v<n→(gi a u=gi a v↔gi a' u=gi a' v)):∀ v:Nat,v<n→gi a v=gi a' v:=by
 intro v
 induction v using Nat.strongRecOn with
 | _ v ih =>
  intro hv;obtain ⟨i,hi⟩:=p v hv;obtain ⟨j,hj⟩:=p' v hv;by_cases c:i=j
  ·rw [hi,hj,c]
  ·by_cases q:i<j
   ·obtain ⟨u,h1,h2⟩:=Zkw o' (j-i-1) v i hv (by omega);have:=ih u h1 (by omega);have:=(h u v (by omega) hv).1 (by omega);omega
   ·obtain ⟨u,h1,h2⟩:=Zkw o (i-j-1) v j hv (by omega);have:=ih u h1 (by omega);have:=(h u v (by omega) hv).2 (by omega);omega
theorem CH.eq {l m:List Za}{d e:Nat}{a a':List Int}{L L':List (List Int)}(h:CH l d a L) (h':CH m e a' L') (hn:l.length=m.length) (f:List Int→List Int) (hf:∀ C C' v,IsCh l d C→IsCh m e C'→v∈C→v∈C'→C'=f C) (hm:∀ C v,v∈f C↔v∈C):a=a'∧L'=L.map f:=by
 have key:∀ u v:Nat,u<l.length→v<l.length→(gi a u=gi a v↔gi a' u=gi a' v):=by
  intro u v hu hv;obtain ⟨i,i1,i2,i3⟩:=h.mem u hu;obtain ⟨j,j1,j2,j3⟩:=h'.mem u (by omega);have e:=hf _ _ _ (h.ch i i1) (h'.ch j j1) i3 j3;constructor
  ·intro q;obtain ⟨k,k1,k2,k3⟩:=h.mem v hv;have:k=i:=by omega
   subst this;have:=h'.one j v j1 (by omega) (by rw [e];exact (hm _ _).2 k3);omega
  ·intro q;obtain ⟨k,k1,k2,k3⟩:=h'.mem v (by omega);have:k=j:=by omega
   subst this;rw [e] at k3;have:=h.one i v i1 hv ((hm _ _).1 k3);omega
 have ae:∀ v:Nat,v<l.length→gi a v=gi a' v:=Zpi (n:=l.length) (fun u hu=>by obtain ⟨i,_,e,_⟩:=h.mem u hu;exact ⟨i,e⟩) (fun u hu=>by obtain ⟨i,_,e,_⟩:=h'.mem u (by omega);exact ⟨i,e⟩) h.ord (fun u i hu=>h'.ord u i (by omega)) key;refine ⟨ZdR (by rw [h.alen,h'.alen,hn]) fun i hi=>ae i (by rw [h.alen] at hi;exact hi),?_⟩;have ll:L'.length=L.length:=by
  have A:∀ i,i<L.length→i<L'.length:=by
   intro i hi;obtain ⟨u,hu,e⟩:=h.seen i hi;obtain ⟨j,j1,j2,_⟩:=h'.mem u (by omega);have:=ae u hu;omega
  have B:∀ i,i<L'.length→i<L.length:=by
   intro i hi;obtain ⟨u,hu,e⟩:=h'.seen i hi;obtain ⟨j,j1,j2,_⟩:=h.mem u (by omega);have:=ae u (by omega);omega
  have a1:=A (L.length-1);have b1:=B (L'.length-1);omega
 apply ZdR (by rw [ll,List.length_map]);intro i hi;have hi':i<L.length:=by omega
 obtain ⟨u,hu,e⟩:=h.seen i hi';obtain ⟨k,k1,k2,k3⟩:=h.mem u hu;obtain ⟨j,j1,j2,j3⟩:=h'.mem u (by omega);have:=ae u hu;have ek:k=i:=by omega
 have ej:j=i:=by omega
 subst ek;subst ej;rw [hf _ _ _ (h.ch _ hi') (h'.ch _ hi) k3 j3,ZaH (l:=L.map f) (by simpa using hi'),ZaH hi',List.getElem_map]
end Mu
/- Layer 16: what the chains' code works out. -/
namespace Mu
theorem Zqu {l:List Za}(hc:Ck l) (hl:l.length≤1000) {b:Nat}(hb:b<4):∀ (m u j:Nat),j+m=l.length→u<l.length→ZZ (zK.s1 l b) (m+1) ((u:Int),(j:Int))=some (match Zdg l b (m+1) u with|some r=>.inl (r:Int)|none=>.inr ()):=by
 intro m
 induction m with
 | zero =>
  intro u j hj hu;have e:(gi l u).Next.get (b:Int)=nx l u b:=rfl;simp only [ZZ,zK.s1,Zdg];rw [Zx (by omega),Zx (by omega),itn,e];by_cases c:nx l u b<0
  ·rw [ZT (by omega),if_pos c]
  ·rw [ZU (by omega),ZU (by omega),if_neg c]
 | succ m ih =>
  intro u j hj hu;have e:(gi l u).Next.get (b:Int)=nx l u b:=rfl;have hlt:=hc.lt hu hb;rw [ZZ,Zdg];simp only [zK.s1];rw [Zx (by omega),Zx (by omega),itn,e];by_cases c:nx l u b<0
  ·rw [ZT (by omega),if_pos c]
  ·rw [ZU (by omega),ZT (by omega),zZ (by omega),if_neg c];have:=ih (nx l u b).toNat (j+1) (by omega) (by omega);rw [show ((nx l u b).toNat:Int)=nx l u b by omega,show ((j+1:Nat):Int)=(j:Int)+1 by omega] at this;exact this
theorem ZjS {l:List Za}(hc:Ck l) (hl:l.length≤1000) {b v:Nat}(hb:b<4) (hv:v<l.length):ZZ (zK.s1 l b) big ((v:Int),0)=some (match Zdg l b (l.length+1) v with|some r=>.inl (r:Int)|none=>.inr ()):=by
 have:=Zqu hc hl hb l.length v 0 (by omega) hv;exact Zdw this (by unfold big;omega)
theorem Zqs {l:List Za}(hc:Ck l) (hl:l.length≤1000) {d:Nat}(hd:d<4):∀ (m u j:Nat),j+m=l.length+1→u<l.length→ZZ (Za6.s0 l d) (m+1) ((u:Int),(j:Int))=some (match Zdg l ((d+2)%4) m u with|some r=>.inr (r:Int)|none=>.inl ()):=by
 have hbk:(((d:Int)+2).tmod 4)=(((d+2)%4:Nat):Int):=by
  match d,hd with
  | 0,_|1,_|2,_|3,_=>rfl
 intro m
 induction m with
 | zero =>
  intro u j hj hu;simp only [ZZ,Za6.s0,Zdg];rw [ZT (by omega)]
 | succ m ih =>
  intro u j hj hu;have e:(gi l u).Next.get (((d+2)%4:Nat):Int)=nx l u ((d+2)%4):=rfl;have hlt:=hc.lt (d:=(d+2)%4) hu (by omega);rw [ZZ,Zdg];simp only [Za6.s0];rw [ZU (by omega),zZ (by omega),Zx (by omega),hbk,Zx (by omega),itn,e];by_cases c:nx l u ((d+2)%4)<0
  ·rw [ZU c,if_pos c]
  ·rw [ZT c,zZ (by omega),if_neg c];have:=ih (nx l u ((d+2)%4)).toNat (j+1) (by omega) (by omega);rw [show ((nx l u ((d+2)%4)).toNat:Int)=nx l u ((d+2)%4) by omega,show ((j+1:Nat):Int)=(j:Int)+1 by omega] at this;exact this
theorem Zmz {l:List Za}(hc:Ck l) (hl:l.length≤1000) {d v:Nat}(hd:d<4) (hv:v<l.length):Za6 l v d=some (match Zdg l ((d+2)%4) (l.length+1) v with|some r=>(r:Int)|none=>-1):=by
 have:=Zdw (Zqs hc hl hd (l.length+1) v 0 (by omega) hv) (m:=big) (by unfold big;omega);unfold Za6;rw [show (0:Int)=((0:Nat):Int) from rfl,this,obs];cases Zdg l ((d+2)%4) (l.length+1) v<;>rfl
theorem ZgX {C:List Int}{i:Nat}(hi:i<C.length):gi (C++[-1]) i=gi C i:=Zdc hi
theorem Zh5 {C:List Int}:gi (C++[-1]) C.length=-1:=by
 have:=Zc9 (l:=C) (m:=[(-1:Int)]) (i:=0);rwa [Nat.add_zero] at this
theorem ZiQ {l:List Za}{d:Nat}{C:List Int}(h:IsCh l d C) {i:Nat}(hi:i<C.length):nx l (gi C i).toNat d=gi (C++[-1]) (i+1):=by
 by_cases c:i+1<C.length
 ·rw [ZgX c];exact h.nxt i c
 ·have e:i+1=C.length:=by omega
  rw [e,Zh5];have:=h.fin;rwa [show C.length-1=i by omega] at this
theorem ZmK {l:List Za}(hl:l.length≤1000) {d:Nat}(hd:d<4) {C:List Int}(h:IsCh l d C) (hCl:C.length≤l.length) {a:List Int}(ha:a.length=l.length) {L:List (List Int)}:∃ r,ZZ (zK.s2 l d L) big (a,([]:List Int),gi C 0)=some r∧(r.2=C∧r.1.length=l.length∧∀ u:Nat,u<l.length→gi r.1 u=if (u:Int)∈C then (L.length:Int) else gi a u):=by
 refine Zc1 (fun (k:Nat) (s:List Int×List Int×Int)=>s.2.1=C.take k∧s.2.2=gi (C++[-1]) k∧s.1.length=l.length∧∀ u:Nat,u<l.length→gi s.1 u=if (u:Int)∈C.take k then (L.length:Int) else gi a u) (n:=C.length) (ZaJ (by omega)) ⟨by simp,(ZgX h.ne).symm,ha,fun u hu=>by simp⟩ ?_ ?_
 ·rintro k ⟨a',c,w⟩ hk ⟨h1,h2,h3,h4⟩;dsimp only at h1 h2 h3 h4 ⊢;subst h1;rw [ZgX hk] at h2;subst h2;have hlt:=h.lt k hk;have e:(gi l (gi C k).toNat).Next.get (d:Int)=nx l (gi C k).toNat d:=rfl;simp only [zK.s2];rw [ZU (by omega),Zx (by omega),Zx (by rw [List.length_take];simp;omega),Zx (by omega),Zx (by omega),e,ZiQ h hk];refine ⟨_,rfl,by dsimp only;rw [ZeK hk],rfl,by rw [List.length_set];exact h3,fun u hu=>?_⟩;dsimp only;have hmem:(u:Int)∈C.take k++[gi C k]↔((u:Int)∈C.take k∨(u:Int)=gi C k):=by rw [List.mem_append,List.mem_singleton]
  rw [Zck (by omega),h4 u hu,ZeK hk];by_cases q:u=(gi C k).toNat
  ·rw [if_pos q,if_pos (hmem.2 (.inr (by omega)))]
  ·rw [if_neg q];by_cases q2:(u:Int)∈C.take k
   ·rw [if_pos q2,if_pos (hmem.2 (.inl q2))]
   ·rw [if_neg q2,if_neg (fun h=>by rcases hmem.1 h with q3|q3;exact q2 q3;omega)]
 ·rintro ⟨a',c,w⟩ ⟨h1,h2,h3,h4⟩;dsimp only at h1 h2 h3 h4 ⊢;subst h1;rw [Zh5] at h2;subst h2;simp only [zK.s2];rw [ZT (by omega)];rw [List.take_length] at h4 ⊢;exact ⟨_,rfl,rfl,h3,h4⟩
theorem Zpk {l:List Za}(hl:l.length≤1000) {d:Nat}(hd:d<4) {C:List Int}(h:IsCh l d C) (hCl:C.length≤l.length):ZZ (ZD.s2 l d) big (([]:List Int),gi C 0)=some C:=by
 refine ZbK (fun k:Nat=>(C.take k,gi (C++[-1]) k)) (n:=C.length) (ZaJ (by omega)) (by rw [ZgX h.ne];rfl) (fun k hk=>?_) ?_
 ·have hlt:=h.lt k hk;have e:(gi l (gi C k).toNat).Next.get (d:Int)=nx l (gi C k).toNat d:=rfl;simp only [ZD.s2];rw [ZgX hk,ZU (by omega),Zx (by rw [List.length_take];simp;omega),Zx (by omega),Zx (by omega),e,ZiQ h hk,ZeK hk]
 ·simp only [ZD.s2];rw [Zh5,ZT (by omega),List.take_length]
structure SI (l:List Za) (d:Nat) (a:List Int) (L:List (List Int)) (v:Nat):Prop where
 alen:a.length=l.length
 ch:∀ i,i<L.length→IsCh l d (gi L i)
 mem:∀ u:Nat,u<l.length→(gi a u=-1∧∀ i,i<L.length→(u:Int) ∉ gi L i)∨∃ i:Nat,i<L.length∧gi a u=i∧(u:Int)∈gi L i
 one:∀ i u:Nat,i<L.length→u<l.length→(u:Int)∈gi L i→gi a u=i
 done:∀ u,u<v→0≤gi a u
 seen:∀ i:Nat,i<L.length→∃ u,u<v∧gi a u=i
 ord:∀ u i:Nat,u<l.length→gi a u=i+1→∃ u',u'<u∧gi a u'=i
 Ll:L.length≤v
theorem ZeJ {α:Type} [Inhabited α] {L:List α}{C:α}{i:Nat}(hi:i<L.length+1):gi (L++[C]) i=if i<L.length then gi L i else C:=by
 by_cases c:i<L.length
 ·rw [if_pos c,Zdc c]
 ·rw [if_neg c,show i=L.length+0 by omega,Zc9];rfl
theorem SI.skip {l:List Za}{d v:Nat}{a:List Int}{L:List (List Int)}(h:SI l d a L v) (hv:0≤gi a v):SI l d a L (v+1) :=
 ⟨h.alen,h.ch,h.mem,h.one,fun u hu=>by
  by_cases c:u=v
  ·subst c;exact hv
  ·exact h.done u (by omega),fun i hi=>by obtain ⟨u,a,b⟩:=h.seen i hi;exact ⟨u,by omega,b⟩,h.ord,by have:=h.Ll;omega⟩
theorem SI.add {l:List Za}(hc:Ck l) {d v:Nat}(hd:d<4) {a a':List Int}{L:List (List Int)}(h:SI l d a L v) (hv:v<l.length) (hneg:gi a v<0) {C:List Int}(hC:IsCh l d C) (hm:(v:Int)∈C) (al:a'.length=l.length) (ha:∀ u:Nat,u<l.length→gi a' u=if (u:Int)∈C then (L.length:Int) else gi a u):SI l d a' (L++[C]) (v+1):=by
 have hL:(L++[C]).length=L.length+1:=by simp
 have off:∀ i,i<L.length→∀ u:Nat,u<l.length→(u:Int)∈gi L i→(u:Int) ∉ C:=by
  intro i hi u hu h1 h2;have e:=(h.ch i hi).uniq hc hd hC h1 h2;have:=h.one i v hi hv (by rw [e];exact hm);omega
 have late:∀ u:Nat,u<l.length→(u:Int)∈C→v≤u∧gi a u=-1:=by
  intro u hu h2;have hneg1:gi a u=-1:=by
   rcases h.mem u hu with ⟨q,_⟩|⟨i,i1,_,i3⟩
   ·exact q
   ·exact absurd h2 (off i i1 u hu i3)
  refine ⟨?_,hneg1⟩;by_cases c:u<v
  ·have:=h.done u c;omega
  ·omega
 have av:gi a' v=L.length:=by rw [ha v hv,if_pos hm]
 have old:∀ u:Nat,u<l.length→(u:Int) ∉ C→gi a' u=gi a u:=fun u hu q=>by rw [ha u hu,if_neg q]
 refine ⟨al,fun i hi=>?_,fun u hu=>?_,fun i u hi hu hmem=>?_,fun u hu=>?_,fun i hi=>?_,fun u i hu e=>?_,by rw [hL];have:=h.Ll;omega⟩
 ·rw [ZeJ (by omega)];split
  ·exact h.ch i (by assumption)
  ·exact hC
 ·by_cases q:(u:Int)∈C
  ·exact .inr ⟨L.length,by omega,by rw [ha u hu,if_pos q],by rw [ZeJ (by omega),if_neg (by omega)];exact q⟩
  ·rw [old u hu q];rcases h.mem u hu with ⟨p,r⟩|⟨i,i1,i2,i3⟩
   ·refine .inl ⟨p,fun i hi=>?_⟩;rw [ZeJ (by omega)];split
    ·exact r i (by assumption)
    ·exact q
   ·exact .inr ⟨i,by omega,i2,by rw [ZeJ (by omega),if_pos i1];exact i3⟩
 ·rw [ZeJ (by omega)] at hmem;by_cases c:i<L.length
  ·rw [if_pos c] at hmem;rw [old u hu (off i c u hu hmem)];exact h.one i u c hu hmem
  ·rw [if_neg c] at hmem;rw [ha u hu,if_pos hmem];omega
 ·by_cases c:u=v
  ·subst c;rw [av];omega
  ·have hul:u<l.length:=by omega
   by_cases q:(u:Int)∈C
   ·rw [ha u hul,if_pos q];omega
   ·rw [old u hul q];exact h.done u (by omega)
 ·by_cases c:i<L.length
  ·obtain ⟨u,u1,u2⟩:=h.seen i c;refine ⟨u,by omega,?_⟩;have hul:u<l.length:=by omega
   rw [old u hul (fun q=>by have:=late u hul q;omega)];exact u2
  ·exact ⟨v,by omega,by rw [av];omega⟩
 ·have push:∀ u',u'<v→gi a u'=i→∃ u',u'<v∧gi a' u'=i:=fun u' h1 h2=>⟨u',h1,by rw [old u' (by omega) (fun q=>by have:=late u' (by omega) q;omega)];exact h2⟩;by_cases q:(u:Int)∈C
  ·rw [ha u hu,if_pos q] at e;obtain ⟨u',u1,u2⟩:=h.seen i (by omega);obtain ⟨u'',w1,w2⟩:=push u' u1 u2;exact ⟨u'',by have:=late u hu q;omega,w2⟩
  ·rw [old u hu q] at e;obtain ⟨u',u1,u2⟩:=h.ord u i hu e;refine ⟨u',u1,?_⟩;rw [old u' (by omega) (fun q=>by have:=late u' (by omega) q;omega)];exact u2
theorem Zlb {l:List Za}(hc:Ck l) (hl:l.length≤64) {d:Nat}(hd:d<4):(AllCh l d→∃ a L,zK l d=some (a,L,true)∧CH l d a L)∧(¬ AllCh l d→zK l d=some ([],[],false)):=by
 have rep:=ZkP (n:=l.length) (by omega);have bk:=Zod hd;have z:∀ u:Nat,u<l.length→gi (List.replicate l.length (-1:Int)) u=-1:=fun u hu=>by rw [ZaH (by simpa using hu),List.getElem_replicate]
 have st:SI l d (List.replicate l.length (-1:Int)) [] 0:=⟨by simp,fun i hi=>by simp at hi,fun u hu=>.inl ⟨z u hu,fun i hi=>by simp at hi⟩,fun i u hi=>by simp at hi,fun u hu=>by omega,fun i hi=>by simp at hi,fun u i hu e=>by rw [z u hu] at e;omega,by simp⟩;constructor
 ·intro hA;have:∃ r:(List Int×List (List Int))⊕Unit,ZZ (zK.s0 l d (((d+2)%4:Nat):Int)) big (List.replicate l.length (-1:Int),([]:List (List Int)),0)=some r∧∃ a L,r=.inl (a,L)∧SI l d a L l.length:=by
   refine Zc1 (fun (k:Nat) (s:List Int×List (List Int)×Int)=>SI l d s.1 s.2.1 k∧s.2.2=k) (n:=l.length) (ZaJ (by omega)) ⟨st,rfl⟩ ?_ ?_
   ·rintro k ⟨a,L,x⟩ hk ⟨h1,h2⟩;dsimp only at h1 h2 ⊢;subst h2;have hal:=h1.alen;have hLl:=h1.Ll;simp only [zK.s0];rw [ZU (by omega),Zx (by omega),itn];by_cases c:0≤gi a k
    ·rw [ZU c,zZ (by omega)];exact ⟨_,rfl,h1.skip c,by dsimp only;omega⟩
    ·obtain ⟨r,C,hr,hC,h0,hm⟩:=hA.root hc hd hk;rw [ZT c,ZjS hc (by omega) (by omega) hk,hr,obs];dsimp only;obtain ⟨⟨a',C'⟩,e,e1,e2,e3⟩:=ZmK (by omega) hd hC (hC.len hc hd) hal (L:=L);dsimp only at e1 e2 e3;subst e1;rw [← h0,e,obs];dsimp only;rw [Zx (by omega),zZ (by omega)];exact ⟨_,rfl,h1.add hc hd hk (by omega) hC hm e2 e3,by dsimp only;omega⟩
   ·rintro ⟨a,L,x⟩ ⟨h1,h2⟩;dsimp only at h1 h2 ⊢;subst h2;simp only [zK.s0];rw [ZT (by omega)];exact ⟨_,rfl,a,L,rfl,h1⟩
  obtain ⟨r,e,a,L,rfl,h⟩:=this;refine ⟨a,L,?_,h.alen,h.ch,fun u hu=>?_,h.one,h.seen,h.ord,h.Ll⟩
  ·unfold zK;rw [rep,obs,bk,obs,e,obs]
  ·rcases h.mem u hu with ⟨q,_⟩|q
   ·have:=h.done u hu;omega
   ·exact q
 ·intro hA;obtain ⟨v0,hv0,hr0⟩:=ZgZ hc hd hA;have:∃ r:(List Int×List (List Int))⊕Unit,ZZ (zK.s0 l d (((d+2)%4:Nat):Int)) big (List.replicate l.length (-1:Int),([]:List (List Int)),0)=some r∧r=.inr ():=by
   refine Zeh (fun s:List Int×List (List Int)×Int=>l.length-s.2.2.toNat) (fun s=>∃ k:Nat,s.2.2=k∧k≤v0∧SI l d s.1 s.2.1 k) (ZaJ (by dsimp only;omega)) ⟨0,rfl,by omega,st⟩ ?_;rintro ⟨a,L,x⟩ ⟨k,h2,hk0,h1⟩;dsimp only at h1 h2 ⊢;subst h2;have hal:=h1.alen;have hLl:=h1.Ll;have hk:k<l.length:=by omega
   simp only [zK.s0];rw [ZU (by omega),Zx (by omega),itn];by_cases c:0≤gi a k
   ·left;have hne:k≠v0:=by
     rintro rfl;rcases h1.mem k hk with ⟨q,_⟩|⟨i,i1,i2,i3⟩
     ·omega
     ·obtain ⟨j,hj,e⟩:=List.mem_iff_getElem.1 i3;have:=(h1.ch i i1).len hc hd;have r:=Zg4 hc hd (h1.ch i i1) j (l.length+1) hj (by omega);rw [ZaH hj,e,itn,hr0] at r;cases r
    rw [ZU c,zZ (by omega)];exact ⟨_,rfl,⟨k+1,by dsimp only;omega,by omega,h1.skip c⟩,by dsimp only;omega⟩
   ·rw [ZT c,ZjS hc (by omega) (by omega) hk]
    cases hr:Zdg l ((d+2)%4) (l.length+1) k with
    | none =>
     right;exact ⟨_,rfl,rfl⟩
    | some r =>
     left;have hne:k≠v0:=by rintro rfl;rw [hr] at hr0;cases hr0
     obtain ⟨C,hC,h0,i,hi,ei⟩:=Zf3 hc hd _ k r hk hr;have hm:(k:Int)∈C:=by rw [← ei];exact ZaG hi
     rw [obs];dsimp only;obtain ⟨⟨a',C'⟩,e,e1,e2,e3⟩:=ZmK (by omega) hd hC (hC.len hc hd) hal (L:=L);dsimp only at e1 e2 e3;subst e1;rw [← h0,e,obs];dsimp only;rw [Zx (by omega),zZ (by omega)];exact ⟨_,rfl,⟨k+1,by dsimp only;omega,by omega,h1.add hc hd hk (by omega) hC hm e2 e3⟩,by dsimp only;omega⟩
  obtain ⟨r,e,rfl⟩:=this;unfold zK;rw [rep,obs,bk,obs,e,obs]
end Mu
/- Layer 16: what the document's chains are. -/
namespace Mu
structure RI (l:List Za) (d:Nat) (a F:List Int) (L:List (List Int)) (v:Nat):Prop where
 alen:a.length=l.length
 flen:F.length=L.length
 ch:∀ i,i<L.length→IsCh l d (gi L i)∧gi (gi L i) 0=gi F i
 mem:∀ u:Nat,u<v→∃ i:Nat,i<L.length∧gi a u=i∧(u:Int)∈gi L i
 inj:∀ i j,i<L.length→j<L.length→gi F i=gi F j→i=j
 seen:∀ i:Nat,i<L.length→∃ u,u<v∧gi a u=i
 ord:∀ u i:Nat,u<v→gi a u=i+1→∃ u',u'<u∧gi a u'=i
 Ll:L.length≤v
theorem Zqo {F:List Int}{x:Int}(hF:F.length≤1000):∃ k:Nat,ZZ (ZD.s1 F x) big 0=some (k:Int)∧((k<F.length∧gi F k=x)∨(k=F.length∧∀ j,j<F.length→gi F j≠x)):=by
 have:∃ r:Int,ZZ (ZD.s1 F x) big 0=some r∧∃ k:Nat,r=k∧((k<F.length∧gi F k=x)∨(k=F.length∧∀ j,j<F.length→gi F j≠x)):=by
  refine Zeh (fun s:Int=>F.length-s.toNat) (fun s=>∃ k:Nat,s=k∧k≤F.length∧∀ j,j<k→gi F j≠x) (ZaJ (by omega)) ⟨0,rfl,by omega,fun j hj=>by omega⟩ ?_;rintro s ⟨k,rfl,hk,hn⟩;simp only [ZD.s1];by_cases c:k<F.length
  ·rw [ZU (by omega),Zx (by omega),itn,obs];by_cases q:gi F k=x
   ·right;rw [Zc6 q];exact ⟨_,rfl,k,rfl,.inl ⟨c,q⟩⟩
   ·left;rw [Zdi q,zZ (by omega)];refine ⟨_,rfl,⟨k+1,by omega,by omega,fun j hj=>?_⟩,by omega⟩;by_cases e:j=k
    ·subst e;exact q
    ·exact hn j (by omega)
  ·right;rw [ZT (by omega),obs,if_neg (by decide)];exact ⟨_,rfl,k,rfl,.inr ⟨by omega,fun j hj=>hn j (by omega)⟩⟩
 obtain ⟨r,e,k,rfl,h⟩:=this;exact ⟨k,e,h⟩
theorem RI.old {l:List Za}{d v k:Nat}{a F:List Int}{L:List (List Int)}(h:RI l d a F L v) (hv:v<l.length) (hk:k<L.length) (hm:(v:Int)∈gi L k):RI l d (a.set v k) F L (v+1):=by
 have hal:=h.alen;have g:∀ u,gi (a.set v (k:Int)) u=if u=v then (k:Int) else gi a u:=fun u=>Zck (by omega);refine ⟨by rw [List.length_set,hal],h.flen,h.ch,fun u hu=>?_,h.inj,fun i hi=>?_,fun u i hu e=>?_,by have:=h.Ll;omega⟩
 ·rw [g];by_cases c:u=v
  ·subst c;exact ⟨k,hk,by rw [if_pos rfl],hm⟩
  ·rw [if_neg c];exact h.mem u (by omega)
 ·obtain ⟨u,u1,u2⟩:=h.seen i hi;exact ⟨u,by omega,by rw [g,if_neg (by omega)];exact u2⟩
 ·rw [g] at e;by_cases c:u=v
  ·rw [if_pos c] at e;obtain ⟨u',u1,u2⟩:=h.seen i (by omega);exact ⟨u',by omega,by rw [g,if_neg (by omega)];exact u2⟩
  ·rw [if_neg c] at e;obtain ⟨u',u1,u2⟩:=h.ord u i (by omega) e;exact ⟨u',u1,by rw [g,if_neg (by omega)];exact u2⟩
theorem RI.new {l:List Za}{d v:Nat}{a F:List Int}{L:List (List Int)}(h:RI l d a F L v) (hv:v<l.length) {C:List Int}(hC:IsCh l d C) (hm:(v:Int)∈C) (hn:∀ j,j<F.length→gi F j≠gi C 0):RI l d (a.set v (L.length:Nat)) (F++[gi C 0]) (L++[C]) (v+1):=by
 have hal:=h.alen;have hfl:=h.flen;have hL:(L++[C]).length=L.length+1:=by simp
 have g:∀ u,gi (a.set v (L.length:Int)) u=if u=v then (L.length:Int) else gi a u:=fun u=>Zck (by omega);have gF:∀ i,i<L.length+1→gi (F++[gi C 0]) i=if i<L.length then gi F i else gi C 0:=fun i hi=>by rw [ZeJ (by omega),hfl]
 refine ⟨by rw [List.length_set,hal],by simp [hfl],fun i hi=>?_,fun u hu=>?_,fun i j hi hj e=>?_,fun i hi=>?_,fun u i hu e=>?_,by rw [hL];have:=h.Ll;omega⟩
 ·rw [ZeJ (by omega),gF i (by omega)];by_cases c:i<L.length
  ·rw [if_pos c,if_pos c];exact h.ch i c
  ·rw [if_neg c,if_neg c];exact ⟨hC,rfl⟩
 ·rw [g];by_cases c:u=v
  ·subst c;exact ⟨L.length,by omega,by rw [if_pos rfl],by rw [ZeJ (by omega),if_neg (by omega)];exact hm⟩
  ·rw [if_neg c];obtain ⟨i,i1,i2,i3⟩:=h.mem u (by omega);exact ⟨i,by omega,i2,by rw [ZeJ (by omega),if_pos i1];exact i3⟩
 ·rw [gF i (by omega),gF j (by omega)] at e;by_cases c:i<L.length
  ·rw [if_pos c] at e;by_cases c2:j<L.length
   ·rw [if_pos c2] at e;exact h.inj i j c c2 e
   ·rw [if_neg c2] at e;exact absurd e (hn i (by omega))
  ·rw [if_neg c] at e;by_cases c2:j<L.length
   ·rw [if_pos c2] at e;exact absurd e.symm (hn j (by omega))
   ·omega
 ·by_cases c:i<L.length
  ·obtain ⟨u,u1,u2⟩:=h.seen i c;exact ⟨u,by omega,by rw [g,if_neg (by omega)];exact u2⟩
  ·exact ⟨v,by omega,by rw [g,if_pos rfl];omega⟩
 ·rw [g] at e;by_cases c:u=v
  ·rw [if_pos c] at e;obtain ⟨u',u1,u2⟩:=h.seen i (by omega);exact ⟨u',by omega,by rw [g,if_neg (by omega)];exact u2⟩
  ·rw [if_neg c] at e;obtain ⟨u',u1,u2⟩:=h.ord u i (by omega) e;exact ⟨u',u1,by rw [g,if_neg (by omega)];exact u2⟩
theorem Zok {l:List Za}(hc:Ck l) (hl:l.length≤1000) {d v:Nat}(hd:d<4) {a F:List Int}{L:List (List Int)}(h:RI l d a F L v) (hv:v<l.length) {r:Nat}{C:List Int}(hr:Zdg l ((d+2)%4) (l.length+1) v=some r) (hC:IsCh l d C) (h0:gi C 0=r) (hm:(v:Int)∈C):∃ a' F' L',ZD.s0 l d (a,F,L,(v:Int))=some (.inl (a',F',L',(v:Int)+1))∧RI l d a' F' L' (v+1):=by
 have hal:=h.alen;have hfl:=h.flen;have hLl:=h.Ll;obtain ⟨k,e,hk⟩:=Zqo (F:=F) (x:=(r:Int)) (by omega);simp only [ZD.s0];rw [ZU (by omega),Zmz hc (by omega) hd hv,hr,obs];dsimp only;rw [ZT (by omega),e,obs,Zx (by omega),itn];rcases hk with ⟨k1,k2⟩|⟨rfl,k2⟩
 ·rw [ZT (by omega),zZ (by omega)];have hq:=h.ch k (by omega);have:C=gi L k:=hC.uniq0 hq.1 (by rw [h0,hq.2,k2]);exact ⟨_,_,_,rfl,h.old hv (by omega) (this ▸ hm)⟩
 ·rw [ZU (by omega),Zx (by simp;omega),← h0,Zpk (by omega) hd hC (hC.len hc hd),obs,Zx (by omega),zZ (by omega),hfl];exact ⟨_,_,_,rfl,h.new hv hC hm (fun j hj=>by rw [h0];exact k2 j hj)⟩
theorem RI.stop {l:List Za}(hc:Ck l) {d:Nat}(hd:d<4) {a F:List Int}{L:List (List Int)}(h:RI l d a F L l.length):CH l d a L :=
 ⟨h.alen,fun i hi=>(h.ch i hi).1,h.mem,fun i u hi hu hm=>by
  obtain ⟨j,j1,j2,j3⟩:=h.mem u hu;have e:=(h.ch i hi).1.uniq hc hd (h.ch j j1).1 hm j3;have:=h.inj i j hi j1 (by rw [← (h.ch i hi).2,← (h.ch j j1).2,e]);omega,h.seen,h.ord,h.Ll⟩
theorem ZkY {l:List Za}(hc:Ck l) (hl:l.length≤1000) {d:Nat}(hd:d<4):(AllCh l d→∃ a L,ZD l d=some (a,L,true)∧CH l d a L)∧(¬ AllCh l d→ZD l d=some ([],[],false)):=by
 have st:RI l d (List.replicate l.length (0:Int)) [] [] 0:=⟨by simp,rfl,fun i hi=>by simp at hi,fun u hu=>by omega,fun i j hi=>by simp at hi,fun i hi=>by simp at hi,fun u i hu=>by omega,by simp⟩;constructor
 ·intro hA;have:∃ r:(List Int×List (List Int))⊕Unit,ZZ (ZD.s0 l d) big (List.replicate l.length (0:Int),([]:List Int),([]:List (List Int)),0)=some r∧∃ a F L,r=.inl (a,L)∧RI l d a F L l.length:=by
   refine Zc1 (fun (k:Nat) (s:List Int×List Int×List (List Int)×Int)=>RI l d s.1 s.2.1 s.2.2.1 k∧s.2.2.2=k) (n:=l.length) (ZaJ (by omega)) ⟨st,rfl⟩ ?_ ?_
   ·rintro k ⟨a,F,L,x⟩ hk ⟨h1,h2⟩;dsimp only at h1 h2 ⊢;subst h2;obtain ⟨r,C,hr,hC,h0,hm⟩:=hA.root hc hd hk;obtain ⟨a',F',L',e,h'⟩:=Zok hc hl hd h1 hk hr hC h0 hm;exact ⟨_,e,h',by dsimp only;omega⟩
   ·rintro ⟨a,F,L,x⟩ ⟨h1,h2⟩;dsimp only at h1 h2 ⊢;subst h2;simp only [ZD.s0];rw [ZT (by omega)];exact ⟨_,rfl,a,F,L,rfl,h1⟩
  obtain ⟨r,e,a,F,L,rfl,h⟩:=this;refine ⟨a,L,?_,h.stop hc hd⟩;unfold ZD;rw [Zx (by omega),itn,e,obs]
 ·intro hA;obtain ⟨v0,hv0,hr0⟩:=ZgZ hc hd hA;have:∃ r:(List Int×List (List Int))⊕Unit,ZZ (ZD.s0 l d) big (List.replicate l.length (0:Int),([]:List Int),([]:List (List Int)),0)=some r∧r=.inr ():=by
   refine Zeh (fun s:List Int×List Int×List (List Int)×Int=>l.length-s.2.2.2.toNat) (fun s=>∃ k:Nat,s.2.2.2=k∧k≤v0∧RI l d s.1 s.2.1 s.2.2.1 k) (ZaJ (by dsimp only;omega)) ⟨0,rfl,by omega,st⟩ ?_;rintro ⟨a,F,L,x⟩ ⟨k,h2,hk0,h1⟩;dsimp only at h1 h2 ⊢;subst h2;have hk:k<l.length:=by omega
   cases hr:Zdg l ((d+2)%4) (l.length+1) k with
   | none =>
    right;simp only [ZD.s0];rw [ZU (by omega),Zmz hc (by omega) hd hk,hr,obs];dsimp only;rw [ZU (by omega)];exact ⟨_,rfl,rfl⟩
   | some r =>
    left;have hne:k≠v0:=by rintro rfl;rw [hr] at hr0;cases hr0
    obtain ⟨C,hC,h0,i,hi,ei⟩:=Zf3 hc hd _ k r hk hr;obtain ⟨a',F',L',e,h'⟩:=Zok hc hl hd h1 hk hr hC h0 (by rw [← ei];exact ZaG hi);exact ⟨_,e,⟨k+1,by dsimp only;omega,by omega,h'⟩,by dsimp only;omega⟩
  obtain ⟨r,e,rfl⟩:=this;unfold ZD;rw [Zx (by omega),itn,e,obs]
/-! both together -/
theorem Zm0 {l:List Za}(hl:l.length≤64) (h:Zgp l=0) (A:AllCh l 1∧AllCh l 0):∃ X Y V H,ZdT l=some (⟨X,Y,V,H⟩,0)∧CH l 1 X V∧CH l 0 Y H:=by
 have hc:=(ZfN.1 h).2;have s1:=Zlb hc hl (d:=1) (by omega);have s0:=Zlb hc hl (d:=0) (by omega);rw [show ((1:Nat):Int)=1 from rfl] at s1;rw [show ((0:Nat):Int)=0 from rfl] at s0;obtain ⟨X,V,e1,c1⟩:=s1.1 A.1;obtain ⟨Y,H,e2,c2⟩:=s0.1 A.2;refine ⟨X,Y,V,H,?_,c1,c2⟩;unfold ZdT;rw [ZhX (by omega),obs,Zc6 h,e1,obs];dsimp only;rw [e2,obs];rfl
end Mu
/- Layer 16: SegTells,SegMeets,SegTurns. -/
namespace Mu
theorem CH.small {l:List Za}(hc:Ck l) {d:Nat}(hd:d<4) {a:List Int}{L:List (List Int)}(h:CH l d a L) {i:Nat}(hi:i<L.length):(gi L i).length≤l.length:=(h.ch i hi).len hc hd
def cl (L:List (List Int)) (i:Int):List Int:=if i<0∨(L.length:Int)≤i then [] else gi L i.toNat
theorem Zkk {X Y:List Int}{V H:List (List Int)}{ver:Bool}{i:Int}:Zbb ⟨X,Y,V,H⟩ ver i=some (cl (if ver=true then V else H) i):=by
 unfold Zbb cl;have e:(if ver=true then some V else some H)=some (if ver=true then V else H):=by cases ver<;>rfl
 dsimp only;rw [e,obs];by_cases c:i<0∨((if ver=true then V else H).length:Int)≤i
 ·rw [if_pos c,if_pos (by simpa using c)]
 ·rw [if_neg c,if_neg (by simpa using c),Zx (by omega)]
theorem Zjg {l:List Za}{d:Nat}{a:List Int}{L:List (List Int)}(h:CH l d a L) {v i:Int}:v∈cl L i↔0≤v∧v<l.length∧gi a v.toNat=i:=by
 unfold cl;constructor
 ·intro hm;by_cases c:i<0∨(L.length:Int)≤i
  ·rw [if_pos c] at hm;simp at hm
  ·rw [if_neg c] at hm;obtain ⟨j,hj,e⟩:=List.mem_iff_getElem.1 hm;have lt:=(h.ch i.toNat (by omega)).lt j hj;rw [ZaH hj,e] at lt;have:=h.one i.toNat v.toNat (by omega) (by omega) (by rw [Int.toNat_of_nonneg lt.1];exact hm);exact ⟨lt.1,lt.2,by omega⟩
 ·rintro ⟨h0,h1,h2⟩;obtain ⟨j,j1,j2,j3⟩:=h.mem v.toNat (by omega);rw [if_neg (by omega),show i.toNat=j by omega];rwa [Int.toNat_of_nonneg h0] at j3
theorem ZiU {l:List Za}(hc:Ck l) {d:Nat}(hd:d<4) {a:List Int}{L:List (List Int)}(h:CH l d a L) {i:Int}:(cl L i).length≤l.length:=by
 unfold cl;split
 ·simp
 ·exact h.small hc hd (by omega)
theorem ZoO {s:List Int}{f:Int→Option Bool}{g:Int→Bool}(hn:s.length≤1000000) (h:∀ a∈s,f a=some (g a)):Zbf s f=some (s.any g):=by
 have h1:ZZ (Zar.s0 s f) big 0=some (match (List.range s.length).find? (fun i=>g (gi s i)) with|some i=>.inr (i:Int)|none=>.inl ()):=by
  refine ZdD (n:=s.length) (P:=fun i=>g (gi s i)) (f:=fun i=>(i:Int)) (ZaJ (by omega)) (fun i hi=>?_) ?_
  ·simp only [Zar.s0];rw [ZU (by omega),Zx (by omega),itn,h _ (ZaG hi),obs,zZ (by omega)];cases g (gi s i)<;>rfl
  ·simp only [Zar.s0];rw [ZT (by omega)]
 unfold Zbf Zar;rw [h1,obs]
 cases hf:(List.range s.length).find? (fun i=>g (gi s i)) with
 | none =>
  rw [List.find?_range_eq_none] at hf;have:s.any g=false:=by
   rw [List.any_eq_false];intro a ha;obtain ⟨i,hi,rfl⟩:=List.mem_iff_getElem.1 ha;have:=hf i hi;rw [ZaH hi] at this;simpa using this
  rw [this];rfl
 | some i =>
  rw [List.find?_range_eq_some] at hf;obtain ⟨h1,h2,_⟩:=hf;have hi:i<s.length:=by simpa using h2
  have:s.any g=true:=by
   rw [List.any_eq_true];exact ⟨gi s i,ZaG hi,h1⟩
  rw [this];dsimp only;rw [obs,ZcK (by omega)]
theorem ZjE {α:Type}{c:Bool}{a b:α}:(if c=true then some a else some b)=some (if c=true then a else b):=by cases c<;>rfl
end Mu
/- Old cells' lines,laid over rectangles: those that have no cell in common are apart. -/
namespace Mu
inductive TH (m:List Za) (n0:Nat) (hm:Nat→Option Da) (v d:Nat):Nat→Nat→Prop
 | one {a b:Nat}:a<m.length→nx m a d=b→TH m n0 hm v d a b
 | step {a c b:Nat}:a<m.length→nx m a d=c→n0≤c→hm c=some (v,d)→TH m n0 hm v d c b→TH m n0 hm v d a b
def KH (l m:List Za):Prop:=l.length≤m.length∧∃ hm:Nat→Option Da,∀ v d w:Nat,v<l.length→d<2→nx l v d=w→TH m l.length hm v d v w
theorem KH.refl (l:List Za):KH l l:=⟨Nat.le_refl _,fun _=>none,fun v d w hv hd h=>.one hv h⟩
variable {l m:List Za}{X Y:Nat→Int}
theorem TH.end' (hS:Str m X Y) (hc:Ck m) {n0 d v:Nat}{hm:Nat→Option Da}(hd:d<4) {a b:Nat}(t:TH m n0 hm v d a b):b<m.length∧al X Y d a<al X Y d b∧ac X Y d a=ac X Y d b:=by
 induction t with
 | @one a b h1 h2 =>
  have lb:=(hc.back' h1 hd h2).1;have:=hS (a,d) ⟨h1,hd,by rw [h2];omega⟩;have e:tg m (a,d)=b:=by unfold tg;rw [h2];omega
  rw [e] at this;exact ⟨lb,this⟩
 | @step a c b h1 h2 h3 h4 h5 ih =>
  have:=hS (a,d) ⟨h1,hd,by rw [h2];omega⟩;have e:tg m (a,d)=c:=by unfold tg;rw [h2];omega
  rw [e] at this;dsimp only at this;exact ⟨ih.1,by omega,by omega⟩
theorem TH.cov (hS:Str m X Y) (hc:Ck m) {n0 d v:Nat}{hm:Nat→Option Da}(hd:d<4) {a b:Nat}(th:TH m n0 hm v d a b) {t:Int}(h1:al X Y d a≤t) (h2:t≤al X Y d b) (inv:a=v∨(n0≤a∧hm a=some (v,d))) :
  (∃ z,z<m.length∧(z=b∨z=v∨(n0≤z∧hm z=some (v,d)))∧al X Y d z=t∧ac X Y d z=ac X Y d a) ∨
  ∃ z,isD m (z,d)∧(z=v∨(n0≤z∧hm z=some (v,d)))∧al X Y d z<t∧t<al X Y d (tg m (z,d))∧ac X Y d z=ac X Y d a:=by
 induction th with
 | @one a b g1 g2 =>
  have lb:=(hc.back' g1 hd g2).1;have dd:isD m (a,d):=⟨g1,hd,by rw [g2];omega⟩;have:=hS (a,d) dd;have e:tg m (a,d)=b:=by unfold tg;rw [g2];omega
  rw [e] at this;dsimp only at this;by_cases c1:t=al X Y d a
  ·exact .inl ⟨a,g1,.inr inv,c1.symm,rfl⟩
  ·by_cases c2:t=al X Y d b
   ·exact .inl ⟨b,lb,.inl rfl,c2.symm,by omega⟩
   ·exact .inr ⟨a,dd,inv,by omega,by rw [e];omega,rfl⟩
 | @step a c b g1 g2 g3 g4 g5 ih =>
  have dd:isD m (a,d):=⟨g1,hd,by rw [g2];omega⟩;have:=hS (a,d) dd;have e:tg m (a,d)=c:=by unfold tg;rw [g2];omega
  rw [e] at this;dsimp only at this;by_cases c2:al X Y d c≤t
  ·rcases ih c2 h2 (.inr ⟨g3,g4⟩) with ⟨z,z1,z2,z3,z4⟩|⟨z,z1,z2,z3,z4,z5⟩
   ·exact .inl ⟨z,z1,z2,z3,by omega⟩
   ·exact .inr ⟨z,z1,z2,z3,z4,by omega⟩
  ·by_cases c1:t=al X Y d a
   ·exact .inl ⟨a,g1,.inr inv,c1.symm,rfl⟩
   ·exact .inr ⟨a,dd,inv,by omega,by rw [e];omega,rfl⟩
def OnL (l:List Za) (hm:Nat→Option Da) (d:Nat) (C:List Int) (z:Nat):Prop:=(z:Int)∈C∧z<l.length∨(l.length≤z∧∃ v,hm z=some (v,d)∧(v:Int)∈C)
theorem ZiP (hS:Str m X Y) (hc:Ck m) {hm:Nat→Option Da}(kl:l.length≤m.length) (kt:∀ v d w:Nat,v<l.length→d<2→nx l v d=w→TH m l.length hm v d v w) {d:Nat}(hd:d<2) {C:List Int}(h:IsCh l d C):∀ (k:Nat),k<C.length →
  al X Y d (gi C 0).toNat≤al X Y d (gi C k).toNat∧ac X Y d (gi C k).toNat=ac X Y d (gi C 0).toNat∧∀ t,al X Y d (gi C 0).toNat≤t→t≤al X Y d (gi C k).toNat →
  (∃ z,z<m.length∧OnL l hm d C z∧al X Y d z=t∧ac X Y d z=ac X Y d (gi C 0).toNat)∨∃ z,isD m (z,d)∧OnL l hm d C z∧al X Y d z<t∧t<al X Y d (tg m (z,d))∧ac X Y d z=ac X Y d (gi C 0).toNat:=by
 have old:∀ k,k<C.length→OnL l hm d C (gi C k).toNat∧(gi C k).toNat<l.length:=fun k hk=>by
  have:=h.lt k hk;refine ⟨.inl ⟨?_,by omega⟩,by omega⟩;rw [show (((gi C k).toNat:Nat):Int)=gi C k by omega];exact ZaG hk
 intro k
 induction k with
 | zero=>exact fun h0=>⟨Int.le_refl _,rfl,fun t h1 h2=>.inl ⟨_,by have:=(old 0 h0).2;omega,(old 0 h0).1,by omega,rfl⟩⟩
 | succ k ih =>
  intro hk;obtain ⟨i1,i2,i3⟩:=ih (by omega);have lk:=h.lt k (by omega);have lk1:=h.lt (k+1) hk;have th:=kt (gi C k).toNat d (gi C (k+1)).toNat (by omega) hd (by rw [h.nxt k hk];omega);have e:=th.end' hS hc (by omega);refine ⟨by omega,by omega,fun t h1 h2=>?_⟩;by_cases c:t≤al X Y d (gi C k).toNat
  ·exact i3 t h1 c
  ·have to:∀ z,z=(gi C k).toNat∨(l.length≤z∧hm z=some ((gi C k).toNat,d))→OnL l hm d C z:=by
    rintro z (z2|⟨z2,z3⟩)
    ·rw [z2];exact (old k (by omega)).1
    ·refine .inr ⟨z2,_,z3,?_⟩;rw [show (((gi C k).toNat:Nat):Int)=gi C k by omega];exact ZaG (by omega)
   rcases th.cov hS hc (by omega) (t:=t) (by omega) h2 (.inl rfl) with ⟨z,z1,z2,z3,z4⟩|⟨z,z1,z2,z3,z4,z5⟩
   ·refine .inl ⟨z,z1,?_,z3,by omega⟩;rcases z2 with z2|z2
    ·rw [z2];exact (old _ hk).1
    ·exact to z z2
   ·exact .inr ⟨z,z1,to z z2,z3,z4,by omega⟩
structure Pln (m:List Za) (X Y:Nat→Int):Prop where
 ck:Ck m
 str:Str m X Y
 V:∀ z w,z<m.length→w<m.length→X z=X w→Y z=Y w→z=w
 E:∀ z d,isD m (z,d)→∀ w,w<m.length→ac X Y d w=ac X Y d z→al X Y d z<al X Y d w→al X Y d w<al X Y d (tg m (z,d))→False
 Xs:∀ p q:Da,isD m p→isD m q→p.2=0→q.2=1→X p.1<X q.1→X q.1<X (tg m p)→Y q.1<Y p.1→Y p.1<Y (tg m q)→False
theorem Zkj (R:Pln m X Y) {hm:Nat→Option Da}(kl:l.length≤m.length) (kt:∀ v d w:Nat,v<l.length→d<2→nx l v d=w→TH m l.length hm v d v w) {d d':Nat}(hd:d<2) (hd':d'<2) {C C':List Int}(h:IsCh l d C) (h':IsCh l d' C') {x y:Int}
  (p1:al X Y d (gi C 0).toNat≤(if d=0 then x else y)) (p2:(if d=0 then x else y)≤al X Y d (gi C (C.length-1)).toNat) (p3:ac X Y d (gi C 0).toNat=if d=0 then y else x)
  (q1:al X Y d' (gi C' 0).toNat≤(if d'=0 then x else y)) (q2:(if d'=0 then x else y)≤al X Y d' (gi C' (C'.length-1)).toNat) (q3:ac X Y d' (gi C' 0).toNat=if d'=0 then y else x):∃ v,v∈C∧v∈C':=by
 have hc:=R.ck;have hS:=R.str;have ne:=h.ne;have ne':=h'.ne;have A:=(ZiP hS hc kl kt hd h (C.length-1) (by omega)).2.2 _ p1 p2;have B:=(ZiP hS hc kl kt hd' h' (C'.length-1) (by omega)).2.2 _ q1 q2;rw [p3] at A;rw [q3] at B
 -- a cell of both
 have both:∀ z,OnL l hm d C z→OnL l hm d' C' z→∃ v,v∈C∧v∈C':=by
  rintro z (⟨a1,a2⟩|⟨a1,v,a2,a3⟩) (⟨b1,b2⟩|⟨b1,w,b2,b3⟩)
  ·exact ⟨z,a1,b1⟩
  ·omega
  ·omega
  ·rw [a2] at b2;have:=congrArg Prod.fst (Option.some.inj b2);dsimp only at this;exact ⟨v,a3,by rw [this];exact b3⟩
 have V:=R.V;have E:=R.E;have d01:d=0∨d=1:=by omega
 have d01':d'=0∨d'=1:=by omega
 rcases A with ⟨z,z1,z2,z3,z4⟩|⟨z,z1,z2,z3,z4,z5⟩<;>rcases B with ⟨w,w1,w2,w3,w4⟩|⟨w,w1,w2,w3,w4,w5⟩
 ·have:z=w:=by
   refine V z w z1 w1 ?_ ?_<;>rcases d01 with rfl|rfl<;>rcases d01' with rfl|rfl<;>simp [al,ac] at z3 z4 w3 w4<;>omega
  rw [← this] at w2;exact both z z2 w2
 ·exfalso;refine E w d' w1 z z1 ?_ ?_ ?_<;>rcases d01 with rfl|rfl<;>rcases d01' with rfl|rfl<;>simp [al,ac] at z3 z4 w3 w4 w5 ⊢ <;> omega
 ·exfalso;refine E z d z1 w w1 ?_ ?_ ?_<;>rcases d01 with rfl|rfl<;>rcases d01' with rfl|rfl<;>simp [al,ac] at z3 z4 z5 w3 w4 ⊢ <;> omega
 ·by_cases dd:d=d'
  ·subst dd;by_cases c1:al X Y d z<al X Y d w
   ·exfalso;exact E z d z1 w w1.1 (by omega) c1 (by omega)
   ·by_cases c2:al X Y d w<al X Y d z
    ·exfalso;exact E w d w1 z z1.1 (by omega) c2 (by omega)
    ·have:z=w:=by
      refine V z w z1.1 w1.1 ?_ ?_<;>rcases d01 with rfl|rfl<;>simp [al,ac] at c1 c2 z5 w5<;>omega
     rw [← this] at w2;exact both z z2 w2
  ·exfalso;rcases d01 with rfl|rfl<;>rcases d01' with rfl|rfl
   ·exact dd rfl
   ·simp [al,ac] at z3 z4 z5 w3 w4 w5;exact R.Xs _ _ z1 w1 rfl rfl (by dsimp only;omega) (by dsimp only;omega) (by dsimp only;omega) (by dsimp only;omega)
   ·simp [al,ac] at z3 z4 z5 w3 w4 w5;exact R.Xs _ _ w1 z1 rfl rfl (by dsimp only;omega) (by dsimp only;omega) (by dsimp only;omega) (by dsimp only;omega)
   ·exact dd rfl
end Mu
/- Layer 16: SegTells,SegTurns. -/
namespace Mu
end Mu
/- Layer 17: lengths of edges. -/
namespace Mu
def strt (d:Nat) (a b:Zg):Prop:=if d=0 then a.Y=b.Y∧a.X<b.X else a.X=b.X∧a.Y<b.Y
instance {d:Nat}{a b:Zg}:Decidable (strt d a b):=by unfold strt;infer_instance
def wt (o:Int):Int:=if 0≤o then 1 else 0
theorem ZnG {o:Int}:ZcE o=some (wt o):=by
 unfold ZcE wt;by_cases c:0≤o
 ·rw [ZU c,if_pos c]
 ·rw [ZT c,if_neg c]
def okE (l:List Za) (p:List Zg) (v d:Nat):Prop:=nx l v d<0∨strt d (gi p v) (gi p (nx l v d).toNat)
instance {l:List Za}{p:List Zg}{v d:Nat}:Decidable (okE l p v d):=by unfold okE;infer_instance
end Mu
/- Layer 17: graphs,places,ArcsFit. -/
namespace Mu
theorem CH.next {l:List Za}(hc:Ck l) {d:Nat}(hd:d<4) {a:List Int}{L:List (List Int)}(h:CH l d a L) {v w:Nat}(hv:v<l.length) (hw:nx l v d=w):w<l.length∧gi a v=gi a w:=by
 have bk:=hc.back hv hd hw;obtain ⟨i,i1,i2,i3⟩:=h.mem v hv;have hC:=h.ch i i1;obtain ⟨j,hj,e⟩:=List.mem_iff_getElem.1 i3;have ej:gi (gi L i) j=v:=by rw [ZaH hj];exact e
 have n:=ZiQ hC hj;rw [ej,itn,hw] at n;by_cases c:j+1<(gi L i).length
 ·rw [ZgX c] at n;exact ⟨bk.1,by rw [i2,h.one i w i1 bk.1 (n ▸ ZaG c)]⟩
 ·rw [show j+1=(gi L i).length by omega,Zh5] at n;omega
def ZcJ (l:List Za) (of:List Int) (d:Nat):Nat→List Zj
 | 0=>[]
 | n+1=>if nx l n d<0 then ZcJ l of d n else ZcJ l of d n++[⟨gi of n,gi of (nx l n d).toNat,wt (ow l n d)⟩]
theorem Zgb {l:List Za}{of:List Int}{d:Nat}:∀ n,(ZcJ l of d n).length≤n
 | 0=>by simp [ZcJ]
 | n+1=>by
  have:=Zgb (l:=l) (of:=of) (d:=d) n;rw [ZcJ];split
  ·omega
  ·rw [List.length_append,List.length_singleton];omega
theorem ZkO {l:List Za}(hc:Ck l) (hl:l.length≤64) {of:List Int}(ho:of.length=l.length) {d:Nat}(hd:d<4):ZbA l d of=some (ZcJ l of d l.length):=by
 unfold ZbA;rw [Zhm (x:=ZcJ l of d l.length)];refine ZbK (fun n:Nat=>(ZcJ l of d n,(n:Int))) (n:=l.length) (ZaJ (by omega)) rfl (fun n hn=>?_) ?_
 ·have hlt:=hc.lt hn hd;have e:(gi l n).Next.get (d:Int)=nx l n d:=rfl;have eo:(gi l n).Owner.get (d:Int)=ow l n d:=rfl;have gl:=Zgb (l:=l) (of:=of) (d:=d) n;simp only [ZbA.s0];rw [ZU (by omega),Zx (by omega),Zx (by omega),itn,e,eo,ZcJ];by_cases c:nx l n d<0
  ·rw [ZT (by omega),zZ (by omega),if_pos c,show ((n+1:Nat):Int)=(n:Int)+1 by omega]
  ·rw [ZU (by omega),Zx (by omega),Zx (by omega),ZnG,obs,Zx (by simp;omega),zZ (by omega),if_neg c,show ((n+1:Nat):Int)=(n:Int)+1 by omega]
 ·simp only [ZbA.s0];rw [ZT (by omega)]
theorem Ze2 {l:List Za}{of:List Int}{d:Nat}{e:Zj}:∀ n,e∈ZcJ l of d n↔∃ v,v<n∧0≤nx l v d∧e=⟨gi of v,gi of (nx l v d).toNat,wt (ow l v d)⟩
 | 0=>by
  constructor
  ·intro h;simp [ZcJ] at h
  ·rintro ⟨v,hv,_⟩;omega
 | n+1=>by
  have ih:=Ze2 (l:=l) (of:=of) (d:=d) (e:=e) n;rw [ZcJ];by_cases c:nx l n d<0
  ·rw [if_pos c,ih];constructor
   ·rintro ⟨v,h1,h2⟩;exact ⟨v,by omega,h2⟩
   ·rintro ⟨v,h1,h2,h3⟩;have:v≠n:=by rintro rfl;omega
    exact ⟨v,by omega,h2,h3⟩
  ·rw [if_neg c,List.mem_append,List.mem_singleton,ih];constructor
   ·rintro (⟨v,h1,h2⟩|h)
    ·exact ⟨v,by omega,h2⟩
    ·exact ⟨n,by omega,by omega,h⟩
   ·rintro ⟨v,h1,h2,h3⟩;by_cases q:v=n
    ·subst q;exact .inr h3
    ·exact .inl ⟨v,by omega,h2,h3⟩
theorem Zn4 {l:List Za}(hc:Ck l) (hl:l.length≤64) (h:AllCh l 1∧AllCh l 0):∃ X Y V H,Zdj l=some (⟨⟨X,Y,V,H⟩,ZcJ l X 0 l.length,ZcJ l Y 1 l.length⟩,0)∧CH l 1 X V∧CH l 0 Y H:=by
 obtain ⟨X,Y,V,H,s1,cx,cy⟩:=Zm0 hl (ZfN.2 ⟨by omega,hc⟩) h;refine ⟨X,Y,V,H,?_,cx,cy⟩;have g0:=ZkO hc hl cx.alen (d:=0) (by omega);have g1:=ZkO hc hl cy.alen (d:=1) (by omega);rw [show ((0:Nat):Int)=0 from rfl] at g0;rw [show ((1:Nat):Int)=1 from rfl] at g1;unfold Zdj;rw [s1,obs];dsimp only;rw [Zc6 rfl,g0,obs,g1,obs]
def InR (n:Nat) (arcs:List Zj):Prop:=∀ a∈arcs,(0≤a.From∧a.From<n)∧(0≤a.To∧a.To<n)
theorem CH.rng {l:List Za}{d:Nat}{a:List Int}{L:List (List Int)}(h:CH l d a L) {v:Nat}(hv:v<l.length):0≤gi a v∧gi a v<L.length:=by
 obtain ⟨i,i1,i2,_⟩:=h.mem v hv;omega
theorem Zjb {l:List Za}(hc:Ck l) {k d:Nat}(hd:d<4) {a:List Int}{L:List (List Int)}(h:CH l k a L):InR L.length (ZcJ l a d l.length):=by
 intro e he;obtain ⟨v,hv,h0,rfl⟩:=(Ze2 _).1 he;have:=hc.lt hv hd;exact ⟨h.rng hv,h.rng (by omega)⟩
def ZcS (X Y a b:List Int) (n:Nat):List Zg:=(List.range n).map fun v=>⟨gi a (gi X v).toNat,gi b (gi Y v).toNat⟩
theorem Zfv {X Y a b:List Int}{n v:Nat}(h:v<n):gi (ZcS X Y a b n) v=⟨gi a (gi X v).toNat,gi b (gi Y v).toNat⟩:=Zcq h
theorem Zl1 {X Y a b:List Int}{n:Nat}:(ZcS X Y a b n).length=n:=by simp [ZcS]
theorem Zlz {l:List Za}(hc:Ck l) {X Y a b:List Int}{V H:List (List Int)}(cx:CH l 1 X V) (cy:CH l 0 Y H):(∀ v,v<l.length→okE l (ZcS X Y a b l.length) v 0∧okE l (ZcS X Y a b l.length) v 1)↔(∀ e∈ZcJ l X 0 l.length,gi a e.From.toNat<gi a e.To.toNat)∧∀ e∈ZcJ l Y 1 l.length,gi b e.From.toNat<gi b e.To.toNat:=by
 have E0:∀ v,v<l.length→0≤nx l v 0→(okE l (ZcS X Y a b l.length) v 0↔gi a (gi X v).toNat<gi a (gi X (nx l v 0).toNat).toNat):=by
  intro v hv h0;have n:=cy.next hc (by omega) hv (w:=(nx l v 0).toNat) (by omega);unfold okE strt;rw [Zfv hv,Zfv n.1,if_pos rfl];dsimp only;rw [n.2];constructor
  ·rintro (h|h)
   ·omega
   ·exact h.2
  ·intro h;exact .inr ⟨rfl,h⟩
 have E1:∀ v,v<l.length→0≤nx l v 1→(okE l (ZcS X Y a b l.length) v 1↔gi b (gi Y v).toNat<gi b (gi Y (nx l v 1).toNat).toNat):=by
  intro v hv h0;have n:=cx.next hc (by omega) hv (w:=(nx l v 1).toNat) (by omega);unfold okE strt;rw [Zfv hv,Zfv n.1,if_neg (by decide)];dsimp only;rw [n.2];constructor
  ·rintro (h|h)
   ·omega
   ·exact h.2
  ·intro h;exact .inr ⟨rfl,h⟩
 constructor
 ·intro h;constructor
  ·intro e he;obtain ⟨v,hv,h0,rfl⟩:=(Ze2 _).1 he;exact (E0 v hv h0).1 (h v hv).1
  ·intro e he;obtain ⟨v,hv,h0,rfl⟩:=(Ze2 _).1 he;exact (E1 v hv h0).1 (h v hv).2
 ·rintro ⟨h1,h2⟩ v hv;constructor
  ·by_cases c:nx l v 0<0
   ·exact .inl c
   ·exact (E0 v hv (by omega)).2 (h1 _ ((Ze2 _).2 ⟨v,hv,by omega,rfl⟩))
  ·by_cases c:nx l v 1<0
   ·exact .inl c
   ·exact (E1 v hv (by omega)).2 (h2 _ ((Ze2 _).2 ⟨v,hv,by omega,rfl⟩))
end Mu
/- Layer 17: ArcsFit. -/
namespace Mu
end Mu
/- Layer 17: the document's graphs;ArcsTell. -/
namespace Mu
end Mu
/- Layer 17: ArcsTurn. -/
namespace Mu
theorem Made.strt {l:List Za}{pts:List Zg}(h:Made l pts) {v d w:Nat}(hv:v<l.length) (hd:d<2) (hw:nx l v d=w):strt d (gi pts v) (gi pts w):=by
 rcases h.near v d hv hd with q|q
 ·omega
 ·rw [hw] at q;rcases q with ⟨q,_⟩|⟨j,e,_,q,_⟩
  ·omega
  ·have:j=w:=by omega
   subst this;have:=q.2;unfold Mu.strt;by_cases z:d=0
   ·rw [if_pos z] at this ⊢; exact ⟨this.1.symm,this.2⟩
   ·rw [if_neg z] at this ⊢; exact ⟨this.1.symm,this.2⟩
theorem Made.okE {l:List Za}{pts:List Zg}(h:Made l pts) {v d:Nat}(hv:v<l.length) (hd:d<2):okE l pts v d:=by
 by_cases c:nx l v d<0
 ·exact .inl c
 ·exact .inr (h.strt hv hd (by omega))
end Mu
/- Layer 17: ArcsPlace. -/
namespace Mu
theorem Zpm {l:List Za}(hl:l.length≤1000) {X Y a b:List Int}{V H:List (List Int)}(cx:CH l 1 X V) (cy:CH l 0 Y H) (ha:a.length=V.length) (hb:b.length=H.length):Zaj ⟨X,Y,V,H⟩ a b=some (ZcS X Y a b l.length):=by
 have x1:=cx.alen;have y1:=cy.alen;unfold Zaj;rw [Zhm (x:=ZcS X Y a b l.length)];refine ZbK (fun k:Nat=>(ZcS X Y a b k,(k:Int))) (n:=l.length) (ZaJ (by omega)) rfl (fun k hk=>?_) ?_
 ·have r1:=cx.rng hk;have r2:=cy.rng hk;simp only [Zaj.s0];rw [ZU (by omega),Zx (by omega),itn,Zx (by omega),Zx (by omega),Zx (by omega),Zx (by simp [ZcS];omega),zZ (by omega),show ((k+1:Nat):Int)=(k:Int)+1 by omega];unfold ZcS;rw [List.range_succ,List.map_append];rfl
 ·simp only [Zaj.s0];rw [ZT (by omega)]
theorem ZiG {l:List Za}(hc:Ck l) (hl:l.length≤1000) {p:List Zg}(hp:p.length=l.length):Zaf l p=some (decide (∀ v,v<l.length→okE l p v 0∧okE l p v 1)):=by
 have row:∀ v,v<l.length→Zaf.s0 l p (v:Int)=some (if okE l p v 0∧okE l p v 1 then .inl ((v:Int)+1) else .inr (.inr ())):=by
  intro v hv;have l0:=hc.lt hv (d:=0) (by omega);have l1:=hc.lt hv (d:=1) (by omega);have e0:(gi l v).Next.get 0=nx l v 0:=rfl;have e1:(gi l v).Next.get 1=nx l v 1:=rfl;have A0:okE l p v 0↔¬ (0≤nx l v 0∧((gi p (nx l v 0).toNat).Y≠(gi p v).Y∨(gi p (nx l v 0).toNat).X≤(gi p v).X)):=by
   unfold Mu.okE Mu.strt;rw [if_pos rfl];omega
  have A1:okE l p v 1↔¬ (0≤nx l v 1∧((gi p (nx l v 1).toNat).X≠(gi p v).X∨(gi p (nx l v 1).toNat).Y≤(gi p v).Y)):=by
   unfold Mu.okE Mu.strt;rw [if_neg (by decide)];omega
  have B0:(if decide (0≤nx l v 0)=true then ck ((0:Int)≤(max (nx l v 0) 0)∧(max (nx l v 0) 0)<(p.length:Int)) <| ck ((0:Int)≤(v:Int)∧(v:Int)<(p.length:Int)) <| some ((!(decide ((gi p (max (nx l v 0) 0).toNat).Y=(gi p v).Y)))||(decide (((gi p (max (nx l v 0) 0).toNat).X)≤((gi p v).X)))) else some false)=some (!decide (okE l p v 0)):=by
   by_cases c:0≤nx l v 0
   ·rw [ZU c,Zx (by omega),Zx (by omega),show max (nx l v 0) 0=nx l v 0 by omega];congr 1;rw [Bool.eq_iff_iff];simp only [Bool.or_eq_true,Bool.not_eq_true',decide_eq_true_eq,decide_eq_false_iff_not,A0];omega
   ·rw [ZT c,ZcK (A0.2 fun h=>c h.1)];rfl
  have B1:(if decide (0≤nx l v 1)=true then ck ((0:Int)≤(max (nx l v 1) 0)∧(max (nx l v 1) 0)<(p.length:Int)) <| ck ((0:Int)≤(v:Int)∧(v:Int)<(p.length:Int)) <| some ((!(decide ((gi p (max (nx l v 1) 0).toNat).X=(gi p v).X)))||(decide (((gi p (max (nx l v 1) 0).toNat).Y)≤((gi p v).Y)))) else some false)=some (!decide (okE l p v 1)):=by
   by_cases c:0≤nx l v 1
   ·rw [ZU c,Zx (by omega),Zx (by omega),show max (nx l v 1) 0=nx l v 1 by omega];congr 1;rw [Bool.eq_iff_iff];simp only [Bool.or_eq_true,Bool.not_eq_true',decide_eq_true_eq,decide_eq_false_iff_not,A1];omega
   ·rw [ZT c,ZcK (A1.2 fun h=>c h.1)];rfl
  simp only [Zaf.s0];rw [ZU (by omega),Zx (by omega),itn,e0,e1,B0,obs];by_cases c0:okE l p v 0
  ·rw [ZcK c0,if_neg (by decide),B1,obs];by_cases c1:okE l p v 1
   ·rw [ZcK c1,if_neg (by decide),zZ (by omega),if_pos ⟨c0,c1⟩]
   ·rw [Zez c1,if_pos (by decide),if_neg fun h=>c1 h.2]
  ·rw [Zez c0,if_pos (by decide),if_neg fun h=>c0 h.1]
 unfold Zaf;by_cases c:∀ v,v<l.length→okE l p v 0∧okE l p v 1
 ·rw [ZcK c,Zhm (x:=.inl ())];refine ZbK (fun v:Nat=>(v:Int)) (n:=l.length) (ZaJ (by omega)) rfl (fun v hv=>?_) ?_
  ·rw [row v hv,if_pos (c v hv),show ((v+1:Nat):Int)=(v:Int)+1 by omega]
  ·simp only [Zaf.s0];rw [ZT (by omega)]
 ·rw [Zez c,Zhm (x:=.inr ())];have ⟨v0,hv0⟩:∃ v,v<l.length∧¬ (okE l p v 0∧okE l p v 1):=by
   refine Classical.byContradiction fun hh=>c fun v hv=>Classical.byContradiction fun h2=>hh ⟨v,hv,h2⟩
  obtain ⟨v,⟨hv,hb⟩,hm⟩:=ZjF (P:=fun v=>v<l.length∧¬ (okE l p v 0∧okE l p v 1)) v0 hv0;refine ZbK (fun v:Nat=>(v:Int)) (n:=v) (ZaJ (by omega)) rfl (fun u hu=>?_) ?_
  ·have:okE l p u 0∧okE l p u 1:=Classical.byContradiction fun h2=>hm u hu ⟨by omega,h2⟩;rw [row u (by omega),if_pos this,show ((u+1:Nat):Int)=(u:Int)+1 by omega]
  ·rw [row v hv,if_neg hb]
end Mu
/- Layer 26: CheckTells. -/
namespace Mu
theorem ZjH {F:Int→Option (Int⊕(Unit⊕Unit))}{n:Nat}{P:Nat→Bool}(hn:n≤1000000) (he:F n=some (.inr (.inl ()))):∀ (m s:Nat),s+m=n→(∀ i:Nat,s≤i→i<n→F i=some (if P i=true then .inr (.inr ()) else .inl ((i:Int)+1)))→∃ r,ZZ F (m+1) (s:Int)=some r∧(r=.inr ()↔∃ i,s≤i∧i<n∧P i=true)
 | 0,s,hs,h=>by
  have:s=n:=by omega
  subst this;refine ⟨.inl (),by rw [ZZ,he],?_⟩;constructor
  ·intro h;cases h
  ·rintro ⟨i,h1,h2,_⟩;omega
 | m+1,s,hs,h=>by
  rw [ZZ,h s (Nat.le_refl _) (by omega)];by_cases c:P s=true
  ·rw [if_pos c];exact ⟨_,rfl,fun _=>⟨s,Nat.le_refl _,by omega,c⟩,fun _=>rfl⟩
  ·rw [if_neg c];dsimp only;obtain ⟨r,e1,e2⟩:=ZjH hn he m (s+1) (by omega) (fun i h1 h2=>h i (by omega) h2);rw [show ((s+1:Nat):Int)=(s:Int)+1 by omega] at e1;refine ⟨r,e1,e2.trans ⟨?_,?_⟩⟩
   ·rintro ⟨i,h1,h2,h3⟩;exact ⟨i,by omega,h2,h3⟩
   ·rintro ⟨i,h1,h2,h3⟩;by_cases q:i=s
    ·subst q;exact absurd h3 c
    ·exact ⟨i,by omega,h2,h3⟩
theorem ZiA {F:Int→Option (Int⊕(Unit⊕Unit))}{n s:Nat}{P:Nat→Bool}(hn:n≤1000000) (hs:s≤n) (he:F n=some (.inr (.inl ()))) (h:∀ i:Nat,s≤i→i<n→F i=some (if P i=true then .inr (.inr ()) else .inl ((i:Int)+1))):∃ r,ZZ F big (s:Int)=some r∧(r=.inr ()↔∃ i,s≤i∧i<n∧P i=true):=by
 obtain ⟨r,e1,e2⟩:=ZjH hn he (n-s) s (by omega) h;exact ⟨r,Zdw e1 (by unfold big;omega),e2⟩
def LNo (b:Bool) (L:List (List Int)) (n:Nat):List (Bool×Nat):=((List.range n).filter fun i=>decide (1<(gi L i).length)).map fun i=>(b,i)
def LN (V H:List (List Int)):List (Bool×Nat):=LNo true V V.length++LNo false H H.length
def Zdy (p:Bool×Nat):ZH:=⟨p.1,p.2⟩
def Zdx (p:Bool×Nat):zg:=⟨p.1,p.2⟩
theorem Zdz {b:Bool}{L:List (List Int)}{n:Nat}:(LNo b L n).length≤n:=by
 unfold LNo;rw [List.length_map];have:=List.length_filter_le (fun i=>decide (1<(gi L i).length)) (List.range n);simpa using this
theorem Zg8 {b:Bool}{L:List (List Int)}{n:Nat}:LNo b L (n+1)=if 1<(gi L n).length then LNo b L n++[(b,n)] else LNo b L n:=by
 unfold LNo;rw [List.range_succ,List.filter_append,List.map_append];by_cases c:1<(gi L n).length
 ·rw [if_pos c,List.filter_cons,if_pos (by simpa using c)];rfl
 ·rw [if_neg c,List.filter_cons,if_neg (by simpa using c)];simp
theorem ZoR {X Y:List Int}{V H:List (List Int)}(hV:V.length≤1000) (hH:H.length≤1000):ZaW ⟨X,Y,V,H⟩=some ((LN V H).map Zdy):=by
 have l0:ZZ (ZaW.s0 ⟨X,Y,V,H⟩) big (([]:List ZH),0)=some ((LNo true V V.length).map Zdy):=by
  refine ZbK (fun n:Nat=>((LNo true V n).map Zdy,(n:Int))) (n:=V.length) (ZaJ (by omega)) rfl (fun n hn=>?_) ?_
  ·have:=Zdz (b:=true) (L:=V) (n:=n);simp only [ZaW.s0,itn];rw [ZU (by omega),Zx (by omega),Zg8];by_cases c:1<(gi V n).length
   ·rw [ZU (by omega),Zx (by simp;omega),zZ (by omega),if_pos c,show ((n+1:Nat):Int)=(n:Int)+1 by omega,List.map_append];rfl
   ·rw [ZT (by omega),zZ (by omega),if_neg c,show ((n+1:Nat):Int)=(n:Int)+1 by omega]
  ·simp only [ZaW.s0];rw [ZT (by omega)]
 have l1:ZZ (ZaW.s1 ⟨X,Y,V,H⟩) big ((LNo true V V.length).map Zdy,0)=some ((LN V H).map Zdy):=by
  refine ZbK (fun n:Nat=>((LNo true V V.length++LNo false H n).map Zdy,(n:Int))) (n:=H.length) (ZaJ (by omega)) (by simp [LNo]) (fun n hn=>?_) ?_
  ·have a:=Zdz (b:=false) (L:=H) (n:=n);have b:=Zdz (b:=true) (L:=V) (n:=V.length);simp only [ZaW.s1,itn];rw [ZU (by omega),Zx (by omega),Zg8];by_cases c:1<(gi H n).length
   ·rw [ZU (by omega),Zx (by simp;omega),zZ (by omega),if_pos c,show ((n+1:Nat):Int)=(n:Int)+1 by omega,← List.append_assoc,List.map_append (l₂:=[(false,n)])];rfl
   ·rw [ZT (by omega),zZ (by omega),if_neg c,show ((n+1:Nat):Int)=(n:Int)+1 by omega]
  ·simp only [ZaW.s1];rw [ZT (by omega)];rfl
 unfold ZaW;rw [l0,obs,l1,obs]
theorem Zpl {X Y:List Int}{V H:List (List Int)}(hV:V.length≤1000) (hH:H.length≤1000):zG ⟨X,Y,V,H⟩=some ((LN V H).map Zdx):=by
 have l0:ZZ (zG.s0 ⟨X,Y,V,H⟩) big (([]:List zg),0)=some ((LNo true V V.length).map Zdx):=by
  refine ZbK (fun n:Nat=>((LNo true V n).map Zdx,(n:Int))) (n:=V.length) (ZaJ (by omega)) rfl (fun n hn=>?_) ?_
  ·have:=Zdz (b:=true) (L:=V) (n:=n);simp only [zG.s0,itn];rw [ZU (by omega),Zx (by omega),Zg8];by_cases c:1<(gi V n).length
   ·rw [ZU (by omega),Zx (by simp;omega),zZ (by omega),if_pos c,show ((n+1:Nat):Int)=(n:Int)+1 by omega,List.map_append];rfl
   ·rw [ZT (by omega),zZ (by omega),if_neg c,show ((n+1:Nat):Int)=(n:Int)+1 by omega]
  ·simp only [zG.s0];rw [ZT (by omega)]
 have l1:ZZ (zG.s1 ⟨X,Y,V,H⟩) big ((LNo true V V.length).map Zdx,0)=some ((LN V H).map Zdx):=by
  refine ZbK (fun n:Nat=>((LNo true V V.length++LNo false H n).map Zdx,(n:Int))) (n:=H.length) (ZaJ (by omega)) (by simp [LNo]) (fun n hn=>?_) ?_
  ·have a:=Zdz (b:=false) (L:=H) (n:=n);have b:=Zdz (b:=true) (L:=V) (n:=V.length);simp only [zG.s1,itn];rw [ZU (by omega),Zx (by omega),Zg8];by_cases c:1<(gi H n).length
   ·rw [ZU (by omega),Zx (by simp;omega),zZ (by omega),if_pos c,show ((n+1:Nat):Int)=(n:Int)+1 by omega,← List.append_assoc,List.map_append (l₂:=[(false,n)])];rfl
   ·rw [ZT (by omega),zZ (by omega),if_neg c,show ((n+1:Nat):Int)=(n:Int)+1 by omega]
  ·simp only [zG.s1];rw [ZT (by omega)];rfl
 unfold zG;rw [l0,obs,l1,obs]
theorem Zjf {V H:List (List Int)}{p:Bool×Nat}(h:p∈LN V H):p.2<(if p.1=true then V else H).length:=by
 unfold LN LNo at h;rcases List.mem_append.1 h with q|q
 ·obtain ⟨i,hi,rfl⟩:=List.mem_map.1 q;have:=List.mem_range.1 (List.mem_filter.1 hi).1;simpa using this
 ·obtain ⟨i,hi,rfl⟩:=List.mem_map.1 q;have:=List.mem_range.1 (List.mem_filter.1 hi).1;simpa using this
def Zf4 (V H:List (List Int)) (p:List Zg) (a:Bool×Nat):Zg:=gi p (gi (gi (if a.1=true then V else H) a.2) 0).toNat
def Zf5 (V H:List (List Int)) (p:List Zg) (a:Bool×Nat):Zg:=gi p (gi (gi (if a.1=true then V else H) a.2) ((gi (if a.1=true then V else H) a.2).length-1)).toNat
structure Zlj (n:Nat) (L:List (List Int)):Prop where
 ne:∀ i,i<L.length→0<(gi L i).length∧(gi L i).length≤1000000
 lt:∀ i,i<L.length→∀ k,k<(gi L i).length→0≤gi (gi L i) k∧gi (gi L i) k<n
theorem CH.ok {l:List Za}(hc:Ck l) (hl:l.length≤1000) {d:Nat}(hd:d<4) {a:List Int}{L:List (List Int)}(h:CH l d a L):Zlj l.length L:=⟨fun i hi=>⟨(h.ch i hi).ne,by have:=(h.ch i hi).len hc hd;omega⟩,fun i hi=>(h.ch i hi).lt⟩
theorem Zoi {n:Nat}{X Y:List Int}{V H:List (List Int)}(hV:Zlj n V) (hH:Zlj n H) {p:List Zg}(hp:p.length=n) {a:Bool×Nat}(ha:a∈LN V H):Zbv ⟨X,Y,V,H⟩ (Zdx a) p=some (Zf4 V H p a,Zf5 V H p a):=by
 have hm:=Zjf ha;unfold Zbv Zf4 Zf5 Zdx;have e:(if a.1=true then some V else some H)=some (if a.1=true then V else H):=by cases a.1<;>rfl
 have hL:Zlj n (if a.1=true then V else H):=by split<;>assumption
 dsimp only;rw [e,obs];generalize (if a.1=true then V else H)=L at *;have h1:=hL.ne a.2 hm;have h2:=hL.lt a.2 hm 0 h1.1;have h3:=hL.lt a.2 hm ((gi L a.2).length-1) (by omega);rw [itn,show (0:Int).toNat=0 from rfl,show (((gi L a.2).length:Int)-1).toNat=(gi L a.2).length-1 by omega,Zx (by omega),Zx (by omega),Zx (by omega),zZ (by omega),Zx (by omega),Zx (by omega)]
def Ze7 (a b c d:Zg):Bool:=(((decide (b.X<c.X))||(decide (d.X<a.X)))||(decide (b.Y<c.Y)))||(decide (d.Y<a.Y))
theorem Zmr {α:Type} [Inhabited α] {l:List α}{n i:Nat}:gi (l.drop n) i=gi l (n+i):=by
 unfold gi;simp
theorem ZoW {l:List Za}(hc:Ck l) (hl:l.length≤64) {X Y:List Int}{V H:List (List Int)}(hx:CH l 1 X V) (hy:CH l 0 Y H) (ver oth:Bool) (i k:Int):ZbQ ⟨X,Y,V,H⟩ ver i oth k=some ((cl (if ver=true then V else H) i).any fun v=>decide (v∈cl (if oth=true then V else H) k)):=by
 have kind:∀ w:Bool,∃ d,d<4∧CH l d (if w=true then X else Y) (if w=true then V else H):=by
  intro w
  cases w with
  | true=>exact ⟨1,by omega,hx⟩
  | false=>exact ⟨0,by omega,hy⟩
 obtain ⟨d1,hd1,c1⟩:=kind ver;obtain ⟨d2,hd2,c2⟩:=kind oth;have n1:=ZiU hc hd1 c1 (i:=i);have n2:=ZiU hc hd2 c2 (i:=k);unfold ZbQ;rw [Zkk,obs,Zkk,obs,ZoO (g:=fun v=>decide (v∈cl (if oth=true then V else H) k)) (by omega) (fun v _=>by
  unfold Zcj;rw [Zkl (by omega),obs]),obs]
def shc (V H:List (List Int)) (a b:Bool×Nat):Bool:=(cl (if a.1=true then V else H) a.2).any fun v=>decide (v∈cl (if b.1=true then V else H) b.2)
/-! Stretched. -/
theorem Zl7 {a n:Int}(ha:0≤a) (hn:0<n):0≤a.tmod n∧a.tmod n<n:=by
 rw [Int.tmod_eq_emod_of_nonneg ha];exact ⟨Int.emod_nonneg _ (by omega),Int.emod_lt_of_pos _ hn⟩
end Mu
/- Layer 26: CheckTurns. -/
namespace Mu
theorem ZnY {V H:List (List Int)}:(LN V H).Nodup:=by
 unfold LN LNo;rw [List.nodup_append];have one:∀ (b:Bool) (L:List (List Int)) n,(((List.range n).filter fun i=>decide (1<(gi L i).length)).map fun i=>(b,i)).Nodup:=by
  intro b L n;refine List.pairwise_map.2 ((List.Pairwise.filter _ List.nodup_range).imp fun {a c} h e=>h (congrArg Prod.snd e))
 refine ⟨one _ _ _,one _ _ _,fun a ha b hb e=>?_⟩;obtain ⟨i,_,rfl⟩:=List.mem_map.1 ha;obtain ⟨j,_,rfl⟩:=List.mem_map.1 hb;exact absurd (congrArg Prod.fst e) (by simp)
theorem ZkR {V H:List (List Int)}{a:Bool×Nat}:a∈LN V H↔a.2<(if a.1=true then V else H).length∧1<(gi (if a.1=true then V else H) a.2).length:=by
 unfold LN LNo;rw [List.mem_append,List.mem_map,List.mem_map];constructor
 ·rintro (⟨i,hi,rfl⟩|⟨i,hi,rfl⟩)
  ·have:=List.mem_filter.1 hi;exact ⟨List.mem_range.1 this.1,by simpa using this.2⟩
  ·have:=List.mem_filter.1 hi;exact ⟨List.mem_range.1 this.1,by simpa using this.2⟩
 ·rintro ⟨h1,h2⟩;obtain ⟨b,i⟩:=a
  cases b with
  | true=>exact .inl ⟨i,List.mem_filter.2 ⟨List.mem_range.2 h1,by simpa using h2⟩,rfl⟩
  | false=>exact .inr ⟨i,List.mem_filter.2 ⟨List.mem_range.2 h1,by simpa using h2⟩,rfl⟩
def Crs (V H:List (List Int)) (p:List Zg):Prop:=∃ a b,a∈LN V H∧b∈LN V H∧a≠b∧Ze7 (Zf4 V H p a) (Zf5 V H p a) (Zf4 V H p b) (Zf5 V H p b)=false∧shc V H a b=false
theorem Zlm {a b c d:Zg}:Ze7 a b c d=Ze7 c d a b:=by
 unfold Ze7;cases decide (b.X<c.X)<;>cases decide (d.X<a.X)<;>cases decide (b.Y<c.Y)<;>cases decide (d.Y<a.Y)<;>rfl
theorem ZnR {V H:List (List Int)}{a b:Bool×Nat}:shc V H a b=shc V H b a:=by
 unfold shc;rw [Bool.eq_iff_iff,List.any_eq_true,List.any_eq_true];constructor<;>rintro ⟨v,h1,h2⟩<;>exact ⟨v,by simpa using h2,by simpa using h1⟩
theorem ZkA {V H:List (List Int)}{p:List Zg}:(∃ i k,i<k∧k<(LN V H).length∧(!Ze7 (Zf4 V H p (gi (LN V H) i)) (Zf5 V H p (gi (LN V H) i)) (Zf4 V H p (gi (LN V H) k)) (Zf5 V H p (gi (LN V H) k)) && !shc V H (gi (LN V H) i) (gi (LN V H) k))=true)↔Crs V H p:=by
 have nd:=List.pairwise_iff_getElem.1 (ZnY (V:=V) (H:=H));constructor
 ·rintro ⟨i,k,h1,h2,h3⟩;rw [Bool.and_eq_true,Bool.not_eq_true',Bool.not_eq_true'] at h3;refine ⟨_,_,ZaG (show i<_ by omega),ZaG h2,?_,h3.1,h3.2⟩;rw [ZaH (show i<_ by omega),ZaH h2];exact nd i k (by omega) h2 h1
 ·rintro ⟨a,b,ha,hb,hne,h1,h2⟩;obtain ⟨i,hi,rfl⟩:=List.mem_iff_getElem.1 ha;obtain ⟨k,hk,rfl⟩:=List.mem_iff_getElem.1 hb;rcases Nat.lt_trichotomy i k with q|q|q
  ·exact ⟨i,k,q,hk,by rw [ZaH hi,ZaH hk,h1,h2];rfl⟩
  ·subst q;exact absurd rfl hne
  ·refine ⟨k,i,q,hi,?_⟩;rw [ZaH hi,ZaH hk,Zlm,ZnR,h1,h2];rfl
/-! Moved and stretched. -/
/-! Turned. -/
end Mu
/- Layer 19: the document's word on drawings. -/
namespace Mu
theorem Zqq {l:List Za}(hc:Ck l) (hl:l.length≤1000) {X Y:List Int}{V H:List (List Int)}(hx:CH l 1 X V) (hy:CH l 0 Y H) (ver oth:Bool) (i k:Int):Zat ⟨X,Y,V,H⟩ ver i oth k=some ((cl (if ver=true then V else H) i).any fun v=>decide (v∈cl (if oth=true then V else H) k)):=by
 have kind:∀ w:Bool,∃ d,d<4∧CH l d (if w=true then X else Y) (if w=true then V else H):=by
  intro w
  cases w with
  | true=>exact ⟨1,by omega,hx⟩
  | false=>exact ⟨0,by omega,hy⟩
 obtain ⟨d1,hd1,c1⟩:=kind ver;obtain ⟨d2,hd2,c2⟩:=kind oth;have hXl:=hx.alen;have hYl:=hy.alen;have n1:=ZiU hc hd1 c1 (i:=i);have n2:=ZiU hc hd2 c2 (i:=k);have e2:ZZ (Zat.s0 ⟨X,Y,V,H⟩ ver i oth k) big 0=some (match (List.range l.length).find? (fun v=>decide (gi (if ver=true then X else Y) v=i)&&decide (gi (if oth=true then X else Y) v=k)) with|some v=>.inr ()|none=>.inl ()):=by
  refine ZdD (n:=l.length) (P:=fun v=>decide (gi (if ver=true then X else Y) v=i)&&decide (gi (if oth=true then X else Y) v=k)) (f:=fun _=>()) (ZaJ (by omega)) (fun v hv=>?_) ?_
  ·simp only [Zat.s0];rw [ZU (by omega),Zx (by omega),itn];have t:(if ver=true then ck ((0:Int)≤(v:Int)∧(v:Int)<(X.length:Int)) (some (decide (gi X v=i))) else some (decide (gi Y v=i)))=some (decide (gi (if ver=true then X else Y) v=i)):=by
    cases ver with
    | true=>rw [if_pos rfl,if_pos rfl,Zx (by omega)]
    | false=>rw [if_neg (by decide),if_neg (by decide)]
   rw [t,obs,zZ (by omega)]
   cases oth with
   | true =>
    rw [if_pos rfl,Zx (by omega),if_pos (rfl:true=true)];exact ZjE
   | false =>
    rw [if_neg (by decide),if_neg (show ¬ false=true by decide)];exact ZjE
  ·simp only [Zat.s0];rw [ZT (by omega)]
 unfold Zat
 rw [e2,obs]
 cases hf:(List.range l.length).find? (fun v=>decide (gi (if ver=true then X else Y) v=i)&&decide (gi (if oth=true then X else Y) v=k)) with
 | none =>
  rw [List.find?_range_eq_none] at hf;have:((cl (if ver=true then V else H) i).any fun v=>decide (v∈cl (if oth=true then V else H) k))=false:=by
   rw [List.any_eq_false];intro v hv hw;rw [decide_eq_true_eq] at hw;have a:=(Zjg c1).1 hv;have b:=(Zjg c2).1 hw;have:=hf v.toNat (by omega);rw [a.2.2,b.2.2] at this;simp at this
  rw [this]
 | some v =>
  rw [List.find?_range_eq_some] at hf;obtain ⟨h1,h2,_⟩:=hf;have hv:v<l.length:=by simpa using h2
  rw [Bool.and_eq_true,decide_eq_true_eq,decide_eq_true_eq] at h1;have:((cl (if ver=true then V else H) i).any fun v=>decide (v∈cl (if oth=true then V else H) k))=true:=by
   rw [List.any_eq_true];refine ⟨v,(Zjg c1).2 ⟨by omega,by omega,by rw [itn];exact h1.1⟩,?_⟩;rw [decide_eq_true_eq];exact (Zjg c2).2 ⟨by omega,by omega,by rw [itn];exact h1.2⟩
  rw [this]
theorem Zoj {l:List Za}(hc:Ck l) (hl:l.length≤1000) (A1:AllCh l 1) (A0:AllCh l 0):∃ X Y V H,Zb2 l=some (⟨X,Y,V,H⟩,true)∧CH l 1 X V∧CH l 0 Y H:=by
 obtain ⟨X,V,e3,c3⟩:=(ZkY hc hl (d:=1) (by omega)).1 A1;obtain ⟨Y,H,e4,c4⟩:=(ZkY hc hl (d:=0) (by omega)).1 A0;rw [show ((1:Nat):Int)=1 from rfl] at e3;rw [show ((0:Nat):Int)=0 from rfl] at e4;refine ⟨X,Y,V,H,?_,c3,c4⟩;unfold Zb2;rw [e3,obs];dsimp only;rw [e4,obs];rfl
theorem Zqr {l:List Za}(hc:Ck l) (hl:l.length≤1000) {X Y:List Int}{V H:List (List Int)}(cx:CH l 1 X V) (cy:CH l 0 Y H) {p:List Zg}(hp:p.length=l.length) (hr:Zb2 l=some (⟨X,Y,V,H⟩,true)) (hst:∀ v,v<l.length→okE l p v 0∧okE l p v 1):∃ b,za l p=some (!b)∧(b=true↔Crs V H p):=by
 have oV:=cx.ok hc (by omega) (by omega);have oH:=cy.ok hc (by omega) (by omega);have x3:=cx.Ll;have y3:=cy.Ll;have ll:(LN V H).length≤2000:=by
  unfold LN;rw [List.length_append];have a:=Zdz (b:=true) (L:=V) (n:=V.length);have b:=Zdz (b:=false) (L:=H) (n:=H.length);omega
 have hM:∀ a b:Bool×Nat,Zat ⟨X,Y,V,H⟩ a.1 a.2 b.1 b.2=some (shc V H a b):=fun a b=>Zqq hc hl cx cy a.1 b.1 a.2 b.2;have n2:((LN V H).map Zdx).length=(LN V H).length:=by simp
 obtain ⟨P,hP⟩:∃ P:Nat→Nat→Bool,P=fun i k=>!Ze7 (Zf4 V H p (gi (LN V H) i)) (Zf5 V H p (gi (LN V H) i)) (Zf4 V H p (gi (LN V H) k)) (Zf5 V H p (gi (LN V H) k)) && !shc V H (gi (LN V H) i) (gi (LN V H) k):=⟨_,rfl⟩;have innerR:∀ i,i<(LN V H).length→∃ r,ZZ (za.s1 p ⟨X,Y,V,H⟩ ((LN V H).map Zdx) i) big ((i:Int)+1)=some r∧(r=.inr ()↔∃ k,i<k∧k<(LN V H).length∧P i k=true):=by
  intro i hi;obtain ⟨r,e1,e2⟩:=ZiA (F:=za.s1 p ⟨X,Y,V,H⟩ ((LN V H).map Zdx) i) (n:=(LN V H).length) (s:=i+1) (P:=P i) (by omega) (by omega) (by
   simp only [za.s1];rw [ZT (by rw [n2];omega)]) (fun k _ hk=>by
   have s1:=Zoi (X:=X) (Y:=Y) oV oH hp (ZaG hi);have s2:=Zoi (X:=X) (Y:=Y) oV oH hp (ZaG hk);have g1:gi ((LN V H).map Zdx) k=Zdx (gi (LN V H) k):=ZcD hk;have g2:gi ((LN V H).map Zdx) i=Zdx (gi (LN V H) i):=ZcD hi;have me:=hM (gi (LN V H) i) (gi (LN V H) k);have me':Zat ⟨X,Y,V,H⟩ (Zdx (gi (LN V H) i)).Vertical (Zdx (gi (LN V H) i)).Place (Zdx (gi (LN V H) k)).Vertical (Zdx (gi (LN V H) k)).Place=some (shc V H (gi (LN V H) i) (gi (LN V H) k)):=me;simp only [za.s1,itn];rw [ZU (by rw [n2];omega),Zx (by rw [n2];omega),Zx (by rw [n2];omega),g1,g2,me',obs,s1,obs];dsimp only;rw [s2,obs];dsimp only;show (if ((!shc V H (gi (LN V H) i) (gi (LN V H) k))&&(!Ze7 (Zf4 V H p (gi (LN V H) i)) (Zf5 V H p (gi (LN V H) i)) (Zf4 V H p (gi (LN V H) k)) (Zf5 V H p (gi (LN V H) k))))=true then _ else _)=_;rw [hP,zZ (by omega)];dsimp only;rw [Bool.and_comm];split<;>rfl)
  rw [show ((i+1:Nat):Int)=(i:Int)+1 by omega] at e1;exact ⟨r,e1,e2.trans ⟨fun ⟨k,a,b,c⟩=>⟨k,by omega,b,c⟩,fun ⟨k,a,b,c⟩=>⟨k,by omega,b,c⟩⟩⟩
 have outerR:∃ r,ZZ (za.s0 p ⟨X,Y,V,H⟩ ((LN V H).map Zdx)) big 0=some r∧(r=.inr ()↔∃ i k,i<k∧k<(LN V H).length∧P i k=true):=by
  have hdec:∀ i,∃ b:Bool,(b=true↔∃ k,i<k∧k<(LN V H).length∧P i k=true):=fun i=>⟨@decide (∃ k,i<k∧k<(LN V H).length∧P i k=true) (Classical.propDecidable _),by simp⟩;obtain ⟨Q,hQ⟩:∃ Q:Nat→Bool,∀ i,(Q i=true↔∃ k,i<k∧k<(LN V H).length∧P i k=true):=⟨fun i=>(hdec i).choose,fun i=>(hdec i).choose_spec⟩;obtain ⟨r,e1,e2⟩:=ZiA (F:=za.s0 p ⟨X,Y,V,H⟩ ((LN V H).map Zdx)) (n:=(LN V H).length) (s:=0) (P:=Q) (by omega) (by omega) (by
   simp only [za.s0];rw [ZT (by rw [n2];omega)]) (fun i _ hi=>by
   obtain ⟨r,r1,r2⟩:=innerR i hi;simp only [za.s0];rw [ZU (by rw [n2];omega),zZ (by omega),r1,obs]
   cases r with
   | inl u =>
    rw [if_neg];intro q;have:=r2.2 ((hQ i).1 q);cases this
   | inr u =>
    rw [if_pos ((hQ i).2 (r2.1 rfl))])
  refine ⟨r,e1,e2.trans ⟨?_,?_⟩⟩
  ·rintro ⟨i,_,h1,h2⟩;obtain ⟨k,k1,k2,k3⟩:=(hQ i).1 h2;exact ⟨i,k,k1,k2,k3⟩
  ·rintro ⟨i,k,k1,k2,k3⟩;exact ⟨i,by omega,by omega,(hQ i).2 ⟨k,k1,k2,k3⟩⟩
 obtain ⟨r',b1,b2⟩:=outerR;have c2:za l p=some r'.isLeft:=by
  unfold za;rw [Zc6 (by omega),ZiG hc (by omega) hp,obs,ZcK hst,if_neg (by decide),hr,obs];dsimp only;rw [Zpl (by omega) (by omega),obs,b1,obs];cases r'<;>rfl
 refine ⟨r'.isRight,by rw [c2];cases r'<;>rfl,?_⟩;have e:r'.isRight=true↔r'=.inr ():=by cases r'<;>simp
 rw [e,b2,hP,ZkA]
end Mu
/- Layer 4: orders and layers of graphs,plainly. -/
namespace Mu
def RA (n:Nat) (arcs:List Zj):Prop:=∀ a∈arcs,0≤a.From∧a.From<n∧0≤a.To∧a.To<n∧0≤a.Weight∧a.Weight≤1000000
end Mu
/- Layer 2: what a heap of numbers holds. -/
namespace Mu
end Mu
/- Layer 3: the order of a graph. -/
namespace Mu
instance {n:Nat}{arcs:List Zj}:Decidable (RA n arcs):=by unfold RA;exact inferInstance
end Mu
/- Layer 4: the layers are the least coordinates. -/
namespace Mu
/-! the given graphs -/
end Mu
/- Layer 4: LayerTight. -/
namespace Mu
end Mu
/- Layer 4: LayerLeast. -/
namespace Mu
def sat (l:List Int) (a:Zj):Prop:=gi l a.From.toNat+1≤gi l a.To.toNat
end Mu
/- Layer 4: more arcs. -/
namespace Mu
end Mu
/- Layer 4: LayerTells and LayerMore. -/
namespace Mu
theorem ZmM {l:List Int}{i:Nat}{x:Int}(hi:i<l.length) (hx:x=gi l i):l.set i x=l:=by
 apply ZdR (by simp);intro j hj;rw [Zck hi];split
 ·rename_i h;rw [hx,h]
 ·rfl
end Mu
/- Numbers raised till they fit;lines of rectangles. -/
namespace Mu
structure RX (n:Nat) (arcs:List Zj) (ψ:Nat→Nat) (M:Int) (r:Nat) (l:List Int):Prop where
 len:l.length=n
 pos:∀ v:Nat,v<n→0≤gi l v∧gi l v≤M+ψ v
 fit:∀ a∈arcs,ψ a.To.toNat≤r→sat l a
structure Rk (n:Nat) (arcs:List Zj) (ψ:Nat→Nat):Prop where
 rng:InR n arcs
 len:arcs.length≤1000000
 up:∀ a∈arcs,ψ a.From.toNat<ψ a.To.toNat
 le:∀ v,ψ v≤n
theorem RX.step {n:Nat}{arcs:List Zj}{ψ:Nat→Nat}{M:Int}{r k:Nat}{l:List Int}(hg:Rk n arcs ψ) (h:RX n arcs ψ M r l) (hk:k<arcs.length) (h2:∀ i,i<k→ψ (gi arcs i).To.toNat=r+1→sat l (gi arcs i)) {l':List Int}(hl':l'=l.set (gi arcs k).To.toNat (max (gi l (gi arcs k).To.toNat) (gi l (gi arcs k).From.toNat+1))):RX n arcs ψ M r l'∧∀ i,i<k+1→ψ (gi arcs i).To.toNat=r+1→sat l' (gi arcs i):=by
 have hm:=ZaG hk;have ha:=hg.rng _ hm;have hu:=hg.up _ hm;have len:=h.len;generalize ea:gi arcs k=a at *;have p1:=h.pos a.From.toNat (by omega);have p2:=h.pos a.To.toNat (by omega);have lt:a.To.toNat<l.length:=by omega
 have at':∀ v:Nat,gi l' v=if v=a.To.toNat then max (gi l a.To.toNat) (gi l a.From.toNat+1) else gi l v:=fun v=>by
  rw [hl',Zck lt]
 have ge:∀ v:Nat,gi l v≤gi l' v:=fun v=>by
  rw [at'];split
  ·rename_i c;rw [c];omega
  ·exact Int.le_refl _
 have low:∀ v:Nat,ψ v≤r→gi l' v=gi l v:=fun v hv=>by
  rw [at'];split
  ·rename_i c;have:=h.fit a hm (by rw [← c];exact hv);unfold sat at this;rw [c];omega
  ·rfl
 have keep:∀ b∈arcs,ψ b.To.toNat≤r+1→sat l b→sat l' b:=by
  intro b hb hr hs;have:=hg.up b hb;unfold sat at hs ⊢;rw [low b.From.toNat (by omega)];have:=ge b.To.toNat
  omega
 refine ⟨⟨by rw [hl',List.length_set];exact len,fun v hv=>?_,fun b hb hr=>keep b hb (by omega) (h.fit b hb hr)⟩,fun i hi hr=>?_⟩
 ·have:=h.pos v hv;rw [at'];split
  ·rename_i c;subst c;omega
  ·exact this
 ·by_cases c:i<k
  ·exact keep _ (ZaG (by omega)) (by omega) (h2 i c hr)
  ·have:i=k:=by omega
   subst this;rw [ea] at hr ⊢;unfold sat
   rw [low a.From.toNat (by omega),at',if_pos rfl];omega
theorem RX.pass {n:Nat}{arcs:List Zj}{ψ:Nat→Nat}{M:Int}{r:Nat}{l:List Int}(hg:Rk n arcs ψ) (hn:n≤1000) (hM:0≤M∧M≤1000000) (h:RX n arcs ψ M r l) {F:(List Int)×Int→Option (((List Int)×Int)⊕(List Int))}
  (hF:∀ (k:Nat) (l:List Int),k<arcs.length→l.length=n→(∀ v:Nat,v<n→0≤gi l v∧gi l v≤10000000)→F (l,(k:Int))=some (.inl (l.set (gi arcs k).To.toNat (max (gi l (gi arcs k).To.toNat) (gi l (gi arcs k).From.toNat+1)),(k:Int)+1)))
  (hE:∀ l:List Int,F (l,(arcs.length:Int))=some (.inr l)):∃ l',ZZ F big (l,0)=some l'∧RX n arcs ψ M (r+1) l':=by
 have hA:=hg.len;refine Zc1 (fun (k:Nat) (s:List Int×Int)=>(RX n arcs ψ M r s.1∧(∀ i,i<k→ψ (gi arcs i).To.toNat=r+1→sat s.1 (gi arcs i)))∧s.2=k) (n:=arcs.length) (ZaJ (by omega)) ⟨⟨h,fun i hi=>by omega⟩,rfl⟩ ?_ ?_
 ·rintro k ⟨l,j⟩ hk ⟨⟨h1,h2⟩,h3⟩;dsimp only at h1 h2 h3 ⊢;subst h3;rw [hF k l hk h1.len fun v hv=>by have:=h1.pos v hv;have:=hg.le v;omega];have st:=h1.step hg hk h2 rfl;exact ⟨_,rfl,⟨st.1,st.2⟩,by dsimp only;omega⟩
 ·rintro ⟨l,j⟩ ⟨⟨h1,h2⟩,h3⟩;dsimp only at h1 h2 h3 ⊢;subst h3;rw [hE];refine ⟨_,rfl,h1.len,h1.pos,fun a ha hr=>?_⟩;by_cases c:ψ a.To.toNat≤r
  ·exact h1.fit a ha c
  ·obtain ⟨i,hi,e⟩:=ZdC ha;have:=h2 i hi (by rw [e];omega);rwa [e] at this
theorem Zqp {n:Nat}{arcs:List Zj}{ψ:Nat→Nat}(hg:Rk n arcs ψ) (hn:n≤1000):∃ x,zr n arcs=some x∧RX n arcs ψ 0 n x:=by
 have hA:=hg.len;have z:∀ v:Nat,v<n→gi (List.replicate n (0:Int)) v=0:=fun v hv=>by rw [ZaH (by simpa using hv)];simp
 have:∃ l,ZZ (zr.s0 n arcs) big (List.replicate n (0:Int),0)=some l∧RX n arcs ψ 0 (n+1) l:=by
  refine Zc1 (fun (k:Nat) (s:List Int×Int)=>RX n arcs ψ 0 k s.1∧s.2=k) (n:=n+1) (ZaJ (by omega)) ⟨⟨by simp,fun v hv=>by dsimp only;rw [z v hv];omega,fun a ha ht=>by have:=hg.up a ha;omega⟩,rfl⟩ ?_ ?_
  ·rintro k ⟨l,j⟩ hk ⟨h1,h3⟩;dsimp only at h1 h3 ⊢;subst h3;obtain ⟨l',e,h4⟩:=h1.pass (F:=zr.s1 arcs) hg hn ⟨by omega,by omega⟩ (fun k l hk hl hb=>by
    have ha:=hg.rng _ (ZaG hk);have b1:=hb (gi arcs k).From.toNat (by omega);have b2:=hb (gi arcs k).To.toNat (by omega);simp only [zr.s1];rw [ZU (by omega),Zx (by omega),itn,Zx (by omega),Zx (by omega)];by_cases c:gi l (gi arcs k).To.toNat≤gi l (gi arcs k).From.toNat
    ·rw [ZU c,zZ (by omega),zZ (by omega),show max (gi l (gi arcs k).To.toNat) (gi l (gi arcs k).From.toNat+1)=gi l (gi arcs k).From.toNat+1 by omega]
    ·rw [ZT c,zZ (by omega),ZmM (by omega) (by omega)]) (fun l=>by
    simp only [zr.s1];rw [ZT (by omega)])
   simp only [zr.s0];rw [ZU (by omega),e,obs,zZ (by omega)];exact ⟨_,rfl,h4,by dsimp only;omega⟩
  ·rintro ⟨l,j⟩ ⟨h1,h3⟩;dsimp only at h1 h3 ⊢;subst h3;simp only [zr.s0];rw [ZT (by omega)];exact ⟨_,rfl,h1⟩
 obtain ⟨l,e,h⟩:=this;refine ⟨l,?_,h.len,h.pos,fun a ha hr=>h.fit a ha (by omega)⟩;unfold zr;rw [Zx (by omega),itn,e,obs]
theorem ZnP (n:Nat) (c:Nat→Nat):∃ ψ:Nat→Nat,(∀ i,ψ i≤n)∧∀ i j,i<n→c i<c j→ψ i<ψ j:=by
 refine ⟨fun i=>((List.range n).filter fun k=>decide (c k<c i)).length,fun i=>?_,fun i j hi h=>?_⟩
 ·have:=List.length_filter_le (fun k=>decide (c k<c i)) (List.range n);simpa using this
 ·have nd:(i::(List.range n).filter fun k=>decide (c k<c i)).Nodup:=by
   refine List.nodup_cons.2 ⟨fun m=>?_,List.nodup_range.filter _⟩;have:=(List.mem_filter.1 m).2;simp at this
  have:=nd.length_le_of_subset (l₂:=(List.range n).filter fun k=>decide (c k<c j)) (fun x hx=>by
   rcases List.mem_cons.1 hx with rfl|hx
   ·exact List.mem_filter.2 ⟨List.mem_range.2 hi,by simpa using h⟩
   ·obtain ⟨a,b⟩:=List.mem_filter.1 hx;exact List.mem_filter.2 ⟨a,by simp at b ⊢; omega⟩)
  rw [List.length_cons] at this;exact this
theorem ZjL {l:List Za}(hc:Ck l) {d:Nat}(hd:d<4) {φ:Nat→Nat}(h1:∀ p,isD l p→p.2=d→φ p.1<φ (nx l p.1 p.2).toNat):∀ m v,v<l.length→φ v<m→∃ r,Zdg l ((d+2)%4) m v=some r
 | 0,v,hv,h=>by omega
 | m+1,v,hv,h=>by
  rw [Zdg];by_cases c:nx l v ((d+2)%4)<0
  ·rw [if_pos c];exact ⟨_,rfl⟩
  ·rw [if_neg c];have dd:isD l (v,(d+2)%4):=⟨hv,by dsimp only;omega,by dsimp only;omega⟩;have f:=dd.fwd hc;have o:=dd.opp hc;have oo:(nx l (opp l (v,(d+2)%4)).1 (opp l (v,(d+2)%4)).2).toNat=v:=congrArg Prod.fst (ZcW hc dd);have:=h1 _ o (by unfold opp;dsimp only;omega);rw [oo] at this;exact ZjL hc hd h1 m _ f.1 (by unfold opp at this;dsimp only at this;omega)
theorem ZgT {l:List Za}(hc:Ck l) {d:Nat}(hd:d<4) {φ:Nat→Nat}(h0:∀ x,φ x≤l.length) (h1:∀ p,isD l p→p.2=d→φ p.1<φ (nx l p.1 p.2).toNat):AllCh l d:=by
 refine Classical.byContradiction fun h=>?_;obtain ⟨v,hv,e⟩:=ZgZ hc hd h;obtain ⟨r,e'⟩:=ZjL hc hd h1 (l.length+1) v hv (by have:=h0 v;omega);rw [e] at e';cases e'
theorem Str.of {l:List Za}(hc:Ck l) {p:List Zg}(h:∀ v,v<l.length→okE l p v 0∧okE l p v 1):Str l (fun v=>(gi p v).X) (fun v=>(gi p v).Y):=by
 have k:∀ q,isD l q→q.2<2→al (fun v=>(gi p v).X) (fun v=>(gi p v).Y) q.2 q.1<al (fun v=>(gi p v).X) (fun v=>(gi p v).Y) q.2 (tg l q)∧ac (fun v=>(gi p v).X) (fun v=>(gi p v).Y) q.2 q.1=ac (fun v=>(gi p v).X) (fun v=>(gi p v).Y) q.2 (tg l q):=by
  rintro ⟨v,d⟩ ⟨h1,h2,h3⟩ h4;dsimp only at h1 h2 h3 h4 ⊢;have:d=0∨d=1:=by omega
  rcases this with rfl|rfl
  ·rcases (h v h1).1 with q|q
   ·omega
   ·unfold strt at q;rw [if_pos rfl] at q;exact ⟨q.2,q.1⟩
  ·rcases (h v h1).2 with q|q
   ·omega
   ·unfold strt at q;rw [if_neg (by omega)] at q;exact ⟨q.2,q.1⟩
 intro q hq;by_cases c:q.2<2
 ·exact k q hq c
 ·have:=k _ (hq.opp hc) (by unfold opp;dsimp only;have:=hq.2.1;omega);have o:tg l (opp l q)=q.1:=congrArg Prod.fst (ZcW hc hq);rw [o] at this;have e:(opp l q).1=tg l q:=rfl;rw [e] at this;have d4:=hq.2.1;have:(opp l q).2=(q.2+2)%4:=rfl;have d23:q.2=2∨q.2=3:=by omega
  rcases d23 with z|z<;>rw [z] at this<;>simp_all [al,ac]<;>omega
theorem Zm7 {l m:List Za}{X Y:Nat→Int}(R:Pln m X Y) (K:KH l m) {A B:List Int}{V H:List (List Int)}(cx:CH l 1 A V) (cy:CH l 0 B H) {p:List Zg}(hp:∀ v,v<l.length→gi p v=⟨X v,Y v⟩):¬ Crs V H p:=by
 rintro ⟨a,b,ha,hb,ne,hap,hsh⟩;obtain ⟨kl,hm,kt⟩:=K;obtain ⟨a1,a2⟩:=ZkR.1 ha;obtain ⟨b1,b2⟩:=ZkR.1 hb;have ck:∀ a:Bool×Nat,a.2<(if a.1=true then V else H).length→∃ d,d<2∧(d=0↔a.1=false)∧IsCh l d (gi (if a.1=true then V else H) a.2):=by
  rintro ⟨u,i⟩ hi
  cases u with
  | true=>exact ⟨1,by omega,by simp,cx.ch i hi⟩
  | false=>exact ⟨0,by omega,by simp,cy.ch i hi⟩
 obtain ⟨d,hd,e1,C⟩:=ck a a1;obtain ⟨d',hd',e2,C'⟩:=ck b b1;unfold Zf4 Zf5 at hap;have cc:∀ (w:Bool) (i:Nat),i<(if w=true then V else H).length→cl (if w=true then V else H) i=gi (if w=true then V else H) i:=fun w i hi=>by
  unfold cl;rw [if_neg (by omega),itn]
 unfold shc at hsh;rw [cc _ _ a1,cc _ _ b1] at hsh;generalize gi (if a.1=true then V else H) a.2=P at *;generalize gi (if b.1=true then V else H) b.2=Q at *;have u1:=C.lt 0 (by omega);have u2:=C.lt (P.length-1) (by omega);have w1:=C'.lt 0 (by omega);have w2:=C'.lt (Q.length-1) (by omega);rw [hp _ (by omega),hp _ (by omega),hp _ (by omega),hp _ (by omega)] at hap;obtain ⟨g1,g2,_⟩:=ZiP R.str R.ck kl kt hd C (P.length-1) (by omega);obtain ⟨h1,h2,_⟩:=ZiP R.str R.ck kl kt hd' C' (Q.length-1) (by omega);unfold Ze7 at hap;simp only [Bool.or_eq_false_iff,decide_eq_false_iff_not] at hap;obtain ⟨⟨⟨k1,k2⟩,k3⟩,k4⟩:=hap;have:∃ v,v∈P∧v∈Q:=by
  have d01:d=0∨d=1:=by omega
  have d01':d'=0∨d'=1:=by omega
  refine Zkj R kl kt hd hd' C C' (x:=max (X (gi P 0).toNat) (X (gi Q 0).toNat)) (y:=max (Y (gi P 0).toNat) (Y (gi Q 0).toNat)) ?_ ?_ ?_ ?_ ?_ ?_<;>rcases d01 with rfl|rfl<;>rcases d01' with rfl|rfl<;>simp [al,ac] at g1 g2 h1 h2 ⊢ <;> omega
 obtain ⟨v,v1,v2⟩:=this;rw [List.any_eq_false] at hsh;exact hsh v v1 (by simpa using v2)
end Mu
/- Layer 18: what is reached from what: bits of words. -/
namespace Mu
open Go (IntKind)
def W64 (w:Int):Prop:=0≤w∧w<18446744073709551616
theorem ZmS {x:Int}(h:W64 x):IntKind.u64.wrap x=x:=by
 obtain ⟨h1,h2⟩:=h;simp only [IntKind.wrap,IntKind.bits,IntKind.signed];simp;omega
theorem Zjm {n:Nat}:BitVec.ofInt 64 (n:Int)=BitVec.ofNat 64 n:=by
 apply BitVec.eq_of_toNat_eq;simp [BitVec.toNat_ofInt]
theorem orW {x y:Int}(hx:W64 x) (hy:W64 y):Zcb .u64 x y=((x.toNat ||| y.toNat:Nat):Int)∧W64 (Zcb .u64 x y):=by
 obtain ⟨n,rfl⟩:=Int.eq_ofNat_of_zero_le hx.1;obtain ⟨m,rfl⟩:=Int.eq_ofNat_of_zero_le hy.1;have hn:n<2 ^ 64:=by have:=hx.2;omega
 have hm:m<2 ^ 64:=by have:=hy.2;omega
 have hor:n ||| m<2 ^ 64:=Nat.or_lt_two_pow hn hm;have e:((BitVec.ofInt 64 (n:Int) ||| BitVec.ofInt 64 (m:Int)).toNat)=n ||| m:=by
  rw [Zjm,Zjm,BitVec.toNat_or,BitVec.toNat_ofNat,BitVec.toNat_ofNat,Nat.mod_eq_of_lt hn,Nat.mod_eq_of_lt hm]
 have w:W64 ((n ||| m:Nat):Int):=⟨by omega,by omega⟩;have key:Zcb .u64 (n:Int) (m:Int)=((n ||| m:Nat):Int):=by
  show IntKind.u64.wrap (((BitVec.ofInt 64 (n:Int) ||| BitVec.ofInt 64 (m:Int)).toNat:Nat):Int)=_;rw [e,ZmS w]
 rw [key];exact ⟨rfl,w⟩
theorem ZqA {x:Int}(hx:W64 x) {j:Nat}(hj:j<64):decide (ZI .u64 (zt .u64 x (j:Int)) 1=1)=x.toNat.testBit j:=by
 obtain ⟨n,rfl⟩:=Int.eq_ofNat_of_zero_le hx.1;have hn:n<2 ^ 64:=by have:=hx.2;omega
 have s:zt .u64 (n:Int) (j:Int)=((n / 2 ^ j:Nat):Int):=by
  show (n:Int).fdiv (2 ^ (min (j:Int).toNat 64))=_;rw [itn,show min j 64=j by omega,Int.fdiv_eq_ediv_of_nonneg _ (by exact_mod_cast Nat.zero_le _)]
  push_cast
  rfl
 have hd:n / 2 ^ j<2 ^ 64:=Nat.lt_of_le_of_lt (Nat.div_le_self _ _) hn;have e:ZI .u64 ((n / 2 ^ j:Nat):Int) 1=((n / 2 ^ j%2:Nat):Int):=by
  show IntKind.u64.wrap (((BitVec.ofInt 64 ((n / 2 ^ j:Nat):Int) &&& BitVec.ofInt 64 ((1:Nat):Int)).toNat:Nat):Int)=_;rw [Zjm,Zjm,BitVec.toNat_and,BitVec.toNat_ofNat,BitVec.toNat_ofNat,Nat.mod_eq_of_lt hd,Nat.mod_eq_of_lt (show 1<2 ^ 64 by decide),Nat.and_one_is_mod,ZmS ⟨by omega,by omega⟩]
 rw [s,e,itn,Nat.testBit_eq_decide_div_mod_eq];by_cases c:n / 2 ^ j%2=1
 ·rw [c];rfl
 ·have:n / 2 ^ j%2=0:=by omega
  rw [this];rfl
theorem Zpp {j:Nat}(hj:j<64):Zct .u64 1 (j:Int)=((2 ^ j:Nat):Int)∧W64 (Zct .u64 1 (j:Int)):=by
 have h:2 ^ j<2 ^ 64:=Nat.pow_lt_pow_right (by decide) hj;have w:W64 ((2 ^ j:Nat):Int):=by
  generalize 2 ^ j=m at h;exact ⟨by omega,by omega⟩
 have e:Zct .u64 1 (j:Int)=((2 ^ j:Nat):Int):=by
  show IntKind.u64.wrap (1*2 ^ (min (j:Int).toNat 64))=_;rw [itn,show min j 64=j by omega,Int.one_mul];have:((2:Int) ^ j)=((2 ^ j:Nat):Int):=by push_cast;rfl
  rw [this,ZmS w]
 rw [e];exact ⟨rfl,w⟩
theorem Zhv {x y:Nat}{j:Nat}:(x ||| y).testBit j=(x.testBit j||y.testBit j):=Nat.testBit_or ..
theorem Zjx {i j:Nat}:(2 ^ i).testBit j=decide (i=j):=Nat.testBit_two_pow ..

def ZgB (row:List Int) (v:Nat):Bool:=(gi row (v / 64)).toNat.testBit (v%64)
structure RR (n:Nat) (r:zC) (R:Nat→Nat→Prop):Prop where
 len:r.rows.length=n
 row:∀ u,u<n→(gi r.rows u).length=(n+63) / 64
 wd:∀ u i,u<n→i<(n+63) / 64→W64 (gi (gi r.rows u) i)
 bit:∀ u v,u<n→v<n→(ZgB (gi r.rows u) v=true↔R u v)
theorem RR.congr {n:Nat}{r:zC}{R R':Nat→Nat→Prop}(h:RR n r R) (e:∀ u v,u<n→v<n→(R u v↔R' u v)):RR n r R':=⟨h.len,h.row,h.wd,fun u v hu hv=>(h.bit u v hu hv).trans (e u v hu hv)⟩
theorem ZjB {v:Nat}:(v:Int).tdiv 64=((v / 64:Nat):Int):=by
 rw [Int.tdiv_eq_ediv_of_nonneg (by omega)];push_cast;rfl
theorem Zm3 {v:Nat}:(v:Int).tmod 64=((v%64:Nat):Int):=by
 rw [Int.tmod_eq_emod_of_nonneg (by omega)];push_cast;rfl
theorem ZoK {rows:List (List Int)}{n u v:Nat}(hl:rows.length=n) (hu:u<n) (hv:v<n) (hn:n≤100000) (hr:(gi rows u).length=(n+63) / 64) (hw:W64 (gi (gi rows u) (v / 64))):zJ ⟨rows⟩ u v=some (ZgB (gi rows u) v):=by
 unfold zJ Za7;simp only [obs];rw [ZcK (show (0:Int)≤u by omega),ZcK (show (u:Int)<(rows.length:Int) by omega),ZcK (show (0:Int)≤v by omega),ZcK (show (v:Int)<(rows.length:Int) by omega)];simp only [Bool.and_self,if_true,obs,itn,ZjB,Zm3];rw [Zx (by omega),Zx (by omega),Zx (by omega),Zx (by omega),ZqA hw (by omega)];rfl
theorem RR.has {n:Nat}{r:zC}{R:Nat→Nat→Prop}(h:RR n r R) (hn:n≤100000) {u v:Nat}(hu:u<n) (hv:v<n):∃ b,zJ r u v=some b∧(b=true↔R u v) :=
 ⟨_,ZoK h.len hu hv hn (h.row u hu) (h.wd u _ hu (by omega)),h.bit u v hu hv⟩
theorem ZiB {n:Nat}(hn:n≤4096):∃ r,ZbF n=some (some r,0)∧RR n r fun _ _=>False:=by
 have e:ZZ (ZbF.s0 n) big ((List.replicate n []:List (List Int)),0)=some (List.replicate n (List.replicate ((n+63) / 64) 0)):=by
  refine ZbK (fun i:Nat=>(List.replicate i (List.replicate ((n+63) / 64) (0:Int))++List.replicate (n-i) [],(i:Int))) (n:=n) (ZaJ (by omega)) (by simp) (fun i hi=>?_) ?_
  ·simp only [ZbF.s0,itn];have e1:((n:Int)+64-1).tdiv 64=((n+63) / 64:Nat):=by rw [show (n:Int)+64-1=((n+63:Nat):Int) by omega,ZjB]
   rw [ZU (by simp;omega),zZ (by omega),zZ (by omega),e1,Zx (by omega),Zx (by omega),Zx (by simp;omega),zZ (by omega),itn];have e2:(List.replicate i (List.replicate ((n+63) / 64) (0:Int))++List.replicate (n-i) []).set i (List.replicate ((n+63) / 64) 0)=List.replicate (i+1) (List.replicate ((n+63) / 64) 0)++List.replicate (n-(i+1)) []:=by
    rw [show n-i=n-(i+1)+1 by omega,List.replicate_succ,List.set_append_right _ _ (by simp)];simp [List.replicate_succ']
   rw [e2];rfl
  ·simp only [ZbF.s0,itn];rw [ZT (by simp)];simp
 refine ⟨⟨List.replicate n (List.replicate ((n+63) / 64) 0)⟩,?_,?_⟩
 ·unfold ZbF;rw [Zez (by omega),Zez (by omega),if_neg (by decide),Zx (by omega),itn,e,obs]
 ·have g:∀ u,u<n→gi (List.replicate n (List.replicate ((n+63) / 64) (0:Int))) u=List.replicate ((n+63) / 64) 0:=fun u hu=>by simp [gi,hu]
  have g0:∀ i,gi (List.replicate ((n+63) / 64) (0:Int)) i=0:=fun i=>by
   by_cases c:i<(n+63) / 64
   ·simp [gi,c]
   ·rw [Zg1 (by simp;omega)];rfl
  refine ⟨by simp,fun u hu=>by rw [g u hu];simp,fun u i hu hi=>by rw [g u hu,g0];exact ⟨by omega,by omega⟩,fun u v hu hv=>?_⟩;rw [g u hu];unfold ZgB;rw [g0];simp
def Zis (a b:List Int) (k:Nat):List Int:=(List.range a.length).map fun i=>if i<k then Zcb .u64 (gi a i) (gi b i) else gi a i
theorem Ze3 {a b:List Int}{k:Nat}:(Zis a b k).length=a.length:=by simp [Zis]
theorem Zgi {a b:List Int}{k i:Nat}(h:i<a.length):gi (Zis a b k) i=if i<k then Zcb .u64 (gi a i) (gi b i) else gi a i:=Zcq h
theorem ZhR {α:Type} [Inhabited α] {l m:List α}(h:l.length=m.length) (hg:∀ i,i<l.length→gi l i=gi m i):l=m:=by
 apply List.ext_getElem h;intro i h1 h2;have:=hg i h1;rwa [ZaH h1,ZaH h2] at this
def Zfx (x:List Int) (v:Nat):List Int:=x.set (v / 64) (Zcb .u64 (gi x (v / 64)) (Zct .u64 1 ((v%64:Nat):Int)))
theorem Zof {x:List Int}{v:Nat}:x.set ((v:Int).tdiv 64).toNat (Zcb .u64 (gi x ((v:Int).tdiv 64).toNat) (Zct .u64 1 ((v:Int).tmod 64)))=Zfx x v:=by
 rw [ZjB,Zm3,itn];rfl
theorem ZpM {rows:List (List Int)}{x:List Int}{v w:Nat}(hw:w<rows.length) (hx:x.length=(gi rows w).length) (hl:x.length≤100000) (hr:rows.length≤100000):ZZ (zm.s1 v x w) big (rows,0)=some (rows.set w (Zis (gi rows w) (Zfx x v) x.length)):=by
 have ml:(Zfx x v).length=x.length:=by simp [Zfx]
 refine ZbK (fun k:Nat=>(rows.set w (Zis (gi rows w) (Zfx x v) k),(k:Int))) (n:=x.length) (ZaJ (by omega)) ?_ (fun k hk=>?_) ?_
 ·have:Zis (gi rows w) (Zfx x v) 0=gi rows w:=ZhR Ze3 fun i hi=>by rw [Ze3] at hi;rw [Zgi hi,if_neg (by omega)]
  rw [this,ZaH hw];simp
 ·simp only [zm.s1];rw [Zof,ml,ZU (by omega),Zx (by omega),Zx (by rw [List.length_set];omega),itn,itn,Zck hw,if_pos rfl,Zx (by rw [Ze3];omega),zZ (by omega),List.set_set,Zgi (by omega),if_neg (by omega)];have:(Zis (gi rows w) (Zfx x v) k).set k (Zcb .u64 (gi (gi rows w) k) (gi (Zfx x v) k))=Zis (gi rows w) (Zfx x v) (k+1):=by
   refine ZhR (by rw [List.length_set,Ze3,Ze3]) fun i hi=>?_;rw [List.length_set,Ze3] at hi;rw [Zck (by rw [Ze3];omega),Zgi hi,Zgi hi];by_cases c:i=k
   ·subst c;rw [if_pos rfl,if_pos (by omega)]
   ·rw [if_neg c];by_cases d:i<k
    ·rw [if_pos d,if_pos (by omega)]
    ·rw [if_neg d,if_neg (by omega)]
  rw [this];rfl
 ·simp only [zm.s1];rw [Zof,ml,ZT (by omega)]
def ZcB (rows:List (List Int)) (m:List Int) (u w:Nat):List (List Int):=(List.range rows.length).map fun a=>if a<w∧(a=u∨ZgB (gi rows a) u=true) then Zis (gi rows a) m m.length else gi rows a
theorem Zmx {n:Nat}{r:zC}{R:Nat→Nat→Prop}(h:RR n r R) (hT:∀ a b c,R a b→R b c→R a c) (hn:n≤100000) {u v:Nat}(hu:u<n) (hv:v<n):∃ e r',zm r u v=some (e,r')∧RR n r' fun a b=>R a b∨((a=u∨R a u)∧(b=v∨R v b)):=by
 obtain ⟨rows⟩:=r;have hlen:=h.len;dsimp only at hlen;unfold zm;have is1:Za7 ⟨rows⟩ u=some true:=by
  unfold Za7;rw [ZcK (by omega),ZcK (show (u:Int)<(rows.length:Int) by omega)];rfl
 have is2:Za7 ⟨rows⟩ v=some true:=by
  unfold Za7;rw [ZcK (by omega),ZcK (show (v:Int)<(rows.length:Int) by omega)];rfl
 rw [is1,is2];simp only [obs,Bool.not_true,Bool.false_eq_true,if_false];have hb:=h.bit u v hu hv;rw [ZoK hlen hu hv hn (h.row u hu) (h.wd u _ hu (by omega)),obs];by_cases c:ZgB (gi rows u) v=true
 ·rw [c];refine ⟨_,_,rfl,h.congr fun a b ha hb'=>⟨fun q=>.inl q,?_⟩⟩;have q0:=hb.1 c;rintro (q|⟨q1,q2⟩)
  ·exact q
  ·have e1:R a v:=by
    rcases q1 with rfl|q1
    ·exact q0
    ·exact hT _ _ _ q1 q0
   rcases q2 with rfl|q2
   ·exact e1
   ·exact hT _ _ _ e1 q2
 ·simp only [Bool.not_eq_true] at c;have hrv:(gi rows v).length=(n+63) / 64:=h.row v hv;rw [c,if_neg (by decide),Zx (by omega),itn];unfold Zcn;have mm:=@Zm3 v;rw [Zx (by omega),obs,Zx (by rw [ZjB];omega),Zx (by rw [ZjB];omega),Zx (by omega)];generalize hM:Zfx (gi rows v) v=M;have Ml:M.length=(n+63) / 64:=by rw [← hM];simp only [Zfx,List.length_set];exact hrv
  have Mw:∀ i,i<(n+63) / 64→W64 (gi M i):=fun i hi=>by
   rw [← hM];unfold Zfx;rw [Zck (by omega)];split
   ·exact (orW (h.wd v _ hv (by omega)) (Zpp (by omega)).2).2
   ·exact h.wd v i hv hi
  have Mb:∀ b,b<n→(ZgB M b=true↔b=v∨R v b):=fun b hb=>by
   have q:=h.bit v b hv hb;rw [← hM];unfold ZgB at q ⊢;unfold Zfx;rw [Zck (by omega)];by_cases d:b / 64=v / 64
   ·rw [if_pos d,(orW (h.wd v _ hv (by omega)) (Zpp (show v%64<64 by omega)).2).1,itn,Zhv,(Zpp (show v%64<64 by omega)).1,itn,Zjx,Bool.or_eq_true,decide_eq_true_eq,← d,q];constructor
    ·rintro (e|e)
     ·exact .inr e
     ·exact .inl (by omega)
    ·rintro (rfl|e)
     ·exact .inr rfl
     ·exact .inl e
   ·rw [if_neg d,q];constructor
    ·exact fun e=>.inr e
    ·rintro (rfl|e)
     ·exact absurd rfl d
     ·exact e
  have ag:∀ w a,a<n→gi (ZcB rows M u w) a=if a<w∧(a=u∨ZgB (gi rows a) u=true) then Zis (gi rows a) M M.length else gi rows a:=fun w a ha=>Zcq (by omega);have al:∀ w,(ZcB rows M u w).length=n:=fun w=>by simp [ZcB,hlen]
  have e:ZZ (zm.s0 ⟨rows⟩ u v (gi rows v)) big (rows,0)=some (ZcB rows M u n):=by
   refine ZbK (fun w:Nat=>(ZcB rows M u w,(w:Int))) (n:=n) (ZaJ (by omega)) ?_ (fun w hw=>?_) ?_
   ·have:ZcB rows M u 0=rows:=ZhR (by rw [al,hlen]) fun a ha=>by rw [al] at ha;rw [ag 0 a ha,if_neg (by omega)]
    rw [this];rfl
   ·have gw:gi (ZcB rows M u w) w=gi rows w:=by rw [ag w w hw,if_neg (by omega)]
    have nxt:∀ row,(ZcB rows M u w).set w row=ZcB rows M u (w+1)↔row=gi (ZcB rows M u (w+1)) w:=fun row=>by
     constructor
     ·intro q;rw [← q,Zck (by rw [al];exact hw),if_pos rfl]
     ·rintro rfl;refine ZhR (by rw [List.length_set,al,al]) fun a ha=>?_;rw [List.length_set,al] at ha;rw [Zck (by rw [al];exact hw)];by_cases d:a=w
      ·rw [if_pos d,d]
      ·rw [if_neg d,ag w a ha,ag (w+1) a ha];by_cases d2:a<w∧(a=u∨ZgB (gi rows a) u=true)
       ·rw [if_pos d2,if_pos ⟨by omega,d2.2⟩]
       ·rw [if_neg d2,if_neg (fun q=>d2 ⟨by omega,q.2⟩)]
    simp only [zm.s0];rw [ZU (by omega)];have hasw:=ZoK (rows:=ZcB rows M u w) (al w) hw hu hn (by rw [gw];exact h.row w hw) (by rw [gw];exact h.wd w _ hw (by omega));rw [gw] at hasw;by_cases d:w=u∨ZgB (gi rows w) u=true
    ·have t:(if (!decide ((w:Int)=(u:Int)))=true then (zJ ⟨ZcB rows M u w⟩ w u).bind fun x5=>some (!x5) else some false)=some false:=by
      by_cases d1:w=u
      ·rw [Zc6 (by omega)]
      ·rw [Zdi (by omega),hasw,obs,d.resolve_left d1];rfl
     rw [t,obs,if_neg (by decide),ZpM (by rw [al];exact hw) (by rw [gw,hrv];exact (h.row w hw).symm) (by omega) (by rw [al];exact hn),obs,zZ (by omega),gw,hM];rw [(nxt _).2 (by rw [ag (w+1) w hw,if_pos ⟨by omega,d⟩,Ml,hrv])];rfl
    ·have d':¬ w=u∧ZgB (gi rows w) u=false:=⟨fun q=>d (.inl q),by simpa using fun q=>d (.inr q)⟩;rw [Zdi (by omega),hasw,d'.2,obs,obs,if_pos (by decide),zZ (by omega)];have:ZcB rows M u w=ZcB rows M u (w+1):=by
      have:=(nxt (gi rows w)).2 (by rw [ag (w+1) w hw,if_neg (fun q=>d q.2)]);rw [← this];refine ZhR (by rw [List.length_set]) fun a ha=>?_;rw [Zck (by rw [al];exact hw)];split
      ·rename_i q;rw [q,gw]
      ·rfl
     rw [this];rfl
   ·simp only [zm.s0];rw [ZT (by omega)]
  rw [e,obs];refine ⟨_,_,rfl,al n,fun a ha=>?_,fun a i ha hi=>?_,fun a b ha hb'=>?_⟩
  ·show (gi (ZcB rows M u n) a).length=_;rw [ag n a ha];split
   ·rw [Ze3];exact h.row a ha
   ·exact h.row a ha
  ·show W64 (gi (gi (ZcB rows M u n) a) i);have ra:(gi rows a).length=(n+63) / 64:=h.row a ha;rw [ag n a ha];split
   ·rw [Zgi (by omega),if_pos (by omega)];exact (orW (h.wd a i ha hi) (Mw i hi)).2
   ·exact h.wd a i ha hi
  ·show ZgB (gi (ZcB rows M u n) a) b=true↔_;have ra:(gi rows a).length=(n+63) / 64:=h.row a ha;have q1:=h.bit a u ha hu;have q2:=h.bit a b ha hb';dsimp only at q1 q2;rw [ag n a ha];by_cases d:a=u∨ZgB (gi rows a) u=true
   ·rw [if_pos ⟨ha,d⟩];have mb:=Mb b hb';unfold ZgB at mb q2 ⊢;rw [Zgi (by omega),if_pos (by omega),(orW (h.wd a _ ha (by omega)) (Mw _ (by omega))).1,itn,Zhv,Bool.or_eq_true,mb,q2];rw [q1] at d;exact ⟨fun q=>q.elim .inl fun q=>.inr ⟨d,q⟩,fun q=>q.elim .inl fun q=>.inr q.2⟩
   ·rw [if_neg (fun q=>d q.2),q2];rw [q1] at d;exact ⟨.inl,fun q=>q.elim id fun q=>absurd q.1 d⟩
end Mu
/- Layer 19: what is ahead of what: paths of arcs,the sides of lines,the ways of two lines. -/
namespace Mu
open Go (IntKind)
inductive Pth (arcs:List Zj):Nat→Nat→Prop
 | one {a:Zj}(h:a∈arcs):Pth arcs a.From.toNat a.To.toNat
 | cons {a:Zj}{y:Nat}(h:a∈arcs) (t:Pth arcs a.To.toNat y):Pth arcs a.From.toNat y
theorem Pth.trans {arcs:List Zj}{x y z:Nat}(h:Pth arcs x y) (t:Pth arcs y z):Pth arcs x z:=by
 induction h with
 | one h=>exact .cons h t
 | cons h _ ih=>exact .cons h (ih t)
theorem Pth.mono {A B:List Zj}(hs:∀ a∈A,a∈B) {x y:Nat}(h:Pth A x y):Pth B x y:=by
 induction h with
 | one h=>exact .one (hs _ h)
 | cons h _ ih=>exact .cons (hs _ h) ih
theorem Pth.nil {x y:Nat}(h:Pth [] x y):False:=by
 cases h with
 | one h=>cases h
 | cons h _=>cases h
theorem Pth.snoc {A:List Zj}{e:Zj}{x y:Nat}:Pth (A++[e]) x y↔Pth A x y∨((x=e.From.toNat∨Pth A x e.From.toNat)∧(y=e.To.toNat∨Pth A e.To.toNat y)):=by
 constructor
 ·intro h
  induction h with
  | @one a h =>
   rcases List.mem_append.1 h with h|h
   ·exact .inl (.one h)
   ·have:a=e:=by simpa using h
    subst this;exact .inr ⟨.inl rfl,.inl rfl⟩
  | @cons a y h t ih =>
   rcases List.mem_append.1 h with h|h
   ·rcases ih with q|⟨q1,q2⟩
    ·exact .inl (.cons h q)
    ·refine .inr ⟨.inr ?_,q2⟩;rcases q1 with q1|q1
     ·rw [← q1];exact .one h
     ·exact .cons h q1
   ·have:a=e:=by simpa using h
    subst this;rcases ih with q|⟨q1,q2⟩
    ·exact .inr ⟨.inl rfl,.inr q⟩
    ·exact .inr ⟨.inl rfl,q2⟩
 ·rintro (h|⟨q1,q2⟩)
  ·exact h.mono fun a ha=>by simp [ha]
  ·have e1:Pth (A++[e]) e.From.toNat e.To.toNat:=.one (by simp);have e2:Pth (A++[e]) e.From.toNat y:=by
    rcases q2 with rfl|q2
    ·exact e1
    ·exact e1.trans (q2.mono fun a ha=>by simp [ha])
   rcases q1 with rfl|q1
   ·exact e2
   ·exact (q1.mono fun a ha=>by simp [ha]).trans e2
theorem Pth.up {A:List Zj}{x:List Int}(h:∀ a∈A,gi x a.From.toNat<gi x a.To.toNat) {u v:Nat}(t:Pth A u v):gi x u<gi x v:=by
 induction t with
 | one q=>exact h _ q
 | cons q _ ih=>exact Int.lt_trans (h _ q) ih
/-! Lines and their sides. -/
def sd (X Y:List Int) (V H:List (List Int)) (a:Bool×Nat):Zam :=
 if a.1=true then ⟨a.2,a.2,gi Y (gi (gi V a.2) 0).toNat,gi Y (gi (gi V a.2) ((gi V a.2).length-1)).toNat⟩
 else ⟨gi X (gi (gi H a.2) 0).toNat,gi X (gi (gi H a.2) ((gi H a.2).length-1)).toNat,a.2,a.2⟩
theorem ZqH {l:List Za}{X Y:List Int}{V H:List (List Int)}(oV:Zlj l.length V) (oH:Zlj l.length H) (hX:X.length=l.length) (hY:Y.length=l.length) {a:Bool×Nat}(ha:a∈LN V H):ZeV ⟨X,Y,V,H⟩ (Zdy a)=some (sd X Y V H a):=by
 have hm:=Zjf ha;obtain ⟨b,i⟩:=a;unfold ZeV Zcv;simp only [Zdy,Zkk,obs]
 cases b with
 | true =>
  simp only [if_true] at hm ⊢;have ne:=oV.ne i hm;have lt0:=oV.lt i hm 0 ne.1;have lt1:=oV.lt i hm ((gi V i).length-1) (by omega);have ec:cl V (i:Int)=gi V i:=by unfold cl;rw [if_neg (by omega),itn]
  have e:(((gi V i).length:Int)-1).toNat=(gi V i).length-1:=by omega
  rw [ec,ZT (show ¬ ((gi V i).length:Int)=0 by omega),obs,e,Zx (by omega),Zx (by show (0:Int)≤gi (gi V i) 0∧gi (gi V i) 0<Y.length;omega),zZ (by omega),Zx (by omega),Zx (by omega)];rfl
 | false =>
  simp only [Bool.false_eq_true,if_false] at hm ⊢;have ne:=oH.ne i hm;have lt0:=oH.lt i hm 0 ne.1;have lt1:=oH.lt i hm ((gi H i).length-1) (by omega);have ec:cl H (i:Int)=gi H i:=by unfold cl;rw [if_neg (by omega),itn]
  have e:(((gi H i).length:Int)-1).toNat=(gi H i).length-1:=by omega
  rw [ec,ZT (show ¬ ((gi H i).length:Int)=0 by omega),obs,e,Zx (by omega),Zx (by show (0:Int)≤gi (gi H i) 0∧gi (gi H i) 0<X.length;omega),zZ (by omega),Zx (by omega),Zx (by omega)];rfl
def wy (a b:Zam):List Zr:=[⟨true,a.right,b.left⟩,⟨true,b.right,a.left⟩,⟨false,a.top,b.bottom⟩,⟨false,b.top,a.bottom⟩]
def grW (hs vs:List Zj) (w:Zr):List Zj:=if w.horizontal=true then hs else vs
def isP (hs vs:List Zj) (w:Zr):Prop:=Pth (grW hs vs w) w.from_.toNat w.to.toNat
def Znp (hs vs:List Zj) (w:Zr):Prop:=w.from_≠w.to∧¬ Pth (grW hs vs w) w.to.toNat w.from_.toNat
open Classical in
noncomputable def Zgo (hs vs:List Zj) (w:Zr):Bool:=decide (Znp hs vs w)
open Classical in
noncomputable def isF (hs vs:List Zj) (w:Zr):Bool:=decide (isP hs vs w)
theorem ZhO {hs vs:List Zj}{w:Zr}:Zgo hs vs w=true↔Znp hs vs w:=by simp [Zgo]
theorem Zh6 {hs vs:List Zj}{w:Zr}:isF hs vs w=true↔isP hs vs w:=by simp [isF]

theorem Zoc {s:List Zr}{f:Zr→Option Bool}{g:Zr→Bool}(hn:s.length≤1000000) (h:∀ a∈s,f a=some (g a)):ZZ (zx.s0 s f) big 0=some (match (List.range s.length).find? (fun i=>g (gi s i)) with|some i=>.inr (i:Int)|none=>.inl ()):=by
 refine ZdD (n:=s.length) (P:=fun i=>g (gi s i)) (f:=fun i=>(i:Int)) (ZaJ (by omega)) (fun i hi=>?_) ?_
 ·simp only [zx.s0];rw [ZU (by omega),Zx (by omega),itn,h _ (ZaG hi),obs,zZ (by omega)];cases g (gi s i)<;>rfl
 ·simp only [zx.s0];rw [ZT (by omega)]
theorem ZoP {s:List Zr}{f:Zr→Option Bool}{g:Zr→Bool}(hn:s.length≤1000000) (h:∀ a∈s,f a=some (g a)):Za0 s f=some (s.any g):=by
 unfold Za0 zx;rw [Zoc hn h,obs]
 cases hf:(List.range s.length).find? (fun i=>g (gi s i)) with
 | none =>
  rw [List.find?_range_eq_none] at hf;have:s.any g=false:=by
   rw [List.any_eq_false];intro a ha;obtain ⟨i,hi,rfl⟩:=List.mem_iff_getElem.1 ha;have:=hf i hi;rw [ZaH hi] at this;simpa using this
  rw [this];rfl
 | some i =>
  rw [List.find?_range_eq_some] at hf;obtain ⟨h1,h2,_⟩:=hf;have hi:i<s.length:=by simpa using h2
  have:s.any g=true:=by
   rw [List.any_eq_true];exact ⟨gi s i,ZaG hi,h1⟩
  rw [this];dsimp only;rw [obs,ZcK (by omega)]
theorem Zft {s:List Zr}{g:Zr→Bool}{j:Nat}(hj:j<s.length):(s.take (j+1)).filter g=(s.take j).filter g++(if g (gi s j)=true then [gi s j] else []):=by
 rw [ZeK hj,List.filter_append];congr 1;cases h:g (gi s j)<;>simp [h]
theorem ZpZ {s:List Zr}{f:Zr→Option Bool}{g:Zr→Bool}(hn:s.length≤1000000) (h:∀ a∈s,f a=some (!g a)):zp s f=some (s.filter g):=by
 unfold zp zx;rw [Zoc hn h,obs]
 cases hf:(List.range s.length).find? (fun i=>!g (gi s i)) with
 | none =>
  rw [List.find?_range_eq_none] at hf;dsimp only;rw [obs,ZU rfl,List.filter_eq_self.2];intro a ha;obtain ⟨i,hi,rfl⟩:=List.mem_iff_getElem.1 ha;have:=hf i hi;rw [ZaH hi] at this;simpa using this
 | some x =>
  rw [List.find?_range_eq_some] at hf;obtain ⟨h1,h2,h3⟩:=hf;have hx:x<s.length:=by simpa using h2
  dsimp only;rw [obs,ZT (by omega),zZ (by omega)];have flt:∀ j,(s.take j).filter g=(s.take j).filter g:=fun _=>rfl;have cnt:∀ j,j≤s.length→((s.take j).filter g).length≤j:=fun j hj=>by
   have:=List.length_filter_le g (s.take j);rw [List.length_take] at this;omega
  have f0:(s.take x).filter g=s.take x:=List.filter_eq_self.2 fun a ha=>by
   obtain ⟨i,hi,rfl⟩:=List.mem_iff_getElem.1 ha;rw [List.length_take] at hi;have:=h3 i (by omega);rw [ZaH (by omega)] at this;simpa using this
  have f1:(s.take (x+1)).filter g=s.take x:=by
   rw [Zft hx,f0,if_neg (by simpa using h1),List.append_nil]
  have e:ZZ (zp.s0 f) big (s,(x:Int),(x:Int)+1)=some ((s.filter g)++s.drop (s.filter g).length,((s.filter g).length:Int)):=by
   have key:=ZbK (step:=zp.s0 f) (fun n:Nat=>(((s.take (x+1+n)).filter g)++s.drop ((s.take (x+1+n)).filter g).length,(((s.take (x+1+n)).filter g).length:Int),((x+1+n:Nat):Int))) (s0:=(s,(x:Int),(x:Int)+1)) (n:=s.length-(x+1)) (r:=((s.filter g)++s.drop (s.filter g).length,((s.filter g).length:Int))) (ZaJ (by omega)) ?_ (fun n hn'=>?_) ?_
   ·exact key
   ·rw [Nat.add_zero,f1,List.length_take,Nat.min_eq_left (by omega),List.take_append_drop];rfl
   ·generalize hj:x+1+n=j;have hjl:j<s.length:=by omega
    have c:=cnt j (by omega);generalize hF:(s.take j).filter g=F at c;have e0:(F++s.drop F.length).length=s.length:=by rw [List.length_append,List.length_drop];omega
    have e1:gi (F++s.drop F.length) j=gi s j:=by
     have:=Zc9 (l:=F) (m:=s.drop F.length) (i:=j-F.length);rw [show F.length+(j-F.length)=j by omega] at this;rw [this,Zmr,show F.length+(j-F.length)=j by omega]
    simp only [zp.s0];rw [e0,ZU (by omega),Zx (by omega),itn,e1,h _ (ZaG hjl),obs,Bool.not_not,itn,Zx (by omega),zZ (by omega),zZ (by omega),show x+1+(n+1)=j+1 by omega,Zft hjl,hF];by_cases gq:g (gi s j)=true
    ·rw [if_pos gq,if_pos gq];have:(F++s.drop F.length).set F.length (gi s j)=F++[gi s j]++s.drop (F++[gi s j]).length:=by
      rw [List.set_append_right _ _ (Nat.le_refl _),Nat.sub_self,Znu (show F.length<s.length by omega)];simp
     rw [this];simp
    ·rw [if_neg gq,if_neg gq,List.append_nil,zZ (by omega)];rfl
   ·rw [show x+1+(s.length-(x+1))=s.length by omega,List.take_length];have c:=cnt s.length (Nat.le_refl _);rw [List.take_length] at c;simp only [zp.s0];rw [ZT (by rw [List.length_append,List.length_drop];omega)]
  rw [e,obs];have c:=List.length_filter_le g s;dsimp only;rw [Zx (by rw [List.length_append];omega),itn];have t:(s.filter g++s.drop (s.filter g).length).take (s.filter g).length=s.filter g:=by
   rw [List.take_append_of_le_length (Nat.le_refl _),List.take_length]
  rw [t,Zx (by rw [List.length_append];omega),List.take_append_of_le_length (Nat.le_refl _),List.take_length]
end Mu
/- Layer 19: the settler: what it holds,how it looks at two lines. -/
namespace Mu
open Go (IntKind)
structure SS (X Y:List Int) (V H:List (List Int)) (hs vs:List Zj) (s:zq):Prop where
 g:s.result.Graphs=⟨⟨X,Y,V,H⟩,hs,vs⟩
 op:s.result.Open=[]
 h:RR V.length s.h (Pth hs)
 v:RR H.length s.v (Pth vs)
 li:s.lines=(LN V H).map Zdy
 si:s.sides=(LN V H).map (sd X Y V H)
 ih:InR V.length hs
 iv:InR H.length vs
def nW (V H:List (List Int)) (w:Zr):Nat:=if w.horizontal=true then V.length else H.length
def wOk (V H:List (List Int)) (w:Zr):Prop:=(0≤w.from_∧w.from_<nW V H w)∧0≤w.to∧w.to<nW V H w
theorem ZmL {l:List Za}(hc:Ck l) {X Y:List Int}{V H:List (List Int)}(cx:CH l 1 X V) (cy:CH l 0 Y H) {a:Bool×Nat}(ha:a∈LN V H):((0≤(sd X Y V H a).left∧(sd X Y V H a).left<V.length)∧0≤(sd X Y V H a).right∧(sd X Y V H a).right<V.length)∧(0≤(sd X Y V H a).bottom∧(sd X Y V H a).bottom<H.length)∧0≤(sd X Y V H a).top∧(sd X Y V H a).top<H.length:=by
 have hm:=Zjf ha;obtain ⟨b,i⟩:=a
 cases b with
 | true =>
  simp only [if_true] at hm;have C:=cx.ch i hm;have ne:=C.ne;have l0:=C.lt 0 ne;have l1:=C.lt ((gi V i).length-1) (by omega);have r0:=cy.rng (v:=(gi (gi V i) 0).toNat) (by omega);have r1:=cy.rng (v:=(gi (gi V i) ((gi V i).length-1)).toNat) (by omega);simp only [sd,if_true];omega
 | false =>
  simp only [Bool.false_eq_true,if_false] at hm;have C:=cy.ch i hm;have ne:=C.ne;have l0:=C.lt 0 ne;have l1:=C.lt ((gi H i).length-1) (by omega);have r0:=cx.rng (v:=(gi (gi H i) 0).toNat) (by omega);have r1:=cx.rng (v:=(gi (gi H i) ((gi H i).length-1)).toNat) (by omega);simp only [sd,Bool.false_eq_true,if_false];omega
theorem Zq1 {l:List Za}(hc:Ck l) {X Y:List Int}{V H:List (List Int)}(cx:CH l 1 X V) (cy:CH l 0 Y H) {a b:Bool×Nat}(ha:a∈LN V H) (hb:b∈LN V H):∀ w∈wy (sd X Y V H a) (sd X Y V H b),wOk V H w:=by
 have A:=ZmL hc cx cy ha;have B:=ZmL hc cx cy hb;intro w hw;simp only [wy,List.mem_cons,List.not_mem_nil,or_false] at hw;rcases hw with rfl|rfl|rfl|rfl<;>simp only [wOk,nW,if_true,Bool.false_eq_true,if_false]<;>omega
section
variable {X Y:List Int}{V H:List (List Int)}{hs vs:List Zj}{s:zq}
theorem Zjd {w:Zr}:ZaR s w=some w.horizontal:=by
 unfold ZaR;cases w.horizontal<;>rfl
theorem SS.has (S:SS X Y V H hs vs s) (hV:V.length≤1000) (hH:H.length≤1000) {w:Zr}{u v:Int}(hu:0≤u∧u<nW V H w) (hv:0≤v∧v<nW V H w):∃ b,(if w.horizontal=true then zJ s.h u v else zJ s.v u v)=some b∧(b=true↔Pth (grW hs vs w) u.toNat v.toNat):=by
 unfold nW at hu hv;unfold grW;by_cases c:w.horizontal=true
 ·rw [if_pos c] at hu hv ⊢;rw [if_pos c];have:=S.h.has (by omega) (u:=u.toNat) (v:=v.toNat) (by omega) (by omega);rwa [Int.toNat_of_nonneg hu.1,Int.toNat_of_nonneg hv.1] at this
 ·rw [if_neg c] at hu hv ⊢;rw [if_neg c];have:=S.v.has (by omega) (u:=u.toNat) (v:=v.toNat) (by omega) (by omega);rwa [Int.toNat_of_nonneg hu.1,Int.toNat_of_nonneg hv.1] at this
theorem SS.is (S:SS X Y V H hs vs s) (hV:V.length≤1000) (hH:H.length≤1000) {w:Zr}(hw:wOk V H w):Zca s w=some (isF hs vs w):=by
 obtain ⟨b,e,hb⟩:=S.has hV hH hw.1 hw.2;have:b=isF hs vs w:=by rw [Bool.eq_iff_iff,hb,Zh6];rfl
 unfold Zca;rw [Zjd,obs,← this];cases c:w.horizontal<;>simp only [c,if_true,Bool.false_eq_true,if_false] at e ⊢ <;> rw [e]<;>rfl
theorem SS.can (S:SS X Y V H hs vs s) (hV:V.length≤1000) (hH:H.length≤1000) {w:Zr}(hw:wOk V H w):Zch s w=some (Zgo hs vs w):=by
 obtain ⟨b,e,hb⟩:=S.has hV hH (w:=w) hw.2 hw.1;unfold Zch;by_cases c0:w.from_=w.to
 ·rw [Zc6 c0];have:Zgo hs vs w=false:=by rw [Bool.eq_false_iff,ne_eq,ZhO];exact fun h=>h.1 c0
  rw [this]
 ·have:(!b)=Zgo hs vs w:=by
   rw [Bool.eq_iff_iff,ZhO,Bool.not_eq_true',← Bool.not_eq_true,hb];exact ⟨fun h=>⟨c0,h⟩,fun h=>h.2⟩
  rw [Zdi c0,Zjd,obs,← this];cases c:w.horizontal<;>simp only [c,if_true,Bool.false_eq_true,if_false] at e ⊢ <;> rw [e]<;>rfl
def Zj7 (w:Zr):Zj:=⟨w.from_,w.to,0⟩
def fH (hs:List Zj) (w:Zr):List Zj:=if w.horizontal=true then hs++[Zj7 w] else hs
def fV (vs:List Zj) (w:Zr):List Zj:=if w.horizontal=true then vs else vs++[Zj7 w]
theorem SS.force (S:SS X Y V H hs vs s) (hV:V.length≤1000) (hH:H.length≤1000) {w:Zr}(hw:wOk V H w) (lh:hs.length≤100000000) (lv:vs.length≤100000000):∃ s',ZbP s w=some s'∧SS X Y V H (fH hs w) (fV vs w) s':=by
 obtain ⟨ho,f,t⟩:=w;obtain ⟨⟨gr,op⟩,h,v,li,si⟩:=s;have g:=S.g;dsimp only at g;subst g;unfold ZbP;rw [Zjd,obs]
 cases ho with
 | true =>
  simp only [wOk,nW,if_true] at hw;obtain ⟨e,r',q1,q2⟩:=Zmx S.h (fun _ _ _ a b=>a.trans b) (by omega) (u:=f.toNat) (v:=t.toNat) (by omega) (by omega);rw [Int.toNat_of_nonneg hw.1.1,Int.toNat_of_nonneg hw.2.1] at q1;simp only [if_true];rw [q1,obs];dsimp only;rw [Zx (by simp;omega)];refine ⟨_,rfl,rfl,S.op,q2.congr fun a b _ _=>?_,S.v,S.li,S.si,?_,S.iv⟩
  ·exact (Pth.snoc (e:=⟨f,t,0⟩)).symm
  ·intro a ha;simp only [fH,if_true] at ha;rcases List.mem_append.1 ha with q|q
   ·exact S.ih a q
   ·have:a=Zj7 ⟨true,f,t⟩:=by simpa using q
    subst this;exact hw
 | false =>
  simp only [wOk,nW,Bool.false_eq_true,if_false] at hw;obtain ⟨e,r',q1,q2⟩:=Zmx S.v (fun _ _ _ a b=>a.trans b) (by omega) (u:=f.toNat) (v:=t.toNat) (by omega) (by omega);rw [Int.toNat_of_nonneg hw.1.1,Int.toNat_of_nonneg hw.2.1] at q1;simp only [Bool.false_eq_true,if_false];rw [q1,obs];dsimp only;rw [Zx (by simp;omega)];refine ⟨_,rfl,rfl,S.op,S.h,q2.congr fun a b _ _=>?_,S.li,S.si,S.ih,?_⟩
  ·exact (Pth.snoc (e:=⟨f,t,0⟩)).symm
  ·intro a ha;simp only [fV,Bool.false_eq_true,if_false] at ha;rcases List.mem_append.1 ha with q|q
   ·exact S.iv a q
   ·have:a=Zj7 ⟨false,f,t⟩:=by simpa using q
    subst this;exact hw
def wyN (X Y:List Int) (V H:List (List Int)) (i k:Nat):List Zr:=wy (sd X Y V H (gi (LN V H) i)) (sd X Y V H (gi (LN V H) k))
inductive ZmT (hs vs:List Zj) (W:List Zr):Bool→Bool→List Zj→List Zj→Prop
 | is {w:Zr}(hw:w∈W) (h:isP hs vs w):ZmT hs vs W true false hs vs
 | no (h:∀ w∈W,¬ isP hs vs w) (n:(W.filter (Zgo hs vs)).length≠1):ZmT hs vs W false false hs vs
 | force {w:Zr}(h:∀ w∈W,¬ isP hs vs w) (e:W.filter (Zgo hs vs)=[w]):ZmT hs vs W true true (fH hs w) (fV vs w)
theorem Zqb {l:List Za}(hc:Ck l) (cx:CH l 1 X V) (cy:CH l 0 Y H) (S:SS X Y V H hs vs s) (hV:V.length≤1000) (hH:H.length≤1000) (lh:hs.length≤100000000) (lv:vs.length≤100000000) {i k:Nat}(hi:i<(LN V H).length) (hk:k<(LN V H).length) :
  ∃ p f s' hs' vs',Zbw s i k=some (p,f,s')∧SS X Y V H hs' vs' s'∧ZmT hs vs (wyN X Y V H i k) p f hs' vs':=by
 have ok:∀ w∈wyN X Y V H i k,wOk V H w:=Zq1 hc cx cy (ZaG hi) (ZaG hk);have w1:ZbY s i k=some ⟨⟨true,(sd X Y V H (gi (LN V H) i)).right,(sd X Y V H (gi (LN V H) k)).left⟩,⟨true,(sd X Y V H (gi (LN V H) k)).right,(sd X Y V H (gi (LN V H) i)).left⟩,⟨false,(sd X Y V H (gi (LN V H) i)).top,(sd X Y V H (gi (LN V H) k)).bottom⟩,⟨false,(sd X Y V H (gi (LN V H) k)).top,(sd X Y V H (gi (LN V H) i)).bottom⟩⟩:=by
  unfold ZbY;rw [S.si,List.length_map,Zx (by omega),Zx (by omega),itn,itn,ZcD hi,ZcD hk]
 unfold Zbw;rw [w1,obs];dsimp only;change ∃ p f s' hs' vs',(Za0 (wyN X Y V H i k) fun y0=>Zca s y0).bind _=some (p,f,s')∧_;rw [ZoP (g:=isF hs vs) (by simp [wyN,wy]) (fun w hw=>S.is hV hH (ok w hw)),obs];by_cases c:(wyN X Y V H i k).any (isF hs vs)=true
 ·rw [if_pos c];obtain ⟨w,hw,q⟩:=List.any_eq_true.1 c;exact ⟨_,_,_,_,_,rfl,S,.is hw (Zh6.1 q)⟩
 ·rw [if_neg c];have nis:∀ w∈wyN X Y V H i k,¬ isP hs vs w:=fun w hw q=>c (List.any_eq_true.2 ⟨w,hw,Zh6.2 q⟩);change ∃ p f s' hs' vs',(zp (wyN X Y V H i k) fun y0=>Zbt y0 s).bind _=some (p,f,s')∧_;rw [ZpZ (g:=Zgo hs vs) (by simp [wyN,wy]) (fun w hw=>by unfold Zbt;rw [S.can hV hH (ok w hw)];rfl),obs];by_cases c1:((wyN X Y V H i k).filter (Zgo hs vs)).length=1
  ·obtain ⟨w,e⟩:=List.length_eq_one_iff.1 c1;have hw:w∈wyN X Y V H i k:=(List.mem_filter.1 (e ▸ List.mem_singleton.2 rfl:w∈(wyN X Y V H i k).filter (Zgo hs vs))).1;obtain ⟨s',q1,q2⟩:=S.force hV hH (ok w hw) lh lv;have gw:gi [w] (0:Int).toNat=w:=rfl;rw [e,Zc6 (by simp),Zx (by simp),gw,q1,obs];exact ⟨_,_,_,_,_,rfl,q2,.force nis e⟩
  ·rw [Zdi (by omega)];exact ⟨_,_,_,_,_,rfl,S,.no nis c1⟩
end
end Mu
/- Layer 19: how settling starts. -/
namespace Mu
open Go (IntKind)
theorem Zn3 {σ τ:Type}{step:σ×Int→Option ((σ×Int)⊕τ)}{n:Nat}(I:Nat→σ→Prop) {s0:σ}{f:σ→τ}(hn:n<18000000000000000000) (h0:I 0 s0) (hs:∀ (i:Nat) s,i<n→I i s→∃ s',step (s,(i:Int))=some (.inl (s',(i:Int)+1))∧I (i+1) s') (he:∀ s,I n s→step (s,(n:Int))=some (.inr (f s))):∃ s,ZZ step big (s0,0)=some (f s)∧I n s:=by
 obtain ⟨r,e,s,h1,h2⟩:=Zc1 (step:=step) (n:=n) (fun i p=>p.2=(i:Int)∧I i p.1) (s0:=(s0,0)) (R:=fun r=>∃ s,r=f s∧I n s) (ZaJ hn) ⟨rfl,h0⟩ (fun i p hi hp=>by
  obtain ⟨s,z⟩:=p;obtain ⟨rfl,hI⟩:=hp;obtain ⟨s',e,h'⟩:=hs i s hi hI;exact ⟨_,e,by simp,h'⟩) (fun p hp=>by
  obtain ⟨s,z⟩:=p;obtain ⟨rfl,hI⟩:=hp;exact ⟨_,he s hI,s,rfl,hI⟩)
 exact ⟨s,by rw [e,h1],h2⟩
def prs (N:Nat) (M:Nat→Nat→Bool):List (Nat×Nat):=(List.range N).flatMap fun i=>((List.range N).filter fun k=>decide (i<k)&&M i k).map fun k=>(i,k)
theorem Zjh {N:Nat}{M:Nat→Nat→Bool}{i k:Nat}:(i,k)∈prs N M↔i<k∧k<N∧M i k=true:=by
 simp only [prs,List.mem_flatMap,List.mem_range,List.mem_map,List.mem_filter,Bool.and_eq_true,decide_eq_true_eq,Prod.mk.injEq];constructor
 ·rintro ⟨i',h1,k',⟨h2,h3,h4⟩,rfl,rfl⟩;exact ⟨h3,h2,h4⟩
 ·rintro ⟨h1,h2,h3⟩;exact ⟨i,by omega,k,⟨h2,h1,h3⟩,rfl,rfl⟩
theorem ZnM {N:Nat}{M:Nat→Nat→Bool}:(prs N M).length≤N*N:=by
 have key:∀ n,((List.range n).flatMap fun i=>((List.range N).filter fun k=>decide (i<k)&&M i k).map fun k=>(i,k)).length≤n*N:=by
  intro n
  induction n with
  | zero=>simp
  | succ n ih =>
   rw [List.range_succ,List.flatMap_append,List.length_append,Nat.add_mul,Nat.one_mul];refine Nat.add_le_add ih ?_;simp only [List.flatMap_cons,List.flatMap_nil,List.append_nil,List.length_map];have:=List.length_filter_le (fun k=>decide (n<k)&&M n k) (List.range N);simpa using this
 exact key N
def toA (p:Nat×Nat):A2 Int:=⟨p.1,p.2⟩
section
variable {X Y:List Int}{V H:List (List Int)}
theorem ZlW {arcs:List Zj}{n:Nat}(hn:n≤1000) (hr:InR n arcs) (hl:arcs.length≤1000000) {g:zC}(h:RR n g fun _ _=>False) {F:(List (List Int))×Int→Option (((List (List Int))×Int)⊕(List (List Int)))}
  (hF:∀ (s:List (List Int)) (i:Int),F (s,i)=if decide (i<(arcs.length:Int))=true then ck ((0:Int)≤i∧i<(arcs.length:Int)) ((zm ⟨s⟩ (gi arcs i.toNat).From (gi arcs i.toNat).To).bind fun x=>ck (ZaA (i+1)) (some (.inl (x.2.rows,i+1)))) else some (.inr s)):∃ s,ZZ F big (g.rows,0)=some s∧RR n ⟨s⟩ (Pth arcs):=by
 have:=Zn3 (step:=F) (n:=arcs.length) (fun i s=>RR n ⟨s⟩ (Pth (arcs.take i))) (s0:=g.rows) (f:=id) (by omega) ?_ (fun i s hi hI=>?_) (fun s hI=>?_)
 ·obtain ⟨s,e,h⟩:=this;rw [List.take_length] at h;exact ⟨s,e,h⟩
 ·exact h.congr fun u v _ _=>⟨fun q=>q.elim,fun q=>(Pth.nil q).elim⟩
 ·have a:=hr _ (ZaG hi);obtain ⟨e,r',q1,q2⟩:=Zmx hI (fun _ _ _ a b=>a.trans b) (by omega) (u:=(gi arcs i).From.toNat) (v:=(gi arcs i).To.toNat) (by omega) (by omega);rw [Int.toNat_of_nonneg a.1.1,Int.toNat_of_nonneg a.2.1] at q1;rw [hF,ZU (by omega),Zx (by omega),itn,q1,obs,zZ (by omega)];refine ⟨_,rfl,q2.congr fun u v _ _=>?_⟩;rw [ZeK hi];exact (Pth.snoc (e:=gi arcs i)).symm
 ·rw [hF,ZT (by omega)];rfl
theorem ZoX {l:List Za}(hc:Ck l) (hl:l.length≤64) (A:AllCh l 1∧AllCh l 0):∃ X Y V H s,Zdj l=some (⟨⟨X,Y,V,H⟩,ZcJ l X 0 l.length,ZcJ l Y 1 l.length⟩,0)∧CH l 1 X V∧CH l 0 Y H ∧
  zQ l=some (s,(prs (LN V H).length fun i k=>!shc V H (gi (LN V H) i) (gi (LN V H) k)).map toA)∧SS X Y V H (ZcJ l X 0 l.length) (ZcJ l Y 1 l.length) s:=by
 obtain ⟨X,Y,V,H,e1,cx,cy⟩:=Zn4 hc hl A;have x3:=cx.Ll;have y3:=cy.Ll;have oV:=cx.ok hc (by omega) (by omega);have oH:=cy.ok hc (by omega) (by omega);have ll:(LN V H).length≤128:=by
  unfold LN;rw [List.length_append];have a:=Zdz (b:=true) (L:=V) (n:=V.length);have b:=Zdz (b:=false) (L:=H) (n:=H.length);omega
 have gl:∀ of d,(ZcJ l of d l.length).length≤64:=fun of d=>Nat.le_trans (Zgb _) hl;obtain ⟨r1,f1,g1⟩:=ZiB (n:=V.length) (by omega);obtain ⟨r2,f2,g2⟩:=ZiB (n:=H.length) (by omega);obtain ⟨s1,a1,b1⟩:=ZlW (F:=zQ.s0 ⟨⟨X,Y,V,H⟩,ZcJ l X 0 l.length,ZcJ l Y 1 l.length⟩) (by omega) (Zjb hc (by omega) cx) (by have:=gl X 0;omega) g1 (fun _ _=>rfl);obtain ⟨s2,a2,b2⟩:=ZlW (F:=zQ.s1 ⟨⟨X,Y,V,H⟩,ZcJ l X 0 l.length,ZcJ l Y 1 l.length⟩) (by omega) (Zjb hc (by omega) cy) (by have:=gl Y 1;omega) g2 (fun _ _=>rfl);generalize hN:(LN V H).length=N at ll;have a3:ZZ (zQ.s2 ⟨⟨X,Y,V,H⟩,ZcJ l X 0 l.length,ZcJ l Y 1 l.length⟩ ((LN V H).map Zdy)) big (([]:List Zam),0)=some ((LN V H).map (sd X Y V H)):=by
  refine ZbK (fun i:Nat=>(((LN V H).take i).map (sd X Y V H),(i:Int))) (n:=N) (ZaJ (by omega)) (by simp) (fun i hi=>?_) ?_
  ·simp only [zQ.s2,List.length_map,itn];rw [ZU (by omega),Zx (by omega),ZcD (by omega),ZqH oV oH cx.alen cy.alen (ZaG (by omega)),obs,Zx (by simp;omega),zZ (by omega),ZeK (by omega)];simp
  ·simp only [zQ.s2,List.length_map];rw [ZT (by omega),← hN,List.take_length]
 generalize hM:(fun i k=>!shc V H (gi (LN V H) i) (gi (LN V H) k))=M;have inner:∀ i,i<N→∀ o:List (A2 Int),o.length≤100000→ZZ (zQ.s4 ⟨⟨X,Y,V,H⟩,ZcJ l X 0 l.length,ZcJ l Y 1 l.length⟩ ((LN V H).map Zdy) i) big (o,((i+1:Nat):Int))=some (o++(((List.range N).filter fun k=>decide (i<k)&&M i k).map fun k=>(i,k)).map toA):=by
  intro i hi o ho;have f0:(List.range (i+1)).filter (fun k=>decide (i<k)&&M i k)=[]:=by
   rw [List.filter_eq_nil_iff];intro k hk;have:=List.mem_range.1 hk;simp;omega
  have:=ZbK (step:=zQ.s4 ⟨⟨X,Y,V,H⟩,ZcJ l X 0 l.length,ZcJ l Y 1 l.length⟩ ((LN V H).map Zdy) i) (fun n:Nat=>(o++(((List.range (i+1+n)).filter fun k=>decide (i<k)&&M i k).map fun k=>(i,k)).map toA,((i+1+n:Nat):Int))) (s0:=(o,((i+1:Nat):Int))) (n:=N-(i+1)) (r:=o++(((List.range N).filter fun k=>decide (i<k)&&M i k).map fun k=>(i,k)).map toA) (ZaJ (by omega)) (by rw [Nat.add_zero,f0];simp) (fun n hn=>?_) ?_
  ·exact this
  ·generalize hk:i+1+n=k;have flen:=List.length_filter_le (fun k=>decide (i<k)&&M i k) (List.range k);rw [List.length_range] at flen;have me:=ZoW hc hl cx cy (gi (LN V H) i).1 (gi (LN V H) k).1 (gi (LN V H) i).2 (gi (LN V H) k).2;have me':ZbQ ⟨X,Y,V,H⟩ (Zdy (gi (LN V H) i)).Vertical (Zdy (gi (LN V H) i)).Place (Zdy (gi (LN V H) k)).Vertical (Zdy (gi (LN V H) k)).Place=some (!M i k):=by rw [← hM,Bool.not_not];exact me
   simp only [zQ.s4,List.length_map,itn];rw [ZU (by omega),Zx (by omega),ZcD (by omega),ZcD (by omega),me',obs,Bool.not_not,show i+1+(n+1)=k+1 by omega,List.range_succ,List.filter_append];by_cases c:M i k=true
   ·rw [if_pos c,Zx (by simp;omega),zZ (by omega),List.filter_cons,if_pos (by rw [c];simp;omega)];simp [toA]
   ·rw [if_neg c,zZ (by omega),List.filter_cons,if_neg (by simp [c])];simp
  ·rw [show i+1+(N-(i+1))=N by omega];simp only [zQ.s4,List.length_map];rw [ZT (by omega)]
 have a4:ZZ (zQ.s3 ⟨⟨X,Y,V,H⟩,ZcJ l X 0 l.length,ZcJ l Y 1 l.length⟩ ((LN V H).map Zdy)) big (([]:List (A2 Int)),0)=some ((prs N M).map toA):=by
  refine ZbK (fun n:Nat=>(((List.range n).flatMap fun i=>((List.range N).filter fun k=>decide (i<k)&&M i k).map fun k=>(i,k)).map toA,(n:Int))) (n:=N) (ZaJ (by omega)) rfl (fun n hn=>?_) ?_
  ·have bl:(((List.range n).flatMap fun i=>((List.range N).filter fun k=>decide (i<k)&&M i k).map fun k=>(i,k)).map toA).length≤n*N:=by
    rw [List.length_map];clear inner
    induction n with
    | zero=>simp
    | succ n ih =>
     have:=ih (by omega);rw [List.range_succ,List.flatMap_append,List.length_append,Nat.add_mul,Nat.one_mul];refine Nat.add_le_add this ?_;simp only [List.flatMap_cons,List.flatMap_nil,List.append_nil,List.length_map];have:=List.length_filter_le (fun k=>decide (n<k)&&M n k) (List.range N);simpa using this
   have:n*N≤128*128:=Nat.mul_le_mul (by omega) ll;simp only [zQ.s3,List.length_map];rw [ZU (by omega),Zx (by omega),zZ (by omega),show (n:Int)+1=((n+1:Nat):Int) by omega,inner n hn _ (by omega),obs,List.range_succ,List.flatMap_append,List.map_append];simp only [List.flatMap_cons,List.flatMap_nil,List.append_nil]
  ·simp only [zQ.s3,List.length_map];rw [ZT (by omega)];rfl
 refine ⟨X,Y,V,H,⟨⟨⟨⟨X,Y,V,H⟩,ZcJ l X 0 l.length,ZcJ l Y 1 l.length⟩,[]⟩,⟨s1⟩,⟨s2⟩,(LN V H).map Zdy,(LN V H).map (sd X Y V H)⟩,e1,cx,cy,?_,⟨rfl,rfl,b1,b2,rfl,rfl,Zjb hc (by omega) cx,Zjb hc (by omega) cy⟩⟩;unfold zQ;rw [e1,obs];dsimp only;rw [ZoR (by omega) (by omega),obs,f1,obs];dsimp only;rw [obs,f2,obs];dsimp only;rw [obs,a1,obs,a2,obs,a3,obs,a4,obs,hM,hN]
end
end Mu
/- Layer 19: settling comes to an end. -/
namespace Mu
open Go (IntKind)
inductive Der (P:List (Nat×Nat)) (W:Nat→Nat→List Zr) (h0 v0:List Zj):List Zj→List Zj→Prop
 | refl:Der P W h0 v0 h0 v0
 | step {hs vs:List Zj}{i k:Nat}{w:Zr}(d:Der P W h0 v0 hs vs) (hp:(i,k)∈P) (h:∀ w∈W i k,¬ isP hs vs w) (e:(W i k).filter (Zgo hs vs)=[w]):Der P W h0 v0 (fH hs w) (fV vs w)
theorem Zke {hs:List Zj}{w:Zr}:∀ a∈hs,a∈fH hs w:=fun a ha=>by unfold fH;split<;>simp [ha]
theorem Zkf {vs:List Zj}{w:Zr}:∀ a∈vs,a∈fV vs w:=fun a ha=>by unfold fV;split<;>simp [ha]
theorem Der.base {P:List (Nat×Nat)}{W:Nat→Nat→List Zr}{h0 v0 hs vs:List Zj}(D:Der P W h0 v0 hs vs):(∀ a∈h0,a∈hs)∧∀ a∈v0,a∈vs:=by
 induction D with
 | refl=>exact ⟨fun a h=>h,fun a h=>h⟩
 | step d hp h e ih=>exact ⟨fun a ha=>Zke a (ih.1 a ha),fun a ha=>Zkf a (ih.2 a ha)⟩
theorem Zmu {hs vs hs' vs':List Zj}(h:∀ a∈hs,a∈hs') (v:∀ a∈vs,a∈vs') {w:Zr}(p:isP hs vs w):isP hs' vs' w:=by
 unfold isP grW at p ⊢;split at p
 ·rename_i c;rw [if_pos c];exact p.mono h
 ·rename_i c;rw [if_neg c];exact p.mono v
theorem Zlu {hs vs:List Zj}{w:Zr}:isP (fH hs w) (fV vs w) w:=by
 unfold isP grW fH fV;by_cases c:w.horizontal=true
 ·rw [if_pos c,if_pos c];exact .one (a:=Zj7 w) (by simp)
 ·rw [if_neg c,if_neg c];exact .one (a:=Zj7 w) (by simp)
theorem ZpO {hs vs:List Zj}{w:Zr}:(fH hs w).length+(fV vs w).length=hs.length+vs.length+1:=by
 unfold fH fV;split<;>simp<;>omega
def ptd (W:Nat→Nat→List Zr) (hs vs:List Zj) (p:Nat×Nat):Prop:=∃ w∈W p.1 p.2,isP hs vs w
noncomputable def npB (W:Nat→Nat→List Zr) (hs vs:List Zj) (p:Nat×Nat):Bool:=!(W p.1 p.2).any (isF hs vs)
theorem Zh9 {W:Nat→Nat→List Zr}{hs vs:List Zj}{p:Nat×Nat}:npB W hs vs p=true↔¬ ptd W hs vs p:=by
 simp only [npB,ptd,Bool.not_eq_true',List.any_eq_false,Zh6,not_exists,not_and]
theorem ZjJ {W:Nat→Nat→List Zr}{hs vs hs' vs':List Zj}(h:∀ a∈hs,a∈hs') (v:∀ a∈vs,a∈vs') {p:Nat×Nat}(q:ptd W hs vs p):ptd W hs' vs' p:=by
 obtain ⟨w,hw,q⟩:=q;exact ⟨w,hw,Zmu h v q⟩
def Zon (P:List (Nat×Nat)) (W:Nat→Nat→List Zr) (hs vs:List Zj):Prop:=∀ p∈P,ptd W hs vs p∨((W p.1 p.2).filter (Zgo hs vs)).length≠1
theorem Zkg {α:Type}{f:α→Bool}{L P:List α}(h:L.Sublist P) (nd:P.Nodup) (q:∀ p∈P,p ∉ L→f p=false):P.filter f=L.filter f:=by
 induction h with
 | slnil=>rfl
 | @cons L P a h ih =>
  rw [List.nodup_cons] at nd;have ha:f a=false:=q a (by simp) fun hm=>nd.1 (h.subset hm);rw [List.filter_cons,if_neg (by simp [ha])];exact ih nd.2 fun p hp hl=>q p (by simp [hp]) hl
 | @cons_cons L P a h ih =>
  rw [List.nodup_cons] at nd;have:=ih nd.2 fun p hp hl=>q p (by simp [hp]) fun hm=>by
   rcases List.mem_cons.1 hm with rfl|hm
   ·exact nd.1 hp
   ·exact hl hm
  rw [List.filter_cons,List.filter_cons,this]
theorem Zpj {N:Nat}{M:Nat→Nat→Bool}:(prs N M).Nodup:=by
 unfold prs List.Nodup;rw [List.pairwise_flatMap];refine ⟨fun i _=>List.pairwise_map.2 ((List.Pairwise.filter _ List.nodup_range).imp fun h e=>h (by simpa using e)),(List.nodup_range (n:=N)).imp fun {i j} h=>?_⟩;intro x hx y hy e;obtain ⟨k,_,rfl⟩:=List.mem_map.1 hx;obtain ⟨k',_,rfl⟩:=List.mem_map.1 hy;exact h (congrArg Prod.fst e)

abbrev SeT:=(List Int)×(List Int)×(List (List Int))×(List (List Int))×(List Zj)×(List Zj)×(List (A2 ZH))×(List (List Int))×(List (List Int))×(List ZH)×(List Zam)×Bool×(List (A2 Int))×Int
def tS (s:zq) (c:Bool) (o:List (A2 Int)) (x:Int):SeT:=(s.result.Graphs.Chains.X,s.result.Graphs.Chains.Y,s.result.Graphs.Chains.Vert,s.result.Graphs.Chains.Horz,s.result.Graphs.H,s.result.Graphs.V,s.result.Open,s.h.rows,s.v.rows,s.lines,s.sides,c,o,x)
section
variable {X Y:List Int}{V H:List (List Int)}{l:List Za}{h0 v0:List Zj}{P:List (Nat×Nat)}
structure ScI (X Y:List Int) (V H:List (List Int)) (P:List (Nat×Nat)) (h0 v0:List Zj) (C0:Nat) (O:List (Nat×Nat)) (h1 v1:List Zj) (j:Nat) (s:zq) (c:Bool) (L:List (Nat×Nat)) (hs vs:List Zj):Prop where
 ss:SS X Y V H hs vs s
 der:Der P (wyN X Y V H) h0 v0 hs vs
 sub:L.Sublist (O.take j)
 pd:∀ p∈O.take j,p ∉ L→ptd (wyN X Y V H) hs vs p
 hm:∀ a∈h1,a∈hs
 vm:∀ a∈v1,a∈vs
 len:hs.length+vs.length+L.length+(O.length-j)≤C0
 f:c=false→hs=h1∧vs=v1∧L=(O.take j).filter (npB (wyN X Y V H) h1 v1)∧∀ p∈L,((wyN X Y V H p.1 p.2).filter (Zgo h1 v1)).length≠1
 t:c=true→L.length<j
theorem ZnC (hc:Ck l) (cx:CH l 1 X V) (cy:CH l 0 Y H) (hV:V.length≤1000) (hH:H.length≤1000) {C0:Nat}(hC:C0≤10000000) {O:List (Nat×Nat)}(hO:O.Sublist P) (hP:∀ p∈P,p.1<(LN V H).length∧p.2<(LN V H).length) {h1 v1:List Zj}{s1:zq}(S1:SS X Y V H h1 v1 s1) (D1:Der P (wyN X Y V H) h0 v0 h1 v1) (hlen:h1.length+v1.length+O.length≤C0) :
  ∃ s c L hs vs,ZZ (zA.s1 (O.map toA)) big (tS s1 false [] 0)=some ((s.result.Graphs.Chains.X,s.result.Graphs.Chains.Y,s.result.Graphs.Chains.Vert,s.result.Graphs.Chains.Horz,s.result.Graphs.H,s.result.Graphs.V,s.result.Open,s.h.rows,s.v.rows,s.lines,s.sides,c,L.map toA))∧ScI X Y V H P h0 v0 C0 O h1 v1 O.length s c L hs vs:=by
 have key:=Zc1 (step:=zA.s1 (O.map toA)) (n:=O.length) (fun j p=>∃ s c L hs vs,p=tS s c (L.map toA) j∧ScI X Y V H P h0 v0 C0 O h1 v1 j s c L hs vs) (s0:=tS s1 false [] 0)
  (R:=fun r=>∃ s c L hs vs,r=(s.result.Graphs.Chains.X,s.result.Graphs.Chains.Y,s.result.Graphs.Chains.Vert,s.result.Graphs.Chains.Horz,s.result.Graphs.H,s.result.Graphs.V,s.result.Open,s.h.rows,s.v.rows,s.lines,s.sides,c,L.map toA)∧ScI X Y V H P h0 v0 C0 O h1 v1 O.length s c L hs vs) (ZaJ (by omega)) ?_ ?_ ?_
 ·obtain ⟨r,e,s,c,L,hs,vs,rfl,h⟩:=key;exact ⟨s,c,L,hs,vs,e,h⟩
 ·exact ⟨s1,false,[],h1,v1,rfl,S1,D1,by simp,by simp,fun a h=>h,fun a h=>h,by simpa using hlen,fun _=>⟨rfl,rfl,by simp,by simp⟩,fun h=>by cases h⟩
 ·rintro j _ hj ⟨s,c,L,hs,vs,rfl,I⟩;have hm:=hO.subset (ZaG hj);obtain ⟨b1,b2⟩:=hP _ hm;have ilen:=I.len;obtain ⟨p,f,s',hs',vs',e,S',lk⟩:=Zqb hc cx cy I.ss hV hH (by omega) (by omega) b1 b2;have tk:=ZeK hj;have ga:gi (O.map toA) j=toA (gi O j):=ZcD hj;have sl:=I.sub.length_le;rw [List.length_take] at sl;have st:∀ (L':List (Nat×Nat)),zA.s1 (O.map toA) (tS s c (L.map toA) j)=(if (!p)=true then ck ((L.map toA).length+[gi (O.map toA) (j:Int).toNat].length≤1000000000) (ck (ZaA ((j:Int)+1)) (some (.inl (tS s' (c||f) (L.map toA++[gi (O.map toA) (j:Int).toNat]) ((j:Int)+1))))) else ck (ZaA ((j:Int)+1)) (some (.inl (tS s' (c||f) (L.map toA) ((j:Int)+1))))):=by
   intro _;unfold zA.s1 tS;dsimp only;rw [ZU (show (j:Int)<((O.map toA).length:Int) by simp;omega),Zx (by simp;omega)];have:Zbw s ((gi (O.map toA) (j:Int).toNat).get 0) ((gi (O.map toA) (j:Int).toNat).get 1)=some (p,f,s'):=by
    rw [itn,ga];exact e
   change ((Zbw s ((gi (O.map toA) (j:Int).toNat).get 0) ((gi (O.map toA) (j:Int).toNat).get 1)).bind _=_);rw [this,obs]
  rw [st L,itn,ga]
  cases lk with
  | @is w hw q =>
   rw [if_neg (by decide),zZ (by omega)];refine ⟨_,rfl,s',c||false,L,hs,vs,rfl,S',I.der,?_,fun p hp hl=>?_,I.hm,I.vm,by omega,fun hc'=>?_,fun hc'=>?_⟩
   ·rw [tk];exact I.sub.trans (List.sublist_append_left _ _)
   ·rw [tk] at hp;rcases List.mem_append.1 hp with hp|hp
    ·exact I.pd p hp hl
    ·have:p=gi O j:=by simpa using hp
     subst this;exact ⟨w,hw,q⟩
   ·rw [Bool.or_false] at hc';obtain ⟨rfl,rfl,f3,f4⟩:=I.f hc';refine ⟨rfl,rfl,?_,f4⟩;rw [tk,List.filter_append,← f3];have:npB (wyN X Y V H) hs vs (gi O j)=false:=by
     rw [← Bool.not_eq_true,Zh9,Classical.not_not];exact ⟨w,hw,q⟩
    simp [this]
   ·rw [Bool.or_false] at hc';have:=I.t hc';omega
  | no q n =>
   rw [if_pos (by decide),Zx (by simp;omega),zZ (by omega)];refine ⟨_,rfl,s',c||false,L++[gi O j],hs,vs,by simp,S',I.der,?_,fun p hp hl=>?_,I.hm,I.vm,by rw [List.length_append];simp;omega,fun hc'=>?_,fun hc'=>?_⟩
   ·rw [tk];exact I.sub.append (List.Sublist.refl _)
   ·rw [tk] at hp;rcases List.mem_append.1 hp with hp|hp
    ·exact I.pd p hp fun h=>hl (by simp [h])
    ·exact absurd (by simpa using .inr (by simpa using hp)) hl
   ·rw [Bool.or_false] at hc';obtain ⟨rfl,rfl,f3,f4⟩:=I.f hc';refine ⟨rfl,rfl,?_,fun p hp=>?_⟩
    ·rw [tk,List.filter_append,← f3];have:npB (wyN X Y V H) hs vs (gi O j)=true:=by
      rw [Zh9];rintro ⟨w,hw,h⟩;exact q w hw h
     simp [this]
    ·rcases List.mem_append.1 hp with hp|hp
     ·exact f4 p hp
     ·have:p=gi O j:=by simpa using hp
      subst this;exact n
   ·rw [Bool.or_false] at hc';have:=I.t hc';rw [List.length_append];simp;omega
  | @force w q e1 =>
   rw [if_neg (by decide),zZ (by omega)];have fl:=ZpO (hs:=hs) (vs:=vs) (w:=w);have hw:w∈wyN X Y V H (gi O j).1 (gi O j).2:=(List.mem_filter.1 (e1 ▸ List.mem_singleton.2 rfl:w∈(wyN X Y V H (gi O j).1 (gi O j).2).filter (Zgo hs vs))).1;refine ⟨_,rfl,s',c||true,L,_,_,rfl,S',.step I.der hm q e1,?_,fun p hp hl=>?_,fun a ha=>Zke a (I.hm a ha),fun a ha=>Zkf a (I.vm a ha),by omega,fun hc'=>by simp at hc',fun hc'=>by omega⟩
   ·rw [tk];exact I.sub.trans (List.sublist_append_left _ _)
   ·rw [tk] at hp;rcases List.mem_append.1 hp with hp|hp
    ·exact ZjJ Zke Zkf (I.pd p hp hl)
    ·have:p=gi O j:=by simpa using hp
     subst this;exact ⟨w,hw,Zlu⟩
 ·rintro _ ⟨s,c,L,hs,vs,rfl,I⟩;refine ⟨_,?_,s,c,L,hs,vs,rfl,I⟩;unfold zA.s1 tS;dsimp only;rw [ZT (show ¬ (O.length:Int)<((O.map toA).length:Int) by simp)]
theorem ZnD (hc:Ck l) (cx:CH l 1 X V) (cy:CH l 0 Y H) (hV:V.length≤1000) (hH:H.length≤1000) (hP:∀ p∈P,p.1<(LN V H).length∧p.2<(LN V H).length) (nd:P.Nodup) {s0:zq}(S0:SS X Y V H h0 v0 s0) (hlen:h0.length+v0.length+P.length≤10000000) :
  ∃ s hs vs,ZZ zA.s0 big (s0.result.Graphs.Chains.X,s0.result.Graphs.Chains.Y,s0.result.Graphs.Chains.Vert,s0.result.Graphs.Chains.Horz,s0.result.Graphs.H,s0.result.Graphs.V,s0.result.Open,s0.h.rows,s0.v.rows,s0.lines,s0.sides,P.map toA,true)=some (s.result.Graphs.Chains.X,s.result.Graphs.Chains.Y,s.result.Graphs.Chains.Vert,s.result.Graphs.Chains.Horz,s.result.Graphs.H,s.result.Graphs.V,s.result.Open,s.h.rows,s.v.rows,s.lines,s.sides,(P.filter (npB (wyN X Y V H) hs vs)).map toA) ∧
   SS X Y V H hs vs s∧Der P (wyN X Y V H) h0 v0 hs vs∧Zon P (wyN X Y V H) hs vs∧hs.length+vs.length≤h0.length+v0.length+P.length:=by
 have key:=Zeh (step:=zA.s0) (s0:=(s0.result.Graphs.Chains.X,s0.result.Graphs.Chains.Y,s0.result.Graphs.Chains.Vert,s0.result.Graphs.Chains.Horz,s0.result.Graphs.H,s0.result.Graphs.V,s0.result.Open,s0.h.rows,s0.v.rows,s0.lines,s0.sides,P.map toA,true))
  (fun x=>2*x.2.2.2.2.2.2.2.2.2.2.2.1.length+if x.2.2.2.2.2.2.2.2.2.2.2.2=true then 1 else 0)
  (fun x=>∃ (s:zq) (hs vs:List Zj) (O:List (Nat×Nat)) (c:Bool),x=(s.result.Graphs.Chains.X,s.result.Graphs.Chains.Y,s.result.Graphs.Chains.Vert,s.result.Graphs.Chains.Horz,s.result.Graphs.H,s.result.Graphs.V,s.result.Open,s.h.rows,s.v.rows,s.lines,s.sides,O.map toA,c)∧SS X Y V H hs vs s∧Der P (wyN X Y V H) h0 v0 hs vs∧O.Sublist P∧(∀ p∈P,p ∉ O→ptd (wyN X Y V H) hs vs p)∧hs.length+vs.length+O.length≤h0.length+v0.length+P.length∧(c=false→O=O.filter (npB (wyN X Y V H) hs vs)∧∀ p∈O,((wyN X Y V H p.1 p.2).filter (Zgo hs vs)).length≠1))
  (R:=fun r=>∃ (s:zq) (hs vs:List Zj),r=(s.result.Graphs.Chains.X,s.result.Graphs.Chains.Y,s.result.Graphs.Chains.Vert,s.result.Graphs.Chains.Horz,s.result.Graphs.H,s.result.Graphs.V,s.result.Open,s.h.rows,s.v.rows,s.lines,s.sides,(P.filter (npB (wyN X Y V H) hs vs)).map toA)∧SS X Y V H hs vs s∧Der P (wyN X Y V H) h0 v0 hs vs∧Zon P (wyN X Y V H) hs vs∧hs.length+vs.length≤h0.length+v0.length+P.length)
  ?_ ?_ ?_
 ·obtain ⟨r,e,s,hs,vs,rfl,h⟩:=key;exact ⟨s,hs,vs,e,h⟩
 ·have:2*P.length+1<big:=by unfold big;omega
  simpa using this
 ·exact ⟨s0,h0,v0,P,true,rfl,S0,.refl,List.Sublist.refl _,fun p hp hl=>absurd hp hl,Nat.le_refl _,fun h=>by cases h⟩
 ·rintro _ ⟨s,hs,vs,O,c,rfl,S,D,sub,pd,len,fin⟩
  cases c with
  | true =>
   left;obtain ⟨s',c',L,hs',vs',e,I⟩:=ZnC hc cx cy hV hH (C0:=h0.length+v0.length+P.length) (by omega) sub hP S D len;have e':zA.s0 (s.result.Graphs.Chains.X,s.result.Graphs.Chains.Y,s.result.Graphs.Chains.Vert,s.result.Graphs.Chains.Horz,s.result.Graphs.H,s.result.Graphs.V,s.result.Open,s.h.rows,s.v.rows,s.lines,s.sides,O.map toA,true)=some (.inl (s'.result.Graphs.Chains.X,s'.result.Graphs.Chains.Y,s'.result.Graphs.Chains.Vert,s'.result.Graphs.Chains.Horz,s'.result.Graphs.H,s'.result.Graphs.V,s'.result.Open,s'.h.rows,s'.v.rows,s'.lines,s'.sides,L.map toA,c')):=by
    unfold zA.s0;unfold tS at e;dsimp only;rw [if_pos rfl,e,obs]
   have tl:=List.take_length (l:=O);have isub:=I.sub;have ipd:=I.pd;have it:=I.t;have ifn:=I.f;rw [tl] at isub ipd ifn;have il:=I.len;have sl:=isub.length_le;refine ⟨_,e',⟨s',hs',vs',L,c',rfl,I.ss,I.der,isub.trans sub,fun p hp hl=>?_,by omega,fun h=>?_⟩,?_⟩
   ·by_cases hO:p∈O
    ·exact ipd p hO hl
    ·exact ZjJ I.hm I.vm (pd p hp hO)
   ·obtain ⟨rfl,rfl,f3,f4⟩:=ifn h;refine ⟨?_,f4⟩;rw [f3,List.filter_filter];congr 1;funext x;simp
   ·dsimp only;rw [List.length_map,List.length_map,if_pos rfl]
    cases c' with
    | true=>have:=it rfl;rw [if_pos rfl];omega
    | false=>rw [if_neg (by decide)];omega
  | false =>
   right;obtain ⟨f1,f2⟩:=fin rfl;refine ⟨(s.result.Graphs.Chains.X,s.result.Graphs.Chains.Y,s.result.Graphs.Chains.Vert,s.result.Graphs.Chains.Horz,s.result.Graphs.H,s.result.Graphs.V,s.result.Open,s.h.rows,s.v.rows,s.lines,s.sides,O.map toA),rfl,s,hs,vs,?_,S,D,fun p hp=>?_,by omega⟩
   ·rw [Zkg sub nd fun p hp hl=>?_,← f1];rw [← Bool.not_eq_true,Zh9,Classical.not_not];exact pd p hp hl
   ·by_cases hO:p∈O
    ·exact .inr (f2 p hO)
    ·exact .inl (pd p hp hO)
def PR (V H:List (List Int)):List (Nat×Nat):=prs (LN V H).length fun i k=>!shc V H (gi (LN V H) i) (gi (LN V H) k)
def opL (V H:List (List Int)) (p:Nat×Nat):A2 ZH:=⟨Zdy (gi (LN V H) p.1),Zdy (gi (LN V H) p.2)⟩
theorem ZnE (hc:Ck l) (hl:l.length≤64) (hv:Zij l=0) (A:AllCh l 1∧AllCh l 0):∃ X Y V H hs vs,Zdj l=some (⟨⟨X,Y,V,H⟩,ZcJ l X 0 l.length,ZcJ l Y 1 l.length⟩,0)∧CH l 1 X V∧CH l 0 Y H ∧
  zA l=some (⟨⟨⟨X,Y,V,H⟩,hs,vs⟩,((PR V H).filter (npB (wyN X Y V H) hs vs)).map (opL V H)⟩,0)∧Der (PR V H) (wyN X Y V H) (ZcJ l X 0 l.length) (ZcJ l Y 1 l.length) hs vs∧Zon (PR V H) (wyN X Y V H) hs vs ∧
  hs.length+vs.length≤2*l.length+(PR V H).length∧(PR V H).length≤(2*l.length)*(2*l.length)∧InR V.length hs∧InR H.length vs:=by
 obtain ⟨X,Y,V,H,s,e1,cx,cy,e2,S⟩:=ZoX hc hl A;have x3:=cx.Ll;have y3:=cy.Ll;have ll:(LN V H).length≤2*l.length:=by
  unfold LN;rw [List.length_append];have a:=Zdz (b:=true) (L:=V) (n:=V.length);have b:=Zdz (b:=false) (L:=H) (n:=H.length);omega
 have pl:(PR V H).length≤(2*l.length)*(2*l.length):=Nat.le_trans ZnM (Nat.mul_le_mul ll ll);have pl2:(2*l.length)*(2*l.length)≤128*128:=Nat.mul_le_mul (by omega) (by omega);have g0:=Zgb (l:=l) (of:=X) (d:=0) l.length;have g1:=Zgb (l:=l) (of:=Y) (d:=1) l.length;have hP:∀ p∈PR V H,p.1<(LN V H).length∧p.2<(LN V H).length:=fun p hp=>by
  obtain ⟨i,k⟩:=p;have:=Zjh.1 hp;exact ⟨by dsimp only;omega,by dsimp only;omega⟩
 obtain ⟨s',hs,vs,e3,S',D,C,len⟩:=ZnD hc cx cy (by omega) (by omega) hP Zpj S (by omega);refine ⟨X,Y,V,H,hs,vs,e1,cx,cy,?_,D,C,by omega,pl,S'.ih,S'.iv⟩;have e4:ZZ (zA.s2 ((LN V H).map Zdy) (((PR V H).filter (npB (wyN X Y V H) hs vs)).map toA)) big (([]:List (A2 ZH)),0)=some (((PR V H).filter (npB (wyN X Y V H) hs vs)).map (opL V H)):=by
  generalize hF:(PR V H).filter (npB (wyN X Y V H) hs vs)=F;have fl:F.length≤128*128:=by rw [← hF];have:=List.length_filter_le (npB (wyN X Y V H) hs vs) (PR V H);omega
  have fm:∀ j,j<F.length→(gi F j).1<(LN V H).length∧(gi F j).2<(LN V H).length:=fun j hj=>hP _ (by
   have:=ZaG hj;rw [← hF] at this ⊢;exact (List.mem_filter.1 this).1)
  refine ZbK (fun j:Nat=>((F.take j).map (opL V H),(j:Int))) (n:=F.length) (ZaJ (by omega)) rfl (fun j hj=>?_) ?_
  ·obtain ⟨m1,m2⟩:=fm j hj;have g:gi (F.map toA) j=toA (gi F j):=ZcD hj;have t0:(toA (gi F j)).get 0=((gi F j).1:Int):=rfl;have t1:(toA (gi F j)).get 1=((gi F j).2:Int):=rfl;simp only [zA.s2,List.length_map,itn];rw [ZU (by omega),Zx (by omega),g,t0,t1,Zx (by omega),Zx (by omega),Zx (by simp;omega),zZ (by omega),itn,itn,ZcD m1,ZcD m2,ZeK hj,List.map_append];rfl
  ·simp only [zA.s2,List.length_map];rw [ZT (by omega),List.take_length]
 unfold zA;rw [ZkQ (by omega),obs,Zc6 hv,e2,obs];dsimp only;change (ZZ zA.s0 big (_,_,_,_,_,_,_,_,_,_,_,(PR V H).map toA,true)).bind _=_;rw [e3,obs];dsimp only;rw [S'.op,S'.li,e4,obs,S'.g]
end
end Mu
/- Cells on a plane: their lines do not cross. -/
namespace Mu
theorem Made.pln {l:List Za}{at_:List Zg}(h:Made l at_):Pln l (fun v=>(gi at_ v).X) (fun v=>(gi at_ v).Y):=by
 have G:=h.geo;have hl:=h.len;refine ⟨h.ck,Str.of h.ck fun v hv=>⟨h.okE hv (by omega),h.okE hv (by omega)⟩,fun z w hz hw ex ey=>G.inj z w hz hw ex ey,?_,?_⟩
 ·intro z d hz w hw a b c;obtain ⟨n,n1,e1,e2,e3⟩:=G.str (z,d) hz;dsimp only at e1 e2 e3;have d4:d<4:=hz.2.1;have:d=0∨d=1∨d=2∨d=3:=by omega
  unfold tg at c;rcases this with rfl|rfl|rfl|rfl<;>simp [al,ac,dx,dy] at a b c e1 e2 e3
  ·exact e3 w hw ((gi at_ w).X-(gi at_ z).X).toNat (by omega) (by omega) (by omega) (by omega)
  ·exact e3 w hw ((gi at_ w).Y-(gi at_ z).Y).toNat (by omega) (by omega) (by omega) (by omega)
  ·exact e3 w hw ((gi at_ z).X-(gi at_ w).X).toNat (by omega) (by omega) (by omega) (by omega)
  ·exact e3 w hw ((gi at_ z).Y-(gi at_ w).Y).toNat (by omega) (by omega) (by omega) (by omega)
 ·rintro ⟨a,d⟩ ⟨b,e⟩ ha hb h0 h1 x1 x2 y1 y2;dsimp only at h0 h1 x1 x2 y1 y2;subst h0 h1;unfold tg at x2 y2;exact G.nc a b ha.1 hb.1 ha.2.2 hb.2.2 ⟨x1,x2,y1,y2⟩
theorem Made.nocross {l:List Za}{at_:List Zg}(h:Made l at_) {A B:List Int}{V H:List (List Int)}(cx:CH l 1 A V) (cy:CH l 0 B H):¬ Crs V H at_:=Zm7 h.pln (KH.refl l) cx cy fun v hv=>rfl
end Mu
/- Layer 19: the numbers of each drawing fit what is forced. -/
namespace Mu
open Go (IntKind)
theorem CH.one_ch {l:List Za}(hc:Ck l) {d:Nat}(hd:d<4) {a a':List Int}{L L':List (List Int)}(h:CH l d a L) (h':CH l d a' L'):a=a'∧L=L':=by
 have:=h.eq h' rfl id (fun C C' v c c' m m'=>(c.uniq hc hd c' m m').symm) (fun C v=>Iff.rfl);exact ⟨this.1,by rw [this.2];simp⟩
section
variable {l:List Za}{X Y:List Int}{V H:List (List Int)}{p:List Zg}{x y:List Int}
theorem ZmG (hc:Ck l) (hl:l.length≤1000) (cx:CH l 1 X V) (cy:CH l 0 Y H) (A:AllCh l 1∧AllCh l 0) (p:List Zg):∃ b,za l p=some b∧(b=true↔p.length=l.length∧(∀ v,v<l.length→okE l p v 0∧okE l p v 1)∧¬ Crs V H p):=by
 by_cases h1:p.length=l.length
 ·by_cases h2:∀ v,v<l.length→okE l p v 0∧okE l p v 1
  ·obtain ⟨X',Y',V',H',q,cx',cy'⟩:=Zoj hc hl A.1 A.2;obtain ⟨rfl,rfl⟩:=cx.one_ch hc (by omega) cx';obtain ⟨rfl,rfl⟩:=cy.one_ch hc (by omega) cy';obtain ⟨b,e,hb⟩:=Zqr hc hl cx cy h1 q h2;refine ⟨!b,e,?_⟩
   cases b with
   | true=>exact ⟨fun h=>(by cases h),fun h=>absurd (hb.1 rfl) h.2.2⟩
   | false=>exact ⟨fun _=>⟨h1,h2,fun h=>by have:=hb.2 h;cases this⟩,fun _=>rfl⟩
  ·refine ⟨false,?_,⟨fun h=>(by cases h),fun h=>absurd h.2.1 h2⟩⟩;unfold za;rw [Zc6 (by omega),ZiG hc hl h1,obs,Zez h2];rfl
 ·refine ⟨false,?_,⟨fun h=>(by cases h),fun h=>absurd h.1 h1⟩⟩;unfold za;rw [Zdi (by omega)]
theorem ZiR (hc:Ck l) {d:Nat}(hd:d<2) {C:List Int}(h:IsCh l d C) {f:Nat→Int}(hf:∀ v,v<l.length→0≤nx l v d→f v=f (nx l v d).toNat):∀ i,i<C.length→f (gi C i).toNat=f (gi C 0).toNat
 | 0,_=>rfl
 | i+1,hi=>by
  have lt:=h.lt i (by omega);have l1:=h.lt (i+1) hi;have n:=h.nxt i hi;have:=hf (gi C i).toNat (by omega) (by omega);rw [n] at this;rw [← this];exact ZiR hc hd h hf i (by omega)
theorem CH.alike (hc:Ck l) {d:Nat}(hd:d<2) {a:List Int}{L:List (List Int)}(h:CH l d a L) {f:Nat→Int}(hf:∀ v,v<l.length→0≤nx l v d→f v=f (nx l v d).toNat) {u v:Nat}(hu:u<l.length) (hv:v<l.length) (e:gi a u=gi a v):f u=f v:=by
 obtain ⟨i,h1,h2,h3⟩:=h.mem u hu;obtain ⟨j,j1,j2,j3⟩:=h.mem v hv;have:i=j:=by omega
 subst this;obtain ⟨x,x1,x2⟩:=List.mem_iff_getElem.1 h3;obtain ⟨y,y1,y2⟩:=List.mem_iff_getElem.1 j3;have ex:=ZiR hc hd (h.ch i h1) hf x x1;have ey:=ZiR hc hd (h.ch i h1) hf y y1;rw [ZaH x1,x2,itn] at ex;rw [ZaH y1,y2,itn] at ey;rw [ex,ey]
theorem okX (h:∀ v,v<l.length→okE l p v 0∧okE l p v 1):∀ v,v<l.length→0≤nx l v 1→(gi p v).X=(gi p (nx l v 1).toNat).X:=fun v hv h0=>by
 rcases (h v hv).2 with q|q
 ·omega
 ·unfold strt at q;rw [if_neg (by omega)] at q;exact q.1
theorem okY (h:∀ v,v<l.length→okE l p v 0∧okE l p v 1):∀ v,v<l.length→0≤nx l v 0→(gi p v).Y=(gi p (nx l v 0).toNat).Y:=fun v hv h0=>by
 rcases (h v hv).1 with q|q
 ·omega
 ·unfold strt at q;rw [if_pos rfl] at q;exact q.1
structure Num (l:List Za) (X Y:List Int) (p:List Zg) (x y:List Int):Prop where
 hx:∀ v,v<l.length→gi x (gi X v).toNat=(gi p v).X
 hy:∀ v,v<l.length→gi y (gi Y v).toNat=(gi p v).Y
def ZgW (x:List Int) (A:List Zj):Prop:=∀ a∈A,gi x a.From.toNat<gi x a.To.toNat
theorem Num.own (hc:Ck l) (N:Num l X Y p x y) (h:∀ v,v<l.length→okE l p v 0∧okE l p v 1):ZgW x (ZcJ l X 0 l.length)∧ZgW y (ZcJ l Y 1 l.length):=by
 constructor
 ·intro a ha;obtain ⟨v,h1,h2,rfl⟩:=(Ze2 _).1 ha;have w:=(hc.back h1 (d:=0) (by omega) (w:=(nx l v 0).toNat) (by omega)).1;dsimp only;rw [N.hx v h1,N.hx _ w];rcases (h v h1).1 with q|q
  ·omega
  ·unfold strt at q;rw [if_pos rfl] at q;exact q.2
 ·intro a ha;obtain ⟨v,h1,h2,rfl⟩:=(Ze2 _).1 ha;have w:=(hc.back h1 (d:=1) (by omega) (w:=(nx l v 1).toNat) (by omega)).1;dsimp only;rw [N.hy v h1,N.hy _ w];rcases (h v h1).2 with q|q
  ·omega
  ·unfold strt at q;rw [if_neg (by omega)] at q;exact q.2
theorem Num.sides (hc:Ck l) (cx:CH l 1 X V) (cy:CH l 0 Y H) (N:Num l X Y p x y) {a:Bool×Nat}(ha:a∈LN V H):gi x (sd X Y V H a).left.toNat=(Zf4 V H p a).X∧gi x (sd X Y V H a).right.toNat=(Zf5 V H p a).X∧gi y (sd X Y V H a).bottom.toNat=(Zf4 V H p a).Y∧gi y (sd X Y V H a).top.toNat=(Zf5 V H p a).Y:=by
 have hm:=Zjf ha;obtain ⟨b,i⟩:=a
 cases b with
 | true =>
  simp only [if_true] at hm;have C:=cx.ch i hm;have ne:=C.ne;have l0:=C.lt 0 ne;have l1:=C.lt ((gi V i).length-1) (by omega);have m0:=cx.one i (gi (gi V i) 0).toNat hm (by omega) (by rw [Int.toNat_of_nonneg l0.1];exact ZaG ne);have m1:=cx.one i (gi (gi V i) ((gi V i).length-1)).toNat hm (by omega) (by rw [Int.toNat_of_nonneg l1.1];exact ZaG (by omega));have a0:=N.hx (gi (gi V i) 0).toNat (by omega);have a1:=N.hx (gi (gi V i) ((gi V i).length-1)).toNat (by omega);have b0:=N.hy (gi (gi V i) 0).toNat (by omega);have b1:=N.hy (gi (gi V i) ((gi V i).length-1)).toNat (by omega);rw [m0] at a0;rw [m1] at a1;simp only [sd,Zf4,Zf5,if_true];exact ⟨a0,a1,b0,b1⟩
 | false =>
  simp only [Bool.false_eq_true,if_false] at hm;have C:=cy.ch i hm;have ne:=C.ne;have l0:=C.lt 0 ne;have l1:=C.lt ((gi H i).length-1) (by omega);have m0:=cy.one i (gi (gi H i) 0).toNat hm (by omega) (by rw [Int.toNat_of_nonneg l0.1];exact ZaG ne);have m1:=cy.one i (gi (gi H i) ((gi H i).length-1)).toNat hm (by omega) (by rw [Int.toNat_of_nonneg l1.1];exact ZaG (by omega));have a0:=N.hx (gi (gi H i) 0).toNat (by omega);have a1:=N.hx (gi (gi H i) ((gi H i).length-1)).toNat (by omega);have b0:=N.hy (gi (gi H i) 0).toNat (by omega);have b1:=N.hy (gi (gi H i) ((gi H i).length-1)).toNat (by omega);rw [m0] at b0;rw [m1] at b1;simp only [sd,Zf4,Zf5,Bool.false_eq_true,if_false];exact ⟨a0,a1,b0,b1⟩
def ZgY (x y:List Int) (w:Zr):Prop:=if w.horizontal=true then gi x w.from_.toNat<gi x w.to.toNat else gi y w.from_.toNat<gi y w.to.toNat
theorem Zmp {hs vs:List Zj}{x y:List Int}(fx:ZgW x hs) (fy:ZgW y vs) {w:Zr}(h:ZgY x y w):Znp hs vs w:=by
 unfold ZgY at h;unfold Znp grW;refine ⟨fun e=>?_,fun t=>?_⟩
 ·rw [e] at h;split at h<;>omega
 ·split at h
  ·rename_i c;rw [if_pos c] at t;have:=t.up fx;omega
  ·rename_i c;rw [if_neg c] at t;have:=t.up fy;omega
theorem Zln (hc:Ck l) (cx:CH l 1 X V) (cy:CH l 0 Y H) (N:Num l X Y p x y) (nc:¬ Crs V H p) {i k:Nat}(hp:(i,k)∈PR V H):∃ w∈wyN X Y V H i k,ZgY x y w:=by
 obtain ⟨h1,h2,h3⟩:=Zjh.1 hp;have hi:=ZaG (l:=LN V H) (i:=i) (by omega);have hk:=ZaG (l:=LN V H) (i:=k) (by omega);have ne:gi (LN V H) i≠gi (LN V H) k:=fun e=>by
  have nd:=List.pairwise_iff_getElem.1 (ZnY (V:=V) (H:=H)) i k (by omega) h2 h1;rw [ZaH (by omega),ZaH h2] at e;exact nd e
 have ap:Ze7 (Zf4 V H p (gi (LN V H) i)) (Zf5 V H p (gi (LN V H) i)) (Zf4 V H p (gi (LN V H) k)) (Zf5 V H p (gi (LN V H) k))=true:=by
  by_cases c:Ze7 (Zf4 V H p (gi (LN V H) i)) (Zf5 V H p (gi (LN V H) i)) (Zf4 V H p (gi (LN V H) k)) (Zf5 V H p (gi (LN V H) k))=true
  ·exact c
  ·exact absurd ⟨_,_,hi,hk,ne,by simpa using c,by simpa using h3⟩ nc
 obtain ⟨s1,s2,s3,s4⟩:=N.sides hc cx cy hi;obtain ⟨t1,t2,t3,t4⟩:=N.sides hc cx cy hk;unfold Ze7 at ap;simp only [Bool.or_eq_true,decide_eq_true_eq] at ap;unfold wyN wy;rcases ap with ((q|q)|q)|q
 ·exact ⟨_,by simp,show ZgY x y ⟨true,(sd X Y V H (gi (LN V H) i)).right,(sd X Y V H (gi (LN V H) k)).left⟩ by simp only [ZgY,if_true];omega⟩
 ·exact ⟨⟨true,(sd X Y V H (gi (LN V H) k)).right,(sd X Y V H (gi (LN V H) i)).left⟩,by simp,by simp only [ZgY,if_true];omega⟩
 ·exact ⟨⟨false,(sd X Y V H (gi (LN V H) i)).top,(sd X Y V H (gi (LN V H) k)).bottom⟩,by simp,by simp only [ZgY,Bool.false_eq_true,if_false];omega⟩
 ·exact ⟨⟨false,(sd X Y V H (gi (LN V H) k)).top,(sd X Y V H (gi (LN V H) i)).bottom⟩,by simp,by simp only [ZgY,Bool.false_eq_true,if_false];omega⟩
theorem Der.fit (hc:Ck l) (cx:CH l 1 X V) (cy:CH l 0 Y H) (N:Num l X Y p x y) (nc:¬ Crs V H p) {h0 v0 hs vs:List Zj}(D:Der (PR V H) (wyN X Y V H) h0 v0 hs vs) (f0:ZgW x h0∧ZgW y v0):ZgW x hs∧ZgW y vs:=by
 induction D with
 | refl=>exact f0
 | @step hs vs i k w D hp h e ih =>
  obtain ⟨fx,fy⟩:=ih;obtain ⟨w',hw',g⟩:=Zln hc cx cy N nc hp;have:w'∈(wyN X Y V H i k).filter (Zgo hs vs):=List.mem_filter.2 ⟨hw',ZhO.2 (Zmp fx fy g)⟩;rw [e] at this;have:w'=w:=by simpa using this
  subst this;unfold ZgY at g;by_cases c:w'.horizontal=true
  ·rw [if_pos c] at g;unfold fH fV;rw [if_pos c,if_pos c];refine ⟨fun a ha=>?_,fy⟩;rcases List.mem_append.1 ha with q|q
   ·exact fx a q
   ·have:a=Zj7 w':=by simpa using q
    subst this;exact g
  ·rw [if_neg c] at g;unfold fH fV;rw [if_neg c,if_neg c];refine ⟨fx,fun a ha=>?_⟩;rcases List.mem_append.1 ha with q|q
   ·exact fy a q
   ·have:a=Zj7 w':=by simpa using q
    subst this;exact g
theorem Zjn (hc:Ck l) (cx:CH l 1 X V) (cy:CH l 0 Y H) (N:Num l X Y p x y) {hs vs:List Zj}(fx:ZgW x hs) (fy:ZgW y vs) (h:∀ q∈PR V H,ptd (wyN X Y V H) hs vs q):¬ Crs V H p:=by
 intro C;rw [← ZkA] at C;obtain ⟨i,k,h1,h2,h3⟩:=C;rw [Bool.and_eq_true,Bool.not_eq_true',Bool.not_eq_true'] at h3;obtain ⟨w,hw,q⟩:=h (i,k) (Zjh.2 ⟨h1,h2,by simpa using h3.2⟩);have hi:=ZaG (l:=LN V H) (i:=i) (by omega);have hk:=ZaG (l:=LN V H) (i:=k) (by omega);obtain ⟨s1,s2,s3,s4⟩:=N.sides hc cx cy hi;obtain ⟨t1,t2,t3,t4⟩:=N.sides hc cx cy hk;have ap:=h3.1;unfold Ze7 at ap;simp only [Bool.or_eq_false_iff,decide_eq_false_iff_not] at ap;simp only [wyN,wy,List.mem_cons,List.not_mem_nil,or_false] at hw;unfold isP grW at q;rcases hw with rfl|rfl|rfl|rfl
 ·simp only [if_true] at q;have:=q.up fx;omega
 ·simp only [if_true] at q;have:=q.up fx;omega
 ·simp only [Bool.false_eq_true,if_false] at q;have:=q.up fy;omega
 ·simp only [Bool.false_eq_true,if_false] at q;have:=q.up fy;omega
theorem Zll (hv:Zij l=0):AllCh l 1∧AllCh l 0:=by
 obtain ⟨h1,h2,h3⟩:=ZmQ.1 hv;have hc:=(ZfN.1 h1).2;by_cases c:l.length=1
 ·have one:∀ d,d<2→AllCh l d:=fun d hd=>by
   refine ZgT hc (by omega) (φ:=fun _=>0) (fun x=>Nat.zero_le _) fun p hp hd'=>?_;exfalso;rcases hc.s p.1 p.2 hp.1 hp.2.1 with ⟨a,_⟩|⟨w,a,b,c,_⟩
   ·have:=hp.2.2;omega
   ·have:=hp.1;omega
  exact ⟨one 1 (by omega),one 0 (by omega)⟩
 ·have V:=h3 c;obtain ⟨φ,p1,p2,_⟩:=pot hc V (ZjA hc h2) (d0:=1) (by omega);obtain ⟨ψ,q1,q2,_⟩:=pot hc V (ZjA hc h2) (d0:=0) (by omega);exact ⟨ZgT hc (by omega) p1 p2,ZgT hc (by omega) q1 q2⟩
end
end Mu
/- Layer 19: wakes. -/
namespace Mu
theorem Zi8:Zb4=some true:=by decide +kernel
end Mu
/- Layer 21: RectMakes. -/
namespace Mu
end Mu
/- SepHolds,SepMakes. -/
namespace Mu
open Go (IntKind)
theorem Zko {l:List Za}(hl:l.length≤64) (hv:Zij l≠0):∃ r,zA l=some (r,Zij l)∧r.Open=[]∧r.Graphs.H=[]∧r.Graphs.V=[]:=by
 unfold zA;rw [ZkQ (by omega),obs,Zdi hv];exact ⟨_,rfl,rfl,rfl,rfl⟩
end Mu
/- SepMakes. -/
namespace Mu
open Go (IntKind)
theorem ZjI {n:Nat}{arcs:List Zj}{ψ:Nat→Nat}{M:Int}(hg:Rk n arcs ψ) (hn:n≤1000) (hM:0≤M∧M≤1000) {l:List Int}(h:RX n arcs ψ M n l) {by_:List Int}(hb:∀ y∈by_,ZfX y) (bl:by_.length≤Go.maxLen):∃ l',Z7 l by_ arcs=some l'∧RX n arcs ψ (M+5) n l':=by
 have hA:=hg.len;have len:=h.len;have:∃ l1,ZZ (Z7.s0 l by_) big (l,0)=some l1∧RX n arcs ψ (M+5) 0 l1:=by
  refine Zc1 (fun (k:Nat) (s:List Int×Int)=>(s.1.length=n∧∀ v:Nat,v<n→0≤gi s.1 v∧gi s.1 v≤M+ψ v+if v<k then 5 else 0)∧s.2=k) (n:=n) (ZaJ (by omega)) ⟨⟨len,fun v hv=>by dsimp only;rw [if_neg (by omega)];have:=h.pos v hv;omega⟩,rfl⟩ ?_ ?_
  ·rintro k ⟨l1,j⟩ hk ⟨⟨h1,h2⟩,h3⟩;dsimp only at h1 h2 h3 ⊢;subst h3;have p:=h2 k hk;have le:=hg.le k;rw [if_neg (by omega)] at p;simp only [Z7.s0];rw [ZU (by omega),itn];by_cases c:(k:Int)<(by_.length:Int)
   ·have u:0≤gi by_ k∧gi by_ k≤255:=(hb _ (ZaG (by omega))).u8;have t:=Zl7 (a:=gi by_ k) (n:=6) (by omega) (by omega);rw [ZU c,Zx (by omega),Zx (by omega),Zi0 (by omega),zZ (by omega),zZ (by omega)];refine ⟨_,rfl,⟨by dsimp only;rw [List.length_set];exact h1,fun v hv=>?_⟩,by dsimp only;omega⟩;dsimp only;rw [Zck (by omega)];have q:=h2 v hv;split
    ·rename_i e;rw [e,if_pos (by omega)];omega
    ·split at q<;>split<;>omega
   ·rw [ZT c,zZ (by omega)];refine ⟨_,rfl,⟨h1,fun v hv=>?_⟩,by dsimp only;omega⟩;have q:=h2 v hv;dsimp only;split at q<;>split<;>omega
  ·rintro ⟨l1,j⟩ ⟨⟨h1,h2⟩,h3⟩;dsimp only at h1 h2 h3 ⊢;subst h3;simp only [Z7.s0];rw [ZT (by omega)];refine ⟨_,rfl,h1,fun v hv=>?_,fun a ha hr=>by have:=hg.up a ha;omega⟩;have:=h2 v hv;rw [if_pos hv] at this;omega
 obtain ⟨l1,e1,H1⟩:=this;have l1l:=H1.len;have:∃ l',ZZ (Z7.s1 arcs l1) big (l1,0)=some l'∧RX n arcs ψ (M+5) n l':=by
  refine Zc1 (fun (k:Nat) (s:List Int×Int)=>RX n arcs ψ (M+5) k s.1∧s.2=k) (n:=n) (ZaJ (by omega)) ⟨H1,rfl⟩ ?_ ?_
  ·rintro k ⟨l,j⟩ hk ⟨h1,h3⟩;dsimp only at h1 h3 ⊢;subst h3;obtain ⟨l',e,h4⟩:=h1.pass (F:=Z7.s2 arcs) hg hn ⟨by omega,by omega⟩ (fun k l hk hl hb=>by
    have ha:=hg.rng _ (ZaG hk);have b1:=hb (gi arcs k).From.toNat (by omega);have b2:=hb (gi arcs k).To.toNat (by omega);simp only [Z7.s2];rw [ZU (by omega),Zx (by omega),itn,Zx (by omega),Zx (by omega),zZ (by omega),zZ (by omega)]) (fun l=>by
    simp only [Z7.s2];rw [ZT (by omega)])
   simp only [Z7.s1];rw [ZU (by omega),e,obs,zZ (by omega)];exact ⟨_,rfl,h4,by dsimp only;omega⟩
  ·rintro ⟨l,j⟩ ⟨h1,h3⟩;dsimp only at h1 h3 ⊢;subst h3;simp only [Z7.s1];rw [ZT (by omega)];exact ⟨_,rfl,h1⟩
 obtain ⟨l',e2,H2⟩:=this;refine ⟨l',?_,H2⟩;unfold Z7;rw [e1,obs,e2,obs]
theorem Zio (z:zT) (x y:List Int) (m1:z.At.length≤Go.maxLen) (b1:∀ y∈z.At,ZfX y) (m2:z.Bits.length≤Go.maxLen) (b2:∀ y∈z.Bits,ZfX y) (m3:z.Own.length≤Go.maxLen) (b3:∀ y∈z.Own,ZkB y) (mx:x.length≤Go.maxLen) (bx:∀ u∈x,ZfX u) (my:y.length≤Go.maxLen) (by_:∀ u∈y,ZfX u):ZbM z x y=some true:=by
 obtain ⟨l,pts,e1,hM,hlen⟩:=Zqc (z:=z) (most:=14) (ZqJ m1 b1 b3) (by omega);unfold ZbM;rw [e1,obs];dsimp only;have hc:=hM.ck;have pl:=hM.len;by_cases hv:Zij l=0
 ·have A:=Zll hv;obtain ⟨X,Y,V,H,hs,vs,ea,cx,cy,es,D,C,len,plen,ih,iv⟩:=ZnE hc (by omega) hv A;have cV:=cx.Ll;have cH:=cy.Ll;have plen2:(2*l.length)*(2*l.length)≤28*28:=Nat.mul_le_mul (by omega) (by omega);rw [es,obs];dsimp only;rw [Zi8,obs];by_cases hO:(PR V H).filter (npB (wyN X Y V H) hs vs)=[]
  ·rw [hO];have par:∀ q∈PR V H,ptd (wyN X Y V H) hs vs q:=fun q hq=>Classical.byContradiction fun n=>by
    have:q∈(PR V H).filter (npB (wyN X Y V H) hs vs):=List.mem_filter.2 ⟨hq,Zh9.2 n⟩;rw [hO] at this;cases this
   rw [if_neg (by simp)];obtain ⟨X',Y',V',H',er16,cx',cy'⟩:=Zoj hc (by omega) A.1 A.2;obtain ⟨rfl,rfl⟩:=cx.one_ch hc (by omega) cx';obtain ⟨rfl,rfl⟩:=cy.one_ch hc (by omega) cy';rw [er16,obs];dsimp only
   -- ranks,by where the cells lie
   have hst:∀ v,v<l.length→okE l pts v 0∧okE l pts v 1:=fun v hv=>⟨hM.okE hv (by omega),hM.okE hv (by omega)⟩;obtain ⟨x0,N0x⟩:∃ x0:List Int,∀ v,v<l.length→gi x0 (gi X v).toNat=(gi pts v).X:=⟨(List.range V.length).map fun i=>(gi pts (gi (gi V i) 0).toNat).X,fun v hv=>by
    have r:=cx.rng hv;obtain ⟨i,j1,j2,j3⟩:=cx.mem v hv;have Ci:=cx.ch i j1;have l0:=Ci.lt 0 Ci.ne;rw [j2,itn,Zcq j1];refine cx.alike hc (by omega) (f:=fun v=>(gi pts v).X) (okX hst) (by omega) hv ?_;rw [j2];exact cx.one i _ j1 (by omega) (by rw [Int.toNat_of_nonneg l0.1];exact ZaG Ci.ne)⟩
   obtain ⟨y0,N0y⟩:∃ y0:List Int,∀ v,v<l.length→gi y0 (gi Y v).toNat=(gi pts v).Y:=⟨(List.range H.length).map fun i=>(gi pts (gi (gi H i) 0).toNat).Y,fun v hv=>by
    have r:=cy.rng hv;obtain ⟨i,j1,j2,j3⟩:=cy.mem v hv;have Ci:=cy.ch i j1;have l0:=Ci.lt 0 Ci.ne;rw [j2,itn,Zcq j1];refine cy.alike hc (by omega) (f:=fun v=>(gi pts v).Y) (okY hst) (by omega) hv ?_;rw [j2];exact cy.one i _ j1 (by omega) (by rw [Int.toNat_of_nonneg l0.1];exact ZaG Ci.ne)⟩
   have N0:Num l X Y pts x0 y0:=⟨N0x,N0y⟩;obtain ⟨fx,fy⟩:=D.fit hc cx cy N0 (hM.nocross cx cy) (N0.own hc hst);have rk:∀ {n:Nat}{A:List Zj}{u:List Int},InR n A→A.length≤1000000→ZgW u A→(∀ i,i<n→0≤gi u i)→∃ ψ,Rk n A ψ:=by
    intro n A u ir il fu pos;obtain ⟨ψ,p1,p2⟩:=ZnP n fun i=>(gi u i).toNat
    refine ⟨ψ,ir,il,fun a ha=>?_,fun v=>?_⟩
    ·have r:=ir a ha;have f:=fu a ha;have q:=pos a.From.toNat (by omega);exact p2 _ _ (by omega) (by omega)
    ·exact p1 v
   have pos:∀ {of:List Int}{L:List (List Int)}{d:Nat}{u:List Int},CH l d of L→(∀ v,v<l.length→0≤gi u (gi of v).toNat)→∀ i,i<L.length→0≤gi u i:=by
    intro of L d u c h i hi;obtain ⟨v,v1,v2⟩:=c.seen i hi;have:=h v v1;rw [v2,itn] at this;exact this
   obtain ⟨ψ,hψ⟩:=rk ih (by omega) fx (pos cx fun v hv=>by rw [N0x v hv];exact (hM.pts.b v (by omega)).1);obtain ⟨χ,hχ⟩:=rk iv (by omega) fy (pos cy fun v hv=>by rw [N0y v hv];exact (hM.pts.b v (by omega)).2.2.1);obtain ⟨a,eA,Ha⟩:=Zqp hψ (by omega);obtain ⟨b,eB,Hb⟩:=Zqp hχ (by omega);rw [eA,obs,eB,obs];have real:∀ {M:Int}{a b:List Int},RX V.length hs ψ M V.length a→RX H.length vs χ M H.length b→Zaj ⟨X,Y,V,H⟩ a b=some (ZcS X Y a b l.length)∧za l (ZcS X Y a b l.length)=some true:=by
    intro M a b ra rb;have ga:ZgW a hs:=fun e he=>by have:=ra.fit e he (hψ.le _);unfold sat at this;omega
    have gb:ZgW b vs:=fun e he=>by have:=rb.fit e he (hχ.le _);unfold sat at this;omega
    have N:Num l X Y (ZcS X Y a b l.length) a b:=⟨fun v hv=>by rw [Zfv hv],fun v hv=>by rw [Zfv hv]⟩;refine ⟨Zpm (by omega) cx cy ra.len rb.len,?_⟩;obtain ⟨r,er,hr⟩:=ZmG hc (by omega) cx cy A (ZcS X Y a b l.length);have:r=true:=hr.2 ⟨Zl1,(Zlz hc cx cy).2 ⟨fun e he=>ga e (D.base.1 e he),fun e he=>gb e (D.base.2 e he)⟩,Zjn hc cx cy N ga gb par⟩;rw [er,this]
   obtain ⟨p1,p2⟩:=real Ha Hb;rw [p1,obs,p2,obs,if_neg (by decide)];obtain ⟨a',q1,q2⟩:=ZjI hψ (by omega) ⟨by omega,by omega⟩ Ha bx mx;obtain ⟨b',q3,q4⟩:=ZjI hχ (by omega) ⟨by omega,by omega⟩ Hb by_ my;obtain ⟨p3,p4⟩:=real q2 q4;rw [q1,obs,q3,obs,p3,obs,p4,obs]
  ·rw [if_pos,obs];rw [Bool.or_eq_true];right;simp only [List.length_map,decide_eq_true_eq];have:=List.length_pos_iff.2 hO;omega
 ·obtain ⟨r,er,_⟩:=Zko (by omega) hv;rw [er,obs];dsimp only;rw [Zi8,obs,if_pos (by simp [hv]),obs]
end Mu
