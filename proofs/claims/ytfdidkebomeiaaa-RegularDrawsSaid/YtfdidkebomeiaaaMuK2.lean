/- The law, plainly: what is worked out. -/
import Derived.Test.YtfdidkebomeiaaaMuV
import Derived.Test.YtfdidkebomeiaaaMuDf
import Derived.Test.YtfdidkebomeiaaaMuK0
import Derived.Test.YtfdidkebomeiaaaMuK1
/- Layer 16: what the document's chains are. -/
set_option linter.unusedVariables false
set_option linter.unusedSimpArgs false
set_option maxRecDepth 10000
namespace Mu
structure RI (l:List Za) (d:Nat) (a F:List Int) (L:List (List Int)) (v:Nat):Prop where
 alen:a.length=l.length
 flen:F.length=L.length
 ch:∀ i,i<L.length→IsCh l d (gi L i)∧gi (gi L i) 0=gi F i
 mem:∀ u:Nat,u<v→∃ i:Nat,i<L.length∧gi a u=i∧(u:Int)∈gi L i
 inj:∀ i j,i<L.length→j<L.length→gi F i=gi F j→i=j
 seen:∀ i:Nat,i<L.length→∃ u,u<v∧gi a u=i
 ord:∀ u i:Nat,u<v→gi a u=i+1→∃ u',u'<u∧gi a u'=i
 Ll:L.length≤v
theorem ZrO {F:List Int}{x:Int}(hF:F.length≤1000):∃ k:Nat,ZV (ZH.s1 F x) big 0=some (k:Int)∧((k<F.length∧gi F k=x)∨(k=F.length∧∀ j,j<F.length→gi F j≠x)):=by
 have:∃ r:Int,ZV (ZH.s1 F x) big 0=some r∧∃ k:Nat,r=k∧((k<F.length∧gi F k=x)∨(k=F.length∧∀ j,j<F.length→gi F j≠x)):=by
  refine Zfb (fun s:Int=>F.length-s.toNat) (fun s=>∃ k:Nat,s=k∧k≤F.length∧∀ j,j<k→gi F j≠x) (ZaK (by omega)) ⟨0,rfl,by omega,fun j hj=>by omega⟩ ?_;rintro s ⟨k,rfl,hk,hn⟩;simp only [ZH.s1];by_cases c:k<F.length
  ·rw [ZU (by omega),Zz (by omega),itn,obs];by_cases q:gi F k=x
   ·right;rw [Zcm q];exact ⟨_,rfl,k,rfl,.inl ⟨c,q⟩⟩
   ·left;rw [Zdt q,zR (by omega)];refine ⟨_,rfl,⟨k+1,by omega,by omega,fun j hj=>?_⟩,by omega⟩;by_cases e:j=k
    ·subst e;exact q
    ·exact hn j (by omega)
  ·right;rw [ZS (by omega),obs,if_neg (by decide)];exact ⟨_,rfl,k,rfl,.inr ⟨by omega,fun j hj=>hn j (by omega)⟩⟩
 obtain ⟨r,e,k,rfl,h⟩:=this;exact ⟨k,e,h⟩
theorem RI.old {l:List Za}{d v k:Nat}{a F:List Int}{L:List (List Int)}(h:RI l d a F L v) (hv:v<l.length) (hk:k<L.length) (hm:(v:Int)∈gi L k):RI l d (a.set v k) F L (v+1):=by
 have hal:=h.alen;have g:∀ u,gi (a.set v (k:Int)) u=if u=v then (k:Int) else gi a u:=fun u=>Zdr (by omega);refine ⟨by rw [List.length_set,hal],h.flen,h.ch,fun u hu=>?_,h.inj,fun i hi=>?_,fun u i hu e=>?_,by have:=h.Ll;omega⟩
 ·rw [g];by_cases c:u=v
  ·subst c;exact ⟨k,hk,by rw [if_pos rfl],hm⟩
  ·rw [if_neg c];exact h.mem u (by omega)
 ·obtain ⟨u,u1,u2⟩:=h.seen i hi;exact ⟨u,by omega,by rw [g,if_neg (by omega)];exact u2⟩
 ·rw [g] at e;by_cases c:u=v
  ·rw [if_pos c] at e;obtain ⟨u',u1,u2⟩:=h.seen i (by omega);exact ⟨u',by omega,by rw [g,if_neg (by omega)];exact u2⟩
  ·rw [if_neg c] at e;obtain ⟨u',u1,u2⟩:=h.ord u i (by omega) e;exact ⟨u',u1,by rw [g,if_neg (by omega)];exact u2⟩
theorem RI.new {l:List Za}{d v:Nat}{a F:List Int}{L:List (List Int)}(h:RI l d a F L v) (hv:v<l.length) {C:List Int}(hC:IsCh l d C) (hm:(v:Int)∈C) (hn:∀ j,j<F.length→gi F j≠gi C 0):RI l d (a.set v (L.length:Nat)) (F++[gi C 0]) (L++[C]) (v+1):=by
 have hal:=h.alen;have hfl:=h.flen;have hL:(L++[C]).length=L.length+1:=by simp
 have g:∀ u,gi (a.set v (L.length:Int)) u=if u=v then (L.length:Int) else gi a u:=fun u=>Zdr (by omega);have gF:∀ i,i<L.length+1→gi (F++[gi C 0]) i=if i<L.length then gi F i else gi C 0:=fun i hi=>by rw [Zih (by omega),hfl]
 refine ⟨by rw [List.length_set,hal],by simp [hfl],fun i hi=>?_,fun u hu=>?_,fun i j hi hj e=>?_,fun i hi=>?_,fun u i hu e=>?_,by rw [hL];have:=h.Ll;omega⟩
 ·rw [Zih (by omega),gF i (by omega)];by_cases c:i<L.length
  ·rw [if_pos c,if_pos c];exact h.ch i c
  ·rw [if_neg c,if_neg c];exact ⟨hC,rfl⟩
 ·rw [g];by_cases c:u=v
  ·subst c;exact ⟨L.length,by omega,by rw [if_pos rfl],by rw [Zih (by omega),if_neg (by omega)];exact hm⟩
  ·rw [if_neg c];obtain ⟨i,i1,i2,i3⟩:=h.mem u (by omega);exact ⟨i,by omega,i2,by rw [Zih (by omega),if_pos i1];exact i3⟩
 ·rw [gF i (by omega),gF j (by omega)] at e;by_cases c:i<L.length
  ·rw [if_pos c] at e;by_cases c2:j<L.length
   ·rw [if_pos c2] at e;exact h.inj i j c c2 e
   ·rw [if_neg c2] at e;exact absurd e (hn i (by omega))
  ·rw [if_neg c] at e;by_cases c2:j<L.length
   ·rw [if_pos c2] at e;exact absurd e.symm (hn j (by omega))
   ·omega
 ·by_cases c:i<L.length
  ·obtain ⟨u,u1,u2⟩:=h.seen i c;exact ⟨u,by omega,by rw [g,if_neg (by omega)];exact u2⟩
  ·exact ⟨v,by omega,by rw [g,if_pos rfl];omega⟩
 ·rw [g] at e;by_cases c:u=v
  ·rw [if_pos c] at e;obtain ⟨u',u1,u2⟩:=h.seen i (by omega);exact ⟨u',by omega,by rw [g,if_neg (by omega)];exact u2⟩
  ·rw [if_neg c] at e;obtain ⟨u',u1,u2⟩:=h.ord u i (by omega) e;exact ⟨u',u1,by rw [g,if_neg (by omega)];exact u2⟩
theorem Zp5 {l:List Za}(hc:Ck l) (hl:l.length≤1000) {d v:Nat}(hd:d<4) {a F:List Int}{L:List (List Int)}(h:RI l d a F L v) (hv:v<l.length) {r:Nat}{C:List Int}(hr:ZdX l ((d+2)%4) (l.length+1) v=some r) (hC:IsCh l d C) (h0:gi C 0=r) (hm:(v:Int)∈C):∃ a' F' L',ZH.s0 l d (a,F,L,(v:Int))=some (.inl (a',F',L',(v:Int)+1))∧RI l d a' F' L' (v+1):=by
 have hal:=h.alen;have hfl:=h.flen;have hLl:=h.Ll;obtain ⟨k,e,hk⟩:=ZrO (F:=F) (x:=(r:Int)) (by omega);simp only [ZH.s0];rw [ZU (by omega),Zny hc (by omega) hd hv,hr,obs];dsimp only;rw [ZS (by omega),e,obs,Zz (by omega),itn];rcases hk with ⟨k1,k2⟩|⟨rfl,k2⟩
 ·rw [ZS (by omega),zR (by omega)];have hq:=h.ch k (by omega);have:C=gi L k:=hC.uniq0 hq.1 (by rw [h0,hq.2,k2]);exact ⟨_,_,_,rfl,h.old hv (by omega) (this ▸ hm)⟩
 ·rw [ZU (by omega),Zz (by simp;omega),← h0,ZqA (by omega) hd hC (hC.len hc hd),obs,Zz (by omega),zR (by omega),hfl];exact ⟨_,_,_,rfl,h.new hv hC hm (fun j hj=>by rw [h0];exact k2 j hj)⟩
theorem RI.stop {l:List Za}(hc:Ck l) {d:Nat}(hd:d<4) {a F:List Int}{L:List (List Int)}(h:RI l d a F L l.length):CH l d a L :=
 ⟨h.alen,fun i hi=>(h.ch i hi).1,h.mem,fun i u hi hu hm=>by
  obtain ⟨j,j1,j2,j3⟩:=h.mem u hu;have e:=(h.ch i hi).1.uniq hc hd (h.ch j j1).1 hm j3;have:=h.inj i j hi j1 (by rw [← (h.ch i hi).2,← (h.ch j j1).2,e]);omega,h.seen,h.ord,h.Ll⟩
theorem Zmc {l:List Za}(hc:Ck l) (hl:l.length≤1000) {d:Nat}(hd:d<4):(AllCh l d→∃ a L,ZH l d=some (a,L,true)∧CH l d a L)∧(¬ AllCh l d→ZH l d=some ([],[],false)):=by
 have st:RI l d (List.replicate l.length (0:Int)) [] [] 0:=⟨by simp,rfl,fun i hi=>by simp at hi,fun u hu=>by omega,fun i j hi=>by simp at hi,fun i hi=>by simp at hi,fun u i hu=>by omega,by simp⟩;constructor
 ·intro hA;have:∃ r:(List Int×List (List Int))⊕Unit,ZV (ZH.s0 l d) big (List.replicate l.length (0:Int),([]:List Int),([]:List (List Int)),0)=some r∧∃ a F L,r=.inl (a,L)∧RI l d a F L l.length:=by
   refine ZcY (fun (k:Nat) (s:List Int×List Int×List (List Int)×Int)=>RI l d s.1 s.2.1 s.2.2.1 k∧s.2.2.2=k) (n:=l.length) (ZaK (by omega)) ⟨st,rfl⟩ ?_ ?_
   ·rintro k ⟨a,F,L,x⟩ hk ⟨h1,h2⟩;dsimp only at h1 h2 ⊢;subst h2;obtain ⟨r,C,hr,hC,h0,hm⟩:=hA.root hc hd hk;obtain ⟨a',F',L',e,h'⟩:=Zp5 hc hl hd h1 hk hr hC h0 hm;exact ⟨_,e,h',by dsimp only;omega⟩
   ·rintro ⟨a,F,L,x⟩ ⟨h1,h2⟩;dsimp only at h1 h2 ⊢;subst h2;simp only [ZH.s0];rw [ZS (by omega)];exact ⟨_,rfl,a,F,L,rfl,h1⟩
  obtain ⟨r,e,a,F,L,rfl,h⟩:=this;refine ⟨a,L,?_,h.stop hc hd⟩;unfold ZH;rw [Zz (by omega),itn,e,obs]
 ·intro hA;obtain ⟨v0,hv0,hr0⟩:=Zjy hc hd hA;have:∃ r:(List Int×List (List Int))⊕Unit,ZV (ZH.s0 l d) big (List.replicate l.length (0:Int),([]:List Int),([]:List (List Int)),0)=some r∧r=.inr ():=by
   refine Zfb (fun s:List Int×List Int×List (List Int)×Int=>l.length-s.2.2.2.toNat) (fun s=>∃ k:Nat,s.2.2.2=k∧k≤v0∧RI l d s.1 s.2.1 s.2.2.1 k) (ZaK (by dsimp only;omega)) ⟨0,rfl,by omega,st⟩ ?_;rintro ⟨a,F,L,x⟩ ⟨k,h2,hk0,h1⟩;dsimp only at h1 h2 ⊢;subst h2;have hk:k<l.length:=by omega
   cases hr:ZdX l ((d+2)%4) (l.length+1) k with
   | none =>
    right;simp only [ZH.s0];rw [ZU (by omega),Zny hc (by omega) hd hk,hr,obs];dsimp only;rw [ZU (by omega)];exact ⟨_,rfl,rfl⟩
   | some r =>
    left;have hne:k≠v0:=by rintro rfl;rw [hr] at hr0;cases hr0
    obtain ⟨C,hC,h0,i,hi,ei⟩:=ZfR hc hd _ k r hk hr;obtain ⟨a',F',L',e,h'⟩:=Zp5 hc hl hd h1 hk hr hC h0 (by rw [← ei];exact ZaH hi);exact ⟨_,e,⟨k+1,by dsimp only;omega,by omega,h'⟩,by dsimp only;omega⟩
  obtain ⟨r,e,rfl⟩:=this;unfold ZH;rw [Zz (by omega),itn,e,obs]
/-! both together -/
end Mu
/- Layer 16: SegTells,SegMeets,SegTurns. -/
namespace Mu
theorem Made.allCh {l:List Za}{pts:List Zl}(h:Made l pts) {d:Nat}(hd:d<2):AllCh l d:=by
 have hc:=h.ck;have hl:=h.len;obtain ⟨co,hco⟩:∃ co:Nat→Int,co=fun v=>if d=0 then (gi pts v).X else (gi pts v).Y:=⟨_,rfl⟩;have pos:∀ v,v<l.length→0≤co v∧co v<8:=by
  intro v hv;have:=h.pts.b v (by omega);rw [hco];dsimp only;split<;>omega
 have key:∀ m v:Nat,v<l.length→co v<(m:Int)→∃ r,ZdX l ((d+2)%4) m v=some r:=by
  intro m
  induction m with
  | zero=>intro v hv hm;have:=pos v hv;omega
  | succ m ih =>
   intro v hv hm;have hb:=hc.lt hv (d:=(d+2)%4) (by omega);rw [ZdX];by_cases c:nx l v ((d+2)%4)<0
   ·exact ⟨v,if_pos c⟩
   ·rw [if_neg c];have bk:=hc.back (v:=v) (d:=(d+2)%4) (w:=(nx l v ((d+2)%4)).toNat) hv (by omega) (by omega);rw [show ((d+2)%4+2)%4=d by omega] at bk;refine ih _ bk.1 ?_;rcases h.near _ d bk.1 hd with q|q
    ·omega
    ·rw [bk.2] at q;rcases q with ⟨q,_⟩|⟨j,e,_,q,_⟩
     ·omega
     ·have:j=v:=by omega
      subst this;have:=q.2;rw [hco] at hm ⊢;dsimp only at hm ⊢;by_cases z:d=0
      ·rw [if_pos z] at this hm ⊢; omega
      ·rw [if_neg z] at this hm ⊢; omega
 intro v hv;have:=pos v hv;obtain ⟨r,hr⟩:=key 8 v hv (by omega);obtain ⟨C,hC,_,i,hi,e⟩:=ZfR hc (by omega) 8 v r hv hr;exact ⟨C,hC,by rw [← e];exact ZaH hi⟩
theorem CH.small {l:List Za}(hc:Ck l) {d:Nat}(hd:d<4) {a:List Int}{L:List (List Int)}(h:CH l d a L) {i:Nat}(hi:i<L.length):(gi L i).length≤l.length:=(h.ch i hi).len hc hd
def cl (L:List (List Int)) (i:Int):List Int:=if i<0∨(L.length:Int)≤i then [] else gi L i.toNat
theorem Zkc {l:List Za}{d:Nat}{a:List Int}{L:List (List Int)}(h:CH l d a L) {v i:Int}:v∈cl L i↔0≤v∧v<l.length∧gi a v.toNat=i:=by
 unfold cl;constructor
 ·intro hm;by_cases c:i<0∨(L.length:Int)≤i
  ·rw [if_pos c] at hm;simp at hm
  ·rw [if_neg c] at hm;obtain ⟨j,hj,e⟩:=List.mem_iff_getElem.1 hm;have lt:=(h.ch i.toNat (by omega)).lt j hj;rw [Zb3 hj,e] at lt;have:=h.one i.toNat v.toNat (by omega) (by omega) (by rw [Int.toNat_of_nonneg lt.1];exact hm);exact ⟨lt.1,lt.2,by omega⟩
 ·rintro ⟨h0,h1,h2⟩;obtain ⟨j,j1,j2,j3⟩:=h.mem v.toNat (by omega);rw [if_neg (by omega),show i.toNat=j by omega];rwa [Int.toNat_of_nonneg h0] at j3
theorem ZmZ {l:List Za}(hc:Ck l) {d:Nat}(hd:d<4) {a:List Int}{L:List (List Int)}(h:CH l d a L) {i:Int}:(cl L i).length≤l.length:=by
 unfold cl;split
 ·simp
 ·exact h.small hc hd (by omega)
theorem ZkH {α:Type}{c:Bool}{a b:α}:(if c=true then some a else some b)=some (if c=true then a else b):=by cases c<;>rfl
end Mu
/- Old cells' lines,laid over rectangles: those that have no cell in common are apart. -/
namespace Mu
inductive TH (m:List Za) (n0:Nat) (hm:Nat→Option Da) (v d:Nat):Nat→Nat→Prop
 | one {a b:Nat}:a<m.length→nx m a d=b→TH m n0 hm v d a b
 | step {a c b:Nat}:a<m.length→nx m a d=c→n0≤c→hm c=some (v,d)→TH m n0 hm v d c b→TH m n0 hm v d a b
def KH (l m:List Za):Prop:=l.length≤m.length∧∃ hm:Nat→Option Da,∀ v d w:Nat,v<l.length→d<2→nx l v d=w→TH m l.length hm v d v w
theorem KH.refl (l:List Za):KH l l:=⟨Nat.le_refl _,fun _=>none,fun v d w hv hd h=>.one hv h⟩
theorem Framed.kh {l F:List Za}{v d:Nat}(h:Framed l F v d):KH l F:=by
 have hl:=h.len;refine ⟨by omega,fun _=>none,fun a e w ha he hw=>?_⟩;have o:=h.old a e ha (by omega);by_cases c:a=v∧e=d
 ·have:=o.1 c;omega
 ·have:=o.2 c;exact .one (by omega) (by rw [this.1];exact hw)
theorem TH.add {l m:List Za}(hlen:l.length≤m.length) {n0 d v:Nat}{hm:Nat→Option Da}(hd:d<4) (h:∀ i e,i<l.length→e<4→0≤nx l i e→nx m i e=nx l i e) {a b:Nat}(t:TH l n0 hm v d a b):TH m n0 hm v d a b:=by
 induction t with
 | one h1 h2=>exact .one (by omega) (by rw [h _ _ h1 hd (by omega)];exact h2)
 | step h1 h2 h3 h4 h5 ih=>exact .step (by omega) (by rw [h _ _ h1 hd (by omega)];exact h2) h3 h4 ih
def Zmu (l:List Za) (n0:Nat) (hm:Nat→Option Da) (p q w x:Nat):Option Da :=
 if x=l.length then (if q<2 then (if p<n0 then some (p,q) else hm p) else (if w<n0 then some (w,(q+2)%4) else hm w)) else hm x
theorem TH.spl {l m:List Za}{p q w:Nat}(hc:Ck l) (S:Sp l m p q w) {n0 d v:Nat}{hm:Nat→Option Da}(hd:d<2) (hv:v<n0) (hn:n0≤l.length) {a b:Nat}(t:TH l n0 hm v d a b) (inv:a=v∨(n0≤a∧hm a=some (v,d))):TH m n0 (Zmu l n0 hm p q w) v d a b:=by
 have hne:=S.hne;have hp:=S.ha;have hw:=S.hw;have hq:=S.hb;have hlen:=S.len;have hb:=S.back hc;have st:∀ {a c:Nat},a<l.length→nx l a d=c→nx m a d=c∨(nx m a d=l.length∧nx m l.length d=c∧((a=p∧d=q)∨(a=w∧d=(q+2)%4))):=by
  intro a c ha h1;have n1:=S.nx a d (by omega) (by omega);have n2:=S.nx l.length d (by omega) (by omega);rw [if_neg (by omega)] at n1;rw [if_pos rfl] at n2;by_cases c1:a=w∧d=(q+2)%4
  ·right;rw [if_pos c1] at n1;rw [if_neg (by omega),if_pos c1.2] at n2;refine ⟨n1,?_,.inr c1⟩;rw [n2];rw [c1.1,c1.2,hb] at h1;exact h1
  ·rw [if_neg c1] at n1;by_cases c2:a=p∧d=q
   ·right;rw [if_pos c2] at n1;rw [if_pos c2.2] at n2;refine ⟨n1,?_,.inl c2⟩;rw [n2];have:=S.hn;rw [c2.1,c2.2] at h1;omega
   ·left;rw [if_neg c2] at n1;exact n1.trans h1
 have hh:∀ {a:Nat},(a=v∨(n0≤a∧hm a=some (v,d)))→((a=p∧d=q)∨(a=w∧d=(q+2)%4))→Zmu l n0 hm p q w l.length=some (v,d):=by
  intro a inv k;unfold Zmu;rw [if_pos rfl];rcases k with ⟨k1,k2⟩|⟨k1,k2⟩
  ·rw [if_pos (by omega),← k1,← k2];rcases inv with i|⟨i,j⟩
   ·rw [if_pos (by omega),i]
   ·rw [if_neg (by omega),j]
  ·rw [if_neg (by omega),← k1,← k2];rcases inv with i|⟨i,j⟩
   ·rw [if_pos (by omega),i]
   ·rw [if_neg (by omega),j]
 have old:∀ {c:Nat},c<l.length→hm c=some (v,d)→Zmu l n0 hm p q w c=some (v,d):=by
  intro c h1 h2;unfold Zmu;rw [if_neg (by omega)];exact h2
 induction t with
 | one h1 h2 =>
  rcases st h1 h2 with a1|⟨a1,a2,k⟩
  ·exact .one (by omega) a1
  ·exact .step (by omega) a1 hn (hh inv k) (.one (by omega) a2)
 | step h1 h2 h3 h4 h5 ih =>
  have t':=ih (.inr ⟨h3,h4⟩);have lc:=(hc.back' h1 (show d<4 by omega) h2).1;rcases st h1 h2 with a1|⟨a1,a2,k⟩
  ·exact .step (by omega) a1 h3 (old lc h4) t'
  ·exact .step (by omega) a1 hn (hh inv k) (.step (by omega) a2 h3 (old lc h4) t')
theorem KH.cut {l m m':List Za}(hm:Ck m) (K:KH l m) (C:Cut m m'):KH l m':=by
 obtain ⟨l1,a,b,w,v,d,S,rfl,D,hv,hd,f1,f2⟩:=C.sub;have len:=S.len;obtain ⟨kl,hom,kt⟩:=K;refine ⟨by rw [ZaL,len];omega,Zmu m l.length hom a b w,fun p e q hp he hq=>?_⟩;refine ((kt p e q hp he hq).spl hm S he hp kl (.inl rfl)).add (by rw [ZaL];exact Nat.le_refl _) (by omega) fun i e hi he h0=>?_;have:=(Ze6 (l:=l1) (v:=v) (w:=m.length) (d:=d) (o:=-2) (by omega) (by omega) (by omega) hd hi he).1;by_cases c1:i=v∧e=d
 ·rw [c1.1,c1.2] at h0;omega
 ·by_cases c2:i=m.length∧e=(d+2)%4
  ·rw [c2.1,c2.2] at h0;omega
  ·rw [if_neg c1,if_neg c2] at this;exact this
theorem KH.cuts {l F:List Za}(hF:Ck F) (K:KH l F) {n:Nat}{m:List Za}(C:Cuts F n m):KH l m:=by
 induction C with
 | zero=>exact K
 | succ C h ih=>exact ih.cut (C.props hF) h
variable {l m:List Za}{X Y:Nat→Int}
theorem TH.end' (hS:Str m X Y) (hc:Ck m) {n0 d v:Nat}{hm:Nat→Option Da}(hd:d<4) {a b:Nat}(t:TH m n0 hm v d a b):b<m.length∧al X Y d a<al X Y d b∧ac X Y d a=ac X Y d b:=by
 induction t with
 | @one a b h1 h2 =>
  have lb:=(hc.back' h1 hd h2).1;have:=hS (a,d) ⟨h1,hd,by rw [h2];omega⟩;have e:tg m (a,d)=b:=by unfold tg;rw [h2];omega
  rw [e] at this;exact ⟨lb,this⟩
 | @step a c b h1 h2 h3 h4 h5 ih =>
  have:=hS (a,d) ⟨h1,hd,by rw [h2];omega⟩;have e:tg m (a,d)=c:=by unfold tg;rw [h2];omega
  rw [e] at this;dsimp only at this;exact ⟨ih.1,by omega,by omega⟩
theorem TH.cov (hS:Str m X Y) (hc:Ck m) {n0 d v:Nat}{hm:Nat→Option Da}(hd:d<4) {a b:Nat}(th:TH m n0 hm v d a b) {t:Int}(h1:al X Y d a≤t) (h2:t≤al X Y d b) (inv:a=v∨(n0≤a∧hm a=some (v,d))) :
  (∃ z,z<m.length∧(z=b∨z=v∨(n0≤z∧hm z=some (v,d)))∧al X Y d z=t∧ac X Y d z=ac X Y d a) ∨
  ∃ z,isD m (z,d)∧(z=v∨(n0≤z∧hm z=some (v,d)))∧al X Y d z<t∧t<al X Y d (tg m (z,d))∧ac X Y d z=ac X Y d a:=by
 induction th with
 | @one a b g1 g2 =>
  have lb:=(hc.back' g1 hd g2).1;have dd:isD m (a,d):=⟨g1,hd,by rw [g2];omega⟩;have:=hS (a,d) dd;have e:tg m (a,d)=b:=by unfold tg;rw [g2];omega
  rw [e] at this;dsimp only at this;by_cases c1:t=al X Y d a
  ·exact .inl ⟨a,g1,.inr inv,c1.symm,rfl⟩
  ·by_cases c2:t=al X Y d b
   ·exact .inl ⟨b,lb,.inl rfl,c2.symm,by omega⟩
   ·exact .inr ⟨a,dd,inv,by omega,by rw [e];omega,rfl⟩
 | @step a c b g1 g2 g3 g4 g5 ih =>
  have dd:isD m (a,d):=⟨g1,hd,by rw [g2];omega⟩;have:=hS (a,d) dd;have e:tg m (a,d)=c:=by unfold tg;rw [g2];omega
  rw [e] at this;dsimp only at this;by_cases c2:al X Y d c≤t
  ·rcases ih c2 h2 (.inr ⟨g3,g4⟩) with ⟨z,z1,z2,z3,z4⟩|⟨z,z1,z2,z3,z4,z5⟩
   ·exact .inl ⟨z,z1,z2,z3,by omega⟩
   ·exact .inr ⟨z,z1,z2,z3,z4,by omega⟩
  ·by_cases c1:t=al X Y d a
   ·exact .inl ⟨a,g1,.inr inv,c1.symm,rfl⟩
   ·exact .inr ⟨a,dd,inv,by omega,by rw [e];omega,rfl⟩
def OnL (l:List Za) (hm:Nat→Option Da) (d:Nat) (C:List Int) (z:Nat):Prop:=(z:Int)∈C∧z<l.length∨(l.length≤z∧∃ v,hm z=some (v,d)∧(v:Int)∈C)
theorem ZjJ (hS:Str m X Y) (hc:Ck m) {hm:Nat→Option Da}(kl:l.length≤m.length) (kt:∀ v d w:Nat,v<l.length→d<2→nx l v d=w→TH m l.length hm v d v w) {d:Nat}(hd:d<2) {C:List Int}(h:IsCh l d C):∀ (k:Nat),k<C.length →
  al X Y d (gi C 0).toNat≤al X Y d (gi C k).toNat∧ac X Y d (gi C k).toNat=ac X Y d (gi C 0).toNat∧∀ t,al X Y d (gi C 0).toNat≤t→t≤al X Y d (gi C k).toNat →
  (∃ z,z<m.length∧OnL l hm d C z∧al X Y d z=t∧ac X Y d z=ac X Y d (gi C 0).toNat)∨∃ z,isD m (z,d)∧OnL l hm d C z∧al X Y d z<t∧t<al X Y d (tg m (z,d))∧ac X Y d z=ac X Y d (gi C 0).toNat:=by
 have old:∀ k,k<C.length→OnL l hm d C (gi C k).toNat∧(gi C k).toNat<l.length:=fun k hk=>by
  have:=h.lt k hk;refine ⟨.inl ⟨?_,by omega⟩,by omega⟩;rw [show (((gi C k).toNat:Nat):Int)=gi C k by omega];exact ZaH hk
 intro k
 induction k with
 | zero=>exact fun h0=>⟨Int.le_refl _,rfl,fun t h1 h2=>.inl ⟨_,by have:=(old 0 h0).2;omega,(old 0 h0).1,by omega,rfl⟩⟩
 | succ k ih =>
  intro hk;obtain ⟨i1,i2,i3⟩:=ih (by omega);have lk:=h.lt k (by omega);have lk1:=h.lt (k+1) hk;have th:=kt (gi C k).toNat d (gi C (k+1)).toNat (by omega) hd (by rw [h.nxt k hk];omega);have e:=th.end' hS hc (by omega);refine ⟨by omega,by omega,fun t h1 h2=>?_⟩;by_cases c:t≤al X Y d (gi C k).toNat
  ·exact i3 t h1 c
  ·have to:∀ z,z=(gi C k).toNat∨(l.length≤z∧hm z=some ((gi C k).toNat,d))→OnL l hm d C z:=by
    rintro z (z2|⟨z2,z3⟩)
    ·rw [z2];exact (old k (by omega)).1
    ·refine .inr ⟨z2,_,z3,?_⟩;rw [show (((gi C k).toNat:Nat):Int)=gi C k by omega];exact ZaH (by omega)
   rcases th.cov hS hc (by omega) (t:=t) (by omega) h2 (.inl rfl) with ⟨z,z1,z2,z3,z4⟩|⟨z,z1,z2,z3,z4,z5⟩
   ·refine .inl ⟨z,z1,?_,z3,by omega⟩;rcases z2 with z2|z2
    ·rw [z2];exact (old _ hk).1
    ·exact to z z2
   ·exact .inr ⟨z,z1,to z z2,z3,z4,by omega⟩
theorem Zlq (R:Rec m X Y) (hdeg:∀ z,z<m.length→∃ e,e<4∧0≤nx m z e) {hm:Nat→Option Da}(kl:l.length≤m.length) (kt:∀ v d w:Nat,v<l.length→d<2→nx l v d=w→TH m l.length hm v d v w) {d d':Nat}(hd:d<2) (hd':d'<2) {C C':List Int}(h:IsCh l d C) (h':IsCh l d' C') {x y:Int}
  (p1:al X Y d (gi C 0).toNat≤(if d=0 then x else y)) (p2:(if d=0 then x else y)≤al X Y d (gi C (C.length-1)).toNat) (p3:ac X Y d (gi C 0).toNat=if d=0 then y else x)
  (q1:al X Y d' (gi C' 0).toNat≤(if d'=0 then x else y)) (q2:(if d'=0 then x else y)≤al X Y d' (gi C' (C'.length-1)).toNat) (q3:ac X Y d' (gi C' 0).toNat=if d'=0 then y else x):∃ v,v∈C∧v∈C':=by
 have hc:=R.ck;have hS:=R.str;have ne:=h.ne;have ne':=h'.ne;have A:=(ZjJ hS hc kl kt hd h (C.length-1) (by omega)).2.2 _ p1 p2;have B:=(ZjJ hS hc kl kt hd' h' (C'.length-1) (by omega)).2.2 _ q1 q2;rw [p3] at A;rw [q3] at B
 -- a cell of both
 have both:∀ z,OnL l hm d C z→OnL l hm d' C' z→∃ v,v∈C∧v∈C':=by
  rintro z (⟨a1,a2⟩|⟨a1,v,a2,a3⟩) (⟨b1,b2⟩|⟨b1,w,b2,b3⟩)
  ·exact ⟨z,a1,b1⟩
  ·omega
  ·omega
  ·rw [a2] at b2;have:=congrArg Prod.fst (Option.some.inj b2);dsimp only at this;exact ⟨v,a3,by rw [this];exact b3⟩
 have V:∀ z w,z<m.length→w<m.length→X z=X w→Y z=Y w→z=w:=by
  intro z w hz hw ex ey;obtain ⟨e,he,h0⟩:=hdeg z hz;obtain ⟨e1,he1,h1⟩:=hdeg w hw;exact R.V hz he h0 hw he1 h1 ex ey
 have E:∀ z d,isD m (z,d)→∀ w,w<m.length→ac X Y d w=ac X Y d z→al X Y d z<al X Y d w→al X Y d w<al X Y d (tg m (z,d))→False:=by
  intro z d hz w hw a b c;obtain ⟨e1,he1,h1⟩:=hdeg w hw;exact R.E hz hw he1 h1 a b c
 have d01:d=0∨d=1:=by omega
 have d01':d'=0∨d'=1:=by omega
 rcases A with ⟨z,z1,z2,z3,z4⟩|⟨z,z1,z2,z3,z4,z5⟩<;>rcases B with ⟨w,w1,w2,w3,w4⟩|⟨w,w1,w2,w3,w4,w5⟩
 ·have:z=w:=by
   refine V z w z1 w1 ?_ ?_<;>rcases d01 with rfl|rfl<;>rcases d01' with rfl|rfl<;>simp [al,ac] at z3 z4 w3 w4<;>omega
  rw [← this] at w2;exact both z z2 w2
 ·exfalso;refine E w d' w1 z z1 ?_ ?_ ?_<;>rcases d01 with rfl|rfl<;>rcases d01' with rfl|rfl<;>simp [al,ac] at z3 z4 w3 w4 w5 ⊢ <;> omega
 ·exfalso;refine E z d z1 w w1 ?_ ?_ ?_<;>rcases d01 with rfl|rfl<;>rcases d01' with rfl|rfl<;>simp [al,ac] at z3 z4 z5 w3 w4 ⊢ <;> omega
 ·by_cases dd:d=d'
  ·subst dd;by_cases c1:al X Y d z<al X Y d w
   ·exfalso;exact E z d z1 w w1.1 (by omega) c1 (by omega)
   ·by_cases c2:al X Y d w<al X Y d z
    ·exfalso;exact E w d w1 z z1.1 (by omega) c2 (by omega)
    ·have:z=w:=by
      refine V z w z1.1 w1.1 ?_ ?_<;>rcases d01 with rfl|rfl<;>simp [al,ac] at c1 c2 z5 w5<;>omega
     rw [← this] at w2;exact both z z2 w2
  ·exfalso;rcases d01 with rfl|rfl<;>rcases d01' with rfl|rfl
   ·exact dd rfl
   ·simp [al,ac] at z3 z4 z5 w3 w4 w5;exact R.Xs z1 w1 rfl rfl (by dsimp only;omega) (by dsimp only;omega) (by dsimp only;omega) (by dsimp only;omega)
   ·simp [al,ac] at z3 z4 z5 w3 w4 w5;exact R.Xs w1 z1 rfl rfl (by dsimp only;omega) (by dsimp only;omega) (by dsimp only;omega) (by dsimp only;omega)
   ·exact dd rfl
end Mu
/- Layer 16: SegTells,SegTurns. -/
namespace Mu
end Mu
/- Layer 17: lengths of edges. -/
namespace Mu
def Zjh (d:Nat) (a b:Zl):Prop:=if d=0 then a.Y=b.Y∧a.X<b.X else a.X=b.X∧a.Y<b.Y
instance {d:Nat}{a b:Zl}:Decidable (Zjh d a b):=by unfold Zjh;infer_instance
def wt (o:Int):Int:=if 0≤o then 1 else 0
def okE (l:List Za) (p:List Zl) (v d:Nat):Prop:=nx l v d<0∨Zjh d (gi p v) (gi p (nx l v d).toNat)
instance {l:List Za}{p:List Zl}{v d:Nat}:Decidable (okE l p v d):=by unfold okE;infer_instance
end Mu
/- Layer 17: graphs,places,ArcsFit. -/
namespace Mu
theorem CH.next {l:List Za}(hc:Ck l) {d:Nat}(hd:d<4) {a:List Int}{L:List (List Int)}(h:CH l d a L) {v w:Nat}(hv:v<l.length) (hw:nx l v d=w):w<l.length∧gi a v=gi a w:=by
 have bk:=hc.back hv hd hw;obtain ⟨i,i1,i2,i3⟩:=h.mem v hv;have hC:=h.ch i i1;obtain ⟨j,hj,e⟩:=List.mem_iff_getElem.1 i3;have ej:gi (gi L i) j=v:=by rw [Zb3 hj];exact e
 have n:=ZlP hC hj;rw [ej,itn,hw] at n;by_cases c:j+1<(gi L i).length
 ·rw [ZjW c] at n;exact ⟨bk.1,by rw [i2,h.one i w i1 bk.1 (n ▸ ZaH c)]⟩
 ·rw [show j+1=(gi L i).length by omega,ZjX] at n;omega
def ZfI (l:List Za) (of:List Int) (d:Nat):Nat→List Zav
 | 0=>[]
 | n+1=>if nx l n d<0 then ZfI l of d n else ZfI l of d n++[⟨gi of n,gi of (nx l n d).toNat,wt (ow l n d)⟩]
theorem Zi3 {l:List Za}{of:List Int}{d:Nat}:∀ n,(ZfI l of d n).length≤n
 | 0=>by simp [ZfI]
 | n+1=>by
  have:=Zi3 (l:=l) (of:=of) (d:=d) n;rw [ZfI];split
  ·omega
  ·rw [List.length_append,List.length_singleton];omega
theorem Zfo {l:List Za}{of:List Int}{d:Nat}{e:Zav}:∀ n,e∈ZfI l of d n↔∃ v,v<n∧0≤nx l v d∧e=⟨gi of v,gi of (nx l v d).toNat,wt (ow l v d)⟩
 | 0=>by
  constructor
  ·intro h;simp [ZfI] at h
  ·rintro ⟨v,hv,_⟩;omega
 | n+1=>by
  have ih:=Zfo (l:=l) (of:=of) (d:=d) (e:=e) n;rw [ZfI];by_cases c:nx l n d<0
  ·rw [if_pos c,ih];constructor
   ·rintro ⟨v,h1,h2⟩;exact ⟨v,by omega,h2⟩
   ·rintro ⟨v,h1,h2,h3⟩;have:v≠n:=by rintro rfl;omega
    exact ⟨v,by omega,h2,h3⟩
  ·rw [if_neg c,List.mem_append,List.mem_singleton,ih];constructor
   ·rintro (⟨v,h1,h2⟩|h)
    ·exact ⟨v,by omega,h2⟩
    ·exact ⟨n,by omega,by omega,h⟩
   ·rintro ⟨v,h1,h2,h3⟩;by_cases q:v=n
    ·subst q;exact .inr h3
    ·exact .inl ⟨v,by omega,h2,h3⟩
def InR (n:Nat) (arcs:List Zav):Prop:=∀ a∈arcs,(0≤a.From∧a.From<n)∧(0≤a.To∧a.To<n)
theorem CH.rng {l:List Za}{d:Nat}{a:List Int}{L:List (List Int)}(h:CH l d a L) {v:Nat}(hv:v<l.length):0≤gi a v∧gi a v<L.length:=by
 obtain ⟨i,i1,i2,_⟩:=h.mem v hv;omega
theorem Zqj {l:List Za}(hc:Ck l) {k d:Nat}(hd:d<4) {a:List Int}{L:List (List Int)}(h:CH l k a L):InR L.length (ZfI l a d l.length):=by
 intro e he;obtain ⟨v,hv,h0,rfl⟩:=(Zfo _).1 he;have:=hc.lt hv hd;exact ⟨h.rng hv,h.rng (by omega)⟩
def Zdg (X Y a b:List Int) (n:Nat):List Zl:=(List.range n).map fun v=>⟨gi a (gi X v).toNat,gi b (gi Y v).toNat⟩
theorem Zhr {X Y a b:List Int}{n v:Nat}(h:v<n):gi (Zdg X Y a b n) v=⟨gi a (gi X v).toNat,gi b (gi Y v).toNat⟩:=Zcu h
theorem ZhC {X Y a b:List Int}{n:Nat}:(Zdg X Y a b n).length=n:=by simp [Zdg]
theorem Zmx {l:List Za}(hc:Ck l) {X Y a b:List Int}{V H:List (List Int)}(cx:CH l 1 X V) (cy:CH l 0 Y H):(∀ v,v<l.length→okE l (Zdg X Y a b l.length) v 0∧okE l (Zdg X Y a b l.length) v 1)↔(∀ e∈ZfI l X 0 l.length,gi a e.From.toNat<gi a e.To.toNat)∧∀ e∈ZfI l Y 1 l.length,gi b e.From.toNat<gi b e.To.toNat:=by
 have E0:∀ v,v<l.length→0≤nx l v 0→(okE l (Zdg X Y a b l.length) v 0↔gi a (gi X v).toNat<gi a (gi X (nx l v 0).toNat).toNat):=by
  intro v hv h0;have n:=cy.next hc (by omega) hv (w:=(nx l v 0).toNat) (by omega);unfold okE Zjh;rw [Zhr hv,Zhr n.1,if_pos rfl];dsimp only;rw [n.2];constructor
  ·rintro (h|h)
   ·omega
   ·exact h.2
  ·intro h;exact .inr ⟨rfl,h⟩
 have E1:∀ v,v<l.length→0≤nx l v 1→(okE l (Zdg X Y a b l.length) v 1↔gi b (gi Y v).toNat<gi b (gi Y (nx l v 1).toNat).toNat):=by
  intro v hv h0;have n:=cx.next hc (by omega) hv (w:=(nx l v 1).toNat) (by omega);unfold okE Zjh;rw [Zhr hv,Zhr n.1,if_neg (by decide)];dsimp only;rw [n.2];constructor
  ·rintro (h|h)
   ·omega
   ·exact h.2
  ·intro h;exact .inr ⟨rfl,h⟩
 constructor
 ·intro h;constructor
  ·intro e he;obtain ⟨v,hv,h0,rfl⟩:=(Zfo _).1 he;exact (E0 v hv h0).1 (h v hv).1
  ·intro e he;obtain ⟨v,hv,h0,rfl⟩:=(Zfo _).1 he;exact (E1 v hv h0).1 (h v hv).2
 ·rintro ⟨h1,h2⟩ v hv;constructor
  ·by_cases c:nx l v 0<0
   ·exact .inl c
   ·exact (E0 v hv (by omega)).2 (h1 _ ((Zfo _).2 ⟨v,hv,by omega,rfl⟩))
  ·by_cases c:nx l v 1<0
   ·exact .inl c
   ·exact (E1 v hv (by omega)).2 (h2 _ ((Zfo _).2 ⟨v,hv,by omega,rfl⟩))
end Mu
/- Layer 17: ArcsFit. -/
namespace Mu
end Mu
/- Layer 17: the document's graphs;ArcsTell. -/
namespace Mu
theorem ZnI {l:List Za}(hc:Ck l) (hl:l.length≤1000) {of:List Int}(ho:of.length=l.length) {d:Nat}(hd:d<4):ZaB l d of=some (ZfI l of d l.length):=by
 unfold ZaB;rw [ZfF (x:=ZfI l of d l.length)];refine ZbC (fun n:Nat=>(ZfI l of d n,(n:Int))) (n:=l.length) (ZaK (by omega)) rfl (fun n hn=>?_) ?_
 ·have hlt:=hc.lt hn hd;have e:(gi l n).Next.get (d:Int)=nx l n d:=rfl;have eo:(gi l n).Owner.get (d:Int)=ow l n d:=rfl;have gl:=Zi3 (l:=l) (of:=of) (d:=d) n;simp only [ZaB.s0];rw [ZU (by omega),Zz (by omega),Zz (by omega),itn,e,eo,ZfI];by_cases c:nx l n d<0
  ·rw [ZU c,zR (by omega),if_pos c,show ((n+1:Nat):Int)=(n:Int)+1 by omega]
  ·rw [ZS (by omega),Zz (by omega),Zz (by omega),if_neg c,show ((n+1:Nat):Int)=(n:Int)+1 by omega];unfold wt;by_cases o:0≤ow l n d
   ·rw [ZU o,if_pos o,Zz (by simp;omega),zR (by omega)]
   ·rw [ZS o,if_neg o,Zz (by simp;omega),zR (by omega)]
 ·simp only [ZaB.s0];rw [ZS (by omega)]
end Mu
/- Layer 17: ArcsTurn. -/
namespace Mu
end Mu
/- Layer 17: ArcsPlace. -/
namespace Mu
theorem ZqF {l:List Za}(hl:l.length≤1000) {X Y a b:List Int}{V H:List (List Int)}(cx:CH l 1 X V) (cy:CH l 0 Y H) (ha:a.length=V.length) (hb:b.length=H.length):ZaR ⟨X,Y,V,H⟩ a b=some (Zdg X Y a b l.length):=by
 have x1:=cx.alen;have y1:=cy.alen;unfold ZaR;rw [ZfF (x:=Zdg X Y a b l.length)];refine ZbC (fun k:Nat=>(Zdg X Y a b k,(k:Int))) (n:=l.length) (ZaK (by omega)) rfl (fun k hk=>?_) ?_
 ·have r1:=cx.rng hk;have r2:=cy.rng hk;simp only [ZaR.s0];rw [ZU (by omega),Zz (by omega),itn,Zz (by omega),Zz (by omega),Zz (by omega),Zz (by simp [Zdg];omega),zR (by omega),show ((k+1:Nat):Int)=(k:Int)+1 by omega];unfold Zdg;rw [List.range_succ,List.map_append];rfl
 ·simp only [ZaR.s0];rw [ZS (by omega)]
theorem Zm2 {l:List Za}(hc:Ck l) (hl:l.length≤1000) {p:List Zl}(hp:p.length=l.length):Zaw l p=some (decide (∀ v,v<l.length→okE l p v 0∧okE l p v 1)):=by
 have row:∀ v,v<l.length→Zaw.s0 l p (v:Int)=some (if okE l p v 0∧okE l p v 1 then .inl ((v:Int)+1) else .inr (.inr ())):=by
  intro v hv;have l0:=hc.lt hv (d:=0) (by omega);have l1:=hc.lt hv (d:=1) (by omega);have e0:(gi l v).Next.get 0=nx l v 0:=rfl;have e1:(gi l v).Next.get 1=nx l v 1:=rfl;have A0:okE l p v 0↔¬ (0≤nx l v 0∧((gi p (nx l v 0).toNat).Y≠(gi p v).Y∨(gi p (nx l v 0).toNat).X≤(gi p v).X)):=by
   unfold Mu.okE Mu.Zjh;rw [if_pos rfl];omega
  have A1:okE l p v 1↔¬ (0≤nx l v 1∧((gi p (nx l v 1).toNat).X≠(gi p v).X∨(gi p (nx l v 1).toNat).Y≤(gi p v).Y)):=by
   unfold Mu.okE Mu.Zjh;rw [if_neg (by decide)];omega
  have B0:(if decide (0≤nx l v 0)=true then ck ((0:Int)≤(max (nx l v 0) 0)∧(max (nx l v 0) 0)<(p.length:Int)) <| ck ((0:Int)≤(v:Int)∧(v:Int)<(p.length:Int)) <| some ((!(decide ((gi p (max (nx l v 0) 0).toNat).Y=(gi p v).Y)))||(decide (((gi p (max (nx l v 0) 0).toNat).X)≤((gi p v).X)))) else some false)=some (!decide (okE l p v 0)):=by
   by_cases c:0≤nx l v 0
   ·rw [ZU c,Zz (by omega),Zz (by omega),show max (nx l v 0) 0=nx l v 0 by omega];congr 1;rw [Bool.eq_iff_iff];simp only [Bool.or_eq_true,Bool.not_eq_true',decide_eq_true_eq,decide_eq_false_iff_not,A0];omega
   ·rw [ZS c,Zdf (A0.2 fun h=>c h.1)];rfl
  have B1:(if decide (0≤nx l v 1)=true then ck ((0:Int)≤(max (nx l v 1) 0)∧(max (nx l v 1) 0)<(p.length:Int)) <| ck ((0:Int)≤(v:Int)∧(v:Int)<(p.length:Int)) <| some ((!(decide ((gi p (max (nx l v 1) 0).toNat).X=(gi p v).X)))||(decide (((gi p (max (nx l v 1) 0).toNat).Y)≤((gi p v).Y)))) else some false)=some (!decide (okE l p v 1)):=by
   by_cases c:0≤nx l v 1
   ·rw [ZU c,Zz (by omega),Zz (by omega),show max (nx l v 1) 0=nx l v 1 by omega];congr 1;rw [Bool.eq_iff_iff];simp only [Bool.or_eq_true,Bool.not_eq_true',decide_eq_true_eq,decide_eq_false_iff_not,A1];omega
   ·rw [ZS c,Zdf (A1.2 fun h=>c h.1)];rfl
  simp only [Zaw.s0];rw [ZU (by omega),Zz (by omega),itn,e0,e1,B0,obs];by_cases c0:okE l p v 0
  ·rw [Zdf c0,if_neg (by decide),B1,obs];by_cases c1:okE l p v 1
   ·rw [Zdf c1,if_neg (by decide),zR (by omega),if_pos ⟨c0,c1⟩]
   ·rw [Zdo c1,if_pos (by decide),if_neg fun h=>c1 h.2]
  ·rw [Zdo c0,if_pos (by decide),if_neg fun h=>c0 h.1]
 unfold Zaw;by_cases c:∀ v,v<l.length→okE l p v 0∧okE l p v 1
 ·rw [Zdf c,ZfF (x:=.inl ())];refine ZbC (fun v:Nat=>(v:Int)) (n:=l.length) (ZaK (by omega)) rfl (fun v hv=>?_) ?_
  ·rw [row v hv,if_pos (c v hv),show ((v+1:Nat):Int)=(v:Int)+1 by omega]
  ·simp only [Zaw.s0];rw [ZS (by omega)]
 ·rw [Zdo c,ZfF (x:=.inr ())];have ⟨v0,hv0⟩:∃ v,v<l.length∧¬ (okE l p v 0∧okE l p v 1):=by
   refine Classical.byContradiction fun hh=>c fun v hv=>Classical.byContradiction fun h2=>hh ⟨v,hv,h2⟩
  obtain ⟨v,⟨hv,hb⟩,hm⟩:=ZkK (P:=fun v=>v<l.length∧¬ (okE l p v 0∧okE l p v 1)) v0 hv0;refine ZbC (fun v:Nat=>(v:Int)) (n:=v) (ZaK (by omega)) rfl (fun u hu=>?_) ?_
  ·have:okE l p u 0∧okE l p u 1:=Classical.byContradiction fun h2=>hm u hu ⟨by omega,h2⟩;rw [row u (by omega),if_pos this,show ((u+1:Nat):Int)=(u:Int)+1 by omega]
  ·rw [row v hv,if_neg hb]
end Mu
/- Layer 26: CheckTells. -/
namespace Mu
theorem ZkM {F:Int→Option (Int⊕(Unit⊕Unit))}{n:Nat}{P:Nat→Bool}(hn:n≤1000000) (he:F n=some (.inr (.inl ()))):∀ (m s:Nat),s+m=n→(∀ i:Nat,s≤i→i<n→F i=some (if P i=true then .inr (.inr ()) else .inl ((i:Int)+1)))→∃ r,ZV F (m+1) (s:Int)=some r∧(r=.inr ()↔∃ i,s≤i∧i<n∧P i=true)
 | 0,s,hs,h=>by
  have:s=n:=by omega
  subst this;refine ⟨.inl (),by rw [ZV,he],?_⟩;constructor
  ·intro h;cases h
  ·rintro ⟨i,h1,h2,_⟩;omega
 | m+1,s,hs,h=>by
  rw [ZV,h s (Nat.le_refl _) (by omega)];by_cases c:P s=true
  ·rw [if_pos c];exact ⟨_,rfl,fun _=>⟨s,Nat.le_refl _,by omega,c⟩,fun _=>rfl⟩
  ·rw [if_neg c];dsimp only;obtain ⟨r,e1,e2⟩:=ZkM hn he m (s+1) (by omega) (fun i h1 h2=>h i (by omega) h2);rw [show ((s+1:Nat):Int)=(s:Int)+1 by omega] at e1;refine ⟨r,e1,e2.trans ⟨?_,?_⟩⟩
   ·rintro ⟨i,h1,h2,h3⟩;exact ⟨i,by omega,h2,h3⟩
   ·rintro ⟨i,h1,h2,h3⟩;by_cases q:i=s
    ·subst q;exact absurd h3 c
    ·exact ⟨i,by omega,h2,h3⟩
theorem Zjv {F:Int→Option (Int⊕(Unit⊕Unit))}{n s:Nat}{P:Nat→Bool}(hn:n≤1000000) (hs:s≤n) (he:F n=some (.inr (.inl ()))) (h:∀ i:Nat,s≤i→i<n→F i=some (if P i=true then .inr (.inr ()) else .inl ((i:Int)+1))):∃ r,ZV F big (s:Int)=some r∧(r=.inr ()↔∃ i,s≤i∧i<n∧P i=true):=by
 obtain ⟨r,e1,e2⟩:=ZkM hn he (n-s) s (by omega) h;exact ⟨r,Zdq e1 (by unfold big;omega),e2⟩
def LNo (b:Bool) (L:List (List Int)) (n:Nat):List (Bool×Nat):=((List.range n).filter fun i=>decide (1<(gi L i).length)).map fun i=>(b,i)
def LN (V H:List (List Int)):List (Bool×Nat):=LNo true V V.length++LNo false H H.length
def ZdI (p:Bool×Nat):zp:=⟨p.1,p.2⟩
theorem Zhj {b:Bool}{L:List (List Int)}{n:Nat}:(LNo b L n).length≤n:=by
 unfold LNo;rw [List.length_map];have:=List.length_filter_le (fun i=>decide (1<(gi L i).length)) (List.range n);simpa using this
theorem Zkx {b:Bool}{L:List (List Int)}{n:Nat}:LNo b L (n+1)=if 1<(gi L n).length then LNo b L n++[(b,n)] else LNo b L n:=by
 unfold LNo;rw [List.range_succ,List.filter_append,List.map_append];by_cases c:1<(gi L n).length
 ·rw [if_pos c,List.filter_cons,if_pos (by simpa using c)];rfl
 ·rw [if_neg c,List.filter_cons,if_neg (by simpa using c)];simp
theorem ZqC {X Y:List Int}{V H:List (List Int)}(hV:V.length≤1000) (hH:H.length≤1000):zU ⟨X,Y,V,H⟩=some ((LN V H).map ZdI):=by
 have l0:ZV (zU.s0 ⟨X,Y,V,H⟩) big (([]:List zp),0)=some ((LNo true V V.length).map ZdI):=by
  refine ZbC (fun n:Nat=>((LNo true V n).map ZdI,(n:Int))) (n:=V.length) (ZaK (by omega)) rfl (fun n hn=>?_) ?_
  ·have:=Zhj (b:=true) (L:=V) (n:=n);simp only [zU.s0,itn];rw [ZU (by omega),Zz (by omega),Zkx];by_cases c:1<(gi V n).length
   ·rw [ZU (by omega),Zz (by simp;omega),zR (by omega),if_pos c,show ((n+1:Nat):Int)=(n:Int)+1 by omega,List.map_append];rfl
   ·rw [ZS (by omega),zR (by omega),if_neg c,show ((n+1:Nat):Int)=(n:Int)+1 by omega]
  ·simp only [zU.s0];rw [ZS (by omega)]
 have l1:ZV (zU.s1 ⟨X,Y,V,H⟩) big ((LNo true V V.length).map ZdI,0)=some ((LN V H).map ZdI):=by
  refine ZbC (fun n:Nat=>((LNo true V V.length++LNo false H n).map ZdI,(n:Int))) (n:=H.length) (ZaK (by omega)) (by simp [LNo]) (fun n hn=>?_) ?_
  ·have a:=Zhj (b:=false) (L:=H) (n:=n);have b:=Zhj (b:=true) (L:=V) (n:=V.length);simp only [zU.s1,itn];rw [ZU (by omega),Zz (by omega),Zkx];by_cases c:1<(gi H n).length
   ·rw [ZU (by omega),Zz (by simp;omega),zR (by omega),if_pos c,show ((n+1:Nat):Int)=(n:Int)+1 by omega,← List.append_assoc,List.map_append (l₂:=[(false,n)])];rfl
   ·rw [ZS (by omega),zR (by omega),if_neg c,show ((n+1:Nat):Int)=(n:Int)+1 by omega]
  ·simp only [zU.s1];rw [ZS (by omega)];rfl
 unfold zU;rw [l0,obs,l1,obs]
theorem Zqy {V H:List (List Int)}{p:Bool×Nat}(h:p∈LN V H):p.2<(if p.1=true then V else H).length:=by
 unfold LN LNo at h;rcases List.mem_append.1 h with q|q
 ·obtain ⟨i,hi,rfl⟩:=List.mem_map.1 q;have:=List.mem_range.1 (List.mem_filter.1 hi).1;simpa using this
 ·obtain ⟨i,hi,rfl⟩:=List.mem_map.1 q;have:=List.mem_range.1 (List.mem_filter.1 hi).1;simpa using this
def Ziy (V H:List (List Int)) (p:List Zl) (a:Bool×Nat):Zl:=gi p (gi (gi (if a.1=true then V else H) a.2) 0).toNat
def Ziz (V H:List (List Int)) (p:List Zl) (a:Bool×Nat):Zl:=gi p (gi (gi (if a.1=true then V else H) a.2) ((gi (if a.1=true then V else H) a.2).length-1)).toNat
structure Zof (n:Nat) (L:List (List Int)):Prop where
 ne:∀ i,i<L.length→0<(gi L i).length∧(gi L i).length≤1000000
 lt:∀ i,i<L.length→∀ k,k<(gi L i).length→0≤gi (gi L i) k∧gi (gi L i) k<n
theorem CH.ok {l:List Za}(hc:Ck l) (hl:l.length≤1000) {d:Nat}(hd:d<4) {a:List Int}{L:List (List Int)}(h:CH l d a L):Zof l.length L:=⟨fun i hi=>⟨(h.ch i hi).ne,by have:=(h.ch i hi).len hc hd;omega⟩,fun i hi=>(h.ch i hi).lt⟩
theorem Zp1 {n:Nat}{X Y:List Int}{V H:List (List Int)}(hV:Zof n V) (hH:Zof n H) {p:List Zl}(hp:p.length=n) {a:Bool×Nat}(ha:a∈LN V H):Zb9 ⟨X,Y,V,H⟩ (ZdI a) p=some (Ziy V H p a,Ziz V H p a):=by
 have hm:=Zqy ha;unfold Zb9 Ziy Ziz ZdI;have e:(if a.1=true then some V else some H)=some (if a.1=true then V else H):=by cases a.1<;>rfl
 have hL:Zof n (if a.1=true then V else H):=by split<;>assumption
 dsimp only;rw [e,obs];generalize (if a.1=true then V else H)=L at *;have h1:=hL.ne a.2 hm;have h2:=hL.lt a.2 hm 0 h1.1;have h3:=hL.lt a.2 hm ((gi L a.2).length-1) (by omega);rw [itn,show (0:Int).toNat=0 from rfl,show (((gi L a.2).length:Int)-1).toNat=(gi L a.2).length-1 by omega,Zz (by omega),Zz (by omega),Zz (by omega),zR (by omega),Zz (by omega),Zz (by omega)]
def Zgw (a b c d:Zl):Bool:=(((decide (b.X<c.X))||(decide (d.X<a.X)))||(decide (b.Y<c.Y)))||(decide (d.Y<a.Y))
def shc (V H:List (List Int)) (a b:Bool×Nat):Bool:=(cl (if a.1=true then V else H) a.2).any fun v=>decide (v∈cl (if b.1=true then V else H) b.2)
/-! Stretched. -/
end Mu
/- Layer 26: CheckTurns. -/
namespace Mu
theorem ZqW {V H:List (List Int)}:(LN V H).Nodup:=by
 unfold LN LNo;rw [List.nodup_append];have one:∀ (b:Bool) (L:List (List Int)) n,(((List.range n).filter fun i=>decide (1<(gi L i).length)).map fun i=>(b,i)).Nodup:=by
  intro b L n;refine List.pairwise_map.2 ((List.Pairwise.filter _ List.nodup_range).imp fun {a c} h e=>h (congrArg Prod.snd e))
 refine ⟨one _ _ _,one _ _ _,fun a ha b hb e=>?_⟩;obtain ⟨i,_,rfl⟩:=List.mem_map.1 ha;obtain ⟨j,_,rfl⟩:=List.mem_map.1 hb;exact absurd (congrArg Prod.fst e) (by simp)
theorem Zkb {V H:List (List Int)}{a:Bool×Nat}:a∈LN V H↔a.2<(if a.1=true then V else H).length∧1<(gi (if a.1=true then V else H) a.2).length:=by
 unfold LN LNo;rw [List.mem_append,List.mem_map,List.mem_map];constructor
 ·rintro (⟨i,hi,rfl⟩|⟨i,hi,rfl⟩)
  ·have:=List.mem_filter.1 hi;exact ⟨List.mem_range.1 this.1,by simpa using this.2⟩
  ·have:=List.mem_filter.1 hi;exact ⟨List.mem_range.1 this.1,by simpa using this.2⟩
 ·rintro ⟨h1,h2⟩;obtain ⟨b,i⟩:=a
  cases b with
  | true=>exact .inl ⟨i,List.mem_filter.2 ⟨List.mem_range.2 h1,by simpa using h2⟩,rfl⟩
  | false=>exact .inr ⟨i,List.mem_filter.2 ⟨List.mem_range.2 h1,by simpa using h2⟩,rfl⟩
def Crs (V H:List (List Int)) (p:List Zl):Prop:=∃ a b,a∈LN V H∧b∈LN V H∧a≠b∧Zgw (Ziy V H p a) (Ziz V H p a) (Ziy V H p b) (Ziz V H p b)=false∧shc V H a b=false
theorem Zmn {a b c d:Zl}:Zgw a b c d=Zgw c d a b:=by
 unfold Zgw;cases decide (b.X<c.X)<;>cases decide (d.X<a.X)<;>cases decide (b.Y<c.Y)<;>cases decide (d.Y<a.Y)<;>rfl
theorem Zpk {V H:List (List Int)}{a b:Bool×Nat}:shc V H a b=shc V H b a:=by
 unfold shc;rw [Bool.eq_iff_iff,List.any_eq_true,List.any_eq_true];constructor<;>rintro ⟨v,h1,h2⟩<;>exact ⟨v,by simpa using h2,by simpa using h1⟩
theorem Zog {V H:List (List Int)}{p:List Zl}:(∃ i k,i<k∧k<(LN V H).length∧(!Zgw (Ziy V H p (gi (LN V H) i)) (Ziz V H p (gi (LN V H) i)) (Ziy V H p (gi (LN V H) k)) (Ziz V H p (gi (LN V H) k)) && !shc V H (gi (LN V H) i) (gi (LN V H) k))=true)↔Crs V H p:=by
 have nd:=List.pairwise_iff_getElem.1 (ZqW (V:=V) (H:=H));constructor
 ·rintro ⟨i,k,h1,h2,h3⟩;rw [Bool.and_eq_true,Bool.not_eq_true',Bool.not_eq_true'] at h3;refine ⟨_,_,ZaH (show i<_ by omega),ZaH h2,?_,h3.1,h3.2⟩;rw [Zb3 (show i<_ by omega),Zb3 h2];exact nd i k (by omega) h2 h1
 ·rintro ⟨a,b,ha,hb,hne,h1,h2⟩;obtain ⟨i,hi,rfl⟩:=List.mem_iff_getElem.1 ha;obtain ⟨k,hk,rfl⟩:=List.mem_iff_getElem.1 hb;rcases Nat.lt_trichotomy i k with q|q|q
  ·exact ⟨i,k,q,hk,by rw [Zb3 hi,Zb3 hk,h1,h2];rfl⟩
  ·subst q;exact absurd rfl hne
  ·refine ⟨k,i,q,hi,?_⟩;rw [Zb3 hi,Zb3 hk,Zmn,Zpk,h1,h2];rfl
/-! Moved and stretched. -/
/-! Turned. -/
end Mu
/- Layer 19: the document's word on drawings. -/
namespace Mu
theorem ZrQ {l:List Za}(hc:Ck l) (hl:l.length≤1000) {X Y:List Int}{V H:List (List Int)}(hx:CH l 1 X V) (hy:CH l 0 Y H) (ver oth:Bool) (i k:Int):ZaA ⟨X,Y,V,H⟩ ver i oth k=some ((cl (if ver=true then V else H) i).any fun v=>decide (v∈cl (if oth=true then V else H) k)):=by
 have kind:∀ w:Bool,∃ d,d<4∧CH l d (if w=true then X else Y) (if w=true then V else H):=by
  intro w
  cases w with
  | true=>exact ⟨1,by omega,hx⟩
  | false=>exact ⟨0,by omega,hy⟩
 obtain ⟨d1,hd1,c1⟩:=kind ver;obtain ⟨d2,hd2,c2⟩:=kind oth;have hXl:=hx.alen;have hYl:=hy.alen;have n1:=ZmZ hc hd1 c1 (i:=i);have n2:=ZmZ hc hd2 c2 (i:=k);have e2:ZV (ZaA.s0 ⟨X,Y,V,H⟩ ver i oth k) big 0=some (match (List.range l.length).find? (fun v=>decide (gi (if ver=true then X else Y) v=i)&&decide (gi (if oth=true then X else Y) v=k)) with|some v=>.inr ()|none=>.inl ()):=by
  refine ZcA (n:=l.length) (P:=fun v=>decide (gi (if ver=true then X else Y) v=i)&&decide (gi (if oth=true then X else Y) v=k)) (f:=fun _=>()) (ZaK (by omega)) (fun v hv=>?_) ?_
  ·simp only [ZaA.s0];rw [ZU (by omega),Zz (by omega),itn];have t:(if ver=true then ck ((0:Int)≤(v:Int)∧(v:Int)<(X.length:Int)) (some (decide (gi X v=i))) else some (decide (gi Y v=i)))=some (decide (gi (if ver=true then X else Y) v=i)):=by
    cases ver with
    | true=>rw [if_pos rfl,if_pos rfl,Zz (by omega)]
    | false=>rw [if_neg (by decide),if_neg (by decide)]
   rw [t,obs,zR (by omega)]
   cases oth with
   | true =>
    rw [if_pos rfl,Zz (by omega),if_pos (rfl:true=true)];exact ZkH
   | false =>
    rw [if_neg (by decide),if_neg (show ¬ false=true by decide)];exact ZkH
  ·simp only [ZaA.s0];rw [ZS (by omega)]
 unfold ZaA;rw [e2,obs]
 cases hf:(List.range l.length).find? (fun v=>decide (gi (if ver=true then X else Y) v=i)&&decide (gi (if oth=true then X else Y) v=k)) with
 | none =>
  rw [List.find?_range_eq_none] at hf;have:((cl (if ver=true then V else H) i).any fun v=>decide (v∈cl (if oth=true then V else H) k))=false:=by
   rw [List.any_eq_false];intro v hv hw;rw [decide_eq_true_eq] at hw;have a:=(Zkc c1).1 hv;have b:=(Zkc c2).1 hw;have:=hf v.toNat (by omega);rw [a.2.2,b.2.2] at this;simp at this
  rw [this]
 | some v =>
  rw [List.find?_range_eq_some] at hf;obtain ⟨h1,h2,_⟩:=hf;have hv:v<l.length:=by simpa using h2
  rw [Bool.and_eq_true,decide_eq_true_eq,decide_eq_true_eq] at h1;have:((cl (if ver=true then V else H) i).any fun v=>decide (v∈cl (if oth=true then V else H) k))=true:=by
   rw [List.any_eq_true];refine ⟨v,(Zkc c1).2 ⟨by omega,by omega,by rw [itn];exact h1.1⟩,?_⟩;rw [decide_eq_true_eq];exact (Zkc c2).2 ⟨by omega,by omega,by rw [itn];exact h1.2⟩
  rw [this]
theorem Zp3 {l:List Za}(hc:Ck l) (hl:l.length≤1000) (A1:AllCh l 1) (A0:AllCh l 0):∃ X Y V H,Zb0 l=some (⟨X,Y,V,H⟩,true)∧CH l 1 X V∧CH l 0 Y H:=by
 obtain ⟨X,V,e3,c3⟩:=(Zmc hc hl (d:=1) (by omega)).1 A1;obtain ⟨Y,H,e4,c4⟩:=(Zmc hc hl (d:=0) (by omega)).1 A0;rw [show ((1:Nat):Int)=1 from rfl] at e3;rw [show ((0:Nat):Int)=0 from rfl] at e4;refine ⟨X,Y,V,H,?_,c3,c4⟩;unfold Zb0;rw [e3,obs];dsimp only;rw [e4,obs];rfl
theorem Zp4 {l:List Za}(hc:Ck l) (hl:l.length≤1000) {X Y:List Int}{V H:List (List Int)}(cx:CH l 1 X V) (cy:CH l 0 Y H) {p:List Zl}(hp:p.length=l.length) (hr:Zb0 l=some (⟨X,Y,V,H⟩,true)) (hst:∀ v,v<l.length→okE l p v 0∧okE l p v 1):∃ b,zy l p=some (!b)∧(b=true↔Crs V H p):=by
 have oV:=cx.ok hc (by omega) (by omega);have oH:=cy.ok hc (by omega) (by omega);have x3:=cx.Ll;have y3:=cy.Ll;have ll:(LN V H).length≤2000:=by
  unfold LN;rw [List.length_append];have a:=Zhj (b:=true) (L:=V) (n:=V.length);have b:=Zhj (b:=false) (L:=H) (n:=H.length);omega
 have hM:∀ a b:Bool×Nat,ZaA ⟨X,Y,V,H⟩ a.1 a.2 b.1 b.2=some (shc V H a b):=fun a b=>ZrQ hc hl cx cy a.1 b.1 a.2 b.2;have n2:((LN V H).map ZdI).length=(LN V H).length:=by simp
 obtain ⟨P,hP⟩:∃ P:Nat→Nat→Bool,P=fun i k=>!Zgw (Ziy V H p (gi (LN V H) i)) (Ziz V H p (gi (LN V H) i)) (Ziy V H p (gi (LN V H) k)) (Ziz V H p (gi (LN V H) k)) && !shc V H (gi (LN V H) i) (gi (LN V H) k):=⟨_,rfl⟩;have innerR:∀ i,i<(LN V H).length→∃ r,ZV (zy.s1 p ⟨X,Y,V,H⟩ ((LN V H).map ZdI) i) big ((i:Int)+1)=some r∧(r=.inr ()↔∃ k,i<k∧k<(LN V H).length∧P i k=true):=by
  intro i hi;obtain ⟨r,e1,e2⟩:=Zjv (F:=zy.s1 p ⟨X,Y,V,H⟩ ((LN V H).map ZdI) i) (n:=(LN V H).length) (s:=i+1) (P:=P i) (by omega) (by omega) (by
   simp only [zy.s1];rw [ZS (by rw [n2];omega)]) (fun k _ hk=>by
   have s1:=Zp1 (X:=X) (Y:=Y) oV oH hp (ZaH hi);have s2:=Zp1 (X:=X) (Y:=Y) oV oH hp (ZaH hk);have g1:gi ((LN V H).map ZdI) k=ZdI (gi (LN V H) k):=ZbO hk;have g2:gi ((LN V H).map ZdI) i=ZdI (gi (LN V H) i):=ZbO hi;have me:=hM (gi (LN V H) i) (gi (LN V H) k);have me':ZaA ⟨X,Y,V,H⟩ (ZdI (gi (LN V H) i)).Vertical (ZdI (gi (LN V H) i)).Place (ZdI (gi (LN V H) k)).Vertical (ZdI (gi (LN V H) k)).Place=some (shc V H (gi (LN V H) i) (gi (LN V H) k)):=me;simp only [zy.s1,itn];rw [ZU (by rw [n2];omega),Zz (by rw [n2];omega),Zz (by rw [n2];omega),g1,g2,me',obs,s1,obs];dsimp only;rw [s2,obs];dsimp only;show (if ((!shc V H (gi (LN V H) i) (gi (LN V H) k))&&(!Zgw (Ziy V H p (gi (LN V H) i)) (Ziz V H p (gi (LN V H) i)) (Ziy V H p (gi (LN V H) k)) (Ziz V H p (gi (LN V H) k))))=true then _ else _)=_;rw [hP,zR (by omega)];dsimp only;rw [Bool.and_comm];split<;>rfl)
  rw [show ((i+1:Nat):Int)=(i:Int)+1 by omega] at e1;exact ⟨r,e1,e2.trans ⟨fun ⟨k,a,b,c⟩=>⟨k,by omega,b,c⟩,fun ⟨k,a,b,c⟩=>⟨k,by omega,b,c⟩⟩⟩
 have outerR:∃ r,ZV (zy.s0 p ⟨X,Y,V,H⟩ ((LN V H).map ZdI)) big 0=some r∧(r=.inr ()↔∃ i k,i<k∧k<(LN V H).length∧P i k=true):=by
  have hdec:∀ i,∃ b:Bool,(b=true↔∃ k,i<k∧k<(LN V H).length∧P i k=true):=fun i=>⟨@decide (∃ k,i<k∧k<(LN V H).length∧P i k=true) (Classical.propDecidable _),by simp⟩;obtain ⟨Q,hQ⟩:∃ Q:Nat→Bool,∀ i,(Q i=true↔∃ k,i<k∧k<(LN V H).length∧P i k=true):=⟨fun i=>(hdec i).choose,fun i=>(hdec i).choose_spec⟩;obtain ⟨r,e1,e2⟩:=Zjv (F:=zy.s0 p ⟨X,Y,V,H⟩ ((LN V H).map ZdI)) (n:=(LN V H).length) (s:=0) (P:=Q) (by omega) (by omega) (by
   simp only [zy.s0];rw [ZS (by rw [n2];omega)]) (fun i _ hi=>by
   obtain ⟨r,r1,r2⟩:=innerR i hi;simp only [zy.s0];rw [ZU (by rw [n2];omega),zR (by omega),r1,obs]
   cases r with
   | inl u =>
    rw [if_neg];intro q;have:=r2.2 ((hQ i).1 q);cases this
   | inr u =>
    rw [if_pos ((hQ i).2 (r2.1 rfl))])
  refine ⟨r,e1,e2.trans ⟨?_,?_⟩⟩
  ·rintro ⟨i,_,h1,h2⟩;obtain ⟨k,k1,k2,k3⟩:=(hQ i).1 h2;exact ⟨i,k,k1,k2,k3⟩
  ·rintro ⟨i,k,k1,k2,k3⟩;exact ⟨i,by omega,by omega,(hQ i).2 ⟨k,k1,k2,k3⟩⟩
 obtain ⟨r',b1,b2⟩:=outerR;have c2:zy l p=some r'.isLeft:=by
  unfold zy;rw [Zcm (by omega),Zm2 hc (by omega) hp,obs,Zdf hst,if_neg (by decide),hr,obs];dsimp only;rw [ZqC (by omega) (by omega),obs,b1,obs];cases r'<;>rfl
 refine ⟨r'.isRight,by rw [c2];cases r'<;>rfl,?_⟩;have e:r'.isRight=true↔r'=.inr ():=by cases r'<;>simp
 rw [e,b2,hP,Zog]
end Mu
/- Layer 4: orders and layers of graphs,plainly. -/
namespace Mu
def RA (n:Nat) (arcs:List Zav):Prop:=∀ a∈arcs,0≤a.From∧a.From<n∧0≤a.To∧a.To<n∧0≤a.Weight∧a.Weight≤1000000
end Mu
/- Layer 2: what a heap of numbers holds. -/
namespace Mu
end Mu
/- Layer 3: the order of a graph. -/
namespace Mu
instance {n:Nat}{arcs:List Zav}:Decidable (RA n arcs):=by unfold RA;exact inferInstance
end Mu
/- Layer 4: the layers are the least coordinates. -/
namespace Mu
/-! the given graphs -/
end Mu
/- Layer 4: LayerTight. -/
namespace Mu
end Mu
/- Layer 4: LayerLeast. -/
namespace Mu
def sat (l:List Int) (a:Zav):Prop:=gi l a.From.toNat+1≤gi l a.To.toNat
structure RS (n:Nat) (arcs:List Zav) (r:Nat) (l:List Int):Prop where
 len:l.length=n
 pos:∀ v:Nat,v<n→0≤gi l v∧gi l v≤39+v
 fit:∀ a∈arcs,a.To<r→sat l a
end Mu
/- Layer 4: more arcs. -/
namespace Mu
end Mu
/- Layer 4: LayerTells and LayerMore. -/
namespace Mu
theorem ZnP {l:List Int}{i:Nat}{x:Int}(hi:i<l.length) (hx:x=gi l i):l.set i x=l:=by
 apply ZdG (by simp);intro j hj;rw [Zdr hi];split
 ·rename_i h;rw [hx,h]
 ·rfl
end Mu
/- Numbers raised till they fit;lines of rectangles. -/
namespace Mu
structure RX (n:Nat) (arcs:List Zav) (ψ:Nat→Nat) (M:Int) (r:Nat) (l:List Int):Prop where
 len:l.length=n
 pos:∀ v:Nat,v<n→0≤gi l v∧gi l v≤M+ψ v
 fit:∀ a∈arcs,ψ a.To.toNat≤r→sat l a
structure Rk (n:Nat) (arcs:List Zav) (ψ:Nat→Nat):Prop where
 rng:InR n arcs
 len:arcs.length≤1000000
 up:∀ a∈arcs,ψ a.From.toNat<ψ a.To.toNat
 le:∀ v,ψ v≤n
theorem RX.step {n:Nat}{arcs:List Zav}{ψ:Nat→Nat}{M:Int}{r k:Nat}{l:List Int}(hg:Rk n arcs ψ) (h:RX n arcs ψ M r l) (hk:k<arcs.length) (h2:∀ i,i<k→ψ (gi arcs i).To.toNat=r+1→sat l (gi arcs i)) {l':List Int}(hl':l'=l.set (gi arcs k).To.toNat (max (gi l (gi arcs k).To.toNat) (gi l (gi arcs k).From.toNat+1))):RX n arcs ψ M r l'∧∀ i,i<k+1→ψ (gi arcs i).To.toNat=r+1→sat l' (gi arcs i):=by
 have hm:=ZaH hk;have ha:=hg.rng _ hm;have hu:=hg.up _ hm;have len:=h.len;generalize ea:gi arcs k=a at *;have p1:=h.pos a.From.toNat (by omega);have p2:=h.pos a.To.toNat (by omega);have lt:a.To.toNat<l.length:=by omega
 have at':∀ v:Nat,gi l' v=if v=a.To.toNat then max (gi l a.To.toNat) (gi l a.From.toNat+1) else gi l v:=fun v=>by
  rw [hl',Zdr lt]
 have ge:∀ v:Nat,gi l v≤gi l' v:=fun v=>by
  rw [at'];split
  ·rename_i c;rw [c];omega
  ·exact Int.le_refl _
 have low:∀ v:Nat,ψ v≤r→gi l' v=gi l v:=fun v hv=>by
  rw [at'];split
  ·rename_i c;have:=h.fit a hm (by rw [← c];exact hv);unfold sat at this;rw [c];omega
  ·rfl
 have keep:∀ b∈arcs,ψ b.To.toNat≤r+1→sat l b→sat l' b:=by
  intro b hb hr hs;have:=hg.up b hb;unfold sat at hs ⊢;rw [low b.From.toNat (by omega)];have:=ge b.To.toNat
  omega
 refine ⟨⟨by rw [hl',List.length_set];exact len,fun v hv=>?_,fun b hb hr=>keep b hb (by omega) (h.fit b hb hr)⟩,fun i hi hr=>?_⟩
 ·have:=h.pos v hv;rw [at'];split
  ·rename_i c;subst c;omega
  ·exact this
 ·by_cases c:i<k
  ·exact keep _ (ZaH (by omega)) (by omega) (h2 i c hr)
  ·have:i=k:=by omega
   subst this;rw [ea] at hr ⊢;unfold sat
   rw [low a.From.toNat (by omega),at',if_pos rfl];omega
theorem RX.pass {n:Nat}{arcs:List Zav}{ψ:Nat→Nat}{M:Int}{r:Nat}{l:List Int}(hg:Rk n arcs ψ) (hn:n≤1000) (hM:0≤M∧M≤1000000) (h:RX n arcs ψ M r l) {F:(List Int)×Int→Option (((List Int)×Int)⊕(List Int))}
  (hF:∀ (k:Nat) (l:List Int),k<arcs.length→l.length=n→(∀ v:Nat,v<n→0≤gi l v∧gi l v≤10000000)→F (l,(k:Int))=some (.inl (l.set (gi arcs k).To.toNat (max (gi l (gi arcs k).To.toNat) (gi l (gi arcs k).From.toNat+1)),(k:Int)+1)))
  (hE:∀ l:List Int,F (l,(arcs.length:Int))=some (.inr l)):∃ l',ZV F big (l,0)=some l'∧RX n arcs ψ M (r+1) l':=by
 have hA:=hg.len;refine ZcY (fun (k:Nat) (s:List Int×Int)=>(RX n arcs ψ M r s.1∧(∀ i,i<k→ψ (gi arcs i).To.toNat=r+1→sat s.1 (gi arcs i)))∧s.2=k) (n:=arcs.length) (ZaK (by omega)) ⟨⟨h,fun i hi=>by omega⟩,rfl⟩ ?_ ?_
 ·rintro k ⟨l,j⟩ hk ⟨⟨h1,h2⟩,h3⟩;dsimp only at h1 h2 h3 ⊢;subst h3;rw [hF k l hk h1.len fun v hv=>by have:=h1.pos v hv;have:=hg.le v;omega];have st:=h1.step hg hk h2 rfl;exact ⟨_,rfl,⟨st.1,st.2⟩,by dsimp only;omega⟩
 ·rintro ⟨l,j⟩ ⟨⟨h1,h2⟩,h3⟩;dsimp only at h1 h2 h3 ⊢;subst h3;rw [hE];refine ⟨_,rfl,h1.len,h1.pos,fun a ha hr=>?_⟩;by_cases c:ψ a.To.toNat≤r
  ·exact h1.fit a ha c
  ·obtain ⟨i,hi,e⟩:=Zci ha;have:=h2 i hi (by rw [e];omega);rwa [e] at this
theorem ZrP {n:Nat}{arcs:List Zav}{ψ:Nat→Nat}(hg:Rk n arcs ψ) (hn:n≤1000):∃ x,zC n arcs=some x∧RX n arcs ψ 0 n x:=by
 have hA:=hg.len;have z:∀ v:Nat,v<n→gi (List.replicate n (0:Int)) v=0:=fun v hv=>by rw [Zb3 (by simpa using hv)];simp
 have:∃ l,ZV (zC.s0 n arcs) big (List.replicate n (0:Int),0)=some l∧RX n arcs ψ 0 (n+1) l:=by
  refine ZcY (fun (k:Nat) (s:List Int×Int)=>RX n arcs ψ 0 k s.1∧s.2=k) (n:=n+1) (ZaK (by omega)) ⟨⟨by simp,fun v hv=>by dsimp only;rw [z v hv];omega,fun a ha ht=>by have:=hg.up a ha;omega⟩,rfl⟩ ?_ ?_
  ·rintro k ⟨l,j⟩ hk ⟨h1,h3⟩;dsimp only at h1 h3 ⊢;subst h3;obtain ⟨l',e,h4⟩:=h1.pass (F:=zC.s1 arcs) hg hn ⟨by omega,by omega⟩ (fun k l hk hl hb=>by
    have ha:=hg.rng _ (ZaH hk);have b1:=hb (gi arcs k).From.toNat (by omega);have b2:=hb (gi arcs k).To.toNat (by omega);simp only [zC.s1];rw [ZU (by omega),Zz (by omega),itn,Zz (by omega),Zz (by omega)];by_cases c:gi l (gi arcs k).To.toNat≤gi l (gi arcs k).From.toNat
    ·rw [ZU c,zR (by omega),zR (by omega),show max (gi l (gi arcs k).To.toNat) (gi l (gi arcs k).From.toNat+1)=gi l (gi arcs k).From.toNat+1 by omega]
    ·rw [ZS c,zR (by omega),ZnP (by omega) (by omega)]) (fun l=>by
    simp only [zC.s1];rw [ZS (by omega)])
   simp only [zC.s0];rw [ZU (by omega),e,obs,zR (by omega)];exact ⟨_,rfl,h4,by dsimp only;omega⟩
  ·rintro ⟨l,j⟩ ⟨h1,h3⟩;dsimp only at h1 h3 ⊢;subst h3;simp only [zC.s0];rw [ZS (by omega)];exact ⟨_,rfl,h1⟩
 obtain ⟨l,e,h⟩:=this;refine ⟨l,?_,h.len,h.pos,fun a ha hr=>h.fit a ha (by omega)⟩;unfold zC;rw [Zz (by omega),itn,e,obs]
theorem Zph (n:Nat) (c:Nat→Nat):∃ ψ:Nat→Nat,(∀ i,ψ i≤n)∧∀ i j,i<n→c i<c j→ψ i<ψ j:=by
 refine ⟨fun i=>((List.range n).filter fun k=>decide (c k<c i)).length,fun i=>?_,fun i j hi h=>?_⟩
 ·have:=List.length_filter_le (fun k=>decide (c k<c i)) (List.range n);simpa using this
 ·have nd:(i::(List.range n).filter fun k=>decide (c k<c i)).Nodup:=by
   refine List.nodup_cons.2 ⟨fun m=>?_,List.nodup_range.filter _⟩;have:=(List.mem_filter.1 m).2;simp at this
  have:=nd.length_le_of_subset (l₂:=(List.range n).filter fun k=>decide (c k<c j)) (fun x hx=>by
   rcases List.mem_cons.1 hx with rfl|hx
   ·exact List.mem_filter.2 ⟨List.mem_range.2 hi,by simpa using h⟩
   ·obtain ⟨a,b⟩:=List.mem_filter.1 hx;exact List.mem_filter.2 ⟨a,by simp at b ⊢; omega⟩)
  rw [List.length_cons] at this;exact this
theorem ZkU {l:List Za}(hc:Ck l) {d:Nat}(hd:d<4) {φ:Nat→Nat}(h1:∀ p,isD l p→p.2=d→φ p.1<φ (nx l p.1 p.2).toNat):∀ m v,v<l.length→φ v<m→∃ r,ZdX l ((d+2)%4) m v=some r
 | 0,v,hv,h=>by omega
 | m+1,v,hv,h=>by
  rw [ZdX];by_cases c:nx l v ((d+2)%4)<0
  ·rw [if_pos c];exact ⟨_,rfl⟩
  ·rw [if_neg c];have dd:isD l (v,(d+2)%4):=⟨hv,by dsimp only;omega,by dsimp only;omega⟩;have f:=dd.fwd hc;have o:=dd.opp hc;have oo:(nx l (opp l (v,(d+2)%4)).1 (opp l (v,(d+2)%4)).2).toNat=v:=congrArg Prod.fst (Zcv hc dd);have:=h1 _ o (by unfold opp;dsimp only;omega);rw [oo] at this;exact ZkU hc hd h1 m _ f.1 (by unfold opp at this;dsimp only at this;omega)
theorem Zfa {l:List Za}(hc:Ck l) {d:Nat}(hd:d<4) {φ:Nat→Nat}(h0:∀ x,φ x≤l.length) (h1:∀ p,isD l p→p.2=d→φ p.1<φ (nx l p.1 p.2).toNat):AllCh l d:=by
 refine Classical.byContradiction fun h=>?_;obtain ⟨v,hv,e⟩:=Zjy hc hd h;obtain ⟨r,e'⟩:=ZkU hc hd h1 (l.length+1) v hv (by have:=h0 v;omega);rw [e] at e';cases e'
theorem Zk6 {l:List Za}(hc:Ck l) {d k:Nat}(hd:d<4) {φ:Nat→Nat}(h2:∀ p,isD l p→p.2=(k+1)%4∨p.2=(k+3)%4→φ p.1=φ (nx l p.1 p.2).toNat) (hdk:d=(k+1)%4∨d=(k+3)%4) {C:List Int}(h:IsCh l d C):∀ i,i<C.length→φ (gi C i).toNat=φ (gi C 0).toNat
 | 0,_=>rfl
 | i+1,hi=>by
  have lt:=h.lt i (by omega);have l1:=h.lt (i+1) hi;have n:=h.nxt i hi;have:=h2 ((gi C i).toNat,d) ⟨by dsimp only;omega,hd,by dsimp only;omega⟩ hdk;dsimp only at this;rw [n] at this;rw [← this];exact Zk6 hc hd h2 hdk h i (by omega)
theorem Zhs {l:List Za}(hc:Ck l) (hl:l.length≤1000) {d k:Nat}(hd:d<4) (hk:k<4) (hdk:k=(d+1)%4∨k=(d+3)%4) {φ:Nat→Nat}(h1:∀ p,isD l p→p.2=d→φ p.1<φ (nx l p.1 p.2).toNat) (h2:∀ p,isD l p→p.2=(d+1)%4∨p.2=(d+3)%4→φ p.1=φ (nx l p.1 p.2).toNat) {a:List Int}{L:List (List Int)}(c:CH l k a L):∃ ψ,Rk L.length (ZfI l a d l.length) ψ:=by
 obtain ⟨ψ,p1,p2⟩:=Zph L.length fun i=>φ (gi (gi L i) 0).toNat
 have at':∀ v,v<l.length→φ v=φ (gi (gi L (gi a v).toNat) 0).toNat:=by
  intro v hv;obtain ⟨i,i1,i2,i3⟩:=c.mem v hv;obtain ⟨j,j1,j2⟩:=Zci i3;have:=Zk6 hc hk h2 hdk (c.ch i i1) j j1;rw [j2,itn] at this;rw [this,i2,itn]
 refine ⟨ψ,Zqj hc hd c,by have:=Zi3 (l:=l) (of:=a) (d:=d) l.length;omega,fun e he=>?_,p1⟩;obtain ⟨v,hv,h0,rfl⟩:=(Zfo _).1 he;have dd:isD l (v,d):=⟨hv,hd,h0⟩;have f:=dd.fwd hc;have r1:=c.rng hv;refine p2 _ _ (by dsimp only;omega) ?_;dsimp only;rw [← at' v hv,← at' _ f.1];exact h1 _ dd rfl
theorem Str.of {l:List Za}(hc:Ck l) {p:List Zl}(h:∀ v,v<l.length→okE l p v 0∧okE l p v 1):Str l (fun v=>(gi p v).X) (fun v=>(gi p v).Y):=by
 have k:∀ q,isD l q→q.2<2→al (fun v=>(gi p v).X) (fun v=>(gi p v).Y) q.2 q.1<al (fun v=>(gi p v).X) (fun v=>(gi p v).Y) q.2 (tg l q)∧ac (fun v=>(gi p v).X) (fun v=>(gi p v).Y) q.2 q.1=ac (fun v=>(gi p v).X) (fun v=>(gi p v).Y) q.2 (tg l q):=by
  rintro ⟨v,d⟩ ⟨h1,h2,h3⟩ h4;dsimp only at h1 h2 h3 h4 ⊢;have:d=0∨d=1:=by omega
  rcases this with rfl|rfl
  ·rcases (h v h1).1 with q|q
   ·omega
   ·unfold Zjh at q;rw [if_pos rfl] at q;exact ⟨q.2,q.1⟩
  ·rcases (h v h1).2 with q|q
   ·omega
   ·unfold Zjh at q;rw [if_neg (by omega)] at q;exact ⟨q.2,q.1⟩
 intro q hq;by_cases c:q.2<2
 ·exact k q hq c
 ·have:=k _ (hq.opp hc) (by unfold opp;dsimp only;have:=hq.2.1;omega);have o:tg l (opp l q)=q.1:=congrArg Prod.fst (Zcv hc hq);rw [o] at this;have e:(opp l q).1=tg l q:=rfl;rw [e] at this;have d4:=hq.2.1;have:(opp l q).2=(q.2+2)%4:=rfl;have d23:q.2=2∨q.2=3:=by omega
  rcases d23 with z|z<;>rw [z] at this<;>simp_all [al,ac]<;>omega
theorem ZoG {l:List Za}(hc:Ck l) (hw:whole l) (h1:l.length≠1):∀ z,z<l.length→∃ e,e<4∧0≤nx l z e:=by
 have hp:=ZfO hw;have fst:∀ n w,Rch l 0 n w→w=0∨∃ e,e<4∧0≤nx l 0 e:=by
  intro n w h
  induction h with
  | zero=>exact .inl rfl
  | succ h k ih =>
   rcases ih with rfl|ih
   ·obtain ⟨d,hd,e⟩:=k;exact .inr ⟨d,hd,by omega⟩
   ·exact .inr ih
 intro z hz;by_cases c:z=0
 ·subst c;obtain ⟨n,r⟩:=ZdY hw (w:=1) (by omega);rcases fst n 1 r with q|q
  ·omega
  ·exact q
 ·obtain ⟨n,r⟩:=ZdY hw hz
  cases r with
  | zero=>exact absurd rfl c
  | @succ n a _ r k =>
   have al:=r.lt hc hp;obtain ⟨d,hd,e⟩:=k;have b:=(hc.back' al hd e).2;exact ⟨(d+2)%4,by omega,by omega⟩
theorem ZkP {l m:List Za}{X Y:Nat→Int}(R:Rec m X Y) (hdeg:∀ z,z<m.length→∃ e,e<4∧0≤nx m z e) (K:KH l m) {A B:List Int}{V H:List (List Int)}(cx:CH l 1 A V) (cy:CH l 0 B H) {p:List Zl}(hp:∀ v,v<l.length→gi p v=⟨X v,Y v⟩):¬ Crs V H p:=by
 rintro ⟨a,b,ha,hb,ne,hap,hsh⟩;obtain ⟨kl,hm,kt⟩:=K;obtain ⟨a1,a2⟩:=Zkb.1 ha;obtain ⟨b1,b2⟩:=Zkb.1 hb;have ck:∀ a:Bool×Nat,a.2<(if a.1=true then V else H).length→∃ d,d<2∧(d=0↔a.1=false)∧IsCh l d (gi (if a.1=true then V else H) a.2):=by
  rintro ⟨u,i⟩ hi
  cases u with
  | true=>exact ⟨1,by omega,by simp,cx.ch i hi⟩
  | false=>exact ⟨0,by omega,by simp,cy.ch i hi⟩
 obtain ⟨d,hd,e1,C⟩:=ck a a1;obtain ⟨d',hd',e2,C'⟩:=ck b b1;unfold Ziy Ziz at hap;have cc:∀ (w:Bool) (i:Nat),i<(if w=true then V else H).length→cl (if w=true then V else H) i=gi (if w=true then V else H) i:=fun w i hi=>by
  unfold cl;rw [if_neg (by omega),itn]
 unfold shc at hsh;rw [cc _ _ a1,cc _ _ b1] at hsh;generalize gi (if a.1=true then V else H) a.2=P at *;generalize gi (if b.1=true then V else H) b.2=Q at *;have u1:=C.lt 0 (by omega);have u2:=C.lt (P.length-1) (by omega);have w1:=C'.lt 0 (by omega);have w2:=C'.lt (Q.length-1) (by omega);rw [hp _ (by omega),hp _ (by omega),hp _ (by omega),hp _ (by omega)] at hap;obtain ⟨g1,g2,_⟩:=ZjJ R.str R.ck kl kt hd C (P.length-1) (by omega);obtain ⟨h1,h2,_⟩:=ZjJ R.str R.ck kl kt hd' C' (Q.length-1) (by omega);unfold Zgw at hap;simp only [Bool.or_eq_false_iff,decide_eq_false_iff_not] at hap;obtain ⟨⟨⟨k1,k2⟩,k3⟩,k4⟩:=hap;have:∃ v,v∈P∧v∈Q:=by
  have d01:d=0∨d=1:=by omega
  have d01':d'=0∨d'=1:=by omega
  refine Zlq R hdeg kl kt hd hd' C C' (x:=max (X (gi P 0).toNat) (X (gi Q 0).toNat)) (y:=max (Y (gi P 0).toNat) (Y (gi Q 0).toNat)) ?_ ?_ ?_ ?_ ?_ ?_<;>rcases d01 with rfl|rfl<;>rcases d01' with rfl|rfl<;>simp [al,ac] at g1 g2 h1 h2 ⊢ <;> omega
 obtain ⟨v,v1,v2⟩:=this;rw [List.any_eq_false] at hsh;exact hsh v v1 (by simpa using v2)
end Mu
/- Layer 21: RectMakes. -/
namespace Mu
structure Dr (l r:List Za):Prop where
 ck:Ck r
 len:r.length≤1000
 le:l.length≤r.length
 c1:AllCh r 1
 c0:AllCh r 0
 g0:∀ X V,CH r 1 X V→∃ ψ,Rk V.length (ZfI r X 0 r.length) ψ
 g1:∀ Y H,CH r 0 Y H→∃ ψ,Rk H.length (ZfI r Y 1 r.length) ψ
 nc:∀ p,(∀ v,v<r.length→okE r p v 0∧okE r p v 1)→(∀ A B V H,CH r 1 A V→CH r 0 B H→¬ Crs V H p)∧∀ q,(∀ v,v<l.length→gi q v=gi p v)→(∀ v,v<l.length→okE l q v 0∧okE l q v 1)∧∀ A B V H,CH l 1 A V→CH l 0 B H→¬ Crs V H q
theorem Dr.one {l r:List Za}(hr:Ck r) (hl:Ck l) (h1:r.length=1) (h2:l.length=1):Dr l r:=by
 have no:∀ {l:List Za},Ck l→l.length=1→∀ p,¬ isD l p:=by
  intro l hc h1 p hp;rcases hc.s p.1 p.2 hp.1 hp.2.1 with ⟨a,_⟩|⟨w,a,b,c,_⟩
  ·have:=hp.2.2;omega
  ·have:=hp.1;omega
 have n0:∀ v d,v<l.length→d<4→nx l v d<0:=fun v d hv hd=>Classical.byContradiction fun c=>no hl h2 (v,d) ⟨hv,hd,by dsimp only;omega⟩;have nc:∀ {l:List Za}{A B:List Int}{V H:List (List Int)}{p:List Zl},Ck l→l.length=1→CH l 1 A V→CH l 0 B H→¬ Crs V H p:=by
  rintro l A B V H p hc h1 cx cy ⟨a,b,ha,_⟩;obtain ⟨a1,a2⟩:=Zkb.1 ha;obtain ⟨u,i⟩:=a
  cases u with
  | true=>have:=(cx.ch i a1).len hc (by omega);dsimp only at a2;rw [if_pos rfl] at a2;omega
  | false=>have:=(cy.ch i a1).len hc (by omega);dsimp only at a2;rw [if_neg (by decide)] at a2;omega
 have no:=no hr h1;refine ⟨hr,by omega,by omega,Zfa hr (by omega) (φ:=fun _=>0) (by simp) (fun p hp=>absurd hp (no p)),Zfa hr (by omega) (φ:=fun _=>0) (by simp) (fun p hp=>absurd hp (no p)),
  fun X V c=>Zhs hr (by omega) (by omega) (by omega) (.inl rfl) (φ:=fun _=>0) (fun p hp=>absurd hp (no p)) (fun p hp=>absurd hp (no p)) c,
  fun Y H c=>Zhs hr (by omega) (by omega) (by omega) (.inr rfl) (φ:=fun _=>0) (fun p hp=>absurd hp (no p)) (fun p hp=>absurd hp (no p)) c,
  fun p hp=>⟨fun A B V H cx cy=>nc hr h1 cx cy,fun q hq=>⟨fun v hv=>⟨.inl (n0 v 0 hv (by omega)),.inl (n0 v 1 hv (by omega))⟩,fun A B V H cx cy=>nc hl h2 cx cy⟩⟩⟩
theorem ZqG {r:List Za}(hv:ZcQ r=0) (h1:r.length≠1) (hf:Zfk r=none) (ho:∃ g,Cyc r g∧zD r g=-4∧∀ p∈g,-1≤tt r p∧tt r p≤0) {X Y:Nat→Int}(hS:Str r X Y):Rec r X Y:=by
 obtain ⟨k,w,_⟩:=Zde hv;have hc:=(ZcF.1 k).2;have hV:=(ZdJ.1 hv).2.2 h1;obtain ⟨V1,⟨o,o1,o2⟩,V3⟩:=hV;refine ⟨hc,hS,⟨o,o1,o2,fun i hi io=>(V1 i hi).resolve_right fun q=>io (V3 i o hi o1 q o2)⟩,fun f hf' h4 p hp=>?_,fun f hf' h4 p hp=>?_⟩
 ·obtain ⟨i,hi,e⟩:=Zci hf';obtain ⟨j,hj,ej⟩:=Zci hp;have io:(i:Int)≠ZeT r:=by
   rcases ZiV hv h1 hi with z|z
   ·exact z.2
   ·rw [e] at z;omega
  have:=ZkD hf i hi io j;rw [e] at this;unfold tns at this;rw [ZbO hj,ej] at this;exact this
 ·obtain ⟨g,hg,g4,gt⟩:=ho;obtain ⟨q,hq⟩:=List.exists_mem_of_ne_nil g hg.ne;obtain ⟨j,hj,hqj⟩:=ZgD hc (hg.is q hq) (Zj9 hc);have pj:=hg.perm (ZbM hc _ (ZaH hj)) hq hqj;have rj:zD r (gi (faces r) j)=-4:=by rw [← Zcy pj];exact g4
  obtain ⟨i,hi,e⟩:=Zci hf';have:i=j:=V3 i j hi hj (by rw [e];exact h4) rj;rw [← e,this] at hp;exact gt p (pj.mem_iff.2 hp)
theorem Cuts.outer {F:List Za}{n:Nat}{m:List Za}(C:Cuts F n m) (h:∃ g,Cyc F g∧zD F g=-4∧∀ p∈g,-1≤tt F p∧tt F p≤0):∃ g,Cyc m g∧zD m g=-4∧∀ p∈g,-1≤tt m p∧tt m p≤0:=by
 induction C with
 | zero=>exact h
 | succ C c ih =>
  obtain ⟨g,a,b,d⟩:=ih;exact c.out g a b d
theorem TH.ok {l m:List Za}(hc:Ck m) {p q:List Zl}(hS:Str m (fun v=>(gi p v).X) (fun v=>(gi p v).Y)) (hl:Ck l) (K:KH l m) (hq:∀ v,v<l.length→gi q v=gi p v):∀ v,v<l.length→okE l q v 0∧okE l q v 1:=by
 obtain ⟨kl,hm,kt⟩:=K;have k:∀ v d,v<l.length→d<2→okE l q v d:=by
  intro v d hv hd;by_cases c:nx l v d<0
  ·exact .inl c
  ·obtain ⟨w,hw⟩:∃ w:Nat,nx l v d=w:=⟨(nx l v d).toNat,by omega⟩;have b:=hl.back' hv (show d<4 by omega) hw;have e:=(kt v d w hv hd hw).end' hS hc (by omega);refine .inr ?_;rw [hw,itn,hq v hv,hq w b.1];have:d=0∨d=1:=by omega
   unfold Zjh;rcases this with rfl|rfl
   ·rw [if_pos rfl];exact ⟨e.2.2,e.2.1⟩
   ·rw [if_neg (by omega)];exact ⟨e.2.2,e.2.1⟩
 exact fun v hv=>⟨k v 0 hv (by omega),k v 1 hv (by omega)⟩
theorem Dr.of {l r:List Za}(hl:Ck l) (K:KH l r) (hv:ZcQ r=0) (h1:r.length≠1) (hlen:r.length≤1000) (hf:Zfk r=none) (ho:∃ g,Cyc r g∧zD r g=-4∧∀ p∈g,-1≤tt r p∧tt r p≤0):Dr l r:=by
 obtain ⟨k,w,_⟩:=Zde hv;have hc:=(ZcF.1 k).2;have hV:=(ZdJ.1 hv).2.2 h1;have Cl:=Zk8 hc w;obtain ⟨φ,a0,a1,a2⟩:=pot hc hV Cl (d0:=0) (by omega);obtain ⟨χ,b0,b1,b2⟩:=pot hc hV Cl (d0:=1) (by omega);refine ⟨hc,hlen,K.1,Zfa hc (by omega) b0 b1,Zfa hc (by omega) a0 a1,fun X V c=>Zhs hc hlen (by omega) (by omega) (.inl rfl) a1 a2 c,fun Y H c=>Zhs hc hlen (by omega) (by omega) (.inr rfl) b1 b2 c,fun p hp=>?_⟩;have hS:=Str.of hc hp;have R:=ZqG hv h1 hf ho hS;have hd:=ZoG hc w h1;exact ⟨fun A B V H cx cy=>ZkP R hd (KH.refl r) cx cy fun v hv=>rfl,fun q hq=>⟨TH.ok hc hS hl K hq,fun A B V H cx cy=>ZkP R hd K cx cy fun v hv=>hq v hv⟩⟩
theorem Dr.draw {l r:List Za}(D:Dr l r) (hl:Ck l) (A1:AllCh l 1) (A0:AllCh l 0) {X Y:List Int}{V H:List (List Int)}(hr:Zb0 r=some (⟨X,Y,V,H⟩,true)) (cx:CH r 1 X V) (cy:CH r 0 Y H) {a b:List Int}(la:a.length=V.length) (lb:b.length=H.length) (fa:∀ e∈ZfI r X 0 r.length,sat a e) (fb:∀ e∈ZfI r Y 1 r.length,sat b e) :
  ZaR ⟨X,Y,V,H⟩ a b=some (Zdg X Y a b r.length)∧zy r (Zdg X Y a b r.length)=some true∧zy l ((Zdg X Y a b r.length).take l.length)=some true:=by
 have len:=D.len;have le:=D.le;have ok:=(Zmx D.ck cx cy (a:=a) (b:=b)).2 ⟨fun e he=>by have:=fa e he;unfold sat at this;omega,fun e he=>by have:=fb e he;unfold sat at this;omega⟩;obtain ⟨n1,n2⟩:=D.nc _ ok;obtain ⟨x,e1,e2⟩:=Zp4 D.ck len cx cy ZhC hr ok;have tk:∀ v,v<l.length→gi ((Zdg X Y a b r.length).take l.length) v=gi (Zdg X Y a b r.length) v:=fun v hv=>by
  unfold gi;simp [List.getElem?_take,hv]
 obtain ⟨o2,n2⟩:=n2 _ tk;obtain ⟨X',Y',V',H',q,cx',cy'⟩:=Zp3 hl (by omega) A1 A0;obtain ⟨x',e1',e2'⟩:=Zp4 hl (by omega) cx' cy' (by rw [List.length_take,ZhC];omega) q o2;refine ⟨ZqF (by omega) cx cy la lb,?_,?_⟩
 ·rw [e1]
  cases x with
  | true=>exact absurd (e2.1 rfl) (n1 _ _ _ _ cx cy)
  | false=>rfl
 ·rw [e1']
  cases x' with
  | true=>exact absurd (e2'.1 rfl) (n2 _ _ _ _ cx' cy')
  | false=>rfl
end Mu
/- Layer 22: what is made regular. -/
namespace Mu
def pkF (l:List Za):Option (Nat×(Nat×Nat)×(Nat×Nat)) :=
 match (List.range (faces l).length).find? (ZgZ l) with
 | none=>none
 | some i=>match Zg5 (tns l (gi (faces l) i)) with
  | none=>none
  | some (j,k)=>some (i,gi (Zcj (tns l (gi (faces l) i))) j,gi (Zcj (tns l (gi (faces l) i))) k)
theorem Znp {t:List Int}{i k:Nat}(h:inP t i=some k):k<(Zcj t).length∧ZhH t (gi (Zcj t) i) (gi (Zcj t) k)=2:=by
 unfold inP at h;rw [List.find?_range_eq_some] at h;obtain ⟨h1,h2,_⟩:=h;exact ⟨by simpa using h2,by simpa using h1⟩
theorem ZiG {t:List Int}{i k:Nat}(h:Zg5 t=some (i,k)):gi (Zcj t) i∈Zcj t∧gi (Zcj t) k∈Zcj t∧ZhH t (gi (Zcj t) i) (gi (Zcj t) k)=2:=by
 unfold Zg5 at h
 cases ho:Zlz t with
 | none=>rw [ho] at h;cases h
 | some i' =>
  rw [ho] at h;dsimp only at h
  cases hi:inP t i' with
  | none=>rw [hi] at h;cases h
  | some k' =>
   rw [hi] at h;cases h;obtain ⟨a,b⟩:=Znp hi;unfold Zlz at ho;rw [List.find?_range_eq_some] at ho;exact ⟨ZaH (by simpa using ho.2.1),ZaH a,b⟩
theorem Zn9 {l:List Za}{i:Nat}{a b:Nat×Nat}(h:pkF l=some (i,a,b)):i<(faces l).length∧a∈Zcj (tns l (gi (faces l) i))∧b∈Zcj (tns l (gi (faces l) i))∧ZhH (tns l (gi (faces l) i)) a b=2:=by
 unfold pkF at h
 cases hf:(List.range (faces l).length).find? (ZgZ l) with
 | none=>rw [hf] at h;cases h
 | some i' =>
  rw [hf] at h;dsimp only at h
  cases hp:Zg5 (tns l (gi (faces l) i')) with
  | none=>rw [hp] at h;cases h
  | some q =>
   rw [hp] at h;obtain ⟨j,k⟩:=q;cases h;rw [List.find?_range_eq_some] at hf;obtain ⟨c1,c2,c3⟩:=ZiG hp;exact ⟨by simpa using hf.2.1,c1,c2,c3⟩
theorem Zqq {d p:Nat}(hd:d<4) (hp:p<2):Za4 d (-(p:Int))=some (((d+4-p)%4:Nat):Int):=by
 have:p=0∨p=1:=by omega
 rcases this with rfl|rfl
 ·have e:=Zha hd (t:=0) (by omega);rw [if_neg (by decide),if_pos rfl] at e;rw [show (-((0:Nat):Int))=0 from rfl,e];congr 2<;>omega
 ·have e:=Zha hd (t:=-1) (by omega);rw [if_neg (by decide),if_neg (by decide),if_pos rfl] at e;rw [show (-((1:Nat):Int))=-1 from rfl,e];congr 2<;>omega
def pkR (l:List Za) (i:Nat) (a b:Nat×Nat):Int×Int×Int :=
 (nx l (gi (gi (faces l) i) a.1).1 (gi (gi (faces l) i) a.1).2,((((gi (gi (faces l) i) a.1).2+4-a.2)%4:Nat):Int),nx l (gi (gi (faces l) i) b.1).1 (gi (gi (faces l) i) b.1).2)
theorem Zqv {l:List Za}(hl:l.length≤60) (k:Ze3 l=0):Zb1 l=some (match pkF l with
  | none=>(0,0,0,false)
  | some (i,a,b)=>((pkR l i a b).1,(pkR l i a b).2.1,(pkR l i a b).2.2,true)):=by
 have hc:=(ZcF.1 k).2;obtain ⟨o1,o2,o3,_⟩:=Zdp hc;unfold Zb1;rw [Znx (by omega) k,obs];have L:ZV (Zb1.s0 l ((faces l).map (List.map dt))) big 0=some (match (List.range (faces l).length).find? (ZgZ l) with
   | some i=>.inr (match Zg5 (tns l (gi (faces l) i)) with|none=>(0,0,0)|some (j,k)=>pkR l i (gi (Zcj (tns l (gi (faces l) i))) j) (gi (Zcj (tns l (gi (faces l) i))) k))
   | none=>.inl ()):=by
  refine ZcA (n:=(faces l).length) (P:=ZgZ l) (f:=fun i=>match Zg5 (tns l (gi (faces l) i)) with|none=>(0,0,0)|some (j,k)=>pkR l i (gi (Zcj (tns l (gi (faces l) i))) j) (gi (Zcj (tns l (gi (faces l) i))) k)) (ZaK (by omega)) (fun i hi=>?_) ?_
  ·have hm:=ZaH hi;have fl:=o3 _ hm;simp only [Zb1.s0,itn,ZbO hi];rw [ZU (by simp;omega),Zz (by simp;omega),Zn1 (by omega) k (o1 _ hm) (by omega),obs];have hk:=Zrz (t:=tns l (gi (faces l) i)) (ZqN (by omega)) (fun i=>Zgd i);unfold ZgZ
   cases hp:Zg5 (tns l (gi (faces l) i)) with
   | none=>rw [hp] at hk;dsimp only at hk;rw [hk,obs,Bool.not_false,if_pos rfl,zR (by omega)];rfl
   | some q =>
    obtain ⟨j,k'⟩:=q;obtain ⟨c1,c2,c3⟩:=ZiG hp;rw [hp] at hk;dsimp only at hk ⊢;generalize gi (Zcj (tns l (gi (faces l) i))) j=a at *;generalize gi (Zcj (tns l (gi (faces l) i))) k'=b at *;rw [hk,obs];obtain ⟨a1,a2⟩:=Zfn.1 c1;obtain ⟨b1,b2⟩:=Zfn.1 c2;have a3:=(ZgY a2).2.1;rw [ZcP] at a1 b1;have dA:=o1 _ hm _ (ZaH a1);have dB:=o1 _ hm _ (ZaH b1);have A1:=dA.1;have A2:=dA.2.1;have B1:=dB.1;have B2:=dB.2.1;have ga:gi ((gi (faces l) i).map dt) a.1=dt (gi (gi (faces l) i) a.1):=ZbO a1;have gb:gi ((gi (faces l) i).map dt) b.1=dt (gi (gi (faces l) i) b.1):=ZbO b1;simp only [kC,itn,ga,gb,dt,List.length_map];rw [Bool.not_true,if_neg Bool.false_ne_true,Zz (by omega),Zz (by omega),Zz (by omega),Zz (by omega),zR (by omega),Zqq A2 a3,obs,Zz (by omega),Zz (by omega)];rfl
  ·simp only [Zb1.s0];rw [ZS (by simp)]
 dsimp only;rw [L,obs];unfold pkF
 cases hf:(List.range (faces l).length).find? (ZgZ l) with
 | none=>rfl
 | some i =>
  rw [List.find?_range_eq_some] at hf;have:=hf.1;unfold ZgZ at this;dsimp only
  cases hp:Zg5 (tns l (gi (faces l) i)) with
  | none=>rw [hp] at this;simp at this
  | some q=>rfl
def Zhx (picks:List Bool) (n:Nat):Bool:=decide (n<picks.length)&&gi picks n
def rgD (d:Nat) (b:Bool):Nat:=if decide (d%2=0)=b then (d+1)%4 else d
def Zhc (picks:List Bool) (n:Nat) (l:List Za):Option (List Za) :=
 match pkF l with
 | none=>none
 | some (i,a,b)=>some (wth l (nx l (gi (gi (faces l) i) a.1).1 (gi (gi (faces l) i) a.1).2).toNat (rgD (((gi (gi (faces l) i) a.1).2+4-a.2)%4) (Zhx picks n):Nat) (nx l (gi (gi (faces l) i) b.1).1 (gi (gi (faces l) i) b.1).2).toNat (-2))
theorem ZrU {d p:Nat}{b:Bool}(hp:p<2) (hd:d<4):∃ t,t<2∧rgD ((d+4-p)%4) b=(d+4-p+t)%4:=by
 unfold rgD;split
 ·exact ⟨1,by omega,by omega⟩
 ·exact ⟨0,by omega,by omega⟩
structure RgS (l m:List Za):Prop where
 ex:∃ v w d:Nat,v<l.length∧w<l.length∧v≠w∧d<4∧nx l v d=-1∧nx l w ((d+2)%4)=-1∧m=wth l v d w (-2)
 err:ZcQ m=0
theorem Zj2 {l m:List Za}{picks:List Bool}{n:Nat}(h:ZcQ l=0) (hl:l.length≤4096) (hm:Zhc picks n l=some m):RgS l m∧∃ i a b v w d,pkF l=some (i,a,b)∧v<l.length∧w<l.length∧v≠w∧d<4∧nx l v d=-1∧nx l w ((d+2)%4)=-1∧m=wth l (v:Nat) (d:Nat) (w:Nat) (-2)∧pkR l i a b=((v:Int),((((gi (gi (faces l) i) a.1).2+4-a.2)%4:Nat):Int),(w:Int))∧d=rgD (((gi (gi (faces l) i) a.1).2+4-a.2)%4) (Zhx picks n):=by
 obtain ⟨k,W,_⟩:=Zde h;have hc:=(ZcF.1 k).2;unfold Zhc at hm
 cases hp:pkF l with
 | none=>rw [hp] at hm;cases hm
 | some q =>
  obtain ⟨i,a,b⟩:=q;rw [hp] at hm;dsimp only at hm;obtain ⟨hi,ha,hb,hr⟩:=Zn9 hp;have h1:l.length≠1:=fun e=>by rw [Zjn hc e] at hi;simp at hi
  have V:=(ZdJ.1 h).2.2 h1;obtain ⟨a1,a2⟩:=Zfn.1 ha;rw [ZcP] at a1;have dA:=(Zdp hc).1 _ (ZaH hi) _ (ZaH a1);obtain ⟨t,ht,ed⟩:=ZrU (b:=Zhx picks n) (ZgY a2).2.1 dA.2.1;obtain ⟨x1,x2,x3,x4,x5,x6,x7,x8,x9,x10,x11,x12,x13⟩:=Znv hc V W (ZaH hi) ha hb hr ht ed;have hd4:rgD (((gi (gi (faces l) i) a.1).2+4-a.2)%4) (Zhx picks n)<4:=by rw [ed];exact Nat.mod_lt _ (by decide)
  cases hm;have er:ZcQ (wth l (nx l (gi (gi (faces l) i) a.1).1 (gi (gi (faces l) i) a.1).2).toNat (rgD (((gi (gi (faces l) i) a.1).2+4-a.2)%4) (Zhx picks n):Nat) (nx l (gi (gi (faces l) i) b.1).1 (gi (gi (faces l) i) b.1).2).toNat (-2))=0 :=
   ZdJ.2 ⟨ZcF.2 ⟨by rw [ZaL];exact hl,x11⟩,x13,fun _=>x12⟩
  refine ⟨⟨⟨_,_,_,x6,x7,x8,hd4,x9,x10,rfl⟩,er⟩,i,a,b,_,_,_,rfl,x6,x7,x8,hd4,x9,x10,rfl,?_,rfl⟩;have:=x4.2.2;have:=x5.2.2;unfold pkR;rw [Int.toNat_of_nonneg x4.2.2,Int.toNat_of_nonneg x5.2.2]
theorem Zqw {l cells:List Za}{picks:List Bool}{n:Nat}(hl:l.length≤60) (h:ZcQ l=0) (hn:n≤100000):ZaO.s0 cells picks (l,(n:Int))=some (match Zhc picks n l with|none=>.inr (l,(n:Int),0)|some m=>.inl (m,(n:Int)+1)):=by
 obtain ⟨k,W,_⟩:=Zde h;simp only [ZaO.s0,itn];rw [Zqp (by omega),obs,Zqv hl k,obs]
 cases hm:Zhc picks n l with
 | none =>
  cases hp:pkF l with
  | none=>rfl
  | some q=>unfold Zhc at hm;rw [hp] at hm;cases hm
 | some m =>
  obtain ⟨S,i,a,b,v,w,d,hp,hv,hw,hvw,hd,f1,f2,rfl,er,ed⟩:=Zj2 h (by omega) hm;rw [hp];dsimp only;rw [Bool.not_true,if_neg Bool.false_ne_true,er];dsimp only;have hb:(if decide ((n:Int)<(picks.length:Int))=true then ck ((0:Int)≤(n:Int)∧(n:Int)<(picks.length:Int)) (some (gi picks n)) else some false)=some (Zhx picks n):=by
   unfold Zhx;by_cases c:n<picks.length
   ·rw [ZU (by omega),Zz (by omega),Zdf c,Bool.true_and]
   ·rw [ZS (by omega),Zdo c,Bool.false_and]
  rw [hb,obs];simp only [Zck,obs];have hx:((gi (gi (faces l) i) a.1).2+4-a.2)%4<4:=Nat.mod_lt _ (by decide);generalize ((gi (gi (faces l) i) a.1).2+4-a.2)%4=e at *;have hd':(if decide ((decide ((e:Int)=0)||decide ((e:Int)=2))=Zhx picks n)=true then (Za4 (e:Int) 1).bind fun x13=>some x13 else some (e:Int))=some (d:Int):=by
   have q:(decide ((e:Int)=0)||decide ((e:Int)=2))=decide (e%2=0):=by
    match e,hx with
    | 0,_|1,_|2,_|3,_=>rfl
   rw [q,ed];unfold rgD;by_cases c:decide (e%2=0)=Zhx picks n
   ·rw [ZU c,if_pos c,Zha hx (by omega),if_pos rfl];rfl
   ·rw [ZS c,if_neg c]
  rw [hd',obs,(Zii (o:=-2) (by omega) hv hw hvw hd (by omega) f1 f2).1,obs];dsimp only;rw [Zcm rfl,zR (by omega)]
structure RgI (l m:List Za) (n:Nat):Prop where
 err:ZcQ m=0
 len:m.length=l.length
 cnt:cD m=cD l+2*n
 kp:∀ v d,v<l.length→d<4→(nx m v d=nx l v d∧ow m v d=ow l v d)∨(nx l v d=-1∧0≤nx m v d∧ow m v d=-2)
theorem RgI.step {l m k:List Za}{n:Nat}(R:RgI l m n) (S:RgS m k):RgI l k (n+1):=by
 obtain ⟨v,w,d,hv,hw,hvw,hd,f1,f2,rfl⟩:=S.ex;have hc:=(ZcF.1 (Zde R.err).1).2;have hk:=(ZcF.1 (Zde S.err).1).2;have D:=Del.of_wth hc hv hw hvw hd (o:=-2) f1 f2;refine ⟨S.err,by rw [ZaL,R.len],?_,?_⟩
 ·rw [D.cD hk,R.cnt];omega
 ·intro u e hu he;obtain ⟨n1,n2⟩:=Ze6 (o:=-2) hv hw hvw hd (i:=u) (e:=e) (by rw [R.len];exact hu) he;rw [n1,n2];rcases R.kp u e hu he with ⟨h1,h2⟩|⟨h1,h2,h3⟩
  ·by_cases c1:u=v∧e=d
   ·rw [if_pos c1,if_pos c1];obtain ⟨rfl,rfl⟩:=c1;exact .inr ⟨by rw [← h1];exact f1,by omega,rfl⟩
   ·rw [if_neg c1,if_neg c1];by_cases c2:u=w∧e=(d+2)%4
    ·rw [if_pos c2,if_pos c2];obtain ⟨rfl,rfl⟩:=c2;exact .inr ⟨by rw [← h1];exact f2,by omega,rfl⟩
    ·rw [if_neg c2,if_neg c2];exact .inl ⟨h1,h2⟩
  ·have c1:¬ (u=v∧e=d):=by rintro ⟨rfl,rfl⟩;omega
   have c2:¬ (u=w∧e=(d+2)%4):=by rintro ⟨rfl,rfl⟩;omega
   rw [if_neg c1,if_neg c2,if_neg c1,if_neg c2];exact .inr ⟨h1,h2,h3⟩
theorem RgI.le {l m:List Za}{n:Nat}(R:RgI l m n):(2*n:Int)≤4*l.length:=by
 have h:=R.cnt;have a:=ZhK (l:=m) m.length;have b:=ZhK (l:=l) l.length;rw [R.len] at a;unfold cD at h;rw [R.len] at h;omega
theorem Znz {l:List Za}{picks:List Bool}(hl:l.length≤60) (h:ZcQ l=0):∃ (m:List Za) (n:Nat),ZaO l picks=some (m,(n:Int),0)∧RgI l m n∧pkF m=none:=by
 obtain ⟨k,W,_⟩:=Zde h;unfold ZaO;rw [ZlT (by omega),obs,Zcm h,mOf (by omega),obs,if_pos k];dsimp only;rw [obs];have L:∃ r,ZV (ZaO.s0 l picks) big (l,0)=some r∧∃ (m:List Za) (n:Nat),r=(m,(n:Int),0)∧RgI l m n∧pkF m=none:=by
  refine Zfb (fun s=>400-s.2.toNat) (fun s=>∃ (m:List Za) (n:Nat),s=(m,(n:Int))∧RgI l m n) (ZaK (by omega)) ⟨l,0,rfl,h,rfl,by omega,fun v d _ _=>.inl ⟨rfl,rfl⟩⟩ ?_;rintro _ ⟨m,n,rfl,R⟩;have hle:=R.le;rw [Zqw (by rw [R.len];omega) R.err (by omega)]
  cases e:Zhc picks n m with
  | none =>
   refine .inr ⟨_,rfl,m,n,rfl,R,?_⟩;unfold Zhc at e
   cases hp:pkF m with
   | none=>rfl
   | some q=>rw [hp] at e;cases e
  | some m' =>
   have S:=(Zj2 R.err (by rw [R.len];omega) e).1;have R':=R.step S;have:=R'.le;refine .inl ⟨_,rfl,⟨m',n+1,by simp,R'⟩,?_⟩;dsimp only;omega
 obtain ⟨_,e,m,n,rfl,R,N⟩:=L;rw [e,obs];exact ⟨m,n,rfl,R,N⟩
theorem ZoT {l:List Za}{picks:List Bool}(hl:l.length≤1200) (h:ZcQ l≠0):ZaO l picks=some ([],0,ZcQ l):=by
 unfold ZaO;rw [ZlT (by omega),obs,Zdt h]
end Mu
/- Layer 22: what is made regular can be drawn,no corners of it Znv at one another,and nothing but edges of Dummy is new. -/
namespace Mu
theorem Zjt:ZbF=some true:=by decide +kernel
end Mu
/- Layer 22: RegularDraws. -/
namespace Mu
theorem Zq7 {l:List Za}(h:ZcQ l=0) (h1:l.length≠1):∃ o i:Nat,o<(faces l).length∧ZeT l=o∧zD l (gi (faces l) o)=-4∧i<(gi (faces l) o).length∧opF (tns l (gi (faces l) o))=some i∧tt l (gi (gi (faces l) o) i)<0:=by
 obtain ⟨r1,r2⟩:=Zle h h1;obtain ⟨o,ho⟩:∃ o:Nat,ZeT l=o:=⟨(ZeT l).toNat,by omega⟩;rw [ho] at r2;have hi:o<(faces l).length:=by omega
 have r4:zD l (gi (faces l) o)=-4:=by
  rcases ZiV h h1 hi with z|z
  ·exact absurd ho.symm z.2
  ·exact z.1
 obtain ⟨i,hi2,op⟩:=ZrI (t:=tns l (gi (faces l) o)) r4
 cases q:opF (tns l (gi (faces l) o)) with
 | none =>
  unfold opF at q;rw [List.find?_range_eq_none] at q;have:=q i hi2;have hn:ZgN (tns l (gi (faces l) o)) i=none:=by
   unfold ZgN;rw [List.find?_range_eq_none];exact fun j hj=>by simpa using op.2 j hj
  rw [hn] at this;have:=op.1;simp_all
 | some j =>
  have q':=q;unfold opF at q;rw [List.find?_range_eq_some] at q;have hj:j<(gi (faces l) o).length:=by have:=q.2.1;rw [List.mem_range,ZcP] at this;exact this
  refine ⟨o,j,hi,ho,r4,hj,q',?_⟩;have:=q.1;rw [Bool.and_eq_true,decide_eq_true_eq] at this;have:=this.1;unfold tns at this;rw [ZbO hj] at this;exact this
theorem Zsx {l:List Za}(hl:l.length≤1100) (h:ZcQ l=0) (h1:l.length≠1) :
  (Zfk l=none∧∀ s:Nat,s≤50000→Zaa.s0 (l,(s:Int))=some (.inr (.inr (l,0)))) ∨
  ∃ m,Cut l m∧∀ s:Nat,s≤50000→Zaa.s0 (l,(s:Int))=some (.inl (m,(s:Int)+1)):=by
 obtain ⟨k,hW,_⟩:=Zde h;have hc:=(ZcF.1 k).2;have hV:=(ZdJ.1 h).2.2 h1;have F1:=Zpf (l:=l) (by omega);rw [if_pos ⟨h,h1⟩] at F1
 cases q:Zfk l with
 | none =>
  left;refine ⟨rfl,fun s hs=>?_⟩;rw [q] at F1;simp only [Zaa.s0];rw [ZU (by omega),F1,obs];dsimp only;rw [ZU (by omega)]
 | some i =>
  right;obtain ⟨hi,hne,j,e,hj,h0⟩:=ZkE q;obtain ⟨o1,o2,o3,_⟩:=Zdp hc;have hm:=ZaH hi;have fl:=o3 _ hm;have r4:zD l (gi (faces l) i)=4:=by
   rcases ZiV h h1 hi with z|z
   ·exact z.1
   ·exact absurd z.2 hne
  obtain ⟨kk,k1,⟨k0,kh,kz⟩,dX,dY,lv,w,ew,lw,S,f1,f2,C⟩:=Znc hc hV hW hm r4 hj h0 (by omega);have tl:=ZcP (l:=l) (f:=gi (faces l) i);have rk:zP (tns l (gi (faces l) i)) (j:Int)=some (kk:Int):=by
   rw [rOf (t:=tns l (gi (faces l) i)) Zgd (by omega) (i:=j) (by omega),if_pos h0,kh];dsimp only;rw [tl,← kz]
  rw [q] at F1;simp only [e,Option.getD_some] at F1;have nX:=dX.2.2;have nY:=dY.2.2;have en:nx l (gi (gi (faces l) i) j).1 (gi (gi (faces l) i) j).2=((nx l (gi (gi (faces l) i) j).1 (gi (gi (faces l) i) j).2).toNat:Nat):=by omega
  have J:=Zii (l:=spl l (gi (gi (faces l) i) kk).1 (gi (gi (faces l) i) kk).2 w (ow l (gi (gi (faces l) i) kk).1 (gi (gi (faces l) i) kk).2)) (v:=(nx l (gi (gi (faces l) i) j).1 (gi (gi (faces l) i) j).2).toNat) (d:=(gi (gi (faces l) i) j).2) (w:=l.length) (o:=-2) (by rw [S.len];omega) (by rw [S.len];omega) (by rw [S.len];omega) (by omega) dX.2.1 (by omega) f1 f2;refine ⟨_,C,fun s hs=>?_⟩;have g1:gi ((gi (faces l) i).map rt) j=rt (gi (gi (faces l) i) j):=ZbO hj;have g2:gi ((gi (faces l) i).map rt) kk=rt (gi (gi (faces l) i) kk):=ZbO k1;simp only [Zaa.s0];rw [ZU (by omega),F1,obs];dsimp only;rw [ZS (by omega),Zkn (by omega) k,obs,Zz (by simp;omega)];simp only [itn,ZbO hi];rw [Zko (by omega) k (o1 _ hm) (by omega),obs,rk,obs];simp only [itn,g1,g2];generalize gi (gi (faces l) i) j=x at *;generalize gi (gi (faces l) i) kk=y at *;have x1:=dX.1;have x2:=dX.2.1;have y1:=dY.1;have y2:=dY.2.1;have er:∀ p:Da,(rt p).Dir=(p.2:Int)∧(rt p).Cell=(p.1:Int):=fun _=>⟨rfl,rfl⟩;simp only [(er x).1,(er x).2,(er y).1,(er y).2,itn];rw [Zz (by simp;omega),Zz (by omega),Zz (by omega),Zz (by simp;omega),ZnJ (by omega) y1 y2 ew lw,obs];dsimp only;rw [Zcm rfl];show (zO _ (nx l x.1 x.2) (x.2:Int) _ (-2)).bind _=_;rw [en,J.2,obs,zR (by omega)];rfl
theorem ZnH {l:List Za}(hl:l.length≤100) (h:ZcQ l=0) (h1:l.length≠1):∃ F v d,Framed l F v d∧ZaC l=some (F,0):=by
 obtain ⟨k,hW,_⟩:=Zde h;have hc:=(ZcF.1 k).2;have hV:=(ZdJ.1 h).2.2 h1;obtain ⟨o,i,hi,ho,r4,hi2,op,tx⟩:=Zq7 h h1;have hm:=ZaH hi;obtain ⟨o1,o2,o3,_⟩:=Zdp hc;have fl:=o3 _ hm;have dx:=o1 _ hm _ (ZaH hi2);have tf:=ZgL dx.2.1 tx;have fx:=dx.fwd hc;have lv:=hc.lt fx.1 dx.2.1;have hd:=dx.2.1;have n0:=dx.2.2;refine ⟨_,_,_,Zqg hc hV hW (ZbM hc _ hm) r4 (ZaH hi2) tx,?_⟩
 ·have m5:=ZoR (n:=5) (by omega);have m0:=ZoR (n:=0) (by omega);rw [show ((5:Nat):Int)=5 from rfl] at m5;rw [show ((0:Nat):Int)=0 from rfl] at m0;have rO:=ZqD (t:=tns l (gi (faces l) o)) Zgd (by rw [ZcP];omega);rw [op] at rO;dsimp only at rO;unfold ZaC;rw [Zl1 (by omega),if_pos h,h,obs,ho];dsimp only;rw [Zcm rfl,ZS (by omega),zR (by omega),ZS (by omega),Zkn (by omega) k,obs,Zz (by simp;omega)];have E:∀ p:Da,p=gi (gi (faces l) o) i→∀ (out:List Za),ZV (ZaC.s0 l o ((faces l).map (List.map rt)) i) big (l++List.replicate 5 noC,0)=some (app l (frQ p.2 4)):=by
   intro p hp out;refine ZbC (fun s:Nat=>(app l (frQ p.2 s),(s:Int))) (n:=4) (ZaK (by omega)) (by rw [frQ,Zov];rfl) (fun s hs=>?_) ?_
   ·obtain ⟨q1,q2,q3,q4,q5,q6,q7,_,_⟩:=Zpu (n:=l.length) hs;have g2:gi ((gi (faces l) o).map rt) i=rt p:=by rw [ZbO hi2,hp]
    simp only [ZaC.s0,itn,ZbO hi,g2];rw [ZU (by omega),Zz (by simp;omega),Zz (by simp;omega),Zz (by simp;omega),q1,q2,q3];have er:(rt p).Dir=(p.2:Int):=rfl;rw [er];by_cases c:s=p.2
    ·rw [Zcm (by omega),zR (by omega),frQ,if_pos c];rfl
    ·obtain ⟨z1,z2⟩:=Zmq ⟨p.2,by rw [hp];exact hd⟩ ⟨s,hs⟩ c;rw [Zdt (by omega),Ziu (by omega) (Zig s) q4 q5 q7 q6 z1 z2,obs,zR (by omega),frQ,if_neg c];rfl
   ·simp only [ZaC.s0];rw [ZS (by omega)]
  have g2:gi ((gi (faces l) o).map rt) i=rt (gi (gi (faces l) o) i):=ZbO hi2;simp only [itn,ZbO hi];rw [Zko (by omega) k (o1 _ hm) (by omega),obs,rO,obs];simp only [itn,g2];have E':=E _ rfl [];generalize gi (gi (faces l) o) i=p at *;obtain ⟨q1,q2,q3,q4,q5,q6,q7,q8,q9⟩:=Zpu (n:=l.length) hd;obtain ⟨y1,y2,y3,y4⟩:=Zno ⟨p.2,hd⟩;have y5:=Znn ⟨p.2,hd⟩;dsimp only at y1 y2 y3 y4 y5;have er:(rt p).Dir=(p.2:Int):=rfl;have ec:(rt p).Cell=(p.1:Int):=rfl;have p1:=dx.1;simp only [er,ec,itn];rw [Zz (by simp;omega),Zz (by omega),Zz (by omega),m5,obs,m0,obs,Zz (by simp;omega),Zz (by simp;omega),zR (by omega),zR (by omega),Zz (by simp;omega),zR (by omega),Zz (by simp;omega),Zz (by simp;omega)];rw [show List.replicate 0 noC++l++List.replicate 5 noC=l++List.replicate 5 noC by simp,E',obs,zR (by omega),q1,q2,q3];rw [show (l.length:Int)+4=((l.length+4:Nat):Int) by omega,Ziu (by omega) (Zig 4) q4 (by omega) q8 q6 y1 y2,obs];dsimp only;rw [Ziu (by omega) (by rw [ZaL];exact Zig 4) (by omega) q5 (by omega) q6 y3 y4,obs,y5];dsimp only;have h4:=(ZlQ ⟨p.2,hd⟩).2.2.2.2.2.1;dsimp only at h4;have kl:=ZjT (d:=p.2) 4;have ev:nx l p.1 p.2=((nx l p.1 p.2).toNat:Nat):=by omega
  have J:=(Zii (l:=app l (frK p.2 4)) (v:=(nx l p.1 p.2).toNat) (d:=p.2) (w:=l.length+4) (o:=-2) (by rw [Zdi];omega) (by rw [Zdi];omega) (by rw [Zdi];omega) (by omega) hd (by omega) (by rw [(Zdk fx.1).1];omega) (by rw [(ZdL (by omega) (by omega)).1,h4];rfl)).2;show (zO (app l (frK p.2 4)) (nx l p.1 p.2) (p.2:Int) _ (-2)).bind _=_;rw [ev,J,obs];rfl
theorem ZkT:∀ (f:Nat) (F g:List Za) (k n:Nat),Cuts F k g→ZcQ g=0→2≤g.length→(g.length:Int)+negs g≤1000→(n:Int)+negs g≤40000→negs g+2≤f →
  ∃ m k',ZV Zaa.s0 f (g,(n:Int))=some (.inr (m,0))∧m.length≤1000∧2≤m.length∧Cuts F k' m∧ZcQ m=0∧Zfk m=none
 | 0,F,g,k,n,_,_,_,_,_,hf=>by have:=Zkh (l:=g);omega
 | f+1,F,g,k,n,hC,hv,h2,hb,hn,hf=>by
  have nn:=Zkh (l:=g);rcases Zsx (l:=g) (by omega) hv (by omega) with ⟨a,c⟩|⟨m,C,c⟩
  ·exact ⟨g,k,by rw [ZV,c n (by omega)],by omega,h2,hC,hv,a⟩
  ·have l1:=C.len;have l2:=C.negs;obtain ⟨r,k',r1,r2,r3,r4,r5,r6⟩:=ZkT f F m (k+1) (n+1) (.succ hC C) (C.err (by omega)) (by omega) (by omega) (by omega) (by omega);refine ⟨r,k',?_,r2,r3,r4,r5,r6⟩;rw [ZV,c n (by omega)];exact r1
theorem KH.sub {l m r:List Za}(hlen:m.length=l.length) (h:∀ v d w:Nat,v<l.length→d<4→nx l v d=w→nx m v d=w) (K:KH m r):KH l r:=by
 obtain ⟨k,hm,t⟩:=K;rw [hlen] at k t;exact ⟨k,hm,fun v d w hv hd hw=>t v d w hv hd (h v d w hv (by omega) hw)⟩
theorem Zm0 {m:List Za}(hl:m.length≤60) (hv:ZcQ m=0):∃ r,Zaa m=some (r,0)∧∀ l,Ck l→m.length=l.length→(∀ v d w:Nat,v<l.length→d<4→nx l v d=w→nx m v d=w)→Dr l r:=by
 obtain ⟨k,hW,_⟩:=Zde hv;have hc:=(ZcF.1 k).2;unfold Zaa;by_cases h1:m.length=1
 ·refine ⟨m,?_,fun l hl e _=>Dr.one hc hl h1 (by omega)⟩;rw [ZU (by omega),Zl1 (by omega),if_pos hv,hv,obs];rfl
 ·obtain ⟨F,v,d,hF,e⟩:=ZnH (by omega) hv h1;have fl:=hF.len;have nl:=ZoZ (l:=F);have nn:=Zkh (l:=F);obtain ⟨r,k',e2,m1,m2,hC,mv,mf⟩:=ZkT ((negs F).toNat+2) F F 0 0 .zero (hF.err (by omega)) (by omega) (by omega) (by omega) (by omega);obtain ⟨g,g1,g2,_,g3⟩:=hF.out;have K:=hF.kh.cuts hF.ck hC;refine ⟨r,?_,fun l hl el es=>Dr.of hl (K.sub el es) mv (by omega) (by omega) mf (hC.outer ⟨g,g1,g2,g3⟩)⟩;rw [ZS (by omega),obs];dsimp only;rw [e,obs];dsimp only;have:=Zdq e2 (show (negs F).toNat+2≤big by unfold big;omega);rw [show ((0:Nat):Int)=0 from rfl] at this;rw [Zcm rfl,this,obs]
theorem Zhk (z:Zah) (picks:List Bool) (m1:z.At.length≤Go.maxLen) (b1:∀ y∈z.At,Zji y) (m2:z.Bits.length≤Go.maxLen) (b2:∀ y∈z.Bits,Zji y) (m3:z.Own.length≤Go.maxLen) (b3:∀ y∈z.Own,ZlE y) (mp:picks.length≤Go.maxLen) (bp:∀ x∈picks,Zj6 x):Zbz z picks=some true:=by
 obtain ⟨l,pts,e1,hM,hlen⟩:=Zr9 (z:=z) (most:=9) (Zsv m1 b1 b3) (by omega);unfold Zbz;rw [e1,obs];dsimp only;have hc:=hM.ck;by_cases bad:ZcQ l=0
 ·obtain ⟨m,n,em,R,_⟩:=Znz (l:=l) (picks:=picks) (by omega) bad;have lm:=R.len;have km:=(ZcF.1 (Zde R.err).1).2;have sub:∀ v d w:Nat,v<l.length→d<4→nx l v d=w→nx m v d=w:=by
   intro v d w hv hd hw;rcases R.kp v d hv hd with q|q
   ·rw [q.1];exact hw
   ·omega
  obtain ⟨r,er,hD⟩:=Zm0 (m:=m) (by omega) R.err;have Dm:=hD m km rfl fun v d w _ _ h=>h;have Dl:=hD l hc lm sub;have len:=Dm.len;have le:=Dl.le;have hV:=(ZdJ.1 R.err).2.2;obtain ⟨X,Y,V,H,er16,cx,cy⟩:=Zp3 Dm.ck len Dm.c1 Dm.c0;obtain ⟨ψ,hψ⟩:=Dm.g0 X V cx;obtain ⟨χ,hχ⟩:=Dm.g1 Y H cy;have lV:=cx.Ll;have lH:=cy.Ll;obtain ⟨a,ea,Ha⟩:=ZrP hψ (by omega);obtain ⟨b,eb,Hb⟩:=ZrP hχ (by omega);have g0:=ZnI Dm.ck len cx.alen (d:=0) (by omega);have g1:=ZnI Dm.ck len cy.alen (d:=1) (by omega);rw [show ((0:Nat):Int)=0 from rfl] at g0;rw [show ((1:Nat):Int)=1 from rfl] at g1;have fit:∀ {n:Nat}{arcs:List Zav}{ψ:Nat→Nat}{M:Int}{a:List Int},Rk n arcs ψ→RX n arcs ψ M n a→∀ e∈arcs,sat a e:=fun hg h e he=>h.fit e he (hg.le _);have Am:AllCh m 1∧AllCh m 0:=by
   by_cases h1:m.length=1
   ·have D1:=Dr.one km km h1 h1;exact ⟨D1.c1,D1.c0⟩
   ·have Cl:=Zk8 km (Zde R.err).2.1;obtain ⟨φ,a0,a1,_⟩:=pot km (hV h1) Cl (d0:=0) (by omega);obtain ⟨χ,b0,b1,_⟩:=pot km (hV h1) Cl (d0:=1) (by omega);exact ⟨Zfa km (by omega) b0 b1,Zfa km (by omega) a0 a1⟩
  obtain ⟨d1,d2,d3⟩:=Dm.draw km Am.1 Am.2 er16 cx cy Ha.len Hb.len (fit hψ Ha) (fit hχ Hb);obtain ⟨_,_,d4⟩:=Dl.draw hc (hM.allCh (by omega)) (hM.allCh (by omega)) er16 cx cy Ha.len Hb.len (fit hψ Ha) (fit hχ Hb);rw [em,obs];dsimp only;rw [Zjt,obs,if_neg (by simp),er,obs];dsimp only;rw [Zcm rfl,er16,obs];dsimp only;rw [if_neg (by decide),g0,obs,ea,obs,g1,obs,eb,obs,d1,obs,Zz (by rw [ZhC];omega),itn];rw [lm] at d3;rw [d3,obs,if_pos rfl,d4,obs,obs]
 ·rw [ZoT (by omega) bad,obs];dsimp only;rw [Zjt,obs,if_pos (by simp [bad]),obs]
end Mu
