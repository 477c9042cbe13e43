/- The law, plainly: what is worked out. -/
import Derived.Test.YtjhlegefgllihaaGreatMuV
import Derived.Test.YtjhlegefgllihaaGreatMuDf
import Derived.Test.YtjhlegefgllihaaGreatMuK0
import Derived.Test.YtjhlegefgllihaaGreatMuK1
/- Layer 16:what the document's chains are. -/
set_option linter.unusedVariables false
set_option linter.unusedSimpArgs false
set_option maxRecDepth 10000
namespace Mu
structure RI(l:List Za)(d:Nat)(a F:List Int)(L:List (List Int))(v:Nat):Prop where
 alen:a.length=l.length
 flen:F.length=L.length
 ch:∀i,i<L.length->IsCh l d (gi L i)/\gi (gi L i) 0=gi F i
 mem:∀u:Nat,u<v->∃i:Nat,i<L.length/\gi a u=i/\(u:Int)∈gi L i
 inj:∀i j,i<L.length->j<L.length->gi F i=gi F j->i=j
 seen:∀i:Nat,i<L.length->∃u,u<v/\gi a u=i
 ord:∀u i:Nat,u<v->gi a u=i+1->∃u',u'<u/\gi a u'=i
 Ll:L.length<=v
theorem Ztu{F:List Int}{x:Int}(hF:F.length<=1000):∃k:Nat,Zn (Z2.s1 F x) big 0=some (k:Int)/\((k<F.length/\gi F k=x)\/(k=F.length/\∀j,j<F.length->gi F j≠x)):=by
 have:∃r:Int,Zn (Z2.s1 F x) big 0=some r/\∃k:Nat,r=k/\((k<F.length/\gi F k=x)\/(k=F.length/\∀j,j<F.length->gi F j≠x)):=by
  refine Za1 (λs:Int=>F.length-s.toNat) (λs=>∃k:Nat,s=k/\k<=F.length/\∀j,j<k->gi F j≠x) (zy (by omega)) ⟨0,rfl,by omega,λj hj=>by omega⟩ ?_;rintro s ⟨k,rfl,hk,hn⟩;simp only[Z2.s1];by_cases c:k<F.length
  .rw[Zo (by omega),Zf (by omega),itn,obs];by_cases q:gi F k=x
   .right;rw[Zb2 q];exact⟨_,rfl,k,rfl,.inl ⟨c,q⟩⟩
   .left;rw[Zcc q,Zw (by omega)];refine⟨_,rfl,⟨k+1,by omega,by omega,λj hj=>?_⟩,by omega⟩;by_cases e:j=k
    .subst e;exact q
    .exact hn j (by omega)
  .right;rw[Zq (by omega),obs,if_neg (by decide)];exact⟨_,rfl,k,rfl,.inr ⟨by omega,λj hj=>hn j (by omega)⟩⟩
 obtain⟨r,e,k,rfl,h⟩:=this;exact⟨k,e,h⟩
theorem RI.old{l:List Za}{d v k:Nat}{a F:List Int}{L:List (List Int)}(h:RI l d a F L v)(hv:v<l.length)(hk:k<L.length)(hm:(v:Int)∈gi L k):RI l d (a.set v k) F L (v+1):=by
 have hal:=h.alen;have g:∀u,gi (a.set v (k:Int)) u=if u=v then(k:Int)else gi a u:=λu=>Zb1 (by omega);refine⟨by rw[List.length_set,hal],h.flen,h.ch,λu hu=>?_,h.inj,λi hi=>?_,λu i hu e=>?_,by have:=h.Ll;omega⟩
 .rw[g];by_cases c:u=v
  .subst c;exact⟨k,hk,by rw[if_pos rfl],hm⟩
  .rw[if_neg c];exact h.mem u (by omega)
 .obtain⟨u,u1,u2⟩:=h.seen i hi;exact⟨u,by omega,by rw[g,if_neg (by omega)];exact u2⟩
 .rw[g]at e;by_cases c:u=v
  .rw[if_pos c]at e;obtain⟨u',u1,u2⟩:=h.seen i (by omega);exact⟨u',by omega,by rw[g,if_neg (by omega)];exact u2⟩
  .rw[if_neg c]at e;obtain⟨u',u1,u2⟩:=h.ord u i (by omega) e;exact⟨u',u1,by rw[g,if_neg (by omega)];exact u2⟩
theorem RI.new{l:List Za}{d v:Nat}{a F:List Int}{L:List (List Int)}(h:RI l d a F L v)(hv:v<l.length){C:List Int}(hC:IsCh l d C)(hm:(v:Int)∈C)(hn:∀j,j<F.length->gi F j≠gi C 0):RI l d (a.set v (L.length:Nat)) (F++[gi C 0]) (L++[C]) (v+1):=by
 have hal:=h.alen;have hfl:=h.flen;have hL:(L++[C]).length=L.length+1:=by simp
 have g:∀u,gi (a.set v (L.length:Int)) u=if u=v then(L.length:Int)else gi a u:=λu=>Zb1 (by omega);have gF:∀i,i<L.length+1->gi (F++[gi C 0]) i=if i<L.length then gi F i else gi C 0:=λi hi=>by rw[ZdS (by omega),hfl]
 refine⟨by rw[List.length_set,hal],by simp[hfl],λi hi=>?_,λu hu=>?_,λi j hi hj e=>?_,λi hi=>?_,λu i hu e=>?_,by rw[hL];have:=h.Ll;omega⟩
 .rw[ZdS (by omega),gF i (by omega)];by_cases c:i<L.length
  .rw[if_pos c,if_pos c];exact h.ch i c
  .rw[if_neg c,if_neg c];exact⟨hC,rfl⟩
 .rw[g];by_cases c:u=v
  .subst c;exact⟨L.length,by omega,by rw[if_pos rfl],by rw[ZdS (by omega),if_neg (by omega)];exact hm⟩
  .rw[if_neg c];obtain⟨i,i1,i2,i3⟩:=h.mem u (by omega);exact⟨i,by omega,i2,by rw[ZdS (by omega),if_pos i1];exact i3⟩
 .rw[gF i (by omega),gF j (by omega)]at e;by_cases c:i<L.length
  .rw[if_pos c]at e;by_cases c2:j<L.length
   .rw[if_pos c2]at e;exact h.inj i j c c2 e
   .rw[if_neg c2]at e;exact absurd e (hn i (by omega))
  .rw[if_neg c]at e;by_cases c2:j<L.length
   .rw[if_pos c2]at e;exact absurd e.symm (hn j (by omega))
   .omega
 .by_cases c:i<L.length
  .obtain⟨u,u1,u2⟩:=h.seen i c;exact⟨u,by omega,by rw[g,if_neg (by omega)];exact u2⟩
  .exact⟨v,by omega,by rw[g,if_pos rfl];omega⟩
 .rw[g]at e;by_cases c:u=v
  .rw[if_pos c]at e;obtain⟨u',u1,u2⟩:=h.seen i (by omega);exact⟨u',by omega,by rw[g,if_neg (by omega)];exact u2⟩
  .rw[if_neg c]at e;obtain⟨u',u1,u2⟩:=h.ord u i (by omega) e;exact⟨u',u1,by rw[g,if_neg (by omega)];exact u2⟩
theorem ZpN{l:List Za}(hc:Ck l)(hl:l.length<=1000){d v:Nat}(hd:d<4){a F:List Int}{L:List (List Int)}(h:RI l d a F L v)(hv:v<l.length){r:Nat}{C:List Int}(hr:ZcF l ((d+2)%4) (l.length+1) v=some r)(hC:IsCh l d C)(h0:gi C 0=r)(hm:(v:Int)∈C):∃a' F' L',Z2.s0 l d (a,F,L,(v:Int))=some (.inl (a',F',L',(v:Int)+1))/\RI l d a' F' L' (v+1):=by
 have hal:=h.alen;have hfl:=h.flen;have hLl:=h.Ll;obtain⟨k,e,hk⟩:=Ztu (F:=F) (x:=(r:Int)) (by omega);simp only[Z2.s0];rw[Zo (by omega),Znh hc (by omega) hd hv,hr,obs];dsimp only;rw[Zq (by omega),e,obs,Zf (by omega),itn];rcases hk with⟨k1,k2⟩|⟨rfl,k2⟩
 .rw[Zq (by omega),Zw (by omega)];have hq:=h.ch k (by omega);have:C=gi L k:=hC.uniq0 hq.1 (by rw[h0,hq.2,k2]);exact⟨_,_,_,rfl,h.old hv (by omega) (this▸hm)⟩
 .rw[Zo (by omega),Zf (by simp;omega),<-h0,Zro (by omega) hd hC (hC.len hc hd),obs,Zf (by omega),Zw (by omega),hfl];exact⟨_,_,_,rfl,h.new hv hC hm (λj hj=>by rw[h0];exact k2 j hj)⟩
theorem RI.stop{l:List Za}(hc:Ck l){d:Nat}(hd:d<4){a F:List Int}{L:List (List Int)}(h:RI l d a F L l.length):CH l d a L :=
 ⟨h.alen,λi hi=>(h.ch i hi).1,h.mem,λi u hi hu hm=>by
  obtain⟨j,j1,j2,j3⟩:=h.mem u hu;have e:=(h.ch i hi).1.uniq hc hd (h.ch j j1).1 hm j3;have:=h.inj i j hi j1 (by rw[<-(h.ch i hi).2,<-(h.ch j j1).2,e]);omega,h.seen,h.ord,h.Ll⟩
theorem Zl2{l:List Za}(hc:Ck l)(hl:l.length<=1000){d:Nat}(hd:d<4):(AllCh l d->∃a L,Z2 l d=some (a,L,true)/\CH l d a L)/\(¬AllCh l d->Z2 l d=some ([],[],false)):=by
 have st:RI l d (List.replicate l.length (0:Int)) [] [] 0:=⟨by simp,rfl,λi hi=>by simp at hi,λu hu=>by omega,λi j hi=>by simp at hi,λi hi=>by simp at hi,λu i hu=>by omega,by simp⟩;constructor
 .intro hA;have:∃r:(List Int×List (List Int))⊕Unit,Zn (Z2.s0 l d) big (List.replicate l.length (0:Int),([]:List Int),([]:List (List Int)),0)=some r/\∃a F L,r=.inl (a,L)/\RI l d a F L l.length:=by
   refine ZbA (λ(k:Nat)(s:List Int×List Int×List (List Int)×Int)=>RI l d s.1 s.2.1 s.2.2.1 k/\s.2.2.2=k) (n:=l.length) (zy (by omega)) ⟨st,rfl⟩ ?_ ?_
   .rintro k ⟨a,F,L,x⟩ hk ⟨h1,h2⟩;dsimp only at h1 h2⊢;subst h2;obtain⟨r,C,hr,hC,h0,hm⟩:=hA.root hc hd hk;obtain⟨a',F',L',e,h'⟩:=ZpN hc hl hd h1 hk hr hC h0 hm;exact⟨_,e,h',by dsimp only;omega⟩
   .rintro⟨a,F,L,x⟩ ⟨h1,h2⟩;dsimp only at h1 h2⊢;subst h2;simp only[Z2.s0];rw[Zq (by omega)];exact⟨_,rfl,a,F,L,rfl,h1⟩
  obtain⟨r,e,a,F,L,rfl,h⟩:=this;refine⟨a,L,?_,h.stop hc hd⟩;unfold Z2;rw[Zf (by omega),itn,e,obs]
 .intro hA;obtain⟨v0,hv0,hr0⟩:=Zgy hc hd hA;have:∃r:(List Int×List (List Int))⊕Unit,Zn (Z2.s0 l d) big (List.replicate l.length (0:Int),([]:List Int),([]:List (List Int)),0)=some r/\r=.inr ():=by
   refine Za1 (λs:List Int×List Int×List (List Int)×Int=>l.length-s.2.2.2.toNat) (λs=>∃k:Nat,s.2.2.2=k/\k<=v0/\RI l d s.1 s.2.1 s.2.2.1 k) (zy (by dsimp only;omega)) ⟨0,rfl,by omega,st⟩ ?_;rintro⟨a,F,L,x⟩ ⟨k,h2,hk0,h1⟩;dsimp only at h1 h2⊢;subst h2;have hk:k<l.length:=by omega
   cases hr:ZcF l ((d+2)%4) (l.length+1) k with
   |none=>
    right;simp only[Z2.s0];rw[Zo (by omega),Znh hc (by omega) hd hk,hr,obs];dsimp only;rw[Zo (by omega)];exact⟨_,rfl,rfl⟩
   |some r=>
    left;have hne:k≠v0:=by rintro rfl;rw[hr]at hr0;cases hr0
    obtain⟨C,hC,h0,i,hi,ei⟩:=ZeI hc hd _ k r hk hr;obtain⟨a',F',L',e,h'⟩:=ZpN hc hl hd h1 hk hr hC h0 (by rw[<-ei];exact zh hi);exact⟨_,e,⟨k+1,by dsimp only;omega,by omega,h'⟩,by dsimp only;omega⟩
  obtain⟨r,e,rfl⟩:=this;unfold Z2;rw[Zf (by omega),itn,e,obs]
/-! both together -/
theorem Znj{l:List Za}(hl:l.length<=1000)(h:ZdR l=0)(A:AllCh l 1/\AllCh l 0):∃X Y V H,ZdG l=some (⟨X,Y,V,H⟩,0)/\CH l 1 X V/\CH l 0 Y H:=by
 have hc:=(Zcf.1 h).2;have s1:=Zl6 hc hl (d:=1) (by omega);have s0:=Zl6 hc hl (d:=0) (by omega);rw[show((1:Nat):Int)=1 from rfl]at s1;rw[show((0:Nat):Int)=0 from rfl]at s0;obtain⟨X,V,e1,c1⟩:=s1.1 A.1;obtain⟨Y,H,e2,c2⟩:=s0.1 A.2;refine⟨X,Y,V,H,?_,c1,c2⟩;unfold ZdG;rw[Zh4 (by omega),obs,Zb2 h,e1,obs];dsimp only;rw[e2,obs];rfl
end Mu
/- Layer 16:SegTells,SegMeets,SegTurns. -/
namespace Mu
theorem CH.small{l:List Za}(hc:Ck l){d:Nat}(hd:d<4){a:List Int}{L:List (List Int)}(h:CH l d a L){i:Nat}(hi:i<L.length):(gi L i).length<=l.length:=(h.ch i hi).len hc hd
def cl(L:List (List Int))(i:Int):List Int:=if i<0\/(L.length:Int)<=i then []else gi L i.toNat
theorem Zk8{X Y:List Int}{V H:List (List Int)}{ver:Bool}{i:Int}:ZaD ⟨X,Y,V,H⟩ ver i=some (cl (if ver=true then V else H) i):=by
 unfold ZaD cl;have e:(if ver=true then some V else some H)=some (if ver=true then V else H):=by cases ver<;>rfl
 dsimp only;rw[e,obs];by_cases c:i<0\/((if ver=true then V else H).length:Int)<=i
 .rw[if_pos c,if_pos (by simpa using c)]
 .rw[if_neg c,if_neg (by simpa using c),Zf (by omega)]
theorem ZiY{l:List Za}{d:Nat}{a:List Int}{L:List (List Int)}(h:CH l d a L){v i:Int}:v∈cl L i↔0<=v/\v<l.length/\gi a v.toNat=i:=by
 unfold cl;constructor
 .intro hm;by_cases c:i<0\/(L.length:Int)<=i
  .rw[if_pos c]at hm;simp at hm
  .rw[if_neg c]at hm;obtain⟨j,hj,e⟩:=List.mem_iff_getElem.1 hm;have lt:=(h.ch i.toNat (by omega)).lt j hj;rw[zO hj,e]at lt;have:=h.one i.toNat v.toNat (by omega) (by omega) (by rw[Int.toNat_of_nonneg lt.1];exact hm);exact⟨lt.1,lt.2,by omega⟩
 .rintro⟨h0,h1,h2⟩;obtain⟨j,j1,j2,j3⟩:=h.mem v.toNat (by omega);rw[if_neg (by omega),show i.toNat=j by omega];rwa[Int.toNat_of_nonneg h0]at j3
theorem ZiL{l:List Za}(hc:Ck l){d:Nat}(hd:d<4){a:List Int}{L:List (List Int)}(h:CH l d a L){i:Int}:(cl L i).length<=l.length:=by
 unfold cl;split
 .simp
 .exact h.small hc hd (by omega)
theorem ZqK{s:List Int}{f:Int->Option Bool}{g:Int->Bool}(hn:s.length<=1000000)(h:∀a∈s,f a=some (g a)):ZaA s f=some (s.any g):=by
 have h1:Zn (zV.s0 s f) big 0=some (match(List.range s.length).find? (λi=>g (gi s i))with|some i=>.inr (i:Int)|none=>.inl ()):=by
  refine Zc3 (n:=s.length) (P:=λi=>g (gi s i)) (f:=λi=>(i:Int)) (zy (by omega)) (λi hi=>?_) ?_
  .simp only[zV.s0];rw[Zo (by omega),Zf (by omega),itn,h _ (zh hi),obs,Zw (by omega)];cases g (gi s i)<;>rfl
  .simp only[zV.s0];rw[Zq (by omega)]
 unfold ZaA zV;rw[h1,obs]
 cases hf:(List.range s.length).find? (λi=>g (gi s i))with
 | none=>
  rw[List.find?_range_eq_none]at hf;have:s.any g=false:=by
   rw[List.any_eq_false];intro a ha;obtain⟨i,hi,rfl⟩:=List.mem_iff_getElem.1 ha;have:=hf i hi;rw[zO hi]at this;simpa using this
  rw[this];rfl
 | some i=>
  rw[List.find?_range_eq_some]at hf;obtain⟨h1,h2,_⟩:=hf;have hi:i<s.length:=by simpa using h2
  have:s.any g=true:=by
   rw[List.any_eq_true];exact⟨gi s i,zh hi,h1⟩
  rw[this];dsimp only;rw[obs,Zct (by omega)]
theorem ZjN{α:Type}{c:Bool}{a b:α}:(if c=true then some a else some b)=some (if c=true then a else b):=by cases c<;>rfl
end Mu
/- Old cells' lines,laid over rectangles:those that have no cell in common are apart. -/
namespace Mu
inductive TH(m:List Za)(n0:Nat)(hm:Nat->Option Da)(v d:Nat):Nat->Nat->Prop
 |one {a b:Nat}:a<m.length->nx m a d=b->TH m n0 hm v d a b
 |step {a c b:Nat}:a<m.length->nx m a d=c->n0<=c->hm c=some (v,d)->TH m n0 hm v d c b->TH m n0 hm v d a b
def KH(l m:List Za):Prop:=l.length<=m.length/\∃hm:Nat->Option Da,∀v d w:Nat,v<l.length->d<2->nx l v d=w->TH m l.length hm v d v w
theorem KH.refl(l:List Za):KH l l:=⟨Nat.le_refl _,λ_=>none,λv d w hv hd h=>.one hv h⟩
theorem Framed.kh{l F:List Za}{v d:Nat}(h:Framed l F v d):KH l F:=by
 have hl:=h.len;refine⟨by omega,λ_=>none,λa e w ha he hw=>?_⟩;have o:=h.old a e ha (by omega);by_cases c:a=v/\e=d
 .have:=o.1 c;omega
 .have:=o.2 c;exact .one (by omega) (by rw[this.1];exact hw)
theorem TH.add{l m:List Za}(hlen:l.length<=m.length){n0 d v:Nat}{hm:Nat->Option Da}(hd:d<4)(h:∀i e,i<l.length->e<4->0<=nx l i e->nx m i e=nx l i e){a b:Nat}(t:TH l n0 hm v d a b):TH m n0 hm v d a b:=by
 induction t with
 |one h1 h2=>exact .one (by omega) (by rw[h _ _ h1 hd (by omega)];exact h2)
 |step h1 h2 h3 h4 h5 ih=>exact .step (by omega) (by rw[h _ _ h1 hd (by omega)];exact h2) h3 h4 ih
def ZlR(l:List Za)(n0:Nat)(hm:Nat->Option Da)(p q w x:Nat):Option Da :=
 if x=l.length then(if q<2 then(if p<n0 then some (p,q)else hm p)else(if w<n0 then some (w,(q+2)%4)else hm w))else hm x
theorem TH.spl{l m:List Za}{p q w:Nat}(hc:Ck l)(S:Sp l m p q w){n0 d v:Nat}{hm:Nat->Option Da}(hd:d<2)(hv:v<n0)(hn:n0<=l.length){a b:Nat}(t:TH l n0 hm v d a b)(inv:a=v\/(n0<=a/\hm a=some (v,d))):TH m n0 (ZlR l n0 hm p q w) v d a b:=by
 have hne:=S.hne;have hp:=S.ha;have hw:=S.hw;have hq:=S.hb;have hlen:=S.len;have hb:=S.back hc;have st:∀{a c:Nat},a<l.length->nx l a d=c->nx m a d=c\/(nx m a d=l.length/\nx m l.length d=c/\((a=p/\d=q)\/(a=w/\d=(q+2)%4))):=by
  intro a c ha h1;have n1:=S.nx a d (by omega) (by omega);have n2:=S.nx l.length d (by omega) (by omega);rw[if_neg (by omega)]at n1;rw[if_pos rfl]at n2;by_cases c1:a=w/\d=(q+2)%4
  .right;rw[if_pos c1]at n1;rw[if_neg (by omega),if_pos c1.2]at n2;refine⟨n1,?_,.inr c1⟩;rw[n2];rw[c1.1,c1.2,hb]at h1;exact h1
  .rw[if_neg c1]at n1;by_cases c2:a=p/\d=q
   .right;rw[if_pos c2]at n1;rw[if_pos c2.2]at n2;refine⟨n1,?_,.inl c2⟩;rw[n2];have:=S.hn;rw[c2.1,c2.2]at h1;omega
   .left;rw[if_neg c2]at n1;exact n1.trans h1
 have hh:∀{a:Nat},(a=v\/(n0<=a/\hm a=some (v,d)))->((a=p/\d=q)\/(a=w/\d=(q+2)%4))->ZlR l n0 hm p q w l.length=some (v,d):=by
  intro a inv k;unfold ZlR;rw[if_pos rfl];rcases k with⟨k1,k2⟩|⟨k1,k2⟩
  .rw[if_pos (by omega),<-k1,<-k2];rcases inv with i|⟨i,j⟩
   .rw[if_pos (by omega),i]
   .rw[if_neg (by omega),j]
  .rw[if_neg (by omega),<-k1,<-k2];rcases inv with i|⟨i,j⟩
   .rw[if_pos (by omega),i]
   .rw[if_neg (by omega),j]
 have old:∀{c:Nat},c<l.length->hm c=some (v,d)->ZlR l n0 hm p q w c=some (v,d):=by
  intro c h1 h2;unfold ZlR;rw[if_neg (by omega)];exact h2
 induction t with
 |one h1 h2=>
  rcases st h1 h2 with a1|⟨a1,a2,k⟩
  .exact .one (by omega) a1
  .exact .step (by omega) a1 hn (hh inv k) (.one (by omega) a2)
 |step h1 h2 h3 h4 h5 ih=>
  have t':=ih (.inr ⟨h3,h4⟩);have lc:=(hc.back' h1 (show d<4 by omega) h2).1;rcases st h1 h2 with a1|⟨a1,a2,k⟩
  .exact .step (by omega) a1 h3 (old lc h4) t'
  .exact .step (by omega) a1 hn (hh inv k) (.step (by omega) a2 h3 (old lc h4) t')
theorem KH.cut{l m m':List Za}(hm:Ck m)(K:KH l m)(C:Cut m m'):KH l m':=by
 obtain⟨l1,a,b,w,v,d,S,rfl,D,hv,hd,f1,f2⟩:=C.sub;have len:=S.len;obtain⟨kl,hom,kt⟩:=K;refine⟨by rw[ZaG,len];omega,ZlR m l.length hom a b w,λp e q hp he hq=>?_⟩;refine((kt p e q hp he hq).spl hm S he hp kl (.inl rfl)).add (by rw[ZaG];exact Nat.le_refl _) (by omega) λi e hi he h0=>?_;have:=(ZdK (l:=l1) (v:=v) (w:=m.length) (d:=d) (o:=-2) (by omega) (by omega) (by omega) hd hi he).1;by_cases c1:i=v/\e=d
 .rw[c1.1,c1.2]at h0;omega
 .by_cases c2:i=m.length/\e=(d+2)%4
  .rw[c2.1,c2.2]at h0;omega
  .rw[if_neg c1,if_neg c2]at this;exact this
theorem KH.cuts{l F:List Za}(hF:Ck F)(K:KH l F){n:Nat}{m:List Za}(C:Cuts F n m):KH l m:=by
 induction C with
 |zero=>exact K
 |succ C h ih=>exact ih.cut (C.props hF) h
variable {l m:List Za}{X Y:Nat->Int}
theorem TH.end'(hS:Str m X Y)(hc:Ck m){n0 d v:Nat}{hm:Nat->Option Da}(hd:d<4){a b:Nat}(t:TH m n0 hm v d a b):b<m.length/\al X Y d a<al X Y d b/\ac X Y d a=ac X Y d b:=by
 induction t with
 |@one a b h1 h2=>
  have lb:=(hc.back' h1 hd h2).1;have:=hS (a,d) ⟨h1,hd,by rw[h2];omega⟩;have e:tg m (a,d)=b:=by unfold tg;rw[h2];omega
  rw[e]at this;exact⟨lb,this⟩
 |@step a c b h1 h2 h3 h4 h5 ih=>
  have:=hS (a,d) ⟨h1,hd,by rw[h2];omega⟩;have e:tg m (a,d)=c:=by unfold tg;rw[h2];omega
  rw[e]at this;dsimp only at this;exact⟨ih.1,by omega,by omega⟩
theorem TH.cov(hS:Str m X Y)(hc:Ck m){n0 d v:Nat}{hm:Nat->Option Da}(hd:d<4){a b:Nat}(th:TH m n0 hm v d a b){t:Int}(h1:al X Y d a<=t)(h2:t<=al X Y d b)(inv:a=v\/(n0<=a/\hm a=some (v,d))) :
  (∃z,z<m.length/\(z=b\/z=v\/(n0<=z/\hm z=some (v,d)))/\al X Y d z=t/\ac X Y d z=ac X Y d a)\/
  ∃z,isD m (z,d)/\(z=v\/(n0<=z/\hm z=some (v,d)))/\al X Y d z<t/\t<al X Y d (tg m (z,d))/\ac X Y d z=ac X Y d a:=by
 induction th with
 | @one a b g1 g2=>
  have lb:=(hc.back' g1 hd g2).1;have dd:isD m (a,d):=⟨g1,hd,by rw[g2];omega⟩;have:=hS (a,d) dd;have e:tg m (a,d)=b:=by unfold tg;rw[g2];omega
  rw[e]at this;dsimp only at this;by_cases c1:t=al X Y d a
  .exact .inl ⟨a,g1,.inr inv,c1.symm,rfl⟩
  .by_cases c2:t=al X Y d b
   .exact .inl ⟨b,lb,.inl rfl,c2.symm,by omega⟩
   .exact .inr ⟨a,dd,inv,by omega,by rw[e];omega,rfl⟩
 | @step a c b g1 g2 g3 g4 g5 ih=>
  have dd:isD m (a,d):=⟨g1,hd,by rw[g2];omega⟩;have:=hS (a,d) dd;have e:tg m (a,d)=c:=by unfold tg;rw[g2];omega
  rw[e]at this;dsimp only at this;by_cases c2:al X Y d c<=t
  .rcases ih c2 h2 (.inr ⟨g3,g4⟩)with⟨z,z1,z2,z3,z4⟩|⟨z,z1,z2,z3,z4,z5⟩
   .exact .inl ⟨z,z1,z2,z3,by omega⟩
   .exact .inr ⟨z,z1,z2,z3,z4,by omega⟩
  .by_cases c1:t=al X Y d a
   .exact .inl ⟨a,g1,.inr inv,c1.symm,rfl⟩
   .exact .inr ⟨a,dd,inv,by omega,by rw[e];omega,rfl⟩
def OnL(l:List Za)(hm:Nat->Option Da)(d:Nat)(C:List Int)(z:Nat):Prop:=(z:Int)∈C/\z<l.length\/(l.length<=z/\∃v,hm z=some (v,d)/\(v:Int)∈C)
theorem ZiG(hS:Str m X Y)(hc:Ck m){hm:Nat->Option Da}(kl:l.length<=m.length)(kt:∀v d w:Nat,v<l.length->d<2->nx l v d=w->TH m l.length hm v d v w){d:Nat}(hd:d<2){C:List Int}(h:IsCh l d C):∀(k:Nat),k<C.length->
  al X Y d (gi C 0).toNat<=al X Y d (gi C k).toNat/\ac X Y d (gi C k).toNat=ac X Y d (gi C 0).toNat/\∀t,al X Y d (gi C 0).toNat<=t->t<=al X Y d (gi C k).toNat->
  (∃z,z<m.length/\OnL l hm d C z/\al X Y d z=t/\ac X Y d z=ac X Y d (gi C 0).toNat)\/∃z,isD m (z,d)/\OnL l hm d C z/\al X Y d z<t/\t<al X Y d (tg m (z,d))/\ac X Y d z=ac X Y d (gi C 0).toNat:=by
 have old:∀k,k<C.length->OnL l hm d C (gi C k).toNat/\(gi C k).toNat<l.length:=λk hk=>by
  have:=h.lt k hk;refine⟨.inl ⟨?_,by omega⟩,by omega⟩;rw[show(((gi C k).toNat:Nat):Int)=gi C k by omega];exact zh hk
 intro k
 induction k with
 |zero=>exact λh0=>⟨Int.le_refl _,rfl,λt h1 h2=>.inl ⟨_,by have:=(old 0 h0).2;omega,(old 0 h0).1,by omega,rfl⟩⟩
 | succ k ih=>
  intro hk;obtain⟨i1,i2,i3⟩:=ih (by omega);have lk:=h.lt k (by omega);have lk1:=h.lt (k+1) hk;have th:=kt (gi C k).toNat d (gi C (k+1)).toNat (by omega) hd (by rw[h.nxt k hk];omega);have e:=th.end' hS hc (by omega);refine⟨by omega,by omega,λt h1 h2=>?_⟩;by_cases c:t<=al X Y d (gi C k).toNat
  .exact i3 t h1 c
  .have to:∀z,z=(gi C k).toNat\/(l.length<=z/\hm z=some ((gi C k).toNat,d))->OnL l hm d C z:=by
    rintro z (z2|⟨z2,z3⟩)
    .rw[z2];exact(old k (by omega)).1
    .refine .inr ⟨z2,_,z3,?_⟩;rw[show(((gi C k).toNat:Nat):Int)=gi C k by omega];exact zh (by omega)
   rcases th.cov hS hc (by omega) (t:=t) (by omega) h2 (.inl rfl)with⟨z,z1,z2,z3,z4⟩|⟨z,z1,z2,z3,z4,z5⟩
   .refine .inl ⟨z,z1,?_,z3,by omega⟩;rcases z2 with z2|z2
    .rw[z2];exact(old _ hk).1
    .exact to z z2
   .exact .inr ⟨z,z1,to z z2,z3,z4,by omega⟩
structure Pln(m:List Za)(X Y:Nat->Int):Prop where
 ck:Ck m
 str:Str m X Y
 V:∀z w,z<m.length->w<m.length->X z=X w->Y z=Y w->z=w
 E:∀z d,isD m (z,d)->∀w,w<m.length->ac X Y d w=ac X Y d z->al X Y d z<al X Y d w->al X Y d w<al X Y d (tg m (z,d))->False
 Xs:∀p q:Da,isD m p->isD m q->p.2=0->q.2=1->X p.1<X q.1->X q.1<X (tg m p)->Y q.1<Y p.1->Y p.1<Y (tg m q)->False
theorem Rec.pln(R:Rec m X Y)(hdeg:∀z,z<m.length->∃e,e<4/\0<=nx m z e):Pln m X Y:=by
 refine⟨R.ck,R.str,?_,?_,λp q a b c d e f g h=>R.Xs a b c d e f g h⟩
 .intro z w hz hw ex ey;obtain⟨e,he,h0⟩:=hdeg z hz;obtain⟨e1,he1,h1⟩:=hdeg w hw;exact R.V hz he h0 hw he1 h1 ex ey
 .intro z d hz w hw a b c;obtain⟨e1,he1,h1⟩:=hdeg w hw;exact R.E hz hw he1 h1 a b c
theorem Zk7(R:Pln m X Y){hm:Nat->Option Da}(kl:l.length<=m.length)(kt:∀v d w:Nat,v<l.length->d<2->nx l v d=w->TH m l.length hm v d v w){d d':Nat}(hd:d<2)(hd':d'<2){C C':List Int}(h:IsCh l d C)(h':IsCh l d' C'){x y:Int}
  (p1:al X Y d (gi C 0).toNat<=(if d=0 then x else y))(p2:(if d=0 then x else y)<=al X Y d (gi C (C.length-1)).toNat)(p3:ac X Y d (gi C 0).toNat=if d=0 then y else x)
  (q1:al X Y d' (gi C' 0).toNat<=(if d'=0 then x else y))(q2:(if d'=0 then x else y)<=al X Y d' (gi C' (C'.length-1)).toNat)(q3:ac X Y d' (gi C' 0).toNat=if d'=0 then y else x):∃v,v∈C/\v∈C':=by
 have hc:=R.ck;have hS:=R.str;have ne:=h.ne;have ne':=h'.ne;have A:=(ZiG hS hc kl kt hd h (C.length-1) (by omega)).2.2 _ p1 p2;have B:=(ZiG hS hc kl kt hd' h' (C'.length-1) (by omega)).2.2 _ q1 q2;rw[p3]at A;rw[q3]at B
 -- a cell of both
 have both:∀z,OnL l hm d C z->OnL l hm d' C' z->∃v,v∈C/\v∈C':=by
  rintro z (⟨a1,a2⟩|⟨a1,v,a2,a3⟩) (⟨b1,b2⟩|⟨b1,w,b2,b3⟩)
  .exact⟨z,a1,b1⟩
  .omega
  .omega
  .rw[a2]at b2;have:=congrArg Prod.fst (Option.some.inj b2);dsimp only at this;exact⟨v,a3,by rw[this];exact b3⟩
 have V:=R.V;have E:=R.E;have d01:d=0\/d=1:=by omega
 have d01':d'=0\/d'=1:=by omega
 rcases A with⟨z,z1,z2,z3,z4⟩|⟨z,z1,z2,z3,z4,z5⟩<;>rcases B with⟨w,w1,w2,w3,w4⟩|⟨w,w1,w2,w3,w4,w5⟩
 .have:z=w:=by
   refine V z w z1 w1 ?_ ?_<;>rcases d01 with rfl|rfl<;>rcases d01' with rfl|rfl<;>simp[al,ac]at z3 z4 w3 w4<;>omega
  rw[<-this]at w2;exact both z z2 w2
 .exfalso;refine E w d' w1 z z1 ?_ ?_ ?_<;>rcases d01 with rfl|rfl<;>rcases d01' with rfl|rfl<;>simp[al,ac]at z3 z4 w3 w4 w5⊢ <;> omega
 .exfalso;refine E z d z1 w w1 ?_ ?_ ?_<;>rcases d01 with rfl|rfl<;>rcases d01' with rfl|rfl<;>simp[al,ac]at z3 z4 z5 w3 w4⊢ <;> omega
 .by_cases dd:d=d'
  .subst dd;by_cases c1:al X Y d z<al X Y d w
   .exfalso;exact E z d z1 w w1.1 (by omega) c1 (by omega)
   .by_cases c2:al X Y d w<al X Y d z
    .exfalso;exact E w d w1 z z1.1 (by omega) c2 (by omega)
    .have:z=w:=by
      refine V z w z1.1 w1.1 ?_ ?_<;>rcases d01 with rfl|rfl<;>simp[al,ac]at c1 c2 z5 w5<;>omega
     rw[<-this]at w2;exact both z z2 w2
  .exfalso;rcases d01 with rfl|rfl<;>rcases d01' with rfl|rfl
   .exact dd rfl
   .simp[al,ac]at z3 z4 z5 w3 w4 w5;exact R.Xs _ _ z1 w1 rfl rfl (by dsimp only;omega) (by dsimp only;omega) (by dsimp only;omega) (by dsimp only;omega)
   .simp[al,ac]at z3 z4 z5 w3 w4 w5;exact R.Xs _ _ w1 z1 rfl rfl (by dsimp only;omega) (by dsimp only;omega) (by dsimp only;omega) (by dsimp only;omega)
   .exact dd rfl
end Mu
/- Layer 16:SegTells,SegTurns. -/
namespace Mu
end Mu
/- Layer 17:lengths of edges. -/
namespace Mu
def ZgU(d:Nat)(a b:Zk):Prop:=if d=0 then a.Y=b.Y/\a.X<b.X else a.X=b.X/\a.Y<b.Y
instance{d:Nat}{a b:Zk}:Decidable (ZgU d a b):=by unfold ZgU;infer_instance
def wt(o:Int):Int:=if 0<=o then 1 else 0
theorem ZoO{o:Int}:Zc4 o=some (wt o):=by
 unfold Zc4 wt;by_cases c:0<=o
 .rw[Zo c,if_pos c]
 .rw[Zq c,if_neg c]
def okE(l:List Za)(p:List Zk)(v d:Nat):Prop:=nx l v d<0\/ZgU d (gi p v) (gi p (nx l v d).toNat)
instance{l:List Za}{p:List Zk}{v d:Nat}:Decidable (okE l p v d):=by unfold okE;infer_instance
end Mu
/- Layer 17:graphs,places,ArcsFit. -/
namespace Mu
theorem CH.next{l:List Za}(hc:Ck l){d:Nat}(hd:d<4){a:List Int}{L:List (List Int)}(h:CH l d a L){v w:Nat}(hv:v<l.length)(hw:nx l v d=w):w<l.length/\gi a v=gi a w:=by
 have bk:=hc.back hv hd hw;obtain⟨i,i1,i2,i3⟩:=h.mem v hv;have hC:=h.ch i i1;obtain⟨j,hj,e⟩:=List.mem_iff_getElem.1 i3;have ej:gi (gi L i) j=v:=by rw[zO hj];exact e
 have n:=ZiH hC hj;rw[ej,itn,hw]at n;by_cases c:j+1<(gi L i).length
 .rw[Zgw c]at n;exact⟨bk.1,by rw[i2,h.one i w i1 bk.1 (n▸zh c)]⟩
 .rw[show j+1=(gi L i).length by omega,Zha]at n;omega
def Zbb(l:List Za)(of:List Int)(d:Nat):Nat->List Zb
 |0=>[]
 |n+1=>if nx l n d<0 then Zbb l of d n else Zbb l of d n++[⟨gi of n,gi of (nx l n d).toNat,wt (ow l n d)⟩]
theorem Zc1{l:List Za}{of:List Int}{d:Nat}:∀n,(Zbb l of d n).length<=n
 |0=>by simp[Zbb]
 |n+1=>by
  have:=Zc1 (l:=l) (of:=of) (d:=d) n;rw[Zbb];split
  .omega
  .rw[List.length_append,List.length_singleton];omega
theorem Zln{l:List Za}(hc:Ck l)(hl:l.length<=1000){of:List Int}(ho:of.length=l.length){d:Nat}(hd:d<4):Zbq l d of=some (Zbb l of d l.length):=by
 unfold Zbq;rw[ZgA (x:=Zbb l of d l.length)];refine Zaj (λn:Nat=>(Zbb l of d n,(n:Int))) (n:=l.length) (zy (by omega)) rfl (λn hn=>?_) ?_
 .have hlt:=hc.lt hn hd;have e:(gi l n).Next.get (d:Int)=nx l n d:=rfl;have eo:(gi l n).Owner.get (d:Int)=ow l n d:=rfl;have gl:=Zc1 (l:=l) (of:=of) (d:=d) n;simp only[Zbq.s0];rw[Zo (by omega),Zf (by omega),Zf (by omega),itn,e,eo,Zbb];by_cases c:nx l n d<0
  .rw[Zq (by omega),Zw (by omega),if_pos c,show((n+1:Nat):Int)=(n:Int)+1 by omega]
  .rw[Zo (by omega),Zf (by omega),Zf (by omega),ZoO,obs,Zf (by simp;omega),Zw (by omega),if_neg c,show((n+1:Nat):Int)=(n:Int)+1 by omega]
 .simp only[Zbq.s0];rw[Zq (by omega)]
theorem Zdt{l:List Za}{of:List Int}{d:Nat}{e:Zb}:∀n,e∈Zbb l of d n↔∃v,v<n/\0<=nx l v d/\e=⟨gi of v,gi of (nx l v d).toNat,wt (ow l v d)⟩
 |0=>by
  constructor
  .intro h;simp[Zbb]at h
  .rintro⟨v,hv,_⟩;omega
 | n+1=>by
  have ih:=Zdt (l:=l) (of:=of) (d:=d) (e:=e) n;rw[Zbb];by_cases c:nx l n d<0
  .rw[if_pos c,ih];constructor
   .rintro⟨v,h1,h2⟩;exact⟨v,by omega,h2⟩
   .rintro⟨v,h1,h2,h3⟩;have:v≠n:=by rintro rfl;omega
    exact⟨v,by omega,h2,h3⟩
  .rw[if_neg c,List.mem_append,List.mem_singleton,ih];constructor
   .rintro(⟨v,h1,h2⟩|h)
    .exact⟨v,by omega,h2⟩
    .exact⟨n,by omega,by omega,h⟩
   .rintro⟨v,h1,h2,h3⟩;by_cases q:v=n
    .subst q;exact .inr h3
    .exact .inl ⟨v,by omega,h2,h3⟩
theorem ZoA{l:List Za}(hc:Ck l)(hl:l.length<=1000)(h:AllCh l 1/\AllCh l 0):∃X Y V H,Zdk l=some (⟨⟨X,Y,V,H⟩,Zbb l X 0 l.length,Zbb l Y 1 l.length⟩,0)/\CH l 1 X V/\CH l 0 Y H:=by
 obtain⟨X,Y,V,H,s1,cx,cy⟩:=Znj hl (Zcf.2 ⟨by omega,hc⟩) h;refine⟨X,Y,V,H,?_,cx,cy⟩;have g0:=Zln hc hl cx.alen (d:=0) (by omega);have g1:=Zln hc hl cy.alen (d:=1) (by omega);rw[show((0:Nat):Int)=0 from rfl]at g0;rw[show((1:Nat):Int)=1 from rfl]at g1;unfold Zdk;rw[s1,obs];dsimp only;rw[Zb2 rfl,g0,obs,g1,obs]
def InR(n:Nat)(arcs:List Zb):Prop:=∀a∈arcs,(0<=a.From/\a.From<n)/\(0<=a.To/\a.To<n)
theorem CH.rng{l:List Za}{d:Nat}{a:List Int}{L:List (List Int)}(h:CH l d a L){v:Nat}(hv:v<l.length):0<=gi a v/\gi a v<L.length:=by
 obtain⟨i,i1,i2,_⟩:=h.mem v hv;omega
theorem ZeO{l:List Za}(hc:Ck l){k d:Nat}(hd:d<4){a:List Int}{L:List (List Int)}(h:CH l k a L):InR L.length (Zbb l a d l.length):=by
 intro e he;obtain⟨v,hv,h0,rfl⟩:=(Zdt _).1 he;have:=hc.lt hv hd;exact⟨h.rng hv,h.rng (by omega)⟩
def Zed(X Y a b:List Int)(n:Nat):List Zk:=(List.range n).map λv=>⟨gi a (gi X v).toNat,gi b (gi Y v).toNat⟩
theorem Zgc{X Y a b:List Int}{n v:Nat}(h:v<n):gi (Zed X Y a b n) v=⟨gi a (gi X v).toNat,gi b (gi Y v).toNat⟩:=Zbf h
theorem ZlW{l:List Za}(hc:Ck l){X Y a b:List Int}{V H:List (List Int)}(cx:CH l 1 X V)(cy:CH l 0 Y H):(∀v,v<l.length->okE l (Zed X Y a b l.length) v 0/\okE l (Zed X Y a b l.length) v 1)↔(∀e∈Zbb l X 0 l.length,gi a e.From.toNat<gi a e.To.toNat)/\∀e∈Zbb l Y 1 l.length,gi b e.From.toNat<gi b e.To.toNat:=by
 have E0:∀v,v<l.length->0<=nx l v 0->(okE l (Zed X Y a b l.length) v 0↔gi a (gi X v).toNat<gi a (gi X (nx l v 0).toNat).toNat):=by
  intro v hv h0;have n:=cy.next hc (by omega) hv (w:=(nx l v 0).toNat) (by omega);unfold okE ZgU;rw[Zgc hv,Zgc n.1,if_pos rfl];dsimp only;rw[n.2];constructor
  .rintro(h|h)
   .omega
   .exact h.2
  .intro h;exact .inr ⟨rfl,h⟩
 have E1:∀v,v<l.length->0<=nx l v 1->(okE l (Zed X Y a b l.length) v 1↔gi b (gi Y v).toNat<gi b (gi Y (nx l v 1).toNat).toNat):=by
  intro v hv h0;have n:=cx.next hc (by omega) hv (w:=(nx l v 1).toNat) (by omega);unfold okE ZgU;rw[Zgc hv,Zgc n.1,if_neg (by decide)];dsimp only;rw[n.2];constructor
  .rintro(h|h)
   .omega
   .exact h.2
  .intro h;exact .inr ⟨rfl,h⟩
 constructor
 .intro h;constructor
  .intro e he;obtain⟨v,hv,h0,rfl⟩:=(Zdt _).1 he;exact(E0 v hv h0).1 (h v hv).1
  .intro e he;obtain⟨v,hv,h0,rfl⟩:=(Zdt _).1 he;exact(E1 v hv h0).1 (h v hv).2
 .rintro⟨h1,h2⟩ v hv;constructor
  .by_cases c:nx l v 0<0
   .exact .inl c
   .exact(E0 v hv (by omega)).2 (h1 _ ((Zdt _).2 ⟨v,hv,by omega,rfl⟩))
  .by_cases c:nx l v 1<0
   .exact .inl c
   .exact(E1 v hv (by omega)).2 (h2 _ ((Zdt _).2 ⟨v,hv,by omega,rfl⟩))
end Mu
/- Layer 17:ArcsFit. -/
namespace Mu
end Mu
/- Layer 17:the document's graphs;ArcsTell. -/
namespace Mu
theorem Zjm{l:List Za}(hc:Ck l)(hl:l.length<=1000){of:List Int}(ho:of.length=l.length){d:Nat}(hd:d<4):zu l d of=some (Zbb l of d l.length):=by
 unfold zu;rw[ZgA (x:=Zbb l of d l.length)];refine Zaj (λn:Nat=>(Zbb l of d n,(n:Int))) (n:=l.length) (zy (by omega)) rfl (λn hn=>?_) ?_
 .have hlt:=hc.lt hn hd;have e:(gi l n).Next.get (d:Int)=nx l n d:=rfl;have eo:(gi l n).Owner.get (d:Int)=ow l n d:=rfl;have gl:=Zc1 (l:=l) (of:=of) (d:=d) n;simp only[zu.s0];rw[Zo (by omega),Zf (by omega),Zf (by omega),itn,e,eo,Zbb];by_cases c:nx l n d<0
  .rw[Zo c,Zw (by omega),if_pos c,show((n+1:Nat):Int)=(n:Int)+1 by omega]
  .rw[Zq (by omega),Zf (by omega),Zf (by omega),if_neg c,show((n+1:Nat):Int)=(n:Int)+1 by omega];unfold wt;by_cases o:0<=ow l n d
   .rw[Zo o,if_pos o,Zf (by simp;omega),Zw (by omega)]
   .rw[Zq o,if_neg o,Zf (by simp;omega),Zw (by omega)]
 .simp only[zu.s0];rw[Zq (by omega)]
theorem Zlm{s:List Zb}(hs:s.length<=1000000):zx s s=some true:=by
 have h:Zn (zx.s0 s s) big 0=some (.inl ()):=by
  refine Zaj (λn:Nat=>(n:Int)) (n:=s.length) (zy (by omega)) rfl (λn hn=>?_) ?_
  .simp only[zx.s0];rw[Zo (by omega),Zf (by omega),Zf (by omega),if_neg (by simp),Zw (by omega)];rfl
  .simp only[zx.s0];rw[Zq (by omega)]
 unfold zx;rw[Zb2 rfl,h,obs]
end Mu
/- Layer 17:ArcsTurn. -/
namespace Mu
end Mu
/- Layer 17:ArcsPlace. -/
namespace Mu
end Mu
/- Layer 26:CheckTells. -/
namespace Mu
def LNo(b:Bool)(L:List (List Int))(n:Nat):List (Bool×Nat):=((List.range n).filter λi=>decide (1<(gi L i).length)).map λi=>(b,i)
def LN(V H:List (List Int)):List (Bool×Nat):=LNo true V V.length++LNo false H H.length
def ZcV(p:Bool×Nat):Zz:=⟨p.1,p.2⟩
def ZbR(p:Bool×Nat):Zj:=⟨p.1,p.2⟩
theorem ZcW{b:Bool}{L:List (List Int)}{n:Nat}:(LNo b L n).length<=n:=by
 unfold LNo;rw[List.length_map];have:=List.length_filter_le (λi=>decide (1<(gi L i).length)) (List.range n);simpa using this
theorem ZfJ{b:Bool}{L:List (List Int)}{n:Nat}:LNo b L (n+1)=if 1<(gi L n).length then LNo b L n++[(b,n)]else LNo b L n:=by
 unfold LNo;rw[List.range_succ,List.filter_append,List.map_append];by_cases c:1<(gi L n).length
 .rw[if_pos c,List.filter_cons,if_pos (by simpa using c)];rfl
 .rw[if_neg c,List.filter_cons,if_neg (by simpa using c)];simp
theorem ZqN{X Y:List Int}{V H:List (List Int)}(hV:V.length<=1000)(hH:H.length<=1000):Za2 ⟨X,Y,V,H⟩=some ((LN V H).map ZcV):=by
 have l0:Zn (Za2.s0 ⟨X,Y,V,H⟩) big (([]:List Zz),0)=some ((LNo true V V.length).map ZcV):=by
  refine Zaj (λn:Nat=>((LNo true V n).map ZcV,(n:Int))) (n:=V.length) (zy (by omega)) rfl (λn hn=>?_) ?_
  .have:=ZcW (b:=true) (L:=V) (n:=n);simp only[Za2.s0,itn];rw[Zo (by omega),Zf (by omega),ZfJ];by_cases c:1<(gi V n).length
   .rw[Zo (by omega),Zf (by simp;omega),Zw (by omega),if_pos c,show((n+1:Nat):Int)=(n:Int)+1 by omega,List.map_append];rfl
   .rw[Zq (by omega),Zw (by omega),if_neg c,show((n+1:Nat):Int)=(n:Int)+1 by omega]
  .simp only[Za2.s0];rw[Zq (by omega)]
 have l1:Zn (Za2.s1 ⟨X,Y,V,H⟩) big ((LNo true V V.length).map ZcV,0)=some ((LN V H).map ZcV):=by
  refine Zaj (λn:Nat=>((LNo true V V.length++LNo false H n).map ZcV,(n:Int))) (n:=H.length) (zy (by omega)) (by simp[LNo]) (λn hn=>?_) ?_
  .have a:=ZcW (b:=false) (L:=H) (n:=n);have b:=ZcW (b:=true) (L:=V) (n:=V.length);simp only[Za2.s1,itn];rw[Zo (by omega),Zf (by omega),ZfJ];by_cases c:1<(gi H n).length
   .rw[Zo (by omega),Zf (by simp;omega),Zw (by omega),if_pos c,show((n+1:Nat):Int)=(n:Int)+1 by omega,<-List.append_assoc,List.map_append (l₂:=[(false,n)])];rfl
   .rw[Zq (by omega),Zw (by omega),if_neg c,show((n+1:Nat):Int)=(n:Int)+1 by omega]
  .simp only[Za2.s1];rw[Zq (by omega)];rfl
 unfold Za2;rw[l0,obs,l1,obs]
theorem Zrs{X Y:List Int}{V H:List (List Int)}(hV:V.length<=1000)(hH:H.length<=1000):zk ⟨X,Y,V,H⟩=some ((LN V H).map ZbR):=by
 have l0:Zn (zk.s0 ⟨X,Y,V,H⟩) big (([]:List Zj),0)=some ((LNo true V V.length).map ZbR):=by
  refine Zaj (λn:Nat=>((LNo true V n).map ZbR,(n:Int))) (n:=V.length) (zy (by omega)) rfl (λn hn=>?_) ?_
  .have:=ZcW (b:=true) (L:=V) (n:=n);simp only[zk.s0,itn];rw[Zo (by omega),Zf (by omega),ZfJ];by_cases c:1<(gi V n).length
   .rw[Zo (by omega),Zf (by simp;omega),Zw (by omega),if_pos c,show((n+1:Nat):Int)=(n:Int)+1 by omega,List.map_append];rfl
   .rw[Zq (by omega),Zw (by omega),if_neg c,show((n+1:Nat):Int)=(n:Int)+1 by omega]
  .simp only[zk.s0];rw[Zq (by omega)]
 have l1:Zn (zk.s1 ⟨X,Y,V,H⟩) big ((LNo true V V.length).map ZbR,0)=some ((LN V H).map ZbR):=by
  refine Zaj (λn:Nat=>((LNo true V V.length++LNo false H n).map ZbR,(n:Int))) (n:=H.length) (zy (by omega)) (by simp[LNo]) (λn hn=>?_) ?_
  .have a:=ZcW (b:=false) (L:=H) (n:=n);have b:=ZcW (b:=true) (L:=V) (n:=V.length);simp only[zk.s1,itn];rw[Zo (by omega),Zf (by omega),ZfJ];by_cases c:1<(gi H n).length
   .rw[Zo (by omega),Zf (by simp;omega),Zw (by omega),if_pos c,show((n+1:Nat):Int)=(n:Int)+1 by omega,<-List.append_assoc,List.map_append (l₂:=[(false,n)])];rfl
   .rw[Zq (by omega),Zw (by omega),if_neg c,show((n+1:Nat):Int)=(n:Int)+1 by omega]
  .simp only[zk.s1];rw[Zq (by omega)];rfl
 unfold zk;rw[l0,obs,l1,obs]
theorem ZiW{V H:List (List Int)}{p:Bool×Nat}(h:p∈LN V H):p.2<(if p.1=true then V else H).length:=by
 unfold LN LNo at h;rcases List.mem_append.1 h with q|q
 .obtain⟨i,hi,rfl⟩:=List.mem_map.1 q;have:=List.mem_range.1 (List.mem_filter.1 hi).1;simpa using this
 .obtain⟨i,hi,rfl⟩:=List.mem_map.1 q;have:=List.mem_range.1 (List.mem_filter.1 hi).1;simpa using this
def Zht(V H:List (List Int))(p:List Zk)(a:Bool×Nat):Zk:=gi p (gi (gi (if a.1=true then V else H) a.2) 0).toNat
def Zhu(V H:List (List Int))(p:List Zk)(a:Bool×Nat):Zk:=gi p (gi (gi (if a.1=true then V else H) a.2) ((gi (if a.1=true then V else H) a.2).length-1)).toNat
structure ZlE(n:Nat)(L:List (List Int)):Prop where
 ne:∀i,i<L.length->0<(gi L i).length/\(gi L i).length<=1000000
 lt:∀i,i<L.length->∀k,k<(gi L i).length->0<=gi (gi L i) k/\gi (gi L i) k<n
theorem CH.ok{l:List Za}(hc:Ck l)(hl:l.length<=1000){d:Nat}(hd:d<4){a:List Int}{L:List (List Int)}(h:CH l d a L):ZlE l.length L:=⟨λi hi=>⟨(h.ch i hi).ne,by have:=(h.ch i hi).len hc hd;omega⟩,λi hi=>(h.ch i hi).lt⟩
def Zhn(a b c d:Zk):Bool:=(((decide (b.X<c.X))||(decide (d.X<a.X)))||(decide (b.Y<c.Y)))||(decide (d.Y<a.Y))
theorem ZmW{α:Type}[Inhabited α]{l:List α}{n i:Nat}:gi (l.drop n) i=gi l (n+i):=by
 unfold gi;simp
theorem ZqS{l:List Za}(hc:Ck l)(hl:l.length<=64){X Y:List Int}{V H:List (List Int)}(hx:CH l 1 X V)(hy:CH l 0 Y H)(ver oth:Bool)(i k:Int):Zb4 ⟨X,Y,V,H⟩ ver i oth k=some ((cl (if ver=true then V else H) i).any λv=>decide (v∈cl (if oth=true then V else H) k)):=by
 have kind:∀w:Bool,∃d,d<4/\CH l d (if w=true then X else Y) (if w=true then V else H):=by
  intro w
  cases w with
  |true=>exact⟨1,by omega,hx⟩
  |false=>exact⟨0,by omega,hy⟩
 obtain⟨d1,hd1,c1⟩:=kind ver;obtain⟨d2,hd2,c2⟩:=kind oth;have n1:=ZiL hc hd1 c1 (i:=i);have n2:=ZiL hc hd2 c2 (i:=k);unfold Zb4;rw[Zk8,obs,Zk8,obs,ZqK (g:=λv=>decide (v∈cl (if oth=true then V else H) k)) (by omega) (λv _=>by
  unfold ZbQ;rw[Zk9 (by omega),obs]),obs]
def shc(V H:List (List Int))(a b:Bool×Nat):Bool:=(cl (if a.1=true then V else H) a.2).any λv=>decide (v∈cl (if b.1=true then V else H) b.2)
/-! Stretched. -/
end Mu
/- Layer 26:CheckTurns. -/
namespace Mu
theorem ZrT{V H:List (List Int)}:(LN V H).Nodup:=by
 unfold LN LNo;rw[List.nodup_append];have one:∀(b:Bool)(L:List (List Int)) n,(((List.range n).filter λi=>decide (1<(gi L i).length)).map λi=>(b,i)).Nodup:=by
  intro b L n;refine List.pairwise_map.2 ((List.Pairwise.filter _ List.nodup_range).imp λ{a c} h e=>h (congrArg Prod.snd e))
 refine⟨one _ _ _,one _ _ _,λa ha b hb e=>?_⟩;obtain⟨i,_,rfl⟩:=List.mem_map.1 ha;obtain⟨j,_,rfl⟩:=List.mem_map.1 hb;exact absurd (congrArg Prod.fst e) (by simp)
theorem ZiX{V H:List (List Int)}{a:Bool×Nat}:a∈LN V H↔a.2<(if a.1=true then V else H).length/\1<(gi (if a.1=true then V else H) a.2).length:=by
 unfold LN LNo;rw[List.mem_append,List.mem_map,List.mem_map];constructor
 .rintro(⟨i,hi,rfl⟩|⟨i,hi,rfl⟩)
  .have:=List.mem_filter.1 hi;exact⟨List.mem_range.1 this.1,by simpa using this.2⟩
  .have:=List.mem_filter.1 hi;exact⟨List.mem_range.1 this.1,by simpa using this.2⟩
 .rintro⟨h1,h2⟩;obtain⟨b,i⟩:=a
  cases b with
  |true=>exact .inl ⟨i,List.mem_filter.2 ⟨List.mem_range.2 h1,by simpa using h2⟩,rfl⟩
  |false=>exact .inr ⟨i,List.mem_filter.2 ⟨List.mem_range.2 h1,by simpa using h2⟩,rfl⟩
def Crs(V H:List (List Int))(p:List Zk):Prop:=∃a b,a∈LN V H/\b∈LN V H/\a≠b/\Zhn (Zht V H p a) (Zhu V H p a) (Zht V H p b) (Zhu V H p b)=false/\shc V H a b=false
/-! Moved and stretched. -/
/-! Turned. -/
end Mu
/- Layer 19:the document's word on drawings. -/
namespace Mu
theorem ZpL{l:List Za}(hc:Ck l)(hl:l.length<=1000){X Y:List Int}{V H:List (List Int)}(hx:CH l 1 X V)(hy:CH l 0 Y H)(ver oth:Bool)(i k:Int):zI ⟨X,Y,V,H⟩ ver i oth k=some ((cl (if ver=true then V else H) i).any λv=>decide (v∈cl (if oth=true then V else H) k)):=by
 have kind:∀w:Bool,∃d,d<4/\CH l d (if w=true then X else Y) (if w=true then V else H):=by
  intro w
  cases w with
  |true=>exact⟨1,by omega,hx⟩
  |false=>exact⟨0,by omega,hy⟩
 obtain⟨d1,hd1,c1⟩:=kind ver;obtain⟨d2,hd2,c2⟩:=kind oth;have hXl:=hx.alen;have hYl:=hy.alen;have n1:=ZiL hc hd1 c1 (i:=i);have n2:=ZiL hc hd2 c2 (i:=k);have e2:Zn (zI.s0 ⟨X,Y,V,H⟩ ver i oth k) big 0=some (match(List.range l.length).find? (λv=>decide (gi (if ver=true then X else Y) v=i)&&decide (gi (if oth=true then X else Y) v=k))with|some v=>.inr ()|none=>.inl ()):=by
  refine Zc3 (n:=l.length) (P:=λv=>decide (gi (if ver=true then X else Y) v=i)&&decide (gi (if oth=true then X else Y) v=k)) (f:=λ_=>()) (zy (by omega)) (λv hv=>?_) ?_
  .simp only[zI.s0];rw[Zo (by omega),Zf (by omega),itn];have t:(if ver=true then ck ((0:Int)<=(v:Int)/\(v:Int)<(X.length:Int)) (some (decide (gi X v=i)))else some (decide (gi Y v=i)))=some (decide (gi (if ver=true then X else Y) v=i)):=by
    cases ver with
    |true=>rw[if_pos rfl,if_pos rfl,Zf (by omega)]
    |false=>rw[if_neg (by decide),if_neg (by decide)]
   rw[t,obs,Zw (by omega)]
   cases oth with
   |true=>
    rw[if_pos rfl,Zf (by omega),if_pos (rfl:true=true)];exact ZjN
   |false=>
    rw[if_neg (by decide),if_neg (show¬false=true by decide)];exact ZjN
  .simp only[zI.s0];rw[Zq (by omega)]
 unfold zI;rw[e2,obs]
 cases hf:(List.range l.length).find? (λv=>decide (gi (if ver=true then X else Y) v=i)&&decide (gi (if oth=true then X else Y) v=k))with
 | none=>
  rw[List.find?_range_eq_none]at hf;have:((cl (if ver=true then V else H) i).any λv=>decide (v∈cl (if oth=true then V else H) k))=false:=by
   rw[List.any_eq_false];intro v hv hw;rw[decide_eq_true_eq]at hw;have a:=(ZiY c1).1 hv;have b:=(ZiY c2).1 hw;have:=hf v.toNat (by omega);rw[a.2.2,b.2.2]at this;simp at this
  rw[this]
 | some v=>
  rw[List.find?_range_eq_some]at hf;obtain⟨h1,h2,_⟩:=hf;have hv:v<l.length:=by simpa using h2
  rw[Bool.and_eq_true,decide_eq_true_eq,decide_eq_true_eq]at h1;have:((cl (if ver=true then V else H) i).any λv=>decide (v∈cl (if oth=true then V else H) k))=true:=by
   rw[List.any_eq_true];refine⟨v,(ZiY c1).2 ⟨by omega,by omega,by rw[itn];exact h1.1⟩,?_⟩;rw[decide_eq_true_eq];exact(ZiY c2).2 ⟨by omega,by omega,by rw[itn];exact h1.2⟩
  rw[this]
theorem ZpM{l:List Za}(hc:Ck l)(hl:l.length<=1000)(A1:AllCh l 1)(A0:AllCh l 0):∃X Y V H,Zbg l=some (⟨X,Y,V,H⟩,true)/\CH l 1 X V/\CH l 0 Y H:=by
 obtain⟨X,V,e3,c3⟩:=(Zl2 hc hl (d:=1) (by omega)).1 A1;obtain⟨Y,H,e4,c4⟩:=(Zl2 hc hl (d:=0) (by omega)).1 A0;rw[show((1:Nat):Int)=1 from rfl]at e3;rw[show((0:Nat):Int)=0 from rfl]at e4;refine⟨X,Y,V,H,?_,c3,c4⟩;unfold Zbg;rw[e3,obs];dsimp only;rw[e4,obs];rfl
end Mu
/- Layer 4:orders and layers of graphs,plainly. -/
namespace Mu
def RA(n:Nat)(arcs:List Zb):Prop:=∀a∈arcs,0<=a.From/\a.From<n/\0<=a.To/\a.To<n/\0<=a.Weight/\a.Weight<=1000000
end Mu
/- Layer 2:what a heap of numbers holds. -/
namespace Mu
end Mu
/- Layer 3:the order of a graph. -/
namespace Mu
instance{n:Nat}{arcs:List Zb}:Decidable (RA n arcs):=by unfold RA;exact inferInstance
end Mu
/- Layer 4:the layers are the least coordinates. -/
namespace Mu
/-! the given graphs -/
structure Gj(n:Nat)(arcs:List Zb):Prop where
 ra:RA n arcs
 up:∀a∈arcs,a.From<a.To
 len:arcs.length<=40
end Mu
/- Layer 4:LayerTight. -/
namespace Mu
end Mu
/- Layer 4:LayerLeast. -/
namespace Mu
def sat(l:List Int)(a:Zb):Prop:=gi l a.From.toNat+1<=gi l a.To.toNat
structure RS(n:Nat)(arcs:List Zb)(r:Nat)(l:List Int):Prop where
 len:l.length=n
 pos:∀v:Nat,v<n->0<=gi l v/\gi l v<=39+v
 fit:∀a∈arcs,a.To<r->sat l a
end Mu
/- Layer 4:more arcs. -/
namespace Mu
end Mu
/- Layer 4:LayerTells and LayerMore. -/
namespace Mu
end Mu
/- Numbers raised till they fit;lines of rectangles. -/
namespace Mu
structure Rk(n:Nat)(arcs:List Zb)(ψ:Nat->Nat):Prop where
 rng:InR n arcs
 len:arcs.length<=1000000
 up:∀a∈arcs,ψ a.From.toNat<ψ a.To.toNat
 le:∀v,ψ v<=n
theorem Zpe(n:Nat)(c:Nat->Nat):∃ψ:Nat->Nat,(∀i,ψ i<=n)/\∀i j,i<n->c i<c j->ψ i<ψ j:=by
 refine⟨λi=>((List.range n).filter λk=>decide (c k<c i)).length,λi=>?_,λi j hi h=>?_⟩
 .have:=List.length_filter_le (λk=>decide (c k<c i)) (List.range n);simpa using this
 .have nd:(i::(List.range n).filter λk=>decide (c k<c i)).Nodup:=by
   refine List.nodup_cons.2 ⟨λm=>?_,List.nodup_range.filter _⟩;have:=(List.mem_filter.1 m).2;simp at this
  have:=nd.length_le_of_subset (l₂:=(List.range n).filter λk=>decide (c k<c j)) (λx hx=>by
   rcases List.mem_cons.1 hx with rfl|hx
   .exact List.mem_filter.2 ⟨List.mem_range.2 hi,by simpa using h⟩
   .obtain⟨a,b⟩:=List.mem_filter.1 hx;exact List.mem_filter.2 ⟨a,by simp at b⊢;omega⟩)
  rw[List.length_cons]at this;exact this
theorem Zkb{l:List Za}(hc:Ck l){d:Nat}(hd:d<4){φ:Nat->Nat}(h1:∀p,isD l p->p.2=d->φ p.1<φ (nx l p.1 p.2).toNat):∀m v,v<l.length->φ v<m->∃r,ZcF l ((d+2)%4) m v=some r
 |0,v,hv,h=>by omega
 |m+1,v,hv,h=>by
  rw[ZcF];by_cases c:nx l v ((d+2)%4)<0
  .rw[if_pos c];exact⟨_,rfl⟩
  .rw[if_neg c];have dd:isD l (v,(d+2)%4):=⟨hv,by dsimp only;omega,by dsimp only;omega⟩;have f:=dd.fwd hc;have o:=dd.opp hc;have oo:(nx l (opp l (v,(d+2)%4)).1 (opp l (v,(d+2)%4)).2).toNat=v:=congrArg Prod.fst (Zb3 hc dd);have:=h1 _ o (by unfold opp;dsimp only;omega);rw[oo]at this;exact Zkb hc hd h1 m _ f.1 (by unfold opp at this;dsimp only at this;omega)
theorem Zdz{l:List Za}(hc:Ck l){d:Nat}(hd:d<4){φ:Nat->Nat}(h0:∀x,φ x<=l.length)(h1:∀p,isD l p->p.2=d->φ p.1<φ (nx l p.1 p.2).toNat):AllCh l d:=by
 refine Classical.byContradiction λh=>?_;obtain⟨v,hv,e⟩:=Zgy hc hd h;obtain⟨r,e'⟩:=Zkb hc hd h1 (l.length+1) v hv (by have:=h0 v;omega);rw[e]at e';cases e'
theorem Zj9{l:List Za}(hc:Ck l){d k:Nat}(hd:d<4){φ:Nat->Nat}(h2:∀p,isD l p->p.2=(k+1)%4\/p.2=(k+3)%4->φ p.1=φ (nx l p.1 p.2).toNat)(hdk:d=(k+1)%4\/d=(k+3)%4){C:List Int}(h:IsCh l d C):∀i,i<C.length->φ (gi C i).toNat=φ (gi C 0).toNat
 |0,_=>rfl
 |i+1,hi=>by
  have lt:=h.lt i (by omega);have l1:=h.lt (i+1) hi;have n:=h.nxt i hi;have:=h2 ((gi C i).toNat,d) ⟨by dsimp only;omega,hd,by dsimp only;omega⟩ hdk;dsimp only at this;rw[n]at this;rw[<-this];exact Zj9 hc hd h2 hdk h i (by omega)
theorem Zgd{l:List Za}(hc:Ck l)(hl:l.length<=1000){d k:Nat}(hd:d<4)(hk:k<4)(hdk:k=(d+1)%4\/k=(d+3)%4){φ:Nat->Nat}(h1:∀p,isD l p->p.2=d->φ p.1<φ (nx l p.1 p.2).toNat)(h2:∀p,isD l p->p.2=(d+1)%4\/p.2=(d+3)%4->φ p.1=φ (nx l p.1 p.2).toNat){a:List Int}{L:List (List Int)}(c:CH l k a L):∃ψ,Rk L.length (Zbb l a d l.length) ψ:=by
 obtain⟨ψ,p1,p2⟩:=Zpe L.length λi=>φ (gi (gi L i) 0).toNat
 have at':∀v,v<l.length->φ v=φ (gi (gi L (gi a v).toNat) 0).toNat:=by
  intro v hv;obtain⟨i,i1,i2,i3⟩:=c.mem v hv;obtain⟨j,j1,j2⟩:=Zbi i3;have:=Zj9 hc hk h2 hdk (c.ch i i1) j j1;rw[j2,itn]at this;rw[this,i2,itn]
 refine⟨ψ,ZeO hc hd c,by have:=Zc1 (l:=l) (of:=a) (d:=d) l.length;omega,λe he=>?_,p1⟩;obtain⟨v,hv,h0,rfl⟩:=(Zdt _).1 he;have dd:isD l (v,d):=⟨hv,hd,h0⟩;have f:=dd.fwd hc;have r1:=c.rng hv;refine p2 _ _ (by dsimp only;omega) ?_;dsimp only;rw[<-at' v hv,<-at' _ f.1];exact h1 _ dd rfl
theorem Str.of{l:List Za}(hc:Ck l){p:List Zk}(h:∀v,v<l.length->okE l p v 0/\okE l p v 1):Str l (λv=>(gi p v).X) (λv=>(gi p v).Y):=by
 have k:∀q,isD l q->q.2<2->al (λv=>(gi p v).X) (λv=>(gi p v).Y) q.2 q.1<al (λv=>(gi p v).X) (λv=>(gi p v).Y) q.2 (tg l q)/\ac (λv=>(gi p v).X) (λv=>(gi p v).Y) q.2 q.1=ac (λv=>(gi p v).X) (λv=>(gi p v).Y) q.2 (tg l q):=by
  rintro⟨v,d⟩ ⟨h1,h2,h3⟩ h4;dsimp only at h1 h2 h3 h4⊢;have:d=0\/d=1:=by omega
  rcases this with rfl|rfl
  .rcases(h v h1).1 with q|q
   .omega
   .unfold ZgU at q;rw[if_pos rfl]at q;exact⟨q.2,q.1⟩
  .rcases(h v h1).2 with q|q
   .omega
   .unfold ZgU at q;rw[if_neg (by omega)]at q;exact⟨q.2,q.1⟩
 intro q hq;by_cases c:q.2<2
 .exact k q hq c
 .have:=k _ (hq.opp hc) (by unfold opp;dsimp only;have:=hq.2.1;omega);have o:tg l (opp l q)=q.1:=congrArg Prod.fst (Zb3 hc hq);rw[o]at this;have e:(opp l q).1=tg l q:=rfl;rw[e]at this;have d4:=hq.2.1;have:(opp l q).2=(q.2+2)%4:=rfl;have d23:q.2=2\/q.2=3:=by omega
  rcases d23 with z|z<;>rw[z]at this<;>simp_all[al,ac]<;>omega
theorem Zo5{l:List Za}(hc:Ck l)(hw:whole l)(h1:l.length≠1):∀z,z<l.length->∃e,e<4/\0<=nx l z e:=by
 have hp:=Ze8 hw;have fst:∀n w,Rch l 0 n w->w=0\/∃e,e<4/\0<=nx l 0 e:=by
  intro n w h
  induction h with
  |zero=>exact .inl rfl
  |succ h k ih=>
   rcases ih with rfl|ih
   .obtain⟨d,hd,e⟩:=k;exact .inr ⟨d,hd,by omega⟩
   .exact .inr ih
 intro z hz;by_cases c:z=0
 .subst c;obtain⟨n,r⟩:=Zdo hw (w:=1) (by omega);rcases fst n 1 r with q|q
  .omega
  .exact q
 .obtain⟨n,r⟩:=Zdo hw hz
  cases r with
  |zero=>exact absurd rfl c
  |@succ n a _ r k=>
   have al:=r.lt hc hp;obtain⟨d,hd,e⟩:=k;have b:=(hc.back' al hd e).2;exact⟨(d+2)%4,by omega,by omega⟩
theorem ZjT{l m:List Za}{X Y:Nat->Int}(R:Pln m X Y)(K:KH l m){A B:List Int}{V H:List (List Int)}(cx:CH l 1 A V)(cy:CH l 0 B H){p:List Zk}(hp:∀v,v<l.length->gi p v=⟨X v,Y v⟩):¬Crs V H p:=by
 rintro⟨a,b,ha,hb,ne,hap,hsh⟩;obtain⟨kl,hm,kt⟩:=K;obtain⟨a1,a2⟩:=ZiX.1 ha;obtain⟨b1,b2⟩:=ZiX.1 hb;have ck:∀a:Bool×Nat,a.2<(if a.1=true then V else H).length->∃d,d<2/\(d=0↔a.1=false)/\IsCh l d (gi (if a.1=true then V else H) a.2):=by
  rintro⟨u,i⟩ hi
  cases u with
  |true=>exact⟨1,by omega,by simp,cx.ch i hi⟩
  |false=>exact⟨0,by omega,by simp,cy.ch i hi⟩
 obtain⟨d,hd,e1,C⟩:=ck a a1;obtain⟨d',hd',e2,C'⟩:=ck b b1;unfold Zht Zhu at hap;have cc:∀(w:Bool)(i:Nat),i<(if w=true then V else H).length->cl (if w=true then V else H) i=gi (if w=true then V else H) i:=λw i hi=>by
  unfold cl;rw[if_neg (by omega),itn]
 unfold shc at hsh;rw[cc _ _ a1,cc _ _ b1]at hsh;generalize gi (if a.1=true then V else H) a.2=P at*;generalize gi (if b.1=true then V else H) b.2=Q at*;have u1:=C.lt 0 (by omega);have u2:=C.lt (P.length-1) (by omega);have w1:=C'.lt 0 (by omega);have w2:=C'.lt (Q.length-1) (by omega);rw[hp _ (by omega),hp _ (by omega),hp _ (by omega),hp _ (by omega)]at hap;obtain⟨g1,g2,_⟩:=ZiG R.str R.ck kl kt hd C (P.length-1) (by omega);obtain⟨h1,h2,_⟩:=ZiG R.str R.ck kl kt hd' C' (Q.length-1) (by omega);unfold Zhn at hap;simp only[Bool.or_eq_false_iff,decide_eq_false_iff_not]at hap;obtain⟨⟨⟨k1,k2⟩,k3⟩,k4⟩:=hap;have:∃v,v∈P/\v∈Q:=by
  have d01:d=0\/d=1:=by omega
  have d01':d'=0\/d'=1:=by omega
  refine Zk7 R kl kt hd hd' C C' (x:=max (X (gi P 0).toNat) (X (gi Q 0).toNat)) (y:=max (Y (gi P 0).toNat) (Y (gi Q 0).toNat)) ?_ ?_ ?_ ?_ ?_ ?_<;>rcases d01 with rfl|rfl<;>rcases d01' with rfl|rfl<;>simp[al,ac]at g1 g2 h1 h2⊢ <;> omega
 obtain⟨v,v1,v2⟩:=this;rw[List.any_eq_false]at hsh;exact hsh v v1 (by simpa using v2)
end Mu
/- Layer 18:what is reached from what:bits of words. -/
namespace Mu
open Go (IntKind)
def W64(w:Int):Prop:=0<=w/\w<18446744073709551616
theorem ZnM{x:Int}(h:W64 x):IntKind.u64.wrap x=x:=by
 obtain⟨h1,h2⟩:=h;simp only[IntKind.wrap,IntKind.bits,IntKind.signed];simp;omega
theorem Zjf{n:Nat}:BitVec.ofInt 64 (n:Int)=BitVec.ofNat 64 n:=by
 apply BitVec.eq_of_toNat_eq;simp[BitVec.toNat_ofInt]
theorem orW{x y:Int}(hx:W64 x)(hy:W64 y):Zd0 .u64 x y=((x.toNat ||| y.toNat:Nat):Int)/\W64 (Zd0 .u64 x y):=by
 obtain⟨n,rfl⟩:=Int.eq_ofNat_of_zero_le hx.1;obtain⟨m,rfl⟩:=Int.eq_ofNat_of_zero_le hy.1;have hn:n<2^64:=by have:=hx.2;omega
 have hm:m<2^64:=by have:=hy.2;omega
 have hor:n ||| m<2^64:=Nat.or_lt_two_pow hn hm;have e:((BitVec.ofInt 64 (n:Int) ||| BitVec.ofInt 64 (m:Int)).toNat)=n ||| m:=by
  rw[Zjf,Zjf,BitVec.toNat_or,BitVec.toNat_ofNat,BitVec.toNat_ofNat,Nat.mod_eq_of_lt hn,Nat.mod_eq_of_lt hm]
 have w:W64 ((n ||| m:Nat):Int):=⟨by omega,by omega⟩;have key:Zd0 .u64 (n:Int) (m:Int)=((n ||| m:Nat):Int):=by
  show IntKind.u64.wrap (((BitVec.ofInt 64 (n:Int) ||| BitVec.ofInt 64 (m:Int)).toNat:Nat):Int)=_;rw[e,ZnM w]
 rw[key];exact⟨rfl,w⟩
theorem Zur{x:Int}(hx:W64 x){j:Nat}(hj:j<64):decide (Zb9 .u64 (ZbH .u64 x (j:Int)) 1=1)=x.toNat.testBit j:=by
 obtain⟨n,rfl⟩:=Int.eq_ofNat_of_zero_le hx.1;have hn:n<2^64:=by have:=hx.2;omega
 have s:ZbH .u64 (n:Int) (j:Int)=((n/2^j:Nat):Int):=by
  show(n:Int).fdiv (2^(min (j:Int).toNat 64))=_;rw[itn,show min j 64=j by omega,Int.fdiv_eq_ediv_of_nonneg _ (by exact_mod_cast Nat.zero_le _)]
  push_cast
  rfl
 have hd:n/2^j<2^64:=Nat.lt_of_le_of_lt (Nat.div_le_self _ _) hn;have e:Zb9 .u64 ((n/2^j:Nat):Int) 1=((n/2^j%2:Nat):Int):=by
  show IntKind.u64.wrap (((BitVec.ofInt 64 ((n/2^j:Nat):Int)&&&BitVec.ofInt 64 ((1:Nat):Int)).toNat:Nat):Int)=_;rw[Zjf,Zjf,BitVec.toNat_and,BitVec.toNat_ofNat,BitVec.toNat_ofNat,Nat.mod_eq_of_lt hd,Nat.mod_eq_of_lt (show 1<2^64 by decide),Nat.and_one_is_mod,ZnM ⟨by omega,by omega⟩]
 rw[s,e,itn,Nat.testBit_eq_decide_div_mod_eq];by_cases c:n/2^j%2=1
 .rw[c];rfl
 .have:n/2^j%2=0:=by omega
  rw[this];rfl
theorem Zrz{j:Nat}(hj:j<64):Zeh .u64 1 (j:Int)=((2^j:Nat):Int)/\W64 (Zeh .u64 1 (j:Int)):=by
 have h:2^j<2^64:=Nat.pow_lt_pow_right (by decide) hj;have w:W64 ((2^j:Nat):Int):=by
  generalize 2^j=m at h;exact⟨by omega,by omega⟩
 have e:Zeh .u64 1 (j:Int)=((2^j:Nat):Int):=by
  show IntKind.u64.wrap (1*2^(min (j:Int).toNat 64))=_;rw[itn,show min j 64=j by omega,Int.one_mul];have:((2:Int)^j)=((2^j:Nat):Int):=by push_cast;rfl
  rw[this,ZnM w]
 rw[e];exact⟨rfl,w⟩
theorem ZgM{x y:Nat}{j:Nat}:(x ||| y).testBit j=(x.testBit j||y.testBit j):=Nat.testBit_or ..
theorem Zjv{i j:Nat}:(2^i).testBit j=decide (i=j):=Nat.testBit_two_pow ..

def ZfT(row:List Int)(v:Nat):Bool:=(gi row (v/64)).toNat.testBit (v%64)
structure RR(n:Nat)(r:zd)(R:Nat->Nat->Prop):Prop where
 len:r.rows.length=n
 row:∀u,u<n->(gi r.rows u).length=(n+63)/64
 wd:∀u i,u<n->i<(n+63)/64->W64 (gi (gi r.rows u) i)
 bit:∀u v,u<n->v<n->(ZfT (gi r.rows u) v=true↔R u v)
theorem RR.congr{n:Nat}{r:zd}{R R':Nat->Nat->Prop}(h:RR n r R)(e:∀u v,u<n->v<n->(R u v↔R' u v)):RR n r R':=⟨h.len,h.row,h.wd,λu v hu hv=>(h.bit u v hu hv).trans (e u v hu hv)⟩
theorem ZjE{v:Nat}:(v:Int).tdiv 64=((v/64:Nat):Int):=by
 rw[Int.tdiv_eq_ediv_of_nonneg (by omega)];push_cast;rfl
theorem Znl{v:Nat}:(v:Int).tmod 64=((v%64:Nat):Int):=by
 rw[Int.tmod_eq_emod_of_nonneg (by omega)];push_cast;rfl
theorem ZqD{rows:List (List Int)}{n u v:Nat}(hl:rows.length=n)(hu:u<n)(hv:v<n)(hn:n<=100000)(hr:(gi rows u).length=(n+63)/64)(hw:W64 (gi (gi rows u) (v/64))):zH ⟨rows⟩ u v=some (ZfT (gi rows u) v):=by
 unfold zH Zat
 simp only[obs];rw[Zct (show(0:Int)<=u by omega),Zct (show(u:Int)<(rows.length:Int) by omega),Zct (show(0:Int)<=v by omega),Zct (show(v:Int)<(rows.length:Int) by omega)];simp only[Bool.and_self,if_true,obs,itn,ZjE,Znl];rw[Zf (by omega),Zf (by omega),Zf (by omega),Zf (by omega),Zur hw (by omega)];rfl
theorem RR.has{n:Nat}{r:zd}{R:Nat->Nat->Prop}(h:RR n r R)(hn:n<=100000){u v:Nat}(hu:u<n)(hv:v<n):∃b,zH r u v=some b/\(b=true↔R u v) :=
 ⟨_,ZqD h.len hu hv hn (h.row u hu) (h.wd u _ hu (by omega)),h.bit u v hu hv⟩
theorem Zis{n:Nat}(hn:n<=4096):∃r,ZaX n=some (some r,0)/\RR n r λ_ _=>False:=by
 have e:Zn (ZaX.s0 n) big ((List.replicate n []:List (List Int)),0)=some (List.replicate n (List.replicate ((n+63)/64) 0)):=by
  refine Zaj (λi:Nat=>(List.replicate i (List.replicate ((n+63)/64) (0:Int))++List.replicate (n-i) [],(i:Int))) (n:=n) (zy (by omega)) (by simp) (λi hi=>?_) ?_
  .simp only[ZaX.s0,itn];have e1:((n:Int)+64-1).tdiv 64=((n+63)/64:Nat):=by rw[show(n:Int)+64-1=((n+63:Nat):Int) by omega,ZjE]
   rw[Zo (by simp;omega),Zw (by omega),Zw (by omega),e1,Zf (by omega),Zf (by omega),Zf (by simp;omega),Zw (by omega),itn];have e2:(List.replicate i (List.replicate ((n+63)/64) (0:Int))++List.replicate (n-i) []).set i (List.replicate ((n+63)/64) 0)=List.replicate (i+1) (List.replicate ((n+63)/64) 0)++List.replicate (n-(i+1)) []:=by
    rw[show n-i=n-(i+1)+1 by omega,List.replicate_succ,List.set_append_right _ _ (by simp)];simp[List.replicate_succ']
   rw[e2];rfl
  .simp only[ZaX.s0,itn];rw[Zq (by simp)];simp
 refine⟨⟨List.replicate n (List.replicate ((n+63)/64) 0)⟩,?_,?_⟩
 .unfold ZaX;rw[Zdh (by omega),Zdh (by omega),if_neg (by decide),Zf (by omega),itn,e,obs]
 .have g:∀u,u<n->gi (List.replicate n (List.replicate ((n+63)/64) (0:Int))) u=List.replicate ((n+63)/64) 0:=λu hu=>by simp[gi,hu]
  have g0:∀i,gi (List.replicate ((n+63)/64) (0:Int)) i=0:=λi=>by
   by_cases c:i<(n+63)/64
   .simp[gi,c]
   .rw[ZeN (by simp;omega)];rfl
  refine⟨by simp,λu hu=>by rw[g u hu];simp,λu i hu hi=>by rw[g u hu,g0];exact⟨by omega,by omega⟩,λu v hu hv=>?_⟩;rw[g u hu];unfold ZfT;rw[g0];simp
def ZhW(a b:List Int)(k:Nat):List Int:=(List.range a.length).map λi=>if i<k then Zd0 .u64 (gi a i) (gi b i)else gi a i
theorem ZdF{a b:List Int}{k:Nat}:(ZhW a b k).length=a.length:=by simp[ZhW]
theorem Zft{a b:List Int}{k i:Nat}(h:i<a.length):gi (ZhW a b k) i=if i<k then Zd0 .u64 (gi a i) (gi b i)else gi a i:=Zbf h
theorem Zhx{α:Type}[Inhabited α]{l m:List α}(h:l.length=m.length)(hg:∀i,i<l.length->gi l i=gi m i):l=m:=by
 apply List.ext_getElem h;intro i h1 h2;have:=hg i h1;rwa[zO h1,zO h2]at this
def Ze2(x:List Int)(v:Nat):List Int:=x.set (v/64) (Zd0 .u64 (gi x (v/64)) (Zeh .u64 1 ((v%64:Nat):Int)))
theorem ZpF{x:List Int}{v:Nat}:x.set ((v:Int).tdiv 64).toNat (Zd0 .u64 (gi x ((v:Int).tdiv 64).toNat) (Zeh .u64 1 ((v:Int).tmod 64)))=Ze2 x v:=by
 rw[ZjE,Znl,itn];rfl
theorem Zs6{rows:List (List Int)}{x:List Int}{v w:Nat}(hw:w<rows.length)(hx:x.length=(gi rows w).length)(hl:x.length<=100000)(hr:rows.length<=100000):Zn (ZS.s1 v x w) big (rows,0)=some (rows.set w (ZhW (gi rows w) (Ze2 x v) x.length)):=by
 have ml:(Ze2 x v).length=x.length:=by simp[Ze2]
 refine Zaj (λk:Nat=>(rows.set w (ZhW (gi rows w) (Ze2 x v) k),(k:Int))) (n:=x.length) (zy (by omega)) ?_ (λk hk=>?_) ?_
 .have:ZhW (gi rows w) (Ze2 x v) 0=gi rows w:=Zhx ZdF λi hi=>by rw[ZdF]at hi;rw[Zft hi,if_neg (by omega)]
  rw[this,zO hw];simp
 .simp only[ZS.s1];rw[ZpF,ml,Zo (by omega),Zf (by omega),Zf (by rw[List.length_set];omega),itn,itn,Zb1 hw,if_pos rfl,Zf (by rw[ZdF];omega),Zw (by omega),List.set_set,Zft (by omega),if_neg (by omega)];have:(ZhW (gi rows w) (Ze2 x v) k).set k (Zd0 .u64 (gi (gi rows w) k) (gi (Ze2 x v) k))=ZhW (gi rows w) (Ze2 x v) (k+1):=by
   refine Zhx (by rw[List.length_set,ZdF,ZdF]) λi hi=>?_;rw[List.length_set,ZdF]at hi;rw[Zb1 (by rw[ZdF];omega),Zft hi,Zft hi];by_cases c:i=k
   .subst c;rw[if_pos rfl,if_pos (by omega)]
   .rw[if_neg c];by_cases d:i<k
    .rw[if_pos d,if_pos (by omega)]
    .rw[if_neg d,if_neg (by omega)]
  rw[this];rfl
 .simp only[ZS.s1];rw[ZpF,ml,Zq (by omega)]
def Zcj(rows:List (List Int))(m:List Int)(u w:Nat):List (List Int):=(List.range rows.length).map λa=>if a<w/\(a=u\/ZfT (gi rows a) u=true)then ZhW (gi rows a) m m.length else gi rows a
theorem Znf{n:Nat}{r:zd}{R:Nat->Nat->Prop}(h:RR n r R)(hT:∀a b c,R a b->R b c->R a c)(hn:n<=100000){u v:Nat}(hu:u<n)(hv:v<n):∃e r',ZS r u v=some (e,r')/\RR n r' λa b=>R a b\/((a=u\/R a u)/\(b=v\/R v b)):=by
 obtain⟨rows⟩:=r;have hlen:=h.len;dsimp only at hlen;unfold ZS;have is1:Zat ⟨rows⟩ u=some true:=by
  unfold Zat
  rw[Zct (by omega),Zct (show(u:Int)<(rows.length:Int) by omega)];rfl
 have is2:Zat ⟨rows⟩ v=some true:=by
  unfold Zat
  rw[Zct (by omega),Zct (show(v:Int)<(rows.length:Int) by omega)];rfl
 rw[is1,is2];simp only[obs,Bool.not_true,Bool.false_eq_true,if_false];have hb:=h.bit u v hu hv;rw[ZqD hlen hu hv hn (h.row u hu) (h.wd u _ hu (by omega)),obs];by_cases c:ZfT (gi rows u) v=true
 .rw[c];refine⟨_,_,rfl,h.congr λa b ha hb'=>⟨λq=>.inl q,?_⟩⟩;have q0:=hb.1 c;rintro(q|⟨q1,q2⟩)
  .exact q
  .have e1:R a v:=by
    rcases q1 with rfl|q1
    .exact q0
    .exact hT _ _ _ q1 q0
   rcases q2 with rfl|q2
   .exact e1
   .exact hT _ _ _ e1 q2
 .simp only[Bool.not_eq_true]at c;have hrv:(gi rows v).length=(n+63)/64:=h.row v hv;rw[c,if_neg (by decide),Zf (by omega),itn];unfold ZbB;have mm:=@Znl v;rw[Zf (by omega),obs,Zf (by rw[ZjE];omega),Zf (by rw[ZjE];omega),Zf (by omega)];generalize hM:Ze2 (gi rows v) v=M;have Ml:M.length=(n+63)/64:=by rw[<-hM];simp only[Ze2,List.length_set];exact hrv
  have Mw:∀i,i<(n+63)/64->W64 (gi M i):=λi hi=>by
   rw[<-hM];unfold Ze2;rw[Zb1 (by omega)];split
   .exact(orW (h.wd v _ hv (by omega)) (Zrz (by omega)).2).2
   .exact h.wd v i hv hi
  have Mb:∀b,b<n->(ZfT M b=true↔b=v\/R v b):=λb hb=>by
   have q:=h.bit v b hv hb;rw[<-hM];unfold ZfT at q⊢;unfold Ze2;rw[Zb1 (by omega)];by_cases d:b/64=v/64
   .rw[if_pos d,(orW (h.wd v _ hv (by omega)) (Zrz (show v%64<64 by omega)).2).1,itn,ZgM,(Zrz (show v%64<64 by omega)).1,itn,Zjv,Bool.or_eq_true,decide_eq_true_eq,<-d,q];constructor
    .rintro(e|e)
     .exact .inr e
     .exact .inl (by omega)
    .rintro(rfl|e)
     .exact .inr rfl
     .exact .inl e
   .rw[if_neg d,q];constructor
    .exact λe=>.inr e
    .rintro(rfl|e)
     .exact absurd rfl d
     .exact e
  have ag:∀w a,a<n->gi (Zcj rows M u w) a=if a<w/\(a=u\/ZfT (gi rows a) u=true)then ZhW (gi rows a) M M.length else gi rows a:=λw a ha=>Zbf (by omega);have al:∀w,(Zcj rows M u w).length=n:=λw=>by simp[Zcj,hlen]
  have e:Zn (ZS.s0 ⟨rows⟩ u v (gi rows v)) big (rows,0)=some (Zcj rows M u n):=by
   refine Zaj (λw:Nat=>(Zcj rows M u w,(w:Int))) (n:=n) (zy (by omega)) ?_ (λw hw=>?_) ?_
   .have:Zcj rows M u 0=rows:=Zhx (by rw[al,hlen]) λa ha=>by rw[al]at ha;rw[ag 0 a ha,if_neg (by omega)]
    rw[this];rfl
   .have gw:gi (Zcj rows M u w) w=gi rows w:=by rw[ag w w hw,if_neg (by omega)]
    have nxt:∀row,(Zcj rows M u w).set w row=Zcj rows M u (w+1)↔row=gi (Zcj rows M u (w+1)) w:=λrow=>by
     constructor
     .intro q;rw[<-q,Zb1 (by rw[al];exact hw),if_pos rfl]
     .rintro rfl;refine Zhx (by rw[List.length_set,al,al]) λa ha=>?_;rw[List.length_set,al]at ha;rw[Zb1 (by rw[al];exact hw)];by_cases d:a=w
      .rw[if_pos d,d]
      .rw[if_neg d,ag w a ha,ag (w+1) a ha];by_cases d2:a<w/\(a=u\/ZfT (gi rows a) u=true)
       .rw[if_pos d2,if_pos ⟨by omega,d2.2⟩]
       .rw[if_neg d2,if_neg (λq=>d2 ⟨by omega,q.2⟩)]
    simp only[ZS.s0];rw[Zo (by omega)];have hasw:=ZqD (rows:=Zcj rows M u w) (al w) hw hu hn (by rw[gw];exact h.row w hw) (by rw[gw];exact h.wd w _ hw (by omega));rw[gw]at hasw;by_cases d:w=u\/ZfT (gi rows w) u=true
    .have t:(if(!decide ((w:Int)=(u:Int)))=true then(zH ⟨Zcj rows M u w⟩ w u).bind λx5=>some (!x5)else some false)=some false:=by
      by_cases d1:w=u
      .rw[Zb2 (by omega)]
      .rw[Zcc (by omega),hasw,obs,d.resolve_left d1];rfl
     rw[t,obs,if_neg (by decide),Zs6 (by rw[al];exact hw) (by rw[gw,hrv];exact(h.row w hw).symm) (by omega) (by rw[al];exact hn),obs,Zw (by omega),gw,hM];rw[(nxt _).2 (by rw[ag (w+1) w hw,if_pos ⟨by omega,d⟩,Ml,hrv])];rfl
    .have d':¬w=u/\ZfT (gi rows w) u=false:=⟨λq=>d (.inl q),by simpa using λq=>d (.inr q)⟩;rw[Zcc (by omega),hasw,d'.2,obs,obs,if_pos (by decide),Zw (by omega)];have:Zcj rows M u w=Zcj rows M u (w+1):=by
      have:=(nxt (gi rows w)).2 (by rw[ag (w+1) w hw,if_neg (λq=>d q.2)]);rw[<-this];refine Zhx (by rw[List.length_set]) λa ha=>?_;rw[Zb1 (by rw[al];exact hw)];split
      .rename_i q;rw[q,gw]
      .rfl
     rw[this];rfl
   .simp only[ZS.s0];rw[Zq (by omega)]
  rw[e,obs];refine⟨_,_,rfl,al n,λa ha=>?_,λa i ha hi=>?_,λa b ha hb'=>?_⟩
  .show(gi (Zcj rows M u n) a).length=_;rw[ag n a ha];split
   .rw[ZdF];exact h.row a ha
   .exact h.row a ha
  .show W64 (gi (gi (Zcj rows M u n) a) i);have ra:(gi rows a).length=(n+63)/64:=h.row a ha;rw[ag n a ha];split
   .rw[Zft (by omega),if_pos (by omega)];exact(orW (h.wd a i ha hi) (Mw i hi)).2
   .exact h.wd a i ha hi
  .show ZfT (gi (Zcj rows M u n) a) b=true↔_;have ra:(gi rows a).length=(n+63)/64:=h.row a ha;have q1:=h.bit a u ha hu;have q2:=h.bit a b ha hb';dsimp only at q1 q2;rw[ag n a ha];by_cases d:a=u\/ZfT (gi rows a) u=true
   .rw[if_pos ⟨ha,d⟩];have mb:=Mb b hb';unfold ZfT at mb q2⊢;rw[Zft (by omega),if_pos (by omega),(orW (h.wd a _ ha (by omega)) (Mw _ (by omega))).1,itn,ZgM,Bool.or_eq_true,mb,q2];rw[q1]at d;exact⟨λq=>q.elim .inl λq=>.inr ⟨d,q⟩,λq=>q.elim .inl λq=>.inr q.2⟩
   .rw[if_neg (λq=>d q.2),q2];rw[q1]at d;exact⟨.inl,λq=>q.elim id λq=>absurd q.1 d⟩
end Mu
/- Layer 19:what is ahead of what:paths of arcs,the sides of lines,the ways of two lines. -/
namespace Mu
open Go (IntKind)
inductive Pth(arcs:List Zb):Nat->Nat->Prop
 |one {a:Zb}(h:a∈arcs):Pth arcs a.From.toNat a.To.toNat
 |cons {a:Zb}{y:Nat}(h:a∈arcs) (t:Pth arcs a.To.toNat y):Pth arcs a.From.toNat y
theorem Pth.trans{arcs:List Zb}{x y z:Nat}(h:Pth arcs x y)(t:Pth arcs y z):Pth arcs x z:=by
 induction h with
 |one h=>exact .cons h t
 |cons h _ ih=>exact .cons h (ih t)
theorem Pth.mono{A B:List Zb}(hs:∀a∈A,a∈B){x y:Nat}(h:Pth A x y):Pth B x y:=by
 induction h with
 |one h=>exact .one (hs _ h)
 |cons h _ ih=>exact .cons (hs _ h) ih
theorem Pth.nil{x y:Nat}(h:Pth [] x y):False:=by
 cases h with
 |one h=>cases h
 |cons h _=>cases h
theorem Pth.snoc{A:List Zb}{e:Zb}{x y:Nat}:Pth (A++[e]) x y↔Pth A x y\/((x=e.From.toNat\/Pth A x e.From.toNat)/\(y=e.To.toNat\/Pth A e.To.toNat y)):=by
 constructor
 .intro h
  induction h with
  | @one a h=>
   rcases List.mem_append.1 h with h|h
   .exact .inl (.one h)
   .have:a=e:=by simpa using h
    subst this;exact .inr ⟨.inl rfl,.inl rfl⟩
  | @cons a y h t ih=>
   rcases List.mem_append.1 h with h|h
   .rcases ih with q|⟨q1,q2⟩
    .exact .inl (.cons h q)
    .refine .inr ⟨.inr ?_,q2⟩;rcases q1 with q1|q1
     .rw[<-q1];exact .one h
     .exact .cons h q1
   .have:a=e:=by simpa using h
    subst this;rcases ih with q|⟨q1,q2⟩
    .exact .inr ⟨.inl rfl,.inr q⟩
    .exact .inr ⟨.inl rfl,q2⟩
 .rintro(h|⟨q1,q2⟩)
  .exact h.mono λa ha=>by simp[ha]
  .have e1:Pth (A++[e]) e.From.toNat e.To.toNat:=.one (by simp);have e2:Pth (A++[e]) e.From.toNat y:=by
    rcases q2 with rfl|q2
    .exact e1
    .exact e1.trans (q2.mono λa ha=>by simp[ha])
   rcases q1 with rfl|q1
   .exact e2
   .exact(q1.mono λa ha=>by simp[ha]).trans e2
theorem Pth.up{A:List Zb}{x:List Int}(h:∀a∈A,gi x a.From.toNat<gi x a.To.toNat){u v:Nat}(t:Pth A u v):gi x u<gi x v:=by
 induction t with
 |one q=>exact h _ q
 |cons q _ ih=>exact Int.lt_trans (h _ q) ih
/-! Lines and their sides. -/
def sd(X Y:List Int)(V H:List (List Int))(a:Bool×Nat):zM :=
 if a.1=true then⟨a.2,a.2,gi Y (gi (gi V a.2) 0).toNat,gi Y (gi (gi V a.2) ((gi V a.2).length-1)).toNat⟩
 else⟨gi X (gi (gi H a.2) 0).toNat,gi X (gi (gi H a.2) ((gi H a.2).length-1)).toNat,a.2,a.2⟩
theorem Zu9{l:List Za}{X Y:List Int}{V H:List (List Int)}(oV:ZlE l.length V)(oH:ZlE l.length H)(hX:X.length=l.length)(hY:Y.length=l.length){a:Bool×Nat}(ha:a∈LN V H):Ze4 ⟨X,Y,V,H⟩ (ZcV a)=some (sd X Y V H a):=by
 have hm:=ZiW ha;obtain⟨b,i⟩:=a;unfold Ze4 Zck;simp only[ZcV,Zk8,obs]
 cases b with
 |true=>
  simp only[if_true]at hm⊢;have ne:=oV.ne i hm;have lt0:=oV.lt i hm 0 ne.1;have lt1:=oV.lt i hm ((gi V i).length-1) (by omega);have ec:cl V (i:Int)=gi V i:=by unfold cl;rw[if_neg (by omega),itn]
  have e:(((gi V i).length:Int)-1).toNat=(gi V i).length-1:=by omega
  rw[ec,Zq (show¬((gi V i).length:Int)=0 by omega),obs,e,Zf (by omega),Zf (by show(0:Int)<=gi (gi V i) 0/\gi (gi V i) 0<Y.length;omega),Zw (by omega),Zf (by omega),Zf (by omega)];rfl
 |false=>
  simp only[Bool.false_eq_true,if_false]at hm⊢;have ne:=oH.ne i hm;have lt0:=oH.lt i hm 0 ne.1;have lt1:=oH.lt i hm ((gi H i).length-1) (by omega);have ec:cl H (i:Int)=gi H i:=by unfold cl;rw[if_neg (by omega),itn]
  have e:(((gi H i).length:Int)-1).toNat=(gi H i).length-1:=by omega
  rw[ec,Zq (show¬((gi H i).length:Int)=0 by omega),obs,e,Zf (by omega),Zf (by show(0:Int)<=gi (gi H i) 0/\gi (gi H i) 0<X.length;omega),Zw (by omega),Zf (by omega),Zf (by omega)];rfl
def wy(a b:zM):List Zi:=[⟨true,a.right,b.left⟩,⟨true,b.right,a.left⟩,⟨false,a.top,b.bottom⟩,⟨false,b.top,a.bottom⟩]
def grW(hs vs:List Zb)(w:Zi):List Zb:=if w.horizontal=true then hs else vs
def isP(hs vs:List Zb)(w:Zi):Prop:=Pth (grW hs vs w) w.from_.toNat w.to.toNat
def ZlJ(hs vs:List Zb)(w:Zi):Prop:=w.from_≠w.to/\¬Pth (grW hs vs w) w.to.toNat w.from_.toNat
open Classical in
noncomputable def ZcQ(hs vs:List Zb)(w:Zi):Bool:=decide (ZlJ hs vs w)
open Classical in
noncomputable def isF(hs vs:List Zb)(w:Zi):Bool:=decide (isP hs vs w)
theorem ZdC{hs vs:List Zb}{w:Zi}:ZcQ hs vs w=true↔ZlJ hs vs w:=by simp[ZcQ]
theorem Zhb{hs vs:List Zb}{w:Zi}:isF hs vs w=true↔isP hs vs w:=by simp[isF]

theorem ZpB{s:List Zi}{f:Zi->Option Bool}{g:Zi->Bool}(hn:s.length<=1000000)(h:∀a∈s,f a=some (g a)):Zn (zb.s0 s f) big 0=some (match(List.range s.length).find? (λi=>g (gi s i))with|some i=>.inr (i:Int)|none=>.inl ()):=by
 refine Zc3 (n:=s.length) (P:=λi=>g (gi s i)) (f:=λi=>(i:Int)) (zy (by omega)) (λi hi=>?_) ?_
 .simp only[zb.s0];rw[Zo (by omega),Zf (by omega),itn,h _ (zh hi),obs,Zw (by omega)];cases g (gi s i)<;>rfl
 .simp only[zb.s0];rw[Zq (by omega)]
theorem ZqL{s:List Zi}{f:Zi->Option Bool}{g:Zi->Bool}(hn:s.length<=1000000)(h:∀a∈s,f a=some (g a)):Zah s f=some (s.any g):=by
 unfold Zah zb;rw[ZpB hn h,obs]
 cases hf:(List.range s.length).find? (λi=>g (gi s i))with
 | none=>
  rw[List.find?_range_eq_none]at hf;have:s.any g=false:=by
   rw[List.any_eq_false];intro a ha;obtain⟨i,hi,rfl⟩:=List.mem_iff_getElem.1 ha;have:=hf i hi;rw[zO hi]at this;simpa using this
  rw[this];rfl
 | some i=>
  rw[List.find?_range_eq_some]at hf;obtain⟨h1,h2,_⟩:=hf;have hi:i<s.length:=by simpa using h2
  have:s.any g=true:=by
   rw[List.any_eq_true];exact⟨gi s i,zh hi,h1⟩
  rw[this];dsimp only;rw[obs,Zct (by omega)]
theorem Ze0{s:List Zi}{g:Zi->Bool}{j:Nat}(hj:j<s.length):(s.take (j+1)).filter g=(s.take j).filter g++(if g (gi s j)=true then [gi s j]else []):=by
 rw[Zc9 hj,List.filter_append];congr 1;cases h:g (gi s j)<;>simp[h]
theorem ZsR{s:List Zi}{f:Zi->Option Bool}{g:Zi->Bool}(hn:s.length<=1000000)(h:∀a∈s,f a=some (!g a)):ZM s f=some (s.filter g):=by
 unfold ZM zb;rw[ZpB hn h,obs]
 cases hf:(List.range s.length).find? (λi=>!g (gi s i))with
 |none=>
  rw[List.find?_range_eq_none]at hf;dsimp only;rw[obs,Zo rfl,List.filter_eq_self.2];intro a ha;obtain⟨i,hi,rfl⟩:=List.mem_iff_getElem.1 ha;have:=hf i hi;rw[zO hi]at this;simpa using this
 | some x=>
  rw[List.find?_range_eq_some]at hf;obtain⟨h1,h2,h3⟩:=hf;have hx:x<s.length:=by simpa using h2
  dsimp only;rw[obs,Zq (by omega),Zw (by omega)];have flt:∀j,(s.take j).filter g=(s.take j).filter g:=λ_=>rfl;have cnt:∀j,j<=s.length->((s.take j).filter g).length<=j:=λj hj=>by
   have:=List.length_filter_le g (s.take j);rw[List.length_take]at this;omega
  have f0:(s.take x).filter g=s.take x:=List.filter_eq_self.2 λa ha=>by
   obtain⟨i,hi,rfl⟩:=List.mem_iff_getElem.1 ha;rw[List.length_take]at hi;have:=h3 i (by omega);rw[zO (by omega)]at this;simpa using this
  have f1:(s.take (x+1)).filter g=s.take x:=by
   rw[Ze0 hx,f0,if_neg (by simpa using h1),List.append_nil]
  have e:Zn (ZM.s0 f) big (s,(x:Int),(x:Int)+1)=some ((s.filter g)++s.drop (s.filter g).length,((s.filter g).length:Int)):=by
   have key:=Zaj (step:=ZM.s0 f) (λn:Nat=>(((s.take (x+1+n)).filter g)++s.drop ((s.take (x+1+n)).filter g).length,(((s.take (x+1+n)).filter g).length:Int),((x+1+n:Nat):Int))) (s0:=(s,(x:Int),(x:Int)+1)) (n:=s.length-(x+1)) (r:=((s.filter g)++s.drop (s.filter g).length,((s.filter g).length:Int))) (zy (by omega)) ?_ (λn hn'=>?_) ?_
   .exact key
   .rw[Nat.add_zero,f1,List.length_take,Nat.min_eq_left (by omega),List.take_append_drop];rfl
   .generalize hj:x+1+n=j;have hjl:j<s.length:=by omega
    have c:=cnt j (by omega);generalize hF:(s.take j).filter g=F at c;have e0:(F++s.drop F.length).length=s.length:=by rw[List.length_append,List.length_drop];omega
    have e1:gi (F++s.drop F.length) j=gi s j:=by
     have:=Zbo (l:=F) (m:=s.drop F.length) (i:=j-F.length);rw[show F.length+(j-F.length)=j by omega]at this;rw[this,ZmW,show F.length+(j-F.length)=j by omega]
    simp only[ZM.s0];rw[e0,Zo (by omega),Zf (by omega),itn,e1,h _ (zh hjl),obs,Bool.not_not,itn,Zf (by omega),Zw (by omega),Zw (by omega),show x+1+(n+1)=j+1 by omega,Ze0 hjl,hF];by_cases gq:g (gi s j)=true
    .rw[if_pos gq,if_pos gq];have:(F++s.drop F.length).set F.length (gi s j)=F++[gi s j]++s.drop (F++[gi s j]).length:=by
      rw[List.set_append_right _ _ (Nat.le_refl _),Nat.sub_self,Zov (show F.length<s.length by omega)];simp
     rw[this];simp
    .rw[if_neg gq,if_neg gq,List.append_nil,Zw (by omega)];rfl
   .rw[show x+1+(s.length-(x+1))=s.length by omega,List.take_length];have c:=cnt s.length (Nat.le_refl _);rw[List.take_length]at c;simp only[ZM.s0];rw[Zq (by rw[List.length_append,List.length_drop];omega)]
  rw[e,obs];have c:=List.length_filter_le g s;dsimp only;rw[Zf (by rw[List.length_append];omega),itn];have t:(s.filter g++s.drop (s.filter g).length).take (s.filter g).length=s.filter g:=by
   rw[List.take_append_of_le_length (Nat.le_refl _),List.take_length]
  rw[t,Zf (by rw[List.length_append];omega),List.take_append_of_le_length (Nat.le_refl _),List.take_length]
end Mu
/- Layer 19:the settler:what it holds,how it looks at two lines. -/
namespace Mu
open Go (IntKind)
structure SS(X Y:List Int)(V H:List (List Int))(hs vs:List Zb)(s:ZO):Prop where
 g:s.result.Graphs=⟨⟨X,Y,V,H⟩,hs,vs⟩
 op:s.result.Open=[]
 h:RR V.length s.h (Pth hs)
 v:RR H.length s.v (Pth vs)
 li:s.lines=(LN V H).map ZcV
 si:s.sides=(LN V H).map (sd X Y V H)
 ih:InR V.length hs
 iv:InR H.length vs
def nW(V H:List (List Int))(w:Zi):Nat:=if w.horizontal=true then V.length else H.length
def wOk(V H:List (List Int))(w:Zi):Prop:=(0<=w.from_/\w.from_<nW V H w)/\0<=w.to/\w.to<nW V H w
theorem ZnA{l:List Za}(hc:Ck l){X Y:List Int}{V H:List (List Int)}(cx:CH l 1 X V)(cy:CH l 0 Y H){a:Bool×Nat}(ha:a∈LN V H):((0<=(sd X Y V H a).left/\(sd X Y V H a).left<V.length)/\0<=(sd X Y V H a).right/\(sd X Y V H a).right<V.length)/\(0<=(sd X Y V H a).bottom/\(sd X Y V H a).bottom<H.length)/\0<=(sd X Y V H a).top/\(sd X Y V H a).top<H.length:=by
 have hm:=ZiW ha;obtain⟨b,i⟩:=a
 cases b with
 |true=>
  simp only[if_true]at hm;have C:=cx.ch i hm;have ne:=C.ne;have l0:=C.lt 0 ne;have l1:=C.lt ((gi V i).length-1) (by omega);have r0:=cy.rng (v:=(gi (gi V i) 0).toNat) (by omega);have r1:=cy.rng (v:=(gi (gi V i) ((gi V i).length-1)).toNat) (by omega);simp only[sd,if_true];omega
 |false=>
  simp only[Bool.false_eq_true,if_false]at hm;have C:=cy.ch i hm;have ne:=C.ne;have l0:=C.lt 0 ne;have l1:=C.lt ((gi H i).length-1) (by omega);have r0:=cx.rng (v:=(gi (gi H i) 0).toNat) (by omega);have r1:=cx.rng (v:=(gi (gi H i) ((gi H i).length-1)).toNat) (by omega);simp only[sd,Bool.false_eq_true,if_false];omega
theorem ZpT{l:List Za}(hc:Ck l){X Y:List Int}{V H:List (List Int)}(cx:CH l 1 X V)(cy:CH l 0 Y H){a b:Bool×Nat}(ha:a∈LN V H)(hb:b∈LN V H):∀w∈wy (sd X Y V H a) (sd X Y V H b),wOk V H w:=by
 have A:=ZnA hc cx cy ha;have B:=ZnA hc cx cy hb;intro w hw;simp only[wy,List.mem_cons,List.not_mem_nil,or_false]at hw;rcases hw with rfl|rfl|rfl|rfl<;>simp only[wOk,nW,if_true,Bool.false_eq_true,if_false]<;>omega
section
variable {X Y:List Int}{V H:List (List Int)}{hs vs:List Zb}{s:ZO}
theorem ZiT{w:Zi}:Za3 s w=some w.horizontal:=by
 unfold Za3;cases w.horizontal<;>rfl
theorem SS.has(S:SS X Y V H hs vs s)(hV:V.length<=1000)(hH:H.length<=1000){w:Zi}{u v:Int}(hu:0<=u/\u<nW V H w)(hv:0<=v/\v<nW V H w):∃b,(if w.horizontal=true then zH s.h u v else zH s.v u v)=some b/\(b=true↔Pth (grW hs vs w) u.toNat v.toNat):=by
 unfold nW at hu hv;unfold grW;by_cases c:w.horizontal=true
 .rw[if_pos c]at hu hv⊢;rw[if_pos c];have:=S.h.has (by omega) (u:=u.toNat) (v:=v.toNat) (by omega) (by omega);rwa[Int.toNat_of_nonneg hu.1,Int.toNat_of_nonneg hv.1]at this
 .rw[if_neg c]at hu hv⊢;rw[if_neg c];have:=S.v.has (by omega) (u:=u.toNat) (v:=v.toNat) (by omega) (by omega);rwa[Int.toNat_of_nonneg hu.1,Int.toNat_of_nonneg hv.1]at this
theorem SS.is(S:SS X Y V H hs vs s)(hV:V.length<=1000)(hH:H.length<=1000){w:Zi}(hw:wOk V H w):ZbF s w=some (isF hs vs w):=by
 obtain⟨b,e,hb⟩:=S.has hV hH hw.1 hw.2;have:b=isF hs vs w:=by rw[Bool.eq_iff_iff,hb,Zhb];rfl
 unfold ZbF;rw[ZiT,obs,<-this];cases c:w.horizontal<;>simp only[c,if_true,Bool.false_eq_true,if_false]at e⊢ <;> rw[e]<;>rfl
theorem SS.can(S:SS X Y V H hs vs s)(hV:V.length<=1000)(hH:H.length<=1000){w:Zi}(hw:wOk V H w):ZbM s w=some (ZcQ hs vs w):=by
 obtain⟨b,e,hb⟩:=S.has hV hH (w:=w) hw.2 hw.1;unfold ZbM;by_cases c0:w.from_=w.to
 .rw[Zb2 c0];have:ZcQ hs vs w=false:=by rw[Bool.eq_false_iff,ne_eq,ZdC];exact λh=>h.1 c0
  rw[this]
 .have:(!b)=ZcQ hs vs w:=by
   rw[Bool.eq_iff_iff,ZdC,Bool.not_eq_true',<-Bool.not_eq_true,hb];exact⟨λh=>⟨c0,h⟩,λh=>h.2⟩
  rw[Zcc c0,ZiT,obs,<-this];cases c:w.horizontal<;>simp only[c,if_true,Bool.false_eq_true,if_false]at e⊢ <;> rw[e]<;>rfl
def Zel(w:Zi):Zb:=⟨w.from_,w.to,0⟩
def fH(hs:List Zb)(w:Zi):List Zb:=if w.horizontal=true then hs++[Zel w]else hs
def fV(vs:List Zb)(w:Zi):List Zb:=if w.horizontal=true then vs else vs++[Zel w]
theorem SS.force(S:SS X Y V H hs vs s)(hV:V.length<=1000)(hH:H.length<=1000){w:Zi}(hw:wOk V H w)(lh:hs.length<=100000000)(lv:vs.length<=100000000):∃s',Zb6 s w=some s'/\SS X Y V H (fH hs w) (fV vs w) s':=by
 obtain⟨ho,f,t⟩:=w;obtain⟨⟨gr,op⟩,h,v,li,si⟩:=s;have g:=S.g;dsimp only at g;subst g;unfold Zb6;rw[ZiT,obs]
 cases ho with
 | true=>
  simp only[wOk,nW,if_true]at hw;obtain⟨e,r',q1,q2⟩:=Znf S.h (λ_ _ _ a b=>a.trans b) (by omega) (u:=f.toNat) (v:=t.toNat) (by omega) (by omega);rw[Int.toNat_of_nonneg hw.1.1,Int.toNat_of_nonneg hw.2.1]at q1;simp only[if_true];rw[q1,obs];dsimp only;rw[Zf (by simp;omega)];refine⟨_,rfl,rfl,S.op,q2.congr λa b _ _=>?_,S.v,S.li,S.si,?_,S.iv⟩
  .exact(Pth.snoc (e:=⟨f,t,0⟩)).symm
  .intro a ha;simp only[fH,if_true]at ha;rcases List.mem_append.1 ha with q|q
   .exact S.ih a q
   .have:a=Zel ⟨true,f,t⟩:=by simpa using q
    subst this;exact hw
 | false=>
  simp only[wOk,nW,Bool.false_eq_true,if_false]at hw;obtain⟨e,r',q1,q2⟩:=Znf S.v (λ_ _ _ a b=>a.trans b) (by omega) (u:=f.toNat) (v:=t.toNat) (by omega) (by omega);rw[Int.toNat_of_nonneg hw.1.1,Int.toNat_of_nonneg hw.2.1]at q1;simp only[Bool.false_eq_true,if_false];rw[q1,obs];dsimp only;rw[Zf (by simp;omega)];refine⟨_,rfl,rfl,S.op,S.h,q2.congr λa b _ _=>?_,S.li,S.si,S.ih,?_⟩
  .exact(Pth.snoc (e:=⟨f,t,0⟩)).symm
  .intro a ha;simp only[fV,Bool.false_eq_true,if_false]at ha;rcases List.mem_append.1 ha with q|q
   .exact S.iv a q
   .have:a=Zel ⟨false,f,t⟩:=by simpa using q
    subst this;exact hw
def wyN(X Y:List Int)(V H:List (List Int))(i k:Nat):List Zi:=wy (sd X Y V H (gi (LN V H) i)) (sd X Y V H (gi (LN V H) k))
inductive ZnP(hs vs:List Zb)(W:List Zi):Bool->Bool->List Zb->List Zb->Prop
 |is {w:Zi}(hw:w∈W) (h:isP hs vs w):ZnP hs vs W true false hs vs
 |no (h:∀w∈W,¬isP hs vs w) (n:(W.filter (ZcQ hs vs)).length≠1):ZnP hs vs W false false hs vs
 |force {w:Zi}(h:∀w∈W,¬isP hs vs w) (e:W.filter (ZcQ hs vs)=[w]):ZnP hs vs W true true (fH hs w) (fV vs w)
theorem ZsX{l:List Za}(hc:Ck l)(cx:CH l 1 X V)(cy:CH l 0 Y H)(S:SS X Y V H hs vs s)(hV:V.length<=1000)(hH:H.length<=1000)(lh:hs.length<=100000000)(lv:vs.length<=100000000){i k:Nat}(hi:i<(LN V H).length)(hk:k<(LN V H).length) :
  ∃p f s' hs' vs',ZaE s i k=some (p,f,s')/\SS X Y V H hs' vs' s'/\ZnP hs vs (wyN X Y V H i k) p f hs' vs':=by
 have ok:∀w∈wyN X Y V H i k,wOk V H w:=ZpT hc cx cy (zh hi) (zh hk);have w1:Zbt s i k=some ⟨⟨true,(sd X Y V H (gi (LN V H) i)).right,(sd X Y V H (gi (LN V H) k)).left⟩,⟨true,(sd X Y V H (gi (LN V H) k)).right,(sd X Y V H (gi (LN V H) i)).left⟩,⟨false,(sd X Y V H (gi (LN V H) i)).top,(sd X Y V H (gi (LN V H) k)).bottom⟩,⟨false,(sd X Y V H (gi (LN V H) k)).top,(sd X Y V H (gi (LN V H) i)).bottom⟩⟩:=by
  unfold Zbt;rw[S.si,List.length_map,Zf (by omega),Zf (by omega),itn,itn,ZaR hi,ZaR hk]
 unfold ZaE;rw[w1,obs];dsimp only;change∃p f s' hs' vs',(Zah (wyN X Y V H i k) λy0=>ZbF s y0).bind _=some (p,f,s')/\_;rw[ZqL (g:=isF hs vs) (by simp[wyN,wy]) (λw hw=>S.is hV hH (ok w hw)),obs];by_cases c:(wyN X Y V H i k).any (isF hs vs)=true
 .rw[if_pos c];obtain⟨w,hw,q⟩:=List.any_eq_true.1 c;exact⟨_,_,_,_,_,rfl,S,.is hw (Zhb.1 q)⟩
 .rw[if_neg c];have nis:∀w∈wyN X Y V H i k,¬isP hs vs w:=λw hw q=>c (List.any_eq_true.2 ⟨w,hw,Zhb.2 q⟩);change∃p f s' hs' vs',(ZM (wyN X Y V H i k) λy0=>ZaY y0 s).bind _=some (p,f,s')/\_;rw[ZsR (g:=ZcQ hs vs) (by simp[wyN,wy]) (λw hw=>by unfold ZaY;rw[S.can hV hH (ok w hw)];rfl),obs];by_cases c1:((wyN X Y V H i k).filter (ZcQ hs vs)).length=1
  .obtain⟨w,e⟩:=List.length_eq_one_iff.1 c1;have hw:w∈wyN X Y V H i k:=(List.mem_filter.1 (e▸List.mem_singleton.2 rfl:w∈(wyN X Y V H i k).filter (ZcQ hs vs))).1;obtain⟨s',q1,q2⟩:=S.force hV hH (ok w hw) lh lv;have gw:gi [w] (0:Int).toNat=w:=rfl;rw[e,Zb2 (by simp),Zf (by simp),gw,q1,obs];exact⟨_,_,_,_,_,rfl,q2,.force nis e⟩
  .rw[Zcc (by omega)];exact⟨_,_,_,_,_,rfl,S,.no nis c1⟩
end
end Mu
/- Layer 19:how settling starts. -/
namespace Mu
open Go (IntKind)
theorem Zhc{σ τ:Type}{step:σ×Int->Option ((σ×Int)⊕τ)}{n:Nat}(I:Nat->σ->Prop){s0:σ}{f:σ->τ}(hn:n<18000000000000000000)(h0:I 0 s0)(hs:∀(i:Nat) s,i<n->I i s->∃s',step (s,(i:Int))=some (.inl (s',(i:Int)+1))/\I (i+1) s')(he:∀s,I n s->step (s,(n:Int))=some (.inr (f s))):∃s,Zn step big (s0,0)=some (f s)/\I n s:=by
 obtain⟨r,e,s,h1,h2⟩:=ZbA (step:=step) (n:=n) (λi p=>p.2=(i:Int)/\I i p.1) (s0:=(s0,0)) (R:=λr=>∃s,r=f s/\I n s) (zy hn) ⟨rfl,h0⟩ (λi p hi hp=>by
  obtain⟨s,z⟩:=p;obtain⟨rfl,hI⟩:=hp;obtain⟨s',e,h'⟩:=hs i s hi hI;exact⟨_,e,by simp,h'⟩) (λp hp=>by
  obtain⟨s,z⟩:=p;obtain⟨rfl,hI⟩:=hp;exact⟨_,he s hI,s,rfl,hI⟩)
 exact⟨s,by rw[e,h1],h2⟩
def prs(N:Nat)(M:Nat->Nat->Bool):List (Nat×Nat):=(List.range N).flatMap λi=>((List.range N).filter λk=>decide (i<k)&&M i k).map λk=>(i,k)
theorem ZiZ{N:Nat}{M:Nat->Nat->Bool}{i k:Nat}:(i,k)∈prs N M↔i<k/\k<N/\M i k=true:=by
 simp only[prs,List.mem_flatMap,List.mem_range,List.mem_map,List.mem_filter,Bool.and_eq_true,decide_eq_true_eq,Prod.mk.injEq];constructor
 .rintro⟨i',h1,k',⟨h2,h3,h4⟩,rfl,rfl⟩;exact⟨h3,h2,h4⟩
 .rintro⟨h1,h2,h3⟩;exact⟨i,by omega,k,⟨h2,h1,h3⟩,rfl,rfl⟩
theorem Zlx{N:Nat}{M:Nat->Nat->Bool}:(prs N M).length<=N*N:=by
 have key:∀n,((List.range n).flatMap λi=>((List.range N).filter λk=>decide (i<k)&&M i k).map λk=>(i,k)).length<=n*N:=by
  intro n
  induction n with
  |zero=>simp
  |succ n ih=>
   rw[List.range_succ,List.flatMap_append,List.length_append,Nat.add_mul,Nat.one_mul];refine Nat.add_le_add ih ?_;simp only[List.flatMap_cons,List.flatMap_nil,List.append_nil,List.length_map];have:=List.length_filter_le (λk=>decide (n<k)&&M n k) (List.range N);simpa using this
 exact key N
def toA(p:Nat×Nat):A2 Int:=⟨p.1,p.2⟩
section
variable {X Y:List Int}{V H:List (List Int)}
theorem Zm9{arcs:List Zb}{n:Nat}(hn:n<=1000)(hr:InR n arcs)(hl:arcs.length<=1000000){g:zd}(h:RR n g λ_ _=>False){F:(List (List Int))×Int->Option (((List (List Int))×Int)⊕(List (List Int)))}
  (hF:∀(s:List (List Int))(i:Int),F (s,i)=if decide (i<(arcs.length:Int))=true then ck ((0:Int)<=i/\i<(arcs.length:Int)) ((ZS ⟨s⟩ (gi arcs i.toNat).From (gi arcs i.toNat).To).bind λx=>ck (ZJ (i+1)) (some (.inl (x.2.rows,i+1))))else some (.inr s)):∃s,Zn F big (g.rows,0)=some s/\RR n ⟨s⟩ (Pth arcs):=by
 have:=Zhc (step:=F) (n:=arcs.length) (λi s=>RR n ⟨s⟩ (Pth (arcs.take i))) (s0:=g.rows) (f:=id) (by omega) ?_ (λi s hi hI=>?_) (λs hI=>?_)
 .obtain⟨s,e,h⟩:=this;rw[List.take_length]at h;exact⟨s,e,h⟩
 .exact h.congr λu v _ _=>⟨λq=>q.elim,λq=>(Pth.nil q).elim⟩
 .have a:=hr _ (zh hi);obtain⟨e,r',q1,q2⟩:=Znf hI (λ_ _ _ a b=>a.trans b) (by omega) (u:=(gi arcs i).From.toNat) (v:=(gi arcs i).To.toNat) (by omega) (by omega);rw[Int.toNat_of_nonneg a.1.1,Int.toNat_of_nonneg a.2.1]at q1;rw[hF,Zo (by omega),Zf (by omega),itn,q1,obs,Zw (by omega)];refine⟨_,rfl,q2.congr λu v _ _=>?_⟩;rw[Zc9 hi];exact(Pth.snoc (e:=gi arcs i)).symm
 .rw[hF,Zq (by omega)];rfl
theorem ZqU{l:List Za}(hc:Ck l)(hl:l.length<=64)(A:AllCh l 1/\AllCh l 0):∃X Y V H s,Zdk l=some (⟨⟨X,Y,V,H⟩,Zbb l X 0 l.length,Zbb l Y 1 l.length⟩,0)/\CH l 1 X V/\CH l 0 Y H/\
  zn l=some (s,(prs (LN V H).length λi k=>!shc V H (gi (LN V H) i) (gi (LN V H) k)).map toA)/\SS X Y V H (Zbb l X 0 l.length) (Zbb l Y 1 l.length) s:=by
 obtain⟨X,Y,V,H,e1,cx,cy⟩:=ZoA hc (by omega) A;have x3:=cx.Ll;have y3:=cy.Ll;have oV:=cx.ok hc (by omega) (by omega);have oH:=cy.ok hc (by omega) (by omega);have ll:(LN V H).length<=128:=by
  unfold LN;rw[List.length_append];have a:=ZcW (b:=true) (L:=V) (n:=V.length);have b:=ZcW (b:=false) (L:=H) (n:=H.length);omega
 have gl:∀of d,(Zbb l of d l.length).length<=64:=λof d=>Nat.le_trans (Zc1 _) hl;obtain⟨r1,f1,g1⟩:=Zis (n:=V.length) (by omega);obtain⟨r2,f2,g2⟩:=Zis (n:=H.length) (by omega);obtain⟨s1,a1,b1⟩:=Zm9 (F:=zn.s0 ⟨⟨X,Y,V,H⟩,Zbb l X 0 l.length,Zbb l Y 1 l.length⟩) (by omega) (ZeO hc (by omega) cx) (by have:=gl X 0;omega) g1 (λ_ _=>rfl);obtain⟨s2,a2,b2⟩:=Zm9 (F:=zn.s1 ⟨⟨X,Y,V,H⟩,Zbb l X 0 l.length,Zbb l Y 1 l.length⟩) (by omega) (ZeO hc (by omega) cy) (by have:=gl Y 1;omega) g2 (λ_ _=>rfl);generalize hN:(LN V H).length=N at ll;have a3:Zn (zn.s2 ⟨⟨X,Y,V,H⟩,Zbb l X 0 l.length,Zbb l Y 1 l.length⟩ ((LN V H).map ZcV)) big (([]:List zM),0)=some ((LN V H).map (sd X Y V H)):=by
  refine Zaj (λi:Nat=>(((LN V H).take i).map (sd X Y V H),(i:Int))) (n:=N) (zy (by omega)) (by simp) (λi hi=>?_) ?_
  .simp only[zn.s2,List.length_map,itn];rw[Zo (by omega),Zf (by omega),ZaR (by omega),Zu9 oV oH cx.alen cy.alen (zh (by omega)),obs,Zf (by simp;omega),Zw (by omega),Zc9 (by omega)];simp
  .simp only[zn.s2,List.length_map];rw[Zq (by omega),<-hN,List.take_length]
 generalize hM:(λi k=>!shc V H (gi (LN V H) i) (gi (LN V H) k))=M;have inner:∀i,i<N->∀o:List (A2 Int),o.length<=100000->Zn (zn.s4 ⟨⟨X,Y,V,H⟩,Zbb l X 0 l.length,Zbb l Y 1 l.length⟩ ((LN V H).map ZcV) i) big (o,((i+1:Nat):Int))=some (o++(((List.range N).filter λk=>decide (i<k)&&M i k).map λk=>(i,k)).map toA):=by
  intro i hi o ho;have f0:(List.range (i+1)).filter (λk=>decide (i<k)&&M i k)=[]:=by
   rw[List.filter_eq_nil_iff];intro k hk;have:=List.mem_range.1 hk;simp;omega
  have:=Zaj (step:=zn.s4 ⟨⟨X,Y,V,H⟩,Zbb l X 0 l.length,Zbb l Y 1 l.length⟩ ((LN V H).map ZcV) i) (λn:Nat=>(o++(((List.range (i+1+n)).filter λk=>decide (i<k)&&M i k).map λk=>(i,k)).map toA,((i+1+n:Nat):Int))) (s0:=(o,((i+1:Nat):Int))) (n:=N-(i+1)) (r:=o++(((List.range N).filter λk=>decide (i<k)&&M i k).map λk=>(i,k)).map toA) (zy (by omega)) (by rw[Nat.add_zero,f0];simp) (λn hn=>?_) ?_
  .exact this
  .generalize hk:i+1+n=k;have flen:=List.length_filter_le (λk=>decide (i<k)&&M i k) (List.range k);rw[List.length_range]at flen;have me:=ZqS hc hl cx cy (gi (LN V H) i).1 (gi (LN V H) k).1 (gi (LN V H) i).2 (gi (LN V H) k).2;have me':Zb4 ⟨X,Y,V,H⟩ (ZcV (gi (LN V H) i)).Vertical (ZcV (gi (LN V H) i)).Place (ZcV (gi (LN V H) k)).Vertical (ZcV (gi (LN V H) k)).Place=some (!M i k):=by rw[<-hM,Bool.not_not];exact me
   simp only[zn.s4,List.length_map,itn];rw[Zo (by omega),Zf (by omega),ZaR (by omega),ZaR (by omega),me',obs,Bool.not_not,show i+1+(n+1)=k+1 by omega,List.range_succ,List.filter_append];by_cases c:M i k=true
   .rw[if_pos c,Zf (by simp;omega),Zw (by omega),List.filter_cons,if_pos (by rw[c];simp;omega)];simp[toA]
   .rw[if_neg c,Zw (by omega),List.filter_cons,if_neg (by simp[c])];simp
  .rw[show i+1+(N-(i+1))=N by omega];simp only[zn.s4,List.length_map];rw[Zq (by omega)]
 have a4:Zn (zn.s3 ⟨⟨X,Y,V,H⟩,Zbb l X 0 l.length,Zbb l Y 1 l.length⟩ ((LN V H).map ZcV)) big (([]:List (A2 Int)),0)=some ((prs N M).map toA):=by
  refine Zaj (λn:Nat=>(((List.range n).flatMap λi=>((List.range N).filter λk=>decide (i<k)&&M i k).map λk=>(i,k)).map toA,(n:Int))) (n:=N) (zy (by omega)) rfl (λn hn=>?_) ?_
  .have bl:(((List.range n).flatMap λi=>((List.range N).filter λk=>decide (i<k)&&M i k).map λk=>(i,k)).map toA).length<=n*N:=by
    rw[List.length_map];clear inner
    induction n with
    |zero=>simp
    |succ n ih=>
     have:=ih (by omega);rw[List.range_succ,List.flatMap_append,List.length_append,Nat.add_mul,Nat.one_mul];refine Nat.add_le_add this ?_;simp only[List.flatMap_cons,List.flatMap_nil,List.append_nil,List.length_map];have:=List.length_filter_le (λk=>decide (n<k)&&M n k) (List.range N);simpa using this
   have:n*N<=128*128:=Nat.mul_le_mul (by omega) ll;simp only[zn.s3,List.length_map];rw[Zo (by omega),Zf (by omega),Zw (by omega),show(n:Int)+1=((n+1:Nat):Int) by omega,inner n hn _ (by omega),obs,List.range_succ,List.flatMap_append,List.map_append];simp only[List.flatMap_cons,List.flatMap_nil,List.append_nil]
  .simp only[zn.s3,List.length_map];rw[Zq (by omega)];rfl
 refine⟨X,Y,V,H,⟨⟨⟨⟨X,Y,V,H⟩,Zbb l X 0 l.length,Zbb l Y 1 l.length⟩,[]⟩,⟨s1⟩,⟨s2⟩,(LN V H).map ZcV,(LN V H).map (sd X Y V H)⟩,e1,cx,cy,?_,⟨rfl,rfl,b1,b2,rfl,rfl,ZeO hc (by omega) cx,ZeO hc (by omega) cy⟩⟩;unfold zn;rw[e1,obs];dsimp only;rw[ZqN (by omega) (by omega),obs,f1,obs];dsimp only;rw[obs,f2,obs];dsimp only;rw[obs,a1,obs,a2,obs,a3,obs,a4,obs,hM,hN]
end
end Mu
/- Layer 19:settling comes to an end. -/
namespace Mu
open Go (IntKind)
inductive Der(P:List (Nat×Nat))(W:Nat->Nat->List Zi)(h0 v0:List Zb):List Zb->List Zb->Prop
 |refl:Der P W h0 v0 h0 v0
 |step {hs vs:List Zb}{i k:Nat}{w:Zi}(d:Der P W h0 v0 hs vs) (hp:(i,k)∈P) (h:∀w∈W i k,¬isP hs vs w) (e:(W i k).filter (ZcQ hs vs)=[w]):Der P W h0 v0 (fH hs w) (fV vs w)
theorem Zk1{hs:List Zb}{w:Zi}:∀a∈hs,a∈fH hs w:=λa ha=>by unfold fH;split<;>simp[ha]
theorem Zk2{vs:List Zb}{w:Zi}:∀a∈vs,a∈fV vs w:=λa ha=>by unfold fV;split<;>simp[ha]
theorem Der.base{P:List (Nat×Nat)}{W:Nat->Nat->List Zi}{h0 v0 hs vs:List Zb}(D:Der P W h0 v0 hs vs):(∀a∈h0,a∈hs)/\∀a∈v0,a∈vs:=by
 induction D with
 |refl=>exact⟨λa h=>h,λa h=>h⟩
 |step d hp h e ih=>exact⟨λa ha=>Zk1 a (ih.1 a ha),λa ha=>Zk2 a (ih.2 a ha)⟩
theorem ZmZ{hs vs hs' vs':List Zb}(h:∀a∈hs,a∈hs')(v:∀a∈vs,a∈vs'){w:Zi}(p:isP hs vs w):isP hs' vs' w:=by
 unfold isP grW at p⊢;split at p
 .rename_i c;rw[if_pos c];exact p.mono h
 .rename_i c;rw[if_neg c];exact p.mono v
theorem Zin{hs vs:List Zb}{w:Zi}:isP (fH hs w) (fV vs w) w:=by
 unfold isP grW fH fV;by_cases c:w.horizontal=true
 .rw[if_pos c,if_pos c];exact .one (a:=Zel w) (by simp)
 .rw[if_neg c,if_neg c];exact .one (a:=Zel w) (by simp)
theorem Zp7{hs vs:List Zb}{w:Zi}:(fH hs w).length+(fV vs w).length=hs.length+vs.length+1:=by
 unfold fH fV;split<;>simp<;>omega
def ptd(W:Nat->Nat->List Zi)(hs vs:List Zb)(p:Nat×Nat):Prop:=∃w∈W p.1 p.2,isP hs vs w
noncomputable def npB(W:Nat->Nat->List Zi)(hs vs:List Zb)(p:Nat×Nat):Bool:=!(W p.1 p.2).any (isF hs vs)
theorem Zda{W:Nat->Nat->List Zi}{hs vs:List Zb}{p:Nat×Nat}:npB W hs vs p=true↔¬ptd W hs vs p:=by
 simp only[npB,ptd,Bool.not_eq_true',List.any_eq_false,Zhb,not_exists,not_and]
theorem ZhE{W:Nat->Nat->List Zi}{hs vs hs' vs':List Zb}(h:∀a∈hs,a∈hs')(v:∀a∈vs,a∈vs'){p:Nat×Nat}(q:ptd W hs vs p):ptd W hs' vs' p:=by
 obtain⟨w,hw,q⟩:=q;exact⟨w,hw,ZmZ h v q⟩
def Clsd(P:List (Nat×Nat))(W:Nat->Nat->List Zi)(hs vs:List Zb):Prop:=∀p∈P,ptd W hs vs p\/((W p.1 p.2).filter (ZcQ hs vs)).length≠1
theorem Zk4{α:Type}{f:α->Bool}{L P:List α}(h:L.Sublist P)(nd:P.Nodup)(q:∀p∈P,p∉L->f p=false):P.filter f=L.filter f:=by
 induction h with
 |slnil=>rfl
 |@cons L P a h ih=>
  rw[List.nodup_cons]at nd;have ha:f a=false:=q a (by simp) λhm=>nd.1 (h.subset hm);rw[List.filter_cons,if_neg (by simp[ha])];exact ih nd.2 λp hp hl=>q p (by simp[hp]) hl
 | @cons_cons L P a h ih=>
  rw[List.nodup_cons]at nd;have:=ih nd.2 λp hp hl=>q p (by simp[hp]) λhm=>by
   rcases List.mem_cons.1 hm with rfl|hm
   .exact nd.1 hp
   .exact hl hm
  rw[List.filter_cons,List.filter_cons,this]
theorem Zrk{N:Nat}{M:Nat->Nat->Bool}:(prs N M).Nodup:=by
 unfold prs List.Nodup;rw[List.pairwise_flatMap];refine⟨λi _=>List.pairwise_map.2 ((List.Pairwise.filter _ List.nodup_range).imp λh e=>h (by simpa using e)),(List.nodup_range (n:=N)).imp λ{i j} h=>?_⟩;intro x hx y hy e;obtain⟨k,_,rfl⟩:=List.mem_map.1 hx;obtain⟨k',_,rfl⟩:=List.mem_map.1 hy;exact h (congrArg Prod.fst e)

abbrev SeT:=(List Int)×(List Int)×(List (List Int))×(List (List Int))×(List Zb)×(List Zb)×(List (A2 Zz))×(List (List Int))×(List (List Int))×(List Zz)×(List zM)×Bool×(List (A2 Int))×Int
def tS(s:ZO)(c:Bool)(o:List (A2 Int))(x:Int):SeT:=(s.result.Graphs.Chains.X,s.result.Graphs.Chains.Y,s.result.Graphs.Chains.Vert,s.result.Graphs.Chains.Horz,s.result.Graphs.H,s.result.Graphs.V,s.result.Open,s.h.rows,s.v.rows,s.lines,s.sides,c,o,x)
section
variable {X Y:List Int}{V H:List (List Int)}{l:List Za}{h0 v0:List Zb}{P:List (Nat×Nat)}
structure ScI(X Y:List Int)(V H:List (List Int))(P:List (Nat×Nat))(h0 v0:List Zb)(C0:Nat)(O:List (Nat×Nat))(h1 v1:List Zb)(j:Nat)(s:ZO)(c:Bool)(L:List (Nat×Nat))(hs vs:List Zb):Prop where
 ss:SS X Y V H hs vs s
 der:Der P (wyN X Y V H) h0 v0 hs vs
 sub:L.Sublist (O.take j)
 pd:∀p∈O.take j,p∉L->ptd (wyN X Y V H) hs vs p
 hm:∀a∈h1,a∈hs
 vm:∀a∈v1,a∈vs
 len:hs.length+vs.length+L.length+(O.length-j)<=C0
 f:c=false->hs=h1/\vs=v1/\L=(O.take j).filter (npB (wyN X Y V H) h1 v1)/\∀p∈L,((wyN X Y V H p.1 p.2).filter (ZcQ h1 v1)).length≠1
 t:c=true->L.length<j
theorem ZoK(hc:Ck l)(cx:CH l 1 X V)(cy:CH l 0 Y H)(hV:V.length<=1000)(hH:H.length<=1000){C0:Nat}(hC:C0<=10000000){O:List (Nat×Nat)}(hO:O.Sublist P)(hP:∀p∈P,p.1<(LN V H).length/\p.2<(LN V H).length){h1 v1:List Zb}{s1:ZO}(S1:SS X Y V H h1 v1 s1)(D1:Der P (wyN X Y V H) h0 v0 h1 v1)(hlen:h1.length+v1.length+O.length<=C0) :
  ∃s c L hs vs,Zn (ze.s1 (O.map toA)) big (tS s1 false [] 0)=some ((s.result.Graphs.Chains.X,s.result.Graphs.Chains.Y,s.result.Graphs.Chains.Vert,s.result.Graphs.Chains.Horz,s.result.Graphs.H,s.result.Graphs.V,s.result.Open,s.h.rows,s.v.rows,s.lines,s.sides,c,L.map toA))/\ScI X Y V H P h0 v0 C0 O h1 v1 O.length s c L hs vs:=by
 have key:=ZbA (step:=ze.s1 (O.map toA)) (n:=O.length) (λj p=>∃s c L hs vs,p=tS s c (L.map toA) j/\ScI X Y V H P h0 v0 C0 O h1 v1 j s c L hs vs) (s0:=tS s1 false [] 0)
  (R:=λr=>∃s c L hs vs,r=(s.result.Graphs.Chains.X,s.result.Graphs.Chains.Y,s.result.Graphs.Chains.Vert,s.result.Graphs.Chains.Horz,s.result.Graphs.H,s.result.Graphs.V,s.result.Open,s.h.rows,s.v.rows,s.lines,s.sides,c,L.map toA)/\ScI X Y V H P h0 v0 C0 O h1 v1 O.length s c L hs vs) (zy (by omega)) ?_ ?_ ?_
 .obtain⟨r,e,s,c,L,hs,vs,rfl,h⟩:=key;exact⟨s,c,L,hs,vs,e,h⟩
 .exact⟨s1,false,[],h1,v1,rfl,S1,D1,by simp,by simp,λa h=>h,λa h=>h,by simpa using hlen,λ_=>⟨rfl,rfl,by simp,by simp⟩,λh=>by cases h⟩
 .rintro j _ hj ⟨s,c,L,hs,vs,rfl,I⟩;have hm:=hO.subset (zh hj);obtain⟨b1,b2⟩:=hP _ hm;have ilen:=I.len;obtain⟨p,f,s',hs',vs',e,S',lk⟩:=ZsX hc cx cy I.ss hV hH (by omega) (by omega) b1 b2;have tk:=Zc9 hj;have ga:gi (O.map toA) j=toA (gi O j):=ZaR hj;have sl:=I.sub.length_le;rw[List.length_take]at sl;have st:∀(L':List (Nat×Nat)),ze.s1 (O.map toA) (tS s c (L.map toA) j)=(if(!p)=true then ck ((L.map toA).length+[gi (O.map toA) (j:Int).toNat].length<=1000000000) (ck (ZJ ((j:Int)+1)) (some (.inl (tS s' (c||f) (L.map toA++[gi (O.map toA) (j:Int).toNat]) ((j:Int)+1)))))else ck (ZJ ((j:Int)+1)) (some (.inl (tS s' (c||f) (L.map toA) ((j:Int)+1))))):=by
   intro _;unfold ze.s1 tS;dsimp only;rw[Zo (show(j:Int)<((O.map toA).length:Int) by simp;omega),Zf (by simp;omega)];have:ZaE s ((gi (O.map toA) (j:Int).toNat).get 0) ((gi (O.map toA) (j:Int).toNat).get 1)=some (p,f,s'):=by
    rw[itn,ga];exact e
   change((ZaE s ((gi (O.map toA) (j:Int).toNat).get 0) ((gi (O.map toA) (j:Int).toNat).get 1)).bind _=_);rw[this,obs]
  rw[st L,itn,ga]
  cases lk with
  | @is w hw q=>
   rw[if_neg (by decide),Zw (by omega)];refine⟨_,rfl,s',c||false,L,hs,vs,rfl,S',I.der,?_,λp hp hl=>?_,I.hm,I.vm,by omega,λhc'=>?_,λhc'=>?_⟩
   .rw[tk];exact I.sub.trans (List.sublist_append_left _ _)
   .rw[tk]at hp;rcases List.mem_append.1 hp with hp|hp
    .exact I.pd p hp hl
    .have:p=gi O j:=by simpa using hp
     subst this;exact⟨w,hw,q⟩
   .rw[Bool.or_false]at hc';obtain⟨rfl,rfl,f3,f4⟩:=I.f hc';refine⟨rfl,rfl,?_,f4⟩;rw[tk,List.filter_append,<-f3];have:npB (wyN X Y V H) hs vs (gi O j)=false:=by
     rw[<-Bool.not_eq_true,Zda,Classical.not_not];exact⟨w,hw,q⟩
    simp[this]
   .rw[Bool.or_false]at hc';have:=I.t hc';omega
  | no q n=>
   rw[if_pos (by decide),Zf (by simp;omega),Zw (by omega)];refine⟨_,rfl,s',c||false,L++[gi O j],hs,vs,by simp,S',I.der,?_,λp hp hl=>?_,I.hm,I.vm,by rw[List.length_append];simp;omega,λhc'=>?_,λhc'=>?_⟩
   .rw[tk];exact I.sub.append (List.Sublist.refl _)
   .rw[tk]at hp;rcases List.mem_append.1 hp with hp|hp
    .exact I.pd p hp λh=>hl (by simp[h])
    .exact absurd (by simpa using .inr (by simpa using hp)) hl
   .rw[Bool.or_false]at hc';obtain⟨rfl,rfl,f3,f4⟩:=I.f hc';refine⟨rfl,rfl,?_,λp hp=>?_⟩
    .rw[tk,List.filter_append,<-f3];have:npB (wyN X Y V H) hs vs (gi O j)=true:=by
      rw[Zda];rintro⟨w,hw,h⟩;exact q w hw h
     simp[this]
    .rcases List.mem_append.1 hp with hp|hp
     .exact f4 p hp
     .have:p=gi O j:=by simpa using hp
      subst this;exact n
   .rw[Bool.or_false]at hc';have:=I.t hc';rw[List.length_append];simp;omega
  | @force w q e1=>
   rw[if_neg (by decide),Zw (by omega)];have fl:=Zp7 (hs:=hs) (vs:=vs) (w:=w);have hw:w∈wyN X Y V H (gi O j).1 (gi O j).2:=(List.mem_filter.1 (e1▸List.mem_singleton.2 rfl:w∈(wyN X Y V H (gi O j).1 (gi O j).2).filter (ZcQ hs vs))).1;refine⟨_,rfl,s',c||true,L,_,_,rfl,S',.step I.der hm q e1,?_,λp hp hl=>?_,λa ha=>Zk1 a (I.hm a ha),λa ha=>Zk2 a (I.vm a ha),by omega,λhc'=>by simp at hc',λhc'=>by omega⟩
   .rw[tk];exact I.sub.trans (List.sublist_append_left _ _)
   .rw[tk]at hp;rcases List.mem_append.1 hp with hp|hp
    .exact ZhE Zk1 Zk2 (I.pd p hp hl)
    .have:p=gi O j:=by simpa using hp
     subst this;exact⟨w,hw,Zin⟩
 .rintro _ ⟨s,c,L,hs,vs,rfl,I⟩;refine⟨_,?_,s,c,L,hs,vs,rfl,I⟩;unfold ze.s1 tS;dsimp only;rw[Zq (show¬(O.length:Int)<((O.map toA).length:Int) by simp)]
theorem ZoL(hc:Ck l)(cx:CH l 1 X V)(cy:CH l 0 Y H)(hV:V.length<=1000)(hH:H.length<=1000)(hP:∀p∈P,p.1<(LN V H).length/\p.2<(LN V H).length)(nd:P.Nodup){s0:ZO}(S0:SS X Y V H h0 v0 s0)(hlen:h0.length+v0.length+P.length<=10000000) :
  ∃s hs vs,Zn ze.s0 big (s0.result.Graphs.Chains.X,s0.result.Graphs.Chains.Y,s0.result.Graphs.Chains.Vert,s0.result.Graphs.Chains.Horz,s0.result.Graphs.H,s0.result.Graphs.V,s0.result.Open,s0.h.rows,s0.v.rows,s0.lines,s0.sides,P.map toA,true)=some (s.result.Graphs.Chains.X,s.result.Graphs.Chains.Y,s.result.Graphs.Chains.Vert,s.result.Graphs.Chains.Horz,s.result.Graphs.H,s.result.Graphs.V,s.result.Open,s.h.rows,s.v.rows,s.lines,s.sides,(P.filter (npB (wyN X Y V H) hs vs)).map toA)/\
   SS X Y V H hs vs s/\Der P (wyN X Y V H) h0 v0 hs vs/\Clsd P (wyN X Y V H) hs vs/\hs.length+vs.length<=h0.length+v0.length+P.length:=by
 have key:=Za1 (step:=ze.s0) (s0:=(s0.result.Graphs.Chains.X,s0.result.Graphs.Chains.Y,s0.result.Graphs.Chains.Vert,s0.result.Graphs.Chains.Horz,s0.result.Graphs.H,s0.result.Graphs.V,s0.result.Open,s0.h.rows,s0.v.rows,s0.lines,s0.sides,P.map toA,true))
  (λx=>2*x.2.2.2.2.2.2.2.2.2.2.2.1.length+if x.2.2.2.2.2.2.2.2.2.2.2.2=true then 1 else 0)
  (λx=>∃(s:ZO)(hs vs:List Zb)(O:List (Nat×Nat))(c:Bool),x=(s.result.Graphs.Chains.X,s.result.Graphs.Chains.Y,s.result.Graphs.Chains.Vert,s.result.Graphs.Chains.Horz,s.result.Graphs.H,s.result.Graphs.V,s.result.Open,s.h.rows,s.v.rows,s.lines,s.sides,O.map toA,c)/\SS X Y V H hs vs s/\Der P (wyN X Y V H) h0 v0 hs vs/\O.Sublist P/\(∀p∈P,p∉O->ptd (wyN X Y V H) hs vs p)/\hs.length+vs.length+O.length<=h0.length+v0.length+P.length/\(c=false->O=O.filter (npB (wyN X Y V H) hs vs)/\∀p∈O,((wyN X Y V H p.1 p.2).filter (ZcQ hs vs)).length≠1))
  (R:=λr=>∃(s:ZO)(hs vs:List Zb),r=(s.result.Graphs.Chains.X,s.result.Graphs.Chains.Y,s.result.Graphs.Chains.Vert,s.result.Graphs.Chains.Horz,s.result.Graphs.H,s.result.Graphs.V,s.result.Open,s.h.rows,s.v.rows,s.lines,s.sides,(P.filter (npB (wyN X Y V H) hs vs)).map toA)/\SS X Y V H hs vs s/\Der P (wyN X Y V H) h0 v0 hs vs/\Clsd P (wyN X Y V H) hs vs/\hs.length+vs.length<=h0.length+v0.length+P.length)
  ?_ ?_ ?_
 .obtain⟨r,e,s,hs,vs,rfl,h⟩:=key;exact⟨s,hs,vs,e,h⟩
 .have:2*P.length+1<big:=by unfold big;omega
  simpa using this
 .exact⟨s0,h0,v0,P,true,rfl,S0,.refl,List.Sublist.refl _,λp hp hl=>absurd hp hl,Nat.le_refl _,λh=>by cases h⟩
 .rintro _ ⟨s,hs,vs,O,c,rfl,S,D,sub,pd,len,fin⟩
  cases c with
  | true=>
   left;obtain⟨s',c',L,hs',vs',e,I⟩:=ZoK hc cx cy hV hH (C0:=h0.length+v0.length+P.length) (by omega) sub hP S D len;have e':ze.s0 (s.result.Graphs.Chains.X,s.result.Graphs.Chains.Y,s.result.Graphs.Chains.Vert,s.result.Graphs.Chains.Horz,s.result.Graphs.H,s.result.Graphs.V,s.result.Open,s.h.rows,s.v.rows,s.lines,s.sides,O.map toA,true)=some (.inl (s'.result.Graphs.Chains.X,s'.result.Graphs.Chains.Y,s'.result.Graphs.Chains.Vert,s'.result.Graphs.Chains.Horz,s'.result.Graphs.H,s'.result.Graphs.V,s'.result.Open,s'.h.rows,s'.v.rows,s'.lines,s'.sides,L.map toA,c')):=by
    unfold ze.s0;unfold tS at e;dsimp only;rw[if_pos rfl,e,obs]
   have tl:=List.take_length (l:=O);have isub:=I.sub;have ipd:=I.pd;have it:=I.t;have ifn:=I.f;rw[tl]at isub ipd ifn;have il:=I.len;have sl:=isub.length_le;refine⟨_,e',⟨s',hs',vs',L,c',rfl,I.ss,I.der,isub.trans sub,λp hp hl=>?_,by omega,λh=>?_⟩,?_⟩
   .by_cases hO:p∈O
    .exact ipd p hO hl
    .exact ZhE I.hm I.vm (pd p hp hO)
   .obtain⟨rfl,rfl,f3,f4⟩:=ifn h;refine⟨?_,f4⟩;rw[f3,List.filter_filter];congr 1;funext x;simp
   .dsimp only;rw[List.length_map,List.length_map,if_pos rfl]
    cases c' with
    |true=>have:=it rfl;rw[if_pos rfl];omega
    |false=>rw[if_neg (by decide)];omega
  | false=>
   right;obtain⟨f1,f2⟩:=fin rfl;refine⟨(s.result.Graphs.Chains.X,s.result.Graphs.Chains.Y,s.result.Graphs.Chains.Vert,s.result.Graphs.Chains.Horz,s.result.Graphs.H,s.result.Graphs.V,s.result.Open,s.h.rows,s.v.rows,s.lines,s.sides,O.map toA),rfl,s,hs,vs,?_,S,D,λp hp=>?_,by omega⟩
   .rw[Zk4 sub nd λp hp hl=>?_,<-f1];rw[<-Bool.not_eq_true,Zda,Classical.not_not];exact pd p hp hl
   .by_cases hO:p∈O
    .exact .inr (f2 p hO)
    .exact .inl (pd p hp hO)
def PR(V H:List (List Int)):List (Nat×Nat):=prs (LN V H).length λi k=>!shc V H (gi (LN V H) i) (gi (LN V H) k)
def opL(V H:List (List Int))(p:Nat×Nat):A2 Zz:=⟨ZcV (gi (LN V H) p.1),ZcV (gi (LN V H) p.2)⟩
theorem ZoM(hc:Ck l)(hl:l.length<=64)(hv:Zc2 l=0)(A:AllCh l 1/\AllCh l 0):∃X Y V H hs vs,Zdk l=some (⟨⟨X,Y,V,H⟩,Zbb l X 0 l.length,Zbb l Y 1 l.length⟩,0)/\CH l 1 X V/\CH l 0 Y H/\
  ze l=some (⟨⟨⟨X,Y,V,H⟩,hs,vs⟩,((PR V H).filter (npB (wyN X Y V H) hs vs)).map (opL V H)⟩,0)/\Der (PR V H) (wyN X Y V H) (Zbb l X 0 l.length) (Zbb l Y 1 l.length) hs vs/\Clsd (PR V H) (wyN X Y V H) hs vs/\
  hs.length+vs.length<=2*l.length+(PR V H).length/\(PR V H).length<=(2*l.length)*(2*l.length)/\InR V.length hs/\InR H.length vs:=by
 obtain⟨X,Y,V,H,s,e1,cx,cy,e2,S⟩:=ZqU hc hl A;have x3:=cx.Ll;have y3:=cy.Ll;have ll:(LN V H).length<=2*l.length:=by
  unfold LN;rw[List.length_append];have a:=ZcW (b:=true) (L:=V) (n:=V.length);have b:=ZcW (b:=false) (L:=H) (n:=H.length);omega
 have pl:(PR V H).length<=(2*l.length)*(2*l.length):=Nat.le_trans Zlx (Nat.mul_le_mul ll ll);have pl2:(2*l.length)*(2*l.length)<=128*128:=Nat.mul_le_mul (by omega) (by omega);have g0:=Zc1 (l:=l) (of:=X) (d:=0) l.length;have g1:=Zc1 (l:=l) (of:=Y) (d:=1) l.length;have hP:∀p∈PR V H,p.1<(LN V H).length/\p.2<(LN V H).length:=λp hp=>by
  obtain⟨i,k⟩:=p;have:=ZiZ.1 hp;exact⟨by dsimp only;omega,by dsimp only;omega⟩
 obtain⟨s',hs,vs,e3,S',D,C,len⟩:=ZoL hc cx cy (by omega) (by omega) hP Zrk S (by omega);refine⟨X,Y,V,H,hs,vs,e1,cx,cy,?_,D,C,by omega,pl,S'.ih,S'.iv⟩;have e4:Zn (ze.s2 ((LN V H).map ZcV) (((PR V H).filter (npB (wyN X Y V H) hs vs)).map toA)) big (([]:List (A2 Zz)),0)=some (((PR V H).filter (npB (wyN X Y V H) hs vs)).map (opL V H)):=by
  generalize hF:(PR V H).filter (npB (wyN X Y V H) hs vs)=F;have fl:F.length<=128*128:=by rw[<-hF];have:=List.length_filter_le (npB (wyN X Y V H) hs vs) (PR V H);omega
  have fm:∀j,j<F.length->(gi F j).1<(LN V H).length/\(gi F j).2<(LN V H).length:=λj hj=>hP _ (by
   have:=zh hj;rw[<-hF]at this⊢;exact(List.mem_filter.1 this).1)
  refine Zaj (λj:Nat=>((F.take j).map (opL V H),(j:Int))) (n:=F.length) (zy (by omega)) rfl (λj hj=>?_) ?_
  .obtain⟨m1,m2⟩:=fm j hj;have g:gi (F.map toA) j=toA (gi F j):=ZaR hj;have t0:(toA (gi F j)).get 0=((gi F j).1:Int):=rfl;have t1:(toA (gi F j)).get 1=((gi F j).2:Int):=rfl;simp only[ze.s2,List.length_map,itn];rw[Zo (by omega),Zf (by omega),g,t0,t1,Zf (by omega),Zf (by omega),Zf (by simp;omega),Zw (by omega),itn,itn,ZaR m1,ZaR m2,Zc9 hj,List.map_append];rfl
  .simp only[ze.s2,List.length_map];rw[Zq (by omega),List.take_length]
 unfold ze;rw[Zlp (by omega),obs,Zb2 hv,e2,obs];dsimp only;change(Zn ze.s0 big (_,_,_,_,_,_,_,_,_,_,_,(PR V H).map toA,true)).bind _=_;rw[e3,obs];dsimp only;rw[S'.op,S'.li,e4,obs,S'.g]
end
end Mu
/- Cells on a plane:their lines do not cross. -/
namespace Mu
end Mu
/- Layer 19:the numbers of each drawing fit what is forced. -/
namespace Mu
open Go (IntKind)
theorem CH.one_ch{l:List Za}(hc:Ck l){d:Nat}(hd:d<4){a a':List Int}{L L':List (List Int)}(h:CH l d a L)(h':CH l d a' L'):a=a'/\L=L':=by
 have:=h.eq h' rfl id (λC C' v c c' m m'=>(c.uniq hc hd c' m m').symm) (λC v=>Iff.rfl);exact⟨this.1,by rw[this.2];simp⟩
section
variable {l:List Za}{X Y:List Int}{V H:List (List Int)}{p:List Zk}{x y:List Int}
theorem ZiI(hc:Ck l){d:Nat}(hd:d<2){C:List Int}(h:IsCh l d C){f:Nat->Int}(hf:∀v,v<l.length->0<=nx l v d->f v=f (nx l v d).toNat):∀i,i<C.length->f (gi C i).toNat=f (gi C 0).toNat
 |0,_=>rfl
 |i+1,hi=>by
  have lt:=h.lt i (by omega);have l1:=h.lt (i+1) hi;have n:=h.nxt i hi;have:=hf (gi C i).toNat (by omega) (by omega);rw[n]at this;rw[<-this];exact ZiI hc hd h hf i (by omega)
theorem CH.alike(hc:Ck l){d:Nat}(hd:d<2){a:List Int}{L:List (List Int)}(h:CH l d a L){f:Nat->Int}(hf:∀v,v<l.length->0<=nx l v d->f v=f (nx l v d).toNat){u v:Nat}(hu:u<l.length)(hv:v<l.length)(e:gi a u=gi a v):f u=f v:=by
 obtain⟨i,h1,h2,h3⟩:=h.mem u hu;obtain⟨j,j1,j2,j3⟩:=h.mem v hv;have:i=j:=by omega
 subst this;obtain⟨x,x1,x2⟩:=List.mem_iff_getElem.1 h3;obtain⟨y,y1,y2⟩:=List.mem_iff_getElem.1 j3;have ex:=ZiI hc hd (h.ch i h1) hf x x1;have ey:=ZiI hc hd (h.ch i h1) hf y y1;rw[zO x1,x2,itn]at ex;rw[zO y1,y2,itn]at ey;rw[ex,ey]
theorem okX(h:∀v,v<l.length->okE l p v 0/\okE l p v 1):∀v,v<l.length->0<=nx l v 1->(gi p v).X=(gi p (nx l v 1).toNat).X:=λv hv h0=>by
 rcases(h v hv).2 with q|q
 .omega
 .unfold ZgU at q;rw[if_neg (by omega)]at q;exact q.1
theorem okY(h:∀v,v<l.length->okE l p v 0/\okE l p v 1):∀v,v<l.length->0<=nx l v 0->(gi p v).Y=(gi p (nx l v 0).toNat).Y:=λv hv h0=>by
 rcases(h v hv).1 with q|q
 .omega
 .unfold ZgU at q;rw[if_pos rfl]at q;exact q.1
structure Num(l:List Za)(X Y:List Int)(p:List Zk)(x y:List Int):Prop where
 hx:∀v,v<l.length->gi x (gi X v).toNat=(gi p v).X
 hy:∀v,v<l.length->gi y (gi Y v).toNat=(gi p v).Y
def ZhU(x:List Int)(A:List Zb):Prop:=∀a∈A,gi x a.From.toNat<gi x a.To.toNat
theorem Num.own(hc:Ck l)(N:Num l X Y p x y)(h:∀v,v<l.length->okE l p v 0/\okE l p v 1):ZhU x (Zbb l X 0 l.length)/\ZhU y (Zbb l Y 1 l.length):=by
 constructor
 .intro a ha;obtain⟨v,h1,h2,rfl⟩:=(Zdt _).1 ha;have w:=(hc.back h1 (d:=0) (by omega) (w:=(nx l v 0).toNat) (by omega)).1;dsimp only;rw[N.hx v h1,N.hx _ w];rcases(h v h1).1 with q|q
  .omega
  .unfold ZgU at q;rw[if_pos rfl]at q;exact q.2
 .intro a ha;obtain⟨v,h1,h2,rfl⟩:=(Zdt _).1 ha;have w:=(hc.back h1 (d:=1) (by omega) (w:=(nx l v 1).toNat) (by omega)).1;dsimp only;rw[N.hy v h1,N.hy _ w];rcases(h v h1).2 with q|q
  .omega
  .unfold ZgU at q;rw[if_neg (by omega)]at q;exact q.2
theorem Num.sides(hc:Ck l)(cx:CH l 1 X V)(cy:CH l 0 Y H)(N:Num l X Y p x y){a:Bool×Nat}(ha:a∈LN V H):gi x (sd X Y V H a).left.toNat=(Zht V H p a).X/\gi x (sd X Y V H a).right.toNat=(Zhu V H p a).X/\gi y (sd X Y V H a).bottom.toNat=(Zht V H p a).Y/\gi y (sd X Y V H a).top.toNat=(Zhu V H p a).Y:=by
 have hm:=ZiW ha;obtain⟨b,i⟩:=a
 cases b with
 |true=>
  simp only[if_true]at hm;have C:=cx.ch i hm;have ne:=C.ne;have l0:=C.lt 0 ne;have l1:=C.lt ((gi V i).length-1) (by omega);have m0:=cx.one i (gi (gi V i) 0).toNat hm (by omega) (by rw[Int.toNat_of_nonneg l0.1];exact zh ne);have m1:=cx.one i (gi (gi V i) ((gi V i).length-1)).toNat hm (by omega) (by rw[Int.toNat_of_nonneg l1.1];exact zh (by omega));have a0:=N.hx (gi (gi V i) 0).toNat (by omega);have a1:=N.hx (gi (gi V i) ((gi V i).length-1)).toNat (by omega);have b0:=N.hy (gi (gi V i) 0).toNat (by omega);have b1:=N.hy (gi (gi V i) ((gi V i).length-1)).toNat (by omega);rw[m0]at a0;rw[m1]at a1;simp only[sd,Zht,Zhu,if_true];exact⟨a0,a1,b0,b1⟩
 |false=>
  simp only[Bool.false_eq_true,if_false]at hm;have C:=cy.ch i hm;have ne:=C.ne;have l0:=C.lt 0 ne;have l1:=C.lt ((gi H i).length-1) (by omega);have m0:=cy.one i (gi (gi H i) 0).toNat hm (by omega) (by rw[Int.toNat_of_nonneg l0.1];exact zh ne);have m1:=cy.one i (gi (gi H i) ((gi H i).length-1)).toNat hm (by omega) (by rw[Int.toNat_of_nonneg l1.1];exact zh (by omega));have a0:=N.hx (gi (gi H i) 0).toNat (by omega);have a1:=N.hx (gi (gi H i) ((gi H i).length-1)).toNat (by omega);have b0:=N.hy (gi (gi H i) 0).toNat (by omega);have b1:=N.hy (gi (gi H i) ((gi H i).length-1)).toNat (by omega);rw[m0]at b0;rw[m1]at b1;simp only[sd,Zht,Zhu,Bool.false_eq_true,if_false];exact⟨a0,a1,b0,b1⟩
def Zgx(x y:List Int)(w:Zi):Prop:=if w.horizontal=true then gi x w.from_.toNat<gi x w.to.toNat else gi y w.from_.toNat<gi y w.to.toNat
theorem ZjL{hs vs:List Zb}{x y:List Int}(fx:ZhU x hs)(fy:ZhU y vs){w:Zi}(h:Zgx x y w):ZlJ hs vs w:=by
 unfold Zgx at h;unfold ZlJ grW;refine⟨λe=>?_,λt=>?_⟩
 .rw[e]at h;split at h<;>omega
 .split at h
  .rename_i c;rw[if_pos c]at t;have:=t.up fx;omega
  .rename_i c;rw[if_neg c]at t;have:=t.up fy;omega
theorem Zif(hc:Ck l)(cx:CH l 1 X V)(cy:CH l 0 Y H)(N:Num l X Y p x y)(nc:¬Crs V H p){i k:Nat}(hp:(i,k)∈PR V H):∃w∈wyN X Y V H i k,Zgx x y w:=by
 obtain⟨h1,h2,h3⟩:=ZiZ.1 hp;have hi:=zh (l:=LN V H) (i:=i) (by omega);have hk:=zh (l:=LN V H) (i:=k) (by omega);have ne:gi (LN V H) i≠gi (LN V H) k:=λe=>by
  have nd:=List.pairwise_iff_getElem.1 (ZrT (V:=V) (H:=H)) i k (by omega) h2 h1;rw[zO (by omega),zO h2]at e;exact nd e
 have ap:Zhn (Zht V H p (gi (LN V H) i)) (Zhu V H p (gi (LN V H) i)) (Zht V H p (gi (LN V H) k)) (Zhu V H p (gi (LN V H) k))=true:=by
  by_cases c:Zhn (Zht V H p (gi (LN V H) i)) (Zhu V H p (gi (LN V H) i)) (Zht V H p (gi (LN V H) k)) (Zhu V H p (gi (LN V H) k))=true
  .exact c
  .exact absurd ⟨_,_,hi,hk,ne,by simpa using c,by simpa using h3⟩ nc
 obtain⟨s1,s2,s3,s4⟩:=N.sides hc cx cy hi;obtain⟨t1,t2,t3,t4⟩:=N.sides hc cx cy hk;unfold Zhn at ap;simp only[Bool.or_eq_true,decide_eq_true_eq]at ap;unfold wyN wy;rcases ap with((q|q)|q)|q
 .exact⟨_,by simp,show Zgx x y ⟨true,(sd X Y V H (gi (LN V H) i)).right,(sd X Y V H (gi (LN V H) k)).left⟩ by simp only[Zgx,if_true];omega⟩
 .exact⟨⟨true,(sd X Y V H (gi (LN V H) k)).right,(sd X Y V H (gi (LN V H) i)).left⟩,by simp,by simp only[Zgx,if_true];omega⟩
 .exact⟨⟨false,(sd X Y V H (gi (LN V H) i)).top,(sd X Y V H (gi (LN V H) k)).bottom⟩,by simp,by simp only[Zgx,Bool.false_eq_true,if_false];omega⟩
 .exact⟨⟨false,(sd X Y V H (gi (LN V H) k)).top,(sd X Y V H (gi (LN V H) i)).bottom⟩,by simp,by simp only[Zgx,Bool.false_eq_true,if_false];omega⟩
theorem Der.fit(hc:Ck l)(cx:CH l 1 X V)(cy:CH l 0 Y H)(N:Num l X Y p x y)(nc:¬Crs V H p){h0 v0 hs vs:List Zb}(D:Der (PR V H) (wyN X Y V H) h0 v0 hs vs)(f0:ZhU x h0/\ZhU y v0):ZhU x hs/\ZhU y vs:=by
 induction D with
 |refl=>exact f0
 | @step hs vs i k w D hp h e ih=>
  obtain⟨fx,fy⟩:=ih;obtain⟨w',hw',g⟩:=Zif hc cx cy N nc hp;have:w'∈(wyN X Y V H i k).filter (ZcQ hs vs):=List.mem_filter.2 ⟨hw',ZdC.2 (ZjL fx fy g)⟩;rw[e]at this;have:w'=w:=by simpa using this
  subst this;unfold Zgx at g;by_cases c:w'.horizontal=true
  .rw[if_pos c]at g;unfold fH fV;rw[if_pos c,if_pos c];refine⟨λa ha=>?_,fy⟩;rcases List.mem_append.1 ha with q|q
   .exact fx a q
   .have:a=Zel w':=by simpa using q
    subst this;exact g
  .rw[if_neg c]at g;unfold fH fV;rw[if_neg c,if_neg c];refine⟨fx,λa ha=>?_⟩;rcases List.mem_append.1 ha with q|q
   .exact fy a q
   .have:a=Zel w':=by simpa using q
    subst this;exact g
theorem ZlH(hv:Zc2 l=0):AllCh l 1/\AllCh l 0:=by
 obtain⟨h1,h2,h3⟩:=ZdI.1 hv;have hc:=(Zcf.1 h1).2;by_cases c:l.length=1
 .have one:∀d,d<2->AllCh l d:=λd hd=>by
   refine Zdz hc (by omega) (φ:=λ_=>0) (λx=>Nat.zero_le _) λp hp hd'=>?_;exfalso;rcases hc.s p.1 p.2 hp.1 hp.2.1 with⟨a,_⟩|⟨w,a,b,c,_⟩
   .have:=hp.2.2;omega
   .have:=hp.1;omega
  exact⟨one 1 (by omega),one 0 (by omega)⟩
 .have V:=h3 c;obtain⟨φ,p1,p2,_⟩:=pot hc V (Zhq hc h2) (d0:=1) (by omega);obtain⟨ψ,q1,q2,_⟩:=pot hc V (Zhq hc h2) (d0:=0) (by omega);exact⟨Zdz hc (by omega) p1 p2,Zdz hc (by omega) q1 q2⟩
end
end Mu
/- Layer 19:wakes. -/
namespace Mu
theorem ZlS:ZbP=some true:=by decide+kernel
end Mu
/- Layer 21:RectMakes. -/
namespace Mu
structure Dr(l r:List Za):Prop where
 ck:Ck r
 len:r.length<=1000
 le:l.length<=r.length
 c1:AllCh r 1
 c0:AllCh r 0
 g0:∀X V,CH r 1 X V->∃ψ,Rk V.length (Zbb r X 0 r.length) ψ
 g1:∀Y H,CH r 0 Y H->∃ψ,Rk H.length (Zbb r Y 1 r.length) ψ
 nc:∀p,(∀v,v<r.length->okE r p v 0/\okE r p v 1)->(∀A B V H,CH r 1 A V->CH r 0 B H->¬Crs V H p)/\∀q,(∀v,v<l.length->gi q v=gi p v)->(∀v,v<l.length->okE l q v 0/\okE l q v 1)/\∀A B V H,CH l 1 A V->CH l 0 B H->¬Crs V H q
theorem Dr.one{l r:List Za}(hr:Ck r)(hl:Ck l)(h1:r.length=1)(h2:l.length=1):Dr l r:=by
 have no:∀{l:List Za},Ck l->l.length=1->∀p,¬isD l p:=by
  intro l hc h1 p hp;rcases hc.s p.1 p.2 hp.1 hp.2.1 with⟨a,_⟩|⟨w,a,b,c,_⟩
  .have:=hp.2.2;omega
  .have:=hp.1;omega
 have n0:∀v d,v<l.length->d<4->nx l v d<0:=λv d hv hd=>Classical.byContradiction λc=>no hl h2 (v,d) ⟨hv,hd,by dsimp only;omega⟩;have nc:∀{l:List Za}{A B:List Int}{V H:List (List Int)}{p:List Zk},Ck l->l.length=1->CH l 1 A V->CH l 0 B H->¬Crs V H p:=by
  rintro l A B V H p hc h1 cx cy ⟨a,b,ha,_⟩;obtain⟨a1,a2⟩:=ZiX.1 ha;obtain⟨u,i⟩:=a
  cases u with
  |true=>have:=(cx.ch i a1).len hc (by omega);dsimp only at a2;rw[if_pos rfl]at a2;omega
  |false=>have:=(cy.ch i a1).len hc (by omega);dsimp only at a2;rw[if_neg (by decide)]at a2;omega
 have no:=no hr h1;refine⟨hr,by omega,by omega,Zdz hr (by omega) (φ:=λ_=>0) (by simp) (λp hp=>absurd hp (no p)),Zdz hr (by omega) (φ:=λ_=>0) (by simp) (λp hp=>absurd hp (no p)),
  λX V c=>Zgd hr (by omega) (by omega) (by omega) (.inl rfl) (φ:=λ_=>0) (λp hp=>absurd hp (no p)) (λp hp=>absurd hp (no p)) c,
  λY H c=>Zgd hr (by omega) (by omega) (by omega) (.inr rfl) (φ:=λ_=>0) (λp hp=>absurd hp (no p)) (λp hp=>absurd hp (no p)) c,
  λp hp=>⟨λA B V H cx cy=>nc hr h1 cx cy,λq hq=>⟨λv hv=>⟨.inl (n0 v 0 hv (by omega)),.inl (n0 v 1 hv (by omega))⟩,λA B V H cx cy=>nc hl h2 cx cy⟩⟩⟩
theorem Zrw{r:List Za}(hv:Zc2 r=0)(h1:r.length≠1)(hf:ZeM r=none)(ho:∃g,Cyc r g/\ZW r g=-4/\∀p∈g,-1<=tt r p/\tt r p<=0){X Y:Nat->Int}(hS:Str r X Y):Rec r X Y:=by
 obtain⟨k,w,_⟩:=ZdA hv;have hc:=(Zcf.1 k).2;have hV:=(ZdI.1 hv).2.2 h1;obtain⟨V1,⟨o,o1,o2⟩,V3⟩:=hV;refine⟨hc,hS,⟨o,o1,o2,λi hi io=>(V1 i hi).resolve_right λq=>io (V3 i o hi o1 q o2)⟩,λf hf' h4 p hp=>?_,λf hf' h4 p hp=>?_⟩
 .obtain⟨i,hi,e⟩:=Zbi hf';obtain⟨j,hj,ej⟩:=Zbi hp;have io:(i:Int)≠ZeY r:=by
   rcases ZhO hv h1 hi with z|z
   .exact z.2
   .rw[e]at z;omega
  have:=ZjJ hf i hi io j;rw[e]at this;unfold tns at this;rw[ZaR hj,ej]at this;exact this
 .obtain⟨g,hg,g4,gt⟩:=ho;obtain⟨q,hq⟩:=List.exists_mem_of_ne_nil g hg.ne;obtain⟨j,hj,hqj⟩:=Zfr hc (hg.is q hq) (ZiD hc);have pj:=hg.perm (Zbe hc _ (zh hj)) hq hqj;have rj:ZW r (gi (faces r) j)=-4:=by rw[<-Zb7 pj];exact g4
  obtain⟨i,hi,e⟩:=Zbi hf';have:i=j:=V3 i j hi hj (by rw[e];exact h4) rj;rw[<-e,this]at hp;exact gt p (pj.mem_iff.2 hp)
theorem Cuts.outer{F:List Za}{n:Nat}{m:List Za}(C:Cuts F n m)(h:∃g,Cyc F g/\ZW F g=-4/\∀p∈g,-1<=tt F p/\tt F p<=0):∃g,Cyc m g/\ZW m g=-4/\∀p∈g,-1<=tt m p/\tt m p<=0:=by
 induction C with
 |zero=>exact h
 |succ C c ih=>
  obtain⟨g,a,b,d⟩:=ih;exact c.out g a b d
theorem TH.ok{l m:List Za}(hc:Ck m){p q:List Zk}(hS:Str m (λv=>(gi p v).X) (λv=>(gi p v).Y))(hl:Ck l)(K:KH l m)(hq:∀v,v<l.length->gi q v=gi p v):∀v,v<l.length->okE l q v 0/\okE l q v 1:=by
 obtain⟨kl,hm,kt⟩:=K;have k:∀v d,v<l.length->d<2->okE l q v d:=by
  intro v d hv hd;by_cases c:nx l v d<0
  .exact .inl c
  .obtain⟨w,hw⟩:∃w:Nat,nx l v d=w:=⟨(nx l v d).toNat,by omega⟩;have b:=hl.back' hv (show d<4 by omega) hw;have e:=(kt v d w hv hd hw).end' hS hc (by omega);refine .inr ?_;rw[hw,itn,hq v hv,hq w b.1];have:d=0\/d=1:=by omega
   unfold ZgU;rcases this with rfl|rfl
   .rw[if_pos rfl];exact⟨e.2.2,e.2.1⟩
   .rw[if_neg (by omega)];exact⟨e.2.2,e.2.1⟩
 exact λv hv=>⟨k v 0 hv (by omega),k v 1 hv (by omega)⟩
theorem Dr.of{l r:List Za}(hl:Ck l)(K:KH l r)(hv:Zc2 r=0)(h1:r.length≠1)(hlen:r.length<=1000)(hf:ZeM r=none)(ho:∃g,Cyc r g/\ZW r g=-4/\∀p∈g,-1<=tt r p/\tt r p<=0):Dr l r:=by
 obtain⟨k,w,_⟩:=ZdA hv;have hc:=(Zcf.1 k).2;have hV:=(ZdI.1 hv).2.2 h1;have Cl:=Zhq hc w;obtain⟨φ,a0,a1,a2⟩:=pot hc hV Cl (d0:=0) (by omega);obtain⟨χ,b0,b1,b2⟩:=pot hc hV Cl (d0:=1) (by omega);refine⟨hc,hlen,K.1,Zdz hc (by omega) b0 b1,Zdz hc (by omega) a0 a1,λX V c=>Zgd hc hlen (by omega) (by omega) (.inl rfl) a1 a2 c,λY H c=>Zgd hc hlen (by omega) (by omega) (.inr rfl) b1 b2 c,λp hp=>?_⟩;have hS:=Str.of hc hp;have R:=Zrw hv h1 hf ho hS;have hd:=Zo5 hc w h1;exact⟨λA B V H cx cy=>ZjT (R.pln hd) (KH.refl r) cx cy λv hv=>rfl,λq hq=>⟨TH.ok hc hS hl K hq,λA B V H cx cy=>ZjT (R.pln hd) K cx cy λv hv=>hq v hv⟩⟩
end Mu
/- SepHolds,SepMakes. -/
namespace Mu
open Go (IntKind)
theorem ZkC{l:List Za}(hl:l.length<=64)(hv:Zc2 l≠0):∃r,ze l=some (r,Zc2 l)/\r.Open=[]/\r.Graphs.H=[]/\r.Graphs.V=[]:=by
 unfold ze;rw[Zlp (by omega),obs,Zcc hv];exact⟨_,rfl,rfl,rfl,rfl⟩
end Mu
/- Layer 19:whatever is forced first,the same comes of it. -/
namespace Mu
open Go (IntKind)
def Tw(T:Bool->Nat->Nat->Prop)(w:Zi):Prop:=T w.horizontal w.from_.toNat w.to.toNat
def ZlK(T:Bool->Nat->Nat->Prop)(w:Zi):Prop:=w.from_≠w.to/\¬T w.horizontal w.to.toNat w.from_.toNat
open Classical in
noncomputable def cTF(T:Bool->Nat->Nat->Prop)(w:Zi):Bool:=decide (ZlK T w)
theorem ZgX{T:Bool->Nat->Nat->Prop}{w:Zi}:cTF T w=true↔ZlK T w:=by simp[cTF]
def ClW(T:Bool->Nat->Nat->Prop)(W:List Zi):Prop:=(∃w∈W,Tw T w)\/(W.filter (cTF T)).length≠1
structure ClT(P:List (Nat×Nat))(W:Nat->Nat->List Zi)(h0 v0:List Zb)(T:Bool->Nat->Nat->Prop):Prop where
 tr:∀b x y z,T b x y->T b y z->T b x z
 irr:∀b x,¬T b x x
 oh:∀a∈h0,T true a.From.toNat a.To.toNat
 ov:∀a∈v0,T false a.From.toNat a.To.toNat
 cl:∀p∈P,ClW T (W p.1 p.2)
 ap:∀p∈P,∃w∈W p.1 p.2,ZlK T w
def TP(hs vs:List Zb)(b:Bool)(u v:Nat):Prop:=Pth (if b=true then hs else vs) u v
theorem Zop{hs vs:List Zb}{w:Zi}:ZlK (TP hs vs) w↔ZlJ hs vs w:=Iff.rfl
theorem Zqv{hs vs:List Zb}:cTF (TP hs vs)=ZcQ hs vs:=by
 funext w;rw[Bool.eq_iff_iff,ZgX,ZdC,Zop]
theorem Zlz{T:Nat->Nat->Prop}{A:List Zb}(tr:∀x y z,T x y->T y z->T x z)(h:∀a∈A,T a.From.toNat a.To.toNat){u v:Nat}(p:Pth A u v):T u v:=by
 induction p with
 |one q=>exact h _ q
 |cons q _ ih=>exact tr _ _ _ (h _ q) ih
theorem Der.conf{P:List (Nat×Nat)}{W:Nat->Nat->List Zi}{h0 v0 hs vs:List Zb}{T:Bool->Nat->Nat->Prop}(D:Der P W h0 v0 hs vs)(C:ClT P W h0 v0 T):(∀a∈hs,T true a.From.toNat a.To.toNat)/\∀a∈vs,T false a.From.toNat a.To.toNat:=by
 induction D with
 |refl=>exact⟨C.oh,C.ov⟩
 | @step hs vs i k w D hp h e ih=>
  have sub:∀b u v,TP hs vs b u v->T b u v:=λb u v q=>by
   cases b with
   |true=>exact Zlz (T:=T true) (C.tr true) ih.1 q
   |false=>exact Zlz (T:=T false) (C.tr false) ih.2 q
  have can:∀w,ZlK T w->ZlJ hs vs w:=λw q=>⟨q.1,λz=>q.2 (sub _ _ _ z)⟩;have tw:Tw T w:=by
   rcases C.cl _ hp with⟨w',hw',q⟩|q
   .have:ZlK T w':=by
     refine⟨λe=>?_,λz=>C.irr _ _ (C.tr _ _ _ _ q z)⟩;unfold Tw at q;rw[e]at q;exact C.irr _ _ q
    have:w'∈(W i k).filter (ZcQ hs vs):=List.mem_filter.2 ⟨hw',ZdC.2 (can _ this)⟩;rw[e]at this;have:w'=w:=by simpa using this
    rw[<-this];exact q
   .exfalso;obtain⟨w',hw',q'⟩:=C.ap _ hp;have e2:(W i k).filter (cTF T)=((W i k).filter (ZcQ hs vs)).filter (cTF T):=by
     rw[List.filter_filter];refine List.filter_congr λw _=>?_
     cases c:cTF T w with
     |false=>simp
     |true=>rw[ZdC.2 (can _ (ZgX.1 c))];rfl
    have m':w'∈(W i k).filter (cTF T):=List.mem_filter.2 ⟨hw',ZgX.2 q'⟩;dsimp only at q;rw[e2,e]at q m';have:w'=w:=by simpa using(List.mem_filter.1 m').1
    subst this;rw[List.filter_cons,if_pos (ZgX.2 q')]at q;simp at q
  unfold Tw at tw;by_cases c:w.horizontal=true
  .rw[c]at tw;unfold fH fV;rw[if_pos c,if_pos c];refine⟨λa ha=>?_,ih.2⟩;rcases List.mem_append.1 ha with q|q
   .exact ih.1 a q
   .have:a=Zel w:=by simpa using q
    subst this;exact tw
  .rw[Bool.not_eq_true]at c;rw[c]at tw;unfold fH fV;rw[c];simp only[Bool.false_eq_true,if_false];refine⟨ih.1,λa ha=>?_⟩;rcases List.mem_append.1 ha with q|q
   .exact ih.2 a q
   .have:a=Zel w:=by simpa using q
    subst this;exact tw
theorem Der.sub{P:List (Nat×Nat)}{W:Nat->Nat->List Zi}{h0 v0 hs vs:List Zb}{T:Bool->Nat->Nat->Prop}(D:Der P W h0 v0 hs vs)(C:ClT P W h0 v0 T)(b:Bool)(u v:Nat)(q:TP hs vs b u v):T b u v:=by
 have h:=D.conf C
 cases b with
 |true=>exact Zlz (T:=T true) (C.tr true) h.1 q
 |false=>exact Zlz (T:=T false) (C.tr false) h.2 q
section
variable {l:List Za}{X Y:List Int}{V H:List (List Int)}
theorem Clsd.clW{hs vs:List Zb}(C:Clsd (PR V H) (wyN X Y V H) hs vs):∀p∈PR V H,ClW (TP hs vs) (wyN X Y V H p.1 p.2):=λp hp=>by
 rcases C p hp with⟨w,hw,q⟩|q
 .exact .inl ⟨w,hw,q⟩
 .exact .inr (by rw[Zqv];exact q)
theorem Clsd.clT(hc:Ck l)(cx:CH l 1 X V)(cy:CH l 0 Y H){p:List Zk}{x y:List Int}(N:Num l X Y p x y)(nc:¬Crs V H p){h0 v0 hs vs:List Zb}(D:Der (PR V H) (wyN X Y V H) h0 v0 hs vs)(f0:ZhU x h0/\ZhU y v0)(C:Clsd (PR V H) (wyN X Y V H) hs vs):ClT (PR V H) (wyN X Y V H) h0 v0 (TP hs vs):=by
 obtain⟨fx,fy⟩:=D.fit hc cx cy N nc f0;refine⟨λb _ _ _ p q=>p.trans q,λb u q=>?_,λa ha=>.one (D.base.1 a ha),λa ha=>.one (D.base.2 a ha),C.clW,λq hq=>?_⟩
 .cases b with
  |true=>have:=Pth.up fx q;omega
  |false=>have:=Pth.up fy q;omega
 .obtain⟨w,hw,g⟩:=Zif hc cx cy N nc (i:=q.1) (k:=q.2) hq;exact⟨w,hw,ZjL fx fy g⟩
end
/-! All that is reached. -/
def toP(A:List Zb):List (A2 Int):=A.map λa=>⟨a.From,a.To⟩
theorem Zni{n:Nat}{A:List Zb}(hr:InR n A)(hl:A.length<=1000000){u:Nat}{m:List Bool}(hm:m.length=n)(hs:∀v,v<n->gi m v=true->Pth A u v):∃m',Zn (zl.s1 (toP A) u) big (m,0)=some m'/\m'.length=n/\(∀v,v<n->gi m' v=true->Pth A u v)/\(∀v,gi m v=true->gi m' v=true)/\∀a∈A,(a.From=u\/gi m a.From.toNat=true)->gi m' a.To.toNat=true:=by
 have gp:∀i,i<A.length->gi (toP A) i=⟨(gi A i).From,(gi A i).To⟩:=λi hi=>ZaR hi;have pl:(toP A).length=A.length:=by simp[toP]
 obtain⟨m',e,h⟩:=Zhc (step:=zl.s1 (toP A) u) (n:=A.length) (λi(s:List Bool)=>s.length=n/\(∀v,v<n->gi s v=true->Pth A u v)/\(∀v,gi m v=true->gi s v=true)/\∀j,j<i->((gi A j).From=u\/gi m (gi A j).From.toNat=true)->gi s (gi A j).To.toNat=true) (s0:=m) (f:=id) (by omega) ⟨hm,hs,λv h=>h,λj hj=>by omega⟩ (λi s hi I=>by
  obtain⟨i1,i2,i3,i4⟩:=I;have r:=hr _ (zh hi);have g0:(gi (toP A) i).get 0=(gi A i).From:=by rw[gp i hi];rfl
  have g1:(gi (toP A) i).get 1=(gi A i).To:=by rw[gp i hi];rfl
  have t:(if decide ((gi (toP A) i).get 0=(u:Int))=true then some true else ck ((0:Int)<=(gi (toP A) i).get 0/\(gi (toP A) i).get 0<(s.length:Int)) (some (gi s ((gi (toP A) i).get 0).toNat)))=some (decide ((gi A i).From=(u:Int))||gi s (gi A i).From.toNat):=by
   by_cases c:(gi A i).From=(u:Int)
   .rw[Zo (by rw[g0];exact c),Zct c];rfl
   .rw[Zq (by rw[g0];exact c),Zf (by rw[g0];omega),Zdh c,g0];rfl
  simp only[zl.s1,itn];rw[Zo (by omega),Zf (by omega),t,obs];simp only[g1];by_cases c:(decide ((gi A i).From=(u:Int))||gi s (gi A i).From.toNat)=true
  .rw[if_pos c,Zf (by omega),Zw (by omega)];have gs:∀v,gi (s.set (gi A i).To.toNat true) v=if v=(gi A i).To.toNat then true else gi s v:=λv=>Zb1 (by omega);refine⟨_,rfl,by simp[i1],λv hv q=>?_,λv q=>?_,λj hj q=>?_⟩
   .rw[gs]at q;split at q
    .rename_i ev;rw[ev];rcases Bool.or_eq_true _ _ |>.mp c with c|c
     .rw[decide_eq_true_eq]at c;have:=Pth.one (zh hi);rwa[c,itn]at this
     .exact(i2 _ (by omega) c).trans (.one (zh hi))
    .exact i2 v hv q
   .rw[gs];split
    .rfl
    .exact i3 v q
   .rw[gs];by_cases ji:j=i
    .subst ji;rw[if_pos rfl]
    .split
     .rfl
     .exact i4 j (by omega) q
  .rw[if_neg c,Zw (by omega)];refine⟨_,rfl,i1,i2,i3,λj hj q=>?_⟩;by_cases ji:j=i
   .subst ji;exfalso;apply c;rw[Bool.or_eq_true,decide_eq_true_eq];exact q.imp id (i3 _)
   .exact i4 j (by omega) q) (λs I=>by
  simp only[zl.s1];rw[Zq (by omega)];rfl)
 obtain⟨i1,i2,i3,i4⟩:=h;refine⟨m',e,i1,i2,i3,λa ha q=>?_⟩;obtain⟨j,hj,rfl⟩:=Zbi ha;exact i4 j hj q
theorem ZjB:∀(a b:List Bool),a.length=b.length->(∀v,gi a v=true->gi b v=true)->a.count true<=b.count true/\(a≠b->a.count true<b.count true)
 |[],[],_,_=>⟨Nat.le_refl _,λh=>absurd rfl h⟩
 |[],_::_,h,_=>by simp at h
 |_::_,[],h,_=>by simp at h
 | x::a,y::b,h,q=>by
  obtain⟨i1,i2⟩:=ZjB a b (by simpa using h) λv z=>q (v+1) z;have h0:x=true->y=true:=λz=>q 0 z;rw[List.count_cons,List.count_cons];by_cases e:a=b
  .subst e;cases x<;>cases y
   .exact⟨Nat.le_refl _,λh=>absurd rfl h⟩
   .exact⟨by simp,λ_=>by simp⟩
   .exact absurd (h0 rfl) (by decide)
   .exact⟨Nat.le_refl _,λh=>absurd rfl h⟩
  .have:=i2 e;cases x<;>cases y
   .exact⟨by simp;omega,λ_=>by simp;omega⟩
   .exact⟨by simp;omega,λ_=>by simp;omega⟩
   .exact absurd (h0 rfl) (by decide)
   .exact⟨by simp;omega,λ_=>by simp;omega⟩
theorem ZjA{n:Nat}{A:List Zb}(hr:InR n A){u:Nat}{m:List Bool}(hcl:∀a∈A,(a.From=u\/gi m a.From.toNat=true)->gi m a.To.toNat=true){x y:Nat}(p:Pth A x y):(x=u\/gi m x=true)->gi m y=true:=by
 induction p with
 |@one a q=>
  intro h;have r:=hr a q;exact hcl a q (h.imp (λh=>by omega) id)
 |@cons a y q _ ih=>
  intro h;have r:=hr a q;exact ih (.inr (hcl a q (h.imp (λh=>by omega) id)))
theorem ZsV{n:Nat}(hn:n<=4096){A:List Zb}(hr:InR n A)(hl:A.length<=1000000){u:Nat}(hu:u<n):∃m,zl n (toP A) u=some m/\m.length=n/\∀v,v<n->(gi m v=true↔Pth A u v):=by
 obtain⟨m,e,i1,i2,i3⟩:=Zhc (step:=zl.s0 n (toP A) u) (n:=n+1) (λi(s:List Bool)=>s.length=n/\(∀v,v<n->gi s v=true->Pth A u v)/\(i<=s.count true\/∀a∈A,(a.From=u\/gi s a.From.toNat=true)->gi s a.To.toNat=true)) (s0:=List.replicate n false) (f:=id) (by omega) ⟨by simp,λv hv q=>by simp[gi,hv]at q,.inl (Nat.zero_le _)⟩ (λi s hi I=>by
  obtain⟨i1,i2,i3⟩:=I;obtain⟨m',e,r1,r2,r3,r4⟩:=Zni hr hl i1 i2;simp only[zl.s0];rw[Zo (by omega),e,obs,Zw (by omega)];refine⟨_,rfl,r1,r2,?_⟩;rcases i3 with i3|i3
  .by_cases same:m'=s
   .right;rw[same]at r4⊢;exact r4
   .left;have:=(ZjB s m' (by rw[i1,r1]) r3).2 λq=>same q.symm;omega
  .right;intro a ha q;have r:=hr a ha;rcases q with q|q
   .exact r4 a ha (.inl q)
   .exact r4 a ha (.inr (ZjA hr i3 (r2 _ (by omega) q) (.inl rfl)))) (λs I=>by
  simp only[zl.s0];rw[Zq (by omega)];rfl)
 refine⟨m,?_,i1,λv hv=>⟨i2 v hv,λp=>?_⟩⟩
 .unfold zl;rw[Zf (by omega),itn,e,obs];rfl
 .rcases i3 with i3|i3
  .have:m.count true<=m.length:=List.count_le_length;omega
  .exact ZjA hr i3 p (.inl rfl)
theorem Zu7{n:Nat}(hn:n<=4096){A:List Zb}(hr:InR n A)(hl:A.length<=1000000):∃L,zA n (toP A)=some L/\L.length=n/\∀u,u<n->(gi L u).length=n/\∀v,v<n->(gi (gi L u) v=true↔Pth A u v):=by
 obtain⟨L,e,i1,i2⟩:=Zhc (step:=zA.s0 n (toP A)) (n:=n) (λi(s:List (List Bool))=>s.length=i/\∀u,u<i->(gi s u).length=n/\∀v,v<n->(gi (gi s u) v=true↔Pth A u v)) (s0:=[]) (f:=id) (by omega) ⟨rfl,λu hu=>by omega⟩ (λi s hi I=>by
  obtain⟨i1,i2⟩:=I;obtain⟨m,em,m1,m2⟩:=ZsV hn hr hl hi;simp only[zA.s0];rw[Zo (by omega),em,obs,Zf (by omega),Zw (by omega)];refine⟨_,rfl,by simp[i1],λu hu=>?_⟩;by_cases c:u<i
  .rw[ZbJ (by omega)];exact i2 u c
  .have:u=s.length+0:=by omega
   rw[this,Zbo,Nat.add_zero,i1];exact⟨m1,m2⟩) (λs I=>by
  simp only[zA.s0];rw[Zq (by omega)];rfl)
 refine⟨L,?_,i1,i2⟩;unfold zA;rw[e,obs];rfl
theorem ZjR{A:List Zb}(hl:A.length<=1000000):zJ A=some (toP A):=by
 unfold zJ;have:Zn (zJ.s0 A) big (([]:List (A2 Int)),0)=some (toP A):=by
  refine Zaj (λi:Nat=>(toP (A.take i),(i:Int))) (n:=A.length) (zy (by omega)) rfl (λi hi=>?_) ?_
  .simp only[zJ.s0,itn];rw[Zo (by omega),Zf (by omega),Zf (by simp[toP];omega),Zw (by omega),Zc9 hi];simp[toP]
  .simp only[zJ.s0];rw[Zq (by omega),List.take_length]
 rw[this,obs]
end Mu
/- SepTurns. -/
namespace Mu
open Go (IntKind)
section
variable {l:List Za}{X Y:List Int}{V H:List (List Int)}
def tw(w:Zi):Zi:=if w.horizontal=true then⟨false,w.from_,w.to⟩else⟨true,w.to,w.from_⟩
/-! How many pairs there are. -/
end
end Mu
/- SepTurns:the law. -/
namespace Mu
open Go (IntKind)
section
variable {l:List Za}{X Y:List Int}{V H:List (List Int)}{p:List Zk}
theorem Num.of(hc:Ck l)(cx:CH l 1 X V)(cy:CH l 0 Y H)(hst:∀v,v<l.length->okE l p v 0/\okE l p v 1):∃x y,Num l X Y p x y:=by
 refine⟨(List.range V.length).map λi=>(gi p (gi (gi V i) 0).toNat).X,(List.range H.length).map λi=>(gi p (gi (gi H i) 0).toNat).Y,λv hv=>?_,λv hv=>?_⟩
 .have r:=cx.rng hv;obtain⟨i,j1,j2,j3⟩:=cx.mem v hv;have Ci:=cx.ch i j1;have l0:=Ci.lt 0 Ci.ne;rw[j2,itn,Zbf j1];refine cx.alike hc (by omega) (f:=λv=>(gi p v).X) (okX hst) (by omega) hv ?_;rw[j2];exact cx.one i _ j1 (by omega) (by rw[Int.toNat_of_nonneg l0.1];exact zh Ci.ne)
 .have r:=cy.rng hv;obtain⟨i,j1,j2,j3⟩:=cy.mem v hv;have Ci:=cy.ch i j1;have l0:=Ci.lt 0 Ci.ne;rw[j2,itn,Zbf j1];refine cy.alike hc (by omega) (f:=λv=>(gi p v).Y) (okY hst) (by omega) hv ?_;rw[j2];exact cy.one i _ j1 (by omega) (by rw[Int.toNat_of_nonneg l0.1];exact zh Ci.ne)
end
end Mu
/- Layers 20 and 21:fronts,framing and refining are the document's. -/
namespace Mu
def opF(t:List Int):Option Nat:=(List.range t.length).find? λi=>decide (gi t i<0)&&(ZlQ t i).isNone
end Mu
/- Layer 21:what is framed and refined is the document's. -/
namespace Mu
end Mu
/- Layer 22:what is made regular. -/
namespace Mu
end Mu
/- Layer 22:what is made regular can be Zep,no corners of it look at one another,and nothing but edges of Dummy is new. -/
namespace Mu
end Mu
/- Layer 22:RegularDraws. -/
namespace Mu
theorem Zri{l:List Za}(h:Zc2 l=0)(h1:l.length≠1):∃o i:Nat,o<(faces l).length/\ZeY l=o/\ZW l (gi (faces l) o)=-4/\i<(gi (faces l) o).length/\opF (tns l (gi (faces l) o))=some i/\tt l (gi (gi (faces l) o) i)<0:=by
 obtain⟨r1,r2⟩:=ZnK h h1;obtain⟨o,ho⟩:∃o:Nat,ZeY l=o:=⟨(ZeY l).toNat,by omega⟩;rw[ho]at r2;have hi:o<(faces l).length:=by omega
 have r4:ZW l (gi (faces l) o)=-4:=by
  rcases ZhO h h1 hi with z|z
  .exact absurd ho.symm z.2
  .exact z.1
 obtain⟨i,hi2,op⟩:=Ztn (t:=tns l (gi (faces l) o)) r4
 cases q:opF (tns l (gi (faces l) o))with
 | none=>
  unfold opF at q;rw[List.find?_range_eq_none]at q;have:=q i hi2;have hn:ZlQ (tns l (gi (faces l) o)) i=none:=by
   unfold ZlQ;rw[List.find?_range_eq_none];exact λj hj=>by simpa using op.2 j hj
  rw[hn]at this;have:=op.1;simp_all
 |some j=>
  have q':=q;unfold opF at q;rw[List.find?_range_eq_some]at q;have hj:j<(gi (faces l) o).length:=by have:=q.2.1;rw[List.mem_range,Zd9]at this;exact this
  refine⟨o,j,hi,ho,r4,hj,q',?_⟩;have:=q.1;rw[Bool.and_eq_true,decide_eq_true_eq]at this;have:=this.1;unfold tns at this;rw[ZaR hj]at this;exact this
end Mu
/- Layer 19:whatever is valid can be Zep. -/
namespace Mu
open Go (IntKind)
theorem ZuP{l:List Za}(hl:l.length<=1100)(h:Zc2 l=0)(h1:l.length≠1):ZeM l=none\/∃m,Cut l m:=by
 obtain⟨k,hW,_⟩:=ZdA h;have hc:=(Zcf.1 k).2;have hV:=(ZdI.1 h).2.2 h1
 cases q:ZeM l with
 |none=>exact .inl rfl
 | some i=>
  right;obtain⟨hi,hne,j,e,hj,h0⟩:=ZjK q;obtain⟨o1,o2,o3,_⟩:=Zds hc;have hm:=zh hi;have fl:=o3 _ hm;have r4:ZW l (gi (faces l) i)=4:=by
   rcases ZhO h h1 hi with z|z
   .exact z.1
   .exact absurd z.2 hne
  obtain⟨kk,k1,⟨k0,kh,kz⟩,dX,dY,lv,w,ew,lw,S,f1,f2,C⟩:=ZmL hc hV hW hm r4 hj h0 (by omega);exact⟨_,C⟩
theorem Zrj{l:List Za}(h:Zc2 l=0)(h1:l.length≠1):∃F v d,Framed l F v d:=by
 obtain⟨k,hW,_⟩:=ZdA h;have hc:=(Zcf.1 k).2;have hV:=(ZdI.1 h).2.2 h1;obtain⟨o,i,hi,ho,r4,hi2,op,tx⟩:=Zri h h1;obtain⟨o1,o2,o3,_⟩:=Zds hc;have hm:=zh hi;exact⟨_,_,_,ZqA hc hV hW (Zbe hc _ hm) r4 (zh hi2) tx⟩
theorem ZjW:∀(f:Nat)(F g:List Za)(k:Nat),Cuts F k g->Zc2 g=0->2<=g.length->(g.length:Int)+negs g<=1000->negs g+2<=f->
  ∃m k',m.length<=1000/\2<=m.length/\Cuts F k' m/\Zc2 m=0/\ZeM m=none
 |0,F,g,k,_,_,_,_,hf=>by have:=Zjd (l:=g);omega
 |f+1,F,g,k,hC,hv,h2,hb,hf=>by
  have nn:=Zjd (l:=g);rcases ZuP (l:=g) (by omega) hv (by omega)with a|⟨m,C⟩
  .exact⟨g,k,by omega,h2,hC,hv,a⟩
  .have l1:=C.len;have l2:=C.negs;exact ZjW f F m (k+1) (.succ hC C) (C.err (by omega)) (by omega) (by omega) (by omega)
theorem pDr{l:List Za}(hl:l.length<=60)(hv:Zc2 l=0):∃r,Dr l r:=by
 obtain⟨k,hW,_⟩:=ZdA hv;have hc:=(Zcf.1 k).2;by_cases h1:l.length=1
 .exact⟨l,Dr.one hc hc h1 h1⟩
 .obtain⟨F,v,d,hF⟩:=Zrj hv h1;have fl:=hF.len;have nl:=ZoU (l:=F);have nn:=Zjd (l:=F);obtain⟨r,k',m1,m2,hC,mv,mf⟩:=ZjW ((negs F).toNat+2) F F 0 .zero (hF.err (by omega)) (by omega) (by omega) (by omega);obtain⟨g,g1,g2,_,g3⟩:=hF.out;exact⟨r,Dr.of hc (hF.kh.cuts hF.ck hC) mv (by omega) (by omega) mf (hC.outer ⟨g,g1,g2,g3⟩)⟩
theorem ZpI{n:Nat}{A:List Zb}{ψ:Nat->Nat}(h:Rk n A ψ):∀e∈A,gi ((List.range n).map λi=>((ψ i:Nat):Int)) e.From.toNat<gi ((List.range n).map λi=>((ψ i:Nat):Int)) e.To.toNat:=by
 intro e he;have r:=h.rng e he;have u:=h.up e he;rw[Zbf (by omega),Zbf (by omega)];omega
theorem Zep{l:List Za}(hl:l.length<=60)(hv:Zc2 l=0){X Y:List Int}{V H:List (List Int)}(cx:CH l 1 X V)(cy:CH l 0 Y H):∃p x y,Num l X Y p x y/\¬Crs V H p/\∀v,v<l.length->okE l p v 0/\okE l p v 1:=by
 obtain⟨r,D⟩:=pDr hl hv;obtain⟨k,hW,_⟩:=ZdA hv;have hc:=(Zcf.1 k).2;obtain⟨X',Y',V',H',_,cx',cy'⟩:=ZpM D.ck D.len D.c1 D.c0;obtain⟨ψ,hψ⟩:=D.g0 _ _ cx';obtain⟨χ,hχ⟩:=D.g1 _ _ cy';have ok:=(ZlW D.ck cx' cy' (a:=(List.range V'.length).map λi=>((ψ i:Nat):Int)) (b:=(List.range H'.length).map λi=>((χ i:Nat):Int))).2 ⟨ZpI hψ,ZpI hχ⟩;generalize Zed X' Y' ((List.range V'.length).map λi=>((ψ i:Nat):Int)) ((List.range H'.length).map λi=>((χ i:Nat):Int)) r.length=p at ok;obtain⟨n1,n2⟩:=D.nc _ ok;obtain⟨o2,n3⟩:=n2 p λv hv=>rfl;obtain⟨x,y,N⟩:=Num.of hc cx cy o2;exact⟨p,x,y,N,n3 _ _ _ _ cx cy,o2⟩
end Mu
/- Layer 19:the document's settling. -/
namespace Mu
open Go (IntKind)
structure Mx(n:Nat)(A:List Zb)(L:List (List Bool)):Prop where
 len:L.length=n
 row:∀u,u<n->(gi L u).length=n
 iff:∀u v,u<n->v<n->(gi (gi L u) v=true↔Pth A u v)
theorem Zlk{n:Nat}(hn:n<=4096){A:List Zb}(hr:InR n A)(hl:A.length<=1000000):∃L,zA n (toP A)=some L/\Mx n A L:=by
 obtain⟨L,e,h1,h2⟩:=Zu7 hn hr hl;exact⟨L,e,h1,λu hu=>(h2 u hu).1,λu v hu hv=>(h2 u hu).2 v hv⟩
theorem Mx.eq{n:Nat}{A B:List Zb}{L M:List (List Bool)}(h:Mx n A L)(k:Mx n B M)(e:∀u v,Pth A u v↔Pth B u v):L=M:=by
 refine List.ext_getElem (by rw[h.len,k.len]) λu hu hu'=>?_;have un:u<n:=by rw[<-h.len];exact hu
 have r1:=h.row u un;have r2:=k.row u un;rw[zO hu]at r1;rw[zO hu']at r2;refine List.ext_getElem (by rw[r1,r2]) λv hv hv'=>?_;have vn:v<n:=by rw[<-r1];exact hv
 have q:=(h.iff u v un vn).trans ((e u v).trans (k.iff u v un vn).symm);rw[zO hu,zO hu',zO hv,zO hv']at q;exact Bool.eq_iff_iff.2 q
section
variable {l:List Za}{X Y:List Int}{V H:List (List Int)}{hs vs h0 v0:List Zb}
def s4(a:zM):A4 Int:=⟨a.left,a.right,a.bottom,a.top⟩
theorem Zl3{L:List (List Int)}{of:List Int}{n:Nat}(oL:ZlE n L)(ho:of.length=n){i:Nat}(hm:i<L.length){c:ZN}{ver:Bool}(hk:(if ver=true then some (c.Vert,c.Y)else some (c.Horz,c.X))=some (L,of)):ZaW c ver i=some (gi of (gi (gi L i) 0).toNat,gi of (gi (gi L i) ((gi L i).length-1)).toNat):=by
 have ne:=oL.ne i hm;have lt0:=oL.lt i hm 0 ne.1;have lt1:=oL.lt i hm ((gi L i).length-1) (by omega);have e:(((gi L i).length:Int)-1).toNat=(gi L i).length-1:=by omega
 unfold ZaW;rw[hk,obs];dsimp only;rw[if_neg (by simp;omega),itn,e,Zf (by omega),Zf (by omega),Zf (by show(0:Int)<=gi (gi L i) 0/\gi (gi L i) 0<of.length;omega),Zw (by omega),Zf (by omega),Zf (by omega)];rfl
theorem Zn1(oV:ZlE l.length V)(oH:ZlE l.length H)(hX:X.length=l.length)(hY:Y.length=l.length){a:Bool×Nat}(ha:a∈LN V H):ZaN ⟨X,Y,V,H⟩ (ZbR a)=some (s4 (sd X Y V H a)):=by
 have hm:=ZiW ha;obtain⟨b,i⟩:=a;unfold ZaN
 cases b with
 |true=>
  rw[show ZaW ⟨X,Y,V,H⟩ (ZbR (true,i)).Vertical (ZbR (true,i)).Place=_ from Zl3 (L:=V) (of:=Y) (ver:=true) oV hY hm rfl];rfl
 |false=>
  rw[show ZaW ⟨X,Y,V,H⟩ (ZbR (false,i)).Vertical (ZbR (false,i)).Place=_ from Zl3 (L:=H) (of:=X) (ver:=false) oH hX hm rfl];rfl
theorem Ztv{A B:List (List Bool)}(ha:Mx V.length hs A)(hb:Mx H.length vs B){p q:zM}(ok:∀w∈wy p q,wOk V H w){N M:Int}{P Q:List (A2 Int)} :
  (∃w∈wy p q,isP hs vs w)/\zU ⟨N,M,P,Q,A,B⟩ (s4 p) (s4 q)=some (true,0,false,0,0)\/
  (∀w∈wy p q,¬isP hs vs w)/\∃ho x y,zU ⟨N,M,P,Q,A,B⟩ (s4 p) (s4 q)=some (false,(((wy p q).filter (ZcQ hs vs)).length:Int),ho,x,y)/\∀w,(wy p q).filter (ZcQ hs vs)=[w]->w=⟨ho,x,y⟩:=by
 have gw:∀j,j<4->(⟨(s4 p).get 1,(s4 q).get 1,(s4 p).get 3,(s4 q).get 3⟩:A4 Int).get (j:Nat)=(gi (wy p q) j).from_/\(⟨(s4 q).get 0,(s4 p).get 0,(s4 q).get 2,(s4 p).get 2⟩:A4 Int).get (j:Nat)=(gi (wy p q) j).to/\decide (1<(j:Int))=!(gi (wy p q) j).horizontal/\decide ((j:Int)<2)=(gi (wy p q) j).horizontal:=by
  intro j hj;rcases(show j=0\/j=1\/j=2\/j=3 by omega)with rfl|rfl|rfl|rfl<;>exact⟨rfl,rfl,rfl,rfl⟩
 have wl:(wy p q).length=4:=rfl;generalize hW:wy p q=W at*;have key:=Za1 (step:=zU.s0 ⟨N,M,P,Q,A,B⟩ (s4 p) (s4 q)) (s0:=(0,false,0,0,0)) (λs=>4-s.2.2.2.2.toNat)
  (λs=>∃j:Nat,j<=4/\s.2.2.2.2=j/\(∀i,i<j->¬isP hs vs (gi W i))/\s.1=(((W.take j).filter (ZcQ hs vs)).length:Int)/\∀w F,(W.take j).filter (ZcQ hs vs)=F++[w]->w=⟨s.2.1,s.2.2.1,s.2.2.2.1⟩)
  (R:=λr=>((∃w∈W,isP hs vs w)/\r=.inr ())\/((∀w∈W,¬isP hs vs w)/\∃ho x y,r=.inl (((W.filter (ZcQ hs vs)).length:Int),ho,x,y)/\∀w F,W.filter (ZcQ hs vs)=F++[w]->w=⟨ho,x,y⟩)) (by unfold big;omega)
  ⟨0,by omega,rfl,λi hi=>by omega,by simp,λw F h=>by simp at h⟩ ?_
 .obtain⟨r,e,h⟩:=key;unfold zU;rcases h with⟨h1,rfl⟩|⟨h1,ho,x,y,rfl,h2⟩
  .left;refine⟨h1,?_⟩;rw[e];rfl
  .right;refine⟨h1,ho,x,y,?_,λw hw=>h2 w [] hw⟩;rw[e];rfl
 .rintro⟨n,ho,x,y,i⟩ ⟨j,hj,rfl,i1,rfl,i3⟩;dsimp only at i3⊢;by_cases c:j<4
  .obtain⟨g1,g2,g3,g4⟩:=gw j c;have hm:gi W j∈W:=zh (by omega);obtain⟨o1,o2⟩:=ok _ hm;have tk:=Zc9 (l:=W) (n:=j) (by omega);generalize hw:gi W j=w at*;obtain⟨m,em,hmx⟩:∃m,(if decide (1<(j:Int))=true then some B else some A)=some m/\Mx (if w.horizontal=true then V.length else H.length) (grW hs vs w) m:=by
    rw[g3];unfold grW
    cases c:w.horizontal with
    |true=>exact⟨A,rfl,ha⟩
    |false=>exact⟨B,rfl,hb⟩
   have nw:nW V H w=((if w.horizontal=true then V.length else H.length:Nat):Int):=by unfold nW;split<;>rfl
   rw[nw]at o1 o2;generalize(if w.horizontal=true then V.length else H.length)=n at hmx o1 o2;have f1:w.from_.toNat<n:=by omega
   have t1:w.to.toNat<n:=by omega
   have ml:=hmx.len;have mr1:=hmx.row _ f1;have mr2:=hmx.row _ t1;have mi1:=hmx.iff _ _ f1 t1;have mi2:=hmx.iff _ _ t1 f1;have nn:((W.take j).filter (ZcQ hs vs)).length<=4:=Nat.le_trans (List.length_filter_le _ _) (by rw[List.length_take];omega);simp only[zU.s0];rw[Zo (by omega),em,obs];simp only[g1,g2];rw[Zf (by omega),Zf (by omega),Zf (by omega)];by_cases r:gi (gi m w.from_.toNat) w.to.toNat=true
   .right;rw[if_pos r];exact⟨_,rfl,.inl ⟨⟨w,hm,mi1.1 r⟩,rfl⟩⟩
   .left;rw[if_neg r];have nis:¬isP hs vs w:=λh=>r (mi1.2 h);have t:(if(!decide (w.from_=w.to))=true then ck ((0:Int)<=w.to/\w.to<(m.length:Int)) (ck ((0:Int)<=w.from_/\w.from_<((gi m w.to.toNat).length:Int)) (some !gi (gi m w.to.toNat) w.from_.toNat))else some false)=some (ZcQ hs vs w):=by
     by_cases e:w.from_=w.to
     .rw[if_neg (by simp[e])];have:ZcQ hs vs w=false:=by rw[Bool.eq_false_iff,ne_eq,ZdC];exact λh=>h.1 e
      rw[this]
     .rw[if_pos (by simp[e]),Zf (by omega),Zf (by omega)];congr 1;rw[Bool.eq_iff_iff,ZdC,Bool.not_eq_true',<-Bool.not_eq_true,mi2];exact⟨λh=>⟨e,h⟩,λh=>h.2⟩
    rw[t,obs];have i1':∀i,i<j+1->¬isP hs vs (gi W i):=λi hi=>by
     by_cases e:i=j
     .rw[e,hw];exact nis
     .exact i1 i (by omega)
    cases cc:ZcQ hs vs w with
    | true=>
     rw[if_pos rfl,Zw (by omega),Zw (by omega)];refine⟨_,rfl,⟨j+1,by omega,by dsimp only;omega,i1',?_,λw' F h=>?_⟩,by dsimp only;omega⟩
     .dsimp only;rw[tk,List.filter_append,List.length_append];simp[cc]
     .dsimp only;rw[tk,List.filter_append,List.filter_cons,if_pos cc,List.filter_nil]at h;have:=(List.append_inj' h rfl).2;have:w=w':=by simpa using this
      rw[<-this,g4]
    |false=>
     rw[if_neg (by decide),Zw (by omega)];refine⟨_,rfl,⟨j+1,by omega,by dsimp only;omega,i1',?_,λw' F h=>?_⟩,by dsimp only;omega⟩
     .dsimp only;rw[tk,List.filter_append,List.length_append];simp[cc]
     .dsimp only;rw[tk,List.filter_append,List.filter_cons,if_neg (by simp[cc]),List.filter_nil,List.append_nil]at h;exact i3 w' F h
  .right;have e4:j=4:=by omega
   subst e4;have tw:W.take 4=W:=List.take_of_length_le (by omega);rw[tw]at i3⊢;simp only[zU.s0];rw[Zq (by omega)];refine⟨_,rfl,.inr ⟨λw hw=>?_,ho,x,y,rfl,i3⟩⟩;obtain⟨i,hi,rfl⟩:=Zbi hw;exact i1 i (by omega)
end
end Mu
/- Layer 19:the document's settling comes to an end. -/
namespace Mu
open Go (IntKind)
def opR(V H:List (List Int))(p:Nat×Nat):A2 Zj:=⟨ZbR (gi (LN V H) p.1),ZbR (gi (LN V H) p.2)⟩
theorem Zpt{A:List Zb}{w:Zi}:toP A++[(⟨w.from_,w.to⟩:A2 Int)]=toP (A++[Zel w]):=by simp[toP,Zel]
noncomputable def ZoR(P:List (Nat×Nat))(W:Nat->Nat->List Zi)(hs vs:List Zb):Nat:=(P.filter (npB W hs vs)).length
theorem ZgE{α:Type}{f g:α->Bool}:∀{L:List α},(∀x∈L,g x=true->f x=true)->(L.filter g).length<=(L.filter f).length/\((∃x∈L,f x=true/\g x=false)->(L.filter g).length<(L.filter f).length)
 |[],_=>⟨by simp,λ⟨x,h,_⟩=>by simp at h⟩
 | a::L,h=>by
  obtain⟨i1,i2⟩:=ZgE (L:=L) λx hx=>h x (by simp[hx]);have ha:=h a (by simp);rw[List.filter_cons,List.filter_cons]
  cases ga:g a with
  |true=>
   rw[ga]at ha;rw[ha rfl];simp only[if_true,List.length_cons];refine⟨by omega,?_⟩;rintro⟨x,hx,q1,q2⟩;rcases List.mem_cons.1 hx with rfl|hx
   .rw[ga]at q2;cases q2
   .have:=i2 ⟨x,hx,q1,q2⟩;omega
  | false=>
   cases fa:f a with
   |true=>simp only[Bool.false_eq_true,if_false,if_true,List.length_cons];exact⟨by omega,λ_=>by omega⟩
   |false=>
    simp only[Bool.false_eq_true,if_false];refine⟨i1,?_⟩;rintro⟨x,hx,q1,q2⟩;rcases List.mem_cons.1 hx with rfl|hx
    .rw[fa]at q1;cases q1
    .exact i2 ⟨x,hx,q1,q2⟩
theorem ZoS{P:List (Nat×Nat)}{W:Nat->Nat->List Zi}{hs vs h1 v1:List Zb}(h:∀a∈h1,a∈hs)(v:∀a∈v1,a∈vs){p:Nat×Nat}(hp:p∈P)(n:¬ptd W h1 v1 p)(y:ptd W hs vs p):ZoR P W hs vs<ZoR P W h1 v1:=by
 refine(ZgE λx _ q=>?_).2 ⟨p,hp,Zda.2 n,?_⟩
 .rw[Zda]at q⊢;exact λz=>q (ZhE h v z)
 .rw[<-Bool.not_eq_true,Zda,Classical.not_not];exact y
section
variable {l:List Za}{X Y:List Int}{V H:List (List Int)}{h0 v0 h1 v1:List Zb}
structure ZhR(X Y:List Int)(V H:List (List Int))(h0 v0 h1 v1:List Zb)(L0:Nat)(Pd:List (Nat×Nat))(hs vs:List Zb)(A B:List (List Bool))(O:List (Nat×Nat))(c:Bool):Prop where
 mx:Mx V.length hs A
 my:Mx H.length vs B
 ih:InR V.length hs
 iv:InR H.length vs
 der:Der (PR V H) (wyN X Y V H) h0 v0 hs vs
 ol:O.length<=Pd.length
 len:hs.length+vs.length<=L0+if c=true then 1 else 0
 f:c=false->hs=h1/\vs=v1/\O=Pd.filter (npB (wyN X Y V H) h1 v1)/\∀p∈O,((wyN X Y V H p.1 p.2).filter (ZcQ h1 v1)).length≠1
 t:c=true->(∀a∈h1,a∈hs)/\(∀a∈v1,a∈vs)/\∃p∈PR V H,¬ptd (wyN X Y V H) h1 v1 p/\ptd (wyN X Y V H) hs vs p
abbrev R8:=Int×Int×(List (A2 Int))×(List (A2 Int))×(List (List Bool))×(List (List Bool))×(List (A2 Zj))×Bool
def tR(V H:List (List Int))(hs vs:List Zb)(A B:List (List Bool))(O:List (Nat×Nat))(c:Bool):R8:=((V.length:Int),(H.length:Int),toP hs,toP vs,A,B,O.map (opR V H),c)
def tK(V H:List (List Int))(hs vs:List Zb)(A B:List (List Bool))(O:List (Nat×Nat))(c:Bool)(k:Int):Int×Int×(List (A2 Int))×(List (A2 Int))×(List (List Bool))×(List (List Bool))×(List (A2 Zj))×Bool×Int:=((V.length:Int),(H.length:Int),toP hs,toP vs,A,B,O.map (opR V H),c,k)
theorem Zli{n:Nat}{A:List Zb}{w:Zi}(h:InR n A)(hw:(0<=w.from_/\w.from_<n)/\0<=w.to/\w.to<n):InR n (A++[Zel w]):=by
 intro a ha;rcases List.mem_append.1 ha with q|q
 .exact h a q
 .have:a=Zel w:=by simpa using q
  subst this;exact hw
theorem Zjo{hs vs:List Zb}{A B:List (List Bool)}(ih:InR V.length hs)(iv:InR H.length vs)(hV:V.length<=1000)(hH:H.length<=1000)(hl:hs.length+vs.length<=1000000):∃A' B',zY ⟨V.length,H.length,toP hs,toP vs,A,B⟩=some ⟨V.length,H.length,toP hs,toP vs,A',B'⟩/\Mx V.length hs A'/\Mx H.length vs B':=by
 obtain⟨A',e1,m1⟩:=Zlk (by omega) ih (by omega);obtain⟨B',e2,m2⟩:=Zlk (by omega) iv (by omega);refine⟨A',B',?_,m1,m2⟩;unfold zY;dsimp only;rw[e1,obs,e2,obs]
theorem Zn2(hc:Ck l)(hl:l.length<=64)(cx:CH l 1 X V)(cy:CH l 0 Y H){hs vs:List Zb}{A B:List (List Bool)}{O:List (Nat×Nat)}{c:Bool}{i k:Nat}(hi:i<(LN V H).length)(hk:k<(LN V H).length)(ll:(LN V H).length<=128)(sh:(shc V H (gi (LN V H) i) (gi (LN V H) k)||c)=true) :
  Zv.s2 ⟨X,Y,V,H⟩ ((LN V H).map ZbR) i (tK V H hs vs A B O c k)=some (.inl (tK V H hs vs A B O c ((k:Int)+1))):=by
 have me:zI ⟨X,Y,V,H⟩ (ZbR (gi (LN V H) i)).Vertical (ZbR (gi (LN V H) i)).Place (ZbR (gi (LN V H) k)).Vertical (ZbR (gi (LN V H) k)).Place=some (shc V H (gi (LN V H) i) (gi (LN V H) k)):=ZpL hc (by omega) cx cy _ _ _ _;unfold Zv.s2 tK;dsimp only;rw[List.length_map,itn,itn,Zo (by omega),Zf (by omega),Zf (by omega),ZaR hi,ZaR hk,me,obs,if_pos sh,Zw (by omega)]
theorem Zn3(hc:Ck l)(hl:l.length<=64)(cx:CH l 1 X V)(cy:CH l 0 Y H){hs vs:List Zb}{A B:List (List Bool)}{O:List (Nat×Nat)}{i k:Nat}(hi:i<(LN V H).length)(hk:k<(LN V H).length)(ll:(LN V H).length<=128)(sh:shc V H (gi (LN V H) i) (gi (LN V H) k)=false){p:Bool}{n:Int}{ho:Bool}{x y:Int}
  (lk:zU ⟨V.length,H.length,toP hs,toP vs,A,B⟩ (s4 (sd X Y V H (gi (LN V H) i))) (s4 (sd X Y V H (gi (LN V H) k)))=some (p,n,ho,x,y))(hO:O.length<=100000)(lh:hs.length<=1000000)(lv:vs.length<=1000000) :
  Zv.s2 ⟨X,Y,V,H⟩ ((LN V H).map ZbR) i (tK V H hs vs A B O false k)=if p=true then some (.inl (tK V H hs vs A B O false ((k:Int)+1)))else if n=1 then(if ho=true then(zY ⟨V.length,H.length,toP hs++[⟨x,y⟩],toP vs,A,B⟩).bind λz=>some (.inl (z.N,z.M,z.H,z.V,z.A,z.B,(O++[(i,k)]).map (opR V H),true,(k:Int)+1))else(zY ⟨V.length,H.length,toP hs,toP vs++[⟨x,y⟩],A,B⟩).bind λz=>some (.inl (z.N,z.M,z.H,z.V,z.A,z.B,(O++[(i,k)]).map (opR V H),true,(k:Int)+1)))else some (.inl (tK V H hs vs A B (O++[(i,k)]) false ((k:Int)+1))):=by
 have x3:=cx.Ll;have y3:=cy.Ll;have oV:=cx.ok hc (by omega) (by omega);have oH:=cy.ok hc (by omega) (by omega);have me:zI ⟨X,Y,V,H⟩ (ZbR (gi (LN V H) i)).Vertical (ZbR (gi (LN V H) i)).Place (ZbR (gi (LN V H) k)).Vertical (ZbR (gi (LN V H) k)).Place=some (shc V H (gi (LN V H) i) (gi (LN V H) k)):=ZpL hc (by omega) cx cy _ _ _ _;have oe:O.map (opR V H)++[(⟨ZbR (gi (LN V H) i),ZbR (gi (LN V H) k)⟩:A2 Zj)]=(O++[(i,k)]).map (opR V H):=by simp[opR]
 have tl:∀A:List Zb,(toP A).length=A.length:=λA=>by simp[toP]
 unfold Zv.s2 tK;dsimp only;rw[List.length_map,itn,itn,Zo (by omega),Zf (by omega),Zf (by omega),ZaR hi,ZaR hk,me,obs,sh,if_neg (by decide),Zn1 oV oH cx.alen cy.alen (zh hi),obs,Zn1 oV oH cx.alen cy.alen (zh hk),obs,lk,obs];dsimp only
 cases p with
 |true=>rw[if_pos rfl,if_pos rfl,Zw (by omega)]
 | false=>
  rw[if_neg Bool.false_ne_true,if_neg Bool.false_ne_true,Zf (by simp;omega),oe];by_cases c1:n=1
  .rw[Zo c1,if_pos c1]
   cases ho with
   |true=>
    rw[if_pos rfl,if_pos rfl,Zf (by rw[tl];simp;omega)];refine congrArg _ (funext λz=>?_);rw[Zw (by omega)]
   |false=>
    rw[if_neg Bool.false_ne_true,if_neg Bool.false_ne_true,Zf (by rw[tl];simp;omega)];refine congrArg _ (funext λz=>?_);rw[Zw (by omega)]
  .rw[Zq c1,if_neg c1,Zw (by omega)]
theorem Zpd(hc:Ck l)(hl:l.length<=64)(cx:CH l 1 X V)(cy:CH l 0 Y H){L0:Nat}(hL:L0<=500000){Pd:List (Nat×Nat)}(hPd:Pd.length<=100000){hs vs:List Zb}{A B:List (List Bool)}{O:List (Nat×Nat)}{c:Bool}(I:ZhR X Y V H h0 v0 h1 v1 L0 Pd hs vs A B O c){i k:Nat}(hik:i<k)(hk:k<(LN V H).length)(ll:(LN V H).length<=128) :
  ∃hs' vs' A' B' O' c',Zv.s2 ⟨X,Y,V,H⟩ ((LN V H).map ZbR) i (tK V H hs vs A B O c k)=some (.inl (tK V H hs' vs' A' B' O' c' ((k:Int)+1)))/\ZhR X Y V H h0 v0 h1 v1 L0 (if shc V H (gi (LN V H) i) (gi (LN V H) k)=true then Pd else Pd++[(i,k)]) hs' vs' A' B' O' c':=by
 have x3:=cx.Ll;have y3:=cy.Ll;have hi:i<(LN V H).length:=by omega
 have iol:=I.ol;have ilen:=I.len;by_cases sh:shc V H (gi (LN V H) i) (gi (LN V H) k)=true
 .rw[if_pos sh];exact⟨hs,vs,A,B,O,c,Zn2 hc hl cx cy hi hk ll (by rw[sh];rfl),I⟩
 .rw [if_neg sh];rw[Bool.not_eq_true]at sh;have hp:(i,k)∈PR V H:=ZiZ.2 ⟨hik,hk,by rw[sh];rfl⟩
  cases c with
  |true=>exact⟨hs,vs,A,B,O,true,Zn2 hc hl cx cy hi hk ll (by simp),⟨I.mx,I.my,I.ih,I.iv,I.der,by rw[List.length_append];omega,I.len,λh=>(by cases h),I.t⟩⟩
  | false=>
   obtain⟨rfl,rfl,f3,f4⟩:=I.f rfl;rw[if_neg Bool.false_ne_true]at ilen;have ok:=ZpT hc cx cy (zh hi) (zh hk);have fl:∀P:List (Nat×Nat),(P++[(i,k)]).filter (npB (wyN X Y V H) hs vs)=P.filter (npB (wyN X Y V H) hs vs)++if npB (wyN X Y V H) hs vs (i,k)=true then [(i,k)]else []:=λP=>by
    rw[List.filter_append,List.filter_cons];rfl
   rcases Ztv I.mx I.my ok (N:=V.length) (M:=H.length) (P:=toP hs) (Q:=toP vs)with⟨⟨w,hw,q⟩,e⟩|⟨nis,ho,x,y,e,one⟩
   .have E:=Zn3 hc hl cx cy hi hk ll sh e (O:=O) (by omega) (by omega) (by omega);rw[if_pos rfl]at E;refine⟨hs,vs,A,B,O,false,E,⟨I.mx,I.my,I.ih,I.iv,I.der,by rw[List.length_append];omega,I.len,λ_=>⟨rfl,rfl,?_,f4⟩,λh=>(by cases h)⟩⟩;have:npB (wyN X Y V H) hs vs (i,k)=false:=by
     rw[<-Bool.not_eq_true,Zda,Classical.not_not];exact⟨w,hw,q⟩
    rw[fl,this,<-f3];simp
   .have E:=Zn3 hc hl cx cy hi hk ll sh e (O:=O) (by omega) (by omega) (by omega);rw[if_neg Bool.false_ne_true]at E;have np:npB (wyN X Y V H) hs vs (i,k)=true:=by
     rw[Zda];rintro⟨w,hw,q⟩;exact nis w hw q
    by_cases c1:((wy (sd X Y V H (gi (LN V H) i)) (sd X Y V H (gi (LN V H) k))).filter (ZcQ hs vs)).length=1
    .obtain⟨w,ew⟩:=List.length_eq_one_iff.1 c1;have ww:=one w ew;have hw:w∈wy (sd X Y V H (gi (LN V H) i)) (sd X Y V H (gi (LN V H) k)):=(List.mem_filter.1 (ew▸List.mem_singleton.2 rfl:w∈(wy (sd X Y V H (gi (LN V H) i)) (sd X Y V H (gi (LN V H) k))).filter (ZcQ hs vs))).1;have okw:=ok w hw;have ap:∀A:List Zb,toP A++[(⟨x,y⟩:A2 Int)]=toP (A++[Zel w]):=λA=>by rw[<-Zpt,ww]
     have D':Der (PR V H) (wyN X Y V H) h0 v0 (fH hs w) (fV vs w):=.step I.der hp nis ew;have pt:ptd (wyN X Y V H) (fH hs w) (fV vs w) (i,k):=⟨w,hw,Zin⟩;have npt:¬ptd (wyN X Y V H) hs vs (i,k):=Zda.1 np;have who:ho=w.horizontal:=by rw[ww]
     have fl2:=Zp7 (hs:=hs) (vs:=vs) (w:=w);rw[if_pos (by omega),ap,ap,who]at E
     cases ch:w.horizontal with
     |true=>
      have e1:fH hs w=hs++[Zel w]:=by unfold fH;rw[if_pos ch]
      have e2:fV vs w=vs:=by unfold fV;rw[if_pos ch]
      rw[e1,e2]at D' pt fl2;have r1:InR V.length (hs++[Zel w]):=Zli I.ih (by unfold wOk nW at okw;rw[if_pos ch]at okw;exact okw);obtain⟨A',B',es,m1,m2⟩:=Zjo (A:=A) (B:=B) r1 I.iv (by omega) (by omega) (by omega);rw[ch,if_pos rfl,es,obs]at E;exact⟨_,vs,A',B',O++[(i,k)],true,E,⟨m1,m2,r1,I.iv,D',by rw[List.length_append,List.length_append];simp;omega,by rw[if_pos rfl];omega,λh=>(by cases h),λ_=>⟨λa ha=>by simp[ha],λa ha=>ha,(i,k),hp,npt,pt⟩⟩⟩
     |false=>
      have e1:fH hs w=hs:=by unfold fH;rw[if_neg (by simp[ch])]
      have e2:fV vs w=vs++[Zel w]:=by unfold fV;rw[if_neg (by simp[ch])]
      rw[e1,e2]at D' pt fl2;have r1:InR H.length (vs++[Zel w]):=Zli I.iv (by unfold wOk nW at okw;rw[if_neg (by simp[ch])]at okw;exact okw);obtain⟨A',B',es,m1,m2⟩:=Zjo (A:=A) (B:=B) I.ih r1 (by omega) (by omega) (by omega);rw[ch,if_neg Bool.false_ne_true,es,obs]at E;exact⟨hs,_,A',B',O++[(i,k)],true,E,⟨m1,m2,I.ih,r1,D',by rw[List.length_append,List.length_append];simp;omega,by rw[if_pos rfl];omega,λh=>(by cases h),λ_=>⟨λa ha=>ha,λa ha=>by simp[ha],(i,k),hp,npt,pt⟩⟩⟩
    .rw[if_neg (by omega)]at E;refine⟨hs,vs,A,B,O++[(i,k)],false,E,⟨I.mx,I.my,I.ih,I.iv,I.der,by rw[List.length_append,List.length_append];simp;omega,I.len,λ_=>⟨rfl,rfl,?_,λp hp=>?_⟩,λh=>(by cases h)⟩⟩
     .rw[fl,np,<-f3];simp
     .rcases List.mem_append.1 hp with hp|hp
      .exact f4 p hp
      .have:p=(i,k):=by simpa using hp
       subst this;exact c1
end
end Mu
/- Layer 19:the document's rounds. -/
namespace Mu
open Go (IntKind)
section
variable {l:List Za}{X Y:List Int}{V H:List (List Int)}{h0 v0 h1 v1:List Zb}
def Ze6(V H:List (List Int))(i k:Nat):List (Nat×Nat):=((List.range k).filter λk=>decide (i<k)&&!shc V H (gi (LN V H) i) (gi (LN V H) k)).map λk=>(i,k)
def Zg1(V H:List (List Int))(n:Nat):List (Nat×Nat):=(List.range n).flatMap λi=>Ze6 V H i (LN V H).length
theorem Zkg{i k:Nat}:(Ze6 V H i k).length<=k:=by
 unfold Ze6;rw[List.length_map];have:=List.length_filter_le (λk=>decide (i<k)&&!shc V H (gi (LN V H) i) (gi (LN V H) k)) (List.range k);simpa using this
theorem ZjX:∀n,(Zg1 V H n).length<=n*(LN V H).length
 |0=>by simp[Zg1]
 |n+1=>by
  have ih:=ZjX n;unfold Zg1 at ih⊢;rw[List.range_succ,List.flatMap_append,List.length_append,Nat.add_mul,Nat.one_mul];refine Nat.add_le_add ih ?_;simp only[List.flatMap_cons,List.flatMap_nil,List.append_nil];exact Zkg
theorem ZlZ{n:Nat}:Zg1 V H (n+1)=Zg1 V H n++Ze6 V H n (LN V H).length:=by
 unfold Zg1;rw[List.range_succ,List.flatMap_append];simp
theorem Zmf{i k:Nat}(h:i<k):Ze6 V H i (k+1)=if shc V H (gi (LN V H) i) (gi (LN V H) k)=true then Ze6 V H i k else Ze6 V H i k++[(i,k)]:=by
 unfold Ze6;rw[List.range_succ,List.filter_append,List.map_append,List.filter_cons]
 cases c:shc V H (gi (LN V H) i) (gi (LN V H) k)with
 |true=>rw[if_neg (by simp),if_pos rfl];simp
 |false=>rw[if_pos (by simp;omega),if_neg (by simp)];simp
theorem Zmg{i:Nat}:Ze6 V H i (i+1)=[]:=by
 unfold Ze6;rw[List.map_eq_nil_iff,List.filter_eq_nil_iff];intro k hk;have:=List.mem_range.1 hk;simp;omega
theorem Zkn(hl:l.length<=64)(cx:CH l 1 X V)(cy:CH l 0 Y H):(LN V H).length<=128:=by
 have x3:=cx.Ll;have y3:=cy.Ll;unfold LN;rw[List.length_append];have a:=ZcW (b:=true) (L:=V) (n:=V.length);have b:=ZcW (b:=false) (L:=H) (n:=H.length);omega
theorem Zrr(hc:Ck l)(hl:l.length<=64)(cx:CH l 1 X V)(cy:CH l 0 Y H){L0:Nat}(hL:L0<=500000){i:Nat}(hi:i<(LN V H).length){hs vs:List Zb}{A B:List (List Bool)}{O:List (Nat×Nat)}{c:Bool}(I:ZhR X Y V H h0 v0 h1 v1 L0 (Zg1 V H i) hs vs A B O c) :
  ∃hs' vs' A' B' O' c',Zn (Zv.s2 ⟨X,Y,V,H⟩ ((LN V H).map ZbR) i) big (tK V H hs vs A B O c ((i:Int)+1))=some (tR V H hs' vs' A' B' O' c')/\ZhR X Y V H h0 v0 h1 v1 L0 (Zg1 V H (i+1)) hs' vs' A' B' O' c':=by
 have ll:=Zkn hl cx cy;have pl:∀k,k<=(LN V H).length->(Zg1 V H i++Ze6 V H i k).length<=100000:=λk hk=>by
  have a:=ZjX (V:=V) (H:=H) i;have b:=Zkg (V:=V) (H:=H) (i:=i) (k:=k);have:i*(LN V H).length<=128*128:=Nat.mul_le_mul (by omega) ll;rw[List.length_append];omega
 obtain⟨r,e,hs',vs',A',B',O',c',rfl,I'⟩:=ZbA (step:=Zv.s2 ⟨X,Y,V,H⟩ ((LN V H).map ZbR) i) (n:=(LN V H).length-(i+1)) (λj s=>∃hs vs A B O c,s=tK V H hs vs A B O c ((i+1+j:Nat):Int)/\ZhR X Y V H h0 v0 h1 v1 L0 (Zg1 V H i++Ze6 V H i (i+1+j)) hs vs A B O c) (s0:=tK V H hs vs A B O c ((i:Int)+1))
  (R:=λr=>∃hs vs A B O c,r=tR V H hs vs A B O c/\ZhR X Y V H h0 v0 h1 v1 L0 (Zg1 V H i++Ze6 V H i (LN V H).length) hs vs A B O c) (zy (by omega)) ⟨hs,vs,A,B,O,c,rfl,by rw[Nat.add_zero,Zmg,List.append_nil];exact I⟩ (λj s hj hs=>by
   obtain⟨hs,vs,A,B,O,c,rfl,I⟩:=hs;obtain⟨hs',vs',A',B',O',c',e,I'⟩:=Zpd hc hl cx cy hL (pl _ (by omega)) I (i:=i) (k:=i+1+j) (by omega) (by omega) ll;refine⟨_,e,hs',vs',A',B',O',c',by congr 1,?_⟩;rw[show i+1+(j+1)=i+1+j+1 by omega,Zmf (by omega)];by_cases s:shc V H (gi (LN V H) i) (gi (LN V H) (i+1+j))=true
   .rw[if_pos s]at I'⊢;exact I'
   .rw[if_neg s]at I'⊢;rwa[List.append_assoc]at I') (λs hs=>by
   obtain⟨hs,vs,A,B,O,c,rfl,I⟩:=hs;rw[show i+1+((LN V H).length-(i+1))=(LN V H).length by omega]at I⊢;refine⟨_,?_,hs,vs,A,B,O,c,rfl,I⟩;unfold Zv.s2 tK;dsimp only;rw[List.length_map,Zq (by omega)];rfl)
 rw[<-ZlZ]at I';exact⟨hs',vs',A',B',O',c',e,I'⟩
theorem Zpb(hc:Ck l)(hl:l.length<=64)(cx:CH l 1 X V)(cy:CH l 0 Y H){L0:Nat}(hL:L0<=500000){A B:List (List Bool)}(I0:ZhR X Y V H h0 v0 h1 v1 L0 [] h1 v1 A B [] false) :
  ∃hs' vs' A' B' O' c',Zn (Zv.s1 ⟨X,Y,V,H⟩ ((LN V H).map ZbR)) big (tK V H h1 v1 A B [] false 0)=some (tR V H hs' vs' A' B' O' c')/\ZhR X Y V H h0 v0 h1 v1 L0 (PR V H) hs' vs' A' B' O' c':=by
 have ll:=Zkn hl cx cy;obtain⟨r,e,hs',vs',A',B',O',c',rfl,I'⟩:=ZbA (step:=Zv.s1 ⟨X,Y,V,H⟩ ((LN V H).map ZbR)) (n:=(LN V H).length) (λj s=>∃hs vs A B O c,s=tK V H hs vs A B O c (j:Int)/\ZhR X Y V H h0 v0 h1 v1 L0 (Zg1 V H j) hs vs A B O c) (s0:=tK V H h1 v1 A B [] false 0)
  (R:=λr=>∃hs vs A B O c,r=tR V H hs vs A B O c/\ZhR X Y V H h0 v0 h1 v1 L0 (Zg1 V H (LN V H).length) hs vs A B O c) (zy (by omega)) ⟨h1,v1,A,B,[],false,rfl,I0⟩ (λj s hj hs=>by
   obtain⟨hs,vs,A,B,O,c,rfl,I⟩:=hs;obtain⟨hs',vs',A',B',O',c',e,I'⟩:=Zrr hc hl cx cy hL hj I;refine⟨tK V H hs' vs' A' B' O' c' ((j:Int)+1),?_,hs',vs',A',B',O',c',by congr 1,I'⟩;unfold tK at e;unfold Zv.s1 tK;dsimp only;rw[List.length_map,Zo (by omega),Zw (by omega),e,obs];rfl) (λs hs=>by
   obtain⟨hs,vs,A,B,O,c,rfl,I⟩:=hs;refine⟨_,?_,hs,vs,A,B,O,c,rfl,I⟩;unfold Zv.s1 tK;dsimp only;rw[List.length_map,Zq (by omega)];rfl)
 exact⟨hs',vs',A',B',O',c',e,I'⟩
theorem Zrn(hc:Ck l)(hl:l.length<=64)(cx:CH l 1 X V)(cy:CH l 0 Y H):∃A B,zg l ⟨X,Y,V,H⟩=some ⟨V.length,H.length,toP (Zbb l X 0 l.length),toP (Zbb l Y 1 l.length),A,B⟩/\Mx V.length (Zbb l X 0 l.length) A/\Mx H.length (Zbb l Y 1 l.length) B:=by
 have x3:=cx.Ll;have y3:=cy.Ll;have gl:∀of d,(Zbb l of d l.length).length<=64:=λof d=>Nat.le_trans (Zc1 _) hl;have g1:=gl X 0;have g2:=gl Y 1;have i1:InR V.length (Zbb l X 0 l.length):=ZeO hc (by omega) cx;have i2:InR H.length (Zbb l Y 1 l.length):=ZeO hc (by omega) cy;obtain⟨A,B,e,m1,m2⟩:=Zjo (A:=[]) (B:=[]) i1 i2 (by omega) (by omega) (by omega);refine⟨A,B,?_,m1,m2⟩;unfold zg;have q1:=Zjm hc (by omega) cx.alen (d:=0) (by omega);have q2:=Zjm hc (by omega) cy.alen (d:=1) (by omega);rw[show((0:Nat):Int)=0 from rfl]at q1;rw[show((1:Nat):Int)=1 from rfl]at q2;rw[q1,obs,q2,obs];have w1:Zn (zg.s0 (Zbb l X 0 l.length)) big (([]:List (A2 Int)),0)=some (toP (Zbb l X 0 l.length)):=by
  generalize Zbb l X 0 l.length=G at*;refine Zaj (λi:Nat=>(toP (G.take i),(i:Int))) (n:=G.length) (zy (by omega)) rfl (λi hi=>?_) ?_
  .simp only[zg.s0,itn];rw[Zo (by omega),Zf (by omega),Zf (by simp[toP];omega),Zw (by omega),Zc9 hi];simp[toP]
  .simp only[zg.s0];rw[Zq (by omega),List.take_length]
 have w2:Zn (zg.s1 (Zbb l Y 1 l.length)) big (([]:List (A2 Int)),0)=some (toP (Zbb l Y 1 l.length)):=by
  generalize Zbb l Y 1 l.length=G at*;refine Zaj (λi:Nat=>(toP (G.take i),(i:Int))) (n:=G.length) (zy (by omega)) rfl (λi hi=>?_) ?_
  .simp only[zg.s1,itn];rw[Zo (by omega),Zf (by omega),Zf (by simp[toP];omega),Zw (by omega),Zc9 hi];simp[toP]
  .simp only[zg.s1];rw[Zq (by omega),List.take_length]
 rw[w1,obs,w2,obs,e,obs]
theorem Zmc(hc:Ck l)(hl:l.length<=64)(Ac:AllCh l 1/\AllCh l 0):∃X Y V H hs vs A B,Zbg l=some (⟨X,Y,V,H⟩,true)/\CH l 1 X V/\CH l 0 Y H/\
  Zv l=some (⟨V.length,H.length,toP hs,toP vs,A,B⟩,((PR V H).filter (npB (wyN X Y V H) hs vs)).map (opR V H))/\Mx V.length hs A/\Mx H.length vs B/\
  Der (PR V H) (wyN X Y V H) (Zbb l X 0 l.length) (Zbb l Y 1 l.length) hs vs/\Clsd (PR V H) (wyN X Y V H) hs vs:=by
 obtain⟨X,Y,V,H,e1,cx,cy⟩:=ZpM hc (by omega) Ac.1 Ac.2;have x3:=cx.Ll;have y3:=cy.Ll;have ll:=Zkn hl cx cy;obtain⟨A,B,e2,m1,m2⟩:=Zrn hc hl cx cy;have g1:=Zc1 (l:=l) (of:=X) (d:=0) l.length;have g2:=Zc1 (l:=l) (of:=Y) (d:=1) l.length;have pl:(PR V H).length<=128*128:=Nat.le_trans Zlx (Nat.mul_le_mul ll ll);have i1:InR V.length (Zbb l X 0 l.length):=ZeO hc (by omega) cx;have i2:InR H.length (Zbb l Y 1 l.length):=ZeO hc (by omega) cy;generalize hh0:Zbb l X 0 l.length=h0 at*;generalize hv0:Zbb l Y 1 l.length=v0 at*;have key:=Za1 (step:=Zv.s0 ⟨X,Y,V,H⟩ ((LN V H).map ZbR)) (s0:=((V.length:Int),(H.length:Int),toP h0,toP v0,A,B,0)) (λs=>100001-s.2.2.2.2.2.2.toNat)
  (λs=>∃(j:Nat)(hs vs:List Zb)(A B:List (List Bool)),s=((V.length:Int),(H.length:Int),toP hs,toP vs,A,B,(j:Int))/\Mx V.length hs A/\Mx H.length vs B/\InR V.length hs/\InR H.length vs/\Der (PR V H) (wyN X Y V H) h0 v0 hs vs/\hs.length+vs.length<=128+j/\j+ZoR (PR V H) (wyN X Y V H) hs vs<=(PR V H).length)
  (R:=λr=>∃(hs vs:List Zb)(A B:List (List Bool)),r=.inr ((V.length:Int),(H.length:Int),toP hs,toP vs,A,B,((PR V H).filter (npB (wyN X Y V H) hs vs)).map (opR V H))/\Mx V.length hs A/\Mx H.length vs B/\Der (PR V H) (wyN X Y V H) h0 v0 hs vs/\Clsd (PR V H) (wyN X Y V H) hs vs) (by unfold big;omega)
  ⟨0,h0,v0,A,B,rfl,m1,m2,i1,i2,.refl,by omega,by unfold ZoR;have:=List.length_filter_le (npB (wyN X Y V H) h0 v0) (PR V H);omega⟩ ?_
 .obtain⟨r,e,hs,vs,A',B',rfl,q1,q2,q3,q4⟩:=key;refine⟨X,Y,V,H,hs,vs,A',B',e1,cx,cy,?_,q1,q2,by rw[hh0,hv0];exact q3,q4⟩;unfold Zv;rw[e1,obs];dsimp only;rw[e2,obs,Zrs (by omega) (by omega),obs];dsimp only;rw[e,obs]
 .rintro _ ⟨j,hs,vs,A,B,rfl,n1,n2,n3,n4,D,len,mu⟩;obtain⟨hs',vs',A',B',O',c',e,I⟩:=Zpb (h0:=h0) (v0:=v0) hc hl cx cy (L0:=128+j) (by omega) (A:=A) (B:=B) ⟨n1,n2,n3,n4,D,by simp,by simpa using len,λ_=>⟨rfl,rfl,by simp,by simp⟩,λh=>(by cases h)⟩;have ilen:=I.len;unfold tK tR at e
  cases c' with
  | false=>
   right;obtain⟨rfl,rfl,f3,f4⟩:=I.f rfl;refine⟨.inr ((V.length:Int),(H.length:Int),toP hs',toP vs',A',B',O'.map (opR V H)),?_,hs',vs',A',B',by rw[<-f3],I.mx,I.my,I.der,λp hp=>?_⟩
   .unfold Zv.s0;dsimp only;rw[Zo (by omega)];have e':Zn (Zv.s1 ⟨X,Y,V,H⟩ ((LN V H).map ZbR)) big ((V.length:Int),(H.length:Int),toP hs',toP vs',A,B,([]:List (A2 Zj)),false,0)=_:=e;rw[e',obs];rfl
   .by_cases c:ptd (wyN X Y V H) hs' vs' p
    .exact .inl c
    .exact .inr (f4 p (by rw[f3];exact List.mem_filter.2 ⟨hp,Zda.2 c⟩))
  |true=>
   left;obtain⟨t1,t2,p,hp,t3,t4⟩:=I.t rfl;have lt:=ZoS t1 t2 hp t3 t4;rw[if_pos rfl]at ilen;refine⟨((V.length:Int),(H.length:Int),toP hs',toP vs',A',B',((j+1:Nat):Int)),?_,⟨j+1,hs',vs',A',B',rfl,I.mx,I.my,I.ih,I.iv,I.der,by omega,by omega⟩,by dsimp only;omega⟩;unfold Zv.s0;dsimp only;rw[Zo (by omega)];have e':Zn (Zv.s1 ⟨X,Y,V,H⟩ ((LN V H).map ZbR)) big ((V.length:Int),(H.length:Int),toP hs,toP vs,A,B,([]:List (A2 Zj)),false,0)=_:=e;rw[e',obs];dsimp only;rw[if_neg (by decide),Zw (by omega)];rfl
end
end Mu
/- SepSettles. -/
namespace Mu
open Go (IntKind)
theorem Der.pre{P:List (Nat×Nat)}{W:Nat->Nat->List Zi}{h0 v0 hs vs:List Zb}(D:Der P W h0 v0 hs vs):∃a b,hs=h0++a/\vs=v0++b/\(∀e∈a,e.Weight=0)/\∀e∈b,e.Weight=0:=by
 induction D with
 |refl=>exact⟨[],[],by simp,by simp,by simp,by simp⟩
 | @step hs vs i k w D hp h e ih=>
  obtain⟨a,b,rfl,rfl,h1,h2⟩:=ih;have w0:∀e∈[Zel w],e.Weight=0:=by intro e he;simp at he;subst he;rfl
  unfold fH fV;by_cases c:w.horizontal=true
  .rw[if_pos c,if_pos c];refine⟨a++[Zel w],b,by simp,rfl,λe he=>?_,h2⟩;rcases List.mem_append.1 he with q|q
   .exact h1 e q
   .exact w0 e q
  .rw[if_neg c,if_neg c];refine⟨a,b++[Zel w],rfl,by simp,h1,λe he=>?_⟩;rcases List.mem_append.1 he with q|q
   .exact h2 e q
   .exact w0 e q
theorem Zrd{W:Nat->Nat->List Zi}{hs vs hs' vs':List Zb}(h:∀b u v,TP hs vs b u v↔TP hs' vs' b u v):npB W hs vs=npB W hs' vs':=by
 have hp:∀w,isP hs vs w↔isP hs' vs' w:=λw=>h w.horizontal _ _;funext p;rw[Bool.eq_iff_iff,Zda,Zda];unfold ptd;simp only[hp]
theorem ZlT{a b:List Zb}(h:a.length+b.length<=1000000):ZG [a,b]=some (a++b):=by
 have e0:Zn (ZG.s0 [a,b]) big (0,0)=some (((a.length+b.length:Nat):Int)):=by
  refine Zaj (λi:Nat=>(((((if 0<i then a.length else 0)+if 1<i then b.length else 0:Nat)):Int),(i:Int))) (n:=2) (zy (by omega)) rfl (λi hi=>?_) ?_
  .rcases(show i=0\/i=1 by omega)with rfl|rfl
   .simp only[ZG.s0];have g:gi [a,b] (((0:Nat):Int)).toNat=a:=rfl;rw[Zo (by simp),Zf (by simp),g,Zw (by simp<;>omega),Zq (by simp<;>omega),Zw (by omega)];simp
   .simp only[ZG.s0];have g:gi [a,b] (((1:Nat):Int)).toNat=b:=rfl;rw[Zo (by simp),Zf (by simp),g,Zw (by simp<;>omega),Zq (by simp<;>omega),Zw (by omega)];simp
  .simp only[ZG.s0];rw[Zq (by simp)];simp
 have e1:Zax ((a.length+b.length:Nat):Int)=some []:=by
  unfold Zax;have n0:(([]:List Zb).length:Int)=0:=rfl;rw[Zq (by omega),obs,n0,Zw (by omega),Zw (by omega)];by_cases c:0<((a.length+b.length:Nat):Int)-(0-0)
  .rw[Zo c,Zf (by omega),Zf (by omega)];rfl
  .rw[Zq c]
 have e2:Zn (ZG.s1 [a,b]) big (([]:List Zb),0)=some (a++b):=by
  refine Zaj (λi:Nat=>((if 0<i then a else [])++(if 1<i then b else []),(i:Int))) (n:=2) (zy (by omega)) rfl (λi hi=>?_) ?_
  .rcases(show i=0\/i=1 by omega)with rfl|rfl
   .simp only[ZG.s1];have g:gi [a,b] (((0:Nat):Int)).toNat=a:=rfl;rw[Zo (by simp),Zf (by simp),g,Zf (by simp<;>omega),Zw (by omega)];simp
   .simp only[ZG.s1];have g:gi [a,b] (((1:Nat):Int)).toNat=b:=rfl;rw[Zo (by simp),Zf (by simp),g,Zf (by simp<;>omega),Zw (by omega)];simp
  .simp only[ZG.s1];rw[Zq (by simp)];simp
 unfold ZG;rw[e0,obs,e1,obs,e2,obs]
theorem ZoG{s:List Bool}(hs:s.length<=1000000):zW s s=some true:=by
 have h:Zn (zW.s0 s s) big 0=some (.inl ()):=by
  refine Zaj (λi:Nat=>(i:Int)) (n:=s.length) (zy (by omega)) rfl (λi hi=>?_) ?_
  .simp only[zW.s0];rw[Zo (by omega),Zf (by omega),Zf (by omega),if_neg (by simp),Zw (by omega)];rfl
  .simp only[zW.s0];rw[Zq (by omega)]
 unfold zW;rw[if_neg (by simp),h];rfl
theorem ZjQ{s:List (List Bool)}(hs:s.length<=1000000)(h:∀i,i<s.length->(gi s i).length<=1000000):Za9 s s=some true:=by
 have e:Zn (zF.s0 s s λy0 y1=>zW y0 y1) big 0=some (.inl ()):=by
  refine Zaj (λi:Nat=>(i:Int)) (n:=s.length) (zy (by omega)) rfl (λi hi=>?_) ?_
  .simp only[zF.s0,itn];rw[Zo (by omega),Zf (by omega),Zf (by omega),ZoG (h i hi),obs,if_neg (by simp),Zw (by omega)];rfl
  .simp only[zF.s0];rw[Zq (by omega)]
 unfold Za9 zF;rw[if_neg (by simp),e];rfl
theorem ZiV{l:List Za}(hl:l.length<=60):ZF l=some true:=by
 unfold ZF;rw[Zrt (by omega)];by_cases hv:Zc2 l=0
 .obtain⟨k,_⟩:=ZdA hv;have hc:=(Zcf.1 k).2;have Ac:=ZlH hv;obtain⟨X,Y,V,H,hs,vs,_,cx,cy,e1,D,C,len,plen,ih,iv⟩:=ZoM hc (by omega) hv Ac;obtain⟨X',Y',V',H',hs',vs',A,B,e2,cx',cy',e3,m1,m2,D',C'⟩:=Zmc hc (by omega) Ac;obtain⟨rfl,rfl⟩:=cx.one_ch hc (by omega) cx';obtain⟨rfl,rfl⟩:=cy.one_ch hc (by omega) cy';obtain⟨p,x,y,N,nc,ok⟩:=Zep hl hv cx cy;have f0:=N.own hc ok;have T1:=C.clT hc cx cy N nc D f0;have T2:=C'.clT hc cx cy N nc D' f0;have same:∀b u v,TP hs vs b u v↔TP hs' vs' b u v:=λb u v=>⟨D.sub T2 b u v,D'.sub T1 b u v⟩;have x3:=cx.Ll;have y3:=cy.Ll;have pl:(2*l.length)*(2*l.length)<=120*120:=Nat.mul_le_mul (by omega) (by omega);have sH:∀u v,Pth hs u v↔Pth hs' u v:=λu v=>same true u v;have sV:∀u v,Pth vs u v↔Pth vs' u v:=λu v=>same false u v;have q1:=Zjm hc (by omega) cx.alen (d:=0) (by omega);have q2:=Zjm hc (by omega) cy.alen (d:=1) (by omega);rw[show((0:Nat):Int)=0 from rfl]at q1;rw[show((1:Nat):Int)=1 from rfl]at q2;rw[e1,obs];dsimp only;rw[obs];dsimp only;rw[hv,Zb2 rfl,e2,obs];dsimp only;rw[q1,obs,q2,obs,e3,obs,<-Zrd same];dsimp only;obtain⟨a,b,eh,ev,w1,w2⟩:=D.pre;generalize hF:(PR V H).filter (npB (wyN X Y V H) hs vs)=F;have fl:F.length<=120*120:=by rw[<-hF];have:=List.length_filter_le (npB (wyN X Y V H) hs vs) (PR V H);omega
  have g1:=Zc1 (l:=l) (of:=X) (d:=0) l.length;have g2:=Zc1 (l:=l) (of:=Y) (d:=1) l.length;obtain⟨L,l1,l2⟩:=Zlk (n:=V.length) (by omega) ih (by omega);obtain⟨M,l3,l4⟩:=Zlk (n:=H.length) (by omega) iv (by omega);have LA:=l2.eq m1 sH;have MB:=l4.eq m2 sV;subst LA MB;have pr1:=ZjR (A:=hs) (by omega);have pr2:=ZjR (A:=vs) (by omega);generalize Zbb l X 0 l.length=h0 at*;generalize Zbb l Y 1 l.length=v0 at*;have t1:hs.take ((h0.length:Int)).toNat=h0:=by rw[eh];simp
  have t2:vs.take ((v0.length:Int)).toNat=v0:=by rw[ev];simp
  have t3:hs.drop ((h0.length:Int)).toNat=a:=by rw[eh];simp
  have t4:vs.drop ((v0.length:Int)).toNat=b:=by rw[ev];simp
  have hl1:hs.length=h0.length+a.length:=by rw[eh];simp
  have hl2:vs.length=v0.length+b.length:=by rw[ev];simp
  have lp:Zn (ZF.s0 ⟨⟨⟨X,Y,V,H⟩,hs,vs⟩,F.map (opL V H)⟩ (F.map (opR V H))) big 0=some (.inl ()):=by
   refine Zaj (λi:Nat=>(i:Int)) (n:=F.length) (zy (by omega)) rfl (λi hi=>?_) ?_
   .have in1:Zn (ZF.s1 ⟨⟨⟨X,Y,V,H⟩,hs,vs⟩,F.map (opL V H)⟩ (F.map (opR V H)) (i:Int)) big 0=some (.inl ()):=by
     refine Zaj (λj:Nat=>(j:Int)) (n:=2) (zy (by omega)) rfl (λj hj=>?_) ?_
     .have:∀j:Nat,j<2->((opL V H (gi F i)).get (j:Int)).Vertical=((opR V H (gi F i)).get (j:Int)).Vertical/\((opL V H (gi F i)).get (j:Int)).Place=((opR V H (gi F i)).get (j:Int)).Place:=λj hj=>by
       rcases(show j=0\/j=1 by omega)with rfl|rfl<;>exact⟨rfl,rfl⟩
      obtain⟨u1,u2⟩:=this j hj;rw[<-ZaR (f:=opL V H) hi,<-ZaR (f:=opR V H) hi]at u1 u2;unfold ZF.s1;dsimp only;rw[itn,Zo (by omega),Zf (by omega),Zf (by simp;omega),if_neg (by simp[u1,u2]),Zw (by omega)];rfl
     .simp only[ZF.s1];rw[Zq (by omega)]
    simp only[ZF.s0,List.length_map];rw[Zo (by omega),Zf (by omega),in1,obs];dsimp only;rw[Zw (by omega)];rfl
   .simp only[ZF.s0,List.length_map];rw[Zq (by omega)]
  have lw:Zn (ZF.s2 (a++b)) big 0=some (.inl ()):=by
   refine Zaj (λi:Nat=>(i:Int)) (n:=(a++b).length) (zy (by simp<;>omega)) rfl (λi hi=>?_) ?_
   .have:(gi (a++b) i).Weight=0:=by
     rcases List.mem_append.1 (zh hi)with q|q
     .exact w1 _ q
     .exact w2 _ q
    have hi':=hi;rw[List.length_append]at hi';simp only[ZF.s2,itn];rw[Zo (by omega),Zf (by omega),if_neg (by simp[this]),Zw (by omega)];rfl
   .simp only[ZF.s2];rw[Zq (by omega)]
  have c0:((((!decide ((0:Int)=0))||(!decide (((F.map (opL V H)).length:Int)=((F.map (opR V H)).length:Int))))||decide ((hs.length:Int)<(h0.length:Int)))||decide ((vs.length:Int)<(v0.length:Int)))=false:=by
   simp;omega
  rw[c0,if_neg Bool.false_ne_true,Zf (by omega),t1,Zlm (by omega),obs,obs,if_neg (by decide),Zf (by omega),t2,Zlm (by omega),obs,obs,if_neg (by decide),lp,obs];dsimp only;rw[Zf (by omega),Zf (by omega),t3,t4,ZlT (by omega),obs,lw,obs];dsimp only;rw[pr1,obs,l1,obs,ZjQ (by rw[m1.len];omega) (λi hi=>by rw[m1.row i (by rw[<-m1.len];exact hi)];omega),obs,if_pos rfl,pr2,obs,l3,obs,ZjQ (by rw[m2.len];omega) (λi hi=>by rw[m2.row i (by rw[<-m2.len];exact hi)];omega),obs]
 .obtain⟨r,e,o1,o2,o3⟩:=ZkC (by omega) hv;rw[e,obs];dsimp only;rw[obs];dsimp only;rw[Zcc hv,o1,o2,o3,if_pos (by simp),Zw (by decide),obs];rfl
theorem ZgN(z:zq)(y:Zau)(raw:List Za)(m1:z.At.length<=Go.maxLen)(b1:∀y∈z.At,Zf3 y)(m2:z.Bits.length<=Go.maxLen)(b2:∀y∈z.Bits,Zf3 y)(m3:z.Own.length<=Go.maxLen)(b3:∀y∈z.Own,ZkV y)(n1:y.Boxes.length<=Go.maxLen)(c1:∀x∈y.Boxes,Zi5 x)(n2:y.Edges.length<=Go.maxLen)(c2:∀x∈y.Edges,ZfK x)(n3:y.Bends.length<=Go.maxLen)(c3:∀x∈y.Bends,Zf3 x)(mr:raw.length<=Go.maxLen)(br:∀y∈raw,Zeu y):Zbn z y raw=some true:=by
 obtain⟨l,pts,e1,hM,hlen⟩:=ZsY (z:=z) (most:=12) (ZuM m1 b1 b3) (by omega);obtain⟨s,e2,hs,_⟩:=ZqT (z:=y) c2 c3 (most:=4) (by omega);obtain⟨w,e3⟩:=Zpn hs;obtain⟨n,e4,hn⟩:=ZuU hs;unfold Zbn;rw[e1,obs];dsimp only;rw[e2,obs,ZlS,obs,if_neg (by decide),ZiV (by omega),obs,obs,if_neg (by decide),Zf (by omega),ZiV (by rw[List.length_take];omega),obs,obs,if_neg (by decide),e3,obs];by_cases c:w=0
 .rw[Zb2 c,e4,obs];by_cases c2:(24:Int)<(n.Cells.length:Int)
  .rw[Zo c2,obs]
  .rw[Zq c2,ZiV (by omega),obs,obs]
 .rw[Zcc c]
end Mu
