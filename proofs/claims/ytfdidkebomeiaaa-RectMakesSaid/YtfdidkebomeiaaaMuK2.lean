/- The law, plainly: what is worked out. -/
import Derived.Test.YtfdidkebomeiaaaMuV
import Derived.Test.YtfdidkebomeiaaaMuDf
import Derived.Test.YtfdidkebomeiaaaMuK0
import Derived.Test.YtfdidkebomeiaaaMuK1
/- Layer 16: SegTells,SegMeets,SegTurns. -/
set_option linter.unusedVariables false
set_option linter.unusedSimpArgs false
set_option maxRecDepth 10000
namespace Mu
theorem Made.allCh {l:List Za}{pts:List Zh}(h:Made l pts) {d:Nat}(hd:d<2):AllCh l d:=by
 have hc:=h.ck
 have hl:=h.len
 obtain ⟨co,hco⟩:∃ co:Nat→Int,co=fun v=>if d=0 then (gi pts v).X else (gi pts v).Y:=⟨_,rfl⟩
 have pos:∀ v,v<l.length→0≤co v∧co v<8:=by
  intro v hv
  have:=h.pts.b v (by omega)
  rw [hco];dsimp only
  split<;>omega
 have key:∀ m v:Nat,v<l.length→co v<(m:Int)→∃ r,Zdy l ((d+2)%4) m v=some r:=by
  intro m
  induction m with
  | zero=>intro v hv hm;have:=pos v hv;omega
  | succ m ih =>
   intro v hv hm
   have hb:=hc.lt hv (d:=(d+2)%4) (by omega)
   rw [Zdy]
   by_cases c:nx l v ((d+2)%4)<0
   ·exact ⟨v,if_pos c⟩
   ·rw [if_neg c]
    have bk:=hc.back (v:=v) (d:=(d+2)%4) (w:=(nx l v ((d+2)%4)).toNat) hv (by omega) (by omega)
    rw [show ((d+2)%4+2)%4=d by omega] at bk
    refine ih _ bk.1 ?_
    rcases h.near _ d bk.1 hd with q|q
    ·omega
    ·rw [bk.2] at q
     rcases q with ⟨q,_⟩|⟨j,e,_,q,_⟩
     ·omega
     ·have:j=v:=by omega
      subst this
      have:=q.2
      rw [hco] at hm ⊢
      dsimp only at hm ⊢
      by_cases z:d=0
      ·rw [if_pos z] at this hm ⊢; omega
      ·rw [if_neg z] at this hm ⊢; omega
 intro v hv
 have:=pos v hv
 obtain ⟨r,hr⟩:=key 8 v hv (by omega)
 obtain ⟨C,hC,_,i,hi,e⟩:=Zfg hc (by omega) 8 v r hv hr
 exact ⟨C,hC,by rw [← e];exact Zao hi⟩
theorem IsCh.move {l m:List Za}{d e:Nat}{C:List Int}(h:IsCh l d C) (hl:m.length=l.length) (h1:∀ v,v<l.length→nx m v e=nx l v d) (h2:∀ v,v<l.length→nx m v ((e+2)%4)=nx l v ((d+2)%4)):IsCh m e C:=by
 have hne:=h.ne
 refine ⟨h.ne,fun i hi=>by rw [hl];exact h.lt i hi,fun i hi=>?_,?_,?_⟩
 ·have:=h.lt i (by omega)
  rw [h1 _ (by omega)];exact h.nxt i hi
 ·have:=h.lt (C.length-1) (by omega)
  rw [h1 _ (by omega)];exact h.fin
 ·have:=h.lt 0 h.ne
  rw [h2 _ (by omega)];exact h.beg
theorem CH.small {l:List Za}(hc:Ck l) {d:Nat}(hd:d<4) {a:List Int}{L:List (List Int)}(h:CH l d a L) {i:Nat}(hi:i<L.length):(gi L i).length≤l.length:=(h.ch i hi).len hc hd
def cl (L:List (List Int)) (i:Int):List Int:=if i<0∨(L.length:Int)≤i then [] else gi L i.toNat
theorem Zjm {l:List Za}{d:Nat}{a:List Int}{L:List (List Int)}(h:CH l d a L) {v i:Int}:v∈cl L i↔0≤v∧v<l.length∧gi a v.toNat=i:=by
 unfold cl
 constructor
 ·intro hm
  by_cases c:i<0∨(L.length:Int)≤i
  ·rw [if_pos c] at hm;simp at hm
  ·rw [if_neg c] at hm
   obtain ⟨j,hj,e⟩:=List.mem_iff_getElem.1 hm
   have lt:=(h.ch i.toNat (by omega)).lt j hj
   rw [ZaM hj,e] at lt
   have:=h.one i.toNat v.toNat (by omega) (by omega) (by rw [Int.toNat_of_nonneg lt.1];exact hm)
   exact ⟨lt.1,lt.2,by omega⟩
 ·rintro ⟨h0,h1,h2⟩
  obtain ⟨j,j1,j2,j3⟩:=h.mem v.toNat (by omega)
  rw [if_neg (by omega),show i.toNat=j by omega]
  rwa [Int.toNat_of_nonneg h0] at j3
theorem Zms {l:List Za}(hc:Ck l) {d:Nat}(hd:d<4) {a:List Int}{L:List (List Int)}(h:CH l d a L) {i:Int}:(cl L i).length≤l.length:=by
 unfold cl
 split
 ·simp
 ·exact h.small hc hd (by omega)
theorem ZjS {α:Type}{c:Bool}{a b:α}:(if c=true then some a else some b)=some (if c=true then a else b):=by cases c<;>rfl
end Mu
/- Old cells' lines,laid over rectangles: those that have no cell in common are apart. -/
namespace Mu
inductive TH (m:List Za) (n0:Nat) (hm:Nat→Option Da) (v d:Nat):Nat→Nat→Prop
 | one {a b:Nat}:a<m.length→nx m a d=b→TH m n0 hm v d a b
 | step {a c b:Nat}:a<m.length→nx m a d=c→n0≤c→hm c=some (v,d)→TH m n0 hm v d c b→TH m n0 hm v d a b
def KH (l m:List Za):Prop:=l.length≤m.length∧∃ hm:Nat→Option Da,∀ v d w:Nat,v<l.length→d<2→nx l v d=w→TH m l.length hm v d v w
theorem KH.refl (l:List Za):KH l l:=⟨Nat.le_refl _,fun _=>none,fun v d w hv hd h=>.one hv h⟩
theorem Framed.kh {l F:List Za}{v d:Nat}(h:Framed l F v d):KH l F:=by
 have hl:=h.len
 refine ⟨by omega,fun _=>none,fun a e w ha he hw=>?_⟩
 have o:=h.old a e ha (by omega)
 by_cases c:a=v∧e=d
 ·have:=o.1 c;omega
 ·have:=o.2 c
  exact .one (by omega) (by rw [this.1];exact hw)
theorem TH.add {l m:List Za}(hlen:l.length≤m.length) {n0 d v:Nat}{hm:Nat→Option Da}(hd:d<4) (h:∀ i e,i<l.length→e<4→0≤nx l i e→nx m i e=nx l i e) {a b:Nat}(t:TH l n0 hm v d a b):TH m n0 hm v d a b:=by
 induction t with
 | one h1 h2=>exact .one (by omega) (by rw [h _ _ h1 hd (by omega)];exact h2)
 | step h1 h2 h3 h4 h5 ih=>exact .step (by omega) (by rw [h _ _ h1 hd (by omega)];exact h2) h3 h4 ih
def Zl8 (l:List Za) (n0:Nat) (hm:Nat→Option Da) (p q w x:Nat):Option Da :=
 if x=l.length then (if q<2 then (if p<n0 then some (p,q) else hm p) else (if w<n0 then some (w,(q+2)%4) else hm w)) else hm x
theorem TH.spl {l m:List Za}{p q w:Nat}(hc:Ck l) (S:Sp l m p q w) {n0 d v:Nat}{hm:Nat→Option Da}(hd:d<2) (hv:v<n0) (hn:n0≤l.length) {a b:Nat}(t:TH l n0 hm v d a b) (inv:a=v∨(n0≤a∧hm a=some (v,d))):TH m n0 (Zl8 l n0 hm p q w) v d a b:=by
 have hne:=S.hne
 have hp:=S.ha
 have hw:=S.hw
 have hq:=S.hb
 have hlen:=S.len
 have hb:=S.back hc
 have st:∀ {a c:Nat},a<l.length→nx l a d=c→nx m a d=c∨(nx m a d=l.length∧nx m l.length d=c∧((a=p∧d=q)∨(a=w∧d=(q+2)%4))):=by
  intro a c ha h1
  have n1:=S.nx a d (by omega) (by omega)
  have n2:=S.nx l.length d (by omega) (by omega)
  rw [if_neg (by omega)] at n1
  rw [if_pos rfl] at n2
  by_cases c1:a=w∧d=(q+2)%4
  ·right
   rw [if_pos c1] at n1
   rw [if_neg (by omega),if_pos c1.2] at n2
   refine ⟨n1,?_,.inr c1⟩
   rw [n2]
   rw [c1.1,c1.2,hb] at h1;exact h1
  ·rw [if_neg c1] at n1
   by_cases c2:a=p∧d=q
   ·right
    rw [if_pos c2] at n1
    rw [if_pos c2.2] at n2
    refine ⟨n1,?_,.inl c2⟩
    rw [n2]
    have:=S.hn
    rw [c2.1,c2.2] at h1;omega
   ·left
    rw [if_neg c2] at n1
    exact n1.trans h1
 have hh:∀ {a:Nat},(a=v∨(n0≤a∧hm a=some (v,d)))→((a=p∧d=q)∨(a=w∧d=(q+2)%4))→Zl8 l n0 hm p q w l.length=some (v,d):=by
  intro a inv k
  unfold Zl8
  rw [if_pos rfl]
  rcases k with ⟨k1,k2⟩|⟨k1,k2⟩
  ·rw [if_pos (by omega),← k1,← k2]
   rcases inv with i|⟨i,j⟩
   ·rw [if_pos (by omega),i]
   ·rw [if_neg (by omega),j]
  ·rw [if_neg (by omega),← k1,← k2]
   rcases inv with i|⟨i,j⟩
   ·rw [if_pos (by omega),i]
   ·rw [if_neg (by omega),j]
 have old:∀ {c:Nat},c<l.length→hm c=some (v,d)→Zl8 l n0 hm p q w c=some (v,d):=by
  intro c h1 h2
  unfold Zl8
  rw [if_neg (by omega)];exact h2
 induction t with
 | one h1 h2 =>
  rcases st h1 h2 with a1|⟨a1,a2,k⟩
  ·exact .one (by omega) a1
  ·exact .step (by omega) a1 hn (hh inv k) (.one (by omega) a2)
 | step h1 h2 h3 h4 h5 ih =>
  have t':=ih (.inr ⟨h3,h4⟩)
  have lc:=(hc.back' h1 (show d<4 by omega) h2).1
  rcases st h1 h2 with a1|⟨a1,a2,k⟩
  ·exact .step (by omega) a1 h3 (old lc h4) t'
  ·exact .step (by omega) a1 hn (hh inv k) (.step (by omega) a2 h3 (old lc h4) t')
theorem KH.cut {l m m':List Za}(hm:Ck m) (K:KH l m) (C:Cut m m'):KH l m':=by
 obtain ⟨l1,a,b,w,v,d,S,rfl,D,hv,hd,f1,f2⟩:=C.sub
 have len:=S.len
 obtain ⟨kl,hom,kt⟩:=K
 refine ⟨by rw [Zab,len];omega,Zl8 m l.length hom a b w,fun p e q hp he hq=>?_⟩
 refine ((kt p e q hp he hq).spl hm S he hp kl (.inl rfl)).add (by rw [Zab];exact Nat.le_refl _) (by omega) fun i e hi he h0=>?_
 have:=(Zd6 (l:=l1) (v:=v) (w:=m.length) (d:=d) (o:=-2) (by omega) (by omega) (by omega) hd hi he).1
 by_cases c1:i=v∧e=d
 ·rw [c1.1,c1.2] at h0;omega
 ·by_cases c2:i=m.length∧e=(d+2)%4
  ·rw [c2.1,c2.2] at h0;omega
  ·rw [if_neg c1,if_neg c2] at this
   exact this
theorem KH.cuts {l F:List Za}(hF:Ck F) (K:KH l F) {n:Nat}{m:List Za}(C:Cuts F n m):KH l m:=by
 induction C with
 | zero=>exact K
 | succ C h ih=>exact ih.cut (C.props hF) h
variable {l m:List Za}{X Y:Nat→Int}
theorem TH.end' (hS:Str m X Y) (hc:Ck m) {n0 d v:Nat}{hm:Nat→Option Da}(hd:d<4) {a b:Nat}(t:TH m n0 hm v d a b):b<m.length∧al X Y d a<al X Y d b∧ac X Y d a=ac X Y d b:=by
 induction t with
 | @one a b h1 h2 =>
  have lb:=(hc.back' h1 hd h2).1
  have:=hS (a,d) ⟨h1,hd,by rw [h2];omega⟩
  have e:tg m (a,d)=b:=by unfold tg;rw [h2];omega
  rw [e] at this
  exact ⟨lb,this⟩
 | @step a c b h1 h2 h3 h4 h5 ih =>
  have:=hS (a,d) ⟨h1,hd,by rw [h2];omega⟩
  have e:tg m (a,d)=c:=by unfold tg;rw [h2];omega
  rw [e] at this
  dsimp only at this
  exact ⟨ih.1,by omega,by omega⟩
theorem TH.cov (hS:Str m X Y) (hc:Ck m) {n0 d v:Nat}{hm:Nat→Option Da}(hd:d<4) {a b:Nat}(th:TH m n0 hm v d a b) {t:Int}(h1:al X Y d a≤t) (h2:t≤al X Y d b) (inv:a=v∨(n0≤a∧hm a=some (v,d))) :
  (∃ z,z<m.length∧(z=b∨z=v∨(n0≤z∧hm z=some (v,d)))∧al X Y d z=t∧ac X Y d z=ac X Y d a) ∨
  ∃ z,isD m (z,d)∧(z=v∨(n0≤z∧hm z=some (v,d)))∧al X Y d z<t∧t<al X Y d (tg m (z,d))∧ac X Y d z=ac X Y d a:=by
 induction th with
 | @one a b g1 g2 =>
  have lb:=(hc.back' g1 hd g2).1
  have dd:isD m (a,d):=⟨g1,hd,by rw [g2];omega⟩
  have:=hS (a,d) dd
  have e:tg m (a,d)=b:=by unfold tg;rw [g2];omega
  rw [e] at this
  dsimp only at this
  by_cases c1:t=al X Y d a
  ·exact .inl ⟨a,g1,.inr inv,c1.symm,rfl⟩
  ·by_cases c2:t=al X Y d b
   ·exact .inl ⟨b,lb,.inl rfl,c2.symm,by omega⟩
   ·exact .inr ⟨a,dd,inv,by omega,by rw [e];omega,rfl⟩
 | @step a c b g1 g2 g3 g4 g5 ih =>
  have dd:isD m (a,d):=⟨g1,hd,by rw [g2];omega⟩
  have:=hS (a,d) dd
  have e:tg m (a,d)=c:=by unfold tg;rw [g2];omega
  rw [e] at this
  dsimp only at this
  by_cases c2:al X Y d c≤t
  ·rcases ih c2 h2 (.inr ⟨g3,g4⟩) with ⟨z,z1,z2,z3,z4⟩|⟨z,z1,z2,z3,z4,z5⟩
   ·exact .inl ⟨z,z1,z2,z3,by omega⟩
   ·exact .inr ⟨z,z1,z2,z3,z4,by omega⟩
  ·by_cases c1:t=al X Y d a
   ·exact .inl ⟨a,g1,.inr inv,c1.symm,rfl⟩
   ·exact .inr ⟨a,dd,inv,by omega,by rw [e];omega,rfl⟩
def OnL (l:List Za) (hm:Nat→Option Da) (d:Nat) (C:List Int) (z:Nat):Prop:=(z:Int)∈C∧z<l.length∨(l.length≤z∧∃ v,hm z=some (v,d)∧(v:Int)∈C)
theorem ZiQ (hS:Str m X Y) (hc:Ck m) {hm:Nat→Option Da}(kl:l.length≤m.length) (kt:∀ v d w:Nat,v<l.length→d<2→nx l v d=w→TH m l.length hm v d v w) {d:Nat}(hd:d<2) {C:List Int}(h:IsCh l d C):∀ (k:Nat),k<C.length →
  al X Y d (gi C 0).toNat≤al X Y d (gi C k).toNat∧ac X Y d (gi C k).toNat=ac X Y d (gi C 0).toNat∧∀ t,al X Y d (gi C 0).toNat≤t→t≤al X Y d (gi C k).toNat →
  (∃ z,z<m.length∧OnL l hm d C z∧al X Y d z=t∧ac X Y d z=ac X Y d (gi C 0).toNat)∨∃ z,isD m (z,d)∧OnL l hm d C z∧al X Y d z<t∧t<al X Y d (tg m (z,d))∧ac X Y d z=ac X Y d (gi C 0).toNat:=by
 have old:∀ k,k<C.length→OnL l hm d C (gi C k).toNat∧(gi C k).toNat<l.length:=fun k hk=>by
  have:=h.lt k hk
  refine ⟨.inl ⟨?_,by omega⟩,by omega⟩
  rw [show (((gi C k).toNat:Nat):Int)=gi C k by omega];exact Zao hk
 intro k
 induction k with
 | zero=>exact fun h0=>⟨Int.le_refl _,rfl,fun t h1 h2=>.inl ⟨_,by have:=(old 0 h0).2;omega,(old 0 h0).1,by omega,rfl⟩⟩
 | succ k ih =>
  intro hk
  obtain ⟨i1,i2,i3⟩:=ih (by omega)
  have lk:=h.lt k (by omega)
  have lk1:=h.lt (k+1) hk
  have th:=kt (gi C k).toNat d (gi C (k+1)).toNat (by omega) hd (by rw [h.nxt k hk];omega)
  have e:=th.end' hS hc (by omega)
  refine ⟨by omega,by omega,fun t h1 h2=>?_⟩
  by_cases c:t≤al X Y d (gi C k).toNat
  ·exact i3 t h1 c
  ·have to:∀ z,z=(gi C k).toNat∨(l.length≤z∧hm z=some ((gi C k).toNat,d))→OnL l hm d C z:=by
    rintro z (z2|⟨z2,z3⟩)
    ·rw [z2];exact (old k (by omega)).1
    ·refine .inr ⟨z2,_,z3,?_⟩
     rw [show (((gi C k).toNat:Nat):Int)=gi C k by omega];exact Zao (by omega)
   rcases th.cov hS hc (by omega) (t:=t) (by omega) h2 (.inl rfl) with ⟨z,z1,z2,z3,z4⟩|⟨z,z1,z2,z3,z4,z5⟩
   ·refine .inl ⟨z,z1,?_,z3,by omega⟩
    rcases z2 with z2|z2
    ·rw [z2];exact (old _ hk).1
    ·exact to z z2
   ·exact .inr ⟨z,z1,to z z2,z3,z4,by omega⟩
theorem Zkz (R:Rec m X Y) (hdeg:∀ z,z<m.length→∃ e,e<4∧0≤nx m z e) {hm:Nat→Option Da}(kl:l.length≤m.length) (kt:∀ v d w:Nat,v<l.length→d<2→nx l v d=w→TH m l.length hm v d v w) {d d':Nat}(hd:d<2) (hd':d'<2) {C C':List Int}(h:IsCh l d C) (h':IsCh l d' C') {x y:Int}
  (p1:al X Y d (gi C 0).toNat≤(if d=0 then x else y)) (p2:(if d=0 then x else y)≤al X Y d (gi C (C.length-1)).toNat) (p3:ac X Y d (gi C 0).toNat=if d=0 then y else x)
  (q1:al X Y d' (gi C' 0).toNat≤(if d'=0 then x else y)) (q2:(if d'=0 then x else y)≤al X Y d' (gi C' (C'.length-1)).toNat) (q3:ac X Y d' (gi C' 0).toNat=if d'=0 then y else x):∃ v,v∈C∧v∈C':=by
 have hc:=R.ck
 have hS:=R.str
 have ne:=h.ne
 have ne':=h'.ne
 have A:=(ZiQ hS hc kl kt hd h (C.length-1) (by omega)).2.2 _ p1 p2
 have B:=(ZiQ hS hc kl kt hd' h' (C'.length-1) (by omega)).2.2 _ q1 q2
 rw [p3] at A
 rw [q3] at B
 -- a cell of both
 have both:∀ z,OnL l hm d C z→OnL l hm d' C' z→∃ v,v∈C∧v∈C':=by
  rintro z (⟨a1,a2⟩|⟨a1,v,a2,a3⟩) (⟨b1,b2⟩|⟨b1,w,b2,b3⟩)
  ·exact ⟨z,a1,b1⟩
  ·omega
  ·omega
  ·rw [a2] at b2
   have:=congrArg Prod.fst (Option.some.inj b2)
   dsimp only at this
   exact ⟨v,a3,by rw [this];exact b3⟩
 have V:∀ z w,z<m.length→w<m.length→X z=X w→Y z=Y w→z=w:=by
  intro z w hz hw ex ey
  obtain ⟨e,he,h0⟩:=hdeg z hz
  obtain ⟨e1,he1,h1⟩:=hdeg w hw
  exact R.V hz he h0 hw he1 h1 ex ey
 have E:∀ z d,isD m (z,d)→∀ w,w<m.length→ac X Y d w=ac X Y d z→al X Y d z<al X Y d w→al X Y d w<al X Y d (tg m (z,d))→False:=by
  intro z d hz w hw a b c
  obtain ⟨e1,he1,h1⟩:=hdeg w hw
  exact R.E hz hw he1 h1 a b c
 have d01:d=0∨d=1:=by omega
 have d01':d'=0∨d'=1:=by omega
 rcases A with ⟨z,z1,z2,z3,z4⟩|⟨z,z1,z2,z3,z4,z5⟩<;>rcases B with ⟨w,w1,w2,w3,w4⟩|⟨w,w1,w2,w3,w4,w5⟩
 ·have:z=w:=by
   refine V z w z1 w1 ?_ ?_<;>rcases d01 with rfl|rfl<;>rcases d01' with rfl|rfl<;>simp [al,ac] at z3 z4 w3 w4<;>omega
  rw [← this] at w2
  exact both z z2 w2
 ·exfalso
  refine E w d' w1 z z1 ?_ ?_ ?_<;>rcases d01 with rfl|rfl<;>rcases d01' with rfl|rfl<;>simp [al,ac] at z3 z4 w3 w4 w5 ⊢ <;> omega
 ·exfalso
  refine E z d z1 w w1 ?_ ?_ ?_<;>rcases d01 with rfl|rfl<;>rcases d01' with rfl|rfl<;>simp [al,ac] at z3 z4 z5 w3 w4 ⊢ <;> omega
 ·by_cases dd:d=d'
  ·subst dd
   by_cases c1:al X Y d z<al X Y d w
   ·exfalso
    exact E z d z1 w w1.1 (by omega) c1 (by omega)
   ·by_cases c2:al X Y d w<al X Y d z
    ·exfalso
     exact E w d w1 z z1.1 (by omega) c2 (by omega)
    ·have:z=w:=by
      refine V z w z1.1 w1.1 ?_ ?_<;>rcases d01 with rfl|rfl<;>simp [al,ac] at c1 c2 z5 w5<;>omega
     rw [← this] at w2
     exact both z z2 w2
  ·exfalso
   rcases d01 with rfl|rfl<;>rcases d01' with rfl|rfl
   ·exact dd rfl
   ·simp [al,ac] at z3 z4 z5 w3 w4 w5
    exact R.Xs z1 w1 rfl rfl (by dsimp only;omega) (by dsimp only;omega) (by dsimp only;omega) (by dsimp only;omega)
   ·simp [al,ac] at z3 z4 z5 w3 w4 w5
    exact R.Xs w1 z1 rfl rfl (by dsimp only;omega) (by dsimp only;omega) (by dsimp only;omega) (by dsimp only;omega)
   ·exact dd rfl
end Mu
/- Layer 16: SegTells,SegTurns. -/
namespace Mu
end Mu
/- Layer 17: lengths of edges. -/
namespace Mu
def strt (d:Nat) (a b:Zh):Prop:=if d=0 then a.Y=b.Y∧a.X<b.X else a.X=b.X∧a.Y<b.Y
instance {d:Nat}{a b:Zh}:Decidable (strt d a b):=by unfold strt;infer_instance
def wt (o:Int):Int:=if 0≤o then 1 else 0
def okE (l:List Za) (p:List Zh) (v d:Nat):Prop:=nx l v d<0∨strt d (gi p v) (gi p (nx l v d).toNat)
instance {l:List Za}{p:List Zh}{v d:Nat}:Decidable (okE l p v d):=by unfold okE;infer_instance
end Mu
/- Layer 17: graphs,places,ArcsFit. -/
namespace Mu
theorem CH.next {l:List Za}(hc:Ck l) {d:Nat}(hd:d<4) {a:List Int}{L:List (List Int)}(h:CH l d a L) {v w:Nat}(hv:v<l.length) (hw:nx l v d=w):w<l.length∧gi a v=gi a w:=by
 have bk:=hc.back hv hd hw
 obtain ⟨i,i1,i2,i3⟩:=h.mem v hv
 have hC:=h.ch i i1
 obtain ⟨j,hj,e⟩:=List.mem_iff_getElem.1 i3
 have ej:gi (gi L i) j=v:=by rw [ZaM hj];exact e
 have n:=Zlg hC hj
 rw [ej,itn,hw] at n
 by_cases c:j+1<(gi L i).length
 ·rw [Zjd c] at n
  exact ⟨bk.1,by rw [i2,h.one i w i1 bk.1 (n ▸ Zao c)]⟩
 ·rw [show j+1=(gi L i).length by omega,Zje] at n
  omega
def Zeo (l:List Za) (of:List Int) (d:Nat):Nat→List ZA
 | 0=>[]
 | n+1=>if nx l n d<0 then Zeo l of d n else Zeo l of d n++[⟨gi of n,gi of (nx l n d).toNat,wt (ow l n d)⟩]
theorem ZhE {l:List Za}{of:List Int}{d:Nat}:∀ n,(Zeo l of d n).length≤n
 | 0=>by simp [Zeo]
 | n+1=>by
  have:=ZhE (l:=l) (of:=of) (d:=d) n
  rw [Zeo]
  split
  ·omega
  ·rw [List.length_append,List.length_singleton];omega
theorem Ze2 {l:List Za}{of:List Int}{d:Nat}{e:ZA}:∀ n,e∈Zeo l of d n↔∃ v,v<n∧0≤nx l v d∧e=⟨gi of v,gi of (nx l v d).toNat,wt (ow l v d)⟩
 | 0=>by
  constructor
  ·intro h;simp [Zeo] at h
  ·rintro ⟨v,hv,_⟩;omega
 | n+1=>by
  have ih:=Ze2 (l:=l) (of:=of) (d:=d) (e:=e) n
  rw [Zeo]
  by_cases c:nx l n d<0
  ·rw [if_pos c,ih]
   constructor
   ·rintro ⟨v,h1,h2⟩;exact ⟨v,by omega,h2⟩
   ·rintro ⟨v,h1,h2,h3⟩
    have:v≠n:=by rintro rfl;omega
    exact ⟨v,by omega,h2,h3⟩
  ·rw [if_neg c,List.mem_append,List.mem_singleton,ih]
   constructor
   ·rintro (⟨v,h1,h2⟩|h)
    ·exact ⟨v,by omega,h2⟩
    ·exact ⟨n,by omega,by omega,h⟩
   ·rintro ⟨v,h1,h2,h3⟩
    by_cases q:v=n
    ·subst q;exact .inr h3
    ·exact .inl ⟨v,by omega,h2,h3⟩
def InR (n:Nat) (arcs:List ZA):Prop:=∀ a∈arcs,(0≤a.From∧a.From<n)∧(0≤a.To∧a.To<n)
theorem CH.rng {l:List Za}{d:Nat}{a:List Int}{L:List (List Int)}(h:CH l d a L) {v:Nat}(hv:v<l.length):0≤gi a v∧gi a v<L.length:=by
 obtain ⟨i,i1,i2,_⟩:=h.mem v hv
 omega
theorem Zpr {l:List Za}(hc:Ck l) {k d:Nat}(hd:d<4) {a:List Int}{L:List (List Int)}(h:CH l k a L):InR L.length (Zeo l a d l.length):=by
 intro e he
 obtain ⟨v,hv,h0,rfl⟩:=(Ze2 _).1 he
 have:=hc.lt hv hd
 exact ⟨h.rng hv,h.rng (by omega)⟩
def Zc9 (X Y a b:List Int) (n:Nat):List Zh:=(List.range n).map fun v=>⟨gi a (gi X v).toNat,gi b (gi Y v).toNat⟩
theorem Zg5 {X Y a b:List Int}{n v:Nat}(h:v<n):gi (Zc9 X Y a b n) v=⟨gi a (gi X v).toNat,gi b (gi Y v).toNat⟩:=Zb4 h
theorem ZgM {X Y a b:List Int}{n:Nat}:(Zc9 X Y a b n).length=n:=by simp [Zc9]
theorem ZlD {l:List Za}(hc:Ck l) {X Y a b:List Int}{V H:List (List Int)}(cx:CH l 1 X V) (cy:CH l 0 Y H):(∀ v,v<l.length→okE l (Zc9 X Y a b l.length) v 0∧okE l (Zc9 X Y a b l.length) v 1)↔(∀ e∈Zeo l X 0 l.length,gi a e.From.toNat<gi a e.To.toNat)∧∀ e∈Zeo l Y 1 l.length,gi b e.From.toNat<gi b e.To.toNat:=by
 have E0:∀ v,v<l.length→0≤nx l v 0→(okE l (Zc9 X Y a b l.length) v 0↔gi a (gi X v).toNat<gi a (gi X (nx l v 0).toNat).toNat):=by
  intro v hv h0
  have n:=cy.next hc (by omega) hv (w:=(nx l v 0).toNat) (by omega)
  unfold okE strt
  rw [Zg5 hv,Zg5 n.1,if_pos rfl]
  dsimp only
  rw [n.2]
  constructor
  ·rintro (h|h)
   ·omega
   ·exact h.2
  ·intro h;exact .inr ⟨rfl,h⟩
 have E1:∀ v,v<l.length→0≤nx l v 1→(okE l (Zc9 X Y a b l.length) v 1↔gi b (gi Y v).toNat<gi b (gi Y (nx l v 1).toNat).toNat):=by
  intro v hv h0
  have n:=cx.next hc (by omega) hv (w:=(nx l v 1).toNat) (by omega)
  unfold okE strt
  rw [Zg5 hv,Zg5 n.1,if_neg (by decide)]
  dsimp only
  rw [n.2]
  constructor
  ·rintro (h|h)
   ·omega
   ·exact h.2
  ·intro h;exact .inr ⟨rfl,h⟩
 constructor
 ·intro h
  constructor
  ·intro e he
   obtain ⟨v,hv,h0,rfl⟩:=(Ze2 _).1 he
   exact (E0 v hv h0).1 (h v hv).1
  ·intro e he
   obtain ⟨v,hv,h0,rfl⟩:=(Ze2 _).1 he
   exact (E1 v hv h0).1 (h v hv).2
 ·rintro ⟨h1,h2⟩ v hv
  constructor
  ·by_cases c:nx l v 0<0
   ·exact .inl c
   ·exact (E0 v hv (by omega)).2 (h1 _ ((Ze2 _).2 ⟨v,hv,by omega,rfl⟩))
  ·by_cases c:nx l v 1<0
   ·exact .inl c
   ·exact (E1 v hv (by omega)).2 (h2 _ ((Ze2 _).2 ⟨v,hv,by omega,rfl⟩))
end Mu
/- Layer 17: ArcsFit. -/
namespace Mu
end Mu
/- Layer 17: the document's graphs;ArcsTell. -/
namespace Mu
theorem Znc {l:List Za}(hc:Ck l) (hl:l.length≤1000) {of:List Int}(ho:of.length=l.length) {d:Nat}(hd:d<4):zW l d of=some (Zeo l of d l.length):=by
 unfold zW
 rw [ZgX (x:=Zeo l of d l.length)]
 refine ZbP (fun n:Nat=>(Zeo l of d n,(n:Int))) (n:=l.length) (ZaN (by omega)) rfl (fun n hn=>?_) ?_
 ·have hlt:=hc.lt hn hd
  have e:(gi l n).Next.get (d:Int)=nx l n d:=rfl
  have eo:(gi l n).Owner.get (d:Int)=ow l n d:=rfl
  have gl:=ZhE (l:=l) (of:=of) (d:=d) n
  simp only [zW.s0]
  rw [ZB (by omega),Zt (by omega),Zt (by omega),itn,e,eo,Zeo]
  by_cases c:nx l n d<0
  ·rw [ZB c,zN (by omega),if_pos c,show ((n+1:Nat):Int)=(n:Int)+1 by omega]
  ·rw [Z9 (by omega),Zt (by omega),Zt (by omega),if_neg c,show ((n+1:Nat):Int)=(n:Int)+1 by omega]
   unfold wt
   by_cases o:0≤ow l n d
   ·rw [ZB o,if_pos o,Zt (by simp;omega),zN (by omega)]
   ·rw [Z9 o,if_neg o,Zt (by simp;omega),zN (by omega)]
 ·simp only [zW.s0]
  rw [Z9 (by omega)]
end Mu
/- Layer 17: ArcsTurn. -/
namespace Mu
theorem Made.strt {l:List Za}{pts:List Zh}(h:Made l pts) {v d w:Nat}(hv:v<l.length) (hd:d<2) (hw:nx l v d=w):strt d (gi pts v) (gi pts w):=by
 rcases h.near v d hv hd with q|q
 ·omega
 ·rw [hw] at q
  rcases q with ⟨q,_⟩|⟨j,e,_,q,_⟩
  ·omega
  ·have:j=w:=by omega
   subst this
   have:=q.2
   unfold Mu.strt
   by_cases z:d=0
   ·rw [if_pos z] at this ⊢; exact ⟨this.1.symm,this.2⟩
   ·rw [if_neg z] at this ⊢; exact ⟨this.1.symm,this.2⟩
theorem Made.okE {l:List Za}{pts:List Zh}(h:Made l pts) {v d:Nat}(hv:v<l.length) (hd:d<2):okE l pts v d:=by
 by_cases c:nx l v d<0
 ·exact .inl c
 ·exact .inr (h.strt hv hd (by omega))
end Mu
/- Layer 17: ArcsPlace. -/
namespace Mu
theorem ZpJ {l:List Za}(hl:l.length≤1000) {X Y a b:List Int}{V H:List (List Int)}(cx:CH l 1 X V) (cy:CH l 0 Y H) (ha:a.length=V.length) (hb:b.length=H.length):Zaj ⟨X,Y,V,H⟩ a b=some (Zc9 X Y a b l.length):=by
 have x1:=cx.alen
 have y1:=cy.alen
 unfold Zaj
 rw [ZgX (x:=Zc9 X Y a b l.length)]
 refine ZbP (fun k:Nat=>(Zc9 X Y a b k,(k:Int))) (n:=l.length) (ZaN (by omega)) rfl (fun k hk=>?_) ?_
 ·have r1:=cx.rng hk
  have r2:=cy.rng hk
  simp only [Zaj.s0]
  rw [ZB (by omega),Zt (by omega),itn,Zt (by omega),Zt (by omega),Zt (by omega),Zt (by simp [Zc9];omega),zN (by omega),show ((k+1:Nat):Int)=(k:Int)+1 by omega]
  unfold Zc9
  rw [List.range_succ,List.map_append]
  rfl
 ·simp only [Zaj.s0]
  rw [Z9 (by omega)]
theorem ZlI {l:List Za}(hc:Ck l) (hl:l.length≤1000) {p:List Zh}(hp:p.length=l.length):zE l p=some (decide (∀ v,v<l.length→okE l p v 0∧okE l p v 1)):=by
 have row:∀ v,v<l.length→zE.s0 l p (v:Int)=some (if okE l p v 0∧okE l p v 1 then .inl ((v:Int)+1) else .inr (.inr ())):=by
  intro v hv
  have l0:=hc.lt hv (d:=0) (by omega)
  have l1:=hc.lt hv (d:=1) (by omega)
  have e0:(gi l v).Next.get 0=nx l v 0:=rfl
  have e1:(gi l v).Next.get 1=nx l v 1:=rfl
  have A0:okE l p v 0↔¬ (0≤nx l v 0∧((gi p (nx l v 0).toNat).Y≠(gi p v).Y∨(gi p (nx l v 0).toNat).X≤(gi p v).X)):=by
   unfold Mu.okE Mu.strt
   rw [if_pos rfl]
   omega
  have A1:okE l p v 1↔¬ (0≤nx l v 1∧((gi p (nx l v 1).toNat).X≠(gi p v).X∨(gi p (nx l v 1).toNat).Y≤(gi p v).Y)):=by
   unfold Mu.okE Mu.strt
   rw [if_neg (by decide)]
   omega
  have B0:(if decide (0≤nx l v 0)=true then ck ((0:Int)≤(max (nx l v 0) 0)∧(max (nx l v 0) 0)<(p.length:Int)) <| ck ((0:Int)≤(v:Int)∧(v:Int)<(p.length:Int)) <| some ((!(decide ((gi p (max (nx l v 0) 0).toNat).Y=(gi p v).Y)))||(decide (((gi p (max (nx l v 0) 0).toNat).X)≤((gi p v).X)))) else some false)=some (!decide (okE l p v 0)):=by
   by_cases c:0≤nx l v 0
   ·rw [ZB c,Zt (by omega),Zt (by omega),show max (nx l v 0) 0=nx l v 0 by omega]
    congr 1
    rw [Bool.eq_iff_iff]
    simp only [Bool.or_eq_true,Bool.not_eq_true',decide_eq_true_eq,decide_eq_false_iff_not,A0]
    omega
   ·rw [Z9 c,Zbx (A0.2 fun h=>c h.1)];rfl
  have B1:(if decide (0≤nx l v 1)=true then ck ((0:Int)≤(max (nx l v 1) 0)∧(max (nx l v 1) 0)<(p.length:Int)) <| ck ((0:Int)≤(v:Int)∧(v:Int)<(p.length:Int)) <| some ((!(decide ((gi p (max (nx l v 1) 0).toNat).X=(gi p v).X)))||(decide (((gi p (max (nx l v 1) 0).toNat).Y)≤((gi p v).Y)))) else some false)=some (!decide (okE l p v 1)):=by
   by_cases c:0≤nx l v 1
   ·rw [ZB c,Zt (by omega),Zt (by omega),show max (nx l v 1) 0=nx l v 1 by omega]
    congr 1
    rw [Bool.eq_iff_iff]
    simp only [Bool.or_eq_true,Bool.not_eq_true',decide_eq_true_eq,decide_eq_false_iff_not,A1]
    omega
   ·rw [Z9 c,Zbx (A1.2 fun h=>c h.1)];rfl
  simp only [zE.s0]
  rw [ZB (by omega),Zt (by omega),itn,e0,e1,B0,obs]
  by_cases c0:okE l p v 0
  ·rw [Zbx c0,if_neg (by decide),B1,obs]
   by_cases c1:okE l p v 1
   ·rw [Zbx c1,if_neg (by decide),zN (by omega),if_pos ⟨c0,c1⟩]
   ·rw [ZbB c1,if_pos (by decide),if_neg fun h=>c1 h.2]
  ·rw [ZbB c0,if_pos (by decide),if_neg fun h=>c0 h.1]
 unfold zE
 by_cases c:∀ v,v<l.length→okE l p v 0∧okE l p v 1
 ·rw [Zbx c,ZgX (x:=.inl ())]
  refine ZbP (fun v:Nat=>(v:Int)) (n:=l.length) (ZaN (by omega)) rfl (fun v hv=>?_) ?_
  ·rw [row v hv,if_pos (c v hv),show ((v+1:Nat):Int)=(v:Int)+1 by omega]
  ·simp only [zE.s0]
   rw [Z9 (by omega)]
 ·rw [ZbB c,ZgX (x:=.inr ())]
  have ⟨v0,hv0⟩:∃ v,v<l.length∧¬ (okE l p v 0∧okE l p v 1):=by
   refine Classical.byContradiction fun hh=>c fun v hv=>Classical.byContradiction fun h2=>hh ⟨v,hv,h2⟩
  obtain ⟨v,⟨hv,hb⟩,hm⟩:=ZjU (P:=fun v=>v<l.length∧¬ (okE l p v 0∧okE l p v 1)) v0 hv0
  refine ZbP (fun v:Nat=>(v:Int)) (n:=v) (ZaN (by omega)) rfl (fun u hu=>?_) ?_
  ·have:okE l p u 0∧okE l p u 1:=Classical.byContradiction fun h2=>hm u hu ⟨by omega,h2⟩
   rw [row u (by omega),if_pos this,show ((u+1:Nat):Int)=(u:Int)+1 by omega]
  ·rw [row v hv,if_neg hb]
end Mu
/- Layer 26: CheckTells. -/
namespace Mu
theorem ZjW {F:Int→Option (Int⊕(Unit⊕Unit))}{n:Nat}{P:Nat→Bool}(hn:n≤1000000) (he:F n=some (.inr (.inl ()))):∀ (m s:Nat),s+m=n→(∀ i:Nat,s≤i→i<n→F i=some (if P i=true then .inr (.inr ()) else .inl ((i:Int)+1)))→∃ r,ZZ F (m+1) (s:Int)=some r∧(r=.inr ()↔∃ i,s≤i∧i<n∧P i=true)
 | 0,s,hs,h=>by
  have:s=n:=by omega
  subst this
  refine ⟨.inl (),by rw [ZZ,he],?_⟩
  constructor
  ·intro h;cases h
  ·rintro ⟨i,h1,h2,_⟩;omega
 | m+1,s,hs,h=>by
  rw [ZZ,h s (Nat.le_refl _) (by omega)]
  by_cases c:P s=true
  ·rw [if_pos c]
   exact ⟨_,rfl,fun _=>⟨s,Nat.le_refl _,by omega,c⟩,fun _=>rfl⟩
  ·rw [if_neg c]
   dsimp only
   obtain ⟨r,e1,e2⟩:=ZjW hn he m (s+1) (by omega) (fun i h1 h2=>h i (by omega) h2)
   rw [show ((s+1:Nat):Int)=(s:Int)+1 by omega] at e1
   refine ⟨r,e1,e2.trans ⟨?_,?_⟩⟩
   ·rintro ⟨i,h1,h2,h3⟩;exact ⟨i,by omega,h2,h3⟩
   ·rintro ⟨i,h1,h2,h3⟩
    by_cases q:i=s
    ·subst q;exact absurd h3 c
    ·exact ⟨i,by omega,h2,h3⟩
theorem Zi4 {F:Int→Option (Int⊕(Unit⊕Unit))}{n s:Nat}{P:Nat→Bool}(hn:n≤1000000) (hs:s≤n) (he:F n=some (.inr (.inl ()))) (h:∀ i:Nat,s≤i→i<n→F i=some (if P i=true then .inr (.inr ()) else .inl ((i:Int)+1))):∃ r,ZZ F big (s:Int)=some r∧(r=.inr ()↔∃ i,s≤i∧i<n∧P i=true):=by
 obtain ⟨r,e1,e2⟩:=ZjW hn he (n-s) s (by omega) h
 exact ⟨r,Zd5 e1 (by unfold big;omega),e2⟩
def LNo (b:Bool) (L:List (List Int)) (n:Nat):List (Bool×Nat):=((List.range n).filter fun i=>decide (1<(gi L i).length)).map fun i=>(b,i)
def LN (V H:List (List Int)):List (Bool×Nat):=LNo true V V.length++LNo false H H.length
def Zdj (p:Bool×Nat):ZR:=⟨p.1,p.2⟩
theorem Zgw {b:Bool}{L:List (List Int)}{n:Nat}:(LNo b L n).length≤n:=by
 unfold LNo
 rw [List.length_map]
 have:=List.length_filter_le (fun i=>decide (1<(gi L i).length)) (List.range n)
 simpa using this
theorem Zj9 {b:Bool}{L:List (List Int)}{n:Nat}:LNo b L (n+1)=if 1<(gi L n).length then LNo b L n++[(b,n)] else LNo b L n:=by
 unfold LNo
 rw [List.range_succ,List.filter_append,List.map_append]
 by_cases c:1<(gi L n).length
 ·rw [if_pos c,List.filter_cons,if_pos (by simpa using c)];rfl
 ·rw [if_neg c,List.filter_cons,if_neg (by simpa using c)];simp
theorem ZpI {X Y:List Int}{V H:List (List Int)}(hV:V.length≤1000) (hH:H.length≤1000):zm ⟨X,Y,V,H⟩=some ((LN V H).map Zdj):=by
 have l0:ZZ (zm.s0 ⟨X,Y,V,H⟩) big (([]:List ZR),0)=some ((LNo true V V.length).map Zdj):=by
  refine ZbP (fun n:Nat=>((LNo true V n).map Zdj,(n:Int))) (n:=V.length) (ZaN (by omega)) rfl (fun n hn=>?_) ?_
  ·have:=Zgw (b:=true) (L:=V) (n:=n)
   simp only [zm.s0,itn]
   rw [ZB (by omega),Zt (by omega),Zj9]
   by_cases c:1<(gi V n).length
   ·rw [ZB (by omega),Zt (by simp;omega),zN (by omega),if_pos c,show ((n+1:Nat):Int)=(n:Int)+1 by omega,List.map_append];rfl
   ·rw [Z9 (by omega),zN (by omega),if_neg c,show ((n+1:Nat):Int)=(n:Int)+1 by omega]
  ·simp only [zm.s0]
   rw [Z9 (by omega)]
 have l1:ZZ (zm.s1 ⟨X,Y,V,H⟩) big ((LNo true V V.length).map Zdj,0)=some ((LN V H).map Zdj):=by
  refine ZbP (fun n:Nat=>((LNo true V V.length++LNo false H n).map Zdj,(n:Int))) (n:=H.length) (ZaN (by omega)) (by simp [LNo]) (fun n hn=>?_) ?_
  ·have a:=Zgw (b:=false) (L:=H) (n:=n)
   have b:=Zgw (b:=true) (L:=V) (n:=V.length)
   simp only [zm.s1,itn]
   rw [ZB (by omega),Zt (by omega),Zj9]
   by_cases c:1<(gi H n).length
   ·rw [ZB (by omega),Zt (by simp;omega),zN (by omega),if_pos c,show ((n+1:Nat):Int)=(n:Int)+1 by omega,← List.append_assoc,List.map_append (l₂:=[(false,n)])];rfl
   ·rw [Z9 (by omega),zN (by omega),if_neg c,show ((n+1:Nat):Int)=(n:Int)+1 by omega]
  ·simp only [zm.s1]
   rw [Z9 (by omega)]
   rfl
 unfold zm
 rw [l0,obs,l1,obs]
theorem Zp4 {V H:List (List Int)}{p:Bool×Nat}(h:p∈LN V H):p.2<(if p.1=true then V else H).length:=by
 unfold LN LNo at h
 rcases List.mem_append.1 h with q|q
 ·obtain ⟨i,hi,rfl⟩:=List.mem_map.1 q
  have:=List.mem_range.1 (List.mem_filter.1 hi).1
  simpa using this
 ·obtain ⟨i,hi,rfl⟩:=List.mem_map.1 q
  have:=List.mem_range.1 (List.mem_filter.1 hi).1
  simpa using this
def ZhA (V H:List (List Int)) (p:List Zh) (a:Bool×Nat):Zh:=gi p (gi (gi (if a.1=true then V else H) a.2) 0).toNat
def ZhB (V H:List (List Int)) (p:List Zh) (a:Bool×Nat):Zh:=gi p (gi (gi (if a.1=true then V else H) a.2) ((gi (if a.1=true then V else H) a.2).length-1)).toNat
structure Znu (n:Nat) (L:List (List Int)):Prop where
 ne:∀ i,i<L.length→0<(gi L i).length∧(gi L i).length≤1000000
 lt:∀ i,i<L.length→∀ k,k<(gi L i).length→0≤gi (gi L i) k∧gi (gi L i) k<n
theorem CH.ok {l:List Za}(hc:Ck l) (hl:l.length≤1000) {d:Nat}(hd:d<4) {a:List Int}{L:List (List Int)}(h:CH l d a L):Znu l.length L:=⟨fun i hi=>⟨(h.ch i hi).ne,by have:=(h.ch i hi).len hc hd;omega⟩,fun i hi=>(h.ch i hi).lt⟩
theorem ZoD {n:Nat}{X Y:List Int}{V H:List (List Int)}(hV:Znu n V) (hH:Znu n H) {p:List Zh}(hp:p.length=n) {a:Bool×Nat}(ha:a∈LN V H):Zbj ⟨X,Y,V,H⟩ (Zdj a) p=some (ZhA V H p a,ZhB V H p a):=by
 have hm:=Zp4 ha
 unfold Zbj ZhA ZhB Zdj
 have e:(if a.1=true then some V else some H)=some (if a.1=true then V else H):=by cases a.1<;>rfl
 have hL:Znu n (if a.1=true then V else H):=by split<;>assumption
 dsimp only
 rw [e,obs]
 generalize (if a.1=true then V else H)=L at *
 have h1:=hL.ne a.2 hm
 have h2:=hL.lt a.2 hm 0 h1.1
 have h3:=hL.lt a.2 hm ((gi L a.2).length-1) (by omega)
 rw [itn,show (0:Int).toNat=0 from rfl,show (((gi L a.2).length:Int)-1).toNat=(gi L a.2).length-1 by omega,Zt (by omega),Zt (by omega),Zt (by omega),zN (by omega),Zt (by omega),Zt (by omega)]
def ZfD (a b c d:Zh):Bool:=(((decide (b.X<c.X))||(decide (d.X<a.X)))||(decide (b.Y<c.Y)))||(decide (d.Y<a.Y))
def shc (V H:List (List Int)) (a b:Bool×Nat):Bool:=(cl (if a.1=true then V else H) a.2).any fun v=>decide (v∈cl (if b.1=true then V else H) b.2)
/-! Stretched. -/
def All10 (P:Int→Prop) (x:A10 Int):Prop:=P x.a∧P x.b∧P x.c∧P x.d∧P x.e∧P x.f∧P x.g∧P x.h∧P x.i∧P x.j
theorem All10.get {P:Int→Prop}{x:A10 Int}(h:All10 P x) (i:Int):P (x.get i):=by
 obtain ⟨h0,h1,h2,h3,h4,h5,h6,h7,h8,h9⟩:=h
 unfold A10.get
 repeat' split
 all_goals assumption
theorem All10.set {P:Int→Prop}{x:A10 Int}(h:All10 P x) (i:Int) {v:Int}(hv:P v):All10 P (x.set i v):=by
 obtain ⟨h0,h1,h2,h3,h4,h5,h6,h7,h8,h9⟩:=h
 unfold A10.set
 repeat' split
 all_goals exact ⟨by assumption,by assumption,by assumption,by assumption,by assumption,by assumption,by assumption,by assumption,by assumption,by assumption⟩
theorem All10.mono {P Q:Int→Prop}{x:A10 Int}(h:All10 P x) (hq:∀ v,P v→Q v):All10 Q x:=by
 obtain ⟨h0,h1,h2,h3,h4,h5,h6,h7,h8,h9⟩:=h
 exact ⟨hq _ h0,hq _ h1,hq _ h2,hq _ h3,hq _ h4,hq _ h5,hq _ h6,hq _ h7,hq _ h8,hq _ h9⟩
theorem ZlM {a n:Int}(ha:0≤a) (hn:0<n):0≤a.tmod n∧a.tmod n<n:=by
 rw [Int.tmod_eq_emod_of_nonneg ha]
 exact ⟨Int.emod_nonneg _ (by omega),Int.emod_lt_of_pos _ hn⟩
end Mu
/- Layer 26: CheckTurns. -/
namespace Mu
theorem Zqb {V H:List (List Int)}:(LN V H).Nodup:=by
 unfold LN LNo
 rw [List.nodup_append]
 have one:∀ (b:Bool) (L:List (List Int)) n,(((List.range n).filter fun i=>decide (1<(gi L i).length)).map fun i=>(b,i)).Nodup:=by
  intro b L n
  refine List.pairwise_map.2 ((List.Pairwise.filter _ List.nodup_range).imp fun {a c} h e=>h (congrArg Prod.snd e))
 refine ⟨one _ _ _,one _ _ _,fun a ha b hb e=>?_⟩
 obtain ⟨i,_,rfl⟩:=List.mem_map.1 ha
 obtain ⟨j,_,rfl⟩:=List.mem_map.1 hb
 exact absurd (congrArg Prod.fst e) (by simp)
theorem Zjl {V H:List (List Int)}{a:Bool×Nat}:a∈LN V H↔a.2<(if a.1=true then V else H).length∧1<(gi (if a.1=true then V else H) a.2).length:=by
 unfold LN LNo
 rw [List.mem_append,List.mem_map,List.mem_map]
 constructor
 ·rintro (⟨i,hi,rfl⟩|⟨i,hi,rfl⟩)
  ·have:=List.mem_filter.1 hi
   exact ⟨List.mem_range.1 this.1,by simpa using this.2⟩
  ·have:=List.mem_filter.1 hi
   exact ⟨List.mem_range.1 this.1,by simpa using this.2⟩
 ·rintro ⟨h1,h2⟩
  obtain ⟨b,i⟩:=a
  cases b with
  | true=>exact .inl ⟨i,List.mem_filter.2 ⟨List.mem_range.2 h1,by simpa using h2⟩,rfl⟩
  | false=>exact .inr ⟨i,List.mem_filter.2 ⟨List.mem_range.2 h1,by simpa using h2⟩,rfl⟩
def Crs (V H:List (List Int)) (p:List Zh):Prop:=∃ a b,a∈LN V H∧b∈LN V H∧a≠b∧ZfD (ZhA V H p a) (ZhB V H p a) (ZhA V H p b) (ZhB V H p b)=false∧shc V H a b=false
theorem Zl3 {a b c d:Zh}:ZfD a b c d=ZfD c d a b:=by
 unfold ZfD
 cases decide (b.X<c.X)<;>cases decide (d.X<a.X)<;>cases decide (b.Y<c.Y)<;>cases decide (d.Y<a.Y)<;>rfl
theorem Zoy {V H:List (List Int)}{a b:Bool×Nat}:shc V H a b=shc V H b a:=by
 unfold shc
 rw [Bool.eq_iff_iff,List.any_eq_true,List.any_eq_true]
 constructor<;>rintro ⟨v,h1,h2⟩<;>exact ⟨v,by simpa using h2,by simpa using h1⟩
theorem Znv {V H:List (List Int)}{p:List Zh}:(∃ i k,i<k∧k<(LN V H).length∧(!ZfD (ZhA V H p (gi (LN V H) i)) (ZhB V H p (gi (LN V H) i)) (ZhA V H p (gi (LN V H) k)) (ZhB V H p (gi (LN V H) k)) && !shc V H (gi (LN V H) i) (gi (LN V H) k))=true)↔Crs V H p:=by
 have nd:=List.pairwise_iff_getElem.1 (Zqb (V:=V) (H:=H))
 constructor
 ·rintro ⟨i,k,h1,h2,h3⟩
  rw [Bool.and_eq_true,Bool.not_eq_true',Bool.not_eq_true'] at h3
  refine ⟨_,_,Zao (show i<_ by omega),Zao h2,?_,h3.1,h3.2⟩
  rw [ZaM (show i<_ by omega),ZaM h2]
  exact nd i k (by omega) h2 h1
 ·rintro ⟨a,b,ha,hb,hne,h1,h2⟩
  obtain ⟨i,hi,rfl⟩:=List.mem_iff_getElem.1 ha
  obtain ⟨k,hk,rfl⟩:=List.mem_iff_getElem.1 hb
  rcases Nat.lt_trichotomy i k with q|q|q
  ·exact ⟨i,k,q,hk,by rw [ZaM hi,ZaM hk,h1,h2];rfl⟩
  ·subst q;exact absurd rfl hne
  ·refine ⟨k,i,q,hi,?_⟩
   rw [ZaM hi,ZaM hk,Zl3,Zoy,h1,h2];rfl
/-! Moved and stretched. -/
/-! Turned. -/
end Mu
/- Layer 19: the document's word on drawings. -/
namespace Mu
theorem ZqR {l:List Za}(hc:Ck l) (hl:l.length≤1000) {X Y:List Int}{V H:List (List Int)}(hx:CH l 1 X V) (hy:CH l 0 Y H) (ver oth:Bool) (i k:Int):zU ⟨X,Y,V,H⟩ ver i oth k=some ((cl (if ver=true then V else H) i).any fun v=>decide (v∈cl (if oth=true then V else H) k)):=by
 have kind:∀ w:Bool,∃ d,d<4∧CH l d (if w=true then X else Y) (if w=true then V else H):=by
  intro w
  cases w with
  | true=>exact ⟨1,by omega,hx⟩
  | false=>exact ⟨0,by omega,hy⟩
 obtain ⟨d1,hd1,c1⟩:=kind ver
 obtain ⟨d2,hd2,c2⟩:=kind oth
 have hXl:=hx.alen
 have hYl:=hy.alen
 have n1:=Zms hc hd1 c1 (i:=i)
 have n2:=Zms hc hd2 c2 (i:=k)
 have e2:ZZ (zU.s0 ⟨X,Y,V,H⟩ ver i oth k) big 0=some (match (List.range l.length).find? (fun v=>decide (gi (if ver=true then X else Y) v=i)&&decide (gi (if oth=true then X else Y) v=k)) with|some v=>.inr ()|none=>.inl ()):=by
  refine Zdx (n:=l.length) (P:=fun v=>decide (gi (if ver=true then X else Y) v=i)&&decide (gi (if oth=true then X else Y) v=k)) (f:=fun _=>()) (ZaN (by omega)) (fun v hv=>?_) ?_
  ·simp only [zU.s0]
   rw [ZB (by omega),Zt (by omega),itn]
   have t:(if ver=true then ck ((0:Int)≤(v:Int)∧(v:Int)<(X.length:Int)) (some (decide (gi X v=i))) else some (decide (gi Y v=i)))=some (decide (gi (if ver=true then X else Y) v=i)):=by
    cases ver with
    | true=>rw [if_pos rfl,if_pos rfl,Zt (by omega)]
    | false=>rw [if_neg (by decide),if_neg (by decide)]
   rw [t,obs,zN (by omega)]
   cases oth with
   | true =>
    rw [if_pos rfl,Zt (by omega),if_pos (rfl:true=true)]
    exact ZjS
   | false =>
    rw [if_neg (by decide),if_neg (show ¬ false=true by decide)]
    exact ZjS
  ·simp only [zU.s0]
   rw [Z9 (by omega)]
 unfold zU
 rw [e2,obs]
 cases hf:(List.range l.length).find? (fun v=>decide (gi (if ver=true then X else Y) v=i)&&decide (gi (if oth=true then X else Y) v=k)) with
 | none =>
  rw [List.find?_range_eq_none] at hf
  have:((cl (if ver=true then V else H) i).any fun v=>decide (v∈cl (if oth=true then V else H) k))=false:=by
   rw [List.any_eq_false]
   intro v hv hw
   rw [decide_eq_true_eq] at hw
   have a:=(Zjm c1).1 hv
   have b:=(Zjm c2).1 hw
   have:=hf v.toNat (by omega)
   rw [a.2.2,b.2.2] at this
   simp at this
  rw [this]
 | some v =>
  rw [List.find?_range_eq_some] at hf
  obtain ⟨h1,h2,_⟩:=hf
  have hv:v<l.length:=by simpa using h2
  rw [Bool.and_eq_true,decide_eq_true_eq,decide_eq_true_eq] at h1
  have:((cl (if ver=true then V else H) i).any fun v=>decide (v∈cl (if oth=true then V else H) k))=true:=by
   rw [List.any_eq_true]
   refine ⟨v,(Zjm c1).2 ⟨by omega,by omega,by rw [itn];exact h1.1⟩,?_⟩
   rw [decide_eq_true_eq]
   exact (Zjm c2).2 ⟨by omega,by omega,by rw [itn];exact h1.2⟩
  rw [this]
theorem ZoE {l:List Za}(hc:Ck l) (hl:l.length≤1000) (A1:AllCh l 1) (A0:AllCh l 0):∃ X Y V H,Zbc l=some (⟨X,Y,V,H⟩,true)∧CH l 1 X V∧CH l 0 Y H:=by
 obtain ⟨X,V,e3,c3⟩:=(Zls hc hl (d:=1) (by omega)).1 A1
 obtain ⟨Y,H,e4,c4⟩:=(Zls hc hl (d:=0) (by omega)).1 A0
 rw [show ((1:Nat):Int)=1 from rfl] at e3
 rw [show ((0:Nat):Int)=0 from rfl] at e4
 refine ⟨X,Y,V,H,?_,c3,c4⟩
 unfold Zbc
 rw [e3,obs]
 dsimp only
 rw [e4,obs]
 rfl
theorem ZoF {l:List Za}(hc:Ck l) (hl:l.length≤1000) {X Y:List Int}{V H:List (List Int)}(cx:CH l 1 X V) (cy:CH l 0 Y H) {p:List Zh}(hp:p.length=l.length) (hr:Zbc l=some (⟨X,Y,V,H⟩,true)) (hst:∀ v,v<l.length→okE l p v 0∧okE l p v 1):∃ b,ZT l p=some (!b)∧(b=true↔Crs V H p):=by
 have oV:=cx.ok hc (by omega) (by omega)
 have oH:=cy.ok hc (by omega) (by omega)
 have x3:=cx.Ll
 have y3:=cy.Ll
 have ll:(LN V H).length≤2000:=by
  unfold LN
  rw [List.length_append]
  have a:=Zgw (b:=true) (L:=V) (n:=V.length)
  have b:=Zgw (b:=false) (L:=H) (n:=H.length)
  omega
 have hM:∀ a b:Bool×Nat,zU ⟨X,Y,V,H⟩ a.1 a.2 b.1 b.2=some (shc V H a b):=fun a b=>ZqR hc hl cx cy a.1 b.1 a.2 b.2
 have n2:((LN V H).map Zdj).length=(LN V H).length:=by simp
 obtain ⟨P,hP⟩:∃ P:Nat→Nat→Bool,P=fun i k=>!ZfD (ZhA V H p (gi (LN V H) i)) (ZhB V H p (gi (LN V H) i)) (ZhA V H p (gi (LN V H) k)) (ZhB V H p (gi (LN V H) k)) && !shc V H (gi (LN V H) i) (gi (LN V H) k):=⟨_,rfl⟩
 have innerR:∀ i,i<(LN V H).length→∃ r,ZZ (ZT.s1 p ⟨X,Y,V,H⟩ ((LN V H).map Zdj) i) big ((i:Int)+1)=some r∧(r=.inr ()↔∃ k,i<k∧k<(LN V H).length∧P i k=true):=by
  intro i hi
  obtain ⟨r,e1,e2⟩:=Zi4 (F:=ZT.s1 p ⟨X,Y,V,H⟩ ((LN V H).map Zdj) i) (n:=(LN V H).length) (s:=i+1) (P:=P i) (by omega) (by omega) (by
   simp only [ZT.s1]
   rw [Z9 (by rw [n2];omega)]) (fun k _ hk=>by
   have s1:=ZoD (X:=X) (Y:=Y) oV oH hp (Zao hi)
   have s2:=ZoD (X:=X) (Y:=Y) oV oH hp (Zao hk)
   have g1:gi ((LN V H).map Zdj) k=Zdj (gi (LN V H) k):=Zcj hk
   have g2:gi ((LN V H).map Zdj) i=Zdj (gi (LN V H) i):=Zcj hi
   have me:=hM (gi (LN V H) i) (gi (LN V H) k)
   have me':zU ⟨X,Y,V,H⟩ (Zdj (gi (LN V H) i)).Vertical (Zdj (gi (LN V H) i)).Place (Zdj (gi (LN V H) k)).Vertical (Zdj (gi (LN V H) k)).Place=some (shc V H (gi (LN V H) i) (gi (LN V H) k)):=me
   simp only [ZT.s1,itn]
   rw [ZB (by rw [n2];omega),Zt (by rw [n2];omega),Zt (by rw [n2];omega),g1,g2,me',obs,s1,obs]
   dsimp only
   rw [s2,obs]
   dsimp only
   show (if ((!shc V H (gi (LN V H) i) (gi (LN V H) k))&&(!ZfD (ZhA V H p (gi (LN V H) i)) (ZhB V H p (gi (LN V H) i)) (ZhA V H p (gi (LN V H) k)) (ZhB V H p (gi (LN V H) k))))=true then _ else _)=_
   rw [hP,zN (by omega)]
   dsimp only
   rw [Bool.and_comm]
   split<;>rfl)
  rw [show ((i+1:Nat):Int)=(i:Int)+1 by omega] at e1
  exact ⟨r,e1,e2.trans ⟨fun ⟨k,a,b,c⟩=>⟨k,by omega,b,c⟩,fun ⟨k,a,b,c⟩=>⟨k,by omega,b,c⟩⟩⟩
 have outerR:∃ r,ZZ (ZT.s0 p ⟨X,Y,V,H⟩ ((LN V H).map Zdj)) big 0=some r∧(r=.inr ()↔∃ i k,i<k∧k<(LN V H).length∧P i k=true):=by
  have hdec:∀ i,∃ b:Bool,(b=true↔∃ k,i<k∧k<(LN V H).length∧P i k=true):=fun i=>⟨@decide (∃ k,i<k∧k<(LN V H).length∧P i k=true) (Classical.propDecidable _),by simp⟩
  obtain ⟨Q,hQ⟩:∃ Q:Nat→Bool,∀ i,(Q i=true↔∃ k,i<k∧k<(LN V H).length∧P i k=true):=⟨fun i=>(hdec i).choose,fun i=>(hdec i).choose_spec⟩
  obtain ⟨r,e1,e2⟩:=Zi4 (F:=ZT.s0 p ⟨X,Y,V,H⟩ ((LN V H).map Zdj)) (n:=(LN V H).length) (s:=0) (P:=Q) (by omega) (by omega) (by
   simp only [ZT.s0]
   rw [Z9 (by rw [n2];omega)]) (fun i _ hi=>by
   obtain ⟨r,r1,r2⟩:=innerR i hi
   simp only [ZT.s0]
   rw [ZB (by rw [n2];omega),zN (by omega),r1,obs]
   cases r with
   | inl u =>
    rw [if_neg]
    intro q
    have:=r2.2 ((hQ i).1 q)
    cases this
   | inr u =>
    rw [if_pos ((hQ i).2 (r2.1 rfl))])
  refine ⟨r,e1,e2.trans ⟨?_,?_⟩⟩
  ·rintro ⟨i,_,h1,h2⟩
   obtain ⟨k,k1,k2,k3⟩:=(hQ i).1 h2
   exact ⟨i,k,k1,k2,k3⟩
  ·rintro ⟨i,k,k1,k2,k3⟩
   exact ⟨i,by omega,by omega,(hQ i).2 ⟨k,k1,k2,k3⟩⟩
 obtain ⟨r',b1,b2⟩:=outerR
 have c2:ZT l p=some r'.isLeft:=by
  unfold ZT
  rw [Za4 (by omega),ZlI hc (by omega) hp,obs,Zbx hst,if_neg (by decide),hr,obs]
  dsimp only
  rw [ZpI (by omega) (by omega),obs,b1,obs]
  cases r'<;>rfl
 refine ⟨r'.isRight,by rw [c2];cases r'<;>rfl,?_⟩
 have e:r'.isRight=true↔r'=.inr ():=by cases r'<;>simp
 rw [e,b2,hP,Znv]
end Mu
/- Layer 4: orders and layers of graphs,plainly. -/
namespace Mu
def RA (n:Nat) (arcs:List ZA):Prop:=∀ a∈arcs,0≤a.From∧a.From<n∧0≤a.To∧a.To<n∧0≤a.Weight∧a.Weight≤1000000
def ahd (arcs:List ZA) (l:List Int) (w:Int):Nat:=arcs.countP (fun a=>decide (a.To=w) && !decide (a.From∈l))
def Zfn (arcs:List ZA) (v:Int):List Int:=(arcs.filter (fun a=>decide (a.From=v))).map (·.To)
theorem ZjZ {arcs:List ZA}{v w:Int}:w∈Zfn arcs v↔∃ a∈arcs,a.From=v∧a.To=w:=by
 unfold Zfn;simp only [List.mem_map,List.mem_filter,decide_eq_true_eq]
 constructor
 ·rintro ⟨a,⟨h1,h2⟩,h3⟩;exact ⟨a,h1,h2,h3⟩
 ·rintro ⟨a,h1,h2,h3⟩;exact ⟨a,⟨h1,h2⟩,h3⟩
theorem Zmi {arcs:List ZA}{l:List Int}{w:Int}:ahd arcs l w=0↔∀ a∈arcs,a.To=w→a.From∈l:=by
 unfold ahd;rw [List.countP_eq_zero]
 constructor
 ·intro h a ha e
  have:=h a ha
  simpa [e] using this
 ·intro h a ha
  by_cases e:a.To=w
  ·have:=h a ha e
   simp [this]
  ·simp [e]
def Topo (arcs:List ZA) (l:List Int):Prop:=∀ l1 v l2,l=l1++v::l2→∀ a∈arcs,a.To=v→a.From∈l1
theorem Topo.nil {arcs:List ZA}:Topo arcs []:=fun l1 v l2 h=>by simp at h
theorem Topo.snoc {arcs:List ZA}{l:List Int}{v:Int}(h:Topo arcs l) (hv:ahd arcs l v=0):Topo arcs (l++[v]):=by
 intro l1 u l2 e a ha hu
 rcases List.eq_nil_or_concat l2 with rfl|⟨m,y,rfl⟩
 ·have:l=l1∧v=u:=by
   have:=List.append_inj' e rfl
   simpa using this
  obtain ⟨rfl,rfl⟩:=this
  exact Zmi.1 hv a ha hu
 ·have:l=l1++u::m:=by
   have e2:l++[v]=(l1++u::m)++[y]:=by rw [e];simp
   exact (List.append_inj' e2 rfl).1
  exact h l1 u m this a ha hu
structure KI (n:Nat) (arcs:List ZA) (o:Int→Int) (l H:List Int):Prop where
 nd:(l++H).Nodup
 mem:∀ x,x∈l++H↔0≤x∧x<n∧o x=0
 tp:Topo arcs l
theorem KI.perm {n:Nat}{arcs:List ZA}{o:Int→Int}{l H H':List Int}(h:KI n arcs o l H) (p:H.Perm H'):KI n arcs o l H' :=
 ⟨(p.append_left l).nodup h.nd,fun x=>by rw [← (p.append_left l).mem_iff];exact h.mem x,h.tp⟩
def opn (arcs:List ZA) (l:List Int) (v:Int) (k:Nat) (w:Int):Int:=((ahd arcs l w+((Zfn arcs v).drop k).count w:Nat):Int)
theorem Zkb {arcs:List ZA}{l:List Int}{v:Int}{k:Nat}(h:k<(Zfn arcs v).length) (w:Int):opn arcs l v k w=opn arcs l v (k+1) w+(if w=gi (Zfn arcs v) k then 1 else 0):=by
 unfold opn
 rw [List.drop_eq_getElem_cons h,ZaM h,List.count_cons]
 by_cases c:w=(Zfn arcs v)[k]
 ·subst c;simp;omega
 ·rw [if_neg c,if_neg (by simpa using fun e=>c e.symm)];omega
theorem KI.push {n:Nat}{arcs:List ZA}{l H:List Int}{v:Int}{k:Nat}(h:KI n arcs (opn arcs l v k) l H) (hk:k<(Zfn arcs v).length) (hr:0≤gi (Zfn arcs v) k∧gi (Zfn arcs v) k<n) (h0:opn arcs l v (k+1) (gi (Zfn arcs v) k)=0):KI n arcs (opn arcs l v (k+1)) l (H++[gi (Zfn arcs v) k]):=by
 have hs:=Zkb (l:=l) hk (gi (Zfn arcs v) k)
 rw [if_pos rfl] at hs
 have hn:gi (Zfn arcs v) k ∉ l++H:=fun hh=>by have:=(h.mem _).1 hh;omega
 refine ⟨?_,fun x=>?_,h.tp⟩
 ·rw [← List.append_assoc,List.nodup_append]
  exact ⟨h.nd,by simp,fun a ha b hb=>by
   rw [List.mem_singleton] at hb;subst hb;exact fun e=>hn (e ▸ ha)⟩
 ·rw [← List.append_assoc,List.mem_append,h.mem x,List.mem_singleton,Zkb hk x]
  by_cases c:x=gi (Zfn arcs v) k
  ·subst c;rw [if_pos rfl];omega
  ·rw [if_neg c,Int.add_zero];simp [c]
def Znr (n:Nat):List Int:=(List.range n).map fun i:Nat=>(i:Int)
theorem ZmP {n:Nat}{x:Int}:x∈Znr n↔0≤x∧x<n:=by
 unfold Znr
 rw [List.mem_map]
 constructor
 ·rintro ⟨i,hi,rfl⟩
  rw [List.mem_range] at hi;omega
 ·rintro ⟨h0,h1⟩
  exact ⟨x.toNat,by rw [List.mem_range];omega,by omega⟩
theorem ZkQ {n:Nat}:(Znr n).Nodup:=by
 unfold Znr
 rw [List.Nodup,List.pairwise_map]
 exact List.Pairwise.imp (fun h e=>by omega) List.pairwise_lt_range
structure LI (n:Nat) (arcs:List ZA) (P:List Int) (f:Int→Int):Prop where
 pos:∀ v:Int,0≤v→v<n→0≤f v∧f v≤P.length
 fit:∀ a∈arcs,a.From∈P→f a.From+1≤f a.To
 tight:∀ v:Int,0≤v→v<n→0<f v→∃ a∈arcs,a.To=v∧a.From∈P∧f a.From+1=f v
structure LJ (n:Nat) (arcs:List ZA) (P:List Int) (v:Int) (k:Nat) (f:Int→Int):Prop where
 pos:∀ u:Int,0≤u→u<n→0≤f u∧f u≤P.length+1
 own:f v≤P.length
 fit:∀ a∈arcs,a.From∈P→f a.From+1≤f a.To
 fit2:∀ w∈(Zfn arcs v).take k,f v+1≤f w
 tight:∀ u:Int,0≤u→u<n→0<f u→∃ a∈arcs,a.To=u∧a.From∈P++[v]∧f a.From+1=f u
theorem LI.start {n:Nat}{arcs:List ZA}{P:List Int}{f:Int→Int}{v:Int}(h:LI n arcs P f) (h0:0≤v) (h1:v<n):LJ n arcs P v 0 f :=
 ⟨fun u a b=>by have:=h.pos u a b;omega,(h.pos v h0 h1).2,h.fit,fun w hw=>by simp at hw,fun u a b c=>by
  obtain ⟨e,h1,h2,h3,h4⟩:=h.tight u a b c
  exact ⟨e,h1,h2,by simp [h3],h4⟩⟩
theorem LJ.stop {n:Nat}{arcs:List ZA}{P:List Int}{f:Int→Int}{v:Int}(h:LJ n arcs P v (Zfn arcs v).length f):LI n arcs (P++[v]) f :=
 ⟨fun u a b=>by have:=h.pos u a b;simp;omega,fun a ha hp=>by
  rw [List.mem_append,List.mem_singleton] at hp
  rcases hp with hp|hp
  ·exact h.fit a ha hp
  ·rw [hp];exact h.fit2 _ (by rw [List.take_length];exact ZjZ.2 ⟨a,ha,hp,rfl⟩),h.tight⟩
theorem LJ.step {n:Nat}{arcs:List ZA}{P:List Int}{f:Int→Int}{v w:Int}{k:Nat}(h:LJ n arcs P v k f) (hr:RA n arcs) (hv:0≤v∧v<n) (hk:k<(Zfn arcs v).length) (hw:gi (Zfn arcs v) k=w) (hn:w ∉ P) (hne:w≠v) :
  LJ n arcs P v (k+1) (fun u=>if u=w then max (f w) (f v+1) else f u):=by
 have hwo:w∈Zfn arcs v:=by rw [← hw];exact Zao hk
 obtain ⟨a0,ha0,hf0,ht0⟩:=ZjZ.1 hwo
 have hr0:=hr a0 ha0
 have hp:=h.pos w (by omega) (by omega)
 have hpv:=h.pos v hv.1 hv.2
 have ho:=h.own
 refine ⟨fun u a b=>?_,?_,fun a ha hP=>?_,fun u hu=>?_,fun u a b c=>?_⟩
 ·have:=h.pos u a b
  split<;>omega
 ·rw [if_neg (fun e=>hne e.symm)];exact h.own
 ·have:=h.fit a ha hP
  rw [if_neg (fun e:a.From=w=>hn (e ▸ hP))]
  by_cases c:a.To=w
  ·rw [if_pos c];rw [c] at this;omega
  ·rw [if_neg c];exact this
 ·rw [if_neg (fun e=>hne e.symm)]
  rw [Zj5 hk,hw,List.mem_append,List.mem_singleton] at hu
  rcases hu with hu|hu
  ·have:=h.fit2 u hu
   by_cases c:u=w
   ·rw [if_pos c];subst c;omega
   ·rw [if_neg c];exact this
  ·rw [if_pos hu];omega
 ·by_cases e:u=w
  ·subst e
   rw [if_pos rfl] at c ⊢
   by_cases q:f v+1≤f u
   ·rw [show max (f u) (f v+1)=f u by omega] at c ⊢
    obtain ⟨x,h1,h2,h3,h4⟩:=h.tight u a b c
    refine ⟨x,h1,h2,h3,?_⟩
    rw [if_neg (fun e=>?_)]
    ·exact h4
    ·rw [e] at h3;simp [hn,hne] at h3
   ·refine ⟨a0,ha0,ht0,by simp [hf0],?_⟩
    rw [hf0,if_neg (fun e=>hne e.symm)];omega
  ·rw [if_neg e] at c ⊢
   obtain ⟨x,h1,h2,h3,h4⟩:=h.tight u a b c
   refine ⟨x,h1,h2,h3,?_⟩
   rw [if_neg (fun e=>?_)]
   ·exact h4
   ·rw [e] at h3;simp [hn,hne] at h3
structure Lay (n:Nat) (arcs:List ZA) (x:List Int):Prop where
 len:x.length=n
 pos:∀ v:Nat,v<n→0≤gi x v∧gi x v≤n
 fit:∀ a∈arcs,gi x a.From.toNat+1≤gi x a.To.toNat
 tight:∀ v:Nat,v<n→0<gi x v→∃ a∈arcs,a.To=v∧gi x a.From.toNat+1=gi x v
end Mu
/- Layer 2: what a heap of numbers holds. -/
namespace Mu
end Mu
/- Layer 3: the order of a graph. -/
namespace Mu
instance {n:Nat}{arcs:List ZA}:Decidable (RA n arcs):=by unfold RA;exact inferInstance
theorem KI.start {n:Nat}{arcs:List ZA}{H:List Int}(h:H.Perm ((Znr n).filter fun w=>decide (ahd arcs [] w=0))):KI n arcs (fun w=>(ahd arcs [] w:Int)) [] H:=by
 refine KI.perm ⟨?_,fun x=>?_,.nil⟩ h.symm
 ·rw [List.nil_append];exact List.Nodup.sublist List.filter_sublist ZkQ
 ·rw [List.nil_append,List.mem_filter,ZmP,decide_eq_true_eq];omega
end Mu
/- Layer 4: the layers are the least coordinates. -/
namespace Mu
theorem Lay.least {n:Nat}{arcs:List ZA}{x:List Int}(h:Lay n arcs x) (hr:RA n arcs) (hu:∀ a∈arcs,a.From<a.To) {y:List Int}{m:Int}(hy:∀ a∈arcs,gi y a.From.toNat+1≤gi y a.To.toNat) (hm:∀ v:Nat,v<n→m≤gi y v):∀ v:Nat,v<n→gi x v+m≤gi y v:=by
 intro v
 induction v using Nat.strongRecOn with
 | _ v ih =>
  intro hv
  by_cases c:0<gi x v
  ·obtain ⟨a,ha,h1,h2⟩:=h.tight v hv c
   have hra:=hr a ha
   have:=hu a ha
   have q:=ih a.From.toNat (by omega) (by omega)
   have:=hy a ha
   rw [show a.To.toNat=v by omega] at this
   omega
  ·have:=h.pos v hv
   have:=hm v hv
   omega
/-! the given graphs -/
structure Gr (n:Nat) (arcs:List ZA):Prop where
 ra:RA n arcs
 up:∀ a∈arcs,a.From<a.To
 len:arcs.length≤40
end Mu
/- Layer 4: LayerTight. -/
namespace Mu
theorem Lay.below {n:Nat}{arcs:List ZA}{x:List Int}(h:Lay n arcs x) (hr:RA n arcs) {u:Int}(hu:0≤u):∀ (d:Nat) (i:Nat),i<n→gi x i=u+d→∃ j,j<n∧gi x j=u
 | 0,i,hi,e=>⟨i,hi,by omega⟩
 | d+1,i,hi,e=>by
  obtain ⟨a,ha,h1,h2⟩:=h.tight i hi (by omega)
  have:=hr a ha
  exact Lay.below h hr hu d a.From.toNat (by omega) (by omega)
end Mu
/- Layer 4: LayerLeast. -/
namespace Mu
def sat (l:List Int) (a:ZA):Prop:=gi l a.From.toNat+1≤gi l a.To.toNat
structure RS (n:Nat) (arcs:List ZA) (r:Nat) (l:List Int):Prop where
 len:l.length=n
 pos:∀ v:Nat,v<n→0≤gi l v∧gi l v≤39+v
 fit:∀ a∈arcs,a.To<r→sat l a
theorem RS.step {n:Nat}{arcs:List ZA}{r k:Nat}{l:List Int}(hg:Gr n arcs) (h:RS n arcs r l) (hk:k<arcs.length) (h2:∀ i,i<k→(gi arcs i).To=r→sat l (gi arcs i)) {l':List Int}(hl':l'=l.set (gi arcs k).To.toNat (max (gi l (gi arcs k).To.toNat) (gi l (gi arcs k).From.toNat+1))):RS n arcs r l'∧∀ i,i<k+1→(gi arcs i).To=r→sat l' (gi arcs i):=by
 have ha:=hg.ra _ (Zao hk)
 have hu:=hg.up _ (Zao hk)
 have hlen:=h.len
 have g:∀ v:Nat,gi l' v=if v=(gi arcs k).To.toNat then max (gi l (gi arcs k).To.toNat) (gi l (gi arcs k).From.toNat+1) else gi l v:=fun v=>by rw [hl',Zcs (by omega)]
 have A:∀ v:Nat,v<r→gi l' v=gi l v:=by
  intro v hv
  rw [g]
  by_cases c:v=(gi arcs k).To.toNat
  ·have:=h.fit _ (Zao hk) (by omega)
   unfold sat at this
   rw [if_pos c,c];omega
  ·rw [if_neg c]
 have B:∀ v:Nat,gi l v≤gi l' v:=by
  intro v
  rw [g]
  by_cases c:v=(gi arcs k).To.toNat
  ·rw [if_pos c,c];omega
  ·rw [if_neg c];exact Int.le_refl _
 have keep:∀ a∈arcs,a.To≤r→sat l a→sat l' a:=by
  intro a h1 h2 h3
  have:=hg.up a h1
  have:=hg.ra a h1
  unfold sat at *
  rw [A _ (by omega)]
  have:=B a.To.toNat
  omega
 refine ⟨⟨by rw [hl',List.length_set,hlen],fun v hv=>?_,fun a h1 h2=>keep a h1 (by omega) (h.fit a h1 h2)⟩,fun i hi he=>?_⟩
 ·have p1:=h.pos v hv
  have p2:=h.pos (gi arcs k).From.toNat (by omega)
  rw [g]
  by_cases c:v=(gi arcs k).To.toNat
  ·rw [if_pos c];rw [← c];omega
  ·rw [if_neg c];exact p1
 ·by_cases c:i=k
  ·subst c
   unfold sat
   rw [A (gi arcs i).From.toNat (by omega),g,if_pos rfl];omega
  ·exact keep _ (Zao (by omega)) (by omega) (h2 i (by omega) he)
end Mu
/- Layer 4: more arcs. -/
namespace Mu
theorem Lay.le {n:Nat}{arcs arcs':List ZA}{x y:List Int}(h:Lay n arcs x) (h':Lay n arcs' y) (hr:RA n arcs) (hu:∀ a∈arcs,a.From<a.To) (hs:∀ a∈arcs,a∈arcs'):∀ v:Nat,v<n→gi x v≤gi y v:=by
 intro v hv
 have:=h.least hr hu (y:=y) (m:=0) (fun a ha=>h'.fit a (hs a ha)) (fun v hv=>(h'.pos v hv).1) v hv
 omega
theorem Lay.uniq {n:Nat}{arcs arcs':List ZA}{x y:List Int}(h:Lay n arcs x) (h':Lay n arcs' y) (hr:RA n arcs) (hu:∀ a∈arcs,a.From<a.To) (hs:∀ a,a∈arcs↔a∈arcs'):x=y:=by
 have hr':RA n arcs':=fun a ha=>hr a ((hs a).2 ha)
 have hu':∀ a∈arcs',a.From<a.To:=fun a ha=>hu a ((hs a).2 ha)
 apply ZcH (h.len.trans h'.len.symm)
 intro i hi
 have hi':i<n:=by have:=h.len;omega
 have h1:=h.le h' hr hu (fun a ha=>(hs a).1 ha) i hi'
 have h2:=h'.le h hr' hu' (fun a ha=>(hs a).2 ha) i hi'
 omega
theorem Lay.more {n:Nat}{arcs arcs':List ZA}{x y:List Int}{a b:Nat}{w:Int}(h:Lay n arcs x) (h':Lay n arcs' y) (hr:RA n arcs) (hu:∀ a∈arcs,a.From<a.To) (hab:a<b) (hb:b<n) (hw:0≤w∧w≤1000000) (hs:∀ e,e∈arcs'↔e∈arcs∨e=⟨a,b,w⟩) :
  (∀ v:Nat,v<n→gi x v≤gi y v)∧(∀ v:Nat,v<b→gi y v=gi x v)∧gi y b=max (gi x b) (gi x a+1):=by
 have hr':RA n arcs':=fun e he=>by
  rcases (hs e).1 he with he|rfl
  ·exact hr e he
  ·dsimp only;omega
 have hu':∀ e∈arcs',e.From<e.To:=fun e he=>by
  rcases (hs e).1 he with he|rfl
  ·exact hu e he
  ·dsimp only;omega
 have A:=h.le h' hr hu (fun e he=>(hs e).2 (.inl he))
 have B:∀ v:Nat,v<b→gi y v=gi x v:=by
  intro v
  induction v using Nat.strongRecOn with
  | _ v ih =>
   intro hv
   have h1:=A v (by omega)
   have p:=h'.pos v (by omega)
   have q:=h.pos v (by omega)
   by_cases c:0<gi y v
   ·obtain ⟨e,he,e1,e2⟩:=h'.tight v (by omega) c
    rcases (hs e).1 he with he|rfl
    ·have:=hu e he
     have:=hr e he
     have i:=ih e.From.toNat (by omega) (by omega)
     have f:=h.fit e he
     rw [show e.To.toNat=v by omega] at f
     omega
    ·dsimp only at e1;omega
   ·omega
 refine ⟨A,B,?_⟩
 have h1:=A b hb
 have p:=h'.pos b hb
 have f:=h'.fit ⟨a,b,w⟩ ((hs _).2 (.inr rfl))
 dsimp only at f
 rw [itn,itn,B a hab] at f
 have q:=h.pos a (by omega)
 obtain ⟨e,he,e1,e2⟩:=h'.tight b hb (by omega)
 rcases (hs e).1 he with he|rfl
 ·have:=hu e he
  have:=hr e he
  have i:=B e.From.toNat (by omega)
  have f2:=h.fit e he
  rw [show e.To.toNat=b by omega] at f2
  omega
 ·dsimp only at e2
  rw [itn,B a hab] at e2
  omega
end Mu
/- Layer 4: LayerTells and LayerMore. -/
namespace Mu
theorem Zni {l:List Int}{i:Nat}{x:Int}(hi:i<l.length) (hx:x=gi l i):l.set i x=l:=by
 apply ZcH (by simp)
 intro j hj
 rw [Zcs hi]
 split
 ·rename_i h;rw [hx,h]
 ·rfl
end Mu
/- Numbers raised till they fit;lines of rectangles. -/
namespace Mu
structure RX (n:Nat) (arcs:List ZA) (ψ:Nat→Nat) (M:Int) (r:Nat) (l:List Int):Prop where
 len:l.length=n
 pos:∀ v:Nat,v<n→0≤gi l v∧gi l v≤M+ψ v
 fit:∀ a∈arcs,ψ a.To.toNat≤r→sat l a
structure Rk (n:Nat) (arcs:List ZA) (ψ:Nat→Nat):Prop where
 rng:InR n arcs
 len:arcs.length≤1000000
 up:∀ a∈arcs,ψ a.From.toNat<ψ a.To.toNat
 le:∀ v,ψ v≤n
theorem RX.step {n:Nat}{arcs:List ZA}{ψ:Nat→Nat}{M:Int}{r k:Nat}{l:List Int}(hg:Rk n arcs ψ) (h:RX n arcs ψ M r l) (hk:k<arcs.length) (h2:∀ i,i<k→ψ (gi arcs i).To.toNat=r+1→sat l (gi arcs i)) {l':List Int}(hl':l'=l.set (gi arcs k).To.toNat (max (gi l (gi arcs k).To.toNat) (gi l (gi arcs k).From.toNat+1))):RX n arcs ψ M r l'∧∀ i,i<k+1→ψ (gi arcs i).To.toNat=r+1→sat l' (gi arcs i):=by
 have hm:=Zao hk
 have ha:=hg.rng _ hm
 have hu:=hg.up _ hm
 have len:=h.len
 generalize ea:gi arcs k=a at *
 have p1:=h.pos a.From.toNat (by omega)
 have p2:=h.pos a.To.toNat (by omega)
 have lt:a.To.toNat<l.length:=by omega
 have at':∀ v:Nat,gi l' v=if v=a.To.toNat then max (gi l a.To.toNat) (gi l a.From.toNat+1) else gi l v:=fun v=>by
  rw [hl',Zcs lt]
 have ge:∀ v:Nat,gi l v≤gi l' v:=fun v=>by
  rw [at'];split
  ·rename_i c;rw [c];omega
  ·exact Int.le_refl _
 have low:∀ v:Nat,ψ v≤r→gi l' v=gi l v:=fun v hv=>by
  rw [at'];split
  ·rename_i c
   have:=h.fit a hm (by rw [← c];exact hv)
   unfold sat at this
   rw [c];omega
  ·rfl
 have keep:∀ b∈arcs,ψ b.To.toNat≤r+1→sat l b→sat l' b:=by
  intro b hb hr hs
  have:=hg.up b hb
  unfold sat at hs ⊢
  rw [low b.From.toNat (by omega)]
  have:=ge b.To.toNat
  omega
 refine ⟨⟨by rw [hl',List.length_set];exact len,fun v hv=>?_,fun b hb hr=>keep b hb (by omega) (h.fit b hb hr)⟩,fun i hi hr=>?_⟩
 ·have:=h.pos v hv
  rw [at'];split
  ·rename_i c;subst c;omega
  ·exact this
 ·by_cases c:i<k
  ·exact keep _ (Zao (by omega)) (by omega) (h2 i c hr)
  ·have:i=k:=by omega
   subst this
   rw [ea] at hr ⊢
   unfold sat
   rw [low a.From.toNat (by omega),at',if_pos rfl];omega
theorem RX.pass {n:Nat}{arcs:List ZA}{ψ:Nat→Nat}{M:Int}{r:Nat}{l:List Int}(hg:Rk n arcs ψ) (hn:n≤1000) (hM:0≤M∧M≤1000000) (h:RX n arcs ψ M r l) {F:(List Int)×Int→Option (((List Int)×Int)⊕(List Int))}
  (hF:∀ (k:Nat) (l:List Int),k<arcs.length→l.length=n→(∀ v:Nat,v<n→0≤gi l v∧gi l v≤10000000)→F (l,(k:Int))=some (.inl (l.set (gi arcs k).To.toNat (max (gi l (gi arcs k).To.toNat) (gi l (gi arcs k).From.toNat+1)),(k:Int)+1)))
  (hE:∀ l:List Int,F (l,(arcs.length:Int))=some (.inr l)):∃ l',ZZ F big (l,0)=some l'∧RX n arcs ψ M (r+1) l':=by
 have hA:=hg.len
 refine ZcI (fun (k:Nat) (s:List Int×Int)=>(RX n arcs ψ M r s.1∧(∀ i,i<k→ψ (gi arcs i).To.toNat=r+1→sat s.1 (gi arcs i)))∧s.2=k) (n:=arcs.length) (ZaN (by omega)) ⟨⟨h,fun i hi=>by omega⟩,rfl⟩ ?_ ?_
 ·rintro k ⟨l,j⟩ hk ⟨⟨h1,h2⟩,h3⟩
  dsimp only at h1 h2 h3 ⊢
  subst h3
  rw [hF k l hk h1.len fun v hv=>by have:=h1.pos v hv;have:=hg.le v;omega]
  have st:=h1.step hg hk h2 rfl
  exact ⟨_,rfl,⟨st.1,st.2⟩,by dsimp only;omega⟩
 ·rintro ⟨l,j⟩ ⟨⟨h1,h2⟩,h3⟩
  dsimp only at h1 h2 h3 ⊢
  subst h3
  rw [hE]
  refine ⟨_,rfl,h1.len,h1.pos,fun a ha hr=>?_⟩
  by_cases c:ψ a.To.toNat≤r
  ·exact h1.fit a ha c
  ·obtain ⟨i,hi,e⟩:=ZbC ha
   have:=h2 i hi (by rw [e];omega)
   rwa [e] at this
theorem ZqQ {n:Nat}{arcs:List ZA}{ψ:Nat→Nat}(hg:Rk n arcs ψ) (hn:n≤1000):∃ x,ZY n arcs=some x∧RX n arcs ψ 0 n x:=by
 have hA:=hg.len
 have z:∀ v:Nat,v<n→gi (List.replicate n (0:Int)) v=0:=fun v hv=>by rw [ZaM (by simpa using hv)];simp
 have:∃ l,ZZ (ZY.s0 n arcs) big (List.replicate n (0:Int),0)=some l∧RX n arcs ψ 0 (n+1) l:=by
  refine ZcI (fun (k:Nat) (s:List Int×Int)=>RX n arcs ψ 0 k s.1∧s.2=k) (n:=n+1) (ZaN (by omega)) ⟨⟨by simp,fun v hv=>by dsimp only;rw [z v hv];omega,fun a ha ht=>by have:=hg.up a ha;omega⟩,rfl⟩ ?_ ?_
  ·rintro k ⟨l,j⟩ hk ⟨h1,h3⟩
   dsimp only at h1 h3 ⊢
   subst h3
   obtain ⟨l',e,h4⟩:=h1.pass (F:=ZY.s1 arcs) hg hn ⟨by omega,by omega⟩ (fun k l hk hl hb=>by
    have ha:=hg.rng _ (Zao hk)
    have b1:=hb (gi arcs k).From.toNat (by omega)
    have b2:=hb (gi arcs k).To.toNat (by omega)
    simp only [ZY.s1]
    rw [ZB (by omega),Zt (by omega),itn,Zt (by omega),Zt (by omega)]
    by_cases c:gi l (gi arcs k).To.toNat≤gi l (gi arcs k).From.toNat
    ·rw [ZB c,zN (by omega),zN (by omega),show max (gi l (gi arcs k).To.toNat) (gi l (gi arcs k).From.toNat+1)=gi l (gi arcs k).From.toNat+1 by omega]
    ·rw [Z9 c,zN (by omega),Zni (by omega) (by omega)]) (fun l=>by
    simp only [ZY.s1]
    rw [Z9 (by omega)])
   simp only [ZY.s0]
   rw [ZB (by omega),e,obs,zN (by omega)]
   exact ⟨_,rfl,h4,by dsimp only;omega⟩
  ·rintro ⟨l,j⟩ ⟨h1,h3⟩
   dsimp only at h1 h3 ⊢
   subst h3
   simp only [ZY.s0]
   rw [Z9 (by omega)]
   exact ⟨_,rfl,h1⟩
 obtain ⟨l,e,h⟩:=this
 refine ⟨l,?_,h.len,h.pos,fun a ha hr=>h.fit a ha (by omega)⟩
 unfold ZY
 rw [Zt (by omega),itn,e,obs]
theorem Zov (n:Nat) (c:Nat→Nat):∃ ψ:Nat→Nat,(∀ i,ψ i≤n)∧∀ i j,i<n→c i<c j→ψ i<ψ j:=by
 refine ⟨fun i=>((List.range n).filter fun k=>decide (c k<c i)).length,fun i=>?_,fun i j hi h=>?_⟩
 ·have:=List.length_filter_le (fun k=>decide (c k<c i)) (List.range n)
  simpa using this
 ·have nd:(i::(List.range n).filter fun k=>decide (c k<c i)).Nodup:=by
   refine List.nodup_cons.2 ⟨fun m=>?_,List.nodup_range.filter _⟩
   have:=(List.mem_filter.1 m).2
   simp at this
  have:=nd.length_le_of_subset (l₂:=(List.range n).filter fun k=>decide (c k<c j)) (fun x hx=>by
   rcases List.mem_cons.1 hx with rfl|hx
   ·exact List.mem_filter.2 ⟨List.mem_range.2 hi,by simpa using h⟩
   ·obtain ⟨a,b⟩:=List.mem_filter.1 hx
    exact List.mem_filter.2 ⟨a,by simp at b ⊢; omega⟩)
  rw [List.length_cons] at this
  exact this
theorem Zke {l:List Za}(hc:Ck l) {d:Nat}(hd:d<4) {φ:Nat→Nat}(h1:∀ p,isD l p→p.2=d→φ p.1<φ (nx l p.1 p.2).toNat):∀ m v,v<l.length→φ v<m→∃ r,Zdy l ((d+2)%4) m v=some r
 | 0,v,hv,h=>by omega
 | m+1,v,hv,h=>by
  rw [Zdy]
  by_cases c:nx l v ((d+2)%4)<0
  ·rw [if_pos c];exact ⟨_,rfl⟩
  ·rw [if_neg c]
   have dd:isD l (v,(d+2)%4):=⟨hv,by dsimp only;omega,by dsimp only;omega⟩
   have f:=dd.fwd hc
   have o:=dd.opp hc
   have oo:(nx l (opp l (v,(d+2)%4)).1 (opp l (v,(d+2)%4)).2).toNat=v:=congrArg Prod.fst (ZbJ hc dd)
   have:=h1 _ o (by unfold opp;dsimp only;omega)
   rw [oo] at this
   exact Zke hc hd h1 m _ f.1 (by unfold opp at this;dsimp only at this;omega)
theorem ZfU {l:List Za}(hc:Ck l) {d:Nat}(hd:d<4) {φ:Nat→Nat}(h0:∀ x,φ x≤l.length) (h1:∀ p,isD l p→p.2=d→φ p.1<φ (nx l p.1 p.2).toNat):AllCh l d:=by
 refine Classical.byContradiction fun h=>?_
 obtain ⟨v,hv,e⟩:=Zi6 hc hd h
 obtain ⟨r,e'⟩:=Zke hc hd h1 (l.length+1) v hv (by have:=h0 v;omega)
 rw [e] at e';cases e'
theorem ZjI {l:List Za}(hc:Ck l) {d k:Nat}(hd:d<4) {φ:Nat→Nat}(h2:∀ p,isD l p→p.2=(k+1)%4∨p.2=(k+3)%4→φ p.1=φ (nx l p.1 p.2).toNat) (hdk:d=(k+1)%4∨d=(k+3)%4) {C:List Int}(h:IsCh l d C):∀ i,i<C.length→φ (gi C i).toNat=φ (gi C 0).toNat
 | 0,_=>rfl
 | i+1,hi=>by
  have lt:=h.lt i (by omega)
  have l1:=h.lt (i+1) hi
  have n:=h.nxt i hi
  have:=h2 ((gi C i).toNat,d) ⟨by dsimp only;omega,hd,by dsimp only;omega⟩ hdk
  dsimp only at this
  rw [n] at this
  rw [← this];exact ZjI hc hd h2 hdk h i (by omega)
theorem Zg6 {l:List Za}(hc:Ck l) (hl:l.length≤1000) {d k:Nat}(hd:d<4) (hk:k<4) (hdk:k=(d+1)%4∨k=(d+3)%4) {φ:Nat→Nat}(h1:∀ p,isD l p→p.2=d→φ p.1<φ (nx l p.1 p.2).toNat) (h2:∀ p,isD l p→p.2=(d+1)%4∨p.2=(d+3)%4→φ p.1=φ (nx l p.1 p.2).toNat) {a:List Int}{L:List (List Int)}(c:CH l k a L):∃ ψ,Rk L.length (Zeo l a d l.length) ψ:=by
 obtain ⟨ψ,p1,p2⟩:=Zov L.length fun i=>φ (gi (gi L i) 0).toNat
 have at':∀ v,v<l.length→φ v=φ (gi (gi L (gi a v).toNat) 0).toNat:=by
  intro v hv
  obtain ⟨i,i1,i2,i3⟩:=c.mem v hv
  obtain ⟨j,j1,j2⟩:=ZbC i3
  have:=ZjI hc hk h2 hdk (c.ch i i1) j j1
  rw [j2,itn] at this
  rw [this,i2,itn]
 refine ⟨ψ,Zpr hc hd c,by have:=ZhE (l:=l) (of:=a) (d:=d) l.length;omega,fun e he=>?_,p1⟩
 obtain ⟨v,hv,h0,rfl⟩:=(Ze2 _).1 he
 have dd:isD l (v,d):=⟨hv,hd,h0⟩
 have f:=dd.fwd hc
 have r1:=c.rng hv
 refine p2 _ _ (by dsimp only;omega) ?_
 dsimp only
 rw [← at' v hv,← at' _ f.1]
 exact h1 _ dd rfl
theorem Str.of {l:List Za}(hc:Ck l) {p:List Zh}(h:∀ v,v<l.length→okE l p v 0∧okE l p v 1):Str l (fun v=>(gi p v).X) (fun v=>(gi p v).Y):=by
 have k:∀ q,isD l q→q.2<2→al (fun v=>(gi p v).X) (fun v=>(gi p v).Y) q.2 q.1<al (fun v=>(gi p v).X) (fun v=>(gi p v).Y) q.2 (tg l q)∧ac (fun v=>(gi p v).X) (fun v=>(gi p v).Y) q.2 q.1=ac (fun v=>(gi p v).X) (fun v=>(gi p v).Y) q.2 (tg l q):=by
  rintro ⟨v,d⟩ ⟨h1,h2,h3⟩ h4
  dsimp only at h1 h2 h3 h4 ⊢
  have:d=0∨d=1:=by omega
  rcases this with rfl|rfl
  ·rcases (h v h1).1 with q|q
   ·omega
   ·unfold strt at q
    rw [if_pos rfl] at q
    exact ⟨q.2,q.1⟩
  ·rcases (h v h1).2 with q|q
   ·omega
   ·unfold strt at q
    rw [if_neg (by omega)] at q
    exact ⟨q.2,q.1⟩
 intro q hq
 by_cases c:q.2<2
 ·exact k q hq c
 ·have:=k _ (hq.opp hc) (by unfold opp;dsimp only;have:=hq.2.1;omega)
  have o:tg l (opp l q)=q.1:=congrArg Prod.fst (ZbJ hc hq)
  rw [o] at this
  have e:(opp l q).1=tg l q:=rfl
  rw [e] at this
  have d4:=hq.2.1
  have:(opp l q).2=(q.2+2)%4:=rfl
  have d23:q.2=2∨q.2=3:=by omega
  rcases d23 with z|z<;>rw [z] at this<;>simp_all [al,ac]<;>omega
theorem ZnV {l:List Za}(hc:Ck l) (hw:whole l) (h1:l.length≠1):∀ z,z<l.length→∃ e,e<4∧0≤nx l z e:=by
 have hp:=ZdO hw
 have fst:∀ n w,Rch l 0 n w→w=0∨∃ e,e<4∧0≤nx l 0 e:=by
  intro n w h
  induction h with
  | zero=>exact .inl rfl
  | succ h k ih =>
   rcases ih with rfl|ih
   ·obtain ⟨d,hd,e⟩:=k
    exact .inr ⟨d,hd,by omega⟩
   ·exact .inr ih
 intro z hz
 by_cases c:z=0
 ·subst c
  obtain ⟨n,r⟩:=ZcK hw (w:=1) (by omega)
  rcases fst n 1 r with q|q
  ·omega
  ·exact q
 ·obtain ⟨n,r⟩:=ZcK hw hz
  cases r with
  | zero=>exact absurd rfl c
  | @succ n a _ r k =>
   have al:=r.lt hc hp
   obtain ⟨d,hd,e⟩:=k
   have b:=(hc.back' al hd e).2
   exact ⟨(d+2)%4,by omega,by omega⟩
theorem Zka {l m:List Za}{X Y:Nat→Int}(R:Rec m X Y) (hdeg:∀ z,z<m.length→∃ e,e<4∧0≤nx m z e) (K:KH l m) {A B:List Int}{V H:List (List Int)}(cx:CH l 1 A V) (cy:CH l 0 B H) {p:List Zh}(hp:∀ v,v<l.length→gi p v=⟨X v,Y v⟩):¬ Crs V H p:=by
 rintro ⟨a,b,ha,hb,ne,hap,hsh⟩
 obtain ⟨kl,hm,kt⟩:=K
 obtain ⟨a1,a2⟩:=Zjl.1 ha
 obtain ⟨b1,b2⟩:=Zjl.1 hb
 have ck:∀ a:Bool×Nat,a.2<(if a.1=true then V else H).length→∃ d,d<2∧(d=0↔a.1=false)∧IsCh l d (gi (if a.1=true then V else H) a.2):=by
  rintro ⟨u,i⟩ hi
  cases u with
  | true=>exact ⟨1,by omega,by simp,cx.ch i hi⟩
  | false=>exact ⟨0,by omega,by simp,cy.ch i hi⟩
 obtain ⟨d,hd,e1,C⟩:=ck a a1
 obtain ⟨d',hd',e2,C'⟩:=ck b b1
 unfold ZhA ZhB at hap
 have cc:∀ (w:Bool) (i:Nat),i<(if w=true then V else H).length→cl (if w=true then V else H) i=gi (if w=true then V else H) i:=fun w i hi=>by
  unfold cl;rw [if_neg (by omega),itn]
 unfold shc at hsh
 rw [cc _ _ a1,cc _ _ b1] at hsh
 generalize gi (if a.1=true then V else H) a.2=P at *
 generalize gi (if b.1=true then V else H) b.2=Q at *
 have u1:=C.lt 0 (by omega)
 have u2:=C.lt (P.length-1) (by omega)
 have w1:=C'.lt 0 (by omega)
 have w2:=C'.lt (Q.length-1) (by omega)
 rw [hp _ (by omega),hp _ (by omega),hp _ (by omega),hp _ (by omega)] at hap
 obtain ⟨g1,g2,_⟩:=ZiQ R.str R.ck kl kt hd C (P.length-1) (by omega)
 obtain ⟨h1,h2,_⟩:=ZiQ R.str R.ck kl kt hd' C' (Q.length-1) (by omega)
 unfold ZfD at hap
 simp only [Bool.or_eq_false_iff,decide_eq_false_iff_not] at hap
 obtain ⟨⟨⟨k1,k2⟩,k3⟩,k4⟩:=hap
 have:∃ v,v∈P∧v∈Q:=by
  have d01:d=0∨d=1:=by omega
  have d01':d'=0∨d'=1:=by omega
  refine Zkz R hdeg kl kt hd hd' C C' (x:=max (X (gi P 0).toNat) (X (gi Q 0).toNat)) (y:=max (Y (gi P 0).toNat) (Y (gi Q 0).toNat)) ?_ ?_ ?_ ?_ ?_ ?_<;>rcases d01 with rfl|rfl<;>rcases d01' with rfl|rfl<;>simp [al,ac] at g1 g2 h1 h2 ⊢ <;> omega
 obtain ⟨v,v1,v2⟩:=this
 rw [List.any_eq_false] at hsh
 exact hsh v v1 (by simpa using v2)
end Mu
/- Layer 21: RectMakes. -/
namespace Mu
structure Dr (l r:List Za):Prop where
 ck:Ck r
 len:r.length≤1000
 le:l.length≤r.length
 c1:AllCh r 1
 c0:AllCh r 0
 g0:∀ X V,CH r 1 X V→∃ ψ,Rk V.length (Zeo r X 0 r.length) ψ
 g1:∀ Y H,CH r 0 Y H→∃ ψ,Rk H.length (Zeo r Y 1 r.length) ψ
 nc:∀ p,(∀ v,v<r.length→okE r p v 0∧okE r p v 1)→(∀ A B V H,CH r 1 A V→CH r 0 B H→¬ Crs V H p)∧∀ q,(∀ v,v<l.length→gi q v=gi p v)→(∀ v,v<l.length→okE l q v 0∧okE l q v 1)∧∀ A B V H,CH l 1 A V→CH l 0 B H→¬ Crs V H q
theorem Dr.one {l:List Za}(hc:Ck l) (h1:l.length=1):Dr l l:=by
 have no:∀ p,¬ isD l p:=by
  intro p hp
  rcases hc.s p.1 p.2 hp.1 hp.2.1 with ⟨a,_⟩|⟨w,a,b,c,_⟩
  ·have:=hp.2.2;omega
  ·have:=hp.1;omega
 have n0:∀ v d,v<l.length→d<4→nx l v d<0:=fun v d hv hd=>Classical.byContradiction fun c=>no (v,d) ⟨hv,hd,by dsimp only;omega⟩
 have nc:∀ {A B:List Int}{V H:List (List Int)}{p:List Zh},CH l 1 A V→CH l 0 B H→¬ Crs V H p:=by
  rintro A B V H p cx cy ⟨a,b,ha,_⟩
  obtain ⟨a1,a2⟩:=Zjl.1 ha
  obtain ⟨u,i⟩:=a
  cases u with
  | true=>have:=(cx.ch i a1).len hc (by omega);dsimp only at a2;rw [if_pos rfl] at a2;omega
  | false=>have:=(cy.ch i a1).len hc (by omega);dsimp only at a2;rw [if_neg (by decide)] at a2;omega
 have φ:∀ p,isD l p→(fun _:Nat=>0) p.1<(fun _:Nat=>0) (nx l p.1 p.2).toNat:=fun p hp=>absurd hp (no p)
 refine ⟨hc,by omega,Nat.le_refl _,ZfU hc (by omega) (φ:=fun _=>0) (by simp) (fun p hp=>absurd hp (no p)),ZfU hc (by omega) (φ:=fun _=>0) (by simp) (fun p hp=>absurd hp (no p)),
  fun X V c=>Zg6 hc (by omega) (by omega) (by omega) (.inl rfl) (φ:=fun _=>0) (fun p hp=>absurd hp (no p)) (fun p hp=>absurd hp (no p)) c,
  fun Y H c=>Zg6 hc (by omega) (by omega) (by omega) (.inr rfl) (φ:=fun _=>0) (fun p hp=>absurd hp (no p)) (fun p hp=>absurd hp (no p)) c,
  fun p hp=>⟨fun A B V H cx cy=>nc cx cy,fun q hq=>⟨fun v hv=>⟨.inl (n0 v 0 hv (by omega)),.inl (n0 v 1 hv (by omega))⟩,fun A B V H cx cy=>nc cx cy⟩⟩⟩
theorem ZpK {r:List Za}(hv:Zc1 r=0) (h1:r.length≠1) (hf:Zdo r=none) (ho:∃ g,Cyc r g∧zi r g=-4∧∀ p∈g,-1≤tt r p∧tt r p≤0) {X Y:Nat→Int}(hS:Str r X Y):Rec r X Y:=by
 obtain ⟨k,w,_⟩:=ZdR hv
 have hc:=(Zda.1 k).2
 have hV:=(Zee.1 hv).2.2 h1
 obtain ⟨V1,⟨o,o1,o2⟩,V3⟩:=hV
 refine ⟨hc,hS,⟨o,o1,o2,fun i hi io=>(V1 i hi).resolve_right fun q=>io (V3 i o hi o1 q o2)⟩,fun f hf' h4 p hp=>?_,fun f hf' h4 p hp=>?_⟩
 ·obtain ⟨i,hi,e⟩:=ZbC hf'
  obtain ⟨j,hj,ej⟩:=ZbC hp
  have io:(i:Int)≠ZfS r:=by
   rcases Zie hv h1 hi with z|z
   ·exact z.2
   ·rw [e] at z;omega
  have:=ZjO hf i hi io j
  rw [e] at this
  unfold tns at this
  rw [Zcj hj,ej] at this
  exact this
 ·obtain ⟨g,hg,g4,gt⟩:=ho
  obtain ⟨q,hq⟩:=List.exists_mem_of_ne_nil g hg.ne
  obtain ⟨j,hj,hqj⟩:=ZfW hc (hg.is q hq) (ZgI hc)
  have pj:=hg.perm (Zbw hc _ (Zao hj)) hq hqj
  have rj:zi r (gi (faces r) j)=-4:=by rw [← ZbM pj];exact g4
  obtain ⟨i,hi,e⟩:=ZbC hf'
  have:i=j:=V3 i j hi hj (by rw [e];exact h4) rj
  rw [← e,this] at hp
  exact gt p (pj.mem_iff.2 hp)
theorem Cuts.outer {F:List Za}{n:Nat}{m:List Za}(C:Cuts F n m) (h:∃ g,Cyc F g∧zi F g=-4∧∀ p∈g,-1≤tt F p∧tt F p≤0):∃ g,Cyc m g∧zi m g=-4∧∀ p∈g,-1≤tt m p∧tt m p≤0:=by
 induction C with
 | zero=>exact h
 | succ C c ih =>
  obtain ⟨g,a,b,d⟩:=ih
  exact c.out g a b d
theorem TH.ok {l m:List Za}(hc:Ck m) {p q:List Zh}(hS:Str m (fun v=>(gi p v).X) (fun v=>(gi p v).Y)) (hl:Ck l) (K:KH l m) (hq:∀ v,v<l.length→gi q v=gi p v):∀ v,v<l.length→okE l q v 0∧okE l q v 1:=by
 obtain ⟨kl,hm,kt⟩:=K
 have k:∀ v d,v<l.length→d<2→okE l q v d:=by
  intro v d hv hd
  by_cases c:nx l v d<0
  ·exact .inl c
  ·obtain ⟨w,hw⟩:∃ w:Nat,nx l v d=w:=⟨(nx l v d).toNat,by omega⟩
   have b:=hl.back' hv (show d<4 by omega) hw
   have e:=(kt v d w hv hd hw).end' hS hc (by omega)
   refine .inr ?_
   rw [hw,itn,hq v hv,hq w b.1]
   have:d=0∨d=1:=by omega
   unfold strt
   rcases this with rfl|rfl
   ·rw [if_pos rfl];exact ⟨e.2.2,e.2.1⟩
   ·rw [if_neg (by omega)];exact ⟨e.2.2,e.2.1⟩
 exact fun v hv=>⟨k v 0 hv (by omega),k v 1 hv (by omega)⟩
theorem Dr.of {l r:List Za}(hl:Ck l) (K:KH l r) (hv:Zc1 r=0) (h1:r.length≠1) (hlen:r.length≤1000) (hf:Zdo r=none) (ho:∃ g,Cyc r g∧zi r g=-4∧∀ p∈g,-1≤tt r p∧tt r p≤0):Dr l r:=by
 obtain ⟨k,w,_⟩:=ZdR hv
 have hc:=(Zda.1 k).2
 have hV:=(Zee.1 hv).2.2 h1
 have Cl:=ZjJ hc w
 obtain ⟨φ,a0,a1,a2⟩:=pot hc hV Cl (d0:=0) (by omega)
 obtain ⟨χ,b0,b1,b2⟩:=pot hc hV Cl (d0:=1) (by omega)
 refine ⟨hc,hlen,K.1,ZfU hc (by omega) b0 b1,ZfU hc (by omega) a0 a1,fun X V c=>Zg6 hc hlen (by omega) (by omega) (.inl rfl) a1 a2 c,fun Y H c=>Zg6 hc hlen (by omega) (by omega) (.inr rfl) b1 b2 c,fun p hp=>?_⟩
 have hS:=Str.of hc hp
 have R:=ZpK hv h1 hf ho hS
 have hd:=ZnV hc w h1
 exact ⟨fun A B V H cx cy=>Zka R hd (KH.refl r) cx cy fun v hv=>rfl,fun q hq=>⟨TH.ok hc hS hl K hq,fun A B V H cx cy=>Zka R hd K cx cy fun v hv=>hq v hv⟩⟩
theorem Dr.draw {l r:List Za}(D:Dr l r) (hl:Ck l) (A1:AllCh l 1) (A0:AllCh l 0) {X Y:List Int}{V H:List (List Int)}(hr:Zbc r=some (⟨X,Y,V,H⟩,true)) (cx:CH r 1 X V) (cy:CH r 0 Y H) {a b:List Int}(la:a.length=V.length) (lb:b.length=H.length) (fa:∀ e∈Zeo r X 0 r.length,sat a e) (fb:∀ e∈Zeo r Y 1 r.length,sat b e) :
  Zaj ⟨X,Y,V,H⟩ a b=some (Zc9 X Y a b r.length)∧ZT r (Zc9 X Y a b r.length)=some true∧ZT l ((Zc9 X Y a b r.length).take l.length)=some true:=by
 have len:=D.len
 have le:=D.le
 have ok:=(ZlD D.ck cx cy (a:=a) (b:=b)).2 ⟨fun e he=>by have:=fa e he;unfold sat at this;omega,fun e he=>by have:=fb e he;unfold sat at this;omega⟩
 obtain ⟨n1,n2⟩:=D.nc _ ok
 obtain ⟨x,e1,e2⟩:=ZoF D.ck len cx cy ZgM hr ok
 have tk:∀ v,v<l.length→gi ((Zc9 X Y a b r.length).take l.length) v=gi (Zc9 X Y a b r.length) v:=fun v hv=>by
  unfold gi;simp [List.getElem?_take,hv]
 obtain ⟨o2,n2⟩:=n2 _ tk
 obtain ⟨X',Y',V',H',q,cx',cy'⟩:=ZoE hl (by omega) A1 A0
 obtain ⟨x',e1',e2'⟩:=ZoF hl (by omega) cx' cy' (by rw [List.length_take,ZgM];omega) q o2
 refine ⟨ZpJ (by omega) cx cy la lb,?_,?_⟩
 ·rw [e1]
  cases x with
  | true=>exact absurd (e2.1 rfl) (n1 _ _ _ _ cx cy)
  | false=>rfl
 ·rw [e1']
  cases x' with
  | true=>exact absurd (e2'.1 rfl) (n2 _ _ _ _ cx' cy')
  | false=>rfl
theorem ZjY {n:Nat}{arcs:List ZA}{ψ:Nat→Nat}{M:Int}(hg:Rk n arcs ψ) (hn:n≤1000) (hM:0≤M∧M≤1000) {l:List Int}(h:RX n arcs ψ M n l) {by_:List Int}(hb:∀ y∈by_,ZfC y) (bl:by_.length≤Go.maxLen):∃ l',ZJ l by_ arcs=some l'∧RX n arcs ψ (M+5) n l':=by
 have hA:=hg.len
 have len:=h.len
 have:∃ l1,ZZ (ZJ.s0 l by_) big (l,0)=some l1∧RX n arcs ψ (M+5) 0 l1:=by
  refine ZcI (fun (k:Nat) (s:List Int×Int)=>(s.1.length=n∧∀ v:Nat,v<n→0≤gi s.1 v∧gi s.1 v≤M+ψ v+if v<k then 5 else 0)∧s.2=k) (n:=n) (ZaN (by omega)) ⟨⟨len,fun v hv=>by dsimp only;rw [if_neg (by omega)];have:=h.pos v hv;omega⟩,rfl⟩ ?_ ?_
  ·rintro k ⟨l1,j⟩ hk ⟨⟨h1,h2⟩,h3⟩
   dsimp only at h1 h2 h3 ⊢
   subst h3
   have p:=h2 k hk
   have le:=hg.le k
   rw [if_neg (by omega)] at p
   simp only [ZJ.s0]
   rw [ZB (by omega),itn]
   by_cases c:(k:Int)<(by_.length:Int)
   ·have u:0≤gi by_ k∧gi by_ k≤255:=(hb _ (Zao (by omega))).u8
    have t:=ZlM (a:=gi by_ k) (n:=6) (by omega) (by omega)
    rw [ZB c,Zt (by omega),Zt (by omega),ZcM (by omega),zN (by omega),zN (by omega)]
    refine ⟨_,rfl,⟨by dsimp only;rw [List.length_set];exact h1,fun v hv=>?_⟩,by dsimp only;omega⟩
    dsimp only
    rw [Zcs (by omega)]
    have q:=h2 v hv
    split
    ·rename_i e
     rw [e,if_pos (by omega)];omega
    ·split at q<;>split<;>omega
   ·rw [Z9 c,zN (by omega)]
    refine ⟨_,rfl,⟨h1,fun v hv=>?_⟩,by dsimp only;omega⟩
    have q:=h2 v hv
    dsimp only
    split at q<;>split<;>omega
  ·rintro ⟨l1,j⟩ ⟨⟨h1,h2⟩,h3⟩
   dsimp only at h1 h2 h3 ⊢
   subst h3
   simp only [ZJ.s0]
   rw [Z9 (by omega)]
   refine ⟨_,rfl,h1,fun v hv=>?_,fun a ha hr=>by have:=hg.up a ha;omega⟩
   have:=h2 v hv
   rw [if_pos hv] at this
   omega
 obtain ⟨l1,e1,H1⟩:=this
 have l1l:=H1.len
 have:∃ l',ZZ (ZJ.s1 arcs l1) big (l1,0)=some l'∧RX n arcs ψ (M+5) n l':=by
  refine ZcI (fun (k:Nat) (s:List Int×Int)=>RX n arcs ψ (M+5) k s.1∧s.2=k) (n:=n) (ZaN (by omega)) ⟨H1,rfl⟩ ?_ ?_
  ·rintro k ⟨l,j⟩ hk ⟨h1,h3⟩
   dsimp only at h1 h3 ⊢
   subst h3
   obtain ⟨l',e,h4⟩:=h1.pass (F:=ZJ.s2 arcs) hg hn ⟨by omega,by omega⟩ (fun k l hk hl hb=>by
    have ha:=hg.rng _ (Zao hk)
    have b1:=hb (gi arcs k).From.toNat (by omega)
    have b2:=hb (gi arcs k).To.toNat (by omega)
    simp only [ZJ.s2]
    rw [ZB (by omega),Zt (by omega),itn,Zt (by omega),Zt (by omega),zN (by omega),zN (by omega)]) (fun l=>by
    simp only [ZJ.s2]
    rw [Z9 (by omega)])
   simp only [ZJ.s1]
   rw [ZB (by omega),e,obs,zN (by omega)]
   exact ⟨_,rfl,h4,by dsimp only;omega⟩
  ·rintro ⟨l,j⟩ ⟨h1,h3⟩
   dsimp only at h1 h3 ⊢
   subst h3
   simp only [ZJ.s1]
   rw [Z9 (by omega)]
   exact ⟨_,rfl,h1⟩
 obtain ⟨l',e2,H2⟩:=this
 refine ⟨l',?_,H2⟩
 unfold ZJ
 rw [e1,obs,e2,obs]
theorem Zhz (z:zx) (x y:List Int) (m1:z.At.length≤Go.maxLen) (b1:∀ y∈z.At,ZfC y) (m2:z.Bits.length≤Go.maxLen) (b2:∀ y∈z.Bits,ZfC y) (m3:z.Own.length≤Go.maxLen) (b3:∀ y∈z.Own,ZkV y) (mx:x.length≤Go.maxLen) (bx:∀ u∈x,ZfC u) (my:y.length≤Go.maxLen) (by_:∀ u∈y,ZfC u):zH z x y=some true:=by
 obtain ⟨l,pts,e1,hM,hlen⟩:=Zq9 (z:=z) (most:=10) (Zrr m1 b1 b3) (by omega)
 unfold zH
 rw [e1,obs]
 dsimp only
 have hc:=hM.ck
 have pe:=ZkF hM (by omega)
 by_cases bad:Zc1 l=0
 ·obtain ⟨r,er,D⟩:∃ r,Zaf l=some (r,0)∧Dr l r:=by
   by_cases h1:l.length=1
   ·exact ⟨l,Zk3 bad h1,Dr.one hc h1⟩
   ·obtain ⟨F,v,d,e,hF,_,_⟩:=Zoh (by omega) bad h1
    obtain ⟨m,n,e2,hC,hv,hlen2,hn,hnone⟩:=Zoj (by omega) e hF
    have fl:=hF.len
    have nl:=Zln (l:=F)
    have nn:=Zg8 (l:=m)
    obtain ⟨g,g1,g2,_,g3⟩:=hF.out
    exact ⟨m,e2,Dr.of hc (hF.kh.cuts hF.ck hC) hv (by omega) (by omega) hnone (hC.outer ⟨g,g1,g2,g3⟩)⟩
  have len:=D.len
  have le:=D.le
  obtain ⟨X,Y,V,H,er16,cx,cy⟩:=ZoE D.ck len D.c1 D.c0
  obtain ⟨ψ,hψ⟩:=D.g0 X V cx
  obtain ⟨χ,hχ⟩:=D.g1 Y H cy
  have lV:=cx.Ll
  have lH:=cy.Ll
  obtain ⟨a,ea,Ha⟩:=ZqQ hψ (by omega)
  obtain ⟨b,eb,Hb⟩:=ZqQ hχ (by omega)
  have g0:=Znc D.ck len cx.alen (d:=0) (by omega)
  have g1:=Znc D.ck len cy.alen (d:=1) (by omega)
  rw [show ((0:Nat):Int)=0 from rfl] at g0
  rw [show ((1:Nat):Int)=1 from rfl] at g1
  rw [er,obs]
  dsimp only
  rw [ZhJ,obs,if_neg (by simp),er16,obs]
  dsimp only
  rw [ZbB (show ¬ (r.length:Int)<(l.length:Int) by omega),if_neg (by decide),g0,obs,g1,obs,ea,obs,eb,obs]
  have A1:AllCh l 1:=hM.allCh (by omega)
  have A0:AllCh l 0:=hM.allCh (by omega)
  have fit:∀ {n:Nat}{arcs:List ZA}{ψ:Nat→Nat}{M:Int}{a:List Int},Rk n arcs ψ→RX n arcs ψ M n a→∀ e∈arcs,sat a e:=fun hg h e he=>h.fit e he (hg.le _)
  have:∃ r',ZZ (zH.s0 x y l r ⟨X,Y,V,H⟩ (Zeo r X 0 r.length) (Zeo r Y 1 r.length)) big (a,b,0)=some r'∧r'=.inl ():=by
   refine ZcI (fun (k:Nat) (s:List Int×List Int×Int)=>(RX V.length (Zeo r X 0 r.length) ψ (5*k) V.length s.1∧RX H.length (Zeo r Y 1 r.length) χ (5*k) H.length s.2.1)∧s.2.2=k) (n:=2) (ZaN (by omega)) ⟨⟨by simpa using Ha,by simpa using Hb⟩,rfl⟩ ?_ ?_
   ·rintro k ⟨a,b,j⟩ hk ⟨⟨h1,h2⟩,h3⟩
    dsimp only at h1 h2 h3 ⊢
    subst h3
    obtain ⟨d1,d2,d3⟩:=D.draw hc A1 A0 er16 cx cy h1.len h2.len (fit hψ h1) (fit hχ h2)
    obtain ⟨a',q1,q2⟩:=ZjY hψ (by omega) ⟨by omega,by omega⟩ h1 bx mx
    obtain ⟨b',q3,q4⟩:=ZjY hχ (by omega) ⟨by omega,by omega⟩ h2 by_ my
    simp only [zH.s0]
    rw [ZB (by omega),d1,obs,d2,obs,if_neg (by decide),Zt (by rw [ZgM];omega),itn,d3,obs,obs,if_neg (by decide),q1,obs,q3,obs,zN (by omega)]
    refine ⟨_,rfl,⟨?_,?_⟩,by dsimp only;omega⟩
    ·dsimp only
     rw [show (5:Int)*((k+1:Nat):Int)=5*(k:Int)+5 by omega];exact q2
    ·dsimp only
     rw [show (5:Int)*((k+1:Nat):Int)=5*(k:Int)+5 by omega];exact q4
   ·rintro ⟨a,b,j⟩ ⟨⟨h1,h2⟩,h3⟩
    dsimp only at h1 h2 h3 ⊢
    subst h3
    simp only [zH.s0]
    rw [Z9 (by omega)]
    exact ⟨_,rfl,rfl⟩
  obtain ⟨r',e',rfl⟩:=this
  rw [e',obs]
 ·have v13:Zc1 l=13:=by rw [pe] at bad ⊢; split at bad<;>simp_all
  rw [Zk2 (by omega) bad (by omega),obs]
  dsimp only
  rw [ZhJ,obs,v13,if_pos (by decide),obs]
end Mu
