/- The law, plainly: what is worked out. -/
import Derived.Test.YtdefkboekpjiiaaMuV
import Derived.Test.YtdefkboekpjiiaaMuDf
/- Layer 10: cells,made of places. -/
set_option linter.unusedVariables false
set_option linter.unusedSimpArgs false
set_option maxRecDepth 10000
namespace Mu

def nx (l:List Zc) (v d:Nat):Int:=((gi l v).Next).get (d:Int)
def ow (l:List Zc) (v d:Nat):Int:=((gi l v).Owner).get (d:Int)
theorem Zc6 {α:Type}{x:A4 α}{i j:Nat}{v:α}(hi:i<4) (hj:j<4):(x.set (i:Int) v).get (j:Int)=if j=i then v else x.get (j:Int):=by
 match i,j,hi,hj with
 | 0,0,_,_|0,1,_,_|0,2,_,_|0,3,_,_|1,0,_,_|1,1,_,_|1,2,_,_|1,3,_,_|2,0,_,_|2,1,_,_|2,2,_,_|2,3,_,_|3,0,_,_|3,1,_,_|3,2,_,_|3,3,_,_=>rfl
def noC:Zc:=⟨⟨-1,-1,-1,-1⟩,⟨0,0,0,0⟩⟩
theorem Zfg {α:Type} [Inhabited α] {n i:Nat}{f:Nat→α}(h:i<n):gi ((List.range n).map f) i=f i:=by
 rw [ZbY (by simpa using h)];simp
theorem Zer {α:Type} [Inhabited α] {l m:List α}(h:l.length=m.length) (hg:∀ i,i<l.length→gi l i=gi m i):l=m:=by
 apply List.ext_getElem h;intro i h1 h2;have:=hg i h1;rw [ZbY h1,ZbY h2] at this;exact this

/-! New -/
/-! The nearest -/
def ZfD (at_:List Za) (i d k:Nat):Prop:=k<at_.length∧if d=0 then (gi at_ k).Y=(gi at_ i).Y∧(gi at_ i).X<(gi at_ k).X else (gi at_ k).X=(gi at_ i).X∧(gi at_ i).Y<(gi at_ k).Y
def Zfb (at_:List Za) (d j k:Nat):Prop:=if d=0 then (gi at_ j).X≤(gi at_ k).X else (gi at_ j).Y≤(gi at_ k).Y
def Zef (at_:List Za) (i d n:Nat) (w:Int):Prop:=(w=-1∧∀ k,k<n→¬ ZfD at_ i d k)∨∃ j:Nat,w=j∧j<n∧ZfD at_ i d j∧∀ k,k<n→ZfD at_ i d k→Zfb at_ d j k
instance {at_ i d k}:Decidable (ZfD at_ i d k):=by unfold ZfD;infer_instance
instance {at_ d j k}:Decidable (Zfb at_ d j k):=by unfold Zfb;infer_instance
end Mu
/- Layer 10: crossed,with,make. -/
namespace Mu

theorem Zgb {α:Type}{x:Int}{o:Option α}(h:-9223372036854775808≤x∧x≤9223372036854775807):ck (Zan x) o=o:=ZgK h
def ZdG (at_:List Za) (l:List Zc) (i w a d:Nat):Bool :=
 let p:=gi at_ a;let q:=gi at_ (nx l a d).toNat
 let s:=gi at_ i;let t:=gi at_ w;decide (0≤nx l a d)&&((decide (p.Y=q.Y)&&decide (s.X=t.X)&&decide (p.X<s.X)&&decide (s.X<q.X)&&decide (s.Y<p.Y)&&decide (p.Y<t.Y))||(decide (p.X=q.X)&&decide (s.Y=t.Y)&&decide (s.X<p.X)&&decide (p.X<t.X)&&decide (p.Y<s.Y)&&decide (s.Y<q.Y)))
def ZgM (at_:List Za) (l:List Zc) (i w a:Nat):Bool:=ZdG at_ l i w a 0||ZdG at_ l i w a 1
def ZgN (at_:List Za) (l:List Zc) (i w:Nat):Bool:=(List.range l.length).any fun a=>ZgM at_ l i w a
/-! with -/
def wC1 (c:Zc) (d w o:Int):Zc:=⟨c.Next.set d w,c.Owner.set d o⟩
def wC (l:List Zc) (v d w o:Int) (i:Nat):Zc :=
 let c:=if (i:Int)=v then wC1 (gi l i) d w o else gi l i
 if (i:Int)=w then wC1 c ((d+2).tmod 4) v o else c
def wth (l:List Zc) (v d w o:Int):List Zc:=(List.range l.length).map (wC l v d w o)
theorem Zbx {l:List Zc}{v d w o:Int}:(wth l v d w o).length=l.length:=by simp [wth]
theorem Zeu {l:List Zc}{v w d i e:Nat}{o:Int}(hv:v<l.length) (hw:w<l.length) (hvw:v≠w) (hd:d<4) (hi:i<l.length) (he:e<4):nx (wth l v d w o) i e=(if i=v∧e=d then (w:Int) else if i=w∧e=(d+2)%4 then (v:Int) else nx l i e)∧ow (wth l v d w o) i e=(if i=v∧e=d then o else if i=w∧e=(d+2)%4 then o else ow l i e):=by
 have hb:(((d:Int)+2).tmod 4)=(((d+2)%4:Nat):Int):=by
  match d,hd with
  | 0,_|1,_|2,_|3,_=>rfl
 have g:gi (wth l v d w o) i=wC l v d w o i:=Zfg hi;unfold nx ow;rw [g];unfold wC;rw [hb];by_cases c1:i=v
 ·subst c1;rw [if_pos rfl,if_neg (show ¬ ((i:Nat):Int)=(w:Int) by omega)];simp only [wC1];rw [Zc6 hd he,Zc6 hd he];have:¬ (i=w):=hvw;simp [this]
 ·rw [if_neg (show ¬ ((i:Nat):Int)=(v:Int) by omega)];by_cases c2:i=w
  ·subst c2;rw [if_pos rfl];simp only [wC1];rw [Zc6 (by omega) he,Zc6 (by omega) he];simp [c1]
  ·rw [if_neg (show ¬ ((i:Nat):Int)=(w:Int) by omega)];simp [c1,c2]

/-! What may be. -/
structure Ck (l:List Zc):Prop where
 s:∀ v d,v<l.length→d<4→(nx l v d=-1∧ow l v d=0)∨∃ w:Nat,nx l v d=w∧w<l.length∧w≠v∧nx l w ((d+2)%4)=v∧ow l w ((d+2)%4)=ow l v d∧-2≤ow l v d
theorem Ck.wth {l:List Zc}(h:Ck l) {v w d:Nat}{o:Int}(hv:v<l.length) (hw:w<l.length) (hvw:v≠w) (hd:d<4) (h1:nx l v d=-1) (h2:nx l w ((d+2)%4)=-1) (ho:-2≤o):Ck (wth l v d w o):=by
 refine ⟨fun i e hi he=>?_⟩;rw [Zbx] at hi ⊢;have n1:=fun i e hi he=>(Zeu (o:=o) hv hw hvw hd (i:=i) (e:=e) hi he).1;have n2:=fun i e hi he=>(Zeu (o:=o) hv hw hvw hd (i:=i) (e:=e) hi he).2;rw [n1 i e hi he,n2 i e hi he];by_cases c1:i=v∧e=d
 ·rw [if_pos c1,if_pos c1];refine .inr ⟨w,rfl,hw,by omega,?_,?_,ho⟩
  ·rw [n1 w _ hw (by omega),if_neg (by omega),if_pos ⟨rfl,by rw [c1.2]⟩,c1.1]
  ·rw [n2 w _ hw (by omega),if_neg (by omega),if_pos ⟨rfl,by rw [c1.2]⟩]
 ·rw [if_neg c1,if_neg c1];by_cases c2:i=w∧e=(d+2)%4
  ·rw [if_pos c2,if_pos c2];refine .inr ⟨v,rfl,hv,by omega,?_,?_,ho⟩
   ·rw [n1 v _ hv (by omega),if_pos ⟨rfl,by omega⟩,c2.1]
   ·rw [n2 v _ hv (by omega),if_pos ⟨rfl,by omega⟩]
  ·rw [if_neg c2,if_neg c2];rcases h.s i e hi he with hh|⟨x,x1,x2,x3,x4,x5,x6⟩
   ·exact .inl hh
   ·refine .inr ⟨x,x1,x2,x3,?_,?_,x6⟩
    ·rw [n1 x _ x2 (by omega)];rw [if_neg (fun c=>by
      have:nx l x ((e+2)%4)=-1:=by rw [c.1,c.2];exact h1
      omega)]
     rw [if_neg (fun c=>by
      have:nx l x ((e+2)%4)=-1:=by rw [c.1,c.2];exact h2
      omega)]
     exact x4
    ·rw [n2 x _ x2 (by omega)];rw [if_neg (fun c=>by
      have:nx l x ((e+2)%4)=-1:=by rw [c.1,c.2];exact h1
      omega)]
     rw [if_neg (fun c=>by
      have:nx l x ((e+2)%4)=-1:=by rw [c.1,c.2];exact h2
      omega)]
     exact x5
end Mu
/- Layer 10: make. -/
namespace Mu

structure Pts (at_:List Za):Prop where
 b:∀ i,i<at_.length→0≤(gi at_ i).X∧(gi at_ i).X<8∧0≤(gi at_ i).Y∧(gi at_ i).Y<8
 d:∀ i j,i<at_.length→j<at_.length→gi at_ i=gi at_ j→i=j
theorem Pts.nil:Pts []:=⟨fun i h=>by simp at h,fun i j h=>by simp at h⟩
theorem Pts.app {at_:List Za}(h:Pts at_) {p:Za}(hp:0≤p.X∧p.X<8∧0≤p.Y∧p.Y<8) (hn:∀ k,k<at_.length→gi at_ k≠p):Pts (at_++[p]):=by
 have g1:∀ i,i<at_.length→gi (at_++[p]) i=gi at_ i:=fun i hi=>Zb8 hi;have g2:gi (at_++[p]) at_.length=p:=by
  have:=Zbu (l:=at_) (m:=[p]) (i:=0);rw [Nat.add_zero] at this;rw [this];rfl
 refine ⟨fun i hi=>?_,fun i j hi hj hij=>?_⟩
 ·simp only [List.length_append,List.length_cons,List.length_nil] at hi;by_cases c:i<at_.length
  ·rw [g1 i c];exact h.b i c
  ·rw [show i=at_.length by omega,g2];exact hp
 ·simp only [List.length_append,List.length_cons,List.length_nil] at hi hj;by_cases c:i<at_.length<;>by_cases c2:j<at_.length
  ·rw [g1 i c,g1 j c2] at hij;exact h.d i j c c2 hij
  ·rw [g1 i c,show j=at_.length by omega,g2] at hij;exact absurd hij (hn i c)
  ·rw [g1 j c2,show i=at_.length by omega,g2] at hij;exact absurd hij.symm (hn j c2)
  ·omega
theorem ZgZ {at_:List Za}(hp:Pts at_) {i j d:Nat}{w:Nat}(hi:i<at_.length) (hj:j<at_.length) (hd:d<2) (h1:Zef at_ i d at_.length w) (h2:Zef at_ j d at_.length w):i=j:=by
 rcases h1 with ⟨h,_⟩|⟨w1,e1,l1,c1,m1⟩
 ·omega
 rcases h2 with ⟨h,_⟩|⟨w2,e2,l2,c2,m2⟩
 ·omega
 obtain rfl:w=w1:=by omega
 obtain rfl:w=w2:=by omega
 apply hp.d i j hi hj;have x1:=m1 j hj;have x2:=m2 i hi;have c1:=c1.2;have c2:=c2.2;unfold ZfD Zfb at x1 x2;by_cases z:d=0
 ·simp only [if_pos z] at *;have hX:(gi at_ i).X=(gi at_ j).X:=by
   by_cases q1:(gi at_ i).X<(gi at_ j).X
   ·have:=x1 ⟨hj,by omega,q1⟩;omega
   ·by_cases q2:(gi at_ j).X<(gi at_ i).X
    ·have:=x2 ⟨hi,by omega,q2⟩;omega
    ·omega
  have hY:(gi at_ i).Y=(gi at_ j).Y:=by omega
  generalize gi at_ i=p at *;generalize gi at_ j=q at *;obtain ⟨a,b⟩:=p;obtain ⟨a',b'⟩:=q;simp only at hX hY;rw [hX,hY]
 ·simp only [if_neg z] at *;have hX:(gi at_ i).Y=(gi at_ j).Y:=by
   by_cases q1:(gi at_ i).Y<(gi at_ j).Y
   ·have:=x1 ⟨hj,by omega,q1⟩;omega
   ·by_cases q2:(gi at_ j).Y<(gi at_ i).Y
    ·have:=x2 ⟨hi,by omega,q2⟩;omega
    ·omega
  have hY:(gi at_ i).X=(gi at_ j).X:=by omega
  generalize gi at_ i=p at *;generalize gi at_ j=q at *;obtain ⟨a,b⟩:=p;obtain ⟨a',b'⟩:=q;simp only at hX hY;rw [hX,hY]
def NX (at_:List Za) (l:List Zc):Prop:=∀ a b:Nat,a<l.length→b<l.length→0≤nx l a 0→0≤nx l b 1→¬ ((gi at_ a).X<(gi at_ b).X∧(gi at_ b).X<(gi at_ (nx l a 0).toNat).X∧(gi at_ b).Y<(gi at_ a).Y∧(gi at_ a).Y<(gi at_ (nx l b 1).toNat).Y)
structure Mk (at_:List Za) (l:List Zc) (i d:Nat):Prop where
 len:l.length=at_.length
 ck:Ck l
 near:∀ v e,v<l.length→e<2→nx l v e=-1∨((v<i∨v=i∧e<d)∧Zef at_ v e at_.length (nx l v e))
 own:∀ v e,v<l.length→e<4→-2≤ow l v e∧ow l v e≤1000
 nc:NX at_ l
theorem Mk.step {at_:List Za}{l:List Zc}{i d:Nat}(h:Mk at_ l i d):Mk at_ l i (d+1) :=
 ⟨h.len,h.ck,fun v e hv he=>(h.near v e hv he).imp id (fun ⟨a,b⟩=>⟨by omega,b⟩),h.own,h.nc⟩
theorem Mk.next {at_:List Za}{l:List Zc}{i:Nat}(h:Mk at_ l i 2):Mk at_ l (i+1) 0 :=
 ⟨h.len,h.ck,fun v e hv he=>(h.near v e hv he).imp id (fun ⟨a,b⟩=>⟨by omega,b⟩),h.own,h.nc⟩
theorem Ck.lt {l:List Zc}(h:Ck l) {v d:Nat}(hv:v<l.length) (hd:d<4):-1≤nx l v d∧nx l v d<l.length:=by
 rcases h.s v d hv hd with ⟨a,_⟩|⟨w,a,b,_⟩<;>omega
theorem Mk.lay {at_:List Za}(hp:Pts at_) {l:List Zc}{i d w:Nat}{o:Int}(h:Mk at_ l i d) (hi:i<l.length) (hd:d<2) (hw:Zef at_ i d at_.length w) (hx:ZgN at_ l i w=false) (ho:-2≤o∧o≤1000):Mk at_ (wth l i d w o) i (d+1):=by
 have hl:=h.len;have hwl:w<l.length∧ZfD at_ i d w:=by
  rcases hw with ⟨e,_⟩|⟨j,e,h1,h2,_⟩
  ·omega
  ·have:w=j:=by omega
   subst this;exact ⟨by omega,h2⟩
 have hne:i≠w:=by
  rintro rfl;have:=hwl.2.2;split at this<;>omega
 have n1:nx l i d=-1:=by
  rcases h.near i d hi (by omega) with e|⟨e,_⟩
  ·exact e
  ·omega
 have n2:nx l w ((d+2)%4)=-1:=by
  rcases h.ck.s w ((d+2)%4) hwl.1 (by omega) with ⟨e,_⟩|⟨x,e1,e2,e3,e4,e5,e6⟩
  ·exact e
  ·rw [show ((d+2)%4+2)%4=d by omega] at e4;rcases h.near x d e2 hd with e|⟨e,e7⟩
   ·omega
   ·rw [e4] at e7;have:=ZgZ hp (by omega) (by omega) hd e7 hw;subst this;omega
 have m1:=fun v e hv he=>(Zeu (o:=o) hi hwl.1 hne (show d<4 by omega) (i:=v) (e:=e) hv he).1;have m2:=fun v e hv he=>(Zeu (o:=o) hi hwl.1 hne (show d<4 by omega) (i:=v) (e:=e) hv he).2;have hcr:∀ a,a<l.length→ZdG at_ l i w a 0=false∧ZdG at_ l i w a 1=false:=by
  intro a ha;unfold ZgN at hx;rw [List.any_eq_false] at hx;have:=hx a (List.mem_range.2 ha);unfold ZgM at this;simpa using this
 refine ⟨by rw [Zbx];exact hl,h.ck.wth hi hwl.1 hne (by omega) n1 n2 ho.1,fun v e hv he=>?_,fun v e hv he=>?_,fun a b ha hb=>?_⟩
 ·rw [Zbx] at hv;rw [m1 v e hv (by omega)];by_cases c:v=i∧e=d
  ·rw [if_pos c];right;refine ⟨by omega,?_⟩;rw [c.1,c.2];exact hw
  ·rw [if_neg c];rw [if_neg (fun c2=>by omega)];exact (h.near v e hv he).imp id (fun ⟨a,b⟩=>⟨by omega,b⟩)
 ·rw [Zbx] at hv;rw [m2 v e hv he];by_cases c:v=i∧e=d
  ·rw [if_pos c];exact ho
  ·rw [if_neg c];by_cases c2:v=w∧e=(d+2)%4
   ·rw [if_pos c2];exact ho
   ·rw [if_neg c2];exact h.own v e hv he
 ·rw [Zbx] at ha hb;rw [m1 a 0 ha (by omega),m1 b 1 hb (by omega)];have cd:=hwl.2.2;by_cases c0:d=0
  ·subst c0;rw [if_pos rfl] at cd;rw [if_neg (show ¬ (b=i∧1=0) by omega),if_neg (show ¬ (b=w∧1=(0+2)%4) by omega),if_neg (show ¬ (a=w∧0=(0+2)%4) by omega)];by_cases c:a=i
   ·subst c;rw [if_pos ⟨rfl,rfl⟩];intro _ h1 ⟨k1,k2,k3,k4⟩;rw [Int.toNat_natCast] at k2;have q:=(hcr b hb).2;have nb:=h.near b 1 hb (by omega);have ex:(gi at_ b).X=(gi at_ (nx l b 1).toNat).X:=by
     rcases nb with e|⟨_,e⟩
     ·omega
     ·rcases e with ⟨e,_⟩|⟨j,e,_,e2,_⟩
      ·omega
      ·rw [e,Int.toNat_natCast];exact e2.2.1.symm
    unfold ZdG at q;simp [h1,ex,cd.1] at q;omega
   ·rw [if_neg (show ¬ (a=i∧0=0) by omega)];exact h.nc a b ha hb
  ·have c1:d=1:=by omega
   subst c1;rw [if_neg (by omega)] at cd;rw [if_neg (show ¬ (a=i∧0=1) by omega),if_neg (show ¬ (a=w∧0=(1+2)%4) by omega),if_neg (show ¬ (b=w∧1=(1+2)%4) by omega)];by_cases c:b=i
   ·subst c;rw [if_pos ⟨rfl,rfl⟩];intro h1 _ ⟨k1,k2,k3,k4⟩;rw [Int.toNat_natCast] at k4;have q:=(hcr a ha).1;have na:=h.near a 0 ha (by omega);have ey:(gi at_ a).Y=(gi at_ (nx l a 0).toNat).Y:=by
     rcases na with e|⟨_,e⟩
     ·omega
     ·rcases e with ⟨e,_⟩|⟨j,e,_,e2,_⟩
      ·omega
      ·rw [e,Int.toNat_natCast];exact e2.2.1.symm
    unfold ZdG at q;simp [h1,ey,cd.1] at q;omega
   ·rw [if_neg (show ¬ (b=i∧1=1) by omega)];exact h.nc a b ha hb
structure Made (l:List Zc) (at_:List Za):Prop where
 pts:Pts at_
 len:l.length=at_.length
 ck:Ck l
 near:∀ v e,v<l.length→e<2→nx l v e=-1∨Zef at_ v e at_.length (nx l v e)
 own:∀ v e,v<l.length→e<4→-2≤ow l v e∧ow l v e≤1000
 nc:NX at_ l
end Mu
/- Layer 10: check. -/
namespace Mu

end Mu
/- Layer 13: what hangs together,by steps. -/
namespace Mu

def Adj (l:List Zc) (a b:Nat):Prop:=∃ d,d<4∧nx l a d=b
inductive Rch (l:List Zc) (v:Nat):Nat→Nat→Prop
 | zero:Rch l v 0 v
 | succ {n a b}:Rch l v n a→Adj l a b→Rch l v (n+1) b
theorem Adj.lt {l:List Zc}(h:Ck l) {a b:Nat}(ha:a<l.length) (hab:Adj l a b):b<l.length:=by
 obtain ⟨d,hd,e⟩:=hab;have:=h.lt ha hd;omega
theorem Adj.symm {l:List Zc}(h:Ck l) {a b:Nat}(ha:a<l.length) (hab:Adj l a b):Adj l b a:=by
 obtain ⟨d,hd,e⟩:=hab;rcases h.s a d ha hd with ⟨e2,_⟩|⟨w,e2,_,_,e3,_⟩
 ·omega
 ·have:w=b:=by omega
  subst this;exact ⟨(d+2)%4,by omega,e3⟩
theorem Rch.lt {l:List Zc}(h:Ck l) {v n w:Nat}(hv:v<l.length) (hr:Rch l v n w):w<l.length:=by
 induction hr with
 | zero=>exact hv
 | succ _ hab ih=>exact hab.lt h ih
theorem Rch.trans {l:List Zc}{a b c n m:Nat}(h1:Rch l a n b) (h2:Rch l b m c):Rch l a (n+m) c:=by
 induction h2 with
 | zero=>exact h1
 | succ _ hab ih=>exact .succ ih hab
theorem Rch.symm {l:List Zc}(h:Ck l) {v n w:Nat}(hv:v<l.length) (hr:Rch l v n w):Rch l w n v:=by
 induction hr with
 | zero=>exact .zero
 | succ hr hab ih =>
  have ha:=hr.lt h hv;have:=(Rch.succ .zero (hab.symm h ha)).trans ih;rw [Nat.zero_add,Nat.add_comm] at this;exact this
def Dist (l:List Zc) (v w n:Nat):Prop:=Rch l v n w∧∀ m,Rch l v m w→n≤m
theorem Dist.uniq {l:List Zc}{v w n m:Nat}(h1:Dist l v w n) (h2:Dist l v w m):n=m:=by
 have:=h1.2 m h2.1;have:=h2.2 n h1.1;omega
theorem Dist.symm {l:List Zc}(h:Ck l) {v w n:Nat}(hv:v<l.length) (hd:Dist l v w n):Dist l w v n :=
 ⟨hd.1.symm h hv,fun m hm=>hd.2 m (hm.symm h (hd.1.lt h hv))⟩
theorem Dist.pred {l:List Zc}{v w n:Nat}(hd:Dist l v w (n+1)):∃ a,Dist l v a n∧Adj l a w:=by
 obtain ⟨h1,h2⟩:=hd
 cases h1 with
 | succ hr hab =>
  refine ⟨_,⟨hr,fun m hm=>?_⟩,hab⟩;have:=h2 (m+1) (.succ hm hab);omega
theorem ZfK:∀ {n m:Nat}(f:Nat→Nat),(∀ i,i<n→f i<m)→(∀ i j,i<n→j<n→f i=f j→i=j)→n≤m
 | 0,m,f,_,_=>Nat.zero_le _
 | n+1,0,f,h,_=>absurd (h 0 (by omega)) (by omega)
 | n+1,m+1,f,h,hi=>by
  have:=ZfK (n:=n) (m:=m) (fun i=>if f i=m then f n else f i) (fun i hi'=>by
   by_cases c:f i=m
   ·rw [if_pos c];have:=h n (by omega);by_cases c2:f n=m
    ·have:=hi i n (by omega) (by omega) (by omega);omega
    ·omega
   ·rw [if_neg c];have:=h i (by omega);omega) (fun i j hi' hj' e=>by
   by_cases c:f i=m<;>by_cases c2:f j=m
   ·exact hi i j (by omega) (by omega) (by omega)
   ·rw [if_pos c,if_neg c2] at e;have:=hi n j (by omega) (by omega) e;omega
   ·rw [if_neg c,if_pos c2] at e;have:=hi i n (by omega) (by omega) e;omega
   ·rw [if_neg c,if_neg c2] at e;exact hi i j (by omega) (by omega) e)
  omega
theorem Dist.all {l:List Zc}{v w:Nat}:∀ n,Dist l v w n→∀ m,m≤n→∃ a,Dist l v a m
 | 0,h,m,hm=>⟨w,by rw [show m=0 by omega];exact h⟩
 | n+1,h,m,hm=>by
  by_cases c:m=n+1
  ·exact ⟨w,by rw [c];exact h⟩
  ·obtain ⟨a,ha,_⟩:=h.pred;exact Dist.all n ha m (by omega)
theorem Dist.lt {l:List Zc}(h:Ck l) {v w n:Nat}(hv:v<l.length) (hd:Dist l v w n):n<l.length:=by
 have hall:=fun m (hm:m<n+1)=>hd.all n m (by omega);have:=ZfK (n:=n+1) (m:=l.length) (fun m=>if hm:m<n+1 then (hall m hm).choose else 0) (fun i hi=>by
  rw [dif_pos hi];exact (hall i hi).choose_spec.1.lt h hv) (fun i j hi hj e=>by
  rw [dif_pos hi,dif_pos hj] at e;have d1:=(hall i hi).choose_spec;have d2:=(hall j hj).choose_spec;rw [e] at d1;exact d1.uniq d2)
 omega
end Mu
/- Layer 13: spread. -/
namespace Mu

structure So (l:List Zc) (v:Nat) (δ:Nat→Nat) (q:List Int) (mt:List Bool):Prop where
 el:∀ x∈q,∃ a:Nat,x=a∧a<l.length∧gi mt a=true
 so:q.Pairwise fun x y=>δ x.toNat≤δ y.toNat∧δ y.toNat≤δ x.toNat+1
 pr:∀ a:Nat,gi mt a=true→(a:Int) ∉ q→(∀ x∈q,δ a≤δ x.toNat)∧∀ b,Adj l a b→gi mt b=true∧δ b≤δ a+1
structure Si (l:List Zc) (v h:Nat) (δ:Nat→Nat) (q:List Int) (mt:List Bool) (d:Nat):Prop where
 hm:gi mt h=true
 el:∀ x∈q,∃ a:Nat,x=a∧a<l.length∧gi mt a=true∧δ h≤δ a∧δ a≤δ h+1
 so:q.Pairwise fun x y=>δ x.toNat≤δ y.toNat
 pr:∀ a:Nat,gi mt a=true→(a:Int) ∉ q→a≠h→δ a≤δ h∧∀ b,Adj l a b→gi mt b=true∧δ b≤δ a+1
 hd:∀ e,e<d→∀ b:Nat,nx l h e=b→gi mt b=true∧δ b≤δ h+1
theorem So.open {l:List Zc}{v h:Nat}{δ:Nat→Nat}{t:List Int}{mt:List Bool}(s:So l v δ ((h:Int)::t) mt):Si l v h δ t mt 0:=by
 have hs:=List.pairwise_cons.1 s.so;refine ⟨?_,fun x hx=>?_,hs.2.imp (fun h=>h.1),fun a ha hn hne=>?_,fun e he=>by omega⟩
 ·obtain ⟨a,e,_,hh⟩:=s.el _ List.mem_cons_self;obtain rfl:h=a:=by omega
  exact hh
 ·obtain ⟨a,e,h1,h2⟩:=s.el x (List.mem_cons_of_mem _ hx);have:=hs.1 x hx;subst e;exact ⟨a,rfl,h1,h2,by simpa using this.1,by simpa using this.2⟩
 ·have:=s.pr a ha (by
   rw [List.mem_cons];rintro (h|h)
   ·omega
   ·exact hn h)
  exact ⟨by simpa using this.1 _ List.mem_cons_self,this.2⟩
theorem Si.skip {l:List Zc}{v h d:Nat}{δ:Nat→Nat}{q:List Int}{mt:List Bool}(s:Si l v h δ q mt d) (hs:∀ w:Nat,nx l h d=w→gi mt w=true):Si l v h δ q mt (d+1):=by
 refine ⟨s.hm,s.el,s.so,s.pr,fun e he b hb=>?_⟩;by_cases c:e=d
 ·subst c;have hm:=hs b hb;refine ⟨hm,?_⟩;by_cases c1:(b:Int)∈q
  ·obtain ⟨a,e,_,_,_,h4⟩:=s.el _ c1;have:b=a:=by omega
   subst this;exact h4
  ·by_cases c2:b=h
   ·subst c2;omega
   ·have:=(s.pr b hm c1 c2).1;omega
 ·exact s.hd e (by omega) b hb
end Mu
/- Layer 13: spread,walked. -/
namespace Mu

end Mu
/- Layer 13: far. -/
namespace Mu

end Mu
/- Layer 13: paths. -/
namespace Mu

end Mu
/- Layer 13: there and back. -/
namespace Mu
end Mu
/- Layer 13: join's paths. -/
namespace Mu
end Mu
/- Layer 13: join's parts. -/
namespace Mu
noncomputable def rb (l:List Zc) (v w:Nat):Bool:=@decide (∃ n,Rch l v n w) (Classical.propDecidable _)
noncomputable def Zi3 (l:List Zc) (v k:Nat):List Int:=((List.range k).filter (rb l v)).map fun w:Nat=>(w:Int)
noncomputable def ZiY (l:List Zc) (v:Nat) (met:List Bool) (k:Nat):List Bool:=(List.range l.length).map fun w=>if w<k then gi met w||rb l v w else gi met w
noncomputable def PS (l:List Zc):Nat→List (List Int)×List Bool
 | 0=>([],List.replicate l.length false)
 | n+1=>if gi (PS l n).2 n=true then PS l n else ((PS l n).1++[Zi3 l n l.length],ZiY l n (PS l n).2 l.length)
end Mu
/- Layer 13: the document's parts,and the law. -/
namespace Mu
end Mu
/- Layer 10: a grid's cells,played with. -/
namespace Mu
structure Rg (l:List Zc):Prop where
 len:l.length≤4096
 nx:∀ v d:Nat,v<l.length→d<4→nx l v d=-1∨(0≤nx l v d∧nx l v d<l.length)
theorem Rg.wth {l:List Zc}{v w d:Nat}{o:Int}(h:Rg l) (hv:v<l.length) (hw:w<l.length) (hvw:v≠w) (hd:d<4):Rg (wth l v d w o):=by
 refine ⟨by rw [Zbx];exact h.len,fun i e hi he=>?_⟩;rw [Zbx] at hi ⊢;rw [(Zeu hv hw hvw hd hi he).1];split
 ·omega
 ·split
  ·omega
  ·exact h.nx i e hi he
theorem Zhb {d:Nat}(h:d<4):noC.Next.get (d:Int)=-1∧noC.Owner.get (d:Int)=0:=by
 match d,h with
 | 0,_|1,_|2,_|3,_=>exact ⟨rfl,rfl⟩
theorem Rg.add {l:List Zc}(h:Rg l) (hl:l.length<4096):Rg (l++[noC]):=by
 refine ⟨by simp;omega,fun i e hi he=>?_⟩;rw [List.length_append,List.length_singleton] at hi ⊢;unfold Mu.nx;by_cases c:i<l.length
 ·rw [Zb8 c];have:=h.nx i e c he;unfold Mu.nx at this;omega
 ·rw [show i=l.length+0 by omega,Zbu];exact .inl (Zhb he).1
end Mu
/- Layer 10: a split edge. -/
namespace Mu
end Mu
/- Layer 10: GridPlays. -/
namespace Mu
theorem Rg.start {n:Nat}(h:n≤4096):Rg (List.replicate n noC):=by
 refine ⟨by simpa using h,fun v d hv hd=>?_⟩;simp only [List.length_replicate] at hv;have:gi (List.replicate n noC) v=noC:=by rw [ZbY (by simpa using hv)];simp
 unfold Mu.nx;rw [this];exact .inl (Zhb hd).1
end Mu
/- Layer 10: turned cells;what Split and Of answer. -/
namespace Mu
end Mu
/- Layer 13: JoinTurns. -/
namespace Mu
/-! the split edge -/
def ext (v u:Int) (p:List Int):List Int:=if v∈p then p++[u] else p
end Mu
/- Layer 16: straight chains of cells. -/
namespace Mu
theorem Ck.back {l:List Zc}(h:Ck l) {v d w:Nat}(hv:v<l.length) (hd:d<4) (hw:nx l v d=w):w<l.length∧nx l w ((d+2)%4)=v:=by
 rcases h.s v d hv hd with ⟨a,_⟩|⟨u,a,b,_,c,_⟩
 ·omega
 ·have:w=u:=by omega
  subst this;exact ⟨b,c⟩
structure IsCh (l:List Zc) (d:Nat) (C:List Int):Prop where
 ne:0<C.length
 lt:∀ i,i<C.length→0≤gi C i∧gi C i<l.length
 nxt:∀ i,i+1<C.length→nx l (gi C i).toNat d=gi C (i+1)
 fin:nx l (gi C (C.length-1)).toNat d=-1
 beg:nx l (gi C 0).toNat ((d+2)%4)=-1
theorem IsCh.bk {l:List Zc}(hc:Ck l) {d:Nat}(hd:d<4) {C:List Int}(h:IsCh l d C) {i:Nat}(hi:i+1<C.length):nx l (gi C (i+1)).toNat ((d+2)%4)=gi C i:=by
 have a:=h.lt i (by omega);have b:=h.lt (i+1) hi;have:=(hc.back (v:=(gi C i).toNat) (d:=d) (w:=(gi C (i+1)).toNat) (by omega) hd (by rw [h.nxt i hi];omega)).2;rw [this];omega
theorem IsCh.at0 {l:List Zc}(hc:Ck l) {d:Nat}(hd:d<4) {C C':List Int}(h:IsCh l d C) (h':IsCh l d C'):∀ i j,i<C.length→j<C'.length→gi C i=gi C' j→i=j∧gi C 0=gi C' 0
 | 0,0,_,_,e=>⟨rfl,e⟩
 | 0,j+1,_,hj,e=>by
  have a:=h'.bk hc hd hj;have b:=h.beg;rw [e,a] at b;have:=h'.lt j (by omega);omega
 | i+1,0,hi,_,e=>by
  have a:=h.bk hc hd hi;have b:=h'.beg;rw [← e,a] at b;have:=h.lt i (by omega);omega
 | i+1,j+1,hi,hj,e=>by
  have a:=h.bk hc hd hi;have b:=h'.bk hc hd hj;rw [e,b] at a;obtain ⟨q,r⟩:=IsCh.at0 hc hd h h' i j (by omega) (by omega) a.symm;exact ⟨by omega,r⟩
theorem IsCh.uniq0 {l:List Zc}{d:Nat}{C C':List Int}(h:IsCh l d C) (h':IsCh l d C') (h0:gi C 0=gi C' 0):C=C':=by
 have key:∀ {C C':List Int},IsCh l d C→IsCh l d C'→gi C 0=gi C' 0→∀ k,k<C.length→k<C'.length∧gi C k=gi C' k:=by
  intro C C' h h' h0 k
  induction k with
  | zero=>intro _;exact ⟨h'.ne,h0⟩
  | succ k ih =>
   intro hk;obtain ⟨a,b⟩:=ih (by omega);have n:=h.nxt k hk;have q:=h.lt (k+1) hk;by_cases c:k+1<C'.length
   ·refine ⟨c,?_⟩;rw [← n,← h'.nxt k c,b]
   ·have f:=h'.fin;rw [show C'.length-1=k by omega,← b,n] at f;omega
 have k1:=key h h' h0;have k2:=key h' h h0.symm;have hl:C.length=C'.length:=by
  have a:=h.ne;have b:=h'.ne;have:=(k1 (C.length-1) (by omega)).1;have:=(k2 (C'.length-1) (by omega)).1;omega
 exact Zer hl fun i hi=>(k1 i hi).2
theorem IsCh.uniq {l:List Zc}(hc:Ck l) {d:Nat}(hd:d<4) {C C':List Int}(h:IsCh l d C) (h':IsCh l d C') {v:Int}(hv:v∈C) (hv':v∈C'):C=C':=by
 obtain ⟨i,hi,rfl⟩:=List.mem_iff_getElem.1 hv;obtain ⟨j,hj,e⟩:=List.mem_iff_getElem.1 hv';exact h.uniq0 h' (h.at0 hc hd h' i j hi hj (by rw [ZbY hi,ZbY hj];exact e.symm)).2
theorem IsCh.len {l:List Zc}(hc:Ck l) {d:Nat}(hd:d<4) {C:List Int}(h:IsCh l d C):C.length≤l.length:=by
 refine ZfK (fun i=>(gi C i).toNat) (fun i hi=>?_) (fun i j hi hj e=>?_)
 ·have:=h.lt i hi;show (gi C i).toNat<l.length;omega
 ·have a:=h.lt i hi;have b:=h.lt j hj;have e:(gi C i).toNat=(gi C j).toNat:=e;exact (h.at0 hc hd h i j hi hj (by omega)).1
def fwd (l:List Zc) (d r:Nat):Nat→Int
 | 0=>r
 | n+1=>if 0≤fwd l d r n then nx l (fwd l d r n).toNat d else -1
structure CH (l:List Zc) (d:Nat) (a:List Int) (L:List (List Int)):Prop where
 alen:a.length=l.length
 ch:∀ i,i<L.length→IsCh l d (gi L i)
 mem:∀ u:Nat,u<l.length→∃ i:Nat,i<L.length∧gi a u=i∧(u:Int)∈gi L i
 one:∀ i u:Nat,i<L.length→u<l.length→(u:Int)∈gi L i→gi a u=i
 seen:∀ i:Nat,i<L.length→∃ u,u<l.length∧gi a u=i
 ord:∀ u i:Nat,u<l.length→gi a u=i+1→∃ u',u'<u∧gi a u'=i
 Ll:L.length≤l.length
theorem ZfJ {n:Nat}{a:List Int}(ord:∀ u i:Nat,u<n→gi a u=i+1→∃ u',u'<u∧gi a u'=i):∀ (k u i:Nat),u<n→gi a u=i+(k+1:Nat)→∃ u',u'<u∧gi a u'=i
 | 0,u,i,hu,e=>ord u i hu (by omega)
 | k+1,u,i,hu,e=>by
  obtain ⟨u',h1,h2⟩:=ord u (i+(k+1)) hu (by omega);obtain ⟨u'',h3,h4⟩:=ZfJ ord k u' i (by omega) (by omega);exact ⟨u'',by omega,h4⟩
theorem Zi2 {n:Nat}{a a':List Int}(p:∀ u:Nat,u<n→∃ i:Nat,gi a u=i) (p':∀ u:Nat,u<n→∃ i:Nat,gi a' u=i) (o:∀ u i:Nat,u<n→gi a u=i+1→∃ u',u'<u∧gi a u'=i) (o':∀ u i:Nat,u<n→gi a' u=i+1→∃ u',u'<u∧gi a' u'=i)
  (h:∀ u v:Nat,u<n→v<n→(gi a u=gi a v↔gi a' u=gi a' v)):∀ v:Nat,v<n→gi a v=gi a' v:=by
 intro v
 induction v using Nat.strongRecOn with
 | _ v ih =>
  intro hv;obtain ⟨i,hi⟩:=p v hv;obtain ⟨j,hj⟩:=p' v hv;by_cases c:i=j
  ·rw [hi,hj,c]
  ·by_cases q:i<j
   ·obtain ⟨u,h1,h2⟩:=ZfJ o' (j-i-1) v i hv (by omega);have:=ih u h1 (by omega);have:=(h u v (by omega) hv).1 (by omega);omega
   ·obtain ⟨u,h1,h2⟩:=ZfJ o (i-j-1) v j hv (by omega);have:=ih u h1 (by omega);have:=(h u v (by omega) hv).2 (by omega);omega
theorem CH.eq {l m:List Zc}{d e:Nat}{a a':List Int}{L L':List (List Int)}(h:CH l d a L) (h':CH m e a' L') (hn:l.length=m.length) (f:List Int→List Int) (hf:∀ C C' v,IsCh l d C→IsCh m e C'→v∈C→v∈C'→C'=f C) (hm:∀ C v,v∈f C↔v∈C):a=a'∧L'=L.map f:=by
 have key:∀ u v:Nat,u<l.length→v<l.length→(gi a u=gi a v↔gi a' u=gi a' v):=by
  intro u v hu hv;obtain ⟨i,i1,i2,i3⟩:=h.mem u hu;obtain ⟨j,j1,j2,j3⟩:=h'.mem u (by omega);have e:=hf _ _ _ (h.ch i i1) (h'.ch j j1) i3 j3;constructor
  ·intro q;obtain ⟨k,k1,k2,k3⟩:=h.mem v hv;have:k=i:=by omega
   subst this;have:=h'.one j v j1 (by omega) (by rw [e];exact (hm _ _).2 k3);omega
  ·intro q;obtain ⟨k,k1,k2,k3⟩:=h'.mem v (by omega);have:k=j:=by omega
   subst this;rw [e] at k3;have:=h.one i v i1 hv ((hm _ _).1 k3);omega
 have ae:∀ v:Nat,v<l.length→gi a v=gi a' v:=Zi2 (n:=l.length) (fun u hu=>by obtain ⟨i,_,e,_⟩:=h.mem u hu;exact ⟨i,e⟩) (fun u hu=>by obtain ⟨i,_,e,_⟩:=h'.mem u (by omega);exact ⟨i,e⟩) h.ord (fun u i hu=>h'.ord u i (by omega)) key;refine ⟨Zer (by rw [h.alen,h'.alen,hn]) fun i hi=>ae i (by rw [h.alen] at hi;exact hi),?_⟩;have ll:L'.length=L.length:=by
  have A:∀ i,i<L.length→i<L'.length:=by
   intro i hi;obtain ⟨u,hu,e⟩:=h.seen i hi;obtain ⟨j,j1,j2,_⟩:=h'.mem u (by omega);have:=ae u hu;omega
  have B:∀ i,i<L'.length→i<L.length:=by
   intro i hi;obtain ⟨u,hu,e⟩:=h'.seen i hi;obtain ⟨j,j1,j2,_⟩:=h.mem u (by omega);have:=ae u (by omega);omega
  have a1:=A (L.length-1);have b1:=B (L'.length-1);omega
 apply Zer (by rw [ll,List.length_map]);intro i hi;have hi':i<L.length:=by omega
 obtain ⟨u,hu,e⟩:=h.seen i hi';obtain ⟨k,k1,k2,k3⟩:=h.mem u hu;obtain ⟨j,j1,j2,j3⟩:=h'.mem u (by omega);have:=ae u hu;have ek:k=i:=by omega
 have ej:j=i:=by omega
 subst ek;subst ej;rw [hf _ _ _ (h.ch _ hi') (h'.ch _ hi) k3 j3,ZbY (l:=L.map f) (by simpa using hi'),ZbY hi',List.getElem_map]
end Mu
/- Layer 16: what the chains' code works out. -/
namespace Mu
theorem ZgU {C:List Int}{i:Nat}(hi:i<C.length):gi (C++[-1]) i=gi C i:=Zb8 hi
theorem Zgd {C:List Int}:gi (C++[-1]) C.length=-1:=by
 have:=Zbu (l:=C) (m:=[(-1:Int)]) (i:=0);rwa [Nat.add_zero] at this
theorem Zh4 {l:List Zc}{d:Nat}{C:List Int}(h:IsCh l d C) {i:Nat}(hi:i<C.length):nx l (gi C i).toNat d=gi (C++[-1]) (i+1):=by
 by_cases c:i+1<C.length
 ·rw [ZgU c];exact h.nxt i c
 ·have e:i+1=C.length:=by omega
  rw [e,Zgd];have:=h.fin;rwa [show C.length-1=i by omega] at this
structure SI (l:List Zc) (d:Nat) (a:List Int) (L:List (List Int)) (v:Nat):Prop where
 alen:a.length=l.length
 ch:∀ i,i<L.length→IsCh l d (gi L i)
 mem:∀ u:Nat,u<l.length→(gi a u=-1∧∀ i,i<L.length→(u:Int) ∉ gi L i)∨∃ i:Nat,i<L.length∧gi a u=i∧(u:Int)∈gi L i
 one:∀ i u:Nat,i<L.length→u<l.length→(u:Int)∈gi L i→gi a u=i
 done:∀ u,u<v→0≤gi a u
 seen:∀ i:Nat,i<L.length→∃ u,u<v∧gi a u=i
 ord:∀ u i:Nat,u<l.length→gi a u=i+1→∃ u',u'<u∧gi a u'=i
 Ll:L.length≤v
theorem Zd4 {α:Type} [Inhabited α] {L:List α}{C:α}{i:Nat}(hi:i<L.length+1):gi (L++[C]) i=if i<L.length then gi L i else C:=by
 by_cases c:i<L.length
 ·rw [if_pos c,Zb8 c]
 ·rw [if_neg c,show i=L.length+0 by omega,Zbu];rfl
theorem SI.skip {l:List Zc}{d v:Nat}{a:List Int}{L:List (List Int)}(h:SI l d a L v) (hv:0≤gi a v):SI l d a L (v+1) :=
 ⟨h.alen,h.ch,h.mem,h.one,fun u hu=>by
  by_cases c:u=v
  ·subst c;exact hv
  ·exact h.done u (by omega),fun i hi=>by obtain ⟨u,a,b⟩:=h.seen i hi;exact ⟨u,by omega,b⟩,h.ord,by have:=h.Ll;omega⟩
theorem SI.add {l:List Zc}(hc:Ck l) {d v:Nat}(hd:d<4) {a a':List Int}{L:List (List Int)}(h:SI l d a L v) (hv:v<l.length) (hneg:gi a v<0) {C:List Int}(hC:IsCh l d C) (hm:(v:Int)∈C) (al:a'.length=l.length) (ha:∀ u:Nat,u<l.length→gi a' u=if (u:Int)∈C then (L.length:Int) else gi a u):SI l d a' (L++[C]) (v+1):=by
 have hL:(L++[C]).length=L.length+1:=by simp
 have off:∀ i,i<L.length→∀ u:Nat,u<l.length→(u:Int)∈gi L i→(u:Int) ∉ C:=by
  intro i hi u hu h1 h2;have e:=(h.ch i hi).uniq hc hd hC h1 h2;have:=h.one i v hi hv (by rw [e];exact hm);omega
 have late:∀ u:Nat,u<l.length→(u:Int)∈C→v≤u∧gi a u=-1:=by
  intro u hu h2;have hneg1:gi a u=-1:=by
   rcases h.mem u hu with ⟨q,_⟩|⟨i,i1,_,i3⟩
   ·exact q
   ·exact absurd h2 (off i i1 u hu i3)
  refine ⟨?_,hneg1⟩;by_cases c:u<v
  ·have:=h.done u c;omega
  ·omega
 have av:gi a' v=L.length:=by rw [ha v hv,if_pos hm]
 have old:∀ u:Nat,u<l.length→(u:Int) ∉ C→gi a' u=gi a u:=fun u hu q=>by rw [ha u hu,if_neg q]
 refine ⟨al,fun i hi=>?_,fun u hu=>?_,fun i u hi hu hmem=>?_,fun u hu=>?_,fun i hi=>?_,fun u i hu e=>?_,by rw [hL];have:=h.Ll;omega⟩
 ·rw [Zd4 (by omega)];split
  ·exact h.ch i (by assumption)
  ·exact hC
 ·by_cases q:(u:Int)∈C
  ·exact .inr ⟨L.length,by omega,by rw [ha u hu,if_pos q],by rw [Zd4 (by omega),if_neg (by omega)];exact q⟩
  ·rw [old u hu q];rcases h.mem u hu with ⟨p,r⟩|⟨i,i1,i2,i3⟩
   ·refine .inl ⟨p,fun i hi=>?_⟩;rw [Zd4 (by omega)];split
    ·exact r i (by assumption)
    ·exact q
   ·exact .inr ⟨i,by omega,i2,by rw [Zd4 (by omega),if_pos i1];exact i3⟩
 ·rw [Zd4 (by omega)] at hmem;by_cases c:i<L.length
  ·rw [if_pos c] at hmem;rw [old u hu (off i c u hu hmem)];exact h.one i u c hu hmem
  ·rw [if_neg c] at hmem;rw [ha u hu,if_pos hmem];omega
 ·by_cases c:u=v
  ·subst c;rw [av];omega
  ·have hul:u<l.length:=by omega
   by_cases q:(u:Int)∈C
   ·rw [ha u hul,if_pos q];omega
   ·rw [old u hul q];exact h.done u (by omega)
 ·by_cases c:i<L.length
  ·obtain ⟨u,u1,u2⟩:=h.seen i c;refine ⟨u,by omega,?_⟩;have hul:u<l.length:=by omega
   rw [old u hul (fun q=>by have:=late u hul q;omega)];exact u2
  ·exact ⟨v,by omega,by rw [av];omega⟩
 ·have push:∀ u',u'<v→gi a u'=i→∃ u',u'<v∧gi a' u'=i:=fun u' h1 h2=>⟨u',h1,by rw [old u' (by omega) (fun q=>by have:=late u' (by omega) q;omega)];exact h2⟩;by_cases q:(u:Int)∈C
  ·rw [ha u hu,if_pos q] at e;obtain ⟨u',u1,u2⟩:=h.seen i (by omega);obtain ⟨u'',w1,w2⟩:=push u' u1 u2;exact ⟨u'',by have:=late u hu q;omega,w2⟩
  ·rw [old u hu q] at e;obtain ⟨u',u1,u2⟩:=h.ord u i hu e;refine ⟨u',u1,?_⟩;rw [old u' (by omega) (fun q=>by have:=late u' (by omega) q;omega)];exact u2
end Mu
/- Layer 16: what the document's chains are. -/
namespace Mu
structure RI (l:List Zc) (d:Nat) (a F:List Int) (L:List (List Int)) (v:Nat):Prop where
 alen:a.length=l.length
 flen:F.length=L.length
 ch:∀ i,i<L.length→IsCh l d (gi L i)∧gi (gi L i) 0=gi F i
 mem:∀ u:Nat,u<v→∃ i:Nat,i<L.length∧gi a u=i∧(u:Int)∈gi L i
 inj:∀ i j,i<L.length→j<L.length→gi F i=gi F j→i=j
 seen:∀ i:Nat,i<L.length→∃ u,u<v∧gi a u=i
 ord:∀ u i:Nat,u<v→gi a u=i+1→∃ u',u'<u∧gi a u'=i
 Ll:L.length≤v
theorem RI.old {l:List Zc}{d v k:Nat}{a F:List Int}{L:List (List Int)}(h:RI l d a F L v) (hv:v<l.length) (hk:k<L.length) (hm:(v:Int)∈gi L k):RI l d (a.set v k) F L (v+1):=by
 have hal:=h.alen;have g:∀ u,gi (a.set v (k:Int)) u=if u=v then (k:Int) else gi a u:=fun u=>ZgV (by omega);refine ⟨by rw [List.length_set,hal],h.flen,h.ch,fun u hu=>?_,h.inj,fun i hi=>?_,fun u i hu e=>?_,by have:=h.Ll;omega⟩
 ·rw [g];by_cases c:u=v
  ·subst c;exact ⟨k,hk,by rw [if_pos rfl],hm⟩
  ·rw [if_neg c];exact h.mem u (by omega)
 ·obtain ⟨u,u1,u2⟩:=h.seen i hi;exact ⟨u,by omega,by rw [g,if_neg (by omega)];exact u2⟩
 ·rw [g] at e;by_cases c:u=v
  ·rw [if_pos c] at e;obtain ⟨u',u1,u2⟩:=h.seen i (by omega);exact ⟨u',by omega,by rw [g,if_neg (by omega)];exact u2⟩
  ·rw [if_neg c] at e;obtain ⟨u',u1,u2⟩:=h.ord u i (by omega) e;exact ⟨u',u1,by rw [g,if_neg (by omega)];exact u2⟩
/-! both together -/
theorem CH.same {l:List Zc}(hc:Ck l) {d:Nat}(hd:d<4) {a a':List Int}{L L':List (List Int)}(h:CH l d a L) (h':CH l d a' L'):a=a'∧L=L':=by
 have:=h.eq h' rfl id (fun C C' v c1 c2 m1 m2=>(c1.uniq hc hd c2 m1 m2).symm) (fun C v=>Iff.rfl);exact ⟨this.1,by rw [this.2,List.map_id]⟩
end Mu
/- Layer 16: SegTells,SegMeets,SegTurns. -/
namespace Mu
theorem IsCh.move {l m:List Zc}{d e:Nat}{C:List Int}(h:IsCh l d C) (hl:m.length=l.length) (h1:∀ v,v<l.length→nx m v e=nx l v d) (h2:∀ v,v<l.length→nx m v ((e+2)%4)=nx l v ((d+2)%4)):IsCh m e C:=by
 have hne:=h.ne;refine ⟨h.ne,fun i hi=>by rw [hl];exact h.lt i hi,fun i hi=>?_,?_,?_⟩
 ·have:=h.lt i (by omega);rw [h1 _ (by omega)];exact h.nxt i hi
 ·have:=h.lt (C.length-1) (by omega);rw [h1 _ (by omega)];exact h.fin
 ·have:=h.lt 0 h.ne;rw [h2 _ (by omega)];exact h.beg
def cl (L:List (List Int)) (i:Int):List Int:=if i<0∨(L.length:Int)≤i then [] else gi L i.toNat
end Mu
/- Layer 16: SegTells,SegTurns. -/
namespace Mu
end Mu
/- Layer 17: lengths of edges. -/
namespace Mu
def strt (d:Nat) (a b:Za):Prop:=if d=0 then a.Y=b.Y∧a.X<b.X else a.X=b.X∧a.Y<b.Y
instance {d:Nat}{a b:Za}:Decidable (strt d a b):=by unfold strt;infer_instance
def wt (o:Int):Int:=if 0≤o then 1 else 0
def okE (l:List Zc) (p:List Za) (v d:Nat):Prop:=nx l v d<0∨strt d (gi p v) (gi p (nx l v d).toNat)
instance {l:List Zc}{p:List Za}{v d:Nat}:Decidable (okE l p v d):=by unfold okE;infer_instance
end Mu
/- Layer 17: graphs,places,ArcsFit. -/
namespace Mu
theorem CH.next {l:List Zc}(hc:Ck l) {d:Nat}(hd:d<4) {a:List Int}{L:List (List Int)}(h:CH l d a L) {v w:Nat}(hv:v<l.length) (hw:nx l v d=w):w<l.length∧gi a v=gi a w:=by
 have bk:=hc.back hv hd hw;obtain ⟨i,i1,i2,i3⟩:=h.mem v hv;have hC:=h.ch i i1;obtain ⟨j,hj,e⟩:=List.mem_iff_getElem.1 i3;have ej:gi (gi L i) j=v:=by rw [ZbY hj];exact e
 have n:=Zh4 hC hj;rw [ej,Int.toNat_natCast,hw] at n;by_cases c:j+1<(gi L i).length
 ·rw [ZgU c] at n;exact ⟨bk.1,by rw [i2,h.one i w i1 bk.1 (n ▸ Zir c)]⟩
 ·rw [show j+1=(gi L i).length by omega,Zgd] at n;omega
def ZdQ (X Y a b:List Int) (n:Nat):List Za:=(List.range n).map fun v=>⟨gi a (gi X v).toNat,gi b (gi Y v).toNat⟩
end Mu
/- Layer 17: ArcsFit. -/
namespace Mu
end Mu
/- Layer 17: the document's graphs;ArcsTell. -/
namespace Mu
end Mu
/- Sums. -/
namespace Mu
end Mu
/- Layer 17: ArcsTurn. -/
namespace Mu
theorem Made.strt {l:List Zc}{pts:List Za}(h:Made l pts) {v d w:Nat}(hv:v<l.length) (hd:d<2) (hw:nx l v d=w):strt d (gi pts v) (gi pts w):=by
 rcases h.near v d hv hd with q|q
 ·omega
 ·rw [hw] at q;rcases q with ⟨q,_⟩|⟨j,e,_,q,_⟩
  ·omega
  ·have:j=w:=by omega
   subst this;have:=q.2;unfold Mu.strt;by_cases z:d=0
   ·rw [if_pos z] at this ⊢; exact ⟨this.1.symm,this.2⟩
   ·rw [if_neg z] at this ⊢; exact ⟨this.1.symm,this.2⟩
theorem Made.okE {l:List Zc}{pts:List Za}(h:Made l pts) {v d:Nat}(hv:v<l.length) (hd:d<2):okE l pts v d:=by
 by_cases c:nx l v d<0
 ·exact .inl c
 ·exact .inr (h.strt hv hd (by omega))
end Mu
/- Layer 17: ArcsPlace. -/
namespace Mu
end Mu
/- Layer 12: faces,in the code and in the document,are the same walk. -/
namespace Mu
abbrev Da:=Nat×Nat
def isD (l:List Zc) (p:Da):Prop:=p.1<l.length∧p.2<4∧0≤nx l p.1 p.2
instance {l:List Zc}{p:Da}:Decidable (isD l p):=by unfold isD;infer_instance
def bh (l:List Zc) (p:Da):Da :=
 if 0≤nx l (nx l p.1 p.2).toNat ((p.2+1)%4) then ((nx l p.1 p.2).toNat,(p.2+1)%4)
 else if 0≤nx l (nx l p.1 p.2).toNat p.2 then ((nx l p.1 p.2).toNat,p.2)
 else if 0≤nx l (nx l p.1 p.2).toNat ((p.2+3)%4) then ((nx l p.1 p.2).toNat,(p.2+3)%4)
 else ((nx l p.1 p.2).toNat,(p.2+2)%4)
theorem isD.fwd {l:List Zc}(hc:Ck l) {p:Da}(h:isD l p):(nx l p.1 p.2).toNat<l.length∧nx l (nx l p.1 p.2).toNat ((p.2+2)%4)=p.1:=by
 rcases hc.s p.1 p.2 h.1 h.2.1 with ⟨a,_⟩|⟨w,a,b,_,c,_⟩
 ·have:=h.2.2;omega
 ·rw [a,Int.toNat_natCast];exact ⟨b,c⟩
theorem isD.bh {l:List Zc}(hc:Ck l) {p:Da}(h:isD l p):isD l (bh l p):=by
 have f:=h.fwd hc;have:=h.2.1;unfold Mu.bh;split
 ·rename_i c;exact ⟨f.1,by dsimp only;omega,c⟩
 ·split
  ·rename_i c;exact ⟨f.1,by dsimp only;omega,c⟩
  ·split
   ·rename_i c;exact ⟨f.1,by dsimp only;omega,c⟩
   ·exact ⟨f.1,by dsimp only;omega,by dsimp only;rw [f.2];omega⟩
def walk (l:List Zc):Nat→List Da→Da→List Da
 | 0,_,_=>[]
 | n+1,met,x=>if x∈met then [] else x::walk l n (met++[x]) (bh l x)
structure Mets (l:List Zc) (met:List Da):Prop where
 nd:met.Nodup
 is:∀ p∈met,isD l p
theorem Mets.len {l:List Zc}{met:List Da}(h:Mets l met):met.length≤4*l.length:=by
 have n:(met.map fun p=>4*p.1+p.2).Nodup:=by
  refine List.pairwise_map.2 (h.nd.imp_of_mem fun {p q} hp hq hne he=>hne ?_);have a:=h.is p hp;have b:=h.is q hq;unfold isD at a b;exact Prod.ext (by omega) (by omega)
 have:=n.length_le_of_subset (l₂:=List.range (4*l.length)) (fun x hx=>by
  obtain ⟨p,hp,rfl⟩:=List.mem_map.1 hx;have:=h.is p hp;unfold isD at this;exact List.mem_range.2 (by omega))
 simpa using this
theorem Mets.nil {l:List Zc}:Mets l []:=⟨List.nodup_nil,by simp⟩
theorem Mets.snoc {l:List Zc}{met:List Da}(h:Mets l met) {x:Da}(hx:isD l x) (hn:x ∉ met):Mets l (met++[x]):=by
 refine ⟨?_,fun p hp=>?_⟩
 ·rw [List.nodup_append];exact ⟨h.nd,by simp,fun a ha b hb e=>hn (by simp at hb;rw [← hb,← e];exact ha)⟩
 ·rcases List.mem_append.1 hp with q|q
  ·exact h.is p q
  ·simp at q;rw [q];exact hx
theorem Mets.walk {l:List Zc}(hc:Ck l):∀ {n:Nat}{met:List Da}{x:Da},Mets l met→isD l x→Mets l (met++walk l n met x)
 | 0,met,x,h,hx=>by rw [Mu.walk,List.append_nil];exact h
 | n+1,met,x,h,hx=>by
  rw [Mu.walk];split
  ·rw [List.append_nil];exact h
  ·rename_i c;have:=Mets.walk hc (n:=n) (h.snoc hx c) (hx.bh hc);rwa [List.append_assoc] at this
theorem Zgm {l:List Zc}(hc:Ck l):∀ {n:Nat}{met:List Da}{x:Da},isD l x→∀ p∈walk l n met x,isD l p
 | 0,_,_,_,p,hp=>by simp [walk] at hp
 | n+1,met,x,hx,p,hp=>by
  rw [walk] at hp;split at hp
  ·simp at hp
  ·rcases List.mem_cons.1 hp with rfl|hp
   ·exact hx
   ·exact Zgm hc (hx.bh hc) p hp
def Marks (l:List Zc) (met:List Da) (a:List Bool):Prop:=a.length=4*l.length∧∀ c e,c<l.length→e<4→gi a (4*c+e)=decide ((c,e)∈met)
theorem Marks.set {l:List Zc}{met:List Da}{a:List Bool}(h:Marks l met a) {x:Da}(hx:isD l x):Marks l (met++[x]) (a.set (4*x.1+x.2) true):=by
 unfold isD at hx;refine ⟨by rw [List.length_set];exact h.1,fun c e hc he=>?_⟩;rw [ZgV (by have:=h.1;omega),h.2 c e hc he];by_cases q:(c,e)=x
 ·rw [← q];rw [if_pos rfl,ZiR (by simp)]
 ·rw [if_neg]
  ·rw [Bool.eq_iff_iff];simp [q]
  ·intro k;exact q (Prod.ext (by dsimp only;omega) (by dsimp only;omega))
def stF (l:List Zc) (s:List Da×List (List Da)) (p:Da):List Da×List (List Da) :=
 if nx l p.1 p.2<0∨p∈s.1 then s else (s.1++walk l (4*l.length+1) s.1 p,s.2++[walk l (4*l.length+1) s.1 p])
structure FI (l:List Zc) (s:List Da×List (List Da)):Prop where
 m:Mets l s.1
 len:s.2.length≤s.1.length
 is:∀ f∈s.2,∀ p∈f,isD l p
 fl:s.2.flatten=s.1
theorem FI.st {l:List Zc}(hc:Ck l) {s:List Da×List (List Da)}(h:FI l s) {p:Da}(h1:p.1<l.length) (h2:p.2<4):FI l (stF l s p):=by
 unfold stF;split
 ·exact h
 ·rename_i c;have hp:isD l p:=⟨h1,h2,by omega⟩;have hn:p ∉ s.1:=fun q=>c (.inr q);refine ⟨Mets.walk hc h.m hp,?_,?_,?_⟩
  ·dsimp only;rw [List.length_append,List.length_append,walk,if_neg hn];have:=h.len;simp;omega
  ·intro f hf q hq;rcases List.mem_append.1 hf with k|k
   ·exact h.is f k q hq
   ·simp at k;subst k;exact Zgm hc hp q hq
  ·dsimp only;rw [List.flatten_append,h.fl];simp
end Mu
/- Layers 12 and 14: turns of faces,rotations,the outer face. -/
namespace Mu
def Zf7 (l:List Zc):Prop:=((PS l l.length).1.length:Int)=1
noncomputable instance {l:List Zc}:Decidable (Zf7 l):=by unfold Zf7;infer_instance
end Mu
/- Layer 26: CheckTells. -/
namespace Mu
theorem Zfw:Zax=some true:=by decide +kernel
structure Zjt (n:Nat) (L:List (List Int)):Prop where
 ne:∀ i,i<L.length→0<(gi L i).length∧(gi L i).length≤1000000
 lt:∀ i,i<L.length→∀ k,k<(gi L i).length→0≤gi (gi L i) k∧gi (gi L i) k<n
theorem CH.ok {l:List Zc}(hc:Ck l) (hl:l.length≤1000) {d:Nat}(hd:d<4) {a:List Int}{L:List (List Int)}(h:CH l d a L):Zjt l.length L:=⟨fun i hi=>⟨(h.ch i hi).ne,by have:=(h.ch i hi).len hc hd;omega⟩,fun i hi=>(h.ch i hi).lt⟩
/-! Stretched. -/
def All10 (P:Int→Prop) (x:A10 Int):Prop:=P x.a∧P x.b∧P x.c∧P x.d∧P x.e∧P x.f∧P x.g∧P x.h∧P x.i∧P x.j
theorem All10.get {P:Int→Prop}{x:A10 Int}(h:All10 P x) (i:Int):P (x.get i):=by
 obtain ⟨h0,h1,h2,h3,h4,h5,h6,h7,h8,h9⟩:=h;unfold A10.get
 repeat' split
 all_goals assumption
theorem All10.set {P:Int→Prop}{x:A10 Int}(h:All10 P x) (i:Int) {v:Int}(hv:P v):All10 P (x.set i v):=by
 obtain ⟨h0,h1,h2,h3,h4,h5,h6,h7,h8,h9⟩:=h;unfold A10.set
 repeat' split
 all_goals exact ⟨by assumption,by assumption,by assumption,by assumption,by assumption,by assumption,by assumption,by assumption,by assumption,by assumption⟩
theorem All10.mono {P Q:Int→Prop}{x:A10 Int}(h:All10 P x) (hq:∀ v,P v→Q v):All10 Q x:=by
 obtain ⟨h0,h1,h2,h3,h4,h5,h6,h7,h8,h9⟩:=h;exact ⟨hq _ h0,hq _ h1,hq _ h2,hq _ h3,hq _ h4,hq _ h5,hq _ h6,hq _ h7,hq _ h8,hq _ h9⟩
end Mu
/- Layer 26: CheckApart. -/
namespace Mu
theorem ZhI {n:Int}(h:Wf .i16 n):-32768≤n∧n≤32767:=by
 unfold Wf at h;simp [Go.Lit.wf,Go.IntKind.min,Go.IntKind.max,Go.IntKind.signed,Go.IntKind.bits] at h;omega
theorem ZhM {l:A4 Int}(h:Zdi l):∃ x,ZY l=some x∧x.Low.X≤x.High.X∧x.Low.Y≤x.High.Y∧-32768≤x.Low.X∧x.High.X≤32767∧-32768≤x.Low.Y∧x.High.Y≤32767:=by
 obtain ⟨a,b,c,d⟩:=l;obtain ⟨h1,h2,h3,h4⟩:=h;have k1:-32768≤a∧a≤32767:=ZhI h1;have k2:-32768≤b∧b≤32767:=ZhI h2;have k3:-32768≤c∧c≤32767:=ZhI h3;have k4:-32768≤d∧d≤32767:=ZhI h4;unfold ZY;have e0:(⟨a,b,c,d⟩:A4 Int).get 0=a:=rfl;have e1:(⟨a,b,c,d⟩:A4 Int).get 1=b:=rfl;have e2:(⟨a,b,c,d⟩:A4 Int).get 2=c:=rfl;have e3:(⟨a,b,c,d⟩:A4 Int).get 3=d:=rfl;rw [e0,e1,e2,e3,ZeF (by omega),ZeF (by omega),ZeF (by omega),ZeF (by omega)];exact ⟨_,rfl,by dsimp only;omega,by dsimp only;omega,by dsimp only;omega,by dsimp only;omega,by dsimp only;omega,by dsimp only;omega⟩
theorem ZgE {x:ZC}{c:A2 Int}(h:Zeg c) (b:x.Low.X≤x.High.X∧x.Low.Y≤x.High.Y∧-32768≤x.Low.X∧x.High.X≤32767∧-32768≤x.Low.Y∧x.High.Y≤32767):ZZ x c=some ⟨⟨x.Low.X+c.a,x.Low.Y+c.b⟩,⟨x.High.X+c.a,x.High.Y+c.b⟩⟩:=by
 obtain ⟨a,d⟩:=c;obtain ⟨h1,h2⟩:=h;have k1:-128≤a∧a≤127:=h1.i8;have k2:-128≤d∧d≤127:=h2.i8;obtain ⟨⟨x1,y1⟩,⟨x2,y2⟩⟩:=x;dsimp only at b;unfold ZZ;have e0:(⟨a,d⟩:A2 Int).get 0=a:=rfl;have e1:(⟨a,d⟩:A2 Int).get 1=d:=rfl;rw [e0,e1];dsimp only;rw [ZeF (by omega),Zgb (by omega),ZeF (by omega),Zgb (by omega),Zgb (by omega),Zgb (by omega)]
theorem ZdU (a b:A4 Int) (by_:A2 Int) (ha:Zdi a) (hb:Zdi b) (hby:Zeg by_):zJ a b by_=some true:=by
 obtain ⟨x,e1,hx⟩:=ZhM ha;obtain ⟨y,e2,hy⟩:=ZhM hb;unfold zJ;rw [e1,Option.bind_some,e2,Option.bind_some,Zfw,Option.bind_some,if_pos rfl,ZgE hby hx,ZgE hby hy];obtain ⟨⟨x1,x2⟩,⟨x3,x4⟩⟩:=x;obtain ⟨⟨y1,y2⟩,⟨y3,y4⟩⟩:=y;dsimp only at hx hy;unfold zo;simp only [Option.bind_some];have k1:((((decide (x3<y1))||(decide (y3<x1)))||(decide (x4<y2)))||(decide (y4<x2)))=((decide (min x3 y3<max x1 y1))||(decide (min x4 y4<max x2 y2))):=by
  rw [Bool.eq_iff_iff];simp only [Bool.or_eq_true,decide_eq_true_eq];omega
 have k2:((((decide (y3<x1))||(decide (x3<y1)))||(decide (y4<x2)))||(decide (x4<y2)))=((decide (min x3 y3<max x1 y1))||(decide (min x4 y4<max x2 y2))):=by
  rw [Bool.eq_iff_iff];simp only [Bool.or_eq_true,decide_eq_true_eq];omega
 have k3:((((decide (x3+by_.a<y1+by_.a))||(decide (y3+by_.a<x1+by_.a)))||(decide (x4+by_.b<y2+by_.b)))||(decide (y4+by_.b<x2+by_.b)))=((decide (min x3 y3<max x1 y1))||(decide (min x4 y4<max x2 y2))):=by
  rw [Bool.eq_iff_iff];simp only [Bool.or_eq_true,decide_eq_true_eq];omega
 have k4:((((decide (x3<x1))||(decide (x3<x1)))||(decide (x4<x2)))||(decide (x4<x2)))=false:=by
  simp only [Bool.or_eq_false_iff,decide_eq_false_iff_not];omega
 rw [k1,k2,k3,k4];simp
end Mu
