/- The law, plainly: what is worked out. -/
import Derived.Test.YtjhlegefgllihaaMuV
import Derived.Test.YtjhlegefgllihaaMuDf
/- Layer 10: cells,made of places. -/
set_option linter.unusedVariables false
set_option linter.unusedSimpArgs false
set_option maxRecDepth 100000
namespace Mu

def nx (l:List Za) (v d:Nat):Int:=((gi l v).Next).get (d:Int)
def ow (l:List Za) (v d:Nat):Int:=((gi l v).Owner).get (d:Int)
theorem Zfa {α:Type}{x:A4 α}{i j:Nat}{v:α}(hi:i<4) (hj:j<4):(x.set (i:Int) v).get (j:Int)=if j=i then v else x.get (j:Int):=by
 match i,j,hi,hj with
 | 0,0,_,_|0,1,_,_|0,2,_,_|0,3,_,_|1,0,_,_|1,1,_,_|1,2,_,_|1,3,_,_|2,0,_,_|2,1,_,_|2,2,_,_|2,3,_,_|3,0,_,_|3,1,_,_|3,2,_,_|3,3,_,_=>rfl
def noC:Za:=⟨⟨-1,-1,-1,-1⟩,⟨0,0,0,0⟩⟩
theorem ZbM {α:Type} [Inhabited α] {n i:Nat}{f:Nat→α}(h:i<n):gi ((List.range n).map f) i=f i:=by
 rw [Zaz (by simpa using h)];simp
theorem Zd3 {α:Type} [Inhabited α] {l m:List α}(h:l.length=m.length) (hg:∀ i,i<l.length→gi l i=gi m i):l=m:=by
 apply List.ext_getElem h;intro i h1 h2;have:=hg i h1;rw [Zaz h1,Zaz h2] at this;exact this

/-! New -/
theorem ZqM {n:Nat}(hn:n≤1000000000):zw n=some (List.replicate n noC):=by
 unfold zw;rw [Z2 (by omega),itn,Zio (x:=List.replicate n noC)];refine Zbv (fun i:Nat=>(List.replicate i noC++List.replicate (n-i) ⟨⟨0,0,0,0⟩,⟨0,0,0,0⟩⟩,(i:Int))) (n:=n) (ZaK (by omega)) (by simp) (fun i hi=>?_) ?_
 ·have e1:List.replicate (n-i) (⟨⟨0,0,0,0⟩,⟨0,0,0,0⟩⟩:Za)=⟨⟨0,0,0,0⟩,⟨0,0,0,0⟩⟩::List.replicate (n-(i+1)) ⟨⟨0,0,0,0⟩,⟨0,0,0,0⟩⟩:=by
   rw [show n-i=n-(i+1)+1 by omega,List.replicate_succ]
  have e2:List.replicate (i+1) noC=List.replicate i noC++[noC]:=by rw [List.replicate_succ']
  have inner:ZX (zw.s1 i) big (List.replicate i noC++List.replicate (n-i) ⟨⟨0,0,0,0⟩,⟨0,0,0,0⟩⟩,0)=some (List.replicate (i+1) noC++List.replicate (n-(i+1)) ⟨⟨0,0,0,0⟩,⟨0,0,0,0⟩⟩):=by
   rw [e1,e2];generalize List.replicate (n-(i+1)) (⟨⟨0,0,0,0⟩,⟨0,0,0,0⟩⟩:Za)=r;refine Zbv (fun k:Nat=>(List.replicate i noC++(⟨⟨if 0<k then -1 else 0,if 1<k then -1 else 0,if 2<k then -1 else 0,if 3<k then -1 else 0⟩,⟨0,0,0,0⟩⟩:Za)::r,(k:Int))) (n:=4) (ZaK (by omega)) rfl (fun k hk=>?_) ?_
   ·have hlen:(List.replicate i noC).length=i:=by simp
    have g:∀ c:Za,gi (List.replicate i noC++c::r) i=c:=by
     intro c;have:=Zcc (l:=List.replicate i noC) (m:=c::r) (i:=0);rw [hlen,Nat.add_zero] at this;rw [this];rfl
    have st:∀ c d:Za,(List.replicate i noC++c::r).set i d=List.replicate i noC++d::r:=by
     intro c d;rw [List.set_append_right _ _ (by simp)];simp
    simp only [zw.s1];rw [zb (by omega),Z2 (by simp;omega),Z2 (by omega),Z2 (by omega),itn,g,st]
    match k,hk with
    | 0,_|1,_|2,_|3,_=>rfl
   ·simp only [zw.s1];rw [ZW (by omega)];simp [noC]
  simp only [zw.s0];rw [zb (by omega),inner,obs,Z2 (by omega)];rfl
 ·simp only [zw.s0];rw [ZW (by omega)];simp

/-! The nearest -/
def Zhg (at_:List Zl) (i d k:Nat):Prop:=k<at_.length∧if d=0 then (gi at_ k).Y=(gi at_ i).Y∧(gi at_ i).X<(gi at_ k).X else (gi at_ k).X=(gi at_ i).X∧(gi at_ i).Y<(gi at_ k).Y
def ZcF (at_:List Zl) (d j k:Nat):Prop:=if d=0 then (gi at_ j).X≤(gi at_ k).X else (gi at_ j).Y≤(gi at_ k).Y
def Zdz (at_:List Zl) (i d n:Nat) (w:Int):Prop:=(w=-1∧∀ k,k<n→¬ Zhg at_ i d k)∨∃ j:Nat,w=j∧j<n∧Zhg at_ i d j∧∀ k,k<n→Zhg at_ i d k→ZcF at_ d j k
instance {at_ i d k}:Decidable (Zhg at_ i d k):=by unfold Zhg;infer_instance
instance {at_ d j k}:Decidable (ZcF at_ d j k):=by unfold ZcF;infer_instance
theorem Zkk {at_:List Zl}{i d n:Nat}(hl:at_.length≤1000) (hi:i<at_.length) (hd:d<2) (hn:n<at_.length) {w:Int}(hw:Zdz at_ i d n w):∃ w',Zdz at_ i d (n+1) w'∧ZR.s0 at_ i d (w,n)=some (.inl (w',(n:Int)+1)):=by
 have hlow:¬ Zhg at_ i d n→Zdz at_ i d (n+1) w:=by
  intro hc;rcases hw with ⟨rfl,h⟩|⟨j,rfl,h1,h2,h3⟩
  ·refine .inl ⟨rfl,fun k hk=>?_⟩;rcases Nat.lt_succ_iff_lt_or_eq.1 hk with h'|rfl
   ·exact h k h'
   ·exact hc
  ·refine .inr ⟨j,rfl,by omega,h2,fun k hk hk2=>?_⟩;rcases Nat.lt_succ_iff_lt_or_eq.1 hk with h'|rfl
   ·exact h3 k h' hk2
   ·exact absurd hk2 hc
 have hnew:w=-1→Zhg at_ i d n→Zdz at_ i d (n+1) n:=by
  intro hw1 hc;rcases hw with ⟨_,h⟩|⟨j,h0,_⟩
  ·refine .inr ⟨n,rfl,by omega,hc,fun k hk hk2=>?_⟩;rcases Nat.lt_succ_iff_lt_or_eq.1 hk with h'|rfl
   ·exact absurd hk2 (h k h')
   ·unfold ZcF;split<;>omega
  ·omega
 have hkeep:∀ j:Nat,w=j→ZcF at_ d j n→Zdz at_ i d (n+1) w:=by
  intro j hj hc;rcases hw with ⟨h0,_⟩|⟨j',h0,h1,h2,h3⟩
  ·omega
  ·have:j=j':=by omega
   subst this;refine .inr ⟨j,h0,by omega,h2,fun k hk hk2=>?_⟩;rcases Nat.lt_succ_iff_lt_or_eq.1 hk with h'|rfl
   ·exact h3 k h' hk2
   ·exact hc
 have hturn:∀ j:Nat,w=j→¬ ZcF at_ d j n→Zhg at_ i d n→Zdz at_ i d (n+1) n:=by
  intro j hj hc hcand;rcases hw with ⟨h0,_⟩|⟨j',h0,h1,h2,h3⟩
  ·omega
  ·have:j=j':=by omega
   subst this;refine .inr ⟨n,rfl,by omega,hcand,fun k hk hk2=>?_⟩;rcases Nat.lt_succ_iff_lt_or_eq.1 hk with h'|rfl
   ·have h4:=h3 k h' hk2;unfold ZcF at h4 hc ⊢;by_cases z:d=0
    ·rw [if_pos z] at *; omega
    ·rw [if_neg z] at *; omega
   ·unfold ZcF;split<;>omega
 have hwc:w=-1∨∃ j:Nat,w=j∧j<n:=by
  rcases hw with ⟨h,_⟩|⟨j,h,h2,_⟩
  ·exact .inl h
  ·exact .inr ⟨j,h,h2⟩
 have hd':d=0∨d=1:=by omega
 rcases hd' with rfl|rfl
 ·have z:((0:Nat):Int)=0:=rfl;by_cases hY:(gi at_ n).Y=(gi at_ i).Y
  ·by_cases hX:(gi at_ i).X<(gi at_ n).X
   ·have hc:Zhg at_ i 0 n:=⟨hn,by rw [if_pos rfl];exact ⟨hY,hX⟩⟩;rcases hwc with rfl|⟨j,rfl,hj⟩
    ·refine ⟨n,hnew rfl hc,?_⟩;simp (disch:=omega) only [ZR.s0,z,hY,evl,decide_true,decide_false,Bool.not_eq_true,Bool.decide_eq_true,Int.reduceToNat]
     try simp (disch:=omega) only [evl,decide_true,decide_false,Bool.not_eq_true,Bool.decide_eq_true,Int.reduceToNat]
    ·by_cases hcl:ZcF at_ 0 j n
     ·refine ⟨j,hkeep j rfl hcl,?_⟩;have hcl':(gi at_ j).X≤(gi at_ n).X:=by simpa [ZcF] using hcl
      simp (disch:=omega) only [ZR.s0,z,hY,evl,decide_true,decide_false,Bool.not_eq_true,Bool.decide_eq_true,Int.reduceToNat]
      try simp (disch:=omega) only [evl,decide_true,decide_false,Bool.not_eq_true,Bool.decide_eq_true,Int.reduceToNat]
     ·refine ⟨n,hturn j rfl hcl hc,?_⟩;have hcl':¬ (gi at_ j).X≤(gi at_ n).X:=by simpa [ZcF] using hcl
      simp (disch:=omega) only [ZR.s0,z,hY,evl,decide_true,decide_false,Bool.not_eq_true,Bool.decide_eq_true,Int.reduceToNat]
      try simp (disch:=omega) only [evl,decide_true,decide_false,Bool.not_eq_true,Bool.decide_eq_true,Int.reduceToNat]
   ·refine ⟨w,hlow (fun hc=>hX (by have:=hc.2;rw [if_pos rfl] at this;exact this.2)),?_⟩;simp (disch:=omega) only [ZR.s0,z,hY,evl,decide_true,decide_false,Bool.not_eq_true,Bool.decide_eq_true,Int.reduceToNat]
    try simp (disch:=omega) only [evl,decide_true,decide_false,Bool.not_eq_true,Bool.decide_eq_true,Int.reduceToNat]
  ·refine ⟨w,hlow (fun hc=>hY (by have:=hc.2;rw [if_pos rfl] at this;exact this.1)),?_⟩;simp (disch:=omega) only [ZR.s0,z,hY,evl,decide_true,decide_false,Bool.not_eq_true,Bool.decide_eq_true,Int.reduceToNat]
   try simp (disch:=omega) only [evl,decide_true,decide_false,Bool.not_eq_true,Bool.decide_eq_true,Int.reduceToNat]
 ·have z:((1:Nat):Int)=1:=rfl;by_cases hY:(gi at_ n).X=(gi at_ i).X
  ·by_cases hX:(gi at_ i).Y<(gi at_ n).Y
   ·have hc:Zhg at_ i 1 n:=⟨hn,by rw [if_neg (by decide)];exact ⟨hY,hX⟩⟩;rcases hwc with rfl|⟨j,rfl,hj⟩
    ·refine ⟨n,hnew rfl hc,?_⟩;simp (disch:=omega) only [ZR.s0,z,hY,evl,decide_true,decide_false,Bool.not_eq_true,Bool.decide_eq_true,Int.reduceToNat]
     try simp (disch:=omega) only [evl,decide_true,decide_false,Bool.not_eq_true,Bool.decide_eq_true,Int.reduceToNat]
    ·by_cases hcl:ZcF at_ 1 j n
     ·refine ⟨j,hkeep j rfl hcl,?_⟩;have hcl':(gi at_ j).Y≤(gi at_ n).Y:=by simpa [ZcF] using hcl
      simp (disch:=omega) only [ZR.s0,z,hY,evl,decide_true,decide_false,Bool.not_eq_true,Bool.decide_eq_true,Int.reduceToNat]
      try simp (disch:=omega) only [evl,decide_true,decide_false,Bool.not_eq_true,Bool.decide_eq_true,Int.reduceToNat]
     ·refine ⟨n,hturn j rfl hcl hc,?_⟩;have hcl':¬ (gi at_ j).Y≤(gi at_ n).Y:=by simpa [ZcF] using hcl
      simp (disch:=omega) only [ZR.s0,z,hY,evl,decide_true,decide_false,Bool.not_eq_true,Bool.decide_eq_true,Int.reduceToNat]
      try simp (disch:=omega) only [evl,decide_true,decide_false,Bool.not_eq_true,Bool.decide_eq_true,Int.reduceToNat]
   ·refine ⟨w,hlow (fun hc=>hX (by have:=hc.2;rw [if_neg (by decide)] at this;exact this.2)),?_⟩;simp (disch:=omega) only [ZR.s0,z,hY,evl,decide_true,decide_false,Bool.not_eq_true,Bool.decide_eq_true,Int.reduceToNat]
    try simp (disch:=omega) only [evl,decide_true,decide_false,Bool.not_eq_true,Bool.decide_eq_true,Int.reduceToNat]
  ·refine ⟨w,hlow (fun hc=>hY (by have:=hc.2;rw [if_neg (by decide)] at this;exact this.1)),?_⟩;simp (disch:=omega) only [ZR.s0,z,hY,evl,decide_true,decide_false,Bool.not_eq_true,Bool.decide_eq_true,Int.reduceToNat]
   try simp (disch:=omega) only [evl,decide_true,decide_false,Bool.not_eq_true,Bool.decide_eq_true,Int.reduceToNat]
theorem Zdf {σ ρ:Type}{step:σ→Option (σ⊕ρ)}{n:Nat}(I:Nat→σ→Prop) {s0:σ}{R:ρ→Prop}(hn:n<big) (h0:I 0 s0) (hs:∀ i s,i<n→I i s→∃ s',step s=some (.inl s')∧I (i+1) s') (he:∀ s,I n s→∃ r,step s=some (.inr r)∧R r):∃ r,ZX step big s0=some r∧R r:=by
 have key:∀ k i s,i+k=n→I i s→∃ r,ZX step (k+1) s=some r∧R r:=by
  intro k
  induction k with
  | zero =>
   intro i s hi hI;obtain rfl:i=n:=by omega
   obtain ⟨r,hr,hR⟩:=he s hI;exact ⟨r,by simp only [ZX,hr],hR⟩
  | succ k ih =>
   intro i s hi hI;obtain ⟨s',hs',hI'⟩:=hs i s (by omega) hI;obtain ⟨r,hr,hR⟩:=ih (i+1) s' (by omega) hI';exact ⟨r,by rw [ZX,hs'];exact hr,hR⟩
 obtain ⟨r,hr,hR⟩:=key n 0 s0 (by omega) h0;exact ⟨r,ZdZ hr (by unfold big at *; omega),hR⟩
theorem Zqp {at_:List Zl}{i d:Nat}(hl:at_.length≤1000) (hi:i<at_.length) (hd:d<2):∃ w,ZR at_ i d=some w∧Zdz at_ i d at_.length w:=by
 obtain ⟨r,hr,hR⟩:=Zdf (step:=ZR.s0 at_ i d) (n:=at_.length) (I:=fun n (s:Int×Int)=>s.2=n∧Zdz at_ i d n s.1) (s0:=((-1:Int),(0:Int))) (R:=Zdz at_ i d at_.length) (ZaK (by omega)) ⟨rfl,.inl ⟨rfl,fun k hk=>by omega⟩⟩ (fun n (s:Int×Int) hn hs=>by
  obtain ⟨w,m⟩:=s;obtain ⟨rfl,hw⟩:=hs;obtain ⟨w',h1,h2⟩:=Zkk hl hi hd hn hw;exact ⟨_,h2,rfl,h1⟩) (fun (s:Int×Int) hs=>by
  obtain ⟨w,m⟩:=s;obtain ⟨rfl,hw⟩:=hs;exact ⟨w,by simp only [ZR.s0];rw [ZW (by omega)],hw⟩)
 exact ⟨r,by unfold ZR;rw [hr];rfl,hR⟩
end Mu
/- Layer 10: crossed,with,make. -/
namespace Mu

theorem Zai {α:Type}{x:Int}{o:Option α}(h:-9223372036854775808≤x∧x≤9223372036854775807):ck (Za6 x) o=o:=Z2 h
def ZcX (at_:List Zl) (l:List Za) (i w a d:Nat):Bool :=
 let p:=gi at_ a;let q:=gi at_ (nx l a d).toNat
 let s:=gi at_ i;let t:=gi at_ w;decide (0≤nx l a d)&&((decide (p.Y=q.Y)&&decide (s.X=t.X)&&decide (p.X<s.X)&&decide (s.X<q.X)&&decide (s.Y<p.Y)&&decide (p.Y<t.Y))||(decide (p.X=q.X)&&decide (s.Y=t.Y)&&decide (s.X<p.X)&&decide (p.X<t.X)&&decide (p.Y<s.Y)&&decide (s.Y<q.Y)))
theorem Zo9 {a:Bool}{b:Bool}:(if a=true then some b else some false)=some (a&&b):=by cases a<;>rfl
theorem ZnD {at_:List Zl}{l:List Za}{i w a d:Nat}(hl:at_.length=l.length) (hi:i<l.length) (hw:w<l.length) (ha:a<l.length) (hd:d<2) (hn:nx l a d<l.length):ZQ.s1 at_ l i w a d=some (if ZcX at_ l i w a d=true then .inr (.inr ()) else .inl ((d:Int)+1)):=by
 unfold ZQ.s1;rw [zb (by omega),Z2 (by omega),Z2 (by omega),itn];have e:((gi l a).Next).get (d:Int)=nx l a d:=rfl;rw [e];unfold ZcX;by_cases h0:nx l a d<0
 ·rw [zb h0,Zai (by omega),ZeE (show ¬ 0≤nx l a d by omega)];simp
 ·rw [ZW h0,Z2 (by omega),Z2 (by omega),ZcV (show 0≤nx l a d by omega)];have k1:∀ (α:Type) (o:Option α),ck ((0:Int)≤(i:Int)∧(i:Int)<(at_.length:Int)) o=o:=fun _ _=>Z2 (by omega);have k2:∀ (α:Type) (o:Option α),ck ((0:Int)≤(w:Int)∧(w:Int)<(at_.length:Int)) o=o:=fun _ _=>Z2 (by omega);have k3:∀ (α:Type) (o:Option α),ck (Za6 ((d:Int)+1)) o=o:=fun _ _=>Zai (by omega);simp only [k1,k2,k3,itn,obs,Zo9,Bool.true_and];generalize (decide ((gi at_ a).Y=(gi at_ (nx l a d).toNat).Y)&&decide ((gi at_ i).X=(gi at_ w).X)&&decide ((gi at_ a).X<(gi at_ i).X)&&decide ((gi at_ i).X<(gi at_ (nx l a d).toNat).X)&&decide ((gi at_ i).Y<(gi at_ a).Y)&&decide ((gi at_ a).Y<(gi at_ w).Y))=A;generalize (decide ((gi at_ a).X=(gi at_ (nx l a d).toNat).X)&&decide ((gi at_ i).Y=(gi at_ w).Y)&&decide ((gi at_ i).X<(gi at_ a).X)&&decide ((gi at_ a).X<(gi at_ w).X)&&decide ((gi at_ a).Y<(gi at_ i).Y)&&decide ((gi at_ i).Y<(gi at_ (nx l a d).toNat).Y))=B;cases A<;>cases B<;>rfl
def ZfE (at_:List Zl) (l:List Za) (i w a:Nat):Bool:=ZcX at_ l i w a 0||ZcX at_ l i w a 1
def Zh9 (at_:List Zl) (l:List Za) (i w:Nat):Bool:=(List.range l.length).any fun a=>ZfE at_ l i w a
theorem ZnE {at_:List Zl}{l:List Za}{i w a:Nat}(hl:at_.length=l.length) (hi:i<l.length) (hw:w<l.length) (hn:∀ a d,a<l.length→d<2→nx l a d<l.length) (ha:a<l.length):ZX (ZQ.s1 at_ l i w a) big 0=some (if ZfE at_ l i w a=true then .inr () else .inl ()):=by
 have h:ZX (ZQ.s1 at_ l i w a) big 0=some (match (List.range 2).find? (fun d=>ZcX at_ l i w a d) with|some i=>.inr ((fun _=>()) i)|none=>.inl ()):=by
  refine ZdG (ZaK (by omega)) (fun d hd=>?_) ?_
  ·exact ZnD hl hi hw ha hd (hn a d ha hd)
  ·simp only [ZQ.s1];rw [ZW (by omega)]
 rw [h];have e:(List.range 2).find? (fun d=>ZcX at_ l i w a d)=if ZcX at_ l i w a 0=true then some 0 else if ZcX at_ l i w a 1=true then some 1 else none:=by
  have:List.range 2=[0,1]:=by decide
  rw [this];cases c0:ZcX at_ l i w a 0<;>cases c1:ZcX at_ l i w a 1<;>simp [c0,c1]
 rw [e];unfold ZfE;cases c0:ZcX at_ l i w a 0<;>cases c1:ZcX at_ l i w a 1<;>simp
theorem ZnC {at_:List Zl}{l:List Za}{i w a:Nat}(hl:at_.length=l.length) (h1000:l.length≤1000) (hi:i<l.length) (hw:w<l.length) (hn:∀ a d,a<l.length→d<2→nx l a d<l.length) (ha:a<l.length):ZQ.s0 at_ l i w a=some (if ZfE at_ l i w a=true then .inr (.inr ()) else .inl ((a:Int)+1)):=by
 simp only [ZQ.s0];rw [zb (by omega),ZnE hl hi hw hn ha,obs];by_cases c:ZfE at_ l i w a=true
 ·rw [if_pos c,if_pos c]
 ·rw [if_neg c,if_neg c];dsimp only;rw [Zai (by omega)]
theorem ZnG {at_:List Zl}{l:List Za}{i w:Nat}:ZQ.s0 at_ l i w l.length=some (.inr (.inl ())):=by
 simp only [ZQ.s0];rw [ZW (by omega)]
theorem Zmb {n:Nat}{P:Nat→Bool}:((List.range n).any P)=((List.range n).find? P).isSome:=by
 rw [Bool.eq_iff_iff,List.find?_isSome,List.any_eq_true]
theorem ZnF {at_:List Zl}{l:List Za}{i w:Nat}(hl:at_.length=l.length) (h1000:l.length≤1000) (hi:i<l.length) (hw:w<l.length) (hn:∀ a d,a<l.length→d<2→nx l a d<l.length):ZX (ZQ.s0 at_ l i w) big 0=some (match (List.range l.length).find? (fun a=>ZfE at_ l i w a) with|some i=>.inr ((fun _=>()) i)|none=>.inl ()) :=
 ZdG (ZaK (by omega)) (fun a ha=>ZnC hl h1000 hi hw hn ha) ZnG
theorem Zm3 {at_:List Zl}{l:List Za}{i w:Nat}(hl:at_.length=l.length) (h1000:l.length≤1000) (hi:i<l.length) (hw:w<l.length) (hn:∀ a d,a<l.length→d<2→nx l a d<l.length):ZQ at_ l i w=some (Zh9 at_ l i w):=by
 have h0:=ZnF hl h1000 hi hw hn;unfold ZQ;rw [h0];unfold Zh9;rw [Zmb]
 cases h:(List.range l.length).find? fun a=>ZfE at_ l i w a with
 | none=>simp
 | some j=>simp

/-! with -/
def wC1 (c:Za) (d w o:Int):Za:=⟨c.Next.set d w,c.Owner.set d o⟩
def wC (l:List Za) (v d w o:Int) (i:Nat):Za :=
 let c:=if (i:Int)=v then wC1 (gi l i) d w o else gi l i
 if (i:Int)=w then wC1 c ((d+2).tmod 4) v o else c
def wth (l:List Za) (v d w o:Int):List Za:=(List.range l.length).map (wC l v d w o)
theorem ZcN {l:List Za}{v d w o:Int}:(wth l v d w o).length=l.length:=by simp [wth]
theorem Zqs {l:List Za}{v d w o:Int}(hl:l.length≤100000) (hd:0≤d∧d<4):Zam l v d w o=some (wth l v d w o):=by
 unfold Zam;rw [Zio (x:=wth l v d w o)];refine Zbv (fun n:Nat=>((List.range n).map (wC l v d w o),(n:Int))) (n:=l.length) (ZaK (by omega)) rfl (fun n hn=>?_) ?_
 ·have hm:((List.range n).map (wC l v d w o)).length=n:=by simp
  have t:=Int.tmod_nonneg 4 (show (0:Int)≤d+2 by omega);have t2:=Int.tmod_lt_of_pos (d+2) (show (0:Int)<4 by omega);rw [List.range_succ,List.map_append,List.map_cons,List.map_nil];simp only [Zam.s0];rw [zb (by omega),Z2 (by omega),itn];unfold wC;by_cases c1:(n:Int)=v
  ·rw [zb c1,Z2 hd,obs];by_cases c2:(n:Int)=w
   ·rw [zb c2,Zai (by omega),Z2 (by omega),Z2 (by simp;omega),Zai (by omega),if_pos c1,if_pos c2];rfl
   ·rw [ZW c2,Z2 (by simp;omega),Zai (by omega),if_pos c1,if_neg c2];rfl
  ·rw [ZW c1,obs];by_cases c2:(n:Int)=w
   ·rw [zb c2,Zai (by omega),Z2 (by omega),Z2 (by simp;omega),Zai (by omega),if_neg c1,if_pos c2];rfl
   ·rw [ZW c2,Z2 (by simp;omega),Zai (by omega),if_neg c1,if_neg c2];rfl
 ·simp only [Zam.s0];rw [ZW (by omega)];rfl
theorem ZgK {l:List Za}{v w d i e:Nat}{o:Int}(hv:v<l.length) (hw:w<l.length) (hvw:v≠w) (hd:d<4) (hi:i<l.length) (he:e<4):nx (wth l v d w o) i e=(if i=v∧e=d then (w:Int) else if i=w∧e=(d+2)%4 then (v:Int) else nx l i e)∧ow (wth l v d w o) i e=(if i=v∧e=d then o else if i=w∧e=(d+2)%4 then o else ow l i e):=by
 have hb:(((d:Int)+2).tmod 4)=(((d+2)%4:Nat):Int):=by
  match d,hd with
  | 0,_|1,_|2,_|3,_=>rfl
 have g:gi (wth l v d w o) i=wC l v d w o i:=ZbM hi;unfold nx ow;rw [g];unfold wC;rw [hb];by_cases c1:i=v
 ·subst c1;rw [if_pos rfl,if_neg (show ¬ ((i:Nat):Int)=(w:Int) by omega)];simp only [wC1];rw [Zfa hd he,Zfa hd he];have:¬ (i=w):=hvw;simp [this]
 ·rw [if_neg (show ¬ ((i:Nat):Int)=(v:Int) by omega)];by_cases c2:i=w
  ·subst c2;rw [if_pos rfl];simp only [wC1];rw [Zfa (by omega) he,Zfa (by omega) he];simp [c1]
  ·rw [if_neg (show ¬ ((i:Nat):Int)=(w:Int) by omega)];simp [c1,c2]

/-! What may be. -/
structure Ck (l:List Za):Prop where
 s:∀ v d,v<l.length→d<4→(nx l v d=-1∧ow l v d=0)∨∃ w:Nat,nx l v d=w∧w<l.length∧w≠v∧nx l w ((d+2)%4)=v∧ow l w ((d+2)%4)=ow l v d∧-2≤ow l v d
theorem Ck.new (n:Nat):Ck (List.replicate n noC):=⟨fun v d hv hd=>.inl (by
 have:gi (List.replicate n noC) v=noC:=by rw [Zaz hv];simp
 unfold nx ow;rw [this]
 match d,hd with
 | 0,_|1,_|2,_|3,_=>exact ⟨rfl,rfl⟩)⟩
theorem Ck.wth {l:List Za}(h:Ck l) {v w d:Nat}{o:Int}(hv:v<l.length) (hw:w<l.length) (hvw:v≠w) (hd:d<4) (h1:nx l v d=-1) (h2:nx l w ((d+2)%4)=-1) (ho:-2≤o):Ck (wth l v d w o):=by
 refine ⟨fun i e hi he=>?_⟩;rw [ZcN] at hi ⊢;have n1:=fun i e hi he=>(ZgK (o:=o) hv hw hvw hd (i:=i) (e:=e) hi he).1;have n2:=fun i e hi he=>(ZgK (o:=o) hv hw hvw hd (i:=i) (e:=e) hi he).2;rw [n1 i e hi he,n2 i e hi he];by_cases c1:i=v∧e=d
 ·rw [if_pos c1,if_pos c1];refine .inr ⟨w,rfl,hw,by omega,?_,?_,ho⟩
  ·rw [n1 w _ hw (by omega),if_neg (by omega),if_pos ⟨rfl,by rw [c1.2]⟩,c1.1]
  ·rw [n2 w _ hw (by omega),if_neg (by omega),if_pos ⟨rfl,by rw [c1.2]⟩]
 ·rw [if_neg c1,if_neg c1];by_cases c2:i=w∧e=(d+2)%4
  ·rw [if_pos c2,if_pos c2];refine .inr ⟨v,rfl,hv,by omega,?_,?_,ho⟩
   ·rw [n1 v _ hv (by omega),if_pos ⟨rfl,by omega⟩,c2.1]
   ·rw [n2 v _ hv (by omega),if_pos ⟨rfl,by omega⟩]
  ·rw [if_neg c2,if_neg c2];rcases h.s i e hi he with hh|⟨x,x1,x2,x3,x4,x5,x6⟩
   ·exact .inl hh
   ·refine .inr ⟨x,x1,x2,x3,?_,?_,x6⟩
    ·rw [n1 x _ x2 (by omega)];rw [if_neg (fun c=>by
      have:nx l x ((e+2)%4)=-1:=by rw [c.1,c.2];exact h1
      omega)]
     rw [if_neg (fun c=>by
      have:nx l x ((e+2)%4)=-1:=by rw [c.1,c.2];exact h2
      omega)]
     exact x4
    ·rw [n2 x _ x2 (by omega)];rw [if_neg (fun c=>by
      have:nx l x ((e+2)%4)=-1:=by rw [c.1,c.2];exact h1
      omega)]
     rw [if_neg (fun c=>by
      have:nx l x ((e+2)%4)=-1:=by rw [c.1,c.2];exact h2
      omega)]
     exact x5
end Mu
/- Layer 10: make. -/
namespace Mu

theorem ZeU {σ ρ:Type}{step:σ→Option (σ⊕ρ)}(μ:σ→Nat) (I:σ→Prop) {s0:σ}{R:ρ→Prop}(hn:μ s0<big) (h0:I s0) (hs:∀ s,I s→(∃ s',step s=some (.inl s')∧I s'∧μ s'<μ s)∨∃ r,step s=some (.inr r)∧R r):∃ r,ZX step big s0=some r∧R r:=by
 have key:∀ k s,μ s≤k→I s→∃ r,ZX step (k+1) s=some r∧R r:=by
  intro k
  induction k with
  | zero =>
   intro s hk hI;rcases hs s hI with ⟨s',h1,h2,h3⟩|⟨r,h1,h2⟩
   ·omega
   ·exact ⟨r,by simp only [ZX,h1],h2⟩
  | succ k ih =>
   intro s hk hI;rcases hs s hI with ⟨s',h1,h2,h3⟩|⟨r,h1,h2⟩
   ·obtain ⟨r,hr,hR⟩:=ih s' (by omega) h2;exact ⟨r,by rw [ZX,h1];exact hr,hR⟩
   ·exact ⟨r,by rw [ZX,h1],h2⟩
 obtain ⟨r,hr,hR⟩:=key (μ s0) s0 (Nat.le_refl _) h0;exact ⟨r,ZdZ hr (by omega),hR⟩

structure Pts (at_:List Zl):Prop where
 b:∀ i,i<at_.length→0≤(gi at_ i).X∧(gi at_ i).X<8∧0≤(gi at_ i).Y∧(gi at_ i).Y<8
 d:∀ i j,i<at_.length→j<at_.length→gi at_ i=gi at_ j→i=j
theorem Pts.nil:Pts []:=⟨fun i h=>by simp at h,fun i j h=>by simp at h⟩
theorem Pts.app {at_:List Zl}(h:Pts at_) {p:Zl}(hp:0≤p.X∧p.X<8∧0≤p.Y∧p.Y<8) (hn:∀ k,k<at_.length→gi at_ k≠p):Pts (at_++[p]):=by
 have g1:∀ i,i<at_.length→gi (at_++[p]) i=gi at_ i:=fun i hi=>Zc1 hi;have g2:gi (at_++[p]) at_.length=p:=by
  have:=Zcc (l:=at_) (m:=[p]) (i:=0);rw [Nat.add_zero] at this;rw [this];rfl
 refine ⟨fun i hi=>?_,fun i j hi hj hij=>?_⟩
 ·simp only [List.length_append,List.length_cons,List.length_nil] at hi;by_cases c:i<at_.length
  ·rw [g1 i c];exact h.b i c
  ·rw [show i=at_.length by omega,g2];exact hp
 ·simp only [List.length_append,List.length_cons,List.length_nil] at hi hj;by_cases c:i<at_.length<;>by_cases c2:j<at_.length
  ·rw [g1 i c,g1 j c2] at hij;exact h.d i j c c2 hij
  ·rw [g1 i c,show j=at_.length by omega,g2] at hij;exact absurd hij (hn i c)
  ·rw [g1 j c2,show i=at_.length by omega,g2] at hij;exact absurd hij.symm (hn j c2)
  ·omega
theorem ZmA {at_:List Zl}(hp:Pts at_) {i j d:Nat}{w:Nat}(hi:i<at_.length) (hj:j<at_.length) (hd:d<2) (h1:Zdz at_ i d at_.length w) (h2:Zdz at_ j d at_.length w):i=j:=by
 rcases h1 with ⟨h,_⟩|⟨w1,e1,l1,c1,m1⟩
 ·omega
 rcases h2 with ⟨h,_⟩|⟨w2,e2,l2,c2,m2⟩
 ·omega
 obtain rfl:w=w1:=by omega
 obtain rfl:w=w2:=by omega
 apply hp.d i j hi hj;have x1:=m1 j hj;have x2:=m2 i hi;have c1:=c1.2;have c2:=c2.2;unfold Zhg ZcF at x1 x2;by_cases z:d=0
 ·simp only [if_pos z] at *;have hX:(gi at_ i).X=(gi at_ j).X:=by
   by_cases q1:(gi at_ i).X<(gi at_ j).X
   ·have:=x1 ⟨hj,by omega,q1⟩;omega
   ·by_cases q2:(gi at_ j).X<(gi at_ i).X
    ·have:=x2 ⟨hi,by omega,q2⟩;omega
    ·omega
  have hY:(gi at_ i).Y=(gi at_ j).Y:=by omega
  generalize gi at_ i=p at *;generalize gi at_ j=q at *;obtain ⟨a,b⟩:=p;obtain ⟨a',b'⟩:=q;simp only at hX hY;rw [hX,hY]
 ·simp only [if_neg z] at *;have hX:(gi at_ i).Y=(gi at_ j).Y:=by
   by_cases q1:(gi at_ i).Y<(gi at_ j).Y
   ·have:=x1 ⟨hj,by omega,q1⟩;omega
   ·by_cases q2:(gi at_ j).Y<(gi at_ i).Y
    ·have:=x2 ⟨hi,by omega,q2⟩;omega
    ·omega
  have hY:(gi at_ i).X=(gi at_ j).X:=by omega
  generalize gi at_ i=p at *;generalize gi at_ j=q at *;obtain ⟨a,b⟩:=p;obtain ⟨a',b'⟩:=q;simp only at hX hY;rw [hX,hY]
def NX (at_:List Zl) (l:List Za):Prop:=∀ a b:Nat,a<l.length→b<l.length→0≤nx l a 0→0≤nx l b 1→¬ ((gi at_ a).X<(gi at_ b).X∧(gi at_ b).X<(gi at_ (nx l a 0).toNat).X∧(gi at_ b).Y<(gi at_ a).Y∧(gi at_ a).Y<(gi at_ (nx l b 1).toNat).Y)
structure Mk (at_:List Zl) (l:List Za) (i d:Nat):Prop where
 len:l.length=at_.length
 ck:Ck l
 near:∀ v e,v<l.length→e<2→nx l v e=-1∨((v<i∨v=i∧e<d)∧Zdz at_ v e at_.length (nx l v e))
 own:∀ v e,v<l.length→e<4→-2≤ow l v e∧ow l v e≤1000
 nc:NX at_ l
theorem Mk.step {at_:List Zl}{l:List Za}{i d:Nat}(h:Mk at_ l i d):Mk at_ l i (d+1) :=
 ⟨h.len,h.ck,fun v e hv he=>(h.near v e hv he).imp id (fun ⟨a,b⟩=>⟨by omega,b⟩),h.own,h.nc⟩
theorem Mk.next {at_:List Zl}{l:List Za}{i:Nat}(h:Mk at_ l i 2):Mk at_ l (i+1) 0 :=
 ⟨h.len,h.ck,fun v e hv he=>(h.near v e hv he).imp id (fun ⟨a,b⟩=>⟨by omega,b⟩),h.own,h.nc⟩
theorem Ck.lt {l:List Za}(h:Ck l) {v d:Nat}(hv:v<l.length) (hd:d<4):-1≤nx l v d∧nx l v d<l.length:=by
 rcases h.s v d hv hd with ⟨a,_⟩|⟨w,a,b,_⟩<;>omega
theorem Mk.lay {at_:List Zl}(hp:Pts at_) {l:List Za}{i d w:Nat}{o:Int}(h:Mk at_ l i d) (hi:i<l.length) (hd:d<2) (hw:Zdz at_ i d at_.length w) (hx:Zh9 at_ l i w=false) (ho:-2≤o∧o≤1000):Mk at_ (wth l i d w o) i (d+1):=by
 have hl:=h.len;have hwl:w<l.length∧Zhg at_ i d w:=by
  rcases hw with ⟨e,_⟩|⟨j,e,h1,h2,_⟩
  ·omega
  ·have:w=j:=by omega
   subst this;exact ⟨by omega,h2⟩
 have hne:i≠w:=by
  rintro rfl;have:=hwl.2.2;split at this<;>omega
 have n1:nx l i d=-1:=by
  rcases h.near i d hi (by omega) with e|⟨e,_⟩
  ·exact e
  ·omega
 have n2:nx l w ((d+2)%4)=-1:=by
  rcases h.ck.s w ((d+2)%4) hwl.1 (by omega) with ⟨e,_⟩|⟨x,e1,e2,e3,e4,e5,e6⟩
  ·exact e
  ·rw [show ((d+2)%4+2)%4=d by omega] at e4;rcases h.near x d e2 hd with e|⟨e,e7⟩
   ·omega
   ·rw [e4] at e7;have:=ZmA hp (by omega) (by omega) hd e7 hw;subst this;omega
 have m1:=fun v e hv he=>(ZgK (o:=o) hi hwl.1 hne (show d<4 by omega) (i:=v) (e:=e) hv he).1;have m2:=fun v e hv he=>(ZgK (o:=o) hi hwl.1 hne (show d<4 by omega) (i:=v) (e:=e) hv he).2;have hcr:∀ a,a<l.length→ZcX at_ l i w a 0=false∧ZcX at_ l i w a 1=false:=by
  intro a ha;unfold Zh9 at hx;rw [List.any_eq_false] at hx;have:=hx a (List.mem_range.2 ha);unfold ZfE at this;simpa using this
 refine ⟨by rw [ZcN];exact hl,h.ck.wth hi hwl.1 hne (by omega) n1 n2 ho.1,fun v e hv he=>?_,fun v e hv he=>?_,fun a b ha hb=>?_⟩
 ·rw [ZcN] at hv;rw [m1 v e hv (by omega)];by_cases c:v=i∧e=d
  ·rw [if_pos c];right;refine ⟨by omega,?_⟩;rw [c.1,c.2];exact hw
  ·rw [if_neg c];rw [if_neg (fun c2=>by omega)];exact (h.near v e hv he).imp id (fun ⟨a,b⟩=>⟨by omega,b⟩)
 ·rw [ZcN] at hv;rw [m2 v e hv he];by_cases c:v=i∧e=d
  ·rw [if_pos c];exact ho
  ·rw [if_neg c];by_cases c2:v=w∧e=(d+2)%4
   ·rw [if_pos c2];exact ho
   ·rw [if_neg c2];exact h.own v e hv he
 ·rw [ZcN] at ha hb;rw [m1 a 0 ha (by omega),m1 b 1 hb (by omega)];have cd:=hwl.2.2;by_cases c0:d=0
  ·subst c0;rw [if_pos rfl] at cd;rw [if_neg (show ¬ (b=i∧1=0) by omega),if_neg (show ¬ (b=w∧1=(0+2)%4) by omega),if_neg (show ¬ (a=w∧0=(0+2)%4) by omega)];by_cases c:a=i
   ·subst c;rw [if_pos ⟨rfl,rfl⟩];intro _ h1 ⟨k1,k2,k3,k4⟩;rw [itn] at k2;have q:=(hcr b hb).2;have nb:=h.near b 1 hb (by omega);have ex:(gi at_ b).X=(gi at_ (nx l b 1).toNat).X:=by
     rcases nb with e|⟨_,e⟩
     ·omega
     ·rcases e with ⟨e,_⟩|⟨j,e,_,e2,_⟩
      ·omega
      ·rw [e,itn];exact e2.2.1.symm
    unfold ZcX at q;simp [h1,ex,cd.1] at q;omega
   ·rw [if_neg (show ¬ (a=i∧0=0) by omega)];exact h.nc a b ha hb
  ·have c1:d=1:=by omega
   subst c1;rw [if_neg (by omega)] at cd;rw [if_neg (show ¬ (a=i∧0=1) by omega),if_neg (show ¬ (a=w∧0=(1+2)%4) by omega),if_neg (show ¬ (b=w∧1=(1+2)%4) by omega)];by_cases c:b=i
   ·subst c;rw [if_pos ⟨rfl,rfl⟩];intro h1 _ ⟨k1,k2,k3,k4⟩;rw [itn] at k4;have q:=(hcr a ha).1;have na:=h.near a 0 ha (by omega);have ey:(gi at_ a).Y=(gi at_ (nx l a 0).toNat).Y:=by
     rcases na with e|⟨_,e⟩
     ·omega
     ·rcases e with ⟨e,_⟩|⟨j,e,_,e2,_⟩
      ·omega
      ·rw [e,itn];exact e2.2.1.symm
    unfold ZcX at q;simp [h1,ey,cd.1] at q;omega
   ·rw [if_neg (show ¬ (b=i∧1=1) by omega)];exact h.nc a b ha hb
theorem Zpi {at_:List Zl}(hp:Pts at_) (h1000:at_.length≤1000) {l:List Za}{i:Nat}{b o:Int}(h:Mk at_ l i 0) (hi:i<l.length) (ho:-2≤o∧o≤1000):∃ l',ZX (ZH.s3 i b at_ o) big (l,0)=some l'∧Mk at_ l' i 2∧i<l'.length:=by
 refine Zdf (n:=2) (I:=fun n (s:List Za×Int)=>s.2=n∧Mk at_ s.1 i n∧i<s.1.length) (R:=fun l'=>Mk at_ l' i 2∧i<l'.length) (ZaK (by omega)) ⟨rfl,h,hi⟩ ?_ ?_
 ·rintro d ⟨l,x⟩ hd ⟨hx,hM,hi⟩;dsimp only at hx hM hi;subst hx;have hl:=hM.len;obtain ⟨w,hw,hN⟩:=Zqp (at_:=at_) (i:=i) (d:=d) h1000 (by omega) hd;simp only [ZH.s3];rw [zb (by omega),hw,obs,Z2 (by omega),Zai (by omega)];by_cases c:((decide (ZC .u8 (zj .u8 b d) 1=0))||(decide (w<0)))=true
  ·rw [if_pos c];exact ⟨_,rfl,rfl,hM.step,hi⟩
  ·rw [if_neg c];have hw0:¬ w<0:=by
    intro hh;apply c;simp [hh]
   obtain ⟨wn,rfl⟩:∃ wn:Nat,w=wn:=⟨w.toNat,by omega⟩;have hwl:wn<l.length:=by
    rcases hN with ⟨e,_⟩|⟨j,e,h1,h2,_⟩
    ·omega
    ·omega
   rw [Zm3 hl.symm (by omega) hi hwl (fun a e ha he=>(hM.ck.lt ha (by omega)).2),obs,Zqs (by omega) (by omega)];by_cases c2:(!Zh9 at_ l i wn)=true
   ·rw [if_pos c2,obs,Zai (by omega)];exact ⟨_,rfl,rfl,hM.lay hp hi hd hN (by simpa using c2) ho,by rw [ZcN];exact hi⟩
   ·rw [if_neg c2];exact ⟨_,rfl,rfl,hM.step,hi⟩
 ·rintro ⟨l,x⟩ ⟨hx,hM,hi⟩;dsimp only at hx hM hi;subst hx;simp only [ZH.s3];rw [ZW (by omega)];exact ⟨_,rfl,hM,hi⟩

theorem Zph {z:zH}{at_:List Zl}(hp:Pts at_) (h1000:at_.length≤1000) (hown:∀ y∈z.Own,Wf .i8 y) {l:List Za}(h:Mk at_ l 0 0):∃ r:List Zl×List Za,ZX (ZH.s2 z) big (at_,l,0)=some r∧r.1=at_∧Mk at_ r.2 at_.length 0:=by
 refine Zdf (n:=at_.length) (I:=fun n (s:List Zl×List Za×Int)=>s.1=at_∧s.2.2=n∧Mk at_ s.2.1 n 0) (s0:=(at_,l,(0:Int))) (R:=fun r:List Zl×List Za=>r.1=at_∧Mk at_ r.2 at_.length 0) (ZaK (by omega)) ⟨rfl,rfl,h⟩ ?_ ?_
 ·rintro i ⟨a,l,x⟩ hi ⟨ha,hx,hM⟩;dsimp only at ha hx hM;subst ha hx;have hb:∃ b,(if decide ((i:Int)<(z.Bits.length:Int))=true then ck ((0:Int)≤(i:Int)∧(i:Int)<(z.Bits.length:Int)) (some (a,l,gi z.Bits (i:Int).toNat)) else some (a,l,3))=some (a,l,b):=by
   by_cases c:(i:Int)<(z.Bits.length:Int)
   ·exact ⟨gi z.Bits i,by rw [zb c,Z2 (by omega)];rfl⟩
   ·exact ⟨3,by rw [ZW c]⟩
  have ho:∃ o:Int,(-2≤o∧o≤1000)∧(if decide ((i:Int)<(z.Own.length:Int))=true then ck ((0:Int)≤(i:Int)∧(i:Int)<(z.Own.length:Int)) (ck (inK .i64 (gi z.Own (i:Int).toNat)) (if decide ((gi z.Own (i:Int).toNat)<(-2))=true then ck (Za6 (-(gi z.Own (i:Int).toNat))) (some (a,l,-(gi z.Own (i:Int).toNat))) else some (a,l,gi z.Own (i:Int).toNat))) else some (a,l,(i:Int)))=some (a,l,o):=by
   by_cases c:(i:Int)<(z.Own.length:Int)
   ·have hw:=(hown _ (Zaw (show i<z.Own.length by omega))).i8;rw [zb c,Z2 (by omega),itn,Zjx (by omega)];by_cases c2:gi z.Own i < -2
    ·exact ⟨-(gi z.Own i),by omega,by rw [zb c2,Zai (by omega)]⟩
    ·exact ⟨gi z.Own i,by omega,by rw [ZW c2]⟩
   ·exact ⟨i,by omega,by rw [ZW c]⟩
  obtain ⟨b,hb⟩:=hb;obtain ⟨o,ho1,ho⟩:=ho;have hl:=hM.len;obtain ⟨l',h1,h2,h3⟩:=Zpi (b:=b) hp h1000 hM (by omega) ho1;simp only [ZH.s2];rw [zb (by omega),hb,obs];dsimp only;rw [ho,obs];dsimp only;rw [h1,obs,Zai (by omega)];exact ⟨_,rfl,rfl,rfl,h2.next⟩
 ·rintro ⟨a,l,x⟩ ⟨ha,hx,hM⟩;dsimp only at ha hx hM;subst ha hx;simp only [ZH.s2];rw [ZW (by omega)];exact ⟨_,rfl,rfl,hM⟩
theorem Zpg {z:zH}{at_:List Zl}{i:Nat}(h1000:at_.length≤1000):∃ m:Bool,ZX (ZH.s1 z at_ i) big (false,0)=some (at_,m)∧(m=false→∀ k,k<at_.length→gi at_ k≠(⟨(gi z.At i).tmod 8,((gi z.At i).tdiv 8).tmod 8⟩:Zl)):=by
 obtain ⟨r,h1,h2,h3⟩:=Zdf (step:=ZH.s1 z at_ i) (s0:=((false:Bool),(0:Int))) (n:=at_.length) (I:=fun n (s:Bool×Int)=>s.2=n∧(s.1=false→∀ k,k<n→gi at_ k≠(⟨(gi z.At i).tmod 8,((gi z.At i).tdiv 8).tmod 8⟩:Zl))) (R:=fun r:List Zl×Bool=>r.1=at_∧(r.2=false→∀ k,k<at_.length→gi at_ k≠(⟨(gi z.At i).tmod 8,((gi z.At i).tdiv 8).tmod 8⟩:Zl))) (ZaK (by omega)) ⟨rfl,fun _ k hk=>by omega⟩ (by
  rintro n ⟨m,x⟩ hn ⟨hx,hm⟩;dsimp only at hx hm;subst hx;simp only [ZH.s1];rw [zb (by omega)]
  cases m with
  | true =>
   rw [if_pos rfl,obs,Zai (by omega)];exact ⟨_,rfl,rfl,fun h=>by cases h⟩
  | false =>
   rw [if_neg (by decide),Z2 (by omega),obs,Zai (by omega),itn,itn];refine ⟨_,rfl,rfl,fun h k hk=>?_⟩;rcases Nat.lt_succ_iff_lt_or_eq.1 hk with h'|rfl
   ·exact hm rfl k h'
   ·simpa using h) (by
  rintro ⟨m,x⟩ ⟨hx,hm⟩;dsimp only at hx hm;subst hx;simp only [ZH.s1];rw [ZW (by omega)];exact ⟨_,rfl,rfl,hm⟩)
 obtain ⟨a,m⟩:=r;dsimp only at h2 h3;subst h2;exact ⟨m,h1,h3⟩
theorem Zpf {z:zH}{most:Int}(hm:0≤most∧most≤1000) (hlen:z.At.length≤9223372036854775807) (hat:∀ y∈z.At,Wf .u8 y):∃ a,ZX (ZH.s0 z most) big (([]:List Zl),0)=some a∧Pts a∧(a.length:Int)≤most:=by
 refine ZeU (μ:=fun s:List Zl×Int=>((z.At.length:Int)-s.2).toNat) (I:=fun s=>0≤s.2∧Pts s.1∧(s.1.length:Int)≤most) (R:=fun a=>Pts a∧(a.length:Int)≤most) (ZaK (by omega)) ⟨by decide,Pts.nil,by simpa using hm.1⟩ ?_;rintro ⟨a,i⟩ ⟨h1,h2,h3⟩;dsimp only at h1 h2 h3;obtain ⟨n,rfl⟩:∃ n:Nat,i=n:=⟨i.toNat,by omega⟩;simp only [ZH.s0];by_cases c:((decide ((n:Int)<(z.At.length:Int)))&&(decide ((a.length:Int)<most)))=true
 ·left;rw [if_pos c];rw [Bool.and_eq_true,decide_eq_true_iff,decide_eq_true_iff] at c;have hu:=(hat _ (Zaw (show n<z.At.length by omega))).u8;obtain ⟨m,e1,e2⟩:=Zpg (z:=z) (at_:=a) (i:=n) (by omega);have hdv:0≤(gi z.At n).tdiv 8∧(gi z.At n).tdiv 8≤255:=by
   rw [Int.tdiv_eq_ediv_of_nonneg hu.1];omega
  rw [Z2 (by omega),itn,Zjx (by omega),Z2 ⟨by omega,by constructor<;>omega⟩,e1,obs];dsimp only
  cases m with
  | false =>
   rw [if_pos (by decide),Z2 (by simp;omega),Zai (by omega)];refine ⟨_,rfl,⟨by omega,h2.app ?_ (e2 rfl),by simp;omega⟩,by dsimp only;omega⟩;have a1:=Int.tmod_nonneg 8 hu.1;have a2:=Int.tmod_lt_of_pos (gi z.At n) (show (0:Int)<8 by omega);have a3:=Int.tmod_nonneg 8 hdv.1;have a4:=Int.tmod_lt_of_pos ((gi z.At n).tdiv 8) (show (0:Int)<8 by omega);exact ⟨a1,a2,a3,a4⟩
  | true =>
   rw [if_neg (by decide),Zai (by omega)];exact ⟨_,rfl,⟨by dsimp only;omega,h2,h3⟩,by dsimp only;omega⟩
 ·right;rw [if_neg c];exact ⟨_,rfl,h2,h3⟩
structure Made (l:List Za) (at_:List Zl):Prop where
 pts:Pts at_
 len:l.length=at_.length
 ck:Ck l
 near:∀ v e,v<l.length→e<2→nx l v e=-1∨Zdz at_ v e at_.length (nx l v e)
 own:∀ v e,v<l.length→e<4→-2≤ow l v e∧ow l v e≤1000
 nc:NX at_ l
structure OkZ (z:zH):Prop where
 a:z.At.length≤9223372036854775807
 b:∀ y∈z.At,Wf .u8 y
 o:∀ y∈z.Own,Wf .i8 y
theorem Zqn {z:zH}{most:Int}(hz:OkZ z) (hm:0≤most∧most≤1000):∃ l at_,ZH z most=some (l,at_)∧Made l at_∧(l.length:Int)≤most:=by
 obtain ⟨a,h1,hp,hl⟩:=Zpf hm hz.a hz.b;have hM:Mk a (List.replicate a.length noC) 0 0:=⟨by simp,Ck.new _,fun v e hv he=>.inl (by
   have:gi (List.replicate a.length noC) v=noC:=by rw [Zaz hv];simp
   unfold nx;rw [this]
   match e,he with
   | 0,_|1,_=>rfl),fun v e hv he=>by
   have:gi (List.replicate a.length noC) v=noC:=by rw [Zaz hv];simp
   unfold ow;rw [this]
   match e,he with
   | 0,_|1,_|2,_|3,_=>decide,fun v b hv hb h0=>by
   exfalso;have:gi (List.replicate a.length noC) v=noC:=by rw [Zaz hv];simp
   unfold nx at h0;rw [this] at h0;exact absurd h0 (by decide)⟩
 obtain ⟨⟨a',l⟩,h2,h3,h4⟩:=Zph (z:=z) hp (by omega) hz.o hM;dsimp only at h3 h4;subst h3;refine ⟨l,a',?_,⟨hp,h4.len,h4.ck,fun v e hv he=>(h4.near v e hv he).imp id (·.2),h4.own,h4.nc⟩,by rw [h4.len];exact hl⟩;unfold ZH;rw [h1,obs,ZqM (by omega),obs,h2,obs]
end Mu
/- Layer 10: check. -/
namespace Mu

def ZfK (l:List Za) (v d:Nat):Int :=
 if nx l v d=-1 then (if ow l v d=0 then 0 else 9)
 else if nx l v d<0∨(l.length:Int)≤nx l v d∨nx l v d=v then 3
 else if nx l (nx l v d).toNat ((d+2)%4)=v∧ow l (nx l v d).toNat ((d+2)%4)=ow l v d∧¬ ow l v d < -2 then 0 else 9
theorem Zor {d:Nat}(hd:d<4):Zbi d 2=some (((d+2)%4:Nat):Int):=by
 match d,hd with
 | 0,_|1,_|2,_|3,_=>decide
theorem Zqq {l:List Za}{v d:Nat}(hv:v<l.length) (hd:d<4):ZcJ l v d=some (ZfK l v d):=by
 unfold ZcJ ZfK;have e:((gi l v).Next).get (d:Int)=nx l v d:=rfl;have e2:((gi l v).Owner).get (d:Int)=ow l v d:=rfl;rw [Z2 (by omega),Z2 (by omega),itn,e,e2];by_cases c:nx l v d=-1
 ·rw [zb c,if_pos c];by_cases c2:ow l v d=0
  ·rw [Zcy c2,if_pos c2]
  ·rw [Zdj c2,if_neg c2]
 ·rw [ZW c,if_neg c];by_cases c2:nx l v d<0∨(l.length:Int)≤nx l v d∨nx l v d=v
  ·rw [if_pos c2,if_pos (by simpa [or_assoc] using c2)]
  ·rw [if_neg c2,if_neg (by simpa [or_assoc] using c2),Zor hd,obs,Z2 (by omega),Z2 (by omega)];have e3:((gi l (nx l v d).toNat).Next).get (((d+2)%4:Nat):Int)=nx l (nx l v d).toNat ((d+2)%4):=rfl;have e4:((gi l (nx l v d).toNat).Owner).get (((d+2)%4:Nat):Int)=ow l (nx l v d).toNat ((d+2)%4):=rfl;rw [e3,e4];by_cases q1:nx l (nx l v d).toNat ((d+2)%4)=v<;>by_cases q2:ow l (nx l v d).toNat ((d+2)%4)=ow l v d<;>by_cases q3:ow l v d < -2<;>simp [q1,q2,q3]
def Zjf (l:List Za) (v:Nat):Int:=match (List.range 4).find? (fun d=>decide (ZfK l v d≠0)) with|some d=>ZfK l v d|none=>0
def Zfe (l:List Za):Int:=if 4096<l.length then 6 else match (List.range l.length).find? (fun v=>decide (Zjf l v≠0)) with|some v=>Zjf l v|none=>0
theorem Zis {n:Nat}{f:Nat→Int}:(match (List.range n).find? (fun d=>decide (f d≠0)) with|some d=>f d|none=>0)=0↔∀ d,d<n→f d=0:=by
 cases h:(List.range n).find? (fun d=>decide (f d≠0)) with
 | none =>
  rw [List.find?_range_eq_none] at h;simp only [true_iff];intro d hd;have:=h d hd;simpa using this
 | some j =>
  rw [List.find?_range_eq_some] at h;have h1:f j≠0:=by simpa using h.1
  have h2:j<n:=by simpa using h.2.1
  constructor
  ·intro h3;exact absurd h3 h1
  ·intro h3;exact h3 j h2
theorem Zi5 {l:List Za}{v:Nat}:Zjf l v=0↔∀ d,d<4→ZfK l v d=0:=Zis
theorem Zln {l:List Za}:Zfe l=0↔l.length≤4096∧∀ v,v<l.length→∀ d,d<4→ZfK l v d=0:=by
 unfold Zfe;by_cases c:4096<l.length
 ·rw [if_pos c];constructor
  ·intro h;omega
  ·intro h;omega
 ·rw [if_neg c,Zis];constructor
  ·intro h;exact ⟨by omega,fun v hv=>Zi5.1 (h v hv)⟩
  ·intro h v hv;exact Zi5.2 (h.2 v hv)
theorem ZhS {l:List Za}{v d:Nat}:ZfK l v d=0↔(nx l v d=-1∧ow l v d=0)∨∃ w:Nat,nx l v d=w∧w<l.length∧w≠v∧nx l w ((d+2)%4)=v∧ow l w ((d+2)%4)=ow l v d∧-2≤ow l v d:=by
 unfold ZfK;by_cases c:nx l v d=-1
 ·rw [if_pos c];by_cases c2:ow l v d=0
  ·simp [c,c2]
  ·rw [if_neg c2];constructor
   ·intro h;omega
   ·rintro (⟨_,h⟩|⟨w,h,_⟩)
    ·exact absurd h c2
    ·omega
 ·rw [if_neg c];by_cases c2:nx l v d<0∨(l.length:Int)≤nx l v d∨nx l v d=v
  ·rw [if_pos c2];constructor
   ·intro h;omega
   ·rintro (⟨h,_⟩|⟨w,h,h1,h2,_⟩)
    ·exact absurd h c
    ·omega
  ·rw [if_neg c2];constructor
   ·intro h;split at h
    ·rename_i q;exact .inr ⟨(nx l v d).toNat,by omega,by omega,by omega,q.1,q.2.1,by omega⟩
    ·omega
   ·rintro (⟨h,_⟩|⟨w,h,h1,h2,h3,h4,h5⟩)
    ·exact absurd h c
    ·have:(nx l v d).toNat=w:=by omega
     rw [this,if_pos ⟨h3,h4,by omega⟩]
theorem ZeG {l:List Za}:Zfe l=0↔l.length≤4096∧Ck l:=by
 rw [Zln];constructor
 ·intro h;exact ⟨h.1,⟨fun v d hv hd=>ZhS.1 (h.2 v hv d hd)⟩⟩
 ·intro h;exact ⟨h.1,fun v hv d hd=>ZhS.2 (h.2.s v d hv hd)⟩
theorem Zmt {n:Nat}{f:Nat→Int}:((match (List.range n).find? (fun d=>decide (f d≠0)) with|some d=>(.inr (f d):Unit⊕Int)|none=>.inl ()))=if (match (List.range n).find? (fun d=>decide (f d≠0)) with|some d=>f d|none=>0)=0 then .inl () else .inr (match (List.range n).find? (fun d=>decide (f d≠0)) with|some d=>f d|none=>0):=by
 cases h:(List.range n).find? (fun d=>decide (f d≠0)) with
 | none=>simp
 | some j =>
  rw [List.find?_range_eq_some] at h;have h1:f j≠0:=by simpa using h.1
  rw [if_neg h1]
theorem ZqO {l:List Za}{v:Nat}(hv:v<l.length):ZX (zL.s1 l v) big 0=some (if Zjf l v=0 then .inl () else .inr (Zjf l v)):=by
 have h:ZX (zL.s1 l v) big 0=some (match (List.range 4).find? (fun d=>decide (ZfK l v d≠0)) with|some d=>.inr (ZfK l v d)|none=>.inl ()):=by
  refine ZdG (ZaK (by omega)) (fun d hd=>?_) ?_
  ·simp only [zL.s1];rw [zb (by omega),Zqq hv hd,obs];by_cases c:ZfK l v d=0
   ·rw [Zcy c,if_neg (by simpa using c),Zai (by omega)]
   ·rw [Zdj c,if_pos (by simpa using c)]
  ·simp only [zL.s1];rw [ZW (by omega)]
 rw [h,Zmt];rfl
theorem ZhI {l:List Za}(hl:l.length≤1000000000000):zL l=some (Zfe l):=by
 unfold zL Zfe;by_cases c:4096<l.length
 ·rw [if_pos c,zb (by omega)]
 ·rw [if_neg c,ZW (by omega)];have h:ZX (zL.s0 l) big 0=some (match (List.range l.length).find? (fun v=>decide (Zjf l v≠0)) with|some v=>.inr (Zjf l v)|none=>.inl ()):=by
   refine ZdG (ZaK (by omega)) (fun v hv=>?_) ?_
   ·simp only [zL.s0];rw [zb (by omega),ZqO hv,obs];by_cases c:Zjf l v=0
    ·rw [if_pos c,if_neg (by simpa using c)];dsimp only;rw [Zai (by omega)]
    ·rw [if_neg c,if_pos (by simpa using c)]
   ·simp only [zL.s0];rw [ZW (by omega)]
  rw [h];cases (List.range l.length).find? (fun v=>decide (Zjf l v≠0))<;>simp
end Mu
/- Layer 10: a grid's cells,played with. -/
namespace Mu
theorem Zpt {d:Nat}(h:d<4):noC.Next.get (d:Int)=-1∧noC.Owner.get (d:Int)=0:=by
 match d,h with
 | 0,_|1,_|2,_|3,_=>exact ⟨rfl,rfl⟩
end Mu
/- Layer 10: a split edge. -/
namespace Mu
def spl (l:List Za) (v d w:Nat) (o:Int):List Za:=wth (wth (l++[noC]) v d l.length o) l.length d w o
end Mu
/- Layer 12: faces,in the code and in the document,are the same walk. -/
namespace Mu
abbrev Da:=Nat×Nat
def dt (p:Da):Z4:=⟨p.1,p.2⟩
def isD (l:List Za) (p:Da):Prop:=p.1<l.length∧p.2<4∧0≤nx l p.1 p.2
instance {l:List Za}{p:Da}:Decidable (isD l p):=by unfold isD;infer_instance
def bh (l:List Za) (p:Da):Da :=
 if 0≤nx l (nx l p.1 p.2).toNat ((p.2+1)%4) then ((nx l p.1 p.2).toNat,(p.2+1)%4)
 else if 0≤nx l (nx l p.1 p.2).toNat p.2 then ((nx l p.1 p.2).toNat,p.2)
 else if 0≤nx l (nx l p.1 p.2).toNat ((p.2+3)%4) then ((nx l p.1 p.2).toNat,(p.2+3)%4)
 else ((nx l p.1 p.2).toNat,(p.2+2)%4)
theorem isD.fwd {l:List Za}(hc:Ck l) {p:Da}(h:isD l p):(nx l p.1 p.2).toNat<l.length∧nx l (nx l p.1 p.2).toNat ((p.2+2)%4)=p.1:=by
 rcases hc.s p.1 p.2 h.1 h.2.1 with ⟨a,_⟩|⟨w,a,b,_,c,_⟩
 ·have:=h.2.2;omega
 ·rw [a,itn];exact ⟨b,c⟩
theorem isD.bh {l:List Za}(hc:Ck l) {p:Da}(h:isD l p):isD l (bh l p):=by
 have f:=h.fwd hc;have:=h.2.1;unfold Mu.bh;split
 ·rename_i c;exact ⟨f.1,by dsimp only;omega,c⟩
 ·split
  ·rename_i c;exact ⟨f.1,by dsimp only;omega,c⟩
  ·split
   ·rename_i c;exact ⟨f.1,by dsimp only;omega,c⟩
   ·exact ⟨f.1,by dsimp only;omega,by dsimp only;rw [f.2];omega⟩
theorem Zqi {l:List Za}{v d:Int}:Zbj ⟨v,d⟩ l=some (decide (0≤v∧v<l.length∧0≤d∧d<4∧0≤nx l v.toNat d.toNat)):=by
 unfold Zbj Zbh;dsimp only;by_cases c1:0≤v
 ·rw [zb c1];by_cases c2:v<l.length
  ·rw [zb c2,obs];by_cases c3:0≤d∧d≤3
   ·rw [if_pos (by simp [c3]),Z2 (by omega),Z2 (by omega)];have:(gi l v.toNat).Next.get d=nx l v.toNat d.toNat:=by unfold nx;rw [show ((d.toNat:Nat):Int)=d by omega]
    rw [this];congr 1;rw [Bool.eq_iff_iff];simp only [decide_eq_true_eq];omega
   ·rw [if_neg (by simp;omega),ZeE];omega
  ·rw [ZW c2,ZeE];omega
 ·rw [ZW c1,ZeE];omega
theorem Zql {l:List Za}{p:Da}:Zbj (dt p) l=some (decide (isD l p)):=by
 unfold dt;rw [Zqi];congr 1;rw [Bool.eq_iff_iff];simp only [decide_eq_true_eq,itn];unfold isD;omega
theorem ZiU {d:Nat}(hd:d<4) {t:Int}(ht:t=1∨t=0∨t=-1∨t=2):Zbi d t=some (if t=1 then (((d+1)%4:Nat):Int) else if t=0 then (d:Int) else if t=-1 then (((d+3)%4:Nat):Int) else (((d+2)%4:Nat):Int)):=by
 have:d=0∨d=1∨d=2∨d=3:=by omega
 rcases this with rfl|rfl|rfl|rfl<;>rcases ht with rfl|rfl|rfl|rfl<;>rfl
theorem Zqh {ρ:Type}{F:Int→Option (Int⊕ρ)}{c0 c1 c2:Prop} [Decidable c0] [Decidable c1] [Decidable c2] {r0 r1 r2 r3:ρ}(s0:F ((0:Nat):Int)=some (if c0 then .inr r0 else .inl (((0:Nat):Int)+1))) (s1:F ((1:Nat):Int)=some (if c1 then .inr r1 else .inl (((1:Nat):Int)+1))) (s2:F ((2:Nat):Int)=some (if c2 then .inr r2 else .inl (((2:Nat):Int)+1))) (s3:F ((3:Nat):Int)=some (.inr r3)):ZX F big 0=some (if c0 then r0 else if c1 then r1 else if c2 then r2 else r3):=by
 refine ZdZ (n:=4) ?_ (by unfold big;omega);replace s0:F 0=some (if c0 then .inr r0 else .inl 1):=s0;replace s1:F 1=some (if c1 then .inr r1 else .inl 2):=s1;replace s2:F 2=some (if c2 then .inr r2 else .inl 3):=s2;replace s3:F 3=some (.inr r3):=s3;rw [ZX,s0];by_cases h0:c0
 ·rw [if_pos h0,if_pos h0]
 ·rw [if_neg h0,if_neg h0];dsimp only;rw [ZX,s1];by_cases h1:c1
  ·rw [if_pos h1,if_pos h1]
  ·rw [if_neg h1,if_neg h1];dsimp only;rw [ZX,s2];by_cases h2:c2
   ·rw [if_pos h2,if_pos h2]
   ·rw [if_neg h2,if_neg h2];dsimp only;rw [ZX,s3]
theorem ZkK {l:List Za}(hc:Ck l) {p:Da}(h:isD l p):Zab (dt p) l=some (dt (bh l p)):=by
 have f:=h.fwd hc;obtain ⟨h1,h2,h3⟩:=h;have e:((gi l p.1).Next).get (p.2:Int)=nx l p.1 p.2:=rfl;have st:∀ (k:Nat) (d':Nat),k<4→d'<4→Zbi (p.2:Int) ((⟨1,0,(-1),2⟩:A4 Int).get k)=some (d':Int)→Zab.s0 (dt p) l (k:Int)=some (if 0≤nx l (nx l p.1 p.2).toNat d' then .inr (.inr (dt ((nx l p.1 p.2).toNat,d'))) else .inl ((k:Int)+1)):=by
  intro k d' hk hd hl;have i:=Zqi (l:=l) (v:=nx l p.1 p.2) (d:=d');simp only [Zab.s0,dt,itn,e];rw [zb (by omega),Z2 (by omega),hl,obs,i,obs];by_cases c:0≤nx l (nx l p.1 p.2).toNat d'
  ·rw [zb (by rw [itn];omega),if_pos c];congr 4;omega
  ·rw [ZW (by rw [itn];omega),Zai (by omega),if_neg c]
 have s0:=st 0 ((p.2+1)%4) (by omega) (by omega) ((ZiU h2 (.inl rfl)).trans rfl);have s1:=st 1 p.2 (by omega) h2 ((ZiU h2 (.inr (.inl rfl))).trans rfl);have s2:=st 2 ((p.2+3)%4) (by omega) (by omega) ((ZiU h2 (.inr (.inr (.inl rfl)))).trans rfl);have s3:=st 3 ((p.2+2)%4) (by omega) (by omega) ((ZiU h2 (.inr (.inr (.inr rfl)))).trans rfl);rw [if_pos (by rw [f.2];omega)] at s3;have L:ZX (Zab.s0 (dt p) l) big 0=some (.inr (dt (bh l p))):=by
  rw [Zqh s0 s1 s2 s3];unfold bh;by_cases c0:0≤nx l (nx l p.1 p.2).toNat ((p.2+1)%4)
  ·rw [if_pos c0,if_pos c0]
  ·rw [if_neg c0,if_neg c0];by_cases c1:0≤nx l (nx l p.1 p.2).toNat p.2
   ·rw [if_pos c1,if_pos c1]
   ·rw [if_neg c1,if_neg c1];by_cases c2:0≤nx l (nx l p.1 p.2).toNat ((p.2+3)%4)
    ·rw [if_pos c2,if_pos c2]
    ·rw [if_neg c2,if_neg c2]
 unfold Zab;rw [Z2 (by unfold dt;dsimp only;omega),Z2 (by unfold dt;dsimp only;omega),L,obs]
def walk (l:List Za):Nat→List Da→Da→List Da
 | 0,_,_=>[]
 | n+1,met,x=>if x∈met then [] else x::walk l n (met++[x]) (bh l x)
structure Mets (l:List Za) (met:List Da):Prop where
 nd:met.Nodup
 is:∀ p∈met,isD l p
theorem Mets.len {l:List Za}{met:List Da}(h:Mets l met):met.length≤4*l.length:=by
 have n:(met.map fun p=>4*p.1+p.2).Nodup:=by
  refine List.pairwise_map.2 (h.nd.imp_of_mem fun {p q} hp hq hne he=>hne ?_);have a:=h.is p hp;have b:=h.is q hq;unfold isD at a b;exact Prod.ext (by omega) (by omega)
 have:=n.length_le_of_subset (l₂:=List.range (4*l.length)) (fun x hx=>by
  obtain ⟨p,hp,rfl⟩:=List.mem_map.1 hx;have:=h.is p hp;unfold isD at this;exact List.mem_range.2 (by omega))
 simpa using this
theorem Mets.nil {l:List Za}:Mets l []:=⟨List.nodup_nil,by simp⟩
theorem Mets.snoc {l:List Za}{met:List Da}(h:Mets l met) {x:Da}(hx:isD l x) (hn:x ∉ met):Mets l (met++[x]):=by
 refine ⟨?_,fun p hp=>?_⟩
 ·rw [List.nodup_append];exact ⟨h.nd,by simp,fun a ha b hb e=>hn (by simp at hb;rw [← hb,← e];exact ha)⟩
 ·rcases List.mem_append.1 hp with q|q
  ·exact h.is p q
  ·simp at q;rw [q];exact hx
theorem Mets.walk {l:List Za}(hc:Ck l):∀ {n:Nat}{met:List Da}{x:Da},Mets l met→isD l x→Mets l (met++walk l n met x)
 | 0,met,x,h,hx=>by rw [Mu.walk,List.append_nil];exact h
 | n+1,met,x,h,hx=>by
  rw [Mu.walk];split
  ·rw [List.append_nil];exact h
  ·rename_i c;have:=Mets.walk hc (n:=n) (h.snoc hx c) (hx.bh hc);rwa [List.append_assoc] at this
theorem Zjn {l:List Za}(hc:Ck l):∀ {n:Nat}{met:List Da}{x:Da},isD l x→∀ p∈walk l n met x,isD l p
 | 0,_,_,_,p,hp=>by simp [walk] at hp
 | n+1,met,x,hx,p,hp=>by
  rw [walk] at hp;split at hp
  ·simp at hp
  ·rcases List.mem_cons.1 hp with rfl|hp
   ·exact hx
   ·exact Zjn hc (hx.bh hc) p hp
def mpD (met:List Da):List (Z4×Bool):=met.map fun p=>(dt p,true)
theorem Zmq {p q:Da}(h:dt p=dt q):p=q:=by
 unfold dt at h;injection h with a b
 exact Prod.ext (by omega) (by omega)
theorem ZiV {x:Da}:∀ {met:List Da},Zfy false (dt x) (mpD met)=decide (x∈met)
 | []=>rfl
 | p::met=>by
  show (if dt x=dt p then true else Zfy false (dt x) (mpD met))=_;by_cases c:x=p
  ·rw [if_pos (by rw [c]),ZcV (by simp [c])]
  ·rw [if_neg fun h=>c (Zmq h),ZiV];rw [Bool.eq_iff_iff];simp [c]
theorem ZnO {x:Da}{met:List Da}(h:x ∉ met):ZeW (dt x) true (mpD met)=mpD (met++[x]):=by
 have:∀ {m:List Da},x ∉ m→ZeW (dt x) true (mpD m)=mpD m++[(dt x,true)]:=by
  intro m
  induction m with
  | nil=>intro _;rfl
  | cons p m ih =>
   intro h;show (if dt x=dt p then _ else (dt p,true)::ZeW (dt x) true (mpD m))=_;rw [if_neg fun e=>h (by rw [Zmq e];simp),ih fun e=>h (by simp [e])];rfl
 rw [this h];unfold mpD;rw [List.map_append];rfl
theorem Zos {l:List Za}(hc:Ck l) (hl:l.length≤5000):∀ (n:Nat) (met:List Da) (f:List Z4) (x:Da),Mets l met→isD l x→4*l.length<met.length+n→f.length≤met.length→ZX (Zag.s2 l) n (mpD met,f,dt x)=some (mpD (met++walk l n met x),f++(walk l n met x).map dt)
 | 0,met,f,x,h,_,hn,_=>by have:=h.len;omega
 | n+1,met,f,x,h,hx,hn,hf=>by
  have ml:=h.len;rw [ZX,walk];simp only [Zag.s2];rw [ZiV];by_cases c:x∈met
  ·rw [Zcy c,if_pos c,List.append_nil,List.map_nil,List.append_nil]
  ·rw [Zdj c,Z2 (by simp;omega),ZkK hc hx,obs,if_neg c,ZnO c];dsimp only;rw [Zos hc hl n (met++[x]) (f++[dt x]) (bh l x) (h.snoc hx c) (hx.bh hc) (by simp;omega) (by simp;omega)];rw [List.append_assoc,List.append_assoc];rfl
def stF (l:List Za) (s:List Da×List (List Da)) (p:Da):List Da×List (List Da) :=
 if nx l p.1 p.2<0∨p∈s.1 then s else (s.1++walk l (4*l.length+1) s.1 p,s.2++[walk l (4*l.length+1) s.1 p])
def Zhk (l:List Za) (v:Nat) (s:List Da×List (List Da)):Nat→List Da×List (List Da)
 | 0=>s
 | e+1=>stF l (Zhk l v s e) (v,e)
def FS (l:List Za):Nat→List Da×List (List Da)
 | 0=>([],[])
 | v+1=>Zhk l v (FS l v) 4
def faces (l:List Za):List (List Da):=(FS l l.length).2
structure FI (l:List Za) (s:List Da×List (List Da)):Prop where
 m:Mets l s.1
 len:s.2.length≤s.1.length
 is:∀ f∈s.2,∀ p∈f,isD l p
 fl:s.2.flatten=s.1
theorem FI.st {l:List Za}(hc:Ck l) {s:List Da×List (List Da)}(h:FI l s) {p:Da}(h1:p.1<l.length) (h2:p.2<4):FI l (stF l s p):=by
 unfold stF;split
 ·exact h
 ·rename_i c;have hp:isD l p:=⟨h1,h2,by omega⟩;have hn:p ∉ s.1:=fun q=>c (.inr q);refine ⟨Mets.walk hc h.m hp,?_,?_,?_⟩
  ·dsimp only;rw [List.length_append,List.length_append,walk,if_neg hn];have:=h.len;simp;omega
  ·intro f hf q hq;rcases List.mem_append.1 hf with k|k
   ·exact h.is f k q hq
   ·simp at k;subst k;exact Zjn hc hp q hq
  ·dsimp only;rw [List.flatten_append,h.fl];simp
theorem FI.row {l:List Za}(hc:Ck l) {s:List Da×List (List Da)}(h:FI l s) {v:Nat}(hv:v<l.length):∀ e,e≤4→FI l (Zhk l v s e)
 | 0,_=>h
 | e+1,he=>(FI.row hc h hv e (by omega)).st hc hv (by dsimp only;omega)
theorem ZgR {l:List Za}(hc:Ck l):∀ v,v≤l.length→FI l (FS l v)
 | 0,_=>⟨Mets.nil,by simp [FS],by simp [FS],by simp [FS]⟩
 | v+1,hv=>(ZgR hc v (by omega)).row hc (by omega) 4 (by omega)
theorem ZnH {l:List Za}(hc:Ck l) (hl:l.length≤5000) {s:List Da×List (List Da)}(h:FI l s) {v e:Nat}(hv:v<l.length) (he:e<4):Zag.s1 l v (s.2.map (List.map dt),mpD s.1,(e:Int))=some (.inl ((stF l s (v,e)).2.map (List.map dt),mpD (stF l s (v,e)).1,(e:Int)+1)):=by
 have i:=Zql (l:=l) (p:=(v,e));have g:=ZiV (x:=(v,e)) (met:=s.1);unfold dt at i g;dsimp only at i g;have ml:=h.m.len;have sl:=h.len;simp only [Zag.s1];rw [zb (by omega),i,obs,g];unfold stF;dsimp only;by_cases c:nx l v e<0∨(v,e)∈s.1
 ·rw [if_pos c,if_pos,Zai (by omega)];rcases c with c|c
  ·rw [ZeE (show ¬ isD l (v,e) from fun q=>by have:=q.2.2;dsimp only at this;omega)];rfl
  ·rw [ZcV c,Bool.or_true]
 ·have hp:isD l (v,e):=⟨hv,he,by dsimp only;omega⟩;have hn:(v,e) ∉ s.1:=fun q=>c (.inr q);have W:=Zos hc hl (4*l.length+1) s.1 [] (v,e) h.m hp (by omega) (by simp);unfold dt at W;dsimp only at W;rw [if_neg c,if_neg (by rw [ZcV hp,ZeE hn];decide),ZdZ W (by unfold big;omega),obs];dsimp only;rw [Z2 (by rw [List.length_map];omega),Zai (by omega),List.map_append];rfl
theorem Zpd {l:List Za}(hl:l.length≤4096) (h:Zfe l=0):Zag l=some ((faces l).map (List.map dt),0):=by
 have hc:=(ZeG.1 h).2;have row:∀ v,v<l.length→ZX (Zag.s1 l v) big ((FS l v).2.map (List.map dt),mpD (FS l v).1,0)=some ((FS l (v+1)).2.map (List.map dt),mpD (FS l (v+1)).1):=by
  intro v hv;refine Zbv (fun e:Nat=>((Zhk l v (FS l v) e).2.map (List.map dt),mpD (Zhk l v (FS l v) e).1,(e:Int))) (n:=4) (ZaK (by omega)) rfl (fun e he=>?_) ?_
  ·rw [ZnH hc (by omega) ((ZgR hc v (by omega)).row hc hv e (by omega)) hv he];rfl
  ·simp only [Zag.s1];rw [ZW (by omega)];rfl
 unfold Zag;rw [ZhI (by omega),obs,Zcy h,Zio (x:=(faces l).map (List.map dt))];refine Zbv (fun v:Nat=>((FS l v).2.map (List.map dt),mpD (FS l v).1,(v:Int))) (n:=l.length) (ZaK (by omega)) rfl (fun v hv=>?_) ?_
 ·simp only [Zag.s0];rw [zb (by omega),row v hv,obs];dsimp only;rw [Zai (by omega),show ((v+1:Nat):Int)=(v:Int)+1 by omega]
 ·simp only [Zag.s0];rw [ZW (by omega)];rfl
end Mu
/- Layer 13: what hangs together,by steps. -/
namespace Mu

theorem Zkd {α:Type} [Inhabited α] {l:List α}{n i:Nat}(h:i<n):gi (l.take n) i=gi l i:=by
 unfold gi;simp [List.getElem?_take,h]
theorem Zqo {n:Nat}(h:n≤1300):Zdm 1 n=some (0,(n:Int)):=by
 have key:∀ n:Fin 1301,Zdm 1 ((n:Nat):Int)=some (0,((n:Nat):Int)):=by decide +kernel
 exact key ⟨n,by omega⟩
theorem ZkM {n:Nat}(h:n≤1300):zM [-1] n=some (List.replicate n (-1)):=by
 have L:∃ r,ZX zM.s0 big (([-1]:List Int).take (List.replicate n (0:Int)).length++(List.replicate n (0:Int)).drop ([-1]:List Int).length,((min ([-1]:List Int).length (List.replicate n (0:Int)).length:Nat):Int))=some r∧(r.length=n∧∀ i,i<n→gi r i=-1):=by
  refine ZeU (μ:=fun s=>((n:Int)-s.2).toNat) (I:=fun s=>s.1.length=n∧(0≤s.2∧s.2≤(n:Int))∧(0<n→0<s.2)∧∀ i:Nat,(i:Int)<s.2→gi s.1 i=-1) (by dsimp only;unfold big;omega) ?_ ?_
  ·cases n with
   | zero=>exact ⟨rfl,by simp,by simp,fun i hi=>by simp at hi;omega⟩
   | succ n =>
    refine ⟨by simp,by simp;omega,fun _=>by simp,fun i hi=>?_⟩;have:i=0:=by simp at hi;omega
    subst this;rfl
  ·rintro ⟨x,m⟩ ⟨h1,h2,h3,h4⟩;dsimp only at h1 h2 h3 h4 ⊢;obtain ⟨k,rfl⟩:=Int.eq_ofNat_of_zero_le h2.1;simp only [zM.s0,itn];by_cases c:(k:Int)<(x.length:Int)
   ·refine .inl ?_;have t1:(x.take k).length=k:=by rw [List.length_take];omega
    have t2:(x.drop k).length=n-k:=by rw [List.length_drop];omega
    rw [zb c,Z2 (by omega),Zai (by omega),t1,t2];refine ⟨_,rfl,⟨by simp;omega,by dsimp only;omega,fun _=>by dsimp only;omega,fun i hi=>?_⟩,by dsimp only;omega⟩;dsimp only at hi ⊢;by_cases q:i<k
    ·rw [Zc1 (by rw [t1];exact q),Zkd q];exact h4 i (by omega)
    ·have e:i=(x.take k).length+(i-k):=by rw [t1];omega
     rw [e,Zcc,Zc1 (by rw [List.length_take,t1];omega),Zkd (by omega),Zkd (by omega)];exact h4 _ (by omega)
   ·refine .inr ?_;rw [ZW c];exact ⟨_,rfl,h1,fun i hi=>h4 i (by omega)⟩
 obtain ⟨r,e1,e2,e3⟩:=L;have er:r=List.replicate n (-1):=Zd3 (by simp [e2]) fun i hi=>by
  rw [e3 i (by omega),Zaz (by simp;omega)];simp
 unfold zM;rw [ZW (by omega),obs,Z2 (show inK .u64 (([-1]:List Int).length:Int) by decide),Z2 (show inK .u64 (n:Int) from by
  simp only [inK,Go.IntKind.wrap,Go.IntKind.bits,Go.IntKind.signed];simp;omega),show (([-1]:List Int).length:Int)=1 from rfl,Zqo h,obs]
 dsimp only;rw [if_neg (by simp;omega),obs,Zjx (by omega),Z2 (by omega),itn,e1,obs,er]

def Adj (l:List Za) (a b:Nat):Prop:=∃ d,d<4∧nx l a d=b
inductive Rch (l:List Za) (v:Nat):Nat→Nat→Prop
 | zero:Rch l v 0 v
 | succ {n a b}:Rch l v n a→Adj l a b→Rch l v (n+1) b
theorem Adj.lt {l:List Za}(h:Ck l) {a b:Nat}(ha:a<l.length) (hab:Adj l a b):b<l.length:=by
 obtain ⟨d,hd,e⟩:=hab;have:=h.lt ha hd;omega
theorem Adj.symm {l:List Za}(h:Ck l) {a b:Nat}(ha:a<l.length) (hab:Adj l a b):Adj l b a:=by
 obtain ⟨d,hd,e⟩:=hab;rcases h.s a d ha hd with ⟨e2,_⟩|⟨w,e2,_,_,e3,_⟩
 ·omega
 ·have:w=b:=by omega
  subst this;exact ⟨(d+2)%4,by omega,e3⟩
theorem Rch.lt {l:List Za}(h:Ck l) {v n w:Nat}(hv:v<l.length) (hr:Rch l v n w):w<l.length:=by
 induction hr with
 | zero=>exact hv
 | succ _ hab ih=>exact hab.lt h ih
theorem Rch.trans {l:List Za}{a b c n m:Nat}(h1:Rch l a n b) (h2:Rch l b m c):Rch l a (n+m) c:=by
 induction h2 with
 | zero=>exact h1
 | succ _ hab ih=>exact .succ ih hab
theorem Rch.symm {l:List Za}(h:Ck l) {v n w:Nat}(hv:v<l.length) (hr:Rch l v n w):Rch l w n v:=by
 induction hr with
 | zero=>exact .zero
 | succ hr hab ih =>
  have ha:=hr.lt h hv;have:=(Rch.succ .zero (hab.symm h ha)).trans ih;rw [Nat.zero_add,Nat.add_comm] at this;exact this
def Dist (l:List Za) (v w n:Nat):Prop:=Rch l v n w∧∀ m,Rch l v m w→n≤m
theorem Dist.uniq {l:List Za}{v w n m:Nat}(h1:Dist l v w n) (h2:Dist l v w m):n=m:=by
 have:=h1.2 m h2.1;have:=h2.2 n h1.1;omega
theorem Rch.dist {l:List Za}{v w n:Nat}(h:Rch l v n w):∃ m,m≤n∧Dist l v w m:=by
 induction n using Nat.strongRecOn with
 | _ n ih =>
  by_cases c:∃ m,m<n∧Rch l v m w
  ·obtain ⟨m,hm,hr⟩:=c;obtain ⟨k,hk,hd⟩:=ih m hm hr;exact ⟨k,by omega,hd⟩
  ·refine ⟨n,Nat.le_refl _,h,fun m hm=>?_⟩;by_cases q:n≤m
   ·exact q
   ·exact absurd ⟨m,by omega,hm⟩ c
theorem Zkv:∀ {n m:Nat}(f:Nat→Nat),(∀ i,i<n→f i<m)→(∀ i j,i<n→j<n→f i=f j→i=j)→n≤m
 | 0,m,f,_,_=>Nat.zero_le _
 | n+1,0,f,h,_=>absurd (h 0 (by omega)) (by omega)
 | n+1,m+1,f,h,hi=>by
  have:=Zkv (n:=n) (m:=m) (fun i=>if f i=m then f n else f i) (fun i hi'=>by
   by_cases c:f i=m
   ·rw [if_pos c];have:=h n (by omega);by_cases c2:f n=m
    ·have:=hi i n (by omega) (by omega) (by omega);omega
    ·omega
   ·rw [if_neg c];have:=h i (by omega);omega) (fun i j hi' hj' e=>by
   by_cases c:f i=m<;>by_cases c2:f j=m
   ·exact hi i j (by omega) (by omega) (by omega)
   ·rw [if_pos c,if_neg c2] at e;have:=hi n j (by omega) (by omega) e;omega
   ·rw [if_neg c,if_pos c2] at e;have:=hi i n (by omega) (by omega) e;omega
   ·rw [if_neg c,if_neg c2] at e;exact hi i j (by omega) (by omega) e)
  omega
end Mu
/- Layer 13: spread. -/
namespace Mu

theorem ZfD:∀ {m:List Bool}{w:Nat},w<m.length→gi m w=false→(m.set w true).count false+1=m.count false
 | [],w,h,_=>by simp at h
 | b::m,0,_,hf=>by
  have:b=false:=hf;subst this;simp
 | b::m,w+1,h,hf=>by
  have:=ZfD (m:=m) (w:=w) (by simpa using h) hf;cases b<;>simp [List.count_cons]<;>omega
structure Sb (l:List Za) (v:Nat) (δ:Nat→Nat) (fr dr:List Int) (mt:List Bool):Prop where
 lf:fr.length=l.length
 ld:dr.length=l.length
 lm:mt.length=l.length
 mv:gi mt v=true
 dv:δ v=0
 rc:∀ a,gi mt a=true→Rch l v (δ a) a
 fm:∀ a,gi mt a=true→a≠v→∃ p d:Nat,gi fr a=p∧gi dr a=d∧d<4∧gi mt p=true∧nx l p d=a∧δ a=δ p+1
 un:∀ a,a<l.length→gi mt a=false→gi dr a=-1
structure So (l:List Za) (v:Nat) (δ:Nat→Nat) (q:List Int) (mt:List Bool):Prop where
 el:∀ x∈q,∃ a:Nat,x=a∧a<l.length∧gi mt a=true
 so:q.Pairwise fun x y=>δ x.toNat≤δ y.toNat∧δ y.toNat≤δ x.toNat+1
 pr:∀ a:Nat,gi mt a=true→(a:Int) ∉ q→(∀ x∈q,δ a≤δ x.toNat)∧∀ b,Adj l a b→gi mt b=true∧δ b≤δ a+1
structure Si (l:List Za) (v h:Nat) (δ:Nat→Nat) (q:List Int) (mt:List Bool) (d:Nat):Prop where
 hm:gi mt h=true
 el:∀ x∈q,∃ a:Nat,x=a∧a<l.length∧gi mt a=true∧δ h≤δ a∧δ a≤δ h+1
 so:q.Pairwise fun x y=>δ x.toNat≤δ y.toNat
 pr:∀ a:Nat,gi mt a=true→(a:Int) ∉ q→a≠h→δ a≤δ h∧∀ b,Adj l a b→gi mt b=true∧δ b≤δ a+1
 hd:∀ e,e<d→∀ b:Nat,nx l h e=b→gi mt b=true∧δ b≤δ h+1
theorem So.open {l:List Za}{v h:Nat}{δ:Nat→Nat}{t:List Int}{mt:List Bool}(s:So l v δ ((h:Int)::t) mt):Si l v h δ t mt 0:=by
 have hs:=List.pairwise_cons.1 s.so;refine ⟨?_,fun x hx=>?_,hs.2.imp (fun h=>h.1),fun a ha hn hne=>?_,fun e he=>by omega⟩
 ·obtain ⟨a,e,_,hh⟩:=s.el _ List.mem_cons_self;obtain rfl:h=a:=by omega
  exact hh
 ·obtain ⟨a,e,h1,h2⟩:=s.el x (List.mem_cons_of_mem _ hx);have:=hs.1 x hx;subst e;exact ⟨a,rfl,h1,h2,by simpa using this.1,by simpa using this.2⟩
 ·have:=s.pr a ha (by
   rw [List.mem_cons];rintro (h|h)
   ·omega
   ·exact hn h)
  exact ⟨by simpa using this.1 _ List.mem_cons_self,this.2⟩
theorem Si.close {l:List Za}{v h:Nat}{δ:Nat→Nat}{t:List Int}{mt:List Bool}(s:Si l v h δ t mt 4):So l v δ t mt:=by
 have b:∀ x∈t,δ h≤δ x.toNat∧δ x.toNat≤δ h+1:=by
  intro x hx;obtain ⟨a,rfl,_,_,h1,h2⟩:=s.el x hx;exact ⟨h1,h2⟩
 refine ⟨fun x hx=>?_,?_,fun a ha hn=>?_⟩
 ·obtain ⟨a,e,h1,h2,_⟩:=s.el x hx;exact ⟨a,e,h1,h2⟩
 ·refine List.Pairwise.imp_of_mem ?_ s.so;intro x y hx hy hxy;have:=b x hx;have:=b y hy;exact ⟨hxy,by omega⟩
 ·by_cases c:a=h
  ·subst c;refine ⟨fun x hx=>(b x hx).1,?_⟩;rintro w ⟨d,hd,e⟩;exact s.hd d hd w e
  ·have:=s.pr a ha hn c;refine ⟨fun x hx=>?_,this.2⟩;have:=b x hx;omega
theorem Sb.meet {l:List Za}(hc:Ck l) {v h d w:Nat}{δ:Nat→Nat}{fr dr:List Int}{mt:List Bool}(s:Sb l v δ fr dr mt) (hm:gi mt h=true) (hd:d<4) (hw:nx l h d=w) (hwl:w<l.length) (hu:gi mt w=false) :
  Sb l v (fun a=>if a=w then δ h+1 else δ a) (fr.set w h) (dr.set w d) (mt.set w true):=by
 have gm:∀ a,gi (mt.set w true) a=if a=w then true else gi mt a:=fun a=>Zcg (by rw [s.lm];exact hwl);have gf:∀ a,gi (fr.set w (h:Int)) a=if a=w then (h:Int) else gi fr a:=fun a=>Zcg (by rw [s.lf];exact hwl);have gd:∀ a,gi (dr.set w (d:Int)) a=if a=w then (d:Int) else gi dr a:=fun a=>Zcg (by rw [s.ld];exact hwl);have hwh:h≠w:=by rintro rfl;rw [hm] at hu;cases hu
 have hwv:v≠w:=by rintro rfl;rw [s.mv] at hu;cases hu
 have old:∀ a,gi mt a=true→a≠w:=by rintro a ha rfl;rw [ha] at hu;cases hu
 refine ⟨by simpa using s.lf,by simpa using s.ld,by simpa using s.lm,?_,?_,fun a ha=>?_,fun a ha hav=>?_,fun a ha hau=>?_⟩
 ·rw [gm,s.mv];simp
 ·rw [if_neg hwv];exact s.dv
 ·by_cases c:a=w
  ·subst c;rw [if_pos rfl];exact .succ (s.rc h hm) ⟨d,hd,hw⟩
  ·rw [if_neg c];rw [gm,if_neg c] at ha;exact s.rc a ha
 ·by_cases c:a=w
  ·subst c;refine ⟨h,d,by rw [gf,if_pos rfl],by rw [gd,if_pos rfl],hd,by rw [gm,hm];simp,hw,?_⟩;rw [if_pos rfl,if_neg hwh]
  ·rw [gm,if_neg c] at ha;obtain ⟨p,e,h1,h2,h3,h4,h5,h6⟩:=s.fm a ha hav;refine ⟨p,e,by rw [gf,if_neg c];exact h1,by rw [gd,if_neg c];exact h2,h3,by rw [gm,h4];simp,h5,?_⟩;rw [if_neg c,if_neg (old p h4)];exact h6
 ·rw [gm] at hau;by_cases c:a=w
  ·rw [if_pos c] at hau;cases hau
  ·rw [if_neg c] at hau;rw [gd,if_neg c];exact s.un a ha hau
theorem Si.meet {l:List Za}{v h d w:Nat}{δ:Nat→Nat}{q:List Int}{mt:List Bool}(lm:mt.length=l.length) (s:Si l v h δ q mt d) (hw:nx l h d=w) (hwl:w<l.length) (hu:gi mt w=false) :
  Si l v h (fun a=>if a=w then δ h+1 else δ a) (q++[(w:Int)]) (mt.set w true) (d+1):=by
 have gm:∀ a,gi (mt.set w true) a=if a=w then true else gi mt a:=fun a=>Zcg (by rw [lm];exact hwl);have old:∀ a,gi mt a=true→a≠w:=by rintro a ha rfl;rw [ha] at hu;cases hu
 have hwh:h≠w:=old h s.hm;have keep:∀ a,gi mt a=true→gi (mt.set w true) a=true:=fun a ha=>by rw [gm,ha];simp
 refine ⟨keep h s.hm,fun x hx=>?_,?_,fun a ha hn hne=>?_,fun e he b hb=>?_⟩
 ·rw [List.mem_append,List.mem_singleton] at hx;rw [if_neg hwh];rcases hx with hx|rfl
  ·obtain ⟨a,e,h1,h2,h3,h4⟩:=s.el x hx;exact ⟨a,e,h1,keep a h2,by rw [if_neg (old a h2)];exact h3,by rw [if_neg (old a h2)];exact h4⟩
  ·exact ⟨w,rfl,hwl,by rw [gm,if_pos rfl],by rw [if_pos rfl];omega,by rw [if_pos rfl];omega⟩
 ·rw [List.pairwise_append];refine ⟨List.Pairwise.imp_of_mem ?_ s.so,List.pairwise_singleton _ _,fun x hx y hy=>?_⟩
  ·intro x y hx hy hxy;obtain ⟨a,rfl,h1,h2,h3,h4⟩:=s.el x hx;obtain ⟨b,rfl,k1,k2,k3,k4⟩:=s.el y hy;simp only [itn] at hxy ⊢;rw [if_neg (old a h2),if_neg (old b k2)];exact hxy
  ·rw [List.mem_singleton] at hy;subst hy;obtain ⟨a,rfl,h1,h2,h3,h4⟩:=s.el x hx;simp only [itn];rw [if_neg (old a h2)];simpa using h4
 ·rw [List.mem_append,List.mem_singleton] at hn;have haw:a≠w:=fun c=>hn (.inr (by omega));rw [gm,if_neg haw] at ha;have:=s.pr a ha (fun c=>hn (.inl c)) hne;rw [if_neg haw,if_neg hwh];refine ⟨this.1,fun b hb=>?_⟩;have:=this.2 b hb;exact ⟨keep b this.1,by rw [if_neg (old b this.1)];exact this.2⟩
 ·rw [if_neg hwh];by_cases c:e=d
  ·subst c;have:b=w:=by omega
   subst this;exact ⟨by rw [gm,if_pos rfl],by rw [if_pos rfl];omega⟩
  ·have:=s.hd e (by omega) b hb;exact ⟨keep b this.1,by rw [if_neg (old b this.1)];exact this.2⟩
theorem Si.skip {l:List Za}{v h d:Nat}{δ:Nat→Nat}{q:List Int}{mt:List Bool}(s:Si l v h δ q mt d) (hs:∀ w:Nat,nx l h d=w→gi mt w=true):Si l v h δ q mt (d+1):=by
 refine ⟨s.hm,s.el,s.so,s.pr,fun e he b hb=>?_⟩;by_cases c:e=d
 ·subst c;have hm:=hs b hb;refine ⟨hm,?_⟩;by_cases c1:(b:Int)∈q
  ·obtain ⟨a,e,_,_,_,h4⟩:=s.el _ c1;have:b=a:=by omega
   subst this;exact h4
  ·by_cases c2:b=h
   ·subst c2;omega
   ·have:=(s.pr b hm c1 c2).1;omega
 ·exact s.hd e (by omega) b hb
end Mu
/- Layer 13: spread,walked. -/
namespace Mu

theorem Zm6 {l:List Za}(hc:Ck l) (hl:l.length≤4096) {v h:Nat}{t0 t:List Int}{δ:Nat→Nat}{fr dr:List Int}{mt:List Bool}(hh:h<l.length) (sb:Sb l v δ fr dr mt) (si:Si l v h δ t mt 0) (hn:mt.count false+t.length≤l.length) :
  ∃ r:List Int×List Int×List Int×List Bool,ZX (Za1.s1 l ((h:Int)::t0)) big (fr,dr,t,mt,0)=some r∧∃ δ',Sb l v δ' r.1 r.2.1 r.2.2.2∧Si l v h δ' r.2.2.1 r.2.2.2 4∧r.2.2.2.count false+r.2.2.1.length=mt.count false+t.length:=by
 have g0:∀ x:List Int,gi ((h:Int)::x) (0:Int).toNat=h:=fun _=>rfl;refine Zdf (n:=4) (I:=fun d (s:List Int×List Int×List Int×List Bool×Int)=>s.2.2.2.2=d∧∃ δ',Sb l v δ' s.1 s.2.1 s.2.2.2.1∧Si l v h δ' s.2.2.1 s.2.2.2.1 d∧s.2.2.2.1.count false+s.2.2.1.length=mt.count false+t.length) (R:=fun r:List Int×List Int×List Int×List Bool=>∃ δ',Sb l v δ' r.1 r.2.1 r.2.2.2∧Si l v h δ' r.2.2.1 r.2.2.2 4∧r.2.2.2.count false+r.2.2.1.length=mt.count false+t.length) (ZaK (by omega)) ⟨rfl,δ,sb,si,rfl⟩ ?_ ?_
 ·rintro d ⟨fr',dr',t',mt',x⟩ hd ⟨hx,δ',sb',si',hn'⟩;dsimp only at hx sb' si' hn';subst hx;simp only [Za1.s1];rw [zb (by omega),g0,Z2 (by omega),Z2 (by omega),itn];have e:((gi l h).Next).get (d:Int)=nx l h d:=rfl;rw [e];have hlt:=hc.lt hh (show d<4 from hd);have lm:=sb'.lm;have lf:=sb'.lf;have ld:=sb'.ld;by_cases c:0≤nx l h d
  ·obtain ⟨w,hw⟩:∃ w:Nat,nx l h d=w:=⟨(nx l h d).toNat,by omega⟩;rw [hw];rw [hw] at hlt;have hwl:w<l.length:=by omega
   rw [zb (by omega),Z2 (by omega),obs,itn]
   cases hm:gi mt' w with
   | true =>
    rw [if_neg (by decide),Zai (by omega)];refine ⟨_,rfl,rfl,δ',sb',si'.skip (fun w' hw'=>?_),hn'⟩;have:w'=w:=by omega
    rw [this];exact hm
   | false =>
    have hcount:=ZfD (m:=mt') (w:=w) (by omega) hm;rw [if_pos (by decide),Z2 (by omega),Z2 (by omega),Z2 (by omega),Z2 (by simp;omega),Zai (by omega)];refine ⟨_,rfl,rfl,_,sb'.meet hc si'.hm hd hw hwl hm,si'.meet lm hw hwl hm,?_⟩;simp only [List.length_append,List.length_cons,List.length_nil];omega
  ·rw [ZW (by omega),obs,if_neg (by decide),Zai (by omega)];exact ⟨_,rfl,rfl,δ',sb',si'.skip (fun w' hw'=>by omega),hn'⟩
 ·rintro ⟨fr',dr',t',mt',x⟩ ⟨hx,δ',sb',si',hn'⟩;dsimp only at hx sb' si' hn';subst hx;simp only [Za1.s1];rw [ZW (by omega)];exact ⟨_,rfl,δ',sb',si',hn'⟩
structure Spr (l:List Za) (v:Nat) (fr dr:List Int):Prop where
 lf:fr.length=l.length
 ld:dr.length=l.length
 fm:∀ a n,Dist l v a n→a≠v→∃ p d m:Nat,gi fr a=p∧gi dr a=d∧d<4∧nx l p d=a∧Dist l v p m∧n=m+1
 un:∀ a,a<l.length→(∀ n,¬ Rch l v n a)→gi dr a=-1
theorem Zp2 {l:List Za}(hc:Ck l) {v:Nat}{δ:Nat→Nat}{fr dr:List Int}{mt:List Bool}(hv:v<l.length) (sb:Sb l v δ fr dr mt) (so:So l v δ [] mt):Spr l v fr dr:=by
 have all:∀ n a,Rch l v n a→gi mt a=true∧δ a≤n:=by
  intro n a h
  induction h with
  | zero=>exact ⟨sb.mv,by rw [sb.dv];omega⟩
  | succ hr hab ih =>
   have:=(so.pr _ ih.1 (by simp)).2 _ hab;exact ⟨this.1,by omega⟩
 have dist:∀ a,gi mt a=true→Dist l v a (δ a):=fun a ha=>⟨sb.rc a ha,fun m hm=>(all m a hm).2⟩;refine ⟨sb.lf,sb.ld,fun a n hd hav=>?_,fun a ha hu=>?_⟩
 ·have hm:=(all n a hd.1).1;obtain ⟨p,d,h1,h2,h3,h4,h5,h6⟩:=sb.fm a hm hav;refine ⟨p,d,δ p,h1,h2,h3,h5,dist p h4,?_⟩;have:=(dist a hm).uniq hd;omega
 ·refine sb.un a ha ?_
  cases h:gi mt a with
  | false=>rfl
  | true=>exact absurd (sb.rc a h) (hu _)
theorem ZnL {l:List Za}(hc:Ck l) (hl:l.length≤1300) {v:Nat}(hv:v<l.length):∃ fr dr,Za1 l v=some (fr,dr)∧Spr l v fr dr:=by
 have gr:∀ a,gi (List.replicate l.length false) a=false:=by
  intro a;by_cases h:a<l.length
  ·rw [Zaz (by simpa using h)];simp
  ·rw [Zgk (by simpa using h)];rfl
 have gr2:∀ a,a<l.length→gi (List.replicate l.length (-1:Int)) a=-1:=by
  intro a h;rw [Zaz (by simpa using h)];simp
 have gm:∀ a,gi ((List.replicate l.length false).set v true) a=if a=v then true else false:=by
  intro a;rw [Zcg (by simpa using hv),gr]
 have sb0:Sb l v (fun _=>0) (List.replicate l.length (-1)) (List.replicate l.length (-1)) ((List.replicate l.length false).set v true):=by
  refine ⟨by simp,by simp,by simp,by rw [gm,if_pos rfl],rfl,fun a ha=>?_,fun a ha hav=>?_,fun a ha hu=>gr2 a ha⟩
  ·rw [gm] at ha;by_cases c:a=v
   ·subst c;exact .zero
   ·rw [if_neg c] at ha;cases ha
  ·rw [gm,if_neg hav] at ha;cases ha
 have so0:So l v (fun _=>0) [(v:Int)] ((List.replicate l.length false).set v true):=by
  refine ⟨fun x hx=>?_,List.pairwise_singleton _ _,fun a ha hn=>?_⟩
  ·rw [List.mem_singleton] at hx;exact ⟨v,hx,hv,by rw [gm,if_pos rfl]⟩
  ·rw [gm] at ha;by_cases c:a=v
   ·subst c;exact absurd List.mem_cons_self hn
   ·rw [if_neg c] at ha;cases ha
 have cnt0:((List.replicate l.length false).set v true).count false+1=l.length:=by
  rw [ZfD (by simpa using hv) (gr v)];simp
 obtain ⟨r,h1,h2⟩:=ZeU (step:=Za1.s0 l) (s0:=(List.replicate l.length (-1),List.replicate l.length (-1),[(v:Int)],(List.replicate l.length false).set v true)) (μ:=fun s:List Int×List Int×List Int×List Bool=>s.2.2.2.count false+s.2.2.1.length) (I:=fun s=>∃ δ,Sb l v δ s.1 s.2.1 s.2.2.2∧So l v δ s.2.2.1 s.2.2.2∧s.2.2.2.count false+s.2.2.1.length≤l.length) (R:=fun r:List Int×List Int=>Spr l v r.1 r.2) (ZaK (by simp only [List.length_cons,List.length_nil];omega)) ⟨_,sb0,so0,by simp only [List.length_cons,List.length_nil];omega⟩ (by
  rintro ⟨fr,dr,q,mt⟩ ⟨δ,sb,so,hn⟩;dsimp only at sb so hn;simp only [Za1.s0]
  cases q with
  | nil =>
   right;rw [ZW (by simp)];exact ⟨_,rfl,Zp2 hc hv sb so⟩
  | cons x t =>
   left;obtain ⟨h,rfl,hh,_⟩:=so.el x List.mem_cons_self;rw [List.length_cons] at hn;obtain ⟨⟨fr',dr',t',mt'⟩,e1,δ',sb',si',hn'⟩:=Zm6 (t0:=t) hc (by omega) hh sb so.open (by omega);dsimp only at e1 sb' si' hn';have hd:List.drop (1:Int).toNat ((h:Int)::t)=t:=rfl;rw [zb (by simp<;>omega),Z2 (by simp<;>omega),Z2 (by simp<;>omega),hd,e1,obs];refine ⟨_,rfl,⟨δ',sb',si'.close,by dsimp only;omega⟩,?_⟩;simp only [List.length_cons];omega)
 obtain ⟨fr,dr⟩:=r;refine ⟨fr,dr,?_,h2⟩;unfold Za1;rw [ZkM hl,obs,obs,Z2 (by omega),itn,Z2 (by simp;omega),itn,h1,obs]
end Mu
/- Layer 13: far. -/
namespace Mu

end Mu
/- Layer 13: paths. -/
namespace Mu

end Mu
/- Layer 13: there and back. -/
namespace Mu
end Mu
/- Layer 13: join's paths. -/
namespace Mu
end Mu
/- Layer 13: join's parts. -/
namespace Mu
noncomputable def rb (l:List Za) (v w:Nat):Bool:=@decide (∃ n,Rch l v n w) (Classical.propDecidable _)
theorem Zgo {l:List Za}{v w:Nat}:rb l v w=true↔∃ n,Rch l v n w:=by simp [rb]
noncomputable def ZcY (l:List Za) (v k:Nat):List Int:=((List.range k).filter (rb l v)).map fun w:Nat=>(w:Int)
noncomputable def Zeq (l:List Za) (v:Nat) (met:List Bool) (k:Nat):List Bool:=(List.range l.length).map fun w=>if w<k then gi met w||rb l v w else gi met w
theorem Zbr {l:List Za}{v k:Nat}{met:List Bool}:(Zeq l v met k).length=l.length:=by simp [Zeq]
theorem ZdY {l:List Za}{v k w:Nat}{met:List Bool}(h:w<l.length):gi (Zeq l v met k) w=if w<k then gi met w||rb l v w else gi met w:=ZbM h
theorem Zkl {l:List Za}{v:Nat}{met:List Bool}(h:met.length=l.length):Zeq l v met 0=met :=
 Zd3 (by rw [Zbr,h]) (fun i hi=>by rw [Zbr] at hi;rw [ZdY hi,if_neg (by omega)])
theorem Zm7 {l:List Za}{v k:Nat}{met:List Bool}(hk:k<l.length) (h:rb l v k=true):(Zeq l v met k).set k true=Zeq l v met (k+1):=by
 apply Zd3 (by rw [List.length_set,Zbr,Zbr]);intro i hi;rw [List.length_set,Zbr] at hi;rw [Zcg (by rw [Zbr];exact hk),ZdY hi,ZdY hi];by_cases c:i=k
 ·subst c;rw [if_pos rfl,if_pos (by omega),h];simp
 ·rw [if_neg c];by_cases c2:i<k
  ·rw [if_pos c2,if_pos (by omega)]
  ·rw [if_neg c2,if_neg (by omega)]
theorem Zlw {l:List Za}{v k:Nat}{met:List Bool}(h:rb l v k=false):Zeq l v met k=Zeq l v met (k+1):=by
 apply Zd3 (by rw [Zbr,Zbr]);intro i hi;rw [Zbr] at hi;rw [ZdY hi,ZdY hi];by_cases c:i=k
 ·subst c;rw [if_neg (by omega),if_pos (by omega),h];simp
 ·by_cases c2:i<k
  ·rw [if_pos c2,if_pos (by omega)]
  ·rw [if_neg c2,if_neg (by omega)]
theorem Zlz {l:List Za}{v k:Nat}(h:rb l v k=true):ZcY l v (k+1)=ZcY l v k++[(k:Int)]:=by
 unfold ZcY;rw [List.range_succ,List.filter_append];simp [h]
theorem Zku {l:List Za}{v k:Nat}(h:rb l v k=false):ZcY l v (k+1)=ZcY l v k:=by
 unfold ZcY;rw [List.range_succ,List.filter_append];simp [h]
theorem Zig {l:List Za}{v k:Nat}:(ZcY l v k).length≤k:=by
 unfold ZcY;rw [List.length_map];have:=List.length_filter_le (rb l v) (List.range k);simpa using this
theorem Zn8 {l:List Za}(hl:l.length≤1300) {v:Nat}{fr dr:List Int}{met:List Bool}(hm:met.length=l.length) (sp:Spr l v fr dr) (hc:Ck l) (hv:v<l.length):ZX (Za9.s1 l v dr) big (met,[],0)=some (Zeq l v met l.length,ZcY l v l.length):=by
 have ld:=sp.ld;refine Zbv (fun k:Nat=>(Zeq l v met k,ZcY l v k,(k:Int))) (n:=l.length) (ZaK (by omega)) (by rw [Zkl hm];rfl) (fun k hk=>?_) ?_
 ·have hp:=Zig (l:=l) (v:=v) (k:=k);have hmt:=Zbr (l:=l) (v:=v) (k:=k) (met:=met);have t:(if decide ((k:Int)=(v:Int))=true then some true else ck ((0:Int)≤(k:Int)∧(k:Int)<(dr.length:Int)) (some (decide (0≤(gi dr (k:Int).toNat)))))=some (rb l v k):=by
   by_cases c:k=v
   ·subst c;rw [zb rfl,(Zgo).2 ⟨0,.zero⟩]
   ·rw [ZW (by omega),Z2 (by omega),itn]
    cases h:rb l v k with
    | true =>
     obtain ⟨n,hn⟩:=Zgo.1 h;obtain ⟨m,_,hd⟩:=hn.dist;obtain ⟨p,d,_,_,e2,_⟩:=sp.fm k m hd c;rw [ZcV (by omega)]
    | false =>
     have:=sp.un k hk (fun n hn=>by rw [Zgo.2 ⟨n,hn⟩] at h;cases h);rw [ZeE (by omega)]
  simp only [Za9.s1];rw [zb (by omega),t,obs,Zai (by omega)]
  cases h:rb l v k with
  | true =>
   rw [if_pos rfl,Z2 (by omega),Z2 (by simp;omega),itn,Zm7 hk h,Zlz h,show ((k+1:Nat):Int)=(k:Int)+1 by omega]
  | false =>
   rw [if_neg (by decide),Zai (by omega),Zlw h,Zku h,show ((k+1:Nat):Int)=(k:Int)+1 by omega]
 ·simp only [Za9.s1];rw [ZW (by omega)]
noncomputable def PS (l:List Za):Nat→List (List Int)×List Bool
 | 0=>([],List.replicate l.length false)
 | n+1=>if gi (PS l n).2 n=true then PS l n else ((PS l n).1++[ZcY l n l.length],Zeq l n (PS l n).2 l.length)
theorem ZlF {l:List Za}:∀ n,(PS l n).1.length≤n∧(PS l n).2.length=l.length
 | 0=>by simp [PS]
 | n+1=>by
  have:=ZlF (l:=l) n;simp only [PS];split
  ·exact ⟨by omega,this.2⟩
  ·exact ⟨by simp;omega,Zbr⟩
theorem Zkj {l:List Za}(hc:Ck l) (hl:l.length≤1300):Za9 l=some ((PS l l.length).1,0):=by
 have hk:Zfe l=0:=ZeG.2 ⟨by omega,hc⟩;have h:ZX (Za9.s0 l) big (([]:List (List Int)),List.replicate l.length false,0)=some (PS l l.length).1:=by
  refine Zbv (fun n:Nat=>((PS l n).1,(PS l n).2,(n:Int))) (n:=l.length) (ZaK (by omega)) rfl (fun n hn=>?_) ?_
  ·have hp:=ZlF (l:=l) n;simp only [Za9.s0];rw [zb (by omega),Z2 (by omega),itn,Zai (by omega)];by_cases c:gi (PS l n).2 n=true
   ·rw [if_pos c,show PS l (n+1)=PS l n by rw [PS,if_pos c],show ((n+1:Nat):Int)=(n:Int)+1 by omega]
   ·obtain ⟨fr,dr,e1,sp⟩:=ZnL hc hl hn;rw [if_neg c,e1,obs];dsimp only;rw [Zn8 hl hp.2 sp hc hn,obs];dsimp only;rw [Z2 (by omega),Zai (by omega),show PS l (n+1)=((PS l n).1++[ZcY l n l.length],Zeq l n (PS l n).2 l.length) by rw [PS,if_neg c],show ((n+1:Nat):Int)=(n:Int)+1 by omega]
  ·simp only [Za9.s0];rw [ZW (by omega)]
 unfold Za9;rw [ZhI (by omega),obs,hk,Zcy rfl,Z2 (by omega),itn,h,obs]
end Mu
/- Layer 13: the document's parts,and the law. -/
namespace Mu
theorem Zpm {l:List Za}(hc:Ck l) (hl:l.length≤1300):Zc5 l=some (decide (((PS l l.length).1.length:Int)=1)):=by
 unfold Zc5;rw [Zkj hc hl,obs];simp
end Mu
/- Layer 10: GridPlays. -/
namespace Mu
end Mu
/- Layer 10: turned cells;what Split and Of answer. -/
namespace Mu
def tc (c:Za):Za:=⟨⟨c.Next.d,c.Next.a,c.Next.b,c.Next.c⟩,⟨c.Owner.d,c.Owner.a,c.Owner.b,c.Owner.c⟩⟩
def trn (l:List Za):List Za:=(List.range l.length).map fun v=>tc (gi l v)
theorem Zco {l:List Za}:(trn l).length=l.length:=by simp [trn]
theorem ZkO {l:List Za}(hl:l.length≤100000000):zy l=some (trn l):=by
 unfold zy;rw [Zio (x:=trn l)];refine Zbv (fun n:Nat=>((List.range n).map fun v=>tc (gi l v),(n:Int))) (n:=l.length) (ZaK (by omega)) rfl (fun n hn=>?_) ?_
 ·have inner:ZX (zy.s1 l n) big (gi l n,0)=some (tc (gi l n)):=by
   have g:(n:Int).toNat=n:=itn n;obtain ⟨c,hc⟩:∃ c,c=gi l n:=⟨_,rfl⟩;refine Zbv (fun k:Nat=>((⟨⟨if 3<k then c.Next.d else c.Next.a,if 0<k then c.Next.a else c.Next.b,if 1<k then c.Next.b else c.Next.c,if 2<k then c.Next.c else c.Next.d⟩,⟨if 3<k then c.Owner.d else c.Owner.a,if 0<k then c.Owner.a else c.Owner.b,if 1<k then c.Owner.b else c.Owner.c,if 2<k then c.Owner.c else c.Owner.d⟩⟩:Za),(k:Int))) (n:=4) (ZaK (by omega)) (by rw [← hc];rfl) (fun k hk=>?_) ?_
   ·simp only [zy.s1];rw [g,← hc]
    match k,hk with
    | 0,_|1,_|2,_|3,_=>rfl
   ·simp only [zy.s1];rw [← hc];rfl
  simp only [zy.s0];rw [zb (by omega),Z2 (by omega),itn,inner,obs,Z2 (by simp;omega),Zai (by omega),List.range_succ,List.map_append,show ((n+1:Nat):Int)=(n:Int)+1 by omega];rfl
 ·simp only [zy.s0];rw [ZW (by omega)];rfl
theorem Zcu {l:List Za}{v e:Nat}(hv:v<l.length) (he:e<4):nx (trn l) v e=nx l v ((e+3)%4)∧ow (trn l) v e=ow l v ((e+3)%4):=by
 have g:gi (trn l) v=tc (gi l v):=ZbM hv;unfold nx ow;rw [g]
 match e,he with
 | 0,_|1,_|2,_|3,_=>exact ⟨rfl,rfl⟩
theorem Ck.turn {l:List Za}(h:Ck l):Ck (trn l):=by
 refine ⟨fun v d hv hd=>?_⟩;rw [Zco] at hv ⊢;rw [(Zcu hv hd).1,(Zcu hv hd).2];rcases h.s v ((d+3)%4) hv (by omega) with h|⟨w,a,b,c,f,g,k⟩
 ·exact .inl h
 ·refine .inr ⟨w,a,b,c,?_,?_,k⟩
  ·rw [(Zcu b (by omega)).1,show ((d+2)%4+3)%4=((d+3)%4+2)%4 by omega];exact f
  ·rw [(Zcu b (by omega)).2,show ((d+2)%4+3)%4=((d+3)%4+2)%4 by omega];exact g
end Mu
/- Layer 13: JoinTurns. -/
namespace Mu
theorem ZkH {l:List Za}{a b:Nat}(ha:a<l.length):Adj (trn l) a b↔Adj l a b:=by
 constructor
 ·rintro ⟨d,hd,e⟩;exact ⟨(d+3)%4,by omega,by rw [(Zcu ha hd).1] at e;exact e⟩
 ·rintro ⟨d,hd,e⟩;refine ⟨(d+1)%4,by omega,?_⟩;rw [(Zcu ha (by omega)).1,show ((d+1)%4+3)%4=d by omega];exact e
theorem ZkX {l:List Za}(hc:Ck l) {v n w:Nat}(hv:v<l.length):Rch (trn l) v n w↔Rch l v n w:=by
 constructor
 ·intro h
  induction h with
  | zero=>exact .zero
  | succ _ hab ih=>exact .succ ih ((ZkH (ih.lt hc hv)).1 hab)
 ·intro h
  induction h with
  | zero=>exact .zero
  | succ h2 hab ih=>exact .succ ih ((ZkH (h2.lt hc hv)).2 hab)
theorem ZmN {l:List Za}(hc:Ck l) {v w:Nat}(hv:v<l.length):rb (trn l) v w=rb l v w:=by
 rw [Bool.eq_iff_iff,Zgo,Zgo];exact ⟨fun ⟨n,h⟩=>⟨n,(ZkX hc hv).1 h⟩,fun ⟨n,h⟩=>⟨n,(ZkX hc hv).2 h⟩⟩
theorem Zjb {l l':List Za}{v k:Nat}(h:∀ w,w<k→rb l' v w=rb l v w):ZcY l' v k=ZcY l v k:=by
 unfold ZcY;congr 1;apply List.filter_congr;intro w hw;rw [List.mem_range] at hw;rw [h w hw]
theorem ZlH {l:List Za}(hc:Ck l):∀ n,n≤l.length→PS (trn l) n=PS l n
 | 0,_=>by simp only [PS,Zco]
 | n+1,hn=>by
  have ih:=ZlH hc n (by omega);simp only [PS,ih,Zco];rw [Zjb (l:=l) (l':=trn l) (fun w _=>ZmN hc (by omega))];have:Zeq (trn l) n (PS l n).2 l.length=Zeq l n (PS l n).2 l.length:=by
   apply Zd3 (by rw [Zbr,Zbr,Zco]);intro i hi;rw [Zbr,Zco] at hi;rw [ZdY (by rw [Zco];exact hi),ZdY hi,ZmN hc (by omega)]
  rw [this]
/-! the split edge -/
def ext (v u:Int) (p:List Int):List Int:=if v∈p then p++[u] else p
theorem ZlG {l:List Za}:∀ n,n≤l.length→∀ u,u<n→gi (PS l n).2 u=true
 | 0,_,u,hu=>by omega
 | n+1,hn,u,hu=>by
  have ih:=ZlG (l:=l) n (by omega);simp only [PS];by_cases c:gi (PS l n).2 n=true
  ·rw [if_pos c];by_cases q:u=n
   ·subst q;exact c
   ·exact ih u (by omega)
  ·rw [if_neg c];dsimp only;rw [ZdY (show u<l.length by omega),if_pos (show u<l.length by omega)];by_cases q:u=n
   ·subst q;rw [Zgo.2 ⟨0,.zero⟩];simp
   ·rw [ih u (by omega)];rfl
theorem Zki {s:List Int}{v:Int}(hs:s.length≤1000000):Zbo s v=some (decide (v∈s)):=by
 have h:ZX (Za2.s0 s v) big 0=some (match (List.range s.length).find? (fun i=>decide (v=gi s i)) with|some i=>.inr (i:Int)|none=>.inl ()):=by
  refine ZdG (n:=s.length) (P:=fun i=>decide (v=gi s i)) (f:=fun i=>(i:Int)) (ZaK (by omega)) (fun i hi=>?_) ?_
  ·simp only [Za2.s0];rw [zb (by omega),Z2 (by omega),itn,Zai (by omega)];by_cases c:v=gi s i
   ·rw [zb c,zb c]
   ·rw [ZW c,ZW c]
  ·simp only [Za2.s0];rw [ZW (by omega)]
 unfold Zbo Za2;rw [h,obs]
 cases hf:(List.range s.length).find? (fun i=>decide (v=gi s i)) with
 | none =>
  rw [List.find?_range_eq_none] at hf;rw [ZeE (c:=v∈s)]
  ·rfl
  ·intro hm;obtain ⟨i,hi,e⟩:=List.mem_iff_getElem.1 hm;have:=hf i hi;rw [Zaz hi] at this;simp [e] at this
 | some i =>
  rw [List.find?_range_eq_some] at hf;obtain ⟨h1,h2,_⟩:=hf;have hi:i<s.length:=by simpa using h2
  have e:v=gi s i:=by simpa using h1
  rw [ZcV (c:=v∈s) (by rw [e];exact Zaw hi)];dsimp only;rw [obs,ZcV (by omega)]
end Mu
/- Layers 12 and 14: turns of faces,rotations,the outer face. -/
namespace Mu
def tn (d e:Nat):Int:=if e=d then 0 else if e=(d+1)%4 then 1 else if e=(d+3)%4 then -1 else -2
theorem Zqr {d e:Nat}(hd:d<4) (he:e<4):Zck d e=some (tn d e):=by
 have a:d=0∨d=1∨d=2∨d=3:=by omega
 have b:e=0∨e=1∨e=2∨e=3:=by omega
 rcases a with rfl|rfl|rfl|rfl<;>rcases b with rfl|rfl|rfl|rfl<;>rfl
theorem Zp4 {d e:Nat}:-2≤tn d e∧tn d e≤1:=by unfold tn;split<;>(try split)<;>(try split)<;>omega
def tns (l:List Za) (f:List Da):List Int:=f.map fun p=>tn p.2 (bh l p).2
theorem Zcd {α β:Type} [Inhabited α] [Inhabited β] {f:α→β}{l:List α}{i:Nat}(h:i<l.length):gi (l.map f) i=f (gi l i):=by
 rw [Zaz (by simpa using h),Zaz h,List.getElem_map]
theorem Zjm {l:List Za}{f:List Da}:(tns l f).length=f.length:=by simp [tns]
theorem Zod {l:List Za}{f:List Da}:∀ i,-2≤gi (tns l f) i∧gi (tns l f) i≤1:=by
 intro i;by_cases h:i<f.length
 ·unfold tns;rw [Zcd h];exact Zp4
 ·rw [Zgk (by rw [Zjm];omega)];decide
theorem Zpl {l:List Za}(hl:l.length≤4096) (h:Zfe l=0) {f:List Da}(hf:∀ p∈f,isD l p) (hn:f.length≤1000000):Zb3 l (f.map dt)=some (tns l f):=by
 have hc:=(ZeG.1 h).2;have fl:(f.map dt).length=f.length:=by simp
 unfold Zb3;rw [Z2 (by rw [fl];omega),ZhI (by omega),obs,Zcy h];have:∃ r,ZX (Zb3.s0 l (f.map dt)) big (List.replicate (((f.map dt).length:Int)).toNat (0:Int),0)=some r∧r=tns l f:=by
  refine Zdf (fun (k:Nat) (s:List Int×Int)=>(s.1.length=f.length∧∀ i,i<k→gi s.1 i=gi (tns l f) i)∧s.2=k) (n:=f.length) (ZaK (by omega)) ⟨⟨by simp,fun i hi=>by omega⟩,rfl⟩ ?_ ?_
  ·rintro k ⟨r,j⟩ hk ⟨⟨h1,h2⟩,h3⟩;dsimp only at h1 h2 h3 ⊢;subst h3;have hp:=hf _ (Zaw hk);have g:gi (f.map dt) k=dt (gi f k):=Zcd hk;simp only [Zb3.s0,itn,g];have tt:Zck (dt (gi f k)).Dir (dt (bh l (gi f k))).Dir=some (tn (gi f k).2 (bh l (gi f k)).2):=Zqr hp.2.1 (hp.bh hc).2.1;rw [zb (by rw [fl];omega),Z2 (by rw [fl];omega),Zql,obs,ZcV hp,if_pos rfl,ZkK hc hp,obs,tt,obs,Z2 (by omega),Zai (by omega)];refine ⟨_,rfl,⟨by dsimp only;rw [List.length_set];exact h1,fun i hi=>?_⟩,by dsimp only;omega⟩;dsimp only;rw [Zcg (by omega)];by_cases c:i=k
   ·subst c;rw [if_pos rfl];unfold tns;rw [Zcd hk]
   ·rw [if_neg c];exact h2 i (by omega)
  ·rintro ⟨r,j⟩ ⟨⟨h1,h2⟩,h3⟩;dsimp only at h1 h2 h3 ⊢;subst h3;simp only [Zb3.s0];rw [ZW (by rw [fl];omega)];exact ⟨_,rfl,Zd3 (by rw [h1,Zjm]) fun i hi=>h2 i (by omega)⟩
 obtain ⟨r,e1,e2⟩:=this;rw [e1,obs,e2]
theorem ZjP {t:List Int}{n:Nat}(h:n<t.length):(t.take (n+1)).sum=(t.take n).sum+gi t n:=by
 rw [Zey h,List.sum_append];simp
theorem Zlf {t:List Int}(h:∀ i,-2≤gi t i∧gi t i≤1):∀ n,n≤t.length→-2*(n:Int)≤(t.take n).sum∧(t.take n).sum≤n
 | 0,_=>by simp
 | n+1,hn=>by
  have ih:=Zlf h n (by omega);have:=h n;rw [ZjP (by omega)];omega
theorem Zlu {t:List Int}(h:∀ i,-2≤gi t i∧gi t i≤1) (hn:t.length≤1000000):ZaW t=some t.sum:=by
 unfold ZaW;rw [Zio (x:=t.sum)];refine Zbv (fun n:Nat=>((t.take n).sum,(n:Int))) (n:=t.length) (ZaK (by omega)) rfl (fun k hk=>?_) ?_
 ·have a:=Zlf h k (by omega);have b:=h k;simp only [ZaW.s0,itn];rw [zb (by omega),Z2 (by omega),if_pos (by simp;omega),Zai (by omega),Zai (by omega),ZjP hk,show ((k+1:Nat):Int)=(k:Int)+1 by omega]
 ·simp only [ZaW.s0];rw [ZW (by omega),List.take_length]
def Zbg (l:List Za) (f:List Da):Int:=(tns l f).sum
theorem ZfF {l:List Za}(hc:Ck l):(∀ f∈faces l,∀ p∈f,isD l p)∧(faces l).length≤4*l.length∧(∀ f∈faces l,f.length≤4*l.length)∧(faces l).flatten.Nodup∧∀ p∈(faces l).flatten,isD l p:=by
 have h:=ZgR hc l.length (by omega);have hm:=h.m.len;have hf:=h.fl;refine ⟨h.is,by have:=h.len;unfold faces;omega,fun f hf'=>?_,by unfold faces;rw [hf];exact h.m.nd,fun p hp=>by unfold faces at hp;rw [hf] at hp;exact h.m.is p hp⟩;have:(f).Sublist (faces l).flatten:=List.sublist_flatten_of_mem hf';have:=this.length_le;unfold faces at this;rw [hf] at this;omega
def Ze6:List Int→Int→Int→Option Int
 | [],_,a=>some a
 | r::R,i,a=>if r=4 then Ze6 R (i+1) a else if r=-4 then (if 0≤a then none else Ze6 R (i+1) i) else none
def Zg6 (l:List Za):Option Int:=Ze6 ((faces l).map (Zbg l)) 0 (-1)
theorem Zkt {F:Int×Int→Option ((Int×Int)⊕(Int⊕Unit))}{R:List Int}(hR:R.length≤1000000) (h:∀ (i:Nat) (a:Int),i<R.length→F (a,(i:Int))=some (if gi R i=4 then .inl (a,(i:Int)+1) else if gi R i=-4 then (if 0≤a then .inr (.inr ()) else .inl ((i:Int),(i:Int)+1)) else .inr (.inr ()))) (he:∀ a,F (a,(R.length:Int))=some (.inr (.inl a))):ZX F big (-1,0)=some (match Ze6 R 0 (-1) with|some a=>.inl a|none=>.inr ()):=by
 have key:∀ (m n:Nat) (a:Int),n+m=R.length→ZX F (m+1) (a,(n:Int))=some (match Ze6 (R.drop n) n a with|some a=>.inl a|none=>.inr ()):=by
  intro m
  induction m with
  | zero =>
   intro n a hn;have:n=R.length:=by omega
   subst this;rw [ZX,he,List.drop_length];rfl
  | succ m ih =>
   intro n a hn;have hlt:n<R.length:=by omega
   have d:R.drop n=gi R n::R.drop (n+1):=by rw [Zaz hlt];exact List.drop_eq_getElem_cons hlt
   rw [ZX,h n a hlt,d,Ze6];by_cases c1:gi R n=4
   ·rw [if_pos c1,if_pos c1];dsimp only;have:=ih (n+1) a (by omega);rw [show ((n+1:Nat):Int)=(n:Int)+1 by omega] at this;exact this
   ·rw [if_neg c1,if_neg c1];by_cases c2:gi R n=-4
    ·rw [if_pos c2,if_pos c2];by_cases c3:0≤a
     ·rw [if_pos c3,if_pos c3]
     ·rw [if_neg c3,if_neg c3];dsimp only;have:=ih (n+1) n (by omega);rw [show ((n+1:Nat):Int)=(n:Int)+1 by omega] at this;exact this
    ·rw [if_neg c2,if_neg c2]
 have:=key R.length 0 (-1) (by omega);rw [List.drop_zero] at this;exact ZdZ this (by unfold big;omega)
theorem ZnI {l:List Za}(hl:l.length≤4096) (h:Zfe l=0):Zbm l=some (match Zg6 l with|some a=>(a,decide (0≤a))|none=>(0,false)):=by
 have hc:=(ZeG.1 h).2;obtain ⟨o1,o2,o3,_⟩:=ZfF hc;have L:ZX (Zbm.s0 l ((faces l).map (List.map dt))) big (-1,0)=some (match Zg6 l with|some a=>.inl a|none=>.inr ()):=by
  refine Zkt (R:=(faces l).map (Zbg l)) (by simp;omega) (fun i a hi=>?_) fun a=>?_
  ·have hi':i<(faces l).length:=by simpa using hi
   have hm:=Zaw hi';have fl:=o3 _ hm;simp only [Zbm.s0,itn];rw [zb (by simp;omega),Z2 (by simp;omega),Zcd hi',Zpl hl h (o1 _ hm) (by omega),obs,Zlu Zod (by rw [Zjm];omega),obs,Zcd hi'];show (if decide (Zbg l (gi (faces l) i)=4)=true then _ else _)=_;by_cases c1:Zbg l (gi (faces l) i)=4
   ·rw [zb c1,if_pos c1,Zai (by omega)]
   ·rw [ZW c1,if_neg c1];show (if decide (Zbg l (gi (faces l) i)=-4)=true then _ else _)=_;by_cases c2:Zbg l (gi (faces l) i)=-4
    ·rw [zb c2,if_pos c2];by_cases c3:0≤a
     ·rw [zb c3,if_pos c3]
     ·rw [ZW c3,if_neg c3,Zai (by omega)]
    ·rw [ZW c2,if_neg c2]
  ·simp only [Zbm.s0];rw [ZW (by simp)]
 unfold Zbm;rw [Zpd hl h,obs];dsimp only;rw [L,obs];cases Zg6 l<;>rfl
theorem ZgM:∀ {R:List Int}{i a b:Int},Ze6 R i a=some b→-1≤a→0≤i→(b=a∨(i≤b∧b<i+R.length))
 | [],i,a,b,h,_,_=>by
  simp only [Ze6,Option.some.injEq] at h;exact .inl h.symm
 | r::R,i,a,b,h,ha,hi=>by
  rw [Ze6] at h;split at h
  ·rcases ZgM h ha (by omega) with q|q
   ·exact .inl q
   ·refine .inr ?_;rw [List.length_cons];omega
  ·split at h
   ·split at h
    ·cases h
    ·rcases ZgM h (by omega) (by omega) with q|q
     ·refine .inr ?_;rw [List.length_cons];omega
     ·refine .inr ?_;rw [List.length_cons];omega
   ·cases h
def ZcM (l:List Za):Prop:=((PS l l.length).1.length:Int)=1
noncomputable instance {l:List Za}:Decidable (ZcM l):=by unfold ZcM;infer_instance
noncomputable def ZeZ (l:List Za):Int :=
 if Zfe l=0 then (if ZcM l then (if l.length=1 then 0 else match Zg6 l with|some a=>if 0≤a then 0 else 10|none=>10) else 13) else Zfe l
theorem Zl9 {l:List Za}(h:ZcM l):0<l.length:=by
 cases l with
 | nil=>unfold ZcM at h;simp [PS] at h
 | cons a l=>simp
theorem Zlr {l:List Za}(hc:Ck l) (h:l.length=1):faces l=[]:=by
 obtain ⟨o1,o2,o3,o4,o5⟩:=ZfF hc;have no:∀ p,¬ isD l p:=by
  intro p hp;have f:=hp.fwd hc;rcases hc.s p.1 p.2 hp.1 hp.2.1 with ⟨a,_⟩|⟨w,a,b,c,_⟩
  ·have:=hp.2.2;omega
  ·have:=hp.1;omega
 have:(faces l).flatten=[]:=by
  cases q:(faces l).flatten with
  | nil=>rfl
  | cons a t=>exact absurd (o5 a (by rw [q];simp)) (no a)
 have len:=(ZgR hc l.length (by omega)).len;have fl:=(ZgR hc l.length (by omega)).fl;unfold faces at this ⊢;rw [fl] at this;rw [this] at len;exact List.length_eq_zero_iff.1 (by simpa using len)
theorem ZkP {l:List Za}(hl:l.length≤1300):Zcw l=some (ZeZ l):=by
 unfold Zcw ZeZ;rw [ZhI (by omega),obs];by_cases h:Zfe l=0
 ·have hc:=(ZeG.1 h).2;rw [Zcy h,if_pos h,Zpm hc hl,obs];by_cases w:ZcM l
  ·have hp:=Zl9 w;rw [if_pos w,ZcV (show ((PS l l.length).1.length:Int)=1 from w),if_neg (by decide),ZnI (by omega) h,obs];by_cases c:l.length=1
   ·rw [if_pos c];have:Zg6 l=some (-1):=by unfold Zg6;rw [Zlr hc c];rfl
    rw [this];dsimp only;rw [if_neg (by simp;omega)]
   ·rw [if_neg c]
    cases Zg6 l with
    | none=>dsimp only;rw [if_pos (by simp;omega)]
    | some a =>
     dsimp only;by_cases q:0≤a
     ·rw [if_pos q,if_neg (by simp;omega)]
     ·rw [if_neg q,if_pos (by simp;omega)]
  ·rw [if_neg w,ZeE (show ¬ ((PS l l.length).1.length:Int)=1 from w),if_pos (by decide)]
 ·rw [Zdj h,if_neg h]
theorem Zoh {l:List Za}(h:ZeZ l=0):Zfe l=0∧ZcM l∧(l.length≠1→∃ a,Zg6 l=some a∧0≤a):=by
 unfold ZeZ at h;by_cases c:Zfe l=0
 ·rw [if_pos c] at h;by_cases w:ZcM l
  ·rw [if_pos w] at h;refine ⟨c,w,fun h1=>?_⟩;rw [if_neg h1] at h
   cases q:Zg6 l with
   | none=>rw [q] at h;exact absurd h (by decide)
   | some a =>
    rw [q] at h;dsimp only at h;by_cases k:0≤a
    ·exact ⟨a,rfl,k⟩
    ·rw [if_neg k] at h;exact absurd h (by decide)
  ·rw [if_neg w] at h;exact absurd h (by decide)
 ·rw [if_neg c] at h;exact absurd h c
end Mu
/- Layers 8 and 11: shapes that may be written have their cells: all that is worked out of them comes to an end. -/
namespace Mu
end Mu
/- Layer 14: ValidTells. -/
namespace Mu
end Mu
/- Sums. -/
namespace Mu
def sg (f:Nat→Int):Nat→Int
 | 0=>0
 | n+1=>sg f n+f n
theorem Zc9 {f g:Nat→Int}:∀ {n:Nat},(∀ i,i<n→f i=g i)→sg f n=sg g n
 | 0,_=>rfl
 | n+1,h=>by rw [sg,sg,Zc9 (n:=n) fun i hi=>h i (by omega),h n (by omega)]
theorem ZfW {f:Nat→Int}{n:Nat}(h:∀ i,i<n→f i=0):sg f n=0:=by
 induction n with
 | zero=>rfl
 | succ n ih=>rw [sg,ih fun i hi=>h i (by omega),h n (by omega)];rfl
theorem Zjh {f g:Nat→Int}:∀ {n:Nat},sg (fun i=>f i+g i) n=sg f n+sg g n
 | 0=>rfl
 | n+1=>by rw [sg,sg,sg,Zjh (n:=n)];omega
theorem Zk3 {f:Nat→Int}{k:Int}:∀ {n:Nat},sg (fun i=>k*f i) n=k*sg f n
 | 0=>by simp [sg]
 | n+1=>by rw [sg,sg,Zk3 (n:=n),Int.mul_add]
theorem Zjj {f:Nat→Int}:∀ {n j:Nat},j<n→(∀ i,i<n→i≠j→f i=0)→sg f n=f j
 | n+1,j,hj,h=>by
  rw [sg];by_cases c:j=n
  ·subst c;rw [ZfW fun i hi=>h i (by omega) (by omega)];omega
  ·rw [Zjj (j:=j) (by omega) fun i hi=>h i (by omega),h n (by omega) (by omega)];omega
theorem Zhs {f:Nat→Nat→Int}{m:Nat}:∀ {n:Nat},sg (fun i=>sg (f i) m) n=sg (fun j=>sg (fun i=>f i j) n) m
 | 0=>by
  rw [sg,ZfW];intro i _;rfl
 | n+1=>by
  rw [sg,Zhs (n:=n),← Zjh];exact Zc9 fun i _=>rfl
end Mu
/- Layer 14: ValidEuler: what turns there are in all,by faces and by cells. -/
namespace Mu
/-! Cells that hang together. -/
theorem Zi9 {l:List Za}:∀ {n m:Nat},n≤m→(PS l n).1.length≤(PS l m).1.length
 | n,0,h=>by
  have:n=0:=by omega
  subst this;exact Nat.le_refl _
 | n,m+1,h=>by
  by_cases c:n=m+1
  ·subst c;exact Nat.le_refl _
  ·have:=Zi9 (l:=l) (n:=n) (m:=m) (by omega);rw [PS];split
   ·exact this
   ·simp;omega
theorem Zi8 {l:List Za}(h:ZcM l) {w:Nat}(hw:w<l.length):∃ n,Rch l 0 n w:=by
 have w1:(PS l l.length).1.length=1:=by unfold ZcM at h;omega
 have e1:PS l 1=([ZcY l 0 l.length],Zeq l 0 (List.replicate l.length false) l.length):=by
  have g:gi (PS l 0).2 0=false:=by
   show gi (List.replicate l.length false) 0=false;rw [Zaz (by simp;omega)];simp
  rw [PS,if_neg (by rw [g];decide)];rfl
 have key:∀ n,n+1≤l.length→PS l (n+1)=PS l 1:=by
  intro n
  induction n with
  | zero=>intro _;rfl
  | succ n ih =>
   intro hn;have i:=ih (by omega);have m:=Zi9 (l:=l) (n:=n+2) (m:=l.length) (by omega);rw [PS];split
   ·exact i
   ·rename_i c;rw [PS,if_neg c] at m;have:=Zi9 (l:=l) (n:=1) (m:=n+1) (by omega);rw [e1] at this;simp at m this;omega
 have k:=key (l.length-1) (by omega);rw [show l.length-1+1=l.length by omega] at k;have met:=ZlG (l:=l) l.length (by omega) w hw;rw [k,e1] at met;dsimp only at met;unfold Zeq at met;rw [ZbM hw,if_pos hw] at met;have g:gi (List.replicate l.length false) w=false:=by
  rw [Zaz (by simpa using hw)];simp
 rw [g,Bool.false_or] at met;exact Zgo.1 met
/-! All Zep are in the faces. -/
theorem ZmX {l:List Za}{n:Nat}{met:List Da}{x:Da}(h:x ∉ met):x∈walk l (n+1) met x:=by
 rw [walk,if_neg h];simp
theorem Zld {l:List Za}{s:List Da×List (List Da)}{p q:Da}(h:q∈s.1):q∈(stF l s p).1:=by
 unfold stF;split
 ·exact h
 ·exact List.mem_append.2 (.inl h)
theorem Zoa {l:List Za}{s:List Da×List (List Da)}{p:Da}(h:0≤nx l p.1 p.2):p∈(stF l s p).1:=by
 unfold stF;split
 ·rename_i c;rcases c with c|c
  ·omega
  ·exact c
 ·rename_i c;exact List.mem_append.2 (.inr (ZmX fun q=>c (.inr q)))
theorem ZjG {l:List Za}{v:Nat}{s:List Da×List (List Da)}{q:Da}(h:q∈s.1):∀ e,q∈(Zhk l v s e).1
 | 0=>h
 | e+1=>Zld (ZjG h e)
theorem ZjF {l:List Za}{v:Nat}{s:List Da×List (List Da)}{d:Nat}(h:0≤nx l v d):∀ e,d<e→(v,d)∈(Zhk l v s e).1
 | e+1,he=>by
  rw [Zhk];by_cases c:d=e
  ·subst c;exact Zoa h
  ·exact Zld (ZjF h e (by omega))
theorem ZlD {l:List Za}{v d:Nat}(hd:d<4) (h:0≤nx l v d):∀ n,v<n→(v,d)∈(FS l n).1
 | n+1,hn=>by
  rw [FS];by_cases c:v=n
  ·subst c;exact ZjF h 4 hd
  ·exact ZjG (ZlD hd h n (by omega)) 4
theorem Zlq {l:List Za}(hc:Ck l) {p:Da}:p∈(faces l).flatten↔isD l p:=by
 constructor
 ·exact (ZfF hc).2.2.2.2 p
 ·intro h;have fl:=(ZgR hc l.length (by omega)).fl;unfold faces;rw [fl];exact ZlD h.2.1 h.2.2 _ h.1
/-! Sums over lists of Zep. -/
theorem ZhM {α:Type}{f:α→Int}{l m:List α}(h:l.Perm m):(l.map f).sum=(m.map f).sum:=by
 induction h with
 | nil=>rfl
 | cons x _ ih=>simp [ih]
 | swap x y l=>simp;omega
 | trans _ _ i1 i2=>rw [i1,i2]
def Zep (l:List Za):List Da:=(List.range l.length).flatMap fun v=>((List.range 4).filter fun d=>decide (0≤nx l v d)).map fun d=>(v,d)
theorem Zlv {l:List Za}{p:Da}:p∈Zep l↔isD l p:=by
 unfold Zep isD;simp only [List.mem_flatMap,List.mem_range,List.mem_map,List.mem_filter,decide_eq_true_eq];constructor
 ·rintro ⟨v,hv,d,⟨hd,h⟩,rfl⟩;exact ⟨hv,hd,h⟩
 ·rintro ⟨h1,h2,h3⟩;exact ⟨p.1,h1,p.2,⟨h2,h3⟩,rfl⟩
theorem Zmm {l:List Za}:(Zep l).Nodup:=by
 unfold Zep;rw [List.Nodup,List.pairwise_flatMap];refine ⟨fun v _=>?_,?_⟩
 ·rw [List.pairwise_map];refine (List.Pairwise.filter _ (List.nodup_range (n:=4))).imp ?_;intro a b h e;exact h (congrArg Prod.snd e)
 ·refine (List.nodup_range (n:=l.length)).imp ?_;intro a b h x hx y hy e;obtain ⟨d,_,rfl⟩:=List.mem_map.1 hx;obtain ⟨d',_,rfl⟩:=List.mem_map.1 hy;exact h (congrArg Prod.fst e)
theorem ZgE {f:Da→Int}:∀ L:List (List Da),(L.flatten.map f).sum=(L.map fun x=>(x.map f).sum).sum
 | []=>rfl
 | x::L=>by rw [List.flatten_cons,List.map_append,List.sum_append,ZgE L,List.map_cons,List.sum_cons]
theorem ZgQ {f:Nat→Int}:∀ n,((List.range n).map f).sum=sg f n
 | 0=>rfl
 | n+1=>by rw [List.range_succ,List.map_append,List.sum_append,ZgQ n,sg];simp
theorem Zl6 {l:List Za}{f:Da→Int}:((Zep l).map f).sum=sg (fun v=>sg (fun d=>if 0≤nx l v d then f (v,d) else 0) 4) l.length:=by
 unfold Zep;rw [← ZgQ];generalize List.range l.length=vs
 induction vs with
 | nil=>rfl
 | cons v vs ih =>
  rw [List.flatMap_cons,List.map_append,List.sum_append,ih,List.map_cons,List.sum_cons];congr 1;rw [← ZgQ];generalize List.range 4=ds
  induction ds with
  | nil=>rfl
  | cons d ds ih2 =>
   rw [List.filter_cons];by_cases c:0≤nx l v d
   ·rw [if_pos (by simpa using c),List.map_cons,List.map_cons,List.sum_cons,ih2,List.map_cons,List.sum_cons,if_pos c]
   ·rw [if_neg (by simpa using c),ih2,List.map_cons,List.sum_cons,if_neg c];omega
theorem ZnX {f:Nat→Int}:sg f 4=f 0+f 1+f 2+f 3:=by
 show 0+f 0+f 1+f 2+f 3=_;omega
def arr (l:List Za) (w d:Nat):Int :=
 if 0≤nx l w ((d+1)%4) then 1 else if 0≤nx l w d then 0 else if 0≤nx l w ((d+3)%4) then -1 else -2
theorem Zq3 {l:List Za}{p:Da}(h:p.2<4):tn p.2 (bh l p).2=arr l (nx l p.1 p.2).toNat p.2:=by
 unfold bh arr tn;have h1:¬ (p.2+1)%4=p.2:=by omega
 have h2:¬ (p.2+3)%4=p.2:=by omega
 have h3:¬ (p.2+2)%4=p.2:=by omega
 have h4:¬ (p.2+3)%4=(p.2+1)%4:=by omega
 have h5:¬ (p.2+2)%4=(p.2+1)%4:=by omega
 have h6:¬ (p.2+2)%4=(p.2+3)%4:=by omega
 by_cases c0:0≤nx l (nx l p.1 p.2).toNat ((p.2+1)%4)
 ·simp [c0,h1]
 ·by_cases c1:0≤nx l (nx l p.1 p.2).toNat p.2
  ·simp [c0,c1]
  ·by_cases c2:0≤nx l (nx l p.1 p.2).toNat ((p.2+3)%4)
   ·simp [c0,c1,c2,h2,h4]
   ·simp [c0,c1,c2,h3,h5,h6]
def deg (l:List Za) (w:Nat):Int:=sg (fun d=>if 0≤nx l w d then 1 else 0) 4
theorem ZjX {l:List Za}{w:Nat}(h:∃ d,d<4∧0≤nx l w d):sg (fun d=>if 0≤nx l w ((d+2)%4) then arr l w d else 0) 4=2*deg l w-4:=by
 unfold deg;rw [ZnX,ZnX];unfold arr;simp only [show (0+2)%4=2 from rfl,show (1+2)%4=3 from rfl,show (2+2)%4=0 from rfl,show (3+2)%4=1 from rfl,show (0+1)%4=1 from rfl,show (1+1)%4=2 from rfl,show (2+1)%4=3 from rfl,show (3+1)%4=0 from rfl,show (0+3)%4=3 from rfl,show (1+3)%4=0 from rfl,show (2+3)%4=1 from rfl,show (3+3)%4=2 from rfl];by_cases c0:0≤nx l w 0<;>by_cases c1:0≤nx l w 1<;>by_cases c2:0≤nx l w 2<;>by_cases c3:0≤nx l w 3<;>simp [c0,c1,c2,c3];obtain ⟨d,hd,q⟩:=h;have:d=0∨d=1∨d=2∨d=3:=by omega
 rcases this with rfl|rfl|rfl|rfl<;>omega
theorem Zjk {f g:Nat→Int}:∀ {n:Nat},sg (fun i=>f i-g i) n=sg f n-sg g n
 | 0=>rfl
 | n+1=>by rw [sg,sg,sg,Zjk (n:=n)];omega
theorem Ck.back' {l:List Za}(h:Ck l) {v d w:Nat}(hv:v<l.length) (hd:d<4) (hw:nx l v d=w):w<l.length∧nx l w ((d+2)%4)=v:=by
 rcases h.s v d hv hd with ⟨a,_⟩|⟨u,a,b,_,c,_⟩
 ·omega
 ·have:w=u:=by omega
  subst this;exact ⟨b,c⟩
theorem ZmU {l:List Za}(hc:Ck l) {d:Nat}(hd:d<4) {f g:Nat→Int}(hf:∀ v,v<l.length→nx l v d<0→f v=0) (hg:∀ v,v<l.length→nx l v ((d+2)%4)<0→g v=0) (h:∀ v w:Nat,v<l.length→w<l.length→nx l v d=w→f v=g w):sg f l.length=sg g l.length:=by
 have e1:sg f l.length=sg (fun v=>sg (fun w=>if nx l v d=w then f v else 0) l.length) l.length:=by
  refine Zc9 fun v hv=>?_;have hlt:=hc.lt hv hd;by_cases c:nx l v d<0
  ·rw [hf v hv c,ZfW];intro i _;rw [if_neg (by omega)]
  ·rw [Zjj (j:=(nx l v d).toNat) (by omega)]
   ·rw [if_pos (by omega)]
   ·intro i _ hne;rw [if_neg (by omega)]
 have e2:sg g l.length=sg (fun w=>sg (fun v=>if nx l w ((d+2)%4)=v then g w else 0) l.length) l.length:=by
  refine Zc9 fun v hv=>?_;have hlt:=hc.lt hv (show (d+2)%4<4 by omega);by_cases c:nx l v ((d+2)%4)<0
  ·rw [hg v hv c,ZfW];intro i _;rw [if_neg (by omega)]
  ·rw [Zjj (j:=(nx l v ((d+2)%4)).toNat) (by omega)]
   ·rw [if_pos (by omega)]
   ·intro i _ hne;rw [if_neg (by omega)]
 rw [e1,e2,Zhs];refine Zc9 fun w hw=>Zc9 fun v hv=>?_;by_cases c:nx l v d=w
 ·have:=(hc.back' hv hd c).2;rw [if_pos c,if_pos this,h v w hv hw c]
 ·rw [if_neg c,if_neg];intro q;have:=(hc.back' hw (show (d+2)%4<4 by omega) q).2;rw [show ((d+2)%4+2)%4=d by omega] at this;exact c this
theorem ZgN:∀ {R:List Int}{i a b:Int},Ze6 R i a=some b→0≤i→R.sum=4*(R.length:Int)-(if 0≤b∧a<0 then 8 else 0)
 | [],i,a,b,h,hi=>by
  simp only [Ze6,Option.some.injEq] at h;subst h;rw [if_neg (by omega)];rfl
 | r::R,i,a,b,h,hi=>by
  rw [Ze6] at h;rw [List.sum_cons,List.length_cons];by_cases c1:r=4
  ·rw [if_pos c1] at h;have:=ZgN h (by omega);rw [this];omega
  ·rw [if_neg c1] at h;by_cases c2:r=-4
   ·rw [if_pos c2] at h;by_cases c3:0≤a
    ·rw [if_pos c3] at h;cases h
    ·rw [if_neg c3] at h;have:=ZgN h (by omega);have rg:=ZgM h (by omega) (by omega);rw [if_neg (by omega)] at this;rw [this,if_pos (by omega)];omega
   ·rw [if_neg c2] at h;cases h
theorem Zj5 {l:List Za}{a:Int}(h:Zg6 l=some a) (ha:0≤a):((faces l).flatten.map fun p=>tn p.2 (bh l p).2).sum=4*((faces l).length:Int)-8:=by
 have:=ZgN h (by omega);rw [if_pos (by omega),List.length_map] at this;rw [ZgE,← this];rfl
end Mu
/- Layer 12: faces are the ways round of 'behind';what stays of them where cells are turned or split. -/
namespace Mu
def prv (A:Nat→Bool) (d:Nat):Nat:=if A ((d+1)%4)=true then (d+1)%4 else if A d=true then d else if A ((d+3)%4)=true then (d+3)%4 else (d+2)%4
def ZcL (a b c d:Bool) (n:Nat):Bool:=if n=0 then a else if n=1 then b else if n=2 then c else d
theorem ZmK:∀ a b c d:Bool,∀ i j:Fin 4,ZcL a b c d ((i.1+2)%4)=true→ZcL a b c d ((j.1+2)%4)=true→prv (ZcL a b c d) i.1=prv (ZcL a b c d) j.1→i=j:=by decide
theorem Zd7 {A:Nat→Bool}{n:Nat}(h:n<4):ZcL (A 0) (A 1) (A 2) (A 3) n=A n:=by
 have:n=0∨n=1∨n=2∨n=3:=by omega
 rcases this with rfl|rfl|rfl|rfl<;>rfl
theorem ZdL {A:Nat→Bool}{d:Nat}(h:d<4):prv (ZcL (A 0) (A 1) (A 2) (A 3)) d=prv A d:=by
 unfold prv;rw [Zd7 (by omega),Zd7 h,Zd7 (by omega)]
theorem ZnV {A:Nat→Bool}{i j:Nat}(hi:i<4) (hj:j<4) (h1:A ((i+2)%4)=true) (h2:A ((j+2)%4)=true) (h:prv A i=prv A j):i=j:=by
 have:=ZmK (A 0) (A 1) (A 2) (A 3) ⟨i,hi⟩ ⟨j,hj⟩ (by dsimp only;rw [Zd7 (by omega)];exact h1) (by dsimp only;rw [Zd7 (by omega)];exact h2) (by dsimp only;rw [ZdL hi,ZdL hj];exact h);exact congrArg Fin.val this
theorem Zef {l:List Za}{p:Da}:bh l p=((nx l p.1 p.2).toNat,prv (fun e=>decide (0≤nx l (nx l p.1 p.2).toNat e)) p.2):=by
 unfold bh prv;simp only [decide_eq_true_eq];split
 ·rfl
 ·split
  ·rfl
  ·split<;>rfl
theorem Zgf {l:List Za}(hc:Ck l) {p q:Da}(hp:isD l p) (hq:isD l q) (h:bh l p=bh l q):p=q:=by
 have f:=hp.fwd hc;have g:=hq.fwd hc;rw [Zef,Zef] at h;injection h with h1 h2
 rw [← h1] at h2 g;have d:p.2=q.2:=ZnV hp.2.1 hq.2.1 (by simp;rw [f.2];omega) (by simp;rw [g.2];omega) h2;have v:p.1=q.1:=by
  have a:=f.2;have b:=g.2;rw [← d] at b;rw [a] at b;omega
 exact Prod.ext v d
def it (l:List Za):Nat→Da→Da
 | 0,x=>x
 | n+1,x=>bh l (it l n x)
theorem Zmz {l:List Za}:∀ n x,it l n (bh l x)=it l (n+1) x
 | 0,_=>rfl
 | n+1,x=>by rw [it,Zmz n x];rfl
theorem Zg3 {l:List Za}(hc:Ck l) {x:Da}(hx:isD l x):∀ n,isD l (it l n x)
 | 0=>hx
 | n+1=>(Zg3 hc hx n).bh hc
theorem Zjo {l:List Za}(hc:Ck l):∀ (n:Nat) (met:List Da) (x:Da),Mets l met→isD l x→4*l.length<met.length+n→∃ K,walk l n met x=(List.range K).map (fun i=>it l i x)∧it l K x∈met++walk l n met x
 | 0,met,x,h,_,hn=>by have:=h.len;omega
 | n+1,met,x,h,hx,hn=>by
  rw [walk];by_cases c:x∈met
  ·rw [if_pos c];exact ⟨0,rfl,by rw [List.append_nil];exact c⟩
  ·rw [if_neg c];obtain ⟨K,e1,e2⟩:=Zjo hc n (met++[x]) (bh l x) (h.snoc hx c) (hx.bh hc) (by simp;omega);refine ⟨K+1,?_,?_⟩
   ·rw [e1,List.range_succ_eq_map,List.map_cons,List.map_map];congr 1;exact List.map_congr_left fun i _=>Zmz i x
   ·rw [Zmz] at e2;rw [List.append_assoc] at e2;exact e2
structure Cyc (l:List Za) (f:List Da):Prop where
 ne:f≠[]
 nd:f.Nodup
 is:∀ p∈f,isD l p
 cl:∀ p∈f,bh l p∈f
 one:∀ C:Da→Prop,(∀ x,isD l x→C x→C (bh l x))→∀ p∈f,∀ q∈f,C p→C q
theorem Cyc.sub {l:List Za}{f g:List Da}(hf:Cyc l f) (hg:Cyc l g) {p:Da}(h1:p∈f) (h2:p∈g):∀ q∈f,q∈g :=
 fun q hq=>hf.one (fun x=>x∈g) (fun x _ hx=>hg.cl x hx) p h1 q hq h2
theorem Cyc.perm {l:List Za}{f g:List Da}(hf:Cyc l f) (hg:Cyc l g) {p:Da}(h1:p∈f) (h2:p∈g):f.Perm g :=
 (List.perm_ext_iff_of_nodup hf.nd hg.nd).2 fun q=>⟨hf.sub hg h1 h2 q,hg.sub hf h2 h1 q⟩
theorem ZiP {M N:List Da}(hM:M.Nodup) (hN:N.Nodup) (hs:∀ x∈M,x∈N) (hl:N.length≤M.length):∀ x∈N,x∈M:=by
 intro x hx;refine Classical.byContradiction fun h=>?_;have:=(List.nodup_cons.2 ⟨h,hM⟩).length_le_of_subset (l₂:=N) (fun y hy=>by
  rcases List.mem_cons.1 hy with rfl|hy
  ·exact hx
  ·exact hs y hy)
 simp at this;omega
theorem Zj0 {l:List Za}(hc:Ck l) {M:List Da}(hM:Mets l M) (cl:∀ p∈M,bh l p∈M) {x:Da}(hx:isD l x) (h:bh l x∈M):x∈M:=by
 have nd:(M.map (bh l)).Nodup:=List.pairwise_map.2 (hM.nd.imp_of_mem fun {p q} hp hq hne he=>hne (Zgf hc (hM.is p hp) (hM.is q hq) he));have:=ZiP nd hM.nd (fun y hy=>by
  obtain ⟨p,hp,rfl⟩:=List.mem_map.1 hy;exact cl p hp) (by simp) _ h
 obtain ⟨z,hz,e⟩:=List.mem_map.1 this;rw [← Zgf hc (hM.is z hz) hx e];exact hz
theorem ZhU {l:List Za}(hc:Ck l) {M:List Da}(hM:Mets l M) (cl:∀ p∈M,bh l p∈M) {x:Da}(hx:isD l x) (hn:x ∉ M):Cyc l (walk l (4*l.length+1) M x)∧∀ p∈M++walk l (4*l.length+1) M x,bh l p∈M++walk l (4*l.length+1) M x:=by
 obtain ⟨K,e1,e2⟩:=Zjo hc (4*l.length+1) M x hM hx (by omega);have hw:=Mets.walk (n:=4*l.length+1) hc hM hx;have wis:=Zjn (n:=4*l.length+1) (met:=M) hc hx;have wnd:(walk l (4*l.length+1) M x).Nodup:=(List.nodup_append.1 hw.nd).2.1;generalize walk l (4*l.length+1) M x=w at *;have notM:∀ i,it l i x ∉ M:=by
  intro i
  induction i with
  | zero=>exact hn
  | succ i ih=>exact fun h=>ih (Zj0 hc hM cl (Zg3 hc hx i) h)
 have memw:∀ {y},y∈w↔∃ i,i<K∧it l i x=y:=by
  intro y;rw [e1];simp [List.mem_map,List.mem_range]
 have inj:∀ i j,i<K→j<K→it l i x=it l j x→i=j:=by
  intro i j hi hj h;rw [e1] at wnd;have:=List.pairwise_map.1 wnd;rw [List.pairwise_iff_getElem] at this;refine Classical.byContradiction fun hne=>?_;rcases Nat.lt_or_gt_of_ne hne with q|q
  ·exact this i j (by simpa using hi) (by simpa using hj) q (by simpa using h)
  ·exact this j i (by simpa using hj) (by simpa using hi) q (by simpa using h.symm)
 have back:it l K x=x:=by
  rcases List.mem_append.1 e2 with h|h
  ·exact absurd h (notM K)
  ·obtain ⟨j,hj,e⟩:=memw.1 h
   cases j with
   | zero=>exact e.symm
   | succ j =>
    cases K with
    | zero=>omega
    | succ K =>
     have:=Zgf hc (Zg3 hc hx j) (Zg3 hc hx K) e;have:=inj j K (by omega) (by omega) this;omega
 have hK:0<K:=by
  cases K with
  | zero=>rw [e1] at e2;simp [it] at e2;exact absurd e2 hn
  | succ K=>omega
 have wcl:∀ p∈w,bh l p∈w:=by
  intro p hp;obtain ⟨i,hi,rfl⟩:=memw.1 hp;by_cases c:i+1<K
  ·exact memw.2 ⟨i+1,c,rfl⟩
  ·have:i+1=K:=by omega
   refine memw.2 ⟨0,hK,?_⟩;show x=it l (i+1) x;rw [this,back]
 refine ⟨⟨?_,wnd,wis,wcl,?_⟩,?_⟩
 ·intro h;have:x∈w:=memw.2 ⟨0,hK,rfl⟩;rw [h] at this;simp at this
 ·intro C hC p hp q hq hCp;obtain ⟨i,hi,rfl⟩:=memw.1 hp;obtain ⟨j,hj,rfl⟩:=memw.1 hq;have up:∀ m,C (it l (i+m) x):=by
   intro m
   induction m with
   | zero=>exact hCp
   | succ m ih=>exact hC _ (Zg3 hc hx _) ih
  have h0:C x:=by
   have:=up (K-i);rw [show i+(K-i)=K by omega,back] at this;exact this
  have up0:∀ m,C (it l m x):=by
   intro m
   induction m with
   | zero=>exact h0
   | succ m ih=>exact hC _ (Zg3 hc hx _) ih
  exact up0 j
 ·intro p hp;rcases List.mem_append.1 hp with h|h
  ·exact List.mem_append.2 (.inl (cl p h))
  ·exact List.mem_append.2 (.inr (wcl p h))
structure FC (l:List Za) (s:List Da×List (List Da)):Prop where
 fi:FI l s
 cl:∀ p∈s.1,bh l p∈s.1
 cy:∀ f∈s.2,Cyc l f
theorem FC.st {l:List Za}(hc:Ck l) {s:List Da×List (List Da)}(h:FC l s) {p:Da}(h1:p.1<l.length) (h2:p.2<4):FC l (stF l s p):=by
 refine ⟨h.fi.st hc h1 h2,?_,?_⟩<;>unfold stF
 ·split
  ·exact h.cl
  ·rename_i c;exact (ZhU hc h.fi.m h.cl ⟨h1,h2,by omega⟩ fun q=>c (.inr q)).2
 ·split
  ·exact h.cy
  ·rename_i c;intro f hf;rcases List.mem_append.1 hf with k|k
   ·exact h.cy f k
   ·rw [List.mem_singleton.1 k];exact (ZhU hc h.fi.m h.cl ⟨h1,h2,by omega⟩ fun q=>c (.inr q)).1
theorem FC.row {l:List Za}(hc:Ck l) {s:List Da×List (List Da)}(h:FC l s) {v:Nat}(hv:v<l.length):∀ e,e≤4→FC l (Zhk l v s e)
 | 0,_=>h
 | e+1,he=>(FC.row hc h hv e (by omega)).st hc hv (by dsimp only;omega)
theorem ZlC {l:List Za}(hc:Ck l):∀ v,v≤l.length→FC l (FS l v)
 | 0,_=>⟨ZgR hc 0 (by omega),by simp [FS],by simp [FS]⟩
 | v+1,hv=>(ZlC hc v (by omega)).row hc (by omega) 4 (by omega)
theorem Zc0 {l:List Za}(hc:Ck l):∀ f∈faces l,Cyc l f:=(ZlC hc l.length (by omega)).cy
theorem ZhA {l:List Za}(hc:Ck l) {i j:Nat}(hi:i<(faces l).length) (hj:j<(faces l).length) {p:Da}(h1:p∈gi (faces l) i) (h2:p∈gi (faces l) j):i=j:=by
 have nd:=(ZfF hc).2.2.2.1;rw [List.Nodup,List.pairwise_flatten] at nd;have:=nd.2;rw [List.pairwise_iff_getElem] at this;rw [Zaz hi] at h1;rw [Zaz hj] at h2;refine Classical.byContradiction fun hne=>?_;rcases Nat.lt_or_gt_of_ne hne with q|q
 ·exact this i j hi hj q p h1 p h2 rfl
 ·exact this j i hj hi q p h2 p h1 rfl
def Val (l:List Za):Prop:=(∀ i,i<(faces l).length→Zbg l (gi (faces l) i)=4∨Zbg l (gi (faces l) i)=-4)∧(∃ i,i<(faces l).length∧Zbg l (gi (faces l) i)=-4)∧∀ i j,i<(faces l).length→j<(faces l).length→Zbg l (gi (faces l) i)=-4→Zbg l (gi (faces l) j)=-4→i=j
theorem ZgL:∀ {R:List Int}{i a:Int},0≤i→-1≤a→((∃ b,Ze6 R i a=some b∧0≤b)↔(∀ k,k<R.length→gi R k=4∨gi R k=-4)∧(if 0≤a then ∀ k,k<R.length→gi R k≠-4 else (∃ k,k<R.length∧gi R k=-4)∧∀ k m,k<R.length→m<R.length→gi R k=-4→gi R m=-4→k=m))
 | [],i,a,hi,ha=>by
  simp only [Ze6,List.length_nil];constructor
  ·rintro ⟨b,h,hb⟩;simp only [Option.some.injEq] at h;subst h;rw [if_pos hb];exact ⟨fun k hk=>by omega,fun k hk=>by omega⟩
  ·rintro ⟨_,h⟩;by_cases c:0≤a
   ·exact ⟨a,rfl,c⟩
   ·rw [if_neg c] at h;obtain ⟨⟨k,hk,_⟩,_⟩:=h;omega
 | r::R,i,a,hi,ha=>by
  have g0:gi (r::R) 0=r:=rfl;have gs:∀ k,gi (r::R) (k+1)=gi R k:=fun k=>rfl;rw [Ze6];by_cases c1:r=4
  ·rw [if_pos c1,ZgL (R:=R) (by omega) ha];have all:(∀ k,k<R.length→gi R k=4∨gi R k=-4)↔∀ k,k<(r::R).length→gi (r::R) k=4∨gi (r::R) k=-4:=by
    constructor
    ·intro h k hk
     cases k with
     | zero=>exact .inl c1
     | succ k=>exact h k (by simp at hk;omega)
    ·intro h k hk;exact h (k+1) (by simp;omega)
   rw [all];by_cases c:0≤a
   ·rw [if_pos c,if_pos c];refine and_congr_right fun _=>⟨fun h k hk=>?_,fun h k hk=>h (k+1) (by simp;omega)⟩
    cases k with
    | zero=>rw [g0];omega
    | succ k=>exact h k (by simp at hk;omega)
   ·rw [if_neg c,if_neg c];refine and_congr_right fun _=>⟨?_,?_⟩
    ·rintro ⟨⟨k,hk,e⟩,u⟩;refine ⟨⟨k+1,by simp;omega,e⟩,fun k m hk hm e1 e2=>?_⟩
     cases k with
     | zero=>rw [g0] at e1;omega
     | succ k =>
      cases m with
      | zero=>rw [g0] at e2;omega
      | succ m=>rw [u k m (by simp at hk;omega) (by simp at hm;omega) e1 e2]
    ·rintro ⟨⟨k,hk,e⟩,u⟩
     cases k with
     | zero=>rw [g0] at e;omega
     | succ k=>exact ⟨⟨k,by simp at hk;omega,e⟩,fun k m hk hm e1 e2=>by have:=u (k+1) (m+1) (by simp;omega) (by simp;omega) e1 e2;omega⟩
  ·rw [if_neg c1];by_cases c2:r=-4
   ·rw [if_pos c2];by_cases c:0≤a
    ·rw [if_pos c,if_pos c];constructor
     ·rintro ⟨b,h,_⟩;cases h
     ·rintro ⟨_,h⟩;exact absurd c2 (h 0 (by simp))
    ·rw [if_neg c,if_neg c,ZgL (R:=R) (by omega) (by omega),if_pos hi];constructor
     ·rintro ⟨h1,h2⟩;refine ⟨fun k hk=>?_,⟨0,by simp,c2⟩,fun k m hk hm e1 e2=>?_⟩
      ·cases k with
       | zero=>exact .inr c2
       | succ k=>exact h1 k (by simp at hk;omega)
      ·cases k with
       | zero =>
        cases m with
        | zero=>rfl
        | succ m=>exact absurd e2 (h2 m (by simp at hm;omega))
       | succ k=>exact absurd e1 (h2 k (by simp at hk;omega))
     ·rintro ⟨h1,_,u⟩;refine ⟨fun k hk=>h1 (k+1) (by simp;omega),fun k hk e=>?_⟩;have:=u 0 (k+1) (by simp) (by simp;omega) c2 e;omega
   ·rw [if_neg c2];constructor
    ·rintro ⟨b,h,_⟩;cases h
    ·rintro ⟨h,_⟩;have:=h 0 (by simp);rw [g0] at this;omega
theorem Zg7 {l:List Za}:(∃ a,Zg6 l=some a∧0≤a)↔Val l:=by
 unfold Zg6;rw [ZgL (by omega) (by omega),if_neg (by omega)];unfold Val;rw [List.length_map];have g:∀ k,k<(faces l).length→gi ((faces l).map (Zbg l)) k=Zbg l (gi (faces l) k):=fun k hk=>Zcd hk;refine and_congr ⟨fun h i hi=>by rw [← g i hi];exact h i hi,fun h i hi=>by rw [g i hi];exact h i hi⟩ (and_congr ⟨?_,?_⟩ ⟨?_,?_⟩)
 ·rintro ⟨k,hk,e⟩;exact ⟨k,hk,by rw [← g k hk];exact e⟩
 ·rintro ⟨k,hk,e⟩;exact ⟨k,hk,by rw [g k hk];exact e⟩
 ·intro u i j hi hj e1 e2;exact u i j hi hj (by rw [g i hi];exact e1) (by rw [g j hj];exact e2)
 ·intro u i j hi hj e1 e2;exact u i j hi hj (by rw [← g i hi];exact e1) (by rw [← g j hj];exact e2)
theorem ZhT {l:List Za}:ZeZ l=0↔Zfe l=0∧ZcM l∧(l.length≠1→Val l):=by
 constructor
 ·intro h;obtain ⟨a,b,c⟩:=Zoh h;exact ⟨a,b,fun h1=>Zg7.1 (c h1)⟩
 ·rintro ⟨a,b,c⟩;unfold ZeZ;rw [if_pos a,if_pos b];by_cases h1:l.length=1
  ·rw [if_pos h1]
  ·rw [if_neg h1];obtain ⟨x,e,hx⟩:=Zg7.2 (c h1);rw [e];dsimp only;rw [if_pos hx]
theorem Zl0 {α:Type}{f:α→Int}{l m:List α}(h:l.Perm m):(l.map f).sum=(m.map f).sum:=by
 induction h with
 | nil=>rfl
 | cons x _ ih=>simp [ih]
 | swap x y l=>simp;omega
 | trans _ _ i1 i2=>rw [i1,i2]
structure Ins (l m:List Za) (ins:Da→List Da):Prop where
 ne:∀ p,isD l p→ins p≠[]
 nd:∀ p,isD l p→(ins p).Nodup
 is:∀ p,isD l p→∀ x∈ins p,isD m x
 dj:∀ p q,isD l p→isD l q→∀ x,x∈ins p→x∈ins q→p=q
 sm:∀ p,isD l p→((ins p).map fun x=>tn x.2 (bh m x).2).sum=tn p.2 (bh l p).2
 cl:∀ p,isD l p→∀ x∈ins p,bh m x∈ins p∨bh m x∈ins (bh l p)
 on:∀ C:Da→Prop,(∀ x,isD m x→C x→C (bh m x))→∀ p,isD l p→(∃ x,x∈ins p∧C x)→∀ y∈ins (bh l p),C y
 al:∀ x,isD m x→∃ p,isD l p∧x∈ins p
theorem Ins.cyc {l m:List Za}{ins:Da→List Da}(h:Ins l m ins) (hc:Ck l) {f:List Da}(hf:Cyc l f):Cyc m (f.flatMap ins):=by
 refine ⟨?_,?_,?_,?_,?_⟩
 ·intro e;obtain ⟨p,hp⟩:=List.exists_mem_of_ne_nil f hf.ne;obtain ⟨x,hx⟩:=List.exists_mem_of_ne_nil _ (h.ne p (hf.is p hp));have:x∈f.flatMap ins:=List.mem_flatMap.2 ⟨p,hp,hx⟩;rw [e] at this;simp at this
 ·rw [List.Nodup,List.pairwise_flatMap];refine ⟨fun p hp=>h.nd p (hf.is p hp),hf.nd.imp_of_mem ?_⟩;intro p q hp hq hne x hx y hy e;subst e;exact hne (h.dj p q (hf.is p hp) (hf.is q hq) x hx hy)
 ·intro x hx;obtain ⟨p,hp,hx⟩:=List.mem_flatMap.1 hx;exact h.is p (hf.is p hp) x hx
 ·intro x hx;obtain ⟨p,hp,hx⟩:=List.mem_flatMap.1 hx;rcases h.cl p (hf.is p hp) x hx with k|k
  ·exact List.mem_flatMap.2 ⟨p,hp,k⟩
  ·exact List.mem_flatMap.2 ⟨_,hf.cl p hp,k⟩
 ·intro C hC x hx y hy hCx;obtain ⟨p,hp,hx⟩:=List.mem_flatMap.1 hx;obtain ⟨q,hq,hy⟩:=List.mem_flatMap.1 hy
  -- all that follow are so
  have step:∀ z,isD l z→(∃ x,x∈ins z∧C x)→∃ x,x∈ins (bh l z)∧C x:=by
   intro z hz hx;obtain ⟨w,hw⟩:=List.exists_mem_of_ne_nil _ (h.ne _ (hz.bh hc));exact ⟨w,hw,h.on C hC z hz hx w hw⟩
  have all:∃ x,x∈ins q∧C x:=hf.one (fun z=>∃ x,x∈ins z∧C x) step p hp q hq ⟨x,hx,hCx⟩
  -- once round from q
  have round:∀ z∈f,(∃ w,w∈f∧bh l w=z):=by
   have nd:(f.map (bh l)).Nodup:=List.pairwise_map.2 (hf.nd.imp_of_mem fun {a b} ha hb hne he=>hne (Zgf hc (hf.is a ha) (hf.is b hb) he));intro z hz;have:=ZiP nd hf.nd (fun y hy=>by
    obtain ⟨a,ha,rfl⟩:=List.mem_map.1 hy;exact hf.cl a ha) (by simp) z hz
   obtain ⟨w,hw,e⟩:=List.mem_map.1 this;exact ⟨w,hw,e⟩
  obtain ⟨w,hw,e⟩:=round q hq;have hwC:∃ x,x∈ins w∧C x:=hf.one (fun z=>∃ x,x∈ins z∧C x) step p hp w hw ⟨x,hx,hCx⟩;have:=h.on C hC w (hf.is w hw) hwC;rw [e] at this;exact this y hy
theorem Ins.rot {l m:List Za}{ins:Da→List Da}(h:Ins l m ins) {f:List Da}(hf:∀ p∈f,isD l p):((f.flatMap ins).map fun x=>tn x.2 (bh m x).2).sum=Zbg l f:=by
 unfold Zbg tns
 induction f with
 | nil=>rfl
 | cons p f ih =>
  rw [List.flatMap_cons,List.map_append,List.sum_append,ih fun q hq=>hf q (by simp [hq]),h.sm p (hf p (by simp)),List.map_cons,List.sum_cons]
theorem ZiL {l:List Za}(hc:Ck l) {p:Da}(hp:isD l p) (all:∀ q,isD l q→q∈(faces l).flatten):∃ i,i<(faces l).length∧p∈gi (faces l) i:=by
 obtain ⟨f,hf,h⟩:=List.mem_flatten.1 (all p hp);obtain ⟨i,hi,e⟩:=List.mem_iff_getElem.1 hf;exact ⟨i,hi,by rw [Zaz hi,e];exact h⟩
theorem Ins.val {l m:List Za}{ins:Da→List Da}(h:Ins l m ins) (hc:Ck l) (hm:Ck m) (al:∀ q,isD l q→q∈(faces l).flatten) (am:∀ q,isD m q→q∈(faces m).flatten):Val l↔Val m:=by
 -- faces go with faces
 have key:∀ i j,i<(faces l).length→j<(faces m).length→∀ p x,p∈gi (faces l) i→x∈ins p→x∈gi (faces m) j→Zbg m (gi (faces m) j)=Zbg l (gi (faces l) i)∧∀ y,y∈gi (faces m) j↔∃ q,q∈gi (faces l) i∧y∈ins q:=by
  intro i j hi hj p x hp hx hxj;have cf:=Zc0 hc _ (Zaw hi);have cg:=Zc0 hm _ (Zaw hj);have pm:=(h.cyc hc cf).perm cg (List.mem_flatMap.2 ⟨p,hp,hx⟩) hxj;refine ⟨?_,fun y=>by rw [← pm.mem_iff,List.mem_flatMap]⟩;rw [← h.rot cf.is,Zl0 pm];rfl
 have fwd:∀ i,i<(faces l).length→∃ j,j<(faces m).length∧∃ p x,p∈gi (faces l) i∧x∈ins p∧x∈gi (faces m) j:=by
  intro i hi;have cf:=Zc0 hc _ (Zaw hi);obtain ⟨p,hp⟩:=List.exists_mem_of_ne_nil _ cf.ne;obtain ⟨x,hx⟩:=List.exists_mem_of_ne_nil _ (h.ne p (cf.is p hp));obtain ⟨j,hj,hxj⟩:=ZiL hm (h.is p (cf.is p hp) x hx) am;exact ⟨j,hj,p,x,hp,hx,hxj⟩
 have bwd:∀ j,j<(faces m).length→∃ i,i<(faces l).length∧∃ p x,p∈gi (faces l) i∧x∈ins p∧x∈gi (faces m) j:=by
  intro j hj;have cg:=Zc0 hm _ (Zaw hj);obtain ⟨x,hx⟩:=List.exists_mem_of_ne_nil _ cg.ne;obtain ⟨p,hp,hxp⟩:=h.al x (cg.is x hx);obtain ⟨i,hi,hpi⟩:=ZiL hc hp al;exact ⟨i,hi,p,x,hpi,hxp,hx⟩
 constructor
 ·rintro ⟨v1,⟨i0,hi0,e0⟩,v3⟩;refine ⟨fun j hj=>?_,?_,fun j k hj hk e1 e2=>?_⟩
  ·obtain ⟨i,hi,p,x,a,b,c⟩:=bwd j hj;rw [(key i j hi hj p x a b c).1];exact v1 i hi
  ·obtain ⟨j,hj,p,x,a,b,c⟩:=fwd i0 hi0;exact ⟨j,hj,by rw [(key i0 j hi0 hj p x a b c).1];exact e0⟩
  ·obtain ⟨i,hi,p,x,a,b,c⟩:=bwd j hj;obtain ⟨i',hi',p',x',a',b',c'⟩:=bwd k hk;have k1:=key i j hi hj p x a b c;have k2:=key i' k hi' hk p' x' a' b' c';have:i=i':=v3 i i' hi hi' (by rw [← k1.1];exact e1) (by rw [← k2.1];exact e2);subst this;exact ZhA hm hj hk c ((k2.2 x).2 ⟨p,a,b⟩)
 ·rintro ⟨v1,⟨j0,hj0,e0⟩,v3⟩;refine ⟨fun i hi=>?_,?_,fun i k hi hk e1 e2=>?_⟩
  ·obtain ⟨j,hj,p,x,a,b,c⟩:=fwd i hi;rw [← (key i j hi hj p x a b c).1];exact v1 j hj
  ·obtain ⟨i,hi,p,x,a,b,c⟩:=bwd j0 hj0;exact ⟨i,hi,by rw [← (key i j0 hi hj0 p x a b c).1];exact e0⟩
  ·obtain ⟨j,hj,p,x,a,b,c⟩:=fwd i hi;obtain ⟨j',hj',p',x',a',b',c'⟩:=fwd k hk;have k1:=key i j hi hj p x a b c;have k2:=key k j' hk hj' p' x' a' b' c';have:j=j':=v3 j j' hj hj' (by rw [k1.1];exact e1) (by rw [k2.1];exact e2);subst this;obtain ⟨q,hq,hxq⟩:=(k2.2 x).1 c;have cf:=Zc0 hc _ (Zaw hi);have cf':=Zc0 hc _ (Zaw hk);have:=h.dj p q (cf.is p a) (cf'.is q hq) x b hxq;subst this;exact ZhA hc hi hk a hq
end Mu
/- Layer 10: GridSplits,GridTurns,GridChecks. -/
namespace Mu
theorem ZqP {z:zH}(m1:z.At.length≤Go.maxLen) (b1:∀ y∈z.At,Zil y) (b3:∀ y∈z.Own,Zk7 y):OkZ z:=⟨m1,b1,b3⟩
end Mu
/- Layer 10: GridTurns,GridChecks,GridNil. -/
namespace Mu
end Mu
/- Layer 14: turned cells can be drawn just if they could. -/
namespace Mu
def tdr (p:Da):Da:=(p.1,(p.2+1)%4)
theorem Zhr {l:List Za}{v e:Nat}(hv:v<l.length) (he:e<4):nx (trn l) v ((e+1)%4)=nx l v e:=by
 rw [(Zcu hv (by omega)).1];congr 1;omega
theorem ZiR {l:List Za}{p:Da}(h:p.2<4):isD (trn l) (tdr p)↔isD l p:=by
 unfold isD tdr;dsimp only;rw [Zco];constructor
 ·rintro ⟨a,b,c⟩;rw [Zhr a h] at c;exact ⟨a,h,c⟩
 ·rintro ⟨a,b,c⟩;exact ⟨a,by omega,by rw [Zhr a h];exact c⟩
theorem Zl1:∀ a b c d:Bool,∀ i:Fin 4,prv (ZcL d a b c) ((i.1+1)%4)=(prv (ZcL a b c d) i.1+1)%4:=by decide
theorem ZjV {l:List Za}(hc:Ck l) {p:Da}(h:isD l p):bh (trn l) (tdr p)=tdr (bh l p):=by
 have f:=h.fwd hc;rw [Zef,Zef];unfold tdr;dsimp only;rw [Zhr h.1 h.2.1];refine Prod.ext rfl ?_;dsimp only;have A:∀ e,e<4→(fun e=>decide (0≤nx (trn l) (nx l p.1 p.2).toNat e)) ((e+1)%4)=(fun e=>decide (0≤nx l (nx l p.1 p.2).toNat e)) e:=by
  intro e he;dsimp only;rw [Zhr f.1 he]
 generalize (fun e=>decide (0≤nx (trn l) (nx l p.1 p.2).toNat e))=F at *;generalize (fun e=>decide (0≤nx l (nx l p.1 p.2).toNat e))=G at *;have q:=Zl1 (G 0) (G 1) (G 2) (G 3) ⟨p.2,h.2.1⟩;dsimp only at q;rw [ZdL h.2.1] at q;rw [← q];have f0:=A 3 (by omega);have f1:=A 0 (by omega);have f2:=A 1 (by omega);have f3:=A 2 (by omega);rw [← f0,← f1,← f2,← f3];exact (ZdL (A:=F) (by omega)).symm
theorem Zoc {d e:Nat}(hd:d<4) (he:e<4):tn ((d+1)%4) ((e+1)%4)=tn d e:=by
 have a:d=0∨d=1∨d=2∨d=3:=by omega
 have b:e=0∨e=1∨e=2∨e=3:=by omega
 rcases a with rfl|rfl|rfl|rfl<;>rcases b with rfl|rfl|rfl|rfl<;>rfl
theorem Zob {p q:Da}(hp:p.2<4) (hq:q.2<4) (h:tdr p=tdr q):p=q:=by
 unfold tdr at h;injection h with a b
 exact Prod.ext a (by omega)
theorem Zn5 {l:List Za}(hc:Ck l):Ins l (trn l) fun p=>[tdr p]:=by
 refine ⟨fun p _=>by simp,fun p _=>by simp,fun p hp x hx=>?_,fun p q hp hq x h1 h2=>?_,fun p hp=>?_,fun p hp x hx=>?_,fun C hC p hp hx y hy=>?_,fun x hx=>?_⟩
 ·rw [List.mem_singleton.1 hx];exact (ZiR hp.2.1).2 hp
 ·exact Zob hp.2.1 hq.2.1 (by rw [← List.mem_singleton.1 h1,← List.mem_singleton.1 h2])
 ·rw [List.map_singleton,List.sum_singleton,ZjV hc hp];unfold tdr;exact Zoc hp.2.1 (hp.bh hc).2.1
 ·rw [List.mem_singleton.1 hx,ZjV hc hp];exact .inr (by simp)
 ·obtain ⟨x,hx,hCx⟩:=hx;rw [List.mem_singleton.1 hx] at hCx;rw [List.mem_singleton.1 hy,← ZjV hc hp];exact hC _ ((ZiR hp.2.1).2 hp) hCx
 ·have e:tdr (x.1,(x.2+3)%4)=x:=by
   unfold tdr;refine Prod.ext rfl ?_;have:=hx.2.1;dsimp only;omega
  refine ⟨(x.1,(x.2+3)%4),?_,by rw [e];simp⟩;rw [← ZiR (by dsimp only;omega),e];exact hx
theorem ZjU {l:List Za}(hc:Ck l):∀ q,isD l q→q∈(faces l).flatten:=by
 have sub1:∀ {s:List Da×List (List Da)}{p q:Da},q∈s.1→q∈(stF l s p).1:=by
  intro s p q h;unfold stF;split
  ·exact h
  ·exact List.mem_append.2 (.inl h)
 have has1:∀ {s:List Da×List (List Da)}{p:Da},0≤nx l p.1 p.2→p∈(stF l s p).1:=by
  intro s p h;unfold stF;split
  ·rename_i c;rcases c with c|c
   ·omega
   ·exact c
  ·rename_i c;refine List.mem_append.2 (.inr ?_);rw [walk,if_neg fun q=>c (.inr q)];simp
 have sub2:∀ {v:Nat}{s:List Da×List (List Da)}{q:Da},q∈s.1→∀ e,q∈(Zhk l v s e).1:=by
  intro v s q h e
  induction e with
  | zero=>exact h
  | succ e ih=>exact sub1 ih
 have has2:∀ {v d:Nat}{s:List Da×List (List Da)},0≤nx l v d→∀ e,d<e→(v,d)∈(Zhk l v s e).1:=by
  intro v d s h e
  induction e with
  | zero=>intro he;omega
  | succ e ih =>
   intro he;rw [Zhk];by_cases c:d=e
   ·subst c;exact has1 h
   ·exact sub1 (ih (by omega))
 have has3:∀ {v d:Nat},d<4→0≤nx l v d→∀ n,v<n→(v,d)∈(FS l n).1:=by
  intro v d hd h n
  induction n with
  | zero=>intro hn;omega
  | succ n ih =>
   intro hn;rw [FS];by_cases c:v=n
   ·subst c;exact has2 h 4 hd
   ·exact sub2 (ih (by omega)) 4
 intro q h;have fl:=(ZgR hc l.length (by omega)).fl;unfold faces;rw [fl];exact has3 h.2.1 h.2.2 _ h.1
theorem Zoi {l:List Za}(hc:Ck l):Val (trn l)↔Val l:=((Zn5 hc).val hc hc.turn (ZjU hc) (ZjU hc.turn)).symm
theorem ZlA {l:List Za}(hc:Ck l):ZcM (trn l)↔ZcM l:=by
 unfold ZcM;rw [Zco,ZlH hc l.length (Nat.le_refl _)]
theorem Zli {l:List Za}(h:Zfe l=0):(ZeZ l=0∧ZcM l∧(l.length≠1→Val l))∨(ZeZ l=13∧¬ ZcM l)∨(ZeZ l=10∧ZcM l∧l.length≠1∧¬ Val l):=by
 by_cases w:ZcM l
 ·by_cases c:l.length=1
  ·exact .inl ⟨ZhT.2 ⟨h,w,fun h1=>absurd c h1⟩,w,fun h1=>absurd c h1⟩
  ·by_cases v:Val l
   ·exact .inl ⟨ZhT.2 ⟨h,w,fun _=>v⟩,w,fun _=>v⟩
   ·refine .inr (.inr ⟨?_,w,c,v⟩);have hn:¬ ∃ a,Zg6 l=some a∧0≤a:=fun q=>v (Zg7.1 q);unfold ZeZ;rw [if_pos h,if_pos w,if_neg c]
    cases q:Zg6 l with
    | none=>rfl
    | some a =>
     dsimp only;rw [if_neg fun k=>hn ⟨a,q,k⟩]
 ·refine .inr (.inl ⟨?_,w⟩);unfold ZeZ;rw [if_pos h,if_neg w]
theorem ZjQ {l:List Za}(hc:Ck l) (hl:l.length≤4096):ZeZ (trn l)=ZeZ l:=by
 have k1:Zfe l=0:=ZeG.2 ⟨hl,hc⟩;have k2:Zfe (trn l)=0:=ZeG.2 ⟨by rw [Zco];exact hl,hc.turn⟩;have a:=Zli k1;have b:=Zli k2;rw [ZlA hc,Zoi hc,Zco] at b;rcases a with ⟨a1,a2,a3⟩|⟨a1,a2⟩|⟨a1,a2,a3,a4⟩<;>rcases b with ⟨b1,b2,b3⟩|⟨b1,b2⟩|⟨b1,b2,b3,b4⟩<;>first|exact b1.trans a1.symm|exact absurd a2 b2|exact absurd b2 a2|exact absurd (a3 b3) b4|exact absurd (b3 a3) a4
end Mu
/- Loops of Zep;what becomes of them where an edge is taken out. -/
namespace Mu
def opp (l:List Za) (p:Da):Da:=((nx l p.1 p.2).toNat,(p.2+2)%4)
theorem isD.opp {l:List Za}(hc:Ck l) {p:Da}(h:isD l p):isD l (opp l p):=by
 have f:=h.fwd hc;refine ⟨f.1,by unfold Mu.opp;dsimp only;omega,?_⟩;show 0≤nx l (nx l p.1 p.2).toNat ((p.2+2)%4);rw [f.2];omega
theorem ZcC {l:List Za}(hc:Ck l) {p:Da}(h:isD l p):opp l (opp l p)=p:=by
 have f:=h.fwd hc;have:=h.2.1;unfold opp;refine Prod.ext ?_ (by dsimp only;omega);dsimp only;rw [f.2];omega
theorem Zpu {l:List Za}(hc:Ck l) {p:Da}(h:isD l p):(opp l p).1≠p.1:=by
 rcases hc.s p.1 p.2 h.1 h.2.1 with ⟨a,_⟩|⟨w,a,b,c,_⟩
 ·have:=h.2.2;omega
 ·unfold opp;dsimp only;rw [a,itn];exact c
theorem Zi2 {A B:Nat→Bool}(h:∀ e,e<4→A e=B e) {d:Nat}(hd:d<4):prv A d=prv B d:=by
 unfold prv;rw [h _ (by omega),h _ hd,h _ (by omega)]
theorem ZmL {A:Nat→Bool}{d:Nat}(hd:d<4):prv A d<4:=by
 unfold prv;split
 ·omega
 ·split
  ·omega
  ·split<;>omega
def tt (l:List Za) (p:Da):Int:=tn p.2 (bh l p).2
def Pt (l:List Za):Da→List Da→Da→Prop
 | x,[],y=>x=y
 | x,a::t,y=>x=a∧isD l a∧Pt l (bh l a) t y
theorem Pt.app {l:List Za}:∀ {s t:List Da}{x z:Da},Pt l x (s++t) z↔∃ y,Pt l x s y∧Pt l y t z
 | [],t,x,z=>by
  rw [List.nil_append];constructor
  ·exact fun h=>⟨x,rfl,h⟩
  ·rintro ⟨y,rfl,h⟩;exact h
 | a::s,t,x,z=>by
  rw [List.cons_append,Pt,Pt.app];constructor
  ·rintro ⟨h1,h2,y,h3,h4⟩;exact ⟨y,⟨h1,h2,h3⟩,h4⟩
  ·rintro ⟨y,⟨h1,h2,h3⟩,h4⟩;exact ⟨h1,h2,y,h3,h4⟩
theorem Pt.is {l:List Za}:∀ {s:List Da}{x y:Da},Pt l x s y→∀ p∈s,isD l p
 | [],_,_,_,p,hp=>by simp at hp
 | a::s,x,y,h,p,hp=>by
  rcases List.mem_cons.1 hp with rfl|hp
  ·exact h.2.1
  ·exact Pt.is h.2.2 p hp
structure Lp (l:List Za) (f:List Da):Prop where
 ne:f≠[]
 nd:f.Nodup
 pt:∃ x,Pt l x f x
theorem Lp.turn {l:List Za}{s t:List Da}(h:Lp l (s++t)):Lp l (t++s):=by
 obtain ⟨x,hx⟩:=h.pt;obtain ⟨y,h1,h2⟩:=Pt.app.1 hx;refine ⟨?_,?_,y,Pt.app.2 ⟨x,h2,h1⟩⟩
 ·intro e;obtain ⟨a,b⟩:=List.append_eq_nil_iff.1 e;exact h.ne (by rw [a,b];rfl)
 ·exact (List.perm_append_comm.nodup_iff).1 h.nd
theorem Lp.is {l:List Za}{f:List Da}(h:Lp l f):∀ p∈f,isD l p:=h.pt.choose_spec.is
theorem Lp.hd {l:List Za}{a:Da}{t:List Da}(h:Lp l (a::t)):isD l a∧Pt l (bh l a) t a:=by
 obtain ⟨x,hx⟩:=h.pt;rw [Pt] at hx;obtain ⟨rfl,h1,h2⟩:=hx;exact ⟨h1,h2⟩
theorem Lp.at {l:List Za}{f:List Da}(h:Lp l f) {p:Da}(hp:p∈f):∃ t,Lp l (p::t)∧f.Perm (p::t):=by
 obtain ⟨s,t,rfl⟩:=List.append_of_mem hp;refine ⟨t++s,?_,?_⟩
 ·have:=h.turn;rwa [List.cons_append] at this
 ·exact List.perm_middle.trans (List.Perm.cons _ List.perm_append_comm)
theorem Pt.cl {l:List Za}{C:Da→Prop}(hC:∀ x,isD l x→C x→C (bh l x)):∀ {s:List Da}{x y:Da},Pt l x s y→C x→(∀ p∈s,C p)∧C y
 | [],x,y,h,hx=>by
  rw [Pt] at h;subst h;exact ⟨by simp,hx⟩
 | a::s,x,y,h,hx=>by
  rw [Pt] at h;obtain ⟨rfl,h1,h2⟩:=h;have:=Pt.cl hC h2 (hC _ h1 hx);refine ⟨fun p hp=>?_,this.2⟩;rcases List.mem_cons.1 hp with rfl|hp
  ·exact hx
  ·exact this.1 p hp
theorem Lp.cyc {l:List Za}{f:List Da}(h:Lp l f):Cyc l f:=by
 refine ⟨h.ne,h.nd,h.is,fun p hp=>?_,fun C hC p hp q hq hCp=>?_⟩
 ·obtain ⟨t,h1,h2⟩:=h.at hp;have:=h1.hd.2;rw [h2.mem_iff]
  cases t with
  | nil=>rw [Pt] at this;rw [this];simp
  | cons b t=>rw [Pt] at this;rw [this.1];simp
 ·obtain ⟨t,h1,h2⟩:=h.at hp;have:=(h1.hd.2.cl hC (hC p h1.hd.1 hCp)).1;rcases List.mem_cons.1 (h2.mem_iff.1 hq) with rfl|k
  ·exact hCp
  ·exact this q k
theorem Zop {l:List Za}(hc:Ck l) {x:Da}(hx:isD l x):∀ n,Pt l x ((List.range n).map fun i=>it l i x) (it l n x)
 | 0=>rfl
 | n+1=>by
  rw [List.range_succ,List.map_append,Pt.app];exact ⟨_,Zop hc hx n,rfl,Zg3 hc hx n,rfl⟩
theorem ZmG {l:List Za}(hc:Ck l) {p:Da}(hp:isD l p):∃ t,Lp l (p::t):=by
 obtain ⟨K,e1,e2⟩:=Zjo hc (4*l.length+1) [] p Mets.nil hp (by simp);obtain ⟨C,_⟩:=ZhU hc Mets.nil (by simp) hp (by simp);have nd:=C.nd;rw [List.nil_append] at e2;rw [e1] at nd e2;obtain ⟨j,hj,e⟩:=List.mem_map.1 e2;rw [List.mem_range] at hj;have hK:it l K p=p:=by
  cases j with
  | zero=>exact e.symm
  | succ j =>
   cases K with
   | zero=>omega
   | succ K =>
    have:=Zgf hc (Zg3 hc hp j) (Zg3 hc hp K) e;have q:=List.pairwise_map.1 nd;rw [List.pairwise_iff_getElem] at q;have q2:=q j K (by simp;omega) (by simp) (by omega);rw [List.getElem_range,List.getElem_range] at q2;exact absurd this q2
 have P:=Zop hc hp K;rw [hK] at P
 cases K with
 | zero=>omega
 | succ K =>
  rw [List.range_succ_eq_map,List.map_cons] at P nd;exact ⟨_,by simp,nd,p,P⟩
theorem ZjD {l:List Za}{s t:List Da}:Zbg l (s++t)=Zbg l s+Zbg l t:=by
 unfold Zbg tns;rw [List.map_append,List.sum_append]
theorem Zcr {l:List Za}{a:Da}{t:List Da}:Zbg l (a::t)=tt l a+Zbg l t:=by
 unfold Zbg tns tt;rw [List.map_cons,List.sum_cons]
theorem ZfU {l:List Za}{s t:List Da}(h:s.Perm t):Zbg l s=Zbg l t:=ZhM h
theorem ZjE {l:List Za}:Zbg l []=0:=rfl

/-! An edge taken out. -/
structure Del (l m:List Za) (v d w:Nat):Prop where
 len:m.length=l.length
 hv:v<l.length
 hd:d<4
 hw:w<l.length
 hn:nx l v d=w
 nx:∀ u e,u<l.length→e<4→nx m u e=if u=v∧e=d∨u=w∧e=(d+2)%4 then -1 else nx l u e
theorem Del.e {l m:List Za}{v d w:Nat}(D:Del l m v d w):isD l (v,d):=⟨D.hv,D.hd,by rw [D.hn];omega⟩
theorem Del.opp {l m:List Za}{v d w:Nat}(D:Del l m v d w):Mu.opp l (v,d)=(w,(d+2)%4):=by
 unfold Mu.opp;dsimp only;rw [D.hn,itn]
theorem Del.e' {l m:List Za}(hc:Ck l) {v d w:Nat}(D:Del l m v d w):isD l (w,(d+2)%4):=by
 have:=D.e.opp hc;rwa [D.opp] at this
theorem Del.hb {l m:List Za}(hc:Ck l) {v d w:Nat}(D:Del l m v d w):Mu.nx l w ((d+2)%4)=v:=by
 have:=(D.e.fwd hc).2;dsimp only at this;rwa [D.hn,itn] at this
theorem Del.ne {l m:List Za}(hc:Ck l) {v d w:Nat}(D:Del l m v d w):w≠v:=by
 have:=Zpu hc D.e;rwa [D.opp] at this
theorem Del.isD {l m:List Za}{v d w:Nat}(D:Del l m v d w) {p:Da}:isD m p↔isD l p∧p≠(v,d)∧p≠(w,(d+2)%4):=by
 unfold Mu.isD;rw [D.len];constructor
 ·rintro ⟨a,b,c⟩;rw [D.nx _ _ a b] at c;have hne:¬ (p.1=v∧p.2=d∨p.1=w∧p.2=(d+2)%4):=by
   intro q;rw [if_pos q] at c;omega
  rw [if_neg hne] at c;refine ⟨⟨a,b,c⟩,?_,?_⟩
  ·rintro rfl;exact hne (.inl ⟨rfl,rfl⟩)
  ·rintro rfl;exact hne (.inr ⟨rfl,rfl⟩)
 ·rintro ⟨⟨a,b,c⟩,h1,h2⟩;refine ⟨a,b,?_⟩;rw [D.nx _ _ a b,if_neg]
  ·exact c
  ·rintro (⟨q1,q2⟩|⟨q1,q2⟩)
   ·exact h1 (Prod.ext q1 q2)
   ·exact h2 (Prod.ext q1 q2)
theorem Del.nx' {l m:List Za}{v d w:Nat}(D:Del l m v d w) {p:Da}(h:Mu.isD m p):Mu.nx m p.1 p.2=Mu.nx l p.1 p.2:=by
 obtain ⟨h1,h2,h3⟩:=D.isD.1 h;rw [D.nx _ _ h1.1 h1.2.1,if_neg];rintro (⟨q1,q2⟩|⟨q1,q2⟩)
 ·exact h2 (Prod.ext q1 q2)
 ·exact h3 (Prod.ext q1 q2)
theorem ZmJ:∀ a b c d:Bool,∀ i j:Fin 4,ZcL a b c d j.1=true→ZcL a b c d ((i.1+2)%4)=true→i.1≠(j.1+2)%4 →
  prv (fun e=>ZcL a b c d e&&(e != j.1)) i.1=(if prv (ZcL a b c d) i.1=j.1 then prv (ZcL a b c d) ((j.1+2)%4) else prv (ZcL a b c d) i.1) ∧
  tn i.1 (prv (fun e=>ZcL a b c d e&&(e != j.1)) i.1)=(if prv (ZcL a b c d) i.1=j.1 then tn i.1 (prv (ZcL a b c d) i.1)+tn ((j.1+2)%4) (prv (ZcL a b c d) ((j.1+2)%4))-2 else tn i.1 (prv (ZcL a b c d) i.1)):=by decide +kernel
theorem ZkV {A B:Nat→Bool}{i j:Nat}(hi:i<4) (hj:j<4) (h1:A j=true) (h2:A ((i+2)%4)=true) (h3:i≠(j+2)%4) (hB:∀ e,e<4→B e=(A e&&(e != j))) :
  prv B i=(if prv A i=j then prv A ((j+2)%4) else prv A i)∧tn i (prv B i)=(if prv A i=j then tn i (prv A i)+tn ((j+2)%4) (prv A ((j+2)%4))-2 else tn i (prv A i)):=by
 have:=ZmJ (A 0) (A 1) (A 2) (A 3) ⟨i,hi⟩ ⟨j,hj⟩ (by dsimp only;rw [Zd7 hj];exact h1) (by dsimp only;rw [Zd7 (by omega)];exact h2) h3;dsimp only at this;rw [ZdL hi,ZdL (show (j+2)%4<4 by omega)] at this;rw [show prv B i=prv (fun e=>ZcL (A 0) (A 1) (A 2) (A 3) e&&(e != j)) i from Zi2 (fun e he=>by rw [hB e he,Zd7 he]) hi];exact this
theorem Del.bh {l m:List Za}(hc:Ck l) {v d w:Nat}(D:Del l m v d w) {p:Da}(h:Mu.isD m p) :
  bh m p=(if bh l p=(v,d) then bh l (w,(d+2)%4) else if bh l p=(w,(d+2)%4) then bh l (v,d) else bh l p) ∧
  tt m p=(if bh l p=(v,d) then tt l p+tt l (w,(d+2)%4)-2 else if bh l p=(w,(d+2)%4) then tt l p+tt l (v,d)-2 else tt l p):=by
 obtain ⟨h1,h2,h3⟩:=D.isD.1 h;have hne:=D.ne hc;have hd:=D.hd;have hb:=D.hb hc;have f:=h1.fwd hc;unfold tt;rw [Zef,Zef,D.nx' h,Zef (l:=l) (p:=(w,(d+2)%4)),Zef (l:=l) (p:=(v,d))];dsimp only;rw [hb,D.hn,itn,itn];have hp2:=h1.2.1
 -- the cell to which p leads
 generalize hu:(Mu.nx l p.1 p.2).toNat=u at *;have hA:(decide (0≤Mu.nx l u ((p.2+2)%4)))=true:=by rw [f.2];simp
 by_cases c1:u=v
 ·subst c1;have hi:p.2≠(d+2)%4:=by
   intro q;apply h3;have e1:Mu.opp l p=(u,d):=by unfold Mu.opp;exact Prod.ext hu (by dsimp only;omega)
   rw [← ZcC hc h1,e1,D.opp]
  obtain ⟨k1,k2⟩:=ZkV (A:=fun e=>decide (0≤Mu.nx l u e)) (B:=fun e=>decide (0≤Mu.nx m u e)) hp2 hd (by rw [D.hn];simp) hA hi (fun e he=>by
   rw [D.nx _ _ f.1 he];by_cases q:e=d
   ·rw [if_pos (.inl ⟨rfl,q⟩),q];simp
   ·rw [if_neg]
    ·simp [q]
    ·rintro (k|k)
     ·exact q k.2
     ·exact hne k.1.symm)
  rw [k2,k1];have n1:∀ x,((u,x):Da)=(w,(d+2)%4)↔False:=fun x=>⟨fun k=>hne (congrArg Prod.fst k).symm,False.elim⟩;simp only [n1,if_false,Prod.mk.injEq,true_and];constructor
  ·split<;>rfl
  ·trivial
 ·by_cases c2:u=w
  ·subst c2;have hi:p.2≠((d+2)%4+2)%4:=by
    intro q;apply h2;have e1:Mu.opp l p=(u,(d+2)%4):=by unfold Mu.opp;exact Prod.ext hu (by dsimp only;omega)
    rw [← ZcC hc h1,e1,← D.opp,ZcC hc D.e]
   obtain ⟨k1,k2⟩:=ZkV (A:=fun e=>decide (0≤Mu.nx l u e)) (B:=fun e=>decide (0≤Mu.nx m u e)) hp2 (show (d+2)%4<4 by omega) (by rw [hb];simp) hA hi (fun e he=>by
    rw [D.nx _ _ f.1 he];by_cases q:e=(d+2)%4
    ·rw [if_pos (.inr ⟨rfl,q⟩),q];simp
    ·rw [if_neg]
     ·simp [q]
     ·rintro (k|k)
      ·exact c1 k.1
      ·exact q k.2)
   rw [show ((d+2)%4+2)%4=d by omega] at k1 k2;rw [k2,k1];have n1:∀ x,((u,x):Da)=(v,d)↔False:=fun x=>⟨fun k=>c1 (congrArg Prod.fst k),False.elim⟩;simp only [n1,if_false,Prod.mk.injEq,true_and];constructor
   ·split<;>rfl
   ·trivial
  ·have n1:∀ x,((u,x):Da)=(v,d)↔False:=fun x=>⟨fun k=>c1 (congrArg Prod.fst k),False.elim⟩;have n2:∀ x,((u,x):Da)=(w,(d+2)%4)↔False:=fun x=>⟨fun k=>c2 (congrArg Prod.fst k),False.elim⟩;have:prv (fun e=>decide (0≤Mu.nx m u e)) p.2=prv (fun e=>decide (0≤Mu.nx l u e)) p.2:=Zi2 (fun e he=>by
    rw [D.nx _ _ f.1 he,if_neg];rintro (k|k)
    ·exact c1 k.1
    ·exact c2 k.1) hp2
   simp only [n1,n2,if_false,this];exact ⟨trivial,trivial⟩
end Mu
/- Loops of Zep where an edge is taken out: how many there are,and their turns. -/
namespace Mu
def nxE (l:List Za) (e e' y:Da):Da:=if y=e then bh l e' else if y=e' then bh l e else y
def crE (l:List Za) (e e' y:Da):Int:=if y=e then tt l e'-2 else if y=e' then tt l e-2 else 0
theorem Del.pt {l m:List Za}(hc:Ck l) {v d w:Nat}(D:Del l m v d w):∀ {s:List Da}{x y:Da},Pt l x s y→s≠[]→(∀ a∈s,a≠(v,d)∧a≠(w,(d+2)%4)) →
  Pt m x s (nxE l (v,d) (w,(d+2)%4) y)∧Zbg m s=Zbg l s+crE l (v,d) (w,(d+2)%4) y
 | [],_,_,_,h,_=>absurd rfl h
 | [a],x,y,h,_,hs=>by
  rw [Pt,Pt] at h;obtain ⟨rfl,h1,rfl⟩:=h;have q:=hs x (by simp);have hm:Mu.isD m x:=D.isD.2 ⟨h1,q.1,q.2⟩;have b:=D.bh hc hm;refine ⟨⟨rfl,hm,?_⟩,?_⟩
  ·rw [b.1];rfl
  ·rw [Zcr,Zcr,ZjE,ZjE,b.2];unfold crE;split
   ·omega
   ·split<;>omega
 | a::b::s,x,y,h,_,hs=>by
  rw [Pt] at h;obtain ⟨rfl,h1,h2⟩:=h;have q:=hs x (by simp);have qb:=hs b (by simp);have hm:Mu.isD m x:=D.isD.2 ⟨h1,q.1,q.2⟩;have eb:Mu.bh l x=b:=by rw [Pt] at h2;exact h2.1
  have B:=D.bh hc hm;rw [eb,if_neg qb.1,if_neg qb.2,if_neg qb.1,if_neg qb.2] at B;rw [eb] at h2;obtain ⟨i1,i2⟩:=D.pt hc h2 (by simp) fun a ha=>hs a (List.mem_cons_of_mem _ ha);refine ⟨⟨rfl,hm,?_⟩,?_⟩
  ·rw [B.1];exact i1
  ·rw [Zcr,i2,Zcr (t:=b::s),B.2];omega
theorem Zmc {l:List Za}{p:Da}:(bh l p).1=(nx l p.1 p.2).toNat:=by rw [Zef]
theorem Del.bh_e {l m:List Za}(hc:Ck l) {v d w:Nat}(D:Del l m v d w):Mu.bh l (v,d)≠(v,d):=by
 intro q;have:=congrArg Prod.fst q;rw [Zmc] at this;dsimp only at this;rw [D.hn,itn] at this;exact D.ne hc this
theorem Del.bh_e' {l m:List Za}(hc:Ck l) {v d w:Nat}(D:Del l m v d w):Mu.bh l (w,(d+2)%4)≠(w,(d+2)%4):=by
 intro q;have:=congrArg Prod.fst q;rw [Zmc] at this;dsimp only at this;rw [D.hb hc,itn] at this;exact D.ne hc this.symm
theorem Del.ee {l m:List Za}(hc:Ck l) {v d w:Nat}(D:Del l m v d w):((w,(d+2)%4):Da)≠(v,d):=fun q=>D.ne hc (congrArg Prod.fst q)
theorem Del.joinA {l m:List Za}(hc:Ck l) {v d w:Nat}(D:Del l m v d w) {A B:List Da}(hA:Lp l ((v,d)::A)) (hB:Lp l ((w,(d+2)%4)::B)) (hdj:∀ x∈(v,d)::A,x ∉ (w,(d+2)%4)::B) :
  Lp m (A++B)∧Zbg m (A++B)=Zbg l ((v,d)::A)+Zbg l ((w,(d+2)%4)::B)-4:=by
 have ee:=D.ee hc;obtain ⟨a1,a2⟩:=hA.hd;obtain ⟨b1,b2⟩:=hB.hd;have nA:A≠[]:=by rintro rfl;exact D.bh_e hc a2
 have nB:B≠[]:=by rintro rfl;exact D.bh_e' hc b2
 have ndA:=List.nodup_cons.1 hA.nd;have ndB:=List.nodup_cons.1 hB.nd;obtain ⟨p1,r1⟩:=D.pt hc a2 nA fun a ha=>⟨fun q=>ndA.1 (q ▸ ha),fun q=>hdj a (by simp [ha]) (by simp [q])⟩;obtain ⟨p2,r2⟩:=D.pt hc b2 nB fun a ha=>⟨fun q=>hdj a (by simp [q]) (by simp [ha]),fun q=>ndB.1 (q ▸ ha)⟩;unfold nxE at p1 p2;unfold crE at r1 r2;rw [if_pos rfl] at p1 r1;rw [if_neg ee,if_pos rfl] at p2 r2;refine ⟨⟨by simp [nA],?_,_,Pt.app.2 ⟨_,p1,p2⟩⟩,?_⟩
 ·rw [List.nodup_append];exact ⟨ndA.2,ndB.2,fun a ha b hb q=>hdj a (by simp [ha]) (by simp [q,hb])⟩
 ·rw [ZjD,r1,r2,Zcr,Zcr];omega
theorem Del.joinB {l m:List Za}(hc:Ck l) {v d w:Nat}(D:Del l m v d w) {A B:List Da}(h:Lp l ((v,d)::(A++(w,(d+2)%4)::B))) :
  (A≠[]→Lp m A∧Zbg m A=Zbg l A+tt l (v,d)-2)∧(B≠[]→Lp m B∧Zbg m B=Zbg l B+tt l (w,(d+2)%4)-2)∧(A=[]↔Mu.bh l (v,d)=(w,(d+2)%4))∧(B=[]↔Mu.bh l (w,(d+2)%4)=(v,d)):=by
 have ee:=D.ee hc;obtain ⟨a1,a2⟩:=h.hd;obtain ⟨y,c1,c2⟩:=Pt.app.1 a2;rw [Pt] at c2;obtain ⟨rfl,c2,c3⟩:=c2;have nd:=List.nodup_cons.1 h.nd;have nd2:=List.nodup_append.1 nd.2;have nd3:=List.nodup_cons.1 nd2.2.1;have qA:∀ a∈A,a≠(v,d)∧a≠(w,(d+2)%4):=fun a ha=>⟨fun q=>nd.1 (by simp [← q,ha]),fun q=>nd2.2.2 a ha (w,(d+2)%4) (by simp) q⟩;have qB:∀ a∈B,a≠(v,d)∧a≠(w,(d+2)%4):=fun a ha=>⟨fun q=>nd.1 (by simp [← q,ha]),fun q=>nd3.1 (q ▸ ha)⟩;refine ⟨fun nA=>?_,fun nB=>?_,⟨?_,fun q=>?_⟩,⟨?_,fun q=>?_⟩⟩
 ·obtain ⟨p1,r1⟩:=D.pt hc c1 nA qA;unfold nxE at p1;unfold crE at r1;rw [if_neg ee,if_pos rfl] at p1 r1;exact ⟨⟨nA,nd2.1,_,p1⟩,by rw [r1];omega⟩
 ·obtain ⟨p1,r1⟩:=D.pt hc c3 nB qB;unfold nxE at p1;unfold crE at r1;rw [if_pos rfl] at p1 r1;exact ⟨⟨nB,nd3.2,_,p1⟩,by rw [r1];omega⟩
 ·rintro rfl;exact c1
 ·cases A with
  | nil=>rfl
  | cons a A =>
   rw [Pt] at c1;exact absurd (c1.1.symm.trans q) (qA a (by simp)).2
 ·rintro rfl;exact c3
 ·cases B with
  | nil=>rfl
  | cons a B =>
   rw [Pt] at c3;exact absurd (c3.1.symm.trans q) (qB a (by simp)).1
theorem Cyc.of_perm {l:List Za}{f g:List Da}(h:Cyc l f) (p:f.Perm g):Cyc l g :=
 ⟨fun e=>h.ne (by rw [e] at p;exact p.eq_nil),p.nodup_iff.1 h.nd,fun x hx=>h.is x (p.mem_iff.2 hx),fun x hx=>p.mem_iff.1 (h.cl x (p.mem_iff.2 hx)),fun C hC x hx y hy=>h.one C hC x (p.mem_iff.2 hx) y (p.mem_iff.2 hy)⟩
theorem Cyc.lp {l:List Za}(hc:Ck l) {f:List Da}(h:Cyc l f) {p:Da}(hp:p∈f):∃ t,Lp l (p::t)∧f.Perm (p::t):=by
 obtain ⟨t,ht⟩:=ZmG hc (h.is p hp);exact ⟨t,ht,h.perm ht.cyc hp (by simp)⟩
theorem Del.keep {l m:List Za}(hc:Ck l) {v d w:Nat}(D:Del l m v d w) {f:List Da}(h:Cyc l f) (h1:(v,d) ∉ f) (h2:(w,(d+2)%4) ∉ f):Cyc m f∧Zbg m f=Zbg l f:=by
 obtain ⟨p,hp⟩:=List.exists_mem_of_ne_nil f h.ne;obtain ⟨t,ht,pe⟩:=h.lp hc hp;obtain ⟨x,hx⟩:=ht.pt;have q:∀ a∈p::t,a≠(v,d)∧a≠(w,(d+2)%4):=fun a ha=>⟨fun k=>h1 (k ▸ pe.mem_iff.2 ha),fun k=>h2 (k ▸ pe.mem_iff.2 ha)⟩;have xp:x=p:=by rw [Pt] at hx;exact hx.1
 obtain ⟨k1,k2⟩:=D.pt hc hx (by simp) q;subst xp;unfold nxE at k1;unfold crE at k2;have qx:=q x (by simp);rw [if_neg qx.1,if_neg qx.2] at k1 k2;have L:Lp m (x::t):=⟨by simp,ht.nd,x,k1⟩;refine ⟨L.cyc.of_perm pe.symm,?_⟩;rw [ZfU pe,ZfU pe,k2];omega

/-! All loops. -/
structure Fcs (l:List Za) (F:List (List Da)):Prop where
 cy:∀ f∈F,Cyc l f
 nd:F.flatten.Nodup
 al:∀ p,isD l p→p∈F.flatten
theorem Fcs.faces {l:List Za}(hc:Ck l):Fcs l (faces l):=⟨Zc0 hc,(ZfF hc).2.2.2.1,fun p hp=>(Zlq hc).2 hp⟩
theorem Fcs.le {l:List Za}{F G:List (List Da)}(hF:Fcs l F) (hG:Fcs l G):F.length≤G.length:=by
 have key:∀ f∈F,∃ i,i<G.length∧∃ p,p∈f∧p∈gi G i:=by
  intro f hf;obtain ⟨p,hp⟩:=List.exists_mem_of_ne_nil f (hF.cy f hf).ne;obtain ⟨g,hg,hpg⟩:=List.mem_flatten.1 (hG.al p ((hF.cy f hf).is p hp));obtain ⟨i,hi,e⟩:=List.mem_iff_getElem.1 hg;exact ⟨i,hi,p,hp,by rw [Zaz hi,e];exact hpg⟩
 have:∀ F:List (List Da),(∀ f∈F,Cyc l f)→F.flatten.Nodup→(∀ f∈F,∃ i,i<G.length∧∃ p,p∈f∧p∈gi G i)→∃ I:List Nat,I.length=F.length∧I.Nodup∧∀ i∈I,i<G.length∧∃ f∈F,∃ p,p∈f∧p∈gi G i:=by
  intro F
  induction F with
  | nil=>intro _ _ _;exact ⟨[],rfl,List.nodup_nil,by simp⟩
  | cons f F ih =>
   intro h1 h2 h3;rw [List.flatten_cons,List.nodup_append] at h2;obtain ⟨I,k1,k2,k3⟩:=ih (fun f hf=>h1 f (by simp [hf])) h2.2.1 fun f hf=>h3 f (by simp [hf]);obtain ⟨i,hi,p,hp,hpi⟩:=h3 f (by simp);refine ⟨i::I,by simp [k1],List.nodup_cons.2 ⟨fun hm=>?_,k2⟩,fun j hj=>?_⟩
   ·obtain ⟨_,f',hf',p',hp',hpi'⟩:=k3 i hm;have cg:=hG.cy _ (Zaw hi);have c1:=h1 f (by simp)
    -- f and f' share a dart
    have:=(cg.sub c1 hpi hp) p' hpi';exact h2.2.2 p' this p' (List.mem_flatten.2 ⟨f',hf',hp'⟩) rfl
   ·rcases List.mem_cons.1 hj with rfl|hj
    ·exact ⟨hi,f,by simp,p,hp,hpi⟩
    ·obtain ⟨a,f',hf',r⟩:=k3 j hj;exact ⟨a,f',by simp [hf'],r⟩
 obtain ⟨I,k1,k2,k3⟩:=this F hF.cy hF.nd key;have:=k2.length_le_of_subset (l₂:=List.range G.length) fun i hi=>List.mem_range.2 (k3 i hi).1;simp at this;omega
theorem Fcs.len {l:List Za}{F G:List (List Da)}(hF:Fcs l F) (hG:Fcs l G):F.length=G.length:=Nat.le_antisymm (hF.le hG) (hG.le hF)
theorem Fcs.perm {l:List Za}{F G:List (List Da)}(h:Fcs l F) (p:F.Perm G):Fcs l G :=
 ⟨fun f hf=>h.cy f (p.mem_iff.2 hf),p.flatten.nodup_iff.1 h.nd,fun x hx=>p.flatten.mem_iff.1 (h.al x hx)⟩
theorem Fcs.pick {l:List Za}{S F:List (List Da)}(h:Fcs l (S++F)) {g:List Da}(hg:Cyc l g) (hn:∀ p∈g,p ∉ S.flatten):∃ R,Fcs l (S++g::R)∧F.length=R.length+1:=by
 obtain ⟨p,hp⟩:=List.exists_mem_of_ne_nil g hg.ne;have:=h.al p (hg.is p hp);rw [List.flatten_append,List.mem_append] at this;rcases this with k|k
 ·exact absurd k (hn p hp)
 ·obtain ⟨g1,hg1,hpg⟩:=List.mem_flatten.1 k;have pe:F.Perm (g1::F.erase g1):=List.perm_cons_erase hg1;have pg:g1.Perm g:=(h.cy g1 (by simp [hg1])).perm hg hpg hp;have h2:=h.perm (List.Perm.append_left S pe);have pf:(S++g1::F.erase g1).flatten.Perm (S++g::F.erase g1).flatten:=by
   rw [List.flatten_append,List.flatten_append,List.flatten_cons,List.flatten_cons];exact List.Perm.append_left _ (List.Perm.append_right _ pg)
  refine ⟨F.erase g1,⟨fun f hf=>?_,pf.nodup_iff.1 h2.nd,fun x hx=>pf.mem_iff.1 (h2.al x hx)⟩,by rw [pe.length_eq];rfl⟩;rcases List.mem_append.1 hf with q|q
  ·exact h.cy f (by simp [q])
  ·rcases List.mem_cons.1 q with rfl|q
   ·exact hg
   ·exact h.cy f (by simp [List.mem_of_mem_erase q])
theorem Del.fcs {l m:List Za}(hc:Ck l) {v d w:Nat}(D:Del l m v d w) {S S' R:List (List Da)}(h:Fcs l (S++R)) (h1:∀ f∈S',Cyc m f) (h2:S'.flatten.Nodup) (h3:∀ p,p∈S'.flatten↔p∈S.flatten∧p≠(v,d)∧p≠(w,(d+2)%4)) (h4:(v,d)∈S.flatten) (h5:(w,(d+2)%4)∈S.flatten) :
  Fcs m (S'++R)∧∀ f∈R,Zbg m f=Zbg l f:=by
 have nd:=h.nd;rw [List.flatten_append,List.nodup_append] at nd;have keep:∀ f∈R,Cyc m f∧Zbg m f=Zbg l f:=fun f hf=>D.keep hc (h.cy f (by simp [hf]))
  (fun q=>nd.2.2 _ h4 _ (List.mem_flatten.2 ⟨f,hf,q⟩) rfl) (fun q=>nd.2.2 _ h5 _ (List.mem_flatten.2 ⟨f,hf,q⟩) rfl)
 refine ⟨⟨fun f hf=>?_,?_,fun p hp=>?_⟩,fun f hf=>(keep f hf).2⟩
 ·rcases List.mem_append.1 hf with q|q
  ·exact h1 f q
  ·exact (keep f q).1
 ·rw [List.flatten_append,List.nodup_append];exact ⟨h2,nd.2.1,fun a ha b hb=>nd.2.2 a ((h3 a).1 ha).1 b hb⟩
 ·obtain ⟨q1,q2,q3⟩:=D.isD.1 hp;have:=h.al p q1;rw [List.flatten_append,List.mem_append] at this ⊢;rcases this with k|k
  ·exact .inl ((h3 p).2 ⟨k,q2,q3⟩)
  ·exact .inr k
inductive ZqG (l m:List Za) (e e':Da):Prop where
 | two (A B:List Da) (R:List (List Da)) (hA:Lp l (e::A)) (hB:Lp l (e'::B)) (hl:Fcs l ((e::A)::(e'::B)::R)) (hm:Fcs m ((A++B)::R)) (rot:Zbg m (A++B)=Zbg l (e::A)+Zbg l (e'::B)-4) (same:∀ f∈R,Zbg m f=Zbg l f) (n1:bh l e≠e') (n2:bh l e'≠e) (lm:Lp m (A++B))
 | one (A B:List Da) (R:List (List Da)) (hA:Lp l (e::(A++e'::B))) (hl:Fcs l ((e::(A++e'::B))::R)) (hm:Fcs m (A::B::R)) (rot:Zbg m A+Zbg m B=Zbg l (e::(A++e'::B))-4) (same:∀ f∈R,Zbg m f=Zbg l f) (n1:bh l e≠e') (n2:bh l e'≠e) (lA:Lp m A) (lB:Lp m B)
 | leaf (A:List Da) (R:List (List Da)) (hA:Cyc l (e::e'::A)) (hl:Fcs l ((e::e'::A)::R)) (hm:Fcs m (A::R)) (rot:Zbg m A=Zbg l (e::e'::A)) (same:∀ f∈R,Zbg m f=Zbg l f) (n:(bh l e=e'∧bh l e'≠e)∨(bh l e≠e'∧bh l e'=e))
 | iso (R:List (List Da)) (hA:Cyc l [e,e']) (hl:Fcs l ([e,e']::R)) (hm:Fcs m R) (same:∀ f∈R,Zbg m f=Zbg l f) (n1:bh l e=e') (n2:bh l e'=e)
theorem Zlh {l:List Za}{p:Da}(hp:p.2<4) (h:(bh l p).2=(p.2+2)%4):tt l p=-2:=by
 unfold tt tn;rw [h,if_neg (by omega),if_neg (by omega),if_neg (by omega)]
theorem Del.kind {l m:List Za}(hc:Ck l) {v d w:Nat}(D:Del l m v d w):ZqG l m (v,d) (w,(d+2)%4):=by
 have hd:=D.hd;have ee:=D.ee hc;have hF:Fcs l ([]++Mu.faces l):=by rw [List.nil_append];exact Fcs.faces hc
 obtain ⟨t,ht⟩:=ZmG hc D.e;by_cases c:(w,(d+2)%4)∈t
 ·obtain ⟨A,B,rfl⟩:=List.append_of_mem c;obtain ⟨jA,jB,iA,iB⟩:=D.joinB hc ht;obtain ⟨R,hR,_⟩:=hF.pick ht.cyc (by simp);rw [List.nil_append] at hR;have nd:=List.nodup_cons.1 ht.nd;have nd2:=List.nodup_append.1 nd.2;have nd3:=List.nodup_cons.1 nd2.2.1;by_cases cA:A=[]
  ·have bA:=iA.1 cA;have tA:tt l (v,d)=-2:=Zlh hd (by rw [bA]);subst cA;by_cases cB:B=[]
   ·have bB:=iB.1 cB;subst cB;obtain ⟨k1,k2⟩:=D.fcs hc (S:=[[(v,d),(w,(d+2)%4)]]) (S':=[]) (R:=R) hR (by simp) (by simp) (by intro p;simp;intro q;rcases q with rfl|rfl<;>simp) (by simp) (by simp);exact .iso R ht.cyc hR k1 k2 bA bB
   ·obtain ⟨lB,rB⟩:=jB cB;obtain ⟨k1,k2⟩:=D.fcs hc (S:=[(v,d)::(w,(d+2)%4)::B]) (S':=[B]) (R:=R) hR (by intro f hf;rw [List.mem_singleton.1 hf];exact lB.cyc) (by simpa using lB.nd) (by
     intro p;simp;constructor
     ·intro q;exact ⟨.inr (.inr q),fun k=>nd.1 (by simp [← k,q]),fun k=>nd3.1 (k ▸ q)⟩
     ·rintro ⟨q|q|q,q2,q3⟩
      ·exact absurd q q2
      ·exact absurd q q3
      ·exact q) (by simp) (by simp)
    refine .leaf B R ht.cyc hR k1 ?_ k2 (.inl ⟨bA,fun q=>cB (iB.2 q)⟩);rw [rB,Zcr,Zcr,tA];omega
  ·obtain ⟨lA,rA⟩:=jA cA;by_cases cB:B=[]
   ·have bB:=iB.1 cB;have tB:tt l (w,(d+2)%4)=-2:=Zlh (show (d+2)%4<4 by omega) (by rw [bB];dsimp only;omega);subst cB;have pe:((v,d)::(A++[(w,(d+2)%4)])).Perm ((v,d)::(w,(d+2)%4)::A):=List.Perm.cons _ List.perm_append_comm;have C2:=ht.cyc.of_perm pe;obtain ⟨R2,hR2,_⟩:=hF.pick C2 (by simp);rw [List.nil_append] at hR2;obtain ⟨k1,k2⟩:=D.fcs hc (S:=[(v,d)::(w,(d+2)%4)::A]) (S':=[A]) (R:=R2) hR2 (by intro f hf;rw [List.mem_singleton.1 hf];exact lA.cyc) (by simpa using lA.nd) (by
     intro p;simp;constructor
     ·intro q;exact ⟨.inr (.inr q),fun k=>nd.1 (by simp [← k,q]),fun k=>nd2.2.2 p q _ (by simp) k⟩
     ·rintro ⟨q|q|q,q2,q3⟩
      ·exact absurd q q2
      ·exact absurd q q3
      ·exact q) (by simp) (by simp)
    refine .leaf A R2 C2 hR2 k1 ?_ k2 (.inr ⟨fun q=>cA (iA.2 q),bB⟩);rw [rA,Zcr,Zcr,tB];omega
   ·obtain ⟨lB,rB⟩:=jB cB;have dj:∀ a∈A,∀ b∈B,a≠b:=fun a ha b hb=>nd2.2.2 a ha b (by simp [hb]);obtain ⟨k1,k2⟩:=D.fcs hc (S:=[(v,d)::(A++(w,(d+2)%4)::B)]) (S':=[A,B]) (R:=R) hR (by
     intro f hf;simp at hf;rcases hf with rfl|rfl
     ·exact lA.cyc
     ·exact lB.cyc) (by
     simp [List.nodup_append];exact ⟨lA.nd,lB.nd,fun a b ha x y hb q1 q2=>dj (a,b) ha (x,y) hb (Prod.ext q1 q2)⟩) (by
     intro p;simp;constructor
     ·rintro (q|q)
      ·exact ⟨.inr (.inl q),fun k=>nd.1 (by simp [← k,q]),fun k=>nd2.2.2 p q _ (by simp) k⟩
      ·exact ⟨.inr (.inr (.inr q)),fun k=>nd.1 (by simp [← k,q]),fun k=>nd3.1 (k ▸ q)⟩
     ·rintro ⟨q|q|q|q,q2,q3⟩
      ·exact absurd q q2
      ·exact .inl q
      ·exact absurd q q3
      ·exact .inr q) (by simp) (by simp)
    refine .one A B R ht hR k1 ?_ k2 (fun q=>cA (iA.2 q)) (fun q=>cB (iB.2 q)) lA lB;rw [rA,rB,Zcr,ZjD,Zcr];omega
 ·obtain ⟨B,hB⟩:=ZmG hc (D.e' hc);have dj:∀ x∈(v,d)::t,x ∉ (w,(d+2)%4)::B:=by
   intro x hx hx2;have:=hB.cyc.sub ht.cyc hx2 hx (w,(d+2)%4) (by simp);rcases List.mem_cons.1 this with q|q
   ·exact ee q
   ·exact c q
  obtain ⟨j1,j2⟩:=D.joinA hc ht hB dj;obtain ⟨R1,hR1,_⟩:=hF.pick ht.cyc (by simp);rw [List.nil_append] at hR1;obtain ⟨R,hR,_⟩:=Fcs.pick (S:=[(v,d)::t]) (F:=R1) hR1 hB.cyc (fun p hp q=>by
   rw [List.flatten_cons,List.flatten_nil,List.append_nil] at q;exact dj p q hp)
  have ndA:=List.nodup_cons.1 ht.nd;have ndB:=List.nodup_cons.1 hB.nd;obtain ⟨k1,k2⟩:=D.fcs hc (S:=[(v,d)::t,(w,(d+2)%4)::B]) (S':=[t++B]) (R:=R) hR (by intro f hf;rw [List.mem_singleton.1 hf];exact j1.cyc) (by simpa using j1.nd) (by
   intro p;simp;constructor
   ·rintro (q|q)
    ·exact ⟨.inr (.inl q),fun k=>ndA.1 (k ▸ q),fun k=>c (k ▸ q)⟩
    ·exact ⟨.inr (.inr (.inr q)),fun k=>dj p (by simp [k]) (by simp [q]),fun k=>ndB.1 (k ▸ q)⟩
   ·rintro ⟨q|q|q|q,q2,q3⟩
    ·exact absurd q q2
    ·exact .inl q
    ·exact absurd q q3
    ·exact .inr q) (by simp) (by simp)
  refine .two t B R ht hB hR k1 j2 k2 ?_ ?_ j1
  ·intro q;have:=ht.cyc.cl (v,d) (by simp);rw [q] at this;exact dj _ this (by simp)
  ·intro q;have:=hB.cyc.cl (w,(d+2)%4) (by simp);rw [q] at this;exact dj (v,d) (by simp) this
end Mu
/- Euler: cells that hang together,and those of which some edges are left. -/
namespace Mu
def cV (l:List Za):Int:=sg (fun w=>if deg l w=0 then 0 else 1) l.length
def cD (l:List Za):Int:=sg (deg l) l.length
def chi (l:List Za):Int:=2*cV l+2*((faces l).length:Int)-cD l
theorem ZeI {l:List Za}{u:Nat}:deg l u=(if 0≤nx l u 0 then 1 else 0)+(if 0≤nx l u 1 then 1 else 0)+(if 0≤nx l u 2 then 1 else 0)+(if 0≤nx l u 3 then 1 else 0):=by
 unfold deg;rw [ZnX]
theorem ZiI {l:List Za}{p:Da}(h:isD l p):1≤deg l p.1:=by
 have h1:=h.2.1;have h2:=h.2.2;rw [ZeI];have:p.2=0∨p.2=1∨p.2=2∨p.2=3:=by omega
 rcases this with q|q|q|q<;>rw [q] at h2<;>rw [if_pos h2]<;>repeat' split<;>omega
theorem ZoN {l:List Za}{u:Nat}(h:deg l u≠0):∃ d,d<4∧0≤nx l u d:=by
 refine Classical.byContradiction fun q=>h ?_;have k:∀ d,d<4→¬ 0≤nx l u d:=fun d hd c=>q ⟨d,hd,c⟩;rw [ZeI,if_neg (k 0 (by omega)),if_neg (k 1 (by omega)),if_neg (k 2 (by omega)),if_neg (k 3 (by omega))];rfl
theorem Zgu {l:List Za}(hc:Ck l) {p:Da}(h:isD l p):bh l p=opp l p↔deg l (opp l p).1=1:=by
 have f:=h.fwd hc;have h4:=h.2.1;unfold bh opp;dsimp only;generalize (nx l p.1 p.2).toNat=u at *;have hb:0≤nx l u ((p.2+2)%4):=by rw [f.2];omega
 rw [ZeI];have:p.2=0∨p.2=1∨p.2=2∨p.2=3:=by omega
 rcases this with q|q|q|q<;>rw [q] at hb ⊢ <;> simp only [show (0+2)%4=2 from rfl,show (1+2)%4=3 from rfl,show (2+2)%4=0 from rfl,show (3+2)%4=1 from rfl,show (0+1)%4=1 from rfl,show (1+1)%4=2 from rfl,show (2+1)%4=3 from rfl,show (3+1)%4=0 from rfl,show (0+3)%4=3 from rfl,show (1+3)%4=0 from rfl,show (2+3)%4=1 from rfl,show (3+3)%4=2 from rfl] at hb ⊢ <;>
 by_cases c0:0≤nx l u 0<;>by_cases c1:0≤nx l u 1<;>by_cases c2:0≤nx l u 2<;>by_cases c3:0≤nx l u 3<;>first|(exact absurd hb (by assumption))|(simp [c0,c1,c2,c3])
theorem Del.deg {l m:List Za}(hc:Ck l) {v d w:Nat}(D:Del l m v d w) {u:Nat}(hu:u<l.length):deg m u=Mu.deg l u-(if u=v then 1 else 0)-(if u=w then 1 else 0):=by
 have hd:=D.hd;have hne:=D.ne hc;have e:∀ e,e<4→(if 0≤Mu.nx m u e then (1:Int) else 0)=(if 0≤Mu.nx l u e then 1 else 0)-(if u=v∧e=d then 1 else 0)-(if u=w∧e=(d+2)%4 then 1 else 0):=by
  intro e he;have q:=D.nx u e hu he;by_cases c1:u=v∧e=d
  ·rw [if_pos (.inl c1)] at q;have n2:¬ (u=w∧e=(d+2)%4):=fun k=>hne (k.1.symm.trans c1.1);have q2:Mu.nx l u e=w:=by rw [c1.1,c1.2,D.hn]
   rw [q,q2,if_pos c1,if_neg n2,if_neg (by omega),if_pos (by omega)];rfl
  ·by_cases c2:u=w∧e=(d+2)%4
   ·rw [if_pos (.inr c2)] at q;have q2:Mu.nx l u e=v:=by rw [c2.1,c2.2,D.hb hc]
    rw [q,q2,if_neg c1,if_pos c2,if_neg (by omega),if_pos (by omega)];rfl
   ·rw [if_neg (by rintro (q|q);exact c1 q;exact c2 q)] at q;rw [q,if_neg c1,if_neg c2];omega
 rw [ZeI,ZeI,e 0 (by omega),e 1 (by omega),e 2 (by omega),e 3 (by omega)];have s1:(if u=v∧0=d then (1:Int) else 0)+(if u=v∧1=d then 1 else 0)+(if u=v∧2=d then 1 else 0)+(if u=v∧3=d then 1 else 0)=if u=v then 1 else 0:=by
  by_cases c:u=v
  ·simp only [c,true_and];have:d=0∨d=1∨d=2∨d=3:=by omega
   rcases this with rfl|rfl|rfl|rfl<;>rfl
  ·simp [c]
 have s2:(if u=w∧0=(d+2)%4 then (1:Int) else 0)+(if u=w∧1=(d+2)%4 then 1 else 0)+(if u=w∧2=(d+2)%4 then 1 else 0)+(if u=w∧3=(d+2)%4 then 1 else 0)=if u=w then 1 else 0:=by
  by_cases c:u=w
  ·simp only [c,true_and];have:d=0∨d=1∨d=2∨d=3:=by omega
   rcases this with rfl|rfl|rfl|rfl<;>rfl
  ·simp [c]
 omega
theorem Zji {n v:Nat}(hv:v<n) {c:Int}:sg (fun u=>if u=v then c else 0) n=c:=by
 rw [Zjj hv fun i _ hne=>if_neg hne,if_pos rfl]
theorem Del.cD {l m:List Za}(hc:Ck l) {v d w:Nat}(D:Del l m v d w):cD l=cD m+2:=by
 unfold Mu.cD;rw [D.len,Zc9 (f:=Mu.deg m) (fun u hu=>D.deg hc hu),Zjk,Zjk,Zji D.hv,Zji D.hw];omega
theorem Del.cV {l m:List Za}(hc:Ck l) {v d w:Nat}(D:Del l m v d w):cV l=cV m+(if Mu.deg l v=1 then 1 else 0)+(if Mu.deg l w=1 then 1 else 0):=by
 have hne:=D.ne hc;have pv:=ZiI D.e;have pw:=ZiI (D.e' hc);dsimp only at pv pw;have e:∀ u,u<l.length→(if Mu.deg l u=0 then (0:Int) else 1)=(if Mu.deg m u=0 then 0 else 1)+(if u=v then (if Mu.deg l v=1 then 1 else 0) else 0)+(if u=w then (if Mu.deg l w=1 then 1 else 0) else 0):=by
  intro u hu;rw [D.deg hc hu];by_cases c1:u=v
  ·subst c1;have n:¬ u=w:=fun q=>hne q.symm;simp only [n,if_true,if_false]
   (repeat' split)<;>omega
  ·by_cases c2:u=w
   ·subst c2;simp only [c1,if_true,if_false]
    (repeat' split)<;>omega
   ·simp only [c1,c2,if_false]
    (repeat' split)<;>omega
 unfold Mu.cV;rw [D.len,Zc9 e,Zjh,Zjh,Zji D.hv,Zji D.hw]
theorem Del.chi {l m:List Za}(hc:Ck l) (hm:Ck m) {v d w:Nat}(D:Del l m v d w):(chi l=chi m∨Mu.chi l=Mu.chi m-4)∨(Mu.chi l=Mu.chi m+4∧Mu.bh l (v,d)=(w,(d+2)%4)∧Mu.bh l (w,(d+2)%4)=(v,d)):=by
 have a1:=D.cD hc;have a2:=D.cV hc;have b1:=Zgu hc D.e;have b2:=Zgu hc (D.e' hc);rw [D.opp] at b1;rw [← D.opp,ZcC hc D.e,D.opp] at b2;dsimp only at b1 b2;unfold Mu.chi
 cases D.kind hc with
 | two A B R hA hB hl hm' rot same n1 n2 lm =>
  have f1:=hl.len (Fcs.faces hc);have f2:=hm'.len (Fcs.faces hm);simp only [List.length_cons] at f1 f2;rw [if_neg fun q=>n2 (b2.2 q),if_neg fun q=>n1 (b1.2 q)] at a2;left;left;omega
 | one A B R hA hl hm' rot same n1 n2 lA lB =>
  have f1:=hl.len (Fcs.faces hc);have f2:=hm'.len (Fcs.faces hm);simp only [List.length_cons] at f1 f2;rw [if_neg fun q=>n2 (b2.2 q),if_neg fun q=>n1 (b1.2 q)] at a2;left;right;omega
 | leaf A R hA hl hm' rot same n =>
  have f1:=hl.len (Fcs.faces hc);have f2:=hm'.len (Fcs.faces hm);simp only [List.length_cons] at f1 f2;left;left;rcases n with ⟨n1,n2⟩|⟨n1,n2⟩
  ·rw [if_neg fun q=>n2 (b2.2 q),if_pos (b1.1 n1)] at a2;omega
  ·rw [if_pos (b2.1 n2),if_neg fun q=>n1 (b1.2 q)] at a2;omega
 | iso R hA hl hm' same n1 n2 =>
  have f1:=hl.len (Fcs.faces hc);have f2:=hm'.len (Fcs.faces hm);simp only [List.length_cons] at f1;rw [if_pos (b2.1 n2),if_pos (b1.1 n1)] at a2;right;exact ⟨by omega,n1,n2⟩

/-! What hangs together. -/
def Cn (l:List Za):Prop:=∀ C:Da→Prop,(∀ x,isD l x→C x→C (bh l x)∧C (opp l x))→∀ p q,isD l p→isD l q→C p→C q
structure Sub (m l:List Za):Prop where
 len:m.length=l.length
 nx:∀ u e,u<l.length→e<4→nx m u e=nx l u e∨nx m u e=-1
theorem Sub.is {m l:List Za}(S:Sub m l) {p:Da}(h:isD m p):isD l p∧Mu.nx m p.1 p.2=Mu.nx l p.1 p.2:=by
 obtain ⟨h1,h2,h3⟩:=h;rw [S.len] at h1;rcases S.nx p.1 p.2 h1 h2 with q|q
 ·exact ⟨⟨h1,h2,by rw [← q];exact h3⟩,q⟩
 ·omega
theorem Sub.opp {m l:List Za}(S:Sub m l) {p:Da}(h:isD m p):opp m p=Mu.opp l p:=by unfold Mu.opp;rw [(S.is h).2]
theorem ZmM:∀ a b c d:Bool,∀ a' b' c' d':Bool,∀ i:Fin 4,((!a'||a)&&(!b'||b)&&(!c'||c)&&(!d'||d)&&ZcL a' b' c' d' ((i.1+2)%4)&&ZcL a' b' c' d' (prv (ZcL a b c d) i.1))=true→prv (ZcL a' b' c' d') i.1=prv (ZcL a b c d) i.1:=by decide +kernel
theorem Sub.bh {m l:List Za}(hm:Ck m) (hl:Ck l) (S:Sub m l) {p:Da}(h:isD m p) (h2:isD m (bh l p)):bh m p=Mu.bh l p:=by
 have i1:=S.is h;have f:=h.fwd hm;rw [Zef] at h2 ⊢;rw [Zef (l:=l)];rw [i1.2] at f ⊢;generalize (Mu.nx l p.1 p.2).toNat=u at *;have hu:u<l.length:=by rw [← S.len];exact f.1
 have h4:=h.2.1;have im:∀ e,e<4→decide (0≤Mu.nx m u e)=true→decide (0≤Mu.nx l u e)=true:=by
  intro e he q;rcases S.nx u e hu he with k|k
  ·rw [← k];exact q
  ·rw [k] at q;simp at q
 generalize hA:(fun e=>decide (0≤Mu.nx l u e))=A at *;generalize hB:(fun e=>decide (0≤Mu.nx m u e))=B at *;have eA:∀ e,A e=decide (0≤Mu.nx l u e):=fun e=>by rw [← hA]
 have eB:∀ e,B e=decide (0≤Mu.nx m u e):=fun e=>by rw [← hB]
 have q:=ZmM (A 0) (A 1) (A 2) (A 3) (B 0) (B 1) (B 2) (B 3) ⟨p.2,h4⟩
  (by
   have i0:∀ e,e<4→(!B e||A e)=true:=fun e he=>by
    have:=im e he;rw [← eA,← eB] at this;cases q:B e
    ·rfl
    ·rw [this q];rfl
   have k1:B ((p.2+2)%4)=true:=by rw [eB,f.2];simp
   have k2:B (prv A p.2)=true:=by rw [eB];have:=h2.2.2;simpa using this
   dsimp only;rw [i0 0 (by omega),i0 1 (by omega),i0 2 (by omega),i0 3 (by omega),ZdL h4,Zd7 (by omega),Zd7 (ZmL h4),k1,k2];rfl)
 dsimp only at q;rw [ZdL h4,ZdL h4] at q;rw [q]
theorem Zn4 {l m:List Za}(hl:Ck l) (hm:Ck m) (S:Sub m l) (Cl:Cn l) (Cm:Cn m) {p0:Da}(h0:isD m p0) {x:Da}(hx:isD l x) (hx':¬ isD m x):∃ m' v d w,Ck m'∧Del m' m v d w∧Sub m' l∧Cn m':=by
 have:∃ y,isD m y∧¬ isD m (bh l y):=by
  refine Classical.byContradiction fun q=>hx' ?_;refine Cl (fun y=>isD m y) (fun y _ hy=>⟨Classical.byContradiction fun k=>q ⟨y,hy,k⟩,?_⟩) p0 x (S.is h0).1 hx h0;rw [← S.opp hy];exact hy.opp hm
 obtain ⟨y,hy,hz⟩:=this;have dz:isD l (bh l y):=(S.is hy).1.bh hl;rcases hv:bh l y with ⟨v,d⟩;rw [hv] at hz dz;obtain ⟨v1,d1,n1⟩:=dz;dsimp only at v1 d1 n1;rcases hl.s v d v1 d1 with ⟨a,_⟩|⟨w,w1,w2,w3,w4,w5,w6⟩
 ·omega
 have e1:nx m v d=-1:=by
  rcases S.nx v d v1 d1 with q|q
  ·exact absurd ⟨by rw [S.len];exact v1,d1,by rw [q];exact n1⟩ hz
  ·exact q
 have e2:nx m w ((d+2)%4)=-1:=by
  rcases S.nx w ((d+2)%4) w2 (by omega) with q|q
  ·have:=(hm.back' (v:=w) (d:=(d+2)%4) (w:=v) (by rw [S.len];exact w2) (by omega) (by rw [q,w4])).2;rw [show ((d+2)%4+2)%4=d by omega,e1] at this;omega
  ·exact q
 have v1':v<m.length:=by rw [S.len];exact v1
 have w2':w<m.length:=by rw [S.len];exact w2
 have hm':Ck (wth m v d w (ow l v d)):=hm.wth v1' w2' (fun q=>w3 q.symm) d1 e1 e2 w6;have nw:∀ u e,u<m.length→e<4→nx (wth m v d w (ow l v d)) u e=if u=v∧e=d then (w:Int) else if u=w∧e=(d+2)%4 then (v:Int) else nx m u e:=fun u e hu he=>(ZgK v1' w2' (fun q=>w3 q.symm) d1 hu he).1;have hlen:(wth m v d w (ow l v d)).length=m.length:=ZcN;generalize wth m v d w (ow l v d)=m' at *;have D:Del m' m v d w:=by
  refine ⟨hlen.symm,by rw [hlen];exact v1',d1,by rw [hlen];exact w2',by rw [nw v d v1' d1,if_pos ⟨rfl,rfl⟩],fun u e hu he=>?_⟩;rw [hlen] at hu;rw [nw u e hu he];by_cases c1:u=v∧e=d
  ·rw [if_pos (.inl c1),c1.1,c1.2,e1]
  ·by_cases c2:u=w∧e=(d+2)%4
   ·rw [if_pos (.inr c2),c2.1,c2.2,e2]
   ·rw [if_neg (by rintro (q|q);exact c1 q;exact c2 q),if_neg c1,if_neg c2]
 have S':Sub m' l:=by
  refine ⟨by rw [hlen,S.len],fun u e hu he=>?_⟩;have hu':u<m.length:=by rw [S.len];exact hu
  rw [nw u e hu' he];by_cases c1:u=v∧e=d
  ·rw [if_pos c1,c1.1,c1.2];exact .inl w1.symm
  ·rw [if_neg c1];by_cases c2:u=w∧e=(d+2)%4
   ·rw [if_pos c2,c2.1,c2.2];exact .inl w4.symm
   ·rw [if_neg c2];exact S.nx u e hu he
 have Sm:Sub m m':=by
  refine ⟨hlen.symm,fun u e hu he=>?_⟩;rw [hlen] at hu;by_cases c1:u=v∧e=d
  ·rw [c1.1,c1.2];exact .inr e1
  ·by_cases c2:u=w∧e=(d+2)%4
   ·rw [c2.1,c2.2];exact .inr e2
   ·rw [nw u e hu he,if_neg c1,if_neg c2];exact .inl rfl
 have by':bh m' y=(v,d):=by
  have iy:=(Sm.is hy).1;rw [S'.bh hm' hl iy (by rw [hv];exact D.e),hv]
 have oe:opp m' (v,d)=(w,(d+2)%4):=D.opp;have oe':opp m' (w,(d+2)%4)=(v,d):=by rw [← oe,ZcC hm' D.e]
 have de:=D.e;have de':=D.e' hm';refine ⟨m',v,d,w,hm',D,S',fun C hC p q hp hq hCp=>?_⟩;have cl:∀ x,isD m x→C x→C (bh m x)∧C (opp m x):=by
  intro x hx hCx;have ix:=(Sm.is hx).1;have c:=hC x ix hCx;refine ⟨?_,by rw [Sm.opp hx];exact c.2⟩;rw [(D.bh hm' hx).1];split
  ·rename_i k;rw [k] at c;have:=(hC _ de c.1).2;rw [oe] at this;exact (hC _ de' this).1
  ·split
   ·rename_i k;rw [k] at c;have:=(hC _ de' c.1).2;rw [oe'] at this;exact (hC _ de this).1
   ·exact c.1
 have some:∃ x,isD m x∧C x:=by
  by_cases c1:isD m p
  ·exact ⟨p,c1,hCp⟩
  ·have pe:p=(v,d)∨p=(w,(d+2)%4):=by
    refine Classical.byContradiction fun k=>c1 (D.isD.2 ⟨hp,fun q=>k (.inl q),fun q=>k (.inr q)⟩)
   have ce':C (w,(d+2)%4):=by
    rcases pe with rfl|rfl
    ·have:=(hC _ de hCp).2;rwa [oe] at this
    ·exact hCp
   refine ⟨bh m' (w,(d+2)%4),D.isD.2 ⟨de'.bh hm',fun k=>?_,D.bh_e' hm'⟩,(hC _ de' ce').1⟩;rw [← by'] at k;have:=Zgf hm' de' (Sm.is hy).1 k;rw [← this] at hy;exact (D.isD.1 hy).2.2 rfl
 obtain ⟨x1,hx1,cx1⟩:=some;have all:∀ z,isD m z→C z:=fun z hz=>Cm C cl x1 z hx1 hz cx1;by_cases c1:isD m q
 ·exact all q c1
 ·have qe:q=(v,d)∨q=(w,(d+2)%4):=by
   refine Classical.byContradiction fun k=>c1 (D.isD.2 ⟨hq,fun q=>k (.inl q),fun q=>k (.inr q)⟩)
  have ce:=(hC y (Sm.is hy).1 (all y hy)).1;rw [by'] at ce;rcases qe with rfl|rfl
  ·exact ce
  ·have:=(hC _ de ce).2;rwa [oe] at this
end Mu
/- Cells of which some edges are left,that hang together,can be drawn if all could. -/
namespace Mu
theorem Cyc.same {l m:List Za}(h1:∀ p,isD m p↔isD l p) (h2:∀ p,isD l p→bh m p=bh l p) {f:List Da}(h:Cyc l f):Cyc m f∧Zbg m f=Zbg l f:=by
 refine ⟨⟨h.ne,h.nd,fun p hp=>(h1 p).2 (h.is p hp),fun p hp=>by rw [h2 p (h.is p hp)];exact h.cl p hp,fun C hC p hp q hq hCp=>h.one C (fun x hx hCx=>by rw [← h2 x hx];exact hC x ((h1 x).2 hx) hCx) p hp q hq hCp⟩,?_⟩;unfold Zbg tns;congr 1;exact List.map_congr_left fun p hp=>by rw [h2 p (h.is p hp)]
theorem Sub.all {m l:List Za}(hm:Ck m) (hl:Ck l) (S:Sub m l) (h:∀ p,isD l p→isD m p):(∀ p,isD m p↔isD l p)∧(∀ p,isD l p→Mu.bh m p=Mu.bh l p)∧∀ u e,u<l.length→e<4→(0≤Mu.nx m u e↔0≤Mu.nx l u e):=by
 refine ⟨fun p=>⟨fun q=>(S.is q).1,h p⟩,fun p hp=>S.bh hm hl (h p hp) (h _ (hp.bh hl)),fun u e hu he=>⟨fun q=>?_,fun q=>?_⟩⟩
 ·exact (S.is (p:=(u,e)) ⟨by rw [S.len];exact hu,he,q⟩).1.2.2
 ·exact (h (u,e) ⟨hu,he,q⟩).2.2
theorem Sub.chi_all {m l:List Za}(hm:Ck m) (hl:Ck l) (S:Sub m l) (h:∀ p,isD l p→isD m p):chi l=chi m:=by
 obtain ⟨a,b,c⟩:=S.all hm hl h;have hd:∀ u,u<l.length→deg m u=deg l u:=by
  intro u hu;rw [ZeI,ZeI];simp only [c u 0 hu (by omega),c u 1 hu (by omega),c u 2 hu (by omega),c u 3 hu (by omega)]
 have hf:Fcs m (faces l):=⟨fun f hf=>((Zc0 hl f hf).same a b).1,(Fcs.faces hl).nd,fun p hp=>(Fcs.faces hl).al p ((a p).1 hp)⟩;unfold chi cV cD;rw [S.len,hf.len (Fcs.faces hm),Zc9 (f:=deg m) hd,Zc9 (f:=fun w=>if deg m w=0 then (0:Int) else 1) (g:=fun w=>if deg l w=0 then (0:Int) else 1) fun u hu=>by rw [hd u hu]]
theorem Zow {f g:Nat→Int}:∀ {n:Nat},(∀ i,i<n→f i≤g i)→sg f n≤sg g n
 | 0,_=>by simp [sg]
 | n+1,h=>by
  rw [sg,sg];have:=Zow (n:=n) fun i hi=>h i (by omega);have:=h n (by omega);omega
theorem Sub.cD_le {m l:List Za}(S:Sub m l):cD m≤cD l:=by
 unfold cD;rw [S.len];refine Zow fun u hu=>?_;have k:∀ e,e<4→(if 0≤Mu.nx m u e then (1:Int) else 0)≤if 0≤Mu.nx l u e then 1 else 0:=by
  intro e he;rcases S.nx u e hu he with q|q
  ·rw [q];omega
  ·rw [q,if_neg (by omega)];split<;>omega
 have:=k 0 (by omega);have:=k 1 (by omega);have:=k 2 (by omega);have:=k 3 (by omega);rw [ZeI,ZeI];omega
theorem Zkp {l m:List Za}(hc:Ck l) {v d w:Nat}(D:Del l m v d w) (Cl:Cn l) {p:Da}(hp:isD m p) (h1:bh l (v,d)=(w,(d+2)%4)) (h2:bh l (w,(d+2)%4)=(v,d)):False:=by
 have ip:=D.isD.1 hp;have:=Cl (fun x=>x=(v,d)∨x=(w,(d+2)%4)) (fun x hx hCx=>by
  rcases hCx with rfl|rfl
  ·exact ⟨.inr h1,.inr D.opp⟩
  ·exact ⟨.inl h2,.inl (by rw [← D.opp,ZcC hc D.e])⟩) (v,d) p D.e ip.1 (.inl rfl)
 rcases this with q|q
 ·exact ip.2.1 q
 ·exact ip.2.2 q
theorem Zmi {l:List Za}(hl:Ck l) (Cl:Cn l):∀ (k:Nat) (m:List Za),Ck m→Sub m l→Cn m→(∃ p,isD m p)→(cD l-cD m).toNat≤k→chi l≤chi m:=by
 intro k
 induction k with
 | zero =>
  intro m hm S Cm ⟨p0,h0⟩ hk;by_cases c:∀ p,isD l p→isD m p
  ·rw [S.chi_all hm hl c];exact Int.le_refl _
  ·have:∃ p,isD l p∧¬ isD m p:=Classical.byContradiction fun q=>c fun p hp=>Classical.byContradiction fun r=>q ⟨p,hp,r⟩;obtain ⟨x,hx,hx'⟩:=this;obtain ⟨m',v,d,w,hm',D,S',C'⟩:=Zn4 hl hm S Cl Cm h0 hx hx';have:=D.cD hm';have:=S'.cD_le;omega
 | succ k ih =>
  intro m hm S Cm ⟨p0,h0⟩ hk;by_cases c:∀ p,isD l p→isD m p
  ·rw [S.chi_all hm hl c];exact Int.le_refl _
  ·have:∃ p,isD l p∧¬ isD m p:=Classical.byContradiction fun q=>c fun p hp=>Classical.byContradiction fun r=>q ⟨p,hp,r⟩;obtain ⟨x,hx,hx'⟩:=this;obtain ⟨m',v,d,w,hm',D,S',C'⟩:=Zn4 hl hm S Cl Cm h0 hx hx';have e1:=D.cD hm';have:=ih m' hm' S' C' ⟨p0,(D.isD.1 h0).1⟩ (by omega);rcases D.chi hm' hm with (q|q)|⟨_,q1,q2⟩
   ·omega
   ·omega
   ·exact (Zkp hm' D C' h0 q1 q2).elim
theorem Zfn {n u e:Nat}(h:u<n) (he:e<4):nx (List.replicate n noC) u e=-1:=by
 have:gi (List.replicate n noC) u=noC:=by rw [Zaz (by simpa using h)];simp
 unfold nx;rw [this];exact (Zpt he).1
theorem ZiG {n:Nat}:chi (List.replicate n noC)=0:=by
 have hd:∀ u,u<n→deg (List.replicate n noC) u=0:=by
  intro u hu;rw [ZeI,Zfn hu (by omega),Zfn hu (by omega),Zfn hu (by omega),Zfn hu (by omega)];rfl
 have hf:Fcs (List.replicate n noC) []:=⟨by simp,by simp,fun p hp=>by
  have h1:=hp.1;have h2:=hp.2.2;rw [Zfn (by simpa using h1) hp.2.1] at h2;omega⟩
 unfold chi cV cD;rw [← hf.len (Fcs.faces (Ck.new n)),ZfW (f:=deg (List.replicate n noC)) (fun u hu=>hd u (by simpa using hu)),ZfW fun u hu=>by rw [if_pos (hd u (by simpa using hu))]];rfl
theorem Zny {m:List Za}(hm:Ck m) (Cm:Cn m) {p:Da}(hp:isD m p):chi m≤4:=by
 obtain ⟨v,d⟩:=p;obtain ⟨v1,d1,n1⟩:=hp;dsimp only at v1 d1 n1;rcases hm.s v d v1 d1 with ⟨a,_⟩|⟨w,w1,w2,w3,w4,w5,w6⟩
 ·omega
 have v1':v<(List.replicate m.length noC).length:=by simpa using v1
 have w2':w<(List.replicate m.length noC).length:=by simpa using w2
 have hs:Ck (wth (List.replicate m.length noC) v d w (ow m v d)):=(Ck.new _).wth v1' w2' (fun q=>w3 q.symm) d1 (Zfn v1 d1) (Zfn w2 (by omega)) w6;have nw:∀ u e,u<m.length→e<4→nx (wth (List.replicate m.length noC) v d w (ow m v d)) u e=if u=v∧e=d then (w:Int) else if u=w∧e=(d+2)%4 then (v:Int) else -1:=fun u e hu he=>by
  rw [(ZgK v1' w2' (fun q=>w3 q.symm) d1 (by simpa using hu) he).1,Zfn hu he]
 have hlen:(wth (List.replicate m.length noC) v d w (ow m v d)).length=m.length:=by rw [ZcN];simp
 generalize wth (List.replicate m.length noC) v d w (ow m v d)=s at *;have D:Del s (List.replicate m.length noC) v d w:=by
  refine ⟨by rw [hlen];simp,by rw [hlen];exact v1,d1,by rw [hlen];exact w2,by rw [nw v d v1 d1,if_pos ⟨rfl,rfl⟩],fun u e hu he=>?_⟩;rw [hlen] at hu;rw [nw u e hu he,Zfn hu he];by_cases c1:u=v∧e=d
  ·rw [if_pos (.inl c1)]
  ·by_cases c2:u=w∧e=(d+2)%4
   ·rw [if_pos (.inr c2)]
   ·rw [if_neg (by rintro (q|q);exact c1 q;exact c2 q),if_neg c1,if_neg c2]
 have S:Sub s m:=by
  refine ⟨hlen,fun u e hu he=>?_⟩;rw [nw u e hu he];by_cases c1:u=v∧e=d
  ·rw [if_pos c1,c1.1,c1.2];exact .inl w1.symm
  ·rw [if_neg c1];by_cases c2:u=w∧e=(d+2)%4
   ·rw [if_pos c2,c2.1,c2.2];exact .inl w4.symm
   ·rw [if_neg c2];exact .inr rfl
 have only:∀ x,isD s x→x=(v,d)∨x=(w,(d+2)%4):=by
  intro x hx;have h1:=hx.1;rw [hlen] at h1;have h3:=hx.2.2;rw [nw _ _ h1 hx.2.1] at h3;by_cases c1:x.1=v∧x.2=d
  ·exact .inl (Prod.ext c1.1 c1.2)
  ·rw [if_neg c1] at h3;by_cases c2:x.1=w∧x.2=(d+2)%4
   ·exact .inr (Prod.ext c2.1 c2.2)
   ·rw [if_neg c2] at h3;omega
 have oe:opp s (v,d)=(w,(d+2)%4):=D.opp;have oe':opp s (w,(d+2)%4)=(v,d):=by rw [← oe,ZcC hs D.e]
 have Cs:Cn s:=by
  intro C hC p q hp hq hCp;have both:C (v,d)∧C (w,(d+2)%4):=by
   rcases only p hp with rfl|rfl
   ·have:=(hC _ D.e hCp).2;rw [oe] at this;exact ⟨hCp,this⟩
   ·have:=(hC _ (D.e' hs) hCp).2;rw [oe'] at this;exact ⟨this,hCp⟩
  rcases only q hq with rfl|rfl
  ·exact both.1
  ·exact both.2
 have b1:bh s (v,d)=(w,(d+2)%4):=by
  rcases only _ (D.e.bh hs) with q|q
  ·exact absurd q (D.bh_e hs)
  ·exact q
 have b2:bh s (w,(d+2)%4)=(v,d):=by
  rcases only _ ((D.e' hs).bh hs) with q|q
  ·exact q
  ·exact absurd q (D.bh_e' hs)
 have:=Zmi hm Cm _ s hs S Cs ⟨_,D.e⟩ (Nat.le_refl _);rcases D.chi hs (Ck.new _) with (q|q)|⟨q,_⟩
 ·rw [ZiG] at q;omega
 ·rw [ZiG] at q;omega
 ·rw [ZiG] at q;omega

/-! Rotations and Euler's number. -/
theorem Zl8 {l:List Za}(hc:Ck l):((Zep l).map (tt l)).sum=2*cD l-4*cV l:=by
 have:(Zep l).map (tt l)=(Zep l).map fun p=>tn p.2 (bh l p).2:=rfl;rw [this,Zl6];have e1:sg (fun v=>sg (fun d=>if 0≤nx l v d then tn d (bh l (v,d)).2 else 0) 4) l.length=sg (fun d=>sg (fun v=>if 0≤nx l v d then tn d (bh l (v,d)).2 else 0) l.length) 4:=Zhs;have e2:sg (fun d=>sg (fun v=>if 0≤nx l v d then tn d (bh l (v,d)).2 else 0) l.length) 4=sg (fun d=>sg (fun w=>if 0≤nx l w ((d+2)%4) then arr l w d else 0) l.length) 4:=by
  refine Zc9 fun d hd=>?_;refine ZmU hc hd (fun v hv c=>if_neg (by omega)) (fun v hv c=>if_neg (by omega)) (fun v w hv hw e=>?_);have b:=(hc.back' hv hd e);rw [if_pos (by omega),if_pos (by omega)];have:=Zq3 (l:=l) (p:=(v,d)) hd;dsimp only at this;rw [this,e,itn]
 have e3:sg (fun d=>sg (fun w=>if 0≤nx l w ((d+2)%4) then arr l w d else 0) l.length) 4=sg (fun w=>2*deg l w-4*(if deg l w=0 then 0 else 1)) l.length:=by
  rw [Zhs];refine Zc9 fun w hw'=>?_;by_cases c:deg l w=0
  ·rw [if_pos c,c];have k:∀ d,d<4→¬ 0≤nx l w d:=by
    intro d hd q;have:=ZiI (l:=l) (p:=(w,d)) ⟨hw',hd,q⟩;dsimp only at this;omega
   rw [ZnX,if_neg (k _ (by omega)),if_neg (k _ (by omega)),if_neg (k _ (by omega)),if_neg (k _ (by omega))];rfl
  ·rw [if_neg c,ZjX (ZoN c)];rfl
 show sg (fun v=>sg (fun d=>if 0≤nx l v d then tn d (bh l (v,d)).2 else 0) 4) l.length=_;rw [e1,e2,e3,Zjk,Zk3,Zk3];rfl
theorem Fcs.sum {l:List Za}(hc:Ck l) {F:List (List Da)}(h:Fcs l F):(F.map (Zbg l)).sum=2*cD l-4*cV l:=by
 have pe:F.flatten.Perm (Zep l):=(List.perm_ext_iff_of_nodup h.nd Zmm).2 fun p=>by
  rw [Zlv];refine ⟨fun q=>?_,h.al p⟩;obtain ⟨f,hf,hp⟩:=List.mem_flatten.1 q;exact (h.cy f hf).is p hp
 rw [← Zl8 hc,← ZhM pe,ZgE];rfl
theorem Zkw:∀ {R:List Int},(∀ r∈R,r=4∨r=-4)→R.sum≤4*R.length∧(R.sum=4*R.length→∀ r∈R,r=4)
 | [],_=>⟨by simp,fun _ r hr=>by simp at hr⟩
 | a::R,h=>by
  obtain ⟨i1,i2⟩:=Zkw (R:=R) fun r hr=>h r (List.mem_cons_of_mem _ hr);have ha:=h a (by simp);rw [List.sum_cons,List.length_cons];refine ⟨by omega,fun e r hr=>?_⟩;rcases List.mem_cons.1 hr with rfl|hr
  ·omega
  ·exact i2 (by omega) r hr
theorem ZmH:∀ {R:List Int},(∀ r∈R,r=4∨r=-4)→R.sum=4*R.length-8→∃ i,i<R.length∧gi R i=-4∧∀ j,j<R.length→gi R j=-4→j=i
 | [],_,h=>by simp at h
 | a::R,h,hs=>by
  have hR:=fun r hr=>h r (List.mem_cons_of_mem a hr);have ha:=h a (by simp);rw [List.sum_cons,List.length_cons] at hs;rcases ha with rfl|rfl
  ·obtain ⟨i,h1,h2,h3⟩:=ZmH hR (by omega);refine ⟨i+1,by simp;omega,h2,fun j hj e=>?_⟩
   cases j with
   | zero=>have e':(4:Int)=-4:=e;omega
   | succ j=>rw [h3 j (by simp at hj;omega) e]
  ·have:=(Zkw hR).2 (by omega);refine ⟨0,by simp,rfl,fun j hj e=>?_⟩
   cases j with
   | zero=>rfl
   | succ j =>
    have hj':j<R.length:=by simp at hj;omega
    have e':gi R j=-4:=e;have:=this _ (Zaw hj');omega
theorem Zfq {l:List Za}(hc:Ck l):Val l↔(∀ f,Cyc l f→Zbg l f=4∨Zbg l f=-4)∧chi l=4:=by
 have sm:=(Fcs.faces hc).sum hc;constructor
 ·intro h;obtain ⟨a,ha,h0⟩:=Zg7.2 h;have ft:=Zj5 ha h0;have e:(((faces l).flatten.map fun p=>tn p.2 (bh l p).2)).sum=((faces l).map (Zbg l)).sum:=by rw [ZgE];rfl
  rw [e,sm] at ft;refine ⟨fun f hf=>?_,by unfold chi;omega⟩;obtain ⟨p,hp⟩:=List.exists_mem_of_ne_nil f hf.ne;obtain ⟨i,hi,hpi⟩:=ZiL hc (hf.is p hp) (ZjU hc);rw [ZfU (hf.perm (Zc0 hc _ (Zaw hi)) hp hpi)];exact h.1 i hi
 ·rintro ⟨h,hchi⟩;have pm:∀ r∈(faces l).map (Zbg l),r=4∨r=-4:=by
   intro r hr;obtain ⟨f,hf,rfl⟩:=List.mem_map.1 hr;exact h f (Zc0 hc f hf)
  unfold chi at hchi;obtain ⟨i,h1,h2,h3⟩:=ZmH pm (by rw [sm,List.length_map];omega);rw [List.length_map] at h1 h3;refine ⟨fun j hj=>h _ (Zc0 hc _ (Zaw hj)),⟨i,h1,by rw [← Zcd (f:=Zbg l) h1];exact h2⟩,fun j k hj hk e1 e2=>?_⟩;rw [h3 j hj (by rw [Zcd hj];exact e1),h3 k hk (by rw [Zcd hk];exact e2)]
theorem ZnQ {l:List Za}(hc:Ck l) {f g:List Da}{R:List (List Da)}(h:Fcs l (f::g::R)) (hp:∀ f,Cyc l f→Zbg l f=4∨Zbg l f=-4) (hchi:chi l=4) (h1:Zbg l f=-4) (h2:Zbg l g=-4):False:=by
 have sm:=h.sum hc;have ln:=h.len (Fcs.faces hc);have:=(Zkw (R:=R.map (Zbg l)) fun r hr=>by
  obtain ⟨x,hx,rfl⟩:=List.mem_map.1 hr;exact hp x (h.cy x (by simp [hx]))).1
 unfold chi at hchi;simp only [List.map_cons,List.sum_cons,List.length_cons,List.length_map] at sm ln this;omega
theorem Del.val {l m:List Za}(hc:Ck l) (hm:Ck m) {v d w:Nat}(D:Del l m v d w) (Cl:Cn l) (Cm:Cn m) {p:Da}(hp:Mu.isD m p) (h:Val l):Val m:=by
 obtain ⟨h1,h2⟩:=(Zfq hc).1 h;have t:=Zny hm Cm hp;have key:∀ F,Fcs m F→(∀ f∈F,Zbg m f=4∨Zbg m f=-4)→∀ f,Cyc m f→Zbg m f=4∨Zbg m f=-4:=by
  intro F hF hr f hf;obtain ⟨x,hx⟩:=List.exists_mem_of_ne_nil f hf.ne;obtain ⟨g,hg,hxg⟩:=List.mem_flatten.1 (hF.al x (hf.is x hx));rw [ZfU (hf.perm (hF.cy g hg) hx hxg)];exact hr g hg
 have X:Mu.chi m=4:=by
  rcases D.chi hc hm with (q|q)|⟨_,q1,q2⟩
  ·omega
  ·omega
  ·exact (Zkp hc D Cl hp q1 q2).elim
 refine (Zfq hm).2 ⟨?_,X⟩;have a1:=D.cD hc;have a2:=D.cV hc
 cases D.kind hc with
 | two A B R hA hB hl hm' rot same n1 n2 lm =>
  refine key _ hm' fun f hf=>?_;rcases List.mem_cons.1 hf with rfl|hf
  ·rw [rot];rcases h1 _ hA.cyc with x|x<;>rcases h1 _ hB.cyc with y|y
   ·left;omega
   ·right;omega
   ·right;omega
   ·exact (ZnQ hc hl h1 h2 x y).elim
  ·rw [same f hf];exact h1 f (hl.cy f (by simp [hf]))
 | one A B R hA hl hm' rot same n1 n2 lA lB =>
  have f1:=hl.len (Fcs.faces hc);have f2:=hm'.len (Fcs.faces hm);simp only [List.length_cons] at f1 f2;have b1:=Zgu hc D.e;have b2:=Zgu hc (D.e' hc);rw [D.opp] at b1;rw [← D.opp,ZcC hc D.e,D.opp] at b2;dsimp only at b1 b2;rw [if_neg fun q=>n2 (b2.2 q),if_neg fun q=>n1 (b1.2 q)] at a2;unfold Mu.chi at h2 X;omega
 | leaf A R hA hl hm' rot same n =>
  refine key _ hm' fun f hf=>?_;rcases List.mem_cons.1 hf with rfl|hf
  ·rw [rot];exact h1 _ hA
  ·rw [same f hf];exact h1 f (hl.cy f (by simp [hf]))
 | iso R hA hl hm' same n1 n2=>exact (Zkp hc D Cl hp n1 n2).elim
theorem Sub.val {l:List Za}(hl:Ck l) (Cl:Cn l) (h:Val l):∀ (k:Nat) (m:List Za),Ck m→Sub m l→Cn m→(∃ p,isD m p)→(cD l-cD m).toNat≤k→Val m:=by
 intro k
 induction k with
 | zero =>
  intro m hm S Cm ⟨p0,h0⟩ hk;by_cases c:∀ p,isD l p→isD m p
  ·obtain ⟨a,b,_⟩:=S.all hm hl c;obtain ⟨h1,h2⟩:=(Zfq hl).1 h;refine (Zfq hm).2 ⟨fun f hf=>?_,by rw [← S.chi_all hm hl c];exact h2⟩;obtain ⟨k1,k2⟩:=hf.same (l:=m) (m:=l) (fun p=>(a p).symm) fun p hp=>(b p ((a p).1 hp)).symm;rw [← k2];exact h1 f k1
  ·have:∃ p,isD l p∧¬ isD m p:=Classical.byContradiction fun q=>c fun p hp=>Classical.byContradiction fun r=>q ⟨p,hp,r⟩;obtain ⟨x,hx,hx'⟩:=this;obtain ⟨m',v,d,w,hm',D,S',C'⟩:=Zn4 hl hm S Cl Cm h0 hx hx';have:=D.cD hm';have:=S'.cD_le;omega
 | succ k ih =>
  intro m hm S Cm ⟨p0,h0⟩ hk;by_cases c:∀ p,isD l p→isD m p
  ·obtain ⟨a,b,_⟩:=S.all hm hl c;obtain ⟨h1,h2⟩:=(Zfq hl).1 h;refine (Zfq hm).2 ⟨fun f hf=>?_,by rw [← S.chi_all hm hl c];exact h2⟩;obtain ⟨k1,k2⟩:=hf.same (l:=m) (m:=l) (fun p=>(a p).symm) fun p hp=>(b p ((a p).1 hp)).symm;rw [← k2];exact h1 f k1
  ·have:∃ p,isD l p∧¬ isD m p:=Classical.byContradiction fun q=>c fun p hp=>Classical.byContradiction fun r=>q ⟨p,hp,r⟩;obtain ⟨x,hx,hx'⟩:=this;obtain ⟨m',v,d,w,hm',D,S',C'⟩:=Zn4 hl hm S Cl Cm h0 hx hx';have e1:=D.cD hm';exact D.val hm' hm C' Cm h0 (ih m' hm' S' C' ⟨p0,(D.isD.1 h0).1⟩ (by omega))
end Mu
/- Cells on a plane: laid out on the board's own lines. -/
namespace Mu
/-! Cells that hang together,dart by dart. -/
theorem ZqS:∀ a b c d:Bool,∀ i j:Fin 4,ZcL a b c d i.1=true→ZcL a b c d j.1=true →
  j.1=i.1∨j.1=prv (ZcL a b c d) ((i.1+2)%4)∨j.1=prv (ZcL a b c d) ((prv (ZcL a b c d) ((i.1+2)%4)+2)%4)∨j.1=prv (ZcL a b c d) ((prv (ZcL a b c d) ((prv (ZcL a b c d) ((i.1+2)%4)+2)%4)+2)%4):=by decide +kernel
theorem Zlc {l:List Za}(hc:Ck l) {C:Da→Prop}(hC:∀ x,isD l x→C x→C (bh l x)∧C (opp l x)) {u i j:Nat}(hi:isD l (u,i)) (hj:isD l (u,j)) (h:C (u,i)):C (u,j):=by
 have st:∀ {k},isD l (u,k)→C (u,k)→isD l (u,prv (fun e=>decide (0≤nx l u e)) ((k+2)%4))∧C (u,prv (fun e=>decide (0≤nx l u e)) ((k+2)%4)):=by
  intro k hk hCk;have f:=hk.fwd hc;have o:=hk.opp hc;have c1:=(hC _ hk hCk).2;have c2:=(hC _ o c1).1;have c3:=o.bh hc;rw [Zef] at c2 c3;have e:(nx l (opp l (u,k)).1 (opp l (u,k)).2).toNat=u:=by
   show (nx l (nx l u k).toNat ((k+2)%4)).toNat=u;have:=f.2;dsimp only at this;rw [this];omega
  rw [e] at c2 c3;exact ⟨c3,c2⟩
 have q:=ZqS (decide (0≤nx l u 0)) (decide (0≤nx l u 1)) (decide (0≤nx l u 2)) (decide (0≤nx l u 3)) ⟨i,hi.2.1⟩ ⟨j,hj.2.1⟩;have se:∀ e,e<4→ZcL (decide (0≤nx l u 0)) (decide (0≤nx l u 1)) (decide (0≤nx l u 2)) (decide (0≤nx l u 3)) e=decide (0≤nx l u e):=fun e he=>Zd7 (A:=fun e=>decide (0≤nx l u e)) he;have pe:∀ e,e<4→prv (ZcL (decide (0≤nx l u 0)) (decide (0≤nx l u 1)) (decide (0≤nx l u 2)) (decide (0≤nx l u 3))) e=prv (fun e=>decide (0≤nx l u e)) e:=fun e he=>ZdL (A:=fun e=>decide (0≤nx l u e)) he;have i0:=hi.2.2;have j0:=hj.2.2;dsimp only at q i0 j0;have q:=q (by rw [se i hi.2.1];simpa using i0) (by rw [se j hj.2.1];simpa using j0);have l1:prv (fun e=>decide (0≤nx l u e)) ((i+2)%4)<4:=ZmL (by omega);rw [pe _ (by omega),pe _ (by omega),pe _ (by omega)] at q;obtain ⟨d1,c1⟩:=st hi h;obtain ⟨d2,c2⟩:=st d1 c1;obtain ⟨d3,c3⟩:=st d2 c2;rcases q with q|q|q|q
 ·rw [q];exact h
 ·rw [q];exact c1
 ·rw [q];exact c2
 ·rw [q];exact c3
theorem ZoK {l:List Za}(hc:Ck l) {C:Da→Prop}(hC:∀ x,isD l x→C x→C (bh l x)∧C (opp l x)) {u n w:Nat}(hu:u<l.length) (hr:Rch l u n w) (h:∀ j,isD l (u,j)→C (u,j)):∀ j,isD l (w,j)→C (w,j):=by
 induction hr with
 | zero=>exact h
 | succ hr hab ih =>
  rename_i n a b;have ha:=hr.lt hc hu;obtain ⟨d,hd,e⟩:=hab;have D:isD l (a,d):=⟨ha,hd,by rw [e];omega⟩;have c:=(hC _ D (ih d D)).2;have o:=D.opp hc;have eo:opp l (a,d)=(b,(d+2)%4):=by unfold opp;dsimp only;rw [e,itn]
  rw [eo] at c o;exact fun j hj=>Zlc hc hC o hj c
theorem Zj1 {l:List Za}(hc:Ck l) (h:ZcM l):Cn l:=by
 intro C hC p q hp hq hCp;have all:∀ j,isD l (p.1,j)→C (p.1,j):=fun j hj=>Zlc (i:=p.2) hc hC hp hj hCp;obtain ⟨n,r1⟩:=Zi8 h hp.1;obtain ⟨m,r2⟩:=Zi8 h hq.1;exact ZoK hc hC hp.1 ((r1.symm hc (by have:=hp.1;omega)).trans r2) all q.2 hq

/-! The board. -/
end Mu
