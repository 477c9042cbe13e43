/- The law, plainly: what is worked out. -/
import Derived.Test.YtdefkboekpjiiaaMuV
import Derived.Test.YtdefkboekpjiiaaMuDf
/- Layer 10: cells,made of places. -/
set_option linter.unusedVariables false
set_option linter.unusedSimpArgs false
set_option maxRecDepth 10000
namespace Mu

def nx (l:List Za) (v d:Nat):Int:=((gi l v).Next).get (d:Int)
def ow (l:List Za) (v d:Nat):Int:=((gi l v).Owner).get (d:Int)
theorem Zc1 {α:Type}{x:A4 α}{i j:Nat}{v:α}(hi:i<4) (hj:j<4):(x.set (i:Int) v).get (j:Int)=if j=i then v else x.get (j:Int):=by
 match i,j,hi,hj with
 | 0,0,_,_|0,1,_,_|0,2,_,_|0,3,_,_|1,0,_,_|1,1,_,_|1,2,_,_|1,3,_,_|2,0,_,_|2,1,_,_|2,2,_,_|2,3,_,_|3,0,_,_|3,1,_,_|3,2,_,_|3,3,_,_=>rfl
def noC:Za:=⟨⟨-1,-1,-1,-1⟩,⟨0,0,0,0⟩⟩
theorem Zdy {α:Type} [Inhabited α] {n i:Nat}{f:Nat→α}(h:i<n):gi ((List.range n).map f) i=f i:=by
 rw [ZaJ (by simpa using h)];simp
theorem Zd0 {α:Type} [Inhabited α] {l m:List α}(h:l.length=m.length) (hg:∀ i,i<l.length→gi l i=gi m i):l=m:=by
 apply List.ext_getElem h;intro i h1 h2;have:=hg i h1;rw [ZaJ h1,ZaJ h2] at this;exact this

/-! New -/
theorem Zm6 {n:Nat}(hn:n≤1000000000):zh n=some (List.replicate n noC):=by
 unfold zh;rw [ZY (by omega),itn,ZjV (x:=List.replicate n noC)];refine Zbu (fun i:Nat=>(List.replicate i noC++List.replicate (n-i) ⟨⟨0,0,0,0⟩,⟨0,0,0,0⟩⟩,(i:Int))) (n:=n) (Za8 (by omega)) (by simp) (fun i hi=>?_) ?_
 ·have e1:List.replicate (n-i) (⟨⟨0,0,0,0⟩,⟨0,0,0,0⟩⟩:Za)=⟨⟨0,0,0,0⟩,⟨0,0,0,0⟩⟩::List.replicate (n-(i+1)) ⟨⟨0,0,0,0⟩,⟨0,0,0,0⟩⟩:=by
   rw [show n-i=n-(i+1)+1 by omega,List.replicate_succ]
  have e2:List.replicate (i+1) noC=List.replicate i noC++[noC]:=by rw [List.replicate_succ']
  have inner:zp (zh.s1 i) big (List.replicate i noC++List.replicate (n-i) ⟨⟨0,0,0,0⟩,⟨0,0,0,0⟩⟩,0)=some (List.replicate (i+1) noC++List.replicate (n-(i+1)) ⟨⟨0,0,0,0⟩,⟨0,0,0,0⟩⟩):=by
   rw [e1,e2];generalize List.replicate (n-(i+1)) (⟨⟨0,0,0,0⟩,⟨0,0,0,0⟩⟩:Za)=r;refine Zbu (fun k:Nat=>(List.replicate i noC++(⟨⟨if 0<k then -1 else 0,if 1<k then -1 else 0,if 2<k then -1 else 0,if 3<k then -1 else 0⟩,⟨0,0,0,0⟩⟩:Za)::r,(k:Int))) (n:=4) (Za8 (by omega)) rfl (fun k hk=>?_) ?_
   ·have hlen:(List.replicate i noC).length=i:=by simp
    have g:∀ c:Za,gi (List.replicate i noC++c::r) i=c:=by
     intro c;have:=ZaQ (l:=List.replicate i noC) (m:=c::r) (i:=0);rw [hlen,Nat.add_zero] at this;rw [this];rfl
    have st:∀ c d:Za,(List.replicate i noC++c::r).set i d=List.replicate i noC++d::r:=by
     intro c d;rw [List.set_append_right _ _ (by simp)];simp
    simp only [zh.s1];rw [zn (by omega),ZY (by simp;omega),ZY (by omega),ZY (by omega),itn,g,st]
    match k,hk with
    | 0,_|1,_|2,_|3,_=>rfl
   ·simp only [zh.s1];rw [zm (by omega)];simp [noC]
  simp only [zh.s0];rw [zn (by omega),inner,obs,ZY (by omega)];rfl
 ·simp only [zh.s0];rw [zm (by omega)];simp

/-! The nearest -/
def ZdW (at_:List Zp) (i d k:Nat):Prop:=k<at_.length∧if d=0 then (gi at_ k).Y=(gi at_ i).Y∧(gi at_ i).X<(gi at_ k).X else (gi at_ k).X=(gi at_ i).X∧(gi at_ i).Y<(gi at_ k).Y
def Zbv (at_:List Zp) (d j k:Nat):Prop:=if d=0 then (gi at_ j).X≤(gi at_ k).X else (gi at_ j).Y≤(gi at_ k).Y
def Zb2 (at_:List Zp) (i d n:Nat) (w:Int):Prop:=(w=-1∧∀ k,k<n→¬ ZdW at_ i d k)∨∃ j:Nat,w=j∧j<n∧ZdW at_ i d j∧∀ k,k<n→ZdW at_ i d k→Zbv at_ d j k
instance {at_ i d k}:Decidable (ZdW at_ i d k):=by unfold ZdW;infer_instance
instance {at_ d j k}:Decidable (Zbv at_ d j k):=by unfold Zbv;infer_instance
theorem ZgW {at_:List Zp}{i d n:Nat}(hl:at_.length≤1000) (hi:i<at_.length) (hd:d<2) (hn:n<at_.length) {w:Int}(hw:Zb2 at_ i d n w):∃ w',Zb2 at_ i d (n+1) w'∧ZC.s0 at_ i d (w,n)=some (.inl (w',(n:Int)+1)):=by
 have hlow:¬ ZdW at_ i d n→Zb2 at_ i d (n+1) w:=by
  intro hc;rcases hw with ⟨rfl,h⟩|⟨j,rfl,h1,h2,h3⟩
  ·refine .inl ⟨rfl,fun k hk=>?_⟩;rcases Nat.lt_succ_iff_lt_or_eq.1 hk with h'|rfl
   ·exact h k h'
   ·exact hc
  ·refine .inr ⟨j,rfl,by omega,h2,fun k hk hk2=>?_⟩;rcases Nat.lt_succ_iff_lt_or_eq.1 hk with h'|rfl
   ·exact h3 k h' hk2
   ·exact absurd hk2 hc
 have hnew:w=-1→ZdW at_ i d n→Zb2 at_ i d (n+1) n:=by
  intro hw1 hc;rcases hw with ⟨_,h⟩|⟨j,h0,_⟩
  ·refine .inr ⟨n,rfl,by omega,hc,fun k hk hk2=>?_⟩;rcases Nat.lt_succ_iff_lt_or_eq.1 hk with h'|rfl
   ·exact absurd hk2 (h k h')
   ·unfold Zbv;split<;>omega
  ·omega
 have hkeep:∀ j:Nat,w=j→Zbv at_ d j n→Zb2 at_ i d (n+1) w:=by
  intro j hj hc;rcases hw with ⟨h0,_⟩|⟨j',h0,h1,h2,h3⟩
  ·omega
  ·have:j=j':=by omega
   subst this;refine .inr ⟨j,h0,by omega,h2,fun k hk hk2=>?_⟩;rcases Nat.lt_succ_iff_lt_or_eq.1 hk with h'|rfl
   ·exact h3 k h' hk2
   ·exact hc
 have hturn:∀ j:Nat,w=j→¬ Zbv at_ d j n→ZdW at_ i d n→Zb2 at_ i d (n+1) n:=by
  intro j hj hc hcand;rcases hw with ⟨h0,_⟩|⟨j',h0,h1,h2,h3⟩
  ·omega
  ·have:j=j':=by omega
   subst this;refine .inr ⟨n,rfl,by omega,hcand,fun k hk hk2=>?_⟩;rcases Nat.lt_succ_iff_lt_or_eq.1 hk with h'|rfl
   ·have h4:=h3 k h' hk2;unfold Zbv at h4 hc ⊢;by_cases z:d=0
    ·rw [if_pos z] at *; omega
    ·rw [if_neg z] at *; omega
   ·unfold Zbv;split<;>omega
 have hwc:w=-1∨∃ j:Nat,w=j∧j<n:=by
  rcases hw with ⟨h,_⟩|⟨j,h,h2,_⟩
  ·exact .inl h
  ·exact .inr ⟨j,h,h2⟩
 have hd':d=0∨d=1:=by omega
 rcases hd' with rfl|rfl
 ·have z:((0:Nat):Int)=0:=rfl;by_cases hY:(gi at_ n).Y=(gi at_ i).Y
  ·by_cases hX:(gi at_ i).X<(gi at_ n).X
   ·have hc:ZdW at_ i 0 n:=⟨hn,by rw [if_pos rfl];exact ⟨hY,hX⟩⟩;rcases hwc with rfl|⟨j,rfl,hj⟩
    ·refine ⟨n,hnew rfl hc,?_⟩;simp (disch:=omega) only [ZC.s0,z,hY,evl,decide_true,decide_false,Bool.not_eq_true,Bool.decide_eq_true,Int.reduceToNat]
     try simp (disch:=omega) only [evl,decide_true,decide_false,Bool.not_eq_true,Bool.decide_eq_true,Int.reduceToNat]
    ·by_cases hcl:Zbv at_ 0 j n
     ·refine ⟨j,hkeep j rfl hcl,?_⟩;have hcl':(gi at_ j).X≤(gi at_ n).X:=by simpa [Zbv] using hcl
      simp (disch:=omega) only [ZC.s0,z,hY,evl,decide_true,decide_false,Bool.not_eq_true,Bool.decide_eq_true,Int.reduceToNat]
      try simp (disch:=omega) only [evl,decide_true,decide_false,Bool.not_eq_true,Bool.decide_eq_true,Int.reduceToNat]
     ·refine ⟨n,hturn j rfl hcl hc,?_⟩;have hcl':¬ (gi at_ j).X≤(gi at_ n).X:=by simpa [Zbv] using hcl
      simp (disch:=omega) only [ZC.s0,z,hY,evl,decide_true,decide_false,Bool.not_eq_true,Bool.decide_eq_true,Int.reduceToNat]
      try simp (disch:=omega) only [evl,decide_true,decide_false,Bool.not_eq_true,Bool.decide_eq_true,Int.reduceToNat]
   ·refine ⟨w,hlow (fun hc=>hX (by have:=hc.2;rw [if_pos rfl] at this;exact this.2)),?_⟩;simp (disch:=omega) only [ZC.s0,z,hY,evl,decide_true,decide_false,Bool.not_eq_true,Bool.decide_eq_true,Int.reduceToNat]
    try simp (disch:=omega) only [evl,decide_true,decide_false,Bool.not_eq_true,Bool.decide_eq_true,Int.reduceToNat]
  ·refine ⟨w,hlow (fun hc=>hY (by have:=hc.2;rw [if_pos rfl] at this;exact this.1)),?_⟩;simp (disch:=omega) only [ZC.s0,z,hY,evl,decide_true,decide_false,Bool.not_eq_true,Bool.decide_eq_true,Int.reduceToNat]
   try simp (disch:=omega) only [evl,decide_true,decide_false,Bool.not_eq_true,Bool.decide_eq_true,Int.reduceToNat]
 ·have z:((1:Nat):Int)=1:=rfl;by_cases hY:(gi at_ n).X=(gi at_ i).X
  ·by_cases hX:(gi at_ i).Y<(gi at_ n).Y
   ·have hc:ZdW at_ i 1 n:=⟨hn,by rw [if_neg (by decide)];exact ⟨hY,hX⟩⟩;rcases hwc with rfl|⟨j,rfl,hj⟩
    ·refine ⟨n,hnew rfl hc,?_⟩;simp (disch:=omega) only [ZC.s0,z,hY,evl,decide_true,decide_false,Bool.not_eq_true,Bool.decide_eq_true,Int.reduceToNat]
     try simp (disch:=omega) only [evl,decide_true,decide_false,Bool.not_eq_true,Bool.decide_eq_true,Int.reduceToNat]
    ·by_cases hcl:Zbv at_ 1 j n
     ·refine ⟨j,hkeep j rfl hcl,?_⟩;have hcl':(gi at_ j).Y≤(gi at_ n).Y:=by simpa [Zbv] using hcl
      simp (disch:=omega) only [ZC.s0,z,hY,evl,decide_true,decide_false,Bool.not_eq_true,Bool.decide_eq_true,Int.reduceToNat]
      try simp (disch:=omega) only [evl,decide_true,decide_false,Bool.not_eq_true,Bool.decide_eq_true,Int.reduceToNat]
     ·refine ⟨n,hturn j rfl hcl hc,?_⟩;have hcl':¬ (gi at_ j).Y≤(gi at_ n).Y:=by simpa [Zbv] using hcl
      simp (disch:=omega) only [ZC.s0,z,hY,evl,decide_true,decide_false,Bool.not_eq_true,Bool.decide_eq_true,Int.reduceToNat]
      try simp (disch:=omega) only [evl,decide_true,decide_false,Bool.not_eq_true,Bool.decide_eq_true,Int.reduceToNat]
   ·refine ⟨w,hlow (fun hc=>hX (by have:=hc.2;rw [if_neg (by decide)] at this;exact this.2)),?_⟩;simp (disch:=omega) only [ZC.s0,z,hY,evl,decide_true,decide_false,Bool.not_eq_true,Bool.decide_eq_true,Int.reduceToNat]
    try simp (disch:=omega) only [evl,decide_true,decide_false,Bool.not_eq_true,Bool.decide_eq_true,Int.reduceToNat]
  ·refine ⟨w,hlow (fun hc=>hY (by have:=hc.2;rw [if_neg (by decide)] at this;exact this.1)),?_⟩;simp (disch:=omega) only [ZC.s0,z,hY,evl,decide_true,decide_false,Bool.not_eq_true,Bool.decide_eq_true,Int.reduceToNat]
   try simp (disch:=omega) only [evl,decide_true,decide_false,Bool.not_eq_true,Bool.decide_eq_true,Int.reduceToNat]
theorem Zce {σ ρ:Type}{step:σ→Option (σ⊕ρ)}{n:Nat}(I:Nat→σ→Prop) {s0:σ}{R:ρ→Prop}(hn:n<big) (h0:I 0 s0) (hs:∀ i s,i<n→I i s→∃ s',step s=some (.inl s')∧I (i+1) s') (he:∀ s,I n s→∃ r,step s=some (.inr r)∧R r):∃ r,zp step big s0=some r∧R r:=by
 have key:∀ k i s,i+k=n→I i s→∃ r,zp step (k+1) s=some r∧R r:=by
  intro k
  induction k with
  | zero =>
   intro i s hi hI;obtain rfl:i=n:=by omega
   obtain ⟨r,hr,hR⟩:=he s hI;exact ⟨r,by simp only [zp,hr],hR⟩
  | succ k ih =>
   intro i s hi hI;obtain ⟨s',hs',hI'⟩:=hs i s (by omega) hI;obtain ⟨r,hr,hR⟩:=ih (i+1) s' (by omega) hI';exact ⟨r,by rw [zp,hs'];exact hr,hR⟩
 obtain ⟨r,hr,hR⟩:=key n 0 s0 (by omega) h0;exact ⟨r,Zcw hr (by unfold big at *; omega),hR⟩
theorem ZlN {at_:List Zp}{i d:Nat}(hl:at_.length≤1000) (hi:i<at_.length) (hd:d<2):∃ w,ZC at_ i d=some w∧Zb2 at_ i d at_.length w:=by
 obtain ⟨r,hr,hR⟩:=Zce (step:=ZC.s0 at_ i d) (n:=at_.length) (I:=fun n (s:Int×Int)=>s.2=n∧Zb2 at_ i d n s.1) (s0:=((-1:Int),(0:Int))) (R:=Zb2 at_ i d at_.length) (Za8 (by omega)) ⟨rfl,.inl ⟨rfl,fun k hk=>by omega⟩⟩ (fun n (s:Int×Int) hn hs=>by
  obtain ⟨w,m⟩:=s;obtain ⟨rfl,hw⟩:=hs;obtain ⟨w',h1,h2⟩:=ZgW hl hi hd hn hw;exact ⟨_,h2,rfl,h1⟩) (fun (s:Int×Int) hs=>by
  obtain ⟨w,m⟩:=s;obtain ⟨rfl,hw⟩:=hs;exact ⟨w,by simp only [ZC.s0];rw [zm (by omega)],hw⟩)
 exact ⟨r,by unfold ZC;rw [hr];rfl,hR⟩
end Mu
/- Layer 10: crossed,with,make. -/
namespace Mu

theorem Zai {α:Type}{x:Int}{o:Option α}(h:-9223372036854775808≤x∧x≤9223372036854775807):ck (ZaC x) o=o:=ZY h
def Zbp (at_:List Zp) (l:List Za) (i w a d:Nat):Bool :=
 let p:=gi at_ a;let q:=gi at_ (nx l a d).toNat
 let s:=gi at_ i;let t:=gi at_ w;decide (0≤nx l a d)&&((decide (p.Y=q.Y)&&decide (s.X=t.X)&&decide (p.X<s.X)&&decide (s.X<q.X)&&decide (s.Y<p.Y)&&decide (p.Y<t.Y))||(decide (p.X=q.X)&&decide (s.Y=t.Y)&&decide (s.X<p.X)&&decide (p.X<t.X)&&decide (p.Y<s.Y)&&decide (s.Y<q.Y)))
theorem Zko {a:Bool}{b:Bool}:(if a=true then some b else some false)=some (a&&b):=by cases a<;>rfl
theorem ZjB {at_:List Zp}{l:List Za}{i w a d:Nat}(hl:at_.length=l.length) (hi:i<l.length) (hw:w<l.length) (ha:a<l.length) (hd:d<2) (hn:nx l a d<l.length):ZB.s1 at_ l i w a d=some (if Zbp at_ l i w a d=true then .inr (.inr ()) else .inl ((d:Int)+1)):=by
 unfold ZB.s1;rw [zn (by omega),ZY (by omega),ZY (by omega),itn];have e:((gi l a).Next).get (d:Int)=nx l a d:=rfl;rw [e];unfold Zbp;by_cases h0:nx l a d<0
 ·rw [zn h0,Zai (by omega),Zi3 (show ¬ 0≤nx l a d by omega)];simp
 ·rw [zm h0,ZY (by omega),ZY (by omega),Zi4 (show 0≤nx l a d by omega)];have k1:∀ (α:Type) (o:Option α),ck ((0:Int)≤(i:Int)∧(i:Int)<(at_.length:Int)) o=o:=fun _ _=>ZY (by omega);have k2:∀ (α:Type) (o:Option α),ck ((0:Int)≤(w:Int)∧(w:Int)<(at_.length:Int)) o=o:=fun _ _=>ZY (by omega);have k3:∀ (α:Type) (o:Option α),ck (ZaC ((d:Int)+1)) o=o:=fun _ _=>Zai (by omega);simp only [k1,k2,k3,itn,obs,Zko,Bool.true_and];generalize (decide ((gi at_ a).Y=(gi at_ (nx l a d).toNat).Y)&&decide ((gi at_ i).X=(gi at_ w).X)&&decide ((gi at_ a).X<(gi at_ i).X)&&decide ((gi at_ i).X<(gi at_ (nx l a d).toNat).X)&&decide ((gi at_ i).Y<(gi at_ a).Y)&&decide ((gi at_ a).Y<(gi at_ w).Y))=A;generalize (decide ((gi at_ a).X=(gi at_ (nx l a d).toNat).X)&&decide ((gi at_ i).Y=(gi at_ w).Y)&&decide ((gi at_ i).X<(gi at_ a).X)&&decide ((gi at_ a).X<(gi at_ w).X)&&decide ((gi at_ a).Y<(gi at_ i).Y)&&decide ((gi at_ i).Y<(gi at_ (nx l a d).toNat).Y))=B;cases A<;>cases B<;>rfl
def ZcO (at_:List Zp) (l:List Za) (i w a:Nat):Bool:=Zbp at_ l i w a 0||Zbp at_ l i w a 1
def Zev (at_:List Zp) (l:List Za) (i w:Nat):Bool:=(List.range l.length).any fun a=>ZcO at_ l i w a
theorem ZjC {at_:List Zp}{l:List Za}{i w a:Nat}(hl:at_.length=l.length) (hi:i<l.length) (hw:w<l.length) (hn:∀ a d,a<l.length→d<2→nx l a d<l.length) (ha:a<l.length):zp (ZB.s1 at_ l i w a) big 0=some (if ZcO at_ l i w a=true then .inr () else .inl ()):=by
 have h:zp (ZB.s1 at_ l i w a) big 0=some (match (List.range 2).find? (fun d=>Zbp at_ l i w a d) with|some i=>.inr ((fun _=>()) i)|none=>.inl ()):=by
  refine ZbW (Za8 (by omega)) (fun d hd=>?_) ?_
  ·exact ZjB hl hi hw ha hd (hn a d ha hd)
  ·simp only [ZB.s1];rw [zm (by omega)]
 rw [h];have e:(List.range 2).find? (fun d=>Zbp at_ l i w a d)=if Zbp at_ l i w a 0=true then some 0 else if Zbp at_ l i w a 1=true then some 1 else none:=by
  have:List.range 2=[0,1]:=by decide
  rw [this];cases c0:Zbp at_ l i w a 0<;>cases c1:Zbp at_ l i w a 1<;>simp [c0,c1]
 rw [e];unfold ZcO;cases c0:Zbp at_ l i w a 0<;>cases c1:Zbp at_ l i w a 1<;>simp
theorem ZjA {at_:List Zp}{l:List Za}{i w a:Nat}(hl:at_.length=l.length) (h1000:l.length≤1000) (hi:i<l.length) (hw:w<l.length) (hn:∀ a d,a<l.length→d<2→nx l a d<l.length) (ha:a<l.length):ZB.s0 at_ l i w a=some (if ZcO at_ l i w a=true then .inr (.inr ()) else .inl ((a:Int)+1)):=by
 simp only [ZB.s0];rw [zn (by omega),ZjC hl hi hw hn ha,obs];by_cases c:ZcO at_ l i w a=true
 ·rw [if_pos c,if_pos c]
 ·rw [if_neg c,if_neg c];dsimp only;rw [Zai (by omega)]
theorem ZjE {at_:List Zp}{l:List Za}{i w:Nat}:ZB.s0 at_ l i w l.length=some (.inr (.inl ())):=by
 simp only [ZB.s0];rw [zm (by omega)]
theorem Zit {n:Nat}{P:Nat→Bool}:((List.range n).any P)=((List.range n).find? P).isSome:=by
 rw [Bool.eq_iff_iff,List.find?_isSome,List.any_eq_true]
theorem ZjD {at_:List Zp}{l:List Za}{i w:Nat}(hl:at_.length=l.length) (h1000:l.length≤1000) (hi:i<l.length) (hw:w<l.length) (hn:∀ a d,a<l.length→d<2→nx l a d<l.length):zp (ZB.s0 at_ l i w) big 0=some (match (List.range l.length).find? (fun a=>ZcO at_ l i w a) with|some i=>.inr ((fun _=>()) i)|none=>.inl ()) :=
 ZbW (Za8 (by omega)) (fun a ha=>ZjA hl h1000 hi hw hn ha) ZjE
theorem ZiF {at_:List Zp}{l:List Za}{i w:Nat}(hl:at_.length=l.length) (h1000:l.length≤1000) (hi:i<l.length) (hw:w<l.length) (hn:∀ a d,a<l.length→d<2→nx l a d<l.length):ZB at_ l i w=some (Zev at_ l i w):=by
 have h0:=ZjD hl h1000 hi hw hn;unfold ZB;rw [h0];unfold Zev;rw [Zit]
 cases h:(List.range l.length).find? fun a=>ZcO at_ l i w a with
 | none=>simp
 | some j=>simp

/-! with -/
def wC1 (c:Za) (d w o:Int):Za:=⟨c.Next.set d w,c.Owner.set d o⟩
def wC (l:List Za) (v d w o:Int) (i:Nat):Za :=
 let c:=if (i:Int)=v then wC1 (gi l i) d w o else gi l i
 if (i:Int)=w then wC1 c ((d+2).tmod 4) v o else c
def wth (l:List Za) (v d w o:Int):List Za:=(List.range l.length).map (wC l v d w o)
theorem Zbk {l:List Za}{v d w o:Int}:(wth l v d w o).length=l.length:=by simp [wth]
theorem ZlP {l:List Za}{v d w o:Int}(hl:l.length≤100000) (hd:0≤d∧d<4):z9 l v d w o=some (wth l v d w o):=by
 unfold z9;rw [ZjV (x:=wth l v d w o)];refine Zbu (fun n:Nat=>((List.range n).map (wC l v d w o),(n:Int))) (n:=l.length) (Za8 (by omega)) rfl (fun n hn=>?_) ?_
 ·have hm:((List.range n).map (wC l v d w o)).length=n:=by simp
  have t:=Int.tmod_nonneg 4 (show (0:Int)≤d+2 by omega);have t2:=Int.tmod_lt_of_pos (d+2) (show (0:Int)<4 by omega);rw [List.range_succ,List.map_append,List.map_cons,List.map_nil];simp only [z9.s0];rw [zn (by omega),ZY (by omega),itn];unfold wC;by_cases c1:(n:Int)=v
  ·rw [zn c1,ZY hd,obs];by_cases c2:(n:Int)=w
   ·rw [zn c2,Zai (by omega),ZY (by omega),ZY (by simp;omega),Zai (by omega),if_pos c1,if_pos c2];rfl
   ·rw [zm c2,ZY (by simp;omega),Zai (by omega),if_pos c1,if_neg c2];rfl
  ·rw [zm c1,obs];by_cases c2:(n:Int)=w
   ·rw [zn c2,Zai (by omega),ZY (by omega),ZY (by simp;omega),Zai (by omega),if_neg c1,if_pos c2];rfl
   ·rw [zm c2,ZY (by simp;omega),Zai (by omega),if_neg c1,if_neg c2];rfl
 ·simp only [z9.s0];rw [zm (by omega)];rfl
theorem Ze8 {l:List Za}{v w d i e:Nat}{o:Int}(hv:v<l.length) (hw:w<l.length) (hvw:v≠w) (hd:d<4) (hi:i<l.length) (he:e<4):nx (wth l v d w o) i e=(if i=v∧e=d then (w:Int) else if i=w∧e=(d+2)%4 then (v:Int) else nx l i e)∧ow (wth l v d w o) i e=(if i=v∧e=d then o else if i=w∧e=(d+2)%4 then o else ow l i e):=by
 have hb:(((d:Int)+2).tmod 4)=(((d+2)%4:Nat):Int):=by
  match d,hd with
  | 0,_|1,_|2,_|3,_=>rfl
 have g:gi (wth l v d w o) i=wC l v d w o i:=Zdy hi;unfold nx ow;rw [g];unfold wC;rw [hb];by_cases c1:i=v
 ·subst c1;rw [if_pos rfl,if_neg (show ¬ ((i:Nat):Int)=(w:Int) by omega)];simp only [wC1];rw [Zc1 hd he,Zc1 hd he];have:¬ (i=w):=hvw;simp [this]
 ·rw [if_neg (show ¬ ((i:Nat):Int)=(v:Int) by omega)];by_cases c2:i=w
  ·subst c2;rw [if_pos rfl];simp only [wC1];rw [Zc1 (by omega) he,Zc1 (by omega) he];simp [c1]
  ·rw [if_neg (show ¬ ((i:Nat):Int)=(w:Int) by omega)];simp [c1,c2]

/-! What may be. -/
structure Ck (l:List Za):Prop where
 s:∀ v d,v<l.length→d<4→(nx l v d=-1∧ow l v d=0)∨∃ w:Nat,nx l v d=w∧w<l.length∧w≠v∧nx l w ((d+2)%4)=v∧ow l w ((d+2)%4)=ow l v d∧-2≤ow l v d
theorem Ck.new (n:Nat):Ck (List.replicate n noC):=⟨fun v d hv hd=>.inl (by
 have:gi (List.replicate n noC) v=noC:=by rw [ZaJ hv];simp
 unfold nx ow;rw [this]
 match d,hd with
 | 0,_|1,_|2,_|3,_=>exact ⟨rfl,rfl⟩)⟩
theorem Ck.wth {l:List Za}(h:Ck l) {v w d:Nat}{o:Int}(hv:v<l.length) (hw:w<l.length) (hvw:v≠w) (hd:d<4) (h1:nx l v d=-1) (h2:nx l w ((d+2)%4)=-1) (ho:-2≤o):Ck (wth l v d w o):=by
 refine ⟨fun i e hi he=>?_⟩;rw [Zbk] at hi ⊢;have n1:=fun i e hi he=>(Ze8 (o:=o) hv hw hvw hd (i:=i) (e:=e) hi he).1;have n2:=fun i e hi he=>(Ze8 (o:=o) hv hw hvw hd (i:=i) (e:=e) hi he).2;rw [n1 i e hi he,n2 i e hi he];by_cases c1:i=v∧e=d
 ·rw [if_pos c1,if_pos c1];refine .inr ⟨w,rfl,hw,by omega,?_,?_,ho⟩
  ·rw [n1 w _ hw (by omega),if_neg (by omega),if_pos ⟨rfl,by rw [c1.2]⟩,c1.1]
  ·rw [n2 w _ hw (by omega),if_neg (by omega),if_pos ⟨rfl,by rw [c1.2]⟩]
 ·rw [if_neg c1,if_neg c1];by_cases c2:i=w∧e=(d+2)%4
  ·rw [if_pos c2,if_pos c2];refine .inr ⟨v,rfl,hv,by omega,?_,?_,ho⟩
   ·rw [n1 v _ hv (by omega),if_pos ⟨rfl,by omega⟩,c2.1]
   ·rw [n2 v _ hv (by omega),if_pos ⟨rfl,by omega⟩]
  ·rw [if_neg c2,if_neg c2];rcases h.s i e hi he with hh|⟨x,x1,x2,x3,x4,x5,x6⟩
   ·exact .inl hh
   ·refine .inr ⟨x,x1,x2,x3,?_,?_,x6⟩
    ·rw [n1 x _ x2 (by omega)];rw [if_neg (fun c=>by
      have:nx l x ((e+2)%4)=-1:=by rw [c.1,c.2];exact h1
      omega)]
     rw [if_neg (fun c=>by
      have:nx l x ((e+2)%4)=-1:=by rw [c.1,c.2];exact h2
      omega)]
     exact x4
    ·rw [n2 x _ x2 (by omega)];rw [if_neg (fun c=>by
      have:nx l x ((e+2)%4)=-1:=by rw [c.1,c.2];exact h1
      omega)]
     rw [if_neg (fun c=>by
      have:nx l x ((e+2)%4)=-1:=by rw [c.1,c.2];exact h2
      omega)]
     exact x5
end Mu
/- Layer 10: make. -/
namespace Mu

theorem Zcx {σ ρ:Type}{step:σ→Option (σ⊕ρ)}(μ:σ→Nat) (I:σ→Prop) {s0:σ}{R:ρ→Prop}(hn:μ s0<big) (h0:I s0) (hs:∀ s,I s→(∃ s',step s=some (.inl s')∧I s'∧μ s'<μ s)∨∃ r,step s=some (.inr r)∧R r):∃ r,zp step big s0=some r∧R r:=by
 have key:∀ k s,μ s≤k→I s→∃ r,zp step (k+1) s=some r∧R r:=by
  intro k
  induction k with
  | zero =>
   intro s hk hI;rcases hs s hI with ⟨s',h1,h2,h3⟩|⟨r,h1,h2⟩
   ·omega
   ·exact ⟨r,by simp only [zp,h1],h2⟩
  | succ k ih =>
   intro s hk hI;rcases hs s hI with ⟨s',h1,h2,h3⟩|⟨r,h1,h2⟩
   ·obtain ⟨r,hr,hR⟩:=ih s' (by omega) h2;exact ⟨r,by rw [zp,h1];exact hr,hR⟩
   ·exact ⟨r,by rw [zp,h1],h2⟩
 obtain ⟨r,hr,hR⟩:=key (μ s0) s0 (Nat.le_refl _) h0;exact ⟨r,Zcw hr (by omega),hR⟩

structure Pts (at_:List Zp):Prop where
 b:∀ i,i<at_.length→0≤(gi at_ i).X∧(gi at_ i).X<8∧0≤(gi at_ i).Y∧(gi at_ i).Y<8
 d:∀ i j,i<at_.length→j<at_.length→gi at_ i=gi at_ j→i=j
theorem Pts.nil:Pts []:=⟨fun i h=>by simp at h,fun i j h=>by simp at h⟩
theorem Pts.app {at_:List Zp}(h:Pts at_) {p:Zp}(hp:0≤p.X∧p.X<8∧0≤p.Y∧p.Y<8) (hn:∀ k,k<at_.length→gi at_ k≠p):Pts (at_++[p]):=by
 have g1:∀ i,i<at_.length→gi (at_++[p]) i=gi at_ i:=fun i hi=>ZaW hi;have g2:gi (at_++[p]) at_.length=p:=by
  have:=ZaQ (l:=at_) (m:=[p]) (i:=0);rw [Nat.add_zero] at this;rw [this];rfl
 refine ⟨fun i hi=>?_,fun i j hi hj hij=>?_⟩
 ·simp only [List.length_append,List.length_cons,List.length_nil] at hi;by_cases c:i<at_.length
  ·rw [g1 i c];exact h.b i c
  ·rw [show i=at_.length by omega,g2];exact hp
 ·simp only [List.length_append,List.length_cons,List.length_nil] at hi hj;by_cases c:i<at_.length<;>by_cases c2:j<at_.length
  ·rw [g1 i c,g1 j c2] at hij;exact h.d i j c c2 hij
  ·rw [g1 i c,show j=at_.length by omega,g2] at hij;exact absurd hij (hn i c)
  ·rw [g1 j c2,show i=at_.length by omega,g2] at hij;exact absurd hij.symm (hn j c2)
  ·omega
theorem ZiJ {at_:List Zp}(hp:Pts at_) {i j d:Nat}{w:Nat}(hi:i<at_.length) (hj:j<at_.length) (hd:d<2) (h1:Zb2 at_ i d at_.length w) (h2:Zb2 at_ j d at_.length w):i=j:=by
 rcases h1 with ⟨h,_⟩|⟨w1,e1,l1,c1,m1⟩
 ·omega
 rcases h2 with ⟨h,_⟩|⟨w2,e2,l2,c2,m2⟩
 ·omega
 obtain rfl:w=w1:=by omega
 obtain rfl:w=w2:=by omega
 apply hp.d i j hi hj;have x1:=m1 j hj;have x2:=m2 i hi;have c1:=c1.2;have c2:=c2.2;unfold ZdW Zbv at x1 x2;by_cases z:d=0
 ·simp only [if_pos z] at *;have hX:(gi at_ i).X=(gi at_ j).X:=by
   by_cases q1:(gi at_ i).X<(gi at_ j).X
   ·have:=x1 ⟨hj,by omega,q1⟩;omega
   ·by_cases q2:(gi at_ j).X<(gi at_ i).X
    ·have:=x2 ⟨hi,by omega,q2⟩;omega
    ·omega
  have hY:(gi at_ i).Y=(gi at_ j).Y:=by omega
  generalize gi at_ i=p at *;generalize gi at_ j=q at *;obtain ⟨a,b⟩:=p;obtain ⟨a',b'⟩:=q;simp only at hX hY;rw [hX,hY]
 ·simp only [if_neg z] at *;have hX:(gi at_ i).Y=(gi at_ j).Y:=by
   by_cases q1:(gi at_ i).Y<(gi at_ j).Y
   ·have:=x1 ⟨hj,by omega,q1⟩;omega
   ·by_cases q2:(gi at_ j).Y<(gi at_ i).Y
    ·have:=x2 ⟨hi,by omega,q2⟩;omega
    ·omega
  have hY:(gi at_ i).X=(gi at_ j).X:=by omega
  generalize gi at_ i=p at *;generalize gi at_ j=q at *;obtain ⟨a,b⟩:=p;obtain ⟨a',b'⟩:=q;simp only at hX hY;rw [hX,hY]
def NX (at_:List Zp) (l:List Za):Prop:=∀ a b:Nat,a<l.length→b<l.length→0≤nx l a 0→0≤nx l b 1→¬ ((gi at_ a).X<(gi at_ b).X∧(gi at_ b).X<(gi at_ (nx l a 0).toNat).X∧(gi at_ b).Y<(gi at_ a).Y∧(gi at_ a).Y<(gi at_ (nx l b 1).toNat).Y)
structure Mk (at_:List Zp) (l:List Za) (i d:Nat):Prop where
 len:l.length=at_.length
 ck:Ck l
 near:∀ v e,v<l.length→e<2→nx l v e=-1∨((v<i∨v=i∧e<d)∧Zb2 at_ v e at_.length (nx l v e))
 own:∀ v e,v<l.length→e<4→-2≤ow l v e∧ow l v e≤1000
 nc:NX at_ l
theorem Mk.step {at_:List Zp}{l:List Za}{i d:Nat}(h:Mk at_ l i d):Mk at_ l i (d+1) :=
 ⟨h.len,h.ck,fun v e hv he=>(h.near v e hv he).imp id (fun ⟨a,b⟩=>⟨by omega,b⟩),h.own,h.nc⟩
theorem Mk.next {at_:List Zp}{l:List Za}{i:Nat}(h:Mk at_ l i 2):Mk at_ l (i+1) 0 :=
 ⟨h.len,h.ck,fun v e hv he=>(h.near v e hv he).imp id (fun ⟨a,b⟩=>⟨by omega,b⟩),h.own,h.nc⟩
theorem Ck.lt {l:List Za}(h:Ck l) {v d:Nat}(hv:v<l.length) (hd:d<4):-1≤nx l v d∧nx l v d<l.length:=by
 rcases h.s v d hv hd with ⟨a,_⟩|⟨w,a,b,_⟩<;>omega
theorem Mk.lay {at_:List Zp}(hp:Pts at_) {l:List Za}{i d w:Nat}{o:Int}(h:Mk at_ l i d) (hi:i<l.length) (hd:d<2) (hw:Zb2 at_ i d at_.length w) (hx:Zev at_ l i w=false) (ho:-2≤o∧o≤1000):Mk at_ (wth l i d w o) i (d+1):=by
 have hl:=h.len;have hwl:w<l.length∧ZdW at_ i d w:=by
  rcases hw with ⟨e,_⟩|⟨j,e,h1,h2,_⟩
  ·omega
  ·have:w=j:=by omega
   subst this;exact ⟨by omega,h2⟩
 have hne:i≠w:=by
  rintro rfl;have:=hwl.2.2;split at this<;>omega
 have n1:nx l i d=-1:=by
  rcases h.near i d hi (by omega) with e|⟨e,_⟩
  ·exact e
  ·omega
 have n2:nx l w ((d+2)%4)=-1:=by
  rcases h.ck.s w ((d+2)%4) hwl.1 (by omega) with ⟨e,_⟩|⟨x,e1,e2,e3,e4,e5,e6⟩
  ·exact e
  ·rw [show ((d+2)%4+2)%4=d by omega] at e4;rcases h.near x d e2 hd with e|⟨e,e7⟩
   ·omega
   ·rw [e4] at e7;have:=ZiJ hp (by omega) (by omega) hd e7 hw;subst this;omega
 have m1:=fun v e hv he=>(Ze8 (o:=o) hi hwl.1 hne (show d<4 by omega) (i:=v) (e:=e) hv he).1;have m2:=fun v e hv he=>(Ze8 (o:=o) hi hwl.1 hne (show d<4 by omega) (i:=v) (e:=e) hv he).2;have hcr:∀ a,a<l.length→Zbp at_ l i w a 0=false∧Zbp at_ l i w a 1=false:=by
  intro a ha;unfold Zev at hx;rw [List.any_eq_false] at hx;have:=hx a (List.mem_range.2 ha);unfold ZcO at this;simpa using this
 refine ⟨by rw [Zbk];exact hl,h.ck.wth hi hwl.1 hne (by omega) n1 n2 ho.1,fun v e hv he=>?_,fun v e hv he=>?_,fun a b ha hb=>?_⟩
 ·rw [Zbk] at hv;rw [m1 v e hv (by omega)];by_cases c:v=i∧e=d
  ·rw [if_pos c];right;refine ⟨by omega,?_⟩;rw [c.1,c.2];exact hw
  ·rw [if_neg c];rw [if_neg (fun c2=>by omega)];exact (h.near v e hv he).imp id (fun ⟨a,b⟩=>⟨by omega,b⟩)
 ·rw [Zbk] at hv;rw [m2 v e hv he];by_cases c:v=i∧e=d
  ·rw [if_pos c];exact ho
  ·rw [if_neg c];by_cases c2:v=w∧e=(d+2)%4
   ·rw [if_pos c2];exact ho
   ·rw [if_neg c2];exact h.own v e hv he
 ·rw [Zbk] at ha hb;rw [m1 a 0 ha (by omega),m1 b 1 hb (by omega)];have cd:=hwl.2.2;by_cases c0:d=0
  ·subst c0;rw [if_pos rfl] at cd;rw [if_neg (show ¬ (b=i∧1=0) by omega),if_neg (show ¬ (b=w∧1=(0+2)%4) by omega),if_neg (show ¬ (a=w∧0=(0+2)%4) by omega)];by_cases c:a=i
   ·subst c;rw [if_pos ⟨rfl,rfl⟩];intro _ h1 ⟨k1,k2,k3,k4⟩;rw [itn] at k2;have q:=(hcr b hb).2;have nb:=h.near b 1 hb (by omega);have ex:(gi at_ b).X=(gi at_ (nx l b 1).toNat).X:=by
     rcases nb with e|⟨_,e⟩
     ·omega
     ·rcases e with ⟨e,_⟩|⟨j,e,_,e2,_⟩
      ·omega
      ·rw [e,itn];exact e2.2.1.symm
    unfold Zbp at q;simp [h1,ex,cd.1] at q;omega
   ·rw [if_neg (show ¬ (a=i∧0=0) by omega)];exact h.nc a b ha hb
  ·have c1:d=1:=by omega
   subst c1;rw [if_neg (by omega)] at cd;rw [if_neg (show ¬ (a=i∧0=1) by omega),if_neg (show ¬ (a=w∧0=(1+2)%4) by omega),if_neg (show ¬ (b=w∧1=(1+2)%4) by omega)];by_cases c:b=i
   ·subst c;rw [if_pos ⟨rfl,rfl⟩];intro h1 _ ⟨k1,k2,k3,k4⟩;rw [itn] at k4;have q:=(hcr a ha).1;have na:=h.near a 0 ha (by omega);have ey:(gi at_ a).Y=(gi at_ (nx l a 0).toNat).Y:=by
     rcases na with e|⟨_,e⟩
     ·omega
     ·rcases e with ⟨e,_⟩|⟨j,e,_,e2,_⟩
      ·omega
      ·rw [e,itn];exact e2.2.1.symm
    unfold Zbp at q;simp [h1,ey,cd.1] at q;omega
   ·rw [if_neg (show ¬ (b=i∧1=1) by omega)];exact h.nc a b ha hb
theorem ZkU {at_:List Zp}(hp:Pts at_) (h1000:at_.length≤1000) {l:List Za}{i:Nat}{b o:Int}(h:Mk at_ l i 0) (hi:i<l.length) (ho:-2≤o∧o≤1000):∃ l',zp (Z4.s3 i b at_ o) big (l,0)=some l'∧Mk at_ l' i 2∧i<l'.length:=by
 refine Zce (n:=2) (I:=fun n (s:List Za×Int)=>s.2=n∧Mk at_ s.1 i n∧i<s.1.length) (R:=fun l'=>Mk at_ l' i 2∧i<l'.length) (Za8 (by omega)) ⟨rfl,h,hi⟩ ?_ ?_
 ·rintro d ⟨l,x⟩ hd ⟨hx,hM,hi⟩;dsimp only at hx hM hi;subst hx;have hl:=hM.len;obtain ⟨w,hw,hN⟩:=ZlN (at_:=at_) (i:=i) (d:=d) h1000 (by omega) hd;simp only [Z4.s3];rw [zn (by omega),hw,obs,ZY (by omega),Zai (by omega)];by_cases c:((decide (Z2 .u8 (ZN .u8 b d) 1=0))||(decide (w<0)))=true
  ·rw [if_pos c];exact ⟨_,rfl,rfl,hM.step,hi⟩
  ·rw [if_neg c];have hw0:¬ w<0:=by
    intro hh;apply c;simp [hh]
   obtain ⟨wn,rfl⟩:∃ wn:Nat,w=wn:=⟨w.toNat,by omega⟩;have hwl:wn<l.length:=by
    rcases hN with ⟨e,_⟩|⟨j,e,h1,h2,_⟩
    ·omega
    ·omega
   rw [ZiF hl.symm (by omega) hi hwl (fun a e ha he=>(hM.ck.lt ha (by omega)).2),obs,ZlP (by omega) (by omega)];by_cases c2:(!Zev at_ l i wn)=true
   ·rw [if_pos c2,obs,Zai (by omega)];exact ⟨_,rfl,rfl,hM.lay hp hi hd hN (by simpa using c2) ho,by rw [Zbk];exact hi⟩
   ·rw [if_neg c2];exact ⟨_,rfl,rfl,hM.step,hi⟩
 ·rintro ⟨l,x⟩ ⟨hx,hM,hi⟩;dsimp only at hx hM hi;subst hx;simp only [Z4.s3];rw [zm (by omega)];exact ⟨_,rfl,hM,hi⟩

theorem ZkT {z:zb}{at_:List Zp}(hp:Pts at_) (h1000:at_.length≤1000) (hown:∀ y∈z.Own,Wf .i8 y) {l:List Za}(h:Mk at_ l 0 0):∃ r:List Zp×List Za,zp (Z4.s2 z) big (at_,l,0)=some r∧r.1=at_∧Mk at_ r.2 at_.length 0:=by
 refine Zce (n:=at_.length) (I:=fun n (s:List Zp×List Za×Int)=>s.1=at_∧s.2.2=n∧Mk at_ s.2.1 n 0) (s0:=(at_,l,(0:Int))) (R:=fun r:List Zp×List Za=>r.1=at_∧Mk at_ r.2 at_.length 0) (Za8 (by omega)) ⟨rfl,rfl,h⟩ ?_ ?_
 ·rintro i ⟨a,l,x⟩ hi ⟨ha,hx,hM⟩;dsimp only at ha hx hM;subst ha hx;have hb:∃ b,(if decide ((i:Int)<(z.Bits.length:Int))=true then ck ((0:Int)≤(i:Int)∧(i:Int)<(z.Bits.length:Int)) (some (a,l,gi z.Bits (i:Int).toNat)) else some (a,l,3))=some (a,l,b):=by
   by_cases c:(i:Int)<(z.Bits.length:Int)
   ·exact ⟨gi z.Bits i,by rw [zn c,ZY (by omega)];rfl⟩
   ·exact ⟨3,by rw [zm c]⟩
  have ho:∃ o:Int,(-2≤o∧o≤1000)∧(if decide ((i:Int)<(z.Own.length:Int))=true then ck ((0:Int)≤(i:Int)∧(i:Int)<(z.Own.length:Int)) (ck (inK .i64 (gi z.Own (i:Int).toNat)) (if decide ((gi z.Own (i:Int).toNat)<(-2))=true then ck (ZaC (-(gi z.Own (i:Int).toNat))) (some (a,l,-(gi z.Own (i:Int).toNat))) else some (a,l,gi z.Own (i:Int).toNat))) else some (a,l,(i:Int)))=some (a,l,o):=by
   by_cases c:(i:Int)<(z.Own.length:Int)
   ·have hw:=(hown _ (Ze0 (show i<z.Own.length by omega))).i8;rw [zn c,ZY (by omega),itn,Zgq (by omega)];by_cases c2:gi z.Own i < -2
    ·exact ⟨-(gi z.Own i),by omega,by rw [zn c2,Zai (by omega)]⟩
    ·exact ⟨gi z.Own i,by omega,by rw [zm c2]⟩
   ·exact ⟨i,by omega,by rw [zm c]⟩
  obtain ⟨b,hb⟩:=hb;obtain ⟨o,ho1,ho⟩:=ho;have hl:=hM.len;obtain ⟨l',h1,h2,h3⟩:=ZkU (b:=b) hp h1000 hM (by omega) ho1;simp only [Z4.s2];rw [zn (by omega),hb,obs];dsimp only;rw [ho,obs];dsimp only;rw [h1,obs,Zai (by omega)];exact ⟨_,rfl,rfl,rfl,h2.next⟩
 ·rintro ⟨a,l,x⟩ ⟨ha,hx,hM⟩;dsimp only at ha hx hM;subst ha hx;simp only [Z4.s2];rw [zm (by omega)];exact ⟨_,rfl,rfl,hM⟩
theorem ZkS {z:zb}{at_:List Zp}{i:Nat}(h1000:at_.length≤1000):∃ m:Bool,zp (Z4.s1 z at_ i) big (false,0)=some (at_,m)∧(m=false→∀ k,k<at_.length→gi at_ k≠(⟨(gi z.At i).tmod 8,((gi z.At i).tdiv 8).tmod 8⟩:Zp)):=by
 obtain ⟨r,h1,h2,h3⟩:=Zce (step:=Z4.s1 z at_ i) (s0:=((false:Bool),(0:Int))) (n:=at_.length) (I:=fun n (s:Bool×Int)=>s.2=n∧(s.1=false→∀ k,k<n→gi at_ k≠(⟨(gi z.At i).tmod 8,((gi z.At i).tdiv 8).tmod 8⟩:Zp))) (R:=fun r:List Zp×Bool=>r.1=at_∧(r.2=false→∀ k,k<at_.length→gi at_ k≠(⟨(gi z.At i).tmod 8,((gi z.At i).tdiv 8).tmod 8⟩:Zp))) (Za8 (by omega)) ⟨rfl,fun _ k hk=>by omega⟩ (by
  rintro n ⟨m,x⟩ hn ⟨hx,hm⟩;dsimp only at hx hm;subst hx;simp only [Z4.s1];rw [zn (by omega)]
  cases m with
  | true =>
   rw [if_pos rfl,obs,Zai (by omega)];exact ⟨_,rfl,rfl,fun h=>by cases h⟩
  | false =>
   rw [if_neg (by decide),ZY (by omega),obs,Zai (by omega),itn,itn];refine ⟨_,rfl,rfl,fun h k hk=>?_⟩;rcases Nat.lt_succ_iff_lt_or_eq.1 hk with h'|rfl
   ·exact hm rfl k h'
   ·simpa using h) (by
  rintro ⟨m,x⟩ ⟨hx,hm⟩;dsimp only at hx hm;subst hx;simp only [Z4.s1];rw [zm (by omega)];exact ⟨_,rfl,rfl,hm⟩)
 obtain ⟨a,m⟩:=r;dsimp only at h2 h3;subst h2;exact ⟨m,h1,h3⟩
theorem ZkR {z:zb}{most:Int}(hm:0≤most∧most≤1000) (hlen:z.At.length≤9223372036854775807) (hat:∀ y∈z.At,Wf .u8 y):∃ a,zp (Z4.s0 z most) big (([]:List Zp),0)=some a∧Pts a∧(a.length:Int)≤most:=by
 refine Zcx (μ:=fun s:List Zp×Int=>((z.At.length:Int)-s.2).toNat) (I:=fun s=>0≤s.2∧Pts s.1∧(s.1.length:Int)≤most) (R:=fun a=>Pts a∧(a.length:Int)≤most) (Za8 (by omega)) ⟨by decide,Pts.nil,by simpa using hm.1⟩ ?_;rintro ⟨a,i⟩ ⟨h1,h2,h3⟩;dsimp only at h1 h2 h3;obtain ⟨n,rfl⟩:∃ n:Nat,i=n:=⟨i.toNat,by omega⟩;simp only [Z4.s0];by_cases c:((decide ((n:Int)<(z.At.length:Int)))&&(decide ((a.length:Int)<most)))=true
 ·left;rw [if_pos c];rw [Bool.and_eq_true,decide_eq_true_iff,decide_eq_true_iff] at c;have hu:=(hat _ (Ze0 (show n<z.At.length by omega))).u8;obtain ⟨m,e1,e2⟩:=ZkS (z:=z) (at_:=a) (i:=n) (by omega);have hdv:0≤(gi z.At n).tdiv 8∧(gi z.At n).tdiv 8≤255:=by
   rw [Int.tdiv_eq_ediv_of_nonneg hu.1];omega
  rw [ZY (by omega),itn,Zgq (by omega),ZY ⟨by omega,by constructor<;>omega⟩,e1,obs];dsimp only
  cases m with
  | false =>
   rw [if_pos (by decide),ZY (by simp;omega),Zai (by omega)];refine ⟨_,rfl,⟨by omega,h2.app ?_ (e2 rfl),by simp;omega⟩,by dsimp only;omega⟩;have a1:=Int.tmod_nonneg 8 hu.1;have a2:=Int.tmod_lt_of_pos (gi z.At n) (show (0:Int)<8 by omega);have a3:=Int.tmod_nonneg 8 hdv.1;have a4:=Int.tmod_lt_of_pos ((gi z.At n).tdiv 8) (show (0:Int)<8 by omega);exact ⟨a1,a2,a3,a4⟩
  | true =>
   rw [if_neg (by decide),Zai (by omega)];exact ⟨_,rfl,⟨by dsimp only;omega,h2,h3⟩,by dsimp only;omega⟩
 ·right;rw [if_neg c];exact ⟨_,rfl,h2,h3⟩
structure Zmn (l:List Za) (at_:List Zp):Prop where
 pts:Pts at_
 len:l.length=at_.length
 ck:Ck l
 near:∀ v e,v<l.length→e<2→nx l v e=-1∨Zb2 at_ v e at_.length (nx l v e)
 own:∀ v e,v<l.length→e<4→-2≤ow l v e∧ow l v e≤1000
 nc:NX at_ l
structure OkZ (z:zb):Prop where
 a:z.At.length≤9223372036854775807
 b:∀ y∈z.At,Wf .u8 y
 o:∀ y∈z.Own,Wf .i8 y
theorem ZlL {z:zb}{most:Int}(hz:OkZ z) (hm:0≤most∧most≤1000):∃ l at_,Z4 z most=some (l,at_)∧Zmn l at_∧(l.length:Int)≤most:=by
 obtain ⟨a,h1,hp,hl⟩:=ZkR hm hz.a hz.b;have hM:Mk a (List.replicate a.length noC) 0 0:=⟨by simp,Ck.new _,fun v e hv he=>.inl (by
   have:gi (List.replicate a.length noC) v=noC:=by rw [ZaJ hv];simp
   unfold nx;rw [this]
   match e,he with
   | 0,_|1,_=>rfl),fun v e hv he=>by
   have:gi (List.replicate a.length noC) v=noC:=by rw [ZaJ hv];simp
   unfold ow;rw [this]
   match e,he with
   | 0,_|1,_|2,_|3,_=>decide,fun v b hv hb h0=>by
   exfalso;have:gi (List.replicate a.length noC) v=noC:=by rw [ZaJ hv];simp
   unfold nx at h0;rw [this] at h0;exact absurd h0 (by decide)⟩
 obtain ⟨⟨a',l⟩,h2,h3,h4⟩:=ZkT (z:=z) hp (by omega) hz.o hM;dsimp only at h3 h4;subst h3;refine ⟨l,a',?_,⟨hp,h4.len,h4.ck,fun v e hv he=>(h4.near v e hv he).imp id (·.2),h4.own,h4.nc⟩,by rw [h4.len];exact hl⟩;unfold Z4;rw [h1,obs,Zm6 (by omega),obs,h2,obs]
end Mu
/- Layer 10: check. -/
namespace Mu

def ZbR (l:List Za) (v d:Nat):Int :=
 if nx l v d=-1 then (if ow l v d=0 then 0 else 9)
 else if nx l v d<0∨(l.length:Int)≤nx l v d∨nx l v d=v then 3
 else if nx l (nx l v d).toNat ((d+2)%4)=v∧ow l (nx l v d).toNat ((d+2)%4)=ow l v d∧¬ ow l v d < -2 then 0 else 9
theorem ZjX {d:Nat}(hd:d<4):ZaF d 2=some (((d+2)%4:Nat):Int):=by
 match d,hd with
 | 0,_|1,_|2,_|3,_=>decide
theorem tm2 {d:Nat}(hd:d<4):((d:Int)+2).tmod 4=(((d+2)%4:Nat):Int):=by
 match d,hd with
 | 0,_|1,_|2,_|3,_=>rfl
theorem ZlO {l:List Za}{v d:Nat}(hv:v<l.length) (hd:d<4):Zbj l v d=some (ZbR l v d):=by
 unfold Zbj ZbR;have e:((gi l v).Next).get (d:Int)=nx l v d:=rfl;have e2:((gi l v).Owner).get (d:Int)=ow l v d:=rfl;rw [ZY (by omega),ZY (by omega),itn,e,e2];by_cases c:nx l v d=-1
 ·rw [zn c,if_pos c];by_cases c2:ow l v d=0
  ·rw [Zbt c2,if_pos c2]
  ·rw [ZbG c2,if_neg c2]
 ·rw [zm c,if_neg c];by_cases c2:nx l v d<0∨(l.length:Int)≤nx l v d∨nx l v d=v
  ·rw [if_pos c2,if_pos (by simpa [or_assoc] using c2)]
  ·rw [if_neg c2,if_neg (by simpa [or_assoc] using c2),ZjX hd,obs,ZY (by omega),ZY (by omega)];have e3:((gi l (nx l v d).toNat).Next).get (((d+2)%4:Nat):Int)=nx l (nx l v d).toNat ((d+2)%4):=rfl;have e4:((gi l (nx l v d).toNat).Owner).get (((d+2)%4:Nat):Int)=ow l (nx l v d).toNat ((d+2)%4):=rfl;rw [e3,e4];by_cases q1:nx l (nx l v d).toNat ((d+2)%4)=v<;>by_cases q2:ow l (nx l v d).toNat ((d+2)%4)=ow l v d<;>by_cases q3:ow l v d < -2<;>simp [q1,q2,q3]
def Zdk (l:List Za) (v:Nat):Int:=match (List.range 4).find? (fun d=>decide (ZbR l v d≠0)) with|some d=>ZbR l v d|none=>0
def ZdX (l:List Za):Int:=if 4096<l.length then 6 else match (List.range l.length).find? (fun v=>decide (Zdk l v≠0)) with|some v=>Zdk l v|none=>0
theorem Zfl {n:Nat}{f:Nat→Int}:(match (List.range n).find? (fun d=>decide (f d≠0)) with|some d=>f d|none=>0)=0↔∀ d,d<n→f d=0:=by
 cases h:(List.range n).find? (fun d=>decide (f d≠0)) with
 | none =>
  rw [List.find?_range_eq_none] at h;simp only [true_iff];intro d hd;have:=h d hd;simpa using this
 | some j =>
  rw [List.find?_range_eq_some] at h;have h1:f j≠0:=by simpa using h.1
  have h2:j<n:=by simpa using h.2.1
  constructor
  ·intro h3;exact absurd h3 h1
  ·intro h3;exact h3 j h2
theorem Zfu {l:List Za}{v:Nat}:Zdk l v=0↔∀ d,d<4→ZbR l v d=0:=Zfl
theorem ZhI {l:List Za}:ZdX l=0↔l.length≤4096∧∀ v,v<l.length→∀ d,d<4→ZbR l v d=0:=by
 unfold ZdX;by_cases c:4096<l.length
 ·rw [if_pos c];constructor
  ·intro h;omega
  ·intro h;omega
 ·rw [if_neg c,Zfl];constructor
  ·intro h;exact ⟨by omega,fun v hv=>Zfu.1 (h v hv)⟩
  ·intro h v hv;exact Zfu.2 (h.2 v hv)
theorem ZeK {l:List Za}{v d:Nat}:ZbR l v d=0↔(nx l v d=-1∧ow l v d=0)∨∃ w:Nat,nx l v d=w∧w<l.length∧w≠v∧nx l w ((d+2)%4)=v∧ow l w ((d+2)%4)=ow l v d∧-2≤ow l v d:=by
 unfold ZbR;by_cases c:nx l v d=-1
 ·rw [if_pos c];by_cases c2:ow l v d=0
  ·simp [c,c2]
  ·rw [if_neg c2];constructor
   ·intro h;omega
   ·rintro (⟨_,h⟩|⟨w,h,_⟩)
    ·exact absurd h c2
    ·omega
 ·rw [if_neg c];by_cases c2:nx l v d<0∨(l.length:Int)≤nx l v d∨nx l v d=v
  ·rw [if_pos c2];constructor
   ·intro h;omega
   ·rintro (⟨h,_⟩|⟨w,h,h1,h2,_⟩)
    ·exact absurd h c
    ·omega
  ·rw [if_neg c2];constructor
   ·intro h;split at h
    ·rename_i q;exact .inr ⟨(nx l v d).toNat,by omega,by omega,by omega,q.1,q.2.1,by omega⟩
    ·omega
   ·rintro (⟨h,_⟩|⟨w,h,h1,h2,h3,h4,h5⟩)
    ·exact absurd h c
    ·have:(nx l v d).toNat=w:=by omega
     rw [this,if_pos ⟨h3,h4,by omega⟩]
theorem Zkb {l:List Za}:ZdX l=0↔l.length≤4096∧Ck l:=by
 rw [ZhI];constructor
 ·intro h;exact ⟨h.1,⟨fun v d hv hd=>ZeK.1 (h.2 v hv d hd)⟩⟩
 ·intro h;exact ⟨h.1,fun v hv d hd=>ZeK.2 (h.2.s v d hv hd)⟩
theorem Zgt {n:Nat}{f:Nat→Int}:((match (List.range n).find? (fun d=>decide (f d≠0)) with|some d=>(.inr (f d):Unit⊕Int)|none=>.inl ()))=if (match (List.range n).find? (fun d=>decide (f d≠0)) with|some d=>f d|none=>0)=0 then .inl () else .inr (match (List.range n).find? (fun d=>decide (f d≠0)) with|some d=>f d|none=>0):=by
 cases h:(List.range n).find? (fun d=>decide (f d≠0)) with
 | none=>simp
 | some j =>
  rw [List.find?_range_eq_some] at h;have h1:f j≠0:=by simpa using h.1
  rw [if_neg h1]
theorem Zm7 {l:List Za}{v:Nat}(hv:v<l.length):zp (z6.s1 l v) big 0=some (if Zdk l v=0 then .inl () else .inr (Zdk l v)):=by
 have h:zp (z6.s1 l v) big 0=some (match (List.range 4).find? (fun d=>decide (ZbR l v d≠0)) with|some d=>.inr (ZbR l v d)|none=>.inl ()):=by
  refine ZbW (Za8 (by omega)) (fun d hd=>?_) ?_
  ·simp only [z6.s1];rw [zn (by omega),ZlO hv hd,obs];by_cases c:ZbR l v d=0
   ·rw [Zbt c,if_neg (by simpa using c),Zai (by omega)]
   ·rw [ZbG c,if_pos (by simpa using c)]
  ·simp only [z6.s1];rw [zm (by omega)]
 rw [h,Zgt];rfl
theorem ZfI {l:List Za}(hl:l.length≤1000000000000):z6 l=some (ZdX l):=by
 unfold z6 ZdX;by_cases c:4096<l.length
 ·rw [if_pos c,zn (by omega)]
 ·rw [if_neg c,zm (by omega)];have h:zp (z6.s0 l) big 0=some (match (List.range l.length).find? (fun v=>decide (Zdk l v≠0)) with|some v=>.inr (Zdk l v)|none=>.inl ()):=by
   refine ZbW (Za8 (by omega)) (fun v hv=>?_) ?_
   ·simp only [z6.s0];rw [zn (by omega),Zm7 hv,obs];by_cases c:Zdk l v=0
    ·rw [if_pos c,if_neg (by simpa using c)];dsimp only;rw [Zai (by omega)]
    ·rw [if_neg c,if_pos (by simpa using c)]
   ·simp only [z6.s0];rw [zm (by omega)]
  rw [h];cases (List.range l.length).find? (fun v=>decide (Zdk l v≠0))<;>simp
theorem ZlZ {l:List Za}{v d:Nat}(hv:v<l.length) (hd:d<4):ZK.s1 l v d=some (if decide (ZbR l v d≠0)=true then .inr (.inr (ZbR l v d)) else .inl ((d:Int)+1)):=by
 unfold ZK.s1;have e:((gi l v).Next).get (d:Int)=nx l v d:=rfl;have e2:((gi l v).Owner).get (d:Int)=ow l v d:=rfl;rw [zn (by omega),ZY (by omega),ZY (by omega),itn,e,e2];unfold ZbR;by_cases c:nx l v d=-1
 ·rw [zn c,if_pos c];by_cases c2:ow l v d=0
  ·rw [Zbt c2,if_pos c2,Zai (by omega)];rfl
  ·rw [ZbG c2,if_neg c2];rfl
 ·rw [zm c,if_neg c];by_cases c2:nx l v d<0∨(l.length:Int)≤nx l v d∨nx l v d=v
  ·rw [if_pos c2,if_pos (by simpa [or_assoc] using c2)];rfl
  ·rw [if_neg c2,if_neg (by simpa [or_assoc] using c2),Zai (by omega),ZY (by omega),tm2 hd,ZY (by omega),Zai (by omega)];have e3:((gi l (nx l v d).toNat).Next).get (((d+2)%4:Nat):Int)=nx l (nx l v d).toNat ((d+2)%4):=rfl;have e4:((gi l (nx l v d).toNat).Owner).get (((d+2)%4:Nat):Int)=ow l (nx l v d).toNat ((d+2)%4):=rfl;rw [e3,e4];by_cases q1:nx l (nx l v d).toNat ((d+2)%4)=v<;>by_cases q2:ow l (nx l v d).toNat ((d+2)%4)=ow l v d<;>by_cases q3:ow l v d < -2<;>simp [q1,q2,q3]
theorem Zhd {l:List Za}(hl:l.length≤1000000000000):ZK l=some (ZdX l):=by
 unfold ZK ZdX;by_cases c:4096<l.length
 ·rw [if_pos c,zn (by omega)]
 ·rw [if_neg c,zm (by omega)];have hrow:∀ v,v<l.length→zp (ZK.s1 l v) big 0=some (if Zdk l v=0 then .inl () else .inr (Zdk l v)):=by
   intro v hv;have h:zp (ZK.s1 l v) big 0=some (match (List.range 4).find? (fun d=>decide (ZbR l v d≠0)) with|some d=>.inr (ZbR l v d)|none=>.inl ()):=by
    refine ZbW (Za8 (by omega)) (fun d hd=>ZlZ hv hd) ?_;simp only [ZK.s1];rw [zm (by omega)]
   rw [h,Zgt];rfl
  have h:zp (ZK.s0 l) big 0=some (match (List.range l.length).find? (fun v=>decide (Zdk l v≠0)) with|some v=>.inr (Zdk l v)|none=>.inl ()):=by
   refine ZbW (Za8 (by omega)) (fun v hv=>?_) ?_
   ·simp only [ZK.s0];rw [zn (by omega),hrow v hv,obs];by_cases c:Zdk l v=0
    ·rw [if_pos c,if_neg (by simpa using c)];dsimp only;rw [Zai (by omega)]
    ·rw [if_neg c,if_pos (by simpa using c)]
   ·simp only [ZK.s0];rw [zm (by omega)]
  rw [h];cases (List.range l.length).find? (fun v=>decide (Zdk l v≠0))<;>simp
end Mu
/- Layer 13: what hangs together,by steps. -/
namespace Mu

theorem ZgU {α:Type} [Inhabited α] {l:List α}{n i:Nat}(h:i<n):gi (l.take n) i=gi l i:=by
 unfold gi;simp [List.getElem?_take,h]
theorem ZlM {n:Nat}(h:n≤1300):Zbw 1 n=some (0,(n:Int)):=by
 have key:∀ n:Fin 1301,Zbw 1 ((n:Nat):Int)=some (0,((n:Nat):Int)):=by decide +kernel
 exact key ⟨n,by omega⟩
theorem ZjF {n:Nat}(h:n≤1300):zy [-1] n=some (List.replicate n (-1)):=by
 have L:∃ r,zp zy.s0 big (([-1]:List Int).take (List.replicate n (0:Int)).length++(List.replicate n (0:Int)).drop ([-1]:List Int).length,((min ([-1]:List Int).length (List.replicate n (0:Int)).length:Nat):Int))=some r∧(r.length=n∧∀ i,i<n→gi r i=-1):=by
  refine Zcx (μ:=fun s=>((n:Int)-s.2).toNat) (I:=fun s=>s.1.length=n∧(0≤s.2∧s.2≤(n:Int))∧(0<n→0<s.2)∧∀ i:Nat,(i:Int)<s.2→gi s.1 i=-1) (by dsimp only;unfold big;omega) ?_ ?_
  ·cases n with
   | zero=>exact ⟨rfl,by simp,by simp,fun i hi=>by simp at hi;omega⟩
   | succ n =>
    refine ⟨by simp,by simp;omega,fun _=>by simp,fun i hi=>?_⟩;have:i=0:=by simp at hi;omega
    subst this;rfl
  ·rintro ⟨x,m⟩ ⟨h1,h2,h3,h4⟩;dsimp only at h1 h2 h3 h4 ⊢;obtain ⟨k,rfl⟩:=Int.eq_ofNat_of_zero_le h2.1;simp only [zy.s0,itn];by_cases c:(k:Int)<(x.length:Int)
   ·refine .inl ?_;have t1:(x.take k).length=k:=by rw [List.length_take];omega
    have t2:(x.drop k).length=n-k:=by rw [List.length_drop];omega
    rw [zn c,ZY (by omega),Zai (by omega),t1,t2];refine ⟨_,rfl,⟨by simp;omega,by dsimp only;omega,fun _=>by dsimp only;omega,fun i hi=>?_⟩,by dsimp only;omega⟩;dsimp only at hi ⊢;by_cases q:i<k
    ·rw [ZaW (by rw [t1];exact q),ZgU q];exact h4 i (by omega)
    ·have e:i=(x.take k).length+(i-k):=by rw [t1];omega
     rw [e,ZaQ,ZaW (by rw [List.length_take,t1];omega),ZgU (by omega),ZgU (by omega)];exact h4 _ (by omega)
   ·refine .inr ?_;rw [zm c];exact ⟨_,rfl,h1,fun i hi=>h4 i (by omega)⟩
 obtain ⟨r,e1,e2,e3⟩:=L;have er:r=List.replicate n (-1):=Zd0 (by simp [e2]) fun i hi=>by
  rw [e3 i (by omega),ZaJ (by simp;omega)];simp
 unfold zy;rw [zm (by omega),obs,ZY (show inK .u64 (([-1]:List Int).length:Int) by decide),ZY (show inK .u64 (n:Int) from by
  simp only [inK,Go.IntKind.wrap,Go.IntKind.bits,Go.IntKind.signed];simp;omega),show (([-1]:List Int).length:Int)=1 from rfl,ZlM h,obs]
 dsimp only;rw [if_neg (by simp;omega),obs,Zgq (by omega),ZY (by omega),itn,e1,obs,er]

def Adj (l:List Za) (a b:Nat):Prop:=∃ d,d<4∧nx l a d=b
inductive Rch (l:List Za) (v:Nat):Nat→Nat→Prop
 | zero:Rch l v 0 v
 | succ {n a b}:Rch l v n a→Adj l a b→Rch l v (n+1) b
theorem Adj.lt {l:List Za}(h:Ck l) {a b:Nat}(ha:a<l.length) (hab:Adj l a b):b<l.length:=by
 obtain ⟨d,hd,e⟩:=hab;have:=h.lt ha hd;omega
theorem Adj.symm {l:List Za}(h:Ck l) {a b:Nat}(ha:a<l.length) (hab:Adj l a b):Adj l b a:=by
 obtain ⟨d,hd,e⟩:=hab;rcases h.s a d ha hd with ⟨e2,_⟩|⟨w,e2,_,_,e3,_⟩
 ·omega
 ·have:w=b:=by omega
  subst this;exact ⟨(d+2)%4,by omega,e3⟩
theorem Rch.lt {l:List Za}(h:Ck l) {v n w:Nat}(hv:v<l.length) (hr:Rch l v n w):w<l.length:=by
 induction hr with
 | zero=>exact hv
 | succ _ hab ih=>exact hab.lt h ih
theorem Rch.trans {l:List Za}{a b c n m:Nat}(h1:Rch l a n b) (h2:Rch l b m c):Rch l a (n+m) c:=by
 induction h2 with
 | zero=>exact h1
 | succ _ hab ih=>exact .succ ih hab
theorem Rch.symm {l:List Za}(h:Ck l) {v n w:Nat}(hv:v<l.length) (hr:Rch l v n w):Rch l w n v:=by
 induction hr with
 | zero=>exact .zero
 | succ hr hab ih =>
  have ha:=hr.lt h hv;have:=(Rch.succ .zero (hab.symm h ha)).trans ih;rw [Nat.zero_add,Nat.add_comm] at this;exact this
def Dist (l:List Za) (v w n:Nat):Prop:=Rch l v n w∧∀ m,Rch l v m w→n≤m
theorem Dist.uniq {l:List Za}{v w n m:Nat}(h1:Dist l v w n) (h2:Dist l v w m):n=m:=by
 have:=h1.2 m h2.1;have:=h2.2 n h1.1;omega
theorem Dist.symm {l:List Za}(h:Ck l) {v w n:Nat}(hv:v<l.length) (hd:Dist l v w n):Dist l w v n :=
 ⟨hd.1.symm h hv,fun m hm=>hd.2 m (hm.symm h (hd.1.lt h hv))⟩
theorem Dist.pred {l:List Za}{v w n:Nat}(hd:Dist l v w (n+1)):∃ a,Dist l v a n∧Adj l a w:=by
 obtain ⟨h1,h2⟩:=hd
 cases h1 with
 | succ hr hab =>
  refine ⟨_,⟨hr,fun m hm=>?_⟩,hab⟩;have:=h2 (m+1) (.succ hm hab);omega
theorem ZfR:∀ {n m:Nat}(f:Nat→Nat),(∀ i,i<n→f i<m)→(∀ i j,i<n→j<n→f i=f j→i=j)→n≤m
 | 0,m,f,_,_=>Nat.zero_le _
 | n+1,0,f,h,_=>absurd (h 0 (by omega)) (by omega)
 | n+1,m+1,f,h,hi=>by
  have:=ZfR (n:=n) (m:=m) (fun i=>if f i=m then f n else f i) (fun i hi'=>by
   by_cases c:f i=m
   ·rw [if_pos c];have:=h n (by omega);by_cases c2:f n=m
    ·have:=hi i n (by omega) (by omega) (by omega);omega
    ·omega
   ·rw [if_neg c];have:=h i (by omega);omega) (fun i j hi' hj' e=>by
   by_cases c:f i=m<;>by_cases c2:f j=m
   ·exact hi i j (by omega) (by omega) (by omega)
   ·rw [if_pos c,if_neg c2] at e;have:=hi n j (by omega) (by omega) e;omega
   ·rw [if_neg c,if_pos c2] at e;have:=hi i n (by omega) (by omega) e;omega
   ·rw [if_neg c,if_neg c2] at e;exact hi i j (by omega) (by omega) e)
  omega
theorem Dist.all {l:List Za}{v w:Nat}:∀ n,Dist l v w n→∀ m,m≤n→∃ a,Dist l v a m
 | 0,h,m,hm=>⟨w,by rw [show m=0 by omega];exact h⟩
 | n+1,h,m,hm=>by
  by_cases c:m=n+1
  ·exact ⟨w,by rw [c];exact h⟩
  ·obtain ⟨a,ha,_⟩:=h.pred;exact Dist.all n ha m (by omega)
theorem Dist.lt {l:List Za}(h:Ck l) {v w n:Nat}(hv:v<l.length) (hd:Dist l v w n):n<l.length:=by
 have hall:=fun m (hm:m<n+1)=>hd.all n m (by omega);have:=ZfR (n:=n+1) (m:=l.length) (fun m=>if hm:m<n+1 then (hall m hm).choose else 0) (fun i hi=>by
  rw [dif_pos hi];exact (hall i hi).choose_spec.1.lt h hv) (fun i j hi hj e=>by
  rw [dif_pos hi,dif_pos hj] at e;have d1:=(hall i hi).choose_spec;have d2:=(hall j hj).choose_spec;rw [e] at d1;exact d1.uniq d2)
 omega
end Mu
/- Layer 13: spread. -/
namespace Mu

structure So (l:List Za) (v:Nat) (δ:Nat→Nat) (q:List Int) (mt:List Bool):Prop where
 el:∀ x∈q,∃ a:Nat,x=a∧a<l.length∧gi mt a=true
 so:q.Pairwise fun x y=>δ x.toNat≤δ y.toNat∧δ y.toNat≤δ x.toNat+1
 pr:∀ a:Nat,gi mt a=true→(a:Int) ∉ q→(∀ x∈q,δ a≤δ x.toNat)∧∀ b,Adj l a b→gi mt b=true∧δ b≤δ a+1
structure Si (l:List Za) (v h:Nat) (δ:Nat→Nat) (q:List Int) (mt:List Bool) (d:Nat):Prop where
 hm:gi mt h=true
 el:∀ x∈q,∃ a:Nat,x=a∧a<l.length∧gi mt a=true∧δ h≤δ a∧δ a≤δ h+1
 so:q.Pairwise fun x y=>δ x.toNat≤δ y.toNat
 pr:∀ a:Nat,gi mt a=true→(a:Int) ∉ q→a≠h→δ a≤δ h∧∀ b,Adj l a b→gi mt b=true∧δ b≤δ a+1
 hd:∀ e,e<d→∀ b:Nat,nx l h e=b→gi mt b=true∧δ b≤δ h+1
theorem So.open {l:List Za}{v h:Nat}{δ:Nat→Nat}{t:List Int}{mt:List Bool}(s:So l v δ ((h:Int)::t) mt):Si l v h δ t mt 0:=by
 have hs:=List.pairwise_cons.1 s.so;refine ⟨?_,fun x hx=>?_,hs.2.imp (fun h=>h.1),fun a ha hn hne=>?_,fun e he=>by omega⟩
 ·obtain ⟨a,e,_,hh⟩:=s.el _ List.mem_cons_self;obtain rfl:h=a:=by omega
  exact hh
 ·obtain ⟨a,e,h1,h2⟩:=s.el x (List.mem_cons_of_mem _ hx);have:=hs.1 x hx;subst e;exact ⟨a,rfl,h1,h2,by simpa using this.1,by simpa using this.2⟩
 ·have:=s.pr a ha (by
   rw [List.mem_cons];rintro (h|h)
   ·omega
   ·exact hn h)
  exact ⟨by simpa using this.1 _ List.mem_cons_self,this.2⟩
theorem Si.skip {l:List Za}{v h d:Nat}{δ:Nat→Nat}{q:List Int}{mt:List Bool}(s:Si l v h δ q mt d) (hs:∀ w:Nat,nx l h d=w→gi mt w=true):Si l v h δ q mt (d+1):=by
 refine ⟨s.hm,s.el,s.so,s.pr,fun e he b hb=>?_⟩;by_cases c:e=d
 ·subst c;have hm:=hs b hb;refine ⟨hm,?_⟩;by_cases c1:(b:Int)∈q
  ·obtain ⟨a,e,_,_,_,h4⟩:=s.el _ c1;have:b=a:=by omega
   subst this;exact h4
  ·by_cases c2:b=h
   ·subst c2;omega
   ·have:=(s.pr b hm c1 c2).1;omega
 ·exact s.hd e (by omega) b hb
end Mu
/- Layer 13: spread,walked. -/
namespace Mu

end Mu
/- Layer 13: far. -/
namespace Mu

end Mu
/- Layer 13: paths. -/
namespace Mu

end Mu
/- Layer 13: there and back. -/
namespace Mu
theorem okZ {z:zb}(m1:z.At.length≤Go.maxLen) (b1:∀ y∈z.At,Zfg y) (b3:∀ y∈z.Own,Zhn y):OkZ z :=
 ⟨by unfold Go.maxLen at m1;omega,b1,b3⟩
end Mu
/- Layer 13: join's paths. -/
namespace Mu
end Mu
/- Layer 13: join's parts. -/
namespace Mu
end Mu
/- Layer 13: the document's parts,and the law. -/
namespace Mu
end Mu
/- Layer 10: a grid's cells,played with. -/
namespace Mu
structure Rg (l:List Za):Prop where
 len:l.length≤4096
 nx:∀ v d:Nat,v<l.length→d<4→nx l v d=-1∨(0≤nx l v d∧nx l v d<l.length)
theorem Rg.wth {l:List Za}{v w d:Nat}{o:Int}(h:Rg l) (hv:v<l.length) (hw:w<l.length) (hvw:v≠w) (hd:d<4):Rg (wth l v d w o):=by
 refine ⟨by rw [Zbk];exact h.len,fun i e hi he=>?_⟩;rw [Zbk] at hi ⊢;rw [(Ze8 hv hw hvw hd hi he).1];split
 ·omega
 ·split
  ·omega
  ·exact h.nx i e hi he
theorem ZiL {d:Nat}(h:d<4):noC.Next.get (d:Int)=-1∧noC.Owner.get (d:Int)=0:=by
 match d,h with
 | 0,_|1,_|2,_|3,_=>exact ⟨rfl,rfl⟩
theorem Rg.add {l:List Za}(h:Rg l) (hl:l.length<4096):Rg (l++[noC]):=by
 refine ⟨by simp;omega,fun i e hi he=>?_⟩;rw [List.length_append,List.length_singleton] at hi ⊢;unfold Mu.nx;by_cases c:i<l.length
 ·rw [ZaW c];have:=h.nx i e c he;unfold Mu.nx at this;omega
 ·rw [show i=l.length+0 by omega,ZaQ];exact .inl (ZiL he).1
end Mu
/- Layer 10: a split edge. -/
namespace Mu
end Mu
/- Layer 10: GridPlays. -/
namespace Mu
theorem Rg.start {n:Nat}(h:n≤4096):Rg (List.replicate n noC):=by
 refine ⟨by simpa using h,fun v d hv hd=>?_⟩;simp only [List.length_replicate] at hv;have:gi (List.replicate n noC) v=noC:=by rw [ZaJ (by simpa using hv)];simp
 unfold Mu.nx;rw [this];exact .inl (ZiL hd).1
end Mu
/- Layer 10: turned cells;what Split and Of answer. -/
namespace Mu
end Mu
/- Layer 13: JoinTurns. -/
namespace Mu
/-! the split edge -/
def ext (v u:Int) (p:List Int):List Int:=if v∈p then p++[u] else p
end Mu
/- Layer 16: straight chains of cells. -/
namespace Mu
theorem Ck.back {l:List Za}(h:Ck l) {v d w:Nat}(hv:v<l.length) (hd:d<4) (hw:nx l v d=w):w<l.length∧nx l w ((d+2)%4)=v:=by
 rcases h.s v d hv hd with ⟨a,_⟩|⟨u,a,b,_,c,_⟩
 ·omega
 ·have:w=u:=by omega
  subst this;exact ⟨b,c⟩
structure IsCh (l:List Za) (d:Nat) (C:List Int):Prop where
 ne:0<C.length
 lt:∀ i,i<C.length→0≤gi C i∧gi C i<l.length
 nxt:∀ i,i+1<C.length→nx l (gi C i).toNat d=gi C (i+1)
 fin:nx l (gi C (C.length-1)).toNat d=-1
 beg:nx l (gi C 0).toNat ((d+2)%4)=-1
theorem IsCh.bk {l:List Za}(hc:Ck l) {d:Nat}(hd:d<4) {C:List Int}(h:IsCh l d C) {i:Nat}(hi:i+1<C.length):nx l (gi C (i+1)).toNat ((d+2)%4)=gi C i:=by
 have a:=h.lt i (by omega);have b:=h.lt (i+1) hi;have:=(hc.back (v:=(gi C i).toNat) (d:=d) (w:=(gi C (i+1)).toNat) (by omega) hd (by rw [h.nxt i hi];omega)).2;rw [this];omega
theorem IsCh.at0 {l:List Za}(hc:Ck l) {d:Nat}(hd:d<4) {C C':List Int}(h:IsCh l d C) (h':IsCh l d C'):∀ i j,i<C.length→j<C'.length→gi C i=gi C' j→i=j∧gi C 0=gi C' 0
 | 0,0,_,_,e=>⟨rfl,e⟩
 | 0,j+1,_,hj,e=>by
  have a:=h'.bk hc hd hj;have b:=h.beg;rw [e,a] at b;have:=h'.lt j (by omega);omega
 | i+1,0,hi,_,e=>by
  have a:=h.bk hc hd hi;have b:=h'.beg;rw [← e,a] at b;have:=h.lt i (by omega);omega
 | i+1,j+1,hi,hj,e=>by
  have a:=h.bk hc hd hi;have b:=h'.bk hc hd hj;rw [e,b] at a;obtain ⟨q,r⟩:=IsCh.at0 hc hd h h' i j (by omega) (by omega) a.symm;exact ⟨by omega,r⟩
theorem IsCh.uniq0 {l:List Za}{d:Nat}{C C':List Int}(h:IsCh l d C) (h':IsCh l d C') (h0:gi C 0=gi C' 0):C=C':=by
 have key:∀ {C C':List Int},IsCh l d C→IsCh l d C'→gi C 0=gi C' 0→∀ k,k<C.length→k<C'.length∧gi C k=gi C' k:=by
  intro C C' h h' h0 k
  induction k with
  | zero=>intro _;exact ⟨h'.ne,h0⟩
  | succ k ih =>
   intro hk;obtain ⟨a,b⟩:=ih (by omega);have n:=h.nxt k hk;have q:=h.lt (k+1) hk;by_cases c:k+1<C'.length
   ·refine ⟨c,?_⟩;rw [← n,← h'.nxt k c,b]
   ·have f:=h'.fin;rw [show C'.length-1=k by omega,← b,n] at f;omega
 have k1:=key h h' h0;have k2:=key h' h h0.symm;have hl:C.length=C'.length:=by
  have a:=h.ne;have b:=h'.ne;have:=(k1 (C.length-1) (by omega)).1;have:=(k2 (C'.length-1) (by omega)).1;omega
 exact Zd0 hl fun i hi=>(k1 i hi).2
theorem IsCh.uniq {l:List Za}(hc:Ck l) {d:Nat}(hd:d<4) {C C':List Int}(h:IsCh l d C) (h':IsCh l d C') {v:Int}(hv:v∈C) (hv':v∈C'):C=C':=by
 obtain ⟨i,hi,rfl⟩:=List.mem_iff_getElem.1 hv;obtain ⟨j,hj,e⟩:=List.mem_iff_getElem.1 hv';exact h.uniq0 h' (h.at0 hc hd h' i j hi hj (by rw [ZaJ hi,ZaJ hj];exact e.symm)).2
theorem IsCh.len {l:List Za}(hc:Ck l) {d:Nat}(hd:d<4) {C:List Int}(h:IsCh l d C):C.length≤l.length:=by
 refine ZfR (fun i=>(gi C i).toNat) (fun i hi=>?_) (fun i j hi hj e=>?_)
 ·have:=h.lt i hi;show (gi C i).toNat<l.length;omega
 ·have a:=h.lt i hi;have b:=h.lt j hj;have e:(gi C i).toNat=(gi C j).toNat:=e;exact (h.at0 hc hd h i j hi hj (by omega)).1
theorem ZiD {P:Nat→Prop}:∀ k,P k→∃ k,P k∧∀ i,i<k→¬ P i:=by
 intro k
 induction k using Nat.strongRecOn with
 | _ k ih =>
  intro h;by_cases c:∃ i,i<k∧P i
  ·obtain ⟨i,hi,hp⟩:=c;exact ih i hi hp
  ·exact ⟨k,h,fun i hi hp=>c ⟨i,hi,hp⟩⟩
def fwd (l:List Za) (d r:Nat):Nat→Int
 | 0=>r
 | n+1=>if 0≤fwd l d r n then nx l (fwd l d r n).toNat d else -1
theorem Zi0 {l:List Za}(hc:Ck l) {d r:Nat}(hd:d<4) (hr:r<l.length) (hb:nx l r ((d+2)%4)=-1):∃ C,IsCh l d C∧gi C 0=r:=by
 have step:∀ n,0≤fwd l d r n→fwd l d r (n+1)=nx l (fwd l d r n).toNat d:=fun n h=>by rw [fwd,if_pos h]
 have pre:∀ n,0≤fwd l d r (n+1)→0≤fwd l d r n:=by
  intro n h;by_cases c:0≤fwd l d r n
  ·exact c
  ·rw [fwd,if_neg c] at h;omega
 have lt:∀ n,0≤fwd l d r n→fwd l d r n<l.length:=by
  intro n
  induction n with
  | zero=>intro _;show (r:Int)<l.length;omega
  | succ n ih =>
   intro h;have c:=pre n h;have:=ih c;rw [step n c];exact (hc.lt (by omega) hd).2
 have bkw:∀ n,0≤fwd l d r (n+1)→nx l (fwd l d r (n+1)).toNat ((d+2)%4)=fwd l d r n:=by
  intro n h;have c:=pre n h;have a:=lt n c;have b:=lt (n+1) h;have:=(hc.back (v:=(fwd l d r n).toNat) (d:=d) (w:=(fwd l d r (n+1)).toNat) (by omega) hd (by rw [← step n c];omega)).2;rw [this];omega
 have z:fwd l d r 0=r:=rfl;have inj:∀ i j,0≤fwd l d r i→0≤fwd l d r j→fwd l d r i=fwd l d r j→i=j:=by
  intro i
  induction i with
  | zero =>
   intro j _ hj e
   cases j with
   | zero=>rfl
   | succ j =>
    have:=bkw j hj;rw [← e,z,itn,hb] at this;have:=pre j hj;omega
  | succ i ih =>
   intro j hi hj e
   cases j with
   | zero =>
    have:=bkw i hi;rw [e,z,itn,hb] at this;have:=pre i hi;omega
   | succ j =>
    have a:=bkw i hi;have b:=bkw j hj;rw [e,b] at a;have:=ih j (pre i hi) (pre j hj) a.symm;omega
 have ex:∃ k,fwd l d r k<0:=by
  refine Classical.byContradiction fun hn=>?_;have all:∀ k,0≤fwd l d r k:=fun k=>by
   by_cases c:0≤fwd l d r k
   ·exact c
   ·exact absurd ⟨k,by omega⟩ hn
  have:=ZfR (n:=l.length+1) (m:=l.length) (fun i=>(fwd l d r i).toNat) (fun i _=>by
   have:=lt i (all i);have:=all i;show (fwd l d r i).toNat<l.length;omega) (fun i j _ _ e=>inj i j (all i) (all j) (by
   have e:(fwd l d r i).toNat=(fwd l d r j).toNat:=e;have:=all i;have:=all j;omega))
  omega
 obtain ⟨k0,hk0⟩:=ex;obtain ⟨k,hk,hm⟩:=ZiD (P:=fun k=>fwd l d r k<0) k0 hk0;have hpos:0<k:=by
  cases k with
  | zero=>rw [z] at hk;omega
  | succ k=>omega
 have g:∀ i,i<k→gi ((List.range k).map (fwd l d r)) i=fwd l d r i:=fun i hi=>Zdy hi;have hlen:((List.range k).map (fwd l d r)).length=k:=by simp
 have ge:∀ i,i<k→0≤fwd l d r i:=fun i hi=>by have:=hm i hi;omega
 refine ⟨(List.range k).map (fwd l d r),⟨by omega,fun i hi=>?_,fun i hi=>?_,?_,?_⟩,?_⟩
 ·rw [hlen] at hi;rw [g i hi];exact ⟨ge i hi,lt i (ge i hi)⟩
 ·rw [hlen] at hi;rw [g i (by omega),g (i+1) hi,step i (ge i (by omega))]
 ·rw [hlen,g _ (by omega),← step _ (ge _ (by omega)),show k-1+1=k by omega];have:=ge (k-1) (by omega);have a:=step (k-1) this;rw [show k-1+1=k by omega] at a;have:=lt (k-1) this;have:=hc.lt (l:=l) (v:=(fwd l d r (k-1)).toNat) (d:=d) (by omega) hd;omega
 ·rw [g 0 hpos,z,itn];exact hb
 ·rw [g 0 hpos,z]
def Zbr (l:List Za) (b:Nat):Nat→Nat→Option Nat
 | 0,_=>none
 | n+1,v=>if nx l v b<0 then some v else Zbr l b n (nx l v b).toNat
theorem Zdj {l:List Za}(hc:Ck l) {d:Nat}(hd:d<4) {C:List Int}(h:IsCh l d C):∀ i m,i<C.length→i<m→Zbr l ((d+2)%4) m (gi C i).toNat=some (gi C 0).toNat
 | 0,m+1,_,_=>by rw [Zbr,h.beg,if_pos (by omega)]
 | i+1,m+1,hi,hm=>by
  have:=h.lt i (by omega);rw [Zbr,h.bk hc hd hi,if_neg (by omega)];exact Zdj hc hd h i m (by omega) (by omega)
theorem Zc5 {l:List Za}(hc:Ck l) {d:Nat}(hd:d<4):∀ m v r,v<l.length→Zbr l ((d+2)%4) m v=some r→∃ C,IsCh l d C∧gi C 0=r∧∃ i,i<C.length∧gi C i=v
 | 0,v,r,_,h=>by cases h
 | m+1,v,r,hv,h=>by
  have hb:=hc.lt hv (d:=(d+2)%4) (by omega);rw [Zbr] at h;by_cases c:nx l v ((d+2)%4)<0
  ·rw [if_pos c] at h;cases h;obtain ⟨C,hC,h0⟩:=Zi0 hc hd hv (by omega);exact ⟨C,hC,h0,0,hC.ne,h0⟩
  ·rw [if_neg c] at h;have bk:=hc.back (v:=v) (d:=(d+2)%4) (w:=(nx l v ((d+2)%4)).toNat) hv (by omega) (by omega);rw [show ((d+2)%4+2)%4=d by omega] at bk;obtain ⟨C,hC,h0,i,hi,e⟩:=Zc5 hc hd m _ r (by omega) h;have n:nx l (gi C i).toNat d=v:=by rw [e,itn];exact bk.2
   by_cases q:i+1<C.length
   ·exact ⟨C,hC,h0,i+1,q,by rw [← hC.nxt i q];exact n⟩
   ·have f:=hC.fin;rw [show C.length-1=i by omega,n] at f;omega
def AllCh (l:List Za) (d:Nat):Prop:=∀ v:Nat,v<l.length→∃ C,IsCh l d C∧(v:Int)∈C
theorem AllCh.root {l:List Za}(hc:Ck l) {d:Nat}(hd:d<4) (h:AllCh l d) {v:Nat}(hv:v<l.length):∃ r C,Zbr l ((d+2)%4) (l.length+1) v=some r∧IsCh l d C∧gi C 0=r∧(v:Int)∈C:=by
 obtain ⟨C,hC,hm⟩:=h v hv;obtain ⟨i,hi,e⟩:=List.mem_iff_getElem.1 hm;have:=hC.len hc hd;have r:=Zdj hc hd hC i (l.length+1) hi (by omega);rw [ZaJ hi,e,itn] at r;have:=hC.lt 0 hC.ne;exact ⟨_,C,r,hC,by omega,hm⟩
theorem Zfq {l:List Za}(hc:Ck l) {d:Nat}(hd:d<4) (h:¬ AllCh l d):∃ v,v<l.length∧Zbr l ((d+2)%4) (l.length+1) v=none:=by
 refine Classical.byContradiction fun hn=>h fun v hv=>?_
 cases r:Zbr l ((d+2)%4) (l.length+1) v with
 | none=>exact absurd ⟨v,hv,r⟩ hn
 | some r' =>
  obtain ⟨C,hC,h0,i,hi,e⟩:=Zc5 hc hd _ v r' hv r;exact ⟨C,hC,by rw [← e];exact Ze0 hi⟩
structure CH (l:List Za) (d:Nat) (a:List Int) (L:List (List Int)):Prop where
 alen:a.length=l.length
 ch:∀ i,i<L.length→IsCh l d (gi L i)
 mem:∀ u:Nat,u<l.length→∃ i:Nat,i<L.length∧gi a u=i∧(u:Int)∈gi L i
 one:∀ i u:Nat,i<L.length→u<l.length→(u:Int)∈gi L i→gi a u=i
 seen:∀ i:Nat,i<L.length→∃ u,u<l.length∧gi a u=i
 ord:∀ u i:Nat,u<l.length→gi a u=i+1→∃ u',u'<u∧gi a u'=i
 Ll:L.length≤l.length
theorem Zhb {n:Nat}{a:List Int}(ord:∀ u i:Nat,u<n→gi a u=i+1→∃ u',u'<u∧gi a u'=i):∀ (k u i:Nat),u<n→gi a u=i+(k+1:Nat)→∃ u',u'<u∧gi a u'=i
 | 0,u,i,hu,e=>ord u i hu (by omega)
 | k+1,u,i,hu,e=>by
  obtain ⟨u',h1,h2⟩:=ord u (i+(k+1)) hu (by omega);obtain ⟨u'',h3,h4⟩:=Zhb ord k u' i (by omega) (by omega);exact ⟨u'',by omega,h4⟩
theorem Zle {n:Nat}{a a':List Int}(p:∀ u:Nat,u<n→∃ i:Nat,gi a u=i) (p':∀ u:Nat,u<n→∃ i:Nat,gi a' u=i) (o:∀ u i:Nat,u<n→gi a u=i+1→∃ u',u'<u∧gi a u'=i) (o':∀ u i:Nat,u<n→gi a' u=i+1→∃ u',u'<u∧gi a' u'=i)
  (h:∀ u v:Nat,u<n→v<n→(gi a u=gi a v↔gi a' u=gi a' v)):∀ v:Nat,v<n→gi a v=gi a' v:=by
 intro v
 induction v using Nat.strongRecOn with
 | _ v ih =>
  intro hv;obtain ⟨i,hi⟩:=p v hv;obtain ⟨j,hj⟩:=p' v hv;by_cases c:i=j
  ·rw [hi,hj,c]
  ·by_cases q:i<j
   ·obtain ⟨u,h1,h2⟩:=Zhb o' (j-i-1) v i hv (by omega);have:=ih u h1 (by omega);have:=(h u v (by omega) hv).1 (by omega);omega
   ·obtain ⟨u,h1,h2⟩:=Zhb o (i-j-1) v j hv (by omega);have:=ih u h1 (by omega);have:=(h u v (by omega) hv).2 (by omega);omega
theorem CH.eq {l m:List Za}{d e:Nat}{a a':List Int}{L L':List (List Int)}(h:CH l d a L) (h':CH m e a' L') (hn:l.length=m.length) (f:List Int→List Int) (hf:∀ C C' v,IsCh l d C→IsCh m e C'→v∈C→v∈C'→C'=f C) (hm:∀ C v,v∈f C↔v∈C):a=a'∧L'=L.map f:=by
 have key:∀ u v:Nat,u<l.length→v<l.length→(gi a u=gi a v↔gi a' u=gi a' v):=by
  intro u v hu hv;obtain ⟨i,i1,i2,i3⟩:=h.mem u hu;obtain ⟨j,j1,j2,j3⟩:=h'.mem u (by omega);have e:=hf _ _ _ (h.ch i i1) (h'.ch j j1) i3 j3;constructor
  ·intro q;obtain ⟨k,k1,k2,k3⟩:=h.mem v hv;have:k=i:=by omega
   subst this;have:=h'.one j v j1 (by omega) (by rw [e];exact (hm _ _).2 k3);omega
  ·intro q;obtain ⟨k,k1,k2,k3⟩:=h'.mem v (by omega);have:k=j:=by omega
   subst this;rw [e] at k3;have:=h.one i v i1 hv ((hm _ _).1 k3);omega
 have ae:∀ v:Nat,v<l.length→gi a v=gi a' v:=Zle (n:=l.length) (fun u hu=>by obtain ⟨i,_,e,_⟩:=h.mem u hu;exact ⟨i,e⟩) (fun u hu=>by obtain ⟨i,_,e,_⟩:=h'.mem u (by omega);exact ⟨i,e⟩) h.ord (fun u i hu=>h'.ord u i (by omega)) key;refine ⟨Zd0 (by rw [h.alen,h'.alen,hn]) fun i hi=>ae i (by rw [h.alen] at hi;exact hi),?_⟩;have ll:L'.length=L.length:=by
  have A:∀ i,i<L.length→i<L'.length:=by
   intro i hi;obtain ⟨u,hu,e⟩:=h.seen i hi;obtain ⟨j,j1,j2,_⟩:=h'.mem u (by omega);have:=ae u hu;omega
  have B:∀ i,i<L'.length→i<L.length:=by
   intro i hi;obtain ⟨u,hu,e⟩:=h'.seen i hi;obtain ⟨j,j1,j2,_⟩:=h.mem u (by omega);have:=ae u (by omega);omega
  have a1:=A (L.length-1);have b1:=B (L'.length-1);omega
 apply Zd0 (by rw [ll,List.length_map]);intro i hi;have hi':i<L.length:=by omega
 obtain ⟨u,hu,e⟩:=h.seen i hi';obtain ⟨k,k1,k2,k3⟩:=h.mem u hu;obtain ⟨j,j1,j2,j3⟩:=h'.mem u (by omega);have:=ae u hu;have ek:k=i:=by omega
 have ej:j=i:=by omega
 subst ek;subst ej;rw [hf _ _ _ (h.ch _ hi') (h'.ch _ hi) k3 j3,ZaJ (l:=L.map f) (by simpa using hi'),ZaJ hi',List.getElem_map]
end Mu
/- Layer 16: what the chains' code works out. -/
namespace Mu
theorem Zma {l:List Za}(hc:Ck l) (hl:l.length≤1000) {b:Nat}(hb:b<4):∀ (m u j:Nat),j+m=l.length→u<l.length→zp (ZS.s1 l b) (m+1) ((u:Int),(j:Int))=some (match Zbr l b (m+1) u with|some r=>.inl (r:Int)|none=>.inr ()):=by
 intro m
 induction m with
 | zero =>
  intro u j hj hu;have e:(gi l u).Next.get (b:Int)=nx l u b:=rfl;simp only [zp,ZS.s1,Zbr];rw [ZY (by omega),ZY (by omega),itn,e];by_cases c:nx l u b<0
  ·rw [zm (by omega),if_pos c]
  ·rw [zn (by omega),zn (by omega),if_neg c]
 | succ m ih =>
  intro u j hj hu;have e:(gi l u).Next.get (b:Int)=nx l u b:=rfl;have hlt:=hc.lt hu hb;rw [zp,Zbr];simp only [ZS.s1];rw [ZY (by omega),ZY (by omega),itn,e];by_cases c:nx l u b<0
  ·rw [zm (by omega),if_pos c]
  ·rw [zn (by omega),zm (by omega),Zai (by omega),if_neg c];have:=ih (nx l u b).toNat (j+1) (by omega) (by omega);rw [show ((nx l u b).toNat:Int)=nx l u b by omega,show ((j+1:Nat):Int)=(j:Int)+1 by omega] at this;exact this
theorem Zg6 {l:List Za}(hc:Ck l) (hl:l.length≤1000) {b v:Nat}(hb:b<4) (hv:v<l.length):zp (ZS.s1 l b) big ((v:Int),0)=some (match Zbr l b (l.length+1) v with|some r=>.inl (r:Int)|none=>.inr ()):=by
 have:=Zma hc hl hb l.length v 0 (by omega) hv;exact Zcw this (by unfold big;omega)
theorem ZlY {l:List Za}(hc:Ck l) (hl:l.length≤1000) {d:Nat}(hd:d<4):∀ (m u j:Nat),j+m=l.length+1→u<l.length→zp (zw.s0 l d) (m+1) ((u:Int),(j:Int))=some (match Zbr l ((d+2)%4) m u with|some r=>.inr (r:Int)|none=>.inl ()):=by
 have hbk:(((d:Int)+2).tmod 4)=(((d+2)%4:Nat):Int):=by
  match d,hd with
  | 0,_|1,_|2,_|3,_=>rfl
 intro m
 induction m with
 | zero =>
  intro u j hj hu;simp only [zp,zw.s0,Zbr];rw [zm (by omega)]
 | succ m ih =>
  intro u j hj hu;have e:(gi l u).Next.get (((d+2)%4:Nat):Int)=nx l u ((d+2)%4):=rfl;have hlt:=hc.lt (d:=(d+2)%4) hu (by omega);rw [zp,Zbr];simp only [zw.s0];rw [zn (by omega),Zai (by omega),ZY (by omega),hbk,ZY (by omega),itn,e];by_cases c:nx l u ((d+2)%4)<0
  ·rw [zn c,if_pos c]
  ·rw [zm c,Zai (by omega),if_neg c];have:=ih (nx l u ((d+2)%4)).toNat (j+1) (by omega) (by omega);rw [show ((nx l u ((d+2)%4)).toNat:Int)=nx l u ((d+2)%4) by omega,show ((j+1:Nat):Int)=(j:Int)+1 by omega] at this;exact this
theorem ZiG {l:List Za}(hc:Ck l) (hl:l.length≤1000) {d v:Nat}(hd:d<4) (hv:v<l.length):zw l v d=some (match Zbr l ((d+2)%4) (l.length+1) v with|some r=>(r:Int)|none=>-1):=by
 have:=Zcw (ZlY hc hl hd (l.length+1) v 0 (by omega) hv) (m:=big) (by unfold big;omega);unfold zw;rw [show (0:Int)=((0:Nat):Int) from rfl,this,obs];cases Zbr l ((d+2)%4) (l.length+1) v<;>rfl
theorem Zez {C:List Int}{i:Nat}(hi:i<C.length):gi (C++[-1]) i=gi C i:=ZaW hi
theorem ZfE {C:List Int}:gi (C++[-1]) C.length=-1:=by
 have:=ZaQ (l:=C) (m:=[(-1:Int)]) (i:=0);rwa [Nat.add_zero] at this
theorem Zhx {l:List Za}{d:Nat}{C:List Int}(h:IsCh l d C) {i:Nat}(hi:i<C.length):nx l (gi C i).toNat d=gi (C++[-1]) (i+1):=by
 by_cases c:i+1<C.length
 ·rw [Zez c];exact h.nxt i c
 ·have e:i+1=C.length:=by omega
  rw [e,ZfE];have:=h.fin;rwa [show C.length-1=i by omega] at this
theorem ZiS {l:List Za}(hl:l.length≤1000) {d:Nat}(hd:d<4) {C:List Int}(h:IsCh l d C) (hCl:C.length≤l.length) {a:List Int}(ha:a.length=l.length) {L:List (List Int)}:∃ r,zp (ZS.s2 l d L) big (a,([]:List Int),gi C 0)=some r∧(r.2=C∧r.1.length=l.length∧∀ u:Nat,u<l.length→gi r.1 u=if (u:Int)∈C then (L.length:Int) else gi a u):=by
 refine Zce (fun (k:Nat) (s:List Int×List Int×Int)=>s.2.1=C.take k∧s.2.2=gi (C++[-1]) k∧s.1.length=l.length∧∀ u:Nat,u<l.length→gi s.1 u=if (u:Int)∈C.take k then (L.length:Int) else gi a u) (n:=C.length) (Za8 (by omega)) ⟨by simp,(Zez h.ne).symm,ha,fun u hu=>by simp⟩ ?_ ?_
 ·rintro k ⟨a',c,w⟩ hk ⟨h1,h2,h3,h4⟩;dsimp only at h1 h2 h3 h4 ⊢;subst h1;rw [Zez hk] at h2;subst h2;have hlt:=h.lt k hk;have e:(gi l (gi C k).toNat).Next.get (d:Int)=nx l (gi C k).toNat d:=rfl;simp only [ZS.s2];rw [zn (by omega),ZY (by omega),ZY (by rw [List.length_take];simp;omega),ZY (by omega),ZY (by omega),e,Zhx h hk];refine ⟨_,rfl,by dsimp only;rw [ZfX hk],rfl,by rw [List.length_set];exact h3,fun u hu=>?_⟩;dsimp only;have hmem:(u:Int)∈C.take k++[gi C k]↔((u:Int)∈C.take k∨(u:Int)=gi C k):=by rw [List.mem_append,List.mem_singleton]
  rw [Zdh (by omega),h4 u hu,ZfX hk];by_cases q:u=(gi C k).toNat
  ·rw [if_pos q,if_pos (hmem.2 (.inr (by omega)))]
  ·rw [if_neg q];by_cases q2:(u:Int)∈C.take k
   ·rw [if_pos q2,if_pos (hmem.2 (.inl q2))]
   ·rw [if_neg q2,if_neg (fun h=>by rcases hmem.1 h with q3|q3;exact q2 q3;omega)]
 ·rintro ⟨a',c,w⟩ ⟨h1,h2,h3,h4⟩;dsimp only at h1 h2 h3 h4 ⊢;subst h1;rw [ZfE] at h2;subst h2;simp only [ZS.s2];rw [zm (by omega)];rw [List.take_length] at h4 ⊢;exact ⟨_,rfl,rfl,h3,h4⟩
theorem Zlf {l:List Za}(hl:l.length≤1000) {d:Nat}(hd:d<4) {C:List Int}(h:IsCh l d C) (hCl:C.length≤l.length):zp (Zt.s2 l d) big (([]:List Int),gi C 0)=some C:=by
 refine Zbu (fun k:Nat=>(C.take k,gi (C++[-1]) k)) (n:=C.length) (Za8 (by omega)) (by rw [Zez h.ne];rfl) (fun k hk=>?_) ?_
 ·have hlt:=h.lt k hk;have e:(gi l (gi C k).toNat).Next.get (d:Int)=nx l (gi C k).toNat d:=rfl;simp only [Zt.s2];rw [Zez hk,zn (by omega),ZY (by rw [List.length_take];simp;omega),ZY (by omega),ZY (by omega),e,Zhx h hk,ZfX hk]
 ·simp only [Zt.s2];rw [ZfE,zm (by omega),List.take_length]
structure SI (l:List Za) (d:Nat) (a:List Int) (L:List (List Int)) (v:Nat):Prop where
 alen:a.length=l.length
 ch:∀ i,i<L.length→IsCh l d (gi L i)
 mem:∀ u:Nat,u<l.length→(gi a u=-1∧∀ i,i<L.length→(u:Int) ∉ gi L i)∨∃ i:Nat,i<L.length∧gi a u=i∧(u:Int)∈gi L i
 one:∀ i u:Nat,i<L.length→u<l.length→(u:Int)∈gi L i→gi a u=i
 done:∀ u,u<v→0≤gi a u
 seen:∀ i:Nat,i<L.length→∃ u,u<v∧gi a u=i
 ord:∀ u i:Nat,u<l.length→gi a u=i+1→∃ u',u'<u∧gi a u'=i
 Ll:L.length≤v
theorem ZbU {α:Type} [Inhabited α] {L:List α}{C:α}{i:Nat}(hi:i<L.length+1):gi (L++[C]) i=if i<L.length then gi L i else C:=by
 by_cases c:i<L.length
 ·rw [if_pos c,ZaW c]
 ·rw [if_neg c,show i=L.length+0 by omega,ZaQ];rfl
theorem SI.skip {l:List Za}{d v:Nat}{a:List Int}{L:List (List Int)}(h:SI l d a L v) (hv:0≤gi a v):SI l d a L (v+1) :=
 ⟨h.alen,h.ch,h.mem,h.one,fun u hu=>by
  by_cases c:u=v
  ·subst c;exact hv
  ·exact h.done u (by omega),fun i hi=>by obtain ⟨u,a,b⟩:=h.seen i hi;exact ⟨u,by omega,b⟩,h.ord,by have:=h.Ll;omega⟩
theorem SI.add {l:List Za}(hc:Ck l) {d v:Nat}(hd:d<4) {a a':List Int}{L:List (List Int)}(h:SI l d a L v) (hv:v<l.length) (hneg:gi a v<0) {C:List Int}(hC:IsCh l d C) (hm:(v:Int)∈C) (al:a'.length=l.length) (ha:∀ u:Nat,u<l.length→gi a' u=if (u:Int)∈C then (L.length:Int) else gi a u):SI l d a' (L++[C]) (v+1):=by
 have hL:(L++[C]).length=L.length+1:=by simp
 have off:∀ i,i<L.length→∀ u:Nat,u<l.length→(u:Int)∈gi L i→(u:Int) ∉ C:=by
  intro i hi u hu h1 h2;have e:=(h.ch i hi).uniq hc hd hC h1 h2;have:=h.one i v hi hv (by rw [e];exact hm);omega
 have late:∀ u:Nat,u<l.length→(u:Int)∈C→v≤u∧gi a u=-1:=by
  intro u hu h2;have hneg1:gi a u=-1:=by
   rcases h.mem u hu with ⟨q,_⟩|⟨i,i1,_,i3⟩
   ·exact q
   ·exact absurd h2 (off i i1 u hu i3)
  refine ⟨?_,hneg1⟩;by_cases c:u<v
  ·have:=h.done u c;omega
  ·omega
 have av:gi a' v=L.length:=by rw [ha v hv,if_pos hm]
 have old:∀ u:Nat,u<l.length→(u:Int) ∉ C→gi a' u=gi a u:=fun u hu q=>by rw [ha u hu,if_neg q]
 refine ⟨al,fun i hi=>?_,fun u hu=>?_,fun i u hi hu hmem=>?_,fun u hu=>?_,fun i hi=>?_,fun u i hu e=>?_,by rw [hL];have:=h.Ll;omega⟩
 ·rw [ZbU (by omega)];split
  ·exact h.ch i (by assumption)
  ·exact hC
 ·by_cases q:(u:Int)∈C
  ·exact .inr ⟨L.length,by omega,by rw [ha u hu,if_pos q],by rw [ZbU (by omega),if_neg (by omega)];exact q⟩
  ·rw [old u hu q];rcases h.mem u hu with ⟨p,r⟩|⟨i,i1,i2,i3⟩
   ·refine .inl ⟨p,fun i hi=>?_⟩;rw [ZbU (by omega)];split
    ·exact r i (by assumption)
    ·exact q
   ·exact .inr ⟨i,by omega,i2,by rw [ZbU (by omega),if_pos i1];exact i3⟩
 ·rw [ZbU (by omega)] at hmem;by_cases c:i<L.length
  ·rw [if_pos c] at hmem;rw [old u hu (off i c u hu hmem)];exact h.one i u c hu hmem
  ·rw [if_neg c] at hmem;rw [ha u hu,if_pos hmem];omega
 ·by_cases c:u=v
  ·subst c;rw [av];omega
  ·have hul:u<l.length:=by omega
   by_cases q:(u:Int)∈C
   ·rw [ha u hul,if_pos q];omega
   ·rw [old u hul q];exact h.done u (by omega)
 ·by_cases c:i<L.length
  ·obtain ⟨u,u1,u2⟩:=h.seen i c;refine ⟨u,by omega,?_⟩;have hul:u<l.length:=by omega
   rw [old u hul (fun q=>by have:=late u hul q;omega)];exact u2
  ·exact ⟨v,by omega,by rw [av];omega⟩
 ·have push:∀ u',u'<v→gi a u'=i→∃ u',u'<v∧gi a' u'=i:=fun u' h1 h2=>⟨u',h1,by rw [old u' (by omega) (fun q=>by have:=late u' (by omega) q;omega)];exact h2⟩;by_cases q:(u:Int)∈C
  ·rw [ha u hu,if_pos q] at e;obtain ⟨u',u1,u2⟩:=h.seen i (by omega);obtain ⟨u'',w1,w2⟩:=push u' u1 u2;exact ⟨u'',by have:=late u hu q;omega,w2⟩
  ·rw [old u hu q] at e;obtain ⟨u',u1,u2⟩:=h.ord u i hu e;refine ⟨u',u1,?_⟩;rw [old u' (by omega) (fun q=>by have:=late u' (by omega) q;omega)];exact u2
theorem ZhA {l:List Za}(hc:Ck l) (hl:l.length≤64) {d:Nat}(hd:d<4):(AllCh l d→∃ a L,ZS l d=some (a,L,true)∧CH l d a L)∧(¬ AllCh l d→ZS l d=some ([],[],false)):=by
 have rep:=ZjF (n:=l.length) (by omega);have bk:=ZjX hd;have z:∀ u:Nat,u<l.length→gi (List.replicate l.length (-1:Int)) u=-1:=fun u hu=>by rw [ZaJ (by simpa using hu),List.getElem_replicate]
 have st:SI l d (List.replicate l.length (-1:Int)) [] 0:=⟨by simp,fun i hi=>by simp at hi,fun u hu=>.inl ⟨z u hu,fun i hi=>by simp at hi⟩,fun i u hi=>by simp at hi,fun u hu=>by omega,fun i hi=>by simp at hi,fun u i hu e=>by rw [z u hu] at e;omega,by simp⟩;constructor
 ·intro hA;have:∃ r:(List Int×List (List Int))⊕Unit,zp (ZS.s0 l d (((d+2)%4:Nat):Int)) big (List.replicate l.length (-1:Int),([]:List (List Int)),0)=some r∧∃ a L,r=.inl (a,L)∧SI l d a L l.length:=by
   refine Zce (fun (k:Nat) (s:List Int×List (List Int)×Int)=>SI l d s.1 s.2.1 k∧s.2.2=k) (n:=l.length) (Za8 (by omega)) ⟨st,rfl⟩ ?_ ?_
   ·rintro k ⟨a,L,x⟩ hk ⟨h1,h2⟩;dsimp only at h1 h2 ⊢;subst h2;have hal:=h1.alen;have hLl:=h1.Ll;simp only [ZS.s0];rw [zn (by omega),ZY (by omega),itn];by_cases c:0≤gi a k
    ·rw [zn c,Zai (by omega)];exact ⟨_,rfl,h1.skip c,by dsimp only;omega⟩
    ·obtain ⟨r,C,hr,hC,h0,hm⟩:=hA.root hc hd hk;rw [zm c,Zg6 hc (by omega) (by omega) hk,hr,obs];dsimp only;obtain ⟨⟨a',C'⟩,e,e1,e2,e3⟩:=ZiS (by omega) hd hC (hC.len hc hd) hal (L:=L);dsimp only at e1 e2 e3;subst e1;rw [← h0,e,obs];dsimp only;rw [ZY (by omega),Zai (by omega)];exact ⟨_,rfl,h1.add hc hd hk (by omega) hC hm e2 e3,by dsimp only;omega⟩
   ·rintro ⟨a,L,x⟩ ⟨h1,h2⟩;dsimp only at h1 h2 ⊢;subst h2;simp only [ZS.s0];rw [zm (by omega)];exact ⟨_,rfl,a,L,rfl,h1⟩
  obtain ⟨r,e,a,L,rfl,h⟩:=this;refine ⟨a,L,?_,h.alen,h.ch,fun u hu=>?_,h.one,h.seen,h.ord,h.Ll⟩
  ·unfold ZS;rw [rep,obs,bk,obs,e,obs]
  ·rcases h.mem u hu with ⟨q,_⟩|q
   ·have:=h.done u hu;omega
   ·exact q
 ·intro hA;obtain ⟨v0,hv0,hr0⟩:=Zfq hc hd hA;have:∃ r:(List Int×List (List Int))⊕Unit,zp (ZS.s0 l d (((d+2)%4:Nat):Int)) big (List.replicate l.length (-1:Int),([]:List (List Int)),0)=some r∧r=.inr ():=by
   refine Zcx (fun s:List Int×List (List Int)×Int=>l.length-s.2.2.toNat) (fun s=>∃ k:Nat,s.2.2=k∧k≤v0∧SI l d s.1 s.2.1 k) (Za8 (by dsimp only;omega)) ⟨0,rfl,by omega,st⟩ ?_;rintro ⟨a,L,x⟩ ⟨k,h2,hk0,h1⟩;dsimp only at h1 h2 ⊢;subst h2;have hal:=h1.alen;have hLl:=h1.Ll;have hk:k<l.length:=by omega
   simp only [ZS.s0];rw [zn (by omega),ZY (by omega),itn];by_cases c:0≤gi a k
   ·left;have hne:k≠v0:=by
     rintro rfl;rcases h1.mem k hk with ⟨q,_⟩|⟨i,i1,i2,i3⟩
     ·omega
     ·obtain ⟨j,hj,e⟩:=List.mem_iff_getElem.1 i3;have:=(h1.ch i i1).len hc hd;have r:=Zdj hc hd (h1.ch i i1) j (l.length+1) hj (by omega);rw [ZaJ hj,e,itn,hr0] at r;cases r
    rw [zn c,Zai (by omega)];exact ⟨_,rfl,⟨k+1,by dsimp only;omega,by omega,h1.skip c⟩,by dsimp only;omega⟩
   ·rw [zm c,Zg6 hc (by omega) (by omega) hk]
    cases hr:Zbr l ((d+2)%4) (l.length+1) k with
    | none =>
     right;exact ⟨_,rfl,rfl⟩
    | some r =>
     left;have hne:k≠v0:=by rintro rfl;rw [hr] at hr0;cases hr0
     obtain ⟨C,hC,h0,i,hi,ei⟩:=Zc5 hc hd _ k r hk hr;have hm:(k:Int)∈C:=by rw [← ei];exact Ze0 hi
     rw [obs];dsimp only;obtain ⟨⟨a',C'⟩,e,e1,e2,e3⟩:=ZiS (by omega) hd hC (hC.len hc hd) hal (L:=L);dsimp only at e1 e2 e3;subst e1;rw [← h0,e,obs];dsimp only;rw [ZY (by omega),Zai (by omega)];exact ⟨_,rfl,⟨k+1,by dsimp only;omega,by omega,h1.add hc hd hk (by omega) hC hm e2 e3⟩,by dsimp only;omega⟩
  obtain ⟨r,e,rfl⟩:=this;unfold ZS;rw [rep,obs,bk,obs,e,obs]
end Mu
/- Layer 16: what the document's chains are. -/
namespace Mu
structure RI (l:List Za) (d:Nat) (a F:List Int) (L:List (List Int)) (v:Nat):Prop where
 alen:a.length=l.length
 flen:F.length=L.length
 ch:∀ i,i<L.length→IsCh l d (gi L i)∧gi (gi L i) 0=gi F i
 mem:∀ u:Nat,u<v→∃ i:Nat,i<L.length∧gi a u=i∧(u:Int)∈gi L i
 inj:∀ i j,i<L.length→j<L.length→gi F i=gi F j→i=j
 seen:∀ i:Nat,i<L.length→∃ u,u<v∧gi a u=i
 ord:∀ u i:Nat,u<v→gi a u=i+1→∃ u',u'<u∧gi a u'=i
 Ll:L.length≤v
theorem ZlX {F:List Int}{x:Int}(hF:F.length≤1000):∃ k:Nat,zp (Zt.s1 F x) big 0=some (k:Int)∧((k<F.length∧gi F k=x)∨(k=F.length∧∀ j,j<F.length→gi F j≠x)):=by
 have:∃ r:Int,zp (Zt.s1 F x) big 0=some r∧∃ k:Nat,r=k∧((k<F.length∧gi F k=x)∨(k=F.length∧∀ j,j<F.length→gi F j≠x)):=by
  refine Zcx (fun s:Int=>F.length-s.toNat) (fun s=>∃ k:Nat,s=k∧k≤F.length∧∀ j,j<k→gi F j≠x) (Za8 (by omega)) ⟨0,rfl,by omega,fun j hj=>by omega⟩ ?_;rintro s ⟨k,rfl,hk,hn⟩;simp only [Zt.s1];by_cases c:k<F.length
  ·rw [zn (by omega),ZY (by omega),itn,obs];by_cases q:gi F k=x
   ·right;rw [Zbt q];exact ⟨_,rfl,k,rfl,.inl ⟨c,q⟩⟩
   ·left;rw [ZbG q,Zai (by omega)];refine ⟨_,rfl,⟨k+1,by omega,by omega,fun j hj=>?_⟩,by omega⟩;by_cases e:j=k
    ·subst e;exact q
    ·exact hn j (by omega)
  ·right;rw [zm (by omega),obs,if_neg (by decide)];exact ⟨_,rfl,k,rfl,.inr ⟨by omega,fun j hj=>hn j (by omega)⟩⟩
 obtain ⟨r,e,k,rfl,h⟩:=this;exact ⟨k,e,h⟩
theorem RI.old {l:List Za}{d v k:Nat}{a F:List Int}{L:List (List Int)}(h:RI l d a F L v) (hv:v<l.length) (hk:k<L.length) (hm:(v:Int)∈gi L k):RI l d (a.set v k) F L (v+1):=by
 have hal:=h.alen;have g:∀ u,gi (a.set v (k:Int)) u=if u=v then (k:Int) else gi a u:=fun u=>Zdh (by omega);refine ⟨by rw [List.length_set,hal],h.flen,h.ch,fun u hu=>?_,h.inj,fun i hi=>?_,fun u i hu e=>?_,by have:=h.Ll;omega⟩
 ·rw [g];by_cases c:u=v
  ·subst c;exact ⟨k,hk,by rw [if_pos rfl],hm⟩
  ·rw [if_neg c];exact h.mem u (by omega)
 ·obtain ⟨u,u1,u2⟩:=h.seen i hi;exact ⟨u,by omega,by rw [g,if_neg (by omega)];exact u2⟩
 ·rw [g] at e;by_cases c:u=v
  ·rw [if_pos c] at e;obtain ⟨u',u1,u2⟩:=h.seen i (by omega);exact ⟨u',by omega,by rw [g,if_neg (by omega)];exact u2⟩
  ·rw [if_neg c] at e;obtain ⟨u',u1,u2⟩:=h.ord u i (by omega) e;exact ⟨u',u1,by rw [g,if_neg (by omega)];exact u2⟩
theorem RI.new {l:List Za}{d v:Nat}{a F:List Int}{L:List (List Int)}(h:RI l d a F L v) (hv:v<l.length) {C:List Int}(hC:IsCh l d C) (hm:(v:Int)∈C) (hn:∀ j,j<F.length→gi F j≠gi C 0):RI l d (a.set v (L.length:Nat)) (F++[gi C 0]) (L++[C]) (v+1):=by
 have hal:=h.alen;have hfl:=h.flen;have hL:(L++[C]).length=L.length+1:=by simp
 have g:∀ u,gi (a.set v (L.length:Int)) u=if u=v then (L.length:Int) else gi a u:=fun u=>Zdh (by omega);have gF:∀ i,i<L.length+1→gi (F++[gi C 0]) i=if i<L.length then gi F i else gi C 0:=fun i hi=>by rw [ZbU (by omega),hfl]
 refine ⟨by rw [List.length_set,hal],by simp [hfl],fun i hi=>?_,fun u hu=>?_,fun i j hi hj e=>?_,fun i hi=>?_,fun u i hu e=>?_,by rw [hL];have:=h.Ll;omega⟩
 ·rw [ZbU (by omega),gF i (by omega)];by_cases c:i<L.length
  ·rw [if_pos c,if_pos c];exact h.ch i c
  ·rw [if_neg c,if_neg c];exact ⟨hC,rfl⟩
 ·rw [g];by_cases c:u=v
  ·subst c;exact ⟨L.length,by omega,by rw [if_pos rfl],by rw [ZbU (by omega),if_neg (by omega)];exact hm⟩
  ·rw [if_neg c];obtain ⟨i,i1,i2,i3⟩:=h.mem u (by omega);exact ⟨i,by omega,i2,by rw [ZbU (by omega),if_pos i1];exact i3⟩
 ·rw [gF i (by omega),gF j (by omega)] at e;by_cases c:i<L.length
  ·rw [if_pos c] at e;by_cases c2:j<L.length
   ·rw [if_pos c2] at e;exact h.inj i j c c2 e
   ·rw [if_neg c2] at e;exact absurd e (hn i (by omega))
  ·rw [if_neg c] at e;by_cases c2:j<L.length
   ·rw [if_pos c2] at e;exact absurd e.symm (hn j (by omega))
   ·omega
 ·by_cases c:i<L.length
  ·obtain ⟨u,u1,u2⟩:=h.seen i c;exact ⟨u,by omega,by rw [g,if_neg (by omega)];exact u2⟩
  ·exact ⟨v,by omega,by rw [g,if_pos rfl];omega⟩
 ·rw [g] at e;by_cases c:u=v
  ·rw [if_pos c] at e;obtain ⟨u',u1,u2⟩:=h.seen i (by omega);exact ⟨u',by omega,by rw [g,if_neg (by omega)];exact u2⟩
  ·rw [if_neg c] at e;obtain ⟨u',u1,u2⟩:=h.ord u i (by omega) e;exact ⟨u',u1,by rw [g,if_neg (by omega)];exact u2⟩
theorem Zka {l:List Za}(hc:Ck l) (hl:l.length≤1000) {d v:Nat}(hd:d<4) {a F:List Int}{L:List (List Int)}(h:RI l d a F L v) (hv:v<l.length) {r:Nat}{C:List Int}(hr:Zbr l ((d+2)%4) (l.length+1) v=some r) (hC:IsCh l d C) (h0:gi C 0=r) (hm:(v:Int)∈C):∃ a' F' L',Zt.s0 l d (a,F,L,(v:Int))=some (.inl (a',F',L',(v:Int)+1))∧RI l d a' F' L' (v+1):=by
 have hal:=h.alen;have hfl:=h.flen;have hLl:=h.Ll;obtain ⟨k,e,hk⟩:=ZlX (F:=F) (x:=(r:Int)) (by omega);simp only [Zt.s0];rw [zn (by omega),ZiG hc (by omega) hd hv,hr,obs];dsimp only;rw [zm (by omega),e,obs,ZY (by omega),itn];rcases hk with ⟨k1,k2⟩|⟨rfl,k2⟩
 ·rw [zm (by omega),Zai (by omega)];have hq:=h.ch k (by omega);have:C=gi L k:=hC.uniq0 hq.1 (by rw [h0,hq.2,k2]);exact ⟨_,_,_,rfl,h.old hv (by omega) (this ▸ hm)⟩
 ·rw [zn (by omega),ZY (by simp;omega),← h0,Zlf (by omega) hd hC (hC.len hc hd),obs,ZY (by omega),Zai (by omega),hfl];exact ⟨_,_,_,rfl,h.new hv hC hm (fun j hj=>by rw [h0];exact k2 j hj)⟩
theorem RI.stop {l:List Za}(hc:Ck l) {d:Nat}(hd:d<4) {a F:List Int}{L:List (List Int)}(h:RI l d a F L l.length):CH l d a L :=
 ⟨h.alen,fun i hi=>(h.ch i hi).1,h.mem,fun i u hi hu hm=>by
  obtain ⟨j,j1,j2,j3⟩:=h.mem u hu;have e:=(h.ch i hi).1.uniq hc hd (h.ch j j1).1 hm j3;have:=h.inj i j hi j1 (by rw [← (h.ch i hi).2,← (h.ch j j1).2,e]);omega,h.seen,h.ord,h.Ll⟩
theorem Zh7 {l:List Za}(hc:Ck l) (hl:l.length≤1000) {d:Nat}(hd:d<4):(AllCh l d→∃ a L,Zt l d=some (a,L,true)∧CH l d a L)∧(¬ AllCh l d→Zt l d=some ([],[],false)):=by
 have st:RI l d (List.replicate l.length (0:Int)) [] [] 0:=⟨by simp,rfl,fun i hi=>by simp at hi,fun u hu=>by omega,fun i j hi=>by simp at hi,fun i hi=>by simp at hi,fun u i hu=>by omega,by simp⟩;constructor
 ·intro hA;have:∃ r:(List Int×List (List Int))⊕Unit,zp (Zt.s0 l d) big (List.replicate l.length (0:Int),([]:List Int),([]:List (List Int)),0)=some r∧∃ a F L,r=.inl (a,L)∧RI l d a F L l.length:=by
   refine Zce (fun (k:Nat) (s:List Int×List Int×List (List Int)×Int)=>RI l d s.1 s.2.1 s.2.2.1 k∧s.2.2.2=k) (n:=l.length) (Za8 (by omega)) ⟨st,rfl⟩ ?_ ?_
   ·rintro k ⟨a,F,L,x⟩ hk ⟨h1,h2⟩;dsimp only at h1 h2 ⊢;subst h2;obtain ⟨r,C,hr,hC,h0,hm⟩:=hA.root hc hd hk;obtain ⟨a',F',L',e,h'⟩:=Zka hc hl hd h1 hk hr hC h0 hm;exact ⟨_,e,h',by dsimp only;omega⟩
   ·rintro ⟨a,F,L,x⟩ ⟨h1,h2⟩;dsimp only at h1 h2 ⊢;subst h2;simp only [Zt.s0];rw [zm (by omega)];exact ⟨_,rfl,a,F,L,rfl,h1⟩
  obtain ⟨r,e,a,F,L,rfl,h⟩:=this;refine ⟨a,L,?_,h.stop hc hd⟩;unfold Zt;rw [ZY (by omega),itn,e,obs]
 ·intro hA;obtain ⟨v0,hv0,hr0⟩:=Zfq hc hd hA;have:∃ r:(List Int×List (List Int))⊕Unit,zp (Zt.s0 l d) big (List.replicate l.length (0:Int),([]:List Int),([]:List (List Int)),0)=some r∧r=.inr ():=by
   refine Zcx (fun s:List Int×List Int×List (List Int)×Int=>l.length-s.2.2.2.toNat) (fun s=>∃ k:Nat,s.2.2.2=k∧k≤v0∧RI l d s.1 s.2.1 s.2.2.1 k) (Za8 (by dsimp only;omega)) ⟨0,rfl,by omega,st⟩ ?_;rintro ⟨a,F,L,x⟩ ⟨k,h2,hk0,h1⟩;dsimp only at h1 h2 ⊢;subst h2;have hk:k<l.length:=by omega
   cases hr:Zbr l ((d+2)%4) (l.length+1) k with
   | none =>
    right;simp only [Zt.s0];rw [zn (by omega),ZiG hc (by omega) hd hk,hr,obs];dsimp only;rw [zn (by omega)];exact ⟨_,rfl,rfl⟩
   | some r =>
    left;have hne:k≠v0:=by rintro rfl;rw [hr] at hr0;cases hr0
    obtain ⟨C,hC,h0,i,hi,ei⟩:=Zc5 hc hd _ k r hk hr;obtain ⟨a',F',L',e,h'⟩:=Zka hc hl hd h1 hk hr hC h0 (by rw [← ei];exact Ze0 hi);exact ⟨_,e,⟨k+1,by dsimp only;omega,by omega,h'⟩,by dsimp only;omega⟩
  obtain ⟨r,e,rfl⟩:=this;unfold Zt;rw [ZY (by omega),itn,e,obs]
/-! both together -/
theorem CH.same {l:List Za}(hc:Ck l) {d:Nat}(hd:d<4) {a a':List Int}{L L':List (List Int)}(h:CH l d a L) (h':CH l d a' L'):a=a'∧L=L':=by
 have:=h.eq h' rfl id (fun C C' v c1 c2 m1 m2=>(c1.uniq hc hd c2 m1 m2).symm) (fun C v=>Iff.rfl);exact ⟨this.1,by rw [this.2,List.map_id]⟩
theorem ZkV {l:List Za}(hl:l.length≤64):(ZdX l≠0→ZaX l=some (⟨[],[],[],[]⟩,ZdX l))∧(ZdX l=0→(AllCh l 1∧AllCh l 0→∃ X Y V H,ZaX l=some (⟨X,Y,V,H⟩,0)∧zQ l=some (⟨X,Y,V,H⟩,true)∧CH l 1 X V∧CH l 0 Y H)∧(¬ (AllCh l 1∧AllCh l 0)→ZaX l=some (⟨[],[],[],[]⟩,10)∧zQ l=some (⟨[],[],[],[]⟩,false))):=by
 constructor
 ·intro h;unfold ZaX;rw [ZfI (by omega),obs,ZbG h]
 ·intro h;have hc:=(Zkb.1 h).2;have s1:=ZhA hc hl (d:=1) (by omega);have s0:=ZhA hc hl (d:=0) (by omega);have r1:=Zh7 hc (by omega) (d:=1) (by omega);have r0:=Zh7 hc (by omega) (d:=0) (by omega);rw [show ((1:Nat):Int)=1 from rfl] at s1 r1;rw [show ((0:Nat):Int)=0 from rfl] at s0 r0;constructor
  ·rintro ⟨A1,A0⟩;obtain ⟨X,V,e1,c1⟩:=s1.1 A1;obtain ⟨Y,H,e2,c2⟩:=s0.1 A0;obtain ⟨X',V',e3,c3⟩:=r1.1 A1;obtain ⟨Y',H',e4,c4⟩:=r0.1 A0;obtain ⟨rfl,rfl⟩:=c1.same hc (by omega) c3;obtain ⟨rfl,rfl⟩:=c2.same hc (by omega) c4;refine ⟨X,Y,V,H,?_,?_,c1,c2⟩
   ·unfold ZaX;rw [ZfI (by omega),obs,Zbt h,e1,obs];dsimp only;rw [e2,obs];rfl
   ·unfold zQ;rw [e3,obs];dsimp only;rw [e4,obs];rfl
  ·intro hn;have go:∀ (A1:AllCh l 1),¬ AllCh l 0→ZaX l=some (⟨[],[],[],[]⟩,10)∧zQ l=some (⟨[],[],[],[]⟩,false):=by
    intro A1 A0;obtain ⟨X,V,e1,c1⟩:=s1.1 A1;obtain ⟨X',V',e3,c3⟩:=r1.1 A1;constructor
    ·unfold ZaX;rw [ZfI (by omega),obs,Zbt h,e1,obs];dsimp only;rw [s0.2 A0,obs];rfl
    ·unfold zQ;rw [e3,obs];dsimp only;rw [r0.2 A0,obs];rfl
   by_cases A1:AllCh l 1
   ·exact go A1 (fun A0=>hn ⟨A1,A0⟩)
   ·have x0:∃ a b c,ZS l 0=some (a,b,c):=by
     by_cases A0:AllCh l 0
     ·obtain ⟨Y,H,e2,c2⟩:=s0.1 A0;exact ⟨_,_,_,e2⟩
     ·exact ⟨_,_,_,s0.2 A0⟩
    have y0:∃ a b c,Zt l 0=some (a,b,c):=by
     by_cases A0:AllCh l 0
     ·obtain ⟨Y,H,e2,c2⟩:=r0.1 A0;exact ⟨_,_,_,e2⟩
     ·exact ⟨_,_,_,r0.2 A0⟩
    obtain ⟨a,b,c,x0⟩:=x0;obtain ⟨a',b',c',y0⟩:=y0;constructor
    ·unfold ZaX;rw [ZfI (by omega),obs,Zbt h,s1.2 A1,obs];dsimp only;rw [x0,obs];rfl
    ·unfold zQ;rw [r1.2 A1,obs];dsimp only;rw [y0,obs];rfl
end Mu
/- Layer 16: SegTells,SegMeets,SegTurns. -/
namespace Mu
theorem IsCh.move {l m:List Za}{d e:Nat}{C:List Int}(h:IsCh l d C) (hl:m.length=l.length) (h1:∀ v,v<l.length→nx m v e=nx l v d) (h2:∀ v,v<l.length→nx m v ((e+2)%4)=nx l v ((d+2)%4)):IsCh m e C:=by
 have hne:=h.ne;refine ⟨h.ne,fun i hi=>by rw [hl];exact h.lt i hi,fun i hi=>?_,?_,?_⟩
 ·have:=h.lt i (by omega);rw [h1 _ (by omega)];exact h.nxt i hi
 ·have:=h.lt (C.length-1) (by omega);rw [h1 _ (by omega)];exact h.fin
 ·have:=h.lt 0 h.ne;rw [h2 _ (by omega)];exact h.beg
def cl (L:List (List Int)) (i:Int):List Int:=if i<0∨(L.length:Int)≤i then [] else gi L i.toNat
end Mu
/- Layer 16: SegTells,SegTurns. -/
namespace Mu
end Mu
/- The lines of any cells are the document's. -/
namespace Mu
open Go (IntKind)
def lns {α:Type}(f:Int→α) (V:List (List Int)):Nat→List α
 | 0=>[]
 | n+1=>lns f V n++(if 1<(gi V n).length then [f n] else [])
theorem ZbV {α:Type}(f:Int→α) (V:List (List Int)):∀ n,(lns f V n).length≤n
 | 0=>Nat.le_refl _
 | n+1=>by
  have:=ZbV f V n;simp only [lns,List.length_append];split<;>simp<;>omega
theorem ZfH {α β:Type}(f:Int→α) (g:α→β) (V:List (List Int)):∀ n,(lns f V n).map g=lns (fun x=>g (f x)) V n
 | 0=>rfl
 | n+1=>by
  simp only [lns,List.map_append,ZfH f g V n];split<;>rfl

theorem ZkQ {X Y:List Int}{V H:List (List Int)}(hV:V.length≤1000) (hH:H.length≤1000):zO ⟨X,Y,V,H⟩=some (lns (fun x=>(⟨true,x⟩:ZO)) V V.length++lns (fun x=>(⟨false,x⟩:ZO)) H H.length):=by
 unfold zO;have e1:zp (zO.s0 ⟨X,Y,V,H⟩) big (([]:List ZO),0)=some (lns (fun x=>(⟨true,x⟩:ZO)) V V.length):=by
  refine Zbu (fun n:Nat=>(lns (fun x=>(⟨true,x⟩:ZO)) V n,(n:Int))) (n:=V.length) (Za8 (by omega)) rfl (fun n hn=>?_) ?_
  ·have:=ZbV (fun x=>(⟨true,x⟩:ZO)) V n;simp only [zO.s0];rw [zn (by omega),ZY (by omega)];by_cases c:1<(gi V n).length
   ·rw [zn (by simp only [itn];omega),ZY (by simp;omega),Zai (by omega)];simp only [lns,c,if_true,Int.natCast_succ]
   ·rw [zm (by simp only [itn];omega),Zai (by omega)];simp only [lns,c,if_false,List.append_nil,Int.natCast_succ]
  ·simp only [zO.s0];rw [zm (by omega)]
 have e2:zp (zO.s1 ⟨X,Y,V,H⟩) big (lns (fun x=>(⟨true,x⟩:ZO)) V V.length,0)=some (lns (fun x=>(⟨true,x⟩:ZO)) V V.length++lns (fun x=>(⟨false,x⟩:ZO)) H H.length):=by
  refine Zbu (fun n:Nat=>(lns (fun x=>(⟨true,x⟩:ZO)) V V.length++lns (fun x=>(⟨false,x⟩:ZO)) H n,(n:Int))) (n:=H.length) (Za8 (by omega)) (by simp [lns]) (fun n hn=>?_) ?_
  ·have:=ZbV (fun x=>(⟨true,x⟩:ZO)) V V.length;have:=ZbV (fun x=>(⟨false,x⟩:ZO)) H n;simp only [zO.s1];rw [zn (by omega),ZY (by omega)];by_cases c:1<(gi H n).length
   ·rw [zn (by simp only [itn];omega),ZY (by simp;omega),Zai (by omega)];simp only [lns,c,if_true,Int.natCast_succ,List.append_assoc]
   ·rw [zm (by simp only [itn];omega),Zai (by omega)];simp only [lns,c,if_false,List.append_nil,Int.natCast_succ]
  ·simp only [zO.s1];rw [zm (by omega)]
 rw [e1,obs,e2,obs]
theorem Zlg {X Y:List Int}{V H:List (List Int)}(hV:V.length≤1000) (hH:H.length≤1000):ZR ⟨X,Y,V,H⟩=some (lns (fun x=>(⟨true,x⟩:Zl)) V V.length++lns (fun x=>(⟨false,x⟩:Zl)) H H.length):=by
 unfold ZR;have e1:zp (ZR.s0 ⟨X,Y,V,H⟩) big (([]:List Zl),0)=some (lns (fun x=>(⟨true,x⟩:Zl)) V V.length):=by
  refine Zbu (fun n:Nat=>(lns (fun x=>(⟨true,x⟩:Zl)) V n,(n:Int))) (n:=V.length) (Za8 (by omega)) rfl (fun n hn=>?_) ?_
  ·have:=ZbV (fun x=>(⟨true,x⟩:Zl)) V n;simp only [ZR.s0];rw [zn (by omega),ZY (by omega)];by_cases c:1<(gi V n).length
   ·rw [zn (by simp only [itn];omega),ZY (by simp;omega),Zai (by omega)];simp only [lns,c,if_true,Int.natCast_succ]
   ·rw [zm (by simp only [itn];omega),Zai (by omega)];simp only [lns,c,if_false,List.append_nil,Int.natCast_succ]
  ·simp only [ZR.s0];rw [zm (by omega)]
 have e2:zp (ZR.s1 ⟨X,Y,V,H⟩) big (lns (fun x=>(⟨true,x⟩:Zl)) V V.length,0)=some (lns (fun x=>(⟨true,x⟩:Zl)) V V.length++lns (fun x=>(⟨false,x⟩:Zl)) H H.length):=by
  refine Zbu (fun n:Nat=>(lns (fun x=>(⟨true,x⟩:Zl)) V V.length++lns (fun x=>(⟨false,x⟩:Zl)) H n,(n:Int))) (n:=H.length) (Za8 (by omega)) (by simp [lns]) (fun n hn=>?_) ?_
  ·have:=ZbV (fun x=>(⟨true,x⟩:Zl)) V V.length;have:=ZbV (fun x=>(⟨false,x⟩:Zl)) H n;simp only [ZR.s1];rw [zn (by omega),ZY (by omega)];by_cases c:1<(gi H n).length
   ·rw [zn (by simp only [itn];omega),ZY (by simp;omega),Zai (by omega)];simp only [lns,c,if_true,Int.natCast_succ,List.append_assoc]
   ·rw [zm (by simp only [itn];omega),Zai (by omega)];simp only [lns,c,if_false,List.append_nil,Int.natCast_succ]
  ·simp only [ZR.s1];rw [zm (by omega)]
 rw [e1,obs,e2,obs]

def toS (x:Zl):ZO:=⟨x.Vertical,x.Place⟩
theorem ZhN (V H:List (List Int)):lns (fun x=>(⟨true,x⟩:ZO)) V V.length++lns (fun x=>(⟨false,x⟩:ZO)) H H.length=(lns (fun x=>(⟨true,x⟩:Zl)) V V.length++lns (fun x=>(⟨false,x⟩:Zl)) H H.length).map toS:=by
 rw [List.map_append,ZfH,ZfH];rfl
theorem ZkL {L:List Zl}{i:Nat}(h:i<L.length):gi (L.map toS) i=toS (gi L i):=by
 rw [ZaJ (by simpa using h),ZaJ h,List.getElem_map]

theorem ZeU (z:zb) (raw:List Za) (m1:z.At.length≤Go.maxLen) (b1:∀ y∈z.At,Zfg y) (m2:z.Bits.length≤Go.maxLen) (b2:∀ y∈z.Bits,Zfg y) (m3:z.Own.length≤Go.maxLen) (b3:∀ y∈z.Own,Zhn y) (mr:raw.length≤Go.maxLen) (br:∀ y∈raw,Zcn y):ZJ z raw=some true:=by
 obtain ⟨l,pts,e1,hM,hlen⟩:=ZlL (z:=z) (most:=20) (okZ m1 b1 b3) (by omega);unfold ZJ;rw [e1,obs];dsimp only;have hr:(raw.take (min (raw.length:Int) 5).toNat).length≤64:=by rw [List.length_take];omega
 rw [ZY (by omega)];have key:∀ x:List Za,x.length≤64→∀ n:Nat,n<2→gi [l,raw.take (min (raw.length:Int) 5).toNat] n=x→ZJ.s0 raw l n=some (.inl ((n:Int)+1)):=by
  intro x hx n hn hg;simp only [ZJ.s0,itn];rw [zn (by simp;omega),ZY (by simp;omega),hg];have O:=ZkV hx;by_cases c:ZdX x=0
  ·have O2:=O.2 c;by_cases A:AllCh x 1∧AllCh x 0
   ·obtain ⟨X,Y,V,H,t1,t2,cx,cy⟩:=O2.1 A;have:=cx.Ll;have:=cy.Ll;have eL:ZaG x=some (lns (fun x=>(⟨true,x⟩:ZO)) V V.length++lns (fun x=>(⟨false,x⟩:ZO)) H H.length,0):=by
     unfold ZaG;rw [t1,obs];dsimp only;rw [Zbt (by simp),ZkQ (by omega) (by omega),obs]
    rw [eL,obs];dsimp only;rw [Zhd (by omega),obs,Zbt (by simpa using c),t2,obs];dsimp only;rw [if_neg (by simp),Zlg (by omega) (by omega),obs,ZhN];have bl:(lns (fun x=>(⟨true,x⟩:Zl)) V V.length++lns (fun x=>(⟨false,x⟩:Zl)) H H.length).length≤128:=by
     have:=ZbV (fun x=>(⟨true,x⟩:Zl)) V V.length;have:=ZbV (fun x=>(⟨false,x⟩:Zl)) H H.length;rw [List.length_append];omega
    generalize lns (fun x=>(⟨true,x⟩:Zl)) V V.length++lns (fun x=>(⟨false,x⟩:Zl)) H H.length=L at bl;rw [if_neg (by simp)];have e3:zp (ZJ.s1 (L.map toS) L) big 0=some (.inl ()):=by
     refine Zbu (fun n:Nat=>(n:Int)) (n:=L.length) (Za8 (by omega)) rfl (fun n hn=>?_) ?_
     ·simp only [ZJ.s1,List.length_map,itn];rw [zn (by omega),ZY (by omega),ZY (by omega),if_neg (by simp [ZkL hn,toS]),Zai (by omega)];rfl
     ·simp only [ZJ.s1,List.length_map];rw [zm (by omega)]
    rw [e3,obs];dsimp only;rw [Zai (by omega)]
   ·obtain ⟨t1,t2⟩:=O2.2 A;have eL:ZaG x=some ([],10):=by
     unfold ZaG;rw [t1,obs];dsimp only;rw [ZbG (by simp)]
    rw [eL,obs];dsimp only;rw [Zhd (by omega),obs,Zbt (by simpa using c),t2,obs];dsimp only;rw [if_pos (by simp),if_neg (by simp),Zai (by omega)]
  ·have eL:ZaG x=some ([],ZdX x):=by
    unfold ZaG;rw [O.1 c,obs];dsimp only;rw [ZbG c]
   rw [eL,obs];dsimp only;rw [Zhd (by omega),obs,ZbG c,if_neg (by simp),Zai (by omega)]
 have h0:zp (ZJ.s0 raw l) big 0=some (.inl ()):=by
  refine Zbu (fun n:Nat=>(n:Int)) (n:=2) (Za8 (by omega)) rfl (fun n hn=>?_) ?_
  ·rw [key _ ?_ n hn rfl]
   ·rfl
   ·rcases (show n=0∨n=1 by omega) with rfl|rfl
    ·show l.length≤64;omega
    ·exact hr
  ·simp only [ZJ.s0];rw [zm (by simp)]
 rw [h0,obs];rfl
end Mu
