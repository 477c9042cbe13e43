/- The law, plainly: what is worked out. -/
import Derived.Test.YtjhlegefgllihaaMuV
import Derived.Test.YtjhlegefgllihaaMuDf
/- Layer 10: cells,made of places. -/
set_option linter.unusedVariables false
set_option linter.unusedSimpArgs false
set_option maxRecDepth 100000
namespace Mu

def nx (l:List Za) (v d:Nat):Int:=((gi l v).Next).get (d:Int)
def ow (l:List Za) (v d:Nat):Int:=((gi l v).Owner).get (d:Int)
theorem Zf1 {α:Type}{x:A4 α}{i j:Nat}{v:α}(hi:i<4) (hj:j<4):(x.set (i:Int) v).get (j:Int)=if j=i then v else x.get (j:Int):=by
 match i,j,hi,hj with
 | 0,0,_,_|0,1,_,_|0,2,_,_|0,3,_,_|1,0,_,_|1,1,_,_|1,2,_,_|1,3,_,_|2,0,_,_|2,1,_,_|2,2,_,_|2,3,_,_|3,0,_,_|3,1,_,_|3,2,_,_|3,3,_,_=>rfl
def noC:Za:=⟨⟨-1,-1,-1,-1⟩,⟨0,0,0,0⟩⟩
theorem Zcq {α:Type} [Inhabited α] {n i:Nat}{f:Nat→α}(h:i<n):gi ((List.range n).map f) i=f i:=by
 rw [ZaH (by simpa using h)];simp
theorem ZdR {α:Type} [Inhabited α] {l m:List α}(h:l.length=m.length) (hg:∀ i,i<l.length→gi l i=gi m i):l=m:=by
 apply List.ext_getElem h;intro i h1 h2;have:=hg i h1;rw [ZaH h1,ZaH h2] at this;exact this

/-! New -/
theorem ZqG {n:Nat}(hn:n≤1000000000):zE n=some (List.replicate n noC):=by
 unfold zE;rw [Zx (by omega),itn,Zhm (x:=List.replicate n noC)];refine ZbK (fun i:Nat=>(List.replicate i noC++List.replicate (n-i) ⟨⟨0,0,0,0⟩,⟨0,0,0,0⟩⟩,(i:Int))) (n:=n) (ZaJ (by omega)) (by simp) (fun i hi=>?_) ?_
 ·have e1:List.replicate (n-i) (⟨⟨0,0,0,0⟩,⟨0,0,0,0⟩⟩:Za)=⟨⟨0,0,0,0⟩,⟨0,0,0,0⟩⟩::List.replicate (n-(i+1)) ⟨⟨0,0,0,0⟩,⟨0,0,0,0⟩⟩:=by
   rw [show n-i=n-(i+1)+1 by omega,List.replicate_succ]
  have e2:List.replicate (i+1) noC=List.replicate i noC++[noC]:=by rw [List.replicate_succ']
  have inner:ZZ (zE.s1 i) big (List.replicate i noC++List.replicate (n-i) ⟨⟨0,0,0,0⟩,⟨0,0,0,0⟩⟩,0)=some (List.replicate (i+1) noC++List.replicate (n-(i+1)) ⟨⟨0,0,0,0⟩,⟨0,0,0,0⟩⟩):=by
   rw [e1,e2];generalize List.replicate (n-(i+1)) (⟨⟨0,0,0,0⟩,⟨0,0,0,0⟩⟩:Za)=r;refine ZbK (fun k:Nat=>(List.replicate i noC++(⟨⟨if 0<k then -1 else 0,if 1<k then -1 else 0,if 2<k then -1 else 0,if 3<k then -1 else 0⟩,⟨0,0,0,0⟩⟩:Za)::r,(k:Int))) (n:=4) (ZaJ (by omega)) rfl (fun k hk=>?_) ?_
   ·have hlen:(List.replicate i noC).length=i:=by simp
    have g:∀ c:Za,gi (List.replicate i noC++c::r) i=c:=by
     intro c;have:=Zc9 (l:=List.replicate i noC) (m:=c::r) (i:=0);rw [hlen,Nat.add_zero] at this;rw [this];rfl
    have st:∀ c d:Za,(List.replicate i noC++c::r).set i d=List.replicate i noC++d::r:=by
     intro c d;rw [List.set_append_right _ _ (by simp)];simp
    simp only [zE.s1];rw [ZU (by omega),Zx (by simp;omega),Zx (by omega),Zx (by omega),itn,g,st]
    match k,hk with
    | 0,_|1,_|2,_|3,_=>rfl
   ·simp only [zE.s1];rw [ZT (by omega)];simp [noC]
  simp only [zE.s0];rw [ZU (by omega),inner,obs,Zx (by omega)];rfl
 ·simp only [zE.s0];rw [ZT (by omega)];simp

/-! The nearest -/
def Zhy (at_:List Zg) (i d k:Nat):Prop:=k<at_.length∧if d=0 then (gi at_ k).Y=(gi at_ i).Y∧(gi at_ i).X<(gi at_ k).X else (gi at_ k).X=(gi at_ i).X∧(gi at_ i).Y<(gi at_ k).Y
def ZcZ (at_:List Zg) (d j k:Nat):Prop:=if d=0 then (gi at_ j).X≤(gi at_ k).X else (gi at_ j).Y≤(gi at_ k).Y
def ZdH (at_:List Zg) (i d n:Nat) (w:Int):Prop:=(w=-1∧∀ k,k<n→¬ Zhy at_ i d k)∨∃ j:Nat,w=j∧j<n∧Zhy at_ i d j∧∀ k,k<n→Zhy at_ i d k→ZcZ at_ d j k
instance {at_ i d k}:Decidable (Zhy at_ i d k):=by unfold Zhy;infer_instance
instance {at_ d j k}:Decidable (ZcZ at_ d j k):=by unfold ZcZ;infer_instance
theorem Zkn {at_:List Zg}{i d n:Nat}(hl:at_.length≤1000) (hi:i<at_.length) (hd:d<2) (hn:n<at_.length) {w:Int}(hw:ZdH at_ i d n w):∃ w',ZdH at_ i d (n+1) w'∧zc.s0 at_ i d (w,n)=some (.inl (w',(n:Int)+1)):=by
 have hlow:¬ Zhy at_ i d n→ZdH at_ i d (n+1) w:=by
  intro hc;rcases hw with ⟨rfl,h⟩|⟨j,rfl,h1,h2,h3⟩
  ·refine .inl ⟨rfl,fun k hk=>?_⟩;rcases Nat.lt_succ_iff_lt_or_eq.1 hk with h'|rfl
   ·exact h k h'
   ·exact hc
  ·refine .inr ⟨j,rfl,by omega,h2,fun k hk hk2=>?_⟩;rcases Nat.lt_succ_iff_lt_or_eq.1 hk with h'|rfl
   ·exact h3 k h' hk2
   ·exact absurd hk2 hc
 have hnew:w=-1→Zhy at_ i d n→ZdH at_ i d (n+1) n:=by
  intro hw1 hc;rcases hw with ⟨_,h⟩|⟨j,h0,_⟩
  ·refine .inr ⟨n,rfl,by omega,hc,fun k hk hk2=>?_⟩;rcases Nat.lt_succ_iff_lt_or_eq.1 hk with h'|rfl
   ·exact absurd hk2 (h k h')
   ·unfold ZcZ;split<;>omega
  ·omega
 have hkeep:∀ j:Nat,w=j→ZcZ at_ d j n→ZdH at_ i d (n+1) w:=by
  intro j hj hc;rcases hw with ⟨h0,_⟩|⟨j',h0,h1,h2,h3⟩
  ·omega
  ·have:j=j':=by omega
   subst this;refine .inr ⟨j,h0,by omega,h2,fun k hk hk2=>?_⟩;rcases Nat.lt_succ_iff_lt_or_eq.1 hk with h'|rfl
   ·exact h3 k h' hk2
   ·exact hc
 have hturn:∀ j:Nat,w=j→¬ ZcZ at_ d j n→Zhy at_ i d n→ZdH at_ i d (n+1) n:=by
  intro j hj hc hcand;rcases hw with ⟨h0,_⟩|⟨j',h0,h1,h2,h3⟩
  ·omega
  ·have:j=j':=by omega
   subst this;refine .inr ⟨n,rfl,by omega,hcand,fun k hk hk2=>?_⟩;rcases Nat.lt_succ_iff_lt_or_eq.1 hk with h'|rfl
   ·have h4:=h3 k h' hk2;unfold ZcZ at h4 hc ⊢;by_cases z:d=0
    ·rw [if_pos z] at *; omega
    ·rw [if_neg z] at *; omega
   ·unfold ZcZ;split<;>omega
 have hwc:w=-1∨∃ j:Nat,w=j∧j<n:=by
  rcases hw with ⟨h,_⟩|⟨j,h,h2,_⟩
  ·exact .inl h
  ·exact .inr ⟨j,h,h2⟩
 have hd':d=0∨d=1:=by omega
 rcases hd' with rfl|rfl
 ·have z:((0:Nat):Int)=0:=rfl;by_cases hY:(gi at_ n).Y=(gi at_ i).Y
  ·by_cases hX:(gi at_ i).X<(gi at_ n).X
   ·have hc:Zhy at_ i 0 n:=⟨hn,by rw [if_pos rfl];exact ⟨hY,hX⟩⟩;rcases hwc with rfl|⟨j,rfl,hj⟩
    ·refine ⟨n,hnew rfl hc,?_⟩;simp (disch:=omega) only [zc.s0,z,hY,evl,decide_true,decide_false,Bool.not_eq_true,Bool.decide_eq_true,Int.reduceToNat]
     try simp (disch:=omega) only [evl,decide_true,decide_false,Bool.not_eq_true,Bool.decide_eq_true,Int.reduceToNat]
    ·by_cases hcl:ZcZ at_ 0 j n
     ·refine ⟨j,hkeep j rfl hcl,?_⟩;have hcl':(gi at_ j).X≤(gi at_ n).X:=by simpa [ZcZ] using hcl
      simp (disch:=omega) only [zc.s0,z,hY,evl,decide_true,decide_false,Bool.not_eq_true,Bool.decide_eq_true,Int.reduceToNat]
      try simp (disch:=omega) only [evl,decide_true,decide_false,Bool.not_eq_true,Bool.decide_eq_true,Int.reduceToNat]
     ·refine ⟨n,hturn j rfl hcl hc,?_⟩;have hcl':¬ (gi at_ j).X≤(gi at_ n).X:=by simpa [ZcZ] using hcl
      simp (disch:=omega) only [zc.s0,z,hY,evl,decide_true,decide_false,Bool.not_eq_true,Bool.decide_eq_true,Int.reduceToNat]
      try simp (disch:=omega) only [evl,decide_true,decide_false,Bool.not_eq_true,Bool.decide_eq_true,Int.reduceToNat]
   ·refine ⟨w,hlow (fun hc=>hX (by have:=hc.2;rw [if_pos rfl] at this;exact this.2)),?_⟩;simp (disch:=omega) only [zc.s0,z,hY,evl,decide_true,decide_false,Bool.not_eq_true,Bool.decide_eq_true,Int.reduceToNat]
    try simp (disch:=omega) only [evl,decide_true,decide_false,Bool.not_eq_true,Bool.decide_eq_true,Int.reduceToNat]
  ·refine ⟨w,hlow (fun hc=>hY (by have:=hc.2;rw [if_pos rfl] at this;exact this.1)),?_⟩;simp (disch:=omega) only [zc.s0,z,hY,evl,decide_true,decide_false,Bool.not_eq_true,Bool.decide_eq_true,Int.reduceToNat]
   try simp (disch:=omega) only [evl,decide_true,decide_false,Bool.not_eq_true,Bool.decide_eq_true,Int.reduceToNat]
 ·have z:((1:Nat):Int)=1:=rfl;by_cases hY:(gi at_ n).X=(gi at_ i).X
  ·by_cases hX:(gi at_ i).Y<(gi at_ n).Y
   ·have hc:Zhy at_ i 1 n:=⟨hn,by rw [if_neg (by decide)];exact ⟨hY,hX⟩⟩;rcases hwc with rfl|⟨j,rfl,hj⟩
    ·refine ⟨n,hnew rfl hc,?_⟩;simp (disch:=omega) only [zc.s0,z,hY,evl,decide_true,decide_false,Bool.not_eq_true,Bool.decide_eq_true,Int.reduceToNat]
     try simp (disch:=omega) only [evl,decide_true,decide_false,Bool.not_eq_true,Bool.decide_eq_true,Int.reduceToNat]
    ·by_cases hcl:ZcZ at_ 1 j n
     ·refine ⟨j,hkeep j rfl hcl,?_⟩;have hcl':(gi at_ j).Y≤(gi at_ n).Y:=by simpa [ZcZ] using hcl
      simp (disch:=omega) only [zc.s0,z,hY,evl,decide_true,decide_false,Bool.not_eq_true,Bool.decide_eq_true,Int.reduceToNat]
      try simp (disch:=omega) only [evl,decide_true,decide_false,Bool.not_eq_true,Bool.decide_eq_true,Int.reduceToNat]
     ·refine ⟨n,hturn j rfl hcl hc,?_⟩;have hcl':¬ (gi at_ j).Y≤(gi at_ n).Y:=by simpa [ZcZ] using hcl
      simp (disch:=omega) only [zc.s0,z,hY,evl,decide_true,decide_false,Bool.not_eq_true,Bool.decide_eq_true,Int.reduceToNat]
      try simp (disch:=omega) only [evl,decide_true,decide_false,Bool.not_eq_true,Bool.decide_eq_true,Int.reduceToNat]
   ·refine ⟨w,hlow (fun hc=>hX (by have:=hc.2;rw [if_neg (by decide)] at this;exact this.2)),?_⟩;simp (disch:=omega) only [zc.s0,z,hY,evl,decide_true,decide_false,Bool.not_eq_true,Bool.decide_eq_true,Int.reduceToNat]
    try simp (disch:=omega) only [evl,decide_true,decide_false,Bool.not_eq_true,Bool.decide_eq_true,Int.reduceToNat]
  ·refine ⟨w,hlow (fun hc=>hY (by have:=hc.2;rw [if_neg (by decide)] at this;exact this.1)),?_⟩;simp (disch:=omega) only [zc.s0,z,hY,evl,decide_true,decide_false,Bool.not_eq_true,Bool.decide_eq_true,Int.reduceToNat]
   try simp (disch:=omega) only [evl,decide_true,decide_false,Bool.not_eq_true,Bool.decide_eq_true,Int.reduceToNat]
theorem Zc1 {σ ρ:Type}{step:σ→Option (σ⊕ρ)}{n:Nat}(I:Nat→σ→Prop) {s0:σ}{R:ρ→Prop}(hn:n<big) (h0:I 0 s0) (hs:∀ i s,i<n→I i s→∃ s',step s=some (.inl s')∧I (i+1) s') (he:∀ s,I n s→∃ r,step s=some (.inr r)∧R r):∃ r,ZZ step big s0=some r∧R r:=by
 have key:∀ k i s,i+k=n→I i s→∃ r,ZZ step (k+1) s=some r∧R r:=by
  intro k
  induction k with
  | zero =>
   intro i s hi hI;obtain rfl:i=n:=by omega
   obtain ⟨r,hr,hR⟩:=he s hI;exact ⟨r,by simp only [ZZ,hr],hR⟩
  | succ k ih =>
   intro i s hi hI;obtain ⟨s',hs',hI'⟩:=hs i s (by omega) hI;obtain ⟨r,hr,hR⟩:=ih (i+1) s' (by omega) hI';exact ⟨r,by rw [ZZ,hs'];exact hr,hR⟩
 obtain ⟨r,hr,hR⟩:=key n 0 s0 (by omega) h0;exact ⟨r,Zdw hr (by unfold big at *; omega),hR⟩
theorem Zqe {at_:List Zg}{i d:Nat}(hl:at_.length≤1000) (hi:i<at_.length) (hd:d<2):∃ w,zc at_ i d=some w∧ZdH at_ i d at_.length w:=by
 obtain ⟨r,hr,hR⟩:=Zc1 (step:=zc.s0 at_ i d) (n:=at_.length) (I:=fun n (s:Int×Int)=>s.2=n∧ZdH at_ i d n s.1) (s0:=((-1:Int),(0:Int))) (R:=ZdH at_ i d at_.length) (ZaJ (by omega)) ⟨rfl,.inl ⟨rfl,fun k hk=>by omega⟩⟩ (fun n (s:Int×Int) hn hs=>by
  obtain ⟨w,m⟩:=s;obtain ⟨rfl,hw⟩:=hs;obtain ⟨w',h1,h2⟩:=Zkn hl hi hd hn hw;exact ⟨_,h2,rfl,h1⟩) (fun (s:Int×Int) hs=>by
  obtain ⟨w,m⟩:=s;obtain ⟨rfl,hw⟩:=hs;exact ⟨w,by simp only [zc.s0];rw [ZT (by omega)],hw⟩)
 exact ⟨r,by unfold zc;rw [hr];rfl,hR⟩
end Mu
/- Layer 10: crossed,with,make. -/
namespace Mu

theorem zZ {α:Type}{x:Int}{o:Option α}(h:-9223372036854775808≤x∧x≤9223372036854775807):ck (ZaA x) o=o:=Zx h
def Zdn (at_:List Zg) (l:List Za) (i w a d:Nat):Bool :=
 let p:=gi at_ a;let q:=gi at_ (nx l a d).toNat
 let s:=gi at_ i;let t:=gi at_ w;decide (0≤nx l a d)&&((decide (p.Y=q.Y)&&decide (s.X=t.X)&&decide (p.X<s.X)&&decide (s.X<q.X)&&decide (s.Y<p.Y)&&decide (p.Y<t.Y))||(decide (p.X=q.X)&&decide (s.Y=t.Y)&&decide (s.X<p.X)&&decide (p.X<t.X)&&decide (p.Y<s.Y)&&decide (s.Y<q.Y)))
theorem Zoy {a:Bool}{b:Bool}:(if a=true then some b else some false)=some (a&&b):=by cases a<;>rfl
theorem Zn6 {at_:List Zg}{l:List Za}{i w a d:Nat}(hl:at_.length=l.length) (hi:i<l.length) (hw:w<l.length) (ha:a<l.length) (hd:d<2) (hn:nx l a d<l.length):zb.s1 at_ l i w a d=some (if Zdn at_ l i w a d=true then .inr (.inr ()) else .inl ((d:Int)+1)):=by
 unfold zb.s1;rw [ZU (by omega),Zx (by omega),Zx (by omega),itn];have e:((gi l a).Next).get (d:Int)=nx l a d:=rfl;rw [e];unfold Zdn;by_cases h0:nx l a d<0
 ·rw [ZU h0,zZ (by omega),Zez (show ¬ 0≤nx l a d by omega)];simp
 ·rw [ZT h0,Zx (by omega),Zx (by omega),ZcK (show 0≤nx l a d by omega)];have k1:∀ (α:Type) (o:Option α),ck ((0:Int)≤(i:Int)∧(i:Int)<(at_.length:Int)) o=o:=fun _ _=>Zx (by omega);have k2:∀ (α:Type) (o:Option α),ck ((0:Int)≤(w:Int)∧(w:Int)<(at_.length:Int)) o=o:=fun _ _=>Zx (by omega);have k3:∀ (α:Type) (o:Option α),ck (ZaA ((d:Int)+1)) o=o:=fun _ _=>zZ (by omega);simp only [k1,k2,k3,itn,obs,Zoy,Bool.true_and];generalize (decide ((gi at_ a).Y=(gi at_ (nx l a d).toNat).Y)&&decide ((gi at_ i).X=(gi at_ w).X)&&decide ((gi at_ a).X<(gi at_ i).X)&&decide ((gi at_ i).X<(gi at_ (nx l a d).toNat).X)&&decide ((gi at_ i).Y<(gi at_ a).Y)&&decide ((gi at_ a).Y<(gi at_ w).Y))=A;generalize (decide ((gi at_ a).X=(gi at_ (nx l a d).toNat).X)&&decide ((gi at_ i).Y=(gi at_ w).Y)&&decide ((gi at_ i).X<(gi at_ a).X)&&decide ((gi at_ a).X<(gi at_ w).X)&&decide ((gi at_ a).Y<(gi at_ i).Y)&&decide ((gi at_ i).Y<(gi at_ (nx l a d).toNat).Y))=B;cases A<;>cases B<;>rfl
def Zga (at_:List Zg) (l:List Za) (i w a:Nat):Bool:=Zdn at_ l i w a 0||Zdn at_ l i w a 1
def ZhP (at_:List Zg) (l:List Za) (i w:Nat):Bool:=(List.range l.length).any fun a=>Zga at_ l i w a
theorem Zn7 {at_:List Zg}{l:List Za}{i w a:Nat}(hl:at_.length=l.length) (hi:i<l.length) (hw:w<l.length) (hn:∀ a d,a<l.length→d<2→nx l a d<l.length) (ha:a<l.length):ZZ (zb.s1 at_ l i w a) big 0=some (if Zga at_ l i w a=true then .inr () else .inl ()):=by
 have h:ZZ (zb.s1 at_ l i w a) big 0=some (match (List.range 2).find? (fun d=>Zdn at_ l i w a d) with|some i=>.inr ((fun _=>()) i)|none=>.inl ()):=by
  refine ZdD (ZaJ (by omega)) (fun d hd=>?_) ?_
  ·exact Zn6 hl hi hw ha hd (hn a d ha hd)
  ·simp only [zb.s1];rw [ZT (by omega)]
 rw [h];have e:(List.range 2).find? (fun d=>Zdn at_ l i w a d)=if Zdn at_ l i w a 0=true then some 0 else if Zdn at_ l i w a 1=true then some 1 else none:=by
  have:List.range 2=[0,1]:=by decide
  rw [this];cases c0:Zdn at_ l i w a 0<;>cases c1:Zdn at_ l i w a 1<;>simp [c0,c1]
 rw [e];unfold Zga;cases c0:Zdn at_ l i w a 0<;>cases c1:Zdn at_ l i w a 1<;>simp
theorem Zn5 {at_:List Zg}{l:List Za}{i w a:Nat}(hl:at_.length=l.length) (h1000:l.length≤1000) (hi:i<l.length) (hw:w<l.length) (hn:∀ a d,a<l.length→d<2→nx l a d<l.length) (ha:a<l.length):zb.s0 at_ l i w a=some (if Zga at_ l i w a=true then .inr (.inr ()) else .inl ((a:Int)+1)):=by
 simp only [zb.s0];rw [ZU (by omega),Zn7 hl hi hw hn ha,obs];by_cases c:Zga at_ l i w a=true
 ·rw [if_pos c,if_pos c]
 ·rw [if_neg c,if_neg c];dsimp only;rw [zZ (by omega)]
theorem Zn9 {at_:List Zg}{l:List Za}{i w:Nat}:zb.s0 at_ l i w l.length=some (.inr (.inl ())):=by
 simp only [zb.s0];rw [ZT (by omega)]
theorem ZlY {n:Nat}{P:Nat→Bool}:((List.range n).any P)=((List.range n).find? P).isSome:=by
 rw [Bool.eq_iff_iff,List.find?_isSome,List.any_eq_true]
theorem Zn8 {at_:List Zg}{l:List Za}{i w:Nat}(hl:at_.length=l.length) (h1000:l.length≤1000) (hi:i<l.length) (hw:w<l.length) (hn:∀ a d,a<l.length→d<2→nx l a d<l.length):ZZ (zb.s0 at_ l i w) big 0=some (match (List.range l.length).find? (fun a=>Zga at_ l i w a) with|some i=>.inr ((fun _=>()) i)|none=>.inl ()) :=
 ZdD (ZaJ (by omega)) (fun a ha=>Zn5 hl h1000 hi hw hn ha) Zn9
theorem Zmy {at_:List Zg}{l:List Za}{i w:Nat}(hl:at_.length=l.length) (h1000:l.length≤1000) (hi:i<l.length) (hw:w<l.length) (hn:∀ a d,a<l.length→d<2→nx l a d<l.length):zb at_ l i w=some (ZhP at_ l i w):=by
 have h0:=Zn8 hl h1000 hi hw hn;unfold zb;rw [h0];unfold ZhP;rw [ZlY]
 cases h:(List.range l.length).find? fun a=>Zga at_ l i w a with
 | none=>simp
 | some j=>simp

/-! with -/
def wC1 (c:Za) (d w o:Int):Za:=⟨c.Next.set d w,c.Owner.set d o⟩
def wC (l:List Za) (v d w o:Int) (i:Nat):Za :=
 let c:=if (i:Int)=v then wC1 (gi l i) d w o else gi l i
 if (i:Int)=w then wC1 c ((d+2).tmod 4) v o else c
def wth (l:List Za) (v d w o:Int):List Za:=(List.range l.length).map (wC l v d w o)
theorem Zdh {l:List Za}{v d w o:Int}:(wth l v d w o).length=l.length:=by simp [wth]
theorem Zqh {l:List Za}{v d w o:Int}(hl:l.length≤100000) (hd:0≤d∧d<4):Za4 l v d w o=some (wth l v d w o):=by
 unfold Za4;rw [Zhm (x:=wth l v d w o)];refine ZbK (fun n:Nat=>((List.range n).map (wC l v d w o),(n:Int))) (n:=l.length) (ZaJ (by omega)) rfl (fun n hn=>?_) ?_
 ·have hm:((List.range n).map (wC l v d w o)).length=n:=by simp
  have t:=Int.tmod_nonneg 4 (show (0:Int)≤d+2 by omega);have t2:=Int.tmod_lt_of_pos (d+2) (show (0:Int)<4 by omega);rw [List.range_succ,List.map_append,List.map_cons,List.map_nil];simp only [Za4.s0];rw [ZU (by omega),Zx (by omega),itn];unfold wC;by_cases c1:(n:Int)=v
  ·rw [ZU c1,Zx hd,obs];by_cases c2:(n:Int)=w
   ·rw [ZU c2,zZ (by omega),Zx (by omega),Zx (by simp;omega),zZ (by omega),if_pos c1,if_pos c2];rfl
   ·rw [ZT c2,Zx (by simp;omega),zZ (by omega),if_pos c1,if_neg c2];rfl
  ·rw [ZT c1,obs];by_cases c2:(n:Int)=w
   ·rw [ZU c2,zZ (by omega),Zx (by omega),Zx (by simp;omega),zZ (by omega),if_neg c1,if_pos c2];rfl
   ·rw [ZT c2,Zx (by simp;omega),zZ (by omega),if_neg c1,if_neg c2];rfl
 ·simp only [Za4.s0];rw [ZT (by omega)];rfl
theorem Zha {l:List Za}{v w d i e:Nat}{o:Int}(hv:v<l.length) (hw:w<l.length) (hvw:v≠w) (hd:d<4) (hi:i<l.length) (he:e<4):nx (wth l v d w o) i e=(if i=v∧e=d then (w:Int) else if i=w∧e=(d+2)%4 then (v:Int) else nx l i e)∧ow (wth l v d w o) i e=(if i=v∧e=d then o else if i=w∧e=(d+2)%4 then o else ow l i e):=by
 have hb:(((d:Int)+2).tmod 4)=(((d+2)%4:Nat):Int):=by
  match d,hd with
  | 0,_|1,_|2,_|3,_=>rfl
 have g:gi (wth l v d w o) i=wC l v d w o i:=Zcq hi;unfold nx ow;rw [g];unfold wC;rw [hb];by_cases c1:i=v
 ·subst c1;rw [if_pos rfl,if_neg (show ¬ ((i:Nat):Int)=(w:Int) by omega)];simp only [wC1];rw [Zf1 hd he,Zf1 hd he];have:¬ (i=w):=hvw;simp [this]
 ·rw [if_neg (show ¬ ((i:Nat):Int)=(v:Int) by omega)];by_cases c2:i=w
  ·subst c2;rw [if_pos rfl];simp only [wC1];rw [Zf1 (by omega) he,Zf1 (by omega) he];simp [c1]
  ·rw [if_neg (show ¬ ((i:Nat):Int)=(w:Int) by omega)];simp [c1,c2]

/-! What may be. -/
structure Ck (l:List Za):Prop where
 s:∀ v d,v<l.length→d<4→(nx l v d=-1∧ow l v d=0)∨∃ w:Nat,nx l v d=w∧w<l.length∧w≠v∧nx l w ((d+2)%4)=v∧ow l w ((d+2)%4)=ow l v d∧-2≤ow l v d
theorem Ck.new (n:Nat):Ck (List.replicate n noC):=⟨fun v d hv hd=>.inl (by
 have:gi (List.replicate n noC) v=noC:=by rw [ZaH hv];simp
 unfold nx ow;rw [this]
 match d,hd with
 | 0,_|1,_|2,_|3,_=>exact ⟨rfl,rfl⟩)⟩
theorem Ck.wth {l:List Za}(h:Ck l) {v w d:Nat}{o:Int}(hv:v<l.length) (hw:w<l.length) (hvw:v≠w) (hd:d<4) (h1:nx l v d=-1) (h2:nx l w ((d+2)%4)=-1) (ho:-2≤o):Ck (wth l v d w o):=by
 refine ⟨fun i e hi he=>?_⟩;rw [Zdh] at hi ⊢;have n1:=fun i e hi he=>(Zha (o:=o) hv hw hvw hd (i:=i) (e:=e) hi he).1;have n2:=fun i e hi he=>(Zha (o:=o) hv hw hvw hd (i:=i) (e:=e) hi he).2;rw [n1 i e hi he,n2 i e hi he];by_cases c1:i=v∧e=d
 ·rw [if_pos c1,if_pos c1];refine .inr ⟨w,rfl,hw,by omega,?_,?_,ho⟩
  ·rw [n1 w _ hw (by omega),if_neg (by omega),if_pos ⟨rfl,by rw [c1.2]⟩,c1.1]
  ·rw [n2 w _ hw (by omega),if_neg (by omega),if_pos ⟨rfl,by rw [c1.2]⟩]
 ·rw [if_neg c1,if_neg c1];by_cases c2:i=w∧e=(d+2)%4
  ·rw [if_pos c2,if_pos c2];refine .inr ⟨v,rfl,hv,by omega,?_,?_,ho⟩
   ·rw [n1 v _ hv (by omega),if_pos ⟨rfl,by omega⟩,c2.1]
   ·rw [n2 v _ hv (by omega),if_pos ⟨rfl,by omega⟩]
  ·rw [if_neg c2,if_neg c2];rcases h.s i e hi he with hh|⟨x,x1,x2,x3,x4,x5,x6⟩
   ·exact .inl hh
   ·refine .inr ⟨x,x1,x2,x3,?_,?_,x6⟩
    ·rw [n1 x _ x2 (by omega)];rw [if_neg (fun c=>by
      have:nx l x ((e+2)%4)=-1:=by rw [c.1,c.2];exact h1
      omega)]
     rw [if_neg (fun c=>by
      have:nx l x ((e+2)%4)=-1:=by rw [c.1,c.2];exact h2
      omega)]
     exact x4
    ·rw [n2 x _ x2 (by omega)];rw [if_neg (fun c=>by
      have:nx l x ((e+2)%4)=-1:=by rw [c.1,c.2];exact h1
      omega)]
     rw [if_neg (fun c=>by
      have:nx l x ((e+2)%4)=-1:=by rw [c.1,c.2];exact h2
      omega)]
     exact x5
end Mu
/- Layer 10: make. -/
namespace Mu

theorem Zeh {σ ρ:Type}{step:σ→Option (σ⊕ρ)}(μ:σ→Nat) (I:σ→Prop) {s0:σ}{R:ρ→Prop}(hn:μ s0<big) (h0:I s0) (hs:∀ s,I s→(∃ s',step s=some (.inl s')∧I s'∧μ s'<μ s)∨∃ r,step s=some (.inr r)∧R r):∃ r,ZZ step big s0=some r∧R r:=by
 have key:∀ k s,μ s≤k→I s→∃ r,ZZ step (k+1) s=some r∧R r:=by
  intro k
  induction k with
  | zero =>
   intro s hk hI;rcases hs s hI with ⟨s',h1,h2,h3⟩|⟨r,h1,h2⟩
   ·omega
   ·exact ⟨r,by simp only [ZZ,h1],h2⟩
  | succ k ih =>
   intro s hk hI;rcases hs s hI with ⟨s',h1,h2,h3⟩|⟨r,h1,h2⟩
   ·obtain ⟨r,hr,hR⟩:=ih s' (by omega) h2;exact ⟨r,by rw [ZZ,h1];exact hr,hR⟩
   ·exact ⟨r,by rw [ZZ,h1],h2⟩
 obtain ⟨r,hr,hR⟩:=key (μ s0) s0 (Nat.le_refl _) h0;exact ⟨r,Zdw hr (by omega),hR⟩

structure Pts (at_:List Zg):Prop where
 b:∀ i,i<at_.length→0≤(gi at_ i).X∧(gi at_ i).X<8∧0≤(gi at_ i).Y∧(gi at_ i).Y<8
 d:∀ i j,i<at_.length→j<at_.length→gi at_ i=gi at_ j→i=j
theorem Pts.nil:Pts []:=⟨fun i h=>by simp at h,fun i j h=>by simp at h⟩
theorem Pts.app {at_:List Zg}(h:Pts at_) {p:Zg}(hp:0≤p.X∧p.X<8∧0≤p.Y∧p.Y<8) (hn:∀ k,k<at_.length→gi at_ k≠p):Pts (at_++[p]):=by
 have g1:∀ i,i<at_.length→gi (at_++[p]) i=gi at_ i:=fun i hi=>Zdc hi;have g2:gi (at_++[p]) at_.length=p:=by
  have:=Zc9 (l:=at_) (m:=[p]) (i:=0);rw [Nat.add_zero] at this;rw [this];rfl
 refine ⟨fun i hi=>?_,fun i j hi hj hij=>?_⟩
 ·simp only [List.length_append,List.length_cons,List.length_nil] at hi;by_cases c:i<at_.length
  ·rw [g1 i c];exact h.b i c
  ·rw [show i=at_.length by omega,g2];exact hp
 ·simp only [List.length_append,List.length_cons,List.length_nil] at hi hj;by_cases c:i<at_.length<;>by_cases c2:j<at_.length
  ·rw [g1 i c,g1 j c2] at hij;exact h.d i j c c2 hij
  ·rw [g1 i c,show j=at_.length by omega,g2] at hij;exact absurd hij (hn i c)
  ·rw [g1 j c2,show i=at_.length by omega,g2] at hij;exact absurd hij.symm (hn j c2)
  ·omega
theorem Zm5 {at_:List Zg}(hp:Pts at_) {i j d:Nat}{w:Nat}(hi:i<at_.length) (hj:j<at_.length) (hd:d<2) (h1:ZdH at_ i d at_.length w) (h2:ZdH at_ j d at_.length w):i=j:=by
 rcases h1 with ⟨h,_⟩|⟨w1,e1,l1,c1,m1⟩
 ·omega
 rcases h2 with ⟨h,_⟩|⟨w2,e2,l2,c2,m2⟩
 ·omega
 obtain rfl:w=w1:=by omega
 obtain rfl:w=w2:=by omega
 apply hp.d i j hi hj;have x1:=m1 j hj;have x2:=m2 i hi;have c1:=c1.2;have c2:=c2.2;unfold Zhy ZcZ at x1 x2;by_cases z:d=0
 ·simp only [if_pos z] at *;have hX:(gi at_ i).X=(gi at_ j).X:=by
   by_cases q1:(gi at_ i).X<(gi at_ j).X
   ·have:=x1 ⟨hj,by omega,q1⟩;omega
   ·by_cases q2:(gi at_ j).X<(gi at_ i).X
    ·have:=x2 ⟨hi,by omega,q2⟩;omega
    ·omega
  have hY:(gi at_ i).Y=(gi at_ j).Y:=by omega
  generalize gi at_ i=p at *;generalize gi at_ j=q at *;obtain ⟨a,b⟩:=p;obtain ⟨a',b'⟩:=q;simp only at hX hY;rw [hX,hY]
 ·simp only [if_neg z] at *;have hX:(gi at_ i).Y=(gi at_ j).Y:=by
   by_cases q1:(gi at_ i).Y<(gi at_ j).Y
   ·have:=x1 ⟨hj,by omega,q1⟩;omega
   ·by_cases q2:(gi at_ j).Y<(gi at_ i).Y
    ·have:=x2 ⟨hi,by omega,q2⟩;omega
    ·omega
  have hY:(gi at_ i).X=(gi at_ j).X:=by omega
  generalize gi at_ i=p at *;generalize gi at_ j=q at *;obtain ⟨a,b⟩:=p;obtain ⟨a',b'⟩:=q;simp only at hX hY;rw [hX,hY]
def NX (at_:List Zg) (l:List Za):Prop:=∀ a b:Nat,a<l.length→b<l.length→0≤nx l a 0→0≤nx l b 1→¬ ((gi at_ a).X<(gi at_ b).X∧(gi at_ b).X<(gi at_ (nx l a 0).toNat).X∧(gi at_ b).Y<(gi at_ a).Y∧(gi at_ a).Y<(gi at_ (nx l b 1).toNat).Y)
structure Mk (at_:List Zg) (l:List Za) (i d:Nat):Prop where
 len:l.length=at_.length
 ck:Ck l
 near:∀ v e,v<l.length→e<2→nx l v e=-1∨((v<i∨v=i∧e<d)∧ZdH at_ v e at_.length (nx l v e))
 own:∀ v e,v<l.length→e<4→-2≤ow l v e∧ow l v e≤1000
 nc:NX at_ l
theorem Mk.step {at_:List Zg}{l:List Za}{i d:Nat}(h:Mk at_ l i d):Mk at_ l i (d+1) :=
 ⟨h.len,h.ck,fun v e hv he=>(h.near v e hv he).imp id (fun ⟨a,b⟩=>⟨by omega,b⟩),h.own,h.nc⟩
theorem Mk.next {at_:List Zg}{l:List Za}{i:Nat}(h:Mk at_ l i 2):Mk at_ l (i+1) 0 :=
 ⟨h.len,h.ck,fun v e hv he=>(h.near v e hv he).imp id (fun ⟨a,b⟩=>⟨by omega,b⟩),h.own,h.nc⟩
theorem Ck.lt {l:List Za}(h:Ck l) {v d:Nat}(hv:v<l.length) (hd:d<4):-1≤nx l v d∧nx l v d<l.length:=by
 rcases h.s v d hv hd with ⟨a,_⟩|⟨w,a,b,_⟩<;>omega
theorem Mk.lay {at_:List Zg}(hp:Pts at_) {l:List Za}{i d w:Nat}{o:Int}(h:Mk at_ l i d) (hi:i<l.length) (hd:d<2) (hw:ZdH at_ i d at_.length w) (hx:ZhP at_ l i w=false) (ho:-2≤o∧o≤1000):Mk at_ (wth l i d w o) i (d+1):=by
 have hl:=h.len;have hwl:w<l.length∧Zhy at_ i d w:=by
  rcases hw with ⟨e,_⟩|⟨j,e,h1,h2,_⟩
  ·omega
  ·have:w=j:=by omega
   subst this;exact ⟨by omega,h2⟩
 have hne:i≠w:=by
  rintro rfl;have:=hwl.2.2;split at this<;>omega
 have n1:nx l i d=-1:=by
  rcases h.near i d hi (by omega) with e|⟨e,_⟩
  ·exact e
  ·omega
 have n2:nx l w ((d+2)%4)=-1:=by
  rcases h.ck.s w ((d+2)%4) hwl.1 (by omega) with ⟨e,_⟩|⟨x,e1,e2,e3,e4,e5,e6⟩
  ·exact e
  ·rw [show ((d+2)%4+2)%4=d by omega] at e4;rcases h.near x d e2 hd with e|⟨e,e7⟩
   ·omega
   ·rw [e4] at e7;have:=Zm5 hp (by omega) (by omega) hd e7 hw;subst this;omega
 have m1:=fun v e hv he=>(Zha (o:=o) hi hwl.1 hne (show d<4 by omega) (i:=v) (e:=e) hv he).1;have m2:=fun v e hv he=>(Zha (o:=o) hi hwl.1 hne (show d<4 by omega) (i:=v) (e:=e) hv he).2;have hcr:∀ a,a<l.length→Zdn at_ l i w a 0=false∧Zdn at_ l i w a 1=false:=by
  intro a ha;unfold ZhP at hx;rw [List.any_eq_false] at hx;have:=hx a (List.mem_range.2 ha);unfold Zga at this;simpa using this
 refine ⟨by rw [Zdh];exact hl,h.ck.wth hi hwl.1 hne (by omega) n1 n2 ho.1,fun v e hv he=>?_,fun v e hv he=>?_,fun a b ha hb=>?_⟩
 ·rw [Zdh] at hv;rw [m1 v e hv (by omega)];by_cases c:v=i∧e=d
  ·rw [if_pos c];right;refine ⟨by omega,?_⟩;rw [c.1,c.2];exact hw
  ·rw [if_neg c];rw [if_neg (fun c2=>by omega)];exact (h.near v e hv he).imp id (fun ⟨a,b⟩=>⟨by omega,b⟩)
 ·rw [Zdh] at hv;rw [m2 v e hv he];by_cases c:v=i∧e=d
  ·rw [if_pos c];exact ho
  ·rw [if_neg c];by_cases c2:v=w∧e=(d+2)%4
   ·rw [if_pos c2];exact ho
   ·rw [if_neg c2];exact h.own v e hv he
 ·rw [Zdh] at ha hb;rw [m1 a 0 ha (by omega),m1 b 1 hb (by omega)];have cd:=hwl.2.2;by_cases c0:d=0
  ·subst c0;rw [if_pos rfl] at cd;rw [if_neg (show ¬ (b=i∧1=0) by omega),if_neg (show ¬ (b=w∧1=(0+2)%4) by omega),if_neg (show ¬ (a=w∧0=(0+2)%4) by omega)];by_cases c:a=i
   ·subst c;rw [if_pos ⟨rfl,rfl⟩];intro _ h1 ⟨k1,k2,k3,k4⟩;rw [itn] at k2;have q:=(hcr b hb).2;have nb:=h.near b 1 hb (by omega);have ex:(gi at_ b).X=(gi at_ (nx l b 1).toNat).X:=by
     rcases nb with e|⟨_,e⟩
     ·omega
     ·rcases e with ⟨e,_⟩|⟨j,e,_,e2,_⟩
      ·omega
      ·rw [e,itn];exact e2.2.1.symm
    unfold Zdn at q;simp [h1,ex,cd.1] at q;omega
   ·rw [if_neg (show ¬ (a=i∧0=0) by omega)];exact h.nc a b ha hb
  ·have c1:d=1:=by omega
   subst c1;rw [if_neg (by omega)] at cd;rw [if_neg (show ¬ (a=i∧0=1) by omega),if_neg (show ¬ (a=w∧0=(1+2)%4) by omega),if_neg (show ¬ (b=w∧1=(1+2)%4) by omega)];by_cases c:b=i
   ·subst c;rw [if_pos ⟨rfl,rfl⟩];intro h1 _ ⟨k1,k2,k3,k4⟩;rw [itn] at k4;have q:=(hcr a ha).1;have na:=h.near a 0 ha (by omega);have ey:(gi at_ a).Y=(gi at_ (nx l a 0).toNat).Y:=by
     rcases na with e|⟨_,e⟩
     ·omega
     ·rcases e with ⟨e,_⟩|⟨j,e,_,e2,_⟩
      ·omega
      ·rw [e,itn];exact e2.2.1.symm
    unfold Zdn at q;simp [h1,ey,cd.1] at q;omega
   ·rw [if_neg (show ¬ (b=i∧1=1) by omega)];exact h.nc a b ha hb
theorem ZoV {at_:List Zg}(hp:Pts at_) (h1000:at_.length≤1000) {l:List Za}{i:Nat}{b o:Int}(h:Mk at_ l i 0) (hi:i<l.length) (ho:-2≤o∧o≤1000):∃ l',ZZ (ZR.s3 i b at_ o) big (l,0)=some l'∧Mk at_ l' i 2∧i<l'.length:=by
 refine Zc1 (n:=2) (I:=fun n (s:List Za×Int)=>s.2=n∧Mk at_ s.1 i n∧i<s.1.length) (R:=fun l'=>Mk at_ l' i 2∧i<l'.length) (ZaJ (by omega)) ⟨rfl,h,hi⟩ ?_ ?_
 ·rintro d ⟨l,x⟩ hd ⟨hx,hM,hi⟩;dsimp only at hx hM hi;subst hx;have hl:=hM.len;obtain ⟨w,hw,hN⟩:=Zqe (at_:=at_) (i:=i) (d:=d) h1000 (by omega) hd;simp only [ZR.s3];rw [ZU (by omega),hw,obs,Zx (by omega),zZ (by omega)];by_cases c:((decide (ZI .u8 (zt .u8 b d) 1=0))||(decide (w<0)))=true
  ·rw [if_pos c];exact ⟨_,rfl,rfl,hM.step,hi⟩
  ·rw [if_neg c];have hw0:¬ w<0:=by
    intro hh;apply c;simp [hh]
   obtain ⟨wn,rfl⟩:∃ wn:Nat,w=wn:=⟨w.toNat,by omega⟩;have hwl:wn<l.length:=by
    rcases hN with ⟨e,_⟩|⟨j,e,h1,h2,_⟩
    ·omega
    ·omega
   rw [Zmy hl.symm (by omega) hi hwl (fun a e ha he=>(hM.ck.lt ha (by omega)).2),obs,Zqh (by omega) (by omega)];by_cases c2:(!ZhP at_ l i wn)=true
   ·rw [if_pos c2,obs,zZ (by omega)];exact ⟨_,rfl,rfl,hM.lay hp hi hd hN (by simpa using c2) ho,by rw [Zdh];exact hi⟩
   ·rw [if_neg c2];exact ⟨_,rfl,rfl,hM.step,hi⟩
 ·rintro ⟨l,x⟩ ⟨hx,hM,hi⟩;dsimp only at hx hM hi;subst hx;simp only [ZR.s3];rw [ZT (by omega)];exact ⟨_,rfl,hM,hi⟩

theorem ZoU {z:zT}{at_:List Zg}(hp:Pts at_) (h1000:at_.length≤1000) (hown:∀ y∈z.Own,Wf .i8 y) {l:List Za}(h:Mk at_ l 0 0):∃ r:List Zg×List Za,ZZ (ZR.s2 z) big (at_,l,0)=some r∧r.1=at_∧Mk at_ r.2 at_.length 0:=by
 refine Zc1 (n:=at_.length) (I:=fun n (s:List Zg×List Za×Int)=>s.1=at_∧s.2.2=n∧Mk at_ s.2.1 n 0) (s0:=(at_,l,(0:Int))) (R:=fun r:List Zg×List Za=>r.1=at_∧Mk at_ r.2 at_.length 0) (ZaJ (by omega)) ⟨rfl,rfl,h⟩ ?_ ?_
 ·rintro i ⟨a,l,x⟩ hi ⟨ha,hx,hM⟩;dsimp only at ha hx hM;subst ha hx;have hb:∃ b,(if decide ((i:Int)<(z.Bits.length:Int))=true then ck ((0:Int)≤(i:Int)∧(i:Int)<(z.Bits.length:Int)) (some (a,l,gi z.Bits (i:Int).toNat)) else some (a,l,3))=some (a,l,b):=by
   by_cases c:(i:Int)<(z.Bits.length:Int)
   ·exact ⟨gi z.Bits i,by rw [ZU c,Zx (by omega)];rfl⟩
   ·exact ⟨3,by rw [ZT c]⟩
  have ho:∃ o:Int,(-2≤o∧o≤1000)∧(if decide ((i:Int)<(z.Own.length:Int))=true then ck ((0:Int)≤(i:Int)∧(i:Int)<(z.Own.length:Int)) (ck (inK .i64 (gi z.Own (i:Int).toNat)) (if decide ((gi z.Own (i:Int).toNat)<(-2))=true then ck (ZaA (-(gi z.Own (i:Int).toNat))) (some (a,l,-(gi z.Own (i:Int).toNat))) else some (a,l,gi z.Own (i:Int).toNat))) else some (a,l,(i:Int)))=some (a,l,o):=by
   by_cases c:(i:Int)<(z.Own.length:Int)
   ·have hw:=(hown _ (ZaG (show i<z.Own.length by omega))).i8;rw [ZU c,Zx (by omega),itn,Zi0 (by omega)];by_cases c2:gi z.Own i < -2
    ·exact ⟨-(gi z.Own i),by omega,by rw [ZU c2,zZ (by omega)]⟩
    ·exact ⟨gi z.Own i,by omega,by rw [ZT c2]⟩
   ·exact ⟨i,by omega,by rw [ZT c]⟩
  obtain ⟨b,hb⟩:=hb;obtain ⟨o,ho1,ho⟩:=ho;have hl:=hM.len;obtain ⟨l',h1,h2,h3⟩:=ZoV (b:=b) hp h1000 hM (by omega) ho1;simp only [ZR.s2];rw [ZU (by omega),hb,obs];dsimp only;rw [ho,obs];dsimp only;rw [h1,obs,zZ (by omega)];exact ⟨_,rfl,rfl,rfl,h2.next⟩
 ·rintro ⟨a,l,x⟩ ⟨ha,hx,hM⟩;dsimp only at ha hx hM;subst ha hx;simp only [ZR.s2];rw [ZT (by omega)];exact ⟨_,rfl,rfl,hM⟩
theorem ZoT {z:zT}{at_:List Zg}{i:Nat}(h1000:at_.length≤1000):∃ m:Bool,ZZ (ZR.s1 z at_ i) big (false,0)=some (at_,m)∧(m=false→∀ k,k<at_.length→gi at_ k≠(⟨(gi z.At i).tmod 8,((gi z.At i).tdiv 8).tmod 8⟩:Zg)):=by
 obtain ⟨r,h1,h2,h3⟩:=Zc1 (step:=ZR.s1 z at_ i) (s0:=((false:Bool),(0:Int))) (n:=at_.length) (I:=fun n (s:Bool×Int)=>s.2=n∧(s.1=false→∀ k,k<n→gi at_ k≠(⟨(gi z.At i).tmod 8,((gi z.At i).tdiv 8).tmod 8⟩:Zg))) (R:=fun r:List Zg×Bool=>r.1=at_∧(r.2=false→∀ k,k<at_.length→gi at_ k≠(⟨(gi z.At i).tmod 8,((gi z.At i).tdiv 8).tmod 8⟩:Zg))) (ZaJ (by omega)) ⟨rfl,fun _ k hk=>by omega⟩ (by
  rintro n ⟨m,x⟩ hn ⟨hx,hm⟩;dsimp only at hx hm;subst hx;simp only [ZR.s1];rw [ZU (by omega)]
  cases m with
  | true =>
   rw [if_pos rfl,obs,zZ (by omega)];exact ⟨_,rfl,rfl,fun h=>by cases h⟩
  | false =>
   rw [if_neg (by decide),Zx (by omega),obs,zZ (by omega),itn,itn];refine ⟨_,rfl,rfl,fun h k hk=>?_⟩;rcases Nat.lt_succ_iff_lt_or_eq.1 hk with h'|rfl
   ·exact hm rfl k h'
   ·simpa using h) (by
  rintro ⟨m,x⟩ ⟨hx,hm⟩;dsimp only at hx hm;subst hx;simp only [ZR.s1];rw [ZT (by omega)];exact ⟨_,rfl,rfl,hm⟩)
 obtain ⟨a,m⟩:=r;dsimp only at h2 h3;subst h2;exact ⟨m,h1,h3⟩
theorem ZoS {z:zT}{most:Int}(hm:0≤most∧most≤1000) (hlen:z.At.length≤9223372036854775807) (hat:∀ y∈z.At,Wf .u8 y):∃ a,ZZ (ZR.s0 z most) big (([]:List Zg),0)=some a∧Pts a∧(a.length:Int)≤most:=by
 refine Zeh (μ:=fun s:List Zg×Int=>((z.At.length:Int)-s.2).toNat) (I:=fun s=>0≤s.2∧Pts s.1∧(s.1.length:Int)≤most) (R:=fun a=>Pts a∧(a.length:Int)≤most) (ZaJ (by omega)) ⟨by decide,Pts.nil,by simpa using hm.1⟩ ?_;rintro ⟨a,i⟩ ⟨h1,h2,h3⟩;dsimp only at h1 h2 h3;obtain ⟨n,rfl⟩:∃ n:Nat,i=n:=⟨i.toNat,by omega⟩;simp only [ZR.s0];by_cases c:((decide ((n:Int)<(z.At.length:Int)))&&(decide ((a.length:Int)<most)))=true
 ·left;rw [if_pos c];rw [Bool.and_eq_true,decide_eq_true_iff,decide_eq_true_iff] at c;have hu:=(hat _ (ZaG (show n<z.At.length by omega))).u8;obtain ⟨m,e1,e2⟩:=ZoT (z:=z) (at_:=a) (i:=n) (by omega);have hdv:0≤(gi z.At n).tdiv 8∧(gi z.At n).tdiv 8≤255:=by
   rw [Int.tdiv_eq_ediv_of_nonneg hu.1];omega
  rw [Zx (by omega),itn,Zi0 (by omega),Zx ⟨by omega,by constructor<;>omega⟩,e1,obs];dsimp only
  cases m with
  | false =>
   rw [if_pos (by decide),Zx (by simp;omega),zZ (by omega)];refine ⟨_,rfl,⟨by omega,h2.app ?_ (e2 rfl),by simp;omega⟩,by dsimp only;omega⟩;have a1:=Int.tmod_nonneg 8 hu.1;have a2:=Int.tmod_lt_of_pos (gi z.At n) (show (0:Int)<8 by omega);have a3:=Int.tmod_nonneg 8 hdv.1;have a4:=Int.tmod_lt_of_pos ((gi z.At n).tdiv 8) (show (0:Int)<8 by omega);exact ⟨a1,a2,a3,a4⟩
  | true =>
   rw [if_neg (by decide),zZ (by omega)];exact ⟨_,rfl,⟨by dsimp only;omega,h2,h3⟩,by dsimp only;omega⟩
 ·right;rw [if_neg c];exact ⟨_,rfl,h2,h3⟩
structure Made (l:List Za) (at_:List Zg):Prop where
 pts:Pts at_
 len:l.length=at_.length
 ck:Ck l
 near:∀ v e,v<l.length→e<2→nx l v e=-1∨ZdH at_ v e at_.length (nx l v e)
 own:∀ v e,v<l.length→e<4→-2≤ow l v e∧ow l v e≤1000
 nc:NX at_ l
structure OkZ (z:zT):Prop where
 a:z.At.length≤9223372036854775807
 b:∀ y∈z.At,Wf .u8 y
 o:∀ y∈z.Own,Wf .i8 y
theorem Zqc {z:zT}{most:Int}(hz:OkZ z) (hm:0≤most∧most≤1000):∃ l at_,ZR z most=some (l,at_)∧Made l at_∧(l.length:Int)≤most:=by
 obtain ⟨a,h1,hp,hl⟩:=ZoS hm hz.a hz.b;have hM:Mk a (List.replicate a.length noC) 0 0:=⟨by simp,Ck.new _,fun v e hv he=>.inl (by
   have:gi (List.replicate a.length noC) v=noC:=by rw [ZaH hv];simp
   unfold nx;rw [this]
   match e,he with
   | 0,_|1,_=>rfl),fun v e hv he=>by
   have:gi (List.replicate a.length noC) v=noC:=by rw [ZaH hv];simp
   unfold ow;rw [this]
   match e,he with
   | 0,_|1,_|2,_|3,_=>decide,fun v b hv hb h0=>by
   exfalso;have:gi (List.replicate a.length noC) v=noC:=by rw [ZaH hv];simp
   unfold nx at h0;rw [this] at h0;exact absurd h0 (by decide)⟩
 obtain ⟨⟨a',l⟩,h2,h3,h4⟩:=ZoU (z:=z) hp (by omega) hz.o hM;dsimp only at h3 h4;subst h3;refine ⟨l,a',?_,⟨hp,h4.len,h4.ck,fun v e hv he=>(h4.near v e hv he).imp id (·.2),h4.own,h4.nc⟩,by rw [h4.len];exact hl⟩;unfold ZR;rw [h1,obs,ZqG (by omega),obs,h2,obs]
end Mu
/- Layer 10: check. -/
namespace Mu

def Zgf (l:List Za) (v d:Nat):Int :=
 if nx l v d=-1 then (if ow l v d=0 then 0 else 9)
 else if nx l v d<0∨(l.length:Int)≤nx l v d∨nx l v d=v then 3
 else if nx l (nx l v d).toNat ((d+2)%4)=v∧ow l (nx l v d).toNat ((d+2)%4)=ow l v d∧¬ ow l v d < -2 then 0 else 9
theorem Zod {d:Nat}(hd:d<4):Zbz d 2=some (((d+2)%4:Nat):Int):=by
 match d,hd with
 | 0,_|1,_|2,_|3,_=>decide
theorem Zqf {l:List Za}{v d:Nat}(hv:v<l.length) (hd:d<4):Zde l v d=some (Zgf l v d):=by
 unfold Zde Zgf;have e:((gi l v).Next).get (d:Int)=nx l v d:=rfl;have e2:((gi l v).Owner).get (d:Int)=ow l v d:=rfl;rw [Zx (by omega),Zx (by omega),itn,e,e2];by_cases c:nx l v d=-1
 ·rw [ZU c,if_pos c];by_cases c2:ow l v d=0
  ·rw [Zc6 c2,if_pos c2]
  ·rw [Zdi c2,if_neg c2]
 ·rw [ZT c,if_neg c];by_cases c2:nx l v d<0∨(l.length:Int)≤nx l v d∨nx l v d=v
  ·rw [if_pos c2,if_pos (by simpa [or_assoc] using c2)]
  ·rw [if_neg c2,if_neg (by simpa [or_assoc] using c2),Zod hd,obs,Zx (by omega),Zx (by omega)];have e3:((gi l (nx l v d).toNat).Next).get (((d+2)%4:Nat):Int)=nx l (nx l v d).toNat ((d+2)%4):=rfl;have e4:((gi l (nx l v d).toNat).Owner).get (((d+2)%4:Nat):Int)=ow l (nx l v d).toNat ((d+2)%4):=rfl;rw [e3,e4];by_cases q1:nx l (nx l v d).toNat ((d+2)%4)=v<;>by_cases q2:ow l (nx l v d).toNat ((d+2)%4)=ow l v d<;>by_cases q3:ow l v d < -2<;>simp [q1,q2,q3]
def Zjr (l:List Za) (v:Nat):Int:=match (List.range 4).find? (fun d=>decide (Zgf l v d≠0)) with|some d=>Zgf l v d|none=>0
def Zgp (l:List Za):Int:=if 4096<l.length then 6 else match (List.range l.length).find? (fun v=>decide (Zjr l v≠0)) with|some v=>Zjr l v|none=>0
theorem Zi3 {n:Nat}{f:Nat→Int}:(match (List.range n).find? (fun d=>decide (f d≠0)) with|some d=>f d|none=>0)=0↔∀ d,d<n→f d=0:=by
 cases h:(List.range n).find? (fun d=>decide (f d≠0)) with
 | none =>
  rw [List.find?_range_eq_none] at h;simp only [true_iff];intro d hd;have:=h d hd;simpa using this
 | some j =>
  rw [List.find?_range_eq_some] at h;have h1:f j≠0:=by simpa using h.1
  have h2:j<n:=by simpa using h.2.1
  constructor
  ·intro h3;exact absurd h3 h1
  ·intro h3;exact h3 j h2
theorem ZiH {l:List Za}{v:Nat}:Zjr l v=0↔∀ d,d<4→Zgf l v d=0:=Zi3
theorem Zlp {l:List Za}:Zgp l=0↔l.length≤4096∧∀ v,v<l.length→∀ d,d<4→Zgf l v d=0:=by
 unfold Zgp;by_cases c:4096<l.length
 ·rw [if_pos c];constructor
  ·intro h;omega
  ·intro h;omega
 ·rw [if_neg c,Zi3];constructor
  ·intro h;exact ⟨by omega,fun v hv=>ZiH.1 (h v hv)⟩
  ·intro h v hv;exact ZiH.2 (h.2 v hv)
theorem Zii {l:List Za}{v d:Nat}:Zgf l v d=0↔(nx l v d=-1∧ow l v d=0)∨∃ w:Nat,nx l v d=w∧w<l.length∧w≠v∧nx l w ((d+2)%4)=v∧ow l w ((d+2)%4)=ow l v d∧-2≤ow l v d:=by
 unfold Zgf;by_cases c:nx l v d=-1
 ·rw [if_pos c];by_cases c2:ow l v d=0
  ·simp [c,c2]
  ·rw [if_neg c2];constructor
   ·intro h;omega
   ·rintro (⟨_,h⟩|⟨w,h,_⟩)
    ·exact absurd h c2
    ·omega
 ·rw [if_neg c];by_cases c2:nx l v d<0∨(l.length:Int)≤nx l v d∨nx l v d=v
  ·rw [if_pos c2];constructor
   ·intro h;omega
   ·rintro (⟨h,_⟩|⟨w,h,h1,h2,_⟩)
    ·exact absurd h c
    ·omega
  ·rw [if_neg c2];constructor
   ·intro h;split at h
    ·rename_i q;exact .inr ⟨(nx l v d).toNat,by omega,by omega,by omega,q.1,q.2.1,by omega⟩
    ·omega
   ·rintro (⟨h,_⟩|⟨w,h,h1,h2,h3,h4,h5⟩)
    ·exact absurd h c
    ·have:(nx l v d).toNat=w:=by omega
     rw [this,if_pos ⟨h3,h4,by omega⟩]
theorem ZfN {l:List Za}:Zgp l=0↔l.length≤4096∧Ck l:=by
 rw [Zlp];constructor
 ·intro h;exact ⟨h.1,⟨fun v d hv hd=>Zii.1 (h.2 v hv d hd)⟩⟩
 ·intro h;exact ⟨h.1,fun v hv d hd=>Zii.2 (h.2.s v d hv hd)⟩
theorem Zmo {n:Nat}{f:Nat→Int}:((match (List.range n).find? (fun d=>decide (f d≠0)) with|some d=>(.inr (f d):Unit⊕Int)|none=>.inl ()))=if (match (List.range n).find? (fun d=>decide (f d≠0)) with|some d=>f d|none=>0)=0 then .inl () else .inr (match (List.range n).find? (fun d=>decide (f d≠0)) with|some d=>f d|none=>0):=by
 cases h:(List.range n).find? (fun d=>decide (f d≠0)) with
 | none=>simp
 | some j =>
  rw [List.find?_range_eq_some] at h;have h1:f j≠0:=by simpa using h.1
  rw [if_neg h1]
theorem ZqI {l:List Za}{v:Nat}(hv:v<l.length):ZZ (Zaa.s1 l v) big 0=some (if Zjr l v=0 then .inl () else .inr (Zjr l v)):=by
 have h:ZZ (Zaa.s1 l v) big 0=some (match (List.range 4).find? (fun d=>decide (Zgf l v d≠0)) with|some d=>.inr (Zgf l v d)|none=>.inl ()):=by
  refine ZdD (ZaJ (by omega)) (fun d hd=>?_) ?_
  ·simp only [Zaa.s1];rw [ZU (by omega),Zqf hv hd,obs];by_cases c:Zgf l v d=0
   ·rw [Zc6 c,if_neg (by simpa using c),zZ (by omega)]
   ·rw [Zdi c,if_pos (by simpa using c)]
  ·simp only [Zaa.s1];rw [ZT (by omega)]
 rw [h,Zmo];rfl
theorem ZhX {l:List Za}(hl:l.length≤1000000000000):Zaa l=some (Zgp l):=by
 unfold Zaa Zgp;by_cases c:4096<l.length
 ·rw [if_pos c,ZU (by omega)]
 ·rw [if_neg c,ZT (by omega)];have h:ZZ (Zaa.s0 l) big 0=some (match (List.range l.length).find? (fun v=>decide (Zjr l v≠0)) with|some v=>.inr (Zjr l v)|none=>.inl ()):=by
   refine ZdD (ZaJ (by omega)) (fun v hv=>?_) ?_
   ·simp only [Zaa.s0];rw [ZU (by omega),ZqI hv,obs];by_cases c:Zjr l v=0
    ·rw [if_pos c,if_neg (by simpa using c)];dsimp only;rw [zZ (by omega)]
    ·rw [if_neg c,if_pos (by simpa using c)]
   ·simp only [Zaa.s0];rw [ZT (by omega)]
  rw [h];cases (List.range l.length).find? (fun v=>decide (Zjr l v≠0))<;>simp
end Mu
/- Layer 10: a grid's cells,played with. -/
namespace Mu
theorem Zpg {d:Nat}(h:d<4):noC.Next.get (d:Int)=-1∧noC.Owner.get (d:Int)=0:=by
 match d,h with
 | 0,_|1,_|2,_|3,_=>exact ⟨rfl,rfl⟩
end Mu
/- Layer 10: a split edge. -/
namespace Mu
def spl (l:List Za) (v d w:Nat) (o:Int):List Za:=wth (wth (l++[noC]) v d l.length o) l.length d w o
end Mu
/- Layer 12: faces,in the code and in the document,are the same walk. -/
namespace Mu
abbrev Da:=Nat×Nat
def dt (p:Da):Z9:=⟨p.1,p.2⟩
def isD (l:List Za) (p:Da):Prop:=p.1<l.length∧p.2<4∧0≤nx l p.1 p.2
instance {l:List Za}{p:Da}:Decidable (isD l p):=by unfold isD;infer_instance
def bh (l:List Za) (p:Da):Da :=
 if 0≤nx l (nx l p.1 p.2).toNat ((p.2+1)%4) then ((nx l p.1 p.2).toNat,(p.2+1)%4)
 else if 0≤nx l (nx l p.1 p.2).toNat p.2 then ((nx l p.1 p.2).toNat,p.2)
 else if 0≤nx l (nx l p.1 p.2).toNat ((p.2+3)%4) then ((nx l p.1 p.2).toNat,(p.2+3)%4)
 else ((nx l p.1 p.2).toNat,(p.2+2)%4)
theorem isD.fwd {l:List Za}(hc:Ck l) {p:Da}(h:isD l p):(nx l p.1 p.2).toNat<l.length∧nx l (nx l p.1 p.2).toNat ((p.2+2)%4)=p.1:=by
 rcases hc.s p.1 p.2 h.1 h.2.1 with ⟨a,_⟩|⟨w,a,b,_,c,_⟩
 ·have:=h.2.2;omega
 ·rw [a,itn];exact ⟨b,c⟩
theorem isD.bh {l:List Za}(hc:Ck l) {p:Da}(h:isD l p):isD l (bh l p):=by
 have f:=h.fwd hc;have:=h.2.1;unfold Mu.bh;split
 ·rename_i c;exact ⟨f.1,by dsimp only;omega,c⟩
 ·split
  ·rename_i c;exact ⟨f.1,by dsimp only;omega,c⟩
  ·split
   ·rename_i c;exact ⟨f.1,by dsimp only;omega,c⟩
   ·exact ⟨f.1,by dsimp only;omega,by dsimp only;rw [f.2];omega⟩
theorem ZpY {l:List Za}{v d:Int}:Zb0 ⟨v,d⟩ l=some (decide (0≤v∧v<l.length∧0≤d∧d<4∧0≤nx l v.toNat d.toNat)):=by
 unfold Zb0 Zby
 dsimp only;by_cases c1:0≤v
 ·rw [ZU c1];by_cases c2:v<l.length
  ·rw [ZU c2,obs];by_cases c3:0≤d∧d≤3
   ·rw [if_pos (by simp [c3]),Zx (by omega),Zx (by omega)];have:(gi l v.toNat).Next.get d=nx l v.toNat d.toNat:=by unfold nx;rw [show ((d.toNat:Nat):Int)=d by omega]
    rw [this];congr 1;rw [Bool.eq_iff_iff];simp only [decide_eq_true_eq];omega
   ·rw [if_neg (by simp;omega),Zez];omega
  ·rw [ZT c2,Zez];omega
 ·rw [ZT c1,Zez];omega
theorem Zqa {l:List Za}{p:Da}:Zb0 (dt p) l=some (decide (isD l p)):=by
 unfold dt;rw [ZpY];congr 1;rw [Bool.eq_iff_iff];simp only [decide_eq_true_eq,itn];unfold isD;omega
theorem Zje {d:Nat}(hd:d<4) {t:Int}(ht:t=1∨t=0∨t=-1∨t=2):Zbz d t=some (if t=1 then (((d+1)%4:Nat):Int) else if t=0 then (d:Int) else if t=-1 then (((d+3)%4:Nat):Int) else (((d+2)%4:Nat):Int)):=by
 have:d=0∨d=1∨d=2∨d=3:=by omega
 rcases this with rfl|rfl|rfl|rfl<;>rcases ht with rfl|rfl|rfl|rfl<;>rfl
theorem ZpX {ρ:Type}{F:Int→Option (Int⊕ρ)}{c0 c1 c2:Prop} [Decidable c0] [Decidable c1] [Decidable c2] {r0 r1 r2 r3:ρ}(s0:F ((0:Nat):Int)=some (if c0 then .inr r0 else .inl (((0:Nat):Int)+1))) (s1:F ((1:Nat):Int)=some (if c1 then .inr r1 else .inl (((1:Nat):Int)+1))) (s2:F ((2:Nat):Int)=some (if c2 then .inr r2 else .inl (((2:Nat):Int)+1))) (s3:F ((3:Nat):Int)=some (.inr r3)):ZZ F big 0=some (if c0 then r0 else if c1 then r1 else if c2 then r2 else r3):=by
 refine Zdw (n:=4) ?_ (by unfold big;omega);replace s0:F 0=some (if c0 then .inr r0 else .inl 1):=s0;replace s1:F 1=some (if c1 then .inr r1 else .inl 2):=s1;replace s2:F 2=some (if c2 then .inr r2 else .inl 3):=s2;replace s3:F 3=some (.inr r3):=s3;rw [ZZ,s0];by_cases h0:c0
 ·rw [if_pos h0,if_pos h0]
 ·rw [if_neg h0,if_neg h0];dsimp only;rw [ZZ,s1];by_cases h1:c1
  ·rw [if_pos h1,if_pos h1]
  ·rw [if_neg h1,if_neg h1];dsimp only;rw [ZZ,s2];by_cases h2:c2
   ·rw [if_pos h2,if_pos h2]
   ·rw [if_neg h2,if_neg h2];dsimp only;rw [ZZ,s3]
theorem ZkN {l:List Za}(hc:Ck l) {p:Da}(h:isD l p):Zas (dt p) l=some (dt (bh l p)):=by
 have f:=h.fwd hc;obtain ⟨h1,h2,h3⟩:=h;have e:((gi l p.1).Next).get (p.2:Int)=nx l p.1 p.2:=rfl;have st:∀ (k:Nat) (d':Nat),k<4→d'<4→Zbz (p.2:Int) ((⟨1,0,(-1),2⟩:A4 Int).get k)=some (d':Int)→Zas.s0 (dt p) l (k:Int)=some (if 0≤nx l (nx l p.1 p.2).toNat d' then .inr (.inr (dt ((nx l p.1 p.2).toNat,d'))) else .inl ((k:Int)+1)):=by
  intro k d' hk hd hl;have i:=ZpY (l:=l) (v:=nx l p.1 p.2) (d:=d');simp only [Zas.s0,dt,itn,e];rw [ZU (by omega),Zx (by omega),hl,obs,i,obs];by_cases c:0≤nx l (nx l p.1 p.2).toNat d'
  ·rw [ZU (by rw [itn];omega),if_pos c];congr 4;omega
  ·rw [ZT (by rw [itn];omega),zZ (by omega),if_neg c]
 have s0:=st 0 ((p.2+1)%4) (by omega) (by omega) ((Zje h2 (.inl rfl)).trans rfl);have s1:=st 1 p.2 (by omega) h2 ((Zje h2 (.inr (.inl rfl))).trans rfl);have s2:=st 2 ((p.2+3)%4) (by omega) (by omega) ((Zje h2 (.inr (.inr (.inl rfl)))).trans rfl);have s3:=st 3 ((p.2+2)%4) (by omega) (by omega) ((Zje h2 (.inr (.inr (.inr rfl)))).trans rfl);rw [if_pos (by rw [f.2];omega)] at s3;have L:ZZ (Zas.s0 (dt p) l) big 0=some (.inr (dt (bh l p))):=by
  rw [ZpX s0 s1 s2 s3];unfold bh;by_cases c0:0≤nx l (nx l p.1 p.2).toNat ((p.2+1)%4)
  ·rw [if_pos c0,if_pos c0]
  ·rw [if_neg c0,if_neg c0];by_cases c1:0≤nx l (nx l p.1 p.2).toNat p.2
   ·rw [if_pos c1,if_pos c1]
   ·rw [if_neg c1,if_neg c1];by_cases c2:0≤nx l (nx l p.1 p.2).toNat ((p.2+3)%4)
    ·rw [if_pos c2,if_pos c2]
    ·rw [if_neg c2,if_neg c2]
 unfold Zas;rw [Zx (by unfold dt;dsimp only;omega),Zx (by unfold dt;dsimp only;omega),L,obs]
def walk (l:List Za):Nat→List Da→Da→List Da
 | 0,_,_=>[]
 | n+1,met,x=>if x∈met then [] else x::walk l n (met++[x]) (bh l x)
structure Mets (l:List Za) (met:List Da):Prop where
 nd:met.Nodup
 is:∀ p∈met,isD l p
theorem Mets.len {l:List Za}{met:List Da}(h:Mets l met):met.length≤4*l.length:=by
 have n:(met.map fun p=>4*p.1+p.2).Nodup:=by
  refine List.pairwise_map.2 (h.nd.imp_of_mem fun {p q} hp hq hne he=>hne ?_);have a:=h.is p hp;have b:=h.is q hq;unfold isD at a b;exact Prod.ext (by omega) (by omega)
 have:=n.length_le_of_subset (l₂:=List.range (4*l.length)) (fun x hx=>by
  obtain ⟨p,hp,rfl⟩:=List.mem_map.1 hx;have:=h.is p hp;unfold isD at this;exact List.mem_range.2 (by omega))
 simpa using this
theorem Mets.nil {l:List Za}:Mets l []:=⟨List.nodup_nil,by simp⟩
theorem Mets.snoc {l:List Za}{met:List Da}(h:Mets l met) {x:Da}(hx:isD l x) (hn:x ∉ met):Mets l (met++[x]):=by
 refine ⟨?_,fun p hp=>?_⟩
 ·rw [List.nodup_append];exact ⟨h.nd,by simp,fun a ha b hb e=>hn (by simp at hb;rw [← hb,← e];exact ha)⟩
 ·rcases List.mem_append.1 hp with q|q
  ·exact h.is p q
  ·simp at q;rw [q];exact hx
theorem Mets.walk {l:List Za}(hc:Ck l):∀ {n:Nat}{met:List Da}{x:Da},Mets l met→isD l x→Mets l (met++walk l n met x)
 | 0,met,x,h,hx=>by rw [Mu.walk,List.append_nil];exact h
 | n+1,met,x,h,hx=>by
  rw [Mu.walk];split
  ·rw [List.append_nil];exact h
  ·rename_i c;have:=Mets.walk hc (n:=n) (h.snoc hx c) (hx.bh hc);rwa [List.append_assoc] at this
theorem Zjz {l:List Za}(hc:Ck l):∀ {n:Nat}{met:List Da}{x:Da},isD l x→∀ p∈walk l n met x,isD l p
 | 0,_,_,_,p,hp=>by simp [walk] at hp
 | n+1,met,x,hx,p,hp=>by
  rw [walk] at hp;split at hp
  ·simp at hp
  ·rcases List.mem_cons.1 hp with rfl|hp
   ·exact hx
   ·exact Zjz hc (hx.bh hc) p hp
def mpD (met:List Da):List (Z9×Bool):=met.map fun p=>(dt p,true)
theorem Zml {p q:Da}(h:dt p=dt q):p=q:=by
 unfold dt at h;injection h with a b
 exact Prod.ext (by omega) (by omega)
theorem Zji {x:Da}:∀ {met:List Da},ZfK false (dt x) (mpD met)=decide (x∈met)
 | []=>rfl
 | p::met=>by
  show (if dt x=dt p then true else ZfK false (dt x) (mpD met))=_;by_cases c:x=p
  ·rw [if_pos (by rw [c]),ZcK (by simp [c])]
  ·rw [if_neg fun h=>c (Zml h),Zji];rw [Bool.eq_iff_iff];simp [c]
theorem ZnI {x:Da}{met:List Da}(h:x ∉ met):Zfy (dt x) true (mpD met)=mpD (met++[x]):=by
 have:∀ {m:List Da},x ∉ m→Zfy (dt x) true (mpD m)=mpD m++[(dt x,true)]:=by
  intro m
  induction m with
  | nil=>intro _;rfl
  | cons p m ih =>
   intro h;show (if dt x=dt p then _ else (dt p,true)::Zfy (dt x) true (mpD m))=_;rw [if_neg fun e=>h (by rw [Zml e];simp),ih fun e=>h (by simp [e])];rfl
 rw [this h];unfold mpD;rw [List.map_append];rfl
theorem Zoe {l:List Za}(hc:Ck l) (hl:l.length≤5000):∀ (n:Nat) (met:List Da) (f:List Z9) (x:Da),Mets l met→isD l x→4*l.length<met.length+n→f.length≤met.length→ZZ (Zaz.s2 l) n (mpD met,f,dt x)=some (mpD (met++walk l n met x),f++(walk l n met x).map dt)
 | 0,met,f,x,h,_,hn,_=>by have:=h.len;omega
 | n+1,met,f,x,h,hx,hn,hf=>by
  have ml:=h.len;rw [ZZ,walk];simp only [Zaz.s2];rw [Zji];by_cases c:x∈met
  ·rw [Zc6 c,if_pos c,List.append_nil,List.map_nil,List.append_nil]
  ·rw [Zdi c,Zx (by simp;omega),ZkN hc hx,obs,if_neg c,ZnI c];dsimp only;rw [Zoe hc hl n (met++[x]) (f++[dt x]) (bh l x) (h.snoc hx c) (hx.bh hc) (by simp;omega) (by simp;omega)];rw [List.append_assoc,List.append_assoc];rfl
def stF (l:List Za) (s:List Da×List (List Da)) (p:Da):List Da×List (List Da) :=
 if nx l p.1 p.2<0∨p∈s.1 then s else (s.1++walk l (4*l.length+1) s.1 p,s.2++[walk l (4*l.length+1) s.1 p])
def Zh2 (l:List Za) (v:Nat) (s:List Da×List (List Da)):Nat→List Da×List (List Da)
 | 0=>s
 | e+1=>stF l (Zh2 l v s e) (v,e)
def FS (l:List Za):Nat→List Da×List (List Da)
 | 0=>([],[])
 | v+1=>Zh2 l v (FS l v) 4
def faces (l:List Za):List (List Da):=(FS l l.length).2
structure FI (l:List Za) (s:List Da×List (List Da)):Prop where
 m:Mets l s.1
 len:s.2.length≤s.1.length
 is:∀ f∈s.2,∀ p∈f,isD l p
 fl:s.2.flatten=s.1
theorem FI.st {l:List Za}(hc:Ck l) {s:List Da×List (List Da)}(h:FI l s) {p:Da}(h1:p.1<l.length) (h2:p.2<4):FI l (stF l s p):=by
 unfold stF;split
 ·exact h
 ·rename_i c;have hp:isD l p:=⟨h1,h2,by omega⟩;have hn:p ∉ s.1:=fun q=>c (.inr q);refine ⟨Mets.walk hc h.m hp,?_,?_,?_⟩
  ·dsimp only;rw [List.length_append,List.length_append,walk,if_neg hn];have:=h.len;simp;omega
  ·intro f hf q hq;rcases List.mem_append.1 hf with k|k
   ·exact h.is f k q hq
   ·simp at k;subst k;exact Zjz hc hp q hq
  ·dsimp only;rw [List.flatten_append,h.fl];simp
theorem FI.row {l:List Za}(hc:Ck l) {s:List Da×List (List Da)}(h:FI l s) {v:Nat}(hv:v<l.length):∀ e,e≤4→FI l (Zh2 l v s e)
 | 0,_=>h
 | e+1,he=>(FI.row hc h hv e (by omega)).st hc hv (by dsimp only;omega)
theorem Zhi {l:List Za}(hc:Ck l):∀ v,v≤l.length→FI l (FS l v)
 | 0,_=>⟨Mets.nil,by simp [FS],by simp [FS],by simp [FS]⟩
 | v+1,hv=>(Zhi hc v (by omega)).row hc (by omega) 4 (by omega)
theorem ZnA {l:List Za}(hc:Ck l) (hl:l.length≤5000) {s:List Da×List (List Da)}(h:FI l s) {v e:Nat}(hv:v<l.length) (he:e<4):Zaz.s1 l v (s.2.map (List.map dt),mpD s.1,(e:Int))=some (.inl ((stF l s (v,e)).2.map (List.map dt),mpD (stF l s (v,e)).1,(e:Int)+1)):=by
 have i:=Zqa (l:=l) (p:=(v,e));have g:=Zji (x:=(v,e)) (met:=s.1);unfold dt at i g;dsimp only at i g;have ml:=h.m.len;have sl:=h.len;simp only [Zaz.s1];rw [ZU (by omega),i,obs,g];unfold stF;dsimp only;by_cases c:nx l v e<0∨(v,e)∈s.1
 ·rw [if_pos c,if_pos,zZ (by omega)];rcases c with c|c
  ·rw [Zez (show ¬ isD l (v,e) from fun q=>by have:=q.2.2;dsimp only at this;omega)];rfl
  ·rw [ZcK c,Bool.or_true]
 ·have hp:isD l (v,e):=⟨hv,he,by dsimp only;omega⟩;have hn:(v,e) ∉ s.1:=fun q=>c (.inr q);have W:=Zoe hc hl (4*l.length+1) s.1 [] (v,e) h.m hp (by omega) (by simp);unfold dt at W;dsimp only at W;rw [if_neg c,if_neg (by rw [ZcK hp,Zez hn];decide),Zdw W (by unfold big;omega),obs];dsimp only;rw [Zx (by rw [List.length_map];omega),zZ (by omega),List.map_append];rfl
theorem ZoQ {l:List Za}(hl:l.length≤4096) (h:Zgp l=0):Zaz l=some ((faces l).map (List.map dt),0):=by
 have hc:=(ZfN.1 h).2;have row:∀ v,v<l.length→ZZ (Zaz.s1 l v) big ((FS l v).2.map (List.map dt),mpD (FS l v).1,0)=some ((FS l (v+1)).2.map (List.map dt),mpD (FS l (v+1)).1):=by
  intro v hv;refine ZbK (fun e:Nat=>((Zh2 l v (FS l v) e).2.map (List.map dt),mpD (Zh2 l v (FS l v) e).1,(e:Int))) (n:=4) (ZaJ (by omega)) rfl (fun e he=>?_) ?_
  ·rw [ZnA hc (by omega) ((Zhi hc v (by omega)).row hc hv e (by omega)) hv he];rfl
  ·simp only [Zaz.s1];rw [ZT (by omega)];rfl
 unfold Zaz;rw [ZhX (by omega),obs,Zc6 h,Zhm (x:=(faces l).map (List.map dt))];refine ZbK (fun v:Nat=>((FS l v).2.map (List.map dt),mpD (FS l v).1,(v:Int))) (n:=l.length) (ZaJ (by omega)) rfl (fun v hv=>?_) ?_
 ·simp only [Zaz.s0];rw [ZU (by omega),row v hv,obs];dsimp only;rw [zZ (by omega),show ((v+1:Nat):Int)=(v:Int)+1 by omega]
 ·simp only [Zaz.s0];rw [ZT (by omega)];rfl
end Mu
/- Layer 13: what hangs together,by steps. -/
namespace Mu

theorem Zkh {α:Type} [Inhabited α] {l:List α}{n i:Nat}(h:i<n):gi (l.take n) i=gi l i:=by
 unfold gi;simp [List.getElem?_take,h]
theorem Zqd {n:Nat}(h:n≤1300):Zd2 1 n=some (0,(n:Int)):=by
 have key:∀ n:Fin 1301,Zd2 1 ((n:Nat):Int)=some (0,((n:Nat):Int)):=by decide +kernel
 exact key ⟨n,by omega⟩
theorem ZkP {n:Nat}(h:n≤1300):Zab [-1] n=some (List.replicate n (-1)):=by
 have L:∃ r,ZZ Zab.s0 big (([-1]:List Int).take (List.replicate n (0:Int)).length++(List.replicate n (0:Int)).drop ([-1]:List Int).length,((min ([-1]:List Int).length (List.replicate n (0:Int)).length:Nat):Int))=some r∧(r.length=n∧∀ i,i<n→gi r i=-1):=by
  refine Zeh (μ:=fun s=>((n:Int)-s.2).toNat) (I:=fun s=>s.1.length=n∧(0≤s.2∧s.2≤(n:Int))∧(0<n→0<s.2)∧∀ i:Nat,(i:Int)<s.2→gi s.1 i=-1) (by dsimp only;unfold big;omega) ?_ ?_
  ·cases n with
   | zero=>exact ⟨rfl,by simp,by simp,fun i hi=>by simp at hi;omega⟩
   | succ n =>
    refine ⟨by simp,by simp;omega,fun _=>by simp,fun i hi=>?_⟩;have:i=0:=by simp at hi;omega
    subst this;rfl
  ·rintro ⟨x,m⟩ ⟨h1,h2,h3,h4⟩;dsimp only at h1 h2 h3 h4 ⊢;obtain ⟨k,rfl⟩:=Int.eq_ofNat_of_zero_le h2.1;simp only [Zab.s0,itn];by_cases c:(k:Int)<(x.length:Int)
   ·refine .inl ?_;have t1:(x.take k).length=k:=by rw [List.length_take];omega
    have t2:(x.drop k).length=n-k:=by rw [List.length_drop];omega
    rw [ZU c,Zx (by omega),zZ (by omega),t1,t2];refine ⟨_,rfl,⟨by simp;omega,by dsimp only;omega,fun _=>by dsimp only;omega,fun i hi=>?_⟩,by dsimp only;omega⟩;dsimp only at hi ⊢;by_cases q:i<k
    ·rw [Zdc (by rw [t1];exact q),Zkh q];exact h4 i (by omega)
    ·have e:i=(x.take k).length+(i-k):=by rw [t1];omega
     rw [e,Zc9,Zdc (by rw [List.length_take,t1];omega),Zkh (by omega),Zkh (by omega)];exact h4 _ (by omega)
   ·refine .inr ?_;rw [ZT c];exact ⟨_,rfl,h1,fun i hi=>h4 i (by omega)⟩
 obtain ⟨r,e1,e2,e3⟩:=L;have er:r=List.replicate n (-1):=ZdR (by simp [e2]) fun i hi=>by
  rw [e3 i (by omega),ZaH (by simp;omega)];simp
 unfold Zab;rw [ZT (by omega),obs,Zx (show inK .u64 (([-1]:List Int).length:Int) by decide),Zx (show inK .u64 (n:Int) from by
  simp only [inK,Go.IntKind.wrap,Go.IntKind.bits,Go.IntKind.signed];simp;omega),show (([-1]:List Int).length:Int)=1 from rfl,Zqd h,obs]
 dsimp only;rw [if_neg (by simp;omega),obs,Zi0 (by omega),Zx (by omega),itn,e1,obs,er]

def Adj (l:List Za) (a b:Nat):Prop:=∃ d,d<4∧nx l a d=b
inductive Rch (l:List Za) (v:Nat):Nat→Nat→Prop
 | zero:Rch l v 0 v
 | succ {n a b}:Rch l v n a→Adj l a b→Rch l v (n+1) b
theorem Adj.lt {l:List Za}(h:Ck l) {a b:Nat}(ha:a<l.length) (hab:Adj l a b):b<l.length:=by
 obtain ⟨d,hd,e⟩:=hab;have:=h.lt ha hd;omega
theorem Adj.symm {l:List Za}(h:Ck l) {a b:Nat}(ha:a<l.length) (hab:Adj l a b):Adj l b a:=by
 obtain ⟨d,hd,e⟩:=hab;rcases h.s a d ha hd with ⟨e2,_⟩|⟨w,e2,_,_,e3,_⟩
 ·omega
 ·have:w=b:=by omega
  subst this;exact ⟨(d+2)%4,by omega,e3⟩
theorem Rch.lt {l:List Za}(h:Ck l) {v n w:Nat}(hv:v<l.length) (hr:Rch l v n w):w<l.length:=by
 induction hr with
 | zero=>exact hv
 | succ _ hab ih=>exact hab.lt h ih
theorem Rch.trans {l:List Za}{a b c n m:Nat}(h1:Rch l a n b) (h2:Rch l b m c):Rch l a (n+m) c:=by
 induction h2 with
 | zero=>exact h1
 | succ _ hab ih=>exact .succ ih hab
theorem Rch.symm {l:List Za}(h:Ck l) {v n w:Nat}(hv:v<l.length) (hr:Rch l v n w):Rch l w n v:=by
 induction hr with
 | zero=>exact .zero
 | succ hr hab ih =>
  have ha:=hr.lt h hv;have:=(Rch.succ .zero (hab.symm h ha)).trans ih;rw [Nat.zero_add,Nat.add_comm] at this;exact this
def Dist (l:List Za) (v w n:Nat):Prop:=Rch l v n w∧∀ m,Rch l v m w→n≤m
theorem Dist.uniq {l:List Za}{v w n m:Nat}(h1:Dist l v w n) (h2:Dist l v w m):n=m:=by
 have:=h1.2 m h2.1;have:=h2.2 n h1.1;omega
theorem Rch.dist {l:List Za}{v w n:Nat}(h:Rch l v n w):∃ m,m≤n∧Dist l v w m:=by
 induction n using Nat.strongRecOn with
 | _ n ih =>
  by_cases c:∃ m,m<n∧Rch l v m w
  ·obtain ⟨m,hm,hr⟩:=c;obtain ⟨k,hk,hd⟩:=ih m hm hr;exact ⟨k,by omega,hd⟩
  ·refine ⟨n,Nat.le_refl _,h,fun m hm=>?_⟩;by_cases q:n≤m
   ·exact q
   ·exact absurd ⟨m,by omega,hm⟩ c
theorem Zkz:∀ {n m:Nat}(f:Nat→Nat),(∀ i,i<n→f i<m)→(∀ i j,i<n→j<n→f i=f j→i=j)→n≤m
 | 0,m,f,_,_=>Nat.zero_le _
 | n+1,0,f,h,_=>absurd (h 0 (by omega)) (by omega)
 | n+1,m+1,f,h,hi=>by
  have:=Zkz (n:=n) (m:=m) (fun i=>if f i=m then f n else f i) (fun i hi'=>by
   by_cases c:f i=m
   ·rw [if_pos c];have:=h n (by omega);by_cases c2:f n=m
    ·have:=hi i n (by omega) (by omega) (by omega);omega
    ·omega
   ·rw [if_neg c];have:=h i (by omega);omega) (fun i j hi' hj' e=>by
   by_cases c:f i=m<;>by_cases c2:f j=m
   ·exact hi i j (by omega) (by omega) (by omega)
   ·rw [if_pos c,if_neg c2] at e;have:=hi n j (by omega) (by omega) e;omega
   ·rw [if_neg c,if_pos c2] at e;have:=hi i n (by omega) (by omega) e;omega
   ·rw [if_neg c,if_neg c2] at e;exact hi i j (by omega) (by omega) e)
  omega
end Mu
/- Layer 13: spread. -/
namespace Mu

theorem ZfZ:∀ {m:List Bool}{w:Nat},w<m.length→gi m w=false→(m.set w true).count false+1=m.count false
 | [],w,h,_=>by simp at h
 | b::m,0,_,hf=>by
  have:b=false:=hf;subst this;simp
 | b::m,w+1,h,hf=>by
  have:=ZfZ (m:=m) (w:=w) (by simpa using h) hf;cases b<;>simp [List.count_cons]<;>omega
structure Sb (l:List Za) (v:Nat) (δ:Nat→Nat) (fr dr:List Int) (mt:List Bool):Prop where
 lf:fr.length=l.length
 ld:dr.length=l.length
 lm:mt.length=l.length
 mv:gi mt v=true
 dv:δ v=0
 rc:∀ a,gi mt a=true→Rch l v (δ a) a
 fm:∀ a,gi mt a=true→a≠v→∃ p d:Nat,gi fr a=p∧gi dr a=d∧d<4∧gi mt p=true∧nx l p d=a∧δ a=δ p+1
 un:∀ a,a<l.length→gi mt a=false→gi dr a=-1
structure So (l:List Za) (v:Nat) (δ:Nat→Nat) (q:List Int) (mt:List Bool):Prop where
 el:∀ x∈q,∃ a:Nat,x=a∧a<l.length∧gi mt a=true
 so:q.Pairwise fun x y=>δ x.toNat≤δ y.toNat∧δ y.toNat≤δ x.toNat+1
 pr:∀ a:Nat,gi mt a=true→(a:Int) ∉ q→(∀ x∈q,δ a≤δ x.toNat)∧∀ b,Adj l a b→gi mt b=true∧δ b≤δ a+1
structure Si (l:List Za) (v h:Nat) (δ:Nat→Nat) (q:List Int) (mt:List Bool) (d:Nat):Prop where
 hm:gi mt h=true
 el:∀ x∈q,∃ a:Nat,x=a∧a<l.length∧gi mt a=true∧δ h≤δ a∧δ a≤δ h+1
 so:q.Pairwise fun x y=>δ x.toNat≤δ y.toNat
 pr:∀ a:Nat,gi mt a=true→(a:Int) ∉ q→a≠h→δ a≤δ h∧∀ b,Adj l a b→gi mt b=true∧δ b≤δ a+1
 hd:∀ e,e<d→∀ b:Nat,nx l h e=b→gi mt b=true∧δ b≤δ h+1
theorem So.open {l:List Za}{v h:Nat}{δ:Nat→Nat}{t:List Int}{mt:List Bool}(s:So l v δ ((h:Int)::t) mt):Si l v h δ t mt 0:=by
 have hs:=List.pairwise_cons.1 s.so;refine ⟨?_,fun x hx=>?_,hs.2.imp (fun h=>h.1),fun a ha hn hne=>?_,fun e he=>by omega⟩
 ·obtain ⟨a,e,_,hh⟩:=s.el _ List.mem_cons_self;obtain rfl:h=a:=by omega
  exact hh
 ·obtain ⟨a,e,h1,h2⟩:=s.el x (List.mem_cons_of_mem _ hx);have:=hs.1 x hx;subst e;exact ⟨a,rfl,h1,h2,by simpa using this.1,by simpa using this.2⟩
 ·have:=s.pr a ha (by
   rw [List.mem_cons];rintro (h|h)
   ·omega
   ·exact hn h)
  exact ⟨by simpa using this.1 _ List.mem_cons_self,this.2⟩
theorem Si.close {l:List Za}{v h:Nat}{δ:Nat→Nat}{t:List Int}{mt:List Bool}(s:Si l v h δ t mt 4):So l v δ t mt:=by
 have b:∀ x∈t,δ h≤δ x.toNat∧δ x.toNat≤δ h+1:=by
  intro x hx;obtain ⟨a,rfl,_,_,h1,h2⟩:=s.el x hx;exact ⟨h1,h2⟩
 refine ⟨fun x hx=>?_,?_,fun a ha hn=>?_⟩
 ·obtain ⟨a,e,h1,h2,_⟩:=s.el x hx;exact ⟨a,e,h1,h2⟩
 ·refine List.Pairwise.imp_of_mem ?_ s.so;intro x y hx hy hxy;have:=b x hx;have:=b y hy;exact ⟨hxy,by omega⟩
 ·by_cases c:a=h
  ·subst c;refine ⟨fun x hx=>(b x hx).1,?_⟩;rintro w ⟨d,hd,e⟩;exact s.hd d hd w e
  ·have:=s.pr a ha hn c;refine ⟨fun x hx=>?_,this.2⟩;have:=b x hx;omega
theorem Sb.meet {l:List Za}(hc:Ck l) {v h d w:Nat}{δ:Nat→Nat}{fr dr:List Int}{mt:List Bool}(s:Sb l v δ fr dr mt) (hm:gi mt h=true) (hd:d<4) (hw:nx l h d=w) (hwl:w<l.length) (hu:gi mt w=false) :
  Sb l v (fun a=>if a=w then δ h+1 else δ a) (fr.set w h) (dr.set w d) (mt.set w true):=by
 have gm:∀ a,gi (mt.set w true) a=if a=w then true else gi mt a:=fun a=>Zck (by rw [s.lm];exact hwl);have gf:∀ a,gi (fr.set w (h:Int)) a=if a=w then (h:Int) else gi fr a:=fun a=>Zck (by rw [s.lf];exact hwl);have gd:∀ a,gi (dr.set w (d:Int)) a=if a=w then (d:Int) else gi dr a:=fun a=>Zck (by rw [s.ld];exact hwl);have hwh:h≠w:=by rintro rfl;rw [hm] at hu;cases hu
 have hwv:v≠w:=by rintro rfl;rw [s.mv] at hu;cases hu
 have old:∀ a,gi mt a=true→a≠w:=by rintro a ha rfl;rw [ha] at hu;cases hu
 refine ⟨by simpa using s.lf,by simpa using s.ld,by simpa using s.lm,?_,?_,fun a ha=>?_,fun a ha hav=>?_,fun a ha hau=>?_⟩
 ·rw [gm,s.mv];simp
 ·rw [if_neg hwv];exact s.dv
 ·by_cases c:a=w
  ·subst c;rw [if_pos rfl];exact .succ (s.rc h hm) ⟨d,hd,hw⟩
  ·rw [if_neg c];rw [gm,if_neg c] at ha;exact s.rc a ha
 ·by_cases c:a=w
  ·subst c;refine ⟨h,d,by rw [gf,if_pos rfl],by rw [gd,if_pos rfl],hd,by rw [gm,hm];simp,hw,?_⟩;rw [if_pos rfl,if_neg hwh]
  ·rw [gm,if_neg c] at ha;obtain ⟨p,e,h1,h2,h3,h4,h5,h6⟩:=s.fm a ha hav;refine ⟨p,e,by rw [gf,if_neg c];exact h1,by rw [gd,if_neg c];exact h2,h3,by rw [gm,h4];simp,h5,?_⟩;rw [if_neg c,if_neg (old p h4)];exact h6
 ·rw [gm] at hau;by_cases c:a=w
  ·rw [if_pos c] at hau;cases hau
  ·rw [if_neg c] at hau;rw [gd,if_neg c];exact s.un a ha hau
theorem Si.meet {l:List Za}{v h d w:Nat}{δ:Nat→Nat}{q:List Int}{mt:List Bool}(lm:mt.length=l.length) (s:Si l v h δ q mt d) (hw:nx l h d=w) (hwl:w<l.length) (hu:gi mt w=false) :
  Si l v h (fun a=>if a=w then δ h+1 else δ a) (q++[(w:Int)]) (mt.set w true) (d+1):=by
 have gm:∀ a,gi (mt.set w true) a=if a=w then true else gi mt a:=fun a=>Zck (by rw [lm];exact hwl);have old:∀ a,gi mt a=true→a≠w:=by rintro a ha rfl;rw [ha] at hu;cases hu
 have hwh:h≠w:=old h s.hm;have keep:∀ a,gi mt a=true→gi (mt.set w true) a=true:=fun a ha=>by rw [gm,ha];simp
 refine ⟨keep h s.hm,fun x hx=>?_,?_,fun a ha hn hne=>?_,fun e he b hb=>?_⟩
 ·rw [List.mem_append,List.mem_singleton] at hx;rw [if_neg hwh];rcases hx with hx|rfl
  ·obtain ⟨a,e,h1,h2,h3,h4⟩:=s.el x hx;exact ⟨a,e,h1,keep a h2,by rw [if_neg (old a h2)];exact h3,by rw [if_neg (old a h2)];exact h4⟩
  ·exact ⟨w,rfl,hwl,by rw [gm,if_pos rfl],by rw [if_pos rfl];omega,by rw [if_pos rfl];omega⟩
 ·rw [List.pairwise_append];refine ⟨List.Pairwise.imp_of_mem ?_ s.so,List.pairwise_singleton _ _,fun x hx y hy=>?_⟩
  ·intro x y hx hy hxy;obtain ⟨a,rfl,h1,h2,h3,h4⟩:=s.el x hx;obtain ⟨b,rfl,k1,k2,k3,k4⟩:=s.el y hy;simp only [itn] at hxy ⊢;rw [if_neg (old a h2),if_neg (old b k2)];exact hxy
  ·rw [List.mem_singleton] at hy;subst hy;obtain ⟨a,rfl,h1,h2,h3,h4⟩:=s.el x hx;simp only [itn];rw [if_neg (old a h2)];simpa using h4
 ·rw [List.mem_append,List.mem_singleton] at hn;have haw:a≠w:=fun c=>hn (.inr (by omega));rw [gm,if_neg haw] at ha;have:=s.pr a ha (fun c=>hn (.inl c)) hne;rw [if_neg haw,if_neg hwh];refine ⟨this.1,fun b hb=>?_⟩;have:=this.2 b hb;exact ⟨keep b this.1,by rw [if_neg (old b this.1)];exact this.2⟩
 ·rw [if_neg hwh];by_cases c:e=d
  ·subst c;have:b=w:=by omega
   subst this;exact ⟨by rw [gm,if_pos rfl],by rw [if_pos rfl];omega⟩
  ·have:=s.hd e (by omega) b hb;exact ⟨keep b this.1,by rw [if_neg (old b this.1)];exact this.2⟩
theorem Si.skip {l:List Za}{v h d:Nat}{δ:Nat→Nat}{q:List Int}{mt:List Bool}(s:Si l v h δ q mt d) (hs:∀ w:Nat,nx l h d=w→gi mt w=true):Si l v h δ q mt (d+1):=by
 refine ⟨s.hm,s.el,s.so,s.pr,fun e he b hb=>?_⟩;by_cases c:e=d
 ·subst c;have hm:=hs b hb;refine ⟨hm,?_⟩;by_cases c1:(b:Int)∈q
  ·obtain ⟨a,e,_,_,_,h4⟩:=s.el _ c1;have:b=a:=by omega
   subst this;exact h4
  ·by_cases c2:b=h
   ·subst c2;omega
   ·have:=(s.pr b hm c1 c2).1;omega
 ·exact s.hd e (by omega) b hb
end Mu
/- Layer 13: spread,walked. -/
namespace Mu

theorem Zm1 {l:List Za}(hc:Ck l) (hl:l.length≤4096) {v h:Nat}{t0 t:List Int}{δ:Nat→Nat}{fr dr:List Int}{mt:List Bool}(hh:h<l.length) (sb:Sb l v δ fr dr mt) (si:Si l v h δ t mt 0) (hn:mt.count false+t.length≤l.length) :
  ∃ r:List Int×List Int×List Int×List Bool,ZZ (ZaM.s1 l ((h:Int)::t0)) big (fr,dr,t,mt,0)=some r∧∃ δ',Sb l v δ' r.1 r.2.1 r.2.2.2∧Si l v h δ' r.2.2.1 r.2.2.2 4∧r.2.2.2.count false+r.2.2.1.length=mt.count false+t.length:=by
 have g0:∀ x:List Int,gi ((h:Int)::x) (0:Int).toNat=h:=fun _=>rfl;refine Zc1 (n:=4) (I:=fun d (s:List Int×List Int×List Int×List Bool×Int)=>s.2.2.2.2=d∧∃ δ',Sb l v δ' s.1 s.2.1 s.2.2.2.1∧Si l v h δ' s.2.2.1 s.2.2.2.1 d∧s.2.2.2.1.count false+s.2.2.1.length=mt.count false+t.length) (R:=fun r:List Int×List Int×List Int×List Bool=>∃ δ',Sb l v δ' r.1 r.2.1 r.2.2.2∧Si l v h δ' r.2.2.1 r.2.2.2 4∧r.2.2.2.count false+r.2.2.1.length=mt.count false+t.length) (ZaJ (by omega)) ⟨rfl,δ,sb,si,rfl⟩ ?_ ?_
 ·rintro d ⟨fr',dr',t',mt',x⟩ hd ⟨hx,δ',sb',si',hn'⟩;dsimp only at hx sb' si' hn';subst hx;simp only [ZaM.s1];rw [ZU (by omega),g0,Zx (by omega),Zx (by omega),itn];have e:((gi l h).Next).get (d:Int)=nx l h d:=rfl;rw [e];have hlt:=hc.lt hh (show d<4 from hd);have lm:=sb'.lm;have lf:=sb'.lf;have ld:=sb'.ld;by_cases c:0≤nx l h d
  ·obtain ⟨w,hw⟩:∃ w:Nat,nx l h d=w:=⟨(nx l h d).toNat,by omega⟩;rw [hw];rw [hw] at hlt;have hwl:w<l.length:=by omega
   rw [ZU (by omega),Zx (by omega),obs,itn]
   cases hm:gi mt' w with
   | true =>
    rw [if_neg (by decide),zZ (by omega)];refine ⟨_,rfl,rfl,δ',sb',si'.skip (fun w' hw'=>?_),hn'⟩;have:w'=w:=by omega
    rw [this];exact hm
   | false =>
    have hcount:=ZfZ (m:=mt') (w:=w) (by omega) hm;rw [if_pos (by decide),Zx (by omega),Zx (by omega),Zx (by omega),Zx (by simp;omega),zZ (by omega)];refine ⟨_,rfl,rfl,_,sb'.meet hc si'.hm hd hw hwl hm,si'.meet lm hw hwl hm,?_⟩;simp only [List.length_append,List.length_cons,List.length_nil];omega
  ·rw [ZT (by omega),obs,if_neg (by decide),zZ (by omega)];exact ⟨_,rfl,rfl,δ',sb',si'.skip (fun w' hw'=>by omega),hn'⟩
 ·rintro ⟨fr',dr',t',mt',x⟩ ⟨hx,δ',sb',si',hn'⟩;dsimp only at hx sb' si' hn';subst hx;simp only [ZaM.s1];rw [ZT (by omega)];exact ⟨_,rfl,δ',sb',si',hn'⟩
structure Spr (l:List Za) (v:Nat) (fr dr:List Int):Prop where
 lf:fr.length=l.length
 ld:dr.length=l.length
 fm:∀ a n,Dist l v a n→a≠v→∃ p d m:Nat,gi fr a=p∧gi dr a=d∧d<4∧nx l p d=a∧Dist l v p m∧n=m+1
 un:∀ a,a<l.length→(∀ n,¬ Rch l v n a)→gi dr a=-1
theorem Zps {l:List Za}(hc:Ck l) {v:Nat}{δ:Nat→Nat}{fr dr:List Int}{mt:List Bool}(hv:v<l.length) (sb:Sb l v δ fr dr mt) (so:So l v δ [] mt):Spr l v fr dr:=by
 have all:∀ n a,Rch l v n a→gi mt a=true∧δ a≤n:=by
  intro n a h
  induction h with
  | zero=>exact ⟨sb.mv,by rw [sb.dv];omega⟩
  | succ hr hab ih =>
   have:=(so.pr _ ih.1 (by simp)).2 _ hab;exact ⟨this.1,by omega⟩
 have dist:∀ a,gi mt a=true→Dist l v a (δ a):=fun a ha=>⟨sb.rc a ha,fun m hm=>(all m a hm).2⟩;refine ⟨sb.lf,sb.ld,fun a n hd hav=>?_,fun a ha hu=>?_⟩
 ·have hm:=(all n a hd.1).1;obtain ⟨p,d,h1,h2,h3,h4,h5,h6⟩:=sb.fm a hm hav;refine ⟨p,d,δ p,h1,h2,h3,h5,dist p h4,?_⟩;have:=(dist a hm).uniq hd;omega
 ·refine sb.un a ha ?_
  cases h:gi mt a with
  | false=>rfl
  | true=>exact absurd (sb.rc a h) (hu _)
theorem ZnF {l:List Za}(hc:Ck l) (hl:l.length≤1300) {v:Nat}(hv:v<l.length):∃ fr dr,ZaM l v=some (fr,dr)∧Spr l v fr dr:=by
 have gr:∀ a,gi (List.replicate l.length false) a=false:=by
  intro a;by_cases h:a<l.length
  ·rw [ZaH (by simpa using h)];simp
  ·rw [Zg1 (by simpa using h)];rfl
 have gr2:∀ a,a<l.length→gi (List.replicate l.length (-1:Int)) a=-1:=by
  intro a h;rw [ZaH (by simpa using h)];simp
 have gm:∀ a,gi ((List.replicate l.length false).set v true) a=if a=v then true else false:=by
  intro a;rw [Zck (by simpa using hv),gr]
 have sb0:Sb l v (fun _=>0) (List.replicate l.length (-1)) (List.replicate l.length (-1)) ((List.replicate l.length false).set v true):=by
  refine ⟨by simp,by simp,by simp,by rw [gm,if_pos rfl],rfl,fun a ha=>?_,fun a ha hav=>?_,fun a ha hu=>gr2 a ha⟩
  ·rw [gm] at ha;by_cases c:a=v
   ·subst c;exact .zero
   ·rw [if_neg c] at ha;cases ha
  ·rw [gm,if_neg hav] at ha;cases ha
 have so0:So l v (fun _=>0) [(v:Int)] ((List.replicate l.length false).set v true):=by
  refine ⟨fun x hx=>?_,List.pairwise_singleton _ _,fun a ha hn=>?_⟩
  ·rw [List.mem_singleton] at hx;exact ⟨v,hx,hv,by rw [gm,if_pos rfl]⟩
  ·rw [gm] at ha;by_cases c:a=v
   ·subst c;exact absurd List.mem_cons_self hn
   ·rw [if_neg c] at ha;cases ha
 have cnt0:((List.replicate l.length false).set v true).count false+1=l.length:=by
  rw [ZfZ (by simpa using hv) (gr v)];simp
 obtain ⟨r,h1,h2⟩:=Zeh (step:=ZaM.s0 l) (s0:=(List.replicate l.length (-1),List.replicate l.length (-1),[(v:Int)],(List.replicate l.length false).set v true)) (μ:=fun s:List Int×List Int×List Int×List Bool=>s.2.2.2.count false+s.2.2.1.length) (I:=fun s=>∃ δ,Sb l v δ s.1 s.2.1 s.2.2.2∧So l v δ s.2.2.1 s.2.2.2∧s.2.2.2.count false+s.2.2.1.length≤l.length) (R:=fun r:List Int×List Int=>Spr l v r.1 r.2) (ZaJ (by simp only [List.length_cons,List.length_nil];omega)) ⟨_,sb0,so0,by simp only [List.length_cons,List.length_nil];omega⟩ (by
  rintro ⟨fr,dr,q,mt⟩ ⟨δ,sb,so,hn⟩;dsimp only at sb so hn;simp only [ZaM.s0]
  cases q with
  | nil =>
   right;rw [ZT (by simp)];exact ⟨_,rfl,Zps hc hv sb so⟩
  | cons x t =>
   left;obtain ⟨h,rfl,hh,_⟩:=so.el x List.mem_cons_self;rw [List.length_cons] at hn;obtain ⟨⟨fr',dr',t',mt'⟩,e1,δ',sb',si',hn'⟩:=Zm1 (t0:=t) hc (by omega) hh sb so.open (by omega);dsimp only at e1 sb' si' hn';have hd:List.drop (1:Int).toNat ((h:Int)::t)=t:=rfl;rw [ZU (by simp<;>omega),Zx (by simp<;>omega),Zx (by simp<;>omega),hd,e1,obs];refine ⟨_,rfl,⟨δ',sb',si'.close,by dsimp only;omega⟩,?_⟩;simp only [List.length_cons];omega)
 obtain ⟨fr,dr⟩:=r;refine ⟨fr,dr,?_,h2⟩;unfold ZaM;rw [ZkP hl,obs,obs,Zx (by omega),itn,Zx (by simp;omega),itn,h1,obs]
end Mu
/- Layer 13: far. -/
namespace Mu

end Mu
/- Layer 13: paths. -/
namespace Mu

end Mu
/- Layer 13: there and back. -/
namespace Mu
end Mu
/- Layer 13: join's paths. -/
namespace Mu
end Mu
/- Layer 13: join's parts. -/
namespace Mu
noncomputable def rb (l:List Za) (v w:Nat):Bool:=@decide (∃ n,Rch l v n w) (Classical.propDecidable _)
theorem Zie {l:List Za}{v w:Nat}:rb l v w=true↔∃ n,Rch l v n w:=by simp [rb]
noncomputable def Zej (l:List Za) (v k:Nat):List Int:=((List.range k).filter (rb l v)).map fun w:Nat=>(w:Int)
noncomputable def Zff (l:List Za) (v:Nat) (met:List Bool) (k:Nat):List Bool:=(List.range l.length).map fun w=>if w<k then gi met w||rb l v w else gi met w
theorem Zcg {l:List Za}{v k:Nat}{met:List Bool}:(Zff l v met k).length=l.length:=by simp [Zff]
theorem Zfu {l:List Za}{v k w:Nat}{met:List Bool}(h:w<l.length):gi (Zff l v met k) w=if w<k then gi met w||rb l v w else gi met w:=Zcq h
theorem Zkp {l:List Za}{v:Nat}{met:List Bool}(h:met.length=l.length):Zff l v met 0=met :=
 ZdR (by rw [Zcg,h]) (fun i hi=>by rw [Zcg] at hi;rw [Zfu hi,if_neg (by omega)])
theorem Zm2 {l:List Za}{v k:Nat}{met:List Bool}(hk:k<l.length) (h:rb l v k=true):(Zff l v met k).set k true=Zff l v met (k+1):=by
 apply ZdR (by rw [List.length_set,Zcg,Zcg]);intro i hi;rw [List.length_set,Zcg] at hi;rw [Zck (by rw [Zcg];exact hk),Zfu hi,Zfu hi];by_cases c:i=k
 ·subst c;rw [if_pos rfl,if_pos (by omega),h];simp
 ·rw [if_neg c];by_cases c2:i<k
  ·rw [if_pos c2,if_pos (by omega)]
  ·rw [if_neg c2,if_neg (by omega)]
theorem Zlx {l:List Za}{v k:Nat}{met:List Bool}(h:rb l v k=false):Zff l v met k=Zff l v met (k+1):=by
 apply ZdR (by rw [Zcg,Zcg]);intro i hi;rw [Zcg] at hi;rw [Zfu hi,Zfu hi];by_cases c:i=k
 ·subst c;rw [if_neg (by omega),if_pos (by omega),h];simp
 ·by_cases c2:i<k
  ·rw [if_pos c2,if_pos (by omega)]
  ·rw [if_neg c2,if_neg (by omega)]
theorem Zl0 {l:List Za}{v k:Nat}(h:rb l v k=true):Zej l v (k+1)=Zej l v k++[(k:Int)]:=by
 unfold Zej;rw [List.range_succ,List.filter_append];simp [h]
theorem Zky {l:List Za}{v k:Nat}(h:rb l v k=false):Zej l v (k+1)=Zej l v k:=by
 unfold Zej;rw [List.range_succ,List.filter_append];simp [h]
theorem Ziu {l:List Za}{v k:Nat}:(Zej l v k).length≤k:=by
 unfold Zej;rw [List.length_map];have:=List.length_filter_le (rb l v) (List.range k);simpa using this
theorem Zn1 {l:List Za}(hl:l.length≤1300) {v:Nat}{fr dr:List Int}{met:List Bool}(hm:met.length=l.length) (sp:Spr l v fr dr) (hc:Ck l) (hv:v<l.length):ZZ (ZaV.s1 l v dr) big (met,[],0)=some (Zff l v met l.length,Zej l v l.length):=by
 have ld:=sp.ld;refine ZbK (fun k:Nat=>(Zff l v met k,Zej l v k,(k:Int))) (n:=l.length) (ZaJ (by omega)) (by rw [Zkp hm];rfl) (fun k hk=>?_) ?_
 ·have hp:=Ziu (l:=l) (v:=v) (k:=k);have hmt:=Zcg (l:=l) (v:=v) (k:=k) (met:=met);have t:(if decide ((k:Int)=(v:Int))=true then some true else ck ((0:Int)≤(k:Int)∧(k:Int)<(dr.length:Int)) (some (decide (0≤(gi dr (k:Int).toNat)))))=some (rb l v k):=by
   by_cases c:k=v
   ·subst c;rw [ZU rfl,(Zie).2 ⟨0,.zero⟩]
   ·rw [ZT (by omega),Zx (by omega),itn]
    cases h:rb l v k with
    | true =>
     obtain ⟨n,hn⟩:=Zie.1 h;obtain ⟨m,_,hd⟩:=hn.dist;obtain ⟨p,d,_,_,e2,_⟩:=sp.fm k m hd c;rw [ZcK (by omega)]
    | false =>
     have:=sp.un k hk (fun n hn=>by rw [Zie.2 ⟨n,hn⟩] at h;cases h);rw [Zez (by omega)]
  simp only [ZaV.s1];rw [ZU (by omega),t,obs,zZ (by omega)]
  cases h:rb l v k with
  | true =>
   rw [if_pos rfl,Zx (by omega),Zx (by simp;omega),itn,Zm2 hk h,Zl0 h,show ((k+1:Nat):Int)=(k:Int)+1 by omega]
  | false =>
   rw [if_neg (by decide),zZ (by omega),Zlx h,Zky h,show ((k+1:Nat):Int)=(k:Int)+1 by omega]
 ·simp only [ZaV.s1];rw [ZT (by omega)]
noncomputable def PS (l:List Za):Nat→List (List Int)×List Bool
 | 0=>([],List.replicate l.length false)
 | n+1=>if gi (PS l n).2 n=true then PS l n else ((PS l n).1++[Zej l n l.length],Zff l n (PS l n).2 l.length)
theorem ZlE {l:List Za}:∀ n,(PS l n).1.length≤n∧(PS l n).2.length=l.length
 | 0=>by simp [PS]
 | n+1=>by
  have:=ZlE (l:=l) n;simp only [PS];split
  ·exact ⟨by omega,this.2⟩
  ·exact ⟨by simp;omega,Zcg⟩
theorem Zkm {l:List Za}(hc:Ck l) (hl:l.length≤1300):ZaV l=some ((PS l l.length).1,0):=by
 have hk:Zgp l=0:=ZfN.2 ⟨by omega,hc⟩;have h:ZZ (ZaV.s0 l) big (([]:List (List Int)),List.replicate l.length false,0)=some (PS l l.length).1:=by
  refine ZbK (fun n:Nat=>((PS l n).1,(PS l n).2,(n:Int))) (n:=l.length) (ZaJ (by omega)) rfl (fun n hn=>?_) ?_
  ·have hp:=ZlE (l:=l) n;simp only [ZaV.s0];rw [ZU (by omega),Zx (by omega),itn,zZ (by omega)];by_cases c:gi (PS l n).2 n=true
   ·rw [if_pos c,show PS l (n+1)=PS l n by rw [PS,if_pos c],show ((n+1:Nat):Int)=(n:Int)+1 by omega]
   ·obtain ⟨fr,dr,e1,sp⟩:=ZnF hc hl hn;rw [if_neg c,e1,obs];dsimp only;rw [Zn1 hl hp.2 sp hc hn,obs];dsimp only;rw [Zx (by omega),zZ (by omega),show PS l (n+1)=((PS l n).1++[Zej l n l.length],Zff l n (PS l n).2 l.length) by rw [PS,if_neg c],show ((n+1:Nat):Int)=(n:Int)+1 by omega]
  ·simp only [ZaV.s0];rw [ZT (by omega)]
 unfold ZaV;rw [ZhX (by omega),obs,hk,Zc6 rfl,Zx (by omega),itn,h,obs]
end Mu
/- Layer 13: the document's parts,and the law. -/
namespace Mu
theorem ZoZ {l:List Za}(hc:Ck l) (hl:l.length≤1300):ZcQ l=some (decide (((PS l l.length).1.length:Int)=1)):=by
 unfold ZcQ;rw [Zkm hc hl,obs];simp
end Mu
/- Layer 10: GridPlays. -/
namespace Mu
end Mu
/- Layer 10: turned cells;what Split and Of answer. -/
namespace Mu
end Mu
/- Layer 13: JoinTurns. -/
namespace Mu
/-! the split edge -/
def ext (v u:Int) (p:List Int):List Int:=if v∈p then p++[u] else p
theorem ZlF {l:List Za}:∀ n,n≤l.length→∀ u,u<n→gi (PS l n).2 u=true
 | 0,_,u,hu=>by omega
 | n+1,hn,u,hu=>by
  have ih:=ZlF (l:=l) n (by omega);simp only [PS];by_cases c:gi (PS l n).2 n=true
  ·rw [if_pos c];by_cases q:u=n
   ·subst q;exact c
   ·exact ih u (by omega)
  ·rw [if_neg c];dsimp only;rw [Zfu (show u<l.length by omega),if_pos (show u<l.length by omega)];by_cases q:u=n
   ·subst q;rw [Zie.2 ⟨0,.zero⟩];simp
   ·rw [ih u (by omega)];rfl
theorem Zkl {s:List Int}{v:Int}(hs:s.length≤1000000):Zb6 s v=some (decide (v∈s)):=by
 have h:ZZ (ZaN.s0 s v) big 0=some (match (List.range s.length).find? (fun i=>decide (v=gi s i)) with|some i=>.inr (i:Int)|none=>.inl ()):=by
  refine ZdD (n:=s.length) (P:=fun i=>decide (v=gi s i)) (f:=fun i=>(i:Int)) (ZaJ (by omega)) (fun i hi=>?_) ?_
  ·simp only [ZaN.s0];rw [ZU (by omega),Zx (by omega),itn,zZ (by omega)];by_cases c:v=gi s i
   ·rw [ZU c,ZU c]
   ·rw [ZT c,ZT c]
  ·simp only [ZaN.s0];rw [ZT (by omega)]
 unfold Zb6 ZaN;rw [h,obs]
 cases hf:(List.range s.length).find? (fun i=>decide (v=gi s i)) with
 | none =>
  rw [List.find?_range_eq_none] at hf;rw [Zez (c:=v∈s)]
  ·rfl
  ·intro hm;obtain ⟨i,hi,e⟩:=List.mem_iff_getElem.1 hm;have:=hf i hi;rw [ZaH hi] at this;simp [e] at this
 | some i =>
  rw [List.find?_range_eq_some] at hf;obtain ⟨h1,h2,_⟩:=hf;have hi:i<s.length:=by simpa using h2
  have e:v=gi s i:=by simpa using h1
  rw [ZcK (c:=v∈s) (by rw [e];exact ZaG hi)];dsimp only;rw [obs,ZcK (by omega)]
end Mu
/- Layers 12 and 14: turns of faces,rotations,the outer face. -/
namespace Mu
def tn (d e:Nat):Int:=if e=d then 0 else if e=(d+1)%4 then 1 else if e=(d+3)%4 then -1 else -2
theorem Zqg {d e:Nat}(hd:d<4) (he:e<4):Zc2 d e=some (tn d e):=by
 have a:d=0∨d=1∨d=2∨d=3:=by omega
 have b:e=0∨e=1∨e=2∨e=3:=by omega
 rcases a with rfl|rfl|rfl|rfl<;>rcases b with rfl|rfl|rfl|rfl<;>rfl
theorem Zpu {d e:Nat}:-2≤tn d e∧tn d e≤1:=by unfold tn;split<;>(try split)<;>(try split)<;>omega
def tns (l:List Za) (f:List Da):List Int:=f.map fun p=>tn p.2 (bh l p).2
theorem ZcD {α β:Type} [Inhabited α] [Inhabited β] {f:α→β}{l:List α}{i:Nat}(h:i<l.length):gi (l.map f) i=f (gi l i):=by
 rw [ZaH (by simpa using h),ZaH h,List.getElem_map]
theorem Zjy {l:List Za}{f:List Da}:(tns l f).length=f.length:=by simp [tns]
theorem ZnV {l:List Za}{f:List Da}:∀ i,-2≤gi (tns l f) i∧gi (tns l f) i≤1:=by
 intro i;by_cases h:i<f.length
 ·unfold tns;rw [ZcD h];exact Zpu
 ·rw [Zg1 (by rw [Zjy];omega)];decide
theorem ZoY {l:List Za}(hl:l.length≤4096) (h:Zgp l=0) {f:List Da}(hf:∀ p∈f,isD l p) (hn:f.length≤1000000):ZbL l (f.map dt)=some (tns l f):=by
 have hc:=(ZfN.1 h).2;have fl:(f.map dt).length=f.length:=by simp
 unfold ZbL;rw [Zx (by rw [fl];omega),ZhX (by omega),obs,Zc6 h];have:∃ r,ZZ (ZbL.s0 l (f.map dt)) big (List.replicate (((f.map dt).length:Int)).toNat (0:Int),0)=some r∧r=tns l f:=by
  refine Zc1 (fun (k:Nat) (s:List Int×Int)=>(s.1.length=f.length∧∀ i,i<k→gi s.1 i=gi (tns l f) i)∧s.2=k) (n:=f.length) (ZaJ (by omega)) ⟨⟨by simp,fun i hi=>by omega⟩,rfl⟩ ?_ ?_
  ·rintro k ⟨r,j⟩ hk ⟨⟨h1,h2⟩,h3⟩;dsimp only at h1 h2 h3 ⊢;subst h3;have hp:=hf _ (ZaG hk);have g:gi (f.map dt) k=dt (gi f k):=ZcD hk;simp only [ZbL.s0,itn,g];have tt:Zc2 (dt (gi f k)).Dir (dt (bh l (gi f k))).Dir=some (tn (gi f k).2 (bh l (gi f k)).2):=Zqg hp.2.1 (hp.bh hc).2.1;rw [ZU (by rw [fl];omega),Zx (by rw [fl];omega),Zqa,obs,ZcK hp,if_pos rfl,ZkN hc hp,obs,tt,obs,Zx (by omega),zZ (by omega)];refine ⟨_,rfl,⟨by dsimp only;rw [List.length_set];exact h1,fun i hi=>?_⟩,by dsimp only;omega⟩;dsimp only;rw [Zck (by omega)];by_cases c:i=k
   ·subst c;rw [if_pos rfl];unfold tns;rw [ZcD hk]
   ·rw [if_neg c];exact h2 i (by omega)
  ·rintro ⟨r,j⟩ ⟨⟨h1,h2⟩,h3⟩;dsimp only at h1 h2 h3 ⊢;subst h3;simp only [ZbL.s0];rw [ZT (by rw [fl];omega)];exact ⟨_,rfl,ZdR (by rw [h1,Zjy]) fun i hi=>h2 i (by omega)⟩
 obtain ⟨r,e1,e2⟩:=this;rw [e1,obs,e2]
theorem ZjX {t:List Int}{n:Nat}(h:n<t.length):(t.take (n+1)).sum=(t.take n).sum+gi t n:=by
 rw [ZeK h,List.sum_append];simp
theorem Zlg {t:List Int}(h:∀ i,-2≤gi t i∧gi t i≤1):∀ n,n≤t.length→-2*(n:Int)≤(t.take n).sum∧(t.take n).sum≤n
 | 0,_=>by simp
 | n+1,hn=>by
  have ih:=Zlg h n (by omega);have:=h n;rw [ZjX (by omega)];omega
theorem Zlv {t:List Int}(h:∀ i,-2≤gi t i∧gi t i≤1) (hn:t.length≤1000000):Zbo t=some t.sum:=by
 unfold Zbo;rw [Zhm (x:=t.sum)];refine ZbK (fun n:Nat=>((t.take n).sum,(n:Int))) (n:=t.length) (ZaJ (by omega)) rfl (fun k hk=>?_) ?_
 ·have a:=Zlg h k (by omega);have b:=h k;simp only [Zbo.s0,itn];rw [ZU (by omega),Zx (by omega),if_pos (by simp;omega),zZ (by omega),zZ (by omega),ZjX hk,show ((k+1:Nat):Int)=(k:Int)+1 by omega]
 ·simp only [Zbo.s0];rw [ZT (by omega),List.take_length]
def ZbB (l:List Za) (f:List Da):Int:=(tns l f).sum
theorem ZgG {l:List Za}(hc:Ck l):(∀ f∈faces l,∀ p∈f,isD l p)∧(faces l).length≤4*l.length∧(∀ f∈faces l,f.length≤4*l.length)∧(faces l).flatten.Nodup∧∀ p∈(faces l).flatten,isD l p:=by
 have h:=Zhi hc l.length (by omega);have hm:=h.m.len;have hf:=h.fl;refine ⟨h.is,by have:=h.len;unfold faces;omega,fun f hf'=>?_,by unfold faces;rw [hf];exact h.m.nd,fun p hp=>by unfold faces at hp;rw [hf] at hp;exact h.m.is p hp⟩;have:(f).Sublist (faces l).flatten:=List.sublist_flatten_of_mem hf';have:=this.length_le;unfold faces at this;rw [hf] at this;omega
def ZeU:List Int→Int→Int→Option Int
 | [],_,a=>some a
 | r::R,i,a=>if r=4 then ZeU R (i+1) a else if r=-4 then (if 0≤a then none else ZeU R (i+1) i) else none
def Zhb (l:List Za):Option Int:=ZeU ((faces l).map (ZbB l)) 0 (-1)
theorem Zkx {F:Int×Int→Option ((Int×Int)⊕(Int⊕Unit))}{R:List Int}(hR:R.length≤1000000) (h:∀ (i:Nat) (a:Int),i<R.length→F (a,(i:Int))=some (if gi R i=4 then .inl (a,(i:Int)+1) else if gi R i=-4 then (if 0≤a then .inr (.inr ()) else .inl ((i:Int),(i:Int)+1)) else .inr (.inr ()))) (he:∀ a,F (a,(R.length:Int))=some (.inr (.inl a))):ZZ F big (-1,0)=some (match ZeU R 0 (-1) with|some a=>.inl a|none=>.inr ()):=by
 have key:∀ (m n:Nat) (a:Int),n+m=R.length→ZZ F (m+1) (a,(n:Int))=some (match ZeU (R.drop n) n a with|some a=>.inl a|none=>.inr ()):=by
  intro m
  induction m with
  | zero =>
   intro n a hn;have:n=R.length:=by omega
   subst this;rw [ZZ,he,List.drop_length];rfl
  | succ m ih =>
   intro n a hn;have hlt:n<R.length:=by omega
   have d:R.drop n=gi R n::R.drop (n+1):=by rw [ZaH hlt];exact List.drop_eq_getElem_cons hlt
   rw [ZZ,h n a hlt,d,ZeU];by_cases c1:gi R n=4
   ·rw [if_pos c1,if_pos c1];dsimp only;have:=ih (n+1) a (by omega);rw [show ((n+1:Nat):Int)=(n:Int)+1 by omega] at this;exact this
   ·rw [if_neg c1,if_neg c1];by_cases c2:gi R n=-4
    ·rw [if_pos c2,if_pos c2];by_cases c3:0≤a
     ·rw [if_pos c3,if_pos c3]
     ·rw [if_neg c3,if_neg c3];dsimp only;have:=ih (n+1) n (by omega);rw [show ((n+1:Nat):Int)=(n:Int)+1 by omega] at this;exact this
    ·rw [if_neg c2,if_neg c2]
 have:=key R.length 0 (-1) (by omega);rw [List.drop_zero] at this;exact Zdw this (by unfold big;omega)
theorem ZnB {l:List Za}(hl:l.length≤4096) (h:Zgp l=0):Zb3 l=some (match Zhb l with|some a=>(a,decide (0≤a))|none=>(0,false)):=by
 have hc:=(ZfN.1 h).2;obtain ⟨o1,o2,o3,_⟩:=ZgG hc;have L:ZZ (Zb3.s0 l ((faces l).map (List.map dt))) big (-1,0)=some (match Zhb l with|some a=>.inl a|none=>.inr ()):=by
  refine Zkx (R:=(faces l).map (ZbB l)) (by simp;omega) (fun i a hi=>?_) fun a=>?_
  ·have hi':i<(faces l).length:=by simpa using hi
   have hm:=ZaG hi';have fl:=o3 _ hm;simp only [Zb3.s0,itn];rw [ZU (by simp;omega),Zx (by simp;omega),ZcD hi',ZoY hl h (o1 _ hm) (by omega),obs,Zlv ZnV (by rw [Zjy];omega),obs,ZcD hi'];show (if decide (ZbB l (gi (faces l) i)=4)=true then _ else _)=_;by_cases c1:ZbB l (gi (faces l) i)=4
   ·rw [ZU c1,if_pos c1,zZ (by omega)]
   ·rw [ZT c1,if_neg c1];show (if decide (ZbB l (gi (faces l) i)=-4)=true then _ else _)=_;by_cases c2:ZbB l (gi (faces l) i)=-4
    ·rw [ZU c2,if_pos c2];by_cases c3:0≤a
     ·rw [ZU c3,if_pos c3]
     ·rw [ZT c3,if_neg c3,zZ (by omega)]
    ·rw [ZT c2,if_neg c2]
  ·simp only [Zb3.s0];rw [ZT (by simp)]
 unfold Zb3;rw [ZoQ hl h,obs];dsimp only;rw [L,obs];cases Zhb l<;>rfl
theorem Zhd:∀ {R:List Int}{i a b:Int},ZeU R i a=some b→-1≤a→0≤i→(b=a∨(i≤b∧b<i+R.length))
 | [],i,a,b,h,_,_=>by
  simp only [ZeU,Option.some.injEq] at h;exact .inl h.symm
 | r::R,i,a,b,h,ha,hi=>by
  rw [ZeU] at h;split at h
  ·rcases Zhd h ha (by omega) with q|q
   ·exact .inl q
   ·refine .inr ?_;rw [List.length_cons];omega
  ·split at h
   ·split at h
    ·cases h
    ·rcases Zhd h (by omega) (by omega) with q|q
     ·refine .inr ?_;rw [List.length_cons];omega
     ·refine .inr ?_;rw [List.length_cons];omega
   ·cases h
def ZeI (l:List Za):Prop:=((PS l l.length).1.length:Int)=1
noncomputable instance {l:List Za}:Decidable (ZeI l):=by unfold ZeI;infer_instance
noncomputable def Zij (l:List Za):Int :=
 if Zgp l=0 then (if ZeI l then (if l.length=1 then 0 else match Zhb l with|some a=>if 0≤a then 0 else 10|none=>10) else 13) else Zgp l
def ZqN (l:List Za):Int:=if l.length=1 then -1 else match Zhb l with|some a=>a|none=>-1
theorem ZlA {l:List Za}(h:ZeI l):0<l.length:=by
 cases l with
 | nil=>unfold ZeI at h;simp [PS] at h
 | cons a l=>simp
theorem Zls {l:List Za}(hc:Ck l) (h:l.length=1):faces l=[]:=by
 obtain ⟨o1,o2,o3,o4,o5⟩:=ZgG hc;have no:∀ p,¬ isD l p:=by
  intro p hp;have f:=hp.fwd hc;rcases hc.s p.1 p.2 hp.1 hp.2.1 with ⟨a,_⟩|⟨w,a,b,c,_⟩
  ·have:=hp.2.2;omega
  ·have:=hp.1;omega
 have:(faces l).flatten=[]:=by
  cases q:(faces l).flatten with
  | nil=>rfl
  | cons a t=>exact absurd (o5 a (by rw [q];simp)) (no a)
 have len:=(Zhi hc l.length (by omega)).len;have fl:=(Zhi hc l.length (by omega)).fl;unfold faces at this ⊢;rw [fl] at this;rw [this] at len;exact List.length_eq_zero_iff.1 (by simpa using len)
theorem ZkQ {l:List Za}(hl:l.length≤1300):ZcF l=some (Zij l):=by
 unfold ZcF Zij;rw [ZhX (by omega),obs];by_cases h:Zgp l=0
 ·have hc:=(ZfN.1 h).2;rw [Zc6 h,if_pos h,ZoZ hc hl,obs];by_cases w:ZeI l
  ·have hp:=ZlA w;rw [if_pos w,ZcK (show ((PS l l.length).1.length:Int)=1 from w),if_neg (by decide),ZnB (by omega) h,obs];by_cases c:l.length=1
   ·rw [if_pos c];have:Zhb l=some (-1):=by unfold Zhb;rw [Zls hc c];rfl
    rw [this];dsimp only;rw [if_neg (by simp;omega)]
   ·rw [if_neg c]
    cases Zhb l with
    | none=>dsimp only;rw [if_pos (by simp;omega)]
    | some a =>
     dsimp only;by_cases q:0≤a
     ·rw [if_pos q,if_neg (by simp;omega)]
     ·rw [if_neg q,if_pos (by simp;omega)]
  ·rw [if_neg w,Zez (show ¬ ((PS l l.length).1.length:Int)=1 from w),if_pos (by decide)]
 ·rw [Zdi h,if_neg h]
theorem ZnX {l:List Za}(h:Zij l=0):Zgp l=0∧ZeI l∧(l.length≠1→∃ a,Zhb l=some a∧0≤a):=by
 unfold Zij at h;by_cases c:Zgp l=0
 ·rw [if_pos c] at h;by_cases w:ZeI l
  ·rw [if_pos w] at h;refine ⟨c,w,fun h1=>?_⟩;rw [if_neg h1] at h
   cases q:Zhb l with
   | none=>rw [q] at h;exact absurd h (by decide)
   | some a =>
    rw [q] at h;dsimp only at h;by_cases k:0≤a
    ·exact ⟨a,rfl,k⟩
    ·rw [if_neg k] at h;exact absurd h (by decide)
  ·rw [if_neg w] at h;exact absurd h (by decide)
 ·rw [if_neg c] at h;exact absurd h c
end Mu
/- Layers 8 and 11: shapes that may be written have their cells: all that is worked out of them comes to an end. -/
namespace Mu
end Mu
/- Layer 14: ValidTells. -/
namespace Mu
end Mu
/- Sums. -/
namespace Mu
def sg (f:Nat→Int):Nat→Int
 | 0=>0
 | n+1=>sg f n+f n
theorem ZcT {f g:Nat→Int}:∀ {n:Nat},(∀ i,i<n→f i=g i)→sg f n=sg g n
 | 0,_=>rfl
 | n+1,h=>by rw [sg,sg,ZcT (n:=n) fun i hi=>h i (by omega),h n (by omega)]
theorem Zgn {f:Nat→Int}{n:Nat}(h:∀ i,i<n→f i=0):sg f n=0:=by
 induction n with
 | zero=>rfl
 | succ n ih=>rw [sg,ih fun i hi=>h i (by omega),h n (by omega)];rfl
theorem Zjt {f g:Nat→Int}:∀ {n:Nat},sg (fun i=>f i+g i) n=sg f n+sg g n
 | 0=>rfl
 | n+1=>by rw [sg,sg,sg,Zjt (n:=n)];omega
theorem Zk6 {f:Nat→Int}{k:Int}:∀ {n:Nat},sg (fun i=>k*f i) n=k*sg f n
 | 0=>by simp [sg]
 | n+1=>by rw [sg,sg,Zk6 (n:=n),Int.mul_add]
theorem Zjv {f:Nat→Int}:∀ {n j:Nat},j<n→(∀ i,i<n→i≠j→f i=0)→sg f n=f j
 | n+1,j,hj,h=>by
  rw [sg];by_cases c:j=n
  ·subst c;rw [Zgn fun i hi=>h i (by omega) (by omega)];omega
  ·rw [Zjv (j:=j) (by omega) fun i hi=>h i (by omega),h n (by omega) (by omega)];omega
theorem ZhA {f:Nat→Nat→Int}{m:Nat}:∀ {n:Nat},sg (fun i=>sg (f i) m) n=sg (fun j=>sg (fun i=>f i j) n) m
 | 0=>by
  rw [sg,Zgn];intro i _;rfl
 | n+1=>by
  rw [sg,ZhA (n:=n),← Zjt];exact ZcT fun i _=>rfl
end Mu
/- Layer 14: ValidEuler: what turns there are in all,by faces and by cells. -/
namespace Mu
/-! Cells that hang together. -/
theorem ZiL {l:List Za}:∀ {n m:Nat},n≤m→(PS l n).1.length≤(PS l m).1.length
 | n,0,h=>by
  have:n=0:=by omega
  subst this;exact Nat.le_refl _
 | n,m+1,h=>by
  by_cases c:n=m+1
  ·subst c;exact Nat.le_refl _
  ·have:=ZiL (l:=l) (n:=n) (m:=m) (by omega);rw [PS];split
   ·exact this
   ·simp;omega
theorem ZiK {l:List Za}(h:ZeI l) {w:Nat}(hw:w<l.length):∃ n,Rch l 0 n w:=by
 have w1:(PS l l.length).1.length=1:=by unfold ZeI at h;omega
 have e1:PS l 1=([Zej l 0 l.length],Zff l 0 (List.replicate l.length false) l.length):=by
  have g:gi (PS l 0).2 0=false:=by
   show gi (List.replicate l.length false) 0=false;rw [ZaH (by simp;omega)];simp
  rw [PS,if_neg (by rw [g];decide)];rfl
 have key:∀ n,n+1≤l.length→PS l (n+1)=PS l 1:=by
  intro n
  induction n with
  | zero=>intro _;rfl
  | succ n ih =>
   intro hn;have i:=ih (by omega);have m:=ZiL (l:=l) (n:=n+2) (m:=l.length) (by omega);rw [PS];split
   ·exact i
   ·rename_i c;rw [PS,if_neg c] at m;have:=ZiL (l:=l) (n:=1) (m:=n+1) (by omega);rw [e1] at this;simp at m this;omega
 have k:=key (l.length-1) (by omega);rw [show l.length-1+1=l.length by omega] at k;have met:=ZlF (l:=l) l.length (by omega) w hw;rw [k,e1] at met;dsimp only at met;unfold Zff at met;rw [Zcq hw,if_pos hw] at met;have g:gi (List.replicate l.length false) w=false:=by
  rw [ZaH (by simpa using hw)];simp
 rw [g,Bool.false_or] at met;exact Zie.1 met
/-! All ZeG are in the faces. -/
theorem ZmR {l:List Za}{n:Nat}{met:List Da}{x:Da}(h:x ∉ met):x∈walk l (n+1) met x:=by
 rw [walk,if_neg h];simp
theorem Zld {l:List Za}{s:List Da×List (List Da)}{p q:Da}(h:q∈s.1):q∈(stF l s p).1:=by
 unfold stF;split
 ·exact h
 ·exact List.mem_append.2 (.inl h)
theorem ZnU {l:List Za}{s:List Da×List (List Da)}{p:Da}(h:0≤nx l p.1 p.2):p∈(stF l s p).1:=by
 unfold stF;split
 ·rename_i c;rcases c with c|c
  ·omega
  ·exact c
 ·rename_i c;exact List.mem_append.2 (.inr (ZmR fun q=>c (.inr q)))
theorem ZjP {l:List Za}{v:Nat}{s:List Da×List (List Da)}{q:Da}(h:q∈s.1):∀ e,q∈(Zh2 l v s e).1
 | 0=>h
 | e+1=>Zld (ZjP h e)
theorem ZjO {l:List Za}{v:Nat}{s:List Da×List (List Da)}{d:Nat}(h:0≤nx l v d):∀ e,d<e→(v,d)∈(Zh2 l v s e).1
 | e+1,he=>by
  rw [Zh2];by_cases c:d=e
  ·subst c;exact ZnU h
  ·exact Zld (ZjO h e (by omega))
theorem ZlC {l:List Za}{v d:Nat}(hd:d<4) (h:0≤nx l v d):∀ n,v<n→(v,d)∈(FS l n).1
 | n+1,hn=>by
  rw [FS];by_cases c:v=n
  ·subst c;exact ZjO h 4 hd
  ·exact ZjP (ZlC hd h n (by omega)) 4
theorem Zlr {l:List Za}(hc:Ck l) {p:Da}:p∈(faces l).flatten↔isD l p:=by
 constructor
 ·exact (ZgG hc).2.2.2.2 p
 ·intro h;have fl:=(Zhi hc l.length (by omega)).fl;unfold faces;rw [fl];exact ZlC h.2.1 h.2.2 _ h.1
/-! Sums over lists of ZeG. -/
theorem Zib {α:Type}{f:α→Int}{l m:List α}(h:l.Perm m):(l.map f).sum=(m.map f).sum:=by
 induction h with
 | nil=>rfl
 | cons x _ ih=>simp [ih]
 | swap x y l=>simp;omega
 | trans _ _ i1 i2=>rw [i1,i2]
def ZeG (l:List Za):List Da:=(List.range l.length).flatMap fun v=>((List.range 4).filter fun d=>decide (0≤nx l v d)).map fun d=>(v,d)
theorem Zlw {l:List Za}{p:Da}:p∈ZeG l↔isD l p:=by
 unfold ZeG isD;simp only [List.mem_flatMap,List.mem_range,List.mem_map,List.mem_filter,decide_eq_true_eq];constructor
 ·rintro ⟨v,hv,d,⟨hd,h⟩,rfl⟩;exact ⟨hv,hd,h⟩
 ·rintro ⟨h1,h2,h3⟩;exact ⟨p.1,h1,p.2,⟨h2,h3⟩,rfl⟩
theorem Zmi {l:List Za}:(ZeG l).Nodup:=by
 unfold ZeG;rw [List.Nodup,List.pairwise_flatMap];refine ⟨fun v _=>?_,?_⟩
 ·rw [List.pairwise_map];refine (List.Pairwise.filter _ (List.nodup_range (n:=4))).imp ?_;intro a b h e;exact h (congrArg Prod.snd e)
 ·refine (List.nodup_range (n:=l.length)).imp ?_;intro a b h x hx y hy e;obtain ⟨d,_,rfl⟩:=List.mem_map.1 hx;obtain ⟨d',_,rfl⟩:=List.mem_map.1 hy;exact h (congrArg Prod.fst e)
theorem ZgQ {f:Da→Int}:∀ L:List (List Da),(L.flatten.map f).sum=(L.map fun x=>(x.map f).sum).sum
 | []=>rfl
 | x::L=>by rw [List.flatten_cons,List.map_append,List.sum_append,ZgQ L,List.map_cons,List.sum_cons]
theorem Zhh {f:Nat→Int}:∀ n,((List.range n).map f).sum=sg f n
 | 0=>rfl
 | n+1=>by rw [List.range_succ,List.map_append,List.sum_append,Zhh n,sg];simp
theorem Zl6 {l:List Za}{f:Da→Int}:((ZeG l).map f).sum=sg (fun v=>sg (fun d=>if 0≤nx l v d then f (v,d) else 0) 4) l.length:=by
 unfold ZeG;rw [← Zhh];generalize List.range l.length=vs
 induction vs with
 | nil=>rfl
 | cons v vs ih =>
  rw [List.flatMap_cons,List.map_append,List.sum_append,ih,List.map_cons,List.sum_cons];congr 1;rw [← Zhh];generalize List.range 4=ds
  induction ds with
  | nil=>rfl
  | cons d ds ih2 =>
   rw [List.filter_cons];by_cases c:0≤nx l v d
   ·rw [if_pos (by simpa using c),List.map_cons,List.map_cons,List.sum_cons,ih2,List.map_cons,List.sum_cons,if_pos c]
   ·rw [if_neg (by simpa using c),ih2,List.map_cons,List.sum_cons,if_neg c];omega
theorem ZnQ {f:Nat→Int}:sg f 4=f 0+f 1+f 2+f 3:=by
 show 0+f 0+f 1+f 2+f 3=_;omega
def arr (l:List Za) (w d:Nat):Int :=
 if 0≤nx l w ((d+1)%4) then 1 else if 0≤nx l w d then 0 else if 0≤nx l w ((d+3)%4) then -1 else -2
theorem Zqw {l:List Za}{p:Da}(h:p.2<4):tn p.2 (bh l p).2=arr l (nx l p.1 p.2).toNat p.2:=by
 unfold bh arr tn;have h1:¬ (p.2+1)%4=p.2:=by omega
 have h2:¬ (p.2+3)%4=p.2:=by omega
 have h3:¬ (p.2+2)%4=p.2:=by omega
 have h4:¬ (p.2+3)%4=(p.2+1)%4:=by omega
 have h5:¬ (p.2+2)%4=(p.2+1)%4:=by omega
 have h6:¬ (p.2+2)%4=(p.2+3)%4:=by omega
 by_cases c0:0≤nx l (nx l p.1 p.2).toNat ((p.2+1)%4)
 ·simp [c0,h1]
 ·by_cases c1:0≤nx l (nx l p.1 p.2).toNat p.2
  ·simp [c0,c1]
  ·by_cases c2:0≤nx l (nx l p.1 p.2).toNat ((p.2+3)%4)
   ·simp [c0,c1,c2,h2,h4]
   ·simp [c0,c1,c2,h3,h5,h6]
def deg (l:List Za) (w:Nat):Int:=sg (fun d=>if 0≤nx l w d then 1 else 0) 4
theorem Zkc {l:List Za}{w:Nat}(h:∃ d,d<4∧0≤nx l w d):sg (fun d=>if 0≤nx l w ((d+2)%4) then arr l w d else 0) 4=2*deg l w-4:=by
 unfold deg;rw [ZnQ,ZnQ];unfold arr;simp only [show (0+2)%4=2 from rfl,show (1+2)%4=3 from rfl,show (2+2)%4=0 from rfl,show (3+2)%4=1 from rfl,show (0+1)%4=1 from rfl,show (1+1)%4=2 from rfl,show (2+1)%4=3 from rfl,show (3+1)%4=0 from rfl,show (0+3)%4=3 from rfl,show (1+3)%4=0 from rfl,show (2+3)%4=1 from rfl,show (3+3)%4=2 from rfl];by_cases c0:0≤nx l w 0<;>by_cases c1:0≤nx l w 1<;>by_cases c2:0≤nx l w 2<;>by_cases c3:0≤nx l w 3<;>simp [c0,c1,c2,c3];obtain ⟨d,hd,q⟩:=h;have:d=0∨d=1∨d=2∨d=3:=by omega
 rcases this with rfl|rfl|rfl|rfl<;>omega
theorem Zjw {f g:Nat→Int}:∀ {n:Nat},sg (fun i=>f i-g i) n=sg f n-sg g n
 | 0=>rfl
 | n+1=>by rw [sg,sg,sg,Zjw (n:=n)];omega
theorem Ck.back' {l:List Za}(h:Ck l) {v d w:Nat}(hv:v<l.length) (hd:d<4) (hw:nx l v d=w):w<l.length∧nx l w ((d+2)%4)=v:=by
 rcases h.s v d hv hd with ⟨a,_⟩|⟨u,a,b,_,c,_⟩
 ·omega
 ·have:w=u:=by omega
  subst this;exact ⟨b,c⟩
theorem ZmN {l:List Za}(hc:Ck l) {d:Nat}(hd:d<4) {f g:Nat→Int}(hf:∀ v,v<l.length→nx l v d<0→f v=0) (hg:∀ v,v<l.length→nx l v ((d+2)%4)<0→g v=0) (h:∀ v w:Nat,v<l.length→w<l.length→nx l v d=w→f v=g w):sg f l.length=sg g l.length:=by
 have e1:sg f l.length=sg (fun v=>sg (fun w=>if nx l v d=w then f v else 0) l.length) l.length:=by
  refine ZcT fun v hv=>?_;have hlt:=hc.lt hv hd;by_cases c:nx l v d<0
  ·rw [hf v hv c,Zgn];intro i _;rw [if_neg (by omega)]
  ·rw [Zjv (j:=(nx l v d).toNat) (by omega)]
   ·rw [if_pos (by omega)]
   ·intro i _ hne;rw [if_neg (by omega)]
 have e2:sg g l.length=sg (fun w=>sg (fun v=>if nx l w ((d+2)%4)=v then g w else 0) l.length) l.length:=by
  refine ZcT fun v hv=>?_;have hlt:=hc.lt hv (show (d+2)%4<4 by omega);by_cases c:nx l v ((d+2)%4)<0
  ·rw [hg v hv c,Zgn];intro i _;rw [if_neg (by omega)]
  ·rw [Zjv (j:=(nx l v ((d+2)%4)).toNat) (by omega)]
   ·rw [if_pos (by omega)]
   ·intro i _ hne;rw [if_neg (by omega)]
 rw [e1,e2,ZhA];refine ZcT fun w hw=>ZcT fun v hv=>?_;by_cases c:nx l v d=w
 ·have:=(hc.back' hv hd c).2;rw [if_pos c,if_pos this,h v w hv hw c]
 ·rw [if_neg c,if_neg];intro q;have:=(hc.back' hw (show (d+2)%4<4 by omega) q).2;rw [show ((d+2)%4+2)%4=d by omega] at this;exact c this
theorem Zhe:∀ {R:List Int}{i a b:Int},ZeU R i a=some b→0≤i→R.sum=4*(R.length:Int)-(if 0≤b∧a<0 then 8 else 0)
 | [],i,a,b,h,hi=>by
  simp only [ZeU,Option.some.injEq] at h;subst h;rw [if_neg (by omega)];rfl
 | r::R,i,a,b,h,hi=>by
  rw [ZeU] at h;rw [List.sum_cons,List.length_cons];by_cases c1:r=4
  ·rw [if_pos c1] at h;have:=Zhe h (by omega);rw [this];omega
  ·rw [if_neg c1] at h;by_cases c2:r=-4
   ·rw [if_pos c2] at h;by_cases c3:0≤a
    ·rw [if_pos c3] at h;cases h
    ·rw [if_neg c3] at h;have:=Zhe h (by omega);have rg:=Zhd h (by omega) (by omega);rw [if_neg (by omega)] at this;rw [this,if_pos (by omega)];omega
   ·rw [if_neg c2] at h;cases h
theorem ZjC {l:List Za}{a:Int}(h:Zhb l=some a) (ha:0≤a):((faces l).flatten.map fun p=>tn p.2 (bh l p).2).sum=4*((faces l).length:Int)-8:=by
 have:=Zhe h (by omega);rw [if_pos (by omega),List.length_map] at this;rw [ZgQ,← this];rfl
end Mu
/- Layer 12: faces are the ways round of 'behind';what stays of them where cells are turned or split. -/
namespace Mu
def prv (A:Nat→Bool) (d:Nat):Nat:=if A ((d+1)%4)=true then (d+1)%4 else if A d=true then d else if A ((d+3)%4)=true then (d+3)%4 else (d+2)%4
def Zdp (a b c d:Bool) (n:Nat):Bool:=if n=0 then a else if n=1 then b else if n=2 then c else d
theorem ZmD:∀ a b c d:Bool,∀ i j:Fin 4,Zdp a b c d ((i.1+2)%4)=true→Zdp a b c d ((j.1+2)%4)=true→prv (Zdp a b c d) i.1=prv (Zdp a b c d) j.1→i=j:=by decide
theorem ZdV {A:Nat→Bool}{n:Nat}(h:n<4):Zdp (A 0) (A 1) (A 2) (A 3) n=A n:=by
 have:n=0∨n=1∨n=2∨n=3:=by omega
 rcases this with rfl|rfl|rfl|rfl<;>rfl
theorem Zfg {A:Nat→Bool}{d:Nat}(h:d<4):prv (Zdp (A 0) (A 1) (A 2) (A 3)) d=prv A d:=by
 unfold prv;rw [ZdV (by omega),ZdV h,ZdV (by omega)]
theorem ZnN {A:Nat→Bool}{i j:Nat}(hi:i<4) (hj:j<4) (h1:A ((i+2)%4)=true) (h2:A ((j+2)%4)=true) (h:prv A i=prv A j):i=j:=by
 have:=ZmD (A 0) (A 1) (A 2) (A 3) ⟨i,hi⟩ ⟨j,hj⟩ (by dsimp only;rw [ZdV (by omega)];exact h1) (by dsimp only;rw [ZdV (by omega)];exact h2) (by dsimp only;rw [Zfg hi,Zfg hj];exact h);exact congrArg Fin.val this
theorem Zfh {l:List Za}{p:Da}:bh l p=((nx l p.1 p.2).toNat,prv (fun e=>decide (0≤nx l (nx l p.1 p.2).toNat e)) p.2):=by
 unfold bh prv;simp only [decide_eq_true_eq];split
 ·rfl
 ·split
  ·rfl
  ·split<;>rfl
theorem ZgV {l:List Za}(hc:Ck l) {p q:Da}(hp:isD l p) (hq:isD l q) (h:bh l p=bh l q):p=q:=by
 have f:=hp.fwd hc;have g:=hq.fwd hc;rw [Zfh,Zfh] at h;injection h with h1 h2
 rw [← h1] at h2 g;have d:p.2=q.2:=ZnN hp.2.1 hq.2.1 (by simp;rw [f.2];omega) (by simp;rw [g.2];omega) h2;have v:p.1=q.1:=by
  have a:=f.2;have b:=g.2;rw [← d] at b;rw [a] at b;omega
 exact Prod.ext v d
def it (l:List Za):Nat→Da→Da
 | 0,x=>x
 | n+1,x=>bh l (it l n x)
theorem Zmv {l:List Za}:∀ n x,it l n (bh l x)=it l (n+1) x
 | 0,_=>rfl
 | n+1,x=>by rw [it,Zmv n x];rfl
theorem ZgK {l:List Za}(hc:Ck l) {x:Da}(hx:isD l x):∀ n,isD l (it l n x)
 | 0=>hx
 | n+1=>(ZgK hc hx n).bh hc
theorem Zj0 {l:List Za}(hc:Ck l):∀ (n:Nat) (met:List Da) (x:Da),Mets l met→isD l x→4*l.length<met.length+n→∃ K,walk l n met x=(List.range K).map (fun i=>it l i x)∧it l K x∈met++walk l n met x
 | 0,met,x,h,_,hn=>by have:=h.len;omega
 | n+1,met,x,h,hx,hn=>by
  rw [walk];by_cases c:x∈met
  ·rw [if_pos c];exact ⟨0,rfl,by rw [List.append_nil];exact c⟩
  ·rw [if_neg c];obtain ⟨K,e1,e2⟩:=Zj0 hc n (met++[x]) (bh l x) (h.snoc hx c) (hx.bh hc) (by simp;omega);refine ⟨K+1,?_,?_⟩
   ·rw [e1,List.range_succ_eq_map,List.map_cons,List.map_map];congr 1;exact List.map_congr_left fun i _=>Zmv i x
   ·rw [Zmv] at e2;rw [List.append_assoc] at e2;exact e2
structure Cyc (l:List Za) (f:List Da):Prop where
 ne:f≠[]
 nd:f.Nodup
 is:∀ p∈f,isD l p
 cl:∀ p∈f,bh l p∈f
 one:∀ C:Da→Prop,(∀ x,isD l x→C x→C (bh l x))→∀ p∈f,∀ q∈f,C p→C q
theorem Cyc.sub {l:List Za}{f g:List Da}(hf:Cyc l f) (hg:Cyc l g) {p:Da}(h1:p∈f) (h2:p∈g):∀ q∈f,q∈g :=
 fun q hq=>hf.one (fun x=>x∈g) (fun x _ hx=>hg.cl x hx) p h1 q hq h2
theorem Cyc.perm {l:List Za}{f g:List Da}(hf:Cyc l f) (hg:Cyc l g) {p:Da}(h1:p∈f) (h2:p∈g):f.Perm g :=
 (List.perm_ext_iff_of_nodup hf.nd hg.nd).2 fun q=>⟨hf.sub hg h1 h2 q,hg.sub hf h2 h1 q⟩
theorem ZkM {M N:List Da}(hM:M.Nodup) (hN:N.Nodup) (hs:∀ x∈M,x∈N) (hl:N.length≤M.length):∀ x∈N,x∈M:=by
 intro x hx;refine Classical.byContradiction fun h=>?_;have:=(List.nodup_cons.2 ⟨h,hM⟩).length_le_of_subset (l₂:=N) (fun y hy=>by
  rcases List.mem_cons.1 hy with rfl|hy
  ·exact hx
  ·exact hs y hy)
 simp at this;omega
theorem Zj9 {l:List Za}(hc:Ck l) {M:List Da}(hM:Mets l M) (cl:∀ p∈M,bh l p∈M) {x:Da}(hx:isD l x) (h:bh l x∈M):x∈M:=by
 have nd:(M.map (bh l)).Nodup:=List.pairwise_map.2 (hM.nd.imp_of_mem fun {p q} hp hq hne he=>hne (ZgV hc (hM.is p hp) (hM.is q hq) he));have:=ZkM nd hM.nd (fun y hy=>by
  obtain ⟨p,hp,rfl⟩:=List.mem_map.1 hy;exact cl p hp) (by simp) _ h
 obtain ⟨z,hz,e⟩:=List.mem_map.1 this;rw [← ZgV hc (hM.is z hz) hx e];exact hz
theorem Zik {l:List Za}(hc:Ck l) {M:List Da}(hM:Mets l M) (cl:∀ p∈M,bh l p∈M) {x:Da}(hx:isD l x) (hn:x ∉ M):Cyc l (walk l (4*l.length+1) M x)∧∀ p∈M++walk l (4*l.length+1) M x,bh l p∈M++walk l (4*l.length+1) M x:=by
 obtain ⟨K,e1,e2⟩:=Zj0 hc (4*l.length+1) M x hM hx (by omega);have hw:=Mets.walk (n:=4*l.length+1) hc hM hx;have wis:=Zjz (n:=4*l.length+1) (met:=M) hc hx;have wnd:(walk l (4*l.length+1) M x).Nodup:=(List.nodup_append.1 hw.nd).2.1;generalize walk l (4*l.length+1) M x=w at *;have notM:∀ i,it l i x ∉ M:=by
  intro i
  induction i with
  | zero=>exact hn
  | succ i ih=>exact fun h=>ih (Zj9 hc hM cl (ZgK hc hx i) h)
 have memw:∀ {y},y∈w↔∃ i,i<K∧it l i x=y:=by
  intro y;rw [e1];simp [List.mem_map,List.mem_range]
 have inj:∀ i j,i<K→j<K→it l i x=it l j x→i=j:=by
  intro i j hi hj h;rw [e1] at wnd;have:=List.pairwise_map.1 wnd;rw [List.pairwise_iff_getElem] at this;refine Classical.byContradiction fun hne=>?_;rcases Nat.lt_or_gt_of_ne hne with q|q
  ·exact this i j (by simpa using hi) (by simpa using hj) q (by simpa using h)
  ·exact this j i (by simpa using hj) (by simpa using hi) q (by simpa using h.symm)
 have back:it l K x=x:=by
  rcases List.mem_append.1 e2 with h|h
  ·exact absurd h (notM K)
  ·obtain ⟨j,hj,e⟩:=memw.1 h
   cases j with
   | zero=>exact e.symm
   | succ j =>
    cases K with
    | zero=>omega
    | succ K =>
     have:=ZgV hc (ZgK hc hx j) (ZgK hc hx K) e;have:=inj j K (by omega) (by omega) this;omega
 have hK:0<K:=by
  cases K with
  | zero=>rw [e1] at e2;simp [it] at e2;exact absurd e2 hn
  | succ K=>omega
 have wcl:∀ p∈w,bh l p∈w:=by
  intro p hp;obtain ⟨i,hi,rfl⟩:=memw.1 hp;by_cases c:i+1<K
  ·exact memw.2 ⟨i+1,c,rfl⟩
  ·have:i+1=K:=by omega
   refine memw.2 ⟨0,hK,?_⟩;show x=it l (i+1) x;rw [this,back]
 refine ⟨⟨?_,wnd,wis,wcl,?_⟩,?_⟩
 ·intro h;have:x∈w:=memw.2 ⟨0,hK,rfl⟩;rw [h] at this;simp at this
 ·intro C hC p hp q hq hCp;obtain ⟨i,hi,rfl⟩:=memw.1 hp;obtain ⟨j,hj,rfl⟩:=memw.1 hq;have up:∀ m,C (it l (i+m) x):=by
   intro m
   induction m with
   | zero=>exact hCp
   | succ m ih=>exact hC _ (ZgK hc hx _) ih
  have h0:C x:=by
   have:=up (K-i);rw [show i+(K-i)=K by omega,back] at this;exact this
  have up0:∀ m,C (it l m x):=by
   intro m
   induction m with
   | zero=>exact h0
   | succ m ih=>exact hC _ (ZgK hc hx _) ih
  exact up0 j
 ·intro p hp;rcases List.mem_append.1 hp with h|h
  ·exact List.mem_append.2 (.inl (cl p h))
  ·exact List.mem_append.2 (.inr (wcl p h))
structure FC (l:List Za) (s:List Da×List (List Da)):Prop where
 fi:FI l s
 cl:∀ p∈s.1,bh l p∈s.1
 cy:∀ f∈s.2,Cyc l f
theorem FC.st {l:List Za}(hc:Ck l) {s:List Da×List (List Da)}(h:FC l s) {p:Da}(h1:p.1<l.length) (h2:p.2<4):FC l (stF l s p):=by
 refine ⟨h.fi.st hc h1 h2,?_,?_⟩<;>unfold stF
 ·split
  ·exact h.cl
  ·rename_i c;exact (Zik hc h.fi.m h.cl ⟨h1,h2,by omega⟩ fun q=>c (.inr q)).2
 ·split
  ·exact h.cy
  ·rename_i c;intro f hf;rcases List.mem_append.1 hf with k|k
   ·exact h.cy f k
   ·rw [List.mem_singleton.1 k];exact (Zik hc h.fi.m h.cl ⟨h1,h2,by omega⟩ fun q=>c (.inr q)).1
theorem FC.row {l:List Za}(hc:Ck l) {s:List Da×List (List Da)}(h:FC l s) {v:Nat}(hv:v<l.length):∀ e,e≤4→FC l (Zh2 l v s e)
 | 0,_=>h
 | e+1,he=>(FC.row hc h hv e (by omega)).st hc hv (by dsimp only;omega)
theorem ZlB {l:List Za}(hc:Ck l):∀ v,v≤l.length→FC l (FS l v)
 | 0,_=>⟨Zhi hc 0 (by omega),by simp [FS],by simp [FS]⟩
 | v+1,hv=>(ZlB hc v (by omega)).row hc (by omega) 4 (by omega)
theorem Zfs {l:List Za}(hc:Ck l):∀ f∈faces l,Cyc l f:=(ZlB hc l.length (by omega)).cy
def Val (l:List Za):Prop:=(∀ i,i<(faces l).length→ZbB l (gi (faces l) i)=4∨ZbB l (gi (faces l) i)=-4)∧(∃ i,i<(faces l).length∧ZbB l (gi (faces l) i)=-4)∧∀ i j,i<(faces l).length→j<(faces l).length→ZbB l (gi (faces l) i)=-4→ZbB l (gi (faces l) j)=-4→i=j
theorem Zhc:∀ {R:List Int}{i a:Int},0≤i→-1≤a→((∃ b,ZeU R i a=some b∧0≤b)↔(∀ k,k<R.length→gi R k=4∨gi R k=-4)∧(if 0≤a then ∀ k,k<R.length→gi R k≠-4 else (∃ k,k<R.length∧gi R k=-4)∧∀ k m,k<R.length→m<R.length→gi R k=-4→gi R m=-4→k=m))
 | [],i,a,hi,ha=>by
  simp only [ZeU,List.length_nil];constructor
  ·rintro ⟨b,h,hb⟩;simp only [Option.some.injEq] at h;subst h;rw [if_pos hb];exact ⟨fun k hk=>by omega,fun k hk=>by omega⟩
  ·rintro ⟨_,h⟩;by_cases c:0≤a
   ·exact ⟨a,rfl,c⟩
   ·rw [if_neg c] at h;obtain ⟨⟨k,hk,_⟩,_⟩:=h;omega
 | r::R,i,a,hi,ha=>by
  have g0:gi (r::R) 0=r:=rfl;have gs:∀ k,gi (r::R) (k+1)=gi R k:=fun k=>rfl;rw [ZeU];by_cases c1:r=4
  ·rw [if_pos c1,Zhc (R:=R) (by omega) ha];have all:(∀ k,k<R.length→gi R k=4∨gi R k=-4)↔∀ k,k<(r::R).length→gi (r::R) k=4∨gi (r::R) k=-4:=by
    constructor
    ·intro h k hk
     cases k with
     | zero=>exact .inl c1
     | succ k=>exact h k (by simp at hk;omega)
    ·intro h k hk;exact h (k+1) (by simp;omega)
   rw [all];by_cases c:0≤a
   ·rw [if_pos c,if_pos c];refine and_congr_right fun _=>⟨fun h k hk=>?_,fun h k hk=>h (k+1) (by simp;omega)⟩
    cases k with
    | zero=>rw [g0];omega
    | succ k=>exact h k (by simp at hk;omega)
   ·rw [if_neg c,if_neg c];refine and_congr_right fun _=>⟨?_,?_⟩
    ·rintro ⟨⟨k,hk,e⟩,u⟩;refine ⟨⟨k+1,by simp;omega,e⟩,fun k m hk hm e1 e2=>?_⟩
     cases k with
     | zero=>rw [g0] at e1;omega
     | succ k =>
      cases m with
      | zero=>rw [g0] at e2;omega
      | succ m=>rw [u k m (by simp at hk;omega) (by simp at hm;omega) e1 e2]
    ·rintro ⟨⟨k,hk,e⟩,u⟩
     cases k with
     | zero=>rw [g0] at e;omega
     | succ k=>exact ⟨⟨k,by simp at hk;omega,e⟩,fun k m hk hm e1 e2=>by have:=u (k+1) (m+1) (by simp;omega) (by simp;omega) e1 e2;omega⟩
  ·rw [if_neg c1];by_cases c2:r=-4
   ·rw [if_pos c2];by_cases c:0≤a
    ·rw [if_pos c,if_pos c];constructor
     ·rintro ⟨b,h,_⟩;cases h
     ·rintro ⟨_,h⟩;exact absurd c2 (h 0 (by simp))
    ·rw [if_neg c,if_neg c,Zhc (R:=R) (by omega) (by omega),if_pos hi];constructor
     ·rintro ⟨h1,h2⟩;refine ⟨fun k hk=>?_,⟨0,by simp,c2⟩,fun k m hk hm e1 e2=>?_⟩
      ·cases k with
       | zero=>exact .inr c2
       | succ k=>exact h1 k (by simp at hk;omega)
      ·cases k with
       | zero =>
        cases m with
        | zero=>rfl
        | succ m=>exact absurd e2 (h2 m (by simp at hm;omega))
       | succ k=>exact absurd e1 (h2 k (by simp at hk;omega))
     ·rintro ⟨h1,_,u⟩;refine ⟨fun k hk=>h1 (k+1) (by simp;omega),fun k hk e=>?_⟩;have:=u 0 (k+1) (by simp) (by simp;omega) c2 e;omega
   ·rw [if_neg c2];constructor
    ·rintro ⟨b,h,_⟩;cases h
    ·rintro ⟨h,_⟩;have:=h 0 (by simp);rw [g0] at this;omega
theorem ZhY {l:List Za}:(∃ a,Zhb l=some a∧0≤a)↔Val l:=by
 unfold Zhb;rw [Zhc (by omega) (by omega),if_neg (by omega)];unfold Val;rw [List.length_map];have g:∀ k,k<(faces l).length→gi ((faces l).map (ZbB l)) k=ZbB l (gi (faces l) k):=fun k hk=>ZcD hk;refine and_congr ⟨fun h i hi=>by rw [← g i hi];exact h i hi,fun h i hi=>by rw [g i hi];exact h i hi⟩ (and_congr ⟨?_,?_⟩ ⟨?_,?_⟩)
 ·rintro ⟨k,hk,e⟩;exact ⟨k,hk,by rw [← g k hk];exact e⟩
 ·rintro ⟨k,hk,e⟩;exact ⟨k,hk,by rw [g k hk];exact e⟩
 ·intro u i j hi hj e1 e2;exact u i j hi hj (by rw [g i hi];exact e1) (by rw [g j hj];exact e2)
 ·intro u i j hi hj e1 e2;exact u i j hi hj (by rw [← g i hi];exact e1) (by rw [← g j hj];exact e2)
theorem ZmQ {l:List Za}:Zij l=0↔Zgp l=0∧ZeI l∧(l.length≠1→Val l):=by
 constructor
 ·intro h;obtain ⟨a,b,c⟩:=ZnX h;exact ⟨a,b,fun h1=>ZhY.1 (c h1)⟩
 ·rintro ⟨a,b,c⟩;unfold Zij;rw [if_pos a,if_pos b];by_cases h1:l.length=1
  ·rw [if_pos h1]
  ·rw [if_neg h1];obtain ⟨x,e,hx⟩:=ZhY.2 (c h1);rw [e];dsimp only;rw [if_pos hx]
theorem Znw {l:List Za}(hc:Ck l) {p:Da}(hp:isD l p) (all:∀ q,isD l q→q∈(faces l).flatten):∃ i,i<(faces l).length∧p∈gi (faces l) i:=by
 obtain ⟨f,hf,h⟩:=List.mem_flatten.1 (all p hp);obtain ⟨i,hi,e⟩:=List.mem_iff_getElem.1 hf;exact ⟨i,hi,by rw [ZaH hi,e];exact h⟩
end Mu
/- Layer 10: GridSplits,GridTurns,GridChecks. -/
namespace Mu
theorem ZqJ {z:zT}(m1:z.At.length≤Go.maxLen) (b1:∀ y∈z.At,ZfX y) (b3:∀ y∈z.Own,ZkB y):OkZ z:=⟨m1,b1,b3⟩
end Mu
/- Layer 10: GridTurns,GridChecks,GridNil. -/
namespace Mu
end Mu
/- Layer 14: turned cells can be drawn just if they could. -/
namespace Mu
theorem Zox {l:List Za}(hc:Ck l):∀ q,isD l q→q∈(faces l).flatten:=by
 have sub1:∀ {s:List Da×List (List Da)}{p q:Da},q∈s.1→q∈(stF l s p).1:=by
  intro s p q h;unfold stF;split
  ·exact h
  ·exact List.mem_append.2 (.inl h)
 have has1:∀ {s:List Da×List (List Da)}{p:Da},0≤nx l p.1 p.2→p∈(stF l s p).1:=by
  intro s p h;unfold stF;split
  ·rename_i c;rcases c with c|c
   ·omega
   ·exact c
  ·rename_i c;refine List.mem_append.2 (.inr ?_);rw [walk,if_neg fun q=>c (.inr q)];simp
 have sub2:∀ {v:Nat}{s:List Da×List (List Da)}{q:Da},q∈s.1→∀ e,q∈(Zh2 l v s e).1:=by
  intro v s q h e
  induction e with
  | zero=>exact h
  | succ e ih=>exact sub1 ih
 have has2:∀ {v d:Nat}{s:List Da×List (List Da)},0≤nx l v d→∀ e,d<e→(v,d)∈(Zh2 l v s e).1:=by
  intro v d s h e
  induction e with
  | zero=>intro he;omega
  | succ e ih =>
   intro he;rw [Zh2];by_cases c:d=e
   ·subst c;exact has1 h
   ·exact sub1 (ih (by omega))
 have has3:∀ {v d:Nat},d<4→0≤nx l v d→∀ n,v<n→(v,d)∈(FS l n).1:=by
  intro v d hd h n
  induction n with
  | zero=>intro hn;omega
  | succ n ih =>
   intro hn;rw [FS];by_cases c:v=n
   ·subst c;exact has2 h 4 hd
   ·exact sub2 (ih (by omega)) 4
 intro q h;have fl:=(Zhi hc l.length (by omega)).fl;unfold faces;rw [fl];exact has3 h.2.1 h.2.2 _ h.1
end Mu
/- Loops of ZeG;what becomes of them where an edge is taken out. -/
namespace Mu
def opp (l:List Za) (p:Da):Da:=((nx l p.1 p.2).toNat,(p.2+2)%4)
theorem isD.opp {l:List Za}(hc:Ck l) {p:Da}(h:isD l p):isD l (opp l p):=by
 have f:=h.fwd hc;refine ⟨f.1,by unfold Mu.opp;dsimp only;omega,?_⟩;show 0≤nx l (nx l p.1 p.2).toNat ((p.2+2)%4);rw [f.2];omega
theorem ZcW {l:List Za}(hc:Ck l) {p:Da}(h:isD l p):opp l (opp l p)=p:=by
 have f:=h.fwd hc;have:=h.2.1;unfold opp;refine Prod.ext ?_ (by dsimp only;omega);dsimp only;rw [f.2];omega
theorem Zph {l:List Za}(hc:Ck l) {p:Da}(h:isD l p):(opp l p).1≠p.1:=by
 rcases hc.s p.1 p.2 h.1 h.2.1 with ⟨a,_⟩|⟨w,a,b,c,_⟩
 ·have:=h.2.2;omega
 ·unfold opp;dsimp only;rw [a,itn];exact c
theorem ZiD {A B:Nat→Bool}(h:∀ e,e<4→A e=B e) {d:Nat}(hd:d<4):prv A d=prv B d:=by
 unfold prv;rw [h _ (by omega),h _ hd,h _ (by omega)]
theorem ZmE {A:Nat→Bool}{d:Nat}(hd:d<4):prv A d<4:=by
 unfold prv;split
 ·omega
 ·split
  ·omega
  ·split<;>omega
def tt (l:List Za) (p:Da):Int:=tn p.2 (bh l p).2
def Pt (l:List Za):Da→List Da→Da→Prop
 | x,[],y=>x=y
 | x,a::t,y=>x=a∧isD l a∧Pt l (bh l a) t y
theorem Pt.app {l:List Za}:∀ {s t:List Da}{x z:Da},Pt l x (s++t) z↔∃ y,Pt l x s y∧Pt l y t z
 | [],t,x,z=>by
  rw [List.nil_append];constructor
  ·exact fun h=>⟨x,rfl,h⟩
  ·rintro ⟨y,rfl,h⟩;exact h
 | a::s,t,x,z=>by
  rw [List.cons_append,Pt,Pt.app];constructor
  ·rintro ⟨h1,h2,y,h3,h4⟩;exact ⟨y,⟨h1,h2,h3⟩,h4⟩
  ·rintro ⟨y,⟨h1,h2,h3⟩,h4⟩;exact ⟨h1,h2,y,h3,h4⟩
theorem Pt.is {l:List Za}:∀ {s:List Da}{x y:Da},Pt l x s y→∀ p∈s,isD l p
 | [],_,_,_,p,hp=>by simp at hp
 | a::s,x,y,h,p,hp=>by
  rcases List.mem_cons.1 hp with rfl|hp
  ·exact h.2.1
  ·exact Pt.is h.2.2 p hp
structure Lp (l:List Za) (f:List Da):Prop where
 ne:f≠[]
 nd:f.Nodup
 pt:∃ x,Pt l x f x
theorem Lp.turn {l:List Za}{s t:List Da}(h:Lp l (s++t)):Lp l (t++s):=by
 obtain ⟨x,hx⟩:=h.pt;obtain ⟨y,h1,h2⟩:=Pt.app.1 hx;refine ⟨?_,?_,y,Pt.app.2 ⟨x,h2,h1⟩⟩
 ·intro e;obtain ⟨a,b⟩:=List.append_eq_nil_iff.1 e;exact h.ne (by rw [a,b];rfl)
 ·exact (List.perm_append_comm.nodup_iff).1 h.nd
theorem Lp.is {l:List Za}{f:List Da}(h:Lp l f):∀ p∈f,isD l p:=h.pt.choose_spec.is
theorem Lp.hd {l:List Za}{a:Da}{t:List Da}(h:Lp l (a::t)):isD l a∧Pt l (bh l a) t a:=by
 obtain ⟨x,hx⟩:=h.pt;rw [Pt] at hx;obtain ⟨rfl,h1,h2⟩:=hx;exact ⟨h1,h2⟩
theorem Lp.at {l:List Za}{f:List Da}(h:Lp l f) {p:Da}(hp:p∈f):∃ t,Lp l (p::t)∧f.Perm (p::t):=by
 obtain ⟨s,t,rfl⟩:=List.append_of_mem hp;refine ⟨t++s,?_,?_⟩
 ·have:=h.turn;rwa [List.cons_append] at this
 ·exact List.perm_middle.trans (List.Perm.cons _ List.perm_append_comm)
theorem Pt.cl {l:List Za}{C:Da→Prop}(hC:∀ x,isD l x→C x→C (bh l x)):∀ {s:List Da}{x y:Da},Pt l x s y→C x→(∀ p∈s,C p)∧C y
 | [],x,y,h,hx=>by
  rw [Pt] at h;subst h;exact ⟨by simp,hx⟩
 | a::s,x,y,h,hx=>by
  rw [Pt] at h;obtain ⟨rfl,h1,h2⟩:=h;have:=Pt.cl hC h2 (hC _ h1 hx);refine ⟨fun p hp=>?_,this.2⟩;rcases List.mem_cons.1 hp with rfl|hp
  ·exact hx
  ·exact this.1 p hp
theorem Lp.cyc {l:List Za}{f:List Da}(h:Lp l f):Cyc l f:=by
 refine ⟨h.ne,h.nd,h.is,fun p hp=>?_,fun C hC p hp q hq hCp=>?_⟩
 ·obtain ⟨t,h1,h2⟩:=h.at hp;have:=h1.hd.2;rw [h2.mem_iff]
  cases t with
  | nil=>rw [Pt] at this;rw [this];simp
  | cons b t=>rw [Pt] at this;rw [this.1];simp
 ·obtain ⟨t,h1,h2⟩:=h.at hp;have:=(h1.hd.2.cl hC (hC p h1.hd.1 hCp)).1;rcases List.mem_cons.1 (h2.mem_iff.1 hq) with rfl|k
  ·exact hCp
  ·exact this q k
theorem Zob {l:List Za}(hc:Ck l) {x:Da}(hx:isD l x):∀ n,Pt l x ((List.range n).map fun i=>it l i x) (it l n x)
 | 0=>rfl
 | n+1=>by
  rw [List.range_succ,List.map_append,Pt.app];exact ⟨_,Zob hc hx n,rfl,ZgK hc hx n,rfl⟩
theorem ZmA {l:List Za}(hc:Ck l) {p:Da}(hp:isD l p):∃ t,Lp l (p::t):=by
 obtain ⟨K,e1,e2⟩:=Zj0 hc (4*l.length+1) [] p Mets.nil hp (by simp);obtain ⟨C,_⟩:=Zik hc Mets.nil (by simp) hp (by simp);have nd:=C.nd;rw [List.nil_append] at e2;rw [e1] at nd e2;obtain ⟨j,hj,e⟩:=List.mem_map.1 e2;rw [List.mem_range] at hj;have hK:it l K p=p:=by
  cases j with
  | zero=>exact e.symm
  | succ j =>
   cases K with
   | zero=>omega
   | succ K =>
    have:=ZgV hc (ZgK hc hp j) (ZgK hc hp K) e;have q:=List.pairwise_map.1 nd;rw [List.pairwise_iff_getElem] at q;have q2:=q j K (by simp;omega) (by simp) (by omega);rw [List.getElem_range,List.getElem_range] at q2;exact absurd this q2
 have P:=Zob hc hp K;rw [hK] at P
 cases K with
 | zero=>omega
 | succ K =>
  rw [List.range_succ_eq_map,List.map_cons] at P nd;exact ⟨_,by simp,nd,p,P⟩
theorem ZjM {l:List Za}{s t:List Da}:ZbB l (s++t)=ZbB l s+ZbB l t:=by
 unfold ZbB tns;rw [List.map_append,List.sum_append]
theorem ZcA {l:List Za}{a:Da}{t:List Da}:ZbB l (a::t)=tt l a+ZbB l t:=by
 unfold ZbB tns tt;rw [List.map_cons,List.sum_cons]
theorem Zgl {l:List Za}{s t:List Da}(h:s.Perm t):ZbB l s=ZbB l t:=Zib h
theorem ZjN {l:List Za}:ZbB l []=0:=rfl

/-! An edge taken out. -/
structure Del (l m:List Za) (v d w:Nat):Prop where
 len:m.length=l.length
 hv:v<l.length
 hd:d<4
 hw:w<l.length
 hn:nx l v d=w
 nx:∀ u e,u<l.length→e<4→nx m u e=if u=v∧e=d∨u=w∧e=(d+2)%4 then -1 else nx l u e
theorem Del.e {l m:List Za}{v d w:Nat}(D:Del l m v d w):isD l (v,d):=⟨D.hv,D.hd,by rw [D.hn];omega⟩
theorem Del.opp {l m:List Za}{v d w:Nat}(D:Del l m v d w):Mu.opp l (v,d)=(w,(d+2)%4):=by
 unfold Mu.opp;dsimp only;rw [D.hn,itn]
theorem Del.e' {l m:List Za}(hc:Ck l) {v d w:Nat}(D:Del l m v d w):isD l (w,(d+2)%4):=by
 have:=D.e.opp hc;rwa [D.opp] at this
theorem Del.hb {l m:List Za}(hc:Ck l) {v d w:Nat}(D:Del l m v d w):Mu.nx l w ((d+2)%4)=v:=by
 have:=(D.e.fwd hc).2;dsimp only at this;rwa [D.hn,itn] at this
theorem Del.ne {l m:List Za}(hc:Ck l) {v d w:Nat}(D:Del l m v d w):w≠v:=by
 have:=Zph hc D.e;rwa [D.opp] at this
theorem Del.isD {l m:List Za}{v d w:Nat}(D:Del l m v d w) {p:Da}:isD m p↔isD l p∧p≠(v,d)∧p≠(w,(d+2)%4):=by
 unfold Mu.isD;rw [D.len];constructor
 ·rintro ⟨a,b,c⟩;rw [D.nx _ _ a b] at c;have hne:¬ (p.1=v∧p.2=d∨p.1=w∧p.2=(d+2)%4):=by
   intro q;rw [if_pos q] at c;omega
  rw [if_neg hne] at c;refine ⟨⟨a,b,c⟩,?_,?_⟩
  ·rintro rfl;exact hne (.inl ⟨rfl,rfl⟩)
  ·rintro rfl;exact hne (.inr ⟨rfl,rfl⟩)
 ·rintro ⟨⟨a,b,c⟩,h1,h2⟩;refine ⟨a,b,?_⟩;rw [D.nx _ _ a b,if_neg]
  ·exact c
  ·rintro (⟨q1,q2⟩|⟨q1,q2⟩)
   ·exact h1 (Prod.ext q1 q2)
   ·exact h2 (Prod.ext q1 q2)
theorem Del.nx' {l m:List Za}{v d w:Nat}(D:Del l m v d w) {p:Da}(h:Mu.isD m p):Mu.nx m p.1 p.2=Mu.nx l p.1 p.2:=by
 obtain ⟨h1,h2,h3⟩:=D.isD.1 h;rw [D.nx _ _ h1.1 h1.2.1,if_neg];rintro (⟨q1,q2⟩|⟨q1,q2⟩)
 ·exact h2 (Prod.ext q1 q2)
 ·exact h3 (Prod.ext q1 q2)
theorem ZmC:∀ a b c d:Bool,∀ i j:Fin 4,Zdp a b c d j.1=true→Zdp a b c d ((i.1+2)%4)=true→i.1≠(j.1+2)%4 →
  prv (fun e=>Zdp a b c d e&&(e != j.1)) i.1=(if prv (Zdp a b c d) i.1=j.1 then prv (Zdp a b c d) ((j.1+2)%4) else prv (Zdp a b c d) i.1) ∧
  tn i.1 (prv (fun e=>Zdp a b c d e&&(e != j.1)) i.1)=(if prv (Zdp a b c d) i.1=j.1 then tn i.1 (prv (Zdp a b c d) i.1)+tn ((j.1+2)%4) (prv (Zdp a b c d) ((j.1+2)%4))-2 else tn i.1 (prv (Zdp a b c d) i.1)):=by decide +kernel
theorem ZkX {A B:Nat→Bool}{i j:Nat}(hi:i<4) (hj:j<4) (h1:A j=true) (h2:A ((i+2)%4)=true) (h3:i≠(j+2)%4) (hB:∀ e,e<4→B e=(A e&&(e != j))) :
  prv B i=(if prv A i=j then prv A ((j+2)%4) else prv A i)∧tn i (prv B i)=(if prv A i=j then tn i (prv A i)+tn ((j+2)%4) (prv A ((j+2)%4))-2 else tn i (prv A i)):=by
 have:=ZmC (A 0) (A 1) (A 2) (A 3) ⟨i,hi⟩ ⟨j,hj⟩ (by dsimp only;rw [ZdV hj];exact h1) (by dsimp only;rw [ZdV (by omega)];exact h2) h3;dsimp only at this;rw [Zfg hi,Zfg (show (j+2)%4<4 by omega)] at this;rw [show prv B i=prv (fun e=>Zdp (A 0) (A 1) (A 2) (A 3) e&&(e != j)) i from ZiD (fun e he=>by rw [hB e he,ZdV he]) hi];exact this
theorem Del.bh {l m:List Za}(hc:Ck l) {v d w:Nat}(D:Del l m v d w) {p:Da}(h:Mu.isD m p) :
  bh m p=(if bh l p=(v,d) then bh l (w,(d+2)%4) else if bh l p=(w,(d+2)%4) then bh l (v,d) else bh l p) ∧
  tt m p=(if bh l p=(v,d) then tt l p+tt l (w,(d+2)%4)-2 else if bh l p=(w,(d+2)%4) then tt l p+tt l (v,d)-2 else tt l p):=by
 obtain ⟨h1,h2,h3⟩:=D.isD.1 h;have hne:=D.ne hc;have hd:=D.hd;have hb:=D.hb hc;have f:=h1.fwd hc;unfold tt;rw [Zfh,Zfh,D.nx' h,Zfh (l:=l) (p:=(w,(d+2)%4)),Zfh (l:=l) (p:=(v,d))];dsimp only;rw [hb,D.hn,itn,itn];have hp2:=h1.2.1
 -- the cell to which p leads
 generalize hu:(Mu.nx l p.1 p.2).toNat=u at *;have hA:(decide (0≤Mu.nx l u ((p.2+2)%4)))=true:=by rw [f.2];simp
 by_cases c1:u=v
 ·subst c1;have hi:p.2≠(d+2)%4:=by
   intro q;apply h3;have e1:Mu.opp l p=(u,d):=by unfold Mu.opp;exact Prod.ext hu (by dsimp only;omega)
   rw [← ZcW hc h1,e1,D.opp]
  obtain ⟨k1,k2⟩:=ZkX (A:=fun e=>decide (0≤Mu.nx l u e)) (B:=fun e=>decide (0≤Mu.nx m u e)) hp2 hd (by rw [D.hn];simp) hA hi (fun e he=>by
   rw [D.nx _ _ f.1 he];by_cases q:e=d
   ·rw [if_pos (.inl ⟨rfl,q⟩),q];simp
   ·rw [if_neg]
    ·simp [q]
    ·rintro (k|k)
     ·exact q k.2
     ·exact hne k.1.symm)
  rw [k2,k1];have n1:∀ x,((u,x):Da)=(w,(d+2)%4)↔False:=fun x=>⟨fun k=>hne (congrArg Prod.fst k).symm,False.elim⟩;simp only [n1,if_false,Prod.mk.injEq,true_and];constructor
  ·split<;>rfl
  ·trivial
 ·by_cases c2:u=w
  ·subst c2;have hi:p.2≠((d+2)%4+2)%4:=by
    intro q;apply h2;have e1:Mu.opp l p=(u,(d+2)%4):=by unfold Mu.opp;exact Prod.ext hu (by dsimp only;omega)
    rw [← ZcW hc h1,e1,← D.opp,ZcW hc D.e]
   obtain ⟨k1,k2⟩:=ZkX (A:=fun e=>decide (0≤Mu.nx l u e)) (B:=fun e=>decide (0≤Mu.nx m u e)) hp2 (show (d+2)%4<4 by omega) (by rw [hb];simp) hA hi (fun e he=>by
    rw [D.nx _ _ f.1 he];by_cases q:e=(d+2)%4
    ·rw [if_pos (.inr ⟨rfl,q⟩),q];simp
    ·rw [if_neg]
     ·simp [q]
     ·rintro (k|k)
      ·exact c1 k.1
      ·exact q k.2)
   rw [show ((d+2)%4+2)%4=d by omega] at k1 k2;rw [k2,k1];have n1:∀ x,((u,x):Da)=(v,d)↔False:=fun x=>⟨fun k=>c1 (congrArg Prod.fst k),False.elim⟩;simp only [n1,if_false,Prod.mk.injEq,true_and];constructor
   ·split<;>rfl
   ·trivial
  ·have n1:∀ x,((u,x):Da)=(v,d)↔False:=fun x=>⟨fun k=>c1 (congrArg Prod.fst k),False.elim⟩;have n2:∀ x,((u,x):Da)=(w,(d+2)%4)↔False:=fun x=>⟨fun k=>c2 (congrArg Prod.fst k),False.elim⟩;have:prv (fun e=>decide (0≤Mu.nx m u e)) p.2=prv (fun e=>decide (0≤Mu.nx l u e)) p.2:=ZiD (fun e he=>by
    rw [D.nx _ _ f.1 he,if_neg];rintro (k|k)
    ·exact c1 k.1
    ·exact c2 k.1) hp2
   simp only [n1,n2,if_false,this];exact ⟨trivial,trivial⟩
end Mu
/- Loops of ZeG where an edge is taken out: how many there are,and their turns. -/
namespace Mu
def nxE (l:List Za) (e e' y:Da):Da:=if y=e then bh l e' else if y=e' then bh l e else y
def crE (l:List Za) (e e' y:Da):Int:=if y=e then tt l e'-2 else if y=e' then tt l e-2 else 0
theorem Del.pt {l m:List Za}(hc:Ck l) {v d w:Nat}(D:Del l m v d w):∀ {s:List Da}{x y:Da},Pt l x s y→s≠[]→(∀ a∈s,a≠(v,d)∧a≠(w,(d+2)%4)) →
  Pt m x s (nxE l (v,d) (w,(d+2)%4) y)∧ZbB m s=ZbB l s+crE l (v,d) (w,(d+2)%4) y
 | [],_,_,_,h,_=>absurd rfl h
 | [a],x,y,h,_,hs=>by
  rw [Pt,Pt] at h;obtain ⟨rfl,h1,rfl⟩:=h;have q:=hs x (by simp);have hm:Mu.isD m x:=D.isD.2 ⟨h1,q.1,q.2⟩;have b:=D.bh hc hm;refine ⟨⟨rfl,hm,?_⟩,?_⟩
  ·rw [b.1];rfl
  ·rw [ZcA,ZcA,ZjN,ZjN,b.2];unfold crE;split
   ·omega
   ·split<;>omega
 | a::b::s,x,y,h,_,hs=>by
  rw [Pt] at h;obtain ⟨rfl,h1,h2⟩:=h;have q:=hs x (by simp);have qb:=hs b (by simp);have hm:Mu.isD m x:=D.isD.2 ⟨h1,q.1,q.2⟩;have eb:Mu.bh l x=b:=by rw [Pt] at h2;exact h2.1
  have B:=D.bh hc hm;rw [eb,if_neg qb.1,if_neg qb.2,if_neg qb.1,if_neg qb.2] at B;rw [eb] at h2;obtain ⟨i1,i2⟩:=D.pt hc h2 (by simp) fun a ha=>hs a (List.mem_cons_of_mem _ ha);refine ⟨⟨rfl,hm,?_⟩,?_⟩
  ·rw [B.1];exact i1
  ·rw [ZcA,i2,ZcA (t:=b::s),B.2];omega
theorem ZlZ {l:List Za}{p:Da}:(bh l p).1=(nx l p.1 p.2).toNat:=by rw [Zfh]
theorem Del.bh_e {l m:List Za}(hc:Ck l) {v d w:Nat}(D:Del l m v d w):Mu.bh l (v,d)≠(v,d):=by
 intro q;have:=congrArg Prod.fst q;rw [ZlZ] at this;dsimp only at this;rw [D.hn,itn] at this;exact D.ne hc this
theorem Del.bh_e' {l m:List Za}(hc:Ck l) {v d w:Nat}(D:Del l m v d w):Mu.bh l (w,(d+2)%4)≠(w,(d+2)%4):=by
 intro q;have:=congrArg Prod.fst q;rw [ZlZ] at this;dsimp only at this;rw [D.hb hc,itn] at this;exact D.ne hc this.symm
theorem Del.ee {l m:List Za}(hc:Ck l) {v d w:Nat}(D:Del l m v d w):((w,(d+2)%4):Da)≠(v,d):=fun q=>D.ne hc (congrArg Prod.fst q)
theorem Del.joinA {l m:List Za}(hc:Ck l) {v d w:Nat}(D:Del l m v d w) {A B:List Da}(hA:Lp l ((v,d)::A)) (hB:Lp l ((w,(d+2)%4)::B)) (hdj:∀ x∈(v,d)::A,x ∉ (w,(d+2)%4)::B) :
  Lp m (A++B)∧ZbB m (A++B)=ZbB l ((v,d)::A)+ZbB l ((w,(d+2)%4)::B)-4:=by
 have ee:=D.ee hc;obtain ⟨a1,a2⟩:=hA.hd;obtain ⟨b1,b2⟩:=hB.hd;have nA:A≠[]:=by rintro rfl;exact D.bh_e hc a2
 have nB:B≠[]:=by rintro rfl;exact D.bh_e' hc b2
 have ndA:=List.nodup_cons.1 hA.nd;have ndB:=List.nodup_cons.1 hB.nd;obtain ⟨p1,r1⟩:=D.pt hc a2 nA fun a ha=>⟨fun q=>ndA.1 (q ▸ ha),fun q=>hdj a (by simp [ha]) (by simp [q])⟩;obtain ⟨p2,r2⟩:=D.pt hc b2 nB fun a ha=>⟨fun q=>hdj a (by simp [q]) (by simp [ha]),fun q=>ndB.1 (q ▸ ha)⟩;unfold nxE at p1 p2;unfold crE at r1 r2;rw [if_pos rfl] at p1 r1;rw [if_neg ee,if_pos rfl] at p2 r2;refine ⟨⟨by simp [nA],?_,_,Pt.app.2 ⟨_,p1,p2⟩⟩,?_⟩
 ·rw [List.nodup_append];exact ⟨ndA.2,ndB.2,fun a ha b hb q=>hdj a (by simp [ha]) (by simp [q,hb])⟩
 ·rw [ZjM,r1,r2,ZcA,ZcA];omega
theorem Del.joinB {l m:List Za}(hc:Ck l) {v d w:Nat}(D:Del l m v d w) {A B:List Da}(h:Lp l ((v,d)::(A++(w,(d+2)%4)::B))) :
  (A≠[]→Lp m A∧ZbB m A=ZbB l A+tt l (v,d)-2)∧(B≠[]→Lp m B∧ZbB m B=ZbB l B+tt l (w,(d+2)%4)-2)∧(A=[]↔Mu.bh l (v,d)=(w,(d+2)%4))∧(B=[]↔Mu.bh l (w,(d+2)%4)=(v,d)):=by
 have ee:=D.ee hc;obtain ⟨a1,a2⟩:=h.hd;obtain ⟨y,c1,c2⟩:=Pt.app.1 a2;rw [Pt] at c2;obtain ⟨rfl,c2,c3⟩:=c2;have nd:=List.nodup_cons.1 h.nd;have nd2:=List.nodup_append.1 nd.2;have nd3:=List.nodup_cons.1 nd2.2.1;have qA:∀ a∈A,a≠(v,d)∧a≠(w,(d+2)%4):=fun a ha=>⟨fun q=>nd.1 (by simp [← q,ha]),fun q=>nd2.2.2 a ha (w,(d+2)%4) (by simp) q⟩;have qB:∀ a∈B,a≠(v,d)∧a≠(w,(d+2)%4):=fun a ha=>⟨fun q=>nd.1 (by simp [← q,ha]),fun q=>nd3.1 (q ▸ ha)⟩;refine ⟨fun nA=>?_,fun nB=>?_,⟨?_,fun q=>?_⟩,⟨?_,fun q=>?_⟩⟩
 ·obtain ⟨p1,r1⟩:=D.pt hc c1 nA qA;unfold nxE at p1;unfold crE at r1;rw [if_neg ee,if_pos rfl] at p1 r1;exact ⟨⟨nA,nd2.1,_,p1⟩,by rw [r1];omega⟩
 ·obtain ⟨p1,r1⟩:=D.pt hc c3 nB qB;unfold nxE at p1;unfold crE at r1;rw [if_pos rfl] at p1 r1;exact ⟨⟨nB,nd3.2,_,p1⟩,by rw [r1];omega⟩
 ·rintro rfl;exact c1
 ·cases A with
  | nil=>rfl
  | cons a A =>
   rw [Pt] at c1;exact absurd (c1.1.symm.trans q) (qA a (by simp)).2
 ·rintro rfl;exact c3
 ·cases B with
  | nil=>rfl
  | cons a B =>
   rw [Pt] at c3;exact absurd (c3.1.symm.trans q) (qB a (by simp)).1
theorem Cyc.of_perm {l:List Za}{f g:List Da}(h:Cyc l f) (p:f.Perm g):Cyc l g :=
 ⟨fun e=>h.ne (by rw [e] at p;exact p.eq_nil),p.nodup_iff.1 h.nd,fun x hx=>h.is x (p.mem_iff.2 hx),fun x hx=>p.mem_iff.1 (h.cl x (p.mem_iff.2 hx)),fun C hC x hx y hy=>h.one C hC x (p.mem_iff.2 hx) y (p.mem_iff.2 hy)⟩
theorem Cyc.lp {l:List Za}(hc:Ck l) {f:List Da}(h:Cyc l f) {p:Da}(hp:p∈f):∃ t,Lp l (p::t)∧f.Perm (p::t):=by
 obtain ⟨t,ht⟩:=ZmA hc (h.is p hp);exact ⟨t,ht,h.perm ht.cyc hp (by simp)⟩
theorem Del.keep {l m:List Za}(hc:Ck l) {v d w:Nat}(D:Del l m v d w) {f:List Da}(h:Cyc l f) (h1:(v,d) ∉ f) (h2:(w,(d+2)%4) ∉ f):Cyc m f∧ZbB m f=ZbB l f:=by
 obtain ⟨p,hp⟩:=List.exists_mem_of_ne_nil f h.ne;obtain ⟨t,ht,pe⟩:=h.lp hc hp;obtain ⟨x,hx⟩:=ht.pt;have q:∀ a∈p::t,a≠(v,d)∧a≠(w,(d+2)%4):=fun a ha=>⟨fun k=>h1 (k ▸ pe.mem_iff.2 ha),fun k=>h2 (k ▸ pe.mem_iff.2 ha)⟩;have xp:x=p:=by rw [Pt] at hx;exact hx.1
 obtain ⟨k1,k2⟩:=D.pt hc hx (by simp) q;subst xp;unfold nxE at k1;unfold crE at k2;have qx:=q x (by simp);rw [if_neg qx.1,if_neg qx.2] at k1 k2;have L:Lp m (x::t):=⟨by simp,ht.nd,x,k1⟩;refine ⟨L.cyc.of_perm pe.symm,?_⟩;rw [Zgl pe,Zgl pe,k2];omega

/-! All loops. -/
structure Fcs (l:List Za) (F:List (List Da)):Prop where
 cy:∀ f∈F,Cyc l f
 nd:F.flatten.Nodup
 al:∀ p,isD l p→p∈F.flatten
theorem Fcs.faces {l:List Za}(hc:Ck l):Fcs l (faces l):=⟨Zfs hc,(ZgG hc).2.2.2.1,fun p hp=>(Zlr hc).2 hp⟩
theorem Fcs.le {l:List Za}{F G:List (List Da)}(hF:Fcs l F) (hG:Fcs l G):F.length≤G.length:=by
 have key:∀ f∈F,∃ i,i<G.length∧∃ p,p∈f∧p∈gi G i:=by
  intro f hf;obtain ⟨p,hp⟩:=List.exists_mem_of_ne_nil f (hF.cy f hf).ne;obtain ⟨g,hg,hpg⟩:=List.mem_flatten.1 (hG.al p ((hF.cy f hf).is p hp));obtain ⟨i,hi,e⟩:=List.mem_iff_getElem.1 hg;exact ⟨i,hi,p,hp,by rw [ZaH hi,e];exact hpg⟩
 have:∀ F:List (List Da),(∀ f∈F,Cyc l f)→F.flatten.Nodup→(∀ f∈F,∃ i,i<G.length∧∃ p,p∈f∧p∈gi G i)→∃ I:List Nat,I.length=F.length∧I.Nodup∧∀ i∈I,i<G.length∧∃ f∈F,∃ p,p∈f∧p∈gi G i:=by
  intro F
  induction F with
  | nil=>intro _ _ _;exact ⟨[],rfl,List.nodup_nil,by simp⟩
  | cons f F ih =>
   intro h1 h2 h3;rw [List.flatten_cons,List.nodup_append] at h2;obtain ⟨I,k1,k2,k3⟩:=ih (fun f hf=>h1 f (by simp [hf])) h2.2.1 fun f hf=>h3 f (by simp [hf]);obtain ⟨i,hi,p,hp,hpi⟩:=h3 f (by simp);refine ⟨i::I,by simp [k1],List.nodup_cons.2 ⟨fun hm=>?_,k2⟩,fun j hj=>?_⟩
   ·obtain ⟨_,f',hf',p',hp',hpi'⟩:=k3 i hm;have cg:=hG.cy _ (ZaG hi);have c1:=h1 f (by simp)
    -- f and f' share a dart
    have:=(cg.sub c1 hpi hp) p' hpi';exact h2.2.2 p' this p' (List.mem_flatten.2 ⟨f',hf',hp'⟩) rfl
   ·rcases List.mem_cons.1 hj with rfl|hj
    ·exact ⟨hi,f,by simp,p,hp,hpi⟩
    ·obtain ⟨a,f',hf',r⟩:=k3 j hj;exact ⟨a,f',by simp [hf'],r⟩
 obtain ⟨I,k1,k2,k3⟩:=this F hF.cy hF.nd key;have:=k2.length_le_of_subset (l₂:=List.range G.length) fun i hi=>List.mem_range.2 (k3 i hi).1;simp at this;omega
theorem Fcs.len {l:List Za}{F G:List (List Da)}(hF:Fcs l F) (hG:Fcs l G):F.length=G.length:=Nat.le_antisymm (hF.le hG) (hG.le hF)
theorem Fcs.perm {l:List Za}{F G:List (List Da)}(h:Fcs l F) (p:F.Perm G):Fcs l G :=
 ⟨fun f hf=>h.cy f (p.mem_iff.2 hf),p.flatten.nodup_iff.1 h.nd,fun x hx=>p.flatten.mem_iff.1 (h.al x hx)⟩
theorem Fcs.pick {l:List Za}{S F:List (List Da)}(h:Fcs l (S++F)) {g:List Da}(hg:Cyc l g) (hn:∀ p∈g,p ∉ S.flatten):∃ R,Fcs l (S++g::R)∧F.length=R.length+1:=by
 obtain ⟨p,hp⟩:=List.exists_mem_of_ne_nil g hg.ne;have:=h.al p (hg.is p hp);rw [List.flatten_append,List.mem_append] at this;rcases this with k|k
 ·exact absurd k (hn p hp)
 ·obtain ⟨g1,hg1,hpg⟩:=List.mem_flatten.1 k;have pe:F.Perm (g1::F.erase g1):=List.perm_cons_erase hg1;have pg:g1.Perm g:=(h.cy g1 (by simp [hg1])).perm hg hpg hp;have h2:=h.perm (List.Perm.append_left S pe);have pf:(S++g1::F.erase g1).flatten.Perm (S++g::F.erase g1).flatten:=by
   rw [List.flatten_append,List.flatten_append,List.flatten_cons,List.flatten_cons];exact List.Perm.append_left _ (List.Perm.append_right _ pg)
  refine ⟨F.erase g1,⟨fun f hf=>?_,pf.nodup_iff.1 h2.nd,fun x hx=>pf.mem_iff.1 (h2.al x hx)⟩,by rw [pe.length_eq];rfl⟩;rcases List.mem_append.1 hf with q|q
  ·exact h.cy f (by simp [q])
  ·rcases List.mem_cons.1 q with rfl|q
   ·exact hg
   ·exact h.cy f (by simp [List.mem_of_mem_erase q])
theorem Del.fcs {l m:List Za}(hc:Ck l) {v d w:Nat}(D:Del l m v d w) {S S' R:List (List Da)}(h:Fcs l (S++R)) (h1:∀ f∈S',Cyc m f) (h2:S'.flatten.Nodup) (h3:∀ p,p∈S'.flatten↔p∈S.flatten∧p≠(v,d)∧p≠(w,(d+2)%4)) (h4:(v,d)∈S.flatten) (h5:(w,(d+2)%4)∈S.flatten) :
  Fcs m (S'++R)∧∀ f∈R,ZbB m f=ZbB l f:=by
 have nd:=h.nd;rw [List.flatten_append,List.nodup_append] at nd;have keep:∀ f∈R,Cyc m f∧ZbB m f=ZbB l f:=fun f hf=>D.keep hc (h.cy f (by simp [hf]))
  (fun q=>nd.2.2 _ h4 _ (List.mem_flatten.2 ⟨f,hf,q⟩) rfl) (fun q=>nd.2.2 _ h5 _ (List.mem_flatten.2 ⟨f,hf,q⟩) rfl)
 refine ⟨⟨fun f hf=>?_,?_,fun p hp=>?_⟩,fun f hf=>(keep f hf).2⟩
 ·rcases List.mem_append.1 hf with q|q
  ·exact h1 f q
  ·exact (keep f q).1
 ·rw [List.flatten_append,List.nodup_append];exact ⟨h2,nd.2.1,fun a ha b hb=>nd.2.2 a ((h3 a).1 ha).1 b hb⟩
 ·obtain ⟨q1,q2,q3⟩:=D.isD.1 hp;have:=h.al p q1;rw [List.flatten_append,List.mem_append] at this ⊢;rcases this with k|k
  ·exact .inl ((h3 p).2 ⟨k,q2,q3⟩)
  ·exact .inr k
inductive Zq9 (l m:List Za) (e e':Da):Prop where
 | two (A B:List Da) (R:List (List Da)) (hA:Lp l (e::A)) (hB:Lp l (e'::B)) (hl:Fcs l ((e::A)::(e'::B)::R)) (hm:Fcs m ((A++B)::R)) (rot:ZbB m (A++B)=ZbB l (e::A)+ZbB l (e'::B)-4) (same:∀ f∈R,ZbB m f=ZbB l f) (n1:bh l e≠e') (n2:bh l e'≠e) (lm:Lp m (A++B))
 | one (A B:List Da) (R:List (List Da)) (hA:Lp l (e::(A++e'::B))) (hl:Fcs l ((e::(A++e'::B))::R)) (hm:Fcs m (A::B::R)) (rot:ZbB m A+ZbB m B=ZbB l (e::(A++e'::B))-4) (same:∀ f∈R,ZbB m f=ZbB l f) (n1:bh l e≠e') (n2:bh l e'≠e) (lA:Lp m A) (lB:Lp m B)
 | leaf (A:List Da) (R:List (List Da)) (hA:Cyc l (e::e'::A)) (hl:Fcs l ((e::e'::A)::R)) (hm:Fcs m (A::R)) (rot:ZbB m A=ZbB l (e::e'::A)) (same:∀ f∈R,ZbB m f=ZbB l f) (n:(bh l e=e'∧bh l e'≠e)∨(bh l e≠e'∧bh l e'=e))
 | iso (R:List (List Da)) (hA:Cyc l [e,e']) (hl:Fcs l ([e,e']::R)) (hm:Fcs m R) (same:∀ f∈R,ZbB m f=ZbB l f) (n1:bh l e=e') (n2:bh l e'=e)
theorem Zli {l:List Za}{p:Da}(hp:p.2<4) (h:(bh l p).2=(p.2+2)%4):tt l p=-2:=by
 unfold tt tn;rw [h,if_neg (by omega),if_neg (by omega),if_neg (by omega)]
theorem Del.kind {l m:List Za}(hc:Ck l) {v d w:Nat}(D:Del l m v d w):Zq9 l m (v,d) (w,(d+2)%4):=by
 have hd:=D.hd;have ee:=D.ee hc;have hF:Fcs l ([]++Mu.faces l):=by rw [List.nil_append];exact Fcs.faces hc
 obtain ⟨t,ht⟩:=ZmA hc D.e;by_cases c:(w,(d+2)%4)∈t
 ·obtain ⟨A,B,rfl⟩:=List.append_of_mem c;obtain ⟨jA,jB,iA,iB⟩:=D.joinB hc ht;obtain ⟨R,hR,_⟩:=hF.pick ht.cyc (by simp);rw [List.nil_append] at hR;have nd:=List.nodup_cons.1 ht.nd;have nd2:=List.nodup_append.1 nd.2;have nd3:=List.nodup_cons.1 nd2.2.1;by_cases cA:A=[]
  ·have bA:=iA.1 cA;have tA:tt l (v,d)=-2:=Zli hd (by rw [bA]);subst cA;by_cases cB:B=[]
   ·have bB:=iB.1 cB;subst cB;obtain ⟨k1,k2⟩:=D.fcs hc (S:=[[(v,d),(w,(d+2)%4)]]) (S':=[]) (R:=R) hR (by simp) (by simp) (by intro p;simp;intro q;rcases q with rfl|rfl<;>simp) (by simp) (by simp);exact .iso R ht.cyc hR k1 k2 bA bB
   ·obtain ⟨lB,rB⟩:=jB cB;obtain ⟨k1,k2⟩:=D.fcs hc (S:=[(v,d)::(w,(d+2)%4)::B]) (S':=[B]) (R:=R) hR (by intro f hf;rw [List.mem_singleton.1 hf];exact lB.cyc) (by simpa using lB.nd) (by
     intro p;simp;constructor
     ·intro q;exact ⟨.inr (.inr q),fun k=>nd.1 (by simp [← k,q]),fun k=>nd3.1 (k ▸ q)⟩
     ·rintro ⟨q|q|q,q2,q3⟩
      ·exact absurd q q2
      ·exact absurd q q3
      ·exact q) (by simp) (by simp)
    refine .leaf B R ht.cyc hR k1 ?_ k2 (.inl ⟨bA,fun q=>cB (iB.2 q)⟩);rw [rB,ZcA,ZcA,tA];omega
  ·obtain ⟨lA,rA⟩:=jA cA;by_cases cB:B=[]
   ·have bB:=iB.1 cB;have tB:tt l (w,(d+2)%4)=-2:=Zli (show (d+2)%4<4 by omega) (by rw [bB];dsimp only;omega);subst cB;have pe:((v,d)::(A++[(w,(d+2)%4)])).Perm ((v,d)::(w,(d+2)%4)::A):=List.Perm.cons _ List.perm_append_comm;have C2:=ht.cyc.of_perm pe;obtain ⟨R2,hR2,_⟩:=hF.pick C2 (by simp);rw [List.nil_append] at hR2;obtain ⟨k1,k2⟩:=D.fcs hc (S:=[(v,d)::(w,(d+2)%4)::A]) (S':=[A]) (R:=R2) hR2 (by intro f hf;rw [List.mem_singleton.1 hf];exact lA.cyc) (by simpa using lA.nd) (by
     intro p;simp;constructor
     ·intro q;exact ⟨.inr (.inr q),fun k=>nd.1 (by simp [← k,q]),fun k=>nd2.2.2 p q _ (by simp) k⟩
     ·rintro ⟨q|q|q,q2,q3⟩
      ·exact absurd q q2
      ·exact absurd q q3
      ·exact q) (by simp) (by simp)
    refine .leaf A R2 C2 hR2 k1 ?_ k2 (.inr ⟨fun q=>cA (iA.2 q),bB⟩);rw [rA,ZcA,ZcA,tB];omega
   ·obtain ⟨lB,rB⟩:=jB cB;have dj:∀ a∈A,∀ b∈B,a≠b:=fun a ha b hb=>nd2.2.2 a ha b (by simp [hb]);obtain ⟨k1,k2⟩:=D.fcs hc (S:=[(v,d)::(A++(w,(d+2)%4)::B)]) (S':=[A,B]) (R:=R) hR (by
     intro f hf;simp at hf;rcases hf with rfl|rfl
     ·exact lA.cyc
     ·exact lB.cyc) (by
     simp [List.nodup_append];exact ⟨lA.nd,lB.nd,fun a b ha x y hb q1 q2=>dj (a,b) ha (x,y) hb (Prod.ext q1 q2)⟩) (by
     intro p;simp;constructor
     ·rintro (q|q)
      ·exact ⟨.inr (.inl q),fun k=>nd.1 (by simp [← k,q]),fun k=>nd2.2.2 p q _ (by simp) k⟩
      ·exact ⟨.inr (.inr (.inr q)),fun k=>nd.1 (by simp [← k,q]),fun k=>nd3.1 (k ▸ q)⟩
     ·rintro ⟨q|q|q|q,q2,q3⟩
      ·exact absurd q q2
      ·exact .inl q
      ·exact absurd q q3
      ·exact .inr q) (by simp) (by simp)
    refine .one A B R ht hR k1 ?_ k2 (fun q=>cA (iA.2 q)) (fun q=>cB (iB.2 q)) lA lB;rw [rA,rB,ZcA,ZjM,ZcA];omega
 ·obtain ⟨B,hB⟩:=ZmA hc (D.e' hc);have dj:∀ x∈(v,d)::t,x ∉ (w,(d+2)%4)::B:=by
   intro x hx hx2;have:=hB.cyc.sub ht.cyc hx2 hx (w,(d+2)%4) (by simp);rcases List.mem_cons.1 this with q|q
   ·exact ee q
   ·exact c q
  obtain ⟨j1,j2⟩:=D.joinA hc ht hB dj;obtain ⟨R1,hR1,_⟩:=hF.pick ht.cyc (by simp);rw [List.nil_append] at hR1;obtain ⟨R,hR,_⟩:=Fcs.pick (S:=[(v,d)::t]) (F:=R1) hR1 hB.cyc (fun p hp q=>by
   rw [List.flatten_cons,List.flatten_nil,List.append_nil] at q;exact dj p q hp)
  have ndA:=List.nodup_cons.1 ht.nd;have ndB:=List.nodup_cons.1 hB.nd;obtain ⟨k1,k2⟩:=D.fcs hc (S:=[(v,d)::t,(w,(d+2)%4)::B]) (S':=[t++B]) (R:=R) hR (by intro f hf;rw [List.mem_singleton.1 hf];exact j1.cyc) (by simpa using j1.nd) (by
   intro p;simp;constructor
   ·rintro (q|q)
    ·exact ⟨.inr (.inl q),fun k=>ndA.1 (k ▸ q),fun k=>c (k ▸ q)⟩
    ·exact ⟨.inr (.inr (.inr q)),fun k=>dj p (by simp [k]) (by simp [q]),fun k=>ndB.1 (k ▸ q)⟩
   ·rintro ⟨q|q|q|q,q2,q3⟩
    ·exact absurd q q2
    ·exact .inl q
    ·exact absurd q q3
    ·exact .inr q) (by simp) (by simp)
  refine .two t B R ht hB hR k1 j2 k2 ?_ ?_ j1
  ·intro q;have:=ht.cyc.cl (v,d) (by simp);rw [q] at this;exact dj _ this (by simp)
  ·intro q;have:=hB.cyc.cl (w,(d+2)%4) (by simp);rw [q] at this;exact dj (v,d) (by simp) this
end Mu
/- Euler: cells that hang together,and those of which some edges are left. -/
namespace Mu
def cV (l:List Za):Int:=sg (fun w=>if deg l w=0 then 0 else 1) l.length
def cD (l:List Za):Int:=sg (deg l) l.length
def chi (l:List Za):Int:=2*cV l+2*((faces l).length:Int)-cD l
theorem Zfi {l:List Za}{u:Nat}:deg l u=(if 0≤nx l u 0 then 1 else 0)+(if 0≤nx l u 1 then 1 else 0)+(if 0≤nx l u 2 then 1 else 0)+(if 0≤nx l u 3 then 1 else 0):=by
 unfold deg;rw [ZnQ]
theorem ZiW {l:List Za}{p:Da}(h:isD l p):1≤deg l p.1:=by
 have h1:=h.2.1;have h2:=h.2.2;rw [Zfi];have:p.2=0∨p.2=1∨p.2=2∨p.2=3:=by omega
 rcases this with q|q|q|q<;>rw [q] at h2<;>rw [if_pos h2]<;>repeat' split<;>omega
theorem ZoB {l:List Za}{u:Nat}(h:deg l u≠0):∃ d,d<4∧0≤nx l u d:=by
 refine Classical.byContradiction fun q=>h ?_;have k:∀ d,d<4→¬ 0≤nx l u d:=fun d hd c=>q ⟨d,hd,c⟩;rw [Zfi,if_neg (k 0 (by omega)),if_neg (k 1 (by omega)),if_neg (k 2 (by omega)),if_neg (k 3 (by omega))];rfl
theorem ZgA {l:List Za}(hc:Ck l) {p:Da}(h:isD l p):bh l p=opp l p↔deg l (opp l p).1=1:=by
 have f:=h.fwd hc;have h4:=h.2.1;unfold bh opp;dsimp only;generalize (nx l p.1 p.2).toNat=u at *;have hb:0≤nx l u ((p.2+2)%4):=by rw [f.2];omega
 rw [Zfi];have:p.2=0∨p.2=1∨p.2=2∨p.2=3:=by omega
 rcases this with q|q|q|q<;>rw [q] at hb ⊢ <;> simp only [show (0+2)%4=2 from rfl,show (1+2)%4=3 from rfl,show (2+2)%4=0 from rfl,show (3+2)%4=1 from rfl,show (0+1)%4=1 from rfl,show (1+1)%4=2 from rfl,show (2+1)%4=3 from rfl,show (3+1)%4=0 from rfl,show (0+3)%4=3 from rfl,show (1+3)%4=0 from rfl,show (2+3)%4=1 from rfl,show (3+3)%4=2 from rfl] at hb ⊢ <;>
 by_cases c0:0≤nx l u 0<;>by_cases c1:0≤nx l u 1<;>by_cases c2:0≤nx l u 2<;>by_cases c3:0≤nx l u 3<;>first|(exact absurd hb (by assumption))|(simp [c0,c1,c2,c3])
theorem Del.deg {l m:List Za}(hc:Ck l) {v d w:Nat}(D:Del l m v d w) {u:Nat}(hu:u<l.length):deg m u=Mu.deg l u-(if u=v then 1 else 0)-(if u=w then 1 else 0):=by
 have hd:=D.hd;have hne:=D.ne hc;have e:∀ e,e<4→(if 0≤Mu.nx m u e then (1:Int) else 0)=(if 0≤Mu.nx l u e then 1 else 0)-(if u=v∧e=d then 1 else 0)-(if u=w∧e=(d+2)%4 then 1 else 0):=by
  intro e he;have q:=D.nx u e hu he;by_cases c1:u=v∧e=d
  ·rw [if_pos (.inl c1)] at q;have n2:¬ (u=w∧e=(d+2)%4):=fun k=>hne (k.1.symm.trans c1.1);have q2:Mu.nx l u e=w:=by rw [c1.1,c1.2,D.hn]
   rw [q,q2,if_pos c1,if_neg n2,if_neg (by omega),if_pos (by omega)];rfl
  ·by_cases c2:u=w∧e=(d+2)%4
   ·rw [if_pos (.inr c2)] at q;have q2:Mu.nx l u e=v:=by rw [c2.1,c2.2,D.hb hc]
    rw [q,q2,if_neg c1,if_pos c2,if_neg (by omega),if_pos (by omega)];rfl
   ·rw [if_neg (by rintro (q|q);exact c1 q;exact c2 q)] at q;rw [q,if_neg c1,if_neg c2];omega
 rw [Zfi,Zfi,e 0 (by omega),e 1 (by omega),e 2 (by omega),e 3 (by omega)];have s1:(if u=v∧0=d then (1:Int) else 0)+(if u=v∧1=d then 1 else 0)+(if u=v∧2=d then 1 else 0)+(if u=v∧3=d then 1 else 0)=if u=v then 1 else 0:=by
  by_cases c:u=v
  ·simp only [c,true_and];have:d=0∨d=1∨d=2∨d=3:=by omega
   rcases this with rfl|rfl|rfl|rfl<;>rfl
  ·simp [c]
 have s2:(if u=w∧0=(d+2)%4 then (1:Int) else 0)+(if u=w∧1=(d+2)%4 then 1 else 0)+(if u=w∧2=(d+2)%4 then 1 else 0)+(if u=w∧3=(d+2)%4 then 1 else 0)=if u=w then 1 else 0:=by
  by_cases c:u=w
  ·simp only [c,true_and];have:d=0∨d=1∨d=2∨d=3:=by omega
   rcases this with rfl|rfl|rfl|rfl<;>rfl
  ·simp [c]
 omega
theorem Zju {n v:Nat}(hv:v<n) {c:Int}:sg (fun u=>if u=v then c else 0) n=c:=by
 rw [Zjv hv fun i _ hne=>if_neg hne,if_pos rfl]
theorem Del.cD {l m:List Za}(hc:Ck l) {v d w:Nat}(D:Del l m v d w):cD l=cD m+2:=by
 unfold Mu.cD;rw [D.len,ZcT (f:=Mu.deg m) (fun u hu=>D.deg hc hu),Zjw,Zjw,Zju D.hv,Zju D.hw];omega
theorem Del.cV {l m:List Za}(hc:Ck l) {v d w:Nat}(D:Del l m v d w):cV l=cV m+(if Mu.deg l v=1 then 1 else 0)+(if Mu.deg l w=1 then 1 else 0):=by
 have hne:=D.ne hc;have pv:=ZiW D.e;have pw:=ZiW (D.e' hc);dsimp only at pv pw;have e:∀ u,u<l.length→(if Mu.deg l u=0 then (0:Int) else 1)=(if Mu.deg m u=0 then 0 else 1)+(if u=v then (if Mu.deg l v=1 then 1 else 0) else 0)+(if u=w then (if Mu.deg l w=1 then 1 else 0) else 0):=by
  intro u hu;rw [D.deg hc hu];by_cases c1:u=v
  ·subst c1;have n:¬ u=w:=fun q=>hne q.symm;simp only [n,if_true,if_false]
   (repeat' split)<;>omega
  ·by_cases c2:u=w
   ·subst c2;simp only [c1,if_true,if_false]
    (repeat' split)<;>omega
   ·simp only [c1,c2,if_false]
    (repeat' split)<;>omega
 unfold Mu.cV;rw [D.len,ZcT e,Zjt,Zjt,Zju D.hv,Zju D.hw]
theorem Del.chi {l m:List Za}(hc:Ck l) (hm:Ck m) {v d w:Nat}(D:Del l m v d w):(chi l=chi m∨Mu.chi l=Mu.chi m-4)∨(Mu.chi l=Mu.chi m+4∧Mu.bh l (v,d)=(w,(d+2)%4)∧Mu.bh l (w,(d+2)%4)=(v,d)):=by
 have a1:=D.cD hc;have a2:=D.cV hc;have b1:=ZgA hc D.e;have b2:=ZgA hc (D.e' hc);rw [D.opp] at b1;rw [← D.opp,ZcW hc D.e,D.opp] at b2;dsimp only at b1 b2;unfold Mu.chi
 cases D.kind hc with
 | two A B R hA hB hl hm' rot same n1 n2 lm =>
  have f1:=hl.len (Fcs.faces hc);have f2:=hm'.len (Fcs.faces hm);simp only [List.length_cons] at f1 f2;rw [if_neg fun q=>n2 (b2.2 q),if_neg fun q=>n1 (b1.2 q)] at a2;left;left;omega
 | one A B R hA hl hm' rot same n1 n2 lA lB =>
  have f1:=hl.len (Fcs.faces hc);have f2:=hm'.len (Fcs.faces hm);simp only [List.length_cons] at f1 f2;rw [if_neg fun q=>n2 (b2.2 q),if_neg fun q=>n1 (b1.2 q)] at a2;left;right;omega
 | leaf A R hA hl hm' rot same n =>
  have f1:=hl.len (Fcs.faces hc);have f2:=hm'.len (Fcs.faces hm);simp only [List.length_cons] at f1 f2;left;left;rcases n with ⟨n1,n2⟩|⟨n1,n2⟩
  ·rw [if_neg fun q=>n2 (b2.2 q),if_pos (b1.1 n1)] at a2;omega
  ·rw [if_pos (b2.1 n2),if_neg fun q=>n1 (b1.2 q)] at a2;omega
 | iso R hA hl hm' same n1 n2 =>
  have f1:=hl.len (Fcs.faces hc);have f2:=hm'.len (Fcs.faces hm);simp only [List.length_cons] at f1;rw [if_pos (b2.1 n2),if_pos (b1.1 n1)] at a2;right;exact ⟨by omega,n1,n2⟩

/-! What hangs together. -/
def Cn (l:List Za):Prop:=∀ C:Da→Prop,(∀ x,isD l x→C x→C (bh l x)∧C (opp l x))→∀ p q,isD l p→isD l q→C p→C q
structure Sub (m l:List Za):Prop where
 len:m.length=l.length
 nx:∀ u e,u<l.length→e<4→nx m u e=nx l u e∨nx m u e=-1
theorem Sub.is {m l:List Za}(S:Sub m l) {p:Da}(h:isD m p):isD l p∧Mu.nx m p.1 p.2=Mu.nx l p.1 p.2:=by
 obtain ⟨h1,h2,h3⟩:=h;rw [S.len] at h1;rcases S.nx p.1 p.2 h1 h2 with q|q
 ·exact ⟨⟨h1,h2,by rw [← q];exact h3⟩,q⟩
 ·omega
theorem Sub.opp {m l:List Za}(S:Sub m l) {p:Da}(h:isD m p):opp m p=Mu.opp l p:=by unfold Mu.opp;rw [(S.is h).2]
theorem ZmF:∀ a b c d:Bool,∀ a' b' c' d':Bool,∀ i:Fin 4,((!a'||a)&&(!b'||b)&&(!c'||c)&&(!d'||d)&&Zdp a' b' c' d' ((i.1+2)%4)&&Zdp a' b' c' d' (prv (Zdp a b c d) i.1))=true→prv (Zdp a' b' c' d') i.1=prv (Zdp a b c d) i.1:=by decide +kernel
theorem Sub.bh {m l:List Za}(hm:Ck m) (hl:Ck l) (S:Sub m l) {p:Da}(h:isD m p) (h2:isD m (bh l p)):bh m p=Mu.bh l p:=by
 have i1:=S.is h;have f:=h.fwd hm;rw [Zfh] at h2 ⊢;rw [Zfh (l:=l)];rw [i1.2] at f ⊢;generalize (Mu.nx l p.1 p.2).toNat=u at *;have hu:u<l.length:=by rw [← S.len];exact f.1
 have h4:=h.2.1;have im:∀ e,e<4→decide (0≤Mu.nx m u e)=true→decide (0≤Mu.nx l u e)=true:=by
  intro e he q;rcases S.nx u e hu he with k|k
  ·rw [← k];exact q
  ·rw [k] at q;simp at q
 generalize hA:(fun e=>decide (0≤Mu.nx l u e))=A at *;generalize hB:(fun e=>decide (0≤Mu.nx m u e))=B at *;have eA:∀ e,A e=decide (0≤Mu.nx l u e):=fun e=>by rw [← hA]
 have eB:∀ e,B e=decide (0≤Mu.nx m u e):=fun e=>by rw [← hB]
 have q:=ZmF (A 0) (A 1) (A 2) (A 3) (B 0) (B 1) (B 2) (B 3) ⟨p.2,h4⟩
  (by
   have i0:∀ e,e<4→(!B e||A e)=true:=fun e he=>by
    have:=im e he;rw [← eA,← eB] at this;cases q:B e
    ·rfl
    ·rw [this q];rfl
   have k1:B ((p.2+2)%4)=true:=by rw [eB,f.2];simp
   have k2:B (prv A p.2)=true:=by rw [eB];have:=h2.2.2;simpa using this
   dsimp only;rw [i0 0 (by omega),i0 1 (by omega),i0 2 (by omega),i0 3 (by omega),Zfg h4,ZdV (by omega),ZdV (ZmE h4),k1,k2];rfl)
 dsimp only at q;rw [Zfg h4,Zfg h4] at q;rw [q]
theorem Zny {l m:List Za}(hl:Ck l) (hm:Ck m) (S:Sub m l) (Cl:Cn l) (Cm:Cn m) {p0:Da}(h0:isD m p0) {x:Da}(hx:isD l x) (hx':¬ isD m x):∃ m' v d w,Ck m'∧Del m' m v d w∧Sub m' l∧Cn m':=by
 have:∃ y,isD m y∧¬ isD m (bh l y):=by
  refine Classical.byContradiction fun q=>hx' ?_;refine Cl (fun y=>isD m y) (fun y _ hy=>⟨Classical.byContradiction fun k=>q ⟨y,hy,k⟩,?_⟩) p0 x (S.is h0).1 hx h0;rw [← S.opp hy];exact hy.opp hm
 obtain ⟨y,hy,hz⟩:=this;have dz:isD l (bh l y):=(S.is hy).1.bh hl;rcases hv:bh l y with ⟨v,d⟩;rw [hv] at hz dz;obtain ⟨v1,d1,n1⟩:=dz;dsimp only at v1 d1 n1;rcases hl.s v d v1 d1 with ⟨a,_⟩|⟨w,w1,w2,w3,w4,w5,w6⟩
 ·omega
 have e1:nx m v d=-1:=by
  rcases S.nx v d v1 d1 with q|q
  ·exact absurd ⟨by rw [S.len];exact v1,d1,by rw [q];exact n1⟩ hz
  ·exact q
 have e2:nx m w ((d+2)%4)=-1:=by
  rcases S.nx w ((d+2)%4) w2 (by omega) with q|q
  ·have:=(hm.back' (v:=w) (d:=(d+2)%4) (w:=v) (by rw [S.len];exact w2) (by omega) (by rw [q,w4])).2;rw [show ((d+2)%4+2)%4=d by omega,e1] at this;omega
  ·exact q
 have v1':v<m.length:=by rw [S.len];exact v1
 have w2':w<m.length:=by rw [S.len];exact w2
 have hm':Ck (wth m v d w (ow l v d)):=hm.wth v1' w2' (fun q=>w3 q.symm) d1 e1 e2 w6;have nw:∀ u e,u<m.length→e<4→nx (wth m v d w (ow l v d)) u e=if u=v∧e=d then (w:Int) else if u=w∧e=(d+2)%4 then (v:Int) else nx m u e:=fun u e hu he=>(Zha v1' w2' (fun q=>w3 q.symm) d1 hu he).1;have hlen:(wth m v d w (ow l v d)).length=m.length:=Zdh;generalize wth m v d w (ow l v d)=m' at *;have D:Del m' m v d w:=by
  refine ⟨hlen.symm,by rw [hlen];exact v1',d1,by rw [hlen];exact w2',by rw [nw v d v1' d1,if_pos ⟨rfl,rfl⟩],fun u e hu he=>?_⟩;rw [hlen] at hu;rw [nw u e hu he];by_cases c1:u=v∧e=d
  ·rw [if_pos (.inl c1),c1.1,c1.2,e1]
  ·by_cases c2:u=w∧e=(d+2)%4
   ·rw [if_pos (.inr c2),c2.1,c2.2,e2]
   ·rw [if_neg (by rintro (q|q);exact c1 q;exact c2 q),if_neg c1,if_neg c2]
 have S':Sub m' l:=by
  refine ⟨by rw [hlen,S.len],fun u e hu he=>?_⟩;have hu':u<m.length:=by rw [S.len];exact hu
  rw [nw u e hu' he];by_cases c1:u=v∧e=d
  ·rw [if_pos c1,c1.1,c1.2];exact .inl w1.symm
  ·rw [if_neg c1];by_cases c2:u=w∧e=(d+2)%4
   ·rw [if_pos c2,c2.1,c2.2];exact .inl w4.symm
   ·rw [if_neg c2];exact S.nx u e hu he
 have Sm:Sub m m':=by
  refine ⟨hlen.symm,fun u e hu he=>?_⟩;rw [hlen] at hu;by_cases c1:u=v∧e=d
  ·rw [c1.1,c1.2];exact .inr e1
  ·by_cases c2:u=w∧e=(d+2)%4
   ·rw [c2.1,c2.2];exact .inr e2
   ·rw [nw u e hu he,if_neg c1,if_neg c2];exact .inl rfl
 have by':bh m' y=(v,d):=by
  have iy:=(Sm.is hy).1;rw [S'.bh hm' hl iy (by rw [hv];exact D.e),hv]
 have oe:opp m' (v,d)=(w,(d+2)%4):=D.opp;have oe':opp m' (w,(d+2)%4)=(v,d):=by rw [← oe,ZcW hm' D.e]
 have de:=D.e;have de':=D.e' hm';refine ⟨m',v,d,w,hm',D,S',fun C hC p q hp hq hCp=>?_⟩;have cl:∀ x,isD m x→C x→C (bh m x)∧C (opp m x):=by
  intro x hx hCx;have ix:=(Sm.is hx).1;have c:=hC x ix hCx;refine ⟨?_,by rw [Sm.opp hx];exact c.2⟩;rw [(D.bh hm' hx).1];split
  ·rename_i k;rw [k] at c;have:=(hC _ de c.1).2;rw [oe] at this;exact (hC _ de' this).1
  ·split
   ·rename_i k;rw [k] at c;have:=(hC _ de' c.1).2;rw [oe'] at this;exact (hC _ de this).1
   ·exact c.1
 have some:∃ x,isD m x∧C x:=by
  by_cases c1:isD m p
  ·exact ⟨p,c1,hCp⟩
  ·have pe:p=(v,d)∨p=(w,(d+2)%4):=by
    refine Classical.byContradiction fun k=>c1 (D.isD.2 ⟨hp,fun q=>k (.inl q),fun q=>k (.inr q)⟩)
   have ce':C (w,(d+2)%4):=by
    rcases pe with rfl|rfl
    ·have:=(hC _ de hCp).2;rwa [oe] at this
    ·exact hCp
   refine ⟨bh m' (w,(d+2)%4),D.isD.2 ⟨de'.bh hm',fun k=>?_,D.bh_e' hm'⟩,(hC _ de' ce').1⟩;rw [← by'] at k;have:=ZgV hm' de' (Sm.is hy).1 k;rw [← this] at hy;exact (D.isD.1 hy).2.2 rfl
 obtain ⟨x1,hx1,cx1⟩:=some;have all:∀ z,isD m z→C z:=fun z hz=>Cm C cl x1 z hx1 hz cx1;by_cases c1:isD m q
 ·exact all q c1
 ·have qe:q=(v,d)∨q=(w,(d+2)%4):=by
   refine Classical.byContradiction fun k=>c1 (D.isD.2 ⟨hq,fun q=>k (.inl q),fun q=>k (.inr q)⟩)
  have ce:=(hC y (Sm.is hy).1 (all y hy)).1;rw [by'] at ce;rcases qe with rfl|rfl
  ·exact ce
  ·have:=(hC _ de ce).2;rwa [oe] at this
end Mu
/- Cells of which some edges are left,that hang together,can be drawn if all could. -/
namespace Mu
theorem Cyc.same {l m:List Za}(h1:∀ p,isD m p↔isD l p) (h2:∀ p,isD l p→bh m p=bh l p) {f:List Da}(h:Cyc l f):Cyc m f∧ZbB m f=ZbB l f:=by
 refine ⟨⟨h.ne,h.nd,fun p hp=>(h1 p).2 (h.is p hp),fun p hp=>by rw [h2 p (h.is p hp)];exact h.cl p hp,fun C hC p hp q hq hCp=>h.one C (fun x hx hCx=>by rw [← h2 x hx];exact hC x ((h1 x).2 hx) hCx) p hp q hq hCp⟩,?_⟩;unfold ZbB tns;congr 1;exact List.map_congr_left fun p hp=>by rw [h2 p (h.is p hp)]
theorem Sub.all {m l:List Za}(hm:Ck m) (hl:Ck l) (S:Sub m l) (h:∀ p,isD l p→isD m p):(∀ p,isD m p↔isD l p)∧(∀ p,isD l p→Mu.bh m p=Mu.bh l p)∧∀ u e,u<l.length→e<4→(0≤Mu.nx m u e↔0≤Mu.nx l u e):=by
 refine ⟨fun p=>⟨fun q=>(S.is q).1,h p⟩,fun p hp=>S.bh hm hl (h p hp) (h _ (hp.bh hl)),fun u e hu he=>⟨fun q=>?_,fun q=>?_⟩⟩
 ·exact (S.is (p:=(u,e)) ⟨by rw [S.len];exact hu,he,q⟩).1.2.2
 ·exact (h (u,e) ⟨hu,he,q⟩).2.2
theorem Sub.chi_all {m l:List Za}(hm:Ck m) (hl:Ck l) (S:Sub m l) (h:∀ p,isD l p→isD m p):chi l=chi m:=by
 obtain ⟨a,b,c⟩:=S.all hm hl h;have hd:∀ u,u<l.length→deg m u=deg l u:=by
  intro u hu;rw [Zfi,Zfi];simp only [c u 0 hu (by omega),c u 1 hu (by omega),c u 2 hu (by omega),c u 3 hu (by omega)]
 have hf:Fcs m (faces l):=⟨fun f hf=>((Zfs hl f hf).same a b).1,(Fcs.faces hl).nd,fun p hp=>(Fcs.faces hl).al p ((a p).1 hp)⟩;unfold chi cV cD;rw [S.len,hf.len (Fcs.faces hm),ZcT (f:=deg m) hd,ZcT (f:=fun w=>if deg m w=0 then (0:Int) else 1) (g:=fun w=>if deg l w=0 then (0:Int) else 1) fun u hu=>by rw [hd u hu]]
theorem Zol {f g:Nat→Int}:∀ {n:Nat},(∀ i,i<n→f i≤g i)→sg f n≤sg g n
 | 0,_=>by simp [sg]
 | n+1,h=>by
  rw [sg,sg];have:=Zol (n:=n) fun i hi=>h i (by omega);have:=h n (by omega);omega
theorem Sub.cD_le {m l:List Za}(S:Sub m l):cD m≤cD l:=by
 unfold cD;rw [S.len];refine Zol fun u hu=>?_;have k:∀ e,e<4→(if 0≤Mu.nx m u e then (1:Int) else 0)≤if 0≤Mu.nx l u e then 1 else 0:=by
  intro e he;rcases S.nx u e hu he with q|q
  ·rw [q];omega
  ·rw [q,if_neg (by omega)];split<;>omega
 have:=k 0 (by omega);have:=k 1 (by omega);have:=k 2 (by omega);have:=k 3 (by omega);rw [Zfi,Zfi];omega
theorem Zkt {l m:List Za}(hc:Ck l) {v d w:Nat}(D:Del l m v d w) (Cl:Cn l) {p:Da}(hp:isD m p) (h1:bh l (v,d)=(w,(d+2)%4)) (h2:bh l (w,(d+2)%4)=(v,d)):False:=by
 have ip:=D.isD.1 hp;have:=Cl (fun x=>x=(v,d)∨x=(w,(d+2)%4)) (fun x hx hCx=>by
  rcases hCx with rfl|rfl
  ·exact ⟨.inr h1,.inr D.opp⟩
  ·exact ⟨.inl h2,.inl (by rw [← D.opp,ZcW hc D.e])⟩) (v,d) p D.e ip.1 (.inl rfl)
 rcases this with q|q
 ·exact ip.2.1 q
 ·exact ip.2.2 q
theorem Zmf {l:List Za}(hl:Ck l) (Cl:Cn l):∀ (k:Nat) (m:List Za),Ck m→Sub m l→Cn m→(∃ p,isD m p)→(cD l-cD m).toNat≤k→chi l≤chi m:=by
 intro k
 induction k with
 | zero =>
  intro m hm S Cm ⟨p0,h0⟩ hk;by_cases c:∀ p,isD l p→isD m p
  ·rw [S.chi_all hm hl c];exact Int.le_refl _
  ·have:∃ p,isD l p∧¬ isD m p:=Classical.byContradiction fun q=>c fun p hp=>Classical.byContradiction fun r=>q ⟨p,hp,r⟩;obtain ⟨x,hx,hx'⟩:=this;obtain ⟨m',v,d,w,hm',D,S',C'⟩:=Zny hl hm S Cl Cm h0 hx hx';have:=D.cD hm';have:=S'.cD_le;omega
 | succ k ih =>
  intro m hm S Cm ⟨p0,h0⟩ hk;by_cases c:∀ p,isD l p→isD m p
  ·rw [S.chi_all hm hl c];exact Int.le_refl _
  ·have:∃ p,isD l p∧¬ isD m p:=Classical.byContradiction fun q=>c fun p hp=>Classical.byContradiction fun r=>q ⟨p,hp,r⟩;obtain ⟨x,hx,hx'⟩:=this;obtain ⟨m',v,d,w,hm',D,S',C'⟩:=Zny hl hm S Cl Cm h0 hx hx';have e1:=D.cD hm';have:=ih m' hm' S' C' ⟨p0,(D.isD.1 h0).1⟩ (by omega);rcases D.chi hm' hm with (q|q)|⟨_,q1,q2⟩
   ·omega
   ·omega
   ·exact (Zkt hm' D C' h0 q1 q2).elim
theorem ZfA {n u e:Nat}(h:u<n) (he:e<4):nx (List.replicate n noC) u e=-1:=by
 have:gi (List.replicate n noC) u=noC:=by rw [ZaH (by simpa using h)];simp
 unfold nx;rw [this];exact (Zpg he).1
theorem ZiS {n:Nat}:chi (List.replicate n noC)=0:=by
 have hd:∀ u,u<n→deg (List.replicate n noC) u=0:=by
  intro u hu;rw [Zfi,ZfA hu (by omega),ZfA hu (by omega),ZfA hu (by omega),ZfA hu (by omega)];rfl
 have hf:Fcs (List.replicate n noC) []:=⟨by simp,by simp,fun p hp=>by
  have h1:=hp.1;have h2:=hp.2.2;rw [ZfA (by simpa using h1) hp.2.1] at h2;omega⟩
 unfold chi cV cD;rw [← hf.len (Fcs.faces (Ck.new n)),Zgn (f:=deg (List.replicate n noC)) (fun u hu=>hd u (by simpa using hu)),Zgn fun u hu=>by rw [if_pos (hd u (by simpa using hu))]];rfl
theorem Znq {m:List Za}(hm:Ck m) (Cm:Cn m) {p:Da}(hp:isD m p):chi m≤4:=by
 obtain ⟨v,d⟩:=p;obtain ⟨v1,d1,n1⟩:=hp;dsimp only at v1 d1 n1;rcases hm.s v d v1 d1 with ⟨a,_⟩|⟨w,w1,w2,w3,w4,w5,w6⟩
 ·omega
 have v1':v<(List.replicate m.length noC).length:=by simpa using v1
 have w2':w<(List.replicate m.length noC).length:=by simpa using w2
 have hs:Ck (wth (List.replicate m.length noC) v d w (ow m v d)):=(Ck.new _).wth v1' w2' (fun q=>w3 q.symm) d1 (ZfA v1 d1) (ZfA w2 (by omega)) w6;have nw:∀ u e,u<m.length→e<4→nx (wth (List.replicate m.length noC) v d w (ow m v d)) u e=if u=v∧e=d then (w:Int) else if u=w∧e=(d+2)%4 then (v:Int) else -1:=fun u e hu he=>by
  rw [(Zha v1' w2' (fun q=>w3 q.symm) d1 (by simpa using hu) he).1,ZfA hu he]
 have hlen:(wth (List.replicate m.length noC) v d w (ow m v d)).length=m.length:=by rw [Zdh];simp
 generalize wth (List.replicate m.length noC) v d w (ow m v d)=s at *;have D:Del s (List.replicate m.length noC) v d w:=by
  refine ⟨by rw [hlen];simp,by rw [hlen];exact v1,d1,by rw [hlen];exact w2,by rw [nw v d v1 d1,if_pos ⟨rfl,rfl⟩],fun u e hu he=>?_⟩;rw [hlen] at hu;rw [nw u e hu he,ZfA hu he];by_cases c1:u=v∧e=d
  ·rw [if_pos (.inl c1)]
  ·by_cases c2:u=w∧e=(d+2)%4
   ·rw [if_pos (.inr c2)]
   ·rw [if_neg (by rintro (q|q);exact c1 q;exact c2 q),if_neg c1,if_neg c2]
 have S:Sub s m:=by
  refine ⟨hlen,fun u e hu he=>?_⟩;rw [nw u e hu he];by_cases c1:u=v∧e=d
  ·rw [if_pos c1,c1.1,c1.2];exact .inl w1.symm
  ·rw [if_neg c1];by_cases c2:u=w∧e=(d+2)%4
   ·rw [if_pos c2,c2.1,c2.2];exact .inl w4.symm
   ·rw [if_neg c2];exact .inr rfl
 have only:∀ x,isD s x→x=(v,d)∨x=(w,(d+2)%4):=by
  intro x hx;have h1:=hx.1;rw [hlen] at h1;have h3:=hx.2.2;rw [nw _ _ h1 hx.2.1] at h3;by_cases c1:x.1=v∧x.2=d
  ·exact .inl (Prod.ext c1.1 c1.2)
  ·rw [if_neg c1] at h3;by_cases c2:x.1=w∧x.2=(d+2)%4
   ·exact .inr (Prod.ext c2.1 c2.2)
   ·rw [if_neg c2] at h3;omega
 have oe:opp s (v,d)=(w,(d+2)%4):=D.opp;have oe':opp s (w,(d+2)%4)=(v,d):=by rw [← oe,ZcW hs D.e]
 have Cs:Cn s:=by
  intro C hC p q hp hq hCp;have both:C (v,d)∧C (w,(d+2)%4):=by
   rcases only p hp with rfl|rfl
   ·have:=(hC _ D.e hCp).2;rw [oe] at this;exact ⟨hCp,this⟩
   ·have:=(hC _ (D.e' hs) hCp).2;rw [oe'] at this;exact ⟨this,hCp⟩
  rcases only q hq with rfl|rfl
  ·exact both.1
  ·exact both.2
 have b1:bh s (v,d)=(w,(d+2)%4):=by
  rcases only _ (D.e.bh hs) with q|q
  ·exact absurd q (D.bh_e hs)
  ·exact q
 have b2:bh s (w,(d+2)%4)=(v,d):=by
  rcases only _ ((D.e' hs).bh hs) with q|q
  ·exact q
  ·exact absurd q (D.bh_e' hs)
 have:=Zmf hm Cm _ s hs S Cs ⟨_,D.e⟩ (Nat.le_refl _);rcases D.chi hs (Ck.new _) with (q|q)|⟨q,_⟩
 ·rw [ZiS] at q;omega
 ·rw [ZiS] at q;omega
 ·rw [ZiS] at q;omega

/-! Rotations and Euler's number. -/
theorem Zl9 {l:List Za}(hc:Ck l):((ZeG l).map (tt l)).sum=2*cD l-4*cV l:=by
 have:(ZeG l).map (tt l)=(ZeG l).map fun p=>tn p.2 (bh l p).2:=rfl;rw [this,Zl6];have e1:sg (fun v=>sg (fun d=>if 0≤nx l v d then tn d (bh l (v,d)).2 else 0) 4) l.length=sg (fun d=>sg (fun v=>if 0≤nx l v d then tn d (bh l (v,d)).2 else 0) l.length) 4:=ZhA;have e2:sg (fun d=>sg (fun v=>if 0≤nx l v d then tn d (bh l (v,d)).2 else 0) l.length) 4=sg (fun d=>sg (fun w=>if 0≤nx l w ((d+2)%4) then arr l w d else 0) l.length) 4:=by
  refine ZcT fun d hd=>?_;refine ZmN hc hd (fun v hv c=>if_neg (by omega)) (fun v hv c=>if_neg (by omega)) (fun v w hv hw e=>?_);have b:=(hc.back' hv hd e);rw [if_pos (by omega),if_pos (by omega)];have:=Zqw (l:=l) (p:=(v,d)) hd;dsimp only at this;rw [this,e,itn]
 have e3:sg (fun d=>sg (fun w=>if 0≤nx l w ((d+2)%4) then arr l w d else 0) l.length) 4=sg (fun w=>2*deg l w-4*(if deg l w=0 then 0 else 1)) l.length:=by
  rw [ZhA];refine ZcT fun w hw'=>?_;by_cases c:deg l w=0
  ·rw [if_pos c,c];have k:∀ d,d<4→¬ 0≤nx l w d:=by
    intro d hd q;have:=ZiW (l:=l) (p:=(w,d)) ⟨hw',hd,q⟩;dsimp only at this;omega
   rw [ZnQ,if_neg (k _ (by omega)),if_neg (k _ (by omega)),if_neg (k _ (by omega)),if_neg (k _ (by omega))];rfl
  ·rw [if_neg c,Zkc (ZoB c)];rfl
 show sg (fun v=>sg (fun d=>if 0≤nx l v d then tn d (bh l (v,d)).2 else 0) 4) l.length=_;rw [e1,e2,e3,Zjw,Zk6,Zk6];rfl
theorem Fcs.sum {l:List Za}(hc:Ck l) {F:List (List Da)}(h:Fcs l F):(F.map (ZbB l)).sum=2*cD l-4*cV l:=by
 have pe:F.flatten.Perm (ZeG l):=(List.perm_ext_iff_of_nodup h.nd Zmi).2 fun p=>by
  rw [Zlw];refine ⟨fun q=>?_,h.al p⟩;obtain ⟨f,hf,hp⟩:=List.mem_flatten.1 q;exact (h.cy f hf).is p hp
 rw [← Zl9 hc,← Zib pe,ZgQ];rfl
theorem Zk0:∀ {R:List Int},(∀ r∈R,r=4∨r=-4)→R.sum≤4*R.length∧(R.sum=4*R.length→∀ r∈R,r=4)
 | [],_=>⟨by simp,fun _ r hr=>by simp at hr⟩
 | a::R,h=>by
  obtain ⟨i1,i2⟩:=Zk0 (R:=R) fun r hr=>h r (List.mem_cons_of_mem _ hr);have ha:=h a (by simp);rw [List.sum_cons,List.length_cons];refine ⟨by omega,fun e r hr=>?_⟩;rcases List.mem_cons.1 hr with rfl|hr
  ·omega
  ·exact i2 (by omega) r hr
theorem ZmB:∀ {R:List Int},(∀ r∈R,r=4∨r=-4)→R.sum=4*R.length-8→∃ i,i<R.length∧gi R i=-4∧∀ j,j<R.length→gi R j=-4→j=i
 | [],_,h=>by simp at h
 | a::R,h,hs=>by
  have hR:=fun r hr=>h r (List.mem_cons_of_mem a hr);have ha:=h a (by simp);rw [List.sum_cons,List.length_cons] at hs;rcases ha with rfl|rfl
  ·obtain ⟨i,h1,h2,h3⟩:=ZmB hR (by omega);refine ⟨i+1,by simp;omega,h2,fun j hj e=>?_⟩
   cases j with
   | zero=>have e':(4:Int)=-4:=e;omega
   | succ j=>rw [h3 j (by simp at hj;omega) e]
  ·have:=(Zk0 hR).2 (by omega);refine ⟨0,by simp,rfl,fun j hj e=>?_⟩
   cases j with
   | zero=>rfl
   | succ j =>
    have hj':j<R.length:=by simp at hj;omega
    have e':gi R j=-4:=e;have:=this _ (ZaG hj');omega
theorem ZfD {l:List Za}(hc:Ck l):Val l↔(∀ f,Cyc l f→ZbB l f=4∨ZbB l f=-4)∧chi l=4:=by
 have sm:=(Fcs.faces hc).sum hc;constructor
 ·intro h;obtain ⟨a,ha,h0⟩:=ZhY.2 h;have ft:=ZjC ha h0;have e:(((faces l).flatten.map fun p=>tn p.2 (bh l p).2)).sum=((faces l).map (ZbB l)).sum:=by rw [ZgQ];rfl
  rw [e,sm] at ft;refine ⟨fun f hf=>?_,by unfold chi;omega⟩;obtain ⟨p,hp⟩:=List.exists_mem_of_ne_nil f hf.ne;obtain ⟨i,hi,hpi⟩:=Znw hc (hf.is p hp) (Zox hc);rw [Zgl (hf.perm (Zfs hc _ (ZaG hi)) hp hpi)];exact h.1 i hi
 ·rintro ⟨h,hchi⟩;have pm:∀ r∈(faces l).map (ZbB l),r=4∨r=-4:=by
   intro r hr;obtain ⟨f,hf,rfl⟩:=List.mem_map.1 hr;exact h f (Zfs hc f hf)
  unfold chi at hchi;obtain ⟨i,h1,h2,h3⟩:=ZmB pm (by rw [sm,List.length_map];omega);rw [List.length_map] at h1 h3;refine ⟨fun j hj=>h _ (Zfs hc _ (ZaG hj)),⟨i,h1,by rw [← ZcD (f:=ZbB l) h1];exact h2⟩,fun j k hj hk e1 e2=>?_⟩;rw [h3 j hj (by rw [ZcD hj];exact e1),h3 k hk (by rw [ZcD hk];exact e2)]
theorem ZnK {l:List Za}(hc:Ck l) {f g:List Da}{R:List (List Da)}(h:Fcs l (f::g::R)) (hp:∀ f,Cyc l f→ZbB l f=4∨ZbB l f=-4) (hchi:chi l=4) (h1:ZbB l f=-4) (h2:ZbB l g=-4):False:=by
 have sm:=h.sum hc;have ln:=h.len (Fcs.faces hc);have:=(Zk0 (R:=R.map (ZbB l)) fun r hr=>by
  obtain ⟨x,hx,rfl⟩:=List.mem_map.1 hr;exact hp x (h.cy x (by simp [hx]))).1
 unfold chi at hchi;simp only [List.map_cons,List.sum_cons,List.length_cons,List.length_map] at sm ln this;omega
theorem Del.val {l m:List Za}(hc:Ck l) (hm:Ck m) {v d w:Nat}(D:Del l m v d w) (Cl:Cn l) (Cm:Cn m) {p:Da}(hp:Mu.isD m p) (h:Val l):Val m:=by
 obtain ⟨h1,h2⟩:=(ZfD hc).1 h;have t:=Znq hm Cm hp;have key:∀ F,Fcs m F→(∀ f∈F,ZbB m f=4∨ZbB m f=-4)→∀ f,Cyc m f→ZbB m f=4∨ZbB m f=-4:=by
  intro F hF hr f hf;obtain ⟨x,hx⟩:=List.exists_mem_of_ne_nil f hf.ne;obtain ⟨g,hg,hxg⟩:=List.mem_flatten.1 (hF.al x (hf.is x hx));rw [Zgl (hf.perm (hF.cy g hg) hx hxg)];exact hr g hg
 have X:Mu.chi m=4:=by
  rcases D.chi hc hm with (q|q)|⟨_,q1,q2⟩
  ·omega
  ·omega
  ·exact (Zkt hc D Cl hp q1 q2).elim
 refine (ZfD hm).2 ⟨?_,X⟩;have a1:=D.cD hc;have a2:=D.cV hc
 cases D.kind hc with
 | two A B R hA hB hl hm' rot same n1 n2 lm =>
  refine key _ hm' fun f hf=>?_;rcases List.mem_cons.1 hf with rfl|hf
  ·rw [rot];rcases h1 _ hA.cyc with x|x<;>rcases h1 _ hB.cyc with y|y
   ·left;omega
   ·right;omega
   ·right;omega
   ·exact (ZnK hc hl h1 h2 x y).elim
  ·rw [same f hf];exact h1 f (hl.cy f (by simp [hf]))
 | one A B R hA hl hm' rot same n1 n2 lA lB =>
  have f1:=hl.len (Fcs.faces hc);have f2:=hm'.len (Fcs.faces hm);simp only [List.length_cons] at f1 f2;have b1:=ZgA hc D.e;have b2:=ZgA hc (D.e' hc);rw [D.opp] at b1;rw [← D.opp,ZcW hc D.e,D.opp] at b2;dsimp only at b1 b2;rw [if_neg fun q=>n2 (b2.2 q),if_neg fun q=>n1 (b1.2 q)] at a2;unfold Mu.chi at h2 X;omega
 | leaf A R hA hl hm' rot same n =>
  refine key _ hm' fun f hf=>?_;rcases List.mem_cons.1 hf with rfl|hf
  ·rw [rot];exact h1 _ hA
  ·rw [same f hf];exact h1 f (hl.cy f (by simp [hf]))
 | iso R hA hl hm' same n1 n2=>exact (Zkt hc D Cl hp n1 n2).elim
theorem Sub.val {l:List Za}(hl:Ck l) (Cl:Cn l) (h:Val l):∀ (k:Nat) (m:List Za),Ck m→Sub m l→Cn m→(∃ p,isD m p)→(cD l-cD m).toNat≤k→Val m:=by
 intro k
 induction k with
 | zero =>
  intro m hm S Cm ⟨p0,h0⟩ hk;by_cases c:∀ p,isD l p→isD m p
  ·obtain ⟨a,b,_⟩:=S.all hm hl c;obtain ⟨h1,h2⟩:=(ZfD hl).1 h;refine (ZfD hm).2 ⟨fun f hf=>?_,by rw [← S.chi_all hm hl c];exact h2⟩;obtain ⟨k1,k2⟩:=hf.same (l:=m) (m:=l) (fun p=>(a p).symm) fun p hp=>(b p ((a p).1 hp)).symm;rw [← k2];exact h1 f k1
  ·have:∃ p,isD l p∧¬ isD m p:=Classical.byContradiction fun q=>c fun p hp=>Classical.byContradiction fun r=>q ⟨p,hp,r⟩;obtain ⟨x,hx,hx'⟩:=this;obtain ⟨m',v,d,w,hm',D,S',C'⟩:=Zny hl hm S Cl Cm h0 hx hx';have:=D.cD hm';have:=S'.cD_le;omega
 | succ k ih =>
  intro m hm S Cm ⟨p0,h0⟩ hk;by_cases c:∀ p,isD l p→isD m p
  ·obtain ⟨a,b,_⟩:=S.all hm hl c;obtain ⟨h1,h2⟩:=(ZfD hl).1 h;refine (ZfD hm).2 ⟨fun f hf=>?_,by rw [← S.chi_all hm hl c];exact h2⟩;obtain ⟨k1,k2⟩:=hf.same (l:=m) (m:=l) (fun p=>(a p).symm) fun p hp=>(b p ((a p).1 hp)).symm;rw [← k2];exact h1 f k1
  ·have:∃ p,isD l p∧¬ isD m p:=Classical.byContradiction fun q=>c fun p hp=>Classical.byContradiction fun r=>q ⟨p,hp,r⟩;obtain ⟨x,hx,hx'⟩:=this;obtain ⟨m',v,d,w,hm',D,S',C'⟩:=Zny hl hm S Cl Cm h0 hx hx';have e1:=D.cD hm';exact D.val hm' hm C' Cm h0 (ih m' hm' S' C' ⟨p0,(D.isD.1 h0).1⟩ (by omega))
end Mu
/- Cells on a plane: laid out on the board's own lines. -/
namespace Mu
/-! Cells that hang together,dart by dart. -/
theorem ZqM:∀ a b c d:Bool,∀ i j:Fin 4,Zdp a b c d i.1=true→Zdp a b c d j.1=true →
  j.1=i.1∨j.1=prv (Zdp a b c d) ((i.1+2)%4)∨j.1=prv (Zdp a b c d) ((prv (Zdp a b c d) ((i.1+2)%4)+2)%4)∨j.1=prv (Zdp a b c d) ((prv (Zdp a b c d) ((prv (Zdp a b c d) ((i.1+2)%4)+2)%4)+2)%4):=by decide +kernel
theorem Zlc {l:List Za}(hc:Ck l) {C:Da→Prop}(hC:∀ x,isD l x→C x→C (bh l x)∧C (opp l x)) {u i j:Nat}(hi:isD l (u,i)) (hj:isD l (u,j)) (h:C (u,i)):C (u,j):=by
 have st:∀ {k},isD l (u,k)→C (u,k)→isD l (u,prv (fun e=>decide (0≤nx l u e)) ((k+2)%4))∧C (u,prv (fun e=>decide (0≤nx l u e)) ((k+2)%4)):=by
  intro k hk hCk;have f:=hk.fwd hc;have o:=hk.opp hc;have c1:=(hC _ hk hCk).2;have c2:=(hC _ o c1).1;have c3:=o.bh hc;rw [Zfh] at c2 c3;have e:(nx l (opp l (u,k)).1 (opp l (u,k)).2).toNat=u:=by
   show (nx l (nx l u k).toNat ((k+2)%4)).toNat=u;have:=f.2;dsimp only at this;rw [this];omega
  rw [e] at c2 c3;exact ⟨c3,c2⟩
 have q:=ZqM (decide (0≤nx l u 0)) (decide (0≤nx l u 1)) (decide (0≤nx l u 2)) (decide (0≤nx l u 3)) ⟨i,hi.2.1⟩ ⟨j,hj.2.1⟩;have se:∀ e,e<4→Zdp (decide (0≤nx l u 0)) (decide (0≤nx l u 1)) (decide (0≤nx l u 2)) (decide (0≤nx l u 3)) e=decide (0≤nx l u e):=fun e he=>ZdV (A:=fun e=>decide (0≤nx l u e)) he;have pe:∀ e,e<4→prv (Zdp (decide (0≤nx l u 0)) (decide (0≤nx l u 1)) (decide (0≤nx l u 2)) (decide (0≤nx l u 3))) e=prv (fun e=>decide (0≤nx l u e)) e:=fun e he=>Zfg (A:=fun e=>decide (0≤nx l u e)) he;have i0:=hi.2.2;have j0:=hj.2.2;dsimp only at q i0 j0;have q:=q (by rw [se i hi.2.1];simpa using i0) (by rw [se j hj.2.1];simpa using j0);have l1:prv (fun e=>decide (0≤nx l u e)) ((i+2)%4)<4:=ZmE (by omega);rw [pe _ (by omega),pe _ (by omega),pe _ (by omega)] at q;obtain ⟨d1,c1⟩:=st hi h;obtain ⟨d2,c2⟩:=st d1 c1;obtain ⟨d3,c3⟩:=st d2 c2;rcases q with q|q|q|q
 ·rw [q];exact h
 ·rw [q];exact c1
 ·rw [q];exact c2
 ·rw [q];exact c3
theorem Zo8 {l:List Za}(hc:Ck l) {C:Da→Prop}(hC:∀ x,isD l x→C x→C (bh l x)∧C (opp l x)) {u n w:Nat}(hu:u<l.length) (hr:Rch l u n w) (h:∀ j,isD l (u,j)→C (u,j)):∀ j,isD l (w,j)→C (w,j):=by
 induction hr with
 | zero=>exact h
 | succ hr hab ih =>
  rename_i n a b;have ha:=hr.lt hc hu;obtain ⟨d,hd,e⟩:=hab;have D:isD l (a,d):=⟨ha,hd,by rw [e];omega⟩;have c:=(hC _ D (ih d D)).2;have o:=D.opp hc;have eo:opp l (a,d)=(b,(d+2)%4):=by unfold opp;dsimp only;rw [e,itn]
  rw [eo] at c o;exact fun j hj=>Zlc hc hC o hj c
theorem ZjA {l:List Za}(hc:Ck l) (h:ZeI l):Cn l:=by
 intro C hC p q hp hq hCp;have all:∀ j,isD l (p.1,j)→C (p.1,j):=fun j hj=>Zlc (i:=p.2) hc hC hp hj hCp;obtain ⟨n,r1⟩:=ZiK h hp.1;obtain ⟨m,r2⟩:=ZiK h hq.1;exact Zo8 hc hC hp.1 ((r1.symm hc (by have:=hp.1;omega)).trans r2) all q.2 hq

/-! The board. -/
end Mu
/- A way of ZeG that never ZgY one way does not come back: numbers that rise along it. -/
namespace Mu
theorem ZdC {α:Type} [Inhabited α] {l:List α}{x:α}(h:x∈l):∃ i,i<l.length∧gi l i=x:=by
 obtain ⟨i,hi,e⟩:=List.mem_iff_getElem.1 h;exact ⟨i,hi,by rw [ZaH hi,e]⟩
theorem ZoI {α:Type} [Inhabited α] {l:List α}(h:l.Nodup) {i j:Nat}(hi:i<l.length) (hj:j<l.length) (e:gi l i=gi l j):i=j:=by
 rw [List.Nodup,List.pairwise_iff_getElem] at h;rw [ZaH hi,ZaH hj] at e;refine Classical.byContradiction fun c=>?_;rcases Nat.lt_or_gt_of_ne c with q|q
 ·exact h i j hi hj q e
 ·exact h j i hj hi q e.symm
def ZpR (l:List Za) (A:Da→Bool) (v:Nat):Za:=⟨⟨if A (v,0) then nx l v 0 else -1,if A (v,1) then nx l v 1 else -1,if A (v,2) then nx l v 2 else -1,if A (v,3) then nx l v 3 else -1⟩,⟨if A (v,0) then ow l v 0 else 0,if A (v,1) then ow l v 1 else 0,if A (v,2) then ow l v 2 else 0,if A (v,3) then ow l v 3 else 0⟩⟩
def flt (l:List Za) (A:Da→Bool):List Za:=(List.range l.length).map (ZpR l A)
theorem Zh4 {l:List Za}{A:Da→Bool}:(flt l A).length=l.length:=by simp [flt]
theorem Zg0 {l:List Za}{A:Da→Bool}{v d:Nat}(hv:v<l.length) (hd:d<4):nx (flt l A) v d=(if A (v,d) then nx l v d else -1)∧ow (flt l A) v d=(if A (v,d) then ow l v d else 0):=by
 have e:gi (flt l A) v=ZpR l A v:=Zcq hv;unfold nx ow;rw [e]
 match d,hd with
 | 0,_|1,_|2,_|3,_=>exact ⟨rfl,rfl⟩
theorem ZgI {l:List Za}{A:Da→Bool}{p:Da}:isD (flt l A) p↔isD l p∧A p=true:=by
 unfold isD;rw [Zh4];constructor
 ·rintro ⟨a,b,c⟩;rw [(Zg0 a b).1] at c;by_cases q:A (p.1,p.2)=true
  ·rw [if_pos q] at c;exact ⟨⟨a,b,c⟩,q⟩
  ·rw [if_neg q] at c;omega
 ·rintro ⟨⟨a,b,c⟩,q⟩;have q':A (p.1,p.2)=true:=q;refine ⟨a,b,?_⟩;rw [(Zg0 a b).1,if_pos q'];exact c
theorem Znx {l:List Za}{A:Da→Bool}:Sub (flt l A) l:=⟨Zh4,fun u e hu he=>by
 rw [(Zg0 hu he).1];split
 ·exact .inl rfl
 ·exact .inr rfl⟩
theorem ZoH {l:List Za}(hc:Ck l) {A:Da→Bool}(hA:∀ p,isD l p→A p=true→A (opp l p)=true):Ck (flt l A):=by
 refine ⟨fun v d hv hd=>?_⟩;rw [Zh4] at hv ⊢;rw [(Zg0 hv hd).1,(Zg0 hv hd).2];rcases hc.s v d hv hd with ⟨a,b⟩|⟨w,a,b,c,e,f,g⟩
 ·left;constructor
  ·split
   ·exact a
   ·rfl
  ·split
   ·exact b
   ·rfl
 ·by_cases q:A (v,d)=true
  ·right;have iv:isD l (v,d):=⟨hv,hd,by rw [a];omega⟩;have q2:A (w,(d+2)%4)=true:=by
    have:=hA _ iv q;unfold opp at this;dsimp only at this;rw [a,itn] at this;exact this
   refine ⟨w,by rw [if_pos q,a],b,c,?_,?_,?_⟩
   ·rw [(Zg0 b (by omega)).1,if_pos q2,e]
   ·rw [(Zg0 b (by omega)).2,if_pos q2,if_pos q,f]
   ·rw [if_pos q];exact g
  ·left;rw [if_neg q,if_neg q];exact ⟨rfl,rfl⟩
def Wk (l:List Za):Nat→List Da→Nat→Prop
 | x,[],y=>x=y
 | x,p::t,y=>p.1=x∧isD l p∧Wk l (nx l p.1 p.2).toNat t y
theorem Wk.cut {l:List Za}{y:Nat}:∀ {s:List Da}{x u:Nat},Wk l x s y→u∈s.map (·.1)→∃ a b,s=a++b∧Wk l u b y
 | [],x,u,h,hu=>by simp at hu
 | p::s,x,u,h,hu=>by
  by_cases c:u=p.1
  ·exact ⟨[],p::s,rfl,by subst c;exact ⟨rfl,h.2.1,h.2.2⟩⟩
  ·have:u∈s.map (·.1):=by
    rw [List.map_cons,List.mem_cons] at hu;exact hu.resolve_left c
   obtain ⟨a,b,e,w⟩:=Wk.cut h.2.2 this;exact ⟨p::a,b,by rw [e];rfl,w⟩
theorem Wk.simple {l:List Za}{y:Nat}{D:Nat→Prop}:∀ {s:List Da}{x:Nat},Wk l x s y→(∀ p∈s,D p.2)→∃ s',Wk l x s' y∧(∀ p∈s',D p.2)∧(s'.map (·.1)).Nodup∧y ∉ s'.map (·.1)
 | [],x,h,hD=>⟨[],h,by simp,by simp,by simp⟩
 | p::s,x,h,hD=>by
  obtain ⟨s',w,d,nd,ny⟩:=Wk.simple h.2.2 (fun q hq=>hD q (by simp [hq]));by_cases c:x=y
  ·exact ⟨[],c,by simp,by simp,by simp⟩
  ·by_cases e:x∈s'.map (·.1)
   ·obtain ⟨a,b,e1,w1⟩:=Wk.cut w e;subst e1;rw [List.map_append] at nd ny;refine ⟨b,w1,fun q hq=>d q (by simp [hq]),(List.nodup_append.1 nd).2.1,fun q=>ny (by simp only [List.mem_append];exact .inr q)⟩
   ·refine ⟨p::s',⟨h.1,h.2.1,w⟩,?_,?_,?_⟩
    ·intro q hq;rcases List.mem_cons.1 hq with rfl|hq
     ·exact hD _ (by simp)
     ·exact d q hq
    ·rw [List.map_cons,List.nodup_cons,h.1];exact ⟨e,nd⟩
    ·rw [List.map_cons,List.mem_cons,h.1];rintro (q|q)
     ·exact c q.symm
     ·exact ny q
theorem Wk.at {l:List Za}{y:Nat}:∀ {s:List Da}{x:Nat},Wk l x s y→∀ i,i<s.length→isD l (gi s i)∧(nx l (gi s i).1 (gi s i).2).toNat=(if i+1<s.length then (gi s (i+1)).1 else y)∧(i=0→(gi s i).1=x)
 | [],x,h,i,hi=>by simp at hi
 | p::s,x,h,0,hi=>by
  have e0:gi (p::s) 0=p:=rfl;rw [e0];refine ⟨h.2.1,?_,fun _=>h.1⟩
  match s,h with
  | [],h=>simp;exact h.2.2
  | q::s,h =>
   rw [if_pos (by simp)];exact h.2.2.1.symm
 | p::s,x,h,i+1,hi=>by
  have hi':i<s.length:=by simpa using hi
  have e0:∀ j,gi (p::s) (j+1)=gi s j:=fun j=>rfl;rw [e0,e0];obtain ⟨a,b,_⟩:=Wk.at h.2.2 i hi';refine ⟨a,?_,fun c=>by omega⟩;rw [b];by_cases c:i+1<s.length
  ·rw [if_pos c,if_pos (by simp;omega)]
  ·rw [if_neg c,if_neg (by simp;omega)]
def ph (d0 e:Nat):Int:=if e=d0 then 0 else if e=(d0+1)%4 then 1 else -1
theorem Zpt:∀ d a b:Fin 4,a.1≠(d.1+2)%4→b.1≠(d.1+2)%4→b.1≠(a.1+2)%4→tn a.1 b.1=ph d.1 b.1-ph d.1 a.1:=by decide +kernel
theorem Zqx {d a b:Nat}(hd:d<4) (ha:a<4) (hb:b<4) (h1:a≠(d+2)%4) (h2:b≠(d+2)%4) (h3:b≠(a+2)%4):tn a b=ph d b-ph d a:=Zpt ⟨d,hd⟩ ⟨a,ha⟩ ⟨b,hb⟩ h1 h2 h3
theorem Zlh {f g:Da→Int}:∀ {L:List Da},(L.map fun p=>f p-g p).sum=(L.map f).sum-(L.map g).sum
 | []=>rfl
 | a::L=>by simp only [List.map_cons,List.sum_cons];rw [Zlh];omega
theorem Zm8 {l:List Za}(hc:Ck l) (hV:Val l) (Cl:Cn l) {d0:Nat}(h4:d0<4) {p:Da}(hp:isD l p) (hp2:p.2=d0) {s:List Da}(hs:Wk l (nx l p.1 p.2).toNat s p.1) (hD:∀ q∈s,q.2≠(d0+2)%4):False:=by
 obtain ⟨s,hs,hD,nd,ny⟩:=hs.simple (D:=fun e=>e≠(d0+2)%4) hD;obtain ⟨f,hf⟩:∃ f,f=p::s:=⟨_,rfl⟩;have w:Wk l p.1 f p.1:=by rw [hf];exact ⟨rfl,hp,hs⟩
 have fnd:(f.map (·.1)).Nodup:=by rw [hf,List.map_cons,List.nodup_cons];exact ⟨ny,nd⟩
 have fD:∀ q∈f,q.2≠(d0+2)%4:=by
  intro q hq;rw [hf] at hq;rcases List.mem_cons.1 hq with rfl|hq
  ·omega
  ·exact hD q hq
 have f0:0<f.length:=by rw [hf];simp
 have g0:gi f 0=p:=by rw [hf];rfl
 have at_:=fun i hi=>w.at i hi;have inj:∀ i j,i<f.length→j<f.length→(gi f i).1=(gi f j).1→i=j:=by
  intro i j hi hj h;have k:∀ i,i<f.length→gi (f.map (·.1)) i=(gi f i).1:=fun i hi=>ZcD hi;rw [← k i hi,← k j hj] at h;exact ZoI fnd (by simpa using hi) (by simpa using hj) h
 obtain ⟨nxi,hnx⟩:∃ nxi:Nat→Nat,∀ i,nxi i=if i+1<f.length then i+1 else 0:=⟨fun i=>if i+1<f.length then i+1 else 0,fun _=>rfl⟩;have nlt:∀ i,i<f.length→nxi i<f.length:=fun i hi=>by rw [hnx];split<;>omega
 have tgt:∀ i,i<f.length→(nx l (gi f i).1 (gi f i).2).toNat=(gi f (nxi i)).1:=by
  intro i hi;rw [(at_ i hi).2.1,hnx];split
  ·rfl
  ·rw [g0]
 -- no turn back
 have nob:∀ i,i<f.length→(gi f (nxi i)).2≠((gi f i).2+2)%4:=by
  intro i hi e;have b:=(at_ i hi).1.fwd hc;have t2:=tgt (nxi i) (nlt i hi);have e1:(nx l (gi f (nxi i)).1 (gi f (nxi i)).2).toNat=(gi f i).1:=by
   rw [e,← tgt i hi,b.2];omega
  rw [t2] at e1;have k:=inj _ _ (nlt _ (nlt i hi)) hi e1;have c1:=fD _ (ZaG hi);have c2:=fD _ (ZaG (nlt i hi));have l1:=(at_ i hi).1.2.1;have l2:=(at_ _ (nlt i hi)).1.2.1;have n1:i≠0:=by
   rintro rfl;rw [g0] at e;omega
  have n2:nxi i≠0:=by
   intro z;rw [z,g0] at e;omega
  have h1:=hnx i;have h2:=hnx (nxi i);rw [k] at h2;split at h1<;>split at h2<;>omega
 -- the way's edges alone
 obtain ⟨A,hA⟩:∃ A:Da→Bool,∀ q,A q=true↔(q∈f∨opp l q∈f):=⟨fun q=>decide (q∈f∨opp l q∈f),fun q=>by simp⟩;have fis:∀ q∈f,isD l q:=fun q hq=>by
  obtain ⟨i,hi,e⟩:=ZdC hq;rw [← e];exact (at_ i hi).1
 have hm:Ck (flt l A):=ZoH hc fun q hq h=>by
  rw [hA] at h ⊢;rw [ZcW hc hq];exact h.symm
 have S:Sub (flt l A) l:=Znx;have fm:∀ q∈f,isD (flt l A) q:=fun q hq=>ZgI.2 ⟨fis q hq,(hA q).2 (.inl hq)⟩;have nxm:∀ q∈f,nx (flt l A) q.1 q.2=nx l q.1 q.2:=fun q hq=>(S.is (fm q hq)).2
 -- what lies at a cell of the way
 have only:∀ i e,i<f.length→e<4→(0≤nx (flt l A) (gi f (nxi i)).1 e↔e=(gi f (nxi i)).2∨e=((gi f i).2+2)%4):=by
  intro i e hi he;have iN:=(at_ _ (nlt i hi)).1;constructor
  ·intro h;have hq:isD (flt l A) ((gi f (nxi i)).1,e):=⟨by rw [Zh4];exact iN.1,he,h⟩;obtain ⟨q1,q2⟩:=ZgI.1 hq;rcases (hA _).1 q2 with m|m
   ·obtain ⟨j,hj,ej⟩:=ZdC m;have:=inj j (nxi i) hj (nlt i hi) (by rw [ej]);left;rw [← this,ej]
   ·obtain ⟨j,hj,ej⟩:=ZdC m;have b:=(q1.opp hc).fwd hc;have o2:=ZcW hc q1;have t:=tgt j hj;rw [ej] at t;have t1:(nx l (opp l ((gi f (nxi i)).1,e)).1 (opp l ((gi f (nxi i)).1,e)).2).toNat=(gi f (nxi i)).1:=congrArg Prod.fst o2;rw [t1] at t;have k:=inj _ _ (nlt i hi) (nlt j hj) t;have ij:i=j:=by
     have h1:=hnx i;have h2:=hnx j;split at h1<;>split at h2<;>omega
    right;rw [ij,ej];unfold opp;dsimp only;omega
  ·rintro (q|q)
   ·rw [q];exact (fm _ (ZaG (nlt i hi))).2.2
   ·have:=((fm _ (ZaG hi)).opp hm).2.2;unfold opp at this;dsimp only at this;rw [nxm _ (ZaG hi),tgt i hi] at this;rw [q];exact this
 have bhm:∀ i,i<f.length→bh (flt l A) (gi f i)=gi f (nxi i):=by
  intro i hi;have nb:=nob i hi;have l1:=(at_ i hi).1.2.1;have l2:=(at_ _ (nlt i hi)).1.2.1;unfold bh;rw [nxm _ (ZaG hi),tgt i hi];have o:=fun e he=>only i e hi he;have e3:gi f (nxi i)=((gi f (nxi i)).1,(gi f (nxi i)).2):=rfl;generalize (gi f (nxi i)).2=r at *;generalize (gi f i).2=q at *;rw [e3];by_cases c1:r=(q+1)%4
  ·rw [if_pos ((o _ (by omega)).2 (.inl c1.symm)),c1]
  ·rw [if_neg (fun h=>by rcases (o _ (by omega)).1 h with k|k<;>omega)];by_cases c2:r=q
   ·rw [if_pos ((o _ (by omega)).2 (.inl c2.symm)),c2]
   ·rw [if_neg (fun h=>by rcases (o _ (by omega)).1 h with k|k<;>omega)];have c3:r=(q+3)%4:=by omega
    rw [if_pos ((o _ (by omega)).2 (.inl c3.symm)),c3]
 have fn:f.Nodup:=(List.pairwise_map.1 fnd).imp fun {a b} h e=>h (by rw [e]);have one:∀ C:Da→Prop,(∀ x,isD (flt l A) x→C x→C (bh (flt l A) x))→∀ q∈f,∀ r∈f,C q→C r:=by
  intro C hC q hq r hr h;obtain ⟨i,hi,ei⟩:=ZdC hq;obtain ⟨j,hj,ej⟩:=ZdC hr;have step:∀ i,i<f.length→C (gi f i)→C (gi f (nxi i)):=fun i hi h=>by
   rw [← bhm i hi];exact hC _ (fm _ (ZaG hi)) h
  have up:∀ k,∀ i,i<f.length→i+k<f.length→C (gi f i)→C (gi f (i+k)):=by
   intro k
   induction k with
   | zero=>intro i hi _ h;exact h
   | succ k ih =>
    intro i hi hk h;have:=step (i+k) (by omega) (ih i hi (by omega) h);rw [hnx,if_pos (by omega)] at this;exact this
  rw [← ei] at h;have hl:=up (f.length-1-i) i hi (by omega) h;have h0:=step _ (by omega) hl;rw [hnx,if_neg (by omega)] at h0;have:=up j 0 f0 (by omega) h0;rw [Nat.zero_add] at this;rw [← ej];exact this
 have cy:Cyc (flt l A) f:=⟨by rw [hf];simp,fn,fm,fun q hq=>by
  obtain ⟨i,hi,e⟩:=ZdC hq;rw [← e,bhm i hi];exact ZaG (nlt i hi),one⟩
 have Cm:Cn (flt l A):=by
  intro C hC x y hx hy h;have tof:∀ x,isD (flt l A) x→C x→∃ x'∈f,C x':=by
   intro x hx h;rcases (hA x).1 (ZgI.1 hx).2 with m|m
   ·exact ⟨x,m,h⟩
   ·exact ⟨_,m,by rw [← S.opp hx];exact (hC x hx h).2⟩
  obtain ⟨x',m1,c1⟩:=tof x hx h;have all:∀ r∈f,C r:=fun r hr=>one C (fun z hz k=>(hC z hz k).1) x' m1 r hr c1;rcases (hA y).1 (ZgI.1 hy).2 with m|m
  ·exact all y m
  ·have k:=(hC _ (fm _ m) (all _ m)).2;rw [S.opp (fm _ m),ZcW hc (ZgI.1 hy).1] at k;exact k
 have hpf:p∈f:=by rw [hf];simp
 have V:=Sub.val hc Cl hV _ (flt l A) hm S Cm ⟨p,fm p hpf⟩ (Nat.le_refl _);have r4:=((ZfD hm).1 V).1 f cy
 -- its turns are none in all
 have e1:ZbB (flt l A) f=(f.map fun q=>ph d0 (bh (flt l A) q).2-ph d0 q.2).sum:=by
  unfold ZbB tns;congr 1;refine List.map_congr_left fun q hq=>?_;obtain ⟨i,hi,e⟩:=ZdC hq;rw [← e,bhm i hi];exact Zqx h4 (at_ i hi).1.2.1 (at_ _ (nlt i hi)).1.2.1 (fD _ (ZaG hi)) (fD _ (ZaG (nlt i hi))) (nob i hi)
 have pm:(f.map (bh (flt l A))).Perm f:=by
  have nd2:(f.map (bh (flt l A))).Nodup:=List.pairwise_map.2 (fn.imp_of_mem fun {a b} ha hb hne he=>hne (ZgV hm (fm a ha) (fm b hb) he));have sub:∀ x∈f.map (bh (flt l A)),x∈f:=fun x hx=>by
   obtain ⟨q,hq,rfl⟩:=List.mem_map.1 hx;exact cy.cl q hq
  exact (List.perm_ext_iff_of_nodup nd2 fn).2 fun x=>⟨sub x,ZkM nd2 fn sub (by simp) x⟩
 have e2:(f.map fun q=>ph d0 (bh (flt l A) q).2).sum=(f.map fun q=>ph d0 q.2).sum:=by
  have:=Zib (f:=fun q:Da=>ph d0 q.2) pm;rw [List.map_map] at this;exact this
 rw [Zlh (f:=fun q=>ph d0 (bh (flt l A) q).2) (g:=fun q=>ph d0 q.2),e2] at e1;omega
theorem pot {l:List Za}(hc:Ck l) (hV:Val l) (Cl:Cn l) {d0:Nat}(h4:d0<4):∃ φ:Nat→Nat,(∀ x,φ x≤l.length)∧(∀ p,isD l p→p.2=d0→φ p.1<φ (nx l p.1 p.2).toNat)∧∀ p,isD l p→p.2=(d0+1)%4∨p.2=(d0+3)%4→φ p.1=φ (nx l p.1 p.2).toNat:=by
 obtain ⟨R,hR⟩:∃ R:Nat→Nat→Prop,∀ x y,R x y↔∃ s,Wk l x s y∧∀ q∈s,q.2≠(d0+2)%4:=⟨fun x y=>∃ s,Wk l x s y∧∀ q∈s,q.2≠(d0+2)%4,fun _ _=>Iff.rfl⟩;obtain ⟨B,hB⟩:∃ B:Nat→Nat→Bool,∀ x y,B x y=true↔R x y:=⟨fun x y=>@decide (R x y) (Classical.propDecidable _),fun x y=>by simp⟩;have step:∀ p,isD l p→p.2≠(d0+2)%4→∀ y,R (nx l p.1 p.2).toNat y→R p.1 y:=by
  intro p hp h y hy;obtain ⟨s,w,d⟩:=(hR _ _).1 hy;refine (hR _ _).2 ⟨p::s,⟨rfl,hp,w⟩,fun q hq=>?_⟩;rcases List.mem_cons.1 hq with rfl|hq
  ·exact h
  ·exact d q hq
 have len:∀ x,((List.range l.length).filter (B x)).length≤l.length:=fun x=>by
  have:=List.length_filter_le (B x) (List.range l.length);simpa using this
 refine ⟨fun x=>l.length-((List.range l.length).filter (B x)).length,fun x=>Nat.sub_le _ _,fun p hp h=>?_,fun p hp h=>?_⟩
 ·have hl:=p.2;have s:=step p hp (by have:=hp.2.1;omega);have f:=hp.fwd hc;have:((List.range l.length).filter (B (nx l p.1 p.2).toNat)).length+1≤((List.range l.length).filter (B p.1)).length:=by
   have nd:(p.1::(List.range l.length).filter (B (nx l p.1 p.2).toNat)).Nodup:=by
    refine List.nodup_cons.2 ⟨fun m=>?_,List.nodup_range.filter _⟩;have:=(hB _ _).1 (List.mem_filter.1 m).2;obtain ⟨t,w,d⟩:=(hR _ _).1 this;exact Zm8 hc hV Cl h4 hp h w d
   have:=nd.length_le_of_subset (l₂:=(List.range l.length).filter (B p.1)) (fun x hx=>by
    rcases List.mem_cons.1 hx with rfl|hx
    ·exact List.mem_filter.2 ⟨List.mem_range.2 hp.1,(hB _ _).2 ((hR _ _).2 ⟨[],rfl,by simp⟩)⟩
    ·obtain ⟨a,b⟩:=List.mem_filter.1 hx;exact List.mem_filter.2 ⟨a,(hB _ _).2 (s x ((hB _ _).1 b))⟩)
   simpa using this
  have:=len p.1;show l.length-_<l.length-_;omega
 ·have f:=hp.fwd hc;have ho:=hp.opp hc;have h2:=hp.2.1;have e:∀ y,R p.1 y↔R (nx l p.1 p.2).toNat y:=by
   intro y;refine ⟨fun k=>?_,step p hp (by omega) y⟩;have:=step _ ho (by unfold opp;dsimp only;omega) y;have o:(nx l (opp l p).1 (opp l p).2).toNat=p.1:=congrArg Prod.fst (ZcW hc hp);rw [o] at this;exact this k
  have:B p.1=B (nx l p.1 p.2).toNat:=by
   funext y;have:=e y;rw [← hB,← hB] at this;cases h1:B p.1 y<;>cases h2:B (nx l p.1 p.2).toNat y<;>simp_all
  show l.length-_=l.length-_;rw [this]
end Mu
/- An edge more,from corner to corner of one loop. -/
namespace Mu
end Mu
/- Layer 20: FrontFirst. -/
namespace Mu
def ZqE (t:List Int):Option Nat:=(List.range t.length).find? fun k=>decide (gi t k<0)
noncomputable def gF (l:List Za) (i:Nat):Option Nat:=if (i:Int)=ZqN l then none else ZqE (tns l (gi (faces l) i))
end Mu
/- Layer 20: what a turn to the right faces,by sums. -/
namespace Mu
def cs (t:List Int) (i:Nat):Nat→Int
 | 0=>0
 | k+1=>cs t i k+gi t ((i+k)%t.length)
end Mu
/- A cut: an edge split,and a corner joined to it. -/
namespace Mu
/-! Faces,once round from their first ZeG. -/
/-! Edges split. -/
section spl
variable {l:List Za}{a b w:Nat}
variable {m:List Za}
end spl
end Mu
/- A cut of a face that turns to the right: what comes of it. -/
namespace Mu
end Mu
/- Layer 21: cuts in the code;refining,till no inner face turns to the right. -/
namespace Mu
end Mu
/- Layer 15,plainly: corners,sums,rotations. -/
namespace Mu

def knp (x:Int):Nat:=if x=-1 then 1 else if x=-2 then 2 else 0
def Zmw (t:List Int):Nat→List (Nat×Nat)
 | 0=>[]
 | n+1=>Zmw t n++(List.range (knp (gi t n))).map fun p=>(n,p)
def ZpV (t:List Int):List (Nat×Nat):=Zmw t t.length
/-! right -/
/-! contains -/
/-! sums -/
def ZqL (t:List Int) (a b:Nat×Nat):Int:=ZnO t b.1-b.2-(ZnO t a.1-a.2)+if b.1<a.1∨(b.1=a.1∧b.2<a.2) then ZnO t t.length else 0
end Mu
/- Layer 15: the rotation there and back. -/
namespace Mu

end Mu
/- Layer 15: turns of 0,and where one begins. -/
namespace Mu

def looks (t:List Int):Prop:=∃ a∈ZpV t,∃ b∈ZpV t,ZqL t a b=2

/-! A list and another one whose turns,but those of 0,stand elsewhere. -/
/-! How many corners. -/
end Mu
/- Layer 15: the document's answer. -/
namespace Mu

/-! Single turns. -/
def Zqt (x:Int):List Int:=if x=-2 then [-1,-1] else [x]
def Zom (t:List Int):Nat→List Int
 | 0=>[]
 | n+1=>Zom t n++Zqt (gi t n)
def pos (t:List Int) (c:Nat×Nat):Nat:=(Zom t c.1).length+c.2
end Mu
/- Layer 15: KittyRegular. -/
namespace Mu
end Mu
/- Layer 22: corners that look at one another: an edge laid between them leaves cells that can be drawn. -/
namespace Mu
end Mu
/- Loops that turn one way alone,four times: rectangles. -/
namespace Mu
def tg (l:List Za) (p:Da):Nat:=(nx l p.1 p.2).toNat
def al (X Y:Nat→Int) (d v:Nat):Int:=if d=0 then X v else if d=1 then Y v else if d=2 then -X v else -Y v
def ac (X Y:Nat→Int) (d v:Nat):Int:=if d=0 then Y v else if d=1 then X v else if d=2 then Y v else X v
def Str (l:List Za) (X Y:Nat→Int):Prop:=∀ p,isD l p→al X Y p.2 p.1<al X Y p.2 (tg l p)∧ac X Y p.2 p.1=ac X Y p.2 (tg l p)
end Mu
/- Rectangles laid side by side: a covering of the frame,once. -/
namespace Mu
def wd (l:List Za) (X Y:Nat→Int) (i j:Int) (p:Da):Int:=if p.2=1 then (if i<X p.1∧Y p.1≤j∧j<Y (tg l p) then 1 else 0) else if p.2=3 then (if i<X p.1∧Y (tg l p)≤j∧j<Y p.1 then -1 else 0) else 0
end Mu
/- Rectangles laid side by side: no two cells at a ZcS,none in an edge,no two edges cross. -/
namespace Mu
variable {l:List Za}{X Y:Nat→Int}
def sx (q:Nat) (x:Int):Int:=if q=1∨q=2 then x-1 else x
def sy (q:Nat) (y:Int):Int:=if q=2∨q=3 then y-1 else y
def wq (l:List Za) (v q:Nat):Da:=(v,prv (fun e=>decide (0≤nx l v e)) ((q+3)%4))
end Mu
/- Cells beside cells. -/
namespace Mu
def sh1 (n:Nat) (x:Int):Int:=if 0≤x then x+n else -1
def shC (n:Nat) (c:Za):Za:=⟨⟨sh1 n c.Next.a,sh1 n c.Next.b,sh1 n c.Next.c,sh1 n c.Next.d⟩,c.Owner⟩
def app (l k:List Za):List Za:=l++k.map (shC l.length)
end Mu
/- Layer 21: cells framed. -/
namespace Mu
instance Pt.dec {l:List Za}:∀ (s:List Da) (x y:Da),Decidable (Pt l x s y)
 | [],x,y=>inferInstanceAs (Decidable (x=y))
 | a::s,x,y=>by
  have:=Pt.dec (l:=l) s (bh l a) y;exact inferInstanceAs (Decidable (x=a∧isD l a∧Pt l (bh l a) s y))
end Mu
/- Layer 21: framed cells can be drawn. -/
namespace Mu
end Mu
/- Cells that lie on a plane can be drawn,if they hang together. -/
namespace Mu
def dx (d:Nat):Int:=if d=0 then 1 else if d=2 then -1 else 0
def dy (d:Nat):Int:=if d=1 then 1 else if d=3 then -1 else 0
structure Geo (l:List Za) (at_:List Zg):Prop where
 ck:Ck l
 len:l.length=at_.length
 in8:∀ i,i<l.length→0≤(gi at_ i).X∧(gi at_ i).X<8∧0≤(gi at_ i).Y∧(gi at_ i).Y<8
 inj:∀ i j,i<l.length→j<l.length→(gi at_ i).X=(gi at_ j).X→(gi at_ i).Y=(gi at_ j).Y→i=j
 str:∀ p,isD l p→∃ n:Nat,1≤n∧(gi at_ (nx l p.1 p.2).toNat).X=(gi at_ p.1).X+n*dx p.2∧(gi at_ (nx l p.1 p.2).toNat).Y=(gi at_ p.1).Y+n*dy p.2 ∧
  ∀ u,u<l.length→∀ i:Nat,0<i→i<n→(gi at_ u).X=(gi at_ p.1).X+i*dx p.2→(gi at_ u).Y=(gi at_ p.1).Y+i*dy p.2→False
 nc:NX at_ l
theorem Made.geo {l:List Za}{at_:List Zg}(h:Made l at_):Geo l at_:=by
 have pos:∀ v e,v<l.length→e<2→0≤nx l v e→∃ n:Nat,1≤n∧(gi at_ (nx l v e).toNat).X=(gi at_ v).X+n*dx e∧(gi at_ (nx l v e).toNat).Y=(gi at_ v).Y+n*dy e ∧
   ∀ u,u<l.length→∀ i:Nat,0<i→i<n→(gi at_ u).X=(gi at_ v).X+i*dx e→(gi at_ u).Y=(gi at_ v).Y+i*dy e→False:=by
  intro v e hv he h0;rcases h.near v e hv he with q|q
  ·omega
  ·rcases q with ⟨q,_⟩|⟨j,q,j1,j2,j3⟩
   ·omega
   ·rw [q,itn];have hl:=h.len;have:e=0∨e=1:=by omega
    rcases this with rfl|rfl
    ·obtain ⟨_,c⟩:=j2;rw [if_pos rfl] at c;refine ⟨((gi at_ j).X-(gi at_ v).X).toNat,by omega,by simp [dx];omega,by simp [dy];omega,fun u hu i i0 i1 hx hy=>?_⟩;simp [dx,dy] at hx hy;have:=j3 u (by omega) ⟨by omega,by rw [if_pos rfl];omega⟩;unfold ZcZ at this;rw [if_pos rfl] at this;omega
    ·obtain ⟨_,c⟩:=j2;rw [if_neg (by omega)] at c;refine ⟨((gi at_ j).Y-(gi at_ v).Y).toNat,by omega,by simp [dx];omega,by simp [dy];omega,fun u hu i i0 i1 hx hy=>?_⟩;simp [dx,dy] at hx hy;have:=j3 u (by omega) ⟨by omega,by rw [if_neg (by omega)];omega⟩;unfold ZcZ at this;rw [if_neg (by omega)] at this;omega
 refine ⟨h.ck,h.len,fun i hi=>h.pts.b i (by rw [← h.len];exact hi),fun i j hi hj hx hy=>h.pts.d i j (by rw [← h.len];exact hi) (by rw [← h.len];exact hj) ?_,fun p hp=>?_,h.nc⟩
 ·generalize gi at_ i=a at *;generalize gi at_ j=b at *;obtain ⟨a1,a2⟩:=a;obtain ⟨b1,b2⟩:=b;dsimp only at hx hy;rw [hx,hy]
 ·obtain ⟨v,d⟩:=p;have f:=hp.fwd h.ck;obtain ⟨v1,d1,n1⟩:=hp;dsimp only at v1 d1 n1 f ⊢;by_cases c:d<2
  ·exact pos v d v1 c n1
  ·have hw:(((nx l v d).toNat:Nat):Int)=nx l v d:=by omega
   generalize (nx l v d).toNat=w at *;obtain ⟨n,a1,a2,a3,a4⟩:=pos w ((d+2)%4) f.1 (by omega) (by rw [f.2];omega);rw [f.2,itn] at a2 a3;have sx:dx ((d+2)%4)=- dx d:=by
    have:d=2∨d=3:=by omega
    rcases this with rfl|rfl<;>rfl
   have sy:dy ((d+2)%4)=- dy d:=by
    have:d=2∨d=3:=by omega
    rcases this with rfl|rfl<;>rfl
   rw [sx] at a2 a4;rw [sy] at a3 a4;rw [Int.mul_neg] at a2 a3;refine ⟨n,a1,by omega,by omega,fun u hu i i0 i1 hx hy=>a4 u hu (n-i) (by omega) (by omega) ?_ ?_⟩
   ·rw [Int.mul_neg,Int.natCast_sub (by omega),Int.sub_mul];omega
   ·rw [Int.mul_neg,Int.natCast_sub (by omega),Int.sub_mul];omega
section geo
variable {l:List Za}{at_:List Zg}
def pX (at_:List Zg) (p:Da) (i:Int):Int:=(gi at_ p.1).X+i*dx p.2
def pY (at_:List Zg) (p:Da) (i:Int):Int:=(gi at_ p.1).Y+i*dy p.2
end geo
end Mu
/- Layer 14: ValidPlane: the board's cells that lie under cells on a plane. -/
namespace Mu
def ps (x y:Int):Nat:=(8*y+x).toNat
section geo
variable {l:List Za}{at_:List Zg}
def un (at_:List Zg) (p:Da) (i:Nat):Da:=(ps (pX at_ p i) (pY at_ p i),p.2)
end geo
end Mu
/- Layer 21: framing and refining in the code;RectCounts. -/
namespace Mu
/-! Turns to the right,face by face. -/
end Mu
/- Layer 21: RectKeeps: old edges are there still,straight on. -/
namespace Mu
end Mu
