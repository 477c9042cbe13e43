/- The law, plainly: what is worked out. -/
import Derived.Test.YtjhlegefgllihaaGreatMuV
import Derived.Test.YtjhlegefgllihaaGreatMuDf
/- Layer 10:cells,made of places. -/
set_option linter.unusedVariables false
set_option linter.unusedSimpArgs false
set_option maxRecDepth 100000
namespace Mu

def nx(l:List Za)(v d:Nat):Int:=((gi l v).Next).get (d:Int)
def ow(l:List Za)(v d:Nat):Int:=((gi l v).Owner).get (d:Int)
theorem Ze9{α:Type}{x:A4 α}{i j:Nat}{v:α}(hi:i<4)(hj:j<4):(x.set (i:Int) v).get (j:Int)=if j=i then v else x.get (j:Int):=by
 match i,j,hi,hj with
 |0,0,_,_|0,1,_,_|0,2,_,_|0,3,_,_|1,0,_,_|1,1,_,_|1,2,_,_|1,3,_,_|2,0,_,_|2,1,_,_|2,2,_,_|2,3,_,_|3,0,_,_|3,1,_,_|3,2,_,_|3,3,_,_=>rfl
def noC:Za:=⟨⟨-1,-1,-1,-1⟩,⟨0,0,0,0⟩⟩
theorem Zbf{α:Type}[Inhabited α]{n i:Nat}{f:Nat->α}(h:i<n):gi ((List.range n).map f) i=f i:=by
 rw[zO (by simpa using h)];simp
theorem ZdE{α:Type}[Inhabited α]{l m:List α}(h:l.length=m.length)(hg:∀i,i<l.length->gi l i=gi m i):l=m:=by
 apply List.ext_getElem h;intro i h1 h2;have:=hg i h1;rw[zO h1,zO h2]at this;exact this

/-! New -/
theorem ZoI{n:Nat}(hn:n<=1000000000):ZK n=some (List.replicate n noC):=by
 unfold ZK;rw[Zf (by omega),itn,ZgA (x:=List.replicate n noC)];refine Zaj (λi:Nat=>(List.replicate i noC++List.replicate (n-i) ⟨⟨0,0,0,0⟩,⟨0,0,0,0⟩⟩,(i:Int))) (n:=n) (zy (by omega)) (by simp) (λi hi=>?_) ?_
 .have e1:List.replicate (n-i) (⟨⟨0,0,0,0⟩,⟨0,0,0,0⟩⟩:Za)=⟨⟨0,0,0,0⟩,⟨0,0,0,0⟩⟩::List.replicate (n-(i+1)) ⟨⟨0,0,0,0⟩,⟨0,0,0,0⟩⟩:=by
   rw[show n-i=n-(i+1)+1 by omega,List.replicate_succ]
  have e2:List.replicate (i+1) noC=List.replicate i noC++[noC]:=by rw[List.replicate_succ']
  have inner:Zn (ZK.s1 i) big (List.replicate i noC++List.replicate (n-i) ⟨⟨0,0,0,0⟩,⟨0,0,0,0⟩⟩,0)=some (List.replicate (i+1) noC++List.replicate (n-(i+1)) ⟨⟨0,0,0,0⟩,⟨0,0,0,0⟩⟩):=by
   rw[e1,e2];generalize List.replicate (n-(i+1)) (⟨⟨0,0,0,0⟩,⟨0,0,0,0⟩⟩:Za)=r;refine Zaj (λk:Nat=>(List.replicate i noC++(⟨⟨if 0<k then -1 else 0,if 1<k then -1 else 0,if 2<k then -1 else 0,if 3<k then -1 else 0⟩,⟨0,0,0,0⟩⟩:Za)::r,(k:Int))) (n:=4) (zy (by omega)) rfl (λk hk=>?_) ?_
   .have hlen:(List.replicate i noC).length=i:=by simp
    have g:∀c:Za,gi (List.replicate i noC++c::r) i=c:=by
     intro c;have:=Zbo (l:=List.replicate i noC) (m:=c::r) (i:=0);rw[hlen,Nat.add_zero]at this;rw[this];rfl
    have st:∀c d:Za,(List.replicate i noC++c::r).set i d=List.replicate i noC++d::r:=by
     intro c d;rw[List.set_append_right _ _ (by simp)];simp
    simp only[ZK.s1];rw[Zo (by omega),Zf (by simp;omega),Zf (by omega),Zf (by omega),itn,g,st]
    match k,hk with
    |0,_|1,_|2,_|3,_=>rfl
   .simp only[ZK.s1];rw[Zq (by omega)];simp[noC]
  simp only[ZK.s0];rw[Zo (by omega),inner,obs,Zf (by omega)];rfl
 .simp only[ZK.s0];rw[Zq (by omega)];simp

/-! The nearest -/
def ZgQ(at_:List Zk)(i d k:Nat):Prop:=k<at_.length/\if d=0 then(gi at_ k).Y=(gi at_ i).Y/\(gi at_ i).X<(gi at_ k).X else(gi at_ k).X=(gi at_ i).X/\(gi at_ i).Y<(gi at_ k).Y
def Zdd(at_:List Zk)(d j k:Nat):Prop:=if d=0 then(gi at_ j).X<=(gi at_ k).X else(gi at_ j).Y<=(gi at_ k).Y
def Zdp(at_:List Zk)(i d n:Nat)(w:Int):Prop:=(w=-1/\∀k,k<n->¬ZgQ at_ i d k)\/∃j:Nat,w=j/\j<n/\ZgQ at_ i d j/\∀k,k<n->ZgQ at_ i d k->Zdd at_ d j k
instance{at_ i d k}:Decidable (ZgQ at_ i d k):=by unfold ZgQ;infer_instance
instance{at_ d j k}:Decidable (Zdd at_ d j k):=by unfold Zdd;infer_instance
theorem ZkB{at_:List Zk}{i d n:Nat}(hl:at_.length<=1000)(hi:i<at_.length)(hd:d<2)(hn:n<at_.length){w:Int}(hw:Zdp at_ i d n w):∃w',Zdp at_ i d (n+1) w'/\ZI.s0 at_ i d (w,n)=some (.inl (w',(n:Int)+1)):=by
 have hlow:¬ZgQ at_ i d n->Zdp at_ i d (n+1) w:=by
  intro hc;rcases hw with⟨rfl,h⟩|⟨j,rfl,h1,h2,h3⟩
  .refine .inl ⟨rfl,λk hk=>?_⟩;rcases Nat.lt_succ_iff_lt_or_eq.1 hk with h'|rfl
   .exact h k h'
   .exact hc
  .refine .inr ⟨j,rfl,by omega,h2,λk hk hk2=>?_⟩;rcases Nat.lt_succ_iff_lt_or_eq.1 hk with h'|rfl
   .exact h3 k h' hk2
   .exact absurd hk2 hc
 have hnew:w=-1->ZgQ at_ i d n->Zdp at_ i d (n+1) n:=by
  intro hw1 hc;rcases hw with⟨_,h⟩|⟨j,h0,_⟩
  .refine .inr ⟨n,rfl,by omega,hc,λk hk hk2=>?_⟩;rcases Nat.lt_succ_iff_lt_or_eq.1 hk with h'|rfl
   .exact absurd hk2 (h k h')
   .unfold Zdd;split<;>omega
  .omega
 have hkeep:∀j:Nat,w=j->Zdd at_ d j n->Zdp at_ i d (n+1) w:=by
  intro j hj hc;rcases hw with⟨h0,_⟩|⟨j',h0,h1,h2,h3⟩
  .omega
  .have:j=j':=by omega
   subst this;refine .inr ⟨j,h0,by omega,h2,λk hk hk2=>?_⟩;rcases Nat.lt_succ_iff_lt_or_eq.1 hk with h'|rfl
   .exact h3 k h' hk2
   .exact hc
 have hturn:∀j:Nat,w=j->¬Zdd at_ d j n->ZgQ at_ i d n->Zdp at_ i d (n+1) n:=by
  intro j hj hc hcand;rcases hw with⟨h0,_⟩|⟨j',h0,h1,h2,h3⟩
  .omega
  .have:j=j':=by omega
   subst this;refine .inr ⟨n,rfl,by omega,hcand,λk hk hk2=>?_⟩;rcases Nat.lt_succ_iff_lt_or_eq.1 hk with h'|rfl
   .have h4:=h3 k h' hk2;unfold Zdd at h4 hc⊢;by_cases z:d=0
    .rw[if_pos z]at*;omega
    .rw[if_neg z]at*;omega
   .unfold Zdd;split<;>omega
 have hwc:w=-1\/∃j:Nat,w=j/\j<n:=by
  rcases hw with⟨h,_⟩|⟨j,h,h2,_⟩
  .exact .inl h
  .exact .inr ⟨j,h,h2⟩
 have hd':d=0\/d=1:=by omega
 rcases hd' with rfl|rfl
 .have z:((0:Nat):Int)=0:=rfl;by_cases hY:(gi at_ n).Y=(gi at_ i).Y
  .by_cases hX:(gi at_ i).X<(gi at_ n).X
   .have hc:ZgQ at_ i 0 n:=⟨hn,by rw[if_pos rfl];exact⟨hY,hX⟩⟩;rcases hwc with rfl|⟨j,rfl,hj⟩
    .refine⟨n,hnew rfl hc,?_⟩;simp(disch:=omega) only[ZI.s0,z,hY,evl,decide_true,decide_false,Bool.not_eq_true,Bool.decide_eq_true,Int.reduceToNat]
     try simp(disch:=omega) only[evl,decide_true,decide_false,Bool.not_eq_true,Bool.decide_eq_true,Int.reduceToNat]
    .by_cases hcl:Zdd at_ 0 j n
     .refine⟨j,hkeep j rfl hcl,?_⟩;have hcl':(gi at_ j).X<=(gi at_ n).X:=by simpa[Zdd]using hcl
      simp(disch:=omega) only[ZI.s0,z,hY,evl,decide_true,decide_false,Bool.not_eq_true,Bool.decide_eq_true,Int.reduceToNat]
      try simp(disch:=omega) only[evl,decide_true,decide_false,Bool.not_eq_true,Bool.decide_eq_true,Int.reduceToNat]
     .refine⟨n,hturn j rfl hcl hc,?_⟩;have hcl':¬(gi at_ j).X<=(gi at_ n).X:=by simpa[Zdd]using hcl
      simp(disch:=omega) only[ZI.s0,z,hY,evl,decide_true,decide_false,Bool.not_eq_true,Bool.decide_eq_true,Int.reduceToNat]
      try simp(disch:=omega) only[evl,decide_true,decide_false,Bool.not_eq_true,Bool.decide_eq_true,Int.reduceToNat]
   .refine⟨w,hlow (λhc=>hX (by have:=hc.2;rw[if_pos rfl]at this;exact this.2)),?_⟩;simp(disch:=omega) only[ZI.s0,z,hY,evl,decide_true,decide_false,Bool.not_eq_true,Bool.decide_eq_true,Int.reduceToNat]
    try simp(disch:=omega) only[evl,decide_true,decide_false,Bool.not_eq_true,Bool.decide_eq_true,Int.reduceToNat]
  .refine⟨w,hlow (λhc=>hY (by have:=hc.2;rw[if_pos rfl]at this;exact this.1)),?_⟩;simp(disch:=omega) only[ZI.s0,z,hY,evl,decide_true,decide_false,Bool.not_eq_true,Bool.decide_eq_true,Int.reduceToNat]
   try simp(disch:=omega) only[evl,decide_true,decide_false,Bool.not_eq_true,Bool.decide_eq_true,Int.reduceToNat]
 .have z:((1:Nat):Int)=1:=rfl;by_cases hY:(gi at_ n).X=(gi at_ i).X
  .by_cases hX:(gi at_ i).Y<(gi at_ n).Y
   .have hc:ZgQ at_ i 1 n:=⟨hn,by rw[if_neg (by decide)];exact⟨hY,hX⟩⟩;rcases hwc with rfl|⟨j,rfl,hj⟩
    .refine⟨n,hnew rfl hc,?_⟩;simp(disch:=omega) only[ZI.s0,z,hY,evl,decide_true,decide_false,Bool.not_eq_true,Bool.decide_eq_true,Int.reduceToNat]
     try simp(disch:=omega) only[evl,decide_true,decide_false,Bool.not_eq_true,Bool.decide_eq_true,Int.reduceToNat]
    .by_cases hcl:Zdd at_ 1 j n
     .refine⟨j,hkeep j rfl hcl,?_⟩;have hcl':(gi at_ j).Y<=(gi at_ n).Y:=by simpa[Zdd]using hcl
      simp(disch:=omega) only[ZI.s0,z,hY,evl,decide_true,decide_false,Bool.not_eq_true,Bool.decide_eq_true,Int.reduceToNat]
      try simp(disch:=omega) only[evl,decide_true,decide_false,Bool.not_eq_true,Bool.decide_eq_true,Int.reduceToNat]
     .refine⟨n,hturn j rfl hcl hc,?_⟩;have hcl':¬(gi at_ j).Y<=(gi at_ n).Y:=by simpa[Zdd]using hcl
      simp(disch:=omega) only[ZI.s0,z,hY,evl,decide_true,decide_false,Bool.not_eq_true,Bool.decide_eq_true,Int.reduceToNat]
      try simp(disch:=omega) only[evl,decide_true,decide_false,Bool.not_eq_true,Bool.decide_eq_true,Int.reduceToNat]
   .refine⟨w,hlow (λhc=>hX (by have:=hc.2;rw[if_neg (by decide)]at this;exact this.2)),?_⟩;simp(disch:=omega) only[ZI.s0,z,hY,evl,decide_true,decide_false,Bool.not_eq_true,Bool.decide_eq_true,Int.reduceToNat]
    try simp(disch:=omega) only[evl,decide_true,decide_false,Bool.not_eq_true,Bool.decide_eq_true,Int.reduceToNat]
  .refine⟨w,hlow (λhc=>hY (by have:=hc.2;rw[if_neg (by decide)]at this;exact this.1)),?_⟩;simp(disch:=omega) only[ZI.s0,z,hY,evl,decide_true,decide_false,Bool.not_eq_true,Bool.decide_eq_true,Int.reduceToNat]
   try simp(disch:=omega) only[evl,decide_true,decide_false,Bool.not_eq_true,Bool.decide_eq_true,Int.reduceToNat]
theorem ZbA{σ ρ:Type}{step:σ->Option (σ⊕ρ)}{n:Nat}(I:Nat->σ->Prop){s0:σ}{R:ρ->Prop}(hn:n<big)(h0:I 0 s0)(hs:∀i s,i<n->I i s->∃s',step s=some (.inl s')/\I (i+1) s')(he:∀s,I n s->∃r,step s=some (.inr r)/\R r):∃r,Zn step big s0=some r/\R r:=by
 have key:∀k i s,i+k=n->I i s->∃r,Zn step (k+1) s=some r/\R r:=by
  intro k
  induction k with
  |zero=>
   intro i s hi hI;obtain rfl:i=n:=by omega
   obtain⟨r,hr,hR⟩:=he s hI;exact⟨r,by simp only[Zn,hr],hR⟩
  |succ k ih=>
   intro i s hi hI;obtain⟨s',hs',hI'⟩:=hs i s (by omega) hI;obtain⟨r,hr,hR⟩:=ih (i+1) s' (by omega) hI';exact⟨r,by rw[Zn,hs'];exact hr,hR⟩
 obtain⟨r,hr,hR⟩:=key n 0 s0 (by omega) h0;exact⟨r,ZcT hr (by unfold big at*;omega),hR⟩
theorem Zta{at_:List Zk}{i d:Nat}(hl:at_.length<=1000)(hi:i<at_.length)(hd:d<2):∃w,ZI at_ i d=some w/\Zdp at_ i d at_.length w:=by
 obtain⟨r,hr,hR⟩:=ZbA (step:=ZI.s0 at_ i d) (n:=at_.length) (I:=λn(s:Int×Int)=>s.2=n/\Zdp at_ i d n s.1) (s0:=((-1:Int),(0:Int))) (R:=Zdp at_ i d at_.length) (zy (by omega)) ⟨rfl,.inl ⟨rfl,λk hk=>by omega⟩⟩ (λn(s:Int×Int) hn hs=>by
  obtain⟨w,m⟩:=s;obtain⟨rfl,hw⟩:=hs;obtain⟨w',h1,h2⟩:=ZkB hl hi hd hn hw;exact⟨_,h2,rfl,h1⟩) (λ(s:Int×Int) hs=>by
  obtain⟨w,m⟩:=s;obtain⟨rfl,hw⟩:=hs;exact⟨w,by simp only[ZI.s0];rw[Zq (by omega)],hw⟩)
 exact⟨r,by unfold ZI;rw[hr];rfl,hR⟩
end Mu
/- Layer 10:crossed,with,make. -/
namespace Mu

theorem Zw{α:Type}{x:Int}{o:Option α}(h:-9223372036854775808<=x/\x<=9223372036854775807):ck (ZJ x) o=o:=Zf h
def ZcN(at_:List Zk)(l:List Za)(i w a d:Nat):Bool :=
 let p:=gi at_ a;let q:=gi at_ (nx l a d).toNat
 let s:=gi at_ i;let t:=gi at_ w;decide (0<=nx l a d)&&((decide (p.Y=q.Y)&&decide (s.X=t.X)&&decide (p.X<s.X)&&decide (s.X<q.X)&&decide (s.Y<p.Y)&&decide (p.Y<t.Y))||(decide (p.X=q.X)&&decide (s.Y=t.Y)&&decide (s.X<p.X)&&decide (p.X<t.X)&&decide (p.Y<s.Y)&&decide (s.Y<q.Y)))
theorem Zqn{a:Bool}{b:Bool}:(if a=true then some b else some false)=some (a&&b):=by cases a<;>rfl
theorem ZoC{at_:List Zk}{l:List Za}{i w a d:Nat}(hl:at_.length=l.length)(hi:i<l.length)(hw:w<l.length)(ha:a<l.length)(hd:d<2)(hn:nx l a d<l.length):ZH.s1 at_ l i w a d=some (if ZcN at_ l i w a d=true then .inr (.inr ())else .inl ((d:Int)+1)):=by
 unfold ZH.s1;rw[Zo (by omega),Zf (by omega),Zf (by omega),itn];have e:((gi l a).Next).get (d:Int)=nx l a d:=rfl;rw[e];unfold ZcN;by_cases h0:nx l a d<0
 .rw[Zo h0,Zw (by omega),Zdh (show¬0<=nx l a d by omega)];simp
 .rw[Zq h0,Zf (by omega),Zf (by omega),Zct (show 0<=nx l a d by omega)];have k1:∀(α:Type)(o:Option α),ck ((0:Int)<=(i:Int)/\(i:Int)<(at_.length:Int)) o=o:=λ_ _=>Zf (by omega);have k2:∀(α:Type)(o:Option α),ck ((0:Int)<=(w:Int)/\(w:Int)<(at_.length:Int)) o=o:=λ_ _=>Zf (by omega);have k3:∀(α:Type)(o:Option α),ck (ZJ ((d:Int)+1)) o=o:=λ_ _=>Zw (by omega);simp only[k1,k2,k3,itn,obs,Zqn,Bool.true_and];generalize(decide ((gi at_ a).Y=(gi at_ (nx l a d).toNat).Y)&&decide ((gi at_ i).X=(gi at_ w).X)&&decide ((gi at_ a).X<(gi at_ i).X)&&decide ((gi at_ i).X<(gi at_ (nx l a d).toNat).X)&&decide ((gi at_ i).Y<(gi at_ a).Y)&&decide ((gi at_ a).Y<(gi at_ w).Y))=A;generalize(decide ((gi at_ a).X=(gi at_ (nx l a d).toNat).X)&&decide ((gi at_ i).Y=(gi at_ w).Y)&&decide ((gi at_ i).X<(gi at_ a).X)&&decide ((gi at_ a).X<(gi at_ w).X)&&decide ((gi at_ a).Y<(gi at_ i).Y)&&decide ((gi at_ i).Y<(gi at_ (nx l a d).toNat).Y))=B;cases A<;>cases B<;>rfl
def Zfe(at_:List Zk)(l:List Za)(i w a:Nat):Bool:=ZcN at_ l i w a 0||ZcN at_ l i w a 1
def Zhr(at_:List Zk)(l:List Za)(i w:Nat):Bool:=(List.range l.length).any λa=>Zfe at_ l i w a
theorem ZoD{at_:List Zk}{l:List Za}{i w a:Nat}(hl:at_.length=l.length)(hi:i<l.length)(hw:w<l.length)(hn:∀a d,a<l.length->d<2->nx l a d<l.length)(ha:a<l.length):Zn (ZH.s1 at_ l i w a) big 0=some (if Zfe at_ l i w a=true then .inr ()else .inl ()):=by
 have h:Zn (ZH.s1 at_ l i w a) big 0=some (match(List.range 2).find? (λd=>ZcN at_ l i w a d)with|some i=>.inr ((λ_=>()) i)|none=>.inl ()):=by
  refine Zc3 (zy (by omega)) (λd hd=>?_) ?_
  .exact ZoC hl hi hw ha hd (hn a d ha hd)
  .simp only[ZH.s1];rw[Zq (by omega)]
 rw[h];have e:(List.range 2).find? (λd=>ZcN at_ l i w a d)=if ZcN at_ l i w a 0=true then some 0 else if ZcN at_ l i w a 1=true then some 1 else none:=by
  have:List.range 2=[0,1]:=by decide
  rw[this];cases c0:ZcN at_ l i w a 0<;>cases c1:ZcN at_ l i w a 1<;>simp[c0,c1]
 rw[e];unfold Zfe;cases c0:ZcN at_ l i w a 0<;>cases c1:ZcN at_ l i w a 1<;>simp
theorem ZoB{at_:List Zk}{l:List Za}{i w a:Nat}(hl:at_.length=l.length)(h1000:l.length<=1000)(hi:i<l.length)(hw:w<l.length)(hn:∀a d,a<l.length->d<2->nx l a d<l.length)(ha:a<l.length):ZH.s0 at_ l i w a=some (if Zfe at_ l i w a=true then .inr (.inr ())else .inl ((a:Int)+1)):=by
 simp only[ZH.s0];rw[Zo (by omega),ZoD hl hi hw hn ha,obs];by_cases c:Zfe at_ l i w a=true
 .rw[if_pos c,if_pos c]
 .rw[if_neg c,if_neg c];dsimp only;rw[Zw (by omega)]
theorem ZoF{at_:List Zk}{l:List Za}{i w:Nat}:ZH.s0 at_ l i w l.length=some (.inr (.inl ())):=by
 simp only[ZH.s0];rw[Zq (by omega)]
theorem ZmB{n:Nat}{P:Nat->Bool}:((List.range n).any P)=((List.range n).find? P).isSome:=by
 rw[Bool.eq_iff_iff,List.find?_isSome,List.any_eq_true]
theorem ZoE{at_:List Zk}{l:List Za}{i w:Nat}(hl:at_.length=l.length)(h1000:l.length<=1000)(hi:i<l.length)(hw:w<l.length)(hn:∀a d,a<l.length->d<2->nx l a d<l.length):Zn (ZH.s0 at_ l i w) big 0=some (match(List.range l.length).find? (λa=>Zfe at_ l i w a)with|some i=>.inr ((λ_=>()) i)|none=>.inl ()) :=
 Zc3 (zy (by omega)) (λa ha=>ZoB hl h1000 hi hw hn ha) ZoF
theorem Zng{at_:List Zk}{l:List Za}{i w:Nat}(hl:at_.length=l.length)(h1000:l.length<=1000)(hi:i<l.length)(hw:w<l.length)(hn:∀a d,a<l.length->d<2->nx l a d<l.length):ZH at_ l i w=some (Zhr at_ l i w):=by
 have h0:=ZoE hl h1000 hi hw hn;unfold ZH;rw[h0];unfold Zhr;rw[ZmB]
 cases h:(List.range l.length).find? λa=>Zfe at_ l i w a with
 |none=>simp
 |some j=>simp

/-! with -/
def wC1(c:Za)(d w o:Int):Za:=⟨c.Next.set d w,c.Owner.set d o⟩
def wC(l:List Za)(v d w o:Int)(i:Nat):Za :=
 let c:=if(i:Int)=v then wC1 (gi l i) d w o else gi l i
 if(i:Int)=w then wC1 c ((d+2).tmod 4) v o else c
def wth(l:List Za)(v d w o:Int):List Za:=(List.range l.length).map (wC l v d w o)
theorem ZaG{l:List Za}{v d w o:Int}:(wth l v d w o).length=l.length:=by simp[wth]
theorem ZpE{l:List Za}{v d w o:Int}(hl:l.length<=100000)(hd:0<=d/\d<4):Zab l v d w o=some (wth l v d w o):=by
 unfold Zab;rw[ZgA (x:=wth l v d w o)];refine Zaj (λn:Nat=>((List.range n).map (wC l v d w o),(n:Int))) (n:=l.length) (zy (by omega)) rfl (λn hn=>?_) ?_
 .have hm:((List.range n).map (wC l v d w o)).length=n:=by simp
  have t:=Int.tmod_nonneg 4 (show(0:Int)<=d+2 by omega);have t2:=Int.tmod_lt_of_pos (d+2) (show(0:Int)<4 by omega);rw[List.range_succ,List.map_append,List.map_cons,List.map_nil];simp only[Zab.s0];rw[Zo (by omega),Zf (by omega),itn];unfold wC;by_cases c1:(n:Int)=v
  .rw[Zo c1,Zf hd,obs];by_cases c2:(n:Int)=w
   .rw[Zo c2,Zw (by omega),Zf (by omega),Zf (by simp;omega),Zw (by omega),if_pos c1,if_pos c2];rfl
   .rw[Zq c2,Zf (by simp;omega),Zw (by omega),if_pos c1,if_neg c2];rfl
  .rw[Zq c1,obs];by_cases c2:(n:Int)=w
   .rw[Zo c2,Zw (by omega),Zf (by omega),Zf (by simp;omega),Zw (by omega),if_neg c1,if_pos c2];rfl
   .rw[Zq c2,Zf (by simp;omega),Zw (by omega),if_neg c1,if_neg c2];rfl
 .simp only[Zab.s0];rw[Zq (by omega)];rfl
theorem ZdK{l:List Za}{v w d i e:Nat}{o:Int}(hv:v<l.length)(hw:w<l.length)(hvw:v≠w)(hd:d<4)(hi:i<l.length)(he:e<4):nx (wth l v d w o) i e=(if i=v/\e=d then(w:Int)else if i=w/\e=(d+2)%4 then(v:Int)else nx l i e)/\ow (wth l v d w o) i e=(if i=v/\e=d then o else if i=w/\e=(d+2)%4 then o else ow l i e):=by
 have hb:(((d:Int)+2).tmod 4)=(((d+2)%4:Nat):Int):=by
  match d,hd with
  |0,_|1,_|2,_|3,_=>rfl
 have g:gi (wth l v d w o) i=wC l v d w o i:=Zbf hi;unfold nx ow;rw[g];unfold wC;rw[hb];by_cases c1:i=v
 .subst c1;rw[if_pos rfl,if_neg (show¬((i:Nat):Int)=(w:Int) by omega)];simp only[wC1];rw[Ze9 hd he,Ze9 hd he];have:¬(i=w):=hvw;simp[this]
 .rw[if_neg (show¬((i:Nat):Int)=(v:Int) by omega)];by_cases c2:i=w
  .subst c2;rw[if_pos rfl];simp only[wC1];rw[Ze9 (by omega) he,Ze9 (by omega) he];simp[c1]
  .rw[if_neg (show¬((i:Nat):Int)=(w:Int) by omega)];simp[c1,c2]

/-! What may be. -/
structure Ck(l:List Za):Prop where
 s:∀v d,v<l.length->d<4->(nx l v d=-1/\ow l v d=0)\/∃w:Nat,nx l v d=w/\w<l.length/\w≠v/\nx l w ((d+2)%4)=v/\ow l w ((d+2)%4)=ow l v d/\-2<=ow l v d
theorem Ck.new(n:Nat):Ck (List.replicate n noC):=⟨λv d hv hd=>.inl (by
 have:gi (List.replicate n noC) v=noC:=by rw[zO hv];simp
 unfold nx ow;rw[this]
 match d,hd with
 |0,_|1,_|2,_|3,_=>exact⟨rfl,rfl⟩)⟩
theorem Ck.wth{l:List Za}(h:Ck l){v w d:Nat}{o:Int}(hv:v<l.length)(hw:w<l.length)(hvw:v≠w)(hd:d<4)(h1:nx l v d=-1)(h2:nx l w ((d+2)%4)=-1)(ho:-2<=o):Ck (wth l v d w o):=by
 refine⟨λi e hi he=>?_⟩;rw[ZaG]at hi⊢;have n1:=λi e hi he=>(ZdK (o:=o) hv hw hvw hd (i:=i) (e:=e) hi he).1;have n2:=λi e hi he=>(ZdK (o:=o) hv hw hvw hd (i:=i) (e:=e) hi he).2;rw[n1 i e hi he,n2 i e hi he];by_cases c1:i=v/\e=d
 .rw[if_pos c1,if_pos c1];refine .inr ⟨w,rfl,hw,by omega,?_,?_,ho⟩
  .rw[n1 w _ hw (by omega),if_neg (by omega),if_pos ⟨rfl,by rw[c1.2]⟩,c1.1]
  .rw[n2 w _ hw (by omega),if_neg (by omega),if_pos ⟨rfl,by rw[c1.2]⟩]
 .rw [if_neg c1,if_neg c1];by_cases c2:i=w/\e=(d+2)%4
  .rw[if_pos c2,if_pos c2];refine .inr ⟨v,rfl,hv,by omega,?_,?_,ho⟩
   .rw[n1 v _ hv (by omega),if_pos ⟨rfl,by omega⟩,c2.1]
   .rw[n2 v _ hv (by omega),if_pos ⟨rfl,by omega⟩]
  .rw [if_neg c2,if_neg c2];rcases h.s i e hi he with hh|⟨x,x1,x2,x3,x4,x5,x6⟩
   .exact .inl hh
   .refine .inr ⟨x,x1,x2,x3,?_,?_,x6⟩
    .rw[n1 x _ x2 (by omega)];rw[if_neg (λc=>by
      have:nx l x ((e+2)%4)=-1:=by rw[c.1,c.2];exact h1
      omega)]
     rw[if_neg (λc=>by
      have:nx l x ((e+2)%4)=-1:=by rw[c.1,c.2];exact h2
      omega)]
     exact x4
    .rw[n2 x _ x2 (by omega)];rw[if_neg (λc=>by
      have:nx l x ((e+2)%4)=-1:=by rw[c.1,c.2];exact h1
      omega)]
     rw[if_neg (λc=>by
      have:nx l x ((e+2)%4)=-1:=by rw[c.1,c.2];exact h2
      omega)]
     exact x5
end Mu
/- Layer 10:make. -/
namespace Mu

theorem Za1{σ ρ:Type}{step:σ->Option (σ⊕ρ)}(μ:σ->Nat)(I:σ->Prop){s0:σ}{R:ρ->Prop}(hn:μ s0<big)(h0:I s0)(hs:∀s,I s->(∃s',step s=some (.inl s')/\I s'/\μ s'<μ s)\/∃r,step s=some (.inr r)/\R r):∃r,Zn step big s0=some r/\R r:=by
 have key:∀k s,μ s<=k->I s->∃r,Zn step (k+1) s=some r/\R r:=by
  intro k
  induction k with
  |zero=>
   intro s hk hI;rcases hs s hI with⟨s',h1,h2,h3⟩|⟨r,h1,h2⟩
   .omega
   .exact⟨r,by simp only[Zn,h1],h2⟩
  |succ k ih=>
   intro s hk hI;rcases hs s hI with⟨s',h1,h2,h3⟩|⟨r,h1,h2⟩
   .obtain⟨r,hr,hR⟩:=ih s' (by omega) h2;exact⟨r,by rw[Zn,h1];exact hr,hR⟩
   .exact⟨r,by rw[Zn,h1],h2⟩
 obtain⟨r,hr,hR⟩:=key (μ s0) s0 (Nat.le_refl _) h0;exact⟨r,ZcT hr (by omega),hR⟩

structure Pts(at_:List Zk):Prop where
 b:∀i,i<at_.length->0<=(gi at_ i).X/\(gi at_ i).X<8/\0<=(gi at_ i).Y/\(gi at_ i).Y<8
 d:∀i j,i<at_.length->j<at_.length->gi at_ i=gi at_ j->i=j
theorem Pts.nil:Pts []:=⟨λi h=>by simp at h,λi j h=>by simp at h⟩
theorem Pts.app{at_:List Zk}(h:Pts at_){p:Zk}(hp:0<=p.X/\p.X<8/\0<=p.Y/\p.Y<8)(hn:∀k,k<at_.length->gi at_ k≠p):Pts (at_++[p]):=by
 have g1:∀i,i<at_.length->gi (at_++[p]) i=gi at_ i:=λi hi=>ZbJ hi;have g2:gi (at_++[p]) at_.length=p:=by
  have:=Zbo (l:=at_) (m:=[p]) (i:=0);rw[Nat.add_zero]at this;rw[this];rfl
 refine⟨λi hi=>?_,λi j hi hj hij=>?_⟩
 .simp only[List.length_append,List.length_cons,List.length_nil]at hi;by_cases c:i<at_.length
  .rw[g1 i c];exact h.b i c
  .rw[show i=at_.length by omega,g2];exact hp
 .simp only[List.length_append,List.length_cons,List.length_nil]at hi hj;by_cases c:i<at_.length<;>by_cases c2:j<at_.length
  .rw[g1 i c,g1 j c2]at hij;exact h.d i j c c2 hij
  .rw[g1 i c,show j=at_.length by omega,g2]at hij;exact absurd hij (hn i c)
  .rw[g1 j c2,show i=at_.length by omega,g2]at hij;exact absurd hij.symm (hn j c2)
  .omega
theorem Zno{at_:List Zk}(hp:Pts at_){i j d:Nat}{w:Nat}(hi:i<at_.length)(hj:j<at_.length)(hd:d<2)(h1:Zdp at_ i d at_.length w)(h2:Zdp at_ j d at_.length w):i=j:=by
 rcases h1 with⟨h,_⟩|⟨w1,e1,l1,c1,m1⟩
 .omega
 rcases h2 with⟨h,_⟩|⟨w2,e2,l2,c2,m2⟩
 .omega
 obtain rfl:w=w1:=by omega
 obtain rfl:w=w2:=by omega
 apply hp.d i j hi hj;have x1:=m1 j hj;have x2:=m2 i hi;have c1:=c1.2;have c2:=c2.2;unfold ZgQ Zdd at x1 x2;by_cases z:d=0
 .simp only[if_pos z]at*;have hX:(gi at_ i).X=(gi at_ j).X:=by
   by_cases q1:(gi at_ i).X<(gi at_ j).X
   .have:=x1 ⟨hj,by omega,q1⟩;omega
   .by_cases q2:(gi at_ j).X<(gi at_ i).X
    .have:=x2 ⟨hi,by omega,q2⟩;omega
    .omega
  have hY:(gi at_ i).Y=(gi at_ j).Y:=by omega
  generalize gi at_ i=p at*;generalize gi at_ j=q at*;obtain⟨a,b⟩:=p;obtain⟨a',b'⟩:=q;simp only at hX hY;rw[hX,hY]
 .simp only[if_neg z]at*;have hX:(gi at_ i).Y=(gi at_ j).Y:=by
   by_cases q1:(gi at_ i).Y<(gi at_ j).Y
   .have:=x1 ⟨hj,by omega,q1⟩;omega
   .by_cases q2:(gi at_ j).Y<(gi at_ i).Y
    .have:=x2 ⟨hi,by omega,q2⟩;omega
    .omega
  have hY:(gi at_ i).X=(gi at_ j).X:=by omega
  generalize gi at_ i=p at*;generalize gi at_ j=q at*;obtain⟨a,b⟩:=p;obtain⟨a',b'⟩:=q;simp only at hX hY;rw[hX,hY]
def NX(at_:List Zk)(l:List Za):Prop:=∀a b:Nat,a<l.length->b<l.length->0<=nx l a 0->0<=nx l b 1->¬((gi at_ a).X<(gi at_ b).X/\(gi at_ b).X<(gi at_ (nx l a 0).toNat).X/\(gi at_ b).Y<(gi at_ a).Y/\(gi at_ a).Y<(gi at_ (nx l b 1).toNat).Y)
structure Mj(at_:List Zk)(l:List Za)(i d:Nat):Prop where
 len:l.length=at_.length
 ck:Ck l
 near:∀v e,v<l.length->e<2->nx l v e=-1\/((v<i\/v=i/\e<d)/\Zdp at_ v e at_.length (nx l v e))
 own:∀v e,v<l.length->e<4->-2<=ow l v e/\ow l v e<=1000
 nc:NX at_ l
theorem Mj.step{at_:List Zk}{l:List Za}{i d:Nat}(h:Mj at_ l i d):Mj at_ l i (d+1) :=
 ⟨h.len,h.ck,λv e hv he=>(h.near v e hv he).imp id (λ⟨a,b⟩=>⟨by omega,b⟩),h.own,h.nc⟩
theorem Mj.next{at_:List Zk}{l:List Za}{i:Nat}(h:Mj at_ l i 2):Mj at_ l (i+1) 0 :=
 ⟨h.len,h.ck,λv e hv he=>(h.near v e hv he).imp id (λ⟨a,b⟩=>⟨by omega,b⟩),h.own,h.nc⟩
theorem Ck.lt{l:List Za}(h:Ck l){v d:Nat}(hv:v<l.length)(hd:d<4):-1<=nx l v d/\nx l v d<l.length:=by
 rcases h.s v d hv hd with⟨a,_⟩|⟨w,a,b,_⟩<;>omega
theorem Mj.lay{at_:List Zk}(hp:Pts at_){l:List Za}{i d w:Nat}{o:Int}(h:Mj at_ l i d)(hi:i<l.length)(hd:d<2)(hw:Zdp at_ i d at_.length w)(hx:Zhr at_ l i w=false)(ho:-2<=o/\o<=1000):Mj at_ (wth l i d w o) i (d+1):=by
 have hl:=h.len;have hwl:w<l.length/\ZgQ at_ i d w:=by
  rcases hw with⟨e,_⟩|⟨j,e,h1,h2,_⟩
  .omega
  .have:w=j:=by omega
   subst this;exact⟨by omega,h2⟩
 have hne:i≠w:=by
  rintro rfl;have:=hwl.2.2;split at this<;>omega
 have n1:nx l i d=-1:=by
  rcases h.near i d hi (by omega)with e|⟨e,_⟩
  .exact e
  .omega
 have n2:nx l w ((d+2)%4)=-1:=by
  rcases h.ck.s w ((d+2)%4) hwl.1 (by omega)with⟨e,_⟩|⟨x,e1,e2,e3,e4,e5,e6⟩
  .exact e
  .rw[show((d+2)%4+2)%4=d by omega]at e4;rcases h.near x d e2 hd with e|⟨e,e7⟩
   .omega
   .rw[e4]at e7;have:=Zno hp (by omega) (by omega) hd e7 hw;subst this;omega
 have m1:=λv e hv he=>(ZdK (o:=o) hi hwl.1 hne (show d<4 by omega) (i:=v) (e:=e) hv he).1;have m2:=λv e hv he=>(ZdK (o:=o) hi hwl.1 hne (show d<4 by omega) (i:=v) (e:=e) hv he).2;have hcr:∀a,a<l.length->ZcN at_ l i w a 0=false/\ZcN at_ l i w a 1=false:=by
  intro a ha;unfold Zhr at hx;rw[List.any_eq_false]at hx;have:=hx a (List.mem_range.2 ha);unfold Zfe at this;simpa using this
 refine⟨by rw[ZaG];exact hl,h.ck.wth hi hwl.1 hne (by omega) n1 n2 ho.1,λv e hv he=>?_,λv e hv he=>?_,λa b ha hb=>?_⟩
 .rw[ZaG]at hv;rw[m1 v e hv (by omega)];by_cases c:v=i/\e=d
  .rw[if_pos c];right;refine⟨by omega,?_⟩;rw[c.1,c.2];exact hw
  .rw[if_neg c];rw[if_neg (λc2=>by omega)];exact(h.near v e hv he).imp id (λ⟨a,b⟩=>⟨by omega,b⟩)
 .rw[ZaG]at hv;rw[m2 v e hv he];by_cases c:v=i/\e=d
  .rw[if_pos c];exact ho
  .rw[if_neg c];by_cases c2:v=w/\e=(d+2)%4
   .rw[if_pos c2];exact ho
   .rw[if_neg c2];exact h.own v e hv he
 .rw [ZaG]at ha hb;rw[m1 a 0 ha (by omega),m1 b 1 hb (by omega)];have cd:=hwl.2.2;by_cases c0:d=0
  .subst c0;rw[if_pos rfl]at cd;rw[if_neg (show¬(b=i/\1=0) by omega),if_neg (show¬(b=w/\1=(0+2)%4) by omega),if_neg (show¬(a=w/\0=(0+2)%4) by omega)];by_cases c:a=i
   .subst c;rw[if_pos ⟨rfl,rfl⟩];intro _ h1 ⟨k1,k2,k3,k4⟩;rw[itn]at k2;have q:=(hcr b hb).2;have nb:=h.near b 1 hb (by omega);have ex:(gi at_ b).X=(gi at_ (nx l b 1).toNat).X:=by
     rcases nb with e|⟨_,e⟩
     .omega
     .rcases e with⟨e,_⟩|⟨j,e,_,e2,_⟩
      .omega
      .rw[e,itn];exact e2.2.1.symm
    unfold ZcN at q;simp[h1,ex,cd.1]at q;omega
   .rw[if_neg (show¬(a=i/\0=0) by omega)];exact h.nc a b ha hb
  .have c1:d=1:=by omega
   subst c1;rw[if_neg (by omega)]at cd;rw[if_neg (show¬(a=i/\0=1) by omega),if_neg (show¬(a=w/\0=(1+2)%4) by omega),if_neg (show¬(b=w/\1=(1+2)%4) by omega)];by_cases c:b=i
   .subst c;rw[if_pos ⟨rfl,rfl⟩];intro h1 _ ⟨k1,k2,k3,k4⟩;rw[itn]at k4;have q:=(hcr a ha).1;have na:=h.near a 0 ha (by omega);have ey:(gi at_ a).Y=(gi at_ (nx l a 0).toNat).Y:=by
     rcases na with e|⟨_,e⟩
     .omega
     .rcases e with⟨e,_⟩|⟨j,e,_,e2,_⟩
      .omega
      .rw[e,itn];exact e2.2.1.symm
    unfold ZcN at q;simp[h1,ey,cd.1]at q;omega
   .rw[if_neg (show¬(b=i/\1=1) by omega)];exact h.nc a b ha hb
theorem ZqR{at_:List Zk}(hp:Pts at_)(h1000:at_.length<=1000){l:List Za}{i:Nat}{b o:Int}(h:Mj at_ l i 0)(hi:i<l.length)(ho:-2<=o/\o<=1000):∃l',Zn (Z5.s3 i b at_ o) big (l,0)=some l'/\Mj at_ l' i 2/\i<l'.length:=by
 refine ZbA (n:=2) (I:=λn(s:List Za×Int)=>s.2=n/\Mj at_ s.1 i n/\i<s.1.length) (R:=λl'=>Mj at_ l' i 2/\i<l'.length) (zy (by omega)) ⟨rfl,h,hi⟩ ?_ ?_
 .rintro d ⟨l,x⟩ hd ⟨hx,hM,hi⟩;dsimp only at hx hM hi;subst hx;have hl:=hM.len;obtain⟨w,hw,hN⟩:=Zta (at_:=at_) (i:=i) (d:=d) h1000 (by omega) hd;simp only[Z5.s3];rw[Zo (by omega),hw,obs,Zf (by omega),Zw (by omega)];by_cases c:((decide (Zb9 .u8 (ZbH .u8 b d) 1=0))||(decide (w<0)))=true
  .rw[if_pos c];exact⟨_,rfl,rfl,hM.step,hi⟩
  .rw[if_neg c];have hw0:¬w<0:=by
    intro hh;apply c;simp[hh]
   obtain⟨wn,rfl⟩:∃wn:Nat,w=wn:=⟨w.toNat,by omega⟩;have hwl:wn<l.length:=by
    rcases hN with⟨e,_⟩|⟨j,e,h1,h2,_⟩
    .omega
    .omega
   rw[Zng hl.symm (by omega) hi hwl (λa e ha he=>(hM.ck.lt ha (by omega)).2),obs,ZpE (by omega) (by omega)];by_cases c2:(!Zhr at_ l i wn)=true
   .rw[if_pos c2,obs,Zw (by omega)];exact⟨_,rfl,rfl,hM.lay hp hi hd hN (by simpa using c2) ho,by rw[ZaG];exact hi⟩
   .rw[if_neg c2];exact⟨_,rfl,rfl,hM.step,hi⟩
 .rintro⟨l,x⟩ ⟨hx,hM,hi⟩;dsimp only at hx hM hi;subst hx;simp only[Z5.s3];rw[Zq (by omega)];exact⟨_,rfl,hM,hi⟩

theorem ZqQ{z:zq}{at_:List Zk}(hp:Pts at_)(h1000:at_.length<=1000)(hown:∀y∈z.Own,Wf .i8 y){l:List Za}(h:Mj at_ l 0 0):∃r:List Zk×List Za,Zn (Z5.s2 z) big (at_,l,0)=some r/\r.1=at_/\Mj at_ r.2 at_.length 0:=by
 refine ZbA (n:=at_.length) (I:=λn(s:List Zk×List Za×Int)=>s.1=at_/\s.2.2=n/\Mj at_ s.2.1 n 0) (s0:=(at_,l,(0:Int))) (R:=λr:List Zk×List Za=>r.1=at_/\Mj at_ r.2 at_.length 0) (zy (by omega)) ⟨rfl,rfl,h⟩ ?_ ?_
 .rintro i ⟨a,l,x⟩ hi ⟨ha,hx,hM⟩;dsimp only at ha hx hM;subst ha hx;have hb:∃b,(if decide ((i:Int)<(z.Bits.length:Int))=true then ck ((0:Int)<=(i:Int)/\(i:Int)<(z.Bits.length:Int)) (some (a,l,gi z.Bits (i:Int).toNat))else some (a,l,3))=some (a,l,b):=by
   by_cases c:(i:Int)<(z.Bits.length:Int)
   .exact⟨gi z.Bits i,by rw[Zo c,Zf (by omega)];rfl⟩
   .exact⟨3,by rw[Zq c]⟩
  have ho:∃o:Int,(-2<=o/\o<=1000)/\(if decide ((i:Int)<(z.Own.length:Int))=true then ck ((0:Int)<=(i:Int)/\(i:Int)<(z.Own.length:Int)) (ck (inK .i64 (gi z.Own (i:Int).toNat)) (if decide ((gi z.Own (i:Int).toNat)<(-2))=true then ck (ZJ (-(gi z.Own (i:Int).toNat))) (some (a,l,-(gi z.Own (i:Int).toNat)))else some (a,l,gi z.Own (i:Int).toNat)))else some (a,l,(i:Int)))=some (a,l,o):=by
   by_cases c:(i:Int)<(z.Own.length:Int)
   .have hw:=(hown _ (zh (show i<z.Own.length by omega))).i8;rw[Zo c,Zf (by omega),itn,ZfV (by omega)];by_cases c2:gi z.Own i < -2
    .exact⟨-(gi z.Own i),by omega,by rw[Zo c2,Zw (by omega)]⟩
    .exact⟨gi z.Own i,by omega,by rw[Zq c2]⟩
   .exact⟨i,by omega,by rw[Zq c]⟩
  obtain⟨b,hb⟩:=hb;obtain⟨o,ho1,ho⟩:=ho;have hl:=hM.len;obtain⟨l',h1,h2,h3⟩:=ZqR (b:=b) hp h1000 hM (by omega) ho1;simp only[Z5.s2];rw[Zo (by omega),hb,obs];dsimp only;rw[ho,obs];dsimp only;rw[h1,obs,Zw (by omega)];exact⟨_,rfl,rfl,rfl,h2.next⟩
 .rintro⟨a,l,x⟩ ⟨ha,hx,hM⟩;dsimp only at ha hx hM;subst ha hx;simp only[Z5.s2];rw[Zq (by omega)];exact⟨_,rfl,rfl,hM⟩
theorem ZqP{z:zq}{at_:List Zk}{i:Nat}(h1000:at_.length<=1000):∃m:Bool,Zn (Z5.s1 z at_ i) big (false,0)=some (at_,m)/\(m=false->∀k,k<at_.length->gi at_ k≠(⟨(gi z.At i).tmod 8,((gi z.At i).tdiv 8).tmod 8⟩:Zk)):=by
 obtain⟨r,h1,h2,h3⟩:=ZbA (step:=Z5.s1 z at_ i) (s0:=((false:Bool),(0:Int))) (n:=at_.length) (I:=λn(s:Bool×Int)=>s.2=n/\(s.1=false->∀k,k<n->gi at_ k≠(⟨(gi z.At i).tmod 8,((gi z.At i).tdiv 8).tmod 8⟩:Zk))) (R:=λr:List Zk×Bool=>r.1=at_/\(r.2=false->∀k,k<at_.length->gi at_ k≠(⟨(gi z.At i).tmod 8,((gi z.At i).tdiv 8).tmod 8⟩:Zk))) (zy (by omega)) ⟨rfl,λ_ k hk=>by omega⟩ (by
  rintro n ⟨m,x⟩ hn ⟨hx,hm⟩;dsimp only at hx hm;subst hx;simp only[Z5.s1];rw[Zo (by omega)]
  cases m with
  |true=>
   rw[if_pos rfl,obs,Zw (by omega)];exact⟨_,rfl,rfl,λh=>by cases h⟩
  |false=>
   rw[if_neg (by decide),Zf (by omega),obs,Zw (by omega),itn,itn];refine⟨_,rfl,rfl,λh k hk=>?_⟩;rcases Nat.lt_succ_iff_lt_or_eq.1 hk with h'|rfl
   .exact hm rfl k h'
   .simpa using h) (by
  rintro⟨m,x⟩ ⟨hx,hm⟩;dsimp only at hx hm;subst hx;simp only[Z5.s1];rw[Zq (by omega)];exact⟨_,rfl,rfl,hm⟩)
 obtain⟨a,m⟩:=r;dsimp only at h2 h3;subst h2;exact⟨m,h1,h3⟩
theorem ZqO{z:zq}{most:Int}(hm:0<=most/\most<=1000)(hlen:z.At.length<=9223372036854775807)(hat:∀y∈z.At,Wf .u8 y):∃a,Zn (Z5.s0 z most) big (([]:List Zk),0)=some a/\Pts a/\(a.length:Int)<=most:=by
 refine Za1 (μ:=λs:List Zk×Int=>((z.At.length:Int)-s.2).toNat) (I:=λs=>0<=s.2/\Pts s.1/\(s.1.length:Int)<=most) (R:=λa=>Pts a/\(a.length:Int)<=most) (zy (by omega)) ⟨by decide,Pts.nil,by simpa using hm.1⟩ ?_;rintro⟨a,i⟩ ⟨h1,h2,h3⟩;dsimp only at h1 h2 h3;obtain⟨n,rfl⟩:∃n:Nat,i=n:=⟨i.toNat,by omega⟩;simp only[Z5.s0];by_cases c:((decide ((n:Int)<(z.At.length:Int)))&&(decide ((a.length:Int)<most)))=true
 .left;rw[if_pos c];rw[Bool.and_eq_true,decide_eq_true_iff,decide_eq_true_iff]at c;have hu:=(hat _ (zh (show n<z.At.length by omega))).u8;obtain⟨m,e1,e2⟩:=ZqP (z:=z) (at_:=a) (i:=n) (by omega);have hdv:0<=(gi z.At n).tdiv 8/\(gi z.At n).tdiv 8<=255:=by
   rw[Int.tdiv_eq_ediv_of_nonneg hu.1];omega
  rw[Zf (by omega),itn,ZfV (by omega),Zf ⟨by omega,by constructor<;>omega⟩,e1,obs];dsimp only
  cases m with
  |false=>
   rw[if_pos (by decide),Zf (by simp;omega),Zw (by omega)];refine⟨_,rfl,⟨by omega,h2.app ?_ (e2 rfl),by simp;omega⟩,by dsimp only;omega⟩;have a1:=Int.tmod_nonneg 8 hu.1;have a2:=Int.tmod_lt_of_pos (gi z.At n) (show(0:Int)<8 by omega);have a3:=Int.tmod_nonneg 8 hdv.1;have a4:=Int.tmod_lt_of_pos ((gi z.At n).tdiv 8) (show(0:Int)<8 by omega);exact⟨a1,a2,a3,a4⟩
  |true=>
   rw[if_neg (by decide),Zw (by omega)];exact⟨_,rfl,⟨by dsimp only;omega,h2,h3⟩,by dsimp only;omega⟩
 .right;rw[if_neg c];exact⟨_,rfl,h2,h3⟩
structure Zue(l:List Za)(at_:List Zk):Prop where
 pts:Pts at_
 len:l.length=at_.length
 ck:Ck l
 near:∀v e,v<l.length->e<2->nx l v e=-1\/Zdp at_ v e at_.length (nx l v e)
 own:∀v e,v<l.length->e<4->-2<=ow l v e/\ow l v e<=1000
 nc:NX at_ l
structure OkZ(z:zq):Prop where
 a:z.At.length<=9223372036854775807
 b:∀y∈z.At,Wf .u8 y
 o:∀y∈z.Own,Wf .i8 y
theorem ZsY{z:zq}{most:Int}(hz:OkZ z)(hm:0<=most/\most<=1000):∃l at_,Z5 z most=some (l,at_)/\Zue l at_/\(l.length:Int)<=most:=by
 obtain⟨a,h1,hp,hl⟩:=ZqO hm hz.a hz.b;have hM:Mj a (List.replicate a.length noC) 0 0:=⟨by simp,Ck.new _,λv e hv he=>.inl (by
   have:gi (List.replicate a.length noC) v=noC:=by rw[zO hv];simp
   unfold nx;rw[this]
   match e,he with
   |0,_|1,_=>rfl),λv e hv he=>by
   have:gi (List.replicate a.length noC) v=noC:=by rw[zO hv];simp
   unfold ow;rw[this]
   match e,he with
   |0,_|1,_|2,_|3,_=>decide,λv b hv hb h0=>by
   exfalso;have:gi (List.replicate a.length noC) v=noC:=by rw[zO hv];simp
   unfold nx at h0;rw[this]at h0;exact absurd h0 (by decide)⟩
 obtain⟨⟨a',l⟩,h2,h3,h4⟩:=ZqQ (z:=z) hp (by omega) hz.o hM;dsimp only at h3 h4;subst h3;refine⟨l,a',?_,⟨hp,h4.len,h4.ck,λv e hv he=>(h4.near v e hv he).imp id (·.2),h4.own,h4.nc⟩,by rw[h4.len];exact hl⟩;unfold Z5;rw[h1,obs,ZoI (by omega),obs,h2,obs]
end Mu
/- Layer 10:check. -/
namespace Mu

def ZdO(l:List Za)(v d:Nat):Int :=
 if nx l v d=-1 then(if ow l v d=0 then 0 else 9)
 else if nx l v d<0\/(l.length:Int)<=nx l v d\/nx l v d=v then 3
 else if nx l (nx l v d).toNat ((d+2)%4)=v/\ow l (nx l v d).toNat ((d+2)%4)=ow l v d/\¬ow l v d < -2 then 0 else 9
theorem ZpC{d:Nat}(hd:d<4):ZaV d 2=some (((d+2)%4:Nat):Int):=by
 match d,hd with
 |0,_|1,_|2,_|3,_=>decide
theorem tm2{d:Nat}(hd:d<4):((d:Int)+2).tmod 4=(((d+2)%4:Nat):Int):=by
 match d,hd with
 |0,_|1,_|2,_|3,_=>rfl
theorem Ztb{l:List Za}{v d:Nat}(hv:v<l.length)(hd:d<4):Zdl l v d=some (ZdO l v d):=by
 unfold Zdl ZdO;have e:((gi l v).Next).get (d:Int)=nx l v d:=rfl;have e2:((gi l v).Owner).get (d:Int)=ow l v d:=rfl;rw[Zf (by omega),Zf (by omega),itn,e,e2];by_cases c:nx l v d=-1
 .rw[Zo c,if_pos c];by_cases c2:ow l v d=0
  .rw[Zb2 c2,if_pos c2]
  .rw[Zcc c2,if_neg c2]
 .rw[Zq c,if_neg c];by_cases c2:nx l v d<0\/(l.length:Int)<=nx l v d\/nx l v d=v
  .rw[if_pos c2,if_pos (by simpa[or_assoc]using c2)]
  .rw[if_neg c2,if_neg (by simpa[or_assoc]using c2),ZpC hd,obs,Zf (by omega),Zf (by omega)];have e3:((gi l (nx l v d).toNat).Next).get (((d+2)%4:Nat):Int)=nx l (nx l v d).toNat ((d+2)%4):=rfl;have e4:((gi l (nx l v d).toNat).Owner).get (((d+2)%4:Nat):Int)=ow l (nx l v d).toNat ((d+2)%4):=rfl;rw[e3,e4];by_cases q1:nx l (nx l v d).toNat ((d+2)%4)=v<;>by_cases q2:ow l (nx l v d).toNat ((d+2)%4)=ow l v d<;>by_cases q3:ow l v d < -2<;>simp[q1,q2,q3]
def ZfG(l:List Za)(v:Nat):Int:=match(List.range 4).find? (λd=>decide (ZdO l v d≠0))with|some d=>ZdO l v d|none=>0
def ZdR(l:List Za):Int:=if 4096<l.length then 6 else match(List.range l.length).find? (λv=>decide (ZfG l v≠0))with|some v=>ZfG l v|none=>0
theorem Zij{n:Nat}{f:Nat->Int}:(match(List.range n).find? (λd=>decide (f d≠0))with|some d=>f d|none=>0)=0↔∀d,d<n->f d=0:=by
 cases h:(List.range n).find? (λd=>decide (f d≠0))with
 |none=>
  rw[List.find?_range_eq_none]at h;simp only[true_iff];intro d hd;have:=h d hd;simpa using this
 |some j=>
  rw[List.find?_range_eq_some]at h;have h1:f j≠0:=by simpa using h.1
  have h2:j<n:=by simpa using h.2.1
  constructor
  .intro h3;exact absurd h3 h1
  .intro h3;exact h3 j h2
theorem Zi0{l:List Za}{v:Nat}:ZfG l v=0↔∀d,d<4->ZdO l v d=0:=Zij
theorem ZlL{l:List Za}:ZdR l=0↔l.length<=4096/\∀v,v<l.length->∀d,d<4->ZdO l v d=0:=by
 unfold ZdR;by_cases c:4096<l.length
 .rw[if_pos c];constructor
  .intro h;omega
  .intro h;omega
 .rw[if_neg c,Zij];constructor
  .intro h;exact⟨by omega,λv hv=>Zi0.1 (h v hv)⟩
  .intro h v hv;exact Zi0.2 (h.2 v hv)
theorem ZhL{l:List Za}{v d:Nat}:ZdO l v d=0↔(nx l v d=-1/\ow l v d=0)\/∃w:Nat,nx l v d=w/\w<l.length/\w≠v/\nx l w ((d+2)%4)=v/\ow l w ((d+2)%4)=ow l v d/\-2<=ow l v d:=by
 unfold ZdO;by_cases c:nx l v d=-1
 .rw[if_pos c];by_cases c2:ow l v d=0
  .simp[c,c2]
  .rw[if_neg c2];constructor
   .intro h;omega
   .rintro(⟨_,h⟩|⟨w,h,_⟩)
    .exact absurd h c2
    .omega
 .rw [if_neg c];by_cases c2:nx l v d<0\/(l.length:Int)<=nx l v d\/nx l v d=v
  .rw[if_pos c2];constructor
   .intro h;omega
   .rintro(⟨h,_⟩|⟨w,h,h1,h2,_⟩)
    .exact absurd h c
    .omega
  .rw[if_neg c2];constructor
   .intro h;split at h
    .rename_i q;exact .inr ⟨(nx l v d).toNat,by omega,by omega,by omega,q.1,q.2.1,by omega⟩
    .omega
   .rintro(⟨h,_⟩|⟨w,h,h1,h2,h3,h4,h5⟩)
    .exact absurd h c
    .have:(nx l v d).toNat=w:=by omega
     rw[this,if_pos ⟨h3,h4,by omega⟩]
theorem Zcf{l:List Za}:ZdR l=0↔l.length<=4096/\Ck l:=by
 rw[ZlL];constructor
 .intro h;exact⟨h.1,⟨λv d hv hd=>ZhL.1 (h.2 v hv d hd)⟩⟩
 .intro h;exact⟨h.1,λv hv d hd=>ZhL.2 (h.2.s v d hv hd)⟩
theorem ZjI{n:Nat}{f:Nat->Int}:((match(List.range n).find? (λd=>decide (f d≠0))with|some d=>(.inr (f d):Unit⊕Int)|none=>.inl ()))=if(match(List.range n).find? (λd=>decide (f d≠0))with|some d=>f d|none=>0)=0 then .inl ()else .inr (match(List.range n).find? (λd=>decide (f d≠0))with|some d=>f d|none=>0):=by
 cases h:(List.range n).find? (λd=>decide (f d≠0))with
 |none=>simp
 |some j=>
  rw[List.find?_range_eq_some]at h;have h1:f j≠0:=by simpa using h.1
  rw[if_neg h1]
theorem ZuA{l:List Za}{v:Nat}(hv:v<l.length):Zn (zC.s1 l v) big 0=some (if ZfG l v=0 then .inl ()else .inr (ZfG l v)):=by
 have h:Zn (zC.s1 l v) big 0=some (match(List.range 4).find? (λd=>decide (ZdO l v d≠0))with|some d=>.inr (ZdO l v d)|none=>.inl ()):=by
  refine Zc3 (zy (by omega)) (λd hd=>?_) ?_
  .simp only[zC.s1];rw[Zo (by omega),Ztb hv hd,obs];by_cases c:ZdO l v d=0
   .rw[Zb2 c,if_neg (by simpa using c),Zw (by omega)]
   .rw[Zcc c,if_pos (by simpa using c)]
  .simp only[zC.s1];rw[Zq (by omega)]
 rw[h,ZjI];rfl
theorem Zh4{l:List Za}(hl:l.length<=1000000000000):zC l=some (ZdR l):=by
 unfold zC ZdR;by_cases c:4096<l.length
 .rw[if_pos c,Zo (by omega)]
 .rw[if_neg c,Zq (by omega)];have h:Zn (zC.s0 l) big 0=some (match(List.range l.length).find? (λv=>decide (ZfG l v≠0))with|some v=>.inr (ZfG l v)|none=>.inl ()):=by
   refine Zc3 (zy (by omega)) (λv hv=>?_) ?_
   .simp only[zC.s0];rw[Zo (by omega),ZuA hv,obs];by_cases c:ZfG l v=0
    .rw[if_pos c,if_neg (by simpa using c)];dsimp only;rw[Zw (by omega)]
    .rw[if_neg c,if_pos (by simpa using c)]
   .simp only[zC.s0];rw[Zq (by omega)]
  rw[h];cases(List.range l.length).find? (λv=>decide (ZfG l v≠0))<;>simp
theorem Ztx{l:List Za}{v d:Nat}(hv:v<l.length)(hd:d<4):zc.s1 l v d=some (if decide (ZdO l v d≠0)=true then .inr (.inr (ZdO l v d))else .inl ((d:Int)+1)):=by
 unfold zc.s1;have e:((gi l v).Next).get (d:Int)=nx l v d:=rfl;have e2:((gi l v).Owner).get (d:Int)=ow l v d:=rfl;rw[Zo (by omega),Zf (by omega),Zf (by omega),itn,e,e2];unfold ZdO;by_cases c:nx l v d=-1
 .rw[Zo c,if_pos c];by_cases c2:ow l v d=0
  .rw[Zb2 c2,if_pos c2,Zw (by omega)];rfl
  .rw[Zcc c2,if_neg c2];rfl
 .rw[Zq c,if_neg c];by_cases c2:nx l v d<0\/(l.length:Int)<=nx l v d\/nx l v d=v
  .rw[if_pos c2,if_pos (by simpa[or_assoc]using c2)];rfl
  .rw[if_neg c2,if_neg (by simpa[or_assoc]using c2),Zw (by omega),Zf (by omega),tm2 hd,Zf (by omega),Zw (by omega)];have e3:((gi l (nx l v d).toNat).Next).get (((d+2)%4:Nat):Int)=nx l (nx l v d).toNat ((d+2)%4):=rfl;have e4:((gi l (nx l v d).toNat).Owner).get (((d+2)%4:Nat):Int)=ow l (nx l v d).toNat ((d+2)%4):=rfl;rw[e3,e4];by_cases q1:nx l (nx l v d).toNat ((d+2)%4)=v<;>by_cases q2:ow l (nx l v d).toNat ((d+2)%4)=ow l v d<;>by_cases q3:ow l v d < -2<;>simp[q1,q2,q3]
theorem Zrp{l:List Za}(hl:l.length<=1000000000000):zc l=some (ZdR l):=by
 unfold zc ZdR;by_cases c:4096<l.length
 .rw[if_pos c,Zo (by omega)]
 .rw[if_neg c,Zq (by omega)];have hrow:∀v,v<l.length->Zn (zc.s1 l v) big 0=some (if ZfG l v=0 then .inl ()else .inr (ZfG l v)):=by
   intro v hv;have h:Zn (zc.s1 l v) big 0=some (match(List.range 4).find? (λd=>decide (ZdO l v d≠0))with|some d=>.inr (ZdO l v d)|none=>.inl ()):=by
    refine Zc3 (zy (by omega)) (λd hd=>Ztx hv hd) ?_;simp only[zc.s1];rw[Zq (by omega)]
   rw[h,ZjI];rfl
  have h:Zn (zc.s0 l) big 0=some (match(List.range l.length).find? (λv=>decide (ZfG l v≠0))with|some v=>.inr (ZfG l v)|none=>.inl ()):=by
   refine Zc3 (zy (by omega)) (λv hv=>?_) ?_
   .simp only[zc.s0];rw[Zo (by omega),hrow v hv,obs];by_cases c:ZfG l v=0
    .rw[if_pos c,if_neg (by simpa using c)];dsimp only;rw[Zw (by omega)]
    .rw[if_neg c,if_pos (by simpa using c)]
   .simp only[zc.s0];rw[Zq (by omega)]
  rw[h];cases(List.range l.length).find? (λv=>decide (ZfG l v≠0))<;>simp
end Mu
/- Layer 10:a grid's cells,played with. -/
namespace Mu
theorem Znt{d:Nat}(h:d<4):noC.Next.get (d:Int)=-1/\noC.Owner.get (d:Int)=0:=by
 match d,h with
 |0,_|1,_|2,_|3,_=>exact⟨rfl,rfl⟩
end Mu
/- Layer 10:a split edge. -/
namespace Mu
def spl(l:List Za)(v d w:Nat)(o:Int):List Za:=wth (wth (l++[noC]) v d l.length o) l.length d w o
theorem Zl8{l:List Za}{v d w:Nat}{o:Int}:(spl l v d w o).length=l.length+1:=by simp[spl,ZaG]
theorem Zre{l:List Za}{i e:Nat}(hi:i<=l.length)(he:e<4):nx (l++[noC]) i e=(if i<l.length then nx l i e else -1)/\ow (l++[noC]) i e=(if i<l.length then ow l i e else 0):=by
 unfold nx ow;by_cases c:i<l.length
 .rw[ZbJ c,if_pos c,if_pos c];exact⟨rfl,rfl⟩
 .rw[if_neg c,if_neg c,show i=l.length+0 by omega,Zbo];exact Znt he
theorem ZkG{l:List Za}{v d w i e:Nat}{o:Int}(hv:v<l.length)(hw:w<l.length)(hd:d<4)(hi:i<=l.length)(he:e<4) :
  nx (spl l v d w o) i e=(if i=l.length then(if e=d then(w:Int)else if e=(d+2)%4 then(v:Int)else -1)else if i=w/\e=(d+2)%4 then(l.length:Int)else if i=v/\e=d then(l.length:Int)else nx l i e)/\
  ow (spl l v d w o) i e=(if i=l.length then(if e=d then o else if e=(d+2)%4 then o else 0)else if i=w/\e=(d+2)%4 then o else if i=v/\e=d then o else ow l i e):=by
 have hl:(l++[noC]).length=l.length+1:=by simp
 have a:=ZdK (l:=wth (l++[noC]) v d l.length o) (v:=l.length) (w:=w) (d:=d) (i:=i) (e:=e) (o:=o) (by rw[ZaG];omega) (by rw[ZaG];omega) (by omega) hd (by rw[ZaG];omega) he;have b:=ZdK (l:=l++[noC]) (v:=v) (w:=l.length) (d:=d) (i:=i) (e:=e) (o:=o) (by omega) (by omega) (by omega) hd (by omega) he;have c:=Zre hi he;unfold spl;rw[a.1,a.2,b.1,b.2,c.1,c.2];constructor<;>(repeat' split)<;>first|rfl|omega
theorem Ck.spl{l:List Za}(h:Ck l){v d w:Nat}(hv:v<l.length)(hd:d<4)(hw:nx l v d=w):w<l.length/\w≠v/\Ck (spl l v d w (ow l v d)):=by
 have hvd:=h.s v d hv hd;have hh:w<l.length/\w≠v/\nx l w ((d+2)%4)=v/\ow l w ((d+2)%4)=ow l v d/\-2<=ow l v d:=by
  rcases hvd with⟨a,_⟩|⟨w',a,b⟩
  .omega
  .have:w=w':=by omega
   subst this;exact b
 obtain⟨w1,w2,w3,w4,w5⟩:=hh;refine⟨w1,w2,⟨λi e hi he=>?_⟩⟩;rw[Zl8]at hi⊢;have N:=λi e hi he=>ZkG (o:=ow l v d) hv w1 hd (i:=i) (e:=e) hi he;have hdd:(((d+2)%4)+2)%4=d:=by omega
 rw[(N i e (by omega) he).1,(N i e (by omega) he).2];by_cases q:i=l.length
 .rw[if_pos q,if_pos q];by_cases r:e=d
  .rw[if_pos r,if_pos r];refine .inr ⟨w,rfl,by omega,by omega,?_,?_,w5⟩
   .rw[(N w _ (by omega) (by omega)).1,if_neg (by omega),if_pos ⟨rfl,by rw[r]⟩,q]
   .rw[(N w _ (by omega) (by omega)).2,if_neg (by omega),if_pos ⟨rfl,by rw[r]⟩]
  .rw[if_neg r,if_neg r];by_cases t:e=(d+2)%4
   .rw[if_pos t,if_pos t];refine .inr ⟨v,rfl,by omega,by omega,?_,?_,w5⟩
    .rw[(N v _ (by omega) (by omega)).1,if_neg (by omega),if_neg (by omega),if_pos ⟨rfl,by omega⟩,q]
    .rw[(N v _ (by omega) (by omega)).2,if_neg (by omega),if_neg (by omega),if_pos ⟨rfl,by omega⟩]
   .rw[if_neg t,if_neg t];exact .inl ⟨rfl,rfl⟩
 .rw [if_neg q,if_neg q];by_cases r:i=w/\e=(d+2)%4
  .rw[if_pos r,if_pos r];refine .inr ⟨l.length,rfl,by omega,by omega,?_,?_,w5⟩
   .rw[(N _ _ (by omega) (by omega)).1,if_pos rfl,if_pos (by omega),r.1]
   .rw[(N _ _ (by omega) (by omega)).2,if_pos rfl,if_pos (by omega)]
  .rw [if_neg r,if_neg r];by_cases t:i=v/\e=d
   .rw[if_pos t,if_pos t];refine .inr ⟨l.length,rfl,by omega,by omega,?_,?_,w5⟩
    .rw[(N _ _ (by omega) (by omega)).1,if_pos rfl,if_neg (by omega),if_pos (by rw[t.2]),t.1]
    .rw[(N _ _ (by omega) (by omega)).2,if_pos rfl,if_neg (by omega),if_pos (by rw[t.2])]
   .rw[if_neg t,if_neg t];rcases h.s i e (by omega) he with⟨a,b⟩|⟨u,a,b,c,f,g,k⟩
    .exact .inl ⟨a,b⟩
    .have x1:¬(u=w/\(e+2)%4=(d+2)%4):=by
      rintro⟨rfl,y⟩;rw[y]at f;exact t ⟨by omega,by omega⟩
     have x2:¬(u=v/\(e+2)%4=d):=by
      rintro⟨rfl,y⟩;rw[y]at f;exact r ⟨by omega,by omega⟩
     refine .inr ⟨u,a,by omega,c,?_,?_,k⟩
     .rw[(N _ _ (by omega) (by omega)).1,if_neg (by omega),if_neg x1,if_neg x2];exact f
     .rw[(N _ _ (by omega) (by omega)).2,if_neg (by omega),if_neg x1,if_neg x2];exact g
end Mu
/- Layer 12:faces,in the code and in the document,are the same walk. -/
namespace Mu
abbrev Da:=Nat×Nat
def dt(p:Da):Z1:=⟨p.1,p.2⟩
def rt(p:Da):Zs:=⟨p.1,p.2⟩
def isD(l:List Za)(p:Da):Prop:=p.1<l.length/\p.2<4/\0<=nx l p.1 p.2
instance{l:List Za}{p:Da}:Decidable (isD l p):=by unfold isD;infer_instance
def bh(l:List Za)(p:Da):Da :=
 if 0<=nx l (nx l p.1 p.2).toNat ((p.2+1)%4)then((nx l p.1 p.2).toNat,(p.2+1)%4)
 else if 0<=nx l (nx l p.1 p.2).toNat p.2 then((nx l p.1 p.2).toNat,p.2)
 else if 0<=nx l (nx l p.1 p.2).toNat ((p.2+3)%4)then((nx l p.1 p.2).toNat,(p.2+3)%4)
 else((nx l p.1 p.2).toNat,(p.2+2)%4)
theorem isD.fwd{l:List Za}(hc:Ck l){p:Da}(h:isD l p):(nx l p.1 p.2).toNat<l.length/\nx l (nx l p.1 p.2).toNat ((p.2+2)%4)=p.1:=by
 rcases hc.s p.1 p.2 h.1 h.2.1 with⟨a,_⟩|⟨w,a,b,_,c,_⟩
 .have:=h.2.2;omega
 .rw[a,itn];exact⟨b,c⟩
theorem isD.bh{l:List Za}(hc:Ck l){p:Da}(h:isD l p):isD l (bh l p):=by
 have f:=h.fwd hc;have:=h.2.1;unfold Mu.bh;split
 .rename_i c;exact⟨f.1,by dsimp only;omega,c⟩
 .split
  .rename_i c;exact⟨f.1,by dsimp only;omega,c⟩
  .split
   .rename_i c;exact⟨f.1,by dsimp only;omega,c⟩
   .exact⟨f.1,by dsimp only;omega,by dsimp only;rw[f.2];omega⟩
theorem ZsQ{l:List Za}{v d:Int}:ZaJ ⟨v,d⟩ l=some (decide (0<=v/\v<l.length/\0<=d/\d<4/\0<=nx l v.toNat d.toNat)):=by
 unfold ZaJ Zbm;dsimp only;by_cases c1:0<=v
 .rw[Zo c1];by_cases c2:v<l.length
  .rw[Zo c2,obs];by_cases c3:0<=d/\d<=3
   .rw[if_pos (by simp[c3]),Zf (by omega),Zf (by omega)];have:(gi l v.toNat).Next.get d=nx l v.toNat d.toNat:=by unfold nx;rw[show((d.toNat:Nat):Int)=d by omega]
    rw[this];congr 1;rw[Bool.eq_iff_iff];simp only[decide_eq_true_eq];omega
   .rw[if_neg (by simp;omega),Zdh];omega
  .rw[Zq c2,Zdh];omega
 .rw[Zq c1,Zdh];omega
theorem ZsW{l:List Za}{p:Da}:ZaJ (dt p) l=some (decide (isD l p)):=by
 unfold dt;rw[ZsQ];congr 1;rw[Bool.eq_iff_iff];simp only[decide_eq_true_eq,itn];unfold isD;omega
theorem ZiU{d:Nat}(hd:d<4){t:Int}(ht:t=1\/t=0\/t=-1\/t=2):ZaV d t=some (if t=1 then(((d+1)%4:Nat):Int)else if t=0 then(d:Int)else if t=-1 then(((d+3)%4:Nat):Int)else(((d+2)%4:Nat):Int)):=by
 have:d=0\/d=1\/d=2\/d=3:=by omega
 rcases this with rfl|rfl|rfl|rfl<;>rcases ht with rfl|rfl|rfl|rfl<;>rfl
theorem ZpA{ρ:Type}{F:Int->Option (Int⊕ρ)}{c0 c1 c2:Prop}[Decidable c0][Decidable c1][Decidable c2]{r0 r1 r2 r3:ρ}(s0:F ((0:Nat):Int)=some (if c0 then .inr r0 else .inl (((0:Nat):Int)+1)))(s1:F ((1:Nat):Int)=some (if c1 then .inr r1 else .inl (((1:Nat):Int)+1)))(s2:F ((2:Nat):Int)=some (if c2 then .inr r2 else .inl (((2:Nat):Int)+1)))(s3:F ((3:Nat):Int)=some (.inr r3)):Zn F big 0=some (if c0 then r0 else if c1 then r1 else if c2 then r2 else r3):=by
 refine ZcT (n:=4) ?_ (by unfold big;omega);replace s0:F 0=some (if c0 then .inr r0 else .inl 1):=s0;replace s1:F 1=some (if c1 then .inr r1 else .inl 2):=s1;replace s2:F 2=some (if c2 then .inr r2 else .inl 3):=s2;replace s3:F 3=some (.inr r3):=s3;rw[Zn,s0];by_cases h0:c0
 .rw[if_pos h0,if_pos h0]
 .rw[if_neg h0,if_neg h0];dsimp only;rw[Zn,s1];by_cases h1:c1
  .rw[if_pos h1,if_pos h1]
  .rw[if_neg h1,if_neg h1];dsimp only;rw[Zn,s2];by_cases h2:c2
   .rw[if_pos h2,if_pos h2]
   .rw[if_neg h2,if_neg h2];dsimp only;rw[Zn,s3]
theorem Zll{l:List Za}(hc:Ck l){p:Da}(h:isD l p):zS (dt p) l=some (dt (bh l p)):=by
 have f:=h.fwd hc;obtain⟨h1,h2,h3⟩:=h;have e:((gi l p.1).Next).get (p.2:Int)=nx l p.1 p.2:=rfl;have st:∀(k:Nat)(d':Nat),k<4->d'<4->ZaV (p.2:Int) ((⟨1,0,(-1),2⟩:A4 Int).get k)=some (d':Int)->zS.s0 (dt p) l (k:Int)=some (if 0<=nx l (nx l p.1 p.2).toNat d' then .inr (.inr (dt ((nx l p.1 p.2).toNat,d')))else .inl ((k:Int)+1)):=by
  intro k d' hk hd hl;have i:=ZsQ (l:=l) (v:=nx l p.1 p.2) (d:=d');simp only[zS.s0,dt,itn,e];rw[Zo (by omega),Zf (by omega),hl,obs,i,obs];by_cases c:0<=nx l (nx l p.1 p.2).toNat d'
  .rw[Zo (by rw[itn];omega),if_pos c];congr 4;omega
  .rw[Zq (by rw[itn];omega),Zw (by omega),if_neg c]
 have s0:=st 0 ((p.2+1)%4) (by omega) (by omega) ((ZiU h2 (.inl rfl)).trans rfl);have s1:=st 1 p.2 (by omega) h2 ((ZiU h2 (.inr (.inl rfl))).trans rfl);have s2:=st 2 ((p.2+3)%4) (by omega) (by omega) ((ZiU h2 (.inr (.inr (.inl rfl)))).trans rfl);have s3:=st 3 ((p.2+2)%4) (by omega) (by omega) ((ZiU h2 (.inr (.inr (.inr rfl)))).trans rfl);rw[if_pos (by rw[f.2];omega)]at s3;have L:Zn (zS.s0 (dt p) l) big 0=some (.inr (dt (bh l p))):=by
  rw[ZpA s0 s1 s2 s3];unfold bh;by_cases c0:0<=nx l (nx l p.1 p.2).toNat ((p.2+1)%4)
  .rw[if_pos c0,if_pos c0]
  .rw[if_neg c0,if_neg c0];by_cases c1:0<=nx l (nx l p.1 p.2).toNat p.2
   .rw[if_pos c1,if_pos c1]
   .rw[if_neg c1,if_neg c1];by_cases c2:0<=nx l (nx l p.1 p.2).toNat ((p.2+3)%4)
    .rw[if_pos c2,if_pos c2]
    .rw[if_neg c2,if_neg c2]
 unfold zS;rw[Zf (by unfold dt;dsimp only;omega),Zf (by unfold dt;dsimp only;omega),L,obs]
theorem Zl1{l:List Za}(hc:Ck l){p:Da}(h:isD l p):zG l (rt p)=some (rt (bh l p)):=by
 have f:=h.fwd hc;obtain⟨h1,h2,h3⟩:=h;have e:((gi l p.1).Next).get (p.2:Int)=nx l p.1 p.2:=rfl;have st:∀(k:Nat)(o:Nat),k<4->gi ([1,0,3,2]:List Int) k=o->o<4->zG.s0 l (rt p) (k:Int)=some (if 0<=nx l (nx l p.1 p.2).toNat ((p.2+o)%4)then .inr (.inr (rt ((nx l p.1 p.2).toNat,(p.2+o)%4)))else .inl ((k:Int)+1)):=by
  intro k o hk ho ho4;have m:((p.2:Int)+(o:Int)).tmod 4=(((p.2+o)%4:Nat):Int):=by
   rw[Int.tmod_eq_emod_of_nonneg (by omega)];omega
  have e2:(gi l (nx l p.1 p.2).toNat).Next.get (((p.2+o)%4:Nat):Int)=nx l (nx l p.1 p.2).toNat ((p.2+o)%4):=rfl;simp only[zG.s0,rt,itn,e,ho,m,e2];rw[Zo (by omega),Zf (by simp;omega),Zw (by omega),Zf (by omega),Zf (by omega)];by_cases c:0<=nx l (nx l p.1 p.2).toNat ((p.2+o)%4)
  .rw[Zo c,if_pos c];congr 4;omega
  .rw[Zq c,Zw (by omega),if_neg c]
 have s0:=st 0 1 (by omega) rfl (by omega);have s1:=st 1 0 (by omega) rfl (by omega);have s2:=st 2 3 (by omega) rfl (by omega);have s3:=st 3 2 (by omega) rfl (by omega);rw[show(p.2+0)%4=p.2 by omega]at s1;rw[if_pos (by rw[f.2];omega)]at s3;have L:Zn (zG.s0 l (rt p)) big 0=some (.inr (rt (bh l p))):=by
  rw[ZpA s0 s1 s2 s3];unfold bh;by_cases c0:0<=nx l (nx l p.1 p.2).toNat ((p.2+1)%4)
  .rw[if_pos c0,if_pos c0]
  .rw[if_neg c0,if_neg c0];by_cases c1:0<=nx l (nx l p.1 p.2).toNat p.2
   .rw[if_pos c1,if_pos c1]
   .rw[if_neg c1,if_neg c1];by_cases c2:0<=nx l (nx l p.1 p.2).toNat ((p.2+3)%4)
    .rw[if_pos c2,if_pos c2]
    .rw[if_neg c2,if_neg c2]
 unfold zG;rw[Zf (by unfold rt;dsimp only;omega),Zf (by unfold rt;dsimp only;omega),L,obs]
def walk(l:List Za):Nat->List Da->Da->List Da
 |0,_,_=>[]
 |n+1,met,x=>if x∈met then []else x::walk l n (met++[x]) (bh l x)
structure Mets(l:List Za)(met:List Da):Prop where
 nd:met.Nodup
 is:∀p∈met,isD l p
theorem Mets.len{l:List Za}{met:List Da}(h:Mets l met):met.length<=4*l.length:=by
 have n:(met.map λp=>4*p.1+p.2).Nodup:=by
  refine List.pairwise_map.2 (h.nd.imp_of_mem λ{p q} hp hq hne he=>hne ?_);have a:=h.is p hp;have b:=h.is q hq;unfold isD at a b;exact Prod.ext (by omega) (by omega)
 have:=n.length_le_of_subset (l₂:=List.range (4*l.length)) (λx hx=>by
  obtain⟨p,hp,rfl⟩:=List.mem_map.1 hx;have:=h.is p hp;unfold isD at this;exact List.mem_range.2 (by omega))
 simpa using this
theorem Mets.nil{l:List Za}:Mets l []:=⟨List.nodup_nil,by simp⟩
theorem Mets.snoc{l:List Za}{met:List Da}(h:Mets l met){x:Da}(hx:isD l x)(hn:x∉met):Mets l (met++[x]):=by
 refine⟨?_,λp hp=>?_⟩
 .rw[List.nodup_append];exact⟨h.nd,by simp,λa ha b hb e=>hn (by simp at hb;rw[<-hb,<-e];exact ha)⟩
 .rcases List.mem_append.1 hp with q|q
  .exact h.is p q
  .simp at q;rw[q];exact hx
theorem Mets.walk{l:List Za}(hc:Ck l):∀{n:Nat}{met:List Da}{x:Da},Mets l met->isD l x->Mets l (met++walk l n met x)
 |0,met,x,h,hx=>by rw[Mu.walk,List.append_nil];exact h
 |n+1,met,x,h,hx=>by
  rw[Mu.walk];split
  .rw[List.append_nil];exact h
  .rename_i c;have:=Mets.walk hc (n:=n) (h.snoc hx c) (hx.bh hc);rwa[List.append_assoc]at this
theorem Zjx{l:List Za}(hc:Ck l):∀{n:Nat}{met:List Da}{x:Da},isD l x->∀p∈walk l n met x,isD l p
 |0,_,_,_,p,hp=>by simp[walk]at hp
 | n+1,met,x,hx,p,hp=>by
  rw[walk]at hp;split at hp
  .simp at hp
  .rcases List.mem_cons.1 hp with rfl|hp
   .exact hx
   .exact Zjx hc (hx.bh hc) p hp
def mpD(met:List Da):List (Z1×Bool):=met.map λp=>(dt p,true)
theorem ZmP{p q:Da}(h:dt p=dt q):p=q:=by
 unfold dt at h;injection h with a b
 exact Prod.ext (by omega) (by omega)
theorem Zja{x:Da}:∀{met:List Da},ZeW false (dt x) (mpD met)=decide (x∈met)
 |[]=>rfl
 |p::met=>by
  show(if dt x=dt p then true else ZeW false (dt x) (mpD met))=_;by_cases c:x=p
  .rw[if_pos (by rw[c]),Zct (by simp[c])]
  .rw[if_neg λh=>c (ZmP h),Zja];rw[Bool.eq_iff_iff];simp[c]
theorem ZoQ{x:Da}{met:List Da}(h:x∉met):Ze3 (dt x) true (mpD met)=mpD (met++[x]):=by
 have:∀{m:List Da},x∉m->Ze3 (dt x) true (mpD m)=mpD m++[(dt x,true)]:=by
  intro m
  induction m with
  |nil=>intro _;rfl
  |cons p m ih=>
   intro h;show(if dt x=dt p then _ else(dt p,true)::Ze3 (dt x) true (mpD m))=_;rw[if_neg λe=>h (by rw[ZmP e];simp),ih λe=>h (by simp[e])];rfl
 rw[this h];unfold mpD;rw[List.map_append];rfl
theorem ZpD{l:List Za}(hc:Ck l)(hl:l.length<=5000):∀(n:Nat)(met:List Da)(f:List Z1)(x:Da),Mets l met->isD l x->4*l.length<met.length+n->f.length<=met.length->Zn (zQ.s2 l) n (mpD met,f,dt x)=some (mpD (met++walk l n met x),f++(walk l n met x).map dt)
 |0,met,f,x,h,_,hn,_=>by have:=h.len;omega
 |n+1,met,f,x,h,hx,hn,hf=>by
  have ml:=h.len;rw[Zn,walk];simp only[zQ.s2];rw[Zja];by_cases c:x∈met
  .rw[Zb2 c,if_pos c,List.append_nil,List.map_nil,List.append_nil]
  .rw[Zcc c,Zf (by simp;omega),Zll hc hx,obs,if_neg c,ZoQ c];dsimp only;rw[ZpD hc hl n (met++[x]) (f++[dt x]) (bh l x) (h.snoc hx c) (hx.bh hc) (by simp;omega) (by simp;omega)];rw[List.append_assoc,List.append_assoc];rfl
def Marks(l:List Za)(met:List Da)(a:List Bool):Prop:=a.length=4*l.length/\∀c e,c<l.length->e<4->gi a (4*c+e)=decide ((c,e)∈met)
theorem Marks.set{l:List Za}{met:List Da}{a:List Bool}(h:Marks l met a){x:Da}(hx:isD l x):Marks l (met++[x]) (a.set (4*x.1+x.2) true):=by
 unfold isD at hx;refine⟨by rw[List.length_set];exact h.1,λc e hc he=>?_⟩;rw[Zb1 (by have:=h.1;omega),h.2 c e hc he];by_cases q:(c,e)=x
 .rw[<-q];rw[if_pos rfl,Zct (by simp)]
 .rw[if_neg]
  .rw[Bool.eq_iff_iff];simp[q]
  .intro k;exact q (Prod.ext (by dsimp only;omega) (by dsimp only;omega))
theorem ZpO{l:List Za}(hc:Ck l)(hl:l.length<=5000):∀(n:Nat)(met:List Da)(a:List Bool)(f:List Zs)(x:Da),Mets l met->Marks l met a->isD l x->4*l.length<met.length+n->f.length<=met.length->∃a',Zn (ZE.s2 l) n (a,f,rt x)=some (a',f++(walk l n met x).map rt)/\Marks l (met++walk l n met x) a'
 |0,met,a,f,x,h,_,_,hn,_=>by have:=h.len;omega
 | n+1,met,a,f,x,h,hm,hx,hn,hf=>by
  have ml:=h.len;have hx':=hx;unfold isD at hx';have al:=hm.1;rw[Zn,walk,show rt x=(⟨x.1,x.2⟩:Zs) from rfl];simp only[ZE.s2];rw[Zw (by omega),Zw (by omega),Zf (by omega),show(4*(x.1:Int)+(x.2:Int)).toNat=4*x.1+x.2 by omega,hm.2 x.1 x.2 hx'.1 hx'.2.1];by_cases c:x∈met
  .rw[Zb2 c,if_pos c,List.map_nil,List.append_nil,List.append_nil];exact⟨a,rfl,hm⟩
  .rw[Zcc c,Zf (by simp;omega)];have rb:=Zl1 hc hx;unfold rt at rb;rw[rb,obs,if_neg c];dsimp only;obtain⟨a',e1,e2⟩:=ZpO hc hl n (met++[x]) (a.set (4*x.1+x.2) true) (f++[rt x]) (bh l x) (h.snoc hx c) (hm.set hx) (hx.bh hc) (by simp;omega) (by simp;omega);refine⟨a',?_,?_⟩
   .unfold rt at e1⊢;rw[e1,List.append_assoc];rfl
   .rw[List.append_assoc]at e2;exact e2
def stF(l:List Za)(s:List Da×List (List Da))(p:Da):List Da×List (List Da) :=
 if nx l p.1 p.2<0\/p∈s.1 then s else(s.1++walk l (4*l.length+1) s.1 p,s.2++[walk l (4*l.length+1) s.1 p])
def ZfF(l:List Za)(v:Nat)(s:List Da×List (List Da)):Nat->List Da×List (List Da)
 |0=>s
 |e+1=>stF l (ZfF l v s e) (v,e)
def Fj(l:List Za):Nat->List Da×List (List Da)
 |0=>([],[])
 |v+1=>ZfF l v (Fj l v) 4
def faces(l:List Za):List (List Da):=(Fj l l.length).2
structure FI(l:List Za)(s:List Da×List (List Da)):Prop where
 m:Mets l s.1
 len:s.2.length<=s.1.length
 is:∀f∈s.2,∀p∈f,isD l p
 fl:s.2.flatten=s.1
theorem FI.st{l:List Za}(hc:Ck l){s:List Da×List (List Da)}(h:FI l s){p:Da}(h1:p.1<l.length)(h2:p.2<4):FI l (stF l s p):=by
 unfold stF;split
 .exact h
 .rename_i c;have hp:isD l p:=⟨h1,h2,by omega⟩;have hn:p∉s.1:=λq=>c (.inr q);refine⟨Mets.walk hc h.m hp,?_,?_,?_⟩
  .dsimp only;rw[List.length_append,List.length_append,walk,if_neg hn];have:=h.len;simp;omega
  .intro f hf q hq;rcases List.mem_append.1 hf with k|k
   .exact h.is f k q hq
   .simp at k;subst k;exact Zjx hc hp q hq
  .dsimp only;rw[List.flatten_append,h.fl];simp
theorem FI.row{l:List Za}(hc:Ck l){s:List Da×List (List Da)}(h:FI l s){v:Nat}(hv:v<l.length):∀e,e<=4->FI l (ZfF l v s e)
 |0,_=>h
 |e+1,he=>(FI.row hc h hv e (by omega)).st hc hv (by dsimp only;omega)
theorem ZfI{l:List Za}(hc:Ck l):∀v,v<=l.length->FI l (Fj l v)
 |0,_=>⟨Mets.nil,by simp[Fj],by simp[Fj],by simp[Fj]⟩
 |v+1,hv=>(ZfI hc v (by omega)).row hc (by omega) 4 (by omega)
theorem ZoH{l:List Za}(hc:Ck l)(hl:l.length<=5000){s:List Da×List (List Da)}(h:FI l s){v e:Nat}(hv:v<l.length)(he:e<4):zQ.s1 l v (s.2.map (List.map dt),mpD s.1,(e:Int))=some (.inl ((stF l s (v,e)).2.map (List.map dt),mpD (stF l s (v,e)).1,(e:Int)+1)):=by
 have i:=ZsW (l:=l) (p:=(v,e));have g:=Zja (x:=(v,e)) (met:=s.1);unfold dt at i g;dsimp only at i g;have ml:=h.m.len;have sl:=h.len;simp only[zQ.s1];rw[Zo (by omega),i,obs,g];unfold stF;dsimp only;by_cases c:nx l v e<0\/(v,e)∈s.1
 .rw[if_pos c,if_pos,Zw (by omega)];rcases c with c|c
  .rw[Zdh (show¬isD l (v,e) from λq=>by have:=q.2.2;dsimp only at this;omega)];rfl
  .rw[Zct c,Bool.or_true]
 .have hp:isD l (v,e):=⟨hv,he,by dsimp only;omega⟩;have hn:(v,e)∉s.1:=λq=>c (.inr q);have W:=ZpD hc hl (4*l.length+1) s.1 [] (v,e) h.m hp (by omega) (by simp);unfold dt at W;dsimp only at W;rw[if_neg c,if_neg (by rw[Zct hp,Zdh hn];decide),ZcT W (by unfold big;omega),obs];dsimp only;rw[Zf (by rw[List.length_map];omega),Zw (by omega),List.map_append];rfl
theorem Zpa{l:List Za}(hc:Ck l)(hl:l.length<=5000){s:List Da×List (List Da)}(h:FI l s){a:List Bool}(ha:Marks l s.1 a){v e:Nat}(hv:v<l.length)(he:e<4):∃a',ZE.s1 l v (a,s.2.map (List.map rt),(e:Int))=some (.inl (a',(stF l s (v,e)).2.map (List.map rt),(e:Int)+1))/\Marks l (stF l s (v,e)).1 a':=by
 have ml:=h.m.len;have sl:=h.len;have al:=ha.1;have en:(gi l v).Next.get (e:Int)=nx l v e:=rfl;simp only[ZE.s1,itn,en];rw[Zo (by omega),Zf (by omega),Zf (by omega)];unfold stF;dsimp only;by_cases c0:nx l v e<0
 .rw[Zo c0,obs,if_pos rfl,Zw (by omega),if_pos (.inl c0)];exact⟨a,rfl,ha⟩
 .rw[Zq c0,Zw (by omega),Zw (by omega),Zf (by omega),obs,show(4*(v:Int)+(e:Int)).toNat=4*v+e by omega,ha.2 v e hv he];by_cases c1:(v,e)∈s.1
  .rw[Zo c1,Zw (by omega),if_pos (.inr c1)];exact⟨a,rfl,ha⟩
  .have hp:isD l (v,e):=⟨hv,he,by dsimp only;omega⟩;obtain⟨a',W,M⟩:=ZpO hc hl (4*l.length+1) s.1 a [] (v,e) h.m ha hp (by omega) (by simp);unfold rt at W;dsimp only at W;rw[Zq c1,ZcT W (by unfold big;omega),obs,if_neg (by simp[c0,c1])];dsimp only;rw[Zf (by rw[List.length_map];omega),Zw (by omega),List.map_append];exact⟨a',rfl,M⟩
theorem ZqM{l:List Za}(hl:l.length<=4096)(h:ZdR l=0):zQ l=some ((faces l).map (List.map dt),0):=by
 have hc:=(Zcf.1 h).2;have row:∀v,v<l.length->Zn (zQ.s1 l v) big ((Fj l v).2.map (List.map dt),mpD (Fj l v).1,0)=some ((Fj l (v+1)).2.map (List.map dt),mpD (Fj l (v+1)).1):=by
  intro v hv;refine Zaj (λe:Nat=>((ZfF l v (Fj l v) e).2.map (List.map dt),mpD (ZfF l v (Fj l v) e).1,(e:Int))) (n:=4) (zy (by omega)) rfl (λe he=>?_) ?_
  .rw[ZoH hc (by omega) ((ZfI hc v (by omega)).row hc hv e (by omega)) hv he];rfl
  .simp only[zQ.s1];rw[Zq (by omega)];rfl
 unfold zQ;rw[Zh4 (by omega),obs,Zb2 h,ZgA (x:=(faces l).map (List.map dt))];refine Zaj (λv:Nat=>((Fj l v).2.map (List.map dt),mpD (Fj l v).1,(v:Int))) (n:=l.length) (zy (by omega)) rfl (λv hv=>?_) ?_
 .simp only[zQ.s0];rw[Zo (by omega),row v hv,obs];dsimp only;rw[Zw (by omega),show((v+1:Nat):Int)=(v:Int)+1 by omega]
 .simp only[zQ.s0];rw[Zq (by omega)];rfl
theorem Zrq{l:List Za}(hl:l.length<=4096)(h:ZdR l=0):ZE l=some ((faces l).map (List.map rt)):=by
 have hc:=(Zcf.1 h).2;have row:∀v,v<l.length->∀a,Marks l (Fj l v).1 a->∃a',Zn (ZE.s1 l v) big (a,(Fj l v).2.map (List.map rt),0)=some (a',(Fj l (v+1)).2.map (List.map rt))/\Marks l (Fj l (v+1)).1 a':=by
  intro v hv a ha;have:∃r,Zn (ZE.s1 l v) big (a,(Fj l v).2.map (List.map rt),0)=some r/\(r.2=(Fj l (v+1)).2.map (List.map rt)/\Marks l (Fj l (v+1)).1 r.1):=by
   refine ZbA (λ(e:Nat)(s:List Bool×List (List Zs)×Int)=>(s.2.1=(ZfF l v (Fj l v) e).2.map (List.map rt)/\Marks l (ZfF l v (Fj l v) e).1 s.1)/\s.2.2=e) (n:=4) (zy (by omega)) ⟨⟨rfl,ha⟩,rfl⟩ ?_ ?_
   .rintro e ⟨a,o,j⟩ he ⟨⟨h1,h2⟩,h3⟩;dsimp only at h1 h2 h3⊢;subst h3 h1;obtain⟨a',e1,e2⟩:=Zpa hc (by omega) ((ZfI hc v (by omega)).row hc hv e (by omega)) h2 hv he;exact⟨_,e1,⟨rfl,e2⟩,by dsimp only;omega⟩
   .rintro⟨a,o,j⟩ ⟨⟨h1,h2⟩,h3⟩;dsimp only at h1 h2 h3⊢;subst h3 h1;simp only[ZE.s1];rw[Zq (by omega)];exact⟨_,rfl,rfl,h2⟩
  obtain⟨⟨a',o⟩,e1,e2,e3⟩:=this;dsimp only at e2 e3;subst e2;exact⟨a',e1,e3⟩
 have M:∃r,Zn (ZE.s0 l) big (List.replicate (4*(l.length:Int)).toNat false,([]:List (List Zs)),0)=some r/\r=(faces l).map (List.map rt):=by
  refine ZbA (λ(v:Nat)(s:List Bool×List (List Zs)×Int)=>(s.2.1=(Fj l v).2.map (List.map rt)/\Marks l (Fj l v).1 s.1)/\s.2.2=v) (n:=l.length) (zy (by omega)) ⟨⟨rfl,by simp;omega,λc e hc' he=>?_⟩,rfl⟩ ?_ ?_
  .rw[zO (by simp;omega)];simp[Fj]
  .rintro v ⟨a,o,j⟩ hv ⟨⟨h1,h2⟩,h3⟩;dsimp only at h1 h2 h3⊢;subst h3 h1;obtain⟨a',e1,e2⟩:=row v hv a h2;simp only[ZE.s0];rw[Zo (by omega),e1,obs];dsimp only;rw[Zw (by omega)];exact⟨_,rfl,⟨rfl,e2⟩,by dsimp only;omega⟩
  .rintro⟨a,o,j⟩ ⟨⟨h1,h2⟩,h3⟩;dsimp only at h1 h2 h3⊢;subst h3 h1;simp only[ZE.s0];rw[Zq (by omega)];exact⟨_,rfl,rfl⟩
 obtain⟨r,e1,e2⟩:=M;unfold ZE;rw[Zw (by omega),Zf (by omega),e1,obs,e2]
end Mu
/- Layer 13:what hangs together,by steps. -/
namespace Mu

theorem Zk5{α:Type}[Inhabited α]{l:List α}{n i:Nat}(h:i<n):gi (l.take n) i=gi l i:=by
 unfold gi;simp[List.getElem?_take,h]
theorem ZsZ{n:Nat}(h:n<=1300):Zd3 1 n=some (0,(n:Int)):=by
 have key:∀n:Fin 1301,Zd3 1 ((n:Nat):Int)=some (0,((n:Nat):Int)):=by decide+kernel
 exact key ⟨n,by omega⟩
theorem Zlo{n:Nat}(h:n<=1300):zL [-1] n=some (List.replicate n (-1)):=by
 have L:∃r,Zn zL.s0 big (([-1]:List Int).take (List.replicate n (0:Int)).length++(List.replicate n (0:Int)).drop ([-1]:List Int).length,((min ([-1]:List Int).length (List.replicate n (0:Int)).length:Nat):Int))=some r/\(r.length=n/\∀i,i<n->gi r i=-1):=by
  refine Za1 (μ:=λs=>((n:Int)-s.2).toNat) (I:=λs=>s.1.length=n/\(0<=s.2/\s.2<=(n:Int))/\(0<n->0<s.2)/\∀i:Nat,(i:Int)<s.2->gi s.1 i=-1) (by dsimp only;unfold big;omega) ?_ ?_
  .cases n with
   |zero=>exact⟨rfl,by simp,by simp,λi hi=>by simp at hi;omega⟩
   |succ n=>
    refine⟨by simp,by simp;omega,λ_=>by simp,λi hi=>?_⟩;have:i=0:=by simp at hi;omega
    subst this;rfl
  .rintro⟨x,m⟩ ⟨h1,h2,h3,h4⟩;dsimp only at h1 h2 h3 h4⊢;obtain⟨k,rfl⟩:=Int.eq_ofNat_of_zero_le h2.1;simp only[zL.s0,itn];by_cases c:(k:Int)<(x.length:Int)
   .refine .inl ?_;have t1:(x.take k).length=k:=by rw[List.length_take];omega
    have t2:(x.drop k).length=n-k:=by rw[List.length_drop];omega
    rw[Zo c,Zf (by omega),Zw (by omega),t1,t2];refine⟨_,rfl,⟨by simp;omega,by dsimp only;omega,λ_=>by dsimp only;omega,λi hi=>?_⟩,by dsimp only;omega⟩;dsimp only at hi⊢;by_cases q:i<k
    .rw[ZbJ (by rw[t1];exact q),Zk5 q];exact h4 i (by omega)
    .have e:i=(x.take k).length+(i-k):=by rw[t1];omega
     rw[e,Zbo,ZbJ (by rw[List.length_take,t1];omega),Zk5 (by omega),Zk5 (by omega)];exact h4 _ (by omega)
   .refine .inr ?_;rw[Zq c];exact⟨_,rfl,h1,λi hi=>h4 i (by omega)⟩
 obtain⟨r,e1,e2,e3⟩:=L;have er:r=List.replicate n (-1):=ZdE (by simp[e2]) λi hi=>by
  rw[e3 i (by omega),zO (by simp;omega)];simp
 unfold zL;rw[Zq (by omega),obs,Zf (show inK .u64 (([-1]:List Int).length:Int) by decide),Zf (show inK .u64 (n:Int) from by
  simp only[inK,Go.IntKind.wrap,Go.IntKind.bits,Go.IntKind.signed];simp;omega),show(([-1]:List Int).length:Int)=1 from rfl,ZsZ h,obs]
 dsimp only;rw[if_neg (by simp;omega),obs,ZfV (by omega),Zf (by omega),itn,e1,obs,er]

def Adj(l:List Za)(a b:Nat):Prop:=∃d,d<4/\nx l a d=b
inductive Rch(l:List Za)(v:Nat):Nat->Nat->Prop
 |zero:Rch l v 0 v
 |succ {n a b}:Rch l v n a->Adj l a b->Rch l v (n+1) b
theorem Adj.lt{l:List Za}(h:Ck l){a b:Nat}(ha:a<l.length)(hab:Adj l a b):b<l.length:=by
 obtain⟨d,hd,e⟩:=hab;have:=h.lt ha hd;omega
theorem Adj.symm{l:List Za}(h:Ck l){a b:Nat}(ha:a<l.length)(hab:Adj l a b):Adj l b a:=by
 obtain⟨d,hd,e⟩:=hab;rcases h.s a d ha hd with⟨e2,_⟩|⟨w,e2,_,_,e3,_⟩
 .omega
 .have:w=b:=by omega
  subst this;exact⟨(d+2)%4,by omega,e3⟩
theorem Rch.lt{l:List Za}(h:Ck l){v n w:Nat}(hv:v<l.length)(hr:Rch l v n w):w<l.length:=by
 induction hr with
 |zero=>exact hv
 |succ _ hab ih=>exact hab.lt h ih
theorem Rch.trans{l:List Za}{a b c n m:Nat}(h1:Rch l a n b)(h2:Rch l b m c):Rch l a (n+m) c:=by
 induction h2 with
 |zero=>exact h1
 |succ _ hab ih=>exact .succ ih hab
theorem Rch.symm{l:List Za}(h:Ck l){v n w:Nat}(hv:v<l.length)(hr:Rch l v n w):Rch l w n v:=by
 induction hr with
 |zero=>exact .zero
 |succ hr hab ih=>
  have ha:=hr.lt h hv;have:=(Rch.succ .zero (hab.symm h ha)).trans ih;rw[Nat.zero_add,Nat.add_comm]at this;exact this
def Dist(l:List Za)(v w n:Nat):Prop:=Rch l v n w/\∀m,Rch l v m w->n<=m
theorem Dist.uniq{l:List Za}{v w n m:Nat}(h1:Dist l v w n)(h2:Dist l v w m):n=m:=by
 have:=h1.2 m h2.1;have:=h2.2 n h1.1;omega
theorem Rch.dist{l:List Za}{v w n:Nat}(h:Rch l v n w):∃m,m<=n/\Dist l v w m:=by
 induction n using Nat.strongRecOn with
 | _ n ih=>
  by_cases c:∃m,m<n/\Rch l v m w
  .obtain⟨m,hm,hr⟩:=c;obtain⟨k,hk,hd⟩:=ih m hm hr;exact⟨k,by omega,hd⟩
  .refine⟨n,Nat.le_refl _,h,λm hm=>?_⟩;by_cases q:n<=m
   .exact q
   .exact absurd ⟨m,by omega,hm⟩ c
theorem Dist.pred{l:List Za}{v w n:Nat}(hd:Dist l v w (n+1)):∃a,Dist l v a n/\Adj l a w:=by
 obtain⟨h1,h2⟩:=hd
 cases h1 with
 |succ hr hab=>
  refine⟨_,⟨hr,λm hm=>?_⟩,hab⟩;have:=h2 (m+1) (.succ hm hab);omega
theorem Zjj:∀{n m:Nat}(f:Nat->Nat),(∀i,i<n->f i<m)->(∀i j,i<n->j<n->f i=f j->i=j)->n<=m
 |0,m,f,_,_=>Nat.zero_le _
 |n+1,0,f,h,_=>absurd (h 0 (by omega)) (by omega)
 | n+1,m+1,f,h,hi=>by
  have:=Zjj (n:=n) (m:=m) (λi=>if f i=m then f n else f i) (λi hi'=>by
   by_cases c:f i=m
   .rw[if_pos c];have:=h n (by omega);by_cases c2:f n=m
    .have:=hi i n (by omega) (by omega) (by omega);omega
    .omega
   .rw[if_neg c];have:=h i (by omega);omega) (λi j hi' hj' e=>by
   by_cases c:f i=m<;>by_cases c2:f j=m
   .exact hi i j (by omega) (by omega) (by omega)
   .rw[if_pos c,if_neg c2]at e;have:=hi n j (by omega) (by omega) e;omega
   .rw[if_neg c,if_pos c2]at e;have:=hi i n (by omega) (by omega) e;omega
   .rw[if_neg c,if_neg c2]at e;exact hi i j (by omega) (by omega) e)
  omega
theorem Dist.all{l:List Za}{v w:Nat}:∀n,Dist l v w n->∀m,m<=n->∃a,Dist l v a m
 |0,h,m,hm=>⟨w,by rw[show m=0 by omega];exact h⟩
 |n+1,h,m,hm=>by
  by_cases c:m=n+1
  .exact⟨w,by rw[c];exact h⟩
  .obtain⟨a,ha,_⟩:=h.pred;exact Dist.all n ha m (by omega)
theorem Dist.lt{l:List Za}(h:Ck l){v w n:Nat}(hv:v<l.length)(hd:Dist l v w n):n<l.length:=by
 have hall:=λm(hm:m<n+1)=>hd.all n m (by omega);have:=Zjj (n:=n+1) (m:=l.length) (λm=>if hm:m<n+1 then(hall m hm).choose else 0) (λi hi=>by
  rw[dif_pos hi];exact(hall i hi).choose_spec.1.lt h hv) (λi j hi hj e=>by
  rw[dif_pos hi,dif_pos hj]at e;have d1:=(hall i hi).choose_spec;have d2:=(hall j hj).choose_spec;rw[e]at d1;exact d1.uniq d2)
 omega
end Mu
/- Layer 13:spread. -/
namespace Mu

theorem Zfd:∀{m:List Bool}{w:Nat},w<m.length->gi m w=false->(m.set w true).count false+1=m.count false
 |[],w,h,_=>by simp at h
 |b::m,0,_,hf=>by
  have:b=false:=hf;subst this;simp
 |b::m,w+1,h,hf=>by
  have:=Zfd (m:=m) (w:=w) (by simpa using h) hf;cases b<;>simp[List.count_cons]<;>omega
structure Sb(l:List Za)(v:Nat)(δ:Nat->Nat)(fr dr:List Int)(mt:List Bool):Prop where
 lf:fr.length=l.length
 ld:dr.length=l.length
 lm:mt.length=l.length
 mv:gi mt v=true
 dv:δ v=0
 rc:∀a,gi mt a=true->Rch l v (δ a) a
 fm:∀a,gi mt a=true->a≠v->∃p d:Nat,gi fr a=p/\gi dr a=d/\d<4/\gi mt p=true/\nx l p d=a/\δ a=δ p+1
 un:∀a,a<l.length->gi mt a=false->gi dr a=-1
structure So(l:List Za)(v:Nat)(δ:Nat->Nat)(q:List Int)(mt:List Bool):Prop where
 el:∀x∈q,∃a:Nat,x=a/\a<l.length/\gi mt a=true
 so:q.Pairwise λx y=>δ x.toNat<=δ y.toNat/\δ y.toNat<=δ x.toNat+1
 pr:∀a:Nat,gi mt a=true->(a:Int)∉q->(∀x∈q,δ a<=δ x.toNat)/\∀b,Adj l a b->gi mt b=true/\δ b<=δ a+1
structure Si(l:List Za)(v h:Nat)(δ:Nat->Nat)(q:List Int)(mt:List Bool)(d:Nat):Prop where
 hm:gi mt h=true
 el:∀x∈q,∃a:Nat,x=a/\a<l.length/\gi mt a=true/\δ h<=δ a/\δ a<=δ h+1
 so:q.Pairwise λx y=>δ x.toNat<=δ y.toNat
 pr:∀a:Nat,gi mt a=true->(a:Int)∉q->a≠h->δ a<=δ h/\∀b,Adj l a b->gi mt b=true/\δ b<=δ a+1
 hd:∀e,e<d->∀b:Nat,nx l h e=b->gi mt b=true/\δ b<=δ h+1
theorem So.open{l:List Za}{v h:Nat}{δ:Nat->Nat}{t:List Int}{mt:List Bool}(s:So l v δ ((h:Int)::t) mt):Si l v h δ t mt 0:=by
 have hs:=List.pairwise_cons.1 s.so;refine⟨?_,λx hx=>?_,hs.2.imp (λh=>h.1),λa ha hn hne=>?_,λe he=>by omega⟩
 .obtain⟨a,e,_,hh⟩:=s.el _ List.mem_cons_self;obtain rfl:h=a:=by omega
  exact hh
 .obtain⟨a,e,h1,h2⟩:=s.el x (List.mem_cons_of_mem _ hx);have:=hs.1 x hx;subst e;exact⟨a,rfl,h1,h2,by simpa using this.1,by simpa using this.2⟩
 .have:=s.pr a ha (by
   rw[List.mem_cons];rintro(h|h)
   .omega
   .exact hn h)
  exact⟨by simpa using this.1 _ List.mem_cons_self,this.2⟩
theorem Si.close{l:List Za}{v h:Nat}{δ:Nat->Nat}{t:List Int}{mt:List Bool}(s:Si l v h δ t mt 4):So l v δ t mt:=by
 have b:∀x∈t,δ h<=δ x.toNat/\δ x.toNat<=δ h+1:=by
  intro x hx;obtain⟨a,rfl,_,_,h1,h2⟩:=s.el x hx;exact⟨h1,h2⟩
 refine⟨λx hx=>?_,?_,λa ha hn=>?_⟩
 .obtain⟨a,e,h1,h2,_⟩:=s.el x hx;exact⟨a,e,h1,h2⟩
 .refine List.Pairwise.imp_of_mem ?_ s.so;intro x y hx hy hxy;have:=b x hx;have:=b y hy;exact⟨hxy,by omega⟩
 .by_cases c:a=h
  .subst c;refine⟨λx hx=>(b x hx).1,?_⟩;rintro w ⟨d,hd,e⟩;exact s.hd d hd w e
  .have:=s.pr a ha hn c;refine⟨λx hx=>?_,this.2⟩;have:=b x hx;omega
theorem Sb.meet{l:List Za}(hc:Ck l){v h d w:Nat}{δ:Nat->Nat}{fr dr:List Int}{mt:List Bool}(s:Sb l v δ fr dr mt)(hm:gi mt h=true)(hd:d<4)(hw:nx l h d=w)(hwl:w<l.length)(hu:gi mt w=false) :
  Sb l v (λa=>if a=w then δ h+1 else δ a) (fr.set w h) (dr.set w d) (mt.set w true):=by
 have gm:∀a,gi (mt.set w true) a=if a=w then true else gi mt a:=λa=>Zb1 (by rw[s.lm];exact hwl);have gf:∀a,gi (fr.set w (h:Int)) a=if a=w then(h:Int)else gi fr a:=λa=>Zb1 (by rw[s.lf];exact hwl);have gd:∀a,gi (dr.set w (d:Int)) a=if a=w then(d:Int)else gi dr a:=λa=>Zb1 (by rw[s.ld];exact hwl);have hwh:h≠w:=by rintro rfl;rw[hm]at hu;cases hu
 have hwv:v≠w:=by rintro rfl;rw[s.mv]at hu;cases hu
 have old:∀a,gi mt a=true->a≠w:=by rintro a ha rfl;rw[ha]at hu;cases hu
 refine⟨by simpa using s.lf,by simpa using s.ld,by simpa using s.lm,?_,?_,λa ha=>?_,λa ha hav=>?_,λa ha hau=>?_⟩
 .rw[gm,s.mv];simp
 .rw[if_neg hwv];exact s.dv
 .by_cases c:a=w
  .subst c;rw[if_pos rfl];exact .succ (s.rc h hm) ⟨d,hd,hw⟩
  .rw[if_neg c];rw[gm,if_neg c]at ha;exact s.rc a ha
 .by_cases c:a=w
  .subst c;refine⟨h,d,by rw[gf,if_pos rfl],by rw[gd,if_pos rfl],hd,by rw[gm,hm];simp,hw,?_⟩;rw[if_pos rfl,if_neg hwh]
  .rw[gm,if_neg c]at ha;obtain⟨p,e,h1,h2,h3,h4,h5,h6⟩:=s.fm a ha hav;refine⟨p,e,by rw[gf,if_neg c];exact h1,by rw[gd,if_neg c];exact h2,h3,by rw[gm,h4];simp,h5,?_⟩;rw[if_neg c,if_neg (old p h4)];exact h6
 .rw[gm]at hau;by_cases c:a=w
  .rw[if_pos c]at hau;cases hau
  .rw[if_neg c]at hau;rw[gd,if_neg c];exact s.un a ha hau
theorem Si.meet{l:List Za}{v h d w:Nat}{δ:Nat->Nat}{q:List Int}{mt:List Bool}(lm:mt.length=l.length)(s:Si l v h δ q mt d)(hw:nx l h d=w)(hwl:w<l.length)(hu:gi mt w=false) :
  Si l v h (λa=>if a=w then δ h+1 else δ a) (q++[(w:Int)]) (mt.set w true) (d+1):=by
 have gm:∀a,gi (mt.set w true) a=if a=w then true else gi mt a:=λa=>Zb1 (by rw[lm];exact hwl);have old:∀a,gi mt a=true->a≠w:=by rintro a ha rfl;rw[ha]at hu;cases hu
 have hwh:h≠w:=old h s.hm;have keep:∀a,gi mt a=true->gi (mt.set w true) a=true:=λa ha=>by rw[gm,ha];simp
 refine⟨keep h s.hm,λx hx=>?_,?_,λa ha hn hne=>?_,λe he b hb=>?_⟩
 .rw[List.mem_append,List.mem_singleton]at hx;rw[if_neg hwh];rcases hx with hx|rfl
  .obtain⟨a,e,h1,h2,h3,h4⟩:=s.el x hx;exact⟨a,e,h1,keep a h2,by rw[if_neg (old a h2)];exact h3,by rw[if_neg (old a h2)];exact h4⟩
  .exact⟨w,rfl,hwl,by rw[gm,if_pos rfl],by rw[if_pos rfl];omega,by rw[if_pos rfl];omega⟩
 .rw[List.pairwise_append];refine⟨List.Pairwise.imp_of_mem ?_ s.so,List.pairwise_singleton _ _,λx hx y hy=>?_⟩
  .intro x y hx hy hxy;obtain⟨a,rfl,h1,h2,h3,h4⟩:=s.el x hx;obtain⟨b,rfl,k1,k2,k3,k4⟩:=s.el y hy;simp only[itn]at hxy⊢;rw[if_neg (old a h2),if_neg (old b k2)];exact hxy
  .rw[List.mem_singleton]at hy;subst hy;obtain⟨a,rfl,h1,h2,h3,h4⟩:=s.el x hx;simp only[itn];rw[if_neg (old a h2)];simpa using h4
 .rw[List.mem_append,List.mem_singleton]at hn;have haw:a≠w:=λc=>hn (.inr (by omega));rw[gm,if_neg haw]at ha;have:=s.pr a ha (λc=>hn (.inl c)) hne;rw[if_neg haw,if_neg hwh];refine⟨this.1,λb hb=>?_⟩;have:=this.2 b hb;exact⟨keep b this.1,by rw[if_neg (old b this.1)];exact this.2⟩
 .rw[if_neg hwh];by_cases c:e=d
  .subst c;have:b=w:=by omega
   subst this;exact⟨by rw[gm,if_pos rfl],by rw[if_pos rfl];omega⟩
  .have:=s.hd e (by omega) b hb;exact⟨keep b this.1,by rw[if_neg (old b this.1)];exact this.2⟩
theorem Si.skip{l:List Za}{v h d:Nat}{δ:Nat->Nat}{q:List Int}{mt:List Bool}(s:Si l v h δ q mt d)(hs:∀w:Nat,nx l h d=w->gi mt w=true):Si l v h δ q mt (d+1):=by
 refine⟨s.hm,s.el,s.so,s.pr,λe he b hb=>?_⟩;by_cases c:e=d
 .subst c;have hm:=hs b hb;refine⟨hm,?_⟩;by_cases c1:(b:Int)∈q
  .obtain⟨a,e,_,_,_,h4⟩:=s.el _ c1;have:b=a:=by omega
   subst this;exact h4
  .by_cases c2:b=h
   .subst c2;omega
   .have:=(s.pr b hm c1 c2).1;omega
 .exact s.hd e (by omega) b hb
end Mu
/- Layer 13:spread,walked. -/
namespace Mu

theorem Znk{l:List Za}(hc:Ck l)(hl:l.length<=4096){v h:Nat}{t0 t:List Int}{δ:Nat->Nat}{fr dr:List Int}{mt:List Bool}(hh:h<l.length)(sb:Sb l v δ fr dr mt)(si:Si l v h δ t mt 0)(hn:mt.count false+t.length<=l.length) :
  ∃r:List Int×List Int×List Int×List Bool,Zn (Zar.s1 l ((h:Int)::t0)) big (fr,dr,t,mt,0)=some r/\∃δ',Sb l v δ' r.1 r.2.1 r.2.2.2/\Si l v h δ' r.2.2.1 r.2.2.2 4/\r.2.2.2.count false+r.2.2.1.length=mt.count false+t.length:=by
 have g0:∀x:List Int,gi ((h:Int)::x) (0:Int).toNat=h:=λ_=>rfl;refine ZbA (n:=4) (I:=λd(s:List Int×List Int×List Int×List Bool×Int)=>s.2.2.2.2=d/\∃δ',Sb l v δ' s.1 s.2.1 s.2.2.2.1/\Si l v h δ' s.2.2.1 s.2.2.2.1 d/\s.2.2.2.1.count false+s.2.2.1.length=mt.count false+t.length) (R:=λr:List Int×List Int×List Int×List Bool=>∃δ',Sb l v δ' r.1 r.2.1 r.2.2.2/\Si l v h δ' r.2.2.1 r.2.2.2 4/\r.2.2.2.count false+r.2.2.1.length=mt.count false+t.length) (zy (by omega)) ⟨rfl,δ,sb,si,rfl⟩ ?_ ?_
 .rintro d ⟨fr',dr',t',mt',x⟩ hd ⟨hx,δ',sb',si',hn'⟩;dsimp only at hx sb' si' hn';subst hx;simp only[Zar.s1];rw[Zo (by omega),g0,Zf (by omega),Zf (by omega),itn];have e:((gi l h).Next).get (d:Int)=nx l h d:=rfl;rw[e];have hlt:=hc.lt hh (show d<4 from hd);have lm:=sb'.lm;have lf:=sb'.lf;have ld:=sb'.ld;by_cases c:0<=nx l h d
  .obtain⟨w,hw⟩:∃w:Nat,nx l h d=w:=⟨(nx l h d).toNat,by omega⟩;rw[hw];rw[hw]at hlt;have hwl:w<l.length:=by omega
   rw[Zo (by omega),Zf (by omega),obs,itn]
   cases hm:gi mt' w with
   |true=>
    rw[if_neg (by decide),Zw (by omega)];refine⟨_,rfl,rfl,δ',sb',si'.skip (λw' hw'=>?_),hn'⟩;have:w'=w:=by omega
    rw[this];exact hm
   |false=>
    have hcount:=Zfd (m:=mt') (w:=w) (by omega) hm;rw[if_pos (by decide),Zf (by omega),Zf (by omega),Zf (by omega),Zf (by simp;omega),Zw (by omega)];refine⟨_,rfl,rfl,_,sb'.meet hc si'.hm hd hw hwl hm,si'.meet lm hw hwl hm,?_⟩;simp only[List.length_append,List.length_cons,List.length_nil];omega
  .rw[Zq (by omega),obs,if_neg (by decide),Zw (by omega)];exact⟨_,rfl,rfl,δ',sb',si'.skip (λw' hw'=>by omega),hn'⟩
 .rintro⟨fr',dr',t',mt',x⟩ ⟨hx,δ',sb',si',hn'⟩;dsimp only at hx sb' si' hn';subst hx;simp only[Zar.s1];rw[Zq (by omega)];exact⟨_,rfl,δ',sb',si',hn'⟩
structure Spr(l:List Za)(v:Nat)(fr dr:List Int):Prop where
 lf:fr.length=l.length
 ld:dr.length=l.length
 fm:∀a n,Dist l v a n->a≠v->∃p d m:Nat,gi fr a=p/\gi dr a=d/\d<4/\nx l p d=a/\Dist l v p m/\n=m+1
 un:∀a,a<l.length->(∀n,¬Rch l v n a)->gi dr a=-1
theorem Zr2{l:List Za}(hc:Ck l){v:Nat}{δ:Nat->Nat}{fr dr:List Int}{mt:List Bool}(hv:v<l.length)(sb:Sb l v δ fr dr mt)(so:So l v δ [] mt):Spr l v fr dr:=by
 have all:∀n a,Rch l v n a->gi mt a=true/\δ a<=n:=by
  intro n a h
  induction h with
  |zero=>exact⟨sb.mv,by rw[sb.dv];omega⟩
  |succ hr hab ih=>
   have:=(so.pr _ ih.1 (by simp)).2 _ hab;exact⟨this.1,by omega⟩
 have dist:∀a,gi mt a=true->Dist l v a (δ a):=λa ha=>⟨sb.rc a ha,λm hm=>(all m a hm).2⟩;refine⟨sb.lf,sb.ld,λa n hd hav=>?_,λa ha hu=>?_⟩
 .have hm:=(all n a hd.1).1;obtain⟨p,d,h1,h2,h3,h4,h5,h6⟩:=sb.fm a hm hav;refine⟨p,d,δ p,h1,h2,h3,h5,dist p h4,?_⟩;have:=(dist a hm).uniq hd;omega
 .refine sb.un a ha ?_
  cases h:gi mt a with
  |false=>rfl
  |true=>exact absurd (sb.rc a h) (hu _)
theorem ZoN{l:List Za}(hc:Ck l)(hl:l.length<=1300){v:Nat}(hv:v<l.length):∃fr dr,Zar l v=some (fr,dr)/\Spr l v fr dr:=by
 have gr:∀a,gi (List.replicate l.length false) a=false:=by
  intro a;by_cases h:a<l.length
  .rw[zO (by simpa using h)];simp
  .rw[ZeN (by simpa using h)];rfl
 have gr2:∀a,a<l.length->gi (List.replicate l.length (-1:Int)) a=-1:=by
  intro a h;rw[zO (by simpa using h)];simp
 have gm:∀a,gi ((List.replicate l.length false).set v true) a=if a=v then true else false:=by
  intro a;rw[Zb1 (by simpa using hv),gr]
 have sb0:Sb l v (λ_=>0) (List.replicate l.length (-1)) (List.replicate l.length (-1)) ((List.replicate l.length false).set v true):=by
  refine⟨by simp,by simp,by simp,by rw[gm,if_pos rfl],rfl,λa ha=>?_,λa ha hav=>?_,λa ha hu=>gr2 a ha⟩
  .rw[gm]at ha;by_cases c:a=v
   .subst c;exact .zero
   .rw[if_neg c]at ha;cases ha
  .rw[gm,if_neg hav]at ha;cases ha
 have so0:So l v (λ_=>0) [(v:Int)] ((List.replicate l.length false).set v true):=by
  refine⟨λx hx=>?_,List.pairwise_singleton _ _,λa ha hn=>?_⟩
  .rw[List.mem_singleton]at hx;exact⟨v,hx,hv,by rw[gm,if_pos rfl]⟩
  .rw[gm]at ha;by_cases c:a=v
   .subst c;exact absurd List.mem_cons_self hn
   .rw[if_neg c]at ha;cases ha
 have cnt0:((List.replicate l.length false).set v true).count false+1=l.length:=by
  rw[Zfd (by simpa using hv) (gr v)];simp
 obtain⟨r,h1,h2⟩:=Za1 (step:=Zar.s0 l) (s0:=(List.replicate l.length (-1),List.replicate l.length (-1),[(v:Int)],(List.replicate l.length false).set v true)) (μ:=λs:List Int×List Int×List Int×List Bool=>s.2.2.2.count false+s.2.2.1.length) (I:=λs=>∃δ,Sb l v δ s.1 s.2.1 s.2.2.2/\So l v δ s.2.2.1 s.2.2.2/\s.2.2.2.count false+s.2.2.1.length<=l.length) (R:=λr:List Int×List Int=>Spr l v r.1 r.2) (zy (by simp only[List.length_cons,List.length_nil];omega)) ⟨_,sb0,so0,by simp only[List.length_cons,List.length_nil];omega⟩ (by
  rintro⟨fr,dr,q,mt⟩ ⟨δ,sb,so,hn⟩;dsimp only at sb so hn;simp only[Zar.s0]
  cases q with
  |nil=>
   right;rw[Zq (by simp)];exact⟨_,rfl,Zr2 hc hv sb so⟩
  |cons x t=>
   left;obtain⟨h,rfl,hh,_⟩:=so.el x List.mem_cons_self;rw[List.length_cons]at hn;obtain⟨⟨fr',dr',t',mt'⟩,e1,δ',sb',si',hn'⟩:=Znk (t0:=t) hc (by omega) hh sb so.open (by omega);dsimp only at e1 sb' si' hn';have hd:List.drop (1:Int).toNat ((h:Int)::t)=t:=rfl;rw[Zo (by simp<;>omega),Zf (by simp<;>omega),Zf (by simp<;>omega),hd,e1,obs];refine⟨_,rfl,⟨δ',sb',si'.close,by dsimp only;omega⟩,?_⟩;simp only[List.length_cons];omega)
 obtain⟨fr,dr⟩:=r;refine⟨fr,dr,?_,h2⟩;unfold Zar;rw[Zlo hl,obs,obs,Zf (by omega),itn,Zf (by simp;omega),itn,h1,obs]
end Mu
/- Layer 13:far. -/
namespace Mu

structure Fa(l:List Za)(v r i d:Nat)(far:List Int):Prop where
 lf:far.length=l.length
 so:∀a,a<l.length->gi far a=-1\/∃n:Nat,gi far a=n/\Dist l v a n/\n<=r+1
 al:∀a n,Dist l v a n->n<=r->gi far a=n
 nw:∀(a b e:Nat),e<4->Dist l v a r->nx l a e=b->(a<i\/a=i/\e<d)->0<=gi far b
def Zpx(l:List Za)(v a:Nat)(x:Int):Prop:=(x=-1/\∀n,¬Rch l v n a)\/∃n:Nat,x=n/\Dist l v a n
theorem Fa.close{l:List Za}(hc:Ck l){v r:Nat}{far:List Int}(hv:v<l.length)(h:Fa l v r l.length 0 far):Fa l v (r+1) 0 0 far:=by
 refine⟨h.lf,λa ha=>(h.so a ha).imp id (λ⟨n,e,d,k⟩=>⟨n,e,d,by omega⟩),λa n hd hn=>?_,λa b e he hd hw hh=>by omega⟩;by_cases c:n<=r
 .exact h.al a n hd c
 .obtain rfl:n=r+1:=by omega
  obtain⟨p,hp,e,he,hw⟩:=hd.pred;have hpl:=hp.1.lt hc hv;have:=h.nw p a e he hp hw (.inl hpl);rcases h.so a (hd.1.lt hc hv)with e1|⟨m,e1,e2,e3⟩
  .omega
  .rw[e1,e2.uniq hd]
theorem ZsU{l:List Za}(hc:Ck l)(hl:l.length<=4096){v r i:Nat}{far:List Int}(hv:v<l.length)(hi:i<l.length)(h:Fa l v r i 0 far)(hr:r<=4096) :
  ∃far',Zn (ZB.s3 l r i) big (far,0)=some far'/\Fa l v r (i+1) 0 far':=by
 refine ZbA (n:=4) (I:=λd(s:List Int×Int)=>s.2=d/\Fa l v r i d s.1) (R:=λfar'=>Fa l v r (i+1) 0 far') (zy (by omega)) ⟨rfl,h⟩ ?_ ?_
 .rintro d ⟨f,x⟩ hd ⟨hx,hf⟩;dsimp only at hx hf;subst hx;have lf:=hf.lf;simp only[ZB.s3];rw[Zo (by omega),Zf (by omega),Zf (by omega),Zf (by omega),itn];have e:((gi l i).Next).get (d:Int)=nx l i d:=rfl;rw[e];have hlt:=hc.lt hi (show d<4 from hd);have skip:(Dist l v i r->∀b:Nat,nx l i d=b->0<=gi f b)->Fa l v r i (d+1) f:=λhs=>⟨hf.lf,hf.so,hf.al,λa b e he ha hw hh=>by
   by_cases c:a=i/\e=d
   .obtain⟨rfl,rfl⟩:=c;exact hs ha b hw
   .exact hf.nw a b e he ha hw (by omega)⟩
  by_cases c1:gi f i=r/\0<=nx l i d
  .obtain⟨w,hw⟩:∃w:Nat,nx l i d=w:=⟨(nx l i d).toNat,by omega⟩;have hd0:Dist l v i r:=by
    rcases hf.so i hi with q|⟨n,q,q2,_⟩
    .omega
    .have:n=r:=by omega
     subst this;exact q2
   have hmx:max (nx l i d) 0=(w:Int):=by omega
   rw[if_pos (by simp[c1]),hmx,Zf (by omega),obs,itn];have hwl:w<l.length:=by omega
   by_cases c2:gi f w<0
   .rw[Zo c2,Zw (by omega),Zf (by omega),Zw (by omega),hw,itn];have g:∀a,gi (f.set w ((r:Int)+1)) a=if a=w then(r:Int)+1 else gi f a:=λa=>Zb1 (by omega);have dw:Dist l v w (r+1):=by
     refine⟨.succ hd0.1 ⟨d,hd,hw⟩,λm hm=>?_⟩;obtain⟨k,hk,hdk⟩:=hm.dist;by_cases q:k<=r
     .have:=hf.al w k hdk q;omega
     .omega
    refine⟨_,rfl,rfl,by simpa using hf.lf,λa ha=>?_,λa n hdn hn=>?_,λa b e he ha hw' hh=>?_⟩
    .rw[g];by_cases q:a=w
     .rw[if_pos q];right;exact⟨r+1,by omega,by rw[q];exact dw,by omega⟩
     .rw[if_neg q];exact hf.so a ha
    .rw[g];by_cases q:a=w
     .subst q;have:=hf.al a n hdn hn;omega
     .rw[if_neg q];exact hf.al a n hdn hn
    .rw[g];by_cases q:b=w
     .rw[if_pos q];omega
     .rw[if_neg q];refine hf.nw a b e he ha hw' ?_;by_cases q2:a=i/\e=d
      .obtain⟨rfl,rfl⟩:=q2;omega
      .omega
   .rw[Zq c2,Zw (by omega)];refine⟨_,rfl,rfl,skip (λ_ b hb=>?_)⟩;have:b=w:=by omega
    subst this;omega
  .rw[if_neg (by simpa using c1),obs,if_neg (by decide),Zw (by omega)];refine⟨_,rfl,rfl,skip (λhd0 b hb=>?_)⟩;exact absurd ⟨hf.al i r hd0 (Nat.le_refl _),by omega⟩ c1
 .rintro⟨f,x⟩ ⟨hx,hf⟩;dsimp only at hx hf;subst hx;simp only[ZB.s3];rw[Zq (by omega)];exact⟨_,rfl,hf.lf,hf.so,hf.al,λa b e he ha hw hh=>hf.nw a b e he ha hw (by omega)⟩
theorem ZsT{l:List Za}(hc:Ck l)(hl:l.length<=4096){v r:Nat}{far:List Int}(hv:v<l.length)(h:Fa l v r 0 0 far)(hr:r<=4096) :
  ∃far',Zn (ZB.s2 l r) big (far,0)=some far'/\Fa l v (r+1) 0 0 far':=by
 refine ZbA (n:=l.length) (I:=λi(s:List Int×Int)=>s.2=i/\Fa l v r i 0 s.1) (R:=λfar'=>Fa l v (r+1) 0 0 far') (zy (by omega)) ⟨rfl,h⟩ ?_ ?_
 .rintro i ⟨f,x⟩ hi ⟨hx,hf⟩;dsimp only at hx hf;subst hx;obtain⟨f',e1,e2⟩:=ZsU hc hl hv hi hf hr;simp only[ZB.s2];rw[Zo (by omega),e1,obs,Zw (by omega)];exact⟨_,rfl,rfl,e2⟩
 .rintro⟨f,x⟩ ⟨hx,hf⟩;dsimp only at hx hf;subst hx;simp only[ZB.s2];rw[Zq (by omega)];exact⟨_,rfl,hf.close hc hv⟩
theorem ZsS{l:List Za}(hl:l.length<=4096):Zn (ZB.s0 l) big (List.replicate l.length 0,0)=some (List.replicate l.length (-1)):=by
 refine Zaj (λn:Nat=>(List.replicate n (-1)++List.replicate (l.length-n) 0,(n:Int))) (n:=l.length) (zy (by omega)) (by simp) (λn hn=>?_) ?_
 .simp only[ZB.s0];rw[Zo (by omega),Zf (by simp;omega),Zw (by omega),itn,show l.length-n=l.length-(n+1)+1 by omega,List.replicate_succ,List.set_append_right _ _ (by simp),List.replicate_succ'];simp
 .simp only[ZB.s0];rw[Zq (by omega)];simp
theorem Zu8{l:List Za}(hc:Ck l)(hl:l.length<=4096){v:Nat}(hv:v<l.length):∃far,ZB l v=some far/\far.length=l.length/\∀a,a<l.length->Zpx l v a (gi far a):=by
 have gr:∀a,a<l.length->gi (List.replicate l.length (-1:Int)) a=-1:=by
  intro a h;rw[zO (by simpa using h)];simp
 have g:∀a,gi ((List.replicate l.length (-1:Int)).set v 0) a=if a=v then 0 else gi (List.replicate l.length (-1:Int)) a:=λa=>Zb1 (by simpa using hv);have dz:Dist l v v 0:=⟨.zero,λm _=>by omega⟩;have h0:Fa l v 0 0 0 ((List.replicate l.length (-1:Int)).set v 0):=by
  refine⟨by simp,λa ha=>?_,λa n hd hn=>?_,λa b e he hd hw hh=>by omega⟩
  .rw[g];by_cases c:a=v
   .rw[if_pos c];right;exact⟨0,rfl,by rw[c];exact dz,by omega⟩
   .rw[if_neg c];exact .inl (gr a ha)
  .obtain rfl:n=0:=by omega
   have:=hd.1;cases this;rw[g,if_pos rfl];rfl
 obtain⟨far,e1,e2⟩:=ZbA (step:=ZB.s1 l) (s0:=((List.replicate l.length (-1:Int)).set v 0,(0:Int))) (n:=l.length) (I:=λr(s:List Int×Int)=>s.2=r/\Fa l v r 0 0 s.1) (R:=λfar=>Fa l v l.length 0 0 far) (zy (by omega)) ⟨rfl,h0⟩ (by
  rintro r ⟨f,x⟩ hr ⟨hx,hf⟩;dsimp only at hx hf;subst hx;obtain⟨f',e1,e2⟩:=ZsT hc hl hv hf (by omega);simp only[ZB.s1];rw[Zo (by omega),e1,obs,Zw (by omega)];exact⟨_,rfl,rfl,e2⟩) (by
  rintro⟨f,x⟩ ⟨hx,hf⟩;dsimp only at hx hf;subst hx;simp only[ZB.s1];rw[Zq (by omega)];exact⟨_,rfl,hf⟩)
 refine⟨far,?_,e2.lf,λa ha=>?_⟩
 .unfold ZB;rw[Zf (by omega),itn,ZsS hl,obs,Zf (by simp;omega),itn,e1,obs]
 .by_cases c:∃n,Rch l v n a
  .obtain⟨n,hn⟩:=c;obtain⟨m,_,hm⟩:=hn.dist;have:=hm.lt hc hv;exact .inr ⟨m,e2.al a m hm (by omega),hm⟩
  .left;refine⟨?_,λn hn=>c ⟨n,hn⟩⟩;rcases e2.so a ha with e|⟨n,e,d,_⟩
   .exact e
   .exact absurd ⟨n,d.1⟩ c
end Mu
/- Layer 13:paths. -/
namespace Mu

end Mu
/- Layer 13:there and back. -/
namespace Mu
end Mu
/- Layer 13:join's paths. -/
namespace Mu
end Mu
/- Layer 13:join's parts. -/
namespace Mu
noncomputable def rb(l:List Za)(v w:Nat):Bool:=@decide (∃n,Rch l v n w) (Classical.propDecidable _)
theorem Zfj{l:List Za}{v w:Nat}:rb l v w=true↔∃n,Rch l v n w:=by simp[rb]
noncomputable def ZcE(l:List Za)(v k:Nat):List Int:=((List.range k).filter (rb l v)).map λw:Nat=>(w:Int)
noncomputable def Zdw(l:List Za)(v:Nat)(met:List Bool)(k:Nat):List Bool:=(List.range l.length).map λw=>if w<k then gi met w||rb l v w else gi met w
theorem Zbp{l:List Za}{v k:Nat}{met:List Bool}:(Zdw l v met k).length=l.length:=by simp[Zdw]
theorem Zea{l:List Za}{v k w:Nat}{met:List Bool}(h:w<l.length):gi (Zdw l v met k) w=if w<k then gi met w||rb l v w else gi met w:=Zbf h
theorem Zh5{l:List Za}{v:Nat}{met:List Bool}(h:met.length=l.length):Zdw l v met 0=met :=
 ZdE (by rw[Zbp,h]) (λi hi=>by rw[Zbp]at hi;rw[Zea hi,if_neg (by omega)])
theorem ZjS{l:List Za}{v k:Nat}{met:List Bool}(hk:k<l.length)(h:rb l v k=true):(Zdw l v met k).set k true=Zdw l v met (k+1):=by
 apply ZdE (by rw[List.length_set,Zbp,Zbp]);intro i hi;rw[List.length_set,Zbp]at hi;rw[Zb1 (by rw[Zbp];exact hk),Zea hi,Zea hi];by_cases c:i=k
 .subst c;rw[if_pos rfl,if_pos (by omega),h];simp
 .rw[if_neg c];by_cases c2:i<k
  .rw[if_pos c2,if_pos (by omega)]
  .rw[if_neg c2,if_neg (by omega)]
theorem Zit{l:List Za}{v k:Nat}{met:List Bool}(h:rb l v k=false):Zdw l v met k=Zdw l v met (k+1):=by
 apply ZdE (by rw[Zbp,Zbp]);intro i hi;rw[Zbp]at hi;rw[Zea hi,Zea hi];by_cases c:i=k
 .subst c;rw[if_neg (by omega),if_pos (by omega),h];simp
 .by_cases c2:i<k
  .rw[if_pos c2,if_pos (by omega)]
  .rw[if_neg c2,if_neg (by omega)]
theorem Ziv{l:List Za}{v k:Nat}(h:rb l v k=true):ZcE l v (k+1)=ZcE l v k++[(k:Int)]:=by
 unfold ZcE;rw[List.range_succ,List.filter_append];simp[h]
theorem ZhA{l:List Za}{v k:Nat}(h:rb l v k=false):ZcE l v (k+1)=ZcE l v k:=by
 unfold ZcE;rw[List.range_succ,List.filter_append];simp[h]
theorem Zf7{l:List Za}{v k:Nat}:(ZcE l v k).length<=k:=by
 unfold ZcE;rw[List.length_map];have:=List.length_filter_le (rb l v) (List.range k);simpa using this
theorem Zo8{l:List Za}(hl:l.length<=1300){v:Nat}{fr dr:List Int}{met:List Bool}(hm:met.length=l.length)(sp:Spr l v fr dr)(hc:Ck l)(hv:v<l.length):Zn (Zap.s1 l v dr) big (met,[],0)=some (Zdw l v met l.length,ZcE l v l.length):=by
 have ld:=sp.ld;refine Zaj (λk:Nat=>(Zdw l v met k,ZcE l v k,(k:Int))) (n:=l.length) (zy (by omega)) (by rw[Zh5 hm];rfl) (λk hk=>?_) ?_
 .have hp:=Zf7 (l:=l) (v:=v) (k:=k);have hmt:=Zbp (l:=l) (v:=v) (k:=k) (met:=met);have t:(if decide ((k:Int)=(v:Int))=true then some true else ck ((0:Int)<=(k:Int)/\(k:Int)<(dr.length:Int)) (some (decide (0<=(gi dr (k:Int).toNat)))))=some (rb l v k):=by
   by_cases c:k=v
   .subst c;rw[Zo rfl,(Zfj).2 ⟨0,.zero⟩]
   .rw[Zq (by omega),Zf (by omega),itn]
    cases h:rb l v k with
    |true=>
     obtain⟨n,hn⟩:=Zfj.1 h;obtain⟨m,_,hd⟩:=hn.dist;obtain⟨p,d,_,_,e2,_⟩:=sp.fm k m hd c;rw[Zct (by omega)]
    |false=>
     have:=sp.un k hk (λn hn=>by rw[Zfj.2 ⟨n,hn⟩]at h;cases h);rw[Zdh (by omega)]
  simp only[Zap.s1];rw[Zo (by omega),t,obs,Zw (by omega)]
  cases h:rb l v k with
  |true=>
   rw[if_pos rfl,Zf (by omega),Zf (by simp;omega),itn,ZjS hk h,Ziv h,show((k+1:Nat):Int)=(k:Int)+1 by omega]
  |false=>
   rw[if_neg (by decide),Zw (by omega),Zit h,ZhA h,show((k+1:Nat):Int)=(k:Int)+1 by omega]
 .simp only[Zap.s1];rw[Zq (by omega)]
noncomputable def PS(l:List Za):Nat->List (List Int)×List Bool
 |0=>([],List.replicate l.length false)
 |n+1=>if gi (PS l n).2 n=true then PS l n else((PS l n).1++[ZcE l n l.length],Zdw l n (PS l n).2 l.length)
theorem Zko{l:List Za}:∀n,(PS l n).1.length<=n/\(PS l n).2.length=l.length
 |0=>by simp[PS]
 |n+1=>by
  have:=Zko (l:=l) n;simp only[PS];split
  .exact⟨by omega,this.2⟩
  .exact⟨by simp;omega,Zbp⟩
theorem ZkA{l:List Za}(hc:Ck l)(hl:l.length<=1300):Zap l=some ((PS l l.length).1,0):=by
 have hk:ZdR l=0:=Zcf.2 ⟨by omega,hc⟩;have h:Zn (Zap.s0 l) big (([]:List (List Int)),List.replicate l.length false,0)=some (PS l l.length).1:=by
  refine Zaj (λn:Nat=>((PS l n).1,(PS l n).2,(n:Int))) (n:=l.length) (zy (by omega)) rfl (λn hn=>?_) ?_
  .have hp:=Zko (l:=l) n;simp only[Zap.s0];rw[Zo (by omega),Zf (by omega),itn,Zw (by omega)];by_cases c:gi (PS l n).2 n=true
   .rw[if_pos c,show PS l (n+1)=PS l n by rw[PS,if_pos c],show((n+1:Nat):Int)=(n:Int)+1 by omega]
   .obtain⟨fr,dr,e1,sp⟩:=ZoN hc hl hn;rw[if_neg c,e1,obs];dsimp only;rw[Zo8 hl hp.2 sp hc hn,obs];dsimp only;rw[Zf (by omega),Zw (by omega),show PS l (n+1)=((PS l n).1++[ZcE l n l.length],Zdw l n (PS l n).2 l.length) by rw[PS,if_neg c],show((n+1:Nat):Int)=(n:Int)+1 by omega]
  .simp only[Zap.s0];rw[Zq (by omega)]
 unfold Zap;rw[Zh4 (by omega),obs,hk,Zb2 rfl,Zf (by omega),itn,h,obs]
end Mu
/- Layer 13:the document's parts,and the law. -/
namespace Mu
theorem Zpf{l:List Za}(hl:l.length<=1300){v:Nat}{far:List Int}{met:List Bool}(hm:met.length=l.length)(lf:far.length=l.length)(hf:∀a,a<l.length->Zpx l v a (gi far a)):Zn (zj.s1 l far) big (met,[],0)=some (Zdw l v met l.length,ZcE l v l.length):=by
 refine Zaj (λk:Nat=>(Zdw l v met k,ZcE l v k,(k:Int))) (n:=l.length) (zy (by omega)) (by rw[Zh5 hm];rfl) (λk hk=>?_) ?_
 .have hp:=Zf7 (l:=l) (v:=v) (k:=k);have hmt:=Zbp (l:=l) (v:=v) (k:=k) (met:=met);have t:decide (0<=gi far k)=rb l v k:=by
   rcases hf k hk with⟨e,h⟩|⟨n,e,h⟩
   .have:rb l v k=false:=by
     cases q:rb l v k with
     |false=>rfl
     |true=>
      obtain⟨n,hn⟩:=Zfj.1 q;exact absurd hn (h n)
    rw[this,Zdh (by omega)]
   .rw[Zfj.2 ⟨n,h.1⟩,Zct (by omega)]
  simp only[zj.s1];rw[Zo (by omega),Zf (by omega),itn,t]
  cases h:rb l v k with
  |true=>
   rw[if_pos rfl,Zf (by omega),Zf (by simp;omega),Zw (by omega),ZjS hk h,Ziv h,show((k+1:Nat):Int)=(k:Int)+1 by omega]
  |false=>
   rw[if_neg (by decide),Zw (by omega),Zit h,ZhA h,show((k+1:Nat):Int)=(k:Int)+1 by omega]
 .simp only[zj.s1];rw[Zq (by omega)]
theorem Zru{l:List Za}(hc:Ck l)(hl:l.length<=1300):zj l=some (PS l l.length).1:=by
 have h:Zn (zj.s0 l) big (List.replicate l.length false,([]:List (List Int)),0)=some (PS l l.length).1:=by
  refine Zaj (λn:Nat=>((PS l n).2,(PS l n).1,(n:Int))) (n:=l.length) (zy (by omega)) rfl (λn hn=>?_) ?_
  .have hp:=Zko (l:=l) n;simp only[zj.s0];rw[Zo (by omega),Zf (by omega),itn];by_cases c:gi (PS l n).2 n=true
   .rw[if_pos c,Zw (by omega),show PS l (n+1)=PS l n by rw[PS,if_pos c],show((n+1:Nat):Int)=(n:Int)+1 by omega]
   .obtain⟨far,e1,lf,hf⟩:=Zu8 hc (by omega) hn;rw[if_neg c,e1,obs,Zpf hl hp.2 lf hf,obs];dsimp only;rw[Zf (by omega),Zw (by omega),show PS l (n+1)=((PS l n).1++[ZcE l n l.length],Zdw l n (PS l n).2 l.length) by rw[PS,if_neg c],show((n+1:Nat):Int)=(n:Int)+1 by omega]
  .simp only[zj.s0];rw[Zq (by omega)]
 unfold zj;rw[Zf (by omega),itn,h,obs]
theorem ZqW{l:List Za}(hc:Ck l)(hl:l.length<=1300):ZcI l=some (decide (((PS l l.length).1.length:Int)=1)):=by
 unfold ZcI;rw[ZkA hc hl,obs];simp
end Mu
/- Layer 10:GridPlays. -/
namespace Mu
end Mu
/- Layer 10:turned cells;what Split and Of answer. -/
namespace Mu
def tc(c:Za):Za:=⟨⟨c.Next.d,c.Next.a,c.Next.b,c.Next.c⟩,⟨c.Owner.d,c.Owner.a,c.Owner.b,c.Owner.c⟩⟩
end Mu
/- Layer 13:JoinTurns. -/
namespace Mu
/-! the split edge -/
def ext(v u:Int)(p:List Int):List Int:=if v∈p then p++[u]else p
theorem Zmm{l:List Za}:∀n,n<=l.length->∀u,u<n->gi (PS l n).2 u=true
 |0,_,u,hu=>by omega
 | n+1,hn,u,hu=>by
  have ih:=Zmm (l:=l) n (by omega);simp only[PS];by_cases c:gi (PS l n).2 n=true
  .rw[if_pos c];by_cases q:u=n
   .subst q;exact c
   .exact ih u (by omega)
  .rw[if_neg c];dsimp only;rw[Zea (show u<l.length by omega),if_pos (show u<l.length by omega)];by_cases q:u=n
   .subst q;rw[Zfj.2 ⟨0,.zero⟩];simp
   .rw[ih u (by omega)];rfl
theorem Zk9{s:List Int}{v:Int}(hs:s.length<=1000000):Zbj s v=some (decide (v∈s)):=by
 have h:Zn (Zay.s0 s v) big 0=some (match(List.range s.length).find? (λi=>decide (v=gi s i))with|some i=>.inr (i:Int)|none=>.inl ()):=by
  refine Zc3 (n:=s.length) (P:=λi=>decide (v=gi s i)) (f:=λi=>(i:Int)) (zy (by omega)) (λi hi=>?_) ?_
  .simp only[Zay.s0];rw[Zo (by omega),Zf (by omega),itn,Zw (by omega)];by_cases c:v=gi s i
   .rw[Zo c,Zo c]
   .rw[Zq c,Zq c]
  .simp only[Zay.s0];rw[Zq (by omega)]
 unfold Zbj Zay;rw[h,obs]
 cases hf:(List.range s.length).find? (λi=>decide (v=gi s i))with
 |none=>
  rw[List.find?_range_eq_none]at hf;rw[Zdh (c:=v∈s)]
  .rfl
  .intro hm;obtain⟨i,hi,e⟩:=List.mem_iff_getElem.1 hm;have:=hf i hi;rw[zO hi]at this;simp[e]at this
 |some i=>
  rw[List.find?_range_eq_some]at hf;obtain⟨h1,h2,_⟩:=hf;have hi:i<s.length:=by simpa using h2
  have e:v=gi s i:=by simpa using h1
  rw[Zct (c:=v∈s) (by rw[e];exact zh hi)];dsimp only;rw[obs,Zct (by omega)]
end Mu
/- Layers 12 and 14:turns of faces,rotations,the outer face. -/
namespace Mu
def tn(d e:Nat):Int:=if e=d then 0 else if e=(d+1)%4 then 1 else if e=(d+3)%4 then -1 else -2
theorem Ztc{d e:Nat}(hd:d<4)(he:e<4):Zcv d e=some (tn d e):=by
 have a:d=0\/d=1\/d=2\/d=3:=by omega
 have b:e=0\/e=1\/e=2\/e=3:=by omega
 rcases a with rfl|rfl|rfl|rfl<;>rcases b with rfl|rfl|rfl|rfl<;>rfl
theorem Zty{d e:Nat}(hd:d<4)(he:e<4):ZbD d e=some (tn d e):=by
 have a:d=0\/d=1\/d=2\/d=3:=by omega
 have b:e=0\/e=1\/e=2\/e=3:=by omega
 rcases a with rfl|rfl|rfl|rfl<;>rcases b with rfl|rfl|rfl|rfl<;>rfl
theorem ZhN{d e:Nat}:-2<=tn d e/\tn d e<=1:=by unfold tn;split<;>(try split)<;>(try split)<;>omega
def tns(l:List Za)(f:List Da):List Int:=f.map λp=>tn p.2 (bh l p).2
theorem ZaR{α β:Type}[Inhabited α][Inhabited β]{f:α->β}{l:List α}{i:Nat}(h:i<l.length):gi (l.map f) i=f (gi l i):=by
 rw[zO (by simpa using h),zO h,List.getElem_map]
theorem Zd9{l:List Za}{f:List Da}:(tns l f).length=f.length:=by simp[tns]
theorem Zjw{l:List Za}{f:List Da}:∀i,-2<=gi (tns l f) i/\gi (tns l f) i<=1:=by
 intro i;by_cases h:i<f.length
 .unfold tns;rw[ZaR h];exact ZhN
 .rw[ZeN (by rw[Zd9];omega)];decide
theorem ZqV{l:List Za}(hl:l.length<=4096)(h:ZdR l=0){f:List Da}(hf:∀p∈f,isD l p)(hn:f.length<=1000000):Zbr l (f.map dt)=some (tns l f):=by
 have hc:=(Zcf.1 h).2;have fl:(f.map dt).length=f.length:=by simp
 unfold Zbr;rw[Zf (by rw[fl];omega),Zh4 (by omega),obs,Zb2 h];have:∃r,Zn (Zbr.s0 l (f.map dt)) big (List.replicate (((f.map dt).length:Int)).toNat (0:Int),0)=some r/\r=tns l f:=by
  refine ZbA (λ(k:Nat)(s:List Int×Int)=>(s.1.length=f.length/\∀i,i<k->gi s.1 i=gi (tns l f) i)/\s.2=k) (n:=f.length) (zy (by omega)) ⟨⟨by simp,λi hi=>by omega⟩,rfl⟩ ?_ ?_
  .rintro k ⟨r,j⟩ hk ⟨⟨h1,h2⟩,h3⟩;dsimp only at h1 h2 h3⊢;subst h3;have hp:=hf _ (zh hk);have g:gi (f.map dt) k=dt (gi f k):=ZaR hk;simp only[Zbr.s0,itn,g];have tt:Zcv (dt (gi f k)).Dir (dt (bh l (gi f k))).Dir=some (tn (gi f k).2 (bh l (gi f k)).2):=Ztc hp.2.1 (hp.bh hc).2.1;rw[Zo (by rw[fl];omega),Zf (by rw[fl];omega),ZsW,obs,Zct hp,if_pos rfl,Zll hc hp,obs,tt,obs,Zf (by omega),Zw (by omega)];refine⟨_,rfl,⟨by dsimp only;rw[List.length_set];exact h1,λi hi=>?_⟩,by dsimp only;omega⟩;dsimp only;rw[Zb1 (by omega)];by_cases c:i=k
   .subst c;rw[if_pos rfl];unfold tns;rw[ZaR hk]
   .rw[if_neg c];exact h2 i (by omega)
  .rintro⟨r,j⟩ ⟨⟨h1,h2⟩,h3⟩;dsimp only at h1 h2 h3⊢;subst h3;simp only[Zbr.s0];rw[Zq (by rw[fl];omega)];exact⟨_,rfl,ZdE (by rw[h1,Zd9]) λi hi=>h2 i (by omega)⟩
 obtain⟨r,e1,e2⟩:=this;rw[e1,obs,e2]
theorem Zrv{l:List Za}(hl:l.length<=4096)(h:ZdR l=0){f:List Da}(hf:∀p∈f,isD l p)(hn:f.length<=1000000):Zan l (f.map rt)=some (tns l f):=by
 have hc:=(Zcf.1 h).2;have fl:(f.map rt).length=f.length:=by simp
 unfold Zan;rw[ZgA (x:=tns l f)];refine Zaj (λn:Nat=>((tns l f).take n,(n:Int))) (n:=f.length) (zy (by omega)) rfl (λk hk=>?_) ?_
 .have hp:=hf _ (zh hk);have g:gi (f.map rt) k=rt (gi f k):=ZaR hk;simp only[Zan.s0,itn,g];have tt:ZbD (rt (gi f k)).Dir (rt (bh l (gi f k))).Dir=some (tn (gi f k).2 (bh l (gi f k)).2):=Zty hp.2.1 (hp.bh hc).2.1;rw[Zo (by rw[fl];omega),Zf (by rw[fl];omega),Zl1 hc hp,obs,tt,obs,Zf (by simp;omega),Zw (by omega),Zc9 (by rw[Zd9];exact hk),show((k+1:Nat):Int)=(k:Int)+1 by omega];congr 3;unfold tns;rw[ZaR hk]
 .simp only[Zan.s0];rw[Zq (by rw[fl];omega),List.take_of_length_le (by rw[Zd9];omega)]
theorem Zgn{t:List Int}{n:Nat}(h:n<t.length):(t.take (n+1)).sum=(t.take n).sum+gi t n:=by
 rw[Zc9 h,List.sum_append];simp
theorem Zju{t:List Int}(h:∀i,-2<=gi t i/\gi t i<=1):∀n,n<=t.length->-2*(n:Int)<=(t.take n).sum/\(t.take n).sum<=n
 |0,_=>by simp
 |n+1,hn=>by
  have ih:=Zju h n (by omega);have:=h n;rw[Zgn (by omega)];omega
theorem ZlU{t:List Int}(h:∀i,-2<=gi t i/\gi t i<=1)(hn:t.length<=1000000):ZaK t=some t.sum:=by
 unfold ZaK;rw[ZgA (x:=t.sum)];refine Zaj (λn:Nat=>((t.take n).sum,(n:Int))) (n:=t.length) (zy (by omega)) rfl (λk hk=>?_) ?_
 .have a:=Zju h k (by omega);have b:=h k;simp only[ZaK.s0,itn];rw[Zo (by omega),Zf (by omega),if_pos (by simp;omega),Zw (by omega),Zw (by omega),Zgn hk,show((k+1:Nat):Int)=(k:Int)+1 by omega]
 .simp only[ZaK.s0];rw[Zq (by omega),List.take_length]
theorem Zmb{t:List Int}(h:∀i,-2<=gi t i/\gi t i<=1)(hn:t.length<=1000000):zT t=some t.sum:=by
 unfold zT;rw[ZgA (x:=t.sum)];refine Zaj (λn:Nat=>((t.take n).sum,(n:Int))) (n:=t.length) (zy (by omega)) rfl (λk hk=>?_) ?_
 .have a:=Zju h k (by omega);have b:=h k;simp only[zT.s0,itn];rw[Zo (by omega),Zf (by omega),if_pos (by simp;omega),Zw (by omega),Zw (by omega),Zgn hk,show((k+1:Nat):Int)=(k:Int)+1 by omega]
 .simp only[zT.s0];rw[Zq (by omega),List.take_length]
def ZW(l:List Za)(f:List Da):Int:=(tns l f).sum
theorem Zds{l:List Za}(hc:Ck l):(∀f∈faces l,∀p∈f,isD l p)/\(faces l).length<=4*l.length/\(∀f∈faces l,f.length<=4*l.length)/\(faces l).flatten.Nodup/\∀p∈(faces l).flatten,isD l p:=by
 have h:=ZfI hc l.length (by omega);have hm:=h.m.len;have hf:=h.fl;refine⟨h.is,by have:=h.len;unfold faces;omega,λf hf'=>?_,by unfold faces;rw[hf];exact h.m.nd,λp hp=>by unfold faces at hp;rw[hf]at hp;exact h.m.is p hp⟩;have:(f).Sublist (faces l).flatten:=List.sublist_flatten_of_mem hf';have:=this.length_le;unfold faces at this;rw[hf]at this;omega
def Zdx:List Int->Int->Int->Option Int
 |[],_,a=>some a
 |r::R,i,a=>if r=4 then Zdx R (i+1) a else if r=-4 then(if 0<=a then none else Zdx R (i+1) i)else none
def Zfh(l:List Za):Option Int:=Zdx ((faces l).map (ZW l)) 0 (-1)
theorem Zh9{F:Int×Int->Option ((Int×Int)⊕(Int⊕Unit))}{R:List Int}(hR:R.length<=1000000)(h:∀(i:Nat)(a:Int),i<R.length->F (a,(i:Int))=some (if gi R i=4 then .inl (a,(i:Int)+1)else if gi R i=-4 then(if 0<=a then .inr (.inr ())else .inl ((i:Int),(i:Int)+1))else .inr (.inr ())))(he:∀a,F (a,(R.length:Int))=some (.inr (.inl a))):Zn F big (-1,0)=some (match Zdx R 0 (-1)with|some a=>.inl a|none=>.inr ()):=by
 have key:∀(m n:Nat)(a:Int),n+m=R.length->Zn F (m+1) (a,(n:Int))=some (match Zdx (R.drop n) n a with|some a=>.inl a|none=>.inr ()):=by
  intro m
  induction m with
  |zero=>
   intro n a hn;have:n=R.length:=by omega
   subst this;rw[Zn,he,List.drop_length];rfl
  | succ m ih=>
   intro n a hn;have hlt:n<R.length:=by omega
   have d:R.drop n=gi R n::R.drop (n+1):=by rw[zO hlt];exact List.drop_eq_getElem_cons hlt
   rw[Zn,h n a hlt,d,Zdx];by_cases c1:gi R n=4
   .rw[if_pos c1,if_pos c1];dsimp only;have:=ih (n+1) a (by omega);rw[show((n+1:Nat):Int)=(n:Int)+1 by omega]at this;exact this
   .rw[if_neg c1,if_neg c1];by_cases c2:gi R n=-4
    .rw[if_pos c2,if_pos c2];by_cases c3:0<=a
     .rw[if_pos c3,if_pos c3]
     .rw[if_neg c3,if_neg c3];dsimp only;have:=ih (n+1) n (by omega);rw[show((n+1:Nat):Int)=(n:Int)+1 by omega]at this;exact this
    .rw[if_neg c2,if_neg c2]
 have:=key R.length 0 (-1) (by omega);rw[List.drop_zero]at this;exact ZcT this (by unfold big;omega)
theorem ZoJ{l:List Za}(hl:l.length<=4096)(h:ZdR l=0):Zba l=some (match Zfh l with|some a=>(a,decide (0<=a))|none=>(0,false)):=by
 have hc:=(Zcf.1 h).2;obtain⟨o1,o2,o3,_⟩:=Zds hc;have L:Zn (Zba.s0 l ((faces l).map (List.map dt))) big (-1,0)=some (match Zfh l with|some a=>.inl a|none=>.inr ()):=by
  refine Zh9 (R:=(faces l).map (ZW l)) (by simp;omega) (λi a hi=>?_) λa=>?_
  .have hi':i<(faces l).length:=by simpa using hi
   have hm:=zh hi';have fl:=o3 _ hm;simp only[Zba.s0,itn];rw[Zo (by simp;omega),Zf (by simp;omega),ZaR hi',ZqV hl h (o1 _ hm) (by omega),obs,ZlU Zjw (by rw[Zd9];omega),obs,ZaR hi'];show(if decide (ZW l (gi (faces l) i)=4)=true then _ else _)=_;by_cases c1:ZW l (gi (faces l) i)=4
   .rw[Zo c1,if_pos c1,Zw (by omega)]
   .rw[Zq c1,if_neg c1];show(if decide (ZW l (gi (faces l) i)=-4)=true then _ else _)=_;by_cases c2:ZW l (gi (faces l) i)=-4
    .rw[Zo c2,if_pos c2];by_cases c3:0<=a
     .rw[Zo c3,if_pos c3]
     .rw[Zq c3,if_neg c3,Zw (by omega)]
    .rw[Zq c2,if_neg c2]
  .simp only[Zba.s0];rw[Zq (by simp)]
 unfold Zba;rw[ZqM hl h,obs];dsimp only;rw[L,obs];cases Zfh l<;>rfl
theorem Zpc{l:List Za}(hl:l.length<=4096)(h:ZdR l=0):Zn (Zad.s0 l ((faces l).map (List.map rt))) big (-1,0)=some (match Zfh l with|some a=>.inl a|none=>.inr ()):=by
 have hc:=(Zcf.1 h).2;obtain⟨o1,o2,o3,_⟩:=Zds hc;refine Zh9 (R:=(faces l).map (ZW l)) (by simp;omega) (λi a hi=>?_) λa=>?_
 .have hi':i<(faces l).length:=by simpa using hi
  have hm:=zh hi';have fl:=o3 _ hm;simp only[Zad.s0,itn];rw[Zo (by simp;omega),Zf (by simp;omega),ZaR hi',Zrv hl h (o1 _ hm) (by omega),obs,Zmb Zjw (by rw[Zd9];omega),obs,ZaR hi'];show(if(((!(decide (ZW l (gi (faces l) i)=4)))&&(!(decide (ZW l (gi (faces l) i)=(-4)))))||((decide (ZW l (gi (faces l) i)=(-4)))&&(decide (0<=a))))=true then _ else(if decide (ZW l (gi (faces l) i)=(-4))=true then _ else _))=_;by_cases c1:ZW l (gi (faces l) i)=4
  .have c2:¬ZW l (gi (faces l) i)=-4:=by omega
   rw[Zct c1,Zdh c2,if_pos c1,if_neg (by simp),if_neg (by decide),Zw (by omega)]
  .rw[Zdh c1,if_neg c1];by_cases c2:ZW l (gi (faces l) i)=-4
   .rw[Zct c2,if_pos c2];by_cases c3:0<=a
    .rw[Zct c3,if_pos c3,if_pos (by decide)]
    .rw[Zdh c3,if_neg c3,if_neg (by decide),if_pos rfl,Zw (by omega)]
   .rw[Zdh c2,if_neg c2,if_pos (by simp)]
 .simp only[Zad.s0];rw[Zq (by simp)]
theorem Zfx:∀{R:List Int}{i a b:Int},Zdx R i a=some b->-1<=a->0<=i->(b=a\/(i<=b/\b<i+R.length))
 |[],i,a,b,h,_,_=>by
  simp only[Zdx,Option.some.injEq]at h;exact .inl h.symm
 | r::R,i,a,b,h,ha,hi=>by
  rw[Zdx]at h;split at h
  .rcases Zfx h ha (by omega)with q|q
   .exact .inl q
   .refine .inr ?_;rw[List.length_cons];omega
  .split at h
   .split at h
    .cases h
    .rcases Zfx h (by omega) (by omega)with q|q
     .refine .inr ?_;rw[List.length_cons];omega
     .refine .inr ?_;rw[List.length_cons];omega
   .cases h
def whole(l:List Za):Prop:=((PS l l.length).1.length:Int)=1
noncomputable instance{l:List Za}:Decidable (whole l):=by unfold whole;infer_instance
noncomputable def Zc2(l:List Za):Int :=
 if ZdR l=0 then(if whole l then(if l.length=1 then 0 else match Zfh l with|some a=>if 0<=a then 0 else 10|none=>10)else 13)else ZdR l
def ZeY(l:List Za):Int:=if l.length=1 then -1 else match Zfh l with|some a=>a|none=>-1
theorem Ze8{l:List Za}(h:whole l):0<l.length:=by
 cases l with
 |nil=>unfold whole at h;simp[PS]at h
 |cons a l=>simp
theorem ZlN{l:List Za}(hc:Ck l)(h:l.length=1):faces l=[]:=by
 obtain⟨o1,o2,o3,o4,o5⟩:=Zds hc;have no:∀p,¬isD l p:=by
  intro p hp;have f:=hp.fwd hc;rcases hc.s p.1 p.2 hp.1 hp.2.1 with⟨a,_⟩|⟨w,a,b,c,_⟩
  .have:=hp.2.2;omega
  .have:=hp.1;omega
 have:(faces l).flatten=[]:=by
  cases q:(faces l).flatten with
  |nil=>rfl
  |cons a t=>exact absurd (o5 a (by rw[q];simp)) (no a)
 have len:=(ZfI hc l.length (by omega)).len;have fl:=(ZfI hc l.length (by omega)).fl;unfold faces at this⊢;rw[fl]at this;rw[this]at len;exact List.length_eq_zero_iff.1 (by simpa using len)
theorem Zlp{l:List Za}(hl:l.length<=1300):Zc5 l=some (Zc2 l):=by
 unfold Zc5 Zc2;rw[Zh4 (by omega),obs];by_cases h:ZdR l=0
 .have hc:=(Zcf.1 h).2;rw[Zb2 h,if_pos h,ZqW hc hl,obs];by_cases w:whole l
  .have hp:=Ze8 w;rw[if_pos w,Zct (show((PS l l.length).1.length:Int)=1 from w),if_neg (by decide),ZoJ (by omega) h,obs];by_cases c:l.length=1
   .rw[if_pos c];have:Zfh l=some (-1):=by unfold Zfh;rw[ZlN hc c];rfl
    rw[this];dsimp only;rw[if_neg (by simp;omega)]
   .rw[if_neg c]
    cases Zfh l with
    |none=>dsimp only;rw[if_pos (by simp;omega)]
    |some a=>
     dsimp only;by_cases q:0<=a
     .rw[if_pos q,if_neg (by simp;omega)]
     .rw[if_neg q,if_pos (by simp;omega)]
  .rw[if_neg w,Zdh (show¬((PS l l.length).1.length:Int)=1 from w),if_pos (by decide)]
 .rw[Zcc h,if_neg h]
theorem Zrt{l:List Za}(hl:l.length<=1300):Zad l=some (if Zc2 l=0 then ZeY l else -1,Zc2 l):=by
 unfold Zad;rw[Zrp (by omega),obs];by_cases h:ZdR l=0
 .have hc:=(Zcf.1 h).2;rw[Zb2 h,Zru hc hl,obs];by_cases w:whole l
  .rw [Zb2 (show((PS l l.length).1.length:Int)=1 from w)];by_cases c:l.length=1
   .rw[Zo (by omega)];have e:Zc2 l=0:=by unfold Zc2;rw[if_pos h,if_pos w,if_pos c]
    rw[e,if_pos rfl];unfold ZeY;rw[if_pos c]
   .rw[Zq (by omega),Zrq (by omega) h,obs,Zpc (by omega) h,obs]
    cases q:Zfh l with
    |none=>
     have e:Zc2 l=10:=by unfold Zc2;rw[if_pos h,if_pos w,if_neg c,q]
     rw[e];rfl
    | some a=>
     dsimp only;by_cases k:0<=a
     .have e:Zc2 l=0:=by unfold Zc2;rw[if_pos h,if_pos w,if_neg c,q];dsimp only;rw[if_pos k]
      have v:ZeY l=a:=by unfold ZeY;rw[if_neg c,q]
      rw[Zq (by omega),e,v,if_pos rfl]
     .have e:Zc2 l=10:=by unfold Zc2;rw[if_pos h,if_pos w,if_neg c,q];dsimp only;rw[if_neg k]
      rw[Zo (by omega),e];rfl
  .rw[Zcc (show¬((PS l l.length).1.length:Int)=1 from w)];have e:Zc2 l=13:=by unfold Zc2;rw[if_pos h,if_neg w]
   rw[e,if_neg (by decide)]
 .have e:Zc2 l=ZdR l:=by unfold Zc2;rw[if_neg h]
  rw[Zcc h,e,if_neg h]
theorem ZdA{l:List Za}(h:Zc2 l=0):ZdR l=0/\whole l/\(l.length≠1->∃a,Zfh l=some a/\0<=a):=by
 unfold Zc2 at h;by_cases c:ZdR l=0
 .rw[if_pos c]at h;by_cases w:whole l
  .rw[if_pos w]at h;refine⟨c,w,λh1=>?_⟩;rw[if_neg h1]at h
   cases q:Zfh l with
   |none=>rw[q]at h;exact absurd h (by decide)
   |some a=>
    rw[q]at h;dsimp only at h;by_cases k:0<=a
    .exact⟨a,rfl,k⟩
    .rw[if_neg k]at h;exact absurd h (by decide)
  .rw[if_neg w]at h;exact absurd h (by decide)
 .rw[if_neg c]at h;exact absurd h c
theorem ZnK{l:List Za}(h:Zc2 l=0)(h1:l.length≠1):0<=ZeY l/\ZeY l<(faces l).length:=by
 obtain⟨_,_,o⟩:=ZdA h;obtain⟨a,q,k⟩:=o h1;unfold ZeY;rw[if_neg h1,q];dsimp only;rcases Zfx q (by decide) (by decide)with z|z
 .omega
 .simp at z;omega
end Mu
/- Layers 8 and 11:shapes that may be written have their cells:all that is worked out of them comes to an end. -/
namespace Mu
structure Ed(n:Nat)(e:Zaf):Prop where
 f:0<=e.From/\e.From<n
 t:0<=e.To/\e.To<n
 d:0<=e.Dir/\e.Dir<4
 b:e.Bends.size<=3
structure Sh(s:zf):Prop where
 b:s.Boxes.length<=8
 e:s.Edges.length<=16
 ed:∀e∈s.Edges,Ed s.Boxes.length e
theorem ZcG{a n:Int}(ha:0<=a)(hn:0<n):0<=a.tmod n/\a.tmod n<n:=by
 rw[Int.tmod_eq_emod_of_nonneg ha];exact⟨Int.emod_nonneg _ (by omega),Int.emod_lt_of_pos _ hn⟩
theorem ZmC{a b:ByteArray}:(a++b).size=a.size+b.size:=by
 exact ByteArray.size_append
theorem Zph{z:Zau}(hb:∀y∈z.Bends,Zf3 y){i:Nat}(hi:i<z.Bends.length){n:Nat}{f t d:Int}(h:Ed n ⟨f,t,d,⟨#[]⟩⟩):∃e,Zn (ZY.s2 z i) big (⟨f,t,d,(⟨#[]⟩:ByteArray)⟩,0)=some e/\Ed n e:=by
 have hx:0<=gi z.Bends i/\gi z.Bends i<=255:=(hb _ (zh hi)).u8;have hm:=ZcG (a:=gi z.Bends i) (n:=4) (by omega) (by omega);refine Za1 (μ:=λs=>(4-s.2).toNat) (I:=λs=>(0<=s.2/\s.2<=3)/\Ed n { s.1 with Bends:=⟨#[]⟩ }/\s.1.Bends.size=s.2.toNat) (by simp[big]) ⟨by dsimp only;omega,h,rfl⟩ ?_;rintro⟨e,k⟩ ⟨h1,h2,h3⟩;dsimp only at h1 h2 h3⊢;simp only[ZY.s2,itn];rw[Zf (by omega),ZfV (by omega)];by_cases c:k<(gi z.Bends i).tmod 4
 .refine .inl ?_;have s1:(⟨#[76]⟩:ByteArray).size=1:=rfl;have s2:(⟨#[82]⟩:ByteArray).size=1:=rfl;rw[Zo c,Zw (by omega),Zf (by omega)];by_cases q:Zb9 .u8 (ZbH .u8 (gi z.Bends i) (2+k)) 1=1
  .rw[Zo q,Zf (by omega),Zw (by omega)];exact⟨_,rfl,⟨by dsimp only;omega,h2,by dsimp only;rw[ZmC];omega⟩,by dsimp only;omega⟩
  .rw[Zq q,Zf (by omega),Zw (by omega)];exact⟨_,rfl,⟨by dsimp only;omega,h2,by dsimp only;rw[ZmC];omega⟩,by dsimp only;omega⟩
 .refine .inr ?_;rw[Zq c];exact⟨_,rfl,h2.f,h2.t,h2.d,by omega⟩
theorem ZqT{z:Zau}(he:∀y∈z.Edges,ZfK y)(hb:∀y∈z.Bends,Zf3 y){most:Int}(hm:0<=most/\most<=8):∃s,ZY z most=some s/\Sh s/\(s.Boxes.length:Int)<=most:=by
 have h0:∃r,Zn (ZY.s0 z most) big (([]:List Bool),0)=some r/\(r.length:Int)<=most:=by
  refine Za1 (μ:=λs=>(most-s.2).toNat) (I:=λs=>(0<=s.2/\s.2<=most)/\(s.1.length:Int)=s.2) (by dsimp only;unfold big;omega) ⟨by dsimp only;omega,rfl⟩ ?_;rintro⟨s,i⟩ ⟨h1,h2⟩;dsimp only at h1 h2⊢;simp only[ZY.s0];by_cases c:i<(z.Boxes.length:Int)/\i<most
  .refine .inl ?_;rw[if_pos (by simp[c]),Zf (by omega),Zf (by simp;omega),Zw (by omega)];exact⟨_,rfl,⟨by dsimp only;omega,by simp;omega⟩,by dsimp only;omega⟩
  .refine .inr ?_;rw[if_neg (by simpa using c)];exact⟨_,rfl,by omega⟩
 obtain⟨B,e1,hB⟩:=h0;have h1:∃r,Zn (ZY.s1 z most B) big (([]:List Zaf),0)=some r/\(r.length<=16/\∀e∈r,Ed B.length e):=by
  refine Za1 (μ:=λs=>(2*most-s.2).toNat) (I:=λs=>(0<=s.2/\s.2<=2*most)/\(s.1.length:Int)=s.2/\∀e∈s.1,Ed B.length e) (by dsimp only;unfold big;omega) ⟨by dsimp only;omega,rfl,by simp⟩ ?_;rintro⟨s,i⟩ ⟨h1,h2,h3⟩;dsimp only at h1 h2 h3⊢;simp only[ZY.s1];have T:(if decide (i<(z.Edges.length:Int))=true then ck (ZJ (2*most)) (some (decide (i<2*most)))else some false)=some (decide (i<(z.Edges.length:Int)/\i<2*most)):=by
   by_cases c:i<(z.Edges.length:Int)
   .rw[Zo c,Zw (by omega)];congr 1;rw[Bool.eq_iff_iff];simp[c]
   .rw[Zq c,Zdh λq=>c q.1]
  rw[T,obs];by_cases c:(i<(z.Edges.length:Int)/\i<2*most)/\0<(B.length:Int)
  .refine .inl ?_;obtain⟨n,rfl⟩:=Int.eq_ofNat_of_zero_le h1.1;have hx:=he _ (zh (l:=z.Edges) (i:=n) (by omega));have x0:0<=(gi z.Edges n).get 0/\(gi z.Edges n).get 0<=255:=hx.1.u8;have x1:0<=(gi z.Edges n).get 1/\(gi z.Edges n).get 1<=255:=hx.2.1.u8;have x2:0<=(gi z.Edges n).get 2/\(gi z.Edges n).get 2<=255:=hx.2.2.u8;have E0:Ed B.length ⟨((gi z.Edges n).get 0).tmod (B.length:Int),((gi z.Edges n).get 1).tmod (B.length:Int),((gi z.Edges n).get 2).tmod 4,(⟨#[]⟩:ByteArray)⟩:=⟨ZcG (by omega) (by omega),ZcG (by omega) (by omega),ZcG (by omega) (by omega),Nat.zero_le _⟩;rw[if_pos (by simp[c];omega),itn,Zf (by omega),ZfV (by omega),Zf (by omega),ZfV (by omega),ZfV (by omega)];by_cases q:(n:Int)<(z.Bends.length:Int)
   .obtain⟨e,l1,l2⟩:=Zph hb (i:=n) (by omega) E0;rw[Zo q,l1,obs,obs,Zf (by simp;omega),Zw (by omega)];refine⟨_,rfl,⟨by dsimp only;omega,by simp;omega,λe' he'=>?_⟩,by dsimp only;omega⟩;rcases List.mem_append.1 he' with k|k
    .exact h3 _ k
    .rw[List.mem_singleton.1 k];exact l2
   .rw[Zq q,obs,Zf (by simp;omega),Zw (by omega)];refine⟨_,rfl,⟨by dsimp only;omega,by simp;omega,λe' he'=>?_⟩,by dsimp only;omega⟩;rcases List.mem_append.1 he' with k|k
    .exact h3 _ k
    .rw[List.mem_singleton.1 k];exact E0
  .refine .inr ?_;rw[if_neg (by simp at c⊢;omega)];exact⟨_,rfl,by omega,h3⟩
 obtain⟨E,e2,hE,hE2⟩:=h1;refine⟨⟨B,E⟩,?_,⟨by dsimp only;omega,hE,hE2⟩,hB⟩;unfold ZY;rw[e1,obs,e2,obs]
theorem Zry{n:Nat}{e:Zaf}(h:Ed n e):∃d,Zaw e=some d/\0<=d/\d<4:=by
 have:∃r,Zn (Zaw.s0 e) big (e.Dir,0)=some r/\(0<=r/\r<4):=by
  refine Za1 (μ:=λs=>((e.Bends.size:Int)-s.2).toNat) (I:=λs=>(0<=s.1/\s.1<4)/\0<=s.2) (by dsimp only;unfold big;have:=h.b;omega) ⟨h.d,by dsimp only;omega⟩ ?_;rintro⟨d,i⟩ ⟨h1,h2⟩;have hb:=h.b;dsimp only at h1 h2⊢;simp only[Zaw.s0];by_cases c:i<(e.Bends.size:Int)
  .refine .inl ?_;rw[Zo c,Zf (by omega)];have a:=ZcG (a:=d+1) (n:=4) (by omega) (by omega);have b:=ZcG (a:=d+3) (n:=4) (by omega) (by omega);by_cases q:sAt e.Bends i.toNat=76
   .rw[Zo q,Zw (by omega),Zw (by omega)];exact⟨_,rfl,⟨a,by dsimp only;omega⟩,by dsimp only;omega⟩
   .rw[Zq q,Zw (by omega),Zw (by omega)];exact⟨_,rfl,⟨b,by dsimp only;omega⟩,by dsimp only;omega⟩
  .refine .inr ?_;rw[Zq c];exact⟨_,rfl,h1⟩
 obtain⟨r,e1,e2⟩:=this;exact⟨r,by unfold Zaw;rw[e1,obs],e2⟩
theorem Zpl{s:zf}(h:Sh s)(v d:Int):∃l,zP s v d=some l/\l.length<=32/\∀x∈l,0<=x/\x<2*(s.Edges.length:Int):=by
 have he:=h.e;have:∃r,Zn (zP.s0 s v d) big (([]:List Int),0)=some r/\(r.length<=32/\∀x∈r,0<=x/\x<2*(s.Edges.length:Int)):=by
  refine Za1 (μ:=λs'=>((s.Edges.length:Int)-s'.2).toNat) (I:=λs'=>(0<=s'.2/\s'.2<=(s.Edges.length:Int))/\(s'.1.length:Int)<=2*s'.2/\∀x∈s'.1,0<=x/\x<2*(s.Edges.length:Int)) (by dsimp only;unfold big;omega) ⟨by dsimp only;omega,by simp,by simp⟩ ?_;rintro⟨l,i⟩ ⟨h1,h2,h3⟩;dsimp only at h1 h2 h3⊢;simp only[zP.s0];by_cases c:i<(s.Edges.length:Int)
  .refine .inl ?_;obtain⟨n,rfl⟩:=Int.eq_ofNat_of_zero_le h1.1;have hx:=h.ed _ (zh (l:=s.Edges) (i:=n) (by omega));obtain⟨q,l1,l2⟩:=Zry hx;have sd:ZbE (gi s.Edges n)=some ((q+2).tmod 4):=by
    unfold ZbE;rw[l1,obs,Zw (by omega)]
   rw[Zo c,Zf (by omega),itn,sd];have A:∃l2,(if(decide ((gi s.Edges n).From=v)&&decide ((gi s.Edges n).Dir=d))=true then ck (ZJ (2*(n:Int))) (ck (l.length+[2*(n:Int)].length<=1000000000) (some (l++[2*(n:Int)])))else some l)=some l2/\l2.length<=2*n+1/\∀x∈l2,0<=x/\x<2*(s.Edges.length:Int):=by
    split
    .rw[Zw (by omega),Zf (by simp;omega)];refine⟨_,rfl,by simp;omega,λx hx=>?_⟩;rcases List.mem_append.1 hx with k|k
     .exact h3 _ k
     .rw[List.mem_singleton.1 k];omega
    .exact⟨_,rfl,by omega,h3⟩
   obtain⟨m,a1,a2,a3⟩:=A;rw[a1,obs,obs];split
   .rw[Zw (by omega),Zw (by omega),Zf (by simp;omega),Zw (by omega)];refine⟨_,rfl,⟨by dsimp only;omega,by simp;omega,λx hx=>?_⟩,by dsimp only;omega⟩;rcases List.mem_append.1 hx with k|k
    .exact a3 _ k
    .rw[List.mem_singleton.1 k];omega
   .rw[Zw (by omega)];exact⟨_,rfl,⟨by dsimp only;omega,by dsimp only;omega,a3⟩,by dsimp only;omega⟩
  .refine .inr ?_;rw[Zq c];exact⟨_,rfl,by omega,h3⟩
 obtain⟨r,e1,e2⟩:=this;exact⟨r,by unfold zP;rw[e1,obs],e2⟩
theorem Zgf{ρ:Type}{F:Int->Option (Int⊕ρ)}{n:Nat}(hn:n<=1000000)(h:∀i:Nat,i<n->F i=some (.inl ((i:Int)+1))\/∃r,F i=some (.inr r))(he:∃r,F n=some (.inr r)):∃r,Zn F big 0=some r:=by
 obtain⟨r,e,_⟩:=Za1 (step:=F) (s0:=0) (μ:=λs=>((n:Int)-s).toNat) (I:=λs=>0<=s/\s<=n) (R:=λ_=>True) (by first|(unfold big;omega)|(dsimp only;unfold big;omega)) (by first|omega|(dsimp only;omega)) (by
  intro s hs;obtain⟨i,rfl⟩:=Int.eq_ofNat_of_zero_le hs.1;by_cases c:i<n
  .rcases h i c with k|⟨r,k⟩
   .exact .inl ⟨_,k,by omega,by omega⟩
   .exact .inr ⟨r,k,trivial⟩
  .have:i=n:=by omega
   subst this;obtain⟨r,k⟩:=he;exact .inr ⟨r,k,trivial⟩)
 exact⟨r,e⟩
theorem Zpm{b:ByteArray}(hb:b.size<=3):∃t,Zac b=some t:=by
 obtain⟨r,e⟩:=Zgf (F:=Zac.s0 b) (n:=b.size) (by omega) (λi hi=>by
  simp only[Zac.s0];rw[Zo (by omega),Zf (by omega)];split
  .exact .inr ⟨_,rfl⟩
  .rw[Zw (by omega)];exact .inl rfl) ⟨_,by simp only[Zac.s0];rw[Zq (by omega)]⟩
 unfold Zac;rw[e,obs];cases r<;>exact⟨_,rfl⟩
theorem Zpj{s:zf}(h:Sh s):∃e,zt s=some e:=by
 have he:=h.e;have hB:=h.b;have h0:∃r,Zn (zt.s0 s) big (0,0)=some r/\True:=by
  refine Za1 (μ:=λs'=>((s.Edges.length:Int)-s'.2).toNat) (I:=λs'=>(0<=s'.2/\s'.2<=(s.Edges.length:Int))/\0<=s'.1/\s'.1<=3*s'.2) (by dsimp only;unfold big;omega) ⟨by dsimp only;omega,by dsimp only;omega⟩ ?_;rintro⟨n,i⟩ ⟨h1,h2⟩;dsimp only at h1 h2⊢;simp only[zt.s0];by_cases c:i<(s.Edges.length:Int)
  .refine .inl ?_;have hx:=(h.ed _ (zh (l:=s.Edges) (i:=i.toNat) (by omega))).b;rw[Zo c,Zf (by omega),Zw (by omega),Zw (by omega)];exact⟨_,rfl,⟨by dsimp only;omega,by dsimp only;omega⟩,by dsimp only;omega⟩
  .refine .inr ?_;rw[Zq c];exact⟨_,rfl,trivial⟩
 obtain⟨n,e1,_⟩:=h0;obtain⟨r,e2⟩:=Zgf (F:=zt.s1 s) (n:=s.Edges.length) (by omega) (λi hi=>by
  have hx:=h.ed _ (zh hi);obtain⟨t,ht⟩:=Zpm hx.b;simp only[zt.s1,itn];rw[Zo (by omega),Zf (by omega)];split
  .exact .inr ⟨_,rfl⟩
  .rw[ht,obs];split
   .exact .inr ⟨_,rfl⟩
   .rw[Zw (by omega)];exact .inl rfl) ⟨_,by simp only[zt.s1];rw[Zq (by omega)]⟩
 unfold zt;rw[e1,obs];split
 .exact⟨_,rfl⟩
 .rw[e2,obs];cases r<;>exact⟨_,rfl⟩
theorem Zpk{s:zf}(h:Sh s):∃n,ZV s=some n:=by
 have he:=h.e;have hB:=h.b;have h1:∀(v:Nat)(m:Int),v<s.Boxes.length->0<=m->m<=1000000->∃r,Zn (ZV.s1 s v) big (m,0)=some r/\(0<=r/\r<=m+128):=by
  intro v m hv m0 m1;refine Za1 (μ:=λs'=>(4-s'.2).toNat) (I:=λs'=>(0<=s'.2/\s'.2<=4)/\0<=s'.1/\s'.1<=m+32*s'.2) (by dsimp only;unfold big;omega) ⟨by dsimp only;omega,by dsimp only;omega⟩ ?_;rintro⟨n,i⟩ ⟨h1,h2⟩;dsimp only at h1 h2⊢;simp only[ZV.s1];by_cases c:i<4
  .rw[Zo c,Zf (by omega),obs];obtain⟨l,l1,l2,_⟩:=Zpl h v i;split
   .refine .inl ?_;rw[l1,obs,Zw (by omega),Zw (by omega)];exact⟨_,rfl,⟨by dsimp only;omega,by dsimp only;omega⟩,by dsimp only;omega⟩
   .exact .inr ⟨_,rfl,by omega⟩
  .refine .inr ?_;rw[Zq c,obs,if_neg (by decide)];exact⟨_,rfl,by omega⟩
 have h0:∃r,Zn (ZV.s0 s) big (0,0)=some r/\(0<=r/\r<=10000):=by
  refine Za1 (μ:=λs'=>((s.Boxes.length:Int)-s'.2).toNat) (I:=λs'=>(0<=s'.2/\s'.2<=(s.Boxes.length:Int))/\0<=s'.1/\s'.1<=200*s'.2) (by dsimp only;unfold big;omega) ⟨by dsimp only;omega,by dsimp only;omega⟩ ?_;rintro⟨n,i⟩ ⟨g1,g2⟩;dsimp only at g1 g2⊢;simp only[ZV.s0];by_cases c:i<(s.Boxes.length:Int)
  .refine .inl ?_;obtain⟨v,rfl⟩:=Int.eq_ofNat_of_zero_le g1.1;obtain⟨r,r1,r2⟩:=h1 v (n+1) (by omega) (by omega) (by omega);rw[Zo c,Zw (by omega),r1,obs,Zf (by omega)];by_cases z:gi s.Boxes ((v:Int)).toNat=true
   .rw[if_pos z,Zw (by omega),Zw (by omega)];exact⟨_,rfl,⟨by dsimp only;omega,by dsimp only;omega⟩,by dsimp only;omega⟩
   .rw[if_neg z,Zw (by omega)];exact⟨_,rfl,⟨by dsimp only;omega,by dsimp only;omega⟩,by dsimp only;omega⟩
  .refine .inr ?_;rw[Zq c];exact⟨_,rfl,by omega⟩
 obtain⟨m,e1,e2⟩:=h0;have h2:∃r,Zn (ZV.s2 s) big (m,0)=some r/\True:=by
  refine Za1 (μ:=λs'=>((s.Edges.length:Int)-s'.2).toNat) (I:=λs'=>(0<=s'.2/\s'.2<=(s.Edges.length:Int))/\0<=s'.1/\s'.1<=10000+3*s'.2) (by dsimp only;unfold big;omega) ⟨by dsimp only;omega,by dsimp only;omega⟩ ?_;rintro⟨n,i⟩ ⟨h1,h2⟩;dsimp only at h1 h2⊢;simp only[ZV.s2];by_cases c:i<(s.Edges.length:Int)
  .refine .inl ?_;have hx:=(h.ed _ (zh (l:=s.Edges) (i:=i.toNat) (by omega))).b;rw[Zo c,Zf (by omega),Zw (by omega),Zw (by omega)];exact⟨_,rfl,⟨by dsimp only;omega,by dsimp only;omega⟩,by dsimp only;omega⟩
  .refine .inr ?_;rw[Zq c];exact⟨_,rfl,trivial⟩
 obtain⟨r,e3,_⟩:=h2;exact⟨r,by unfold ZV;rw[e1,obs,e3,obs]⟩
theorem Zpn{s:zf}(h:Sh s):∃e,ZL s=some e:=by
 have he:=h.e;have hB:=h.b;obtain⟨x,c1⟩:=Zpj h;obtain⟨n,c2⟩:=Zpk h;have w1:∀v:Nat,v<s.Boxes.length->∃r,Zn (ZL.s1 s v) big 0=some r:=by
  intro v hv;refine Zgf (n:=4) (by omega) (λi hi=>?_) ⟨_,by simp only[ZL.s1];rw[Zq (by omega),obs,if_neg (by decide)]⟩;simp only[ZL.s1];rw[Zo (by omega),Zf (by omega),obs];obtain⟨l,l1,l2,_⟩:=Zpl h v i;split
  .rw[l1,obs];split
   .exact .inr ⟨_,rfl⟩
   .rw[Zw (by omega)];exact .inl rfl
  .exact .inr ⟨_,rfl⟩
 obtain⟨r0,w0⟩:=Zgf (F:=ZL.s0 s) (n:=s.Boxes.length) (by omega) (λi hi=>by
  obtain⟨r,w⟩:=w1 i hi;simp only[ZL.s0];rw[Zo (by omega),w,obs]
  cases r with
  |inl _=>dsimp only;rw[Zw (by omega)];exact .inl rfl
  |inr _=>exact .inr ⟨_,rfl⟩) ⟨_,by simp only[ZL.s0];rw[Zq (by omega)]⟩
 obtain⟨r2,w2⟩:=Zgf (F:=ZL.s2 s) (n:=s.Edges.length) (by omega) (λi hi=>by
  have hx:=h.ed _ (zh hi);have hf:=hx.f;simp only[ZL.s2,itn];rw[Zo (by omega),Zf (by omega),Zf (by omega),Zw (by omega)];split
  .rw[obs];split
   .exact .inr ⟨_,rfl⟩
   .exact .inl rfl
  .rw[obs,if_neg (by decide)];exact .inl rfl) ⟨_,by simp only[ZL.s2];rw[Zq (by omega)]⟩
 unfold ZL;rw[c1,obs];split
 .exact⟨_,rfl⟩
 .rw[c2,obs];split
  .exact⟨_,rfl⟩
  .rw[w0,obs]
   cases r0 with
   |inl _=>
    dsimp only;rw[w2,obs];cases r2<;>exact⟨_,rfl⟩
   |inr _=>exact⟨_,rfl⟩
theorem ZmV{α:Type}[Inhabited α]{l r:List α}{i:Nat}:gi (l++r) i=if i<l.length then gi l i else gi r (i-l.length):=by
 by_cases h:i<l.length
 .rw[if_pos h,zO (by rw[List.length_append];omega),zO h,List.getElem_append_left h]
 .rw[if_neg h];by_cases h2:i<(l++r).length
  .rw[zO h2,zO (by rw[List.length_append]at h2;omega),List.getElem_append_right (by omega)]
  .unfold gi;rw[List.length_append]at h2;rw[List.getD_eq_getElem?_getD,List.getD_eq_getElem?_getD,List.getElem?_eq_none (by rw[List.length_append];omega),List.getElem?_eq_none (by omega)]
theorem Ck.more{l:List Za}(h:Ck l)(n:Nat):Ck (l++List.replicate n noC):=by
 have hn:=Ck.new n;refine⟨λv d hv hd=>?_⟩;have e:∀{i:Nat},i<l.length->∀k,nx (l++List.replicate n noC) i k=nx l i k/\ow (l++List.replicate n noC) i k=ow l i k:=by
  intro i hi k;unfold nx ow;rw[ZmV,if_pos hi];exact⟨rfl,rfl⟩
 by_cases c:v<l.length
 .rw[(e c d).1,(e c d).2];rcases h.s v d c hd with q|⟨w,w1,w2,w3,w4,w5,w6⟩
  .exact .inl q
  .exact .inr ⟨w,w1,by rw[List.length_append];omega,w3,by rw[(e w2 _).1];exact w4,by rw[(e w2 _).2];exact w5,w6⟩
 .refine .inl ?_;have hv2:v-l.length<n:=by simp at hv;omega
  have g:gi (l++List.replicate n noC) v=noC:=by
   rw[ZmV,if_neg c,zO (by simpa using hv2)];simp
  unfold nx ow;rw[g]
  match d,hd with
  |0,_|1,_|2,_|3,_=>exact⟨rfl,rfl⟩
theorem Zjn{l:List Za}(hl:l.length<=10000)(v d w o:Int):∃l' e,Zaa l v d w o=some (l',e)/\l'.length=l.length/\(Ck l->Ck l'):=by
 simp only[Zaa];by_cases c:(0<=v/\v<l.length/\0<=d/\d<4)/\(0<=w/\w<l.length)/\v≠w/\-2<=o
 .obtain⟨⟨c1,c2,c3,c4⟩,⟨c5,c6⟩,c7,c8⟩:=c;have hb:0<=(d+2).tmod 4/\(d+2).tmod 4<4:=ZcG (by omega) (by omega);rw[if_neg (by simp;omega),Zf (by omega),Zf (by omega),Zw (by omega),Zf (by omega),Zf hb,ZpE (by omega) (by omega),obs];split
  .rw[obs,if_pos rfl];exact⟨_,_,rfl,rfl,λh=>h⟩
  .rename_i q1;rw[obs];split
   .exact⟨_,_,rfl,rfl,λh=>h⟩
   .rename_i q2;refine⟨_,_,rfl,by rw[ZaG],λh=>?_⟩;obtain⟨v,rfl⟩:=Int.eq_ofNat_of_zero_le c1;obtain⟨w,rfl⟩:=Int.eq_ofNat_of_zero_le c5;obtain⟨d,rfl⟩:=Int.eq_ofNat_of_zero_le c3;have hb':(((d:Int)+2).tmod 4)=(((d+2)%4:Nat):Int):=by
     rw[Int.tmod_eq_emod_of_nonneg (by omega)];omega
    rw[hb']at q2;exact h.wth (by omega) (by omega) (by omega) (by omega) (by simpa[nx]using q1) (by simpa[nx]using q2) c8
 .rw[if_pos (by simp;omega)];exact⟨_,_,rfl,rfl,λh=>h⟩
theorem Zt1{s:zf}(h:Sh s){n:Zal}(hn:n.Ends.length=s.Edges.length)(hc:n.Cells.length<=2000)(v:Int):∃r,zK n s v=some r/\r.Ends.length=s.Edges.length/\r.Cells.length<=n.Cells.length+132/\r.First=n.First/\r.Ways=n.Ways/\(Ck n.Cells->Ck r.Cells):=by
 have he:=h.e;have inner:∀(d:Int)(x1:List Int)(c0:List Za)(e0:List (A2 Int))(f0:Int),x1.length<=32->(∀x∈x1,0<=x/\x<2*(s.Edges.length:Int))->c0.length<=2200->e0.length=s.Edges.length->∃r,Zn (zK.s1 d x1) big (c0,e0,f0,0)=some r/\(r.1.length<=c0.length+32/\r.2.1.length=s.Edges.length/\(Ck c0->Ck r.1)):=by
  intro d x1 c0 e0 f0 hx hxr hc0 he0;refine Za1 (μ:=λs'=>((x1.length:Int)-s'.2.2.2).toNat) (I:=λs'=>(0<=s'.2.2.2/\s'.2.2.2<=(x1.length:Int))/\(s'.1.length:Int)<=(c0.length:Int)+s'.2.2.2/\s'.2.1.length=s.Edges.length/\(Ck c0->Ck s'.1)) (by dsimp only;unfold big;omega) ⟨by dsimp only;omega,by dsimp only;omega,he0,λh=>h⟩ ?_;rintro⟨c,e,f,i⟩ ⟨h1,h2,h3,hk⟩;dsimp only at h1 h2 h3 hk⊢;simp only[zK.s1];by_cases q:i<(x1.length:Int)
  .refine .inl ?_;have m1:=ZoI (n:=1) (by omega);rw[show((1:Nat):Int)=1 from rfl]at m1;have xr:=hxr _ (zh (l:=x1) (i:=i.toNat) (by omega));have d1:0<=(gi x1 i.toNat).tdiv 2/\(gi x1 i.toNat).tdiv 2<s.Edges.length:=by
    rw[Int.tdiv_eq_ediv_of_nonneg (by omega)];omega
   have d2:=ZcG (a:=gi x1 i.toNat) (n:=2) (by omega) (by omega);obtain⟨l',e',j1,j2,j3⟩:=Zjn (l:=c++List.replicate 1 noC) (by simp;omega) f (gi ([1,0,1,0]:List Int) d.toNat) (c.length:Int) (-1);rw[Zo q,m1,obs,Zf (by simp;omega),Zf (by omega),Zf (by refine⟨by omega,by omega,by omega⟩),Zf (by omega),Zf (by omega),j1,obs];dsimp only;rw[Zw (by omega)];exact⟨_,rfl,⟨by dsimp only;omega,by dsimp only;rw[j2];simp;omega,by dsimp only;rw[List.length_set];exact h3,λh=>j3 ((hk h).more 1)⟩,by dsimp only;omega⟩
  .refine .inr ?_;rw[Zq q];exact⟨_,rfl,by dsimp only;omega,h3,hk⟩
 have m4:=ZoI (n:=4) (by omega);rw[show((4:Nat):Int)=4 from rfl]at m4;have outer:∃r,Zn (zK.s0 n s v) big (n.Cells++List.replicate 4 noC,n.Ends,0)=some r/\(r.1.length<=n.Cells.length+132/\r.2.length=s.Edges.length/\(Ck n.Cells->Ck r.1)):=by
  refine Za1 (μ:=λs'=>(4-s'.2.2).toNat) (I:=λs'=>(0<=s'.2.2/\s'.2.2<=4)/\(s'.1.length:Int)<=(n.Cells.length:Int)+4+32*s'.2.2/\s'.2.1.length=s.Edges.length/\(Ck n.Cells->Ck s'.1)) (by dsimp only;unfold big;omega) ⟨by dsimp only;omega,by simp,hn,λh=>h.more 4⟩ ?_;rintro⟨c,e,d⟩ ⟨h1,h2,h3,hk⟩;dsimp only at h1 h2 h3 hk⊢;simp only[zK.s0];by_cases q:d<4
  .refine .inl ?_;obtain⟨l,l1,l2,l3⟩:=Zpl h v d;obtain⟨⟨c',e',f'⟩,r1,r2,r3,r4⟩:=inner d l c e (gi [(n.Cells.length:Int)+1,(n.Cells.length:Int)+3,(n.Cells.length:Int),(n.Cells.length:Int)] d.toNat) l2 l3 (by omega) h3;dsimp only at r2 r3 r4;obtain⟨l',e2,j1,j2,j3⟩:=Zjn (l:=c') (by omega) f' (gi ([1,0,1,0]:List Int) d.toNat) (gi [(n.Cells.length:Int)+2,(n.Cells.length:Int)+2,(n.Cells.length:Int)+3,(n.Cells.length:Int)+1] d.toNat) (-1);rw[Zo q,Zw (by omega),Zw (by omega),Zf (by simp;omega),Zw (by omega),Zf (by simp;omega),Zf (by simp;omega),l1,obs,r1,obs];dsimp only;rw[j1,obs];dsimp only;rw[Zw (by omega)];exact⟨_,rfl,⟨by dsimp only;omega,by dsimp only;omega,r3,λh=>j3 (r4 (hk h))⟩,by dsimp only;omega⟩
  .refine .inr ?_;rw[Zq q];exact⟨_,rfl,by dsimp only;omega,h3,hk⟩
 obtain⟨⟨c,e⟩,o1,o2,o3,o4⟩:=outer;dsimp only at o2 o3 o4;refine⟨⟨c,n.First,e,n.Ways⟩,?_,o3,o2,rfl,rfl,o4⟩;unfold zK;rw[m4,obs,Zf (by simp;omega),o1,obs]
theorem Zt2{s:zf}(h:Sh s):∃n,ZA s=some n/\n.Cells.length<=1200/\Ck n.Cells:=by
 have he:=h.e;have hB:=h.b;have m1:=ZoI (n:=1) (by omega);rw[show((1:Nat):Int)=1 from rfl]at m1;have s2:∀(n:List Za)(x:List Int)(e0:List (A2 Int)),n.length<=2000->x.length<=32->(∀y∈x,0<=y/\y<2*(s.Edges.length:Int))->e0.length=s.Edges.length->∃r,Zn (ZA.s2 n x) big (e0,0)=some r/\r.length=s.Edges.length:=by
  intro n x e0 hn hx hxr he0;refine Za1 (μ:=λs'=>((x.length:Int)-s'.2).toNat) (I:=λs'=>(0<=s'.2/\s'.2<=(x.length:Int))/\s'.1.length=s.Edges.length) (by dsimp only;unfold big;omega) ⟨by dsimp only;omega,he0⟩ ?_;rintro⟨e,i⟩ ⟨h1,h3⟩;dsimp only at h1 h3⊢;simp only[ZA.s2];by_cases q:i<(x.length:Int)
  .refine .inl ?_;have xr:=hxr _ (zh (l:=x) (i:=i.toNat) (by omega));have d1:0<=(gi x i.toNat).tdiv 2/\(gi x i.toNat).tdiv 2<s.Edges.length:=by
    rw[Int.tdiv_eq_ediv_of_nonneg (by omega)];omega
   have d2:=ZcG (a:=gi x i.toNat) (n:=2) (by omega) (by omega);rw[Zo q,Zf (by omega),Zf (by refine⟨by omega,by omega,by omega⟩),Zf (by omega),Zf (by omega),Zw (by omega)];exact⟨_,rfl,⟨by dsimp only;omega,by dsimp only;rw[List.length_set];exact h3⟩,by dsimp only;omega⟩
  .refine .inr ?_;rw[Zq q];exact⟨_,rfl,h3⟩
 have s1:∀(n:List Za)(v:Int)(e0:List (A2 Int)),n.length<=2000->e0.length=s.Edges.length->∃r,Zn (ZA.s1 s n v) big (e0,0)=some r/\r.length=s.Edges.length:=by
  intro n v e0 hn he0;refine Za1 (μ:=λs'=>(4-s'.2).toNat) (I:=λs'=>(0<=s'.2/\s'.2<=4)/\s'.1.length=s.Edges.length) (by dsimp only;unfold big;omega) ⟨by dsimp only;omega,he0⟩ ?_;rintro⟨e,d⟩ ⟨h1,h3⟩;dsimp only at h1 h3⊢;simp only[ZA.s1];by_cases q:d<4
  .refine .inl ?_;obtain⟨l,l1,l2,l3⟩:=Zpl h v d;obtain⟨r,r1,r2⟩:=s2 n l e hn l2 l3 h3;rw[Zo q,l1,obs,r1,obs,Zw (by omega)];exact⟨_,rfl,⟨by dsimp only;omega,r2⟩,by dsimp only;omega⟩
  .refine .inr ?_;rw[Zq q];exact⟨_,rfl,h3⟩
 have s0:∃r,Zn (ZA.s0 s) big (([]:List Za),([]:List Int),List.replicate (s.Edges.length:Int).toNat (⟨0,0⟩:A2 Int),([]:List (List Int)),0)=some r/\(r.1.length<=1056/\r.2.2.1.length=s.Edges.length/\r.2.2.2=[]/\Ck r.1):=by
  refine Za1 (μ:=λs'=>((s.Boxes.length:Int)-s'.2.2.2.2).toNat) (I:=λs'=>(0<=s'.2.2.2.2/\s'.2.2.2.2<=(s.Boxes.length:Int))/\(s'.1.length:Int)<=132*s'.2.2.2.2/\(s'.2.1.length:Int)=s'.2.2.2.2/\s'.2.2.1.length=s.Edges.length/\s'.2.2.2.1=[]/\Ck s'.1) (by dsimp only;unfold big;omega) ⟨by dsimp only;omega,by simp,by simp,by simp,rfl,Ck.new 0⟩ ?_;rintro⟨c,f,e,w,v⟩ ⟨h1,h2,h3,h4,h5,h6⟩;dsimp only at h1 h2 h3 h4 h5 h6⊢;simp only[ZA.s0];by_cases q:v<(s.Boxes.length:Int)
  .refine .inl ?_;rw[Zo q,Zf (by simp;omega),Zf (by omega)];split
   .obtain⟨r,b1,b2,b3,b4,b5,b6⟩:=Zt1 h (n:=⟨c,f++[(c.length:Int)],e,w⟩) h4 (by dsimp only;omega) v;dsimp only at b3 b4 b5 b6;rw[b1,obs,Zw (by omega)];exact⟨_,rfl,⟨by dsimp only;omega,by dsimp only;omega,by dsimp only;rw[b4];simp;omega,b2,by dsimp only;rw[b5];exact h5,b6 h6⟩,by dsimp only;omega⟩
   .obtain⟨r,r1,r2⟩:=s1 c v e (by omega) h4;rw[m1,obs,Zf (by simp;omega),r1,obs,Zw (by omega)];exact⟨_,rfl,⟨by dsimp only;omega,by simp;omega,by simp;omega,r2,h5,h6.more 1⟩,by dsimp only;omega⟩
  .refine .inr ?_;rw[Zq q];exact⟨_,rfl,by dsimp only;omega,h4,h5,h6⟩
 obtain⟨⟨c,f,e,w⟩,o1,o2,o3,o4,o5⟩:=s0;dsimp only at o2 o3 o4 o5;subst o4;have s4:∀(i:Nat)(c0:List Za)(a d:Int)(w0:List Int),i<s.Edges.length->c0.length<=2000->0<=d/\d<4->w0.length<=1->∃r,Zn (ZA.s4 s i) big (c0,a,d,w0,0)=some r/\(r.1.length<=c0.length+3/\r.2.2.2.length<=4/\(Ck c0->Ck r.1)):=by
  intro i c0 a d w0 hi hc0 hd hw0;have hx:=h.ed _ (zh hi);have hb:=hx.b;refine Za1 (μ:=λs'=>(((gi s.Edges i).Bends.size:Int)-s'.2.2.2.2).toNat) (I:=λs'=>(0<=s'.2.2.2.2/\s'.2.2.2.2<=((gi s.Edges i).Bends.size:Int))/\(s'.1.length:Int)<=(c0.length:Int)+s'.2.2.2.2/\(s'.2.2.2.1.length:Int)<=1+s'.2.2.2.2/\(0<=s'.2.2.1/\s'.2.2.1<4)/\(Ck c0->Ck s'.1)) (by dsimp only;unfold big;omega) ⟨by dsimp only;omega,by dsimp only;omega,by dsimp only;omega,hd,λh=>h⟩ ?_;rintro⟨c,at_,d,w,k⟩ ⟨h1,h2,h3,h4,hk⟩;dsimp only at h1 h2 h3 h4 hk⊢;simp only[ZA.s4,itn];by_cases q:k<((gi s.Edges i).Bends.size:Int)
  .refine .inl ?_;obtain⟨l',e',j1,j2,j3⟩:=Zjn (l:=c++List.replicate 1 noC) (by simp;omega) at_ d (c.length:Int) i;have t1:=ZcG (a:=d+1) (n:=4) (by omega) (by omega);have t3:=ZcG (a:=d+3) (n:=4) (by omega) (by omega);have jl:l'.length=c.length+1:=by rw[j2];simp
   rw[Zo q,m1,obs,Zf (by simp;omega),j1,obs];dsimp only;rw[Zf (by simp;omega),Zf (by omega)];by_cases z:sAt (gi s.Edges i).Bends k.toNat=76
   .rw[Zo z,Zw (by omega),Zw (by omega)];exact⟨_,rfl,⟨by dsimp only;omega,by dsimp only;omega,by simp;omega,t1,λh=>j3 ((hk h).more 1)⟩,by dsimp only;omega⟩
   .rw[Zq z,Zw (by omega),Zw (by omega)];exact⟨_,rfl,⟨by dsimp only;omega,by dsimp only;omega,by simp;omega,t3,λh=>j3 ((hk h).more 1)⟩,by dsimp only;omega⟩
  .refine .inr ?_;rw[Zq q];exact⟨_,rfl,by dsimp only;omega,by dsimp only;omega,hk⟩
 have s3:∃r,Zn (ZA.s3 s e) big (c,([]:List (List Int)),0)=some r/\(r.1.length<=1200/\Ck r.1):=by
  refine Za1 (μ:=λs'=>((s.Edges.length:Int)-s'.2.2).toNat) (I:=λs'=>(0<=s'.2.2/\s'.2.2<=(s.Edges.length:Int))/\(s'.1.length:Int)<=1056+3*s'.2.2/\(s'.2.1.length:Int)=s'.2.2/\Ck s'.1) (by dsimp only;unfold big;omega) ⟨by dsimp only;omega,by dsimp only;omega,rfl,o5⟩ ?_;rintro⟨c,w,i⟩ ⟨h1,h2,h3,hk⟩;dsimp only at h1 h2 h3 hk⊢;simp only[ZA.s3];by_cases q:i<(s.Edges.length:Int)
  .refine .inl ?_;obtain⟨n,rfl⟩:=Int.eq_ofNat_of_zero_le h1.1;have hx:=h.ed _ (zh (l:=s.Edges) (i:=n) (by omega));obtain⟨⟨c',a',d',w'⟩,r1,r2,r3,r4⟩:=s4 n c ((gi e n).get 0) (gi s.Edges n).Dir [(gi e n).get 0] (by omega) (by omega) hx.d (by simp);dsimp only at r2 r3 r4;obtain⟨l',e',j1,j2,j3⟩:=Zjn (l:=c') (by omega) a' d' ((gi e n).get 1) n;rw[Zo q,Zf (by omega),Zf (by omega),itn,r1,obs];dsimp only;rw[j1,obs];dsimp only;rw[Zf (by simp;omega),Zf (by omega),Zw (by omega)];exact⟨_,rfl,⟨by dsimp only;omega,by dsimp only;omega,by simp;omega,j3 (r4 hk)⟩,by dsimp only;omega⟩
  .refine .inr ?_;rw[Zq q];exact⟨_,rfl,by dsimp only;omega,hk⟩
 obtain⟨⟨c2,w2⟩,p1,p2⟩:=s3;dsimp only at p2;refine⟨⟨c2,f,e,w2⟩,?_,p2⟩;unfold ZA;rw[Zf (by omega),o1,obs];dsimp only;rw[p1,obs]
theorem ZuU{s:zf}(h:Sh s):∃n,ZA s=some n/\n.Cells.length<=1200:=by
 obtain⟨n,a,b,_⟩:=Zt2 h;exact⟨n,a,b⟩
end Mu
/- Layer 14:ValidTells. -/
namespace Mu
end Mu
/- Sums. -/
namespace Mu
def sg(f:Nat->Int):Nat->Int
 |0=>0
 |n+1=>sg f n+f n
theorem ZbT{f g:Nat->Int}:∀{n:Nat},(∀i,i<n->f i=g i)->sg f n=sg g n
 |0,_=>rfl
 |n+1,h=>by rw[sg,sg,ZbT (n:=n) λi hi=>h i (by omega),h n (by omega)]
theorem Zf0{f:Nat->Int}{n:Nat}(h:∀i,i<n->f i=0):sg f n=0:=by
 induction n with
 |zero=>rfl
 |succ n ih=>rw[sg,ih λi hi=>h i (by omega),h n (by omega)];rfl
theorem ZeT{f g:Nat->Int}:∀{n:Nat},sg (λi=>f i+g i) n=sg f n+sg g n
 |0=>rfl
 |n+1=>by rw[sg,sg,sg,ZeT (n:=n)];omega
theorem ZkR{f:Nat->Int}{k:Int}:∀{n:Nat},sg (λi=>k*f i) n=k*sg f n
 |0=>by simp[sg]
 |n+1=>by rw[sg,sg,ZkR (n:=n),Int.mul_add]
theorem Zjr{f:Nat->Int}:∀{n j:Nat},j<n->(∀i,i<n->i≠j->f i=0)->sg f n=f j
 |n+1,j,hj,h=>by
  rw[sg];by_cases c:j=n
  .subst c;rw[Zf0 λi hi=>h i (by omega) (by omega)];omega
  .rw[Zjr (j:=j) (by omega) λi hi=>h i (by omega),h n (by omega) (by omega)];omega
theorem Zhf{f:Nat->Nat->Int}{m:Nat}:∀{n:Nat},sg (λi=>sg (f i) m) n=sg (λj=>sg (λi=>f i j) n) m
 |0=>by
  rw[sg,Zf0];intro i _;rfl
 |n+1=>by
  rw[sg,Zhf (n:=n),<-ZeT];exact ZbT λi _=>rfl
end Mu
/- Layer 14:ValidEuler:what turns there are in all,by faces and by cells. -/
namespace Mu
/-! Cells that hang together. -/
theorem Zi6{l:List Za}:∀{n m:Nat},n<=m->(PS l n).1.length<=(PS l m).1.length
 |n,0,h=>by
  have:n=0:=by omega
  subst this;exact Nat.le_refl _
 | n,m+1,h=>by
  by_cases c:n=m+1
  .subst c;exact Nat.le_refl _
  .have:=Zi6 (l:=l) (n:=n) (m:=m) (by omega);rw[PS];split
   .exact this
   .simp;omega
theorem Zdo{l:List Za}(h:whole l){w:Nat}(hw:w<l.length):∃n,Rch l 0 n w:=by
 have w1:(PS l l.length).1.length=1:=by unfold whole at h;omega
 have e1:PS l 1=([ZcE l 0 l.length],Zdw l 0 (List.replicate l.length false) l.length):=by
  have g:gi (PS l 0).2 0=false:=by
   show gi (List.replicate l.length false) 0=false;rw[zO (by simp;omega)];simp
  rw[PS,if_neg (by rw[g];decide)];rfl
 have key:∀n,n+1<=l.length->PS l (n+1)=PS l 1:=by
  intro n
  induction n with
  |zero=>intro _;rfl
  |succ n ih=>
   intro hn;have i:=ih (by omega);have m:=Zi6 (l:=l) (n:=n+2) (m:=l.length) (by omega);rw[PS];split
   .exact i
   .rename_i c;rw[PS,if_neg c]at m;have:=Zi6 (l:=l) (n:=1) (m:=n+1) (by omega);rw[e1]at this;simp at m this;omega
 have k:=key (l.length-1) (by omega);rw[show l.length-1+1=l.length by omega]at k;have met:=Zmm (l:=l) l.length (by omega) w hw;rw[k,e1]at met;dsimp only at met;unfold Zdw at met;rw[Zbf hw,if_pos hw]at met;have g:gi (List.replicate l.length false) w=false:=by
  rw[zO (by simpa using hw)];simp
 rw[g,Bool.false_or]at met;exact Zfj.1 met
/-! All ZbW are in the faces. -/
theorem ZnL{l:List Za}{n:Nat}{met:List Da}{x:Da}(h:x∉met):x∈walk l (n+1) met x:=by
 rw[walk,if_neg h];simp
theorem Zl9{l:List Za}{s:List Da×List (List Da)}{p q:Da}(h:q∈s.1):q∈(stF l s p).1:=by
 unfold stF;split
 .exact h
 .exact List.mem_append.2 (.inl h)
theorem Zpq{l:List Za}{s:List Da×List (List Da)}{p:Da}(h:0<=nx l p.1 p.2):p∈(stF l s p).1:=by
 unfold stF;split
 .rename_i c;rcases c with c|c
  .omega
  .exact c
 .rename_i c;exact List.mem_append.2 (.inr (ZnL λq=>c (.inr q)))
theorem Zkd{l:List Za}{v:Nat}{s:List Da×List (List Da)}{q:Da}(h:q∈s.1):∀e,q∈(ZfF l v s e).1
 |0=>h
 |e+1=>Zl9 (Zkd h e)
theorem Zkc{l:List Za}{v:Nat}{s:List Da×List (List Da)}{d:Nat}(h:0<=nx l v d):∀e,d<e->(v,d)∈(ZfF l v s e).1
 |e+1,he=>by
  rw[ZfF];by_cases c:d=e
  .subst c;exact Zpq h
  .exact Zl9 (Zkc h e (by omega))
theorem Zmk{l:List Za}{v d:Nat}(hd:d<4)(h:0<=nx l v d):∀n,v<n->(v,d)∈(Fj l n).1
 |n+1,hn=>by
  rw[Fj];by_cases c:v=n
  .subst c;exact Zkc h 4 hd
  .exact Zkd (Zmk hd h n (by omega)) 4
theorem Zfs{l:List Za}(hc:Ck l){p:Da}:p∈(faces l).flatten↔isD l p:=by
 constructor
 .exact(Zds hc).2.2.2.2 p
 .intro h;have fl:=(ZfI hc l.length (by omega)).fl;unfold faces;rw[fl];exact Zmk h.2.1 h.2.2 _ h.1
/-! Sums over lists of ZbW. -/
theorem ZcU{α:Type}{f:α->Int}{l m:List α}(h:l.Perm m):(l.map f).sum=(m.map f).sum:=by
 induction h with
 |nil=>rfl
 |cons x _ ih=>simp[ih]
 |swap x y l=>simp;omega
 |trans _ _ i1 i2=>rw[i1,i2]
def ZbW(l:List Za):List Da:=(List.range l.length).flatMap λv=>((List.range 4).filter λd=>decide (0<=nx l v d)).map λd=>(v,d)
theorem ZaL{l:List Za}{p:Da}:p∈ZbW l↔isD l p:=by
 unfold ZbW isD;simp only[List.mem_flatMap,List.mem_range,List.mem_map,List.mem_filter,decide_eq_true_eq];constructor
 .rintro⟨v,hv,d,⟨hd,h⟩,rfl⟩;exact⟨hv,hd,h⟩
 .rintro⟨h1,h2,h3⟩;exact⟨p.1,h1,p.2,⟨h2,h3⟩,rfl⟩
theorem ZcR{l:List Za}:(ZbW l).Nodup:=by
 unfold ZbW;rw[List.Nodup,List.pairwise_flatMap];refine⟨λv _=>?_,?_⟩
 .rw[List.pairwise_map];refine(List.Pairwise.filter _ (List.nodup_range (n:=4))).imp ?_;intro a b h e;exact h (congrArg Prod.snd e)
 .refine(List.nodup_range (n:=l.length)).imp ?_;intro a b h x hx y hy e;obtain⟨d,_,rfl⟩:=List.mem_map.1 hx;obtain⟨d',_,rfl⟩:=List.mem_map.1 hy;exact h (congrArg Prod.fst e)
theorem Zk3{l:List Za}(hc:Ck l):(faces l).flatten.Perm (ZbW l) :=
 (List.perm_ext_iff_of_nodup (Zds hc).2.2.2.1 ZcR).2 λp=>by rw[Zfs hc,ZaL]
theorem Zfo{f:Da->Int}:∀L:List (List Da),(L.flatten.map f).sum=(L.map λx=>(x.map f).sum).sum
 |[]=>rfl
 |x::L=>by rw[List.flatten_cons,List.map_append,List.sum_append,Zfo L,List.map_cons,List.sum_cons]
theorem Zf1{f:Nat->Int}:∀n,((List.range n).map f).sum=sg f n
 |0=>rfl
 |n+1=>by rw[List.range_succ,List.map_append,List.sum_append,Zf1 n,sg];simp
theorem Zmi{l:List Za}{f:Da->Int}:((ZbW l).map f).sum=sg (λv=>sg (λd=>if 0<=nx l v d then f (v,d)else 0) 4) l.length:=by
 unfold ZbW;rw[<-Zf1];generalize List.range l.length=vs
 induction vs with
 |nil=>rfl
 | cons v vs ih=>
  rw[List.flatMap_cons,List.map_append,List.sum_append,ih,List.map_cons,List.sum_cons];congr 1;rw[<-Zf1];generalize List.range 4=ds
  induction ds with
  |nil=>rfl
  |cons d ds ih2=>
   rw[List.filter_cons];by_cases c:0<=nx l v d
   .rw[if_pos (by simpa using c),List.map_cons,List.map_cons,List.sum_cons,ih2,List.map_cons,List.sum_cons,if_pos c]
   .rw[if_neg (by simpa using c),ih2,List.map_cons,List.sum_cons,if_neg c];omega
theorem Zpg{f:Nat->Int}:sg f 4=f 0+f 1+f 2+f 3:=by
 show 0+f 0+f 1+f 2+f 3=_;omega
def arr(l:List Za)(w d:Nat):Int :=
 if 0<=nx l w ((d+1)%4)then 1 else if 0<=nx l w d then 0 else if 0<=nx l w ((d+3)%4)then -1 else -2
theorem ZpS{l:List Za}{p:Da}(h:p.2<4):tn p.2 (bh l p).2=arr l (nx l p.1 p.2).toNat p.2:=by
 unfold bh arr tn;have h1:¬(p.2+1)%4=p.2:=by omega
 have h2:¬(p.2+3)%4=p.2:=by omega
 have h3:¬(p.2+2)%4=p.2:=by omega
 have h4:¬(p.2+3)%4=(p.2+1)%4:=by omega
 have h5:¬(p.2+2)%4=(p.2+1)%4:=by omega
 have h6:¬(p.2+2)%4=(p.2+3)%4:=by omega
 by_cases c0:0<=nx l (nx l p.1 p.2).toNat ((p.2+1)%4)
 .simp[c0,h1]
 .by_cases c1:0<=nx l (nx l p.1 p.2).toNat p.2
  .simp[c0,c1]
  .by_cases c2:0<=nx l (nx l p.1 p.2).toNat ((p.2+3)%4)
   .simp[c0,c1,c2,h2,h4]
   .simp[c0,c1,c2,h3,h5,h6]
def deg(l:List Za)(w:Nat):Int:=sg (λd=>if 0<=nx l w d then 1 else 0) 4
theorem Zkw{l:List Za}{w:Nat}(h:∃d,d<4/\0<=nx l w d):sg (λd=>if 0<=nx l w ((d+2)%4)then arr l w d else 0) 4=2*deg l w-4:=by
 unfold deg;rw[Zpg,Zpg];unfold arr;simp only[show(0+2)%4=2 from rfl,show(1+2)%4=3 from rfl,show(2+2)%4=0 from rfl,show(3+2)%4=1 from rfl,show(0+1)%4=1 from rfl,show(1+1)%4=2 from rfl,show(2+1)%4=3 from rfl,show(3+1)%4=0 from rfl,show(0+3)%4=3 from rfl,show(1+3)%4=0 from rfl,show(2+3)%4=1 from rfl,show(3+3)%4=2 from rfl];by_cases c0:0<=nx l w 0<;>by_cases c1:0<=nx l w 1<;>by_cases c2:0<=nx l w 2<;>by_cases c3:0<=nx l w 3<;>simp[c0,c1,c2,c3];obtain⟨d,hd,q⟩:=h;have:d=0\/d=1\/d=2\/d=3:=by omega
 rcases this with rfl|rfl|rfl|rfl<;>omega
theorem Zjs{f g:Nat->Int}:∀{n:Nat},sg (λi=>f i-g i) n=sg f n-sg g n
 |0=>rfl
 |n+1=>by rw[sg,sg,sg,Zjs (n:=n)];omega
theorem Ck.back'{l:List Za}(h:Ck l){v d w:Nat}(hv:v<l.length)(hd:d<4)(hw:nx l v d=w):w<l.length/\nx l w ((d+2)%4)=v:=by
 rcases h.s v d hv hd with⟨a,_⟩|⟨u,a,b,_,c,_⟩
 .omega
 .have:w=u:=by omega
  subst this;exact⟨b,c⟩
theorem ZnB{l:List Za}(hc:Ck l){d:Nat}(hd:d<4){f g:Nat->Int}(hf:∀v,v<l.length->nx l v d<0->f v=0)(hg:∀v,v<l.length->nx l v ((d+2)%4)<0->g v=0)(h:∀v w:Nat,v<l.length->w<l.length->nx l v d=w->f v=g w):sg f l.length=sg g l.length:=by
 have e1:sg f l.length=sg (λv=>sg (λw=>if nx l v d=w then f v else 0) l.length) l.length:=by
  refine ZbT λv hv=>?_;have hlt:=hc.lt hv hd;by_cases c:nx l v d<0
  .rw[hf v hv c,Zf0];intro i _;rw[if_neg (by omega)]
  .rw[Zjr (j:=(nx l v d).toNat) (by omega)]
   .rw[if_pos (by omega)]
   .intro i _ hne;rw[if_neg (by omega)]
 have e2:sg g l.length=sg (λw=>sg (λv=>if nx l w ((d+2)%4)=v then g w else 0) l.length) l.length:=by
  refine ZbT λv hv=>?_;have hlt:=hc.lt hv (show(d+2)%4<4 by omega);by_cases c:nx l v ((d+2)%4)<0
  .rw[hg v hv c,Zf0];intro i _;rw[if_neg (by omega)]
  .rw[Zjr (j:=(nx l v ((d+2)%4)).toNat) (by omega)]
   .rw[if_pos (by omega)]
   .intro i _ hne;rw[if_neg (by omega)]
 rw[e1,e2,Zhf];refine ZbT λw hw=>ZbT λv hv=>?_;by_cases c:nx l v d=w
 .have:=(hc.back' hv hd c).2;rw[if_pos c,if_pos this,h v w hv hw c]
 .rw[if_neg c,if_neg];intro q;have:=(hc.back' hw (show(d+2)%4<4 by omega) q).2;rw[show((d+2)%4+2)%4=d by omega]at this;exact c this
theorem Zg0:∀{R:List Int}{i a b:Int},Zdx R i a=some b->0<=i->R.sum=4*(R.length:Int)-(if 0<=b/\a<0 then 8 else 0)
 |[],i,a,b,h,hi=>by
  simp only[Zdx,Option.some.injEq]at h;subst h;rw[if_neg (by omega)];rfl
 | r::R,i,a,b,h,hi=>by
  rw[Zdx]at h;rw[List.sum_cons,List.length_cons];by_cases c1:r=4
  .rw[if_pos c1]at h;have:=Zg0 h (by omega);rw[this];omega
  .rw[if_neg c1]at h;by_cases c2:r=-4
   .rw[if_pos c2]at h;by_cases c3:0<=a
    .rw[if_pos c3]at h;cases h
    .rw[if_neg c3]at h;have:=Zg0 h (by omega);have rg:=Zfx h (by omega) (by omega);rw[if_neg (by omega)]at this;rw[this,if_pos (by omega)];omega
   .rw[if_neg c2]at h;cases h
theorem ZjH{l:List Za}{a:Int}(h:Zfh l=some a)(ha:0<=a):((faces l).flatten.map λp=>tn p.2 (bh l p).2).sum=4*((faces l).length:Int)-8:=by
 have:=Zg0 h (by omega);rw[if_pos (by omega),List.length_map]at this;rw[Zfo,<-this];rfl
end Mu
/- Layer 12:faces are the ways round of 'behind';what stays of them where cells are turned or split. -/
namespace Mu
def prv(A:Nat->Bool)(d:Nat):Nat:=if A ((d+1)%4)=true then(d+1)%4 else if A d=true then d else if A ((d+3)%4)=true then(d+3)%4 else(d+2)%4
def Zch(a b c d:Bool)(n:Nat):Bool:=if n=0 then a else if n=1 then b else if n=2 then c else d
theorem Znz:∀a b c d:Bool,∀i j:Fin 4,Zch a b c d ((i.1+2)%4)=true->Zch a b c d ((j.1+2)%4)=true->prv (Zch a b c d) i.1=prv (Zch a b c d) j.1->i=j:=by decide
theorem Zc0{A:Nat->Bool}{n:Nat}(h:n<4):Zch (A 0) (A 1) (A 2) (A 3) n=A n:=by
 have:n=0\/n=1\/n=2\/n=3:=by omega
 rcases this with rfl|rfl|rfl|rfl<;>rfl
theorem Zdb{A:Nat->Bool}{d:Nat}(h:d<4):prv (Zch (A 0) (A 1) (A 2) (A 3)) d=prv A d:=by
 unfold prv;rw[Zc0 (by omega),Zc0 h,Zc0 (by omega)]
theorem ZoZ{A:Nat->Bool}{i j:Nat}(hi:i<4)(hj:j<4)(h1:A ((i+2)%4)=true)(h2:A ((j+2)%4)=true)(h:prv A i=prv A j):i=j:=by
 have:=Znz (A 0) (A 1) (A 2) (A 3) ⟨i,hi⟩ ⟨j,hj⟩ (by dsimp only;rw[Zc0 (by omega)];exact h1) (by dsimp only;rw[Zc0 (by omega)];exact h2) (by dsimp only;rw[Zdb hi,Zdb hj];exact h);exact congrArg Fin.val this
theorem ZbZ{l:List Za}{p:Da}:bh l p=((nx l p.1 p.2).toNat,prv (λe=>decide (0<=nx l (nx l p.1 p.2).toNat e)) p.2):=by
 unfold bh prv;simp only[decide_eq_true_eq];split
 .rfl
 .split
  .rfl
  .split<;>rfl
theorem ZbY{l:List Za}(hc:Ck l){p q:Da}(hp:isD l p)(hq:isD l q)(h:bh l p=bh l q):p=q:=by
 have f:=hp.fwd hc;have g:=hq.fwd hc;rw[ZbZ,ZbZ]at h;injection h with h1 h2
 rw[<-h1]at h2 g;have d:p.2=q.2:=ZoZ hp.2.1 hq.2.1 (by simp;rw[f.2];omega) (by simp;rw[g.2];omega) h2;have v:p.1=q.1:=by
  have a:=f.2;have b:=g.2;rw[<-d]at b;rw[a]at b;omega
 exact Prod.ext v d
def it(l:List Za):Nat->Da->Da
 |0,x=>x
 |n+1,x=>bh l (it l n x)
theorem Znc{l:List Za}:∀n x,it l n (bh l x)=it l (n+1) x
 |0,_=>rfl
 |n+1,x=>by rw[it,Znc n x];rfl
theorem Zeb{l:List Za}(hc:Ck l){x:Da}(hx:isD l x):∀n,isD l (it l n x)
 |0=>hx
 |n+1=>(Zeb hc hx n).bh hc
theorem Zhg{l:List Za}(hc:Ck l):∀(n:Nat)(met:List Da)(x:Da),Mets l met->isD l x->4*l.length<met.length+n->∃K,walk l n met x=(List.range K).map (λi=>it l i x)/\it l K x∈met++walk l n met x
 |0,met,x,h,_,hn=>by have:=h.len;omega
 | n+1,met,x,h,hx,hn=>by
  rw[walk];by_cases c:x∈met
  .rw[if_pos c];exact⟨0,rfl,by rw[List.append_nil];exact c⟩
  .rw[if_neg c];obtain⟨K,e1,e2⟩:=Zhg hc n (met++[x]) (bh l x) (h.snoc hx c) (hx.bh hc) (by simp;omega);refine⟨K+1,?_,?_⟩
   .rw[e1,List.range_succ_eq_map,List.map_cons,List.map_map];congr 1;exact List.map_congr_left λi _=>Znc i x
   .rw[Znc]at e2;rw[List.append_assoc]at e2;exact e2
structure Cyc(l:List Za)(f:List Da):Prop where
 ne:f≠[]
 nd:f.Nodup
 is:∀p∈f,isD l p
 cl:∀p∈f,bh l p∈f
 one:∀C:Da->Prop,(∀x,isD l x->C x->C (bh l x))->∀p∈f,∀q∈f,C p->C q
theorem Cyc.sub{l:List Za}{f g:List Da}(hf:Cyc l f)(hg:Cyc l g){p:Da}(h1:p∈f)(h2:p∈g):∀q∈f,q∈g :=
 λq hq=>hf.one (λx=>x∈g) (λx _ hx=>hg.cl x hx) p h1 q hq h2
theorem Cyc.perm{l:List Za}{f g:List Da}(hf:Cyc l f)(hg:Cyc l g){p:Da}(h1:p∈f)(h2:p∈g):f.Perm g :=
 (List.perm_ext_iff_of_nodup hf.nd hg.nd).2 λq=>⟨hf.sub hg h1 h2 q,hg.sub hf h2 h1 q⟩
theorem Zgb{M N:List Da}(hM:M.Nodup)(hN:N.Nodup)(hs:∀x∈M,x∈N)(hl:N.length<=M.length):∀x∈N,x∈M:=by
 intro x hx;refine Classical.byContradiction λh=>?_;have:=(List.nodup_cons.2 ⟨h,hM⟩).length_le_of_subset (l₂:=N) (λy hy=>by
  rcases List.mem_cons.1 hy with rfl|hy
  .exact hx
  .exact hs y hy)
 simp at this;omega
theorem Zfc{l:List Za}(hc:Ck l){M:List Da}(hM:Mets l M)(cl:∀p∈M,bh l p∈M){x:Da}(hx:isD l x)(h:bh l x∈M):x∈M:=by
 have nd:(M.map (bh l)).Nodup:=List.pairwise_map.2 (hM.nd.imp_of_mem λ{p q} hp hq hne he=>hne (ZbY hc (hM.is p hp) (hM.is q hq) he));have:=Zgb nd hM.nd (λy hy=>by
  obtain⟨p,hp,rfl⟩:=List.mem_map.1 hy;exact cl p hp) (by simp) _ h
 obtain⟨z,hz,e⟩:=List.mem_map.1 this;rw[<-ZbY hc (hM.is z hz) hx e];exact hz
theorem Zgo{l:List Za}(hc:Ck l){M:List Da}(hM:Mets l M)(cl:∀p∈M,bh l p∈M){x:Da}(hx:isD l x)(hn:x∉M):Cyc l (walk l (4*l.length+1) M x)/\∀p∈M++walk l (4*l.length+1) M x,bh l p∈M++walk l (4*l.length+1) M x:=by
 obtain⟨K,e1,e2⟩:=Zhg hc (4*l.length+1) M x hM hx (by omega);have hw:=Mets.walk (n:=4*l.length+1) hc hM hx;have wis:=Zjx (n:=4*l.length+1) (met:=M) hc hx;have wnd:(walk l (4*l.length+1) M x).Nodup:=(List.nodup_append.1 hw.nd).2.1;generalize walk l (4*l.length+1) M x=w at*;have notM:∀i,it l i x∉M:=by
  intro i
  induction i with
  |zero=>exact hn
  |succ i ih=>exact λh=>ih (Zfc hc hM cl (Zeb hc hx i) h)
 have memw:∀{y},y∈w↔∃i,i<K/\it l i x=y:=by
  intro y;rw[e1];simp[List.mem_map,List.mem_range]
 have inj:∀i j,i<K->j<K->it l i x=it l j x->i=j:=by
  intro i j hi hj h;rw[e1]at wnd;have:=List.pairwise_map.1 wnd;rw[List.pairwise_iff_getElem]at this;refine Classical.byContradiction λhne=>?_;rcases Nat.lt_or_gt_of_ne hne with q|q
  .exact this i j (by simpa using hi) (by simpa using hj) q (by simpa using h)
  .exact this j i (by simpa using hj) (by simpa using hi) q (by simpa using h.symm)
 have back:it l K x=x:=by
  rcases List.mem_append.1 e2 with h|h
  .exact absurd h (notM K)
  .obtain⟨j,hj,e⟩:=memw.1 h
   cases j with
   |zero=>exact e.symm
   | succ j=>
    cases K with
    |zero=>omega
    |succ K=>
     have:=ZbY hc (Zeb hc hx j) (Zeb hc hx K) e;have:=inj j K (by omega) (by omega) this;omega
 have hK:0<K:=by
  cases K with
  |zero=>rw[e1]at e2;simp[it]at e2;exact absurd e2 hn
  |succ K=>omega
 have wcl:∀p∈w,bh l p∈w:=by
  intro p hp;obtain⟨i,hi,rfl⟩:=memw.1 hp;by_cases c:i+1<K
  .exact memw.2 ⟨i+1,c,rfl⟩
  .have:i+1=K:=by omega
   refine memw.2 ⟨0,hK,?_⟩;show x=it l (i+1) x;rw[this,back]
 refine⟨⟨?_,wnd,wis,wcl,?_⟩,?_⟩
 .intro h;have:x∈w:=memw.2 ⟨0,hK,rfl⟩;rw[h]at this;simp at this
 .intro C hC p hp q hq hCp;obtain⟨i,hi,rfl⟩:=memw.1 hp;obtain⟨j,hj,rfl⟩:=memw.1 hq;have up:∀m,C (it l (i+m) x):=by
   intro m
   induction m with
   |zero=>exact hCp
   |succ m ih=>exact hC _ (Zeb hc hx _) ih
  have h0:C x:=by
   have:=up (K-i);rw[show i+(K-i)=K by omega,back]at this;exact this
  have up0:∀m,C (it l m x):=by
   intro m
   induction m with
   |zero=>exact h0
   |succ m ih=>exact hC _ (Zeb hc hx _) ih
  exact up0 j
 .intro p hp;rcases List.mem_append.1 hp with h|h
  .exact List.mem_append.2 (.inl (cl p h))
  .exact List.mem_append.2 (.inr (wcl p h))
structure FC(l:List Za)(s:List Da×List (List Da)):Prop where
 fi:FI l s
 cl:∀p∈s.1,bh l p∈s.1
 cy:∀f∈s.2,Cyc l f
theorem FC.st{l:List Za}(hc:Ck l){s:List Da×List (List Da)}(h:FC l s){p:Da}(h1:p.1<l.length)(h2:p.2<4):FC l (stF l s p):=by
 refine⟨h.fi.st hc h1 h2,?_,?_⟩<;>unfold stF
 .split
  .exact h.cl
  .rename_i c;exact(Zgo hc h.fi.m h.cl ⟨h1,h2,by omega⟩ λq=>c (.inr q)).2
 .split
  .exact h.cy
  .rename_i c;intro f hf;rcases List.mem_append.1 hf with k|k
   .exact h.cy f k
   .rw[List.mem_singleton.1 k];exact(Zgo hc h.fi.m h.cl ⟨h1,h2,by omega⟩ λq=>c (.inr q)).1
theorem FC.row{l:List Za}(hc:Ck l){s:List Da×List (List Da)}(h:FC l s){v:Nat}(hv:v<l.length):∀e,e<=4->FC l (ZfF l v s e)
 |0,_=>h
 |e+1,he=>(FC.row hc h hv e (by omega)).st hc hv (by dsimp only;omega)
theorem Zkm{l:List Za}(hc:Ck l):∀v,v<=l.length->FC l (Fj l v)
 |0,_=>⟨ZfI hc 0 (by omega),by simp[Fj],by simp[Fj]⟩
 |v+1,hv=>(Zkm hc v (by omega)).row hc (by omega) 4 (by omega)
theorem Zbe{l:List Za}(hc:Ck l):∀f∈faces l,Cyc l f:=(Zkm hc l.length (by omega)).cy
theorem Zhv{l:List Za}(hc:Ck l){i j:Nat}(hi:i<(faces l).length)(hj:j<(faces l).length){p:Da}(h1:p∈gi (faces l) i)(h2:p∈gi (faces l) j):i=j:=by
 have nd:=(Zds hc).2.2.2.1;rw[List.Nodup,List.pairwise_flatten]at nd;have:=nd.2;rw[List.pairwise_iff_getElem]at this;rw[zO hi]at h1;rw[zO hj]at h2;refine Classical.byContradiction λhne=>?_;rcases Nat.lt_or_gt_of_ne hne with q|q
 .exact this i j hi hj q p h1 p h2 rfl
 .exact this j i hj hi q p h2 p h1 rfl
def Val(l:List Za):Prop:=(∀i,i<(faces l).length->ZW l (gi (faces l) i)=4\/ZW l (gi (faces l) i)=-4)/\(∃i,i<(faces l).length/\ZW l (gi (faces l) i)=-4)/\∀i j,i<(faces l).length->j<(faces l).length->ZW l (gi (faces l) i)=-4->ZW l (gi (faces l) j)=-4->i=j
theorem Zgz:∀{R:List Int}{i a:Int},0<=i->-1<=a->((∃b,Zdx R i a=some b/\0<=b)↔(∀k,k<R.length->gi R k=4\/gi R k=-4)/\(if 0<=a then∀k,k<R.length->gi R k≠-4 else(∃k,k<R.length/\gi R k=-4)/\∀k m,k<R.length->m<R.length->gi R k=-4->gi R m=-4->k=m))
 | [],i,a,hi,ha=>by
  simp only[Zdx,List.length_nil];constructor
  .rintro⟨b,h,hb⟩;simp only[Option.some.injEq]at h;subst h;rw[if_pos hb];exact⟨λk hk=>by omega,λk hk=>by omega⟩
  .rintro⟨_,h⟩;by_cases c:0<=a
   .exact⟨a,rfl,c⟩
   .rw[if_neg c]at h;obtain⟨⟨k,hk,_⟩,_⟩:=h;omega
 | r::R,i,a,hi,ha=>by
  have g0:gi (r::R) 0=r:=rfl;have gs:∀k,gi (r::R) (k+1)=gi R k:=λk=>rfl;rw[Zdx];by_cases c1:r=4
  .rw [if_pos c1,Zgz (R:=R) (by omega) ha];have all:(∀k,k<R.length->gi R k=4\/gi R k=-4)↔∀k,k<(r::R).length->gi (r::R) k=4\/gi (r::R) k=-4:=by
    constructor
    .intro h k hk
     cases k with
     |zero=>exact .inl c1
     |succ k=>exact h k (by simp at hk;omega)
    .intro h k hk;exact h (k+1) (by simp;omega)
   rw[all];by_cases c:0<=a
   .rw[if_pos c,if_pos c];refine and_congr_right λ_=>⟨λh k hk=>?_,λh k hk=>h (k+1) (by simp;omega)⟩
    cases k with
    |zero=>rw[g0];omega
    |succ k=>exact h k (by simp at hk;omega)
   .rw[if_neg c,if_neg c];refine and_congr_right λ_=>⟨?_,?_⟩
    .rintro⟨⟨k,hk,e⟩,u⟩;refine⟨⟨k+1,by simp;omega,e⟩,λk m hk hm e1 e2=>?_⟩
     cases k with
     |zero=>rw[g0]at e1;omega
     |succ k=>
      cases m with
      |zero=>rw[g0]at e2;omega
      |succ m=>rw[u k m (by simp at hk;omega) (by simp at hm;omega) e1 e2]
    .rintro⟨⟨k,hk,e⟩,u⟩
     cases k with
     |zero=>rw[g0]at e;omega
     |succ k=>exact⟨⟨k,by simp at hk;omega,e⟩,λk m hk hm e1 e2=>by have:=u (k+1) (m+1) (by simp;omega) (by simp;omega) e1 e2;omega⟩
  .rw [if_neg c1];by_cases c2:r=-4
   .rw [if_pos c2];by_cases c:0<=a
    .rw[if_pos c,if_pos c];constructor
     .rintro⟨b,h,_⟩;cases h
     .rintro⟨_,h⟩;exact absurd c2 (h 0 (by simp))
    .rw [if_neg c,if_neg c,Zgz (R:=R) (by omega) (by omega),if_pos hi];constructor
     .rintro⟨h1,h2⟩;refine⟨λk hk=>?_,⟨0,by simp,c2⟩,λk m hk hm e1 e2=>?_⟩
      .cases k with
       |zero=>exact .inr c2
       |succ k=>exact h1 k (by simp at hk;omega)
      .cases k with
       |zero=>
        cases m with
        |zero=>rfl
        |succ m=>exact absurd e2 (h2 m (by simp at hm;omega))
       |succ k=>exact absurd e1 (h2 k (by simp at hk;omega))
     .rintro⟨h1,_,u⟩;refine⟨λk hk=>h1 (k+1) (by simp;omega),λk hk e=>?_⟩;have:=u 0 (k+1) (by simp) (by simp;omega) c2 e;omega
   .rw[if_neg c2];constructor
    .rintro⟨b,h,_⟩;cases h
    .rintro⟨h,_⟩;have:=h 0 (by simp);rw[g0]at this;omega
theorem Zgh{l:List Za}:(∃a,Zfh l=some a/\0<=a)↔Val l:=by
 unfold Zfh;rw[Zgz (by omega) (by omega),if_neg (by omega)];unfold Val;rw[List.length_map];have g:∀k,k<(faces l).length->gi ((faces l).map (ZW l)) k=ZW l (gi (faces l) k):=λk hk=>ZaR hk;refine and_congr ⟨λh i hi=>by rw[<-g i hi];exact h i hi,λh i hi=>by rw[g i hi];exact h i hi⟩ (and_congr ⟨?_,?_⟩ ⟨?_,?_⟩)
 .rintro⟨k,hk,e⟩;exact⟨k,hk,by rw[<-g k hk];exact e⟩
 .rintro⟨k,hk,e⟩;exact⟨k,hk,by rw[g k hk];exact e⟩
 .intro u i j hi hj e1 e2;exact u i j hi hj (by rw[g i hi];exact e1) (by rw[g j hj];exact e2)
 .intro u i j hi hj e1 e2;exact u i j hi hj (by rw[<-g i hi];exact e1) (by rw[<-g j hj];exact e2)
theorem ZdI{l:List Za}:Zc2 l=0↔ZdR l=0/\whole l/\(l.length≠1->Val l):=by
 constructor
 .intro h;obtain⟨a,b,c⟩:=ZdA h;exact⟨a,b,λh1=>Zgh.1 (c h1)⟩
 .rintro⟨a,b,c⟩;unfold Zc2;rw[if_pos a,if_pos b];by_cases h1:l.length=1
  .rw[if_pos h1]
  .rw[if_neg h1];obtain⟨x,e,hx⟩:=Zgh.2 (c h1);rw[e];dsimp only;rw[if_pos hx]
theorem ZlY{α:Type}{f:α->Int}{l m:List α}(h:l.Perm m):(l.map f).sum=(m.map f).sum:=by
 induction h with
 |nil=>rfl
 |cons x _ ih=>simp[ih]
 |swap x y l=>simp;omega
 |trans _ _ i1 i2=>rw[i1,i2]
structure Ins(l m:List Za)(ins:Da->List Da):Prop where
 ne:∀p,isD l p->ins p≠[]
 nd:∀p,isD l p->(ins p).Nodup
 is:∀p,isD l p->∀x∈ins p,isD m x
 dj:∀p q,isD l p->isD l q->∀x,x∈ins p->x∈ins q->p=q
 sm:∀p,isD l p->((ins p).map λx=>tn x.2 (bh m x).2).sum=tn p.2 (bh l p).2
 cl:∀p,isD l p->∀x∈ins p,bh m x∈ins p\/bh m x∈ins (bh l p)
 on:∀C:Da->Prop,(∀x,isD m x->C x->C (bh m x))->∀p,isD l p->(∃x,x∈ins p/\C x)->∀y∈ins (bh l p),C y
 al:∀x,isD m x->∃p,isD l p/\x∈ins p
theorem Ins.cyc{l m:List Za}{ins:Da->List Da}(h:Ins l m ins)(hc:Ck l){f:List Da}(hf:Cyc l f):Cyc m (f.flatMap ins):=by
 refine⟨?_,?_,?_,?_,?_⟩
 .intro e;obtain⟨p,hp⟩:=List.exists_mem_of_ne_nil f hf.ne;obtain⟨x,hx⟩:=List.exists_mem_of_ne_nil _ (h.ne p (hf.is p hp));have:x∈f.flatMap ins:=List.mem_flatMap.2 ⟨p,hp,hx⟩;rw[e]at this;simp at this
 .rw[List.Nodup,List.pairwise_flatMap];refine⟨λp hp=>h.nd p (hf.is p hp),hf.nd.imp_of_mem ?_⟩;intro p q hp hq hne x hx y hy e;subst e;exact hne (h.dj p q (hf.is p hp) (hf.is q hq) x hx hy)
 .intro x hx;obtain⟨p,hp,hx⟩:=List.mem_flatMap.1 hx;exact h.is p (hf.is p hp) x hx
 .intro x hx;obtain⟨p,hp,hx⟩:=List.mem_flatMap.1 hx;rcases h.cl p (hf.is p hp) x hx with k|k
  .exact List.mem_flatMap.2 ⟨p,hp,k⟩
  .exact List.mem_flatMap.2 ⟨_,hf.cl p hp,k⟩
 .intro C hC x hx y hy hCx;obtain⟨p,hp,hx⟩:=List.mem_flatMap.1 hx;obtain⟨q,hq,hy⟩:=List.mem_flatMap.1 hy
  -- all that follow are so
  have step:∀z,isD l z->(∃x,x∈ins z/\C x)->∃x,x∈ins (bh l z)/\C x:=by
   intro z hz hx;obtain⟨w,hw⟩:=List.exists_mem_of_ne_nil _ (h.ne _ (hz.bh hc));exact⟨w,hw,h.on C hC z hz hx w hw⟩
  have all:∃x,x∈ins q/\C x:=hf.one (λz=>∃x,x∈ins z/\C x) step p hp q hq ⟨x,hx,hCx⟩
  -- once round from q
  have round:∀z∈f,(∃w,w∈f/\bh l w=z):=by
   have nd:(f.map (bh l)).Nodup:=List.pairwise_map.2 (hf.nd.imp_of_mem λ{a b} ha hb hne he=>hne (ZbY hc (hf.is a ha) (hf.is b hb) he));intro z hz;have:=Zgb nd hf.nd (λy hy=>by
    obtain⟨a,ha,rfl⟩:=List.mem_map.1 hy;exact hf.cl a ha) (by simp) z hz
   obtain⟨w,hw,e⟩:=List.mem_map.1 this;exact⟨w,hw,e⟩
  obtain⟨w,hw,e⟩:=round q hq;have hwC:∃x,x∈ins w/\C x:=hf.one (λz=>∃x,x∈ins z/\C x) step p hp w hw ⟨x,hx,hCx⟩;have:=h.on C hC w (hf.is w hw) hwC;rw[e]at this;exact this y hy
theorem Ins.rot{l m:List Za}{ins:Da->List Da}(h:Ins l m ins){f:List Da}(hf:∀p∈f,isD l p):((f.flatMap ins).map λx=>tn x.2 (bh m x).2).sum=ZW l f:=by
 unfold ZW tns
 induction f with
 |nil=>rfl
 |cons p f ih=>
  rw[List.flatMap_cons,List.map_append,List.sum_append,ih λq hq=>hf q (by simp[hq]),h.sm p (hf p (by simp)),List.map_cons,List.sum_cons]
theorem Zfr{l:List Za}(hc:Ck l){p:Da}(hp:isD l p)(all:∀q,isD l q->q∈(faces l).flatten):∃i,i<(faces l).length/\p∈gi (faces l) i:=by
 obtain⟨f,hf,h⟩:=List.mem_flatten.1 (all p hp);obtain⟨i,hi,e⟩:=List.mem_iff_getElem.1 hf;exact⟨i,hi,by rw[zO hi,e];exact h⟩
theorem Ins.val{l m:List Za}{ins:Da->List Da}(h:Ins l m ins)(hc:Ck l)(hm:Ck m)(al:∀q,isD l q->q∈(faces l).flatten)(am:∀q,isD m q->q∈(faces m).flatten):Val l↔Val m:=by
 -- faces go with faces
 have key:∀i j,i<(faces l).length->j<(faces m).length->∀p x,p∈gi (faces l) i->x∈ins p->x∈gi (faces m) j->ZW m (gi (faces m) j)=ZW l (gi (faces l) i)/\∀y,y∈gi (faces m) j↔∃q,q∈gi (faces l) i/\y∈ins q:=by
  intro i j hi hj p x hp hx hxj;have cf:=Zbe hc _ (zh hi);have cg:=Zbe hm _ (zh hj);have pm:=(h.cyc hc cf).perm cg (List.mem_flatMap.2 ⟨p,hp,hx⟩) hxj;refine⟨?_,λy=>by rw[<-pm.mem_iff,List.mem_flatMap]⟩;rw[<-h.rot cf.is,ZlY pm];rfl
 have fwd:∀i,i<(faces l).length->∃j,j<(faces m).length/\∃p x,p∈gi (faces l) i/\x∈ins p/\x∈gi (faces m) j:=by
  intro i hi;have cf:=Zbe hc _ (zh hi);obtain⟨p,hp⟩:=List.exists_mem_of_ne_nil _ cf.ne;obtain⟨x,hx⟩:=List.exists_mem_of_ne_nil _ (h.ne p (cf.is p hp));obtain⟨j,hj,hxj⟩:=Zfr hm (h.is p (cf.is p hp) x hx) am;exact⟨j,hj,p,x,hp,hx,hxj⟩
 have bwd:∀j,j<(faces m).length->∃i,i<(faces l).length/\∃p x,p∈gi (faces l) i/\x∈ins p/\x∈gi (faces m) j:=by
  intro j hj;have cg:=Zbe hm _ (zh hj);obtain⟨x,hx⟩:=List.exists_mem_of_ne_nil _ cg.ne;obtain⟨p,hp,hxp⟩:=h.al x (cg.is x hx);obtain⟨i,hi,hpi⟩:=Zfr hc hp al;exact⟨i,hi,p,x,hpi,hxp,hx⟩
 constructor
 .rintro⟨v1,⟨i0,hi0,e0⟩,v3⟩;refine⟨λj hj=>?_,?_,λj k hj hk e1 e2=>?_⟩
  .obtain⟨i,hi,p,x,a,b,c⟩:=bwd j hj;rw[(key i j hi hj p x a b c).1];exact v1 i hi
  .obtain⟨j,hj,p,x,a,b,c⟩:=fwd i0 hi0;exact⟨j,hj,by rw[(key i0 j hi0 hj p x a b c).1];exact e0⟩
  .obtain⟨i,hi,p,x,a,b,c⟩:=bwd j hj;obtain⟨i',hi',p',x',a',b',c'⟩:=bwd k hk;have k1:=key i j hi hj p x a b c;have k2:=key i' k hi' hk p' x' a' b' c';have:i=i':=v3 i i' hi hi' (by rw[<-k1.1];exact e1) (by rw[<-k2.1];exact e2);subst this;exact Zhv hm hj hk c ((k2.2 x).2 ⟨p,a,b⟩)
 .rintro⟨v1,⟨j0,hj0,e0⟩,v3⟩;refine⟨λi hi=>?_,?_,λi k hi hk e1 e2=>?_⟩
  .obtain⟨j,hj,p,x,a,b,c⟩:=fwd i hi;rw[<-(key i j hi hj p x a b c).1];exact v1 j hj
  .obtain⟨i,hi,p,x,a,b,c⟩:=bwd j0 hj0;exact⟨i,hi,by rw[<-(key i j0 hi hj0 p x a b c).1];exact e0⟩
  .obtain⟨j,hj,p,x,a,b,c⟩:=fwd i hi;obtain⟨j',hj',p',x',a',b',c'⟩:=fwd k hk;have k1:=key i j hi hj p x a b c;have k2:=key k j' hk hj' p' x' a' b' c';have:j=j':=v3 j j' hj hj' (by rw[k1.1];exact e1) (by rw[k2.1];exact e2);subst this;obtain⟨q,hq,hxq⟩:=(k2.2 x).1 c;have cf:=Zbe hc _ (zh hi);have cf':=Zbe hc _ (zh hk);have:=h.dj p q (cf.is p a) (cf'.is q hq) x b hxq;subst this;exact Zhv hc hi hk a hq
end Mu
/- Layer 10:GridSplits,GridTurns,GridChecks. -/
namespace Mu
theorem ZuM{z:zq}(m1:z.At.length<=Go.maxLen)(b1:∀y∈z.At,Zf3 y)(b3:∀y∈z.Own,ZkV y):OkZ z:=⟨m1,b1,b3⟩
end Mu
/- Layer 10:GridTurns,GridChecks,GridNil. -/
namespace Mu
end Mu
/- Layer 14:turned cells can be Zep just if they could. -/
namespace Mu
theorem ZiD{l:List Za}(hc:Ck l):∀q,isD l q->q∈(faces l).flatten:=by
 have sub1:∀{s:List Da×List (List Da)}{p q:Da},q∈s.1->q∈(stF l s p).1:=by
  intro s p q h;unfold stF;split
  .exact h
  .exact List.mem_append.2 (.inl h)
 have has1:∀{s:List Da×List (List Da)}{p:Da},0<=nx l p.1 p.2->p∈(stF l s p).1:=by
  intro s p h;unfold stF;split
  .rename_i c;rcases c with c|c
   .omega
   .exact c
  .rename_i c;refine List.mem_append.2 (.inr ?_);rw[walk,if_neg λq=>c (.inr q)];simp
 have sub2:∀{v:Nat}{s:List Da×List (List Da)}{q:Da},q∈s.1->∀e,q∈(ZfF l v s e).1:=by
  intro v s q h e
  induction e with
  |zero=>exact h
  |succ e ih=>exact sub1 ih
 have has2:∀{v d:Nat}{s:List Da×List (List Da)},0<=nx l v d->∀e,d<e->(v,d)∈(ZfF l v s e).1:=by
  intro v d s h e
  induction e with
  |zero=>intro he;omega
  |succ e ih=>
   intro he;rw[ZfF];by_cases c:d=e
   .subst c;exact has1 h
   .exact sub1 (ih (by omega))
 have has3:∀{v d:Nat},d<4->0<=nx l v d->∀n,v<n->(v,d)∈(Fj l n).1:=by
  intro v d hd h n
  induction n with
  |zero=>intro hn;omega
  |succ n ih=>
   intro hn;rw[Fj];by_cases c:v=n
   .subst c;exact has2 h 4 hd
   .exact sub2 (ih (by omega)) 4
 intro q h;have fl:=(ZfI hc l.length (by omega)).fl;unfold faces;rw[fl];exact has3 h.2.1 h.2.2 _ h.1
end Mu
/- Loops of ZbW;what becomes of them where an edge is taken out. -/
namespace Mu
def opp(l:List Za)(p:Da):Da:=((nx l p.1 p.2).toNat,(p.2+2)%4)
theorem isD.opp{l:List Za}(hc:Ck l){p:Da}(h:isD l p):isD l (opp l p):=by
 have f:=h.fwd hc;refine⟨f.1,by unfold Mu.opp;dsimp only;omega,?_⟩;show 0<=nx l (nx l p.1 p.2).toNat ((p.2+2)%4);rw[f.2];omega
theorem Zb3{l:List Za}(hc:Ck l){p:Da}(h:isD l p):opp l (opp l p)=p:=by
 have f:=h.fwd hc;have:=h.2.1;unfold opp;refine Prod.ext ?_ (by dsimp only;omega);dsimp only;rw[f.2];omega
theorem Zrf{l:List Za}(hc:Ck l){p:Da}(h:isD l p):(opp l p).1≠p.1:=by
 rcases hc.s p.1 p.2 h.1 h.2.1 with⟨a,_⟩|⟨w,a,b,c,_⟩
 .have:=h.2.2;omega
 .unfold opp;dsimp only;rw[a,itn];exact c
theorem ZoX{l:List Za}(hc:Ck l){p q:Da}(hp:isD l p)(hq:isD l q)(h:opp l p=opp l q):p=q:=by
 rw[<-Zb3 hc hp,<-Zb3 hc hq,h]
theorem Zdn{A B:Nat->Bool}(h:∀e,e<4->A e=B e){d:Nat}(hd:d<4):prv A d=prv B d:=by
 unfold prv;rw[h _ (by omega),h _ hd,h _ (by omega)]
theorem Zg2{A:Nat->Bool}{d:Nat}(hd:d<4):prv A d<4:=by
 unfold prv;split
 .omega
 .split
  .omega
  .split<;>omega
def tt(l:List Za)(p:Da):Int:=tn p.2 (bh l p).2
def Pt(l:List Za):Da->List Da->Da->Prop
 |x,[],y=>x=y
 |x,a::t,y=>x=a/\isD l a/\Pt l (bh l a) t y
theorem Pt.app{l:List Za}:∀{s t:List Da}{x z:Da},Pt l x (s++t) z↔∃y,Pt l x s y/\Pt l y t z
 |[],t,x,z=>by
  rw[List.nil_append];constructor
  .exact λh=>⟨x,rfl,h⟩
  .rintro⟨y,rfl,h⟩;exact h
 |a::s,t,x,z=>by
  rw[List.cons_append,Pt,Pt.app];constructor
  .rintro⟨h1,h2,y,h3,h4⟩;exact⟨y,⟨h1,h2,h3⟩,h4⟩
  .rintro⟨y,⟨h1,h2,h3⟩,h4⟩;exact⟨h1,h2,y,h3,h4⟩
theorem Pt.is{l:List Za}:∀{s:List Da}{x y:Da},Pt l x s y->∀p∈s,isD l p
 |[],_,_,_,p,hp=>by simp at hp
 |a::s,x,y,h,p,hp=>by
  rcases List.mem_cons.1 hp with rfl|hp
  .exact h.2.1
  .exact Pt.is h.2.2 p hp
structure Lp(l:List Za)(f:List Da):Prop where
 ne:f≠[]
 nd:f.Nodup
 pt:∃x,Pt l x f x
theorem Lp.turn{l:List Za}{s t:List Da}(h:Lp l (s++t)):Lp l (t++s):=by
 obtain⟨x,hx⟩:=h.pt;obtain⟨y,h1,h2⟩:=Pt.app.1 hx;refine⟨?_,?_,y,Pt.app.2 ⟨x,h2,h1⟩⟩
 .intro e;obtain⟨a,b⟩:=List.append_eq_nil_iff.1 e;exact h.ne (by rw[a,b];rfl)
 .exact(List.perm_append_comm.nodup_iff).1 h.nd
theorem Lp.is{l:List Za}{f:List Da}(h:Lp l f):∀p∈f,isD l p:=h.pt.choose_spec.is
theorem Lp.hd{l:List Za}{a:Da}{t:List Da}(h:Lp l (a::t)):isD l a/\Pt l (bh l a) t a:=by
 obtain⟨x,hx⟩:=h.pt;rw[Pt]at hx;obtain⟨rfl,h1,h2⟩:=hx;exact⟨h1,h2⟩
theorem Lp.at{l:List Za}{f:List Da}(h:Lp l f){p:Da}(hp:p∈f):∃t,Lp l (p::t)/\f.Perm (p::t):=by
 obtain⟨s,t,rfl⟩:=List.append_of_mem hp;refine⟨t++s,?_,?_⟩
 .have:=h.turn;rwa[List.cons_append]at this
 .exact List.perm_middle.trans (List.Perm.cons _ List.perm_append_comm)
theorem Pt.cl{l:List Za}{C:Da->Prop}(hC:∀x,isD l x->C x->C (bh l x)):∀{s:List Da}{x y:Da},Pt l x s y->C x->(∀p∈s,C p)/\C y
 |[],x,y,h,hx=>by
  rw[Pt]at h;subst h;exact⟨by simp,hx⟩
 |a::s,x,y,h,hx=>by
  rw[Pt]at h;obtain⟨rfl,h1,h2⟩:=h;have:=Pt.cl hC h2 (hC _ h1 hx);refine⟨λp hp=>?_,this.2⟩;rcases List.mem_cons.1 hp with rfl|hp
  .exact hx
  .exact this.1 p hp
theorem Lp.cyc{l:List Za}{f:List Da}(h:Lp l f):Cyc l f:=by
 refine⟨h.ne,h.nd,h.is,λp hp=>?_,λC hC p hp q hq hCp=>?_⟩
 .obtain⟨t,h1,h2⟩:=h.at hp;have:=h1.hd.2;rw[h2.mem_iff]
  cases t with
  |nil=>rw[Pt]at this;rw[this];simp
  |cons b t=>rw[Pt]at this;rw[this.1];simp
 .obtain⟨t,h1,h2⟩:=h.at hp;have:=(h1.hd.2.cl hC (hC p h1.hd.1 hCp)).1;rcases List.mem_cons.1 (h2.mem_iff.1 hq)with rfl|k
  .exact hCp
  .exact this q k
theorem Zna{l:List Za}(hc:Ck l){x:Da}(hx:isD l x):∀n,Pt l x ((List.range n).map λi=>it l i x) (it l n x)
 |0=>rfl
 |n+1=>by
  rw[List.range_succ,List.map_append,Pt.app];exact⟨_,Zna hc hx n,rfl,Zeb hc hx n,rfl⟩
theorem Znv{l:List Za}(hc:Ck l){p:Da}(hp:isD l p):∃t,Lp l (p::t):=by
 obtain⟨K,e1,e2⟩:=Zhg hc (4*l.length+1) [] p Mets.nil hp (by simp);obtain⟨C,_⟩:=Zgo hc Mets.nil (by simp) hp (by simp);have nd:=C.nd;rw[List.nil_append]at e2;rw[e1]at nd e2;obtain⟨j,hj,e⟩:=List.mem_map.1 e2;rw[List.mem_range]at hj;have hK:it l K p=p:=by
  cases j with
  |zero=>exact e.symm
  | succ j=>
   cases K with
   |zero=>omega
   |succ K=>
    have:=ZbY hc (Zeb hc hp j) (Zeb hc hp K) e;have q:=List.pairwise_map.1 nd;rw[List.pairwise_iff_getElem]at q;have q2:=q j K (by simp;omega) (by simp) (by omega);rw[List.getElem_range,List.getElem_range]at q2;exact absurd this q2
 have P:=Zna hc hp K;rw[hK]at P
 cases K with
 |zero=>omega
 |succ K=>
  rw[List.range_succ_eq_map,List.map_cons]at P nd;exact⟨_,by simp,nd,p,P⟩
theorem Zcl{l:List Za}{s t:List Da}:ZW l (s++t)=ZW l s+ZW l t:=by
 unfold ZW tns;rw[List.map_append,List.sum_append]
theorem Zao{l:List Za}{a:Da}{t:List Da}:ZW l (a::t)=tt l a+ZW l t:=by
 unfold ZW tns tt;rw[List.map_cons,List.sum_cons]
theorem Zb7{l:List Za}{s t:List Da}(h:s.Perm t):ZW l s=ZW l t:=ZcU h
theorem Zcm{l:List Za}:ZW l []=0:=rfl

/-! An edge taken out. -/
structure Del(l m:List Za)(v d w:Nat):Prop where
 len:m.length=l.length
 hv:v<l.length
 hd:d<4
 hw:w<l.length
 hn:nx l v d=w
 nx:∀u e,u<l.length->e<4->nx m u e=if u=v/\e=d\/u=w/\e=(d+2)%4 then -1 else nx l u e
theorem Del.e{l m:List Za}{v d w:Nat}(D:Del l m v d w):isD l (v,d):=⟨D.hv,D.hd,by rw[D.hn];omega⟩
theorem Del.opp{l m:List Za}{v d w:Nat}(D:Del l m v d w):Mu.opp l (v,d)=(w,(d+2)%4):=by
 unfold Mu.opp;dsimp only;rw[D.hn,itn]
theorem Del.e'{l m:List Za}(hc:Ck l){v d w:Nat}(D:Del l m v d w):isD l (w,(d+2)%4):=by
 have:=D.e.opp hc;rwa[D.opp]at this
theorem Del.hb{l m:List Za}(hc:Ck l){v d w:Nat}(D:Del l m v d w):Mu.nx l w ((d+2)%4)=v:=by
 have:=(D.e.fwd hc).2;dsimp only at this;rwa[D.hn,itn]at this
theorem Del.ne{l m:List Za}(hc:Ck l){v d w:Nat}(D:Del l m v d w):w≠v:=by
 have:=Zrf hc D.e;rwa[D.opp]at this
theorem Del.isD{l m:List Za}{v d w:Nat}(D:Del l m v d w){p:Da}:isD m p↔isD l p/\p≠(v,d)/\p≠(w,(d+2)%4):=by
 unfold Mu.isD;rw[D.len];constructor
 .rintro⟨a,b,c⟩;rw[D.nx _ _ a b]at c;have hne:¬(p.1=v/\p.2=d\/p.1=w/\p.2=(d+2)%4):=by
   intro q;rw[if_pos q]at c;omega
  rw[if_neg hne]at c;refine⟨⟨a,b,c⟩,?_,?_⟩
  .rintro rfl;exact hne (.inl ⟨rfl,rfl⟩)
  .rintro rfl;exact hne (.inr ⟨rfl,rfl⟩)
 .rintro⟨⟨a,b,c⟩,h1,h2⟩;refine⟨a,b,?_⟩;rw[D.nx _ _ a b,if_neg]
  .exact c
  .rintro(⟨q1,q2⟩|⟨q1,q2⟩)
   .exact h1 (Prod.ext q1 q2)
   .exact h2 (Prod.ext q1 q2)
theorem Del.nx'{l m:List Za}{v d w:Nat}(D:Del l m v d w){p:Da}(h:Mu.isD m p):Mu.nx m p.1 p.2=Mu.nx l p.1 p.2:=by
 obtain⟨h1,h2,h3⟩:=D.isD.1 h;rw[D.nx _ _ h1.1 h1.2.1,if_neg];rintro(⟨q1,q2⟩|⟨q1,q2⟩)
 .exact h2 (Prod.ext q1 q2)
 .exact h3 (Prod.ext q1 q2)
theorem Zny:∀a b c d:Bool,∀i j:Fin 4,Zch a b c d j.1=true->Zch a b c d ((i.1+2)%4)=true->i.1≠(j.1+2)%4->
  prv (λe=>Zch a b c d e&&(e !=j.1)) i.1=(if prv (Zch a b c d) i.1=j.1 then prv (Zch a b c d) ((j.1+2)%4)else prv (Zch a b c d) i.1)/\
  tn i.1 (prv (λe=>Zch a b c d e&&(e !=j.1)) i.1)=(if prv (Zch a b c d) i.1=j.1 then tn i.1 (prv (Zch a b c d) i.1)+tn ((j.1+2)%4) (prv (Zch a b c d) ((j.1+2)%4))-2 else tn i.1 (prv (Zch a b c d) i.1)):=by decide+kernel
theorem Zly{A B:Nat->Bool}{i j:Nat}(hi:i<4)(hj:j<4)(h1:A j=true)(h2:A ((i+2)%4)=true)(h3:i≠(j+2)%4)(hB:∀e,e<4->B e=(A e&&(e !=j))) :
  prv B i=(if prv A i=j then prv A ((j+2)%4)else prv A i)/\tn i (prv B i)=(if prv A i=j then tn i (prv A i)+tn ((j+2)%4) (prv A ((j+2)%4))-2 else tn i (prv A i)):=by
 have:=Zny (A 0) (A 1) (A 2) (A 3) ⟨i,hi⟩ ⟨j,hj⟩ (by dsimp only;rw[Zc0 hj];exact h1) (by dsimp only;rw[Zc0 (by omega)];exact h2) h3;dsimp only at this;rw[Zdb hi,Zdb (show(j+2)%4<4 by omega)]at this;rw[show prv B i=prv (λe=>Zch (A 0) (A 1) (A 2) (A 3) e&&(e !=j)) i from Zdn (λe he=>by rw[hB e he,Zc0 he]) hi];exact this
theorem Del.bh{l m:List Za}(hc:Ck l){v d w:Nat}(D:Del l m v d w){p:Da}(h:Mu.isD m p) :
  bh m p=(if bh l p=(v,d)then bh l (w,(d+2)%4)else if bh l p=(w,(d+2)%4)then bh l (v,d)else bh l p)/\
  tt m p=(if bh l p=(v,d)then tt l p+tt l (w,(d+2)%4)-2 else if bh l p=(w,(d+2)%4)then tt l p+tt l (v,d)-2 else tt l p):=by
 obtain⟨h1,h2,h3⟩:=D.isD.1 h;have hne:=D.ne hc;have hd:=D.hd;have hb:=D.hb hc;have f:=h1.fwd hc;unfold tt;rw[ZbZ,ZbZ,D.nx' h,ZbZ (l:=l) (p:=(w,(d+2)%4)),ZbZ (l:=l) (p:=(v,d))];dsimp only;rw[hb,D.hn,itn,itn];have hp2:=h1.2.1
 -- the cell to which p leads
 generalize hu:(Mu.nx l p.1 p.2).toNat=u at*;have hA:(decide (0<=Mu.nx l u ((p.2+2)%4)))=true:=by rw[f.2];simp
 by_cases c1:u=v
 .subst c1;have hi:p.2≠(d+2)%4:=by
   intro q;apply h3;have e1:Mu.opp l p=(u,d):=by unfold Mu.opp;exact Prod.ext hu (by dsimp only;omega)
   rw[<-Zb3 hc h1,e1,D.opp]
  obtain⟨k1,k2⟩:=Zly (A:=λe=>decide (0<=Mu.nx l u e)) (B:=λe=>decide (0<=Mu.nx m u e)) hp2 hd (by rw[D.hn];simp) hA hi (λe he=>by
   rw[D.nx _ _ f.1 he];by_cases q:e=d
   .rw[if_pos (.inl ⟨rfl,q⟩),q];simp
   .rw[if_neg]
    .simp[q]
    .rintro(k|k)
     .exact q k.2
     .exact hne k.1.symm)
  rw[k2,k1];have n1:∀x,((u,x):Da)=(w,(d+2)%4)↔False:=λx=>⟨λk=>hne (congrArg Prod.fst k).symm,False.elim⟩;simp only[n1,if_false,Prod.mk.injEq,true_and];constructor
  .split<;>rfl
  .trivial
 .by_cases c2:u=w
  .subst c2;have hi:p.2≠((d+2)%4+2)%4:=by
    intro q;apply h2;have e1:Mu.opp l p=(u,(d+2)%4):=by unfold Mu.opp;exact Prod.ext hu (by dsimp only;omega)
    rw[<-Zb3 hc h1,e1,<-D.opp,Zb3 hc D.e]
   obtain⟨k1,k2⟩:=Zly (A:=λe=>decide (0<=Mu.nx l u e)) (B:=λe=>decide (0<=Mu.nx m u e)) hp2 (show(d+2)%4<4 by omega) (by rw[hb];simp) hA hi (λe he=>by
    rw[D.nx _ _ f.1 he];by_cases q:e=(d+2)%4
    .rw[if_pos (.inr ⟨rfl,q⟩),q];simp
    .rw[if_neg]
     .simp[q]
     .rintro(k|k)
      .exact c1 k.1
      .exact q k.2)
   rw[show((d+2)%4+2)%4=d by omega]at k1 k2;rw[k2,k1];have n1:∀x,((u,x):Da)=(v,d)↔False:=λx=>⟨λk=>c1 (congrArg Prod.fst k),False.elim⟩;simp only[n1,if_false,Prod.mk.injEq,true_and];constructor
   .split<;>rfl
   .trivial
  .have n1:∀x,((u,x):Da)=(v,d)↔False:=λx=>⟨λk=>c1 (congrArg Prod.fst k),False.elim⟩;have n2:∀x,((u,x):Da)=(w,(d+2)%4)↔False:=λx=>⟨λk=>c2 (congrArg Prod.fst k),False.elim⟩;have:prv (λe=>decide (0<=Mu.nx m u e)) p.2=prv (λe=>decide (0<=Mu.nx l u e)) p.2:=Zdn (λe he=>by
    rw[D.nx _ _ f.1 he,if_neg];rintro(k|k)
    .exact c1 k.1
    .exact c2 k.1) hp2
   simp only[n1,n2,if_false,this];exact⟨trivial,trivial⟩
end Mu
