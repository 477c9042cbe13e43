/- The law, plainly: what is worked out. -/
import Derived.Test.YtfdidkebomeiaaaMuV
import Derived.Test.YtfdidkebomeiaaaMuDf
/- Layer 10: cells,made of places. -/
set_option linter.unusedVariables false
set_option linter.unusedSimpArgs false
set_option maxRecDepth 10000
namespace Mu

def nx (l:List Za) (v d:Nat):Int:=((gi l v).Next).get (d:Int)
def ow (l:List Za) (v d:Nat):Int:=((gi l v).Owner).get (d:Int)
theorem ZdA {α:Type} {x:A4 α} {i j:Nat} {v:α} (hi:i < 4) (hj:j < 4):(x.set (i:Int) v).get (j:Int) = if j = i then v else x.get (j:Int):=by
 match i,j,hi,hj with
 | 0,0,_,_ | 0,1,_,_ | 0,2,_,_ | 0,3,_,_ | 1,0,_,_ | 1,1,_,_ | 1,2,_,_ | 1,3,_,_ | 2,0,_,_ | 2,1,_,_ | 2,2,_,_ | 2,3,_,_ | 3,0,_,_ | 3,1,_,_ | 3,2,_,_ | 3,3,_,_=>rfl
def noC:Za:=⟨⟨-1,-1,-1,-1⟩,⟨0,0,0,0⟩⟩
theorem Zc1 {α:Type} [Inhabited α] {n i:Nat} {f:Nat→α} (h:i < n):gi ((List.range n).map f) i = f i:=by
 rw [Za1 (by simpa using h)]; simp
theorem Zc2 {α:Type} [Inhabited α] {l m:List α} (h:l.length = m.length) (hg:∀ i,i < l.length→gi l i = gi m i):l = m:=by
 apply List.ext_getElem h
 intro i h1 h2
 have:=hg i h1
 rw [Za1 h1,Za1 h2] at this
 exact this

/-! New -/
theorem Zne {n:Nat} (hn:n≤1000000000):zf n = some (List.replicate n noC):=by
 unfold zf
 rw [Z8 (by omega),Int.toNat_natCast,Zgi (x:=List.replicate n noC)]
 refine Zbx (fun i:Nat=>(List.replicate i noC++List.replicate (n - i) ⟨⟨0,0,0,0⟩,⟨0,0,0,0⟩⟩,(i:Int))) (n:=n) (ZaI (by omega)) (by simp) (fun i hi=>?_) ?_
 ·have e1:List.replicate (n - i) (⟨⟨0,0,0,0⟩,⟨0,0,0,0⟩⟩:Za) = ⟨⟨0,0,0,0⟩,⟨0,0,0,0⟩⟩ :: List.replicate (n - (i + 1)) ⟨⟨0,0,0,0⟩,⟨0,0,0,0⟩⟩:=by
   rw [show n - i = n - (i + 1) + 1 by omega,List.replicate_succ]
  have e2:List.replicate (i + 1) noC = List.replicate i noC++[noC]:=by rw [List.replicate_succ']
  have inner:ZV (zf.s1 i) big (List.replicate i noC++List.replicate (n - i) ⟨⟨0,0,0,0⟩,⟨0,0,0,0⟩⟩,0) = some (List.replicate (i + 1) noC++List.replicate (n - (i + 1)) ⟨⟨0,0,0,0⟩,⟨0,0,0,0⟩⟩):=by
   rw [e1,e2]
   generalize List.replicate (n - (i + 1)) (⟨⟨0,0,0,0⟩,⟨0,0,0,0⟩⟩:Za) = r
   refine Zbx (fun k:Nat=>(List.replicate i noC++(⟨⟨if 0 < k then -1 else 0,if 1 < k then -1 else 0,if 2 < k then -1 else 0,if 3 < k then -1 else 0⟩,⟨0,0,0,0⟩⟩:Za) :: r,(k:Int))) (n:=4) (ZaI (by omega)) rfl (fun k hk=>?_) ?_
   ·have hlen:(List.replicate i noC).length = i:=by simp
    have g:∀ c:Za,gi (List.replicate i noC++c :: r) i = c:=by
     intro c
     have:=Zbu (l:=List.replicate i noC) (m:=c :: r) (i:=0)
     rw [hlen,Nat.add_zero] at this
     rw [this]; rfl
    have st:∀ c d:Za,(List.replicate i noC++c :: r).set i d = List.replicate i noC++d :: r:=by
     intro c d
     rw [List.set_append_right _ _ (by simp)]
     simp
    simp only [zf.s1]
    rw [ZG (by omega),Z8 (by simp; omega),Z8 (by omega),Z8 (by omega),Int.toNat_natCast,g,st]
    match k,hk with
    | 0,_ | 1,_ | 2,_ | 3,_=>rfl
   ·simp only [zf.s1]
    rw [ZF (by omega)]
    simp [noC]
  simp only [zf.s0]
  rw [ZG (by omega),inner,Option.bind_some,Z8 (by omega)]
  rfl
 ·simp only [zf.s0]
  rw [ZF (by omega)]
  simp

/-! The nearest -/
def Zfl (at_:List Ze) (i d k:Nat):Prop:=k < at_.length∧if d = 0 then (gi at_ k).Y = (gi at_ i).Y∧(gi at_ i).X < (gi at_ k).X else (gi at_ k).X = (gi at_ i).X∧(gi at_ i).Y < (gi at_ k).Y
def Zci (at_:List Ze) (d j k:Nat):Prop:=if d = 0 then (gi at_ j).X≤(gi at_ k).X else (gi at_ j).Y≤(gi at_ k).Y
def Zcx (at_:List Ze) (i d n:Nat) (w:Int):Prop:=(w = -1∧∀ k,k < n→¬ Zfl at_ i d k)∨∃ j:Nat,w = j∧j < n∧Zfl at_ i d j∧∀ k,k < n→Zfl at_ i d k→Zci at_ d j k
instance {at_ i d k}:Decidable (Zfl at_ i d k):=by unfold Zfl; infer_instance
instance {at_ d j k}:Decidable (Zci at_ d j k):=by unfold Zci; infer_instance
theorem ZhH {at_:List Ze} {i d n:Nat} (hl:at_.length≤1000) (hi:i < at_.length) (hd:d < 2) (hn:n < at_.length) {w:Int} (hw:Zcx at_ i d n w):∃ w',Zcx at_ i d (n + 1) w'∧ZI.s0 at_ i d (w,n) = some (.inl (w',(n:Int) + 1)):=by
 have hlow:¬ Zfl at_ i d n→Zcx at_ i d (n + 1) w:=by
  intro hc
  rcases hw with ⟨rfl,h⟩ | ⟨j,rfl,h1,h2,h3⟩
  ·refine .inl ⟨rfl,fun k hk=>?_⟩
   rcases Nat.lt_succ_iff_lt_or_eq.1 hk with h' | rfl
   ·exact h k h'
   ·exact hc
  ·refine .inr ⟨j,rfl,by omega,h2,fun k hk hk2=>?_⟩
   rcases Nat.lt_succ_iff_lt_or_eq.1 hk with h' | rfl
   ·exact h3 k h' hk2
   ·exact absurd hk2 hc
 have hnew:w = -1→Zfl at_ i d n→Zcx at_ i d (n + 1) n:=by
  intro hw1 hc
  rcases hw with ⟨_,h⟩ | ⟨j,h0,_⟩
  ·refine .inr ⟨n,rfl,by omega,hc,fun k hk hk2=>?_⟩
   rcases Nat.lt_succ_iff_lt_or_eq.1 hk with h' | rfl
   ·exact absurd hk2 (h k h')
   ·unfold Zci; split <;> omega
  ·omega
 have hkeep:∀ j:Nat,w = j→Zci at_ d j n→Zcx at_ i d (n + 1) w:=by
  intro j hj hc
  rcases hw with ⟨h0,_⟩ | ⟨j',h0,h1,h2,h3⟩
  ·omega
  ·have:j = j':=by omega
   subst this
   refine .inr ⟨j,h0,by omega,h2,fun k hk hk2=>?_⟩
   rcases Nat.lt_succ_iff_lt_or_eq.1 hk with h' | rfl
   ·exact h3 k h' hk2
   ·exact hc
 have hturn:∀ j:Nat,w = j→¬ Zci at_ d j n→Zfl at_ i d n→Zcx at_ i d (n + 1) n:=by
  intro j hj hc hcand
  rcases hw with ⟨h0,_⟩ | ⟨j',h0,h1,h2,h3⟩
  ·omega
  ·have:j = j':=by omega
   subst this
   refine .inr ⟨n,rfl,by omega,hcand,fun k hk hk2=>?_⟩
   rcases Nat.lt_succ_iff_lt_or_eq.1 hk with h' | rfl
   ·have h4:=h3 k h' hk2
    unfold Zci at h4 hc ⊢
    by_cases z:d = 0
    ·rw [if_pos z] at *; omega
    ·rw [if_neg z] at *; omega
   ·unfold Zci; split <;> omega
 have hwc:w = -1∨∃ j:Nat,w = j∧j < n:=by
  rcases hw with ⟨h,_⟩ | ⟨j,h,h2,_⟩
  ·exact .inl h
  ·exact .inr ⟨j,h,h2⟩
 have hd':d = 0∨d = 1:=by omega
 rcases hd' with rfl | rfl
 ·have z:((0:Nat):Int) = 0:=rfl
  by_cases hY:(gi at_ n).Y = (gi at_ i).Y
  ·by_cases hX:(gi at_ i).X < (gi at_ n).X
   ·have hc:Zfl at_ i 0 n:=⟨hn,by rw [if_pos rfl]; exact ⟨hY,hX⟩⟩
    rcases hwc with rfl | ⟨j,rfl,hj⟩
    ·refine ⟨n,hnew rfl hc,?_⟩
     simp (disch:=omega) only [ZI.s0,z,hY,Z8,ZbA,Zd3,ZG,ZF,ZaP,Zam,ZaV,Zbj,Option.bind_some,Int.toNat_natCast,List.length_append,List.length_cons,List.length_nil,Nat.zero_add,if_true,if_false,Bool.false_eq_true,Bool.not_true,Bool.not_false,Bool.true_and,Bool.false_and,Bool.and_true,Bool.and_false,Bool.true_or,Bool.false_or,Bool.or_true,Bool.or_false,decide_true,decide_false,Bool.not_eq_true,Bool.decide_eq_true,Int.reduceToNat]
     try simp (disch:=omega) only [Z8,ZbA,Zd3,ZG,ZF,ZaP,Zam,ZaV,Zbj,Option.bind_some,Int.toNat_natCast,List.length_append,List.length_cons,List.length_nil,Nat.zero_add,if_true,if_false,Bool.false_eq_true,Bool.not_true,Bool.not_false,Bool.true_and,Bool.false_and,Bool.and_true,Bool.and_false,Bool.true_or,Bool.false_or,Bool.or_true,Bool.or_false,decide_true,decide_false,Bool.not_eq_true,Bool.decide_eq_true,Int.reduceToNat]
    ·by_cases hcl:Zci at_ 0 j n
     ·refine ⟨j,hkeep j rfl hcl,?_⟩
      have hcl':(gi at_ j).X≤(gi at_ n).X:=by simpa [Zci] using hcl
      simp (disch:=omega) only [ZI.s0,z,hY,Z8,ZbA,Zd3,ZG,ZF,ZaP,Zam,ZaV,Zbj,Option.bind_some,Int.toNat_natCast,List.length_append,List.length_cons,List.length_nil,Nat.zero_add,if_true,if_false,Bool.false_eq_true,Bool.not_true,Bool.not_false,Bool.true_and,Bool.false_and,Bool.and_true,Bool.and_false,Bool.true_or,Bool.false_or,Bool.or_true,Bool.or_false,decide_true,decide_false,Bool.not_eq_true,Bool.decide_eq_true,Int.reduceToNat]
      try simp (disch:=omega) only [Z8,ZbA,Zd3,ZG,ZF,ZaP,Zam,ZaV,Zbj,Option.bind_some,Int.toNat_natCast,List.length_append,List.length_cons,List.length_nil,Nat.zero_add,if_true,if_false,Bool.false_eq_true,Bool.not_true,Bool.not_false,Bool.true_and,Bool.false_and,Bool.and_true,Bool.and_false,Bool.true_or,Bool.false_or,Bool.or_true,Bool.or_false,decide_true,decide_false,Bool.not_eq_true,Bool.decide_eq_true,Int.reduceToNat]
     ·refine ⟨n,hturn j rfl hcl hc,?_⟩
      have hcl':¬ (gi at_ j).X≤(gi at_ n).X:=by simpa [Zci] using hcl
      simp (disch:=omega) only [ZI.s0,z,hY,Z8,ZbA,Zd3,ZG,ZF,ZaP,Zam,ZaV,Zbj,Option.bind_some,Int.toNat_natCast,List.length_append,List.length_cons,List.length_nil,Nat.zero_add,if_true,if_false,Bool.false_eq_true,Bool.not_true,Bool.not_false,Bool.true_and,Bool.false_and,Bool.and_true,Bool.and_false,Bool.true_or,Bool.false_or,Bool.or_true,Bool.or_false,decide_true,decide_false,Bool.not_eq_true,Bool.decide_eq_true,Int.reduceToNat]
      try simp (disch:=omega) only [Z8,ZbA,Zd3,ZG,ZF,ZaP,Zam,ZaV,Zbj,Option.bind_some,Int.toNat_natCast,List.length_append,List.length_cons,List.length_nil,Nat.zero_add,if_true,if_false,Bool.false_eq_true,Bool.not_true,Bool.not_false,Bool.true_and,Bool.false_and,Bool.and_true,Bool.and_false,Bool.true_or,Bool.false_or,Bool.or_true,Bool.or_false,decide_true,decide_false,Bool.not_eq_true,Bool.decide_eq_true,Int.reduceToNat]
   ·refine ⟨w,hlow (fun hc=>hX (by have:=hc.2; rw [if_pos rfl] at this; exact this.2)),?_⟩
    simp (disch:=omega) only [ZI.s0,z,hY,Z8,ZbA,Zd3,ZG,ZF,ZaP,Zam,ZaV,Zbj,Option.bind_some,Int.toNat_natCast,List.length_append,List.length_cons,List.length_nil,Nat.zero_add,if_true,if_false,Bool.false_eq_true,Bool.not_true,Bool.not_false,Bool.true_and,Bool.false_and,Bool.and_true,Bool.and_false,Bool.true_or,Bool.false_or,Bool.or_true,Bool.or_false,decide_true,decide_false,Bool.not_eq_true,Bool.decide_eq_true,Int.reduceToNat]
    try simp (disch:=omega) only [Z8,ZbA,Zd3,ZG,ZF,ZaP,Zam,ZaV,Zbj,Option.bind_some,Int.toNat_natCast,List.length_append,List.length_cons,List.length_nil,Nat.zero_add,if_true,if_false,Bool.false_eq_true,Bool.not_true,Bool.not_false,Bool.true_and,Bool.false_and,Bool.and_true,Bool.and_false,Bool.true_or,Bool.false_or,Bool.or_true,Bool.or_false,decide_true,decide_false,Bool.not_eq_true,Bool.decide_eq_true,Int.reduceToNat]
  ·refine ⟨w,hlow (fun hc=>hY (by have:=hc.2; rw [if_pos rfl] at this; exact this.1)),?_⟩
   simp (disch:=omega) only [ZI.s0,z,hY,Z8,ZbA,Zd3,ZG,ZF,ZaP,Zam,ZaV,Zbj,Option.bind_some,Int.toNat_natCast,List.length_append,List.length_cons,List.length_nil,Nat.zero_add,if_true,if_false,Bool.false_eq_true,Bool.not_true,Bool.not_false,Bool.true_and,Bool.false_and,Bool.and_true,Bool.and_false,Bool.true_or,Bool.false_or,Bool.or_true,Bool.or_false,decide_true,decide_false,Bool.not_eq_true,Bool.decide_eq_true,Int.reduceToNat]
   try simp (disch:=omega) only [Z8,ZbA,Zd3,ZG,ZF,ZaP,Zam,ZaV,Zbj,Option.bind_some,Int.toNat_natCast,List.length_append,List.length_cons,List.length_nil,Nat.zero_add,if_true,if_false,Bool.false_eq_true,Bool.not_true,Bool.not_false,Bool.true_and,Bool.false_and,Bool.and_true,Bool.and_false,Bool.true_or,Bool.false_or,Bool.or_true,Bool.or_false,decide_true,decide_false,Bool.not_eq_true,Bool.decide_eq_true,Int.reduceToNat]
 ·have z:((1:Nat):Int) = 1:=rfl
  by_cases hY:(gi at_ n).X = (gi at_ i).X
  ·by_cases hX:(gi at_ i).Y < (gi at_ n).Y
   ·have hc:Zfl at_ i 1 n:=⟨hn,by rw [if_neg (by decide)]; exact ⟨hY,hX⟩⟩
    rcases hwc with rfl | ⟨j,rfl,hj⟩
    ·refine ⟨n,hnew rfl hc,?_⟩
     simp (disch:=omega) only [ZI.s0,z,hY,Z8,ZbA,Zd3,ZG,ZF,ZaP,Zam,ZaV,Zbj,Option.bind_some,Int.toNat_natCast,List.length_append,List.length_cons,List.length_nil,Nat.zero_add,if_true,if_false,Bool.false_eq_true,Bool.not_true,Bool.not_false,Bool.true_and,Bool.false_and,Bool.and_true,Bool.and_false,Bool.true_or,Bool.false_or,Bool.or_true,Bool.or_false,decide_true,decide_false,Bool.not_eq_true,Bool.decide_eq_true,Int.reduceToNat]
     try simp (disch:=omega) only [Z8,ZbA,Zd3,ZG,ZF,ZaP,Zam,ZaV,Zbj,Option.bind_some,Int.toNat_natCast,List.length_append,List.length_cons,List.length_nil,Nat.zero_add,if_true,if_false,Bool.false_eq_true,Bool.not_true,Bool.not_false,Bool.true_and,Bool.false_and,Bool.and_true,Bool.and_false,Bool.true_or,Bool.false_or,Bool.or_true,Bool.or_false,decide_true,decide_false,Bool.not_eq_true,Bool.decide_eq_true,Int.reduceToNat]
    ·by_cases hcl:Zci at_ 1 j n
     ·refine ⟨j,hkeep j rfl hcl,?_⟩
      have hcl':(gi at_ j).Y≤(gi at_ n).Y:=by simpa [Zci] using hcl
      simp (disch:=omega) only [ZI.s0,z,hY,Z8,ZbA,Zd3,ZG,ZF,ZaP,Zam,ZaV,Zbj,Option.bind_some,Int.toNat_natCast,List.length_append,List.length_cons,List.length_nil,Nat.zero_add,if_true,if_false,Bool.false_eq_true,Bool.not_true,Bool.not_false,Bool.true_and,Bool.false_and,Bool.and_true,Bool.and_false,Bool.true_or,Bool.false_or,Bool.or_true,Bool.or_false,decide_true,decide_false,Bool.not_eq_true,Bool.decide_eq_true,Int.reduceToNat]
      try simp (disch:=omega) only [Z8,ZbA,Zd3,ZG,ZF,ZaP,Zam,ZaV,Zbj,Option.bind_some,Int.toNat_natCast,List.length_append,List.length_cons,List.length_nil,Nat.zero_add,if_true,if_false,Bool.false_eq_true,Bool.not_true,Bool.not_false,Bool.true_and,Bool.false_and,Bool.and_true,Bool.and_false,Bool.true_or,Bool.false_or,Bool.or_true,Bool.or_false,decide_true,decide_false,Bool.not_eq_true,Bool.decide_eq_true,Int.reduceToNat]
     ·refine ⟨n,hturn j rfl hcl hc,?_⟩
      have hcl':¬ (gi at_ j).Y≤(gi at_ n).Y:=by simpa [Zci] using hcl
      simp (disch:=omega) only [ZI.s0,z,hY,Z8,ZbA,Zd3,ZG,ZF,ZaP,Zam,ZaV,Zbj,Option.bind_some,Int.toNat_natCast,List.length_append,List.length_cons,List.length_nil,Nat.zero_add,if_true,if_false,Bool.false_eq_true,Bool.not_true,Bool.not_false,Bool.true_and,Bool.false_and,Bool.and_true,Bool.and_false,Bool.true_or,Bool.false_or,Bool.or_true,Bool.or_false,decide_true,decide_false,Bool.not_eq_true,Bool.decide_eq_true,Int.reduceToNat]
      try simp (disch:=omega) only [Z8,ZbA,Zd3,ZG,ZF,ZaP,Zam,ZaV,Zbj,Option.bind_some,Int.toNat_natCast,List.length_append,List.length_cons,List.length_nil,Nat.zero_add,if_true,if_false,Bool.false_eq_true,Bool.not_true,Bool.not_false,Bool.true_and,Bool.false_and,Bool.and_true,Bool.and_false,Bool.true_or,Bool.false_or,Bool.or_true,Bool.or_false,decide_true,decide_false,Bool.not_eq_true,Bool.decide_eq_true,Int.reduceToNat]
   ·refine ⟨w,hlow (fun hc=>hX (by have:=hc.2; rw [if_neg (by decide)] at this; exact this.2)),?_⟩
    simp (disch:=omega) only [ZI.s0,z,hY,Z8,ZbA,Zd3,ZG,ZF,ZaP,Zam,ZaV,Zbj,Option.bind_some,Int.toNat_natCast,List.length_append,List.length_cons,List.length_nil,Nat.zero_add,if_true,if_false,Bool.false_eq_true,Bool.not_true,Bool.not_false,Bool.true_and,Bool.false_and,Bool.and_true,Bool.and_false,Bool.true_or,Bool.false_or,Bool.or_true,Bool.or_false,decide_true,decide_false,Bool.not_eq_true,Bool.decide_eq_true,Int.reduceToNat]
    try simp (disch:=omega) only [Z8,ZbA,Zd3,ZG,ZF,ZaP,Zam,ZaV,Zbj,Option.bind_some,Int.toNat_natCast,List.length_append,List.length_cons,List.length_nil,Nat.zero_add,if_true,if_false,Bool.false_eq_true,Bool.not_true,Bool.not_false,Bool.true_and,Bool.false_and,Bool.and_true,Bool.and_false,Bool.true_or,Bool.false_or,Bool.or_true,Bool.or_false,decide_true,decide_false,Bool.not_eq_true,Bool.decide_eq_true,Int.reduceToNat]
  ·refine ⟨w,hlow (fun hc=>hY (by have:=hc.2; rw [if_neg (by decide)] at this; exact this.1)),?_⟩
   simp (disch:=omega) only [ZI.s0,z,hY,Z8,ZbA,Zd3,ZG,ZF,ZaP,Zam,ZaV,Zbj,Option.bind_some,Int.toNat_natCast,List.length_append,List.length_cons,List.length_nil,Nat.zero_add,if_true,if_false,Bool.false_eq_true,Bool.not_true,Bool.not_false,Bool.true_and,Bool.false_and,Bool.and_true,Bool.and_false,Bool.true_or,Bool.false_or,Bool.or_true,Bool.or_false,decide_true,decide_false,Bool.not_eq_true,Bool.decide_eq_true,Int.reduceToNat]
   try simp (disch:=omega) only [Z8,ZbA,Zd3,ZG,ZF,ZaP,Zam,ZaV,Zbj,Option.bind_some,Int.toNat_natCast,List.length_append,List.length_cons,List.length_nil,Nat.zero_add,if_true,if_false,Bool.false_eq_true,Bool.not_true,Bool.not_false,Bool.true_and,Bool.false_and,Bool.and_true,Bool.and_false,Bool.true_or,Bool.false_or,Bool.or_true,Bool.or_false,decide_true,decide_false,Bool.not_eq_true,Bool.decide_eq_true,Int.reduceToNat]
theorem Zce {σ ρ:Type} {step:σ→Option (σ ⊕ ρ)} {n:Nat} (I:Nat→σ→Prop) {s0:σ} {R:ρ→Prop} (hn:n < big) (h0:I 0 s0) (hs:∀ i s,i < n→I i s→∃ s',step s = some (.inl s')∧I (i + 1) s') (he:∀ s,I n s→∃ r,step s = some (.inr r)∧R r):∃ r,ZV step big s0 = some r∧R r:=by
 have key:∀ k i s,i + k = n→I i s→∃ r,ZV step (k + 1) s = some r∧R r:=by
  intro k
  induction k with
  | zero =>
   intro i s hi hI
   obtain rfl:i = n:=by omega
   obtain ⟨r,hr,hR⟩:=he s hI
   exact ⟨r,by simp only [ZV,hr],hR⟩
  | succ k ih =>
   intro i s hi hI
   obtain ⟨s',hs',hI'⟩:=hs i s (by omega) hI
   obtain ⟨r,hr,hR⟩:=ih (i + 1) s' (by omega) hI'
   exact ⟨r,by rw [ZV,hs']; exact hr,hR⟩
 obtain ⟨r,hr,hR⟩:=key n 0 s0 (by omega) h0
 exact ⟨r,Zc3 hr (by unfold big at *; omega),hR⟩
theorem ZmB {at_:List Ze} {i d:Nat} (hl:at_.length≤1000) (hi:i < at_.length) (hd:d < 2):∃ w,ZI at_ i d = some w∧Zcx at_ i d at_.length w:=by
 obtain ⟨r,hr,hR⟩:=Zce (step:=ZI.s0 at_ i d) (n:=at_.length) (I:=fun n (s:Int × Int)=>s.2 = n∧Zcx at_ i d n s.1) (s0:=((-1:Int),(0:Int))) (R:=Zcx at_ i d at_.length) (ZaI (by omega)) ⟨rfl,.inl ⟨rfl,fun k hk=>by omega⟩⟩ (fun n (s:Int × Int) hn hs=>by
  obtain ⟨w,m⟩:=s
  obtain ⟨rfl,hw⟩:=hs
  obtain ⟨w',h1,h2⟩:=ZhH hl hi hd hn hw
  exact ⟨_,h2,rfl,h1⟩) (fun (s:Int × Int) hs=>by
  obtain ⟨w,m⟩:=s
  obtain ⟨rfl,hw⟩:=hs
  exact ⟨w,by simp only [ZI.s0]; rw [ZF (by omega)],hw⟩)
 exact ⟨r,by unfold ZI; rw [hr]; rfl,hR⟩
end Mu
/- Layer 10: crossed,with,make. -/
set_option linter.unusedVariables false
set_option linter.unusedSimpArgs false
set_option maxRecDepth 10000
namespace Mu

theorem zM {α:Type} {x:Int} {o:Option α} (h:-9223372036854775808≤x∧x≤9223372036854775807):ck (Zaj x) o = o:=Z8 h
def ZcR (at_:List Ze) (l:List Za) (i w a d:Nat):Bool :=
 let p:=gi at_ a
 let q:=gi at_ (nx l a d).toNat
 let s:=gi at_ i
 let t:=gi at_ w
 decide (0≤nx l a d) && ((decide (p.Y = q.Y) && decide (s.X = t.X) && decide (p.X < s.X) && decide (s.X < q.X) && decide (s.Y < p.Y) && decide (p.Y < t.Y)) || (decide (p.X = q.X) && decide (s.Y = t.Y) && decide (s.X < p.X) && decide (p.X < t.X) && decide (p.Y < s.Y) && decide (s.Y < q.Y)))
theorem Zlp {a:Bool} {b:Bool}:(if a = true then some b else some false) = some (a && b):=by cases a <;> rfl
theorem Zk1 {at_:List Ze} {l:List Za} {i w a d:Nat} (hl:at_.length = l.length) (hi:i < l.length) (hw:w < l.length) (ha:a < l.length) (hd:d < 2) (hn:nx l a d < l.length):ZH.s1 at_ l i w a d = some (if ZcR at_ l i w a d = true then .inr (.inr ()) else .inl ((d:Int) + 1)):=by
 unfold ZH.s1
 rw [ZG (by omega),Z8 (by omega),Z8 (by omega),Int.toNat_natCast]
 have e:((gi l a).Next).get (d:Int) = nx l a d:=rfl
 rw [e]
 unfold ZcR
 by_cases h0:nx l a d < 0
 ·rw [ZG h0,zM (by omega),Zbj (show ¬ 0≤nx l a d by omega)]
  simp
 ·rw [ZF h0,Z8 (by omega),Z8 (by omega),ZaV (show 0≤nx l a d by omega)]
  have k1:∀ (α:Type) (o:Option α),ck ((0:Int)≤(i:Int)∧(i:Int) < (at_.length:Int)) o = o:=fun _ _=>Z8 (by omega)
  have k2:∀ (α:Type) (o:Option α),ck ((0:Int)≤(w:Int)∧(w:Int) < (at_.length:Int)) o = o:=fun _ _=>Z8 (by omega)
  have k3:∀ (α:Type) (o:Option α),ck (Zaj ((d:Int) + 1)) o = o:=fun _ _=>zM (by omega)
  simp only [k1,k2,k3,Int.toNat_natCast,Option.bind_some,Zlp,Bool.true_and]
  generalize (decide ((gi at_ a).Y = (gi at_ (nx l a d).toNat).Y) && decide ((gi at_ i).X = (gi at_ w).X) && decide ((gi at_ a).X < (gi at_ i).X) && decide ((gi at_ i).X < (gi at_ (nx l a d).toNat).X) && decide ((gi at_ i).Y < (gi at_ a).Y) && decide ((gi at_ a).Y < (gi at_ w).Y)) = A
  generalize (decide ((gi at_ a).X = (gi at_ (nx l a d).toNat).X) && decide ((gi at_ i).Y = (gi at_ w).Y) && decide ((gi at_ i).X < (gi at_ a).X) && decide ((gi at_ a).X < (gi at_ w).X) && decide ((gi at_ a).Y < (gi at_ i).Y) && decide ((gi at_ i).Y < (gi at_ (nx l a d).toNat).Y)) = B
  cases A <;> cases B <;> rfl
def Ze0 (at_:List Ze) (l:List Za) (i w a:Nat):Bool:=ZcR at_ l i w a 0 || ZcR at_ l i w a 1
def ZhA (at_:List Ze) (l:List Za) (i w:Nat):Bool:=(List.range l.length).any fun a=>Ze0 at_ l i w a
theorem Zk2 {at_:List Ze} {l:List Za} {i w a:Nat} (hl:at_.length = l.length) (hi:i < l.length) (hw:w < l.length) (hn:∀ a d,a < l.length→d < 2→nx l a d < l.length) (ha:a < l.length):ZV (ZH.s1 at_ l i w a) big 0 = some (if Ze0 at_ l i w a = true then .inr () else .inl ()):=by
 have h:ZV (ZH.s1 at_ l i w a) big 0 = some (match (List.range 2).find? (fun d=>ZcR at_ l i w a d) with | some i=>.inr ((fun _=>()) i) | none=>.inl ()):=by
  refine ZcD (ZaI (by omega)) (fun d hd=>?_) ?_
  ·exact Zk1 hl hi hw ha hd (hn a d ha hd)
  ·simp only [ZH.s1]
   rw [ZF (by omega)]
 rw [h]
 have e:(List.range 2).find? (fun d=>ZcR at_ l i w a d) = if ZcR at_ l i w a 0 = true then some 0 else if ZcR at_ l i w a 1 = true then some 1 else none:=by
  have:List.range 2 = [0,1]:=by decide
  rw [this]
  cases c0:ZcR at_ l i w a 0 <;> cases c1:ZcR at_ l i w a 1 <;> simp [c0,c1]
 rw [e]
 unfold Ze0
 cases c0:ZcR at_ l i w a 0 <;> cases c1:ZcR at_ l i w a 1 <;> simp
theorem Zk0 {at_:List Ze} {l:List Za} {i w a:Nat} (hl:at_.length = l.length) (h1000:l.length≤1000) (hi:i < l.length) (hw:w < l.length) (hn:∀ a d,a < l.length→d < 2→nx l a d < l.length) (ha:a < l.length):ZH.s0 at_ l i w a = some (if Ze0 at_ l i w a = true then .inr (.inr ()) else .inl ((a:Int) + 1)):=by
 simp only [ZH.s0]
 rw [ZG (by omega),Zk2 hl hi hw hn ha,Option.bind_some]
 by_cases c:Ze0 at_ l i w a = true
 ·rw [if_pos c,if_pos c]
 ·rw [if_neg c,if_neg c]
  dsimp only
  rw [zM (by omega)]
theorem Zk5 {at_:List Ze} {l:List Za} {i w:Nat}:ZH.s0 at_ l i w l.length = some (.inr (.inl ())):=by
 simp only [ZH.s0]
 rw [ZF (by omega)]
theorem Zjm {n:Nat} {P:Nat→Bool}:((List.range n).any P) = ((List.range n).find? P).isSome:=by
 rw [Bool.eq_iff_iff,List.find?_isSome,List.any_eq_true]
theorem Zk4 {at_:List Ze} {l:List Za} {i w:Nat} (hl:at_.length = l.length) (h1000:l.length≤1000) (hi:i < l.length) (hw:w < l.length) (hn:∀ a d,a < l.length→d < 2→nx l a d < l.length):ZV (ZH.s0 at_ l i w) big 0 = some (match (List.range l.length).find? (fun a=>Ze0 at_ l i w a) with | some i=>.inr ((fun _=>()) i) | none=>.inl ()) :=
 ZcD (ZaI (by omega)) (fun a ha=>Zk0 hl h1000 hi hw hn ha) Zk5
theorem Zj9 {at_:List Ze} {l:List Za} {i w:Nat} (hl:at_.length = l.length) (h1000:l.length≤1000) (hi:i < l.length) (hw:w < l.length) (hn:∀ a d,a < l.length→d < 2→nx l a d < l.length):ZH at_ l i w = some (ZhA at_ l i w):=by
 have h0:=Zk4 hl h1000 hi hw hn
 unfold ZH
 rw [h0]
 unfold ZhA
 rw [Zjm]
 cases h:(List.range l.length).find? fun a=>Ze0 at_ l i w a with
 | none=>simp
 | some j=>simp

/-! with -/
def wC1 (c:Za) (d w o:Int):Za:=⟨c.Next.set d w,c.Owner.set d o⟩
def wC (l:List Za) (v d w o:Int) (i:Nat):Za :=
 let c:=if (i:Int) = v then wC1 (gi l i) d w o else gi l i
 if (i:Int) = w then wC1 c ((d + 2).tmod 4) v o else c
def wth (l:List Za) (v d w o:Int):List Za:=(List.range l.length).map (wC l v d w o)
theorem Zcn {l:List Za} {v d w o:Int}:(wth l v d w o).length = l.length:=by simp [wth]
theorem ZmF {l:List Za} {v d w o:Int} (hl:l.length≤100000) (hd:0≤d∧d < 4):zA l v d w o = some (wth l v d w o):=by
 unfold zA
 rw [Zgi (x:=wth l v d w o)]
 refine Zbx (fun n:Nat=>((List.range n).map (wC l v d w o),(n:Int))) (n:=l.length) (ZaI (by omega)) rfl (fun n hn=>?_) ?_
 ·have hm:((List.range n).map (wC l v d w o)).length = n:=by simp
  have t:=Int.tmod_nonneg 4 (show (0:Int)≤d + 2 by omega)
  have t2:=Int.tmod_lt_of_pos (d + 2) (show (0:Int) < 4 by omega)
  rw [List.range_succ,List.map_append,List.map_cons,List.map_nil]
  simp only [zA.s0]
  rw [ZG (by omega),Z8 (by omega),Int.toNat_natCast]
  unfold wC
  by_cases c1:(n:Int) = v
  ·rw [ZG c1,Z8 hd,Option.bind_some]
   by_cases c2:(n:Int) = w
   ·rw [ZG c2,zM (by omega),Z8 (by omega),Z8 (by simp; omega),zM (by omega),if_pos c1,if_pos c2]
    rfl
   ·rw [ZF c2,Z8 (by simp; omega),zM (by omega),if_pos c1,if_neg c2]
    rfl
  ·rw [ZF c1,Option.bind_some]
   by_cases c2:(n:Int) = w
   ·rw [ZG c2,zM (by omega),Z8 (by omega),Z8 (by simp; omega),zM (by omega),if_neg c1,if_pos c2]
    rfl
   ·rw [ZF c2,Z8 (by simp; omega),zM (by omega),if_neg c1,if_neg c2]
    rfl
 ·simp only [zA.s0]
  rw [ZF (by omega)]
  rfl
theorem ZfI {l:List Za} {v w d i e:Nat} {o:Int} (hv:v < l.length) (hw:w < l.length) (hvw:v≠w) (hd:d < 4) (hi:i < l.length) (he:e < 4):nx (wth l v d w o) i e = (if i = v∧e = d then (w:Int) else if i = w∧e = (d + 2) % 4 then (v:Int) else nx l i e)∧ow (wth l v d w o) i e = (if i = v∧e = d then o else if i = w∧e = (d + 2) % 4 then o else ow l i e):=by
 have hb:(((d:Int) + 2).tmod 4) = (((d + 2) % 4:Nat):Int):=by
  match d,hd with
  | 0,_ | 1,_ | 2,_ | 3,_=>rfl
 have g:gi (wth l v d w o) i = wC l v d w o i:=Zc1 hi
 unfold nx ow
 rw [g]
 unfold wC
 rw [hb]
 by_cases c1:i = v
 ·subst c1
  rw [if_pos rfl,if_neg (show ¬ ((i:Nat):Int) = (w:Int) by omega)]
  simp only [wC1]
  rw [ZdA hd he,ZdA hd he]
  have:¬ (i = w):=hvw
  simp [this]
 ·rw [if_neg (show ¬ ((i:Nat):Int) = (v:Int) by omega)]
  by_cases c2:i = w
  ·subst c2
   rw [if_pos rfl]
   simp only [wC1]
   rw [ZdA (by omega) he,ZdA (by omega) he]
   simp [c1]
  ·rw [if_neg (show ¬ ((i:Nat):Int) = (w:Int) by omega)]
   simp [c1,c2]

/-! What may be. -/
structure Ck (l:List Za):Prop where
 s:∀ v d,v < l.length→d < 4→(nx l v d = -1∧ow l v d = 0)∨∃ w:Nat,nx l v d = w∧w < l.length∧w≠v∧nx l w ((d + 2) % 4) = v∧ow l w ((d + 2) % 4) = ow l v d∧-2≤ow l v d
theorem Ck.new (n:Nat):Ck (List.replicate n noC):=⟨fun v d hv hd=>.inl (by
 have:gi (List.replicate n noC) v = noC:=by rw [Za1 hv]; simp
 unfold nx ow; rw [this]
 match d,hd with
 | 0,_ | 1,_ | 2,_ | 3,_=>exact ⟨rfl,rfl⟩)⟩
theorem Ck.wth {l:List Za} (h:Ck l) {v w d:Nat} {o:Int} (hv:v < l.length) (hw:w < l.length) (hvw:v≠w) (hd:d < 4) (h1:nx l v d = -1) (h2:nx l w ((d + 2) % 4) = -1) (ho:-2≤o):Ck (wth l v d w o):=by
 refine ⟨fun i e hi he=>?_⟩
 rw [Zcn] at hi ⊢
 have n1:=fun i e hi he=>(ZfI (o:=o) hv hw hvw hd (i:=i) (e:=e) hi he).1
 have n2:=fun i e hi he=>(ZfI (o:=o) hv hw hvw hd (i:=i) (e:=e) hi he).2
 rw [n1 i e hi he,n2 i e hi he]
 by_cases c1:i = v∧e = d
 ·rw [if_pos c1,if_pos c1]
  refine .inr ⟨w,rfl,hw,by omega,?_,?_,ho⟩
  ·rw [n1 w _ hw (by omega),if_neg (by omega),if_pos ⟨rfl,by rw [c1.2]⟩,c1.1]
  ·rw [n2 w _ hw (by omega),if_neg (by omega),if_pos ⟨rfl,by rw [c1.2]⟩]
 ·rw [if_neg c1,if_neg c1]
  by_cases c2:i = w∧e = (d + 2) % 4
  ·rw [if_pos c2,if_pos c2]
   refine .inr ⟨v,rfl,hv,by omega,?_,?_,ho⟩
   ·rw [n1 v _ hv (by omega),if_pos ⟨rfl,by omega⟩,c2.1]
   ·rw [n2 v _ hv (by omega),if_pos ⟨rfl,by omega⟩]
  ·rw [if_neg c2,if_neg c2]
   rcases h.s i e hi he with hh | ⟨x,x1,x2,x3,x4,x5,x6⟩
   ·exact .inl hh
   ·refine .inr ⟨x,x1,x2,x3,?_,?_,x6⟩
    ·rw [n1 x _ x2 (by omega)]
     rw [if_neg (fun c=>by
      have:nx l x ((e + 2) % 4) = -1:=by rw [c.1,c.2]; exact h1
      omega)]
     rw [if_neg (fun c=>by
      have:nx l x ((e + 2) % 4) = -1:=by rw [c.1,c.2]; exact h2
      omega)]
     exact x4
    ·rw [n2 x _ x2 (by omega)]
     rw [if_neg (fun c=>by
      have:nx l x ((e + 2) % 4) = -1:=by rw [c.1,c.2]; exact h1
      omega)]
     rw [if_neg (fun c=>by
      have:nx l x ((e + 2) % 4) = -1:=by rw [c.1,c.2]; exact h2
      omega)]
     exact x5
end Mu
/- Layer 10: make. -/
set_option linter.unusedVariables false
set_option linter.unusedSimpArgs false
set_option maxRecDepth 10000
namespace Mu

theorem Zes {σ ρ:Type} {step:σ→Option (σ ⊕ ρ)} (μ:σ→Nat) (I:σ→Prop) {s0:σ} {R:ρ→Prop} (hn:μ s0 < big) (h0:I s0) (hs:∀ s,I s→(∃ s',step s = some (.inl s')∧I s'∧μ s' < μ s)∨∃ r,step s = some (.inr r)∧R r):∃ r,ZV step big s0 = some r∧R r:=by
 have key:∀ k s,μ s≤k→I s→∃ r,ZV step (k + 1) s = some r∧R r:=by
  intro k
  induction k with
  | zero =>
   intro s hk hI
   rcases hs s hI with ⟨s',h1,h2,h3⟩ | ⟨r,h1,h2⟩
   ·omega
   ·exact ⟨r,by simp only [ZV,h1],h2⟩
  | succ k ih =>
   intro s hk hI
   rcases hs s hI with ⟨s',h1,h2,h3⟩ | ⟨r,h1,h2⟩
   ·obtain ⟨r,hr,hR⟩:=ih s' (by omega) h2
    exact ⟨r,by rw [ZV,h1]; exact hr,hR⟩
   ·exact ⟨r,by rw [ZV,h1],h2⟩
 obtain ⟨r,hr,hR⟩:=key (μ s0) s0 (Nat.le_refl _) h0
 exact ⟨r,Zc3 hr (by omega),hR⟩

structure Pts (at_:List Ze):Prop where
 b:∀ i,i < at_.length→0≤(gi at_ i).X∧(gi at_ i).X < 8∧0≤(gi at_ i).Y∧(gi at_ i).Y < 8
 d:∀ i j,i < at_.length→j < at_.length→gi at_ i = gi at_ j→i = j
theorem Pts.nil:Pts []:=⟨fun i h=>by simp at h,fun i j h=>by simp at h⟩
theorem Pts.app {at_:List Ze} (h:Pts at_) {p:Ze} (hp:0≤p.X∧p.X < 8∧0≤p.Y∧p.Y < 8) (hn:∀ k,k < at_.length→gi at_ k≠p):Pts (at_++[p]):=by
 have g1:∀ i,i < at_.length→gi (at_++[p]) i = gi at_ i:=fun i hi=>Zb8 hi
 have g2:gi (at_++[p]) at_.length = p:=by
  have:=Zbu (l:=at_) (m:=[p]) (i:=0)
  rw [Nat.add_zero] at this
  rw [this]; rfl
 refine ⟨fun i hi=>?_,fun i j hi hj hij=>?_⟩
 ·simp only [List.length_append,List.length_cons,List.length_nil] at hi
  by_cases c:i < at_.length
  ·rw [g1 i c]; exact h.b i c
  ·rw [show i = at_.length by omega,g2]; exact hp
 ·simp only [List.length_append,List.length_cons,List.length_nil] at hi hj
  by_cases c:i < at_.length <;> by_cases c2:j < at_.length
  ·rw [g1 i c,g1 j c2] at hij; exact h.d i j c c2 hij
  ·rw [g1 i c,show j = at_.length by omega,g2] at hij; exact absurd hij (hn i c)
  ·rw [g1 j c2,show i = at_.length by omega,g2] at hij; exact absurd hij.symm (hn j c2)
  ·omega
theorem ZjF {at_:List Ze} (hp:Pts at_) {i j d:Nat} {w:Nat} (hi:i < at_.length) (hj:j < at_.length) (hd:d < 2) (h1:Zcx at_ i d at_.length w) (h2:Zcx at_ j d at_.length w):i = j:=by
 rcases h1 with ⟨h,_⟩ | ⟨w1,e1,l1,c1,m1⟩
 ·omega
 rcases h2 with ⟨h,_⟩ | ⟨w2,e2,l2,c2,m2⟩
 ·omega
 obtain rfl:w = w1:=by omega
 obtain rfl:w = w2:=by omega
 apply hp.d i j hi hj
 have x1:=m1 j hj
 have x2:=m2 i hi
 have c1:=c1.2
 have c2:=c2.2
 unfold Zfl Zci at x1 x2
 by_cases z:d = 0
 ·simp only [if_pos z] at *
  have hX:(gi at_ i).X = (gi at_ j).X:=by
   by_cases q1:(gi at_ i).X < (gi at_ j).X
   ·have:=x1 ⟨hj,by omega,q1⟩; omega
   ·by_cases q2:(gi at_ j).X < (gi at_ i).X
    ·have:=x2 ⟨hi,by omega,q2⟩; omega
    ·omega
  have hY:(gi at_ i).Y = (gi at_ j).Y:=by omega
  generalize gi at_ i = p at *
  generalize gi at_ j = q at *
  obtain ⟨a,b⟩:=p
  obtain ⟨a',b'⟩:=q
  simp only at hX hY
  rw [hX,hY]
 ·simp only [if_neg z] at *
  have hX:(gi at_ i).Y = (gi at_ j).Y:=by
   by_cases q1:(gi at_ i).Y < (gi at_ j).Y
   ·have:=x1 ⟨hj,by omega,q1⟩; omega
   ·by_cases q2:(gi at_ j).Y < (gi at_ i).Y
    ·have:=x2 ⟨hi,by omega,q2⟩; omega
    ·omega
  have hY:(gi at_ i).X = (gi at_ j).X:=by omega
  generalize gi at_ i = p at *
  generalize gi at_ j = q at *
  obtain ⟨a,b⟩:=p
  obtain ⟨a',b'⟩:=q
  simp only at hX hY
  rw [hX,hY]
structure Mk (at_:List Ze) (l:List Za) (i d:Nat):Prop where
 len:l.length = at_.length
 ck:Ck l
 near:∀ v e,v < l.length→e < 2→nx l v e = -1∨((v < i∨v = i∧e < d)∧Zcx at_ v e at_.length (nx l v e))
 own:∀ v e,v < l.length→e < 4→-2≤ow l v e∧ow l v e≤1000
theorem Mk.step {at_:List Ze} {l:List Za} {i d:Nat} (h:Mk at_ l i d):Mk at_ l i (d + 1) :=
 ⟨h.len,h.ck,fun v e hv he=>(h.near v e hv he).imp id (fun ⟨a,b⟩=>⟨by omega,b⟩),h.own⟩
theorem Mk.next {at_:List Ze} {l:List Za} {i:Nat} (h:Mk at_ l i 2):Mk at_ l (i + 1) 0 :=
 ⟨h.len,h.ck,fun v e hv he=>(h.near v e hv he).imp id (fun ⟨a,b⟩=>⟨by omega,b⟩),h.own⟩
theorem Ck.lt {l:List Za} (h:Ck l) {v d:Nat} (hv:v < l.length) (hd:d < 4):-1≤nx l v d∧nx l v d < l.length:=by
 rcases h.s v d hv hd with ⟨a,_⟩ | ⟨w,a,b,_⟩ <;> omega
theorem Mk.lay {at_:List Ze} (hp:Pts at_) {l:List Za} {i d w:Nat} {o:Int} (h:Mk at_ l i d) (hi:i < l.length) (hd:d < 2) (hw:Zcx at_ i d at_.length w) (ho:-2≤o∧o≤1000):Mk at_ (wth l i d w o) i (d + 1):=by
 have hl:=h.len
 have hwl:w < l.length∧Zfl at_ i d w:=by
  rcases hw with ⟨e,_⟩ | ⟨j,e,h1,h2,_⟩
  ·omega
  ·have:w = j:=by omega
   subst this; exact ⟨by omega,h2⟩
 have hne:i≠w:=by
  rintro rfl
  have:=hwl.2.2
  split at this <;> omega
 have n1:nx l i d = -1:=by
  rcases h.near i d hi (by omega) with e | ⟨e,_⟩
  ·exact e
  ·omega
 have n2:nx l w ((d + 2) % 4) = -1:=by
  rcases h.ck.s w ((d + 2) % 4) hwl.1 (by omega) with ⟨e,_⟩ | ⟨x,e1,e2,e3,e4,e5,e6⟩
  ·exact e
  ·rw [show ((d + 2) % 4 + 2) % 4 = d by omega] at e4
   rcases h.near x d e2 hd with e | ⟨e,e7⟩
   ·omega
   ·rw [e4] at e7
    have:=ZjF hp (by omega) (by omega) hd e7 hw
    subst this
    omega
 have m1:=fun v e hv he=>(ZfI (o:=o) hi hwl.1 hne (show d < 4 by omega) (i:=v) (e:=e) hv he).1
 have m2:=fun v e hv he=>(ZfI (o:=o) hi hwl.1 hne (show d < 4 by omega) (i:=v) (e:=e) hv he).2
 refine ⟨by rw [Zcn]; exact hl,h.ck.wth hi hwl.1 hne (by omega) n1 n2 ho.1,fun v e hv he=>?_,fun v e hv he=>?_⟩
 ·rw [Zcn] at hv
  rw [m1 v e hv (by omega)]
  by_cases c:v = i∧e = d
  ·rw [if_pos c]
   right
   refine ⟨by omega,?_⟩
   rw [c.1,c.2]; exact hw
  ·rw [if_neg c]
   rw [if_neg (fun c2=>by omega)]
   exact (h.near v e hv he).imp id (fun ⟨a,b⟩=>⟨by omega,b⟩)
 ·rw [Zcn] at hv
  rw [m2 v e hv he]
  by_cases c:v = i∧e = d
  ·rw [if_pos c]; exact ho
  ·rw [if_neg c]
   by_cases c2:v = w∧e = (d + 2) % 4
   ·rw [if_pos c2]; exact ho
   ·rw [if_neg c2]; exact h.own v e hv he
theorem ZlG {at_:List Ze} (hp:Pts at_) (h1000:at_.length≤1000) {l:List Za} {i:Nat} {b o:Int} (h:Mk at_ l i 0) (hi:i < l.length) (ho:-2≤o∧o≤1000):∃ l',ZV (Z9.s3 i b at_ o) big (l,0) = some l'∧Mk at_ l' i 2∧i < l'.length:=by
 refine Zce (n:=2) (I:=fun n (s:List Za × Int)=>s.2 = n∧Mk at_ s.1 i n∧i < s.1.length) (R:=fun l'=>Mk at_ l' i 2∧i < l'.length) (ZaI (by omega)) ⟨rfl,h,hi⟩ ?_ ?_
 ·rintro d ⟨l,x⟩ hd ⟨hx,hM,hi⟩
  dsimp only at hx hM hi
  subst hx
  have hl:=hM.len
  obtain ⟨w,hw,hN⟩:=ZmB (at_:=at_) (i:=i) (d:=d) h1000 (by omega) hd
  simp only [Z9.s3]
  rw [ZG (by omega),hw,Option.bind_some,Z8 (by omega),zM (by omega)]
  by_cases c:((decide (Zp .u8 (Z3 .u8 b d) 1 = 0)) || (decide (w < 0))) = true
  ·rw [if_pos c]
   exact ⟨_,rfl,rfl,hM.step,hi⟩
  ·rw [if_neg c]
   have hw0:¬ w < 0:=by
    intro hh
    apply c
    simp [hh]
   obtain ⟨wn,rfl⟩:∃ wn:Nat,w = wn:=⟨w.toNat,by omega⟩
   have hwl:wn < l.length:=by
    rcases hN with ⟨e,_⟩ | ⟨j,e,h1,h2,_⟩
    ·omega
    ·omega
   rw [Zj9 hl.symm (by omega) hi hwl (fun a e ha he=>(hM.ck.lt ha (by omega)).2),Option.bind_some,ZmF (by omega) (by omega)]
   by_cases c2:(!ZhA at_ l i wn) = true
   ·rw [if_pos c2,Option.bind_some,zM (by omega)]
    exact ⟨_,rfl,rfl,hM.lay hp hi hd hN ho,by rw [Zcn]; exact hi⟩
   ·rw [if_neg c2]
    exact ⟨_,rfl,rfl,hM.step,hi⟩
 ·rintro ⟨l,x⟩ ⟨hx,hM,hi⟩
  dsimp only at hx hM hi
  subst hx
  simp only [Z9.s3]
  rw [ZF (by omega)]
  exact ⟨_,rfl,hM,hi⟩

theorem ZlF {z:zj} {at_:List Ze} (hp:Pts at_) (h1000:at_.length≤1000) (hown:∀ y∈z.Own,Wf .i8 y) {l:List Za} (h:Mk at_ l 0 0):∃ r:List Ze × List Za,ZV (Z9.s2 z) big (at_,l,0) = some r∧r.1 = at_∧Mk at_ r.2 at_.length 0:=by
 refine Zce (n:=at_.length) (I:=fun n (s:List Ze × List Za × Int)=>s.1 = at_∧s.2.2 = n∧Mk at_ s.2.1 n 0) (s0:=(at_,l,(0:Int))) (R:=fun r:List Ze × List Za=>r.1 = at_∧Mk at_ r.2 at_.length 0) (ZaI (by omega)) ⟨rfl,rfl,h⟩ ?_ ?_
 ·rintro i ⟨a,l,x⟩ hi ⟨ha,hx,hM⟩
  dsimp only at ha hx hM
  subst ha hx
  have hb:∃ b,(if decide ((i:Int) < (z.Bits.length:Int)) = true then ck ((0:Int)≤(i:Int)∧(i:Int) < (z.Bits.length:Int)) (some (a,l,gi z.Bits (i:Int).toNat)) else some (a,l,3)) = some (a,l,b):=by
   by_cases c:(i:Int) < (z.Bits.length:Int)
   ·exact ⟨gi z.Bits i,by rw [ZG c,Z8 (by omega)]; rfl⟩
   ·exact ⟨3,by rw [ZF c]⟩
  have ho:∃ o:Int,(-2≤o∧o≤1000)∧(if decide ((i:Int) < (z.Own.length:Int)) = true then ck ((0:Int)≤(i:Int)∧(i:Int) < (z.Own.length:Int)) (ck (inK .i64 (gi z.Own (i:Int).toNat)) (if decide ((gi z.Own (i:Int).toNat) < (-2)) = true then ck (Zaj (-(gi z.Own (i:Int).toNat))) (some (a,l,-(gi z.Own (i:Int).toNat))) else some (a,l,gi z.Own (i:Int).toNat))) else some (a,l,(i:Int))) = some (a,l,o):=by
   by_cases c:(i:Int) < (z.Own.length:Int)
   ·have hw:=(hown _ (Zbl (show i < z.Own.length by omega))).i8
    rw [ZG c,Z8 (by omega),Int.toNat_natCast,ZbA (by omega)]
    by_cases c2:gi z.Own i < -2
    ·exact ⟨-(gi z.Own i),by omega,by rw [ZG c2,zM (by omega)]⟩
    ·exact ⟨gi z.Own i,by omega,by rw [ZF c2]⟩
   ·exact ⟨i,by omega,by rw [ZF c]⟩
  obtain ⟨b,hb⟩:=hb
  obtain ⟨o,ho1,ho⟩:=ho
  have hl:=hM.len
  obtain ⟨l',h1,h2,h3⟩:=ZlG (b:=b) hp h1000 hM (by omega) ho1
  simp only [Z9.s2]
  rw [ZG (by omega),hb,Option.bind_some]
  dsimp only
  rw [ho,Option.bind_some]
  dsimp only
  rw [h1,Option.bind_some,zM (by omega)]
  exact ⟨_,rfl,rfl,rfl,h2.next⟩
 ·rintro ⟨a,l,x⟩ ⟨ha,hx,hM⟩
  dsimp only at ha hx hM
  subst ha hx
  simp only [Z9.s2]
  rw [ZF (by omega)]
  exact ⟨_,rfl,rfl,hM⟩
theorem ZlE {z:zj} {at_:List Ze} {i:Nat} (h1000:at_.length≤1000):∃ m:Bool,ZV (Z9.s1 z at_ i) big (false,0) = some (at_,m)∧(m = false→∀ k,k < at_.length→gi at_ k≠(⟨(gi z.At i).tmod 8,((gi z.At i).tdiv 8).tmod 8⟩:Ze)):=by
 obtain ⟨r,h1,h2,h3⟩:=Zce (step:=Z9.s1 z at_ i) (s0:=((false:Bool),(0:Int))) (n:=at_.length) (I:=fun n (s:Bool × Int)=>s.2 = n∧(s.1 = false→∀ k,k < n→gi at_ k≠(⟨(gi z.At i).tmod 8,((gi z.At i).tdiv 8).tmod 8⟩:Ze))) (R:=fun r:List Ze × Bool=>r.1 = at_∧(r.2 = false→∀ k,k < at_.length→gi at_ k≠(⟨(gi z.At i).tmod 8,((gi z.At i).tdiv 8).tmod 8⟩:Ze))) (ZaI (by omega)) ⟨rfl,fun _ k hk=>by omega⟩ (by
  rintro n ⟨m,x⟩ hn ⟨hx,hm⟩
  dsimp only at hx hm
  subst hx
  simp only [Z9.s1]
  rw [ZG (by omega)]
  cases m with
  | true =>
   rw [if_pos rfl,Option.bind_some,zM (by omega)]
   exact ⟨_,rfl,rfl,fun h=>by cases h⟩
  | false =>
   rw [if_neg (by decide),Z8 (by omega),Option.bind_some,zM (by omega),Int.toNat_natCast,Int.toNat_natCast]
   refine ⟨_,rfl,rfl,fun h k hk=>?_⟩
   rcases Nat.lt_succ_iff_lt_or_eq.1 hk with h' | rfl
   ·exact hm rfl k h'
   ·simpa using h) (by
  rintro ⟨m,x⟩ ⟨hx,hm⟩
  dsimp only at hx hm
  subst hx
  simp only [Z9.s1]
  rw [ZF (by omega)]
  exact ⟨_,rfl,rfl,hm⟩)
 obtain ⟨a,m⟩:=r
 dsimp only at h2 h3
 subst h2
 exact ⟨m,h1,h3⟩
theorem ZlD {z:zj} {most:Int} (hm:0≤most∧most≤1000) (hlen:z.At.length≤9223372036854775807) (hat:∀ y∈z.At,Wf .u8 y):∃ a,ZV (Z9.s0 z most) big (([]:List Ze),0) = some a∧Pts a∧(a.length:Int)≤most:=by
 refine Zes (μ:=fun s:List Ze × Int=>((z.At.length:Int) - s.2).toNat) (I:=fun s=>0≤s.2∧Pts s.1∧(s.1.length:Int)≤most) (R:=fun a=>Pts a∧(a.length:Int)≤most) (ZaI (by omega)) ⟨by decide,Pts.nil,by simpa using hm.1⟩ ?_
 rintro ⟨a,i⟩ ⟨h1,h2,h3⟩
 dsimp only at h1 h2 h3
 obtain ⟨n,rfl⟩:∃ n:Nat,i = n:=⟨i.toNat,by omega⟩
 simp only [Z9.s0]
 by_cases c:((decide ((n:Int) < (z.At.length:Int))) && (decide ((a.length:Int) < most))) = true
 ·left
  rw [if_pos c]
  rw [Bool.and_eq_true,decide_eq_true_iff,decide_eq_true_iff] at c
  have hu:=(hat _ (Zbl (show n < z.At.length by omega))).u8
  obtain ⟨m,e1,e2⟩:=ZlE (z:=z) (at_:=a) (i:=n) (by omega)
  have hdv:0≤(gi z.At n).tdiv 8∧(gi z.At n).tdiv 8≤255:=by
   rw [Int.tdiv_eq_ediv_of_nonneg hu.1]; omega
  rw [Z8 (by omega),Int.toNat_natCast,ZbA (by omega),Z8 ⟨by omega,by constructor <;> omega⟩,e1,Option.bind_some]
  dsimp only
  cases m with
  | false =>
   rw [if_pos (by decide),Z8 (by simp; omega),zM (by omega)]
   refine ⟨_,rfl,⟨by omega,h2.app ?_ (e2 rfl),by simp; omega⟩,by dsimp only; omega⟩
   have a1:=Int.tmod_nonneg 8 hu.1
   have a2:=Int.tmod_lt_of_pos (gi z.At n) (show (0:Int) < 8 by omega)
   have a3:=Int.tmod_nonneg 8 hdv.1
   have a4:=Int.tmod_lt_of_pos ((gi z.At n).tdiv 8) (show (0:Int) < 8 by omega)
   exact ⟨a1,a2,a3,a4⟩
  | true =>
   rw [if_neg (by decide),zM (by omega)]
   exact ⟨_,rfl,⟨by dsimp only; omega,h2,h3⟩,by dsimp only; omega⟩
 ·right
  rw [if_neg c]
  exact ⟨_,rfl,h2,h3⟩
structure Made (l:List Za) (at_:List Ze):Prop where
 pts:Pts at_
 len:l.length = at_.length
 ck:Ck l
 near:∀ v e,v < l.length→e < 2→nx l v e = -1∨Zcx at_ v e at_.length (nx l v e)
 own:∀ v e,v < l.length→e < 4→-2≤ow l v e∧ow l v e≤1000
structure OkZ (z:zj):Prop where
 a:z.At.length≤9223372036854775807
 b:∀ y∈z.At,Wf .u8 y
 o:∀ y∈z.Own,Wf .i8 y
theorem Zm9 {z:zj} {most:Int} (hz:OkZ z) (hm:0≤most∧most≤1000):∃ l at_,Z9 z most = some (l,at_)∧Made l at_∧(l.length:Int)≤most:=by
 obtain ⟨a,h1,hp,hl⟩:=ZlD hm hz.a hz.b
 have hM:Mk a (List.replicate a.length noC) 0 0:=⟨by simp,Ck.new _,fun v e hv he=>.inl (by
   have:gi (List.replicate a.length noC) v = noC:=by rw [Za1 hv]; simp
   unfold nx; rw [this]
   match e,he with
   | 0,_ | 1,_=>rfl),fun v e hv he=>by
   have:gi (List.replicate a.length noC) v = noC:=by rw [Za1 hv]; simp
   unfold ow; rw [this]
   match e,he with
   | 0,_ | 1,_ | 2,_ | 3,_=>decide⟩
 obtain ⟨⟨a',l⟩,h2,h3,h4⟩:=ZlF (z:=z) hp (by omega) hz.o hM
 dsimp only at h3 h4
 subst h3
 refine ⟨l,a',?_,⟨hp,h4.len,h4.ck,fun v e hv he=>(h4.near v e hv he).imp id (·.2),h4.own⟩,by rw [h4.len]; exact hl⟩
 unfold Z9
 rw [h1,Option.bind_some,Zne (by omega),Option.bind_some,h2,Option.bind_some]
end Mu
/- Layer 10: check. -/
set_option linter.unusedVariables false
set_option linter.unusedSimpArgs false
set_option maxRecDepth 10000
namespace Mu

def Zem (l:List Za) (v d:Nat):Int :=
 if nx l v d = -1 then (if ow l v d = 0 then 0 else 9)
 else if nx l v d < 0∨(l.length:Int)≤nx l v d∨nx l v d = v then 3
 else if nx l (nx l v d).toNat ((d + 2) % 4) = v∧ow l (nx l v d).toNat ((d + 2) % 4) = ow l v d∧¬ ow l v d < -2 then 0 else 9
theorem ZkY {d:Nat} (hd:d < 4):Za3 d 2 = some (((d + 2) % 4:Nat):Int):=by
 match d,hd with
 | 0,_ | 1,_ | 2,_ | 3,_=>decide
theorem ZmC {l:List Za} {v d:Nat} (hv:v < l.length) (hd:d < 4):ZbS l v d = some (Zem l v d):=by
 unfold ZbS Zem
 have e:((gi l v).Next).get (d:Int) = nx l v d:=rfl
 have e2:((gi l v).Owner).get (d:Int) = ow l v d:=rfl
 rw [Z8 (by omega),Z8 (by omega),Int.toNat_natCast,e,e2]
 by_cases c:nx l v d = -1
 ·rw [ZG c,if_pos c]
  by_cases c2:ow l v d = 0
  ·rw [Zam c2,if_pos c2]
  ·rw [ZaP c2,if_neg c2]
 ·rw [ZF c,if_neg c]
  by_cases c2:nx l v d < 0∨(l.length:Int)≤nx l v d∨nx l v d = v
  ·rw [if_pos c2,if_pos (by simpa [or_assoc] using c2)]
  ·rw [if_neg c2,if_neg (by simpa [or_assoc] using c2),ZkY hd,Option.bind_some,Z8 (by omega),Z8 (by omega)]
   have e3:((gi l (nx l v d).toNat).Next).get (((d + 2) % 4:Nat):Int) = nx l (nx l v d).toNat ((d + 2) % 4):=rfl
   have e4:((gi l (nx l v d).toNat).Owner).get (((d + 2) % 4:Nat):Int) = ow l (nx l v d).toNat ((d + 2) % 4):=rfl
   rw [e3,e4]
   by_cases q1:nx l (nx l v d).toNat ((d + 2) % 4) = v <;> by_cases q2:ow l (nx l v d).toNat ((d + 2) % 4) = ow l v d <;> by_cases q3:ow l v d < -2 <;> simp [q1,q2,q3]
def ZgU (l:List Za) (v:Nat):Int:=match (List.range 4).find? (fun d=>decide (Zem l v d≠0)) with | some d=>Zem l v d | none=>0
def Zd2 (l:List Za):Int:=if 4096 < l.length then 6 else match (List.range l.length).find? (fun v=>decide (ZgU l v≠0)) with | some v=>ZgU l v | none=>0
theorem Zgm {n:Nat} {f:Nat→Int}:(match (List.range n).find? (fun d=>decide (f d≠0)) with | some d=>f d | none=>0) = 0↔∀ d,d < n→f d = 0:=by
 cases h:(List.range n).find? (fun d=>decide (f d≠0)) with
 | none =>
  rw [List.find?_range_eq_none] at h
  simp only [true_iff]
  intro d hd
  have:=h d hd
  simpa using this
 | some j =>
  rw [List.find?_range_eq_some] at h
  have h1:f j≠0:=by simpa using h.1
  have h2:j < n:=by simpa using h.2.1
  constructor
  ·intro h3; exact absurd h3 h1
  ·intro h3; exact h3 j h2
theorem Zgx {l:List Za} {v:Nat}:ZgU l v = 0↔∀ d,d < 4→Zem l v d = 0:=Zgm
theorem ZiA {l:List Za}:Zd2 l = 0↔l.length≤4096∧∀ v,v < l.length→∀ d,d < 4→Zem l v d = 0:=by
 unfold Zd2
 by_cases c:4096 < l.length
 ·rw [if_pos c]; constructor
  ·intro h; omega
  ·intro h; omega
 ·rw [if_neg c,Zgm]
  constructor
  ·intro h; exact ⟨by omega,fun v hv=>Zgx.1 (h v hv)⟩
  ·intro h v hv; exact Zgx.2 (h.2 v hv)
theorem ZfU {l:List Za} {v d:Nat}:Zem l v d = 0↔(nx l v d = -1∧ow l v d = 0)∨∃ w:Nat,nx l v d = w∧w < l.length∧w≠v∧nx l w ((d + 2) % 4) = v∧ow l w ((d + 2) % 4) = ow l v d∧-2≤ow l v d:=by
 unfold Zem
 by_cases c:nx l v d = -1
 ·rw [if_pos c]
  by_cases c2:ow l v d = 0
  ·simp [c,c2]
  ·rw [if_neg c2]
   constructor
   ·intro h; omega
   ·rintro (⟨_,h⟩ | ⟨w,h,_⟩)
    ·exact absurd h c2
    ·omega
 ·rw [if_neg c]
  by_cases c2:nx l v d < 0∨(l.length:Int)≤nx l v d∨nx l v d = v
  ·rw [if_pos c2]
   constructor
   ·intro h; omega
   ·rintro (⟨h,_⟩ | ⟨w,h,h1,h2,_⟩)
    ·exact absurd h c
    ·omega
  ·rw [if_neg c2]
   constructor
   ·intro h
    split at h
    ·rename_i q
     exact .inr ⟨(nx l v d).toNat,by omega,by omega,by omega,q.1,q.2.1,by omega⟩
    ·omega
   ·rintro (⟨h,_⟩ | ⟨w,h,h1,h2,h3,h4,h5⟩)
    ·exact absurd h c
    ·have:(nx l v d).toNat = w:=by omega
     rw [this,if_pos ⟨h3,h4,by omega⟩]
theorem ZcQ {l:List Za}:Zd2 l = 0↔l.length≤4096∧Ck l:=by
 rw [ZiA]
 constructor
 ·intro h; exact ⟨h.1,⟨fun v d hv hd=>ZfU.1 (h.2 v hv d hd)⟩⟩
 ·intro h; exact ⟨h.1,fun v hv d hd=>ZfU.2 (h.2.s v d hv hd)⟩
theorem Zj2 {n:Nat} {f:Nat→Int}:((match (List.range n).find? (fun d=>decide (f d≠0)) with | some d=>(.inr (f d):Unit ⊕ Int) | none=>.inl ())) = if (match (List.range n).find? (fun d=>decide (f d≠0)) with | some d=>f d | none=>0) = 0 then .inl () else .inr (match (List.range n).find? (fun d=>decide (f d≠0)) with | some d=>f d | none=>0):=by
 cases h:(List.range n).find? (fun d=>decide (f d≠0)) with
 | none=>simp
 | some j =>
  rw [List.find?_range_eq_some] at h
  have h1:f j≠0:=by simpa using h.1
  rw [if_neg h1]
theorem Znf {l:List Za} {v:Nat} (hv:v < l.length):ZV (zg.s1 l v) big 0 = some (if ZgU l v = 0 then .inl () else .inr (ZgU l v)):=by
 have h:ZV (zg.s1 l v) big 0 = some (match (List.range 4).find? (fun d=>decide (Zem l v d≠0)) with | some d=>.inr (Zem l v d) | none=>.inl ()):=by
  refine ZcD (ZaI (by omega)) (fun d hd=>?_) ?_
  ·simp only [zg.s1]
   rw [ZG (by omega),ZmC hv hd,Option.bind_some]
   by_cases c:Zem l v d = 0
   ·rw [Zam c,if_neg (by simpa using c),zM (by omega)]
   ·rw [ZaP c,if_pos (by simpa using c)]
  ·simp only [zg.s1]
   rw [ZF (by omega)]
 rw [h,Zj2]; rfl
theorem ZeS {l:List Za} (hl:l.length≤1000000000000):zg l = some (Zd2 l):=by
 unfold zg Zd2
 by_cases c:4096 < l.length
 ·rw [if_pos c,ZG (by omega)]
 ·rw [if_neg c,ZF (by omega)]
  have h:ZV (zg.s0 l) big 0 = some (match (List.range l.length).find? (fun v=>decide (ZgU l v≠0)) with | some v=>.inr (ZgU l v) | none=>.inl ()):=by
   refine ZcD (ZaI (by omega)) (fun v hv=>?_) ?_
   ·simp only [zg.s0]
    rw [ZG (by omega),Znf hv,Option.bind_some]
    by_cases c:ZgU l v = 0
    ·rw [if_pos c,if_neg (by simpa using c)]
     dsimp only
     rw [zM (by omega)]
    ·rw [if_neg c,if_pos (by simpa using c)]
   ·simp only [zg.s0]
    rw [ZF (by omega)]
  rw [h]
  cases (List.range l.length).find? (fun v=>decide (ZgU l v≠0)) <;> simp
end Mu
/- Layer 13: what hangs together,by steps. -/
set_option linter.unusedVariables false
set_option linter.unusedSimpArgs false
set_option maxRecDepth 10000
namespace Mu

theorem ZhD {α:Type} [Inhabited α] {l:List α} {n i:Nat} (h:i < n):gi (l.take n) i = gi l i:=by
 unfold gi
 simp [List.getElem?_take,h]
theorem ZmA {n:Nat} (h:n≤1200):Zcl 1 n = some (0,(n:Int)):=by
 have key:∀ n:Fin 1201,Zcl 1 ((n:Nat):Int) = some (0,((n:Nat):Int)):=by decide +kernel
 exact key ⟨n,by omega⟩
theorem Zip {n:Nat} (h:n≤1200):zt [-1] n = some (List.replicate n (-1)):=by
 have L:∃ r,ZV zt.s0 big (([-1]:List Int).take (List.replicate n (0:Int)).length++(List.replicate n (0:Int)).drop ([-1]:List Int).length,((min ([-1]:List Int).length (List.replicate n (0:Int)).length:Nat):Int)) = some r∧(r.length = n∧∀ i,i < n→gi r i = -1):=by
  refine Zes (μ:=fun s=>((n:Int) - s.2).toNat) (I:=fun s=>s.1.length = n∧(0≤s.2∧s.2≤(n:Int))∧(0 < n→0 < s.2)∧∀ i:Nat,(i:Int) < s.2→gi s.1 i = -1) (by dsimp only; unfold big; omega) ?_ ?_
  ·cases n with
   | zero=>exact ⟨rfl,by simp,by simp,fun i hi=>by simp at hi; omega⟩
   | succ n =>
    refine ⟨by simp,by simp; omega,fun _=>by simp,fun i hi=>?_⟩
    have:i = 0:=by simp at hi; omega
    subst this
    rfl
  ·rintro ⟨x,m⟩ ⟨h1,h2,h3,h4⟩
   dsimp only at h1 h2 h3 h4 ⊢
   obtain ⟨k,rfl⟩:=Int.eq_ofNat_of_zero_le h2.1
   simp only [zt.s0,Int.toNat_natCast]
   by_cases c:(k:Int) < (x.length:Int)
   ·refine .inl ?_
    have t1:(x.take k).length = k:=by rw [List.length_take]; omega
    have t2:(x.drop k).length = n - k:=by rw [List.length_drop]; omega
    rw [ZG c,Z8 (by omega),zM (by omega),t1,t2]
    refine ⟨_,rfl,⟨by simp; omega,by dsimp only; omega,fun _=>by dsimp only; omega,fun i hi=>?_⟩,by dsimp only; omega⟩
    dsimp only at hi ⊢
    by_cases q:i < k
    ·rw [Zb8 (by rw [t1]; exact q),ZhD q]
     exact h4 i (by omega)
    ·have e:i = (x.take k).length + (i - k):=by rw [t1]; omega
     rw [e,Zbu,Zb8 (by rw [List.length_take,t1]; omega),ZhD (by omega),ZhD (by omega)]
     exact h4 _ (by omega)
   ·refine .inr ?_
    rw [ZF c]
    exact ⟨_,rfl,h1,fun i hi=>h4 i (by omega)⟩
 obtain ⟨r,e1,e2,e3⟩:=L
 have er:r = List.replicate n (-1):=Zc2 (by simp [e2]) fun i hi=>by
  rw [e3 i (by omega),Za1 (by simp; omega)]
  simp
 unfold zt
 rw [ZF (by omega),Option.bind_some,Z8 (show inK .u64 (([-1]:List Int).length:Int) by decide),Z8 (show inK .u64 (n:Int) from by
  simp only [inK,Go.IntKind.wrap,Go.IntKind.bits,Go.IntKind.signed]
  simp
  omega),show (([-1]:List Int).length:Int) = 1 from rfl,ZmA h,Option.bind_some]
 dsimp only
 rw [if_neg (by simp; omega),Option.bind_some,ZbA (by omega),Z8 (by omega),Int.toNat_natCast,e1,Option.bind_some,er]

def Adj (l:List Za) (a b:Nat):Prop:=∃ d,d < 4∧nx l a d = b
inductive Rch (l:List Za) (v:Nat):Nat→Nat→Prop
 | zero:Rch l v 0 v
 | succ {n a b}:Rch l v n a→Adj l a b→Rch l v (n + 1) b
theorem Adj.lt {l:List Za} (h:Ck l) {a b:Nat} (ha:a < l.length) (hab:Adj l a b):b < l.length:=by
 obtain ⟨d,hd,e⟩:=hab
 have:=h.lt ha hd
 omega
theorem Adj.symm {l:List Za} (h:Ck l) {a b:Nat} (ha:a < l.length) (hab:Adj l a b):Adj l b a:=by
 obtain ⟨d,hd,e⟩:=hab
 rcases h.s a d ha hd with ⟨e2,_⟩ | ⟨w,e2,_,_,e3,_⟩
 ·omega
 ·have:w = b:=by omega
  subst this
  exact ⟨(d + 2) % 4,by omega,e3⟩
theorem Rch.lt {l:List Za} (h:Ck l) {v n w:Nat} (hv:v < l.length) (hr:Rch l v n w):w < l.length:=by
 induction hr with
 | zero=>exact hv
 | succ _ hab ih=>exact hab.lt h ih
theorem Rch.trans {l:List Za} {a b c n m:Nat} (h1:Rch l a n b) (h2:Rch l b m c):Rch l a (n + m) c:=by
 induction h2 with
 | zero=>exact h1
 | succ _ hab ih=>exact .succ ih hab
theorem Rch.symm {l:List Za} (h:Ck l) {v n w:Nat} (hv:v < l.length) (hr:Rch l v n w):Rch l w n v:=by
 induction hr with
 | zero=>exact .zero
 | succ hr hab ih =>
  have ha:=hr.lt h hv
  have:=(Rch.succ .zero (hab.symm h ha)).trans ih
  rw [Nat.zero_add,Nat.add_comm] at this
  exact this
def Dist (l:List Za) (v w n:Nat):Prop:=Rch l v n w∧∀ m,Rch l v m w→n≤m
theorem Dist.uniq {l:List Za} {v w n m:Nat} (h1:Dist l v w n) (h2:Dist l v w m):n = m:=by
 have:=h1.2 m h2.1
 have:=h2.2 n h1.1
 omega
theorem Rch.dist {l:List Za} {v w n:Nat} (h:Rch l v n w):∃ m,m≤n∧Dist l v w m:=by
 induction n using Nat.strongRecOn with
 | _ n ih =>
  by_cases c:∃ m,m < n∧Rch l v m w
  ·obtain ⟨m,hm,hr⟩:=c
   obtain ⟨k,hk,hd⟩:=ih m hm hr
   exact ⟨k,by omega,hd⟩
  ·refine ⟨n,Nat.le_refl _,h,fun m hm=>?_⟩
   by_cases q:n≤m
   ·exact q
   ·exact absurd ⟨m,by omega,hm⟩ c
theorem Dist.symm {l:List Za} (h:Ck l) {v w n:Nat} (hv:v < l.length) (hd:Dist l v w n):Dist l w v n :=
 ⟨hd.1.symm h hv,fun m hm=>hd.2 m (hm.symm h (hd.1.lt h hv))⟩
theorem Dist.pred {l:List Za} {v w n:Nat} (hd:Dist l v w (n + 1)):∃ a,Dist l v a n∧Adj l a w:=by
 obtain ⟨h1,h2⟩:=hd
 cases h1 with
 | succ hr hab =>
  refine ⟨_,⟨hr,fun m hm=>?_⟩,hab⟩
  have:=h2 (m + 1) (.succ hm hab)
  omega
theorem ZgQ:∀ {n m:Nat} (f:Nat→Nat),(∀ i,i < n→f i < m)→(∀ i j,i < n→j < n→f i = f j→i = j)→n≤m
 | 0,m,f,_,_=>Nat.zero_le _
 | n + 1,0,f,h,_=>absurd (h 0 (by omega)) (by omega)
 | n + 1,m + 1,f,h,hi=>by
  have:=ZgQ (n:=n) (m:=m) (fun i=>if f i = m then f n else f i) (fun i hi'=>by
   by_cases c:f i = m
   ·rw [if_pos c]
    have:=h n (by omega)
    by_cases c2:f n = m
    ·have:=hi i n (by omega) (by omega) (by omega); omega
    ·omega
   ·rw [if_neg c]
    have:=h i (by omega)
    omega) (fun i j hi' hj' e=>by
   by_cases c:f i = m <;> by_cases c2:f j = m
   ·exact hi i j (by omega) (by omega) (by omega)
   ·rw [if_pos c,if_neg c2] at e
    have:=hi n j (by omega) (by omega) e; omega
   ·rw [if_neg c,if_pos c2] at e
    have:=hi i n (by omega) (by omega) e; omega
   ·rw [if_neg c,if_neg c2] at e
    exact hi i j (by omega) (by omega) e)
  omega
theorem Dist.all {l:List Za} {v w:Nat}:∀ n,Dist l v w n→∀ m,m≤n→∃ a,Dist l v a m
 | 0,h,m,hm=>⟨w,by rw [show m = 0 by omega]; exact h⟩
 | n + 1,h,m,hm=>by
  by_cases c:m = n + 1
  ·exact ⟨w,by rw [c]; exact h⟩
  ·obtain ⟨a,ha,_⟩:=h.pred
   exact Dist.all n ha m (by omega)
theorem Dist.lt {l:List Za} (h:Ck l) {v w n:Nat} (hv:v < l.length) (hd:Dist l v w n):n < l.length:=by
 have hall:=fun m (hm:m < n + 1)=>hd.all n m (by omega)
 have:=ZgQ (n:=n + 1) (m:=l.length) (fun m=>if hm:m < n + 1 then (hall m hm).choose else 0) (fun i hi=>by
  rw [dif_pos hi]
  exact (hall i hi).choose_spec.1.lt h hv) (fun i j hi hj e=>by
  rw [dif_pos hi,dif_pos hj] at e
  have d1:=(hall i hi).choose_spec
  have d2:=(hall j hj).choose_spec
  rw [e] at d1
  exact d1.uniq d2)
 omega
end Mu
/- Layer 13: spread. -/
set_option linter.unusedVariables false
set_option linter.unusedSimpArgs false
set_option maxRecDepth 10000
namespace Mu

theorem Zef:∀ {m:List Bool} {w:Nat},w < m.length→gi m w = false→(m.set w true).count false + 1 = m.count false
 | [],w,h,_=>by simp at h
 | b :: m,0,_,hf=>by
  have:b = false:=hf
  subst this
  simp
 | b :: m,w + 1,h,hf=>by
  have:=Zef (m:=m) (w:=w) (by simpa using h) hf
  cases b <;> simp [List.count_cons] <;> omega
structure Sb (l:List Za) (v:Nat) (δ:Nat→Nat) (fr dr:List Int) (mt:List Bool):Prop where
 lf:fr.length = l.length
 ld:dr.length = l.length
 lm:mt.length = l.length
 mv:gi mt v = true
 dv:δ v = 0
 rc:∀ a,gi mt a = true→Rch l v (δ a) a
 fm:∀ a,gi mt a = true→a≠v→∃ p d:Nat,gi fr a = p∧gi dr a = d∧d < 4∧gi mt p = true∧nx l p d = a∧δ a = δ p + 1
 un:∀ a,a < l.length→gi mt a = false→gi dr a = -1
structure So (l:List Za) (v:Nat) (δ:Nat→Nat) (q:List Int) (mt:List Bool):Prop where
 el:∀ x∈q,∃ a:Nat,x = a∧a < l.length∧gi mt a = true
 so:q.Pairwise fun x y=>δ x.toNat≤δ y.toNat∧δ y.toNat≤δ x.toNat + 1
 pr:∀ a:Nat,gi mt a = true→(a:Int) ∉ q→(∀ x∈q,δ a≤δ x.toNat)∧∀ b,Adj l a b→gi mt b = true∧δ b≤δ a + 1
structure Si (l:List Za) (v h:Nat) (δ:Nat→Nat) (q:List Int) (mt:List Bool) (d:Nat):Prop where
 hm:gi mt h = true
 el:∀ x∈q,∃ a:Nat,x = a∧a < l.length∧gi mt a = true∧δ h≤δ a∧δ a≤δ h + 1
 so:q.Pairwise fun x y=>δ x.toNat≤δ y.toNat
 pr:∀ a:Nat,gi mt a = true→(a:Int) ∉ q→a≠h→δ a≤δ h∧∀ b,Adj l a b→gi mt b = true∧δ b≤δ a + 1
 hd:∀ e,e < d→∀ b:Nat,nx l h e = b→gi mt b = true∧δ b≤δ h + 1
theorem So.open {l:List Za} {v h:Nat} {δ:Nat→Nat} {t:List Int} {mt:List Bool} (s:So l v δ ((h:Int) :: t) mt):Si l v h δ t mt 0:=by
 have hs:=List.pairwise_cons.1 s.so
 refine ⟨?_,fun x hx=>?_,hs.2.imp (fun h=>h.1),fun a ha hn hne=>?_,fun e he=>by omega⟩
 ·obtain ⟨a,e,_,hh⟩:=s.el _ List.mem_cons_self
  obtain rfl:h = a:=by omega
  exact hh
 ·obtain ⟨a,e,h1,h2⟩:=s.el x (List.mem_cons_of_mem _ hx)
  have:=hs.1 x hx
  subst e
  exact ⟨a,rfl,h1,h2,by simpa using this.1,by simpa using this.2⟩
 ·have:=s.pr a ha (by
   rw [List.mem_cons]
   rintro (h | h)
   ·omega
   ·exact hn h)
  exact ⟨by simpa using this.1 _ List.mem_cons_self,this.2⟩
theorem Si.close {l:List Za} {v h:Nat} {δ:Nat→Nat} {t:List Int} {mt:List Bool} (s:Si l v h δ t mt 4):So l v δ t mt:=by
 have b:∀ x∈t,δ h≤δ x.toNat∧δ x.toNat≤δ h + 1:=by
  intro x hx
  obtain ⟨a,rfl,_,_,h1,h2⟩:=s.el x hx
  exact ⟨h1,h2⟩
 refine ⟨fun x hx=>?_,?_,fun a ha hn=>?_⟩
 ·obtain ⟨a,e,h1,h2,_⟩:=s.el x hx
  exact ⟨a,e,h1,h2⟩
 ·refine List.Pairwise.imp_of_mem ?_ s.so
  intro x y hx hy hxy
  have:=b x hx
  have:=b y hy
  exact ⟨hxy,by omega⟩
 ·by_cases c:a = h
  ·subst c
   refine ⟨fun x hx=>(b x hx).1,?_⟩
   rintro w ⟨d,hd,e⟩
   exact s.hd d hd w e
  ·have:=s.pr a ha hn c
   refine ⟨fun x hx=>?_,this.2⟩
   have:=b x hx
   omega
theorem Sb.meet {l:List Za} (hc:Ck l) {v h d w:Nat} {δ:Nat→Nat} {fr dr:List Int} {mt:List Bool} (s:Sb l v δ fr dr mt) (hm:gi mt h = true) (hd:d < 4) (hw:nx l h d = w) (hwl:w < l.length) (hu:gi mt w = false) :
  Sb l v (fun a=>if a = w then δ h + 1 else δ a) (fr.set w h) (dr.set w d) (mt.set w true):=by
 have gm:∀ a,gi (mt.set w true) a = if a = w then true else gi mt a:=fun a=>ZbE (by rw [s.lm]; exact hwl)
 have gf:∀ a,gi (fr.set w (h:Int)) a = if a = w then (h:Int) else gi fr a:=fun a=>ZbE (by rw [s.lf]; exact hwl)
 have gd:∀ a,gi (dr.set w (d:Int)) a = if a = w then (d:Int) else gi dr a:=fun a=>ZbE (by rw [s.ld]; exact hwl)
 have hwh:h≠w:=by rintro rfl; rw [hm] at hu; cases hu
 have hwv:v≠w:=by rintro rfl; rw [s.mv] at hu; cases hu
 have old:∀ a,gi mt a = true→a≠w:=by rintro a ha rfl; rw [ha] at hu; cases hu
 refine ⟨by simpa using s.lf,by simpa using s.ld,by simpa using s.lm,?_,?_,fun a ha=>?_,fun a ha hav=>?_,fun a ha hau=>?_⟩
 ·rw [gm,s.mv]; simp
 ·rw [if_neg hwv]; exact s.dv
 ·by_cases c:a = w
  ·subst c
   rw [if_pos rfl]
   exact .succ (s.rc h hm) ⟨d,hd,hw⟩
  ·rw [if_neg c]
   rw [gm,if_neg c] at ha
   exact s.rc a ha
 ·by_cases c:a = w
  ·subst c
   refine ⟨h,d,by rw [gf,if_pos rfl],by rw [gd,if_pos rfl],hd,by rw [gm,hm]; simp,hw,?_⟩
   rw [if_pos rfl,if_neg hwh]
  ·rw [gm,if_neg c] at ha
   obtain ⟨p,e,h1,h2,h3,h4,h5,h6⟩:=s.fm a ha hav
   refine ⟨p,e,by rw [gf,if_neg c]; exact h1,by rw [gd,if_neg c]; exact h2,h3,by rw [gm,h4]; simp,h5,?_⟩
   rw [if_neg c,if_neg (old p h4)]; exact h6
 ·rw [gm] at hau
  by_cases c:a = w
  ·rw [if_pos c] at hau; cases hau
  ·rw [if_neg c] at hau
   rw [gd,if_neg c]
   exact s.un a ha hau
theorem Si.meet {l:List Za} {v h d w:Nat} {δ:Nat→Nat} {q:List Int} {mt:List Bool} (lm:mt.length = l.length) (s:Si l v h δ q mt d) (hw:nx l h d = w) (hwl:w < l.length) (hu:gi mt w = false) :
  Si l v h (fun a=>if a = w then δ h + 1 else δ a) (q++[(w:Int)]) (mt.set w true) (d + 1):=by
 have gm:∀ a,gi (mt.set w true) a = if a = w then true else gi mt a:=fun a=>ZbE (by rw [lm]; exact hwl)
 have old:∀ a,gi mt a = true→a≠w:=by rintro a ha rfl; rw [ha] at hu; cases hu
 have hwh:h≠w:=old h s.hm
 have keep:∀ a,gi mt a = true→gi (mt.set w true) a = true:=fun a ha=>by rw [gm,ha]; simp
 refine ⟨keep h s.hm,fun x hx=>?_,?_,fun a ha hn hne=>?_,fun e he b hb=>?_⟩
 ·rw [List.mem_append,List.mem_singleton] at hx
  rw [if_neg hwh]
  rcases hx with hx | rfl
  ·obtain ⟨a,e,h1,h2,h3,h4⟩:=s.el x hx
   exact ⟨a,e,h1,keep a h2,by rw [if_neg (old a h2)]; exact h3,by rw [if_neg (old a h2)]; exact h4⟩
  ·exact ⟨w,rfl,hwl,by rw [gm,if_pos rfl],by rw [if_pos rfl]; omega,by rw [if_pos rfl]; omega⟩
 ·rw [List.pairwise_append]
  refine ⟨List.Pairwise.imp_of_mem ?_ s.so,List.pairwise_singleton _ _,fun x hx y hy=>?_⟩
  ·intro x y hx hy hxy
   obtain ⟨a,rfl,h1,h2,h3,h4⟩:=s.el x hx
   obtain ⟨b,rfl,k1,k2,k3,k4⟩:=s.el y hy
   simp only [Int.toNat_natCast] at hxy ⊢
   rw [if_neg (old a h2),if_neg (old b k2)]
   exact hxy
  ·rw [List.mem_singleton] at hy
   subst hy
   obtain ⟨a,rfl,h1,h2,h3,h4⟩:=s.el x hx
   simp only [Int.toNat_natCast]
   rw [if_neg (old a h2)]
   simpa using h4
 ·rw [List.mem_append,List.mem_singleton] at hn
  have haw:a≠w:=fun c=>hn (.inr (by omega))
  rw [gm,if_neg haw] at ha
  have:=s.pr a ha (fun c=>hn (.inl c)) hne
  rw [if_neg haw,if_neg hwh]
  refine ⟨this.1,fun b hb=>?_⟩
  have:=this.2 b hb
  exact ⟨keep b this.1,by rw [if_neg (old b this.1)]; exact this.2⟩
 ·rw [if_neg hwh]
  by_cases c:e = d
  ·subst c
   have:b = w:=by omega
   subst this
   exact ⟨by rw [gm,if_pos rfl],by rw [if_pos rfl]; omega⟩
  ·have:=s.hd e (by omega) b hb
   exact ⟨keep b this.1,by rw [if_neg (old b this.1)]; exact this.2⟩
theorem Si.skip {l:List Za} {v h d:Nat} {δ:Nat→Nat} {q:List Int} {mt:List Bool} (s:Si l v h δ q mt d) (hs:∀ w:Nat,nx l h d = w→gi mt w = true):Si l v h δ q mt (d + 1):=by
 refine ⟨s.hm,s.el,s.so,s.pr,fun e he b hb=>?_⟩
 by_cases c:e = d
 ·subst c
  have hm:=hs b hb
  refine ⟨hm,?_⟩
  by_cases c1:(b:Int)∈q
  ·obtain ⟨a,e,_,_,_,h4⟩:=s.el _ c1
   have:b = a:=by omega
   subst this; exact h4
  ·by_cases c2:b = h
   ·subst c2; omega
   ·have:=(s.pr b hm c1 c2).1
    omega
 ·exact s.hd e (by omega) b hb
end Mu
/- Layer 13: spread,walked. -/
set_option linter.unusedVariables false
set_option linter.unusedSimpArgs false
set_option maxRecDepth 10000
namespace Mu

theorem ZjB {l:List Za} (hc:Ck l) (hl:l.length≤4096) {v h:Nat} {t0 t:List Int} {δ:Nat→Nat} {fr dr:List Int} {mt:List Bool} (hh:h < l.length) (sb:Sb l v δ fr dr mt) (si:Si l v h δ t mt 0) (hn:mt.count false + t.length≤l.length) :
  ∃ r:List Int × List Int × List Int × List Bool,ZV (zT.s1 l ((h:Int) :: t0)) big (fr,dr,t,mt,0) = some r∧∃ δ',Sb l v δ' r.1 r.2.1 r.2.2.2∧Si l v h δ' r.2.2.1 r.2.2.2 4∧r.2.2.2.count false + r.2.2.1.length = mt.count false + t.length:=by
 have g0:∀ x:List Int,gi ((h:Int) :: x) (0:Int).toNat = h:=fun _=>rfl
 refine Zce (n:=4) (I:=fun d (s:List Int × List Int × List Int × List Bool × Int)=>s.2.2.2.2 = d∧∃ δ',Sb l v δ' s.1 s.2.1 s.2.2.2.1∧Si l v h δ' s.2.2.1 s.2.2.2.1 d∧s.2.2.2.1.count false + s.2.2.1.length = mt.count false + t.length) (R:=fun r:List Int × List Int × List Int × List Bool=>∃ δ',Sb l v δ' r.1 r.2.1 r.2.2.2∧Si l v h δ' r.2.2.1 r.2.2.2 4∧r.2.2.2.count false + r.2.2.1.length = mt.count false + t.length) (ZaI (by omega)) ⟨rfl,δ,sb,si,rfl⟩ ?_ ?_
 ·rintro d ⟨fr',dr',t',mt',x⟩ hd ⟨hx,δ',sb',si',hn'⟩
  dsimp only at hx sb' si' hn'
  subst hx
  simp only [zT.s1]
  rw [ZG (by omega),g0,Z8 (by omega),Z8 (by omega),Int.toNat_natCast]
  have e:((gi l h).Next).get (d:Int) = nx l h d:=rfl
  rw [e]
  have hlt:=hc.lt hh (show d < 4 from hd)
  have lm:=sb'.lm
  have lf:=sb'.lf
  have ld:=sb'.ld
  by_cases c:0≤nx l h d
  ·obtain ⟨w,hw⟩:∃ w:Nat,nx l h d = w:=⟨(nx l h d).toNat,by omega⟩
   rw [hw]
   rw [hw] at hlt
   have hwl:w < l.length:=by omega
   rw [ZG (by omega),Z8 (by omega),Option.bind_some,Int.toNat_natCast]
   cases hm:gi mt' w with
   | true =>
    rw [if_neg (by decide),zM (by omega)]
    refine ⟨_,rfl,rfl,δ',sb',si'.skip (fun w' hw'=>?_),hn'⟩
    have:w' = w:=by omega
    rw [this]; exact hm
   | false =>
    have hcount:=Zef (m:=mt') (w:=w) (by omega) hm
    rw [if_pos (by decide),Z8 (by omega),Z8 (by omega),Z8 (by omega),Z8 (by simp; omega),zM (by omega)]
    refine ⟨_,rfl,rfl,_,sb'.meet hc si'.hm hd hw hwl hm,si'.meet lm hw hwl hm,?_⟩
    simp only [List.length_append,List.length_cons,List.length_nil]
    omega
  ·rw [ZF (by omega),Option.bind_some,if_neg (by decide),zM (by omega)]
   exact ⟨_,rfl,rfl,δ',sb',si'.skip (fun w' hw'=>by omega),hn'⟩
 ·rintro ⟨fr',dr',t',mt',x⟩ ⟨hx,δ',sb',si',hn'⟩
  dsimp only at hx sb' si' hn'
  subst hx
  simp only [zT.s1]
  rw [ZF (by omega)]
  exact ⟨_,rfl,δ',sb',si',hn'⟩
structure Spr (l:List Za) (v:Nat) (fr dr:List Int):Prop where
 lf:fr.length = l.length
 ld:dr.length = l.length
 fm:∀ a n,Dist l v a n→a≠v→∃ p d m:Nat,gi fr a = p∧gi dr a = d∧d < 4∧nx l p d = a∧Dist l v p m∧n = m + 1
 un:∀ a,a < l.length→(∀ n,¬ Rch l v n a)→gi dr a = -1
theorem ZlV {l:List Za} (hc:Ck l) {v:Nat} {δ:Nat→Nat} {fr dr:List Int} {mt:List Bool} (hv:v < l.length) (sb:Sb l v δ fr dr mt) (so:So l v δ [] mt):Spr l v fr dr:=by
 have all:∀ n a,Rch l v n a→gi mt a = true∧δ a≤n:=by
  intro n a h
  induction h with
  | zero=>exact ⟨sb.mv,by rw [sb.dv]; omega⟩
  | succ hr hab ih =>
   have:=(so.pr _ ih.1 (by simp)).2 _ hab
   exact ⟨this.1,by omega⟩
 have dist:∀ a,gi mt a = true→Dist l v a (δ a):=fun a ha=>⟨sb.rc a ha,fun m hm=>(all m a hm).2⟩
 refine ⟨sb.lf,sb.ld,fun a n hd hav=>?_,fun a ha hu=>?_⟩
 ·have hm:=(all n a hd.1).1
  obtain ⟨p,d,h1,h2,h3,h4,h5,h6⟩:=sb.fm a hm hav
  refine ⟨p,d,δ p,h1,h2,h3,h5,dist p h4,?_⟩
  have:=(dist a hm).uniq hd
  omega
 ·refine sb.un a ha ?_
  cases h:gi mt a with
  | false=>rfl
  | true=>exact absurd (sb.rc a h) (hu _)
theorem ZkA {l:List Za} (hc:Ck l) (hl:l.length≤1200) {v:Nat} (hv:v < l.length):∃ fr dr,zT l v = some (fr,dr)∧Spr l v fr dr:=by
 have gr:∀ a,gi (List.replicate l.length false) a = false:=by
  intro a
  by_cases h:a < l.length
  ·rw [Za1 (by simpa using h)]; simp
  ·rw [ZfB (by simpa using h)]; rfl
 have gr2:∀ a,a < l.length→gi (List.replicate l.length (-1:Int)) a = -1:=by
  intro a h
  rw [Za1 (by simpa using h)]; simp
 have gm:∀ a,gi ((List.replicate l.length false).set v true) a = if a = v then true else false:=by
  intro a
  rw [ZbE (by simpa using hv),gr]
 have sb0:Sb l v (fun _=>0) (List.replicate l.length (-1)) (List.replicate l.length (-1)) ((List.replicate l.length false).set v true):=by
  refine ⟨by simp,by simp,by simp,by rw [gm,if_pos rfl],rfl,fun a ha=>?_,fun a ha hav=>?_,fun a ha hu=>gr2 a ha⟩
  ·rw [gm] at ha
   by_cases c:a = v
   ·subst c; exact .zero
   ·rw [if_neg c] at ha; cases ha
  ·rw [gm,if_neg hav] at ha; cases ha
 have so0:So l v (fun _=>0) [(v:Int)] ((List.replicate l.length false).set v true):=by
  refine ⟨fun x hx=>?_,List.pairwise_singleton _ _,fun a ha hn=>?_⟩
  ·rw [List.mem_singleton] at hx
   exact ⟨v,hx,hv,by rw [gm,if_pos rfl]⟩
  ·rw [gm] at ha
   by_cases c:a = v
   ·subst c; exact absurd List.mem_cons_self hn
   ·rw [if_neg c] at ha; cases ha
 have cnt0:((List.replicate l.length false).set v true).count false + 1 = l.length:=by
  rw [Zef (by simpa using hv) (gr v)]; simp
 obtain ⟨r,h1,h2⟩:=Zes (step:=zT.s0 l) (s0:=(List.replicate l.length (-1),List.replicate l.length (-1),[(v:Int)],(List.replicate l.length false).set v true)) (μ:=fun s:List Int × List Int × List Int × List Bool=>s.2.2.2.count false + s.2.2.1.length) (I:=fun s=>∃ δ,Sb l v δ s.1 s.2.1 s.2.2.2∧So l v δ s.2.2.1 s.2.2.2∧s.2.2.2.count false + s.2.2.1.length≤l.length) (R:=fun r:List Int × List Int=>Spr l v r.1 r.2) (ZaI (by simp only [List.length_cons,List.length_nil]; omega)) ⟨_,sb0,so0,by simp only [List.length_cons,List.length_nil]; omega⟩ (by
  rintro ⟨fr,dr,q,mt⟩ ⟨δ,sb,so,hn⟩
  dsimp only at sb so hn
  simp only [zT.s0]
  cases q with
  | nil =>
   right
   rw [ZF (by simp)]
   exact ⟨_,rfl,ZlV hc hv sb so⟩
  | cons x t =>
   left
   obtain ⟨h,rfl,hh,_⟩:=so.el x List.mem_cons_self
   rw [List.length_cons] at hn
   obtain ⟨⟨fr',dr',t',mt'⟩,e1,δ',sb',si',hn'⟩:=ZjB (t0:=t) hc (by omega) hh sb so.open (by omega)
   dsimp only at e1 sb' si' hn'
   have hd:List.drop (1:Int).toNat ((h:Int) :: t) = t:=rfl
   rw [ZG (by simp <;> omega),Z8 (by simp <;> omega),Z8 (by simp <;> omega),hd,e1,Option.bind_some]
   refine ⟨_,rfl,⟨δ',sb',si'.close,by dsimp only; omega⟩,?_⟩
   simp only [List.length_cons]
   omega)
 obtain ⟨fr,dr⟩:=r
 refine ⟨fr,dr,?_,h2⟩
 unfold zT
 rw [Zip hl,Option.bind_some,Option.bind_some,Z8 (by omega),Int.toNat_natCast,Z8 (by simp; omega),Int.toNat_natCast,h1,Option.bind_some]
end Mu
/- Layer 13: far. -/
set_option linter.unusedVariables false
set_option linter.unusedSimpArgs false
set_option maxRecDepth 10000
namespace Mu

structure Fa (l:List Za) (v r i d:Nat) (far:List Int):Prop where
 lf:far.length = l.length
 so:∀ a,a < l.length→gi far a = -1∨∃ n:Nat,gi far a = n∧Dist l v a n∧n≤r + 1
 al:∀ a n,Dist l v a n→n≤r→gi far a = n
 nw:∀ (a b e:Nat),e < 4→Dist l v a r→nx l a e = b→(a < i∨a = i∧e < d)→0≤gi far b
theorem Fa.close {l:List Za} (hc:Ck l) {v r:Nat} {far:List Int} (hv:v < l.length) (h:Fa l v r l.length 0 far):Fa l v (r + 1) 0 0 far:=by
 refine ⟨h.lf,fun a ha=>(h.so a ha).imp id (fun ⟨n,e,d,k⟩=>⟨n,e,d,by omega⟩),fun a n hd hn=>?_,fun a b e he hd hw hh=>by omega⟩
 by_cases c:n≤r
 ·exact h.al a n hd c
 ·obtain rfl:n = r + 1:=by omega
  obtain ⟨p,hp,e,he,hw⟩:=hd.pred
  have hpl:=hp.1.lt hc hv
  have:=h.nw p a e he hp hw (.inl hpl)
  rcases h.so a (hd.1.lt hc hv) with e1 | ⟨m,e1,e2,e3⟩
  ·omega
  ·rw [e1,e2.uniq hd]
end Mu
/- Layer 13: paths. -/
set_option linter.unusedVariables false
set_option linter.unusedSimpArgs false
set_option maxRecDepth 10000
namespace Mu

end Mu
/- Layer 13: there and back. -/
set_option linter.unusedVariables false
set_option linter.unusedSimpArgs false
set_option maxRecDepth 10000
namespace Mu
theorem okZ {z:zj} (m1:z.At.length≤Go.maxLen) (b1:∀ y∈z.At,Zgh y) (b3:∀ y∈z.Own,ZhY y):OkZ z :=
 ⟨by unfold Go.maxLen at m1; omega,b1,b3⟩
end Mu
/- Layer 13: join's paths. -/
set_option linter.unusedVariables false
set_option linter.unusedSimpArgs false
set_option maxRecDepth 10000
namespace Mu
end Mu
/- Layer 13: join's parts. -/
set_option linter.unusedVariables false
set_option linter.unusedSimpArgs false
set_option maxRecDepth 10000
namespace Mu
noncomputable def rb (l:List Za) (v w:Nat):Bool:=@decide (∃ n,Rch l v n w) (Classical.propDecidable _)
theorem ZfQ {l:List Za} {v w:Nat}:rb l v w = true↔∃ n,Rch l v n w:=by simp [rb]
noncomputable def Zcm (l:List Za) (v k:Nat):List Int:=((List.range k).filter (rb l v)).map fun w:Nat=>(w:Int)
noncomputable def Zds (l:List Za) (v:Nat) (met:List Bool) (k:Nat):List Bool:=(List.range l.length).map fun w=>if w < k then gi met w || rb l v w else gi met w
theorem ZaB {l:List Za} {v k:Nat} {met:List Bool}:(Zds l v met k).length = l.length:=by simp [Zds]
theorem Zdh {l:List Za} {v k w:Nat} {met:List Bool} (h:w < l.length):gi (Zds l v met k) w = if w < k then gi met w || rb l v w else gi met w:=Zc1 h
theorem ZhK {l:List Za} {v:Nat} {met:List Bool} (h:met.length = l.length):Zds l v met 0 = met :=
 Zc2 (by rw [ZaB,h]) (fun i hi=>by rw [ZaB] at hi; rw [Zdh hi,if_neg (by omega)])
theorem ZjC {l:List Za} {v k:Nat} {met:List Bool} (hk:k < l.length) (h:rb l v k = true):(Zds l v met k).set k true = Zds l v met (k + 1):=by
 apply Zc2 (by rw [List.length_set,ZaB,ZaB])
 intro i hi
 rw [List.length_set,ZaB] at hi
 rw [ZbE (by rw [ZaB]; exact hk),Zdh hi,Zdh hi]
 by_cases c:i = k
 ·subst c; rw [if_pos rfl,if_pos (by omega),h]; simp
 ·rw [if_neg c]
  by_cases c2:i < k
  ·rw [if_pos c2,if_pos (by omega)]
  ·rw [if_neg c2,if_neg (by omega)]
theorem ZiG {l:List Za} {v k:Nat} {met:List Bool} (h:rb l v k = false):Zds l v met k = Zds l v met (k + 1):=by
 apply Zc2 (by rw [ZaB,ZaB])
 intro i hi
 rw [ZaB] at hi
 rw [Zdh hi,Zdh hi]
 by_cases c:i = k
 ·subst c; rw [if_neg (by omega),if_pos (by omega),h]; simp
 ·by_cases c2:i < k
  ·rw [if_pos c2,if_pos (by omega)]
  ·rw [if_neg c2,if_neg (by omega)]
theorem ZiJ {l:List Za} {v k:Nat} (h:rb l v k = true):Zcm l v (k + 1) = Zcm l v k++[(k:Int)]:=by
 unfold Zcm; rw [List.range_succ,List.filter_append]; simp [h]
theorem ZhQ {l:List Za} {v k:Nat} (h:rb l v k = false):Zcm l v (k + 1) = Zcm l v k:=by
 unfold Zcm; rw [List.range_succ,List.filter_append]; simp [h]
theorem Zgc {l:List Za} {v k:Nat}:(Zcm l v k).length≤k:=by
 unfold Zcm; rw [List.length_map]
 have:=List.length_filter_le (rb l v) (List.range k)
 simpa using this
theorem Zky {l:List Za} (hl:l.length≤1200) {v:Nat} {fr dr:List Int} {met:List Bool} (hm:met.length = l.length) (sp:Spr l v fr dr) (hc:Ck l) (hv:v < l.length):ZV (zW.s1 l v dr) big (met,[],0) = some (Zds l v met l.length,Zcm l v l.length):=by
 have ld:=sp.ld
 refine Zbx (fun k:Nat=>(Zds l v met k,Zcm l v k,(k:Int))) (n:=l.length) (ZaI (by omega)) (by rw [ZhK hm]; rfl) (fun k hk=>?_) ?_
 ·have hp:=Zgc (l:=l) (v:=v) (k:=k)
  have hmt:=ZaB (l:=l) (v:=v) (k:=k) (met:=met)
  have t:(if decide ((k:Int) = (v:Int)) = true then some true else ck ((0:Int)≤(k:Int)∧(k:Int) < (dr.length:Int)) (some (decide (0≤(gi dr (k:Int).toNat))))) = some (rb l v k):=by
   by_cases c:k = v
   ·subst c
    rw [ZG rfl,(ZfQ).2 ⟨0,.zero⟩]
   ·rw [ZF (by omega),Z8 (by omega),Int.toNat_natCast]
    cases h:rb l v k with
    | true =>
     obtain ⟨n,hn⟩:=ZfQ.1 h
     obtain ⟨m,_,hd⟩:=hn.dist
     obtain ⟨p,d,_,_,e2,_⟩:=sp.fm k m hd c
     rw [ZaV (by omega)]
    | false =>
     have:=sp.un k hk (fun n hn=>by rw [ZfQ.2 ⟨n,hn⟩] at h; cases h)
     rw [Zbj (by omega)]
  simp only [zW.s1]
  rw [ZG (by omega),t,Option.bind_some,zM (by omega)]
  cases h:rb l v k with
  | true =>
   rw [if_pos rfl,Z8 (by omega),Z8 (by simp; omega),Int.toNat_natCast,ZjC hk h,ZiJ h,show ((k + 1:Nat):Int) = (k:Int) + 1 by omega]
  | false =>
   rw [if_neg (by decide),zM (by omega),ZiG h,ZhQ h,show ((k + 1:Nat):Int) = (k:Int) + 1 by omega]
 ·simp only [zW.s1]
  rw [ZF (by omega)]
noncomputable def PS (l:List Za):Nat→List (List Int) × List Bool
 | 0=>([],List.replicate l.length false)
 | n + 1=>if gi (PS l n).2 n = true then PS l n else ((PS l n).1++[Zcm l n l.length],Zds l n (PS l n).2 l.length)
theorem ZiW {l:List Za}:∀ n,(PS l n).1.length≤n∧(PS l n).2.length = l.length
 | 0=>by simp [PS]
 | n + 1=>by
  have:=ZiW (l:=l) n
  simp only [PS]
  split
  ·exact ⟨by omega,this.2⟩
  ·exact ⟨by simp; omega,ZaB⟩
theorem ZhG {l:List Za} (hc:Ck l) (hl:l.length≤1200):zW l = some ((PS l l.length).1,0):=by
 have hk:Zd2 l = 0:=ZcQ.2 ⟨by omega,hc⟩
 have h:ZV (zW.s0 l) big (([]:List (List Int)),List.replicate l.length false,0) = some (PS l l.length).1:=by
  refine Zbx (fun n:Nat=>((PS l n).1,(PS l n).2,(n:Int))) (n:=l.length) (ZaI (by omega)) rfl (fun n hn=>?_) ?_
  ·have hp:=ZiW (l:=l) n
   simp only [zW.s0]
   rw [ZG (by omega),Z8 (by omega),Int.toNat_natCast,zM (by omega)]
   by_cases c:gi (PS l n).2 n = true
   ·rw [if_pos c,show PS l (n + 1) = PS l n by rw [PS,if_pos c],show ((n + 1:Nat):Int) = (n:Int) + 1 by omega]
   ·obtain ⟨fr,dr,e1,sp⟩:=ZkA hc hl hn
    rw [if_neg c,e1,Option.bind_some]
    dsimp only
    rw [Zky hl hp.2 sp hc hn,Option.bind_some]
    dsimp only
    rw [Z8 (by omega),zM (by omega),show PS l (n + 1) = ((PS l n).1++[Zcm l n l.length],Zds l n (PS l n).2 l.length) by rw [PS,if_neg c],show ((n + 1:Nat):Int) = (n:Int) + 1 by omega]
  ·simp only [zW.s0]
   rw [ZF (by omega)]
 unfold zW
 rw [ZeS (by omega),Option.bind_some,hk,Zam rfl,Z8 (by omega),Int.toNat_natCast,h,Option.bind_some]
end Mu
/- Layer 13: the document's parts,and the law. -/
set_option linter.unusedVariables false
set_option linter.unusedSimpArgs false
set_option maxRecDepth 10000
namespace Mu
theorem ZlJ {l:List Za} (hc:Ck l) (hl:l.length≤1200):ZbF l = some (decide (((PS l l.length).1.length:Int) = 1)):=by
 unfold ZbF
 rw [ZhG hc hl,Option.bind_some]
 simp
end Mu
/- Layer 10: a grid's cells,played with. -/
set_option linter.unusedVariables false
set_option linter.unusedSimpArgs false
set_option maxRecDepth 10000
namespace Mu
structure Rg (l:List Za):Prop where
 len:l.length≤4096
 nx:∀ v d:Nat,v < l.length→d < 4→nx l v d = -1∨(0≤nx l v d∧nx l v d < l.length)
theorem Rg.wth {l:List Za} {v w d:Nat} {o:Int} (h:Rg l) (hv:v < l.length) (hw:w < l.length) (hvw:v≠w) (hd:d < 4):Rg (wth l v d w o):=by
 refine ⟨by rw [Zcn]; exact h.len,fun i e hi he=>?_⟩
 rw [Zcn] at hi ⊢
 rw [(ZfI hv hw hvw hd hi he).1]
 split
 ·omega
 ·split
  ·omega
  ·exact h.nx i e hi he
theorem ZjH {d:Nat} (h:d < 4):noC.Next.get (d:Int) = -1∧noC.Owner.get (d:Int) = 0:=by
 match d,h with
 | 0,_ | 1,_ | 2,_ | 3,_=>exact ⟨rfl,rfl⟩
theorem Rg.add {l:List Za} (h:Rg l) (hl:l.length < 4096):Rg (l++[noC]):=by
 refine ⟨by simp; omega,fun i e hi he=>?_⟩
 rw [List.length_append,List.length_singleton] at hi ⊢
 unfold Mu.nx
 by_cases c:i < l.length
 ·rw [Zb8 c]
  have:=h.nx i e c he
  unfold Mu.nx at this
  omega
 ·rw [show i = l.length + 0 by omega,Zbu]
  exact .inl (ZjH he).1
end Mu
/- Layer 10: a split edge. -/
set_option linter.unusedVariables false
set_option linter.unusedSimpArgs false
set_option maxRecDepth 10000
namespace Mu
end Mu
/- Layer 10: GridPlays. -/
set_option linter.unusedVariables false
set_option linter.unusedSimpArgs false
set_option maxRecDepth 10000
namespace Mu
theorem Rg.start {n:Nat} (h:n≤4096):Rg (List.replicate n noC):=by
 refine ⟨by simpa using h,fun v d hv hd=>?_⟩
 simp only [List.length_replicate] at hv
 have:gi (List.replicate n noC) v = noC:=by rw [Za1 (by simpa using hv)]; simp
 unfold Mu.nx
 rw [this]
 exact .inl (ZjH hd).1
end Mu
/- Layer 10: turned cells; what Split and Of answer. -/
set_option linter.unusedVariables false
set_option linter.unusedSimpArgs false
set_option maxRecDepth 10000
namespace Mu
def tc (c:Za):Za:=⟨⟨c.Next.d,c.Next.a,c.Next.b,c.Next.c⟩,⟨c.Owner.d,c.Owner.a,c.Owner.b,c.Owner.c⟩⟩
def trn (l:List Za):List Za:=(List.range l.length).map fun v=>tc (gi l v)
theorem ZbH {l:List Za}:(trn l).length = l.length:=by simp [trn]
theorem ZkB {l:List Za} (hl:l.length≤100000000):ZX l = some (trn l):=by
 unfold ZX
 rw [Zgi (x:=trn l)]
 refine Zbx (fun n:Nat=>((List.range n).map fun v=>tc (gi l v),(n:Int))) (n:=l.length) (ZaI (by omega)) rfl (fun n hn=>?_) ?_
 ·have inner:ZV (ZX.s1 l n) big (gi l n,0) = some (tc (gi l n)):=by
   have g:(n:Int).toNat = n:=Int.toNat_natCast n
   obtain ⟨c,hc⟩:∃ c,c = gi l n:=⟨_,rfl⟩
   refine Zbx (fun k:Nat=>((⟨⟨if 3 < k then c.Next.d else c.Next.a,if 0 < k then c.Next.a else c.Next.b,if 1 < k then c.Next.b else c.Next.c,if 2 < k then c.Next.c else c.Next.d⟩,⟨if 3 < k then c.Owner.d else c.Owner.a,if 0 < k then c.Owner.a else c.Owner.b,if 1 < k then c.Owner.b else c.Owner.c,if 2 < k then c.Owner.c else c.Owner.d⟩⟩:Za),(k:Int))) (n:=4) (ZaI (by omega)) (by rw [← hc]; rfl) (fun k hk=>?_) ?_
   ·simp only [ZX.s1]
    rw [g,← hc]
    match k,hk with
    | 0,_ | 1,_ | 2,_ | 3,_=>rfl
   ·simp only [ZX.s1]
    rw [← hc]
    rfl
  simp only [ZX.s0]
  rw [ZG (by omega),Z8 (by omega),Int.toNat_natCast,inner,Option.bind_some,Z8 (by simp; omega),zM (by omega),List.range_succ,List.map_append,show ((n + 1:Nat):Int) = (n:Int) + 1 by omega]
  rfl
 ·simp only [ZX.s0]
  rw [ZF (by omega)]
  rfl
theorem ZbR {l:List Za} {v e:Nat} (hv:v < l.length) (he:e < 4):nx (trn l) v e = nx l v ((e + 3) % 4)∧ow (trn l) v e = ow l v ((e + 3) % 4):=by
 have g:gi (trn l) v = tc (gi l v):=Zc1 hv
 unfold nx ow
 rw [g]
 match e,he with
 | 0,_ | 1,_ | 2,_ | 3,_=>exact ⟨rfl,rfl⟩
theorem Ck.turn {l:List Za} (h:Ck l):Ck (trn l):=by
 refine ⟨fun v d hv hd=>?_⟩
 rw [ZbH] at hv ⊢
 rw [(ZbR hv hd).1,(ZbR hv hd).2]
 rcases h.s v ((d + 3) % 4) hv (by omega) with h | ⟨w,a,b,c,f,g,k⟩
 ·exact .inl h
 ·refine .inr ⟨w,a,b,c,?_,?_,k⟩
  ·rw [(ZbR b (by omega)).1,show ((d + 2) % 4 + 3) % 4 = ((d + 3) % 4 + 2) % 4 by omega]; exact f
  ·rw [(ZbR b (by omega)).2,show ((d + 2) % 4 + 3) % 4 = ((d + 3) % 4 + 2) % 4 by omega]; exact g
end Mu
/- Layer 13: JoinTurns. -/
set_option linter.unusedVariables false
set_option linter.unusedSimpArgs false
set_option maxRecDepth 10000
namespace Mu
theorem Zii {l:List Za} {a b:Nat} (ha:a < l.length):Adj (trn l) a b↔Adj l a b:=by
 constructor
 ·rintro ⟨d,hd,e⟩
  exact ⟨(d + 3) % 4,by omega,by rw [(ZbR ha hd).1] at e; exact e⟩
 ·rintro ⟨d,hd,e⟩
  refine ⟨(d + 1) % 4,by omega,?_⟩
  rw [(ZbR ha (by omega)).1,show ((d + 1) % 4 + 3) % 4 = d by omega]; exact e
theorem Ziv {l:List Za} (hc:Ck l) {v n w:Nat} (hv:v < l.length):Rch (trn l) v n w↔Rch l v n w:=by
 constructor
 ·intro h
  induction h with
  | zero=>exact .zero
  | succ _ hab ih=>exact .succ ih ((Zii (ih.lt hc hv)).1 hab)
 ·intro h
  induction h with
  | zero=>exact .zero
  | succ h2 hab ih=>exact .succ ih ((Zii (h2.lt hc hv)).2 hab)
theorem ZjK {l:List Za} (hc:Ck l) {v w:Nat} (hv:v < l.length):rb (trn l) v w = rb l v w:=by
 rw [Bool.eq_iff_iff,ZfQ,ZfQ]
 exact ⟨fun ⟨n,h⟩=>⟨n,(Ziv hc hv).1 h⟩,fun ⟨n,h⟩=>⟨n,(Ziv hc hv).2 h⟩⟩
theorem ZgO {l l':List Za} {v k:Nat} (h:∀ w,w < k→rb l' v w = rb l v w):Zcm l' v k = Zcm l v k:=by
 unfold Zcm
 congr 1
 apply List.filter_congr
 intro w hw
 rw [List.mem_range] at hw
 rw [h w hw]
theorem ZiX {l:List Za} (hc:Ck l):∀ n,n≤l.length→PS (trn l) n = PS l n
 | 0,_=>by simp only [PS,ZbH]
 | n + 1,hn=>by
  have ih:=ZiX hc n (by omega)
  simp only [PS,ih,ZbH]
  rw [ZgO (l:=l) (l':=trn l) (fun w _=>ZjK hc (by omega))]
  have:Zds (trn l) n (PS l n).2 l.length = Zds l n (PS l n).2 l.length:=by
   apply Zc2 (by rw [ZaB,ZaB,ZbH])
   intro i hi
   rw [ZaB,ZbH] at hi
   rw [Zdh (by rw [ZbH]; exact hi),Zdh hi,ZjK hc (by omega)]
  rw [this]
/-! the split edge -/
def ext (v u:Int) (p:List Int):List Int:=if v∈p then p++[u] else p
theorem ZhF {s:List Int} {v:Int} (hs:s.length≤1000000):ZaA s v = some (decide (v∈s)):=by
 have h:ZV (zU.s0 s v) big 0 = some (match (List.range s.length).find? (fun i=>decide (v = gi s i)) with | some i=>.inr (i:Int) | none=>.inl ()):=by
  refine ZcD (n:=s.length) (P:=fun i=>decide (v = gi s i)) (f:=fun i=>(i:Int)) (ZaI (by omega)) (fun i hi=>?_) ?_
  ·simp only [zU.s0]
   rw [ZG (by omega),Z8 (by omega),Int.toNat_natCast,zM (by omega)]
   by_cases c:v = gi s i
   ·rw [ZG c,ZG c]
   ·rw [ZF c,ZF c]
  ·simp only [zU.s0]
   rw [ZF (by omega)]
 unfold ZaA zU
 rw [h,Option.bind_some]
 cases hf:(List.range s.length).find? (fun i=>decide (v = gi s i)) with
 | none =>
  rw [List.find?_range_eq_none] at hf
  rw [Zbj (c:=v∈s)]
  ·rfl
  ·intro hm
   obtain ⟨i,hi,e⟩:=List.mem_iff_getElem.1 hm
   have:=hf i hi
   rw [Za1 hi] at this
   simp [e] at this
 | some i =>
  rw [List.find?_range_eq_some] at hf
  obtain ⟨h1,h2,_⟩:=hf
  have hi:i < s.length:=by simpa using h2
  have e:v = gi s i:=by simpa using h1
  rw [ZaV (c:=v∈s) (by rw [e]; exact Zbl hi)]
  dsimp only
  rw [Option.bind_some,ZaV (by omega)]
end Mu
/- Layer 16: straight chains of cells. -/
set_option linter.unusedVariables false
set_option linter.unusedSimpArgs false
set_option maxRecDepth 10000
namespace Mu
theorem Ck.back {l:List Za} (h:Ck l) {v d w:Nat} (hv:v < l.length) (hd:d < 4) (hw:nx l v d = w):w < l.length∧nx l w ((d + 2) % 4) = v:=by
 rcases h.s v d hv hd with ⟨a,_⟩ | ⟨u,a,b,_,c,_⟩
 ·omega
 ·have:w = u:=by omega
  subst this; exact ⟨b,c⟩
structure IsCh (l:List Za) (d:Nat) (C:List Int):Prop where
 ne:0 < C.length
 lt:∀ i,i < C.length→0≤gi C i∧gi C i < l.length
 nxt:∀ i,i + 1 < C.length→nx l (gi C i).toNat d = gi C (i + 1)
 fin:nx l (gi C (C.length - 1)).toNat d = -1
 beg:nx l (gi C 0).toNat ((d + 2) % 4) = -1
theorem IsCh.bk {l:List Za} (hc:Ck l) {d:Nat} (hd:d < 4) {C:List Int} (h:IsCh l d C) {i:Nat} (hi:i + 1 < C.length):nx l (gi C (i + 1)).toNat ((d + 2) % 4) = gi C i:=by
 have a:=h.lt i (by omega)
 have b:=h.lt (i + 1) hi
 have:=(hc.back (v:=(gi C i).toNat) (d:=d) (w:=(gi C (i + 1)).toNat) (by omega) hd (by rw [h.nxt i hi]; omega)).2
 rw [this]; omega
theorem IsCh.at0 {l:List Za} (hc:Ck l) {d:Nat} (hd:d < 4) {C C':List Int} (h:IsCh l d C) (h':IsCh l d C'):∀ i j,i < C.length→j < C'.length→gi C i = gi C' j→i = j∧gi C 0 = gi C' 0
 | 0,0,_,_,e=>⟨rfl,e⟩
 | 0,j + 1,_,hj,e=>by
  have a:=h'.bk hc hd hj
  have b:=h.beg
  rw [e,a] at b
  have:=h'.lt j (by omega)
  omega
 | i + 1,0,hi,_,e=>by
  have a:=h.bk hc hd hi
  have b:=h'.beg
  rw [← e,a] at b
  have:=h.lt i (by omega)
  omega
 | i + 1,j + 1,hi,hj,e=>by
  have a:=h.bk hc hd hi
  have b:=h'.bk hc hd hj
  rw [e,b] at a
  obtain ⟨q,r⟩:=IsCh.at0 hc hd h h' i j (by omega) (by omega) a.symm
  exact ⟨by omega,r⟩
theorem IsCh.uniq0 {l:List Za} {d:Nat} {C C':List Int} (h:IsCh l d C) (h':IsCh l d C') (h0:gi C 0 = gi C' 0):C = C':=by
 have key:∀ {C C':List Int},IsCh l d C→IsCh l d C'→gi C 0 = gi C' 0→∀ k,k < C.length→k < C'.length∧gi C k = gi C' k:=by
  intro C C' h h' h0 k
  induction k with
  | zero=>intro _; exact ⟨h'.ne,h0⟩
  | succ k ih =>
   intro hk
   obtain ⟨a,b⟩:=ih (by omega)
   have n:=h.nxt k hk
   have q:=h.lt (k + 1) hk
   by_cases c:k + 1 < C'.length
   ·refine ⟨c,?_⟩
    rw [← n,← h'.nxt k c,b]
   ·have f:=h'.fin
    rw [show C'.length - 1 = k by omega,← b,n] at f
    omega
 have k1:=key h h' h0
 have k2:=key h' h h0.symm
 have hl:C.length = C'.length:=by
  have a:=h.ne
  have b:=h'.ne
  have:=(k1 (C.length - 1) (by omega)).1
  have:=(k2 (C'.length - 1) (by omega)).1
  omega
 exact Zc2 hl fun i hi=>(k1 i hi).2
theorem IsCh.uniq {l:List Za} (hc:Ck l) {d:Nat} (hd:d < 4) {C C':List Int} (h:IsCh l d C) (h':IsCh l d C') {v:Int} (hv:v∈C) (hv':v∈C'):C = C':=by
 obtain ⟨i,hi,rfl⟩:=List.mem_iff_getElem.1 hv
 obtain ⟨j,hj,e⟩:=List.mem_iff_getElem.1 hv'
 exact h.uniq0 h' (h.at0 hc hd h' i j hi hj (by rw [Za1 hi,Za1 hj]; exact e.symm)).2
theorem IsCh.len {l:List Za} (hc:Ck l) {d:Nat} (hd:d < 4) {C:List Int} (h:IsCh l d C):C.length≤l.length:=by
 refine ZgQ (fun i=>(gi C i).toNat) (fun i hi=>?_) (fun i j hi hj e=>?_)
 ·have:=h.lt i hi; show (gi C i).toNat < l.length; omega
 ·have a:=h.lt i hi
  have b:=h.lt j hj
  have e:(gi C i).toNat = (gi C j).toNat:=e
  exact (h.at0 hc hd h i j hi hj (by omega)).1
theorem Zhl {P:Nat→Prop}:∀ k,P k→∃ k,P k∧∀ i,i < k→¬ P i:=by
 intro k
 induction k using Nat.strongRecOn with
 | _ k ih =>
  intro h
  by_cases c:∃ i,i < k∧P i
  ·obtain ⟨i,hi,hp⟩:=c
   exact ih i hi hp
  ·exact ⟨k,h,fun i hi hp=>c ⟨i,hi,hp⟩⟩
def fwd (l:List Za) (d r:Nat):Nat→Int
 | 0=>r
 | n + 1=>if 0≤fwd l d r n then nx l (fwd l d r n).toNat d else -1
theorem Zjs {l:List Za} (hc:Ck l) {d r:Nat} (hd:d < 4) (hr:r < l.length) (hb:nx l r ((d + 2) % 4) = -1):∃ C,IsCh l d C∧gi C 0 = r:=by
 have step:∀ n,0≤fwd l d r n→fwd l d r (n + 1) = nx l (fwd l d r n).toNat d:=fun n h=>by rw [fwd,if_pos h]
 have pre:∀ n,0≤fwd l d r (n + 1)→0≤fwd l d r n:=by
  intro n h
  by_cases c:0≤fwd l d r n
  ·exact c
  ·rw [fwd,if_neg c] at h; omega
 have lt:∀ n,0≤fwd l d r n→fwd l d r n < l.length:=by
  intro n
  induction n with
  | zero=>intro _; show (r:Int) < l.length; omega
  | succ n ih =>
   intro h
   have c:=pre n h
   have:=ih c
   rw [step n c]
   exact (hc.lt (by omega) hd).2
 have bkw:∀ n,0≤fwd l d r (n + 1)→nx l (fwd l d r (n + 1)).toNat ((d + 2) % 4) = fwd l d r n:=by
  intro n h
  have c:=pre n h
  have a:=lt n c
  have b:=lt (n + 1) h
  have:=(hc.back (v:=(fwd l d r n).toNat) (d:=d) (w:=(fwd l d r (n + 1)).toNat) (by omega) hd (by rw [← step n c]; omega)).2
  rw [this]; omega
 have z:fwd l d r 0 = r:=rfl
 have inj:∀ i j,0≤fwd l d r i→0≤fwd l d r j→fwd l d r i = fwd l d r j→i = j:=by
  intro i
  induction i with
  | zero =>
   intro j _ hj e
   cases j with
   | zero=>rfl
   | succ j =>
    have:=bkw j hj
    rw [← e,z,Int.toNat_natCast,hb] at this
    have:=pre j hj
    omega
  | succ i ih =>
   intro j hi hj e
   cases j with
   | zero =>
    have:=bkw i hi
    rw [e,z,Int.toNat_natCast,hb] at this
    have:=pre i hi
    omega
   | succ j =>
    have a:=bkw i hi
    have b:=bkw j hj
    rw [e,b] at a
    have:=ih j (pre i hi) (pre j hj) a.symm
    omega
 have ex:∃ k,fwd l d r k < 0:=by
  refine Classical.byContradiction fun hn=>?_
  have all:∀ k,0≤fwd l d r k:=fun k=>by
   by_cases c:0≤fwd l d r k
   ·exact c
   ·exact absurd ⟨k,by omega⟩ hn
  have:=ZgQ (n:=l.length + 1) (m:=l.length) (fun i=>(fwd l d r i).toNat) (fun i _=>by
   have:=lt i (all i); have:=all i
   show (fwd l d r i).toNat < l.length; omega) (fun i j _ _ e=>inj i j (all i) (all j) (by
   have e:(fwd l d r i).toNat = (fwd l d r j).toNat:=e
   have:=all i; have:=all j
   omega))
  omega
 obtain ⟨k0,hk0⟩:=ex
 obtain ⟨k,hk,hm⟩:=Zhl (P:=fun k=>fwd l d r k < 0) k0 hk0
 have hpos:0 < k:=by
  cases k with
  | zero=>rw [z] at hk; omega
  | succ k=>omega
 have g:∀ i,i < k→gi ((List.range k).map (fwd l d r)) i = fwd l d r i:=fun i hi=>Zc1 hi
 have hlen:((List.range k).map (fwd l d r)).length = k:=by simp
 have ge:∀ i,i < k→0≤fwd l d r i:=fun i hi=>by have:=hm i hi; omega
 refine ⟨(List.range k).map (fwd l d r),⟨by omega,fun i hi=>?_,fun i hi=>?_,?_,?_⟩,?_⟩
 ·rw [hlen] at hi
  rw [g i hi]; exact ⟨ge i hi,lt i (ge i hi)⟩
 ·rw [hlen] at hi
  rw [g i (by omega),g (i + 1) hi,step i (ge i (by omega))]
 ·rw [hlen,g _ (by omega),← step _ (ge _ (by omega)),show k - 1 + 1 = k by omega]
  have:=ge (k - 1) (by omega)
  have a:=step (k - 1) this
  rw [show k - 1 + 1 = k by omega] at a
  have:=lt (k - 1) this
  have:=hc.lt (l:=l) (v:=(fwd l d r (k - 1)).toNat) (d:=d) (by omega) hd
  omega
 ·rw [g 0 hpos,z,Int.toNat_natCast]; exact hb
 ·rw [g 0 hpos,z]
def ZcW (l:List Za) (b:Nat):Nat→Nat→Option Nat
 | 0,_=>none
 | n + 1,v=>if nx l v b < 0 then some v else ZcW l b n (nx l v b).toNat
theorem Ze4 {l:List Za} (hc:Ck l) {d:Nat} (hd:d < 4) {C:List Int} (h:IsCh l d C):∀ i m,i < C.length→i < m→ZcW l ((d + 2) % 4) m (gi C i).toNat = some (gi C 0).toNat
 | 0,m + 1,_,_=>by rw [ZcW,h.beg,if_pos (by omega)]
 | i + 1,m + 1,hi,hm=>by
  have:=h.lt i (by omega)
  rw [ZcW,h.bk hc hd hi,if_neg (by omega)]
  exact Ze4 hc hd h i m (by omega) (by omega)
theorem ZdD {l:List Za} (hc:Ck l) {d:Nat} (hd:d < 4):∀ m v r,v < l.length→ZcW l ((d + 2) % 4) m v = some r→∃ C,IsCh l d C∧gi C 0 = r∧∃ i,i < C.length∧gi C i = v
 | 0,v,r,_,h=>by cases h
 | m + 1,v,r,hv,h=>by
  have hb:=hc.lt hv (d:=(d + 2) % 4) (by omega)
  rw [ZcW] at h
  by_cases c:nx l v ((d + 2) % 4) < 0
  ·rw [if_pos c] at h
   cases h
   obtain ⟨C,hC,h0⟩:=Zjs hc hd hv (by omega)
   exact ⟨C,hC,h0,0,hC.ne,h0⟩
  ·rw [if_neg c] at h
   have bk:=hc.back (v:=v) (d:=(d + 2) % 4) (w:=(nx l v ((d + 2) % 4)).toNat) hv (by omega) (by omega)
   rw [show ((d + 2) % 4 + 2) % 4 = d by omega] at bk
   obtain ⟨C,hC,h0,i,hi,e⟩:=ZdD hc hd m _ r (by omega) h
   have n:nx l (gi C i).toNat d = v:=by rw [e,Int.toNat_natCast]; exact bk.2
   by_cases q:i + 1 < C.length
   ·exact ⟨C,hC,h0,i + 1,q,by rw [← hC.nxt i q]; exact n⟩
   ·have f:=hC.fin
    rw [show C.length - 1 = i by omega,n] at f
    omega
def AllCh (l:List Za) (d:Nat):Prop:=∀ v:Nat,v < l.length→∃ C,IsCh l d C∧(v:Int)∈C
theorem AllCh.root {l:List Za} (hc:Ck l) {d:Nat} (hd:d < 4) (h:AllCh l d) {v:Nat} (hv:v < l.length):∃ r C,ZcW l ((d + 2) % 4) (l.length + 1) v = some r∧IsCh l d C∧gi C 0 = r∧(v:Int)∈C:=by
 obtain ⟨C,hC,hm⟩:=h v hv
 obtain ⟨i,hi,e⟩:=List.mem_iff_getElem.1 hm
 have:=hC.len hc hd
 have r:=Ze4 hc hd hC i (l.length + 1) hi (by omega)
 rw [Za1 hi,e,Int.toNat_natCast] at r
 have:=hC.lt 0 hC.ne
 exact ⟨_,C,r,hC,by omega,hm⟩
theorem ZiI {l:List Za} (hc:Ck l) {d:Nat} (hd:d < 4) (h:¬ AllCh l d):∃ v,v < l.length∧ZcW l ((d + 2) % 4) (l.length + 1) v = none:=by
 refine Classical.byContradiction fun hn=>h fun v hv=>?_
 cases r:ZcW l ((d + 2) % 4) (l.length + 1) v with
 | none=>exact absurd ⟨v,hv,r⟩ hn
 | some r' =>
  obtain ⟨C,hC,h0,i,hi,e⟩:=ZdD hc hd _ v r' hv r
  exact ⟨C,hC,by rw [← e]; exact Zbl hi⟩
structure CH (l:List Za) (d:Nat) (a:List Int) (L:List (List Int)):Prop where
 alen:a.length = l.length
 ch:∀ i,i < L.length→IsCh l d (gi L i)
 mem:∀ u:Nat,u < l.length→∃ i:Nat,i < L.length∧gi a u = i∧(u:Int)∈gi L i
 one:∀ i u:Nat,i < L.length→u < l.length→(u:Int)∈gi L i→gi a u = i
 seen:∀ i:Nat,i < L.length→∃ u,u < l.length∧gi a u = i
 ord:∀ u i:Nat,u < l.length→gi a u = i + 1→∃ u',u' < u∧gi a u' = i
 Ll:L.length≤l.length
theorem ZhO {n:Nat} {a:List Int} (ord:∀ u i:Nat,u < n→gi a u = i + 1→∃ u',u' < u∧gi a u' = i):∀ (k u i:Nat),u < n→gi a u = i + (k + 1:Nat)→∃ u',u' < u∧gi a u' = i
 | 0,u,i,hu,e=>ord u i hu (by omega)
 | k + 1,u,i,hu,e=>by
  obtain ⟨u',h1,h2⟩:=ord u (i + (k + 1)) hu (by omega)
  obtain ⟨u'',h3,h4⟩:=ZhO ord k u' i (by omega) (by omega)
  exact ⟨u'',by omega,h4⟩
theorem ZlS {n:Nat} {a a':List Int} (p:∀ u:Nat,u < n→∃ i:Nat,gi a u = i) (p':∀ u:Nat,u < n→∃ i:Nat,gi a' u = i) (o:∀ u i:Nat,u < n→gi a u = i + 1→∃ u',u' < u∧gi a u' = i) (o':∀ u i:Nat,u < n→gi a' u = i + 1→∃ u',u' < u∧gi a' u' = i)
  (h:∀ u v:Nat,u < n→v < n→(gi a u = gi a v↔gi a' u = gi a' v)):∀ v:Nat,v < n→gi a v = gi a' v:=by
 intro v
 induction v using Nat.strongRecOn with
 | _ v ih =>
  intro hv
  obtain ⟨i,hi⟩:=p v hv
  obtain ⟨j,hj⟩:=p' v hv
  by_cases c:i = j
  ·rw [hi,hj,c]
  ·by_cases q:i < j
   ·obtain ⟨u,h1,h2⟩:=ZhO o' (j - i - 1) v i hv (by omega)
    have:=ih u h1 (by omega)
    have:=(h u v (by omega) hv).1 (by omega)
    omega
   ·obtain ⟨u,h1,h2⟩:=ZhO o (i - j - 1) v j hv (by omega)
    have:=ih u h1 (by omega)
    have:=(h u v (by omega) hv).2 (by omega)
    omega
theorem CH.eq {l m:List Za} {d e:Nat} {a a':List Int} {L L':List (List Int)} (h:CH l d a L) (h':CH m e a' L') (hn:l.length = m.length) (f:List Int→List Int) (hf:∀ C C' v,IsCh l d C→IsCh m e C'→v∈C→v∈C'→C' = f C) (hm:∀ C v,v∈f C↔v∈C):a = a'∧L' = L.map f:=by
 have key:∀ u v:Nat,u < l.length→v < l.length→(gi a u = gi a v↔gi a' u = gi a' v):=by
  intro u v hu hv
  obtain ⟨i,i1,i2,i3⟩:=h.mem u hu
  obtain ⟨j,j1,j2,j3⟩:=h'.mem u (by omega)
  have e:=hf _ _ _ (h.ch i i1) (h'.ch j j1) i3 j3
  constructor
  ·intro q
   obtain ⟨k,k1,k2,k3⟩:=h.mem v hv
   have:k = i:=by omega
   subst this
   have:=h'.one j v j1 (by omega) (by rw [e]; exact (hm _ _).2 k3)
   omega
  ·intro q
   obtain ⟨k,k1,k2,k3⟩:=h'.mem v (by omega)
   have:k = j:=by omega
   subst this
   rw [e] at k3
   have:=h.one i v i1 hv ((hm _ _).1 k3)
   omega
 have ae:∀ v:Nat,v < l.length→gi a v = gi a' v:=ZlS (n:=l.length) (fun u hu=>by obtain ⟨i,_,e,_⟩:=h.mem u hu; exact ⟨i,e⟩) (fun u hu=>by obtain ⟨i,_,e,_⟩:=h'.mem u (by omega); exact ⟨i,e⟩) h.ord (fun u i hu=>h'.ord u i (by omega)) key
 refine ⟨Zc2 (by rw [h.alen,h'.alen,hn]) fun i hi=>ae i (by rw [h.alen] at hi; exact hi),?_⟩
 have ll:L'.length = L.length:=by
  have A:∀ i,i < L.length→i < L'.length:=by
   intro i hi
   obtain ⟨u,hu,e⟩:=h.seen i hi
   obtain ⟨j,j1,j2,_⟩:=h'.mem u (by omega)
   have:=ae u hu
   omega
  have B:∀ i,i < L'.length→i < L.length:=by
   intro i hi
   obtain ⟨u,hu,e⟩:=h'.seen i hi
   obtain ⟨j,j1,j2,_⟩:=h.mem u (by omega)
   have:=ae u (by omega)
   omega
  have a1:=A (L.length - 1)
  have b1:=B (L'.length - 1)
  omega
 apply Zc2 (by rw [ll,List.length_map])
 intro i hi
 have hi':i < L.length:=by omega
 obtain ⟨u,hu,e⟩:=h.seen i hi'
 obtain ⟨k,k1,k2,k3⟩:=h.mem u hu
 obtain ⟨j,j1,j2,j3⟩:=h'.mem u (by omega)
 have:=ae u hu
 have ek:k = i:=by omega
 have ej:j = i:=by omega
 subst ek; subst ej
 rw [hf _ _ _ (h.ch _ hi') (h'.ch _ hi) k3 j3,Za1 (l:=L.map f) (by simpa using hi'),Za1 hi',List.getElem_map]
end Mu
/- Layer 16: what the chains' code works out. -/
set_option linter.unusedVariables false
set_option linter.unusedSimpArgs false
set_option maxRecDepth 10000
namespace Mu
theorem ZmN {l:List Za} (hc:Ck l) (hl:l.length≤1000) {b:Nat} (hb:b < 4):∀ (m u j:Nat),j + m = l.length→u < l.length→ZV (za.s1 l b) (m + 1) ((u:Int),(j:Int)) = some (match ZcW l b (m + 1) u with | some r=>.inl (r:Int) | none=>.inr ()):=by
 intro m
 induction m with
 | zero =>
  intro u j hj hu
  have e:(gi l u).Next.get (b:Int) = nx l u b:=rfl
  simp only [ZV,za.s1,ZcW]
  rw [Z8 (by omega),Z8 (by omega),Int.toNat_natCast,e]
  by_cases c:nx l u b < 0
  ·rw [ZF (by omega),if_pos c]
  ·rw [ZG (by omega),ZG (by omega),if_neg c]
 | succ m ih =>
  intro u j hj hu
  have e:(gi l u).Next.get (b:Int) = nx l u b:=rfl
  have hlt:=hc.lt hu hb
  rw [ZV,ZcW]
  simp only [za.s1]
  rw [Z8 (by omega),Z8 (by omega),Int.toNat_natCast,e]
  by_cases c:nx l u b < 0
  ·rw [ZF (by omega),if_pos c]
  ·rw [ZG (by omega),ZF (by omega),zM (by omega),if_neg c]
   have:=ih (nx l u b).toNat (j + 1) (by omega) (by omega)
   rw [show ((nx l u b).toNat:Int) = nx l u b by omega,show ((j + 1:Nat):Int) = (j:Int) + 1 by omega] at this
   exact this
theorem Zhs {l:List Za} (hc:Ck l) (hl:l.length≤1000) {b v:Nat} (hb:b < 4) (hv:v < l.length):ZV (za.s1 l b) big ((v:Int),0) = some (match ZcW l b (l.length + 1) v with | some r=>.inl (r:Int) | none=>.inr ()):=by
 have:=ZmN hc hl hb l.length v 0 (by omega) hv
 exact Zc3 this (by unfold big; omega)
theorem ZgE {C:List Int} {i:Nat} (hi:i < C.length):gi (C++[-1]) i = gi C i:=Zb8 hi
theorem ZgF {C:List Int}:gi (C++[-1]) C.length = -1:=by
 have:=Zbu (l:=C) (m:=[(-1:Int)]) (i:=0)
 rwa [Nat.add_zero] at this
theorem Zik {l:List Za} {d:Nat} {C:List Int} (h:IsCh l d C) {i:Nat} (hi:i < C.length):nx l (gi C i).toNat d = gi (C++[-1]) (i + 1):=by
 by_cases c:i + 1 < C.length
 ·rw [ZgE c]; exact h.nxt i c
 ·have e:i + 1 = C.length:=by omega
  rw [e,ZgF]
  have:=h.fin
  rwa [show C.length - 1 = i by omega] at this
theorem ZjO {l:List Za} (hl:l.length≤1000) {d:Nat} (hd:d < 4) {C:List Int} (h:IsCh l d C) (hCl:C.length≤l.length) {a:List Int} (ha:a.length = l.length) {L:List (List Int)}:∃ r,ZV (za.s2 l d L) big (a,([]:List Int),gi C 0) = some r∧(r.2 = C∧r.1.length = l.length∧∀ u:Nat,u < l.length→gi r.1 u = if (u:Int)∈C then (L.length:Int) else gi a u):=by
 refine Zce (fun (k:Nat) (s:List Int × List Int × Int)=>s.2.1 = C.take k∧s.2.2 = gi (C++[-1]) k∧s.1.length = l.length∧∀ u:Nat,u < l.length→gi s.1 u = if (u:Int)∈C.take k then (L.length:Int) else gi a u) (n:=C.length) (ZaI (by omega)) ⟨by simp,(ZgE h.ne).symm,ha,fun u hu=>by simp⟩ ?_ ?_
 ·rintro k ⟨a',c,w⟩ hk ⟨h1,h2,h3,h4⟩
  dsimp only at h1 h2 h3 h4 ⊢
  subst h1
  rw [ZgE hk] at h2
  subst h2
  have hlt:=h.lt k hk
  have e:(gi l (gi C k).toNat).Next.get (d:Int) = nx l (gi C k).toNat d:=rfl
  simp only [za.s2]
  rw [ZG (by omega),Z8 (by omega),Z8 (by rw [List.length_take]; simp; omega),Z8 (by omega),Z8 (by omega),e,Zik h hk]
  refine ⟨_,rfl,by dsimp only; rw [ZgW hk],rfl,by rw [List.length_set]; exact h3,fun u hu=>?_⟩
  dsimp only
  have hmem:(u:Int)∈C.take k++[gi C k]↔((u:Int)∈C.take k∨(u:Int) = gi C k):=by rw [List.mem_append,List.mem_singleton]
  rw [ZbE (by omega),h4 u hu,ZgW hk]
  by_cases q:u = (gi C k).toNat
  ·rw [if_pos q,if_pos (hmem.2 (.inr (by omega)))]
  ·rw [if_neg q]
   by_cases q2:(u:Int)∈C.take k
   ·rw [if_pos q2,if_pos (hmem.2 (.inl q2))]
   ·rw [if_neg q2,if_neg (fun h=>by rcases hmem.1 h with q3 | q3; exact q2 q3; omega)]
 ·rintro ⟨a',c,w⟩ ⟨h1,h2,h3,h4⟩
  dsimp only at h1 h2 h3 h4 ⊢
  subst h1
  rw [ZgF] at h2
  subst h2
  simp only [za.s2]
  rw [ZF (by omega)]
  rw [List.take_length] at h4 ⊢
  exact ⟨_,rfl,rfl,h3,h4⟩
structure SI (l:List Za) (d:Nat) (a:List Int) (L:List (List Int)) (v:Nat):Prop where
 alen:a.length = l.length
 ch:∀ i,i < L.length→IsCh l d (gi L i)
 mem:∀ u:Nat,u < l.length→(gi a u = -1∧∀ i,i < L.length→(u:Int) ∉ gi L i)∨∃ i:Nat,i < L.length∧gi a u = i∧(u:Int)∈gi L i
 one:∀ i u:Nat,i < L.length→u < l.length→(u:Int)∈gi L i→gi a u = i
 done:∀ u,u < v→0≤gi a u
 seen:∀ i:Nat,i < L.length→∃ u,u < v∧gi a u = i
 ord:∀ u i:Nat,u < l.length→gi a u = i + 1→∃ u',u' < u∧gi a u' = i
 Ll:L.length≤v
theorem ZcX {α:Type} [Inhabited α] {L:List α} {C:α} {i:Nat} (hi:i < L.length + 1):gi (L++[C]) i = if i < L.length then gi L i else C:=by
 by_cases c:i < L.length
 ·rw [if_pos c,Zb8 c]
 ·rw [if_neg c,show i = L.length + 0 by omega,Zbu]; rfl
theorem SI.skip {l:List Za} {d v:Nat} {a:List Int} {L:List (List Int)} (h:SI l d a L v) (hv:0≤gi a v):SI l d a L (v + 1) :=
 ⟨h.alen,h.ch,h.mem,h.one,fun u hu=>by
  by_cases c:u = v
  ·subst c; exact hv
  ·exact h.done u (by omega),fun i hi=>by obtain ⟨u,a,b⟩:=h.seen i hi; exact ⟨u,by omega,b⟩,h.ord,by have:=h.Ll; omega⟩
theorem SI.add {l:List Za} (hc:Ck l) {d v:Nat} (hd:d < 4) {a a':List Int} {L:List (List Int)} (h:SI l d a L v) (hv:v < l.length) (hneg:gi a v < 0) {C:List Int} (hC:IsCh l d C) (hm:(v:Int)∈C) (al:a'.length = l.length) (ha:∀ u:Nat,u < l.length→gi a' u = if (u:Int)∈C then (L.length:Int) else gi a u):SI l d a' (L++[C]) (v + 1):=by
 have hL:(L++[C]).length = L.length + 1:=by simp
 have off:∀ i,i < L.length→∀ u:Nat,u < l.length→(u:Int)∈gi L i→(u:Int) ∉ C:=by
  intro i hi u hu h1 h2
  have e:=(h.ch i hi).uniq hc hd hC h1 h2
  have:=h.one i v hi hv (by rw [e]; exact hm)
  omega
 have late:∀ u:Nat,u < l.length→(u:Int)∈C→v≤u∧gi a u = -1:=by
  intro u hu h2
  have hneg1:gi a u = -1:=by
   rcases h.mem u hu with ⟨q,_⟩ | ⟨i,i1,_,i3⟩
   ·exact q
   ·exact absurd h2 (off i i1 u hu i3)
  refine ⟨?_,hneg1⟩
  by_cases c:u < v
  ·have:=h.done u c; omega
  ·omega
 have av:gi a' v = L.length:=by rw [ha v hv,if_pos hm]
 have old:∀ u:Nat,u < l.length→(u:Int) ∉ C→gi a' u = gi a u:=fun u hu q=>by rw [ha u hu,if_neg q]
 refine ⟨al,fun i hi=>?_,fun u hu=>?_,fun i u hi hu hmem=>?_,fun u hu=>?_,fun i hi=>?_,fun u i hu e=>?_,by rw [hL]; have:=h.Ll; omega⟩
 ·rw [ZcX (by omega)]
  split
  ·exact h.ch i (by assumption)
  ·exact hC
 ·by_cases q:(u:Int)∈C
  ·exact .inr ⟨L.length,by omega,by rw [ha u hu,if_pos q],by rw [ZcX (by omega),if_neg (by omega)]; exact q⟩
  ·rw [old u hu q]
   rcases h.mem u hu with ⟨p,r⟩ | ⟨i,i1,i2,i3⟩
   ·refine .inl ⟨p,fun i hi=>?_⟩
    rw [ZcX (by omega)]
    split
    ·exact r i (by assumption)
    ·exact q
   ·exact .inr ⟨i,by omega,i2,by rw [ZcX (by omega),if_pos i1]; exact i3⟩
 ·rw [ZcX (by omega)] at hmem
  by_cases c:i < L.length
  ·rw [if_pos c] at hmem
   rw [old u hu (off i c u hu hmem)]
   exact h.one i u c hu hmem
  ·rw [if_neg c] at hmem
   rw [ha u hu,if_pos hmem]; omega
 ·by_cases c:u = v
  ·subst c; rw [av]; omega
  ·have hul:u < l.length:=by omega
   by_cases q:(u:Int)∈C
   ·rw [ha u hul,if_pos q]; omega
   ·rw [old u hul q]; exact h.done u (by omega)
 ·by_cases c:i < L.length
  ·obtain ⟨u,u1,u2⟩:=h.seen i c
   refine ⟨u,by omega,?_⟩
   have hul:u < l.length:=by omega
   rw [old u hul (fun q=>by have:=late u hul q; omega)]; exact u2
  ·exact ⟨v,by omega,by rw [av]; omega⟩
 ·have push:∀ u',u' < v→gi a u' = i→∃ u',u' < v∧gi a' u' = i:=fun u' h1 h2=>⟨u',h1,by rw [old u' (by omega) (fun q=>by have:=late u' (by omega) q; omega)]; exact h2⟩
  by_cases q:(u:Int)∈C
  ·rw [ha u hu,if_pos q] at e
   obtain ⟨u',u1,u2⟩:=h.seen i (by omega)
   obtain ⟨u'',w1,w2⟩:=push u' u1 u2
   exact ⟨u'',by have:=late u hu q; omega,w2⟩
  ·rw [old u hu q] at e
   obtain ⟨u',u1,u2⟩:=h.ord u i hu e
   refine ⟨u',u1,?_⟩
   rw [old u' (by omega) (fun q=>by have:=late u' (by omega) q; omega)]; exact u2
theorem Ziy {l:List Za} (hc:Ck l) (hl:l.length≤64) {d:Nat} (hd:d < 4):(AllCh l d→∃ a L,za l d = some (a,L,true)∧CH l d a L)∧(¬ AllCh l d→za l d = some ([],[],false)):=by
 have rep:=Zip (n:=l.length) (by omega)
 have bk:=ZkY hd
 have z:∀ u:Nat,u < l.length→gi (List.replicate l.length (-1:Int)) u = -1:=fun u hu=>by rw [Za1 (by simpa using hu),List.getElem_replicate]
 have st:SI l d (List.replicate l.length (-1:Int)) [] 0:=⟨by simp,fun i hi=>by simp at hi,fun u hu=>.inl ⟨z u hu,fun i hi=>by simp at hi⟩,fun i u hi=>by simp at hi,fun u hu=>by omega,fun i hi=>by simp at hi,fun u i hu e=>by rw [z u hu] at e; omega,by simp⟩
 constructor
 ·intro hA
  have:∃ r:(List Int × List (List Int)) ⊕ Unit,ZV (za.s0 l d (((d + 2) % 4:Nat):Int)) big (List.replicate l.length (-1:Int),([]:List (List Int)),0) = some r∧∃ a L,r = .inl (a,L)∧SI l d a L l.length:=by
   refine Zce (fun (k:Nat) (s:List Int × List (List Int) × Int)=>SI l d s.1 s.2.1 k∧s.2.2 = k) (n:=l.length) (ZaI (by omega)) ⟨st,rfl⟩ ?_ ?_
   ·rintro k ⟨a,L,x⟩ hk ⟨h1,h2⟩
    dsimp only at h1 h2 ⊢
    subst h2
    have hal:=h1.alen
    have hLl:=h1.Ll
    simp only [za.s0]
    rw [ZG (by omega),Z8 (by omega),Int.toNat_natCast]
    by_cases c:0≤gi a k
    ·rw [ZG c,zM (by omega)]
     exact ⟨_,rfl,h1.skip c,by dsimp only; omega⟩
    ·obtain ⟨r,C,hr,hC,h0,hm⟩:=hA.root hc hd hk
     rw [ZF c,Zhs hc (by omega) (by omega) hk,hr,Option.bind_some]
     dsimp only
     obtain ⟨⟨a',C'⟩,e,e1,e2,e3⟩:=ZjO (by omega) hd hC (hC.len hc hd) hal (L:=L)
     dsimp only at e1 e2 e3
     subst e1
     rw [← h0,e,Option.bind_some]
     dsimp only
     rw [Z8 (by omega),zM (by omega)]
     exact ⟨_,rfl,h1.add hc hd hk (by omega) hC hm e2 e3,by dsimp only; omega⟩
   ·rintro ⟨a,L,x⟩ ⟨h1,h2⟩
    dsimp only at h1 h2 ⊢
    subst h2
    simp only [za.s0]
    rw [ZF (by omega)]
    exact ⟨_,rfl,a,L,rfl,h1⟩
  obtain ⟨r,e,a,L,rfl,h⟩:=this
  refine ⟨a,L,?_,h.alen,h.ch,fun u hu=>?_,h.one,h.seen,h.ord,h.Ll⟩
  ·unfold za
   rw [rep,Option.bind_some,bk,Option.bind_some,e,Option.bind_some]
  ·rcases h.mem u hu with ⟨q,_⟩ | q
   ·have:=h.done u hu; omega
   ·exact q
 ·intro hA
  obtain ⟨v0,hv0,hr0⟩:=ZiI hc hd hA
  have:∃ r:(List Int × List (List Int)) ⊕ Unit,ZV (za.s0 l d (((d + 2) % 4:Nat):Int)) big (List.replicate l.length (-1:Int),([]:List (List Int)),0) = some r∧r = .inr ():=by
   refine Zes (fun s:List Int × List (List Int) × Int=>l.length - s.2.2.toNat) (fun s=>∃ k:Nat,s.2.2 = k∧k≤v0∧SI l d s.1 s.2.1 k) (ZaI (by dsimp only; omega)) ⟨0,rfl,by omega,st⟩ ?_
   rintro ⟨a,L,x⟩ ⟨k,h2,hk0,h1⟩
   dsimp only at h1 h2 ⊢
   subst h2
   have hal:=h1.alen
   have hLl:=h1.Ll
   have hk:k < l.length:=by omega
   simp only [za.s0]
   rw [ZG (by omega),Z8 (by omega),Int.toNat_natCast]
   by_cases c:0≤gi a k
   ·left
    have hne:k≠v0:=by
     rintro rfl
     rcases h1.mem k hk with ⟨q,_⟩ | ⟨i,i1,i2,i3⟩
     ·omega
     ·obtain ⟨j,hj,e⟩:=List.mem_iff_getElem.1 i3
      have:=(h1.ch i i1).len hc hd
      have r:=Ze4 hc hd (h1.ch i i1) j (l.length + 1) hj (by omega)
      rw [Za1 hj,e,Int.toNat_natCast,hr0] at r
      cases r
    rw [ZG c,zM (by omega)]
    exact ⟨_,rfl,⟨k + 1,by dsimp only; omega,by omega,h1.skip c⟩,by dsimp only; omega⟩
   ·rw [ZF c,Zhs hc (by omega) (by omega) hk]
    cases hr:ZcW l ((d + 2) % 4) (l.length + 1) k with
    | none =>
     right
     exact ⟨_,rfl,rfl⟩
    | some r =>
     left
     have hne:k≠v0:=by rintro rfl; rw [hr] at hr0; cases hr0
     obtain ⟨C,hC,h0,i,hi,ei⟩:=ZdD hc hd _ k r hk hr
     have hm:(k:Int)∈C:=by rw [← ei]; exact Zbl hi
     rw [Option.bind_some]
     dsimp only
     obtain ⟨⟨a',C'⟩,e,e1,e2,e3⟩:=ZjO (by omega) hd hC (hC.len hc hd) hal (L:=L)
     dsimp only at e1 e2 e3
     subst e1
     rw [← h0,e,Option.bind_some]
     dsimp only
     rw [Z8 (by omega),zM (by omega)]
     exact ⟨_,rfl,⟨k + 1,by dsimp only; omega,by omega,h1.add hc hd hk (by omega) hC hm e2 e3⟩,by dsimp only; omega⟩
  obtain ⟨r,e,rfl⟩:=this
  unfold za
  rw [rep,Option.bind_some,bk,Option.bind_some,e,Option.bind_some]
end Mu
/- Layer 16: what the document's chains are. -/
set_option linter.unusedVariables false
set_option linter.unusedSimpArgs false
set_option maxRecDepth 10000
namespace Mu
structure RI (l:List Za) (d:Nat) (a F:List Int) (L:List (List Int)) (v:Nat):Prop where
 alen:a.length = l.length
 flen:F.length = L.length
 ch:∀ i,i < L.length→IsCh l d (gi L i)∧gi (gi L i) 0 = gi F i
 mem:∀ u:Nat,u < v→∃ i:Nat,i < L.length∧gi a u = i∧(u:Int)∈gi L i
 inj:∀ i j,i < L.length→j < L.length→gi F i = gi F j→i = j
 seen:∀ i:Nat,i < L.length→∃ u,u < v∧gi a u = i
 ord:∀ u i:Nat,u < v→gi a u = i + 1→∃ u',u' < u∧gi a u' = i
 Ll:L.length≤v
theorem RI.old {l:List Za} {d v k:Nat} {a F:List Int} {L:List (List Int)} (h:RI l d a F L v) (hv:v < l.length) (hk:k < L.length) (hm:(v:Int)∈gi L k):RI l d (a.set v k) F L (v + 1):=by
 have hal:=h.alen
 have g:∀ u,gi (a.set v (k:Int)) u = if u = v then (k:Int) else gi a u:=fun u=>ZbE (by omega)
 refine ⟨by rw [List.length_set,hal],h.flen,h.ch,fun u hu=>?_,h.inj,fun i hi=>?_,fun u i hu e=>?_,by have:=h.Ll; omega⟩
 ·rw [g]
  by_cases c:u = v
  ·subst c; exact ⟨k,hk,by rw [if_pos rfl],hm⟩
  ·rw [if_neg c]; exact h.mem u (by omega)
 ·obtain ⟨u,u1,u2⟩:=h.seen i hi
  exact ⟨u,by omega,by rw [g,if_neg (by omega)]; exact u2⟩
 ·rw [g] at e
  by_cases c:u = v
  ·rw [if_pos c] at e
   obtain ⟨u',u1,u2⟩:=h.seen i (by omega)
   exact ⟨u',by omega,by rw [g,if_neg (by omega)]; exact u2⟩
  ·rw [if_neg c] at e
   obtain ⟨u',u1,u2⟩:=h.ord u i (by omega) e
   exact ⟨u',u1,by rw [g,if_neg (by omega)]; exact u2⟩
theorem RI.new {l:List Za} {d v:Nat} {a F:List Int} {L:List (List Int)} (h:RI l d a F L v) (hv:v < l.length) {C:List Int} (hC:IsCh l d C) (hm:(v:Int)∈C) (hn:∀ j,j < F.length→gi F j≠gi C 0):RI l d (a.set v (L.length:Nat)) (F++[gi C 0]) (L++[C]) (v + 1):=by
 have hal:=h.alen
 have hfl:=h.flen
 have hL:(L++[C]).length = L.length + 1:=by simp
 have g:∀ u,gi (a.set v (L.length:Int)) u = if u = v then (L.length:Int) else gi a u:=fun u=>ZbE (by omega)
 have gF:∀ i,i < L.length + 1→gi (F++[gi C 0]) i = if i < L.length then gi F i else gi C 0:=fun i hi=>by rw [ZcX (by omega),hfl]
 refine ⟨by rw [List.length_set,hal],by simp [hfl],fun i hi=>?_,fun u hu=>?_,fun i j hi hj e=>?_,fun i hi=>?_,fun u i hu e=>?_,by rw [hL]; have:=h.Ll; omega⟩
 ·rw [ZcX (by omega),gF i (by omega)]
  by_cases c:i < L.length
  ·rw [if_pos c,if_pos c]; exact h.ch i c
  ·rw [if_neg c,if_neg c]; exact ⟨hC,rfl⟩
 ·rw [g]
  by_cases c:u = v
  ·subst c; exact ⟨L.length,by omega,by rw [if_pos rfl],by rw [ZcX (by omega),if_neg (by omega)]; exact hm⟩
  ·rw [if_neg c]
   obtain ⟨i,i1,i2,i3⟩:=h.mem u (by omega)
   exact ⟨i,by omega,i2,by rw [ZcX (by omega),if_pos i1]; exact i3⟩
 ·rw [gF i (by omega),gF j (by omega)] at e
  by_cases c:i < L.length
  ·rw [if_pos c] at e
   by_cases c2:j < L.length
   ·rw [if_pos c2] at e; exact h.inj i j c c2 e
   ·rw [if_neg c2] at e; exact absurd e (hn i (by omega))
  ·rw [if_neg c] at e
   by_cases c2:j < L.length
   ·rw [if_pos c2] at e; exact absurd e.symm (hn j (by omega))
   ·omega
 ·by_cases c:i < L.length
  ·obtain ⟨u,u1,u2⟩:=h.seen i c
   exact ⟨u,by omega,by rw [g,if_neg (by omega)]; exact u2⟩
  ·exact ⟨v,by omega,by rw [g,if_pos rfl]; omega⟩
 ·rw [g] at e
  by_cases c:u = v
  ·rw [if_pos c] at e
   obtain ⟨u',u1,u2⟩:=h.seen i (by omega)
   exact ⟨u',by omega,by rw [g,if_neg (by omega)]; exact u2⟩
  ·rw [if_neg c] at e
   obtain ⟨u',u1,u2⟩:=h.ord u i (by omega) e
   exact ⟨u',u1,by rw [g,if_neg (by omega)]; exact u2⟩
/-! both together -/
theorem CH.same {l:List Za} (hc:Ck l) {d:Nat} (hd:d < 4) {a a':List Int} {L L':List (List Int)} (h:CH l d a L) (h':CH l d a' L'):a = a'∧L = L':=by
 have:=h.eq h' rfl id (fun C C' v c1 c2 m1 m2=>(c1.uniq hc hd c2 m1 m2).symm) (fun C v=>Iff.rfl)
 exact ⟨this.1,by rw [this.2,List.map_id]⟩
theorem ZfH {l:List Za} (hl:l.length≤64) (h:Zd2 l = 0) (A:AllCh l 1∧AllCh l 0):∃ X Y V H,Zcg l = some (⟨X,Y,V,H⟩,0)∧CH l 1 X V∧CH l 0 Y H:=by
 have hc:=(ZcQ.1 h).2
 have s1:=Ziy hc hl (d:=1) (by omega)
 have s0:=Ziy hc hl (d:=0) (by omega)
 rw [show ((1:Nat):Int) = 1 from rfl] at s1
 rw [show ((0:Nat):Int) = 0 from rfl] at s0
 obtain ⟨X,V,e1,c1⟩:=s1.1 A.1
 obtain ⟨Y,H,e2,c2⟩:=s0.1 A.2
 refine ⟨X,Y,V,H,?_,c1,c2⟩
 unfold Zcg
 rw [ZeS (by omega),Option.bind_some,Zam h,e1,Option.bind_some]
 dsimp only
 rw [e2,Option.bind_some]
 rfl
end Mu
/- Layer 16: SegTells,SegMeets,SegTurns. -/
set_option linter.unusedVariables false
set_option linter.unusedSimpArgs false
set_option maxRecDepth 10000
namespace Mu
theorem Made.allCh {l:List Za} {pts:List Ze} (h:Made l pts) {d:Nat} (hd:d < 2):AllCh l d:=by
 have hc:=h.ck
 have hl:=h.len
 obtain ⟨co,hco⟩:∃ co:Nat→Int,co = fun v=>if d = 0 then (gi pts v).X else (gi pts v).Y:=⟨_,rfl⟩
 have pos:∀ v,v < l.length→0≤co v∧co v < 8:=by
  intro v hv
  have:=h.pts.b v (by omega)
  rw [hco]; dsimp only
  split <;> omega
 have key:∀ m v:Nat,v < l.length→co v < (m:Int)→∃ r,ZcW l ((d + 2) % 4) m v = some r:=by
  intro m
  induction m with
  | zero=>intro v hv hm; have:=pos v hv; omega
  | succ m ih =>
   intro v hv hm
   have hb:=hc.lt hv (d:=(d + 2) % 4) (by omega)
   rw [ZcW]
   by_cases c:nx l v ((d + 2) % 4) < 0
   ·exact ⟨v,if_pos c⟩
   ·rw [if_neg c]
    have bk:=hc.back (v:=v) (d:=(d + 2) % 4) (w:=(nx l v ((d + 2) % 4)).toNat) hv (by omega) (by omega)
    rw [show ((d + 2) % 4 + 2) % 4 = d by omega] at bk
    refine ih _ bk.1 ?_
    rcases h.near _ d bk.1 hd with q | q
    ·omega
    ·rw [bk.2] at q
     rcases q with ⟨q,_⟩ | ⟨j,e,_,q,_⟩
     ·omega
     ·have:j = v:=by omega
      subst this
      have:=q.2
      rw [hco] at hm ⊢
      dsimp only at hm ⊢
      by_cases z:d = 0
      ·rw [if_pos z] at this hm ⊢; omega
      ·rw [if_neg z] at this hm ⊢; omega
 intro v hv
 have:=pos v hv
 obtain ⟨r,hr⟩:=key 8 v hv (by omega)
 obtain ⟨C,hC,_,i,hi,e⟩:=ZdD hc (by omega) 8 v r hv hr
 exact ⟨C,hC,by rw [← e]; exact Zbl hi⟩
theorem IsCh.move {l m:List Za} {d e:Nat} {C:List Int} (h:IsCh l d C) (hl:m.length = l.length) (h1:∀ v,v < l.length→nx m v e = nx l v d) (h2:∀ v,v < l.length→nx m v ((e + 2) % 4) = nx l v ((d + 2) % 4)):IsCh m e C:=by
 have hne:=h.ne
 refine ⟨h.ne,fun i hi=>by rw [hl]; exact h.lt i hi,fun i hi=>?_,?_,?_⟩
 ·have:=h.lt i (by omega)
  rw [h1 _ (by omega)]; exact h.nxt i hi
 ·have:=h.lt (C.length - 1) (by omega)
  rw [h1 _ (by omega)]; exact h.fin
 ·have:=h.lt 0 h.ne
  rw [h2 _ (by omega)]; exact h.beg
theorem Ze2 {C:List Int} {i:Nat} (hi:i < C.length):gi C.reverse i = gi C (C.length - 1 - i):=by
 rw [Za1 (by simpa using hi),Za1 (by omega),List.getElem_reverse]
theorem IsCh.rev {l:List Za} (hc:Ck l) {d:Nat} (hd:d < 4) {C:List Int} (h:IsCh l d C):IsCh l ((d + 2) % 4) C.reverse:=by
 have hne:=h.ne
 have hr:C.reverse.length = C.length:=by simp
 refine ⟨by omega,fun i hi=>?_,fun i hi=>?_,?_,?_⟩
 ·rw [Ze2 (by omega)]; exact h.lt _ (by omega)
 ·rw [Ze2 (by omega),Ze2 (by omega)]
  have:=h.bk hc hd (i:=C.length - 1 - (i + 1)) (by omega)
  rw [show C.length - 1 - (i + 1) + 1 = C.length - 1 - i by omega] at this
  exact this
 ·rw [hr,Ze2 (by omega),show C.length - 1 - (C.length - 1) = 0 by omega]; exact h.beg
 ·rw [Ze2 (by omega),Nat.sub_zero,show ((d + 2) % 4 + 2) % 4 = d by omega]; exact h.fin
theorem Zi3 {l:List Za} {C:List Int}:IsCh (trn l) 1 C↔IsCh l 0 C:=by
 have hL:=ZbH (l:=l)
 constructor
 ·intro h
  exact h.move hL.symm (fun v hv=>(ZbR (l:=l) (v:=v) (e:=1) (by omega) (by omega)).1.symm) (fun v hv=>(ZbR (l:=l) (v:=v) (e:=3) (by omega) (by omega)).1.symm)
 ·intro h
  exact h.move hL (fun v hv=>(ZbR (l:=l) (v:=v) (e:=1) hv (by omega)).1) (fun v hv=>(ZbR (l:=l) (v:=v) (e:=3) hv (by omega)).1)
theorem Zi2 {l:List Za} {C:List Int}:IsCh (trn l) 0 C↔IsCh l 3 C:=by
 have hL:=ZbH (l:=l)
 constructor
 ·intro h
  exact h.move hL.symm (fun v hv=>(ZbR (l:=l) (v:=v) (e:=0) (by omega) (by omega)).1.symm) (fun v hv=>(ZbR (l:=l) (v:=v) (e:=2) (by omega) (by omega)).1.symm)
 ·intro h
  exact h.move hL (fun v hv=>(ZbR (l:=l) (v:=v) (e:=0) hv (by omega)).1) (fun v hv=>(ZbR (l:=l) (v:=v) (e:=2) hv (by omega)).1)
theorem CH.small {l:List Za} (hc:Ck l) {d:Nat} (hd:d < 4) {a:List Int} {L:List (List Int)} (h:CH l d a L) {i:Nat} (hi:i < L.length):(gi L i).length≤l.length:=(h.ch i hi).len hc hd
def cl (L:List (List Int)) (i:Int):List Int:=if i < 0∨(L.length:Int)≤i then [] else gi L i.toNat
theorem Zj8 {X Y:List Int} {V H:List (List Int)} {ver:Bool} {i:Int}:Zay ⟨X,Y,V,H⟩ ver i = some (cl (if ver = true then V else H) i):=by
 unfold Zay cl
 have e:(if ver = true then some V else some H) = some (if ver = true then V else H):=by cases ver <;> rfl
 dsimp only
 rw [e,Option.bind_some]
 by_cases c:i < 0∨((if ver = true then V else H).length:Int)≤i
 ·rw [if_pos c,if_pos (by simpa using c)]
 ·rw [if_neg c,if_neg (by simpa using c),Z8 (by omega)]
theorem Zjt {l:List Za} (hc:Ck l) {d:Nat} (hd:d < 4) {a:List Int} {L:List (List Int)} (h:CH l d a L) {i:Int}:(cl L i).length≤l.length:=by
 unfold cl
 split
 ·simp
 ·exact h.small hc hd (by omega)
theorem Zl9 {s:List Int} {f:Int→Option Bool} {g:Int→Bool} (hn:s.length≤1000000) (h:∀ a∈s,f a = some (g a)):Zac s f = some (s.any g):=by
 have h1:ZV (z3.s0 s f) big 0 = some (match (List.range s.length).find? (fun i=>g (gi s i)) with | some i=>.inr (i:Int) | none=>.inl ()):=by
  refine ZcD (n:=s.length) (P:=fun i=>g (gi s i)) (f:=fun i=>(i:Int)) (ZaI (by omega)) (fun i hi=>?_) ?_
  ·simp only [z3.s0]
   rw [ZG (by omega),Z8 (by omega),Int.toNat_natCast,h _ (Zbl hi),Option.bind_some,zM (by omega)]
   cases g (gi s i) <;> rfl
  ·simp only [z3.s0]
   rw [ZF (by omega)]
 unfold Zac z3
 rw [h1,Option.bind_some]
 cases hf:(List.range s.length).find? (fun i=>g (gi s i)) with
 | none =>
  rw [List.find?_range_eq_none] at hf
  have:s.any g = false:=by
   rw [List.any_eq_false]
   intro a ha
   obtain ⟨i,hi,rfl⟩:=List.mem_iff_getElem.1 ha
   have:=hf i hi
   rw [Za1 hi] at this
   simpa using this
  rw [this]; rfl
 | some i =>
  rw [List.find?_range_eq_some] at hf
  obtain ⟨h1,h2,_⟩:=hf
  have hi:i < s.length:=by simpa using h2
  have:s.any g = true:=by
   rw [List.any_eq_true]
   exact ⟨gi s i,Zbl hi,h1⟩
  rw [this]
  dsimp only
  rw [Option.bind_some,ZaV (by omega)]
end Mu
/- Layer 16: SegTells,SegTurns. -/
set_option linter.unusedVariables false
set_option linter.unusedSimpArgs false
set_option maxRecDepth 10000
namespace Mu
end Mu
/- Layer 17: lengths of edges. -/
set_option linter.unusedVariables false
set_option linter.unusedSimpArgs false
set_option maxRecDepth 10000
namespace Mu
def strt (d:Nat) (a b:Ze):Prop:=if d = 0 then a.Y = b.Y∧a.X < b.X else a.X = b.X∧a.Y < b.Y
instance {d:Nat} {a b:Ze}:Decidable (strt d a b):=by unfold strt; infer_instance
theorem Zj7 {d:Nat} (hd:d < 2) (a b:Ze):∃ x4 x5,ZaC a b = some (x4,x5)∧((!x5) || (!(decide (x4 = (d:Int))))) = !decide (strt d a b):=by
 have ev:∀ x4 x5,ZaC a b = some (x4,x5)→(((x5 = true∧x4 = (d:Int))↔strt d a b)→∃ x4 x5,ZaC a b = some (x4,x5)∧((!x5) || (!(decide (x4 = (d:Int))))) = !decide (strt d a b)):=by
  intro x4 x5 h hh
  refine ⟨x4,x5,h,?_⟩
  by_cases c:strt d a b
  ·obtain ⟨h1,h2⟩:=hh.2 c
   rw [ZaV c,h1,ZaV h2]; rfl
  ·rw [Zbj c]
   cases x5 with
   | false=>rfl
   | true =>
    have:¬ x4 = (d:Int):=fun h=>c (hh.1 ⟨rfl,h⟩)
    rw [Zbj this]; rfl
 unfold ZaC at ev ⊢
 have hd2:d = 0∨d = 1:=by omega
 by_cases e1:a.X = b.X
 ·by_cases e2:a.Y = b.Y
  ·refine ev 0 false (by rw [ZaV e1,ZaV e2,ZG rfl]) ?_
   constructor
   ·rintro ⟨h,_⟩; cases h
   ·intro h; unfold strt at h; split at h <;> omega
  ·rw [ZaV e1,Zbj e2,ZF (by decide),ZF (by omega),ZF (by omega)] at ev ⊢
   by_cases c:a.Y < b.Y
   ·refine ev 1 true (by rw [ZG c]) ?_
    unfold strt
    rcases hd2 with rfl | rfl
    ·rw [if_pos rfl]; constructor <;> rintro ⟨h1,h2⟩ <;> omega
    ·rw [if_neg (by decide)]; exact ⟨fun _=>⟨e1,c⟩,fun _=>⟨rfl,rfl⟩⟩
   ·refine ev 3 true (by rw [ZF c]) ?_
    unfold strt
    rcases hd2 with rfl | rfl
    ·rw [if_pos rfl]; constructor <;> rintro ⟨h1,h2⟩ <;> omega
    ·rw [if_neg (by decide)]; constructor <;> rintro ⟨h1,h2⟩ <;> omega
 ·by_cases e2:a.Y = b.Y
  ·rw [Zbj e1,ZaV e2,ZF (by decide)] at ev ⊢
   by_cases c:a.X < b.X
   ·refine ev 0 true (by rw [ZG c]) ?_
    unfold strt
    rcases hd2 with rfl | rfl
    ·rw [if_pos rfl]; exact ⟨fun _=>⟨e2,c⟩,fun _=>⟨rfl,rfl⟩⟩
    ·rw [if_neg (by decide)]; constructor <;> rintro ⟨h1,h2⟩ <;> omega
   ·refine ev 2 true (by rw [ZF c,ZG (by omega)]) ?_
    unfold strt
    rcases hd2 with rfl | rfl
    ·rw [if_pos rfl]; constructor <;> rintro ⟨h1,h2⟩ <;> omega
    ·rw [if_neg (by decide)]; constructor <;> rintro ⟨h1,h2⟩ <;> omega
  ·refine ev 0 false (by rw [Zbj e1,Zbj e2,ZG rfl]) ?_
   constructor
   ·rintro ⟨h,_⟩; cases h
   ·intro h; unfold strt at h; split at h <;> omega
def wt (o:Int):Int:=if 0≤o then 1 else 0
theorem ZkD {o:Int}:Zb0 o = some (wt o):=by
 unfold Zb0 wt
 by_cases c:0≤o
 ·rw [ZG c,if_pos c]
 ·rw [ZF c,if_neg c]
def okE (l:List Za) (p:List Ze) (v d:Nat):Prop:=nx l v d < 0∨strt d (gi p v) (gi p (nx l v d).toNat)
instance {l:List Za} {p:List Ze} {v d:Nat}:Decidable (okE l p v d):=by unfold okE; infer_instance
def tE (l:List Za) (p:List Ze) (v d:Nat):Int:=if nx l v d < 0 then 0 else wt (ow l v d) * ((gi p (nx l v d).toNat).X - (gi p v).X + (gi p (nx l v d).toNat).Y - (gi p v).Y)
def Zeo (l:List Za) (p:List Ze):Nat→Int
 | 0=>0
 | n + 1=>Zeo l p n + tE l p n 0 + tE l p n 1
def Zed (p:List Ze):Prop:=∀ i,i < p.length→(-1000000≤(gi p i).X∧(gi p i).X≤1000000)∧(-1000000≤(gi p i).Y∧(gi p i).Y≤1000000)
theorem ZmS {o:Int}:wt o = 0∨wt o = 1:=by unfold wt; split <;> simp
theorem Zi1 {l:List Za} (hc:Ck l) {p:List Ze} (hp:p.length = l.length) (hn:Zed p) {v d:Nat} (hv:v < l.length) (hd:d < 4):-4000000≤tE l p v d∧tE l p v d≤4000000:=by
 unfold tE
 split
 ·omega
 ·have:=hc.lt hv hd
  have a:=hn v (by omega)
  have b:=hn (nx l v d).toNat (by omega)
  rcases ZmS (o:=ow l v d) with h | h <;> rw [h] <;> omega
theorem Zhy {l:List Za} (hc:Ck l) {p:List Ze} (hp:p.length = l.length) (hn:Zed p):∀ n,n≤l.length→-8000000 * (n:Int)≤Zeo l p n∧Zeo l p n≤8000000 * (n:Int)
 | 0,_=>by simp [Zeo]
 | n + 1,h=>by
  have ih:=Zhy hc hp hn n (by omega)
  have a:=Zi1 hc hp hn (v:=n) (d:=0) (by omega) (by omega)
  have b:=Zi1 hc hp hn (v:=n) (d:=1) (by omega) (by omega)
  rw [Zeo]
  omega
theorem Zho {l:List Za} (hc:Ck l) {p:List Ze} (hp:p.length = l.length) (hn:Zed p) {v d:Nat} (hv:v < l.length) (hd:d < 2) {s:Int} (hs:-1000000000000≤s∧s≤1000000000000):z7.s1 l p v (s,(d:Int)) = some (if okE l p v d then .inl (s + tE l p v d,(d:Int) + 1) else .inr (.inr ())):=by
 have hlt:=hc.lt hv (d:=d) (by omega)
 have g:gi ([0,1]:List Int) ((d:Int)).toNat = d:=by
  match d,hd with
  | 0,_ | 1,_=>rfl
 have e:(gi l v).Next.get (d:Int) = nx l v d:=rfl
 have eo:(gi l v).Owner.get (d:Int) = ow l v d:=rfl
 simp only [z7.s1]
 rw [ZG (by simp; omega),Z8 (by simp; omega),g,Z8 (by omega),Int.toNat_natCast,e,eo]
 by_cases c:nx l v d < 0
 ·rw [ZG c,zM (by omega),if_pos (show okE l p v d from .inl c)]
  unfold tE
  rw [if_pos c,Int.add_zero]
 ·obtain ⟨x4,x5,b1,b2⟩:=Zj7 hd (gi p v) (gi p (nx l v d).toNat)
  rw [ZF c,Z8 (by omega),Z8 (by omega),b1,Option.bind_some]
  dsimp only
  rw [b2]
  by_cases q:strt d (gi p v) (gi p (nx l v d).toNat)
  ·have t:=Zi1 hc hp hn hv (show d < 4 by omega)
   have a:=hn v (by omega)
   have b:=hn (nx l v d).toNat (by omega)
   have te:wt (ow l v d) * ((gi p (nx l v d).toNat).X - (gi p v).X + (gi p (nx l v d).toNat).Y - (gi p v).Y) = tE l p v d:=by unfold tE; rw [if_neg c]
   rw [Zam q,if_pos (show okE l p v d from .inr q),ZkD,Option.bind_some,zM (by omega),zM (by omega),zM (by omega),te,zM (by omega),zM (by omega),zM (by omega)]
  ·rw [ZaP q,if_neg (show ¬ okE l p v d from fun h=>h.elim c q)]
theorem Zk7 {l:List Za} (hc:Ck l) {p:List Ze} (hp:p.length = l.length) (hn:Zed p) {v:Nat} (hv:v < l.length) {s:Int} (hs:-100000000000≤s∧s≤100000000000):ZV (z7.s1 l p v) big (s,0) = some (if okE l p v 0∧okE l p v 1 then .inl (s + tE l p v 0 + tE l p v 1) else .inr ()):=by
 have t0:=Zi1 hc hp hn hv (show 0 < 4 by omega)
 have s0:=Zho hc hp hn hv (d:=0) (by omega) (s:=s) (by omega)
 have s1:=Zho hc hp hn hv (d:=1) (by omega) (s:=s + tE l p v 0) (by omega)
 have s2:z7.s1 l p v (s + tE l p v 0 + tE l p v 1,2) = some (.inr (.inl (s + tE l p v 0 + tE l p v 1))):=by
  simp only [z7.s1]
  rw [ZF (by simp)]
 have hb:big = (big - 3) + 3:=by unfold big; omega
 rw [hb,ZV]
 rw [show ((0:Nat):Int) = 0 from rfl] at s0
 rw [s0]
 by_cases c0:okE l p v 0
 ·rw [if_pos c0]
  dsimp only
  rw [ZV]
  rw [show ((1:Nat):Int) = 0 + 1 from rfl] at s1
  rw [s1]
  by_cases c1:okE l p v 1
  ·rw [if_pos c1,if_pos ⟨c0,c1⟩]
   dsimp only
   rw [ZV,show (0:Int) + 1 + 1 = 2 from rfl,s2]
  ·rw [if_neg c1,if_neg (fun h=>c1 h.2)]
 ·rw [if_neg c0,if_neg (fun h=>c0 h.1)]
theorem ZlA {s:List Ze} {f:Ze→Option Bool} {g:Ze→Bool} (hn:s.length≤1000000) (h:∀ a∈s,f a = some (g a)):zD s f = some (s.any g):=by
 have h1:ZV (ZZ.s0 s f) big 0 = some (match (List.range s.length).find? (fun i=>g (gi s i)) with | some i=>.inr (i:Int) | none=>.inl ()):=by
  refine ZcD (n:=s.length) (P:=fun i=>g (gi s i)) (f:=fun i=>(i:Int)) (ZaI (by omega)) (fun i hi=>?_) ?_
  ·simp only [ZZ.s0]
   rw [ZG (by omega),Z8 (by omega),Int.toNat_natCast,h _ (Zbl hi),Option.bind_some,zM (by omega)]
   cases g (gi s i) <;> rfl
  ·simp only [ZZ.s0]
   rw [ZF (by omega)]
 unfold zD ZZ
 rw [h1,Option.bind_some]
 cases hf:(List.range s.length).find? (fun i=>g (gi s i)) with
 | none =>
  rw [List.find?_range_eq_none] at hf
  have:s.any g = false:=by
   rw [List.any_eq_false]
   intro a ha
   obtain ⟨i,hi,rfl⟩:=List.mem_iff_getElem.1 ha
   have:=hf i hi
   rw [Za1 hi] at this
   simpa using this
  rw [this]; rfl
 | some i =>
  rw [List.find?_range_eq_some] at hf
  obtain ⟨h1,h2,_⟩:=hf
  have hi:i < s.length:=by simpa using h2
  have:s.any g = true:=by
   rw [List.any_eq_true]
   exact ⟨gi s i,Zbl hi,h1⟩
  rw [this]
  dsimp only
  rw [Option.bind_some,ZaV (by omega)]
def Zku (p:Ze):Bool:=(decide (1000000 < (max p.X p.Y))) || (decide ((min p.X p.Y) < (-1000000)))
theorem ZjE {p:List Ze}:p.any Zku = false↔Zed p:=by
 rw [List.any_eq_false]
 constructor
 ·intro h i hi
  have:=h _ (Zbl hi)
  simp [Zku] at this
  omega
 ·intro h a ha
  obtain ⟨i,hi,rfl⟩:=List.mem_iff_getElem.1 ha
  have:=h i hi
  rw [Za1 hi] at this
  simp [Zku]
  omega
theorem Zk8 {l:List Za} (hc:Ck l) (hl:l.length≤64) {p:List Ze} (hp:p.length = l.length) (hn:Zed p):z7 l p = some (if ∀ v,v < l.length→okE l p v 0∧okE l p v 1 then (Zeo l p l.length,0) else (0,15)):=by
 have hk:Zd2 l = 0:=ZcQ.2 ⟨by omega,hc⟩
 have row:∀ v,v < l.length→z7.s0 l p (Zeo l p v,(v:Int)) = some (if okE l p v 0∧okE l p v 1 then .inl (Zeo l p (v + 1),(v:Int) + 1) else .inr (.inr ())):=by
  intro v hv
  have b:=Zhy hc hp hn v (by omega)
  simp only [z7.s0]
  rw [ZG (by omega),Z8 (by omega),Zk7 hc hp hn hv (by omega),Option.bind_some]
  by_cases c:okE l p v 0∧okE l p v 1
  ·rw [if_pos c,if_pos c]
   dsimp only
   rw [zM (by omega)]
   rfl
  ·rw [if_neg c,if_neg c]
 have main:ZV (z7.s0 l p) big (0,0) = some (if ∀ v,v < l.length→okE l p v 0∧okE l p v 1 then .inl (Zeo l p l.length) else .inr ()):=by
  by_cases c:∀ v,v < l.length→okE l p v 0∧okE l p v 1
  ·rw [if_pos c]
   refine Zbx (fun v:Nat=>(Zeo l p v,(v:Int))) (n:=l.length) (ZaI (by omega)) rfl (fun v hv=>?_) ?_
   ·rw [row v hv,if_pos (c v hv),show ((v + 1:Nat):Int) = (v:Int) + 1 by omega]
   ·simp only [z7.s0]
    rw [ZF (by omega)]
  ·rw [if_neg c]
   have ⟨v0,hv0⟩:∃ v,v < l.length∧¬ (okE l p v 0∧okE l p v 1):=by
    refine Classical.byContradiction fun hh=>c fun v hv=>Classical.byContradiction fun h2=>hh ⟨v,hv,h2⟩
   obtain ⟨v,⟨hv,hb⟩,hm⟩:=Zhl (P:=fun v=>v < l.length∧¬ (okE l p v 0∧okE l p v 1)) v0 hv0
   refine Zbx (fun v:Nat=>(Zeo l p v,(v:Int))) (n:=v) (ZaI (by omega)) rfl (fun u hu=>?_) ?_
   ·have:okE l p u 0∧okE l p u 1:=Classical.byContradiction fun h2=>hm u hu ⟨by omega,h2⟩
    rw [row u (by omega),if_pos this,show ((u + 1:Nat):Int) = (u:Int) + 1 by omega]
   ·rw [row v hv,if_neg hb]
 unfold z7
 rw [ZeS (by omega),Option.bind_some,Zam hk,Zam (by omega),ZlA (f:=fun y0=>ZcE y0) (g:=Zku) (by omega) (fun a _=>rfl),Option.bind_some,ZjE.2 hn,Option.bind_some,if_neg (by decide),main,Option.bind_some]
 by_cases c:∀ v,v < l.length→okE l p v 0∧okE l p v 1
 ·rw [if_pos c,if_pos c]
 ·rw [if_neg c,if_neg c]
end Mu
/- Layer 17: graphs,places,ArcsFit. -/
set_option linter.unusedVariables false
set_option linter.unusedSimpArgs false
set_option maxRecDepth 10000
namespace Mu
theorem CH.next {l:List Za} (hc:Ck l) {d:Nat} (hd:d < 4) {a:List Int} {L:List (List Int)} (h:CH l d a L) {v w:Nat} (hv:v < l.length) (hw:nx l v d = w):w < l.length∧gi a v = gi a w:=by
 have bk:=hc.back hv hd hw
 obtain ⟨i,i1,i2,i3⟩:=h.mem v hv
 have hC:=h.ch i i1
 obtain ⟨j,hj,e⟩:=List.mem_iff_getElem.1 i3
 have ej:gi (gi L i) j = v:=by rw [Za1 hj]; exact e
 have n:=Zik hC hj
 rw [ej,Int.toNat_natCast,hw] at n
 by_cases c:j + 1 < (gi L i).length
 ·rw [ZgE c] at n
  exact ⟨bk.1,by rw [i2,h.one i w i1 bk.1 (n ▸ Zbl c)]⟩
 ·rw [show j + 1 = (gi L i).length by omega,ZgF] at n
  omega
def Zfd (X Y a b:List Int) (n:Nat):List Ze:=(List.range n).map fun v=>⟨gi a (gi X v).toNat,gi b (gi Y v).toNat⟩
end Mu
/- Layer 17: ArcsFit. -/
set_option linter.unusedVariables false
set_option linter.unusedSimpArgs false
set_option maxRecDepth 10000
namespace Mu
end Mu
/- Layer 17: the document's graphs; ArcsTell. -/
set_option linter.unusedVariables false
set_option linter.unusedSimpArgs false
set_option maxRecDepth 10000
namespace Mu
end Mu
/- Layer 17: ArcsTurn. -/
set_option linter.unusedVariables false
set_option linter.unusedSimpArgs false
set_option maxRecDepth 10000
namespace Mu
theorem Made.strt {l:List Za} {pts:List Ze} (h:Made l pts) {v d w:Nat} (hv:v < l.length) (hd:d < 2) (hw:nx l v d = w):strt d (gi pts v) (gi pts w):=by
 rcases h.near v d hv hd with q | q
 ·omega
 ·rw [hw] at q
  rcases q with ⟨q,_⟩ | ⟨j,e,_,q,_⟩
  ·omega
  ·have:j = w:=by omega
   subst this
   have:=q.2
   unfold Mu.strt
   by_cases z:d = 0
   ·rw [if_pos z] at this ⊢; exact ⟨this.1.symm,this.2⟩
   ·rw [if_neg z] at this ⊢; exact ⟨this.1.symm,this.2⟩
theorem Made.okE {l:List Za} {pts:List Ze} (h:Made l pts) {v d:Nat} (hv:v < l.length) (hd:d < 2):okE l pts v d:=by
 by_cases c:nx l v d < 0
 ·exact .inl c
 ·exact .inr (h.strt hv hd (by omega))
def mpt (k a b:Int) (p:Ze):Ze:=⟨k * p.X + a,k * p.Y + b⟩
theorem Zmy {x:Int}:0≤Zp .i8 x 7∧Zp .i8 x 7≤7:=by
 have h:∀ b:BitVec 8,0≤Go.IntKind.wrap .i8 (((b &&& 7#8).toNat:Nat):Int)∧Go.IntKind.wrap .i8 (((b &&& 7#8).toNat:Nat):Int)≤7:=by decide +kernel
 exact h (BitVec.ofInt 8 x)
end Mu
/- Layer 17: ArcsPlace. -/
set_option linter.unusedVariables false
set_option linter.unusedSimpArgs false
set_option maxRecDepth 10000
namespace Mu
end Mu
/- Layer 12: zS,in the code and in the document,are the same walk. -/
set_option linter.unusedVariables false
set_option linter.unusedSimpArgs false
set_option maxRecDepth 10000
namespace Mu
abbrev Da:=Nat × Nat
def dt (p:Da):Zq:=⟨p.1,p.2⟩
def isD (l:List Za) (p:Da):Prop:=p.1 < l.length∧p.2 < 4∧0≤nx l p.1 p.2
instance {l:List Za} {p:Da}:Decidable (isD l p):=by unfold isD; infer_instance
def bh (l:List Za) (p:Da):Da :=
 if 0≤nx l (nx l p.1 p.2).toNat ((p.2 + 1) % 4) then ((nx l p.1 p.2).toNat,(p.2 + 1) % 4)
 else if 0≤nx l (nx l p.1 p.2).toNat p.2 then ((nx l p.1 p.2).toNat,p.2)
 else if 0≤nx l (nx l p.1 p.2).toNat ((p.2 + 3) % 4) then ((nx l p.1 p.2).toNat,(p.2 + 3) % 4)
 else ((nx l p.1 p.2).toNat,(p.2 + 2) % 4)
theorem isD.fwd {l:List Za} (hc:Ck l) {p:Da} (h:isD l p):(nx l p.1 p.2).toNat < l.length∧nx l (nx l p.1 p.2).toNat ((p.2 + 2) % 4) = p.1:=by
 rcases hc.s p.1 p.2 h.1 h.2.1 with ⟨a,_⟩ | ⟨w,a,b,_,c,_⟩
 ·have:=h.2.2; omega
 ·rw [a,Int.toNat_natCast]; exact ⟨b,c⟩
theorem isD.bh {l:List Za} (hc:Ck l) {p:Da} (h:isD l p):isD l (bh l p):=by
 have f:=h.fwd hc
 have:=h.2.1
 unfold Mu.bh
 split
 ·rename_i c; exact ⟨f.1,by dsimp only; omega,c⟩
 ·split
  ·rename_i c; exact ⟨f.1,by dsimp only; omega,c⟩
  ·split
   ·rename_i c; exact ⟨f.1,by dsimp only; omega,c⟩
   ·exact ⟨f.1,by dsimp only; omega,by dsimp only; rw [f.2]; omega⟩
theorem Zm7 {l:List Za} {v d:Int}:Za4 ⟨v,d⟩ l = some (decide (0≤v∧v < l.length∧0≤d∧d < 4∧0≤nx l v.toNat d.toNat)):=by
 unfold Za4 Za2
 dsimp only
 by_cases c1:0≤v
 ·rw [ZG c1]
  by_cases c2:v < l.length
  ·rw [ZG c2,Option.bind_some]
   by_cases c3:0≤d∧d≤3
   ·rw [if_pos (by simp [c3]),Z8 (by omega),Z8 (by omega)]
    have:(gi l v.toNat).Next.get d = nx l v.toNat d.toNat:=by unfold nx; rw [show ((d.toNat:Nat):Int) = d by omega]
    rw [this]
    congr 1
    rw [Bool.eq_iff_iff]
    simp only [decide_eq_true_eq]
    omega
   ·rw [if_neg (by simp; omega),Zbj]
    omega
  ·rw [ZF c2,Zbj]
   omega
 ·rw [ZF c1,Zbj]
  omega
theorem Zm8 {l:List Za} {p:Da}:Za4 (dt p) l = some (decide (isD l p)):=by
 unfold dt
 rw [Zm7]
 congr 1
 rw [Bool.eq_iff_iff]
 simp only [decide_eq_true_eq,Int.toNat_natCast]
 unfold isD
 omega
theorem ZgI {d:Nat} (hd:d < 4) {t:Int} (ht:t = 1∨t = 0∨t = -1∨t = 2):Za3 d t = some (if t = 1 then (((d + 1) % 4:Nat):Int) else if t = 0 then (d:Int) else if t = -1 then (((d + 3) % 4:Nat):Int) else (((d + 2) % 4:Nat):Int)):=by
 have:d = 0∨d = 1∨d = 2∨d = 3:=by omega
 rcases this with rfl | rfl | rfl | rfl <;> rcases ht with rfl | rfl | rfl | rfl <;> rfl
theorem Zm6 {ρ:Type} {F:Int→Option (Int ⊕ ρ)} {c0 c1 c2:Prop} [Decidable c0] [Decidable c1] [Decidable c2] {r0 r1 r2 r3:ρ} (s0:F ((0:Nat):Int) = some (if c0 then .inr r0 else .inl (((0:Nat):Int) + 1))) (s1:F ((1:Nat):Int) = some (if c1 then .inr r1 else .inl (((1:Nat):Int) + 1))) (s2:F ((2:Nat):Int) = some (if c2 then .inr r2 else .inl (((2:Nat):Int) + 1))) (s3:F ((3:Nat):Int) = some (.inr r3)):ZV F big 0 = some (if c0 then r0 else if c1 then r1 else if c2 then r2 else r3):=by
 refine Zc3 (n:=4) ?_ (by unfold big; omega)
 replace s0:F 0 = some (if c0 then .inr r0 else .inl 1):=s0
 replace s1:F 1 = some (if c1 then .inr r1 else .inl 2):=s1
 replace s2:F 2 = some (if c2 then .inr r2 else .inl 3):=s2
 replace s3:F 3 = some (.inr r3):=s3
 rw [ZV,s0]
 by_cases h0:c0
 ·rw [if_pos h0,if_pos h0]
 ·rw [if_neg h0,if_neg h0]
  dsimp only
  rw [ZV,s1]
  by_cases h1:c1
  ·rw [if_pos h1,if_pos h1]
  ·rw [if_neg h1,if_neg h1]
   dsimp only
   rw [ZV,s2]
   by_cases h2:c2
   ·rw [if_pos h2,if_pos h2]
   ·rw [if_neg h2,if_neg h2]
    dsimp only
    rw [ZV,s3]
theorem Zio {l:List Za} (hc:Ck l) {p:Da} (h:isD l p):z4 (dt p) l = some (dt (bh l p)):=by
 have f:=h.fwd hc
 obtain ⟨h1,h2,h3⟩:=h
 have e:((gi l p.1).Next).get (p.2:Int) = nx l p.1 p.2:=rfl
 have st:∀ (k:Nat) (d':Nat),k < 4→d' < 4→Za3 (p.2:Int) ((⟨1,0,(-1),2⟩:A4 Int).get k) = some (d':Int)→z4.s0 (dt p) l (k:Int) = some (if 0≤nx l (nx l p.1 p.2).toNat d' then .inr (.inr (dt ((nx l p.1 p.2).toNat,d'))) else .inl ((k:Int) + 1)):=by
  intro k d' hk hd hl
  have i:=Zm7 (l:=l) (v:=nx l p.1 p.2) (d:=d')
  simp only [z4.s0,dt,Int.toNat_natCast,e]
  rw [ZG (by omega),Z8 (by omega),hl,Option.bind_some,i,Option.bind_some]
  by_cases c:0≤nx l (nx l p.1 p.2).toNat d'
  ·rw [ZG (by rw [Int.toNat_natCast]; omega),if_pos c]
   congr 4
   omega
  ·rw [ZF (by rw [Int.toNat_natCast]; omega),zM (by omega),if_neg c]
 have s0:=st 0 ((p.2 + 1) % 4) (by omega) (by omega) ((ZgI h2 (.inl rfl)).trans rfl)
 have s1:=st 1 p.2 (by omega) h2 ((ZgI h2 (.inr (.inl rfl))).trans rfl)
 have s2:=st 2 ((p.2 + 3) % 4) (by omega) (by omega) ((ZgI h2 (.inr (.inr (.inl rfl)))).trans rfl)
 have s3:=st 3 ((p.2 + 2) % 4) (by omega) (by omega) ((ZgI h2 (.inr (.inr (.inr rfl)))).trans rfl)
 rw [if_pos (by rw [f.2]; omega)] at s3
 have L:ZV (z4.s0 (dt p) l) big 0 = some (.inr (dt (bh l p))):=by
  rw [Zm6 s0 s1 s2 s3]
  unfold bh
  by_cases c0:0≤nx l (nx l p.1 p.2).toNat ((p.2 + 1) % 4)
  ·rw [if_pos c0,if_pos c0]
  ·rw [if_neg c0,if_neg c0]
   by_cases c1:0≤nx l (nx l p.1 p.2).toNat p.2
   ·rw [if_pos c1,if_pos c1]
   ·rw [if_neg c1,if_neg c1]
    by_cases c2:0≤nx l (nx l p.1 p.2).toNat ((p.2 + 3) % 4)
    ·rw [if_pos c2,if_pos c2]
    ·rw [if_neg c2,if_neg c2]
 unfold z4
 rw [Z8 (by unfold dt; dsimp only; omega),Z8 (by unfold dt; dsimp only; omega),L,Option.bind_some]
def walk (l:List Za):Nat→List Da→Da→List Da
 | 0,_,_=>[]
 | n + 1,met,x=>if x∈met then [] else x :: walk l n (met++[x]) (bh l x)
structure Mets (l:List Za) (met:List Da):Prop where
 nd:met.Nodup
 is:∀ p∈met,isD l p
theorem Mets.len {l:List Za} {met:List Da} (h:Mets l met):met.length≤4 * l.length:=by
 have n:(met.map fun p=>4 * p.1 + p.2).Nodup:=by
  refine List.pairwise_map.2 (h.nd.imp_of_mem fun {p q} hp hq hne he=>hne ?_)
  have a:=h.is p hp
  have b:=h.is q hq
  unfold isD at a b
  exact Prod.ext (by omega) (by omega)
 have:=n.length_le_of_subset (l₂:=List.range (4 * l.length)) (fun x hx=>by
  obtain ⟨p,hp,rfl⟩:=List.mem_map.1 hx
  have:=h.is p hp
  unfold isD at this
  exact List.mem_range.2 (by omega))
 simpa using this
theorem Mets.nil {l:List Za}:Mets l []:=⟨List.nodup_nil,by simp⟩
theorem Mets.snoc {l:List Za} {met:List Da} (h:Mets l met) {x:Da} (hx:isD l x) (hn:x ∉ met):Mets l (met++[x]):=by
 refine ⟨?_,fun p hp=>?_⟩
 ·rw [List.nodup_append]
  exact ⟨h.nd,by simp,fun a ha b hb e=>hn (by simp at hb; rw [← hb,← e]; exact ha)⟩
 ·rcases List.mem_append.1 hp with q | q
  ·exact h.is p q
  ·simp at q; rw [q]; exact hx
theorem Mets.walk {l:List Za} (hc:Ck l):∀ {n:Nat} {met:List Da} {x:Da},Mets l met→isD l x→Mets l (met++walk l n met x)
 | 0,met,x,h,hx=>by rw [Mu.walk,List.append_nil]; exact h
 | n + 1,met,x,h,hx=>by
  rw [Mu.walk]
  split
  ·rw [List.append_nil]; exact h
  ·rename_i c
   have:=Mets.walk hc (n:=n) (h.snoc hx c) (hx.bh hc)
   rwa [List.append_assoc] at this
theorem ZgY {l:List Za} (hc:Ck l):∀ {n:Nat} {met:List Da} {x:Da},isD l x→∀ p∈walk l n met x,isD l p
 | 0,_,_,_,p,hp=>by simp [walk] at hp
 | n + 1,met,x,hx,p,hp=>by
  rw [walk] at hp
  split at hp
  ·simp at hp
  ·rcases List.mem_cons.1 hp with rfl | hp
   ·exact hx
   ·exact ZgY hc (hx.bh hc) p hp
def mpD (met:List Da):List (Zq × Bool):=met.map fun p=>(dt p,true)
theorem Zjz {p q:Da} (h:dt p = dt q):p = q:=by
 unfold dt at h
 injection h with a b
 exact Prod.ext (by omega) (by omega)
theorem ZgK {x:Da}:∀ {met:List Da},Zc4 false (dt x) (mpD met) = decide (x∈met)
 | []=>rfl
 | p :: met=>by
  show (if dt x = dt p then true else Zc4 false (dt x) (mpD met)) = _
  by_cases c:x = p
  ·rw [if_pos (by rw [c]),ZaV (by simp [c])]
  ·rw [if_neg fun h=>c (Zjz h),ZgK]
   rw [Bool.eq_iff_iff]
   simp [c]
theorem ZkF {x:Da} {met:List Da} (h:x ∉ met):Zdt (dt x) true (mpD met) = mpD (met++[x]):=by
 have:∀ {m:List Da},x ∉ m→Zdt (dt x) true (mpD m) = mpD m++[(dt x,true)]:=by
  intro m
  induction m with
  | nil=>intro _; rfl
  | cons p m ih =>
   intro h
   show (if dt x = dt p then _ else (dt p,true) :: Zdt (dt x) true (mpD m)) = _
   rw [if_neg fun e=>h (by rw [Zjz e]; simp),ih fun e=>h (by simp [e])]
   rfl
 rw [this h]
 unfold mpD
 rw [List.map_append]
 rfl
theorem ZkZ {l:List Za} (hc:Ck l) (hl:l.length≤5000):∀ (n:Nat) (met:List Da) (f:List Zq) (x:Da),Mets l met→isD l x→4 * l.length < met.length + n→f.length≤met.length→ZV (z9.s2 l) n (mpD met,f,dt x) = some (mpD (met++walk l n met x),f++(walk l n met x).map dt)
 | 0,met,f,x,h,_,hn,_=>by have:=h.len; omega
 | n + 1,met,f,x,h,hx,hn,hf=>by
  have ml:=h.len
  rw [ZV,walk]
  simp only [z9.s2]
  rw [ZgK]
  by_cases c:x∈met
  ·rw [Zam c,if_pos c,List.append_nil,List.map_nil,List.append_nil]
  ·rw [ZaP c,Z8 (by simp; omega),Zio hc hx,Option.bind_some,if_neg c,ZkF c]
   dsimp only
   rw [ZkZ hc hl n (met++[x]) (f++[dt x]) (bh l x) (h.snoc hx c) (hx.bh hc) (by simp; omega) (by simp; omega)]
   rw [List.append_assoc,List.append_assoc]
   rfl
def Marks (l:List Za) (met:List Da) (a:List Bool):Prop:=a.length = 4 * l.length∧∀ c e,c < l.length→e < 4→gi a (4 * c + e) = decide ((c,e)∈met)
theorem Marks.set {l:List Za} {met:List Da} {a:List Bool} (h:Marks l met a) {x:Da} (hx:isD l x):Marks l (met++[x]) (a.set (4 * x.1 + x.2) true):=by
 unfold isD at hx
 refine ⟨by rw [List.length_set]; exact h.1,fun c e hc he=>?_⟩
 rw [ZbE (by have:=h.1; omega),h.2 c e hc he]
 by_cases q:(c,e) = x
 ·rw [← q]
  rw [if_pos rfl,ZaV (by simp)]
 ·rw [if_neg]
  ·rw [Bool.eq_iff_iff]; simp [q]
  ·intro k
   exact q (Prod.ext (by dsimp only; omega) (by dsimp only; omega))
def stF (l:List Za) (s:List Da × List (List Da)) (p:Da):List Da × List (List Da) :=
 if nx l p.1 p.2 < 0∨p∈s.1 then s else (s.1++walk l (4 * l.length + 1) s.1 p,s.2++[walk l (4 * l.length + 1) s.1 p])
def ZgT (l:List Za) (v:Nat) (s:List Da × List (List Da)):Nat→List Da × List (List Da)
 | 0=>s
 | e + 1=>stF l (ZgT l v s e) (v,e)
def FS (l:List Za):Nat→List Da × List (List Da)
 | 0=>([],[])
 | v + 1=>ZgT l v (FS l v) 4
def zS (l:List Za):List (List Da):=(FS l l.length).2
structure FI (l:List Za) (s:List Da × List (List Da)):Prop where
 m:Mets l s.1
 len:s.2.length≤s.1.length
 is:∀ f∈s.2,∀ p∈f,isD l p
 fl:s.2.flatten = s.1
theorem FI.st {l:List Za} (hc:Ck l) {s:List Da × List (List Da)} (h:FI l s) {p:Da} (h1:p.1 < l.length) (h2:p.2 < 4):FI l (stF l s p):=by
 unfold stF
 split
 ·exact h
 ·rename_i c
  have hp:isD l p:=⟨h1,h2,by omega⟩
  have hn:p ∉ s.1:=fun q=>c (.inr q)
  refine ⟨Mets.walk hc h.m hp,?_,?_,?_⟩
  ·dsimp only
   rw [List.length_append,List.length_append,walk,if_neg hn]
   have:=h.len
   simp; omega
  ·intro f hf q hq
   rcases List.mem_append.1 hf with k | k
   ·exact h.is f k q hq
   ·simp at k
    subst k
    exact ZgY hc hp q hq
  ·dsimp only
   rw [List.flatten_append,h.fl]
   simp
theorem FI.row {l:List Za} (hc:Ck l) {s:List Da × List (List Da)} (h:FI l s) {v:Nat} (hv:v < l.length):∀ e,e≤4→FI l (ZgT l v s e)
 | 0,_=>h
 | e + 1,he=>(FI.row hc h hv e (by omega)).st hc hv (by dsimp only; omega)
theorem Zfw {l:List Za} (hc:Ck l):∀ v,v≤l.length→FI l (FS l v)
 | 0,_=>⟨Mets.nil,by simp [FS],by simp [FS],by simp [FS]⟩
 | v + 1,hv=>(Zfw hc v (by omega)).row hc (by omega) 4 (by omega)
theorem Zk6 {l:List Za} (hc:Ck l) (hl:l.length≤5000) {s:List Da × List (List Da)} (h:FI l s) {v e:Nat} (hv:v < l.length) (he:e < 4):z9.s1 l v (s.2.map (List.map dt),mpD s.1,(e:Int)) = some (.inl ((stF l s (v,e)).2.map (List.map dt),mpD (stF l s (v,e)).1,(e:Int) + 1)):=by
 have i:=Zm8 (l:=l) (p:=(v,e))
 have g:=ZgK (x:=(v,e)) (met:=s.1)
 unfold dt at i g
 dsimp only at i g
 have ml:=h.m.len
 have sl:=h.len
 simp only [z9.s1]
 rw [ZG (by omega),i,Option.bind_some,g]
 unfold stF
 dsimp only
 by_cases c:nx l v e < 0∨(v,e)∈s.1
 ·rw [if_pos c,if_pos,zM (by omega)]
  rcases c with c | c
  ·rw [Zbj (show ¬ isD l (v,e) from fun q=>by have:=q.2.2; dsimp only at this; omega)]; rfl
  ·rw [ZaV c,Bool.or_true]
 ·have hp:isD l (v,e):=⟨hv,he,by dsimp only; omega⟩
  have hn:(v,e) ∉ s.1:=fun q=>c (.inr q)
  have W:=ZkZ hc hl (4 * l.length + 1) s.1 [] (v,e) h.m hp (by omega) (by simp)
  unfold dt at W
  dsimp only at W
  rw [if_neg c,if_neg (by rw [ZaV hp,Zbj hn]; decide),Zc3 W (by unfold big; omega),Option.bind_some]
  dsimp only
  rw [Z8 (by rw [List.length_map]; omega),zM (by omega),List.map_append]
  rfl
theorem ZlB {l:List Za} (hl:l.length≤4096) (h:Zd2 l = 0):z9 l = some ((zS l).map (List.map dt),0):=by
 have hc:=(ZcQ.1 h).2
 have row:∀ v,v < l.length→ZV (z9.s1 l v) big ((FS l v).2.map (List.map dt),mpD (FS l v).1,0) = some ((FS l (v + 1)).2.map (List.map dt),mpD (FS l (v + 1)).1):=by
  intro v hv
  refine Zbx (fun e:Nat=>((ZgT l v (FS l v) e).2.map (List.map dt),mpD (ZgT l v (FS l v) e).1,(e:Int))) (n:=4) (ZaI (by omega)) rfl (fun e he=>?_) ?_
  ·rw [Zk6 hc (by omega) ((Zfw hc v (by omega)).row hc hv e (by omega)) hv he]
   rfl
  ·simp only [z9.s1]
   rw [ZF (by omega)]
   rfl
 unfold z9
 rw [ZeS (by omega),Option.bind_some,Zam h,Zgi (x:=(zS l).map (List.map dt))]
 refine Zbx (fun v:Nat=>((FS l v).2.map (List.map dt),mpD (FS l v).1,(v:Int))) (n:=l.length) (ZaI (by omega)) rfl (fun v hv=>?_) ?_
 ·simp only [z9.s0]
  rw [ZG (by omega),row v hv,Option.bind_some]
  dsimp only
  rw [zM (by omega),show ((v + 1:Nat):Int) = (v:Int) + 1 by omega]
 ·simp only [z9.s0]
  rw [ZF (by omega)]
  rfl
end Mu
/- Layers 12 and 14: turns of zS,rotations,the outer face. -/
set_option linter.unusedVariables false
set_option linter.unusedSimpArgs false
set_option maxRecDepth 10000
namespace Mu
def tn (d e:Nat):Int:=if e = d then 0 else if e = (d + 1) % 4 then 1 else if e = (d + 3) % 4 then -1 else -2
theorem ZmD {d e:Nat} (hd:d < 4) (he:e < 4):Zbr d e = some (tn d e):=by
 have a:d = 0∨d = 1∨d = 2∨d = 3:=by omega
 have b:e = 0∨e = 1∨e = 2∨e = 3:=by omega
 rcases a with rfl | rfl | rfl | rfl <;> rcases b with rfl | rfl | rfl | rfl <;> rfl
theorem ZlW {d e:Nat}:-2≤tn d e∧tn d e≤1:=by unfold tn; split <;> (try split) <;> (try split) <;> omega
def tns (l:List Za) (f:List Da):List Int:=f.map fun p=>tn p.2 (bh l p).2
theorem Zdu {α β:Type} [Inhabited α] [Inhabited β] {f:α→β} {l:List α} {i:Nat} (h:i < l.length):gi (l.map f) i = f (gi l i):=by
 rw [Za1 (by simpa using h),Za1 h,List.getElem_map]
theorem ZgX {l:List Za} {f:List Da}:(tns l f).length = f.length:=by simp [tns]
theorem ZkQ {l:List Za} {f:List Da}:∀ i,-2≤gi (tns l f) i∧gi (tns l f) i≤1:=by
 intro i
 by_cases h:i < f.length
 ·unfold tns
  rw [Zdu h]
  exact ZlW
 ·rw [ZfB (by rw [ZgX]; omega)]
  decide
theorem ZlI {l:List Za} (hl:l.length≤4096) (h:Zd2 l = 0) {f:List Da} (hf:∀ p∈f,isD l p) (hn:f.length≤1000000):ZaL l (f.map dt) = some (tns l f):=by
 have hc:=(ZcQ.1 h).2
 have fl:(f.map dt).length = f.length:=by simp
 unfold ZaL
 rw [Z8 (by rw [fl]; omega),ZeS (by omega),Option.bind_some,Zam h]
 have:∃ r,ZV (ZaL.s0 l (f.map dt)) big (List.replicate (((f.map dt).length:Int)).toNat (0:Int),0) = some r∧r = tns l f:=by
  refine Zce (fun (k:Nat) (s:List Int × Int)=>(s.1.length = f.length∧∀ i,i < k→gi s.1 i = gi (tns l f) i)∧s.2 = k) (n:=f.length) (ZaI (by omega)) ⟨⟨by simp,fun i hi=>by omega⟩,rfl⟩ ?_ ?_
  ·rintro k ⟨r,j⟩ hk ⟨⟨h1,h2⟩,h3⟩
   dsimp only at h1 h2 h3 ⊢
   subst h3
   have hp:=hf _ (Zbl hk)
   have g:gi (f.map dt) k = dt (gi f k):=Zdu hk
   simp only [ZaL.s0,Int.toNat_natCast,g]
   have tt:Zbr (dt (gi f k)).Dir (dt (bh l (gi f k))).Dir = some (tn (gi f k).2 (bh l (gi f k)).2):=ZmD hp.2.1 (hp.bh hc).2.1
   rw [ZG (by rw [fl]; omega),Z8 (by rw [fl]; omega),Zm8,Option.bind_some,ZaV hp,if_pos rfl,Zio hc hp,Option.bind_some,tt,Option.bind_some,Z8 (by omega),zM (by omega)]
   refine ⟨_,rfl,⟨by dsimp only; rw [List.length_set]; exact h1,fun i hi=>?_⟩,by dsimp only; omega⟩
   dsimp only
   rw [ZbE (by omega)]
   by_cases c:i = k
   ·subst c
    rw [if_pos rfl]
    unfold tns
    rw [Zdu hk]
   ·rw [if_neg c]
    exact h2 i (by omega)
  ·rintro ⟨r,j⟩ ⟨⟨h1,h2⟩,h3⟩
   dsimp only at h1 h2 h3 ⊢
   subst h3
   simp only [ZaL.s0]
   rw [ZF (by rw [fl]; omega)]
   exact ⟨_,rfl,Zc2 (by rw [h1,ZgX]) fun i hi=>h2 i (by omega)⟩
 obtain ⟨r,e1,e2⟩:=this
 rw [e1,Option.bind_some,e2]
theorem Zhz {t:List Int} {n:Nat} (h:n < t.length):(t.take (n + 1)).sum = (t.take n).sum + gi t n:=by
 rw [ZgW h,List.sum_append]
 simp
theorem Zi0 {t:List Int} (h:∀ i,-2≤gi t i∧gi t i≤1):∀ n,n≤t.length→-2 * (n:Int)≤(t.take n).sum∧(t.take n).sum≤n
 | 0,_=>by simp
 | n + 1,hn=>by
  have ih:=Zi0 h n (by omega)
  have:=h n
  rw [Zhz (by omega)]
  omega
theorem ZiF {t:List Int} (h:∀ i,-2≤gi t i∧gi t i≤1) (hn:t.length≤1000000):Zat t = some t.sum:=by
 unfold Zat
 rw [Zgi (x:=t.sum)]
 refine Zbx (fun n:Nat=>((t.take n).sum,(n:Int))) (n:=t.length) (ZaI (by omega)) rfl (fun k hk=>?_) ?_
 ·have a:=Zi0 h k (by omega)
  have b:=h k
  simp only [Zat.s0,Int.toNat_natCast]
  rw [ZG (by omega),Z8 (by omega),if_pos (by simp; omega),zM (by omega),zM (by omega),Zhz hk,show ((k + 1:Nat):Int) = (k:Int) + 1 by omega]
 ·simp only [Zat.s0]
  rw [ZF (by omega),List.take_length]
def Zel (l:List Za) (f:List Da):Int:=(tns l f).sum
theorem Zf8 {l:List Za} (hc:Ck l):(∀ f∈zS l,∀ p∈f,isD l p)∧(zS l).length≤4 * l.length∧(∀ f∈zS l,f.length≤4 * l.length)∧(zS l).flatten.Nodup∧∀ p∈(zS l).flatten,isD l p:=by
 have h:=Zfw hc l.length (by omega)
 have hm:=h.m.len
 have hf:=h.fl
 refine ⟨h.is,by have:=h.len; unfold zS; omega,fun f hf'=>?_,by unfold zS; rw [hf]; exact h.m.nd,fun p hp=>by unfold zS at hp; rw [hf] at hp; exact h.m.is p hp⟩
 have:(f).Sublist (zS l).flatten:=List.sublist_flatten_of_mem hf'
 have:=this.length_le
 unfold zS at this
 rw [hf] at this
 omega
def ZeH:List Int→Int→Int→Option Int
 | [],_,a=>some a
 | r :: R,i,a=>if r = 4 then ZeH R (i + 1) a else if r = -4 then (if 0≤a then none else ZeH R (i + 1) i) else none
def ZeT (l:List Za):Option Int:=ZeH ((zS l).map (Zel l)) 0 (-1)
theorem ZhP {F:Int × Int→Option ((Int × Int) ⊕ (Int ⊕ Unit))} {R:List Int} (hR:R.length≤1000000) (h:∀ (i:Nat) (a:Int),i < R.length→F (a,(i:Int)) = some (if gi R i = 4 then .inl (a,(i:Int) + 1) else if gi R i = -4 then (if 0≤a then .inr (.inr ()) else .inl ((i:Int),(i:Int) + 1)) else .inr (.inr ()))) (he:∀ a,F (a,(R.length:Int)) = some (.inr (.inl a))):ZV F big (-1,0) = some (match ZeH R 0 (-1) with | some a=>.inl a | none=>.inr ()):=by
 have key:∀ (m n:Nat) (a:Int),n + m = R.length→ZV F (m + 1) (a,(n:Int)) = some (match ZeH (R.drop n) n a with | some a=>.inl a | none=>.inr ()):=by
  intro m
  induction m with
  | zero =>
   intro n a hn
   have:n = R.length:=by omega
   subst this
   rw [ZV,he,List.drop_length]
   rfl
  | succ m ih =>
   intro n a hn
   have hlt:n < R.length:=by omega
   have d:R.drop n = gi R n :: R.drop (n + 1):=by rw [Za1 hlt]; exact List.drop_eq_getElem_cons hlt
   rw [ZV,h n a hlt,d,ZeH]
   by_cases c1:gi R n = 4
   ·rw [if_pos c1,if_pos c1]
    dsimp only
    have:=ih (n + 1) a (by omega)
    rw [show ((n + 1:Nat):Int) = (n:Int) + 1 by omega] at this
    exact this
   ·rw [if_neg c1,if_neg c1]
    by_cases c2:gi R n = -4
    ·rw [if_pos c2,if_pos c2]
     by_cases c3:0≤a
     ·rw [if_pos c3,if_pos c3]
     ·rw [if_neg c3,if_neg c3]
      dsimp only
      have:=ih (n + 1) n (by omega)
      rw [show ((n + 1:Nat):Int) = (n:Int) + 1 by omega] at this
      exact this
    ·rw [if_neg c2,if_neg c2]
 have:=key R.length 0 (-1) (by omega)
 rw [List.drop_zero] at this
 exact Zc3 this (by unfold big; omega)
theorem Zk9 {l:List Za} (hl:l.length≤4096) (h:Zd2 l = 0):Za6 l = some (match ZeT l with | some a=>(a,decide (0≤a)) | none=>(0,false)):=by
 have hc:=(ZcQ.1 h).2
 obtain ⟨o1,o2,o3,_⟩:=Zf8 hc
 have L:ZV (Za6.s0 l ((zS l).map (List.map dt))) big (-1,0) = some (match ZeT l with | some a=>.inl a | none=>.inr ()):=by
  refine ZhP (R:=(zS l).map (Zel l)) (by simp; omega) (fun i a hi=>?_) fun a=>?_
  ·have hi':i < (zS l).length:=by simpa using hi
   have hm:=Zbl hi'
   have fl:=o3 _ hm
   simp only [Za6.s0,Int.toNat_natCast]
   rw [ZG (by simp; omega),Z8 (by simp; omega),Zdu hi',ZlI hl h (o1 _ hm) (by omega),Option.bind_some,ZiF ZkQ (by rw [ZgX]; omega),Option.bind_some,Zdu hi']
   show (if decide (Zel l (gi (zS l) i) = 4) = true then _ else _) = _
   by_cases c1:Zel l (gi (zS l) i) = 4
   ·rw [ZG c1,if_pos c1,zM (by omega)]
   ·rw [ZF c1,if_neg c1]
    show (if decide (Zel l (gi (zS l) i) = -4) = true then _ else _) = _
    by_cases c2:Zel l (gi (zS l) i) = -4
    ·rw [ZG c2,if_pos c2]
     by_cases c3:0≤a
     ·rw [ZG c3,if_pos c3]
     ·rw [ZF c3,if_neg c3,zM (by omega)]
    ·rw [ZF c2,if_neg c2]
  ·simp only [Za6.s0]
   rw [ZF (by simp)]
 unfold Za6
 rw [ZlB hl h,Option.bind_some]
 dsimp only
 rw [L,Option.bind_some]
 cases ZeT l <;> rfl
def Zc7 (l:List Za):Prop:=((PS l l.length).1.length:Int) = 1
noncomputable instance {l:List Za}:Decidable (Zc7 l):=by unfold Zc7; infer_instance
noncomputable def Zep (l:List Za):Int :=
 if Zd2 l = 0 then (if Zc7 l then (if l.length = 1 then 0 else match ZeT l with | some a=>if 0≤a then 0 else 10 | none=>10) else 13) else Zd2 l
theorem ZiS {l:List Za} (h:Zc7 l):0 < l.length:=by
 cases l with
 | nil=>unfold Zc7 at h; simp [PS] at h
 | cons a l=>simp
theorem ZiC {l:List Za} (hc:Ck l) (h:l.length = 1):zS l = []:=by
 obtain ⟨o1,o2,o3,o4,o5⟩:=Zf8 hc
 have no:∀ p,¬ isD l p:=by
  intro p hp
  have f:=hp.fwd hc
  rcases hc.s p.1 p.2 hp.1 hp.2.1 with ⟨a,_⟩ | ⟨w,a,b,c,_⟩
  ·have:=hp.2.2; omega
  ·have:=hp.1; omega
 have:(zS l).flatten = []:=by
  cases q:(zS l).flatten with
  | nil=>rfl
  | cons a t=>exact absurd (o5 a (by rw [q]; simp)) (no a)
 have len:=(Zfw hc l.length (by omega)).len
 have fl:=(Zfw hc l.length (by omega)).fl
 unfold zS at this ⊢
 rw [fl] at this
 rw [this] at len
 exact List.length_eq_zero_iff.1 (by simpa using len)
theorem ZkC {l:List Za} (hl:l.length≤1200):Zb1 l = some (Zep l):=by
 unfold Zb1 Zep
 rw [ZeS (by omega),Option.bind_some]
 by_cases h:Zd2 l = 0
 ·have hc:=(ZcQ.1 h).2
  rw [Zam h,if_pos h,ZlJ hc hl,Option.bind_some]
  by_cases w:Zc7 l
  ·have hp:=ZiS w
   rw [if_pos w,ZaV (show ((PS l l.length).1.length:Int) = 1 from w),if_neg (by decide),Zk9 (by omega) h,Option.bind_some]
   by_cases c:l.length = 1
   ·rw [if_pos c]
    have:ZeT l = some (-1):=by unfold ZeT; rw [ZiC hc c]; rfl
    rw [this]
    dsimp only
    rw [if_neg (by simp; omega)]
   ·rw [if_neg c]
    cases ZeT l with
    | none=>dsimp only; rw [if_pos (by simp; omega)]
    | some a =>
     dsimp only
     by_cases q:0≤a
     ·rw [if_pos q,if_neg (by simp; omega)]
     ·rw [if_neg q,if_pos (by simp; omega)]
  ·rw [if_neg w,Zbj (show ¬ ((PS l l.length).1.length:Int) = 1 from w),if_pos (by decide)]
 ·rw [ZaP h,if_neg h]
theorem ZkS {l:List Za} (h:Zep l = 0):Zd2 l = 0∧Zc7 l∧(l.length≠1→∃ a,ZeT l = some a∧0≤a):=by
 unfold Zep at h
 by_cases c:Zd2 l = 0
 ·rw [if_pos c] at h
  by_cases w:Zc7 l
  ·rw [if_pos w] at h
   refine ⟨c,w,fun h1=>?_⟩
   rw [if_neg h1] at h
   cases q:ZeT l with
   | none=>rw [q] at h; exact absurd h (by decide)
   | some a =>
    rw [q] at h
    dsimp only at h
    by_cases k:0≤a
    ·exact ⟨a,rfl,k⟩
    ·rw [if_neg k] at h; exact absurd h (by decide)
  ·rw [if_neg w] at h; exact absurd h (by decide)
 ·rw [if_neg c] at h; exact absurd h c
end Mu
/- Layer 26: CheckTells. -/
set_option linter.unusedVariables false
set_option linter.unusedSimpArgs false
set_option maxRecDepth 10000
namespace Mu
theorem Zhk:Zbb = some true:=by decide +kernel
theorem Zhn {F:Int→Option (Int ⊕ (Unit ⊕ Unit))} {n:Nat} {P:Nat→Bool} (hn:n≤1000000) (he:F n = some (.inr (.inl ()))):∀ (m s:Nat),s + m = n→(∀ i:Nat,s≤i→i < n→F i = some (if P i = true then .inr (.inr ()) else .inl ((i:Int) + 1)))→∃ r,ZV F (m + 1) (s:Int) = some r∧(r = .inr ()↔∃ i,s≤i∧i < n∧P i = true)
 | 0,s,hs,h=>by
  have:s = n:=by omega
  subst this
  refine ⟨.inl (),by rw [ZV,he],?_⟩
  constructor
  ·intro h; cases h
  ·rintro ⟨i,h1,h2,_⟩; omega
 | m + 1,s,hs,h=>by
  rw [ZV,h s (Nat.le_refl _) (by omega)]
  by_cases c:P s = true
  ·rw [if_pos c]
   exact ⟨_,rfl,fun _=>⟨s,Nat.le_refl _,by omega,c⟩,fun _=>rfl⟩
  ·rw [if_neg c]
   dsimp only
   obtain ⟨r,e1,e2⟩:=Zhn hn he m (s + 1) (by omega) (fun i h1 h2=>h i (by omega) h2)
   rw [show ((s + 1:Nat):Int) = (s:Int) + 1 by omega] at e1
   refine ⟨r,e1,e2.trans ⟨?_,?_⟩⟩
   ·rintro ⟨i,h1,h2,h3⟩; exact ⟨i,by omega,h2,h3⟩
   ·rintro ⟨i,h1,h2,h3⟩
    by_cases q:i = s
    ·subst q; exact absurd h3 c
    ·exact ⟨i,by omega,h2,h3⟩
theorem Zgt {F:Int→Option (Int ⊕ (Unit ⊕ Unit))} {n s:Nat} {P:Nat→Bool} (hn:n≤1000000) (hs:s≤n) (he:F n = some (.inr (.inl ()))) (h:∀ i:Nat,s≤i→i < n→F i = some (if P i = true then .inr (.inr ()) else .inl ((i:Int) + 1))):∃ r,ZV F big (s:Int) = some r∧(r = .inr ()↔∃ i,s≤i∧i < n∧P i = true):=by
 obtain ⟨r,e1,e2⟩:=Zhn hn he (n - s) s (by omega) h
 exact ⟨r,Zc3 e1 (by unfold big; omega),e2⟩
def LNo (b:Bool) (L:List (List Int)) (n:Nat):List (Bool × Nat):=((List.range n).filter fun i=>decide (1 < (gi L i).length)).map fun i=>(b,i)
def LN (V H:List (List Int)):List (Bool × Nat):=LNo true V V.length++LNo false H H.length
def ZbJ (p:Bool × Nat):zu:=⟨p.1,p.2⟩
theorem Ze9 {b:Bool} {L:List (List Int)} {n:Nat}:(LNo b L n).length≤n:=by
 unfold LNo
 rw [List.length_map]
 have:=List.length_filter_le (fun i=>decide (1 < (gi L i).length)) (List.range n)
 simpa using this
theorem ZgZ {b:Bool} {L:List (List Int)} {n:Nat}:LNo b L (n + 1) = if 1 < (gi L n).length then LNo b L n++[(b,n)] else LNo b L n:=by
 unfold LNo
 rw [List.range_succ,List.filter_append,List.map_append]
 by_cases c:1 < (gi L n).length
 ·rw [if_pos c,List.filter_cons,if_pos (by simpa using c)]; rfl
 ·rw [if_neg c,List.filter_cons,if_neg (by simpa using c)]; simp
theorem ZlC {X Y:List Int} {V H:List (List Int)} (hV:V.length≤1000) (hH:H.length≤1000):Zai ⟨X,Y,V,H⟩ = some ((LN V H).map ZbJ):=by
 have l0:ZV (Zai.s0 ⟨X,Y,V,H⟩) big (([]:List zu),0) = some ((LNo true V V.length).map ZbJ):=by
  refine Zbx (fun n:Nat=>((LNo true V n).map ZbJ,(n:Int))) (n:=V.length) (ZaI (by omega)) rfl (fun n hn=>?_) ?_
  ·have:=Ze9 (b:=true) (L:=V) (n:=n)
   simp only [Zai.s0,Int.toNat_natCast]
   rw [ZG (by omega),Z8 (by omega),ZgZ]
   by_cases c:1 < (gi V n).length
   ·rw [ZG (by omega),Z8 (by simp; omega),zM (by omega),if_pos c,show ((n + 1:Nat):Int) = (n:Int) + 1 by omega,List.map_append]; rfl
   ·rw [ZF (by omega),zM (by omega),if_neg c,show ((n + 1:Nat):Int) = (n:Int) + 1 by omega]
  ·simp only [Zai.s0]
   rw [ZF (by omega)]
 have l1:ZV (Zai.s1 ⟨X,Y,V,H⟩) big ((LNo true V V.length).map ZbJ,0) = some ((LN V H).map ZbJ):=by
  refine Zbx (fun n:Nat=>((LNo true V V.length++LNo false H n).map ZbJ,(n:Int))) (n:=H.length) (ZaI (by omega)) (by simp [LNo]) (fun n hn=>?_) ?_
  ·have a:=Ze9 (b:=false) (L:=H) (n:=n)
   have b:=Ze9 (b:=true) (L:=V) (n:=V.length)
   simp only [Zai.s1,Int.toNat_natCast]
   rw [ZG (by omega),Z8 (by omega),ZgZ]
   by_cases c:1 < (gi H n).length
   ·rw [ZG (by omega),Z8 (by simp; omega),zM (by omega),if_pos c,show ((n + 1:Nat):Int) = (n:Int) + 1 by omega,← List.append_assoc,List.map_append (l₂:=[(false,n)])]; rfl
   ·rw [ZF (by omega),zM (by omega),if_neg c,show ((n + 1:Nat):Int) = (n:Int) + 1 by omega]
  ·simp only [Zai.s1]
   rw [ZF (by omega)]
   rfl
 unfold Zai
 rw [l0,Option.bind_some,l1,Option.bind_some]
theorem ZgJ {V H:List (List Int)} {p:Bool × Nat} (h:p∈LN V H):p.2 < (if p.1 = true then V else H).length:=by
 unfold LN LNo at h
 rcases List.mem_append.1 h with q | q
 ·obtain ⟨i,hi,rfl⟩:=List.mem_map.1 q
  have:=List.mem_range.1 (List.mem_filter.1 hi).1
  simpa using this
 ·obtain ⟨i,hi,rfl⟩:=List.mem_map.1 q
  have:=List.mem_range.1 (List.mem_filter.1 hi).1
  simpa using this
def Zcj (V H:List (List Int)) (p:List Ze) (a:Bool × Nat):Ze:=gi p (gi (gi (if a.1 = true then V else H) a.2) 0).toNat
def Zck (V H:List (List Int)) (p:List Ze) (a:Bool × Nat):Ze:=gi p (gi (gi (if a.1 = true then V else H) a.2) ((gi (if a.1 = true then V else H) a.2).length - 1)).toNat
structure Zh2 (n:Nat) (L:List (List Int)):Prop where
 ne:∀ i,i < L.length→0 < (gi L i).length∧(gi L i).length≤1000000
 lt:∀ i,i < L.length→∀ k,k < (gi L i).length→0≤gi (gi L i) k∧gi (gi L i) k < n
theorem CH.ok {l:List Za} (hc:Ck l) (hl:l.length≤1000) {d:Nat} (hd:d < 4) {a:List Int} {L:List (List Int)} (h:CH l d a L):Zh2 l.length L:=⟨fun i hi=>⟨(h.ch i hi).ne,by have:=(h.ch i hi).len hc hd; omega⟩,fun i hi=>(h.ch i hi).lt⟩
theorem ZjA {n:Nat} {X Y:List Int} {V H:List (List Int)} (hV:Zh2 n V) (hH:Zh2 n H) {p:List Ze} (hp:p.length = n) {a:Bool × Nat} (ha:a∈LN V H):Zbm ⟨X,Y,V,H⟩ (ZbJ a) p = some ⟨Zcj V H p a,Zck V H p a⟩:=by
 have hm:=ZgJ ha
 unfold Zbm Zcj Zck ZbJ
 have e:(if a.1 = true then some V else some H) = some (if a.1 = true then V else H):=by cases a.1 <;> rfl
 have hL:Zh2 n (if a.1 = true then V else H):=by split <;> assumption
 dsimp only
 rw [e,Option.bind_some]
 generalize (if a.1 = true then V else H) = L at *
 have h1:=hL.ne a.2 hm
 have h2:=hL.lt a.2 hm 0 h1.1
 have h3:=hL.lt a.2 hm ((gi L a.2).length - 1) (by omega)
 rw [Int.toNat_natCast,show (0:Int).toNat = 0 from rfl,show (((gi L a.2).length:Int) - 1).toNat = (gi L a.2).length - 1 by omega,Z8 (by omega),Z8 (by omega),Z8 (by omega),zM (by omega),Z8 (by omega),Z8 (by omega)]
def Zb7 (a b c d:Ze):Bool:=(((decide (b.X < c.X)) || (decide (d.X < a.X))) || (decide (b.Y < c.Y))) || (decide (d.Y < a.Y))
theorem Zj4 {α:Type} [Inhabited α] {l:List α} {n i:Nat}:gi (l.drop n) i = gi l (n + i):=by
 unfold gi; simp
theorem ZlH {l:List Za} (hc:Ck l) (hl:l.length≤64) {X Y:List Int} {V H:List (List Int)} (hx:CH l 1 X V) (hy:CH l 0 Y H) (ver oth:Bool) (i k:Int):ZaD ⟨X,Y,V,H⟩ ver i oth k = some ((cl (if ver = true then V else H) i).any fun v=>decide (v∈cl (if oth = true then V else H) k)):=by
 have kind:∀ w:Bool,∃ d,d < 4∧CH l d (if w = true then X else Y) (if w = true then V else H):=by
  intro w
  cases w with
  | true=>exact ⟨1,by omega,hx⟩
  | false=>exact ⟨0,by omega,hy⟩
 obtain ⟨d1,hd1,c1⟩:=kind ver
 obtain ⟨d2,hd2,c2⟩:=kind oth
 have n1:=Zjt hc hd1 c1 (i:=i)
 have n2:=Zjt hc hd2 c2 (i:=k)
 unfold ZaD
 rw [Zj8,Option.bind_some,Zj8,Option.bind_some,Zl9 (g:=fun v=>decide (v∈cl (if oth = true then V else H) k)) (by omega) (fun v _=>by
  unfold Zbc
  rw [ZhF (by omega),Option.bind_some]),Option.bind_some]
def shc (V H:List (List Int)) (a b:Bool × Nat):Bool:=(cl (if a.1 = true then V else H) a.2).any fun v=>decide (v∈cl (if b.1 = true then V else H) b.2)
/-! Stretched. -/
def All10 (P:Int→Prop) (x:A10 Int):Prop:=P x.a∧P x.b∧P x.c∧P x.d∧P x.e∧P x.f∧P x.g∧P x.h∧P x.i∧P x.j
theorem All10.get {P:Int→Prop} {x:A10 Int} (h:All10 P x) (i:Int):P (x.get i):=by
 obtain ⟨h0,h1,h2,h3,h4,h5,h6,h7,h8,h9⟩:=h
 unfold A10.get
 repeat' split
 all_goals assumption
theorem All10.set {P:Int→Prop} {x:A10 Int} (h:All10 P x) (i:Int) {v:Int} (hv:P v):All10 P (x.set i v):=by
 obtain ⟨h0,h1,h2,h3,h4,h5,h6,h7,h8,h9⟩:=h
 unfold A10.set
 repeat' split
 all_goals exact ⟨by assumption,by assumption,by assumption,by assumption,by assumption,by assumption,by assumption,by assumption,by assumption,by assumption⟩
theorem All10.mono {P Q:Int→Prop} {x:A10 Int} (h:All10 P x) (hq:∀ v,P v→Q v):All10 Q x:=by
 obtain ⟨h0,h1,h2,h3,h4,h5,h6,h7,h8,h9⟩:=h
 exact ⟨hq _ h0,hq _ h1,hq _ h2,hq _ h3,hq _ h4,hq _ h5,hq _ h6,hq _ h7,hq _ h8,hq _ h9⟩
theorem Zld {x:Int}:-4 < x.tmod 4∧x.tmod 4 < 4:=by
 by_cases c:0≤x
 ·rw [Int.tmod_eq_emod_of_nonneg c]; omega
 ·have e:x = -(-x):=by omega
  rw [e,Int.neg_tmod,Int.tmod_eq_emod_of_nonneg (by omega)]; omega
end Mu
/- Layer 12: zS are the ways round of 'behind'; what stays of them where cells are turned or split. -/
set_option linter.unusedVariables false
set_option linter.unusedSimpArgs false
set_option maxRecDepth 10000
namespace Mu
def prv (A:Nat→Bool) (d:Nat):Nat:=if A ((d + 1) % 4) = true then (d + 1) % 4 else if A d = true then d else if A ((d + 3) % 4) = true then (d + 3) % 4 else (d + 2) % 4
def Zhu (a b c d:Bool) (n:Nat):Bool:=if n = 0 then a else if n = 1 then b else if n = 2 then c else d
theorem ZjJ:∀ a b c d:Bool,∀ i j:Fin 4,Zhu a b c d ((i.1 + 2) % 4) = true→Zhu a b c d ((j.1 + 2) % 4) = true→prv (Zhu a b c d) i.1 = prv (Zhu a b c d) j.1→i = j:=by decide
theorem ZeM {A:Nat→Bool} {n:Nat} (h:n < 4):Zhu (A 0) (A 1) (A 2) (A 3) n = A n:=by
 have:n = 0∨n = 1∨n = 2∨n = 3:=by omega
 rcases this with rfl | rfl | rfl | rfl <;> rfl
theorem Zfv {A:Nat→Bool} {d:Nat} (h:d < 4):prv (Zhu (A 0) (A 1) (A 2) (A 3)) d = prv A d:=by
 unfold prv
 rw [ZeM (by omega),ZeM h,ZeM (by omega)]
theorem ZkK {A:Nat→Bool} {i j:Nat} (hi:i < 4) (hj:j < 4) (h1:A ((i + 2) % 4) = true) (h2:A ((j + 2) % 4) = true) (h:prv A i = prv A j):i = j:=by
 have:=ZjJ (A 0) (A 1) (A 2) (A 3) ⟨i,hi⟩ ⟨j,hj⟩ (by dsimp only; rw [ZeM (by omega)]; exact h1) (by dsimp only; rw [ZeM (by omega)]; exact h2) (by dsimp only; rw [Zfv hi,Zfv hj]; exact h)
 exact congrArg Fin.val this
theorem Zg4 {l:List Za} {p:Da}:bh l p = ((nx l p.1 p.2).toNat,prv (fun e=>decide (0≤nx l (nx l p.1 p.2).toNat e)) p.2):=by
 unfold bh prv
 simp only [decide_eq_true_eq]
 split
 ·rfl
 ·split
  ·rfl
  ·split <;> rfl
theorem Zg3 {l:List Za} (hc:Ck l) {p q:Da} (hp:isD l p) (hq:isD l q) (h:bh l p = bh l q):p = q:=by
 have f:=hp.fwd hc
 have g:=hq.fwd hc
 rw [Zg4,Zg4] at h
 injection h with h1 h2
 rw [← h1] at h2 g
 have d:p.2 = q.2:=ZkK hp.2.1 hq.2.1 (by simp; rw [f.2]; omega) (by simp; rw [g.2]; omega) h2
 have v:p.1 = q.1:=by
  have a:=f.2
  have b:=g.2
  rw [← d] at b
  rw [a] at b
  omega
 exact Prod.ext v d
def it (l:List Za):Nat→Da→Da
 | 0,x=>x
 | n + 1,x=>bh l (it l n x)
theorem Zj6 {l:List Za}:∀ n x,it l n (bh l x) = it l (n + 1) x
 | 0,_=>rfl
 | n + 1,x=>by rw [it,Zj6 n x]; rfl
theorem Zgq {l:List Za} (hc:Ck l) {x:Da} (hx:isD l x):∀ n,isD l (it l n x)
 | 0=>hx
 | n + 1=>(Zgq hc hx n).bh hc
theorem Zi5 {l:List Za} (hc:Ck l):∀ (n:Nat) (met:List Da) (x:Da),Mets l met→isD l x→4 * l.length < met.length + n→∃ K,walk l n met x = (List.range K).map (fun i=>it l i x)∧it l K x∈met++walk l n met x
 | 0,met,x,h,_,hn=>by have:=h.len; omega
 | n + 1,met,x,h,hx,hn=>by
  rw [walk]
  by_cases c:x∈met
  ·rw [if_pos c]
   exact ⟨0,rfl,by rw [List.append_nil]; exact c⟩
  ·rw [if_neg c]
   obtain ⟨K,e1,e2⟩:=Zi5 hc n (met++[x]) (bh l x) (h.snoc hx c) (hx.bh hc) (by simp; omega)
   refine ⟨K + 1,?_,?_⟩
   ·rw [e1,List.range_succ_eq_map,List.map_cons,List.map_map]
    congr 1
    exact List.map_congr_left fun i _=>Zj6 i x
   ·rw [Zj6] at e2
    rw [List.append_assoc] at e2
    exact e2
structure Cyc (l:List Za) (f:List Da):Prop where
 ne:f≠[]
 nd:f.Nodup
 is:∀ p∈f,isD l p
 cl:∀ p∈f,bh l p∈f
 one:∀ C:Da→Prop,(∀ x,isD l x→C x→C (bh l x))→∀ p∈f,∀ q∈f,C p→C q
theorem Cyc.sub {l:List Za} {f g:List Da} (hf:Cyc l f) (hg:Cyc l g) {p:Da} (h1:p∈f) (h2:p∈g):∀ q∈f,q∈g :=
 fun q hq=>hf.one (fun x=>x∈g) (fun x _ hx=>hg.cl x hx) p h1 q hq h2
theorem Cyc.perm {l:List Za} {f g:List Da} (hf:Cyc l f) (hg:Cyc l g) {p:Da} (h1:p∈f) (h2:p∈g):f.Perm g :=
 (List.perm_ext_iff_of_nodup hf.nd hg.nd).2 fun q=>⟨hf.sub hg h1 h2 q,hg.sub hf h2 h1 q⟩
theorem Zim {M N:List Da} (hM:M.Nodup) (hN:N.Nodup) (hs:∀ x∈M,x∈N) (hl:N.length≤M.length):∀ x∈N,x∈M:=by
 intro x hx
 refine Classical.byContradiction fun h=>?_
 have:=(List.nodup_cons.2 ⟨h,hM⟩).length_le_of_subset (l₂:=N) (fun y hy=>by
  rcases List.mem_cons.1 hy with rfl | hy
  ·exact hx
  ·exact hs y hy)
 simp at this
 omega
theorem Zhi {l:List Za} (hc:Ck l) {M:List Da} (hM:Mets l M) (cl:∀ p∈M,bh l p∈M) {x:Da} (hx:isD l x) (h:bh l x∈M):x∈M:=by
 have nd:(M.map (bh l)).Nodup:=List.pairwise_map.2 (hM.nd.imp_of_mem fun {p q} hp hq hne he=>hne (Zg3 hc (hM.is p hp) (hM.is q hq) he))
 have:=Zim nd hM.nd (fun y hy=>by
  obtain ⟨p,hp,rfl⟩:=List.mem_map.1 hy
  exact cl p hp) (by simp) _ h
 obtain ⟨z,hz,e⟩:=List.mem_map.1 this
 rw [← Zg3 hc (hM.is z hz) hx e]
 exact hz
theorem Zh1 {l:List Za} (hc:Ck l) {M:List Da} (hM:Mets l M) (cl:∀ p∈M,bh l p∈M) {x:Da} (hx:isD l x) (hn:x ∉ M):Cyc l (walk l (4 * l.length + 1) M x)∧∀ p∈M++walk l (4 * l.length + 1) M x,bh l p∈M++walk l (4 * l.length + 1) M x:=by
 obtain ⟨K,e1,e2⟩:=Zi5 hc (4 * l.length + 1) M x hM hx (by omega)
 have hw:=Mets.walk (n:=4 * l.length + 1) hc hM hx
 have wis:=ZgY (n:=4 * l.length + 1) (met:=M) hc hx
 have wnd:(walk l (4 * l.length + 1) M x).Nodup:=(List.nodup_append.1 hw.nd).2.1
 generalize walk l (4 * l.length + 1) M x = w at *
 have notM:∀ i,it l i x ∉ M:=by
  intro i
  induction i with
  | zero=>exact hn
  | succ i ih=>exact fun h=>ih (Zhi hc hM cl (Zgq hc hx i) h)
 have memw:∀ {y},y∈w↔∃ i,i < K∧it l i x = y:=by
  intro y
  rw [e1]
  simp [List.mem_map,List.mem_range]
 have inj:∀ i j,i < K→j < K→it l i x = it l j x→i = j:=by
  intro i j hi hj h
  rw [e1] at wnd
  have:=List.pairwise_map.1 wnd
  rw [List.pairwise_iff_getElem] at this
  refine Classical.byContradiction fun hne=>?_
  rcases Nat.lt_or_gt_of_ne hne with q | q
  ·exact this i j (by simpa using hi) (by simpa using hj) q (by simpa using h)
  ·exact this j i (by simpa using hj) (by simpa using hi) q (by simpa using h.symm)
 have back:it l K x = x:=by
  rcases List.mem_append.1 e2 with h | h
  ·exact absurd h (notM K)
  ·obtain ⟨j,hj,e⟩:=memw.1 h
   cases j with
   | zero=>exact e.symm
   | succ j =>
    cases K with
    | zero=>omega
    | succ K =>
     have:=Zg3 hc (Zgq hc hx j) (Zgq hc hx K) e
     have:=inj j K (by omega) (by omega) this
     omega
 have hK:0 < K:=by
  cases K with
  | zero=>rw [e1] at e2; simp [it] at e2; exact absurd e2 hn
  | succ K=>omega
 have wcl:∀ p∈w,bh l p∈w:=by
  intro p hp
  obtain ⟨i,hi,rfl⟩:=memw.1 hp
  by_cases c:i + 1 < K
  ·exact memw.2 ⟨i + 1,c,rfl⟩
  ·have:i + 1 = K:=by omega
   refine memw.2 ⟨0,hK,?_⟩
   show x = it l (i + 1) x
   rw [this,back]
 refine ⟨⟨?_,wnd,wis,wcl,?_⟩,?_⟩
 ·intro h
  have:x∈w:=memw.2 ⟨0,hK,rfl⟩
  rw [h] at this
  simp at this
 ·intro C hC p hp q hq hCp
  obtain ⟨i,hi,rfl⟩:=memw.1 hp
  obtain ⟨j,hj,rfl⟩:=memw.1 hq
  have up:∀ m,C (it l (i + m) x):=by
   intro m
   induction m with
   | zero=>exact hCp
   | succ m ih=>exact hC _ (Zgq hc hx _) ih
  have h0:C x:=by
   have:=up (K - i)
   rw [show i + (K - i) = K by omega,back] at this
   exact this
  have up0:∀ m,C (it l m x):=by
   intro m
   induction m with
   | zero=>exact h0
   | succ m ih=>exact hC _ (Zgq hc hx _) ih
  exact up0 j
 ·intro p hp
  rcases List.mem_append.1 hp with h | h
  ·exact List.mem_append.2 (.inl (cl p h))
  ·exact List.mem_append.2 (.inr (wcl p h))
structure FC (l:List Za) (s:List Da × List (List Da)):Prop where
 fi:FI l s
 cl:∀ p∈s.1,bh l p∈s.1
 cy:∀ f∈s.2,Cyc l f
theorem FC.st {l:List Za} (hc:Ck l) {s:List Da × List (List Da)} (h:FC l s) {p:Da} (h1:p.1 < l.length) (h2:p.2 < 4):FC l (stF l s p):=by
 refine ⟨h.fi.st hc h1 h2,?_,?_⟩ <;> unfold stF
 ·split
  ·exact h.cl
  ·rename_i c
   exact (Zh1 hc h.fi.m h.cl ⟨h1,h2,by omega⟩ fun q=>c (.inr q)).2
 ·split
  ·exact h.cy
  ·rename_i c
   intro f hf
   rcases List.mem_append.1 hf with k | k
   ·exact h.cy f k
   ·rw [List.mem_singleton.1 k]
    exact (Zh1 hc h.fi.m h.cl ⟨h1,h2,by omega⟩ fun q=>c (.inr q)).1
theorem FC.row {l:List Za} (hc:Ck l) {s:List Da × List (List Da)} (h:FC l s) {v:Nat} (hv:v < l.length):∀ e,e≤4→FC l (ZgT l v s e)
 | 0,_=>h
 | e + 1,he=>(FC.row hc h hv e (by omega)).st hc hv (by dsimp only; omega)
theorem ZiU {l:List Za} (hc:Ck l):∀ v,v≤l.length→FC l (FS l v)
 | 0,_=>⟨Zfw hc 0 (by omega),by simp [FS],by simp [FS]⟩
 | v + 1,hv=>(ZiU hc v (by omega)).row hc (by omega) 4 (by omega)
theorem ZcY {l:List Za} (hc:Ck l):∀ f∈zS l,Cyc l f:=(ZiU hc l.length (by omega)).cy
theorem Zf9 {l:List Za} (hc:Ck l) {i j:Nat} (hi:i < (zS l).length) (hj:j < (zS l).length) {p:Da} (h1:p∈gi (zS l) i) (h2:p∈gi (zS l) j):i = j:=by
 have nd:=(Zf8 hc).2.2.2.1
 rw [List.Nodup,List.pairwise_flatten] at nd
 have:=nd.2
 rw [List.pairwise_iff_getElem] at this
 rw [Za1 hi] at h1
 rw [Za1 hj] at h2
 refine Classical.byContradiction fun hne=>?_
 rcases Nat.lt_or_gt_of_ne hne with q | q
 ·exact this i j hi hj q p h1 p h2 rfl
 ·exact this j i hj hi q p h2 p h1 rfl
def Val (l:List Za):Prop:=(∀ i,i < (zS l).length→Zel l (gi (zS l) i) = 4∨Zel l (gi (zS l) i) = -4)∧(∃ i,i < (zS l).length∧Zel l (gi (zS l) i) = -4)∧∀ i j,i < (zS l).length→j < (zS l).length→Zel l (gi (zS l) i) = -4→Zel l (gi (zS l) j) = -4→i = j
theorem ZeU:∀ {R:List Int} {i a:Int},0≤i→-1≤a→((∃ b,ZeH R i a = some b∧0≤b)↔(∀ k,k < R.length→gi R k = 4∨gi R k = -4)∧(if 0≤a then ∀ k,k < R.length→gi R k≠-4 else (∃ k,k < R.length∧gi R k = -4)∧∀ k m,k < R.length→m < R.length→gi R k = -4→gi R m = -4→k = m))
 | [],i,a,hi,ha=>by
  simp only [ZeH,List.length_nil]
  constructor
  ·rintro ⟨b,h,hb⟩
   simp only [Option.some.injEq] at h
   subst h
   rw [if_pos hb]
   exact ⟨fun k hk=>by omega,fun k hk=>by omega⟩
  ·rintro ⟨_,h⟩
   by_cases c:0≤a
   ·exact ⟨a,rfl,c⟩
   ·rw [if_neg c] at h
    obtain ⟨⟨k,hk,_⟩,_⟩:=h
    omega
 | r :: R,i,a,hi,ha=>by
  have g0:gi (r :: R) 0 = r:=rfl
  have gs:∀ k,gi (r :: R) (k + 1) = gi R k:=fun k=>rfl
  rw [ZeH]
  by_cases c1:r = 4
  ·rw [if_pos c1,ZeU (R:=R) (by omega) ha]
   have all:(∀ k,k < R.length→gi R k = 4∨gi R k = -4)↔∀ k,k < (r :: R).length→gi (r :: R) k = 4∨gi (r :: R) k = -4:=by
    constructor
    ·intro h k hk
     cases k with
     | zero=>exact .inl c1
     | succ k=>exact h k (by simp at hk; omega)
    ·intro h k hk
     exact h (k + 1) (by simp; omega)
   rw [all]
   by_cases c:0≤a
   ·rw [if_pos c,if_pos c]
    refine and_congr_right fun _=>⟨fun h k hk=>?_,fun h k hk=>h (k + 1) (by simp; omega)⟩
    cases k with
    | zero=>rw [g0]; omega
    | succ k=>exact h k (by simp at hk; omega)
   ·rw [if_neg c,if_neg c]
    refine and_congr_right fun _=>⟨?_,?_⟩
    ·rintro ⟨⟨k,hk,e⟩,u⟩
     refine ⟨⟨k + 1,by simp; omega,e⟩,fun k m hk hm e1 e2=>?_⟩
     cases k with
     | zero=>rw [g0] at e1; omega
     | succ k =>
      cases m with
      | zero=>rw [g0] at e2; omega
      | succ m=>rw [u k m (by simp at hk; omega) (by simp at hm; omega) e1 e2]
    ·rintro ⟨⟨k,hk,e⟩,u⟩
     cases k with
     | zero=>rw [g0] at e; omega
     | succ k=>exact ⟨⟨k,by simp at hk; omega,e⟩,fun k m hk hm e1 e2=>by have:=u (k + 1) (m + 1) (by simp; omega) (by simp; omega) e1 e2; omega⟩
  ·rw [if_neg c1]
   by_cases c2:r = -4
   ·rw [if_pos c2]
    by_cases c:0≤a
    ·rw [if_pos c,if_pos c]
     constructor
     ·rintro ⟨b,h,_⟩; cases h
     ·rintro ⟨_,h⟩; exact absurd c2 (h 0 (by simp))
    ·rw [if_neg c,if_neg c,ZeU (R:=R) (by omega) (by omega),if_pos hi]
     constructor
     ·rintro ⟨h1,h2⟩
      refine ⟨fun k hk=>?_,⟨0,by simp,c2⟩,fun k m hk hm e1 e2=>?_⟩
      ·cases k with
       | zero=>exact .inr c2
       | succ k=>exact h1 k (by simp at hk; omega)
      ·cases k with
       | zero =>
        cases m with
        | zero=>rfl
        | succ m=>exact absurd e2 (h2 m (by simp at hm; omega))
       | succ k=>exact absurd e1 (h2 k (by simp at hk; omega))
     ·rintro ⟨h1,_,u⟩
      refine ⟨fun k hk=>h1 (k + 1) (by simp; omega),fun k hk e=>?_⟩
      have:=u 0 (k + 1) (by simp) (by simp; omega) c2 e
      omega
   ·rw [if_neg c2]
    constructor
    ·rintro ⟨b,h,_⟩; cases h
    ·rintro ⟨h,_⟩
     have:=h 0 (by simp)
     rw [g0] at this
     omega
theorem ZfK {l:List Za}:(∃ a,ZeT l = some a∧0≤a)↔Val l:=by
 unfold ZeT
 rw [ZeU (by omega) (by omega),if_neg (by omega)]
 unfold Val
 rw [List.length_map]
 have g:∀ k,k < (zS l).length→gi ((zS l).map (Zel l)) k = Zel l (gi (zS l) k):=fun k hk=>Zdu hk
 refine and_congr ⟨fun h i hi=>by rw [← g i hi]; exact h i hi,fun h i hi=>by rw [g i hi]; exact h i hi⟩ (and_congr ⟨?_,?_⟩ ⟨?_,?_⟩)
 ·rintro ⟨k,hk,e⟩; exact ⟨k,hk,by rw [← g k hk]; exact e⟩
 ·rintro ⟨k,hk,e⟩; exact ⟨k,hk,by rw [g k hk]; exact e⟩
 ·intro u i j hi hj e1 e2; exact u i j hi hj (by rw [g i hi]; exact e1) (by rw [g j hj]; exact e2)
 ·intro u i j hi hj e1 e2; exact u i j hi hj (by rw [← g i hi]; exact e1) (by rw [← g j hj]; exact e2)
theorem Zh0 {l:List Za}:Zep l = 0↔Zd2 l = 0∧Zc7 l∧(l.length≠1→Val l):=by
 constructor
 ·intro h
  obtain ⟨a,b,c⟩:=ZkS h
  exact ⟨a,b,fun h1=>ZfK.1 (c h1)⟩
 ·rintro ⟨a,b,c⟩
  unfold Zep
  rw [if_pos a,if_pos b]
  by_cases h1:l.length = 1
  ·rw [if_pos h1]
  ·rw [if_neg h1]
   obtain ⟨x,e,hx⟩:=ZfK.2 (c h1)
   rw [e]
   dsimp only
   rw [if_pos hx]
theorem ZiK {α:Type} {f:α→Int} {l m:List α} (h:l.Perm m):(l.map f).sum = (m.map f).sum:=by
 induction h with
 | nil=>rfl
 | cons x _ ih=>simp [ih]
 | swap x y l=>simp; omega
 | trans _ _ i1 i2=>rw [i1,i2]
structure Ins (l m:List Za) (ins:Da→List Da):Prop where
 ne:∀ p,isD l p→ins p≠[]
 nd:∀ p,isD l p→(ins p).Nodup
 is:∀ p,isD l p→∀ x∈ins p,isD m x
 dj:∀ p q,isD l p→isD l q→∀ x,x∈ins p→x∈ins q→p = q
 sm:∀ p,isD l p→((ins p).map fun x=>tn x.2 (bh m x).2).sum = tn p.2 (bh l p).2
 cl:∀ p,isD l p→∀ x∈ins p,bh m x∈ins p∨bh m x∈ins (bh l p)
 on:∀ C:Da→Prop,(∀ x,isD m x→C x→C (bh m x))→∀ p,isD l p→(∃ x,x∈ins p∧C x)→∀ y∈ins (bh l p),C y
 al:∀ x,isD m x→∃ p,isD l p∧x∈ins p
theorem Ins.cyc {l m:List Za} {ins:Da→List Da} (h:Ins l m ins) (hc:Ck l) {f:List Da} (hf:Cyc l f):Cyc m (f.flatMap ins):=by
 refine ⟨?_,?_,?_,?_,?_⟩
 ·intro e
  obtain ⟨p,hp⟩:=List.exists_mem_of_ne_nil f hf.ne
  obtain ⟨x,hx⟩:=List.exists_mem_of_ne_nil _ (h.ne p (hf.is p hp))
  have:x∈f.flatMap ins:=List.mem_flatMap.2 ⟨p,hp,hx⟩
  rw [e] at this
  simp at this
 ·rw [List.Nodup,List.pairwise_flatMap]
  refine ⟨fun p hp=>h.nd p (hf.is p hp),hf.nd.imp_of_mem ?_⟩
  intro p q hp hq hne x hx y hy e
  subst e
  exact hne (h.dj p q (hf.is p hp) (hf.is q hq) x hx hy)
 ·intro x hx
  obtain ⟨p,hp,hx⟩:=List.mem_flatMap.1 hx
  exact h.is p (hf.is p hp) x hx
 ·intro x hx
  obtain ⟨p,hp,hx⟩:=List.mem_flatMap.1 hx
  rcases h.cl p (hf.is p hp) x hx with k | k
  ·exact List.mem_flatMap.2 ⟨p,hp,k⟩
  ·exact List.mem_flatMap.2 ⟨_,hf.cl p hp,k⟩
 ·intro C hC x hx y hy hCx
  obtain ⟨p,hp,hx⟩:=List.mem_flatMap.1 hx
  obtain ⟨q,hq,hy⟩:=List.mem_flatMap.1 hy
  -- all that follow are so
  have step:∀ z,isD l z→(∃ x,x∈ins z∧C x)→∃ x,x∈ins (bh l z)∧C x:=by
   intro z hz hx
   obtain ⟨w,hw⟩:=List.exists_mem_of_ne_nil _ (h.ne _ (hz.bh hc))
   exact ⟨w,hw,h.on C hC z hz hx w hw⟩
  have all:∃ x,x∈ins q∧C x:=hf.one (fun z=>∃ x,x∈ins z∧C x) step p hp q hq ⟨x,hx,hCx⟩
  -- once round from q
  have round:∀ z∈f,(∃ w,w∈f∧bh l w = z):=by
   have nd:(f.map (bh l)).Nodup:=List.pairwise_map.2 (hf.nd.imp_of_mem fun {a b} ha hb hne he=>hne (Zg3 hc (hf.is a ha) (hf.is b hb) he))
   intro z hz
   have:=Zim nd hf.nd (fun y hy=>by
    obtain ⟨a,ha,rfl⟩:=List.mem_map.1 hy
    exact hf.cl a ha) (by simp) z hz
   obtain ⟨w,hw,e⟩:=List.mem_map.1 this
   exact ⟨w,hw,e⟩
  obtain ⟨w,hw,e⟩:=round q hq
  have hwC:∃ x,x∈ins w∧C x:=hf.one (fun z=>∃ x,x∈ins z∧C x) step p hp w hw ⟨x,hx,hCx⟩
  have:=h.on C hC w (hf.is w hw) hwC
  rw [e] at this
  exact this y hy
theorem Ins.rot {l m:List Za} {ins:Da→List Da} (h:Ins l m ins) {f:List Da} (hf:∀ p∈f,isD l p):((f.flatMap ins).map fun x=>tn x.2 (bh m x).2).sum = Zel l f:=by
 unfold Zel tns
 induction f with
 | nil=>rfl
 | cons p f ih =>
  rw [List.flatMap_cons,List.map_append,List.sum_append,ih fun q hq=>hf q (by simp [hq]),h.sm p (hf p (by simp)),List.map_cons,List.sum_cons]
theorem Zil {l:List Za} (hc:Ck l) {p:Da} (hp:isD l p) (all:∀ q,isD l q→q∈(zS l).flatten):∃ i,i < (zS l).length∧p∈gi (zS l) i:=by
 obtain ⟨f,hf,h⟩:=List.mem_flatten.1 (all p hp)
 obtain ⟨i,hi,e⟩:=List.mem_iff_getElem.1 hf
 exact ⟨i,hi,by rw [Za1 hi,e]; exact h⟩
theorem Ins.val {l m:List Za} {ins:Da→List Da} (h:Ins l m ins) (hc:Ck l) (hm:Ck m) (al:∀ q,isD l q→q∈(zS l).flatten) (am:∀ q,isD m q→q∈(zS m).flatten):Val l↔Val m:=by
 -- zS go with zS
 have key:∀ i j,i < (zS l).length→j < (zS m).length→∀ p x,p∈gi (zS l) i→x∈ins p→x∈gi (zS m) j→Zel m (gi (zS m) j) = Zel l (gi (zS l) i)∧∀ y,y∈gi (zS m) j↔∃ q,q∈gi (zS l) i∧y∈ins q:=by
  intro i j hi hj p x hp hx hxj
  have cf:=ZcY hc _ (Zbl hi)
  have cg:=ZcY hm _ (Zbl hj)
  have pm:=(h.cyc hc cf).perm cg (List.mem_flatMap.2 ⟨p,hp,hx⟩) hxj
  refine ⟨?_,fun y=>by rw [← pm.mem_iff,List.mem_flatMap]⟩
  rw [← h.rot cf.is,ZiK pm]
  rfl
 have fwd:∀ i,i < (zS l).length→∃ j,j < (zS m).length∧∃ p x,p∈gi (zS l) i∧x∈ins p∧x∈gi (zS m) j:=by
  intro i hi
  have cf:=ZcY hc _ (Zbl hi)
  obtain ⟨p,hp⟩:=List.exists_mem_of_ne_nil _ cf.ne
  obtain ⟨x,hx⟩:=List.exists_mem_of_ne_nil _ (h.ne p (cf.is p hp))
  obtain ⟨j,hj,hxj⟩:=Zil hm (h.is p (cf.is p hp) x hx) am
  exact ⟨j,hj,p,x,hp,hx,hxj⟩
 have bwd:∀ j,j < (zS m).length→∃ i,i < (zS l).length∧∃ p x,p∈gi (zS l) i∧x∈ins p∧x∈gi (zS m) j:=by
  intro j hj
  have cg:=ZcY hm _ (Zbl hj)
  obtain ⟨x,hx⟩:=List.exists_mem_of_ne_nil _ cg.ne
  obtain ⟨p,hp,hxp⟩:=h.al x (cg.is x hx)
  obtain ⟨i,hi,hpi⟩:=Zil hc hp al
  exact ⟨i,hi,p,x,hpi,hxp,hx⟩
 constructor
 ·rintro ⟨v1,⟨i0,hi0,e0⟩,v3⟩
  refine ⟨fun j hj=>?_,?_,fun j k hj hk e1 e2=>?_⟩
  ·obtain ⟨i,hi,p,x,a,b,c⟩:=bwd j hj
   rw [(key i j hi hj p x a b c).1]
   exact v1 i hi
  ·obtain ⟨j,hj,p,x,a,b,c⟩:=fwd i0 hi0
   exact ⟨j,hj,by rw [(key i0 j hi0 hj p x a b c).1]; exact e0⟩
  ·obtain ⟨i,hi,p,x,a,b,c⟩:=bwd j hj
   obtain ⟨i',hi',p',x',a',b',c'⟩:=bwd k hk
   have k1:=key i j hi hj p x a b c
   have k2:=key i' k hi' hk p' x' a' b' c'
   have:i = i':=v3 i i' hi hi' (by rw [← k1.1]; exact e1) (by rw [← k2.1]; exact e2)
   subst this
   exact Zf9 hm hj hk c ((k2.2 x).2 ⟨p,a,b⟩)
 ·rintro ⟨v1,⟨j0,hj0,e0⟩,v3⟩
  refine ⟨fun i hi=>?_,?_,fun i k hi hk e1 e2=>?_⟩
  ·obtain ⟨j,hj,p,x,a,b,c⟩:=fwd i hi
   rw [← (key i j hi hj p x a b c).1]
   exact v1 j hj
  ·obtain ⟨i,hi,p,x,a,b,c⟩:=bwd j0 hj0
   exact ⟨i,hi,by rw [← (key i j0 hi hj0 p x a b c).1]; exact e0⟩
  ·obtain ⟨j,hj,p,x,a,b,c⟩:=fwd i hi
   obtain ⟨j',hj',p',x',a',b',c'⟩:=fwd k hk
   have k1:=key i j hi hj p x a b c
   have k2:=key k j' hk hj' p' x' a' b' c'
   have:j = j':=v3 j j' hj hj' (by rw [k1.1]; exact e1) (by rw [k2.1]; exact e2)
   subst this
   obtain ⟨q,hq,hxq⟩:=(k2.2 x).1 c
   have cf:=ZcY hc _ (Zbl hi)
   have cf':=ZcY hc _ (Zbl hk)
   have:=h.dj p q (cf.is p a) (cf'.is q hq) x b hxq
   subst this
   exact Zf9 hc hi hk a hq
end Mu
/- Layer 10: GridSplits,GridTurns,GridChecks. -/
set_option linter.unusedVariables false
set_option linter.unusedSimpArgs false
set_option maxRecDepth 10000
namespace Mu
end Mu
/- Layer 10: GridTurns,GridChecks,GridNil. -/
set_option linter.unusedVariables false
set_option linter.unusedSimpArgs false
set_option maxRecDepth 10000
namespace Mu
end Mu
/- Layer 14: turned cells can be drawn just if they could. -/
set_option linter.unusedVariables false
set_option linter.unusedSimpArgs false
set_option maxRecDepth 10000
namespace Mu
def tdr (p:Da):Da:=(p.1,(p.2 + 1) % 4)
theorem Zfu {l:List Za} {v e:Nat} (hv:v < l.length) (he:e < 4):nx (trn l) v ((e + 1) % 4) = nx l v e:=by
 rw [(ZbR hv (by omega)).1]
 congr 1
 omega
theorem ZgG {l:List Za} {p:Da} (h:p.2 < 4):isD (trn l) (tdr p)↔isD l p:=by
 unfold isD tdr
 dsimp only
 rw [ZbH]
 constructor
 ·rintro ⟨a,b,c⟩
  rw [Zfu a h] at c
  exact ⟨a,h,c⟩
 ·rintro ⟨a,b,c⟩
  exact ⟨a,by omega,by rw [Zfu a h]; exact c⟩
theorem ZiL:∀ a b c d:Bool,∀ i:Fin 4,prv (Zhu d a b c) ((i.1 + 1) % 4) = (prv (Zhu a b c d) i.1 + 1) % 4:=by decide
theorem Zh7 {l:List Za} (hc:Ck l) {p:Da} (h:isD l p):bh (trn l) (tdr p) = tdr (bh l p):=by
 have f:=h.fwd hc
 rw [Zg4,Zg4]
 unfold tdr
 dsimp only
 rw [Zfu h.1 h.2.1]
 refine Prod.ext rfl ?_
 dsimp only
 have A:∀ e,e < 4→(fun e=>decide (0≤nx (trn l) (nx l p.1 p.2).toNat e)) ((e + 1) % 4) = (fun e=>decide (0≤nx l (nx l p.1 p.2).toNat e)) e:=by
  intro e he
  dsimp only
  rw [Zfu f.1 he]
 generalize (fun e=>decide (0≤nx (trn l) (nx l p.1 p.2).toNat e)) = F at *
 generalize (fun e=>decide (0≤nx l (nx l p.1 p.2).toNat e)) = G at *
 have q:=ZiL (G 0) (G 1) (G 2) (G 3) ⟨p.2,h.2.1⟩
 dsimp only at q
 rw [Zfv h.2.1] at q
 rw [← q]
 have f0:=A 3 (by omega)
 have f1:=A 0 (by omega)
 have f2:=A 1 (by omega)
 have f3:=A 2 (by omega)
 rw [← f0,← f1,← f2,← f3]
 exact (Zfv (A:=F) (by omega)).symm
theorem ZkP {d e:Nat} (hd:d < 4) (he:e < 4):tn ((d + 1) % 4) ((e + 1) % 4) = tn d e:=by
 have a:d = 0∨d = 1∨d = 2∨d = 3:=by omega
 have b:e = 0∨e = 1∨e = 2∨e = 3:=by omega
 rcases a with rfl | rfl | rfl | rfl <;> rcases b with rfl | rfl | rfl | rfl <;> rfl
theorem ZkO {p q:Da} (hp:p.2 < 4) (hq:q.2 < 4) (h:tdr p = tdr q):p = q:=by
 unfold tdr at h
 injection h with a b
 exact Prod.ext a (by omega)
theorem Zkv {l:List Za} (hc:Ck l):Ins l (trn l) fun p=>[tdr p]:=by
 refine ⟨fun p _=>by simp,fun p _=>by simp,fun p hp x hx=>?_,fun p q hp hq x h1 h2=>?_,fun p hp=>?_,fun p hp x hx=>?_,fun C hC p hp hx y hy=>?_,fun x hx=>?_⟩
 ·rw [List.mem_singleton.1 hx]; exact (ZgG hp.2.1).2 hp
 ·exact ZkO hp.2.1 hq.2.1 (by rw [← List.mem_singleton.1 h1,← List.mem_singleton.1 h2])
 ·rw [List.map_singleton,List.sum_singleton,Zh7 hc hp]
  unfold tdr
  exact ZkP hp.2.1 (hp.bh hc).2.1
 ·rw [List.mem_singleton.1 hx,Zh7 hc hp]
  exact .inr (by simp)
 ·obtain ⟨x,hx,hCx⟩:=hx
  rw [List.mem_singleton.1 hx] at hCx
  rw [List.mem_singleton.1 hy,← Zh7 hc hp]
  exact hC _ ((ZgG hp.2.1).2 hp) hCx
 ·have e:tdr (x.1,(x.2 + 3) % 4) = x:=by
   unfold tdr
   refine Prod.ext rfl ?_
   have:=hx.2.1
   dsimp only
   omega
  refine ⟨(x.1,(x.2 + 3) % 4),?_,by rw [e]; simp⟩
  rw [← ZgG (by dsimp only; omega),e]
  exact hx
theorem Zjk {l:List Za} (hc:Ck l):∀ q,isD l q→q∈(zS l).flatten:=by
 have sub1:∀ {s:List Da × List (List Da)} {p q:Da},q∈s.1→q∈(stF l s p).1:=by
  intro s p q h
  unfold stF
  split
  ·exact h
  ·exact List.mem_append.2 (.inl h)
 have has1:∀ {s:List Da × List (List Da)} {p:Da},0≤nx l p.1 p.2→p∈(stF l s p).1:=by
  intro s p h
  unfold stF
  split
  ·rename_i c
   rcases c with c | c
   ·omega
   ·exact c
  ·rename_i c
   refine List.mem_append.2 (.inr ?_)
   rw [walk,if_neg fun q=>c (.inr q)]
   simp
 have sub2:∀ {v:Nat} {s:List Da × List (List Da)} {q:Da},q∈s.1→∀ e,q∈(ZgT l v s e).1:=by
  intro v s q h e
  induction e with
  | zero=>exact h
  | succ e ih=>exact sub1 ih
 have has2:∀ {v d:Nat} {s:List Da × List (List Da)},0≤nx l v d→∀ e,d < e→(v,d)∈(ZgT l v s e).1:=by
  intro v d s h e
  induction e with
  | zero=>intro he; omega
  | succ e ih =>
   intro he
   rw [ZgT]
   by_cases c:d = e
   ·subst c; exact has1 h
   ·exact sub1 (ih (by omega))
 have has3:∀ {v d:Nat},d < 4→0≤nx l v d→∀ n,v < n→(v,d)∈(FS l n).1:=by
  intro v d hd h n
  induction n with
  | zero=>intro hn; omega
  | succ n ih =>
   intro hn
   rw [FS]
   by_cases c:v = n
   ·subst c; exact has2 h 4 hd
   ·exact sub2 (ih (by omega)) 4
 intro q h
 have fl:=(Zfw hc l.length (by omega)).fl
 unfold zS
 rw [fl]
 exact has3 h.2.1 h.2.2 _ h.1
theorem ZkT {l:List Za} (hc:Ck l):Val (trn l)↔Val l:=((Zkv hc).val hc hc.turn (Zjk hc) (Zjk hc.turn)).symm
theorem ZiT {l:List Za} (hc:Ck l):Zc7 (trn l)↔Zc7 l:=by
 unfold Zc7
 rw [ZbH,ZiX hc l.length (Nat.le_refl _)]
theorem Zi4 {l:List Za} (h:Zd2 l = 0):(Zep l = 0∧Zc7 l∧(l.length≠1→Val l))∨(Zep l = 13∧¬ Zc7 l)∨(Zep l = 10∧Zc7 l∧l.length≠1∧¬ Val l):=by
 by_cases w:Zc7 l
 ·by_cases c:l.length = 1
  ·exact .inl ⟨Zh0.2 ⟨h,w,fun h1=>absurd c h1⟩,w,fun h1=>absurd c h1⟩
  ·by_cases v:Val l
   ·exact .inl ⟨Zh0.2 ⟨h,w,fun _=>v⟩,w,fun _=>v⟩
   ·refine .inr (.inr ⟨?_,w,c,v⟩)
    have hn:¬ ∃ a,ZeT l = some a∧0≤a:=fun q=>v (ZfK.1 q)
    unfold Zep
    rw [if_pos h,if_pos w,if_neg c]
    cases q:ZeT l with
    | none=>rfl
    | some a =>
     dsimp only
     rw [if_neg fun k=>hn ⟨a,q,k⟩]
 ·refine .inr (.inl ⟨?_,w⟩)
  unfold Zep
  rw [if_pos h,if_neg w]
theorem ZjR {l:List Za} (hc:Ck l) (hl:l.length≤4096):Zep (trn l) = Zep l:=by
 have k1:Zd2 l = 0:=ZcQ.2 ⟨hl,hc⟩
 have k2:Zd2 (trn l) = 0:=ZcQ.2 ⟨by rw [ZbH]; exact hl,hc.turn⟩
 have a:=Zi4 k1
 have b:=Zi4 k2
 rw [ZiT hc,ZkT hc,ZbH] at b
 rcases a with ⟨a1,a2,a3⟩ | ⟨a1,a2⟩ | ⟨a1,a2,a3,a4⟩ <;> rcases b with ⟨b1,b2,b3⟩ | ⟨b1,b2⟩ | ⟨b1,b2,b3,b4⟩ <;> first | exact b1.trans a1.symm | exact absurd a2 b2 | exact absurd b2 a2 | exact absurd (a3 b3) b4 | exact absurd (b3 a3) a4
end Mu
/- Layer 26: CheckTurns. -/
set_option linter.unusedVariables false
set_option linter.unusedSimpArgs false
set_option maxRecDepth 10000
namespace Mu
theorem Zk3 {l:List Za} (hc:Ck l) (hl:l.length≤64) {X Y:List Int} {V H:List (List Int)} (cx:CH l 1 X V) (cy:CH l 0 Y H) {p:List Ze} (hp:p.length = l.length) (hs:Zcg l = some (⟨X,Y,V,H⟩,0)):∃ b,zo l p = some b∧(b = true↔∃ i k,i < k∧k < (LN V H).length∧(!Zb7 (Zcj V H p (gi (LN V H) i)) (Zck V H p (gi (LN V H) i)) (Zcj V H p (gi (LN V H) k)) (Zck V H p (gi (LN V H) k)) && !shc V H (gi (LN V H) i) (gi (LN V H) k)) = true):=by
 have oV:=cx.ok hc (by omega) (by omega)
 have oH:=cy.ok hc (by omega) (by omega)
 have x3:=cx.Ll
 have y3:=cy.Ll
 have ll:(LN V H).length≤2000:=by
  unfold LN
  rw [List.length_append]
  have a:=Ze9 (b:=true) (L:=V) (n:=V.length)
  have b:=Ze9 (b:=false) (L:=H) (n:=H.length)
  omega
 obtain ⟨M,hMs⟩:∃ M:Bool × Nat→Bool × Nat→Bool,M = shc V H:=⟨_,rfl⟩
 have hM:∀ a b:Bool × Nat,ZaD ⟨X,Y,V,H⟩ a.1 a.2 b.1 b.2 = some (M a b):=fun a b=>by rw [hMs]; exact ZlH hc hl cx cy _ _ _ _
 have n1:((LN V H).map ZbJ).length = (LN V H).length:=by simp
 obtain ⟨P,hP⟩:∃ P:Nat→Nat→Bool,P = fun i k=>!Zb7 (Zcj V H p (gi (LN V H) i)) (Zck V H p (gi (LN V H) i)) (Zcj V H p (gi (LN V H) k)) (Zck V H p (gi (LN V H) k)) && !M (gi (LN V H) i) (gi (LN V H) k):=⟨_,rfl⟩
 -- the code
 have inner:∀ i,i < (LN V H).length→∃ r,ZV (zo.s1 p ⟨X,Y,V,H⟩ ((LN V H).map ZbJ) i ⟨Zcj V H p (gi (LN V H) i),Zck V H p (gi (LN V H) i)⟩) big 0 = some r∧(r = .inr ()↔∃ k,i < k∧k < (LN V H).length∧P i k = true):=by
  intro i hi
  have dl:(((LN V H).map ZbJ).drop (i + 1)).length = (LN V H).length - (i + 1):=by rw [List.length_drop,n1]
  obtain ⟨r,e1,e2⟩:=Zgt (F:=zo.s1 p ⟨X,Y,V,H⟩ ((LN V H).map ZbJ) i ⟨Zcj V H p (gi (LN V H) i),Zck V H p (gi (LN V H) i)⟩) (n:=(LN V H).length - (i + 1)) (s:=0) (P:=fun j=>P i (i + 1 + j)) (by omega) (by omega) (by
   simp only [zo.s1]
   rw [show ((i:Int) + 1).toNat = i + 1 by omega,ZF (by rw [dl]; omega)]) (fun j _ hj=>by
   have hk:i + 1 + j < (LN V H).length:=by omega
   have sp:=ZjA (X:=X) (Y:=Y) oV oH hp (Zbl hk)
   have g1:gi (((LN V H).map ZbJ).drop (i + 1)) j = ZbJ (gi (LN V H) (i + 1 + j)):=by rw [Zj4,Zdu hk]
   have g2:gi ((LN V H).map ZbJ) i = ZbJ (gi (LN V H) i):=Zdu hi
   have me:=hM (gi (LN V H) i) (gi (LN V H) (i + 1 + j))
   simp only [zo.s1,Int.toNat_natCast]
   rw [show ((i:Int) + 1).toNat = i + 1 by omega,ZG (by rw [dl]; omega),Z8 (by rw [dl]; omega),g1,g2,sp,Option.bind_some]
   have ap:Zbo ⟨Zcj V H p (gi (LN V H) i),Zck V H p (gi (LN V H) i)⟩ ⟨Zcj V H p (gi (LN V H) (i + 1 + j)),Zck V H p (gi (LN V H) (i + 1 + j))⟩ = some (Zb7 (Zcj V H p (gi (LN V H) i)) (Zck V H p (gi (LN V H) i)) (Zcj V H p (gi (LN V H) (i + 1 + j))) (Zck V H p (gi (LN V H) (i + 1 + j)))):=rfl
   have me':ZaD ⟨X,Y,V,H⟩ (ZbJ (gi (LN V H) i)).Vertical (ZbJ (gi (LN V H) i)).Place (ZbJ (gi (LN V H) (i + 1 + j))).Vertical (ZbJ (gi (LN V H) (i + 1 + j))).Place = some (M (gi (LN V H) i) (gi (LN V H) (i + 1 + j))):=me
   have pv:P i (i + 1 + j) = (!Zb7 (Zcj V H p (gi (LN V H) i)) (Zck V H p (gi (LN V H) i)) (Zcj V H p (gi (LN V H) (i + 1 + j))) (Zck V H p (gi (LN V H) (i + 1 + j))) && !M (gi (LN V H) i) (gi (LN V H) (i + 1 + j))):=by rw [hP]
   obtain ⟨ab,hab⟩:∃ ab,Zb7 (Zcj V H p (gi (LN V H) i)) (Zck V H p (gi (LN V H) i)) (Zcj V H p (gi (LN V H) (i + 1 + j))) (Zck V H p (gi (LN V H) (i + 1 + j))) = ab:=⟨_,rfl⟩
   obtain ⟨mb,hmb⟩:∃ mb,M (gi (LN V H) i) (gi (LN V H) (i + 1 + j)) = mb:=⟨_,rfl⟩
   rw [hab,hmb] at pv
   rw [hmb] at me'
   rw [ap,Option.bind_some,hab,pv,me']
   cases ab with
   | true=>rw [if_neg (by decide),zM (by omega)]; rfl
   | false =>
    rw [if_pos (by decide),Option.bind_some]
    cases mb with
    | true=>rw [if_neg (by decide),zM (by omega)]; rfl
    | false=>rfl)
  refine ⟨r,e1,e2.trans ⟨?_,?_⟩⟩
  ·rintro ⟨j,_,h1,h2⟩; exact ⟨i + 1 + j,by omega,by omega,h2⟩
  ·rintro ⟨k,h1,h2,h3⟩; exact ⟨k - (i + 1),by omega,by omega,by rw [show i + 1 + (k - (i + 1)) = k by omega]; exact h3⟩
 have outer:∃ r,ZV (zo.s0 p ⟨X,Y,V,H⟩ ((LN V H).map ZbJ)) big 0 = some r∧(r = .inr ()↔∃ i k,i < k∧k < (LN V H).length∧P i k = true):=by
  have hdec:∀ i,∃ b:Bool,(b = true↔∃ k,i < k∧k < (LN V H).length∧P i k = true):=fun i=>⟨@decide (∃ k,i < k∧k < (LN V H).length∧P i k = true) (Classical.propDecidable _),by simp⟩
  obtain ⟨Q,hQ⟩:∃ Q:Nat→Bool,∀ i,(Q i = true↔∃ k,i < k∧k < (LN V H).length∧P i k = true):=⟨fun i=>(hdec i).choose,fun i=>(hdec i).choose_spec⟩
  obtain ⟨r,e1,e2⟩:=Zgt (F:=zo.s0 p ⟨X,Y,V,H⟩ ((LN V H).map ZbJ)) (n:=(LN V H).length) (s:=0) (P:=Q) (by omega) (by omega) (by
   simp only [zo.s0]
   rw [ZF (by rw [n1]; omega)]) (fun i _ hi=>by
   have sp:=ZjA (X:=X) (Y:=Y) oV oH hp (Zbl hi)
   have g2:gi ((LN V H).map ZbJ) i = ZbJ (gi (LN V H) i):=Zdu hi
   obtain ⟨r,r1,r2⟩:=inner i hi
   simp only [zo.s0,Int.toNat_natCast]
   rw [ZG (by rw [n1]; omega),Z8 (by rw [n1]; omega),g2,sp,Option.bind_some,zM (by omega),Z8 (by rw [n1]; omega),r1,Option.bind_some]
   cases r with
   | inl u =>
    rw [if_neg]
    intro q
    have:=r2.2 ((hQ i).1 q)
    cases this
   | inr u =>
    rw [if_pos ((hQ i).2 (r2.1 rfl))])
  refine ⟨r,e1,e2.trans ⟨?_,?_⟩⟩
  ·rintro ⟨i,_,h1,h2⟩
   obtain ⟨k,k1,k2,k3⟩:=(hQ i).1 h2
   exact ⟨i,k,k1,k2,k3⟩
  ·rintro ⟨i,k,k1,k2,k3⟩
   exact ⟨i,by omega,by omega,(hQ i).2 ⟨k,k1,k2,k3⟩⟩
 obtain ⟨r,a1,a2⟩:=outer
 have c1:zo l p = some r.isRight:=by
  unfold zo
  have sl:ZbT l = some ((LN V H).map ZbJ,0):=by
   unfold ZbT
   rw [hs,Option.bind_some]
   dsimp only
   rw [Zam rfl,ZlC (by omega) (by omega),Option.bind_some]
  rw [hs,Option.bind_some]
  dsimp only
  rw [sl,Option.bind_some]
  dsimp only
  rw [a1,Option.bind_some]
  cases r <;> rfl
 refine ⟨_,c1,?_⟩
 have e:r.isRight = true↔r = .inr ():=by cases r <;> simp
 rw [e,a2,hP,hMs]
theorem Zmf {V H:List (List Int)}:(LN V H).Nodup:=by
 unfold LN LNo
 rw [List.nodup_append]
 have one:∀ (b:Bool) (L:List (List Int)) n,(((List.range n).filter fun i=>decide (1 < (gi L i).length)).map fun i=>(b,i)).Nodup:=by
  intro b L n
  refine List.pairwise_map.2 ((List.Pairwise.filter _ List.nodup_range).imp fun {a c} h e=>h (congrArg Prod.snd e))
 refine ⟨one _ _ _,one _ _ _,fun a ha b hb e=>?_⟩
 obtain ⟨i,_,rfl⟩:=List.mem_map.1 ha
 obtain ⟨j,_,rfl⟩:=List.mem_map.1 hb
 exact absurd (congrArg Prod.fst e) (by simp)
theorem Ziq {V H:List (List Int)} {a:Bool × Nat}:a∈LN V H↔a.2 < (if a.1 = true then V else H).length∧1 < (gi (if a.1 = true then V else H) a.2).length:=by
 unfold LN LNo
 rw [List.mem_append,List.mem_map,List.mem_map]
 constructor
 ·rintro (⟨i,hi,rfl⟩ | ⟨i,hi,rfl⟩)
  ·have:=List.mem_filter.1 hi
   exact ⟨List.mem_range.1 this.1,by simpa using this.2⟩
  ·have:=List.mem_filter.1 hi
   exact ⟨List.mem_range.1 this.1,by simpa using this.2⟩
 ·rintro ⟨h1,h2⟩
  obtain ⟨b,i⟩:=a
  cases b with
  | true=>exact .inl ⟨i,List.mem_filter.2 ⟨List.mem_range.2 h1,by simpa using h2⟩,rfl⟩
  | false=>exact .inr ⟨i,List.mem_filter.2 ⟨List.mem_range.2 h1,by simpa using h2⟩,rfl⟩
def Crs (V H:List (List Int)) (p:List Ze):Prop:=∃ a b,a∈LN V H∧b∈LN V H∧a≠b∧Zb7 (Zcj V H p a) (Zck V H p a) (Zcj V H p b) (Zck V H p b) = false∧shc V H a b = false
theorem Zi9 {a b c d:Ze}:Zb7 a b c d = Zb7 c d a b:=by
 unfold Zb7
 cases decide (b.X < c.X) <;> cases decide (d.X < a.X) <;> cases decide (b.Y < c.Y) <;> cases decide (d.Y < a.Y) <;> rfl
theorem ZkL {V H:List (List Int)} {a b:Bool × Nat}:shc V H a b = shc V H b a:=by
 unfold shc
 rw [Bool.eq_iff_iff,List.any_eq_true,List.any_eq_true]
 constructor <;> rintro ⟨v,h1,h2⟩ <;> exact ⟨v,by simpa using h2,by simpa using h1⟩
theorem ZjS {V H:List (List Int)} {p:List Ze}:(∃ i k,i < k∧k < (LN V H).length∧(!Zb7 (Zcj V H p (gi (LN V H) i)) (Zck V H p (gi (LN V H) i)) (Zcj V H p (gi (LN V H) k)) (Zck V H p (gi (LN V H) k)) && !shc V H (gi (LN V H) i) (gi (LN V H) k)) = true)↔Crs V H p:=by
 have nd:=List.pairwise_iff_getElem.1 (Zmf (V:=V) (H:=H))
 constructor
 ·rintro ⟨i,k,h1,h2,h3⟩
  rw [Bool.and_eq_true,Bool.not_eq_true',Bool.not_eq_true'] at h3
  refine ⟨_,_,Zbl (show i < _ by omega),Zbl h2,?_,h3.1,h3.2⟩
  rw [Za1 (show i < _ by omega),Za1 h2]
  exact nd i k (by omega) h2 h1
 ·rintro ⟨a,b,ha,hb,hne,h1,h2⟩
  obtain ⟨i,hi,rfl⟩:=List.mem_iff_getElem.1 ha
  obtain ⟨k,hk,rfl⟩:=List.mem_iff_getElem.1 hb
  rcases Nat.lt_trichotomy i k with q | q | q
  ·exact ⟨i,k,q,hk,by rw [Za1 hi,Za1 hk,h1,h2]; rfl⟩
  ·subst q; exact absurd rfl hne
  ·refine ⟨k,i,q,hi,?_⟩
   rw [Za1 hi,Za1 hk,Zi9,ZkL,h1,h2]; rfl
theorem ZhI {l:List Za} (hc:Ck l) (hl:l.length≤64) (hA:AllCh l 1∧AllCh l 0) {X Y:List Int} {V H:List (List Int)} (cx:CH l 1 X V) (cy:CH l 0 Y H) {p:List Ze} (hp:p.length = l.length) (hn:Zed p):∃ e,Zah l p = some e∧((Zep l≠0∧e = Zep l)∨(Zep l = 0∧(¬ (∀ v,v < l.length→okE l p v 0∧okE l p v 1)∧e = 15∨(∀ v,v < l.length→okE l p v 0∧okE l p v 1)∧(Crs V H p∧e = 14∨¬ Crs V H p∧e = 0)))):=by
 obtain ⟨X',Y',V',H',s1,cx',cy'⟩:=ZfH (l:=l) (by omega) (ZcQ.2 ⟨by omega,hc⟩) hA
 obtain ⟨rfl,rfl⟩:=cx.same hc (by omega) cx'
 obtain ⟨rfl,rfl⟩:=cy.same hc (by omega) cy'
 unfold Zah
 rw [ZkC (by omega),Option.bind_some]
 by_cases e:Zep l = 0
 ·rw [Zam e,Zk8 hc hl hp hn]
  by_cases st:∀ v,v < l.length→okE l p v 0∧okE l p v 1
  ·obtain ⟨b,k1,k3⟩:=Zk3 hc hl cx cy hp s1
   rw [if_pos st,Option.bind_some]
   dsimp only
   rw [Zam rfl,k1,Option.bind_some]
   rw [ZjS] at k3
   cases b with
   | true=>exact ⟨14,rfl,.inr ⟨e,.inr ⟨st,.inl ⟨k3.1 rfl,rfl⟩⟩⟩⟩
   | false=>exact ⟨0,rfl,.inr ⟨e,.inr ⟨st,.inr ⟨fun q=>(by have:=k3.2 q; cases this),rfl⟩⟩⟩⟩
  ·rw [if_neg st,Option.bind_some]
   exact ⟨15,rfl,.inr ⟨e,.inl ⟨st,rfl⟩⟩⟩
 ·rw [ZaP e]
  exact ⟨_,rfl,.inl ⟨e,rfl⟩⟩
/-! Moved and stretched. -/
theorem Zi7 {k a b:Int} (hk:1≤k) {p q r s:Ze}:Zb7 (mpt k a b p) (mpt k a b q) (mpt k a b r) (mpt k a b s) = Zb7 p q r s:=by
 have m:∀ x y c:Int,decide (k * x + c < k * y + c) = decide (x < y):=by
  intro x y c
  rw [Bool.eq_iff_iff,decide_eq_true_eq,decide_eq_true_eq]
  constructor
  ·intro h
   refine Classical.byContradiction fun hn=>?_
   have:=Int.mul_le_mul_of_nonneg_left (show y≤x by omega) (show 0≤k by omega)
   omega
  ·intro h
   have:=Int.mul_lt_mul_of_pos_left h (show 0 < k by omega)
   omega
 unfold Zb7 mpt
 dsimp only
 rw [m,m,m,m]
theorem ZjT {V H:List (List Int)} {n:Nat} (hV:Zh2 n V) (hH:Zh2 n H) {p q:List Ze} {f:Ze→Ze} (hq:∀ v,v < n→gi q v = f (gi p v)) (hf:∀ a b c d,Zb7 (f a) (f b) (f c) (f d) = Zb7 a b c d):Crs V H q↔Crs V H p:=by
 have ends:∀ a,a∈LN V H→Zcj V H q a = f (Zcj V H p a)∧Zck V H q a = f (Zck V H p a):=by
  intro a ha
  have hm:=ZgJ ha
  have hL:Zh2 n (if a.1 = true then V else H):=by split <;> assumption
  unfold Zcj Zck
  generalize (if a.1 = true then V else H) = L at *
  have h1:=hL.ne a.2 hm
  have h2:=hL.lt a.2 hm 0 h1.1
  have h3:=hL.lt a.2 hm ((gi L a.2).length - 1) (by omega)
  exact ⟨hq _ (by omega),hq _ (by omega)⟩
 constructor
 ·rintro ⟨a,b,ha,hb,hne,h1,h2⟩
  refine ⟨a,b,ha,hb,hne,?_,h2⟩
  rw [(ends a ha).1,(ends a ha).2,(ends b hb).1,(ends b hb).2,hf] at h1
  exact h1
 ·rintro ⟨a,b,ha,hb,hne,h1,h2⟩
  refine ⟨a,b,ha,hb,hne,?_,h2⟩
  rw [(ends a ha).1,(ends a ha).2,(ends b hb).1,(ends b hb).2,hf]
  exact h1
theorem ZjP {k a b:Int} (hk:1≤k) {d:Nat} {p q:Ze}:strt d (mpt k a b p) (mpt k a b q)↔strt d p q:=by
 have lt:∀ x y c:Int,k * x + c < k * y + c↔x < y:=by
  intro x y c
  constructor
  ·intro h
   refine Classical.byContradiction fun hn=>?_
   have:=Int.mul_le_mul_of_nonneg_left (show y≤x by omega) (show 0≤k by omega)
   omega
  ·intro h
   have:=Int.mul_lt_mul_of_pos_left h (show 0 < k by omega)
   omega
 have eq:∀ x y c:Int,k * x + c = k * y + c↔x = y:=by
  intro x y c
  constructor
  ·intro h
   exact Int.eq_of_mul_eq_mul_left (show k≠0 by omega) (by omega)
  ·intro h; rw [h]
 unfold strt mpt
 dsimp only
 by_cases z:d = 0
 ·rw [if_pos z,if_pos z,eq,lt]
 ·rw [if_neg z,if_neg z,eq,lt]
/-! Turned. -/
def rtp (p:Ze):Ze:=⟨-p.Y,p.X⟩
theorem ZkI {l:List Za} (hc:Ck l) {p q:List Ze} (hq:∀ v,v < l.length→gi q v = rtp (gi p v)):(∀ v,v < l.length→okE (trn l) q v 0∧okE (trn l) q v 1)↔∀ v,v < l.length→okE l p v 0∧okE l p v 1:=by
 have n0:∀ v,v < l.length→nx (trn l) v 0 = nx l v 3:=fun v hv=>(ZbR hv (by omega)).1
 have n1:∀ v,v < l.length→nx (trn l) v 1 = nx l v 0:=fun v hv=>(ZbR hv (by omega)).1
 have e1:∀ v,v < l.length→(okE (trn l) q v 1↔okE l p v 0):=by
  intro v hv
  have hlt:=hc.lt hv (d:=0) (by omega)
  unfold okE
  rw [n1 v hv]
  by_cases c:nx l v 0 < 0
  ·exact ⟨fun _=>.inl c,fun _=>.inl c⟩
  ·rw [hq v hv,hq _ (by omega)]
   unfold strt rtp
   rw [if_neg (by decide),if_pos rfl]
   dsimp only
   omega
 have e0:∀ v w:Nat,v < l.length→w < l.length→nx l v 3 = w→(okE (trn l) q v 0↔okE l p w 1):=by
  intro v w hv hw e
  have bk:=(hc.back (v:=v) (d:=3) (w:=w) hv (by omega) e).2
  rw [show (3 + 2) % 4 = 1 from rfl] at bk
  unfold okE
  rw [n0 v hv,e,bk,Int.toNat_natCast,Int.toNat_natCast,hq v hv,hq w hw]
  unfold strt rtp
  rw [if_pos rfl,if_neg (by decide)]
  dsimp only
  omega
 constructor
 ·intro h w hw
  refine ⟨(e1 w hw).1 (h w hw).2,?_⟩
  have hlt:=hc.lt hw (d:=1) (by omega)
  by_cases c:nx l w 1 < 0
  ·exact .inl c
  ·have bk:=hc.back (v:=w) (d:=1) (w:=(nx l w 1).toNat) hw (by omega) (by omega)
   exact (e0 _ w bk.1 hw (by rw [show (1 + 2) % 4 = 3 from rfl] at bk; exact bk.2)).1 (h _ bk.1).1
 ·intro h v hv
  refine ⟨?_,(e1 v hv).2 (h v hv).1⟩
  have hlt:=hc.lt hv (d:=3) (by omega)
  by_cases c:nx l v 3 < 0
  ·unfold okE; rw [n0 v hv]; exact .inl c
  ·have bk:=hc.back (v:=v) (d:=3) (w:=(nx l v 3).toNat) hv (by omega) (by omega)
   exact (e0 v _ hv bk.1 (by omega)).2 (h _ bk.1).2
theorem Zh9 {l:List Za} {p:List Ze} (hs:∀ v,v < l.length→okE l p v 0∧okE l p v 1) {d:Nat} (hd:d < 2) {C:List Int} (h:IsCh l d C):∀ k,k < C.length→(if d = 0 then (gi p (gi C k).toNat).Y = (gi p (gi C 0).toNat).Y else (gi p (gi C k).toNat).X = (gi p (gi C 0).toNat).X)
 | 0,_=>by split <;> rfl
 | k + 1,hk=>by
  have ih:=Zh9 hs hd h k (by omega)
  have r:=h.lt k (by omega)
  have r':=h.lt (k + 1) hk
  have e:=h.nxt k hk
  have s:okE l p (gi C k).toNat d:=by
   have:=hs (gi C k).toNat (by omega)
   have dd:d = 0∨d = 1:=by omega
   rcases dd with rfl | rfl
   ·exact this.1
   ·exact this.2
  unfold okE at s
  rw [e] at s
  rcases s with s | s
  ·omega
  ·unfold strt at s
   by_cases z:d = 0
   ·rw [if_pos z] at ih s ⊢; rw [← ih]; exact s.1.symm
   ·rw [if_neg z] at ih s ⊢; rw [← ih]; exact s.1.symm
def flp (a:Bool × Nat):Bool × Nat:=(!a.1,a.2)
theorem Zdr {a:Bool × Nat}:flp (flp a) = a:=by
 unfold flp; simp
theorem Zi8 {a b c d:Ze}:Zb7 ⟨-b.Y,a.X⟩ ⟨-a.Y,b.X⟩ ⟨-d.Y,c.X⟩ ⟨-c.Y,d.X⟩ = Zb7 a b c d:=by
 unfold Zb7
 dsimp only
 rw [Bool.eq_iff_iff]
 simp only [Bool.or_eq_true,decide_eq_true_eq]
 omega
theorem ZjU {l:List Za} (hc:Ck l) (hl:l.length≤1000) {X Y:List Int} {V H:List (List Int)} (cx:CH l 1 X V) (cy:CH l 0 Y H) {p q:List Ze} (hq:∀ v,v < l.length→gi q v = rtp (gi p v)) (hs:∀ v,v < l.length→okE l p v 0∧okE l p v 1):Crs H (V.map List.reverse) q↔Crs V H p:=by
 have oV:=cx.ok hc hl (by omega)
 have oH:=cy.ok hc hl (by omega)
 have gr:∀ i,i < V.length→gi (V.map List.reverse) i = (gi V i).reverse:=fun i hi=>Zdu hi
 have mem:∀ a,flp a∈LN H (V.map List.reverse)↔a∈LN V H:=by
  rintro ⟨b,i⟩
  rw [Ziq,Ziq]
  unfold flp
  cases b with
  | true =>
   simp only [Bool.not_true,Bool.false_eq_true,if_false,if_true,List.length_map]
   constructor
   ·rintro ⟨h1,h2⟩; rw [gr i h1,List.length_reverse] at h2; exact ⟨h1,h2⟩
   ·rintro ⟨h1,h2⟩; exact ⟨h1,by rw [gr i h1,List.length_reverse]; exact h2⟩
  | false=>simp
 have ends:∀ a,a∈LN V H→Zcj H (V.map List.reverse) q (flp a) = ⟨-(Zck V H p a).Y,(Zcj V H p a).X⟩∧Zck H (V.map List.reverse) q (flp a) = ⟨-(Zcj V H p a).Y,(Zck V H p a).X⟩:=by
  rintro ⟨b,i⟩ ha
  have hm:=ZgJ ha
  unfold Zcj Zck flp
  cases b with
  | true =>
   simp only [Bool.not_true,Bool.false_eq_true,if_false,if_true] at hm ⊢
   have h1:=oV.ne i hm
   have h2:=oV.lt i hm 0 h1.1
   have h3:=oV.lt i hm ((gi V i).length - 1) (by omega)
   have c:=Zh9 hs (by omega) (cx.ch i hm) ((gi V i).length - 1) (by omega)
   rw [if_neg (by decide)] at c
   rw [gr i hm,List.length_reverse,Ze2 (by omega),Ze2 (by omega),show (gi V i).length - 1 - 0 = (gi V i).length - 1 by omega,show (gi V i).length - 1 - ((gi V i).length - 1) = 0 by omega,hq _ (by omega),hq _ (by omega)]
   unfold rtp
   exact ⟨by rw [c],by rw [c]⟩
  | false =>
   simp only [Bool.not_false,Bool.false_eq_true,if_false,if_true] at hm ⊢
   have h1:=oH.ne i hm
   have h2:=oH.lt i hm 0 h1.1
   have h3:=oH.lt i hm ((gi H i).length - 1) (by omega)
   have c:=Zh9 hs (by omega) (cy.ch i hm) ((gi H i).length - 1) (by omega)
   rw [if_pos rfl] at c
   rw [hq _ (by omega),hq _ (by omega)]
   unfold rtp
   exact ⟨by rw [c],by rw [c]⟩
 have clm:∀ a,a∈LN V H→∀ v,v∈cl (if (flp a).1 = true then H else V.map List.reverse) ((flp a).2:Int)↔v∈cl (if a.1 = true then V else H) (a.2:Int):=by
  rintro ⟨b,i⟩ ha v
  have hm:=ZgJ ha
  unfold flp cl
  cases b with
  | true =>
   simp only [Bool.not_true,Bool.false_eq_true,if_false,if_true,List.length_map] at hm ⊢
   rw [if_neg (by omega),if_neg (by omega),Int.toNat_natCast,gr i hm,List.mem_reverse]
  | false =>
   simp only [Bool.not_false,Bool.false_eq_true,if_false,if_true]
 have sh:∀ a b,a∈LN V H→b∈LN V H→shc H (V.map List.reverse) (flp a) (flp b) = shc V H a b:=by
  intro a b ha hb
  unfold shc
  rw [Bool.eq_iff_iff,List.any_eq_true,List.any_eq_true]
  constructor
  ·rintro ⟨v,h1,h2⟩
   exact ⟨v,(clm a ha v).1 h1,by rw [decide_eq_true_eq] at h2 ⊢; exact (clm b hb v).1 h2⟩
  ·rintro ⟨v,h1,h2⟩
   exact ⟨v,(clm a ha v).2 h1,by rw [decide_eq_true_eq] at h2 ⊢; exact (clm b hb v).2 h2⟩
 have ap:∀ a b,a∈LN V H→b∈LN V H→Zb7 (Zcj H (V.map List.reverse) q (flp a)) (Zck H (V.map List.reverse) q (flp a)) (Zcj H (V.map List.reverse) q (flp b)) (Zck H (V.map List.reverse) q (flp b)) = Zb7 (Zcj V H p a) (Zck V H p a) (Zcj V H p b) (Zck V H p b):=by
  intro a b ha hb
  rw [(ends a ha).1,(ends a ha).2,(ends b hb).1,(ends b hb).2]
  exact Zi8
 constructor
 ·rintro ⟨a,b,ha,hb,hne,h1,h2⟩
  have ha':flp a∈LN V H:=(mem (flp a)).1 (by rw [Zdr]; exact ha)
  have hb':flp b∈LN V H:=(mem (flp b)).1 (by rw [Zdr]; exact hb)
  have a1:=ap _ _ ha' hb'
  have s1:=sh _ _ ha' hb'
  rw [Zdr,Zdr] at a1 s1
  exact ⟨flp a,flp b,ha',hb',fun e=>hne (by rw [← Zdr (a:=a),e,Zdr]),by rw [← a1]; exact h1,by rw [← s1]; exact h2⟩
 ·rintro ⟨a,b,ha,hb,hne,h1,h2⟩
  exact ⟨flp a,flp b,(mem a).2 ha,(mem b).2 hb,fun e=>hne (by rw [← Zdr (a:=a),e,Zdr]),by rw [ap a b ha hb]; exact h1,by rw [sh a b ha hb]; exact h2⟩
theorem ZhJ {p:List Ze} (h:Zed p) (hl:p.length≤1000):z2 p = some ((List.range p.length).map fun i=>rtp (gi p i)):=by
 unfold z2
 rw [Zgi (x:=(List.range p.length).map fun i=>rtp (gi p i))]
 refine Zbx (fun n:Nat=>((List.range n).map fun i=>rtp (gi p i),(n:Int))) (n:=p.length) (ZaI (by omega)) rfl (fun n hn=>?_) ?_
 ·have:=h n hn
  simp only [z2.s0]
  rw [ZG (by omega),Z8 (by omega),Int.toNat_natCast,zM (by omega),Z8 (by simp; omega),zM (by omega),List.range_succ,List.map_append]
  rfl
 ·simp only [z2.s0]
  rw [ZF (by omega)]
theorem Zin {k x:Int} (hk:1≤k∧k≤8) (hx:-10≤x∧x≤20):-80≤k * x∧k * x≤160:=by
 have:k = 1∨k = 2∨k = 3∨k = 4∨k = 5∨k = 6∨k = 7∨k = 8:=by omega
 rcases this with rfl | rfl | rfl | rfl | rfl | rfl | rfl | rfl <;> omega
theorem ZlK {pts:List Ze} (h:Pts pts) (hl:pts.length≤1000) {raw:List Ze}:∃ r,ZV (ZO.s0 raw pts) big (pts,0) = some r∧r.length = pts.length∧∀ i,i < pts.length→-10≤(gi r i).X∧(gi r i).X≤20∧-10≤(gi r i).Y∧(gi r i).Y≤20:=by
 refine Zce (fun (k:Nat) (s:List Ze × Int)=>(s.1.length = pts.length∧∀ i,i < pts.length→-10≤(gi s.1 i).X∧(gi s.1 i).X≤20∧-10≤(gi s.1 i).Y∧(gi s.1 i).Y≤20∧(k≤i→gi s.1 i = gi pts i))∧s.2 = k) (n:=pts.length) (ZaI (by omega)) ⟨⟨rfl,fun i hi=>by have:=h.b i hi; dsimp only; exact ⟨by omega,by omega,by omega,by omega,fun _=>rfl⟩⟩,rfl⟩ ?_ ?_
 ·rintro k ⟨r,j⟩ hk ⟨⟨h1,h2⟩,h3⟩
  dsimp only at h1 h2 h3 ⊢
  subst h3
  have b:=h.b k hk
  have g:=(h2 k hk).2.2.2.2 (Nat.le_refl _)
  have t1:=Zld (x:=(gi raw k).X)
  have t2:=Zld (x:=(gi raw k).Y)
  simp only [ZO.s0,Int.toNat_natCast]
  rw [ZG (by omega)]
  by_cases c:(k:Int) < (raw.length:Int)
  ·have gs:∀ A:Ze,gi (r.set k A) k = A:=fun A=>by rw [ZbE (by omega),if_pos rfl]
   rw [ZG c,Z8 (by omega),Z8 (by omega),zM (by rw [g]; omega),Z8 (by rw [List.length_set]; omega),zM (by rw [gs,g]; dsimp only; omega),zM (by omega)]
   refine ⟨_,rfl,⟨by simp [h1],fun i hi=>?_⟩,by dsimp only; omega⟩
   dsimp only
   rw [ZbE (by rw [List.length_set]; omega)]
   by_cases q:i = k
   ·rw [if_pos q,gs,g]
    dsimp only
    exact ⟨by omega,by omega,by omega,by omega,fun hh=>by omega⟩
   ·rw [if_neg q,ZbE (by omega),if_neg q]
    have:=h2 i hi
    exact ⟨this.1,this.2.1,this.2.2.1,this.2.2.2.1,fun hh=>this.2.2.2.2 (by omega)⟩
  ·rw [ZF c,zM (by omega)]
   refine ⟨_,rfl,⟨h1,fun i hi=>?_⟩,by dsimp only; omega⟩
   have:=h2 i hi
   exact ⟨this.1,this.2.1,this.2.2.1,this.2.2.2.1,fun hh=>this.2.2.2.2 (by omega)⟩
 ·rintro ⟨r,j⟩ ⟨⟨h1,h2⟩,h3⟩
  dsimp only at h1 h2 h3 ⊢
  subst h3
  simp only [ZO.s0]
  rw [ZF (by omega)]
  exact ⟨_,rfl,h1,fun i hi=>by have:=h2 i hi; exact ⟨this.1,this.2.1,this.2.2.1,this.2.2.2.1⟩⟩
theorem ZmE {p:List Ze} (hl:p.length≤1000) (hp:∀ i,i < p.length→-10≤(gi p i).X∧(gi p i).X≤20∧-10≤(gi p i).Y∧(gi p i).Y≤20) {by_:A3 Int} (i0:-128≤by_.get 0∧by_.get 0≤127) (i1:-128≤by_.get 1∧by_.get 1≤127):∃ r,ZV (ZO.s1 by_ p) big (p,0) = some r∧(r.length = p.length∧∀ v,v < p.length→gi r v = mpt (1 + Zp .i8 (by_.get 2) 7) (by_.get 0) (by_.get 1) (gi p v)):=by
 have hk:=Zmy (x:=by_.get 2)
 refine Zce (fun (k:Nat) (s:List Ze × Int)=>(s.1.length = p.length∧∀ v,v < p.length→gi s.1 v = if v < k then mpt (1 + Zp .i8 (by_.get 2) 7) (by_.get 0) (by_.get 1) (gi p v) else gi p v)∧s.2 = k) (n:=p.length) (ZaI (by omega)) ⟨⟨rfl,fun v _=>by rw [if_neg (by omega)]⟩,rfl⟩ ?_ ?_
 ·rintro k ⟨r,j⟩ hk' ⟨⟨h1,h2⟩,h3⟩
  dsimp only at h1 h2 h3 ⊢
  subst h3
  have g:=h2 k hk'
  rw [if_neg (by omega)] at g
  have b:=hp k hk'
  have k1:=Zin (k:=1 + Zp .i8 (by_.get 2) 7) (by omega) ⟨b.1,b.2.1⟩
  have k2:=Zin (k:=1 + Zp .i8 (by_.get 2) 7) (by omega) ⟨b.2.2.1,b.2.2.2⟩
  simp only [ZO.s1]
  rw [ZG (by omega),Z8 (by omega),Int.toNat_natCast,g,zM (by omega),ZbA (by omega),zM (by omega),zM (by omega),ZbA (by omega),zM (by omega),zM (by omega)]
  refine ⟨_,rfl,⟨by dsimp only; rw [List.length_set]; exact h1,fun v hv=>?_⟩,by dsimp only; omega⟩
  dsimp only
  rw [ZbE (by omega)]
  by_cases c:v = k
  ·rw [if_pos (by omega),if_pos (by omega),c]; rfl
  ·rw [if_neg (by omega),h2 v hv]
   by_cases c2:v < k
   ·rw [if_pos c2,if_pos (by omega)]
   ·rw [if_neg c2,if_neg (by omega)]
 ·rintro ⟨r,j⟩ ⟨⟨h1,h2⟩,h3⟩
  dsimp only at h1 h2 h3 ⊢
  subst h3
  simp only [ZO.s1]
  rw [ZF (by omega)]
  exact ⟨_,rfl,h1,fun v hv=>by rw [h2 v hv,if_pos hv]⟩
theorem Zlc {e f:Int} {a:Prop} {x y z:Prop} {n:Int} (h1:(n≠0∧e = n)∨(n = 0∧(¬ x∧e = 15∨x∧(y∧e = 14∨¬ y∧e = 0)))) {x' y':Prop} {n':Int} (h2:(n'≠0∧f = n')∨(n' = 0∧(¬ x'∧f = 15∨x'∧(y'∧f = 14∨¬ y'∧f = 0)))) (hn:n' = n) (hx:x'↔x) (hy:x→(y'↔y)):f = e:=by
 subst hn
 rw [hx] at h2
 rcases h1 with ⟨a,b⟩ | ⟨a,b⟩ <;> rcases h2 with ⟨c,d⟩ | ⟨c,d⟩
 ·rw [b,d]
 ·exact absurd c a
 ·exact absurd a c
 ·rcases b with ⟨b1,b2⟩ | ⟨b1,b2⟩ <;> rcases d with ⟨d1,d2⟩ | ⟨d1,d2⟩
  ·rw [b2,d2]
  ·exact absurd d1 b1
  ·exact absurd b1 d1
  ·rw [hy b1] at d2
   rcases b2 with ⟨p1,p2⟩ | ⟨p1,p2⟩ <;> rcases d2 with ⟨q1,q2⟩ | ⟨q1,q2⟩
   ·rw [p2,q2]
   ·exact absurd p1 q1
   ·exact absurd q1 p1
   ·rw [p2,q2]
theorem Zfi (z:zj) (raw:List Ze) (by_:A3 Int) (m1:z.At.length≤Go.maxLen) (b1:∀ y∈z.At,Zgh y) (m2:z.Bits.length≤Go.maxLen) (b2:∀ y∈z.Bits,Zgh y) (m3:z.Own.length≤Go.maxLen) (b3:∀ y∈z.Own,ZhY y) (mr:raw.length≤Go.maxLen) (br:∀ y∈raw,Zdb y) (hby:Zha by_):ZO z raw by_ = some true:=by
 obtain ⟨l,pts,e1,hM,hlen⟩:=Zm9 (z:=z) (most:=14) (okZ m1 b1 b3) (by omega)
 have hpl:=hM.len
 have hc:=hM.ck
 have hl:l.length≤64:=by omega
 have hk:=Zmy (x:=by_.get 2)
 have i0:-128≤by_.get 0∧by_.get 0≤127:=hby.1.i8
 have i1:-128≤by_.get 1∧by_.get 1≤127:=hby.2.1.i8
 obtain ⟨p,w1,w2,w3⟩:=ZlK hM.pts (by omega) (raw:=raw)
 have w3':∀ i,i < p.length→-10≤(gi p i).X∧(gi p i).X≤20∧-10≤(gi p i).Y∧(gi p i).Y≤20:=fun i hi=>w3 i (by omega)
 obtain ⟨q,v1,v2,v3⟩:=ZmE (p:=p) (by omega) w3' i0 i1
 have a1:AllCh l 1:=hM.allCh (by omega)
 have a0:AllCh l 0:=hM.allCh (by omega)
 have t1:AllCh (trn l) 1:=fun v hv=>by
  obtain ⟨C,hC,hm⟩:=a0 v (by rw [ZbH] at hv; omega)
  exact ⟨C,Zi3.2 hC,hm⟩
 have t0:AllCh (trn l) 0:=fun v hv=>by
  obtain ⟨C,hC,hm⟩:=a1 v (by rw [ZbH] at hv; omega)
  exact ⟨C.reverse,Zi2.2 (hC.rev hc (by omega)),by simpa using hm⟩
 have hL:=ZbH (l:=l)
 obtain ⟨X,Y,V,H,s1,cx,cy⟩:=ZfH (l:=l) (by omega) (ZcQ.2 ⟨by omega,hc⟩) ⟨a1,a0⟩
 obtain ⟨X',Y',V',H',s3,cx',cy'⟩:=ZfH (l:=trn l) (by omega) (ZcQ.2 ⟨by omega,hc.turn⟩) ⟨t1,t0⟩
 have q1:=cy.eq cx' hL.symm id (fun C C' v c1 c2 h1 h2=>(c1.uniq hc (by omega) (Zi3.1 c2) h1 h2).symm) (fun C v=>Iff.rfl)
 have q0:=cx.eq cy' hL.symm List.reverse (fun C C' v c1 c2 h1 h2=>((c1.rev hc (by omega)).uniq hc (by omega) (Zi2.1 c2) (by simpa using h1) h2).symm) (fun C v=>List.mem_reverse)
 rw [List.map_id] at q1
 obtain ⟨rfl,rfl⟩:=q1
 obtain ⟨rfl,rfl⟩:=q0
 have nearp:Zed p:=fun i hi=>by have:=w3' i hi; omega
 have nearq:Zed q:=fun i hi=>by
  have b:=w3' i (by omega)
  have k1:=Zin (k:=1 + Zp .i8 (by_.get 2) 7) (by omega) ⟨b.1,b.2.1⟩
  have k2:=Zin (k:=1 + Zp .i8 (by_.get 2) 7) (by omega) ⟨b.2.2.1,b.2.2.2⟩
  rw [v3 i (by omega)]
  unfold mpt
  dsimp only
  omega
 have gr:∀ v,v < l.length→gi ((List.range p.length).map fun i=>rtp (gi p i)) v = rtp (gi p v):=fun v hv=>Zc1 (by omega)
 have nearr:Zed ((List.range p.length).map fun i=>rtp (gi p i)):=fun i hi=>by
  have hi':i < p.length:=by simpa using hi
  have b:=w3' i hi'
  rw [gr i (by omega)]
  unfold rtp
  dsimp only
  omega
 obtain ⟨e,E1,E2⟩:=ZhI hc hl ⟨a1,a0⟩ cx cy (p:=p) (by omega) nearp
 obtain ⟨f,F1,F2⟩:=ZhI hc hl ⟨a1,a0⟩ cx cy (p:=q) (by omega) nearq
 obtain ⟨g,G1,G2⟩:=ZhI hc.turn (by omega) ⟨t1,t0⟩ cx' cy' (p:=(List.range p.length).map fun i=>rtp (gi p i)) (by simp; omega) nearr
 have okq:(∀ v,v < l.length→okE l q v 0∧okE l q v 1)↔∀ v,v < l.length→okE l p v 0∧okE l p v 1:=by
  have one:∀ v d,v < l.length→d < 4→(okE l q v d↔okE l p v d):=by
   intro v d hv hd
   have hlt:=hc.lt hv hd
   unfold okE
   by_cases c:nx l v d < 0
   ·exact ⟨fun _=>.inl c,fun _=>.inl c⟩
   ·rw [v3 v (by omega),v3 _ (by omega),ZjP (by omega)]
  exact ⟨fun h v hv=>⟨(one v 0 hv (by omega)).1 (h v hv).1,(one v 1 hv (by omega)).1 (h v hv).2⟩,fun h v hv=>⟨(one v 0 hv (by omega)).2 (h v hv).1,(one v 1 hv (by omega)).2 (h v hv).2⟩⟩
 have fe:f = e:=Zlc (a:=True) (z:=True) E2 F2 rfl okq fun _=>ZjT (cx.ok hc (by omega) (by omega)) (cy.ok hc (by omega) (by omega)) (f:=mpt (1 + Zp .i8 (by_.get 2) 7) (by_.get 0) (by_.get 1)) (fun v hv=>v3 v (by omega)) (fun a b c d=>Zi7 (by omega))
 rw [hL] at G2
 have ge:g = e:=Zlc (a:=True) (z:=True) E2 G2 (ZjR hc (by omega)) (ZkI hc gr) fun st=>ZjU hc (by omega) cx cy gr st
 unfold ZO
 rw [e1,Option.bind_some]
 dsimp only
 rw [w1,Option.bind_some,E1,Option.bind_some,ZbA (by omega),zM (by omega)]
 unfold ZaQ
 rw [Z8 (by omega),Option.bind_some,v1,Option.bind_some,Zhk,Option.bind_some,if_pos rfl,F1,Option.bind_some,fe,ZaV rfl,Option.bind_some,if_pos rfl,ZkB (by omega),Option.bind_some,ZhJ nearp (by omega),Option.bind_some,G1,Option.bind_some,ge,ZaV rfl,Option.bind_some]
end Mu
