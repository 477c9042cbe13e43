/- The law, plainly: what is worked out. -/
import Derived.Test.YtdefkboekpjiiaaMuV
import Derived.Test.YtdefkboekpjiiaaMuDf
/- Layer 10: cells,made of places. -/
set_option linter.unusedVariables false
set_option linter.unusedSimpArgs false
set_option maxRecDepth 10000
namespace Mu

def nx (l:List Zc) (v d:Nat):Int:=((gi l v).Next).get (d:Int)
def ow (l:List Zc) (v d:Nat):Int:=((gi l v).Owner).get (d:Int)
theorem ZdG {α:Type} {x:A4 α} {i j:Nat} {v:α} (hi:i < 4) (hj:j < 4):(x.set (i:Int) v).get (j:Int) = if j = i then v else x.get (j:Int):=by
 match i,j,hi,hj with
 | 0,0,_,_ | 0,1,_,_ | 0,2,_,_ | 0,3,_,_ | 1,0,_,_ | 1,1,_,_ | 1,2,_,_ | 1,3,_,_ | 2,0,_,_ | 2,1,_,_ | 2,2,_,_ | 2,3,_,_ | 3,0,_,_ | 3,1,_,_ | 3,2,_,_ | 3,3,_,_=>rfl
def noC:Zc:=⟨⟨-1,-1,-1,-1⟩,⟨0,0,0,0⟩⟩
theorem Ze9 {α:Type} [Inhabited α] {n i:Nat} {f:Nat→α} (h:i < n):gi ((List.range n).map f) i = f i:=by
 rw [Zb6 (by simpa using h)]; simp
theorem Zeh {α:Type} [Inhabited α] {l m:List α} (h:l.length = m.length) (hg:∀ i,i < l.length→gi l i = gi m i):l = m:=by
 apply List.ext_getElem h
 intro i h1 h2
 have:=hg i h1
 rw [Zb6 h1,Zb6 h2] at this
 exact this

/-! New -/
theorem Zjz {n:Nat} (hn:n≤1000000000):ZJ n = some (List.replicate n noC):=by
 unfold ZJ
 rw [ZA (by omega),Int.toNat_natCast,ZfX (x:=List.replicate n noC)]
 refine ZbH (fun i:Nat=>(List.replicate i noC++List.replicate (n - i) ⟨⟨0,0,0,0⟩,⟨0,0,0,0⟩⟩,(i:Int))) (n:=n) (Zbc (by omega)) (by simp) (fun i hi=>?_) ?_
 ·have e1:List.replicate (n - i) (⟨⟨0,0,0,0⟩,⟨0,0,0,0⟩⟩:Zc) = ⟨⟨0,0,0,0⟩,⟨0,0,0,0⟩⟩ :: List.replicate (n - (i + 1)) ⟨⟨0,0,0,0⟩,⟨0,0,0,0⟩⟩:=by
   rw [show n - i = n - (i + 1) + 1 by omega,List.replicate_succ]
  have e2:List.replicate (i + 1) noC = List.replicate i noC++[noC]:=by rw [List.replicate_succ']
  have inner:ze (ZJ.s1 i) big (List.replicate i noC++List.replicate (n - i) ⟨⟨0,0,0,0⟩,⟨0,0,0,0⟩⟩,0) = some (List.replicate (i + 1) noC++List.replicate (n - (i + 1)) ⟨⟨0,0,0,0⟩,⟨0,0,0,0⟩⟩):=by
   rw [e1,e2]
   generalize List.replicate (n - (i + 1)) (⟨⟨0,0,0,0⟩,⟨0,0,0,0⟩⟩:Zc) = r
   refine ZbH (fun k:Nat=>(List.replicate i noC++(⟨⟨if 0 < k then -1 else 0,if 1 < k then -1 else 0,if 2 < k then -1 else 0,if 3 < k then -1 else 0⟩,⟨0,0,0,0⟩⟩:Zc) :: r,(k:Int))) (n:=4) (Zbc (by omega)) rfl (fun k hk=>?_) ?_
   ·have hlen:(List.replicate i noC).length = i:=by simp
    have g:∀ c:Zc,gi (List.replicate i noC++c :: r) i = c:=by
     intro c
     have:=Zce (l:=List.replicate i noC) (m:=c :: r) (i:=0)
     rw [hlen,Nat.add_zero] at this
     rw [this]; rfl
    have st:∀ c d:Zc,(List.replicate i noC++c :: r).set i d = List.replicate i noC++d :: r:=by
     intro c d
     rw [List.set_append_right _ _ (by simp)]
     simp
    simp only [ZJ.s1]
    rw [ZI (by omega),ZA (by simp; omega),ZA (by omega),ZA (by omega),Int.toNat_natCast,g,st]
    match k,hk with
    | 0,_ | 1,_ | 2,_ | 3,_=>rfl
   ·simp only [ZJ.s1]
    rw [ZH (by omega)]
    simp [noC]
  simp only [ZJ.s0]
  rw [ZI (by omega),inner,Option.bind_some,ZA (by omega)]
  rfl
 ·simp only [ZJ.s0]
  rw [ZH (by omega)]
  simp

/-! The nearest -/
def Zfe (at_:List Z8) (i d k:Nat):Prop:=k < at_.length∧if d = 0 then (gi at_ k).Y = (gi at_ i).Y∧(gi at_ i).X < (gi at_ k).X else (gi at_ k).X = (gi at_ i).X∧(gi at_ i).Y < (gi at_ k).Y
def Zcf (at_:List Z8) (d j k:Nat):Prop:=if d = 0 then (gi at_ j).X≤(gi at_ k).X else (gi at_ j).Y≤(gi at_ k).Y
def Zcs (at_:List Z8) (i d n:Nat) (w:Int):Prop:=(w = -1∧∀ k,k < n→¬ Zfe at_ i d k)∨∃ j:Nat,w = j∧j < n∧Zfe at_ i d j∧∀ k,k < n→Zfe at_ i d k→Zcf at_ d j k
instance {at_ i d k}:Decidable (Zfe at_ i d k):=by unfold Zfe; infer_instance
instance {at_ d j k}:Decidable (Zcf at_ d j k):=by unfold Zcf; infer_instance
theorem Zhj {at_:List Z8} {i d n:Nat} (hl:at_.length≤1000) (hi:i < at_.length) (hd:d < 2) (hn:n < at_.length) {w:Int} (hw:Zcs at_ i d n w):∃ w',Zcs at_ i d (n + 1) w'∧ZX.s0 at_ i d (w,n) = some (.inl (w',(n:Int) + 1)):=by
 have hlow:¬ Zfe at_ i d n→Zcs at_ i d (n + 1) w:=by
  intro hc
  rcases hw with ⟨rfl,h⟩ | ⟨j,rfl,h1,h2,h3⟩
  ·refine .inl ⟨rfl,fun k hk=>?_⟩
   rcases Nat.lt_succ_iff_lt_or_eq.1 hk with h' | rfl
   ·exact h k h'
   ·exact hc
  ·refine .inr ⟨j,rfl,by omega,h2,fun k hk hk2=>?_⟩
   rcases Nat.lt_succ_iff_lt_or_eq.1 hk with h' | rfl
   ·exact h3 k h' hk2
   ·exact absurd hk2 hc
 have hnew:w = -1→Zfe at_ i d n→Zcs at_ i d (n + 1) n:=by
  intro hw1 hc
  rcases hw with ⟨_,h⟩ | ⟨j,h0,_⟩
  ·refine .inr ⟨n,rfl,by omega,hc,fun k hk hk2=>?_⟩
   rcases Nat.lt_succ_iff_lt_or_eq.1 hk with h' | rfl
   ·exact absurd hk2 (h k h')
   ·unfold Zcf; split <;> omega
  ·omega
 have hkeep:∀ j:Nat,w = j→Zcf at_ d j n→Zcs at_ i d (n + 1) w:=by
  intro j hj hc
  rcases hw with ⟨h0,_⟩ | ⟨j',h0,h1,h2,h3⟩
  ·omega
  ·have:j = j':=by omega
   subst this
   refine .inr ⟨j,h0,by omega,h2,fun k hk hk2=>?_⟩
   rcases Nat.lt_succ_iff_lt_or_eq.1 hk with h' | rfl
   ·exact h3 k h' hk2
   ·exact hc
 have hturn:∀ j:Nat,w = j→¬ Zcf at_ d j n→Zfe at_ i d n→Zcs at_ i d (n + 1) n:=by
  intro j hj hc hcand
  rcases hw with ⟨h0,_⟩ | ⟨j',h0,h1,h2,h3⟩
  ·omega
  ·have:j = j':=by omega
   subst this
   refine .inr ⟨n,rfl,by omega,hcand,fun k hk hk2=>?_⟩
   rcases Nat.lt_succ_iff_lt_or_eq.1 hk with h' | rfl
   ·have h4:=h3 k h' hk2
    unfold Zcf at h4 hc ⊢
    by_cases z:d = 0
    ·rw [if_pos z] at *; omega
    ·rw [if_neg z] at *; omega
   ·unfold Zcf; split <;> omega
 have hwc:w = -1∨∃ j:Nat,w = j∧j < n:=by
  rcases hw with ⟨h,_⟩ | ⟨j,h,h2,_⟩
  ·exact .inl h
  ·exact .inr ⟨j,h,h2⟩
 have hd':d = 0∨d = 1:=by omega
 rcases hd' with rfl | rfl
 ·have z:((0:Nat):Int) = 0:=rfl
  by_cases hY:(gi at_ n).Y = (gi at_ i).Y
  ·by_cases hX:(gi at_ i).X < (gi at_ n).X
   ·have hc:Zfe at_ i 0 n:=⟨hn,by rw [if_pos rfl]; exact ⟨hY,hX⟩⟩
    rcases hwc with rfl | ⟨j,rfl,hj⟩
    ·refine ⟨n,hnew rfl hc,?_⟩
     simp (disch:=omega) only [ZX.s0,z,hY,ZA,ZbD,Zd9,ZI,ZH,ZaK,Za1,Zb0,Zb3,Option.bind_some,Int.toNat_natCast,List.length_append,List.length_cons,List.length_nil,Nat.zero_add,if_true,if_false,Bool.false_eq_true,Bool.not_true,Bool.not_false,Bool.true_and,Bool.false_and,Bool.and_true,Bool.and_false,Bool.true_or,Bool.false_or,Bool.or_true,Bool.or_false,decide_true,decide_false,Bool.not_eq_true,Bool.decide_eq_true,Int.reduceToNat]
     try simp (disch:=omega) only [ZA,ZbD,Zd9,ZI,ZH,ZaK,Za1,Zb0,Zb3,Option.bind_some,Int.toNat_natCast,List.length_append,List.length_cons,List.length_nil,Nat.zero_add,if_true,if_false,Bool.false_eq_true,Bool.not_true,Bool.not_false,Bool.true_and,Bool.false_and,Bool.and_true,Bool.and_false,Bool.true_or,Bool.false_or,Bool.or_true,Bool.or_false,decide_true,decide_false,Bool.not_eq_true,Bool.decide_eq_true,Int.reduceToNat]
    ·by_cases hcl:Zcf at_ 0 j n
     ·refine ⟨j,hkeep j rfl hcl,?_⟩
      have hcl':(gi at_ j).X≤(gi at_ n).X:=by simpa [Zcf] using hcl
      simp (disch:=omega) only [ZX.s0,z,hY,ZA,ZbD,Zd9,ZI,ZH,ZaK,Za1,Zb0,Zb3,Option.bind_some,Int.toNat_natCast,List.length_append,List.length_cons,List.length_nil,Nat.zero_add,if_true,if_false,Bool.false_eq_true,Bool.not_true,Bool.not_false,Bool.true_and,Bool.false_and,Bool.and_true,Bool.and_false,Bool.true_or,Bool.false_or,Bool.or_true,Bool.or_false,decide_true,decide_false,Bool.not_eq_true,Bool.decide_eq_true,Int.reduceToNat]
      try simp (disch:=omega) only [ZA,ZbD,Zd9,ZI,ZH,ZaK,Za1,Zb0,Zb3,Option.bind_some,Int.toNat_natCast,List.length_append,List.length_cons,List.length_nil,Nat.zero_add,if_true,if_false,Bool.false_eq_true,Bool.not_true,Bool.not_false,Bool.true_and,Bool.false_and,Bool.and_true,Bool.and_false,Bool.true_or,Bool.false_or,Bool.or_true,Bool.or_false,decide_true,decide_false,Bool.not_eq_true,Bool.decide_eq_true,Int.reduceToNat]
     ·refine ⟨n,hturn j rfl hcl hc,?_⟩
      have hcl':¬ (gi at_ j).X≤(gi at_ n).X:=by simpa [Zcf] using hcl
      simp (disch:=omega) only [ZX.s0,z,hY,ZA,ZbD,Zd9,ZI,ZH,ZaK,Za1,Zb0,Zb3,Option.bind_some,Int.toNat_natCast,List.length_append,List.length_cons,List.length_nil,Nat.zero_add,if_true,if_false,Bool.false_eq_true,Bool.not_true,Bool.not_false,Bool.true_and,Bool.false_and,Bool.and_true,Bool.and_false,Bool.true_or,Bool.false_or,Bool.or_true,Bool.or_false,decide_true,decide_false,Bool.not_eq_true,Bool.decide_eq_true,Int.reduceToNat]
      try simp (disch:=omega) only [ZA,ZbD,Zd9,ZI,ZH,ZaK,Za1,Zb0,Zb3,Option.bind_some,Int.toNat_natCast,List.length_append,List.length_cons,List.length_nil,Nat.zero_add,if_true,if_false,Bool.false_eq_true,Bool.not_true,Bool.not_false,Bool.true_and,Bool.false_and,Bool.and_true,Bool.and_false,Bool.true_or,Bool.false_or,Bool.or_true,Bool.or_false,decide_true,decide_false,Bool.not_eq_true,Bool.decide_eq_true,Int.reduceToNat]
   ·refine ⟨w,hlow (fun hc=>hX (by have:=hc.2; rw [if_pos rfl] at this; exact this.2)),?_⟩
    simp (disch:=omega) only [ZX.s0,z,hY,ZA,ZbD,Zd9,ZI,ZH,ZaK,Za1,Zb0,Zb3,Option.bind_some,Int.toNat_natCast,List.length_append,List.length_cons,List.length_nil,Nat.zero_add,if_true,if_false,Bool.false_eq_true,Bool.not_true,Bool.not_false,Bool.true_and,Bool.false_and,Bool.and_true,Bool.and_false,Bool.true_or,Bool.false_or,Bool.or_true,Bool.or_false,decide_true,decide_false,Bool.not_eq_true,Bool.decide_eq_true,Int.reduceToNat]
    try simp (disch:=omega) only [ZA,ZbD,Zd9,ZI,ZH,ZaK,Za1,Zb0,Zb3,Option.bind_some,Int.toNat_natCast,List.length_append,List.length_cons,List.length_nil,Nat.zero_add,if_true,if_false,Bool.false_eq_true,Bool.not_true,Bool.not_false,Bool.true_and,Bool.false_and,Bool.and_true,Bool.and_false,Bool.true_or,Bool.false_or,Bool.or_true,Bool.or_false,decide_true,decide_false,Bool.not_eq_true,Bool.decide_eq_true,Int.reduceToNat]
  ·refine ⟨w,hlow (fun hc=>hY (by have:=hc.2; rw [if_pos rfl] at this; exact this.1)),?_⟩
   simp (disch:=omega) only [ZX.s0,z,hY,ZA,ZbD,Zd9,ZI,ZH,ZaK,Za1,Zb0,Zb3,Option.bind_some,Int.toNat_natCast,List.length_append,List.length_cons,List.length_nil,Nat.zero_add,if_true,if_false,Bool.false_eq_true,Bool.not_true,Bool.not_false,Bool.true_and,Bool.false_and,Bool.and_true,Bool.and_false,Bool.true_or,Bool.false_or,Bool.or_true,Bool.or_false,decide_true,decide_false,Bool.not_eq_true,Bool.decide_eq_true,Int.reduceToNat]
   try simp (disch:=omega) only [ZA,ZbD,Zd9,ZI,ZH,ZaK,Za1,Zb0,Zb3,Option.bind_some,Int.toNat_natCast,List.length_append,List.length_cons,List.length_nil,Nat.zero_add,if_true,if_false,Bool.false_eq_true,Bool.not_true,Bool.not_false,Bool.true_and,Bool.false_and,Bool.and_true,Bool.and_false,Bool.true_or,Bool.false_or,Bool.or_true,Bool.or_false,decide_true,decide_false,Bool.not_eq_true,Bool.decide_eq_true,Int.reduceToNat]
 ·have z:((1:Nat):Int) = 1:=rfl
  by_cases hY:(gi at_ n).X = (gi at_ i).X
  ·by_cases hX:(gi at_ i).Y < (gi at_ n).Y
   ·have hc:Zfe at_ i 1 n:=⟨hn,by rw [if_neg (by decide)]; exact ⟨hY,hX⟩⟩
    rcases hwc with rfl | ⟨j,rfl,hj⟩
    ·refine ⟨n,hnew rfl hc,?_⟩
     simp (disch:=omega) only [ZX.s0,z,hY,ZA,ZbD,Zd9,ZI,ZH,ZaK,Za1,Zb0,Zb3,Option.bind_some,Int.toNat_natCast,List.length_append,List.length_cons,List.length_nil,Nat.zero_add,if_true,if_false,Bool.false_eq_true,Bool.not_true,Bool.not_false,Bool.true_and,Bool.false_and,Bool.and_true,Bool.and_false,Bool.true_or,Bool.false_or,Bool.or_true,Bool.or_false,decide_true,decide_false,Bool.not_eq_true,Bool.decide_eq_true,Int.reduceToNat]
     try simp (disch:=omega) only [ZA,ZbD,Zd9,ZI,ZH,ZaK,Za1,Zb0,Zb3,Option.bind_some,Int.toNat_natCast,List.length_append,List.length_cons,List.length_nil,Nat.zero_add,if_true,if_false,Bool.false_eq_true,Bool.not_true,Bool.not_false,Bool.true_and,Bool.false_and,Bool.and_true,Bool.and_false,Bool.true_or,Bool.false_or,Bool.or_true,Bool.or_false,decide_true,decide_false,Bool.not_eq_true,Bool.decide_eq_true,Int.reduceToNat]
    ·by_cases hcl:Zcf at_ 1 j n
     ·refine ⟨j,hkeep j rfl hcl,?_⟩
      have hcl':(gi at_ j).Y≤(gi at_ n).Y:=by simpa [Zcf] using hcl
      simp (disch:=omega) only [ZX.s0,z,hY,ZA,ZbD,Zd9,ZI,ZH,ZaK,Za1,Zb0,Zb3,Option.bind_some,Int.toNat_natCast,List.length_append,List.length_cons,List.length_nil,Nat.zero_add,if_true,if_false,Bool.false_eq_true,Bool.not_true,Bool.not_false,Bool.true_and,Bool.false_and,Bool.and_true,Bool.and_false,Bool.true_or,Bool.false_or,Bool.or_true,Bool.or_false,decide_true,decide_false,Bool.not_eq_true,Bool.decide_eq_true,Int.reduceToNat]
      try simp (disch:=omega) only [ZA,ZbD,Zd9,ZI,ZH,ZaK,Za1,Zb0,Zb3,Option.bind_some,Int.toNat_natCast,List.length_append,List.length_cons,List.length_nil,Nat.zero_add,if_true,if_false,Bool.false_eq_true,Bool.not_true,Bool.not_false,Bool.true_and,Bool.false_and,Bool.and_true,Bool.and_false,Bool.true_or,Bool.false_or,Bool.or_true,Bool.or_false,decide_true,decide_false,Bool.not_eq_true,Bool.decide_eq_true,Int.reduceToNat]
     ·refine ⟨n,hturn j rfl hcl hc,?_⟩
      have hcl':¬ (gi at_ j).Y≤(gi at_ n).Y:=by simpa [Zcf] using hcl
      simp (disch:=omega) only [ZX.s0,z,hY,ZA,ZbD,Zd9,ZI,ZH,ZaK,Za1,Zb0,Zb3,Option.bind_some,Int.toNat_natCast,List.length_append,List.length_cons,List.length_nil,Nat.zero_add,if_true,if_false,Bool.false_eq_true,Bool.not_true,Bool.not_false,Bool.true_and,Bool.false_and,Bool.and_true,Bool.and_false,Bool.true_or,Bool.false_or,Bool.or_true,Bool.or_false,decide_true,decide_false,Bool.not_eq_true,Bool.decide_eq_true,Int.reduceToNat]
      try simp (disch:=omega) only [ZA,ZbD,Zd9,ZI,ZH,ZaK,Za1,Zb0,Zb3,Option.bind_some,Int.toNat_natCast,List.length_append,List.length_cons,List.length_nil,Nat.zero_add,if_true,if_false,Bool.false_eq_true,Bool.not_true,Bool.not_false,Bool.true_and,Bool.false_and,Bool.and_true,Bool.and_false,Bool.true_or,Bool.false_or,Bool.or_true,Bool.or_false,decide_true,decide_false,Bool.not_eq_true,Bool.decide_eq_true,Int.reduceToNat]
   ·refine ⟨w,hlow (fun hc=>hX (by have:=hc.2; rw [if_neg (by decide)] at this; exact this.2)),?_⟩
    simp (disch:=omega) only [ZX.s0,z,hY,ZA,ZbD,Zd9,ZI,ZH,ZaK,Za1,Zb0,Zb3,Option.bind_some,Int.toNat_natCast,List.length_append,List.length_cons,List.length_nil,Nat.zero_add,if_true,if_false,Bool.false_eq_true,Bool.not_true,Bool.not_false,Bool.true_and,Bool.false_and,Bool.and_true,Bool.and_false,Bool.true_or,Bool.false_or,Bool.or_true,Bool.or_false,decide_true,decide_false,Bool.not_eq_true,Bool.decide_eq_true,Int.reduceToNat]
    try simp (disch:=omega) only [ZA,ZbD,Zd9,ZI,ZH,ZaK,Za1,Zb0,Zb3,Option.bind_some,Int.toNat_natCast,List.length_append,List.length_cons,List.length_nil,Nat.zero_add,if_true,if_false,Bool.false_eq_true,Bool.not_true,Bool.not_false,Bool.true_and,Bool.false_and,Bool.and_true,Bool.and_false,Bool.true_or,Bool.false_or,Bool.or_true,Bool.or_false,decide_true,decide_false,Bool.not_eq_true,Bool.decide_eq_true,Int.reduceToNat]
  ·refine ⟨w,hlow (fun hc=>hY (by have:=hc.2; rw [if_neg (by decide)] at this; exact this.1)),?_⟩
   simp (disch:=omega) only [ZX.s0,z,hY,ZA,ZbD,Zd9,ZI,ZH,ZaK,Za1,Zb0,Zb3,Option.bind_some,Int.toNat_natCast,List.length_append,List.length_cons,List.length_nil,Nat.zero_add,if_true,if_false,Bool.false_eq_true,Bool.not_true,Bool.not_false,Bool.true_and,Bool.false_and,Bool.and_true,Bool.and_false,Bool.true_or,Bool.false_or,Bool.or_true,Bool.or_false,decide_true,decide_false,Bool.not_eq_true,Bool.decide_eq_true,Int.reduceToNat]
   try simp (disch:=omega) only [ZA,ZbD,Zd9,ZI,ZH,ZaK,Za1,Zb0,Zb3,Option.bind_some,Int.toNat_natCast,List.length_append,List.length_cons,List.length_nil,Nat.zero_add,if_true,if_false,Bool.false_eq_true,Bool.not_true,Bool.not_false,Bool.true_and,Bool.false_and,Bool.and_true,Bool.and_false,Bool.true_or,Bool.false_or,Bool.or_true,Bool.or_false,decide_true,decide_false,Bool.not_eq_true,Bool.decide_eq_true,Int.reduceToNat]
theorem ZbR {σ ρ:Type} {step:σ→Option (σ ⊕ ρ)} {n:Nat} (I:Nat→σ→Prop) {s0:σ} {R:ρ→Prop} (hn:n < big) (h0:I 0 s0) (hs:∀ i s,i < n→I i s→∃ s',step s = some (.inl s')∧I (i + 1) s') (he:∀ s,I n s→∃ r,step s = some (.inr r)∧R r):∃ r,ze step big s0 = some r∧R r:=by
 have key:∀ k i s,i + k = n→I i s→∃ r,ze step (k + 1) s = some r∧R r:=by
  intro k
  induction k with
  | zero =>
   intro i s hi hI
   obtain rfl:i = n:=by omega
   obtain ⟨r,hr,hR⟩:=he s hI
   exact ⟨r,by simp only [ze,hr],hR⟩
  | succ k ih =>
   intro i s hi hI
   obtain ⟨s',hs',hI'⟩:=hs i s (by omega) hI
   obtain ⟨r,hr,hR⟩:=ih (i + 1) s' (by omega) hI'
   exact ⟨r,by rw [ze,hs']; exact hr,hR⟩
 obtain ⟨r,hr,hR⟩:=key n 0 s0 (by omega) h0
 exact ⟨r,ZcV hr (by unfold big at *; omega),hR⟩
theorem Zlz {at_:List Z8} {i d:Nat} (hl:at_.length≤1000) (hi:i < at_.length) (hd:d < 2):∃ w,ZX at_ i d = some w∧Zcs at_ i d at_.length w:=by
 obtain ⟨r,hr,hR⟩:=ZbR (step:=ZX.s0 at_ i d) (n:=at_.length) (I:=fun n (s:Int × Int)=>s.2 = n∧Zcs at_ i d n s.1) (s0:=((-1:Int),(0:Int))) (R:=Zcs at_ i d at_.length) (Zbc (by omega)) ⟨rfl,.inl ⟨rfl,fun k hk=>by omega⟩⟩ (fun n (s:Int × Int) hn hs=>by
  obtain ⟨w,m⟩:=s
  obtain ⟨rfl,hw⟩:=hs
  obtain ⟨w',h1,h2⟩:=Zhj hl hi hd hn hw
  exact ⟨_,h2,rfl,h1⟩) (fun (s:Int × Int) hs=>by
  obtain ⟨w,m⟩:=s
  obtain ⟨rfl,hw⟩:=hs
  exact ⟨w,by simp only [ZX.s0]; rw [ZH (by omega)],hw⟩)
 exact ⟨r,by unfold ZX; rw [hr]; rfl,hR⟩
end Mu
/- Layer 10: crossed,with,make. -/
set_option linter.unusedVariables false
set_option linter.unusedSimpArgs false
set_option maxRecDepth 10000
namespace Mu

theorem zz {α:Type} {x:Int} {o:Option α} (h:-9223372036854775808≤x∧x≤9223372036854775807):ck (zQ x) o = o:=ZA h
def ZcY (at_:List Z8) (l:List Zc) (i w a d:Nat):Bool :=
 let p:=gi at_ a
 let q:=gi at_ (nx l a d).toNat
 let s:=gi at_ i
 let t:=gi at_ w
 decide (0≤nx l a d) && ((decide (p.Y = q.Y) && decide (s.X = t.X) && decide (p.X < s.X) && decide (s.X < q.X) && decide (s.Y < p.Y) && decide (p.Y < t.Y)) || (decide (p.X = q.X) && decide (s.Y = t.Y) && decide (s.X < p.X) && decide (p.X < t.X) && decide (p.Y < s.Y) && decide (s.Y < q.Y)))
theorem Zkg {a:Bool} {b:Bool}:(if a = true then some b else some false) = some (a && b):=by cases a <;> rfl
theorem Zju {at_:List Z8} {l:List Zc} {i w a d:Nat} (hl:at_.length = l.length) (hi:i < l.length) (hw:w < l.length) (ha:a < l.length) (hd:d < 2) (hn:nx l a d < l.length):ZW.s1 at_ l i w a d = some (if ZcY at_ l i w a d = true then .inr (.inr ()) else .inl ((d:Int) + 1)):=by
 unfold ZW.s1
 rw [ZI (by omega),ZA (by omega),ZA (by omega),Int.toNat_natCast]
 have e:((gi l a).Next).get (d:Int) = nx l a d:=rfl
 rw [e]
 unfold ZcY
 by_cases h0:nx l a d < 0
 ·rw [ZI h0,zz (by omega),Zb3 (show ¬ 0≤nx l a d by omega)]
  simp
 ·rw [ZH h0,ZA (by omega),ZA (by omega),Zb0 (show 0≤nx l a d by omega)]
  have k1:∀ (α:Type) (o:Option α),ck ((0:Int)≤(i:Int)∧(i:Int) < (at_.length:Int)) o = o:=fun _ _=>ZA (by omega)
  have k2:∀ (α:Type) (o:Option α),ck ((0:Int)≤(w:Int)∧(w:Int) < (at_.length:Int)) o = o:=fun _ _=>ZA (by omega)
  have k3:∀ (α:Type) (o:Option α),ck (zQ ((d:Int) + 1)) o = o:=fun _ _=>zz (by omega)
  simp only [k1,k2,k3,Int.toNat_natCast,Option.bind_some,Zkg,Bool.true_and]
  generalize (decide ((gi at_ a).Y = (gi at_ (nx l a d).toNat).Y) && decide ((gi at_ i).X = (gi at_ w).X) && decide ((gi at_ a).X < (gi at_ i).X) && decide ((gi at_ i).X < (gi at_ (nx l a d).toNat).X) && decide ((gi at_ i).Y < (gi at_ a).Y) && decide ((gi at_ a).Y < (gi at_ w).Y)) = A
  generalize (decide ((gi at_ a).X = (gi at_ (nx l a d).toNat).X) && decide ((gi at_ i).Y = (gi at_ w).Y) && decide ((gi at_ i).X < (gi at_ a).X) && decide ((gi at_ a).X < (gi at_ w).X) && decide ((gi at_ a).Y < (gi at_ i).Y) && decide ((gi at_ i).Y < (gi at_ (nx l a d).toNat).Y)) = B
  cases A <;> cases B <;> rfl
def Zev (at_:List Z8) (l:List Zc) (i w a:Nat):Bool:=ZcY at_ l i w a 0 || ZcY at_ l i w a 1
def Zhc (at_:List Z8) (l:List Zc) (i w:Nat):Bool:=(List.range l.length).any fun a=>Zev at_ l i w a
theorem Zjv {at_:List Z8} {l:List Zc} {i w a:Nat} (hl:at_.length = l.length) (hi:i < l.length) (hw:w < l.length) (hn:∀ a d,a < l.length→d < 2→nx l a d < l.length) (ha:a < l.length):ze (ZW.s1 at_ l i w a) big 0 = some (if Zev at_ l i w a = true then .inr () else .inl ()):=by
 have h:ze (ZW.s1 at_ l i w a) big 0 = some (match (List.range 2).find? (fun d=>ZcY at_ l i w a d) with | some i=>.inr ((fun _=>()) i) | none=>.inl ()):=by
  refine Zdi (Zbc (by omega)) (fun d hd=>?_) ?_
  ·exact Zju hl hi hw ha hd (hn a d ha hd)
  ·simp only [ZW.s1]
   rw [ZH (by omega)]
 rw [h]
 have e:(List.range 2).find? (fun d=>ZcY at_ l i w a d) = if ZcY at_ l i w a 0 = true then some 0 else if ZcY at_ l i w a 1 = true then some 1 else none:=by
  have:List.range 2 = [0,1]:=by decide
  rw [this]
  cases c0:ZcY at_ l i w a 0 <;> cases c1:ZcY at_ l i w a 1 <;> simp [c0,c1]
 rw [e]
 unfold Zev
 cases c0:ZcY at_ l i w a 0 <;> cases c1:ZcY at_ l i w a 1 <;> simp
theorem Zjt {at_:List Z8} {l:List Zc} {i w a:Nat} (hl:at_.length = l.length) (h1000:l.length≤1000) (hi:i < l.length) (hw:w < l.length) (hn:∀ a d,a < l.length→d < 2→nx l a d < l.length) (ha:a < l.length):ZW.s0 at_ l i w a = some (if Zev at_ l i w a = true then .inr (.inr ()) else .inl ((a:Int) + 1)):=by
 simp only [ZW.s0]
 rw [ZI (by omega),Zjv hl hi hw hn ha,Option.bind_some]
 by_cases c:Zev at_ l i w a = true
 ·rw [if_pos c,if_pos c]
 ·rw [if_neg c,if_neg c]
  dsimp only
  rw [zz (by omega)]
theorem Zjx {at_:List Z8} {l:List Zc} {i w:Nat}:ZW.s0 at_ l i w l.length = some (.inr (.inl ())):=by
 simp only [ZW.s0]
 rw [ZH (by omega)]
theorem Ziv {n:Nat} {P:Nat→Bool}:((List.range n).any P) = ((List.range n).find? P).isSome:=by
 rw [Bool.eq_iff_iff,List.find?_isSome,List.any_eq_true]
theorem Zjw {at_:List Z8} {l:List Zc} {i w:Nat} (hl:at_.length = l.length) (h1000:l.length≤1000) (hi:i < l.length) (hw:w < l.length) (hn:∀ a d,a < l.length→d < 2→nx l a d < l.length):ze (ZW.s0 at_ l i w) big 0 = some (match (List.range l.length).find? (fun a=>Zev at_ l i w a) with | some i=>.inr ((fun _=>()) i) | none=>.inl ()) :=
 Zdi (Zbc (by omega)) (fun a ha=>Zjt hl h1000 hi hw hn ha) Zjx
theorem ZiC {at_:List Z8} {l:List Zc} {i w:Nat} (hl:at_.length = l.length) (h1000:l.length≤1000) (hi:i < l.length) (hw:w < l.length) (hn:∀ a d,a < l.length→d < 2→nx l a d < l.length):ZW at_ l i w = some (Zhc at_ l i w):=by
 have h0:=Zjw hl h1000 hi hw hn
 unfold ZW
 rw [h0]
 unfold Zhc
 rw [Ziv]
 cases h:(List.range l.length).find? fun a=>Zev at_ l i w a with
 | none=>simp
 | some j=>simp

/-! with -/
def wC1 (c:Zc) (d w o:Int):Zc:=⟨c.Next.set d w,c.Owner.set d o⟩
def wC (l:List Zc) (v d w o:Int) (i:Nat):Zc :=
 let c:=if (i:Int) = v then wC1 (gi l i) d w o else gi l i
 if (i:Int) = w then wC1 c ((d + 2).tmod 4) v o else c
def wth (l:List Zc) (v d w o:Int):List Zc:=(List.range l.length).map (wC l v d w o)
theorem ZbV {l:List Zc} {v d w o:Int}:(wth l v d w o).length = l.length:=by simp [wth]
theorem ZjS {l:List Zc} {v d w o:Int} (hl:l.length≤100000) (hd:0≤d∧d < 4):Zak l v d w o = some (wth l v d w o):=by
 unfold Zak
 rw [ZfX (x:=wth l v d w o)]
 refine ZbH (fun n:Nat=>((List.range n).map (wC l v d w o),(n:Int))) (n:=l.length) (Zbc (by omega)) rfl (fun n hn=>?_) ?_
 ·have hm:((List.range n).map (wC l v d w o)).length = n:=by simp
  have t:=Int.tmod_nonneg 4 (show (0:Int)≤d + 2 by omega)
  have t2:=Int.tmod_lt_of_pos (d + 2) (show (0:Int) < 4 by omega)
  rw [List.range_succ,List.map_append,List.map_cons,List.map_nil]
  simp only [Zak.s0]
  rw [ZI (by omega),ZA (by omega),Int.toNat_natCast]
  unfold wC
  by_cases c1:(n:Int) = v
  ·rw [ZI c1,ZA hd,Option.bind_some]
   by_cases c2:(n:Int) = w
   ·rw [ZI c2,zz (by omega),ZA (by omega),ZA (by simp; omega),zz (by omega),if_pos c1,if_pos c2]
    rfl
   ·rw [ZH c2,ZA (by simp; omega),zz (by omega),if_pos c1,if_neg c2]
    rfl
  ·rw [ZH c1,Option.bind_some]
   by_cases c2:(n:Int) = w
   ·rw [ZI c2,zz (by omega),ZA (by omega),ZA (by simp; omega),zz (by omega),if_neg c1,if_pos c2]
    rfl
   ·rw [ZH c2,ZA (by simp; omega),zz (by omega),if_neg c1,if_neg c2]
    rfl
 ·simp only [Zak.s0]
  rw [ZH (by omega)]
  rfl
theorem Zf5 {l:List Zc} {v w d i e:Nat} {o:Int} (hv:v < l.length) (hw:w < l.length) (hvw:v≠w) (hd:d < 4) (hi:i < l.length) (he:e < 4):nx (wth l v d w o) i e = (if i = v∧e = d then (w:Int) else if i = w∧e = (d + 2) % 4 then (v:Int) else nx l i e)∧ow (wth l v d w o) i e = (if i = v∧e = d then o else if i = w∧e = (d + 2) % 4 then o else ow l i e):=by
 have hb:(((d:Int) + 2).tmod 4) = (((d + 2) % 4:Nat):Int):=by
  match d,hd with
  | 0,_ | 1,_ | 2,_ | 3,_=>rfl
 have g:gi (wth l v d w o) i = wC l v d w o i:=Ze9 hi
 unfold nx ow
 rw [g]
 unfold wC
 rw [hb]
 by_cases c1:i = v
 ·subst c1
  rw [if_pos rfl,if_neg (show ¬ ((i:Nat):Int) = (w:Int) by omega)]
  simp only [wC1]
  rw [ZdG hd he,ZdG hd he]
  have:¬ (i = w):=hvw
  simp [this]
 ·rw [if_neg (show ¬ ((i:Nat):Int) = (v:Int) by omega)]
  by_cases c2:i = w
  ·subst c2
   rw [if_pos rfl]
   simp only [wC1]
   rw [ZdG (by omega) he,ZdG (by omega) he]
   simp [c1]
  ·rw [if_neg (show ¬ ((i:Nat):Int) = (w:Int) by omega)]
   simp [c1,c2]

/-! What may be. -/
structure Ck (l:List Zc):Prop where
 s:∀ v d,v < l.length→d < 4→(nx l v d = -1∧ow l v d = 0)∨∃ w:Nat,nx l v d = w∧w < l.length∧w≠v∧nx l w ((d + 2) % 4) = v∧ow l w ((d + 2) % 4) = ow l v d∧-2≤ow l v d
theorem Ck.new (n:Nat):Ck (List.replicate n noC):=⟨fun v d hv hd=>.inl (by
 have:gi (List.replicate n noC) v = noC:=by rw [Zb6 hv]; simp
 unfold nx ow; rw [this]
 match d,hd with
 | 0,_ | 1,_ | 2,_ | 3,_=>exact ⟨rfl,rfl⟩)⟩
theorem Ck.wth {l:List Zc} (h:Ck l) {v w d:Nat} {o:Int} (hv:v < l.length) (hw:w < l.length) (hvw:v≠w) (hd:d < 4) (h1:nx l v d = -1) (h2:nx l w ((d + 2) % 4) = -1) (ho:-2≤o):Ck (wth l v d w o):=by
 refine ⟨fun i e hi he=>?_⟩
 rw [ZbV] at hi ⊢
 have n1:=fun i e hi he=>(Zf5 (o:=o) hv hw hvw hd (i:=i) (e:=e) hi he).1
 have n2:=fun i e hi he=>(Zf5 (o:=o) hv hw hvw hd (i:=i) (e:=e) hi he).2
 rw [n1 i e hi he,n2 i e hi he]
 by_cases c1:i = v∧e = d
 ·rw [if_pos c1,if_pos c1]
  refine .inr ⟨w,rfl,hw,by omega,?_,?_,ho⟩
  ·rw [n1 w _ hw (by omega),if_neg (by omega),if_pos ⟨rfl,by rw [c1.2]⟩,c1.1]
  ·rw [n2 w _ hw (by omega),if_neg (by omega),if_pos ⟨rfl,by rw [c1.2]⟩]
 ·rw [if_neg c1,if_neg c1]
  by_cases c2:i = w∧e = (d + 2) % 4
  ·rw [if_pos c2,if_pos c2]
   refine .inr ⟨v,rfl,hv,by omega,?_,?_,ho⟩
   ·rw [n1 v _ hv (by omega),if_pos ⟨rfl,by omega⟩,c2.1]
   ·rw [n2 v _ hv (by omega),if_pos ⟨rfl,by omega⟩]
  ·rw [if_neg c2,if_neg c2]
   rcases h.s i e hi he with hh | ⟨x,x1,x2,x3,x4,x5,x6⟩
   ·exact .inl hh
   ·refine .inr ⟨x,x1,x2,x3,?_,?_,x6⟩
    ·rw [n1 x _ x2 (by omega)]
     rw [if_neg (fun c=>by
      have:nx l x ((e + 2) % 4) = -1:=by rw [c.1,c.2]; exact h1
      omega)]
     rw [if_neg (fun c=>by
      have:nx l x ((e + 2) % 4) = -1:=by rw [c.1,c.2]; exact h2
      omega)]
     exact x4
    ·rw [n2 x _ x2 (by omega)]
     rw [if_neg (fun c=>by
      have:nx l x ((e + 2) % 4) = -1:=by rw [c.1,c.2]; exact h1
      omega)]
     rw [if_neg (fun c=>by
      have:nx l x ((e + 2) % 4) = -1:=by rw [c.1,c.2]; exact h2
      omega)]
     exact x5
end Mu
/- Layer 10: make. -/
set_option linter.unusedVariables false
set_option linter.unusedSimpArgs false
set_option maxRecDepth 10000
namespace Mu

theorem ZaV {σ ρ:Type} {step:σ→Option (σ ⊕ ρ)} (μ:σ→Nat) (I:σ→Prop) {s0:σ} {R:ρ→Prop} (hn:μ s0 < big) (h0:I s0) (hs:∀ s,I s→(∃ s',step s = some (.inl s')∧I s'∧μ s' < μ s)∨∃ r,step s = some (.inr r)∧R r):∃ r,ze step big s0 = some r∧R r:=by
 have key:∀ k s,μ s≤k→I s→∃ r,ze step (k + 1) s = some r∧R r:=by
  intro k
  induction k with
  | zero =>
   intro s hk hI
   rcases hs s hI with ⟨s',h1,h2,h3⟩ | ⟨r,h1,h2⟩
   ·omega
   ·exact ⟨r,by simp only [ze,h1],h2⟩
  | succ k ih =>
   intro s hk hI
   rcases hs s hI with ⟨s',h1,h2,h3⟩ | ⟨r,h1,h2⟩
   ·obtain ⟨r,hr,hR⟩:=ih s' (by omega) h2
    exact ⟨r,by rw [ze,h1]; exact hr,hR⟩
   ·exact ⟨r,by rw [ze,h1],h2⟩
 obtain ⟨r,hr,hR⟩:=key (μ s0) s0 (Nat.le_refl _) h0
 exact ⟨r,ZcV hr (by omega),hR⟩

structure Pts (at_:List Z8):Prop where
 b:∀ i,i < at_.length→0≤(gi at_ i).X∧(gi at_ i).X < 8∧0≤(gi at_ i).Y∧(gi at_ i).Y < 8
 d:∀ i j,i < at_.length→j < at_.length→gi at_ i = gi at_ j→i = j
theorem Pts.nil:Pts []:=⟨fun i h=>by simp at h,fun i j h=>by simp at h⟩
theorem Pts.app {at_:List Z8} (h:Pts at_) {p:Z8} (hp:0≤p.X∧p.X < 8∧0≤p.Y∧p.Y < 8) (hn:∀ k,k < at_.length→gi at_ k≠p):Pts (at_++[p]):=by
 have g1:∀ i,i < at_.length→gi (at_++[p]) i = gi at_ i:=fun i hi=>Zcv hi
 have g2:gi (at_++[p]) at_.length = p:=by
  have:=Zce (l:=at_) (m:=[p]) (i:=0)
  rw [Nat.add_zero] at this
  rw [this]; rfl
 refine ⟨fun i hi=>?_,fun i j hi hj hij=>?_⟩
 ·simp only [List.length_append,List.length_cons,List.length_nil] at hi
  by_cases c:i < at_.length
  ·rw [g1 i c]; exact h.b i c
  ·rw [show i = at_.length by omega,g2]; exact hp
 ·simp only [List.length_append,List.length_cons,List.length_nil] at hi hj
  by_cases c:i < at_.length <;> by_cases c2:j < at_.length
  ·rw [g1 i c,g1 j c2] at hij; exact h.d i j c c2 hij
  ·rw [g1 i c,show j = at_.length by omega,g2] at hij; exact absurd hij (hn i c)
  ·rw [g1 j c2,show i = at_.length by omega,g2] at hij; exact absurd hij.symm (hn j c2)
  ·omega
theorem ZiG {at_:List Z8} (hp:Pts at_) {i j d:Nat} {w:Nat} (hi:i < at_.length) (hj:j < at_.length) (hd:d < 2) (h1:Zcs at_ i d at_.length w) (h2:Zcs at_ j d at_.length w):i = j:=by
 rcases h1 with ⟨h,_⟩ | ⟨w1,e1,l1,c1,m1⟩
 ·omega
 rcases h2 with ⟨h,_⟩ | ⟨w2,e2,l2,c2,m2⟩
 ·omega
 obtain rfl:w = w1:=by omega
 obtain rfl:w = w2:=by omega
 apply hp.d i j hi hj
 have x1:=m1 j hj
 have x2:=m2 i hi
 have c1:=c1.2
 have c2:=c2.2
 unfold Zfe Zcf at x1 x2
 by_cases z:d = 0
 ·simp only [if_pos z] at *
  have hX:(gi at_ i).X = (gi at_ j).X:=by
   by_cases q1:(gi at_ i).X < (gi at_ j).X
   ·have:=x1 ⟨hj,by omega,q1⟩; omega
   ·by_cases q2:(gi at_ j).X < (gi at_ i).X
    ·have:=x2 ⟨hi,by omega,q2⟩; omega
    ·omega
  have hY:(gi at_ i).Y = (gi at_ j).Y:=by omega
  generalize gi at_ i = p at *
  generalize gi at_ j = q at *
  obtain ⟨a,b⟩:=p
  obtain ⟨a',b'⟩:=q
  simp only at hX hY
  rw [hX,hY]
 ·simp only [if_neg z] at *
  have hX:(gi at_ i).Y = (gi at_ j).Y:=by
   by_cases q1:(gi at_ i).Y < (gi at_ j).Y
   ·have:=x1 ⟨hj,by omega,q1⟩; omega
   ·by_cases q2:(gi at_ j).Y < (gi at_ i).Y
    ·have:=x2 ⟨hi,by omega,q2⟩; omega
    ·omega
  have hY:(gi at_ i).X = (gi at_ j).X:=by omega
  generalize gi at_ i = p at *
  generalize gi at_ j = q at *
  obtain ⟨a,b⟩:=p
  obtain ⟨a',b'⟩:=q
  simp only at hX hY
  rw [hX,hY]
structure Mk (at_:List Z8) (l:List Zc) (i d:Nat):Prop where
 len:l.length = at_.length
 ck:Ck l
 near:∀ v e,v < l.length→e < 2→nx l v e = -1∨((v < i∨v = i∧e < d)∧Zcs at_ v e at_.length (nx l v e))
 own:∀ v e,v < l.length→e < 4→-2≤ow l v e∧ow l v e≤1000
theorem Mk.step {at_:List Z8} {l:List Zc} {i d:Nat} (h:Mk at_ l i d):Mk at_ l i (d + 1) :=
 ⟨h.len,h.ck,fun v e hv he=>(h.near v e hv he).imp id (fun ⟨a,b⟩=>⟨by omega,b⟩),h.own⟩
theorem Mk.next {at_:List Z8} {l:List Zc} {i:Nat} (h:Mk at_ l i 2):Mk at_ l (i + 1) 0 :=
 ⟨h.len,h.ck,fun v e hv he=>(h.near v e hv he).imp id (fun ⟨a,b⟩=>⟨by omega,b⟩),h.own⟩
theorem Ck.lt {l:List Zc} (h:Ck l) {v d:Nat} (hv:v < l.length) (hd:d < 4):-1≤nx l v d∧nx l v d < l.length:=by
 rcases h.s v d hv hd with ⟨a,_⟩ | ⟨w,a,b,_⟩ <;> omega
theorem Mk.lay {at_:List Z8} (hp:Pts at_) {l:List Zc} {i d w:Nat} {o:Int} (h:Mk at_ l i d) (hi:i < l.length) (hd:d < 2) (hw:Zcs at_ i d at_.length w) (ho:-2≤o∧o≤1000):Mk at_ (wth l i d w o) i (d + 1):=by
 have hl:=h.len
 have hwl:w < l.length∧Zfe at_ i d w:=by
  rcases hw with ⟨e,_⟩ | ⟨j,e,h1,h2,_⟩
  ·omega
  ·have:w = j:=by omega
   subst this; exact ⟨by omega,h2⟩
 have hne:i≠w:=by
  rintro rfl
  have:=hwl.2.2
  split at this <;> omega
 have n1:nx l i d = -1:=by
  rcases h.near i d hi (by omega) with e | ⟨e,_⟩
  ·exact e
  ·omega
 have n2:nx l w ((d + 2) % 4) = -1:=by
  rcases h.ck.s w ((d + 2) % 4) hwl.1 (by omega) with ⟨e,_⟩ | ⟨x,e1,e2,e3,e4,e5,e6⟩
  ·exact e
  ·rw [show ((d + 2) % 4 + 2) % 4 = d by omega] at e4
   rcases h.near x d e2 hd with e | ⟨e,e7⟩
   ·omega
   ·rw [e4] at e7
    have:=ZiG hp (by omega) (by omega) hd e7 hw
    subst this
    omega
 have m1:=fun v e hv he=>(Zf5 (o:=o) hi hwl.1 hne (show d < 4 by omega) (i:=v) (e:=e) hv he).1
 have m2:=fun v e hv he=>(Zf5 (o:=o) hi hwl.1 hne (show d < 4 by omega) (i:=v) (e:=e) hv he).2
 refine ⟨by rw [ZbV]; exact hl,h.ck.wth hi hwl.1 hne (by omega) n1 n2 ho.1,fun v e hv he=>?_,fun v e hv he=>?_⟩
 ·rw [ZbV] at hv
  rw [m1 v e hv (by omega)]
  by_cases c:v = i∧e = d
  ·rw [if_pos c]
   right
   refine ⟨by omega,?_⟩
   rw [c.1,c.2]; exact hw
  ·rw [if_neg c]
   rw [if_neg (fun c2=>by omega)]
   exact (h.near v e hv he).imp id (fun ⟨a,b⟩=>⟨by omega,b⟩)
 ·rw [ZbV] at hv
  rw [m2 v e hv he]
  by_cases c:v = i∧e = d
  ·rw [if_pos c]; exact ho
  ·rw [if_neg c]
   by_cases c2:v = w∧e = (d + 2) % 4
   ·rw [if_pos c2]; exact ho
   ·rw [if_neg c2]; exact h.own v e hv he
theorem Zk2 {at_:List Z8} (hp:Pts at_) (h1000:at_.length≤1000) {l:List Zc} {i:Nat} {b o:Int} (h:Mk at_ l i 0) (hi:i < l.length) (ho:-2≤o∧o≤1000):∃ l',ze (ZK.s3 i b at_ o) big (l,0) = some l'∧Mk at_ l' i 2∧i < l'.length:=by
 refine ZbR (n:=2) (I:=fun n (s:List Zc × Int)=>s.2 = n∧Mk at_ s.1 i n∧i < s.1.length) (R:=fun l'=>Mk at_ l' i 2∧i < l'.length) (Zbc (by omega)) ⟨rfl,h,hi⟩ ?_ ?_
 ·rintro d ⟨l,x⟩ hd ⟨hx,hM,hi⟩
  dsimp only at hx hM hi
  subst hx
  have hl:=hM.len
  obtain ⟨w,hw,hN⟩:=Zlz (at_:=at_) (i:=i) (d:=d) h1000 (by omega) hd
  simp only [ZK.s3]
  rw [ZI (by omega),hw,Option.bind_some,ZA (by omega),zz (by omega)]
  by_cases c:((decide (Z3 .u8 (ZD .u8 b d) 1 = 0)) || (decide (w < 0))) = true
  ·rw [if_pos c]
   exact ⟨_,rfl,rfl,hM.step,hi⟩
  ·rw [if_neg c]
   have hw0:¬ w < 0:=by
    intro hh
    apply c
    simp [hh]
   obtain ⟨wn,rfl⟩:∃ wn:Nat,w = wn:=⟨w.toNat,by omega⟩
   have hwl:wn < l.length:=by
    rcases hN with ⟨e,_⟩ | ⟨j,e,h1,h2,_⟩
    ·omega
    ·omega
   rw [ZiC hl.symm (by omega) hi hwl (fun a e ha he=>(hM.ck.lt ha (by omega)).2),Option.bind_some,ZjS (by omega) (by omega)]
   by_cases c2:(!Zhc at_ l i wn) = true
   ·rw [if_pos c2,Option.bind_some,zz (by omega)]
    exact ⟨_,rfl,rfl,hM.lay hp hi hd hN ho,by rw [ZbV]; exact hi⟩
   ·rw [if_neg c2]
    exact ⟨_,rfl,rfl,hM.step,hi⟩
 ·rintro ⟨l,x⟩ ⟨hx,hM,hi⟩
  dsimp only at hx hM hi
  subst hx
  simp only [ZK.s3]
  rw [ZH (by omega)]
  exact ⟨_,rfl,hM,hi⟩

theorem Zk1 {z:zB} {at_:List Z8} (hp:Pts at_) (h1000:at_.length≤1000) (hown:∀ y∈z.Own,Wf .i8 y) {l:List Zc} (h:Mk at_ l 0 0):∃ r:List Z8 × List Zc,ze (ZK.s2 z) big (at_,l,0) = some r∧r.1 = at_∧Mk at_ r.2 at_.length 0:=by
 refine ZbR (n:=at_.length) (I:=fun n (s:List Z8 × List Zc × Int)=>s.1 = at_∧s.2.2 = n∧Mk at_ s.2.1 n 0) (s0:=(at_,l,(0:Int))) (R:=fun r:List Z8 × List Zc=>r.1 = at_∧Mk at_ r.2 at_.length 0) (Zbc (by omega)) ⟨rfl,rfl,h⟩ ?_ ?_
 ·rintro i ⟨a,l,x⟩ hi ⟨ha,hx,hM⟩
  dsimp only at ha hx hM
  subst ha hx
  have hb:∃ b,(if decide ((i:Int) < (z.Bits.length:Int)) = true then ck ((0:Int)≤(i:Int)∧(i:Int) < (z.Bits.length:Int)) (some (a,l,gi z.Bits (i:Int).toNat)) else some (a,l,3)) = some (a,l,b):=by
   by_cases c:(i:Int) < (z.Bits.length:Int)
   ·exact ⟨gi z.Bits i,by rw [ZI c,ZA (by omega)]; rfl⟩
   ·exact ⟨3,by rw [ZH c]⟩
  have ho:∃ o:Int,(-2≤o∧o≤1000)∧(if decide ((i:Int) < (z.Own.length:Int)) = true then ck ((0:Int)≤(i:Int)∧(i:Int) < (z.Own.length:Int)) (ck (inK .i64 (gi z.Own (i:Int).toNat)) (if decide ((gi z.Own (i:Int).toNat) < (-2)) = true then ck (zQ (-(gi z.Own (i:Int).toNat))) (some (a,l,-(gi z.Own (i:Int).toNat))) else some (a,l,gi z.Own (i:Int).toNat))) else some (a,l,(i:Int))) = some (a,l,o):=by
   by_cases c:(i:Int) < (z.Own.length:Int)
   ·have hw:=(hown _ (ZbQ (show i < z.Own.length by omega))).i8
    rw [ZI c,ZA (by omega),Int.toNat_natCast,ZbD (by omega)]
    by_cases c2:gi z.Own i < -2
    ·exact ⟨-(gi z.Own i),by omega,by rw [ZI c2,zz (by omega)]⟩
    ·exact ⟨gi z.Own i,by omega,by rw [ZH c2]⟩
   ·exact ⟨i,by omega,by rw [ZH c]⟩
  obtain ⟨b,hb⟩:=hb
  obtain ⟨o,ho1,ho⟩:=ho
  have hl:=hM.len
  obtain ⟨l',h1,h2,h3⟩:=Zk2 (b:=b) hp h1000 hM (by omega) ho1
  simp only [ZK.s2]
  rw [ZI (by omega),hb,Option.bind_some]
  dsimp only
  rw [ho,Option.bind_some]
  dsimp only
  rw [h1,Option.bind_some,zz (by omega)]
  exact ⟨_,rfl,rfl,rfl,h2.next⟩
 ·rintro ⟨a,l,x⟩ ⟨ha,hx,hM⟩
  dsimp only at ha hx hM
  subst ha hx
  simp only [ZK.s2]
  rw [ZH (by omega)]
  exact ⟨_,rfl,rfl,hM⟩
theorem Zk0 {z:zB} {at_:List Z8} {i:Nat} (h1000:at_.length≤1000):∃ m:Bool,ze (ZK.s1 z at_ i) big (false,0) = some (at_,m)∧(m = false→∀ k,k < at_.length→gi at_ k≠(⟨(gi z.At i).tmod 8,((gi z.At i).tdiv 8).tmod 8⟩:Z8)):=by
 obtain ⟨r,h1,h2,h3⟩:=ZbR (step:=ZK.s1 z at_ i) (s0:=((false:Bool),(0:Int))) (n:=at_.length) (I:=fun n (s:Bool × Int)=>s.2 = n∧(s.1 = false→∀ k,k < n→gi at_ k≠(⟨(gi z.At i).tmod 8,((gi z.At i).tdiv 8).tmod 8⟩:Z8))) (R:=fun r:List Z8 × Bool=>r.1 = at_∧(r.2 = false→∀ k,k < at_.length→gi at_ k≠(⟨(gi z.At i).tmod 8,((gi z.At i).tdiv 8).tmod 8⟩:Z8))) (Zbc (by omega)) ⟨rfl,fun _ k hk=>by omega⟩ (by
  rintro n ⟨m,x⟩ hn ⟨hx,hm⟩
  dsimp only at hx hm
  subst hx
  simp only [ZK.s1]
  rw [ZI (by omega)]
  cases m with
  | true =>
   rw [if_pos rfl,Option.bind_some,zz (by omega)]
   exact ⟨_,rfl,rfl,fun h=>by cases h⟩
  | false =>
   rw [if_neg (by decide),ZA (by omega),Option.bind_some,zz (by omega),Int.toNat_natCast,Int.toNat_natCast]
   refine ⟨_,rfl,rfl,fun h k hk=>?_⟩
   rcases Nat.lt_succ_iff_lt_or_eq.1 hk with h' | rfl
   ·exact hm rfl k h'
   ·simpa using h) (by
  rintro ⟨m,x⟩ ⟨hx,hm⟩
  dsimp only at hx hm
  subst hx
  simp only [ZK.s1]
  rw [ZH (by omega)]
  exact ⟨_,rfl,rfl,hm⟩)
 obtain ⟨a,m⟩:=r
 dsimp only at h2 h3
 subst h2
 exact ⟨m,h1,h3⟩
theorem Zkz {z:zB} {most:Int} (hm:0≤most∧most≤1000) (hlen:z.At.length≤9223372036854775807) (hat:∀ y∈z.At,Wf .u8 y):∃ a,ze (ZK.s0 z most) big (([]:List Z8),0) = some a∧Pts a∧(a.length:Int)≤most:=by
 refine ZaV (μ:=fun s:List Z8 × Int=>((z.At.length:Int) - s.2).toNat) (I:=fun s=>0≤s.2∧Pts s.1∧(s.1.length:Int)≤most) (R:=fun a=>Pts a∧(a.length:Int)≤most) (Zbc (by omega)) ⟨by decide,Pts.nil,by simpa using hm.1⟩ ?_
 rintro ⟨a,i⟩ ⟨h1,h2,h3⟩
 dsimp only at h1 h2 h3
 obtain ⟨n,rfl⟩:∃ n:Nat,i = n:=⟨i.toNat,by omega⟩
 simp only [ZK.s0]
 by_cases c:((decide ((n:Int) < (z.At.length:Int))) && (decide ((a.length:Int) < most))) = true
 ·left
  rw [if_pos c]
  rw [Bool.and_eq_true,decide_eq_true_iff,decide_eq_true_iff] at c
  have hu:=(hat _ (ZbQ (show n < z.At.length by omega))).u8
  obtain ⟨m,e1,e2⟩:=Zk0 (z:=z) (at_:=a) (i:=n) (by omega)
  have hdv:0≤(gi z.At n).tdiv 8∧(gi z.At n).tdiv 8≤255:=by
   rw [Int.tdiv_eq_ediv_of_nonneg hu.1]; omega
  rw [ZA (by omega),Int.toNat_natCast,ZbD (by omega),ZA ⟨by omega,by constructor <;> omega⟩,e1,Option.bind_some]
  dsimp only
  cases m with
  | false =>
   rw [if_pos (by decide),ZA (by simp; omega),zz (by omega)]
   refine ⟨_,rfl,⟨by omega,h2.app ?_ (e2 rfl),by simp; omega⟩,by dsimp only; omega⟩
   have a1:=Int.tmod_nonneg 8 hu.1
   have a2:=Int.tmod_lt_of_pos (gi z.At n) (show (0:Int) < 8 by omega)
   have a3:=Int.tmod_nonneg 8 hdv.1
   have a4:=Int.tmod_lt_of_pos ((gi z.At n).tdiv 8) (show (0:Int) < 8 by omega)
   exact ⟨a1,a2,a3,a4⟩
  | true =>
   rw [if_neg (by decide),zz (by omega)]
   exact ⟨_,rfl,⟨by dsimp only; omega,h2,h3⟩,by dsimp only; omega⟩
 ·right
  rw [if_neg c]
  exact ⟨_,rfl,h2,h3⟩
structure ZlL (l:List Zc) (at_:List Z8):Prop where
 pts:Pts at_
 len:l.length = at_.length
 ck:Ck l
 near:∀ v e,v < l.length→e < 2→nx l v e = -1∨Zcs at_ v e at_.length (nx l v e)
 own:∀ v e,v < l.length→e < 4→-2≤ow l v e∧ow l v e≤1000
structure OkZ (z:zB):Prop where
 a:z.At.length≤9223372036854775807
 b:∀ y∈z.At,Wf .u8 y
 o:∀ y∈z.Own,Wf .i8 y
theorem Zlx {z:zB} {most:Int} (hz:OkZ z) (hm:0≤most∧most≤1000):∃ l at_,ZK z most = some (l,at_)∧ZlL l at_∧(l.length:Int)≤most:=by
 obtain ⟨a,h1,hp,hl⟩:=Zkz hm hz.a hz.b
 have hM:Mk a (List.replicate a.length noC) 0 0:=⟨by simp,Ck.new _,fun v e hv he=>.inl (by
   have:gi (List.replicate a.length noC) v = noC:=by rw [Zb6 hv]; simp
   unfold nx; rw [this]
   match e,he with
   | 0,_ | 1,_=>rfl),fun v e hv he=>by
   have:gi (List.replicate a.length noC) v = noC:=by rw [Zb6 hv]; simp
   unfold ow; rw [this]
   match e,he with
   | 0,_ | 1,_ | 2,_ | 3,_=>decide⟩
 obtain ⟨⟨a',l⟩,h2,h3,h4⟩:=Zk1 (z:=z) hp (by omega) hz.o hM
 dsimp only at h3 h4
 subst h3
 refine ⟨l,a',?_,⟨hp,h4.len,h4.ck,fun v e hv he=>(h4.near v e hv he).imp id (·.2),h4.own⟩,by rw [h4.len]; exact hl⟩
 unfold ZK
 rw [h1,Option.bind_some,Zjz (by omega),Option.bind_some,h2,Option.bind_some]
end Mu
/- Layer 10: check. -/
set_option linter.unusedVariables false
set_option linter.unusedSimpArgs false
set_option maxRecDepth 10000
namespace Mu

def Zde (l:List Zc) (v d:Nat):Int :=
 if nx l v d = -1 then (if ow l v d = 0 then 0 else 9)
 else if nx l v d < 0∨(l.length:Int)≤nx l v d∨nx l v d = v then 3
 else if nx l (nx l v d).toNat ((d + 2) % 4) = v∧ow l (nx l v d).toNat ((d + 2) % 4) = ow l v d∧¬ ow l v d < -2 then 0 else 9
theorem Zlw {d:Nat} (hd:d < 4):Zbd d 2 = some (((d + 2) % 4:Nat):Int):=by
 match d,hd with
 | 0,_ | 1,_ | 2,_ | 3,_=>decide
theorem tm2 {d:Nat} (hd:d < 4):((d:Int) + 2).tmod 4 = (((d + 2) % 4:Nat):Int):=by
 match d,hd with
 | 0,_ | 1,_ | 2,_ | 3,_=>rfl
theorem Zl0 {l:List Zc} {v d:Nat} (hv:v < l.length) (hd:d < 4):ZbT l v d = some (Zde l v d):=by
 unfold ZbT Zde
 have e:((gi l v).Next).get (d:Int) = nx l v d:=rfl
 have e2:((gi l v).Owner).get (d:Int) = ow l v d:=rfl
 rw [ZA (by omega),ZA (by omega),Int.toNat_natCast,e,e2]
 by_cases c:nx l v d = -1
 ·rw [ZI c,if_pos c]
  by_cases c2:ow l v d = 0
  ·rw [Za1 c2,if_pos c2]
  ·rw [ZaK c2,if_neg c2]
 ·rw [ZH c,if_neg c]
  by_cases c2:nx l v d < 0∨(l.length:Int)≤nx l v d∨nx l v d = v
  ·rw [if_pos c2,if_pos (by simpa [or_assoc] using c2)]
  ·rw [if_neg c2,if_neg (by simpa [or_assoc] using c2),Zlw hd,Option.bind_some,ZA (by omega),ZA (by omega)]
   have e3:((gi l (nx l v d).toNat).Next).get (((d + 2) % 4:Nat):Int) = nx l (nx l v d).toNat ((d + 2) % 4):=rfl
   have e4:((gi l (nx l v d).toNat).Owner).get (((d + 2) % 4:Nat):Int) = ow l (nx l v d).toNat ((d + 2) % 4):=rfl
   rw [e3,e4]
   by_cases q1:nx l (nx l v d).toNat ((d + 2) % 4) = v <;> by_cases q2:ow l (nx l v d).toNat ((d + 2) % 4) = ow l v d <;> by_cases q3:ow l v d < -2 <;> simp [q1,q2,q3]
def Zez (l:List Zc) (v:Nat):Int:=match (List.range 4).find? (fun d=>decide (Zde l v d≠0)) with | some d=>Zde l v d | none=>0
def Zdu (l:List Zc):Int:=if 4096 < l.length then 6 else match (List.range l.length).find? (fun v=>decide (Zez l v≠0)) with | some v=>Zez l v | none=>0
theorem Zgc {n:Nat} {f:Nat→Int}:(match (List.range n).find? (fun d=>decide (f d≠0)) with | some d=>f d | none=>0) = 0↔∀ d,d < n→f d = 0:=by
 cases h:(List.range n).find? (fun d=>decide (f d≠0)) with
 | none =>
  rw [List.find?_range_eq_none] at h
  simp only [true_iff]
  intro d hd
  have:=h d hd
  simpa using this
 | some j =>
  rw [List.find?_range_eq_some] at h
  have h1:f j≠0:=by simpa using h.1
  have h2:j < n:=by simpa using h.2.1
  constructor
  ·intro h3; exact absurd h3 h1
  ·intro h3; exact h3 j h2
theorem Zgn {l:List Zc} {v:Nat}:Zez l v = 0↔∀ d,d < 4→Zde l v d = 0:=Zgc
theorem ZhQ {l:List Zc}:Zdu l = 0↔l.length≤4096∧∀ v,v < l.length→∀ d,d < 4→Zde l v d = 0:=by
 unfold Zdu
 by_cases c:4096 < l.length
 ·rw [if_pos c]; constructor
  ·intro h; omega
  ·intro h; omega
 ·rw [if_neg c,Zgc]
  constructor
  ·intro h; exact ⟨by omega,fun v hv=>Zgn.1 (h v hv)⟩
  ·intro h v hv; exact Zgn.2 (h.2 v hv)
theorem ZfI {l:List Zc} {v d:Nat}:Zde l v d = 0↔(nx l v d = -1∧ow l v d = 0)∨∃ w:Nat,nx l v d = w∧w < l.length∧w≠v∧nx l w ((d + 2) % 4) = v∧ow l w ((d + 2) % 4) = ow l v d∧-2≤ow l v d:=by
 unfold Zde
 by_cases c:nx l v d = -1
 ·rw [if_pos c]
  by_cases c2:ow l v d = 0
  ·simp [c,c2]
  ·rw [if_neg c2]
   constructor
   ·intro h; omega
   ·rintro (⟨_,h⟩ | ⟨w,h,_⟩)
    ·exact absurd h c2
    ·omega
 ·rw [if_neg c]
  by_cases c2:nx l v d < 0∨(l.length:Int)≤nx l v d∨nx l v d = v
  ·rw [if_pos c2]
   constructor
   ·intro h; omega
   ·rintro (⟨h,_⟩ | ⟨w,h,h1,h2,_⟩)
    ·exact absurd h c
    ·omega
  ·rw [if_neg c2]
   constructor
   ·intro h
    split at h
    ·rename_i q
     exact .inr ⟨(nx l v d).toNat,by omega,by omega,by omega,q.1,q.2.1,by omega⟩
    ·omega
   ·rintro (⟨h,_⟩ | ⟨w,h,h1,h2,h3,h4,h5⟩)
    ·exact absurd h c
    ·have:(nx l v d).toNat = w:=by omega
     rw [this,if_pos ⟨h3,h4,by omega⟩]
theorem Zd0 {l:List Zc}:Zdu l = 0↔l.length≤4096∧Ck l:=by
 rw [ZhQ]
 constructor
 ·intro h; exact ⟨h.1,⟨fun v d hv hd=>ZfI.1 (h.2 v hv d hd)⟩⟩
 ·intro h; exact ⟨h.1,fun v hv d hd=>ZfI.2 (h.2.s v d hv hd)⟩
theorem ZgM {n:Nat} {f:Nat→Int}:((match (List.range n).find? (fun d=>decide (f d≠0)) with | some d=>(.inr (f d):Unit ⊕ Int) | none=>.inl ())) = if (match (List.range n).find? (fun d=>decide (f d≠0)) with | some d=>f d | none=>0) = 0 then .inl () else .inr (match (List.range n).find? (fun d=>decide (f d≠0)) with | some d=>f d | none=>0):=by
 cases h:(List.range n).find? (fun d=>decide (f d≠0)) with
 | none=>simp
 | some j =>
  rw [List.find?_range_eq_some] at h
  have h1:f j≠0:=by simpa using h.1
  rw [if_neg h1]
theorem ZlS {l:List Zc} {v:Nat} (hv:v < l.length):ze (zR.s1 l v) big 0 = some (if Zez l v = 0 then .inl () else .inr (Zez l v)):=by
 have h:ze (zR.s1 l v) big 0 = some (match (List.range 4).find? (fun d=>decide (Zde l v d≠0)) with | some d=>.inr (Zde l v d) | none=>.inl ()):=by
  refine Zdi (Zbc (by omega)) (fun d hd=>?_) ?_
  ·simp only [zR.s1]
   rw [ZI (by omega),Zl0 hv hd,Option.bind_some]
   by_cases c:Zde l v d = 0
   ·rw [Za1 c,if_neg (by simpa using c),zz (by omega)]
   ·rw [ZaK c,if_pos (by simpa using c)]
  ·simp only [zR.s1]
   rw [ZH (by omega)]
 rw [h,ZgM]; rfl
theorem Zg4 {l:List Zc} (hl:l.length≤1000000000000):zR l = some (Zdu l):=by
 unfold zR Zdu
 by_cases c:4096 < l.length
 ·rw [if_pos c,ZI (by omega)]
 ·rw [if_neg c,ZH (by omega)]
  have h:ze (zR.s0 l) big 0 = some (match (List.range l.length).find? (fun v=>decide (Zez l v≠0)) with | some v=>.inr (Zez l v) | none=>.inl ()):=by
   refine Zdi (Zbc (by omega)) (fun v hv=>?_) ?_
   ·simp only [zR.s0]
    rw [ZI (by omega),ZlS hv,Option.bind_some]
    by_cases c:Zez l v = 0
    ·rw [if_pos c,if_neg (by simpa using c)]
     dsimp only
     rw [zz (by omega)]
    ·rw [if_neg c,if_pos (by simpa using c)]
   ·simp only [zR.s0]
    rw [ZH (by omega)]
  rw [h]
  cases (List.range l.length).find? (fun v=>decide (Zez l v≠0)) <;> simp
theorem Zl9 {l:List Zc} {v d:Nat} (hv:v < l.length) (hd:d < 4):zq.s1 l v d = some (if decide (Zde l v d≠0) = true then .inr (.inr (Zde l v d)) else .inl ((d:Int) + 1)):=by
 unfold zq.s1
 have e:((gi l v).Next).get (d:Int) = nx l v d:=rfl
 have e2:((gi l v).Owner).get (d:Int) = ow l v d:=rfl
 rw [ZI (by omega),ZA (by omega),ZA (by omega),Int.toNat_natCast,e,e2]
 unfold Zde
 by_cases c:nx l v d = -1
 ·rw [ZI c,if_pos c]
  by_cases c2:ow l v d = 0
  ·rw [Za1 c2,if_pos c2,zz (by omega)]; rfl
  ·rw [ZaK c2,if_neg c2]; rfl
 ·rw [ZH c,if_neg c]
  by_cases c2:nx l v d < 0∨(l.length:Int)≤nx l v d∨nx l v d = v
  ·rw [if_pos c2,if_pos (by simpa [or_assoc] using c2)]; rfl
  ·rw [if_neg c2,if_neg (by simpa [or_assoc] using c2),zz (by omega),ZA (by omega),tm2 hd,ZA (by omega),zz (by omega)]
   have e3:((gi l (nx l v d).toNat).Next).get (((d + 2) % 4:Nat):Int) = nx l (nx l v d).toNat ((d + 2) % 4):=rfl
   have e4:((gi l (nx l v d).toNat).Owner).get (((d + 2) % 4:Nat):Int) = ow l (nx l v d).toNat ((d + 2) % 4):=rfl
   rw [e3,e4]
   by_cases q1:nx l (nx l v d).toNat ((d + 2) % 4) = v <;> by_cases q2:ow l (nx l v d).toNat ((d + 2) % 4) = ow l v d <;> by_cases q3:ow l v d < -2 <;> simp [q1,q2,q3]
theorem ZkC {l:List Zc} (hl:l.length≤1000000000000):zq l = some (Zdu l):=by
 unfold zq Zdu
 by_cases c:4096 < l.length
 ·rw [if_pos c,ZI (by omega)]
 ·rw [if_neg c,ZH (by omega)]
  have hrow:∀ v,v < l.length→ze (zq.s1 l v) big 0 = some (if Zez l v = 0 then .inl () else .inr (Zez l v)):=by
   intro v hv
   have h:ze (zq.s1 l v) big 0 = some (match (List.range 4).find? (fun d=>decide (Zde l v d≠0)) with | some d=>.inr (Zde l v d) | none=>.inl ()):=by
    refine Zdi (Zbc (by omega)) (fun d hd=>Zl9 hv hd) ?_
    simp only [zq.s1]
    rw [ZH (by omega)]
   rw [h,ZgM]; rfl
  have h:ze (zq.s0 l) big 0 = some (match (List.range l.length).find? (fun v=>decide (Zez l v≠0)) with | some v=>.inr (Zez l v) | none=>.inl ()):=by
   refine Zdi (Zbc (by omega)) (fun v hv=>?_) ?_
   ·simp only [zq.s0]
    rw [ZI (by omega),hrow v hv,Option.bind_some]
    by_cases c:Zez l v = 0
    ·rw [if_pos c,if_neg (by simpa using c)]
     dsimp only
     rw [zz (by omega)]
    ·rw [if_neg c,if_pos (by simpa using c)]
   ·simp only [zq.s0]
    rw [ZH (by omega)]
  rw [h]
  cases (List.range l.length).find? (fun v=>decide (Zez l v≠0)) <;> simp
end Mu
/- Layer 10: a grid's cells,played with. -/
set_option linter.unusedVariables false
set_option linter.unusedSimpArgs false
set_option maxRecDepth 10000
namespace Mu
structure Rg (l:List Zc):Prop where
 len:l.length≤4096
 nx:∀ v d:Nat,v < l.length→d < 4→nx l v d = -1∨(0≤nx l v d∧nx l v d < l.length)
theorem Rg.wth {l:List Zc} {v w d:Nat} {o:Int} (h:Rg l) (hv:v < l.length) (hw:w < l.length) (hvw:v≠w) (hd:d < 4):Rg (wth l v d w o):=by
 refine ⟨by rw [ZbV]; exact h.len,fun i e hi he=>?_⟩
 rw [ZbV] at hi ⊢
 rw [(Zf5 hv hw hvw hd hi he).1]
 split
 ·omega
 ·split
  ·omega
  ·exact h.nx i e hi he
theorem ZiI {d:Nat} (h:d < 4):noC.Next.get (d:Int) = -1∧noC.Owner.get (d:Int) = 0:=by
 match d,h with
 | 0,_ | 1,_ | 2,_ | 3,_=>exact ⟨rfl,rfl⟩
theorem Rg.add {l:List Zc} (h:Rg l) (hl:l.length < 4096):Rg (l++[noC]):=by
 refine ⟨by simp; omega,fun i e hi he=>?_⟩
 rw [List.length_append,List.length_singleton] at hi ⊢
 unfold Mu.nx
 by_cases c:i < l.length
 ·rw [Zcv c]
  have:=h.nx i e c he
  unfold Mu.nx at this
  omega
 ·rw [show i = l.length + 0 by omega,Zce]
  exact .inl (ZiI he).1
end Mu
/- Layer 10: GridPlays. -/
set_option linter.unusedVariables false
set_option linter.unusedSimpArgs false
set_option maxRecDepth 10000
namespace Mu
theorem Rg.start {n:Nat} (h:n≤4096):Rg (List.replicate n noC):=by
 refine ⟨by simpa using h,fun v d hv hd=>?_⟩
 simp only [List.length_replicate] at hv
 have:gi (List.replicate n noC) v = noC:=by rw [Zb6 (by simpa using hv)]; simp
 unfold Mu.nx
 rw [this]
 exact .inl (ZiI hd).1
end Mu
/- Layer 10: a split edge. -/
set_option linter.unusedVariables false
set_option linter.unusedSimpArgs false
set_option maxRecDepth 10000
namespace Mu
end Mu
/- Layer 10: turned cells; what Split and Of answer. -/
set_option linter.unusedVariables false
set_option linter.unusedSimpArgs false
set_option maxRecDepth 10000
namespace Mu
end Mu
/- Layer 13: what hangs together,by steps. -/
set_option linter.unusedVariables false
set_option linter.unusedSimpArgs false
set_option maxRecDepth 10000
namespace Mu

theorem Zhg {α:Type} [Inhabited α] {l:List α} {n i:Nat} (h:i < n):gi (l.take n) i = gi l i:=by
 unfold gi
 simp [List.getElem?_take,h]
theorem Zly {n:Nat} (h:n≤1200):Zcg 1 n = some (0,(n:Int)):=by
 have key:∀ n:Fin 1201,Zcg 1 ((n:Nat):Int) = some (0,((n:Nat):Int)):=by decide +kernel
 exact key ⟨n,by omega⟩
theorem Zj0 {n:Nat} (h:n≤1200):Zaa [-1] n = some (List.replicate n (-1)):=by
 have L:∃ r,ze Zaa.s0 big (([-1]:List Int).take (List.replicate n (0:Int)).length++(List.replicate n (0:Int)).drop ([-1]:List Int).length,((min ([-1]:List Int).length (List.replicate n (0:Int)).length:Nat):Int)) = some r∧(r.length = n∧∀ i,i < n→gi r i = -1):=by
  refine ZaV (μ:=fun s=>((n:Int) - s.2).toNat) (I:=fun s=>s.1.length = n∧(0≤s.2∧s.2≤(n:Int))∧(0 < n→0 < s.2)∧∀ i:Nat,(i:Int) < s.2→gi s.1 i = -1) (by dsimp only; unfold big; omega) ?_ ?_
  ·cases n with
   | zero=>exact ⟨rfl,by simp,by simp,fun i hi=>by simp at hi; omega⟩
   | succ n =>
    refine ⟨by simp,by simp; omega,fun _=>by simp,fun i hi=>?_⟩
    have:i = 0:=by simp at hi; omega
    subst this
    rfl
  ·rintro ⟨x,m⟩ ⟨h1,h2,h3,h4⟩
   dsimp only at h1 h2 h3 h4 ⊢
   obtain ⟨k,rfl⟩:=Int.eq_ofNat_of_zero_le h2.1
   simp only [Zaa.s0,Int.toNat_natCast]
   by_cases c:(k:Int) < (x.length:Int)
   ·refine .inl ?_
    have t1:(x.take k).length = k:=by rw [List.length_take]; omega
    have t2:(x.drop k).length = n - k:=by rw [List.length_drop]; omega
    rw [ZI c,ZA (by omega),zz (by omega),t1,t2]
    refine ⟨_,rfl,⟨by simp; omega,by dsimp only; omega,fun _=>by dsimp only; omega,fun i hi=>?_⟩,by dsimp only; omega⟩
    dsimp only at hi ⊢
    by_cases q:i < k
    ·rw [Zcv (by rw [t1]; exact q),Zhg q]
     exact h4 i (by omega)
    ·have e:i = (x.take k).length + (i - k):=by rw [t1]; omega
     rw [e,Zce,Zcv (by rw [List.length_take,t1]; omega),Zhg (by omega),Zhg (by omega)]
     exact h4 _ (by omega)
   ·refine .inr ?_
    rw [ZH c]
    exact ⟨_,rfl,h1,fun i hi=>h4 i (by omega)⟩
 obtain ⟨r,e1,e2,e3⟩:=L
 have er:r = List.replicate n (-1):=Zeh (by simp [e2]) fun i hi=>by
  rw [e3 i (by omega),Zb6 (by simp; omega)]
  simp
 unfold Zaa
 rw [ZH (by omega),Option.bind_some,ZA (show inK .u64 (([-1]:List Int).length:Int) by decide),ZA (show inK .u64 (n:Int) from by
  simp only [inK,Go.IntKind.wrap,Go.IntKind.bits,Go.IntKind.signed]
  simp
  omega),show (([-1]:List Int).length:Int) = 1 from rfl,Zly h,Option.bind_some]
 dsimp only
 rw [if_neg (by simp; omega),Option.bind_some,ZbD (by omega),ZA (by omega),Int.toNat_natCast,e1,Option.bind_some,er]

def Adj (l:List Zc) (a b:Nat):Prop:=∃ d,d < 4∧nx l a d = b
inductive Rch (l:List Zc) (v:Nat):Nat→Nat→Prop
 | zero:Rch l v 0 v
 | succ {n a b}:Rch l v n a→Adj l a b→Rch l v (n + 1) b
theorem Adj.lt {l:List Zc} (h:Ck l) {a b:Nat} (ha:a < l.length) (hab:Adj l a b):b < l.length:=by
 obtain ⟨d,hd,e⟩:=hab
 have:=h.lt ha hd
 omega
theorem Adj.symm {l:List Zc} (h:Ck l) {a b:Nat} (ha:a < l.length) (hab:Adj l a b):Adj l b a:=by
 obtain ⟨d,hd,e⟩:=hab
 rcases h.s a d ha hd with ⟨e2,_⟩ | ⟨w,e2,_,_,e3,_⟩
 ·omega
 ·have:w = b:=by omega
  subst this
  exact ⟨(d + 2) % 4,by omega,e3⟩
theorem Rch.lt {l:List Zc} (h:Ck l) {v n w:Nat} (hv:v < l.length) (hr:Rch l v n w):w < l.length:=by
 induction hr with
 | zero=>exact hv
 | succ _ hab ih=>exact hab.lt h ih
theorem Rch.trans {l:List Zc} {a b c n m:Nat} (h1:Rch l a n b) (h2:Rch l b m c):Rch l a (n + m) c:=by
 induction h2 with
 | zero=>exact h1
 | succ _ hab ih=>exact .succ ih hab
theorem Rch.symm {l:List Zc} (h:Ck l) {v n w:Nat} (hv:v < l.length) (hr:Rch l v n w):Rch l w n v:=by
 induction hr with
 | zero=>exact .zero
 | succ hr hab ih =>
  have ha:=hr.lt h hv
  have:=(Rch.succ .zero (hab.symm h ha)).trans ih
  rw [Nat.zero_add,Nat.add_comm] at this
  exact this
def Dist (l:List Zc) (v w n:Nat):Prop:=Rch l v n w∧∀ m,Rch l v m w→n≤m
theorem Dist.uniq {l:List Zc} {v w n m:Nat} (h1:Dist l v w n) (h2:Dist l v w m):n = m:=by
 have:=h1.2 m h2.1
 have:=h2.2 n h1.1
 omega
theorem Rch.dist {l:List Zc} {v w n:Nat} (h:Rch l v n w):∃ m,m≤n∧Dist l v w m:=by
 induction n using Nat.strongRecOn with
 | _ n ih =>
  by_cases c:∃ m,m < n∧Rch l v m w
  ·obtain ⟨m,hm,hr⟩:=c
   obtain ⟨k,hk,hd⟩:=ih m hm hr
   exact ⟨k,by omega,hd⟩
  ·refine ⟨n,Nat.le_refl _,h,fun m hm=>?_⟩
   by_cases q:n≤m
   ·exact q
   ·exact absurd ⟨m,by omega,hm⟩ c
theorem Dist.symm {l:List Zc} (h:Ck l) {v w n:Nat} (hv:v < l.length) (hd:Dist l v w n):Dist l w v n :=
 ⟨hd.1.symm h hv,fun m hm=>hd.2 m (hm.symm h (hd.1.lt h hv))⟩
theorem Dist.pred {l:List Zc} {v w n:Nat} (hd:Dist l v w (n + 1)):∃ a,Dist l v a n∧Adj l a w:=by
 obtain ⟨h1,h2⟩:=hd
 cases h1 with
 | succ hr hab =>
  refine ⟨_,⟨hr,fun m hm=>?_⟩,hab⟩
  have:=h2 (m + 1) (.succ hm hab)
  omega
theorem ZiK:∀ {n m:Nat} (f:Nat→Nat),(∀ i,i < n→f i < m)→(∀ i j,i < n→j < n→f i = f j→i = j)→n≤m
 | 0,m,f,_,_=>Nat.zero_le _
 | n + 1,0,f,h,_=>absurd (h 0 (by omega)) (by omega)
 | n + 1,m + 1,f,h,hi=>by
  have:=ZiK (n:=n) (m:=m) (fun i=>if f i = m then f n else f i) (fun i hi'=>by
   by_cases c:f i = m
   ·rw [if_pos c]
    have:=h n (by omega)
    by_cases c2:f n = m
    ·have:=hi i n (by omega) (by omega) (by omega); omega
    ·omega
   ·rw [if_neg c]
    have:=h i (by omega)
    omega) (fun i j hi' hj' e=>by
   by_cases c:f i = m <;> by_cases c2:f j = m
   ·exact hi i j (by omega) (by omega) (by omega)
   ·rw [if_pos c,if_neg c2] at e
    have:=hi n j (by omega) (by omega) e; omega
   ·rw [if_neg c,if_pos c2] at e
    have:=hi i n (by omega) (by omega) e; omega
   ·rw [if_neg c,if_neg c2] at e
    exact hi i j (by omega) (by omega) e)
  omega
theorem Dist.all {l:List Zc} {v w:Nat}:∀ n,Dist l v w n→∀ m,m≤n→∃ a,Dist l v a m
 | 0,h,m,hm=>⟨w,by rw [show m = 0 by omega]; exact h⟩
 | n + 1,h,m,hm=>by
  by_cases c:m = n + 1
  ·exact ⟨w,by rw [c]; exact h⟩
  ·obtain ⟨a,ha,_⟩:=h.pred
   exact Dist.all n ha m (by omega)
theorem Dist.lt {l:List Zc} (h:Ck l) {v w n:Nat} (hv:v < l.length) (hd:Dist l v w n):n < l.length:=by
 have hall:=fun m (hm:m < n + 1)=>hd.all n m (by omega)
 have:=ZiK (n:=n + 1) (m:=l.length) (fun m=>if hm:m < n + 1 then (hall m hm).choose else 0) (fun i hi=>by
  rw [dif_pos hi]
  exact (hall i hi).choose_spec.1.lt h hv) (fun i j hi hj e=>by
  rw [dif_pos hi,dif_pos hj] at e
  have d1:=(hall i hi).choose_spec
  have d2:=(hall j hj).choose_spec
  rw [e] at d1
  exact d1.uniq d2)
 omega
end Mu
/- Layer 13: spread. -/
set_option linter.unusedVariables false
set_option linter.unusedSimpArgs false
set_option maxRecDepth 10000
namespace Mu

theorem Zec:∀ {m:List Bool} {w:Nat},w < m.length→gi m w = false→(m.set w true).count false + 1 = m.count false
 | [],w,h,_=>by simp at h
 | b :: m,0,_,hf=>by
  have:b = false:=hf
  subst this
  simp
 | b :: m,w + 1,h,hf=>by
  have:=Zec (m:=m) (w:=w) (by simpa using h) hf
  cases b <;> simp [List.count_cons] <;> omega
structure Sb (l:List Zc) (v:Nat) (δ:Nat→Nat) (fr dr:List Int) (mt:List Bool):Prop where
 lf:fr.length = l.length
 ld:dr.length = l.length
 lm:mt.length = l.length
 mv:gi mt v = true
 dv:δ v = 0
 rc:∀ a,gi mt a = true→Rch l v (δ a) a
 fm:∀ a,gi mt a = true→a≠v→∃ p d:Nat,gi fr a = p∧gi dr a = d∧d < 4∧gi mt p = true∧nx l p d = a∧δ a = δ p + 1
 un:∀ a,a < l.length→gi mt a = false→gi dr a = -1
structure So (l:List Zc) (v:Nat) (δ:Nat→Nat) (q:List Int) (mt:List Bool):Prop where
 el:∀ x∈q,∃ a:Nat,x = a∧a < l.length∧gi mt a = true
 so:q.Pairwise fun x y=>δ x.toNat≤δ y.toNat∧δ y.toNat≤δ x.toNat + 1
 pr:∀ a:Nat,gi mt a = true→(a:Int) ∉ q→(∀ x∈q,δ a≤δ x.toNat)∧∀ b,Adj l a b→gi mt b = true∧δ b≤δ a + 1
structure Si (l:List Zc) (v h:Nat) (δ:Nat→Nat) (q:List Int) (mt:List Bool) (d:Nat):Prop where
 hm:gi mt h = true
 el:∀ x∈q,∃ a:Nat,x = a∧a < l.length∧gi mt a = true∧δ h≤δ a∧δ a≤δ h + 1
 so:q.Pairwise fun x y=>δ x.toNat≤δ y.toNat
 pr:∀ a:Nat,gi mt a = true→(a:Int) ∉ q→a≠h→δ a≤δ h∧∀ b,Adj l a b→gi mt b = true∧δ b≤δ a + 1
 hd:∀ e,e < d→∀ b:Nat,nx l h e = b→gi mt b = true∧δ b≤δ h + 1
theorem So.open {l:List Zc} {v h:Nat} {δ:Nat→Nat} {t:List Int} {mt:List Bool} (s:So l v δ ((h:Int) :: t) mt):Si l v h δ t mt 0:=by
 have hs:=List.pairwise_cons.1 s.so
 refine ⟨?_,fun x hx=>?_,hs.2.imp (fun h=>h.1),fun a ha hn hne=>?_,fun e he=>by omega⟩
 ·obtain ⟨a,e,_,hh⟩:=s.el _ List.mem_cons_self
  obtain rfl:h = a:=by omega
  exact hh
 ·obtain ⟨a,e,h1,h2⟩:=s.el x (List.mem_cons_of_mem _ hx)
  have:=hs.1 x hx
  subst e
  exact ⟨a,rfl,h1,h2,by simpa using this.1,by simpa using this.2⟩
 ·have:=s.pr a ha (by
   rw [List.mem_cons]
   rintro (h | h)
   ·omega
   ·exact hn h)
  exact ⟨by simpa using this.1 _ List.mem_cons_self,this.2⟩
theorem Si.close {l:List Zc} {v h:Nat} {δ:Nat→Nat} {t:List Int} {mt:List Bool} (s:Si l v h δ t mt 4):So l v δ t mt:=by
 have b:∀ x∈t,δ h≤δ x.toNat∧δ x.toNat≤δ h + 1:=by
  intro x hx
  obtain ⟨a,rfl,_,_,h1,h2⟩:=s.el x hx
  exact ⟨h1,h2⟩
 refine ⟨fun x hx=>?_,?_,fun a ha hn=>?_⟩
 ·obtain ⟨a,e,h1,h2,_⟩:=s.el x hx
  exact ⟨a,e,h1,h2⟩
 ·refine List.Pairwise.imp_of_mem ?_ s.so
  intro x y hx hy hxy
  have:=b x hx
  have:=b y hy
  exact ⟨hxy,by omega⟩
 ·by_cases c:a = h
  ·subst c
   refine ⟨fun x hx=>(b x hx).1,?_⟩
   rintro w ⟨d,hd,e⟩
   exact s.hd d hd w e
  ·have:=s.pr a ha hn c
   refine ⟨fun x hx=>?_,this.2⟩
   have:=b x hx
   omega
theorem Sb.meet {l:List Zc} (hc:Ck l) {v h d w:Nat} {δ:Nat→Nat} {fr dr:List Int} {mt:List Bool} (s:Sb l v δ fr dr mt) (hm:gi mt h = true) (hd:d < 4) (hw:nx l h d = w) (hwl:w < l.length) (hu:gi mt w = false) :
  Sb l v (fun a=>if a = w then δ h + 1 else δ a) (fr.set w h) (dr.set w d) (mt.set w true):=by
 have gm:∀ a,gi (mt.set w true) a = if a = w then true else gi mt a:=fun a=>Zcw (by rw [s.lm]; exact hwl)
 have gf:∀ a,gi (fr.set w (h:Int)) a = if a = w then (h:Int) else gi fr a:=fun a=>Zcw (by rw [s.lf]; exact hwl)
 have gd:∀ a,gi (dr.set w (d:Int)) a = if a = w then (d:Int) else gi dr a:=fun a=>Zcw (by rw [s.ld]; exact hwl)
 have hwh:h≠w:=by rintro rfl; rw [hm] at hu; cases hu
 have hwv:v≠w:=by rintro rfl; rw [s.mv] at hu; cases hu
 have old:∀ a,gi mt a = true→a≠w:=by rintro a ha rfl; rw [ha] at hu; cases hu
 refine ⟨by simpa using s.lf,by simpa using s.ld,by simpa using s.lm,?_,?_,fun a ha=>?_,fun a ha hav=>?_,fun a ha hau=>?_⟩
 ·rw [gm,s.mv]; simp
 ·rw [if_neg hwv]; exact s.dv
 ·by_cases c:a = w
  ·subst c
   rw [if_pos rfl]
   exact .succ (s.rc h hm) ⟨d,hd,hw⟩
  ·rw [if_neg c]
   rw [gm,if_neg c] at ha
   exact s.rc a ha
 ·by_cases c:a = w
  ·subst c
   refine ⟨h,d,by rw [gf,if_pos rfl],by rw [gd,if_pos rfl],hd,by rw [gm,hm]; simp,hw,?_⟩
   rw [if_pos rfl,if_neg hwh]
  ·rw [gm,if_neg c] at ha
   obtain ⟨p,e,h1,h2,h3,h4,h5,h6⟩:=s.fm a ha hav
   refine ⟨p,e,by rw [gf,if_neg c]; exact h1,by rw [gd,if_neg c]; exact h2,h3,by rw [gm,h4]; simp,h5,?_⟩
   rw [if_neg c,if_neg (old p h4)]; exact h6
 ·rw [gm] at hau
  by_cases c:a = w
  ·rw [if_pos c] at hau; cases hau
  ·rw [if_neg c] at hau
   rw [gd,if_neg c]
   exact s.un a ha hau
theorem Si.meet {l:List Zc} {v h d w:Nat} {δ:Nat→Nat} {q:List Int} {mt:List Bool} (lm:mt.length = l.length) (s:Si l v h δ q mt d) (hw:nx l h d = w) (hwl:w < l.length) (hu:gi mt w = false) :
  Si l v h (fun a=>if a = w then δ h + 1 else δ a) (q++[(w:Int)]) (mt.set w true) (d + 1):=by
 have gm:∀ a,gi (mt.set w true) a = if a = w then true else gi mt a:=fun a=>Zcw (by rw [lm]; exact hwl)
 have old:∀ a,gi mt a = true→a≠w:=by rintro a ha rfl; rw [ha] at hu; cases hu
 have hwh:h≠w:=old h s.hm
 have keep:∀ a,gi mt a = true→gi (mt.set w true) a = true:=fun a ha=>by rw [gm,ha]; simp
 refine ⟨keep h s.hm,fun x hx=>?_,?_,fun a ha hn hne=>?_,fun e he b hb=>?_⟩
 ·rw [List.mem_append,List.mem_singleton] at hx
  rw [if_neg hwh]
  rcases hx with hx | rfl
  ·obtain ⟨a,e,h1,h2,h3,h4⟩:=s.el x hx
   exact ⟨a,e,h1,keep a h2,by rw [if_neg (old a h2)]; exact h3,by rw [if_neg (old a h2)]; exact h4⟩
  ·exact ⟨w,rfl,hwl,by rw [gm,if_pos rfl],by rw [if_pos rfl]; omega,by rw [if_pos rfl]; omega⟩
 ·rw [List.pairwise_append]
  refine ⟨List.Pairwise.imp_of_mem ?_ s.so,List.pairwise_singleton _ _,fun x hx y hy=>?_⟩
  ·intro x y hx hy hxy
   obtain ⟨a,rfl,h1,h2,h3,h4⟩:=s.el x hx
   obtain ⟨b,rfl,k1,k2,k3,k4⟩:=s.el y hy
   simp only [Int.toNat_natCast] at hxy ⊢
   rw [if_neg (old a h2),if_neg (old b k2)]
   exact hxy
  ·rw [List.mem_singleton] at hy
   subst hy
   obtain ⟨a,rfl,h1,h2,h3,h4⟩:=s.el x hx
   simp only [Int.toNat_natCast]
   rw [if_neg (old a h2)]
   simpa using h4
 ·rw [List.mem_append,List.mem_singleton] at hn
  have haw:a≠w:=fun c=>hn (.inr (by omega))
  rw [gm,if_neg haw] at ha
  have:=s.pr a ha (fun c=>hn (.inl c)) hne
  rw [if_neg haw,if_neg hwh]
  refine ⟨this.1,fun b hb=>?_⟩
  have:=this.2 b hb
  exact ⟨keep b this.1,by rw [if_neg (old b this.1)]; exact this.2⟩
 ·rw [if_neg hwh]
  by_cases c:e = d
  ·subst c
   have:b = w:=by omega
   subst this
   exact ⟨by rw [gm,if_pos rfl],by rw [if_pos rfl]; omega⟩
  ·have:=s.hd e (by omega) b hb
   exact ⟨keep b this.1,by rw [if_neg (old b this.1)]; exact this.2⟩
theorem Si.skip {l:List Zc} {v h d:Nat} {δ:Nat→Nat} {q:List Int} {mt:List Bool} (s:Si l v h δ q mt d) (hs:∀ w:Nat,nx l h d = w→gi mt w = true):Si l v h δ q mt (d + 1):=by
 refine ⟨s.hm,s.el,s.so,s.pr,fun e he b hb=>?_⟩
 by_cases c:e = d
 ·subst c
  have hm:=hs b hb
  refine ⟨hm,?_⟩
  by_cases c1:(b:Int)∈q
  ·obtain ⟨a,e,_,_,_,h4⟩:=s.el _ c1
   have:b = a:=by omega
   subst this; exact h4
  ·by_cases c2:b = h
   ·subst c2; omega
   ·have:=(s.pr b hm c1 c2).1
    omega
 ·exact s.hd e (by omega) b hb
end Mu
/- Layer 13: spread,walked. -/
set_option linter.unusedVariables false
set_option linter.unusedSimpArgs false
set_option maxRecDepth 10000
namespace Mu

theorem ZiD {l:List Zc} (hc:Ck l) (hl:l.length≤4096) {v h:Nat} {t0 t:List Int} {δ:Nat→Nat} {fr dr:List Int} {mt:List Bool} (hh:h < l.length) (sb:Sb l v δ fr dr mt) (si:Si l v h δ t mt 0) (hn:mt.count false + t.length≤l.length) :
  ∃ r:List Int × List Int × List Int × List Bool,ze (Zat.s1 l ((h:Int) :: t0)) big (fr,dr,t,mt,0) = some r∧∃ δ',Sb l v δ' r.1 r.2.1 r.2.2.2∧Si l v h δ' r.2.2.1 r.2.2.2 4∧r.2.2.2.count false + r.2.2.1.length = mt.count false + t.length:=by
 have g0:∀ x:List Int,gi ((h:Int) :: x) (0:Int).toNat = h:=fun _=>rfl
 refine ZbR (n:=4) (I:=fun d (s:List Int × List Int × List Int × List Bool × Int)=>s.2.2.2.2 = d∧∃ δ',Sb l v δ' s.1 s.2.1 s.2.2.2.1∧Si l v h δ' s.2.2.1 s.2.2.2.1 d∧s.2.2.2.1.count false + s.2.2.1.length = mt.count false + t.length) (R:=fun r:List Int × List Int × List Int × List Bool=>∃ δ',Sb l v δ' r.1 r.2.1 r.2.2.2∧Si l v h δ' r.2.2.1 r.2.2.2 4∧r.2.2.2.count false + r.2.2.1.length = mt.count false + t.length) (Zbc (by omega)) ⟨rfl,δ,sb,si,rfl⟩ ?_ ?_
 ·rintro d ⟨fr',dr',t',mt',x⟩ hd ⟨hx,δ',sb',si',hn'⟩
  dsimp only at hx sb' si' hn'
  subst hx
  simp only [Zat.s1]
  rw [ZI (by omega),g0,ZA (by omega),ZA (by omega),Int.toNat_natCast]
  have e:((gi l h).Next).get (d:Int) = nx l h d:=rfl
  rw [e]
  have hlt:=hc.lt hh (show d < 4 from hd)
  have lm:=sb'.lm
  have lf:=sb'.lf
  have ld:=sb'.ld
  by_cases c:0≤nx l h d
  ·obtain ⟨w,hw⟩:∃ w:Nat,nx l h d = w:=⟨(nx l h d).toNat,by omega⟩
   rw [hw]
   rw [hw] at hlt
   have hwl:w < l.length:=by omega
   rw [ZI (by omega),ZA (by omega),Option.bind_some,Int.toNat_natCast]
   cases hm:gi mt' w with
   | true =>
    rw [if_neg (by decide),zz (by omega)]
    refine ⟨_,rfl,rfl,δ',sb',si'.skip (fun w' hw'=>?_),hn'⟩
    have:w' = w:=by omega
    rw [this]; exact hm
   | false =>
    have hcount:=Zec (m:=mt') (w:=w) (by omega) hm
    rw [if_pos (by decide),ZA (by omega),ZA (by omega),ZA (by omega),ZA (by simp; omega),zz (by omega)]
    refine ⟨_,rfl,rfl,_,sb'.meet hc si'.hm hd hw hwl hm,si'.meet lm hw hwl hm,?_⟩
    simp only [List.length_append,List.length_cons,List.length_nil]
    omega
  ·rw [ZH (by omega),Option.bind_some,if_neg (by decide),zz (by omega)]
   exact ⟨_,rfl,rfl,δ',sb',si'.skip (fun w' hw'=>by omega),hn'⟩
 ·rintro ⟨fr',dr',t',mt',x⟩ ⟨hx,δ',sb',si',hn'⟩
  dsimp only at hx sb' si' hn'
  subst hx
  simp only [Zat.s1]
  rw [ZH (by omega)]
  exact ⟨_,rfl,δ',sb',si',hn'⟩
structure Spr (l:List Zc) (v:Nat) (fr dr:List Int):Prop where
 lf:fr.length = l.length
 ld:dr.length = l.length
 fm:∀ a n,Dist l v a n→a≠v→∃ p d m:Nat,gi fr a = p∧gi dr a = d∧d < 4∧nx l p d = a∧Dist l v p m∧n = m + 1
 un:∀ a,a < l.length→(∀ n,¬ Rch l v n a)→gi dr a = -1
theorem ZkJ {l:List Zc} (hc:Ck l) {v:Nat} {δ:Nat→Nat} {fr dr:List Int} {mt:List Bool} (hv:v < l.length) (sb:Sb l v δ fr dr mt) (so:So l v δ [] mt):Spr l v fr dr:=by
 have all:∀ n a,Rch l v n a→gi mt a = true∧δ a≤n:=by
  intro n a h
  induction h with
  | zero=>exact ⟨sb.mv,by rw [sb.dv]; omega⟩
  | succ hr hab ih =>
   have:=(so.pr _ ih.1 (by simp)).2 _ hab
   exact ⟨this.1,by omega⟩
 have dist:∀ a,gi mt a = true→Dist l v a (δ a):=fun a ha=>⟨sb.rc a ha,fun m hm=>(all m a hm).2⟩
 refine ⟨sb.lf,sb.ld,fun a n hd hav=>?_,fun a ha hu=>?_⟩
 ·have hm:=(all n a hd.1).1
  obtain ⟨p,d,h1,h2,h3,h4,h5,h6⟩:=sb.fm a hm hav
  refine ⟨p,d,δ p,h1,h2,h3,h5,dist p h4,?_⟩
  have:=(dist a hm).uniq hd
  omega
 ·refine sb.un a ha ?_
  cases h:gi mt a with
  | false=>rfl
  | true=>exact absurd (sb.rc a h) (hu _)
theorem Zj1 {l:List Zc} (hc:Ck l) (hl:l.length≤1200) {v:Nat} (hv:v < l.length):∃ fr dr,Zat l v = some (fr,dr)∧Spr l v fr dr:=by
 have gr:∀ a,gi (List.replicate l.length false) a = false:=by
  intro a
  by_cases h:a < l.length
  ·rw [Zb6 (by simpa using h)]; simp
  ·rw [Zfy (by simpa using h)]; rfl
 have gr2:∀ a,a < l.length→gi (List.replicate l.length (-1:Int)) a = -1:=by
  intro a h
  rw [Zb6 (by simpa using h)]; simp
 have gm:∀ a,gi ((List.replicate l.length false).set v true) a = if a = v then true else false:=by
  intro a
  rw [Zcw (by simpa using hv),gr]
 have sb0:Sb l v (fun _=>0) (List.replicate l.length (-1)) (List.replicate l.length (-1)) ((List.replicate l.length false).set v true):=by
  refine ⟨by simp,by simp,by simp,by rw [gm,if_pos rfl],rfl,fun a ha=>?_,fun a ha hav=>?_,fun a ha hu=>gr2 a ha⟩
  ·rw [gm] at ha
   by_cases c:a = v
   ·subst c; exact .zero
   ·rw [if_neg c] at ha; cases ha
  ·rw [gm,if_neg hav] at ha; cases ha
 have so0:So l v (fun _=>0) [(v:Int)] ((List.replicate l.length false).set v true):=by
  refine ⟨fun x hx=>?_,List.pairwise_singleton _ _,fun a ha hn=>?_⟩
  ·rw [List.mem_singleton] at hx
   exact ⟨v,hx,hv,by rw [gm,if_pos rfl]⟩
  ·rw [gm] at ha
   by_cases c:a = v
   ·subst c; exact absurd List.mem_cons_self hn
   ·rw [if_neg c] at ha; cases ha
 have cnt0:((List.replicate l.length false).set v true).count false + 1 = l.length:=by
  rw [Zec (by simpa using hv) (gr v)]; simp
 obtain ⟨r,h1,h2⟩:=ZaV (step:=Zat.s0 l) (s0:=(List.replicate l.length (-1),List.replicate l.length (-1),[(v:Int)],(List.replicate l.length false).set v true)) (μ:=fun s:List Int × List Int × List Int × List Bool=>s.2.2.2.count false + s.2.2.1.length) (I:=fun s=>∃ δ,Sb l v δ s.1 s.2.1 s.2.2.2∧So l v δ s.2.2.1 s.2.2.2∧s.2.2.2.count false + s.2.2.1.length≤l.length) (R:=fun r:List Int × List Int=>Spr l v r.1 r.2) (Zbc (by simp only [List.length_cons,List.length_nil]; omega)) ⟨_,sb0,so0,by simp only [List.length_cons,List.length_nil]; omega⟩ (by
  rintro ⟨fr,dr,q,mt⟩ ⟨δ,sb,so,hn⟩
  dsimp only at sb so hn
  simp only [Zat.s0]
  cases q with
  | nil =>
   right
   rw [ZH (by simp)]
   exact ⟨_,rfl,ZkJ hc hv sb so⟩
  | cons x t =>
   left
   obtain ⟨h,rfl,hh,_⟩:=so.el x List.mem_cons_self
   rw [List.length_cons] at hn
   obtain ⟨⟨fr',dr',t',mt'⟩,e1,δ',sb',si',hn'⟩:=ZiD (t0:=t) hc (by omega) hh sb so.open (by omega)
   dsimp only at e1 sb' si' hn'
   have hd:List.drop (1:Int).toNat ((h:Int) :: t) = t:=rfl
   rw [ZI (by simp <;> omega),ZA (by simp <;> omega),ZA (by simp <;> omega),hd,e1,Option.bind_some]
   refine ⟨_,rfl,⟨δ',sb',si'.close,by dsimp only; omega⟩,?_⟩
   simp only [List.length_cons]
   omega)
 obtain ⟨fr,dr⟩:=r
 refine ⟨fr,dr,?_,h2⟩
 unfold Zat
 rw [Zj0 hl,Option.bind_some,Option.bind_some,ZA (by omega),Int.toNat_natCast,ZA (by simp; omega),Int.toNat_natCast,h1,Option.bind_some]
end Mu
/- Layer 13: far. -/
set_option linter.unusedVariables false
set_option linter.unusedSimpArgs false
set_option maxRecDepth 10000
namespace Mu

structure Fa (l:List Zc) (v r i d:Nat) (far:List Int):Prop where
 lf:far.length = l.length
 so:∀ a,a < l.length→gi far a = -1∨∃ n:Nat,gi far a = n∧Dist l v a n∧n≤r + 1
 al:∀ a n,Dist l v a n→n≤r→gi far a = n
 nw:∀ (a b e:Nat),e < 4→Dist l v a r→nx l a e = b→(a < i∨a = i∧e < d)→0≤gi far b
def ZjK (l:List Zc) (v a:Nat) (x:Int):Prop:=(x = -1∧∀ n,¬ Rch l v n a)∨∃ n:Nat,x = n∧Dist l v a n
theorem Fa.close {l:List Zc} (hc:Ck l) {v r:Nat} {far:List Int} (hv:v < l.length) (h:Fa l v r l.length 0 far):Fa l v (r + 1) 0 0 far:=by
 refine ⟨h.lf,fun a ha=>(h.so a ha).imp id (fun ⟨n,e,d,k⟩=>⟨n,e,d,by omega⟩),fun a n hd hn=>?_,fun a b e he hd hw hh=>by omega⟩
 by_cases c:n≤r
 ·exact h.al a n hd c
 ·obtain rfl:n = r + 1:=by omega
  obtain ⟨p,hp,e,he,hw⟩:=hd.pred
  have hpl:=hp.1.lt hc hv
  have:=h.nw p a e he hp hw (.inl hpl)
  rcases h.so a (hd.1.lt hc hv) with e1 | ⟨m,e1,e2,e3⟩
  ·omega
  ·rw [e1,e2.uniq hd]
theorem Zlu {l:List Zc} (hc:Ck l) (hl:l.length≤4096) {v r i:Nat} {far:List Int} (hv:v < l.length) (hi:i < l.length) (h:Fa l v r i 0 far) (hr:r≤4096) :
  ∃ far',ze (ZR.s3 l r i) big (far,0) = some far'∧Fa l v r (i + 1) 0 far':=by
 refine ZbR (n:=4) (I:=fun d (s:List Int × Int)=>s.2 = d∧Fa l v r i d s.1) (R:=fun far'=>Fa l v r (i + 1) 0 far') (Zbc (by omega)) ⟨rfl,h⟩ ?_ ?_
 ·rintro d ⟨f,x⟩ hd ⟨hx,hf⟩
  dsimp only at hx hf
  subst hx
  have lf:=hf.lf
  simp only [ZR.s3]
  rw [ZI (by omega),ZA (by omega),ZA (by omega),ZA (by omega),Int.toNat_natCast]
  have e:((gi l i).Next).get (d:Int) = nx l i d:=rfl
  rw [e]
  have hlt:=hc.lt hi (show d < 4 from hd)
  have skip:(Dist l v i r→∀ b:Nat,nx l i d = b→0≤gi f b)→Fa l v r i (d + 1) f:=fun hs=>⟨hf.lf,hf.so,hf.al,fun a b e he ha hw hh=>by
   by_cases c:a = i∧e = d
   ·obtain ⟨rfl,rfl⟩:=c
    exact hs ha b hw
   ·exact hf.nw a b e he ha hw (by omega)⟩
  by_cases c1:gi f i = r∧0≤nx l i d
  ·obtain ⟨w,hw⟩:∃ w:Nat,nx l i d = w:=⟨(nx l i d).toNat,by omega⟩
   have hd0:Dist l v i r:=by
    rcases hf.so i hi with q | ⟨n,q,q2,_⟩
    ·omega
    ·have:n = r:=by omega
     subst this; exact q2
   have hmx:max (nx l i d) 0 = (w:Int):=by omega
   rw [if_pos (by simp [c1]),hmx,ZA (by omega),Option.bind_some,Int.toNat_natCast]
   have hwl:w < l.length:=by omega
   by_cases c2:gi f w < 0
   ·rw [ZI c2,zz (by omega),ZA (by omega),zz (by omega),hw,Int.toNat_natCast]
    have g:∀ a,gi (f.set w ((r:Int) + 1)) a = if a = w then (r:Int) + 1 else gi f a:=fun a=>Zcw (by omega)
    have dw:Dist l v w (r + 1):=by
     refine ⟨.succ hd0.1 ⟨d,hd,hw⟩,fun m hm=>?_⟩
     obtain ⟨k,hk,hdk⟩:=hm.dist
     by_cases q:k≤r
     ·have:=hf.al w k hdk q; omega
     ·omega
    refine ⟨_,rfl,rfl,by simpa using hf.lf,fun a ha=>?_,fun a n hdn hn=>?_,fun a b e he ha hw' hh=>?_⟩
    ·rw [g]
     by_cases q:a = w
     ·rw [if_pos q]; right; exact ⟨r + 1,by omega,by rw [q]; exact dw,by omega⟩
     ·rw [if_neg q]; exact hf.so a ha
    ·rw [g]
     by_cases q:a = w
     ·subst q
      have:=hf.al a n hdn hn; omega
     ·rw [if_neg q]; exact hf.al a n hdn hn
    ·rw [g]
     by_cases q:b = w
     ·rw [if_pos q]; omega
     ·rw [if_neg q]
      refine hf.nw a b e he ha hw' ?_
      by_cases q2:a = i∧e = d
      ·obtain ⟨rfl,rfl⟩:=q2; omega
      ·omega
   ·rw [ZH c2,zz (by omega)]
    refine ⟨_,rfl,rfl,skip (fun _ b hb=>?_)⟩
    have:b = w:=by omega
    subst this; omega
  ·rw [if_neg (by simpa using c1),Option.bind_some,if_neg (by decide),zz (by omega)]
   refine ⟨_,rfl,rfl,skip (fun hd0 b hb=>?_)⟩
   exact absurd ⟨hf.al i r hd0 (Nat.le_refl _),by omega⟩ c1
 ·rintro ⟨f,x⟩ ⟨hx,hf⟩
  dsimp only at hx hf
  subst hx
  simp only [ZR.s3]
  rw [ZH (by omega)]
  exact ⟨_,rfl,hf.lf,hf.so,hf.al,fun a b e he ha hw hh=>hf.nw a b e he ha hw (by omega)⟩
theorem Zlt {l:List Zc} (hc:Ck l) (hl:l.length≤4096) {v r:Nat} {far:List Int} (hv:v < l.length) (h:Fa l v r 0 0 far) (hr:r≤4096) :
  ∃ far',ze (ZR.s2 l r) big (far,0) = some far'∧Fa l v (r + 1) 0 0 far':=by
 refine ZbR (n:=l.length) (I:=fun i (s:List Int × Int)=>s.2 = i∧Fa l v r i 0 s.1) (R:=fun far'=>Fa l v (r + 1) 0 0 far') (Zbc (by omega)) ⟨rfl,h⟩ ?_ ?_
 ·rintro i ⟨f,x⟩ hi ⟨hx,hf⟩
  dsimp only at hx hf
  subst hx
  obtain ⟨f',e1,e2⟩:=Zlu hc hl hv hi hf hr
  simp only [ZR.s2]
  rw [ZI (by omega),e1,Option.bind_some,zz (by omega)]
  exact ⟨_,rfl,rfl,e2⟩
 ·rintro ⟨f,x⟩ ⟨hx,hf⟩
  dsimp only at hx hf
  subst hx
  simp only [ZR.s2]
  rw [ZH (by omega)]
  exact ⟨_,rfl,hf.close hc hv⟩
theorem Zls {l:List Zc} (hl:l.length≤4096):ze (ZR.s0 l) big (List.replicate l.length 0,0) = some (List.replicate l.length (-1)):=by
 refine ZbH (fun n:Nat=>(List.replicate n (-1)++List.replicate (l.length - n) 0,(n:Int))) (n:=l.length) (Zbc (by omega)) (by simp) (fun n hn=>?_) ?_
 ·simp only [ZR.s0]
  rw [ZI (by omega),ZA (by simp; omega),zz (by omega),Int.toNat_natCast,show l.length - n = l.length - (n + 1) + 1 by omega,List.replicate_succ,List.set_append_right _ _ (by simp),List.replicate_succ']
  simp
 ·simp only [ZR.s0]
  rw [ZH (by omega)]
  simp
theorem ZlR {l:List Zc} (hc:Ck l) (hl:l.length≤4096) {v:Nat} (hv:v < l.length):∃ far,ZR l v = some far∧far.length = l.length∧∀ a,a < l.length→ZjK l v a (gi far a):=by
 have gr:∀ a,a < l.length→gi (List.replicate l.length (-1:Int)) a = -1:=by
  intro a h
  rw [Zb6 (by simpa using h)]; simp
 have g:∀ a,gi ((List.replicate l.length (-1:Int)).set v 0) a = if a = v then 0 else gi (List.replicate l.length (-1:Int)) a:=fun a=>Zcw (by simpa using hv)
 have dz:Dist l v v 0:=⟨.zero,fun m _=>by omega⟩
 have h0:Fa l v 0 0 0 ((List.replicate l.length (-1:Int)).set v 0):=by
  refine ⟨by simp,fun a ha=>?_,fun a n hd hn=>?_,fun a b e he hd hw hh=>by omega⟩
  ·rw [g]
   by_cases c:a = v
   ·rw [if_pos c]; right; exact ⟨0,rfl,by rw [c]; exact dz,by omega⟩
   ·rw [if_neg c]; exact .inl (gr a ha)
  ·obtain rfl:n = 0:=by omega
   have:=hd.1
   cases this
   rw [g,if_pos rfl]; rfl
 obtain ⟨far,e1,e2⟩:=ZbR (step:=ZR.s1 l) (s0:=((List.replicate l.length (-1:Int)).set v 0,(0:Int))) (n:=l.length) (I:=fun r (s:List Int × Int)=>s.2 = r∧Fa l v r 0 0 s.1) (R:=fun far=>Fa l v l.length 0 0 far) (Zbc (by omega)) ⟨rfl,h0⟩ (by
  rintro r ⟨f,x⟩ hr ⟨hx,hf⟩
  dsimp only at hx hf
  subst hx
  obtain ⟨f',e1,e2⟩:=Zlt hc hl hv hf (by omega)
  simp only [ZR.s1]
  rw [ZI (by omega),e1,Option.bind_some,zz (by omega)]
  exact ⟨_,rfl,rfl,e2⟩) (by
  rintro ⟨f,x⟩ ⟨hx,hf⟩
  dsimp only at hx hf
  subst hx
  simp only [ZR.s1]
  rw [ZH (by omega)]
  exact ⟨_,rfl,hf⟩)
 refine ⟨far,?_,e2.lf,fun a ha=>?_⟩
 ·unfold ZR
  rw [ZA (by omega),Int.toNat_natCast,Zls hl,Option.bind_some,ZA (by simp; omega),Int.toNat_natCast,e1,Option.bind_some]
 ·by_cases c:∃ n,Rch l v n a
  ·obtain ⟨n,hn⟩:=c
   obtain ⟨m,_,hm⟩:=hn.dist
   have:=hm.lt hc hv
   exact .inr ⟨m,e2.al a m hm (by omega),hm⟩
  ·left
   refine ⟨?_,fun n hn=>c ⟨n,hn⟩⟩
   rcases e2.so a ha with e | ⟨n,e,d,_⟩
   ·exact e
   ·exact absurd ⟨n,d.1⟩ c
end Mu
/- Layer 13: paths. -/
set_option linter.unusedVariables false
set_option linter.unusedSimpArgs false
set_option maxRecDepth 10000
namespace Mu

end Mu
/- Layer 13: there and back. -/
set_option linter.unusedVariables false
set_option linter.unusedSimpArgs false
set_option maxRecDepth 10000
namespace Mu
theorem okZ {z:zB} (m1:z.At.length≤Go.maxLen) (b1:∀ y∈z.At,Zeq y) (b3:∀ y∈z.Own,Zhv y):OkZ z :=
 ⟨by unfold Go.maxLen at m1; omega,b1,b3⟩
end Mu
/- Layer 13: join's paths. -/
set_option linter.unusedVariables false
set_option linter.unusedSimpArgs false
set_option maxRecDepth 10000
namespace Mu
end Mu
/- Layer 13: join's parts. -/
set_option linter.unusedVariables false
set_option linter.unusedSimpArgs false
set_option maxRecDepth 10000
namespace Mu
noncomputable def rb (l:List Zc) (v w:Nat):Bool:=@decide (∃ n,Rch l v n w) (Classical.propDecidable _)
theorem ZfE {l:List Zc} {v w:Nat}:rb l v w = true↔∃ n,Rch l v n w:=by simp [rb]
noncomputable def Zch (l:List Zc) (v k:Nat):List Int:=((List.range k).filter (rb l v)).map fun w:Nat=>(w:Int)
noncomputable def Zdp (l:List Zc) (v:Nat) (met:List Bool) (k:Nat):List Bool:=(List.range l.length).map fun w=>if w < k then gi met w || rb l v w else gi met w
theorem Zbg {l:List Zc} {v k:Nat} {met:List Bool}:(Zdp l v met k).length = l.length:=by simp [Zdp]
theorem Zee {l:List Zc} {v k w:Nat} {met:List Bool} (h:w < l.length):gi (Zdp l v met k) w = if w < k then gi met w || rb l v w else gi met w:=Ze9 h
theorem Zf4 {l:List Zc} {v:Nat} {met:List Bool} (h:met.length = l.length):Zdp l v met 0 = met :=
 Zeh (by rw [Zbg,h]) (fun i hi=>by rw [Zbg] at hi; rw [Zee hi,if_neg (by omega)])
theorem ZgQ {l:List Zc} {v k:Nat} {met:List Bool} (hk:k < l.length) (h:rb l v k = true):(Zdp l v met k).set k true = Zdp l v met (k + 1):=by
 apply Zeh (by rw [List.length_set,Zbg,Zbg])
 intro i hi
 rw [List.length_set,Zbg] at hi
 rw [Zcw (by rw [Zbg]; exact hk),Zee hi,Zee hi]
 by_cases c:i = k
 ·subst c; rw [if_pos rfl,if_pos (by omega),h]; simp
 ·rw [if_neg c]
  by_cases c2:i < k
  ·rw [if_pos c2,if_pos (by omega)]
  ·rw [if_neg c2,if_neg (by omega)]
theorem Zgi {l:List Zc} {v k:Nat} {met:List Bool} (h:rb l v k = false):Zdp l v met k = Zdp l v met (k + 1):=by
 apply Zeh (by rw [Zbg,Zbg])
 intro i hi
 rw [Zbg] at hi
 rw [Zee hi,Zee hi]
 by_cases c:i = k
 ·subst c; rw [if_neg (by omega),if_pos (by omega),h]; simp
 ·by_cases c2:i < k
  ·rw [if_pos c2,if_pos (by omega)]
  ·rw [if_neg c2,if_neg (by omega)]
theorem Zgk {l:List Zc} {v k:Nat} (h:rb l v k = true):Zch l v (k + 1) = Zch l v k++[(k:Int)]:=by
 unfold Zch; rw [List.range_succ,List.filter_append]; simp [h]
theorem Zf9 {l:List Zc} {v k:Nat} (h:rb l v k = false):Zch l v (k + 1) = Zch l v k:=by
 unfold Zch; rw [List.range_succ,List.filter_append]; simp [h]
theorem Zes {l:List Zc} {v k:Nat}:(Zch l v k).length≤k:=by
 unfold Zch; rw [List.length_map]
 have:=List.length_filter_le (rb l v) (List.range k)
 simpa using this
theorem Zjr {l:List Zc} (hl:l.length≤1200) {v:Nat} {fr dr:List Int} {met:List Bool} (hm:met.length = l.length) (sp:Spr l v fr dr) (hc:Ck l) (hv:v < l.length):ze (Zay.s1 l v dr) big (met,[],0) = some (Zdp l v met l.length,Zch l v l.length):=by
 have ld:=sp.ld
 refine ZbH (fun k:Nat=>(Zdp l v met k,Zch l v k,(k:Int))) (n:=l.length) (Zbc (by omega)) (by rw [Zf4 hm]; rfl) (fun k hk=>?_) ?_
 ·have hp:=Zes (l:=l) (v:=v) (k:=k)
  have hmt:=Zbg (l:=l) (v:=v) (k:=k) (met:=met)
  have t:(if decide ((k:Int) = (v:Int)) = true then some true else ck ((0:Int)≤(k:Int)∧(k:Int) < (dr.length:Int)) (some (decide (0≤(gi dr (k:Int).toNat))))) = some (rb l v k):=by
   by_cases c:k = v
   ·subst c
    rw [ZI rfl,(ZfE).2 ⟨0,.zero⟩]
   ·rw [ZH (by omega),ZA (by omega),Int.toNat_natCast]
    cases h:rb l v k with
    | true =>
     obtain ⟨n,hn⟩:=ZfE.1 h
     obtain ⟨m,_,hd⟩:=hn.dist
     obtain ⟨p,d,_,_,e2,_⟩:=sp.fm k m hd c
     rw [Zb0 (by omega)]
    | false =>
     have:=sp.un k hk (fun n hn=>by rw [ZfE.2 ⟨n,hn⟩] at h; cases h)
     rw [Zb3 (by omega)]
  simp only [Zay.s1]
  rw [ZI (by omega),t,Option.bind_some,zz (by omega)]
  cases h:rb l v k with
  | true =>
   rw [if_pos rfl,ZA (by omega),ZA (by simp; omega),Int.toNat_natCast,ZgQ hk h,Zgk h,show ((k + 1:Nat):Int) = (k:Int) + 1 by omega]
  | false =>
   rw [if_neg (by decide),zz (by omega),Zgi h,Zf9 h,show ((k + 1:Nat):Int) = (k:Int) + 1 by omega]
 ·simp only [Zay.s1]
  rw [ZH (by omega)]
noncomputable def PS (l:List Zc):Nat→List (List Int) × List Bool
 | 0=>([],List.replicate l.length false)
 | n + 1=>if gi (PS l n).2 n = true then PS l n else ((PS l n).1++[Zch l n l.length],Zdp l n (PS l n).2 l.length)
theorem ZgY {l:List Zc}:∀ n,(PS l n).1.length≤n∧(PS l n).2.length = l.length
 | 0=>by simp [PS]
 | n + 1=>by
  have:=ZgY (l:=l) n
  simp only [PS]
  split
  ·exact ⟨by omega,this.2⟩
  ·exact ⟨by simp; omega,Zbg⟩
theorem Zhi {l:List Zc} (hc:Ck l) (hl:l.length≤1200):Zay l = some ((PS l l.length).1,0):=by
 have hk:Zdu l = 0:=Zd0.2 ⟨by omega,hc⟩
 have h:ze (Zay.s0 l) big (([]:List (List Int)),List.replicate l.length false,0) = some (PS l l.length).1:=by
  refine ZbH (fun n:Nat=>((PS l n).1,(PS l n).2,(n:Int))) (n:=l.length) (Zbc (by omega)) rfl (fun n hn=>?_) ?_
  ·have hp:=ZgY (l:=l) n
   simp only [Zay.s0]
   rw [ZI (by omega),ZA (by omega),Int.toNat_natCast,zz (by omega)]
   by_cases c:gi (PS l n).2 n = true
   ·rw [if_pos c,show PS l (n + 1) = PS l n by rw [PS,if_pos c],show ((n + 1:Nat):Int) = (n:Int) + 1 by omega]
   ·obtain ⟨fr,dr,e1,sp⟩:=Zj1 hc hl hn
    rw [if_neg c,e1,Option.bind_some]
    dsimp only
    rw [Zjr hl hp.2 sp hc hn,Option.bind_some]
    dsimp only
    rw [ZA (by omega),zz (by omega),show PS l (n + 1) = ((PS l n).1++[Zch l n l.length],Zdp l n (PS l n).2 l.length) by rw [PS,if_neg c],show ((n + 1:Nat):Int) = (n:Int) + 1 by omega]
  ·simp only [Zay.s0]
   rw [ZH (by omega)]
 unfold Zay
 rw [Zg4 (by omega),Option.bind_some,hk,Za1 rfl,ZA (by omega),Int.toNat_natCast,h,Option.bind_some]
end Mu
/- Layer 13: the document's parts,and the law. -/
set_option linter.unusedVariables false
set_option linter.unusedSimpArgs false
set_option maxRecDepth 10000
namespace Mu
theorem Zj9 {l:List Zc} (hl:l.length≤1200) {v:Nat} {far:List Int} {met:List Bool} (hm:met.length = l.length) (lf:far.length = l.length) (hf:∀ a,a < l.length→ZjK l v a (gi far a)):ze (z4.s1 l far) big (met,[],0) = some (Zdp l v met l.length,Zch l v l.length):=by
 refine ZbH (fun k:Nat=>(Zdp l v met k,Zch l v k,(k:Int))) (n:=l.length) (Zbc (by omega)) (by rw [Zf4 hm]; rfl) (fun k hk=>?_) ?_
 ·have hp:=Zes (l:=l) (v:=v) (k:=k)
  have hmt:=Zbg (l:=l) (v:=v) (k:=k) (met:=met)
  have t:decide (0≤gi far k) = rb l v k:=by
   rcases hf k hk with ⟨e,h⟩ | ⟨n,e,h⟩
   ·have:rb l v k = false:=by
     cases q:rb l v k with
     | false=>rfl
     | true =>
      obtain ⟨n,hn⟩:=ZfE.1 q
      exact absurd hn (h n)
    rw [this,Zb3 (by omega)]
   ·rw [ZfE.2 ⟨n,h.1⟩,Zb0 (by omega)]
  simp only [z4.s1]
  rw [ZI (by omega),ZA (by omega),Int.toNat_natCast,t]
  cases h:rb l v k with
  | true =>
   rw [if_pos rfl,ZA (by omega),ZA (by simp; omega),zz (by omega),ZgQ hk h,Zgk h,show ((k + 1:Nat):Int) = (k:Int) + 1 by omega]
  | false =>
   rw [if_neg (by decide),zz (by omega),Zgi h,Zf9 h,show ((k + 1:Nat):Int) = (k:Int) + 1 by omega]
 ·simp only [z4.s1]
  rw [ZH (by omega)]
theorem ZkF {l:List Zc} (hc:Ck l) (hl:l.length≤1200):z4 l = some (PS l l.length).1:=by
 have h:ze (z4.s0 l) big (List.replicate l.length false,([]:List (List Int)),0) = some (PS l l.length).1:=by
  refine ZbH (fun n:Nat=>((PS l n).2,(PS l n).1,(n:Int))) (n:=l.length) (Zbc (by omega)) rfl (fun n hn=>?_) ?_
  ·have hp:=ZgY (l:=l) n
   simp only [z4.s0]
   rw [ZI (by omega),ZA (by omega),Int.toNat_natCast]
   by_cases c:gi (PS l n).2 n = true
   ·rw [if_pos c,zz (by omega),show PS l (n + 1) = PS l n by rw [PS,if_pos c],show ((n + 1:Nat):Int) = (n:Int) + 1 by omega]
   ·obtain ⟨far,e1,lf,hf⟩:=ZlR hc (by omega) hn
    rw [if_neg c,e1,Option.bind_some,Zj9 hl hp.2 lf hf,Option.bind_some]
    dsimp only
    rw [ZA (by omega),zz (by omega),show PS l (n + 1) = ((PS l n).1++[Zch l n l.length],Zdp l n (PS l n).2 l.length) by rw [PS,if_neg c],show ((n + 1:Nat):Int) = (n:Int) + 1 by omega]
  ·simp only [z4.s0]
   rw [ZH (by omega)]
 unfold z4
 rw [ZA (by omega),Int.toNat_natCast,h,Option.bind_some]
theorem Zk5 {l:List Zc} (hc:Ck l) (hl:l.length≤1200):ZbI l = some (decide (((PS l l.length).1.length:Int) = 1)):=by
 unfold ZbI
 rw [Zhi hc hl,Option.bind_some]
 simp
end Mu
/- Layer 13: JoinTurns. -/
set_option linter.unusedVariables false
set_option linter.unusedSimpArgs false
set_option maxRecDepth 10000
namespace Mu
/-! the split edge -/
def ext (v u:Int) (p:List Int):List Int:=if v∈p then p++[u] else p
end Mu
/- Layer 12: Zbu,in the code and in the document,are the same walk. -/
set_option linter.unusedVariables false
set_option linter.unusedSimpArgs false
set_option maxRecDepth 10000
namespace Mu
abbrev Da:=Nat × Nat
def dt (p:Da):Zv:=⟨p.1,p.2⟩
def rt (p:Da):Zw:=⟨p.1,p.2⟩
def isD (l:List Zc) (p:Da):Prop:=p.1 < l.length∧p.2 < 4∧0≤nx l p.1 p.2
instance {l:List Zc} {p:Da}:Decidable (isD l p):=by unfold isD; infer_instance
def bh (l:List Zc) (p:Da):Da :=
 if 0≤nx l (nx l p.1 p.2).toNat ((p.2 + 1) % 4) then ((nx l p.1 p.2).toNat,(p.2 + 1) % 4)
 else if 0≤nx l (nx l p.1 p.2).toNat p.2 then ((nx l p.1 p.2).toNat,p.2)
 else if 0≤nx l (nx l p.1 p.2).toNat ((p.2 + 3) % 4) then ((nx l p.1 p.2).toNat,(p.2 + 3) % 4)
 else ((nx l p.1 p.2).toNat,(p.2 + 2) % 4)
theorem isD.fwd {l:List Zc} (hc:Ck l) {p:Da} (h:isD l p):(nx l p.1 p.2).toNat < l.length∧nx l (nx l p.1 p.2).toNat ((p.2 + 2) % 4) = p.1:=by
 rcases hc.s p.1 p.2 h.1 h.2.1 with ⟨a,_⟩ | ⟨w,a,b,_,c,_⟩
 ·have:=h.2.2; omega
 ·rw [a,Int.toNat_natCast]; exact ⟨b,c⟩
theorem isD.bh {l:List Zc} (hc:Ck l) {p:Da} (h:isD l p):isD l (bh l p):=by
 have f:=h.fwd hc
 have:=h.2.1
 unfold Mu.bh
 split
 ·rename_i c; exact ⟨f.1,by dsimp only; omega,c⟩
 ·split
  ·rename_i c; exact ⟨f.1,by dsimp only; omega,c⟩
  ·split
   ·rename_i c; exact ⟨f.1,by dsimp only; omega,c⟩
   ·exact ⟨f.1,by dsimp only; omega,by dsimp only; rw [f.2]; omega⟩
theorem Zlr {l:List Zc} {v d:Int}:ZaO ⟨v,d⟩ l = some (decide (0≤v∧v < l.length∧0≤d∧d < 4∧0≤nx l v.toNat d.toNat)):=by
 unfold ZaO ZaN
 dsimp only
 by_cases c1:0≤v
 ·rw [ZI c1]
  by_cases c2:v < l.length
  ·rw [ZI c2,Option.bind_some]
   by_cases c3:0≤d∧d≤3
   ·rw [if_pos (by simp [c3]),ZA (by omega),ZA (by omega)]
    have:(gi l v.toNat).Next.get d = nx l v.toNat d.toNat:=by unfold nx; rw [show ((d.toNat:Nat):Int) = d by omega]
    rw [this]
    congr 1
    rw [Bool.eq_iff_iff]
    simp only [decide_eq_true_eq]
    omega
   ·rw [if_neg (by simp; omega),Zb3]
    omega
  ·rw [ZH c2,Zb3]
   omega
 ·rw [ZH c1,Zb3]
  omega
theorem Zlv {l:List Zc} {p:Da}:ZaO (dt p) l = some (decide (isD l p)):=by
 unfold dt
 rw [Zlr]
 congr 1
 rw [Bool.eq_iff_iff]
 simp only [decide_eq_true_eq,Int.toNat_natCast]
 unfold isD
 omega
theorem Zg5 {d:Nat} (hd:d < 4) {t:Int} (ht:t = 1∨t = 0∨t = -1∨t = 2):Zbd d t = some (if t = 1 then (((d + 1) % 4:Nat):Int) else if t = 0 then (d:Int) else if t = -1 then (((d + 3) % 4:Nat):Int) else (((d + 2) % 4:Nat):Int)):=by
 have:d = 0∨d = 1∨d = 2∨d = 3:=by omega
 rcases this with rfl | rfl | rfl | rfl <;> rcases ht with rfl | rfl | rfl | rfl <;> rfl
theorem ZjQ {ρ:Type} {F:Int→Option (Int ⊕ ρ)} {c0 c1 c2:Prop} [Decidable c0] [Decidable c1] [Decidable c2] {r0 r1 r2 r3:ρ} (s0:F ((0:Nat):Int) = some (if c0 then .inr r0 else .inl (((0:Nat):Int) + 1))) (s1:F ((1:Nat):Int) = some (if c1 then .inr r1 else .inl (((1:Nat):Int) + 1))) (s2:F ((2:Nat):Int) = some (if c2 then .inr r2 else .inl (((2:Nat):Int) + 1))) (s3:F ((3:Nat):Int) = some (.inr r3)):ze F big 0 = some (if c0 then r0 else if c1 then r1 else if c2 then r2 else r3):=by
 refine ZcV (n:=4) ?_ (by unfold big; omega)
 replace s0:F 0 = some (if c0 then .inr r0 else .inl 1):=s0
 replace s1:F 1 = some (if c1 then .inr r1 else .inl 2):=s1
 replace s2:F 2 = some (if c2 then .inr r2 else .inl 3):=s2
 replace s3:F 3 = some (.inr r3):=s3
 rw [ze,s0]
 by_cases h0:c0
 ·rw [if_pos h0,if_pos h0]
 ·rw [if_neg h0,if_neg h0]
  dsimp only
  rw [ze,s1]
  by_cases h1:c1
  ·rw [if_pos h1,if_pos h1]
  ·rw [if_neg h1,if_neg h1]
   dsimp only
   rw [ze,s2]
   by_cases h2:c2
   ·rw [if_pos h2,if_pos h2]
   ·rw [if_neg h2,if_neg h2]
    dsimp only
    rw [ze,s3]
theorem ZhC {l:List Zc} (hc:Ck l) {p:Da} (h:isD l p):zY (dt p) l = some (dt (bh l p)):=by
 have f:=h.fwd hc
 obtain ⟨h1,h2,h3⟩:=h
 have e:((gi l p.1).Next).get (p.2:Int) = nx l p.1 p.2:=rfl
 have st:∀ (k:Nat) (d':Nat),k < 4→d' < 4→Zbd (p.2:Int) ((⟨1,0,(-1),2⟩:A4 Int).get k) = some (d':Int)→zY.s0 (dt p) l (k:Int) = some (if 0≤nx l (nx l p.1 p.2).toNat d' then .inr (.inr (dt ((nx l p.1 p.2).toNat,d'))) else .inl ((k:Int) + 1)):=by
  intro k d' hk hd hl
  have i:=Zlr (l:=l) (v:=nx l p.1 p.2) (d:=d')
  simp only [zY.s0,dt,Int.toNat_natCast,e]
  rw [ZI (by omega),ZA (by omega),hl,Option.bind_some,i,Option.bind_some]
  by_cases c:0≤nx l (nx l p.1 p.2).toNat d'
  ·rw [ZI (by rw [Int.toNat_natCast]; omega),if_pos c]
   congr 4
   omega
  ·rw [ZH (by rw [Int.toNat_natCast]; omega),zz (by omega),if_neg c]
 have s0:=st 0 ((p.2 + 1) % 4) (by omega) (by omega) ((Zg5 h2 (.inl rfl)).trans rfl)
 have s1:=st 1 p.2 (by omega) h2 ((Zg5 h2 (.inr (.inl rfl))).trans rfl)
 have s2:=st 2 ((p.2 + 3) % 4) (by omega) (by omega) ((Zg5 h2 (.inr (.inr (.inl rfl)))).trans rfl)
 have s3:=st 3 ((p.2 + 2) % 4) (by omega) (by omega) ((Zg5 h2 (.inr (.inr (.inr rfl)))).trans rfl)
 rw [if_pos (by rw [f.2]; omega)] at s3
 have L:ze (zY.s0 (dt p) l) big 0 = some (.inr (dt (bh l p))):=by
  rw [ZjQ s0 s1 s2 s3]
  unfold bh
  by_cases c0:0≤nx l (nx l p.1 p.2).toNat ((p.2 + 1) % 4)
  ·rw [if_pos c0,if_pos c0]
  ·rw [if_neg c0,if_neg c0]
   by_cases c1:0≤nx l (nx l p.1 p.2).toNat p.2
   ·rw [if_pos c1,if_pos c1]
   ·rw [if_neg c1,if_neg c1]
    by_cases c2:0≤nx l (nx l p.1 p.2).toNat ((p.2 + 3) % 4)
    ·rw [if_pos c2,if_pos c2]
    ·rw [if_neg c2,if_neg c2]
 unfold zY
 rw [ZA (by unfold dt; dsimp only; omega),ZA (by unfold dt; dsimp only; omega),L,Option.bind_some]
theorem ZhI {l:List Zc} (hc:Ck l) {p:Da} (h:isD l p):zK l (rt p) = some (rt (bh l p)):=by
 have f:=h.fwd hc
 obtain ⟨h1,h2,h3⟩:=h
 have e:((gi l p.1).Next).get (p.2:Int) = nx l p.1 p.2:=rfl
 have st:∀ (k:Nat) (o:Nat),k < 4→gi ([1,0,3,2]:List Int) k = o→o < 4→zK.s0 l (rt p) (k:Int) = some (if 0≤nx l (nx l p.1 p.2).toNat ((p.2 + o) % 4) then .inr (.inr (rt ((nx l p.1 p.2).toNat,(p.2 + o) % 4))) else .inl ((k:Int) + 1)):=by
  intro k o hk ho ho4
  have m:((p.2:Int) + (o:Int)).tmod 4 = (((p.2 + o) % 4:Nat):Int):=by
   rw [Int.tmod_eq_emod_of_nonneg (by omega)]; omega
  have e2:(gi l (nx l p.1 p.2).toNat).Next.get (((p.2 + o) % 4:Nat):Int) = nx l (nx l p.1 p.2).toNat ((p.2 + o) % 4):=rfl
  simp only [zK.s0,rt,Int.toNat_natCast,e,ho,m,e2]
  rw [ZI (by omega),ZA (by simp; omega),zz (by omega),ZA (by omega),ZA (by omega)]
  by_cases c:0≤nx l (nx l p.1 p.2).toNat ((p.2 + o) % 4)
  ·rw [ZI c,if_pos c]
   congr 4
   omega
  ·rw [ZH c,zz (by omega),if_neg c]
 have s0:=st 0 1 (by omega) rfl (by omega)
 have s1:=st 1 0 (by omega) rfl (by omega)
 have s2:=st 2 3 (by omega) rfl (by omega)
 have s3:=st 3 2 (by omega) rfl (by omega)
 rw [show (p.2 + 0) % 4 = p.2 by omega] at s1
 rw [if_pos (by rw [f.2]; omega)] at s3
 have L:ze (zK.s0 l (rt p)) big 0 = some (.inr (rt (bh l p))):=by
  rw [ZjQ s0 s1 s2 s3]
  unfold bh
  by_cases c0:0≤nx l (nx l p.1 p.2).toNat ((p.2 + 1) % 4)
  ·rw [if_pos c0,if_pos c0]
  ·rw [if_neg c0,if_neg c0]
   by_cases c1:0≤nx l (nx l p.1 p.2).toNat p.2
   ·rw [if_pos c1,if_pos c1]
   ·rw [if_neg c1,if_neg c1]
    by_cases c2:0≤nx l (nx l p.1 p.2).toNat ((p.2 + 3) % 4)
    ·rw [if_pos c2,if_pos c2]
    ·rw [if_neg c2,if_neg c2]
 unfold zK
 rw [ZA (by unfold rt; dsimp only; omega),ZA (by unfold rt; dsimp only; omega),L,Option.bind_some]
def walk (l:List Zc):Nat→List Da→Da→List Da
 | 0,_,_=>[]
 | n + 1,met,x=>if x∈met then [] else x :: walk l n (met++[x]) (bh l x)
structure Mets (l:List Zc) (met:List Da):Prop where
 nd:met.Nodup
 is:∀ p∈met,isD l p
theorem Mets.len {l:List Zc} {met:List Da} (h:Mets l met):met.length≤4 * l.length:=by
 have n:(met.map fun p=>4 * p.1 + p.2).Nodup:=by
  refine List.pairwise_map.2 (h.nd.imp_of_mem fun {p q} hp hq hne he=>hne ?_)
  have a:=h.is p hp
  have b:=h.is q hq
  unfold isD at a b
  exact Prod.ext (by omega) (by omega)
 have:=n.length_le_of_subset (l₂:=List.range (4 * l.length)) (fun x hx=>by
  obtain ⟨p,hp,rfl⟩:=List.mem_map.1 hx
  have:=h.is p hp
  unfold isD at this
  exact List.mem_range.2 (by omega))
 simpa using this
theorem Mets.nil {l:List Zc}:Mets l []:=⟨List.nodup_nil,by simp⟩
theorem Mets.snoc {l:List Zc} {met:List Da} (h:Mets l met) {x:Da} (hx:isD l x) (hn:x ∉ met):Mets l (met++[x]):=by
 refine ⟨?_,fun p hp=>?_⟩
 ·rw [List.nodup_append]
  exact ⟨h.nd,by simp,fun a ha b hb e=>hn (by simp at hb; rw [← hb,← e]; exact ha)⟩
 ·rcases List.mem_append.1 hp with q | q
  ·exact h.is p q
  ·simp at q; rw [q]; exact hx
theorem Mets.walk {l:List Zc} (hc:Ck l):∀ {n:Nat} {met:List Da} {x:Da},Mets l met→isD l x→Mets l (met++walk l n met x)
 | 0,met,x,h,hx=>by rw [Mu.walk,List.append_nil]; exact h
 | n + 1,met,x,h,hx=>by
  rw [Mu.walk]
  split
  ·rw [List.append_nil]; exact h
  ·rename_i c
   have:=Mets.walk hc (n:=n) (h.snoc hx c) (hx.bh hc)
   rwa [List.append_assoc] at this
theorem ZhO {l:List Zc} (hc:Ck l):∀ {n:Nat} {met:List Da} {x:Da},isD l x→∀ p∈walk l n met x,isD l p
 | 0,_,_,_,p,hp=>by simp [walk] at hp
 | n + 1,met,x,hx,p,hp=>by
  rw [walk] at hp
  split at hp
  ·simp at hp
  ·rcases List.mem_cons.1 hp with rfl | hp
   ·exact hx
   ·exact ZhO hc (hx.bh hc) p hp
def mpD (met:List Da):List (Zv × Bool):=met.map fun p=>(dt p,true)
theorem Zi7 {p q:Da} (h:dt p = dt q):p = q:=by
 unfold dt at h
 injection h with a b
 exact Prod.ext (by omega) (by omega)
theorem Zg6 {x:Da}:∀ {met:List Da},Zcx false (dt x) (mpD met) = decide (x∈met)
 | []=>rfl
 | p :: met=>by
  show (if dt x = dt p then true else Zcx false (dt x) (mpD met)) = _
  by_cases c:x = p
  ·rw [if_pos (by rw [c]),Zb0 (by simp [c])]
  ·rw [if_neg fun h=>c (Zi7 h),Zg6]
   rw [Bool.eq_iff_iff]
   simp [c]
theorem Zj4 {x:Da} {met:List Da} (h:x ∉ met):Zdz (dt x) true (mpD met) = mpD (met++[x]):=by
 have:∀ {m:List Da},x ∉ m→Zdz (dt x) true (mpD m) = mpD m++[(dt x,true)]:=by
  intro m
  induction m with
  | nil=>intro _; rfl
  | cons p m ih =>
   intro h
   show (if dt x = dt p then _ else (dt p,true) :: Zdz (dt x) true (mpD m)) = _
   rw [if_neg fun e=>h (by rw [Zi7 e]; simp),ih fun e=>h (by simp [e])]
   rfl
 rw [this h]
 unfold mpD
 rw [List.map_append]
 rfl
theorem ZjR {l:List Zc} (hc:Ck l) (hl:l.length≤5000):∀ (n:Nat) (met:List Da) (f:List Zv) (x:Da),Mets l met→isD l x→4 * l.length < met.length + n→f.length≤met.length→ze (Zad.s2 l) n (mpD met,f,dt x) = some (mpD (met++walk l n met x),f++(walk l n met x).map dt)
 | 0,met,f,x,h,_,hn,_=>by have:=h.len; omega
 | n + 1,met,f,x,h,hx,hn,hf=>by
  have ml:=h.len
  rw [ze,walk]
  simp only [Zad.s2]
  rw [Zg6]
  by_cases c:x∈met
  ·rw [Za1 c,if_pos c,List.append_nil,List.map_nil,List.append_nil]
  ·rw [ZaK c,ZA (by simp; omega),ZhC hc hx,Option.bind_some,if_neg c,Zj4 c]
   dsimp only
   rw [ZjR hc hl n (met++[x]) (f++[dt x]) (bh l x) (h.snoc hx c) (hx.bh hc) (by simp; omega) (by simp; omega)]
   rw [List.append_assoc,List.append_assoc]
   rfl
def Marks (l:List Zc) (met:List Da) (a:List Bool):Prop:=a.length = 4 * l.length∧∀ c e,c < l.length→e < 4→gi a (4 * c + e) = decide ((c,e)∈met)
theorem Marks.set {l:List Zc} {met:List Da} {a:List Bool} (h:Marks l met a) {x:Da} (hx:isD l x):Marks l (met++[x]) (a.set (4 * x.1 + x.2) true):=by
 unfold isD at hx
 refine ⟨by rw [List.length_set]; exact h.1,fun c e hc he=>?_⟩
 rw [Zcw (by have:=h.1; omega),h.2 c e hc he]
 by_cases q:(c,e) = x
 ·rw [← q]
  rw [if_pos rfl,Zb0 (by simp)]
 ·rw [if_neg]
  ·rw [Bool.eq_iff_iff]; simp [q]
  ·intro k
   exact q (Prod.ext (by dsimp only; omega) (by dsimp only; omega))
theorem ZjV {l:List Zc} (hc:Ck l) (hl:l.length≤5000):∀ (n:Nat) (met:List Da) (a:List Bool) (f:List Zw) (x:Da),Mets l met→Marks l met a→isD l x→4 * l.length < met.length + n→f.length≤met.length→∃ a',ze (ZV.s2 l) n (a,f,rt x) = some (a',f++(walk l n met x).map rt)∧Marks l (met++walk l n met x) a'
 | 0,met,a,f,x,h,_,_,hn,_=>by have:=h.len; omega
 | n + 1,met,a,f,x,h,hm,hx,hn,hf=>by
  have ml:=h.len
  have hx':=hx
  unfold isD at hx'
  have al:=hm.1
  rw [ze,walk,show rt x = (⟨x.1,x.2⟩:Zw) from rfl]
  simp only [ZV.s2]
  rw [zz (by omega),zz (by omega),ZA (by omega),show (4 * (x.1:Int) + (x.2:Int)).toNat = 4 * x.1 + x.2 by omega,hm.2 x.1 x.2 hx'.1 hx'.2.1]
  by_cases c:x∈met
  ·rw [Za1 c,if_pos c,List.map_nil,List.append_nil,List.append_nil]
   exact ⟨a,rfl,hm⟩
  ·rw [ZaK c,ZA (by simp; omega)]
   have rb:=ZhI hc hx
   unfold rt at rb
   rw [rb,Option.bind_some,if_neg c]
   dsimp only
   obtain ⟨a',e1,e2⟩:=ZjV hc hl n (met++[x]) (a.set (4 * x.1 + x.2) true) (f++[rt x]) (bh l x) (h.snoc hx c) (hm.set hx) (hx.bh hc) (by simp; omega) (by simp; omega)
   refine ⟨a',?_,?_⟩
   ·unfold rt at e1 ⊢
    rw [e1,List.append_assoc]
    rfl
   ·rw [List.append_assoc] at e2
    exact e2
def stF (l:List Zc) (s:List Da × List (List Da)) (p:Da):List Da × List (List Da) :=
 if nx l p.1 p.2 < 0∨p∈s.1 then s else (s.1++walk l (4 * l.length + 1) s.1 p,s.2++[walk l (4 * l.length + 1) s.1 p])
def Zhp (l:List Zc) (v:Nat) (s:List Da × List (List Da)):Nat→List Da × List (List Da)
 | 0=>s
 | e + 1=>stF l (Zhp l v s e) (v,e)
def FS (l:List Zc):Nat→List Da × List (List Da)
 | 0=>([],[])
 | v + 1=>Zhp l v (FS l v) 4
def Zbu (l:List Zc):List (List Da):=(FS l l.length).2
structure FI (l:List Zc) (s:List Da × List (List Da)):Prop where
 m:Mets l s.1
 len:s.2.length≤s.1.length
 is:∀ f∈s.2,∀ p∈f,isD l p
 fl:s.2.flatten = s.1
theorem FI.st {l:List Zc} (hc:Ck l) {s:List Da × List (List Da)} (h:FI l s) {p:Da} (h1:p.1 < l.length) (h2:p.2 < 4):FI l (stF l s p):=by
 unfold stF
 split
 ·exact h
 ·rename_i c
  have hp:isD l p:=⟨h1,h2,by omega⟩
  have hn:p ∉ s.1:=fun q=>c (.inr q)
  refine ⟨Mets.walk hc h.m hp,?_,?_,?_⟩
  ·dsimp only
   rw [List.length_append,List.length_append,walk,if_neg hn]
   have:=h.len
   simp; omega
  ·intro f hf q hq
   rcases List.mem_append.1 hf with k | k
   ·exact h.is f k q hq
   ·simp at k
    subst k
    exact ZhO hc hp q hq
  ·dsimp only
   rw [List.flatten_append,h.fl]
   simp
theorem FI.row {l:List Zc} (hc:Ck l) {s:List Da × List (List Da)} (h:FI l s) {v:Nat} (hv:v < l.length):∀ e,e≤4→FI l (Zhp l v s e)
 | 0,_=>h
 | e + 1,he=>(FI.row hc h hv e (by omega)).st hc hv (by dsimp only; omega)
theorem ZfW {l:List Zc} (hc:Ck l):∀ v,v≤l.length→FI l (FS l v)
 | 0,_=>⟨Mets.nil,by simp [FS],by simp [FS],by simp [FS]⟩
 | v + 1,hv=>(ZfW hc v (by omega)).row hc (by omega) 4 (by omega)
theorem Zjy {l:List Zc} (hc:Ck l) (hl:l.length≤5000) {s:List Da × List (List Da)} (h:FI l s) {v e:Nat} (hv:v < l.length) (he:e < 4):Zad.s1 l v (s.2.map (List.map dt),mpD s.1,(e:Int)) = some (.inl ((stF l s (v,e)).2.map (List.map dt),mpD (stF l s (v,e)).1,(e:Int) + 1)):=by
 have i:=Zlv (l:=l) (p:=(v,e))
 have g:=Zg6 (x:=(v,e)) (met:=s.1)
 unfold dt at i g
 dsimp only at i g
 have ml:=h.m.len
 have sl:=h.len
 simp only [Zad.s1]
 rw [ZI (by omega),i,Option.bind_some,g]
 unfold stF
 dsimp only
 by_cases c:nx l v e < 0∨(v,e)∈s.1
 ·rw [if_pos c,if_pos,zz (by omega)]
  rcases c with c | c
  ·rw [Zb3 (show ¬ isD l (v,e) from fun q=>by have:=q.2.2; dsimp only at this; omega)]; rfl
  ·rw [Zb0 c,Bool.or_true]
 ·have hp:isD l (v,e):=⟨hv,he,by dsimp only; omega⟩
  have hn:(v,e) ∉ s.1:=fun q=>c (.inr q)
  have W:=ZjR hc hl (4 * l.length + 1) s.1 [] (v,e) h.m hp (by omega) (by simp)
  unfold dt at W
  dsimp only at W
  rw [if_neg c,if_neg (by rw [Zb0 hp,Zb3 hn]; decide),ZcV W (by unfold big; omega),Option.bind_some]
  dsimp only
  rw [ZA (by rw [List.length_map]; omega),zz (by omega),List.map_append]
  rfl
theorem Zj7 {l:List Zc} (hc:Ck l) (hl:l.length≤5000) {s:List Da × List (List Da)} (h:FI l s) {a:List Bool} (ha:Marks l s.1 a) {v e:Nat} (hv:v < l.length) (he:e < 4):∃ a',ZV.s1 l v (a,s.2.map (List.map rt),(e:Int)) = some (.inl (a',(stF l s (v,e)).2.map (List.map rt),(e:Int) + 1))∧Marks l (stF l s (v,e)).1 a':=by
 have ml:=h.m.len
 have sl:=h.len
 have al:=ha.1
 have en:(gi l v).Next.get (e:Int) = nx l v e:=rfl
 simp only [ZV.s1,Int.toNat_natCast,en]
 rw [ZI (by omega),ZA (by omega),ZA (by omega)]
 unfold stF
 dsimp only
 by_cases c0:nx l v e < 0
 ·rw [ZI c0,Option.bind_some,if_pos rfl,zz (by omega),if_pos (.inl c0)]
  exact ⟨a,rfl,ha⟩
 ·rw [ZH c0,zz (by omega),zz (by omega),ZA (by omega),Option.bind_some,show (4 * (v:Int) + (e:Int)).toNat = 4 * v + e by omega,ha.2 v e hv he]
  by_cases c1:(v,e)∈s.1
  ·rw [ZI c1,zz (by omega),if_pos (.inr c1)]
   exact ⟨a,rfl,ha⟩
  ·have hp:isD l (v,e):=⟨hv,he,by dsimp only; omega⟩
   obtain ⟨a',W,M⟩:=ZjV hc hl (4 * l.length + 1) s.1 a [] (v,e) h.m ha hp (by omega) (by simp)
   unfold rt at W
   dsimp only at W
   rw [ZH c1,ZcV W (by unfold big; omega),Option.bind_some,if_neg (by simp [c0,c1])]
   dsimp only
   rw [ZA (by rw [List.length_map]; omega),zz (by omega),List.map_append]
   exact ⟨a',rfl,M⟩
theorem Zky {l:List Zc} (hl:l.length≤4096) (h:Zdu l = 0):Zad l = some ((Zbu l).map (List.map dt),0):=by
 have hc:=(Zd0.1 h).2
 have row:∀ v,v < l.length→ze (Zad.s1 l v) big ((FS l v).2.map (List.map dt),mpD (FS l v).1,0) = some ((FS l (v + 1)).2.map (List.map dt),mpD (FS l (v + 1)).1):=by
  intro v hv
  refine ZbH (fun e:Nat=>((Zhp l v (FS l v) e).2.map (List.map dt),mpD (Zhp l v (FS l v) e).1,(e:Int))) (n:=4) (Zbc (by omega)) rfl (fun e he=>?_) ?_
  ·rw [Zjy hc (by omega) ((ZfW hc v (by omega)).row hc hv e (by omega)) hv he]
   rfl
  ·simp only [Zad.s1]
   rw [ZH (by omega)]
   rfl
 unfold Zad
 rw [Zg4 (by omega),Option.bind_some,Za1 h,ZfX (x:=(Zbu l).map (List.map dt))]
 refine ZbH (fun v:Nat=>((FS l v).2.map (List.map dt),mpD (FS l v).1,(v:Int))) (n:=l.length) (Zbc (by omega)) rfl (fun v hv=>?_) ?_
 ·simp only [Zad.s0]
  rw [ZI (by omega),row v hv,Option.bind_some]
  dsimp only
  rw [zz (by omega),show ((v + 1:Nat):Int) = (v:Int) + 1 by omega]
 ·simp only [Zad.s0]
  rw [ZH (by omega)]
  rfl
theorem ZkD {l:List Zc} (hl:l.length≤4096) (h:Zdu l = 0):ZV l = some ((Zbu l).map (List.map rt)):=by
 have hc:=(Zd0.1 h).2
 have row:∀ v,v < l.length→∀ a,Marks l (FS l v).1 a→∃ a',ze (ZV.s1 l v) big (a,(FS l v).2.map (List.map rt),0) = some (a',(FS l (v + 1)).2.map (List.map rt))∧Marks l (FS l (v + 1)).1 a':=by
  intro v hv a ha
  have:∃ r,ze (ZV.s1 l v) big (a,(FS l v).2.map (List.map rt),0) = some r∧(r.2 = (FS l (v + 1)).2.map (List.map rt)∧Marks l (FS l (v + 1)).1 r.1):=by
   refine ZbR (fun (e:Nat) (s:List Bool × List (List Zw) × Int)=>(s.2.1 = (Zhp l v (FS l v) e).2.map (List.map rt)∧Marks l (Zhp l v (FS l v) e).1 s.1)∧s.2.2 = e) (n:=4) (Zbc (by omega)) ⟨⟨rfl,ha⟩,rfl⟩ ?_ ?_
   ·rintro e ⟨a,o,j⟩ he ⟨⟨h1,h2⟩,h3⟩
    dsimp only at h1 h2 h3 ⊢
    subst h3 h1
    obtain ⟨a',e1,e2⟩:=Zj7 hc (by omega) ((ZfW hc v (by omega)).row hc hv e (by omega)) h2 hv he
    exact ⟨_,e1,⟨rfl,e2⟩,by dsimp only; omega⟩
   ·rintro ⟨a,o,j⟩ ⟨⟨h1,h2⟩,h3⟩
    dsimp only at h1 h2 h3 ⊢
    subst h3 h1
    simp only [ZV.s1]
    rw [ZH (by omega)]
    exact ⟨_,rfl,rfl,h2⟩
  obtain ⟨⟨a',o⟩,e1,e2,e3⟩:=this
  dsimp only at e2 e3
  subst e2
  exact ⟨a',e1,e3⟩
 have M:∃ r,ze (ZV.s0 l) big (List.replicate (4 * (l.length:Int)).toNat false,([]:List (List Zw)),0) = some r∧r = (Zbu l).map (List.map rt):=by
  refine ZbR (fun (v:Nat) (s:List Bool × List (List Zw) × Int)=>(s.2.1 = (FS l v).2.map (List.map rt)∧Marks l (FS l v).1 s.1)∧s.2.2 = v) (n:=l.length) (Zbc (by omega)) ⟨⟨rfl,by simp; omega,fun c e hc' he=>?_⟩,rfl⟩ ?_ ?_
  ·rw [Zb6 (by simp; omega)]
   simp [FS]
  ·rintro v ⟨a,o,j⟩ hv ⟨⟨h1,h2⟩,h3⟩
   dsimp only at h1 h2 h3 ⊢
   subst h3 h1
   obtain ⟨a',e1,e2⟩:=row v hv a h2
   simp only [ZV.s0]
   rw [ZI (by omega),e1,Option.bind_some]
   dsimp only
   rw [zz (by omega)]
   exact ⟨_,rfl,⟨rfl,e2⟩,by dsimp only; omega⟩
  ·rintro ⟨a,o,j⟩ ⟨⟨h1,h2⟩,h3⟩
   dsimp only at h1 h2 h3 ⊢
   subst h3 h1
   simp only [ZV.s0]
   rw [ZH (by omega)]
   exact ⟨_,rfl,rfl⟩
 obtain ⟨r,e1,e2⟩:=M
 unfold ZV
 rw [zz (by omega),ZA (by omega),e1,Option.bind_some,e2]
end Mu
/- Layers 12 and 14: turns of Zbu,rotations,the outer face. -/
set_option linter.unusedVariables false
set_option linter.unusedSimpArgs false
set_option maxRecDepth 10000
namespace Mu
def tn (d e:Nat):Int:=if e = d then 0 else if e = (d + 1) % 4 then 1 else if e = (d + 3) % 4 then -1 else -2
theorem Zl1 {d e:Nat} (hd:d < 4) (he:e < 4):Zb5 d e = some (tn d e):=by
 have a:d = 0∨d = 1∨d = 2∨d = 3:=by omega
 have b:e = 0∨e = 1∨e = 2∨e = 3:=by omega
 rcases a with rfl | rfl | rfl | rfl <;> rcases b with rfl | rfl | rfl | rfl <;> rfl
theorem ZlA {d e:Nat} (hd:d < 4) (he:e < 4):Zbk d e = some (tn d e):=by
 have a:d = 0∨d = 1∨d = 2∨d = 3:=by omega
 have b:e = 0∨e = 1∨e = 2∨e = 3:=by omega
 rcases a with rfl | rfl | rfl | rfl <;> rcases b with rfl | rfl | rfl | rfl <;> rfl
theorem ZkK {d e:Nat}:-2≤tn d e∧tn d e≤1:=by unfold tn; split <;> (try split) <;> (try split) <;> omega
def tns (l:List Zc) (f:List Da):List Int:=f.map fun p=>tn p.2 (bh l p).2
theorem ZdL {α β:Type} [Inhabited α] [Inhabited β] {f:α→β} {l:List α} {i:Nat} (h:i < l.length):gi (l.map f) i = f (gi l i):=by
 rw [Zb6 (by simpa using h),Zb6 h,List.getElem_map]
theorem Zeo {l:List Zc} {f:List Da}:(tns l f).length = f.length:=by simp [tns]
theorem ZhN {l:List Zc} {f:List Da}:∀ i,-2≤gi (tns l f) i∧gi (tns l f) i≤1:=by
 intro i
 by_cases h:i < f.length
 ·unfold tns
  rw [ZdL h]
  exact ZkK
 ·rw [Zfy (by rw [Zeo]; omega)]
  decide
theorem Zk4 {l:List Zc} (hl:l.length≤4096) (h:Zdu l = 0) {f:List Da} (hf:∀ p∈f,isD l p) (hn:f.length≤1000000):ZaY l (f.map dt) = some (tns l f):=by
 have hc:=(Zd0.1 h).2
 have fl:(f.map dt).length = f.length:=by simp
 unfold ZaY
 rw [ZA (by rw [fl]; omega),Zg4 (by omega),Option.bind_some,Za1 h]
 have:∃ r,ze (ZaY.s0 l (f.map dt)) big (List.replicate (((f.map dt).length:Int)).toNat (0:Int),0) = some r∧r = tns l f:=by
  refine ZbR (fun (k:Nat) (s:List Int × Int)=>(s.1.length = f.length∧∀ i,i < k→gi s.1 i = gi (tns l f) i)∧s.2 = k) (n:=f.length) (Zbc (by omega)) ⟨⟨by simp,fun i hi=>by omega⟩,rfl⟩ ?_ ?_
  ·rintro k ⟨r,j⟩ hk ⟨⟨h1,h2⟩,h3⟩
   dsimp only at h1 h2 h3 ⊢
   subst h3
   have hp:=hf _ (ZbQ hk)
   have g:gi (f.map dt) k = dt (gi f k):=ZdL hk
   simp only [ZaY.s0,Int.toNat_natCast,g]
   have tt:Zb5 (dt (gi f k)).Dir (dt (bh l (gi f k))).Dir = some (tn (gi f k).2 (bh l (gi f k)).2):=Zl1 hp.2.1 (hp.bh hc).2.1
   rw [ZI (by rw [fl]; omega),ZA (by rw [fl]; omega),Zlv,Option.bind_some,Zb0 hp,if_pos rfl,ZhC hc hp,Option.bind_some,tt,Option.bind_some,ZA (by omega),zz (by omega)]
   refine ⟨_,rfl,⟨by dsimp only; rw [List.length_set]; exact h1,fun i hi=>?_⟩,by dsimp only; omega⟩
   dsimp only
   rw [Zcw (by omega)]
   by_cases c:i = k
   ·subst c
    rw [if_pos rfl]
    unfold tns
    rw [ZdL hk]
   ·rw [if_neg c]
    exact h2 i (by omega)
  ·rintro ⟨r,j⟩ ⟨⟨h1,h2⟩,h3⟩
   dsimp only at h1 h2 h3 ⊢
   subst h3
   simp only [ZaY.s0]
   rw [ZH (by rw [fl]; omega)]
   exact ⟨_,rfl,Zeh (by rw [h1,Zeo]) fun i hi=>h2 i (by omega)⟩
 obtain ⟨r,e1,e2⟩:=this
 rw [e1,Option.bind_some,e2]
theorem ZkG {l:List Zc} (hl:l.length≤4096) (h:Zdu l = 0) {f:List Da} (hf:∀ p∈f,isD l p) (hn:f.length≤1000000):Zar l (f.map rt) = some (tns l f):=by
 have hc:=(Zd0.1 h).2
 have fl:(f.map rt).length = f.length:=by simp
 unfold Zar
 rw [ZfX (x:=tns l f)]
 refine ZbH (fun n:Nat=>((tns l f).take n,(n:Int))) (n:=f.length) (Zbc (by omega)) rfl (fun k hk=>?_) ?_
 ·have hp:=hf _ (ZbQ hk)
  have g:gi (f.map rt) k = rt (gi f k):=ZdL hk
  simp only [Zar.s0,Int.toNat_natCast,g]
  have tt:Zbk (rt (gi f k)).Dir (rt (bh l (gi f k))).Dir = some (tn (gi f k).2 (bh l (gi f k)).2):=ZlA hp.2.1 (hp.bh hc).2.1
  rw [ZI (by rw [fl]; omega),ZA (by rw [fl]; omega),ZhI hc hp,Option.bind_some,tt,Option.bind_some,ZA (by simp; omega),zz (by omega),ZhM (by rw [Zeo]; exact hk),show ((k + 1:Nat):Int) = (k:Int) + 1 by omega]
  congr 3
  unfold tns
  rw [ZdL hk]
 ·simp only [Zar.s0]
  rw [ZH (by rw [fl]; omega),List.take_of_length_le (by rw [Zeo]; omega)]
theorem ZfK {t:List Int} {n:Nat} (h:n < t.length):(t.take (n + 1)).sum = (t.take n).sum + gi t n:=by
 rw [ZhM h,List.sum_append]
 simp
theorem ZgF {t:List Int} (h:∀ i,-2≤gi t i∧gi t i≤1):∀ n,n≤t.length→-2 * (n:Int)≤(t.take n).sum∧(t.take n).sum≤n
 | 0,_=>by simp
 | n + 1,hn=>by
  have ih:=ZgF h n (by omega)
  have:=h n
  rw [ZfK (by omega)]
  omega
theorem ZhU {t:List Int} (h:∀ i,-2≤gi t i∧gi t i≤1) (hn:t.length≤1000000):ZaC t = some t.sum:=by
 unfold ZaC
 rw [ZfX (x:=t.sum)]
 refine ZbH (fun n:Nat=>((t.take n).sum,(n:Int))) (n:=t.length) (Zbc (by omega)) rfl (fun k hk=>?_) ?_
 ·have a:=ZgF h k (by omega)
  have b:=h k
  simp only [ZaC.s0,Int.toNat_natCast]
  rw [ZI (by omega),ZA (by omega),if_pos (by simp; omega),zz (by omega),zz (by omega),ZfK hk,show ((k + 1:Nat):Int) = (k:Int) + 1 by omega]
 ·simp only [ZaC.s0]
  rw [ZH (by omega),List.take_length]
theorem ZhX {t:List Int} (h:∀ i,-2≤gi t i∧gi t i≤1) (hn:t.length≤1000000):zX t = some t.sum:=by
 unfold zX
 rw [ZfX (x:=t.sum)]
 refine ZbH (fun n:Nat=>((t.take n).sum,(n:Int))) (n:=t.length) (Zbc (by omega)) rfl (fun k hk=>?_) ?_
 ·have a:=ZgF h k (by omega)
  have b:=h k
  simp only [zX.s0,Int.toNat_natCast]
  rw [ZI (by omega),ZA (by omega),if_pos (by simp; omega),zz (by omega),zz (by omega),ZfK hk,show ((k + 1:Nat):Int) = (k:Int) + 1 by omega]
 ·simp only [zX.s0]
  rw [ZH (by omega),List.take_length]
def ZeE (l:List Zc) (f:List Da):Int:=(tns l f).sum
theorem Zfw {l:List Zc} (hc:Ck l):(∀ f∈Zbu l,∀ p∈f,isD l p)∧(Zbu l).length≤4 * l.length∧(∀ f∈Zbu l,f.length≤4 * l.length)∧(Zbu l).flatten.Nodup∧∀ p∈(Zbu l).flatten,isD l p:=by
 have h:=ZfW hc l.length (by omega)
 have hm:=h.m.len
 have hf:=h.fl
 refine ⟨h.is,by have:=h.len; unfold Zbu; omega,fun f hf'=>?_,by unfold Zbu; rw [hf]; exact h.m.nd,fun p hp=>by unfold Zbu at hp; rw [hf] at hp; exact h.m.is p hp⟩
 have:(f).Sublist (Zbu l).flatten:=List.sublist_flatten_of_mem hf'
 have:=this.length_le
 unfold Zbu at this
 rw [hf] at this
 omega
def ZeC:List Int→Int→Int→Option Int
 | [],_,a=>some a
 | r :: R,i,a=>if r = 4 then ZeC R (i + 1) a else if r = -4 then (if 0≤a then none else ZeC R (i + 1) i) else none
def Zey (l:List Zc):Option Int:=ZeC ((Zbu l).map (ZeE l)) 0 (-1)
theorem Zf7 {F:Int × Int→Option ((Int × Int) ⊕ (Int ⊕ Unit))} {R:List Int} (hR:R.length≤1000000) (h:∀ (i:Nat) (a:Int),i < R.length→F (a,(i:Int)) = some (if gi R i = 4 then .inl (a,(i:Int) + 1) else if gi R i = -4 then (if 0≤a then .inr (.inr ()) else .inl ((i:Int),(i:Int) + 1)) else .inr (.inr ()))) (he:∀ a,F (a,(R.length:Int)) = some (.inr (.inl a))):ze F big (-1,0) = some (match ZeC R 0 (-1) with | some a=>.inl a | none=>.inr ()):=by
 have key:∀ (m n:Nat) (a:Int),n + m = R.length→ze F (m + 1) (a,(n:Int)) = some (match ZeC (R.drop n) n a with | some a=>.inl a | none=>.inr ()):=by
  intro m
  induction m with
  | zero =>
   intro n a hn
   have:n = R.length:=by omega
   subst this
   rw [ze,he,List.drop_length]
   rfl
  | succ m ih =>
   intro n a hn
   have hlt:n < R.length:=by omega
   have d:R.drop n = gi R n :: R.drop (n + 1):=by rw [Zb6 hlt]; exact List.drop_eq_getElem_cons hlt
   rw [ze,h n a hlt,d,ZeC]
   by_cases c1:gi R n = 4
   ·rw [if_pos c1,if_pos c1]
    dsimp only
    have:=ih (n + 1) a (by omega)
    rw [show ((n + 1:Nat):Int) = (n:Int) + 1 by omega] at this
    exact this
   ·rw [if_neg c1,if_neg c1]
    by_cases c2:gi R n = -4
    ·rw [if_pos c2,if_pos c2]
     by_cases c3:0≤a
     ·rw [if_pos c3,if_pos c3]
     ·rw [if_neg c3,if_neg c3]
      dsimp only
      have:=ih (n + 1) n (by omega)
      rw [show ((n + 1:Nat):Int) = (n:Int) + 1 by omega] at this
      exact this
    ·rw [if_neg c2,if_neg c2]
 have:=key R.length 0 (-1) (by omega)
 rw [List.drop_zero] at this
 exact ZcV this (by unfold big; omega)
theorem ZhD {l:List Zc} (hl:l.length≤4096) (h:Zdu l = 0):Za9 l = some (match Zey l with | some a=>(a,decide (0≤a)) | none=>(0,false)):=by
 have hc:=(Zd0.1 h).2
 obtain ⟨o1,o2,o3,_⟩:=Zfw hc
 have L:ze (Za9.s0 l ((Zbu l).map (List.map dt))) big (-1,0) = some (match Zey l with | some a=>.inl a | none=>.inr ()):=by
  refine Zf7 (R:=(Zbu l).map (ZeE l)) (by simp; omega) (fun i a hi=>?_) fun a=>?_
  ·have hi':i < (Zbu l).length:=by simpa using hi
   have hm:=ZbQ hi'
   have fl:=o3 _ hm
   simp only [Za9.s0,Int.toNat_natCast]
   rw [ZI (by simp; omega),ZA (by simp; omega),ZdL hi',Zk4 hl h (o1 _ hm) (by omega),Option.bind_some,ZhU ZhN (by rw [Zeo]; omega),Option.bind_some,ZdL hi']
   show (if decide (ZeE l (gi (Zbu l) i) = 4) = true then _ else _) = _
   by_cases c1:ZeE l (gi (Zbu l) i) = 4
   ·rw [ZI c1,if_pos c1,zz (by omega)]
   ·rw [ZH c1,if_neg c1]
    show (if decide (ZeE l (gi (Zbu l) i) = -4) = true then _ else _) = _
    by_cases c2:ZeE l (gi (Zbu l) i) = -4
    ·rw [ZI c2,if_pos c2]
     by_cases c3:0≤a
     ·rw [ZI c3,if_pos c3]
     ·rw [ZH c3,if_neg c3,zz (by omega)]
    ·rw [ZH c2,if_neg c2]
  ·simp only [Za9.s0]
   rw [ZH (by simp)]
 unfold Za9
 rw [Zky hl h,Option.bind_some]
 dsimp only
 rw [L,Option.bind_some]
 cases Zey l <;> rfl
theorem Zj8 {l:List Zc} (hl:l.length≤4096) (h:Zdu l = 0):ze (Zan.s0 l ((Zbu l).map (List.map rt))) big (-1,0) = some (match Zey l with | some a=>.inl a | none=>.inr ()):=by
 have hc:=(Zd0.1 h).2
 obtain ⟨o1,o2,o3,_⟩:=Zfw hc
 refine Zf7 (R:=(Zbu l).map (ZeE l)) (by simp; omega) (fun i a hi=>?_) fun a=>?_
 ·have hi':i < (Zbu l).length:=by simpa using hi
  have hm:=ZbQ hi'
  have fl:=o3 _ hm
  simp only [Zan.s0,Int.toNat_natCast]
  rw [ZI (by simp; omega),ZA (by simp; omega),ZdL hi',ZkG hl h (o1 _ hm) (by omega),Option.bind_some,ZhX ZhN (by rw [Zeo]; omega),Option.bind_some,ZdL hi']
  show (if (((!(decide (ZeE l (gi (Zbu l) i) = 4))) && (!(decide (ZeE l (gi (Zbu l) i) = (-4))))) || ((decide (ZeE l (gi (Zbu l) i) = (-4))) && (decide (0≤a)))) = true then _ else (if decide (ZeE l (gi (Zbu l) i) = (-4)) = true then _ else _)) = _
  by_cases c1:ZeE l (gi (Zbu l) i) = 4
  ·have c2:¬ ZeE l (gi (Zbu l) i) = -4:=by omega
   rw [Zb0 c1,Zb3 c2,if_pos c1,if_neg (by simp),if_neg (by decide),zz (by omega)]
  ·rw [Zb3 c1,if_neg c1]
   by_cases c2:ZeE l (gi (Zbu l) i) = -4
   ·rw [Zb0 c2,if_pos c2]
    by_cases c3:0≤a
    ·rw [Zb0 c3,if_pos c3,if_pos (by decide)]
    ·rw [Zb3 c3,if_neg c3,if_neg (by decide),if_pos rfl,zz (by omega)]
   ·rw [Zb3 c2,if_neg c2,if_pos (by simp)]
 ·simp only [Zan.s0]
  rw [ZH (by simp)]
theorem ZeN:∀ {R:List Int} {i a b:Int},ZeC R i a = some b→-1≤a→0≤i→(b = a∨(i≤b∧b < i + R.length))
 | [],i,a,b,h,_,_=>by
  simp only [ZeC,Option.some.injEq] at h
  exact .inl h.symm
 | r :: R,i,a,b,h,ha,hi=>by
  rw [ZeC] at h
  split at h
  ·rcases ZeN h ha (by omega) with q | q
   ·exact .inl q
   ·refine .inr ?_
    rw [List.length_cons]; omega
  ·split at h
   ·split at h
    ·cases h
    ·rcases ZeN h (by omega) (by omega) with q | q
     ·refine .inr ?_
      rw [List.length_cons]; omega
     ·refine .inr ?_
      rw [List.length_cons]; omega
   ·cases h
def ZdF (l:List Zc):Prop:=((PS l l.length).1.length:Int) = 1
noncomputable instance {l:List Zc}:Decidable (ZdF l):=by unfold ZdF; infer_instance
noncomputable def Zdh (l:List Zc):Int :=
 if Zdu l = 0 then (if ZdF l then (if l.length = 1 then 0 else match Zey l with | some a=>if 0≤a then 0 else 10 | none=>10) else 13) else Zdu l
def ZfL (l:List Zc):Int:=if l.length = 1 then -1 else match Zey l with | some a=>a | none=>-1
theorem Zic {l:List Zc} (h:ZdF l):0 < l.length:=by
 cases l with
 | nil=>unfold ZdF at h; simp [PS] at h
 | cons a l=>simp
theorem Zgb {l:List Zc} (hc:Ck l) (h:l.length = 1):Zbu l = []:=by
 obtain ⟨o1,o2,o3,o4,o5⟩:=Zfw hc
 have no:∀ p,¬ isD l p:=by
  intro p hp
  have f:=hp.fwd hc
  rcases hc.s p.1 p.2 hp.1 hp.2.1 with ⟨a,_⟩ | ⟨w,a,b,c,_⟩
  ·have:=hp.2.2; omega
  ·have:=hp.1; omega
 have:(Zbu l).flatten = []:=by
  cases q:(Zbu l).flatten with
  | nil=>rfl
  | cons a t=>exact absurd (o5 a (by rw [q]; simp)) (no a)
 have len:=(ZfW hc l.length (by omega)).len
 have fl:=(ZfW hc l.length (by omega)).fl
 unfold Zbu at this ⊢
 rw [fl] at this
 rw [this] at len
 exact List.length_eq_zero_iff.1 (by simpa using len)
theorem Zfj {l:List Zc} (hl:l.length≤1200):Zaz l = some (Zdh l):=by
 unfold Zaz Zdh
 rw [Zg4 (by omega),Option.bind_some]
 by_cases h:Zdu l = 0
 ·have hc:=(Zd0.1 h).2
  rw [Za1 h,if_pos h,Zk5 hc hl,Option.bind_some]
  by_cases w:ZdF l
  ·have hp:=Zic w
   rw [if_pos w,Zb0 (show ((PS l l.length).1.length:Int) = 1 from w),if_neg (by decide),ZhD (by omega) h,Option.bind_some]
   by_cases c:l.length = 1
   ·rw [if_pos c]
    have:Zey l = some (-1):=by unfold Zey; rw [Zgb hc c]; rfl
    rw [this]
    dsimp only
    rw [if_neg (by simp; omega)]
   ·rw [if_neg c]
    cases Zey l with
    | none=>dsimp only; rw [if_pos (by simp; omega)]
    | some a =>
     dsimp only
     by_cases q:0≤a
     ·rw [if_pos q,if_neg (by simp; omega)]
     ·rw [if_neg q,if_pos (by simp; omega)]
  ·rw [if_neg w,Zb3 (show ¬ ((PS l l.length).1.length:Int) = 1 from w),if_pos (by decide)]
 ·rw [ZaK h,if_neg h]
theorem Zj2 {l:List Zc} (hl:l.length≤1200):Zbe l = some (if Zdh l = 0 then (if l.length = 1 then (0,2) else (ZfL l,0)) else (0,Zdh l)):=by
 unfold Zbe
 rw [Zfj hl,Option.bind_some]
 by_cases e:Zdh l = 0
 ·have e':=e
  unfold Zdh at e'
  by_cases h:Zdu l = 0
  ·have hc:=(Zd0.1 h).2
   rw [if_pos h] at e'
   by_cases w:ZdF l
   ·rw [if_pos w] at e'
    rw [Za1 e,if_pos e,ZhD (by omega) h,Option.bind_some]
    by_cases c:l.length = 1
    ·have:Zey l = some (-1):=by unfold Zey; rw [Zgb hc c]; rfl
     rw [this,if_pos c]
     rfl
    ·rw [if_neg c] at e' ⊢
     unfold ZfL
     rw [if_neg c]
     cases q:Zey l with
     | none=>rw [q] at e'; exact absurd e' (by decide)
     | some a =>
      rw [q] at e'
      dsimp only at e' ⊢
      by_cases k:0≤a
      ·rw [Zb0 k,if_neg (by decide)]
      ·rw [if_neg k] at e'; exact absurd e' (by decide)
   ·rw [if_neg w] at e'; exact absurd e' (by decide)
  ·rw [if_neg h] at e'; exact absurd e' h
 ·rw [ZaK e,if_neg e]
theorem ZkE {l:List Zc} (hl:l.length≤1200):Zan l = some (if Zdh l = 0 then ZfL l else -1,Zdh l):=by
 unfold Zan
 rw [ZkC (by omega),Option.bind_some]
 by_cases h:Zdu l = 0
 ·have hc:=(Zd0.1 h).2
  rw [Za1 h,ZkF hc hl,Option.bind_some]
  by_cases w:ZdF l
  ·rw [Za1 (show ((PS l l.length).1.length:Int) = 1 from w)]
   by_cases c:l.length = 1
   ·rw [ZI (by omega)]
    have e:Zdh l = 0:=by unfold Zdh; rw [if_pos h,if_pos w,if_pos c]
    rw [e,if_pos rfl]
    unfold ZfL
    rw [if_pos c]
   ·rw [ZH (by omega),ZkD (by omega) h,Option.bind_some,Zj8 (by omega) h,Option.bind_some]
    cases q:Zey l with
    | none =>
     have e:Zdh l = 10:=by unfold Zdh; rw [if_pos h,if_pos w,if_neg c,q]
     rw [e]
     rfl
    | some a =>
     dsimp only
     by_cases k:0≤a
     ·have e:Zdh l = 0:=by unfold Zdh; rw [if_pos h,if_pos w,if_neg c,q]; dsimp only; rw [if_pos k]
      have v:ZfL l = a:=by unfold ZfL; rw [if_neg c,q]
      rw [ZH (by omega),e,v,if_pos rfl]
     ·have e:Zdh l = 10:=by unfold Zdh; rw [if_pos h,if_pos w,if_neg c,q]; dsimp only; rw [if_neg k]
      rw [ZI (by omega),e]
      rfl
  ·rw [ZaK (show ¬ ((PS l l.length).1.length:Int) = 1 from w)]
   have e:Zdh l = 13:=by unfold Zdh; rw [if_pos h,if_neg w]
   rw [e,if_neg (by decide)]
 ·have e:Zdh l = Zdu l:=by unfold Zdh; rw [if_neg h]
  rw [ZaK h,e,if_neg h]
theorem ZjJ {l:List Zc} (h:Zdh l = 0):Zdu l = 0∧ZdF l∧(l.length≠1→∃ a,Zey l = some a∧0≤a):=by
 unfold Zdh at h
 by_cases c:Zdu l = 0
 ·rw [if_pos c] at h
  by_cases w:ZdF l
  ·rw [if_pos w] at h
   refine ⟨c,w,fun h1=>?_⟩
   rw [if_neg h1] at h
   cases q:Zey l with
   | none=>rw [q] at h; exact absurd h (by decide)
   | some a =>
    rw [q] at h
    dsimp only at h
    by_cases k:0≤a
    ·exact ⟨a,rfl,k⟩
    ·rw [if_neg k] at h; exact absurd h (by decide)
  ·rw [if_neg w] at h; exact absurd h (by decide)
 ·rw [if_neg c] at h; exact absurd h c
theorem ZiP {l:List Zc} (h:Zdh l = 0) (h1:l.length≠1):0≤ZfL l∧ZfL l < (Zbu l).length:=by
 obtain ⟨_,_,o⟩:=ZjJ h
 obtain ⟨a,q,k⟩:=o h1
 unfold ZfL
 rw [if_neg h1,q]
 dsimp only
 rcases ZeN q (by decide) (by decide) with z | z
 ·omega
 ·simp at z; omega
end Mu
/- Layers 8 and 11: shapes that may be written have their cells: all that is worked out of them comes to an end. -/
set_option linter.unusedVariables false
set_option linter.unusedSimpArgs false
set_option maxRecDepth 100000
namespace Mu
structure Ed (n:Nat) (e:zW):Prop where
 f:0≤e.From∧e.From < n
 t:0≤e.To∧e.To < n
 d:0≤e.Dir∧e.Dir < 4
 b:e.Bends.size≤3
structure Sh (s:z6):Prop where
 b:s.Boxes.length≤8
 e:s.Edges.length≤16
 ed:∀ e∈s.Edges,Ed s.Boxes.length e
theorem ZbU {a n:Int} (ha:0≤a) (hn:0 < n):0≤a.tmod n∧a.tmod n < n:=by
 rw [Int.tmod_eq_emod_of_nonneg ha]
 exact ⟨Int.emod_nonneg _ (by omega),Int.emod_lt_of_pos _ hn⟩
theorem Zix {a b:ByteArray}:(a++b).size = a.size + b.size:=by
 exact ByteArray.size_append
theorem ZjA {z:Za0} (hb:∀ y∈z.Bends,Zeq y) {i:Nat} (hi:i < z.Bends.length) {n:Nat} {f t d:Int} (h:Ed n ⟨f,t,d,⟨#[]⟩⟩):∃ e,ze (zr.s2 z i) big (⟨f,t,d,(⟨#[]⟩:ByteArray)⟩,0) = some e∧Ed n e:=by
 have hx:0≤gi z.Bends i∧gi z.Bends i≤255:=(hb _ (ZbQ hi)).u8
 have hm:=ZbU (a:=gi z.Bends i) (n:=4) (by omega) (by omega)
 refine ZaV (μ:=fun s=>(4 - s.2).toNat) (I:=fun s=>(0≤s.2∧s.2≤3)∧Ed n { s.1 with Bends:=⟨#[]⟩ }∧s.1.Bends.size = s.2.toNat) (by simp [big]) ⟨by dsimp only; omega,h,rfl⟩ ?_
 rintro ⟨e,k⟩ ⟨h1,h2,h3⟩
 dsimp only at h1 h2 h3 ⊢
 simp only [zr.s2,Int.toNat_natCast]
 rw [ZA (by omega),ZbD (by omega)]
 by_cases c:k < (gi z.Bends i).tmod 4
 ·refine .inl ?_
  have s1:(⟨#[76]⟩:ByteArray).size = 1:=rfl
  have s2:(⟨#[82]⟩:ByteArray).size = 1:=rfl
  rw [ZI c,zz (by omega),ZA (by omega)]
  by_cases q:Z3 .u8 (ZD .u8 (gi z.Bends i) (2 + k)) 1 = 1
  ·rw [ZI q,ZA (by omega),zz (by omega)]
   exact ⟨_,rfl,⟨by dsimp only; omega,h2,by dsimp only; rw [Zix]; omega⟩,by dsimp only; omega⟩
  ·rw [ZH q,ZA (by omega),zz (by omega)]
   exact ⟨_,rfl,⟨by dsimp only; omega,h2,by dsimp only; rw [Zix]; omega⟩,by dsimp only; omega⟩
 ·refine .inr ?_
  rw [ZH c]
  exact ⟨_,rfl,h2.f,h2.t,h2.d,by omega⟩
theorem Zk3 {z:Za0} (he:∀ y∈z.Edges,Ze3 y) (hb:∀ y∈z.Bends,Zeq y) {most:Int} (hm:0≤most∧most≤8):∃ s,zr z most = some s∧Sh s∧(s.Boxes.length:Int)≤most:=by
 have h0:∃ r,ze (zr.s0 z most) big (([]:List Bool),0) = some r∧(r.length:Int)≤most:=by
  refine ZaV (μ:=fun s=>(most - s.2).toNat) (I:=fun s=>(0≤s.2∧s.2≤most)∧(s.1.length:Int) = s.2) (by dsimp only; unfold big; omega) ⟨by dsimp only; omega,rfl⟩ ?_
  rintro ⟨s,i⟩ ⟨h1,h2⟩
  dsimp only at h1 h2 ⊢
  simp only [zr.s0]
  by_cases c:i < (z.Boxes.length:Int)∧i < most
  ·refine .inl ?_
   rw [if_pos (by simp [c]),ZA (by omega),ZA (by simp; omega),zz (by omega)]
   exact ⟨_,rfl,⟨by dsimp only; omega,by simp; omega⟩,by dsimp only; omega⟩
  ·refine .inr ?_
   rw [if_neg (by simpa using c)]
   exact ⟨_,rfl,by omega⟩
 obtain ⟨B,e1,hB⟩:=h0
 have h1:∃ r,ze (zr.s1 z most B) big (([]:List zW),0) = some r∧(r.length≤16∧∀ e∈r,Ed B.length e):=by
  refine ZaV (μ:=fun s=>(2 * most - s.2).toNat) (I:=fun s=>(0≤s.2∧s.2≤2 * most)∧(s.1.length:Int) = s.2∧∀ e∈s.1,Ed B.length e) (by dsimp only; unfold big; omega) ⟨by dsimp only; omega,rfl,by simp⟩ ?_
  rintro ⟨s,i⟩ ⟨h1,h2,h3⟩
  dsimp only at h1 h2 h3 ⊢
  simp only [zr.s1]
  have T:(if decide (i < (z.Edges.length:Int)) = true then ck (zQ (2 * most)) (some (decide (i < 2 * most))) else some false) = some (decide (i < (z.Edges.length:Int)∧i < 2 * most)):=by
   by_cases c:i < (z.Edges.length:Int)
   ·rw [ZI c,zz (by omega)]
    congr 1
    rw [Bool.eq_iff_iff]; simp [c]
   ·rw [ZH c,Zb3 fun q=>c q.1]
  rw [T,Option.bind_some]
  by_cases c:(i < (z.Edges.length:Int)∧i < 2 * most)∧0 < (B.length:Int)
  ·refine .inl ?_
   obtain ⟨n,rfl⟩:=Int.eq_ofNat_of_zero_le h1.1
   have hx:=he _ (ZbQ (l:=z.Edges) (i:=n) (by omega))
   have x0:0≤(gi z.Edges n).get 0∧(gi z.Edges n).get 0≤255:=hx.1.u8
   have x1:0≤(gi z.Edges n).get 1∧(gi z.Edges n).get 1≤255:=hx.2.1.u8
   have x2:0≤(gi z.Edges n).get 2∧(gi z.Edges n).get 2≤255:=hx.2.2.u8
   have E0:Ed B.length ⟨((gi z.Edges n).get 0).tmod (B.length:Int),((gi z.Edges n).get 1).tmod (B.length:Int),((gi z.Edges n).get 2).tmod 4,(⟨#[]⟩:ByteArray)⟩:=⟨ZbU (by omega) (by omega),ZbU (by omega) (by omega),ZbU (by omega) (by omega),Nat.zero_le _⟩
   rw [if_pos (by simp [c]; omega),Int.toNat_natCast,ZA (by omega),ZbD (by omega),ZA (by omega),ZbD (by omega),ZbD (by omega)]
   by_cases q:(n:Int) < (z.Bends.length:Int)
   ·obtain ⟨e,l1,l2⟩:=ZjA hb (i:=n) (by omega) E0
    rw [ZI q,l1,Option.bind_some,Option.bind_some,ZA (by simp; omega),zz (by omega)]
    refine ⟨_,rfl,⟨by dsimp only; omega,by simp; omega,fun e' he'=>?_⟩,by dsimp only; omega⟩
    rcases List.mem_append.1 he' with k | k
    ·exact h3 _ k
    ·rw [List.mem_singleton.1 k]; exact l2
   ·rw [ZH q,Option.bind_some,ZA (by simp; omega),zz (by omega)]
    refine ⟨_,rfl,⟨by dsimp only; omega,by simp; omega,fun e' he'=>?_⟩,by dsimp only; omega⟩
    rcases List.mem_append.1 he' with k | k
    ·exact h3 _ k
    ·rw [List.mem_singleton.1 k]; exact E0
  ·refine .inr ?_
   rw [if_neg (by simp at c ⊢; omega)]
   exact ⟨_,rfl,by omega,h3⟩
 obtain ⟨E,e2,hE,hE2⟩:=h1
 refine ⟨⟨B,E⟩,?_,⟨by dsimp only; omega,hE,hE2⟩,hB⟩
 unfold zr
 rw [e1,Option.bind_some,e2,Option.bind_some]
theorem ZkH {n:Nat} {e:zW} (h:Ed n e):∃ d,Zaw e = some d∧0≤d∧d < 4:=by
 have:∃ r,ze (Zaw.s0 e) big (e.Dir,0) = some r∧(0≤r∧r < 4):=by
  refine ZaV (μ:=fun s=>((e.Bends.size:Int) - s.2).toNat) (I:=fun s=>(0≤s.1∧s.1 < 4)∧0≤s.2) (by dsimp only; unfold big; have:=h.b; omega) ⟨h.d,by dsimp only; omega⟩ ?_
  rintro ⟨d,i⟩ ⟨h1,h2⟩
  have hb:=h.b
  dsimp only at h1 h2 ⊢
  simp only [Zaw.s0]
  by_cases c:i < (e.Bends.size:Int)
  ·refine .inl ?_
   rw [ZI c,ZA (by omega)]
   have a:=ZbU (a:=d + 1) (n:=4) (by omega) (by omega)
   have b:=ZbU (a:=d + 3) (n:=4) (by omega) (by omega)
   by_cases q:sAt e.Bends i.toNat = 76
   ·rw [ZI q,zz (by omega),zz (by omega)]
    exact ⟨_,rfl,⟨a,by dsimp only; omega⟩,by dsimp only; omega⟩
   ·rw [ZH q,zz (by omega),zz (by omega)]
    exact ⟨_,rfl,⟨b,by dsimp only; omega⟩,by dsimp only; omega⟩
  ·refine .inr ?_
   rw [ZH c]
   exact ⟨_,rfl,h1⟩
 obtain ⟨r,e1,e2⟩:=this
 exact ⟨r,by unfold Zaw; rw [e1,Option.bind_some],e2⟩
theorem ZjD {s:z6} (h:Sh s) (v d:Int):∃ l,zV s v d = some l∧l.length≤32∧∀ x∈l,0≤x∧x < 2 * (s.Edges.length:Int):=by
 have he:=h.e
 have:∃ r,ze (zV.s0 s v d) big (([]:List Int),0) = some r∧(r.length≤32∧∀ x∈r,0≤x∧x < 2 * (s.Edges.length:Int)):=by
  refine ZaV (μ:=fun s'=>((s.Edges.length:Int) - s'.2).toNat) (I:=fun s'=>(0≤s'.2∧s'.2≤(s.Edges.length:Int))∧(s'.1.length:Int)≤2 * s'.2∧∀ x∈s'.1,0≤x∧x < 2 * (s.Edges.length:Int)) (by dsimp only; unfold big; omega) ⟨by dsimp only; omega,by simp,by simp⟩ ?_
  rintro ⟨l,i⟩ ⟨h1,h2,h3⟩
  dsimp only at h1 h2 h3 ⊢
  simp only [zV.s0]
  by_cases c:i < (s.Edges.length:Int)
  ·refine .inl ?_
   obtain ⟨n,rfl⟩:=Int.eq_ofNat_of_zero_le h1.1
   have hx:=h.ed _ (ZbQ (l:=s.Edges) (i:=n) (by omega))
   obtain ⟨q,l1,l2⟩:=ZkH hx
   have sd:Zbl (gi s.Edges n) = some ((q + 2).tmod 4):=by
    unfold Zbl
    rw [l1,Option.bind_some,zz (by omega)]
   rw [ZI c,ZA (by omega),Int.toNat_natCast,sd]
   have A:∃ l2,(if (decide ((gi s.Edges n).From = v) && decide ((gi s.Edges n).Dir = d)) = true then ck (zQ (2 * (n:Int))) (ck (l.length + [2 * (n:Int)].length≤1000000000) (some (l++[2 * (n:Int)]))) else some l) = some l2∧l2.length≤2 * n + 1∧∀ x∈l2,0≤x∧x < 2 * (s.Edges.length:Int):=by
    split
    ·rw [zz (by omega),ZA (by simp; omega)]
     refine ⟨_,rfl,by simp; omega,fun x hx=>?_⟩
     rcases List.mem_append.1 hx with k | k
     ·exact h3 _ k
     ·rw [List.mem_singleton.1 k]; omega
    ·exact ⟨_,rfl,by omega,h3⟩
   obtain ⟨m,a1,a2,a3⟩:=A
   rw [a1,Option.bind_some,Option.bind_some]
   split
   ·rw [zz (by omega),zz (by omega),ZA (by simp; omega),zz (by omega)]
    refine ⟨_,rfl,⟨by dsimp only; omega,by simp; omega,fun x hx=>?_⟩,by dsimp only; omega⟩
    rcases List.mem_append.1 hx with k | k
    ·exact a3 _ k
    ·rw [List.mem_singleton.1 k]; omega
   ·rw [zz (by omega)]
    exact ⟨_,rfl,⟨by dsimp only; omega,by dsimp only; omega,a3⟩,by dsimp only; omega⟩
  ·refine .inr ?_
   rw [ZH c]
   exact ⟨_,rfl,by omega,h3⟩
 obtain ⟨r,e1,e2⟩:=this
 exact ⟨r,by unfold zV; rw [e1,Option.bind_some],e2⟩
theorem ZeB {ρ:Type} {F:Int→Option (Int ⊕ ρ)} {n:Nat} (hn:n≤1000000) (h:∀ i:Nat,i < n→F i = some (.inl ((i:Int) + 1))∨∃ r,F i = some (.inr r)) (he:∃ r,F n = some (.inr r)):∃ r,ze F big 0 = some r:=by
 obtain ⟨r,e,_⟩:=ZaV (step:=F) (s0:=0) (μ:=fun s=>((n:Int) - s).toNat) (I:=fun s=>0≤s∧s≤n) (R:=fun _=>True) (by first | (unfold big; omega) | (dsimp only; unfold big; omega)) (by first | omega | (dsimp only; omega)) (by
  intro s hs
  obtain ⟨i,rfl⟩:=Int.eq_ofNat_of_zero_le hs.1
  by_cases c:i < n
  ·rcases h i c with k | ⟨r,k⟩
   ·exact .inl ⟨_,k,by omega,by omega⟩
   ·exact .inr ⟨r,k,trivial⟩
  ·have:i = n:=by omega
   subst this
   obtain ⟨r,k⟩:=he
   exact .inr ⟨r,k,trivial⟩)
 exact ⟨r,e⟩
theorem ZjE {b:ByteArray} (hb:b.size≤3):∃ t,Zam b = some t:=by
 obtain ⟨r,e⟩:=ZeB (F:=Zam.s0 b) (n:=b.size) (by omega) (fun i hi=>by
  simp only [Zam.s0]
  rw [ZI (by omega),ZA (by omega)]
  split
  ·exact .inr ⟨_,rfl⟩
  ·rw [zz (by omega)]; exact .inl rfl) ⟨_,by simp only [Zam.s0]; rw [ZH (by omega)]⟩
 unfold Zam
 rw [e,Option.bind_some]
 cases r <;> exact ⟨_,rfl⟩
theorem ZjB {s:z6} (h:Sh s):∃ e,z7 s = some e:=by
 have he:=h.e
 have hB:=h.b
 have h0:∃ r,ze (z7.s0 s) big (0,0) = some r∧True:=by
  refine ZaV (μ:=fun s'=>((s.Edges.length:Int) - s'.2).toNat) (I:=fun s'=>(0≤s'.2∧s'.2≤(s.Edges.length:Int))∧0≤s'.1∧s'.1≤3 * s'.2) (by dsimp only; unfold big; omega) ⟨by dsimp only; omega,by dsimp only; omega⟩ ?_
  rintro ⟨n,i⟩ ⟨h1,h2⟩
  dsimp only at h1 h2 ⊢
  simp only [z7.s0]
  by_cases c:i < (s.Edges.length:Int)
  ·refine .inl ?_
   have hx:=(h.ed _ (ZbQ (l:=s.Edges) (i:=i.toNat) (by omega))).b
   rw [ZI c,ZA (by omega),zz (by omega),zz (by omega)]
   exact ⟨_,rfl,⟨by dsimp only; omega,by dsimp only; omega⟩,by dsimp only; omega⟩
  ·refine .inr ?_
   rw [ZH c]
   exact ⟨_,rfl,trivial⟩
 obtain ⟨n,e1,_⟩:=h0
 obtain ⟨r,e2⟩:=ZeB (F:=z7.s1 s) (n:=s.Edges.length) (by omega) (fun i hi=>by
  have hx:=h.ed _ (ZbQ hi)
  obtain ⟨t,ht⟩:=ZjE hx.b
  simp only [z7.s1,Int.toNat_natCast]
  rw [ZI (by omega),ZA (by omega)]
  split
  ·exact .inr ⟨_,rfl⟩
  ·rw [ht,Option.bind_some]
   split
   ·exact .inr ⟨_,rfl⟩
   ·rw [zz (by omega)]; exact .inl rfl) ⟨_,by simp only [z7.s1]; rw [ZH (by omega)]⟩
 unfold z7
 rw [e1,Option.bind_some]
 split
 ·exact ⟨_,rfl⟩
 ·rw [e2,Option.bind_some]
  cases r <;> exact ⟨_,rfl⟩
theorem ZjC {s:z6} (h:Sh s):∃ n,zl s = some n:=by
 have he:=h.e
 have hB:=h.b
 have h1:∀ (v:Nat) (m:Int),v < s.Boxes.length→0≤m→m≤1000000→∃ r,ze (zl.s1 s v) big (m,0) = some r∧(0≤r∧r≤m + 128):=by
  intro v m hv m0 m1
  refine ZaV (μ:=fun s'=>(4 - s'.2).toNat) (I:=fun s'=>(0≤s'.2∧s'.2≤4)∧0≤s'.1∧s'.1≤m + 32 * s'.2) (by dsimp only; unfold big; omega) ⟨by dsimp only; omega,by dsimp only; omega⟩ ?_
  rintro ⟨n,i⟩ ⟨h1,h2⟩
  dsimp only at h1 h2 ⊢
  simp only [zl.s1]
  by_cases c:i < 4
  ·rw [ZI c,ZA (by omega),Option.bind_some]
   obtain ⟨l,l1,l2,_⟩:=ZjD h v i
   split
   ·refine .inl ?_
    rw [l1,Option.bind_some,zz (by omega),zz (by omega)]
    exact ⟨_,rfl,⟨by dsimp only; omega,by dsimp only; omega⟩,by dsimp only; omega⟩
   ·exact .inr ⟨_,rfl,by omega⟩
  ·refine .inr ?_
   rw [ZH c,Option.bind_some,if_neg (by decide)]
   exact ⟨_,rfl,by omega⟩
 have h0:∃ r,ze (zl.s0 s) big (0,0) = some r∧(0≤r∧r≤10000):=by
  refine ZaV (μ:=fun s'=>((s.Boxes.length:Int) - s'.2).toNat) (I:=fun s'=>(0≤s'.2∧s'.2≤(s.Boxes.length:Int))∧0≤s'.1∧s'.1≤200 * s'.2) (by dsimp only; unfold big; omega) ⟨by dsimp only; omega,by dsimp only; omega⟩ ?_
  rintro ⟨n,i⟩ ⟨g1,g2⟩
  dsimp only at g1 g2 ⊢
  simp only [zl.s0]
  by_cases c:i < (s.Boxes.length:Int)
  ·refine .inl ?_
   obtain ⟨v,rfl⟩:=Int.eq_ofNat_of_zero_le g1.1
   obtain ⟨r,r1,r2⟩:=h1 v (n + 1) (by omega) (by omega) (by omega)
   rw [ZI c,zz (by omega),r1,Option.bind_some,ZA (by omega)]
   by_cases z:gi s.Boxes ((v:Int)).toNat = true
   ·rw [if_pos z,zz (by omega),zz (by omega)]
    exact ⟨_,rfl,⟨by dsimp only; omega,by dsimp only; omega⟩,by dsimp only; omega⟩
   ·rw [if_neg z,zz (by omega)]
    exact ⟨_,rfl,⟨by dsimp only; omega,by dsimp only; omega⟩,by dsimp only; omega⟩
  ·refine .inr ?_
   rw [ZH c]
   exact ⟨_,rfl,by omega⟩
 obtain ⟨m,e1,e2⟩:=h0
 have h2:∃ r,ze (zl.s2 s) big (m,0) = some r∧True:=by
  refine ZaV (μ:=fun s'=>((s.Edges.length:Int) - s'.2).toNat) (I:=fun s'=>(0≤s'.2∧s'.2≤(s.Edges.length:Int))∧0≤s'.1∧s'.1≤10000 + 3 * s'.2) (by dsimp only; unfold big; omega) ⟨by dsimp only; omega,by dsimp only; omega⟩ ?_
  rintro ⟨n,i⟩ ⟨h1,h2⟩
  dsimp only at h1 h2 ⊢
  simp only [zl.s2]
  by_cases c:i < (s.Edges.length:Int)
  ·refine .inl ?_
   have hx:=(h.ed _ (ZbQ (l:=s.Edges) (i:=i.toNat) (by omega))).b
   rw [ZI c,ZA (by omega),zz (by omega),zz (by omega)]
   exact ⟨_,rfl,⟨by dsimp only; omega,by dsimp only; omega⟩,by dsimp only; omega⟩
  ·refine .inr ?_
   rw [ZH c]
   exact ⟨_,rfl,trivial⟩
 obtain ⟨r,e3,_⟩:=h2
 exact ⟨r,by unfold zl; rw [e1,Option.bind_some,e3,Option.bind_some]⟩
theorem ZjF {s:z6} (h:Sh s):∃ e,zd s = some e:=by
 have he:=h.e
 have hB:=h.b
 obtain ⟨x,c1⟩:=ZjB h
 obtain ⟨n,c2⟩:=ZjC h
 have w1:∀ v:Nat,v < s.Boxes.length→∃ r,ze (zd.s1 s v) big 0 = some r:=by
  intro v hv
  refine ZeB (n:=4) (by omega) (fun i hi=>?_) ⟨_,by simp only [zd.s1]; rw [ZH (by omega),Option.bind_some,if_neg (by decide)]⟩
  simp only [zd.s1]
  rw [ZI (by omega),ZA (by omega),Option.bind_some]
  obtain ⟨l,l1,l2,_⟩:=ZjD h v i
  split
  ·rw [l1,Option.bind_some]
   split
   ·exact .inr ⟨_,rfl⟩
   ·rw [zz (by omega)]; exact .inl rfl
  ·exact .inr ⟨_,rfl⟩
 obtain ⟨r0,w0⟩:=ZeB (F:=zd.s0 s) (n:=s.Boxes.length) (by omega) (fun i hi=>by
  obtain ⟨r,w⟩:=w1 i hi
  simp only [zd.s0]
  rw [ZI (by omega),w,Option.bind_some]
  cases r with
  | inl _=>dsimp only; rw [zz (by omega)]; exact .inl rfl
  | inr _=>exact .inr ⟨_,rfl⟩) ⟨_,by simp only [zd.s0]; rw [ZH (by omega)]⟩
 obtain ⟨r2,w2⟩:=ZeB (F:=zd.s2 s) (n:=s.Edges.length) (by omega) (fun i hi=>by
  have hx:=h.ed _ (ZbQ hi)
  have hf:=hx.f
  simp only [zd.s2,Int.toNat_natCast]
  rw [ZI (by omega),ZA (by omega),ZA (by omega),zz (by omega)]
  split
  ·rw [Option.bind_some]
   split
   ·exact .inr ⟨_,rfl⟩
   ·exact .inl rfl
  ·rw [Option.bind_some,if_neg (by decide)]
   exact .inl rfl) ⟨_,by simp only [zd.s2]; rw [ZH (by omega)]⟩
 unfold zd
 rw [c1,Option.bind_some]
 split
 ·exact ⟨_,rfl⟩
 ·rw [c2,Option.bind_some]
  split
  ·exact ⟨_,rfl⟩
  ·rw [w0,Option.bind_some]
   cases r0 with
   | inl _ =>
    dsimp only
    rw [w2,Option.bind_some]
    cases r2 <;> exact ⟨_,rfl⟩
   | inr _=>exact ⟨_,rfl⟩
theorem ZgD {l:List Zc} (hl:l.length≤10000) (v d w o:Int):∃ l' e,zx l v d w o = some (l',e)∧l'.length = l.length:=by
 simp only [zx]
 by_cases c:(0≤v∧v < l.length∧0≤d∧d < 4)∧(0≤w∧w < l.length)∧v≠w∧-2≤o
 ·obtain ⟨⟨c1,c2,c3,c4⟩,⟨c5,c6⟩,c7,c8⟩:=c
  have hb:0≤(d + 2).tmod 4∧(d + 2).tmod 4 < 4:=ZbU (by omega) (by omega)
  rw [if_neg (by simp; omega),ZA (by omega),ZA (by omega),zz (by omega),ZA (by omega),ZA hb,ZjS (by omega) (by omega),Option.bind_some]
  split
  ·rw [Option.bind_some,if_pos rfl]; exact ⟨_,_,rfl,rfl⟩
  ·rw [Option.bind_some]
   split
   ·exact ⟨_,_,rfl,rfl⟩
   ·exact ⟨_,_,rfl,by rw [ZbV]⟩
 ·rw [if_pos (by simp; omega)]
  exact ⟨_,_,rfl,rfl⟩
theorem ZlB {s:z6} (h:Sh s) {n:Zau} (hn:n.Ends.length = s.Edges.length) (hc:n.Cells.length≤2000) (v:Int):∃ r,zS n s v = some r∧r.Ends.length = s.Edges.length∧r.Cells.length≤n.Cells.length + 132∧r.First = n.First∧r.Ways = n.Ways:=by
 have he:=h.e
 have inner:∀ (d:Int) (x1:List Int) (c0:List Zc) (e0:List (A2 Int)) (f0:Int),x1.length≤32→(∀ x∈x1,0≤x∧x < 2 * (s.Edges.length:Int))→c0.length≤2200→e0.length = s.Edges.length→∃ r,ze (zS.s1 d x1) big (c0,e0,f0,0) = some r∧(r.1.length≤c0.length + 32∧r.2.1.length = s.Edges.length):=by
  intro d x1 c0 e0 f0 hx hxr hc0 he0
  refine ZaV (μ:=fun s'=>((x1.length:Int) - s'.2.2.2).toNat) (I:=fun s'=>(0≤s'.2.2.2∧s'.2.2.2≤(x1.length:Int))∧(s'.1.length:Int)≤(c0.length:Int) + s'.2.2.2∧s'.2.1.length = s.Edges.length) (by dsimp only; unfold big; omega) ⟨by dsimp only; omega,by dsimp only; omega,he0⟩ ?_
  rintro ⟨c,e,f,i⟩ ⟨h1,h2,h3⟩
  dsimp only at h1 h2 h3 ⊢
  simp only [zS.s1]
  by_cases q:i < (x1.length:Int)
  ·refine .inl ?_
   have m1:=Zjz (n:=1) (by omega)
   rw [show ((1:Nat):Int) = 1 from rfl] at m1
   have xr:=hxr _ (ZbQ (l:=x1) (i:=i.toNat) (by omega))
   have d1:0≤(gi x1 i.toNat).tdiv 2∧(gi x1 i.toNat).tdiv 2 < s.Edges.length:=by
    rw [Int.tdiv_eq_ediv_of_nonneg (by omega)]; omega
   have d2:=ZbU (a:=gi x1 i.toNat) (n:=2) (by omega) (by omega)
   obtain ⟨l',e',j1,j2⟩:=ZgD (l:=c++List.replicate 1 noC) (by simp; omega) f (gi ([1,0,1,0]:List Int) d.toNat) (c.length:Int) (-1)
   rw [ZI q,m1,Option.bind_some,ZA (by simp; omega),ZA (by omega),ZA (by refine ⟨by omega,by omega,by omega⟩),ZA (by omega),ZA (by omega),j1,Option.bind_some]
   dsimp only
   rw [zz (by omega)]
   exact ⟨_,rfl,⟨by dsimp only; omega,by dsimp only; rw [j2]; simp; omega,by dsimp only; rw [List.length_set]; exact h3⟩,by dsimp only; omega⟩
  ·refine .inr ?_
   rw [ZH q]
   exact ⟨_,rfl,by dsimp only; omega,h3⟩
 have m4:=Zjz (n:=4) (by omega)
 rw [show ((4:Nat):Int) = 4 from rfl] at m4
 have outer:∃ r,ze (zS.s0 n s v) big (n.Cells++List.replicate 4 noC,n.Ends,0) = some r∧(r.1.length≤n.Cells.length + 132∧r.2.length = s.Edges.length):=by
  refine ZaV (μ:=fun s'=>(4 - s'.2.2).toNat) (I:=fun s'=>(0≤s'.2.2∧s'.2.2≤4)∧(s'.1.length:Int)≤(n.Cells.length:Int) + 4 + 32 * s'.2.2∧s'.2.1.length = s.Edges.length) (by dsimp only; unfold big; omega) ⟨by dsimp only; omega,by simp,hn⟩ ?_
  rintro ⟨c,e,d⟩ ⟨h1,h2,h3⟩
  dsimp only at h1 h2 h3 ⊢
  simp only [zS.s0]
  by_cases q:d < 4
  ·refine .inl ?_
   obtain ⟨l,l1,l2,l3⟩:=ZjD h v d
   obtain ⟨⟨c',e',f'⟩,r1,r2,r3⟩:=inner d l c e (gi [(n.Cells.length:Int) + 1,(n.Cells.length:Int) + 3,(n.Cells.length:Int),(n.Cells.length:Int)] d.toNat) l2 l3 (by omega) h3
   dsimp only at r2 r3
   obtain ⟨l',e2,j1,j2⟩:=ZgD (l:=c') (by omega) f' (gi ([1,0,1,0]:List Int) d.toNat) (gi [(n.Cells.length:Int) + 2,(n.Cells.length:Int) + 2,(n.Cells.length:Int) + 3,(n.Cells.length:Int) + 1] d.toNat) (-1)
   rw [ZI q,zz (by omega),zz (by omega),ZA (by simp; omega),zz (by omega),ZA (by simp; omega),ZA (by simp; omega),l1,Option.bind_some,r1,Option.bind_some]
   dsimp only
   rw [j1,Option.bind_some]
   dsimp only
   rw [zz (by omega)]
   exact ⟨_,rfl,⟨by dsimp only; omega,by dsimp only; omega,r3⟩,by dsimp only; omega⟩
  ·refine .inr ?_
   rw [ZH q]
   exact ⟨_,rfl,by dsimp only; omega,h3⟩
 obtain ⟨⟨c,e⟩,o1,o2,o3⟩:=outer
 dsimp only at o2 o3
 refine ⟨⟨c,n.First,e,n.Ways⟩,?_,o3,o2,rfl,rfl⟩
 unfold zS
 rw [m4,Option.bind_some,ZA (by simp; omega),o1,Option.bind_some]
theorem ZlT {s:z6} (h:Sh s):∃ n,ZT s = some n∧n.Cells.length≤1200:=by
 have he:=h.e
 have hB:=h.b
 have m1:=Zjz (n:=1) (by omega)
 rw [show ((1:Nat):Int) = 1 from rfl] at m1
 have s2:∀ (n:List Zc) (x:List Int) (e0:List (A2 Int)),n.length≤2000→x.length≤32→(∀ y∈x,0≤y∧y < 2 * (s.Edges.length:Int))→e0.length = s.Edges.length→∃ r,ze (ZT.s2 n x) big (e0,0) = some r∧r.length = s.Edges.length:=by
  intro n x e0 hn hx hxr he0
  refine ZaV (μ:=fun s'=>((x.length:Int) - s'.2).toNat) (I:=fun s'=>(0≤s'.2∧s'.2≤(x.length:Int))∧s'.1.length = s.Edges.length) (by dsimp only; unfold big; omega) ⟨by dsimp only; omega,he0⟩ ?_
  rintro ⟨e,i⟩ ⟨h1,h3⟩
  dsimp only at h1 h3 ⊢
  simp only [ZT.s2]
  by_cases q:i < (x.length:Int)
  ·refine .inl ?_
   have xr:=hxr _ (ZbQ (l:=x) (i:=i.toNat) (by omega))
   have d1:0≤(gi x i.toNat).tdiv 2∧(gi x i.toNat).tdiv 2 < s.Edges.length:=by
    rw [Int.tdiv_eq_ediv_of_nonneg (by omega)]; omega
   have d2:=ZbU (a:=gi x i.toNat) (n:=2) (by omega) (by omega)
   rw [ZI q,ZA (by omega),ZA (by refine ⟨by omega,by omega,by omega⟩),ZA (by omega),ZA (by omega),zz (by omega)]
   exact ⟨_,rfl,⟨by dsimp only; omega,by dsimp only; rw [List.length_set]; exact h3⟩,by dsimp only; omega⟩
  ·refine .inr ?_
   rw [ZH q]
   exact ⟨_,rfl,h3⟩
 have s1:∀ (n:List Zc) (v:Int) (e0:List (A2 Int)),n.length≤2000→e0.length = s.Edges.length→∃ r,ze (ZT.s1 s n v) big (e0,0) = some r∧r.length = s.Edges.length:=by
  intro n v e0 hn he0
  refine ZaV (μ:=fun s'=>(4 - s'.2).toNat) (I:=fun s'=>(0≤s'.2∧s'.2≤4)∧s'.1.length = s.Edges.length) (by dsimp only; unfold big; omega) ⟨by dsimp only; omega,he0⟩ ?_
  rintro ⟨e,d⟩ ⟨h1,h3⟩
  dsimp only at h1 h3 ⊢
  simp only [ZT.s1]
  by_cases q:d < 4
  ·refine .inl ?_
   obtain ⟨l,l1,l2,l3⟩:=ZjD h v d
   obtain ⟨r,r1,r2⟩:=s2 n l e hn l2 l3 h3
   rw [ZI q,l1,Option.bind_some,r1,Option.bind_some,zz (by omega)]
   exact ⟨_,rfl,⟨by dsimp only; omega,r2⟩,by dsimp only; omega⟩
  ·refine .inr ?_
   rw [ZH q]
   exact ⟨_,rfl,h3⟩
 have s0:∃ r,ze (ZT.s0 s) big (([]:List Zc),([]:List Int),List.replicate (s.Edges.length:Int).toNat (⟨0,0⟩:A2 Int),([]:List (List Int)),0) = some r∧(r.1.length≤1056∧r.2.2.1.length = s.Edges.length∧r.2.2.2 = []):=by
  refine ZaV (μ:=fun s'=>((s.Boxes.length:Int) - s'.2.2.2.2).toNat) (I:=fun s'=>(0≤s'.2.2.2.2∧s'.2.2.2.2≤(s.Boxes.length:Int))∧(s'.1.length:Int)≤132 * s'.2.2.2.2∧(s'.2.1.length:Int) = s'.2.2.2.2∧s'.2.2.1.length = s.Edges.length∧s'.2.2.2.1 = []) (by dsimp only; unfold big; omega) ⟨by dsimp only; omega,by simp,by simp,by simp,rfl⟩ ?_
  rintro ⟨c,f,e,w,v⟩ ⟨h1,h2,h3,h4,h5⟩
  dsimp only at h1 h2 h3 h4 h5 ⊢
  simp only [ZT.s0]
  by_cases q:v < (s.Boxes.length:Int)
  ·refine .inl ?_
   rw [ZI q,ZA (by simp; omega),ZA (by omega)]
   split
   ·obtain ⟨r,b1,b2,b3,b4,b5⟩:=ZlB h (n:=⟨c,f++[(c.length:Int)],e,w⟩) h4 (by dsimp only; omega) v
    dsimp only at b3 b4 b5
    rw [b1,Option.bind_some,zz (by omega)]
    exact ⟨_,rfl,⟨by dsimp only; omega,by dsimp only; omega,by dsimp only; rw [b4]; simp; omega,b2,by dsimp only; rw [b5]; exact h5⟩,by dsimp only; omega⟩
   ·obtain ⟨r,r1,r2⟩:=s1 c v e (by omega) h4
    rw [m1,Option.bind_some,ZA (by simp; omega),r1,Option.bind_some,zz (by omega)]
    exact ⟨_,rfl,⟨by dsimp only; omega,by simp; omega,by simp; omega,r2,h5⟩,by dsimp only; omega⟩
  ·refine .inr ?_
   rw [ZH q]
   exact ⟨_,rfl,by dsimp only; omega,h4,h5⟩
 obtain ⟨⟨c,f,e,w⟩,o1,o2,o3,o4⟩:=s0
 dsimp only at o2 o3 o4
 subst o4
 have s4:∀ (i:Nat) (c0:List Zc) (a d:Int) (w0:List Int),i < s.Edges.length→c0.length≤2000→0≤d∧d < 4→w0.length≤1→∃ r,ze (ZT.s4 s i) big (c0,a,d,w0,0) = some r∧(r.1.length≤c0.length + 3∧r.2.2.2.length≤4):=by
  intro i c0 a d w0 hi hc0 hd hw0
  have hx:=h.ed _ (ZbQ hi)
  have hb:=hx.b
  refine ZaV (μ:=fun s'=>(((gi s.Edges i).Bends.size:Int) - s'.2.2.2.2).toNat) (I:=fun s'=>(0≤s'.2.2.2.2∧s'.2.2.2.2≤((gi s.Edges i).Bends.size:Int))∧(s'.1.length:Int)≤(c0.length:Int) + s'.2.2.2.2∧(s'.2.2.2.1.length:Int)≤1 + s'.2.2.2.2∧0≤s'.2.2.1∧s'.2.2.1 < 4) (by dsimp only; unfold big; omega) ⟨by dsimp only; omega,by dsimp only; omega,by dsimp only; omega,hd⟩ ?_
  rintro ⟨c,at_,d,w,k⟩ ⟨h1,h2,h3,h4⟩
  dsimp only at h1 h2 h3 h4 ⊢
  simp only [ZT.s4,Int.toNat_natCast]
  by_cases q:k < ((gi s.Edges i).Bends.size:Int)
  ·refine .inl ?_
   obtain ⟨l',e',j1,j2⟩:=ZgD (l:=c++List.replicate 1 noC) (by simp; omega) at_ d (c.length:Int) i
   have t1:=ZbU (a:=d + 1) (n:=4) (by omega) (by omega)
   have t3:=ZbU (a:=d + 3) (n:=4) (by omega) (by omega)
   have jl:l'.length = c.length + 1:=by rw [j2]; simp
   rw [ZI q,m1,Option.bind_some,ZA (by simp; omega),j1,Option.bind_some]
   dsimp only
   rw [ZA (by simp; omega),ZA (by omega)]
   by_cases z:sAt (gi s.Edges i).Bends k.toNat = 76
   ·rw [ZI z,zz (by omega),zz (by omega)]
    exact ⟨_,rfl,⟨by dsimp only; omega,by dsimp only; omega,by simp; omega,t1⟩,by dsimp only; omega⟩
   ·rw [ZH z,zz (by omega),zz (by omega)]
    exact ⟨_,rfl,⟨by dsimp only; omega,by dsimp only; omega,by simp; omega,t3⟩,by dsimp only; omega⟩
  ·refine .inr ?_
   rw [ZH q]
   exact ⟨_,rfl,by dsimp only; omega,by dsimp only; omega⟩
 have s3:∃ r,ze (ZT.s3 s e) big (c,([]:List (List Int)),0) = some r∧r.1.length≤1200:=by
  refine ZaV (μ:=fun s'=>((s.Edges.length:Int) - s'.2.2).toNat) (I:=fun s'=>(0≤s'.2.2∧s'.2.2≤(s.Edges.length:Int))∧(s'.1.length:Int)≤1056 + 3 * s'.2.2∧(s'.2.1.length:Int) = s'.2.2) (by dsimp only; unfold big; omega) ⟨by dsimp only; omega,by dsimp only; omega,rfl⟩ ?_
  rintro ⟨c,w,i⟩ ⟨h1,h2,h3⟩
  dsimp only at h1 h2 h3 ⊢
  simp only [ZT.s3]
  by_cases q:i < (s.Edges.length:Int)
  ·refine .inl ?_
   obtain ⟨n,rfl⟩:=Int.eq_ofNat_of_zero_le h1.1
   have hx:=h.ed _ (ZbQ (l:=s.Edges) (i:=n) (by omega))
   obtain ⟨⟨c',a',d',w'⟩,r1,r2,r3⟩:=s4 n c ((gi e n).get 0) (gi s.Edges n).Dir [(gi e n).get 0] (by omega) (by omega) hx.d (by simp)
   dsimp only at r2 r3
   obtain ⟨l',e',j1,j2⟩:=ZgD (l:=c') (by omega) a' d' ((gi e n).get 1) n
   rw [ZI q,ZA (by omega),ZA (by omega),Int.toNat_natCast,r1,Option.bind_some]
   dsimp only
   rw [j1,Option.bind_some]
   dsimp only
   rw [ZA (by simp; omega),ZA (by omega),zz (by omega)]
   exact ⟨_,rfl,⟨by dsimp only; omega,by dsimp only; omega,by simp; omega⟩,by dsimp only; omega⟩
  ·refine .inr ?_
   rw [ZH q]
   exact ⟨_,rfl,by dsimp only; omega⟩
 obtain ⟨⟨c2,w2⟩,p1,p2⟩:=s3
 dsimp only at p2
 refine ⟨⟨c2,f,e,w2⟩,?_,p2⟩
 unfold ZT
 rw [ZA (by omega),o1,Option.bind_some]
 dsimp only
 rw [p1,Option.bind_some]
end Mu
/- Layer 14: ValidTells. -/
set_option linter.unusedVariables false
set_option linter.unusedSimpArgs false
set_option maxRecDepth 10000
namespace Mu
theorem ZgO:Zbw = some true:=by decide +kernel
theorem ZiE {l:List Zc} (hl:l.length≤1200):Za5 l = some true:=by
 unfold Za5
 rw [ZkE hl,Option.bind_some]
 dsimp only
 rw [Zj2 hl,Option.bind_some]
 by_cases e:Zdh l = 0
 ·rw [if_pos e,if_pos e]
  by_cases c:l.length = 1
  ·have v:ZfL l = -1:=by unfold ZfL; rw [if_pos c]
   rw [if_pos c,v]
   dsimp only
   rw [Zfj hl,Option.bind_some,Za1 rfl,Za1 e,ZI (by decide)]
   rfl
  ·have r:=ZiP e c
   rw [if_neg c]
   dsimp only
   rw [Zfj hl,Option.bind_some,Za1 rfl,Za1 e,ZH (by omega),Zb0 rfl,Zb0 rfl]
   rfl
 ·rw [if_neg e,if_neg e]
  dsimp only
  rw [Zfj hl,Option.bind_some,Za1 rfl,ZaK e,Zb0 rfl,Zb0 rfl]
  rfl
theorem Zfb (z:zB) (y:Za0) (raw:List Zc) (m1:z.At.length≤Go.maxLen) (b1:∀ y∈z.At,Zeq y) (m2:z.Bits.length≤Go.maxLen) (b2:∀ y∈z.Bits,Zeq y) (m3:z.Own.length≤Go.maxLen) (b3:∀ y∈z.Own,Zhv y) (n1:y.Boxes.length≤Go.maxLen) (c1:∀ x∈y.Boxes,Zgr x) (n2:y.Edges.length≤Go.maxLen) (c2:∀ x∈y.Edges,Ze3 x) (n3:y.Bends.length≤Go.maxLen) (c3:∀ x∈y.Bends,Zeq x) (mr:raw.length≤Go.maxLen) (br:∀ y∈raw,Zd1 y):ZaP z y raw = some true:=by
 obtain ⟨l,pts,e1,hM,hlen⟩:=Zlx (z:=z) (most:=16) (okZ m1 b1 b3) (by omega)
 obtain ⟨s,e2,hs,_⟩:=Zk3 (z:=y) c2 c3 (most:=8) (by omega)
 obtain ⟨w,e3⟩:=ZjF hs
 obtain ⟨n,e4,hn⟩:=ZlT hs
 unfold ZaP
 rw [e1,Option.bind_some]
 dsimp only
 rw [e2,Option.bind_some,ZgO,Option.bind_some,if_neg (by decide),ZiE (by omega),Option.bind_some,Option.bind_some,if_neg (by decide),ZA (by omega),ZiE (by rw [List.length_take]; omega),Option.bind_some,Option.bind_some,if_neg (by decide),e3,Option.bind_some]
 by_cases c:w = 0
 ·rw [Za1 c,e4,Option.bind_some,ZiE hn,Option.bind_some,Option.bind_some]
 ·rw [ZaK c,Option.bind_some]
end Mu
