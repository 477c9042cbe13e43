/- The law, plainly: what is worked out. -/
import Derived.Test.YtdefkboekpjiiaaMuV
import Derived.Test.YtdefkboekpjiiaaMuDf
/- Layer 10: cells,made of places. -/
set_option linter.unusedVariables false
set_option linter.unusedSimpArgs false
set_option maxRecDepth 10000
namespace Mu

def nx (l:List Zc) (v d:Nat):Int:=((gi l v).Next).get (d:Int)
def ow (l:List Zc) (v d:Nat):Int:=((gi l v).Owner).get (d:Int)
theorem Zdi {α:Type} {x:A4 α} {i j:Nat} {v:α} (hi:i < 4) (hj:j < 4):(x.set (i:Int) v).get (j:Int) = if j = i then v else x.get (j:Int):=by
 match i,j,hi,hj with
 | 0,0,_,_ | 0,1,_,_ | 0,2,_,_ | 0,3,_,_ | 1,0,_,_ | 1,1,_,_ | 1,2,_,_ | 1,3,_,_ | 2,0,_,_ | 2,1,_,_ | 2,2,_,_ | 2,3,_,_ | 3,0,_,_ | 3,1,_,_ | 3,2,_,_ | 3,3,_,_=>rfl
def noC:Zc:=⟨⟨-1,-1,-1,-1⟩,⟨0,0,0,0⟩⟩
theorem Zdn {α:Type} [Inhabited α] {n i:Nat} {f:Nat→α} (h:i < n):gi ((List.range n).map f) i = f i:=by
 rw [Zbd (by simpa using h)]; simp
theorem ZdC {α:Type} [Inhabited α] {l m:List α} (h:l.length = m.length) (hg:∀ i,i < l.length→gi l i = gi m i):l = m:=by
 apply List.ext_getElem h
 intro i h1 h2
 have:=hg i h1
 rw [Zbd h1,Zbd h2] at this
 exact this

/-! New -/
theorem Zjp {n:Nat} (hn:n≤1000000000):ZE n = some (List.replicate n noC):=by
 unfold ZE
 rw [Z8 (by omega),Int.toNat_natCast,Zhh (x:=List.replicate n noC)]
 refine ZbC (fun i:Nat=>(List.replicate i noC++List.replicate (n - i) ⟨⟨0,0,0,0⟩,⟨0,0,0,0⟩⟩,(i:Int))) (n:=n) (Zbc (by omega)) (by simp) (fun i hi=>?_) ?_
 ·have e1:List.replicate (n - i) (⟨⟨0,0,0,0⟩,⟨0,0,0,0⟩⟩:Zc) = ⟨⟨0,0,0,0⟩,⟨0,0,0,0⟩⟩ :: List.replicate (n - (i + 1)) ⟨⟨0,0,0,0⟩,⟨0,0,0,0⟩⟩:=by
   rw [show n - i = n - (i + 1) + 1 by omega,List.replicate_succ]
  have e2:List.replicate (i + 1) noC = List.replicate i noC++[noC]:=by rw [List.replicate_succ']
  have inner:za (ZE.s1 i) big (List.replicate i noC++List.replicate (n - i) ⟨⟨0,0,0,0⟩,⟨0,0,0,0⟩⟩,0) = some (List.replicate (i + 1) noC++List.replicate (n - (i + 1)) ⟨⟨0,0,0,0⟩,⟨0,0,0,0⟩⟩):=by
   rw [e1,e2]
   generalize List.replicate (n - (i + 1)) (⟨⟨0,0,0,0⟩,⟨0,0,0,0⟩⟩:Zc) = r
   refine ZbC (fun k:Nat=>(List.replicate i noC++(⟨⟨if 0 < k then -1 else 0,if 1 < k then -1 else 0,if 2 < k then -1 else 0,if 3 < k then -1 else 0⟩,⟨0,0,0,0⟩⟩:Zc) :: r,(k:Int))) (n:=4) (Zbc (by omega)) rfl (fun k hk=>?_) ?_
   ·have hlen:(List.replicate i noC).length = i:=by simp
    have g:∀ c:Zc,gi (List.replicate i noC++c :: r) i = c:=by
     intro c
     have:=ZbB (l:=List.replicate i noC) (m:=c :: r) (i:=0)
     rw [hlen,Nat.add_zero] at this
     rw [this]; rfl
    have st:∀ c d:Zc,(List.replicate i noC++c :: r).set i d = List.replicate i noC++d :: r:=by
     intro c d
     rw [List.set_append_right _ _ (by simp)]
     simp
    simp only [ZE.s1]
    rw [ZM (by omega),Z8 (by simp; omega),Z8 (by omega),Z8 (by omega),Int.toNat_natCast,g,st]
    match k,hk with
    | 0,_ | 1,_ | 2,_ | 3,_=>rfl
   ·simp only [ZE.s1]
    rw [ZL (by omega)]
    simp [noC]
  simp only [ZE.s0]
  rw [ZM (by omega),inner,Option.bind_some,Z8 (by omega)]
  rfl
 ·simp only [ZE.s0]
  rw [ZL (by omega)]
  simp

/-! The nearest -/
def Ze8 (at_:List Z5) (i d k:Nat):Prop:=k < at_.length∧if d = 0 then (gi at_ k).Y = (gi at_ i).Y∧(gi at_ i).X < (gi at_ k).X else (gi at_ k).X = (gi at_ i).X∧(gi at_ i).Y < (gi at_ k).Y
def ZbD (at_:List Z5) (d j k:Nat):Prop:=if d = 0 then (gi at_ j).X≤(gi at_ k).X else (gi at_ j).Y≤(gi at_ k).Y
def ZbQ (at_:List Z5) (i d n:Nat) (w:Int):Prop:=(w = -1∧∀ k,k < n→¬ Ze8 at_ i d k)∨∃ j:Nat,w = j∧j < n∧Ze8 at_ i d j∧∀ k,k < n→Ze8 at_ i d k→ZbD at_ d j k
instance {at_ i d k}:Decidable (Ze8 at_ i d k):=by unfold Ze8; infer_instance
instance {at_ d j k}:Decidable (ZbD at_ d j k):=by unfold ZbD; infer_instance
theorem ZgG {at_:List Z5} {i d n:Nat} (hl:at_.length≤1000) (hi:i < at_.length) (hd:d < 2) (hn:n < at_.length) {w:Int} (hw:ZbQ at_ i d n w):∃ w',ZbQ at_ i d (n + 1) w'∧ZQ.s0 at_ i d (w,n) = some (.inl (w',(n:Int) + 1)):=by
 have hlow:¬ Ze8 at_ i d n→ZbQ at_ i d (n + 1) w:=by
  intro hc
  rcases hw with ⟨rfl,h⟩ | ⟨j,rfl,h1,h2,h3⟩
  ·refine .inl ⟨rfl,fun k hk=>?_⟩
   rcases Nat.lt_succ_iff_lt_or_eq.1 hk with h' | rfl
   ·exact h k h'
   ·exact hc
  ·refine .inr ⟨j,rfl,by omega,h2,fun k hk hk2=>?_⟩
   rcases Nat.lt_succ_iff_lt_or_eq.1 hk with h' | rfl
   ·exact h3 k h' hk2
   ·exact absurd hk2 hc
 have hnew:w = -1→Ze8 at_ i d n→ZbQ at_ i d (n + 1) n:=by
  intro hw1 hc
  rcases hw with ⟨_,h⟩ | ⟨j,h0,_⟩
  ·refine .inr ⟨n,rfl,by omega,hc,fun k hk hk2=>?_⟩
   rcases Nat.lt_succ_iff_lt_or_eq.1 hk with h' | rfl
   ·exact absurd hk2 (h k h')
   ·unfold ZbD; split <;> omega
  ·omega
 have hkeep:∀ j:Nat,w = j→ZbD at_ d j n→ZbQ at_ i d (n + 1) w:=by
  intro j hj hc
  rcases hw with ⟨h0,_⟩ | ⟨j',h0,h1,h2,h3⟩
  ·omega
  ·have:j = j':=by omega
   subst this
   refine .inr ⟨j,h0,by omega,h2,fun k hk hk2=>?_⟩
   rcases Nat.lt_succ_iff_lt_or_eq.1 hk with h' | rfl
   ·exact h3 k h' hk2
   ·exact hc
 have hturn:∀ j:Nat,w = j→¬ ZbD at_ d j n→Ze8 at_ i d n→ZbQ at_ i d (n + 1) n:=by
  intro j hj hc hcand
  rcases hw with ⟨h0,_⟩ | ⟨j',h0,h1,h2,h3⟩
  ·omega
  ·have:j = j':=by omega
   subst this
   refine .inr ⟨n,rfl,by omega,hcand,fun k hk hk2=>?_⟩
   rcases Nat.lt_succ_iff_lt_or_eq.1 hk with h' | rfl
   ·have h4:=h3 k h' hk2
    unfold ZbD at h4 hc ⊢
    by_cases z:d = 0
    ·rw [if_pos z] at *; omega
    ·rw [if_neg z] at *; omega
   ·unfold ZbD; split <;> omega
 have hwc:w = -1∨∃ j:Nat,w = j∧j < n:=by
  rcases hw with ⟨h,_⟩ | ⟨j,h,h2,_⟩
  ·exact .inl h
  ·exact .inr ⟨j,h,h2⟩
 have hd':d = 0∨d = 1:=by omega
 rcases hd' with rfl | rfl
 ·have z:((0:Nat):Int) = 0:=rfl
  by_cases hY:(gi at_ n).Y = (gi at_ i).Y
  ·by_cases hX:(gi at_ i).X < (gi at_ n).X
   ·have hc:Ze8 at_ i 0 n:=⟨hn,by rw [if_pos rfl]; exact ⟨hY,hX⟩⟩
    rcases hwc with rfl | ⟨j,rfl,hj⟩
    ·refine ⟨n,hnew rfl hc,?_⟩
     simp (disch:=omega) only [ZQ.s0,z,hY,Z8,Zbp,Zdb,ZM,ZL,ZaH,Za8,Zbj,Zbi,Option.bind_some,Int.toNat_natCast,List.length_append,List.length_cons,List.length_nil,Nat.zero_add,if_true,if_false,Bool.false_eq_true,Bool.not_true,Bool.not_false,Bool.true_and,Bool.false_and,Bool.and_true,Bool.and_false,Bool.true_or,Bool.false_or,Bool.or_true,Bool.or_false,decide_true,decide_false,Bool.not_eq_true,Bool.decide_eq_true,Int.reduceToNat]
     try simp (disch:=omega) only [Z8,Zbp,Zdb,ZM,ZL,ZaH,Za8,Zbj,Zbi,Option.bind_some,Int.toNat_natCast,List.length_append,List.length_cons,List.length_nil,Nat.zero_add,if_true,if_false,Bool.false_eq_true,Bool.not_true,Bool.not_false,Bool.true_and,Bool.false_and,Bool.and_true,Bool.and_false,Bool.true_or,Bool.false_or,Bool.or_true,Bool.or_false,decide_true,decide_false,Bool.not_eq_true,Bool.decide_eq_true,Int.reduceToNat]
    ·by_cases hcl:ZbD at_ 0 j n
     ·refine ⟨j,hkeep j rfl hcl,?_⟩
      have hcl':(gi at_ j).X≤(gi at_ n).X:=by simpa [ZbD] using hcl
      simp (disch:=omega) only [ZQ.s0,z,hY,Z8,Zbp,Zdb,ZM,ZL,ZaH,Za8,Zbj,Zbi,Option.bind_some,Int.toNat_natCast,List.length_append,List.length_cons,List.length_nil,Nat.zero_add,if_true,if_false,Bool.false_eq_true,Bool.not_true,Bool.not_false,Bool.true_and,Bool.false_and,Bool.and_true,Bool.and_false,Bool.true_or,Bool.false_or,Bool.or_true,Bool.or_false,decide_true,decide_false,Bool.not_eq_true,Bool.decide_eq_true,Int.reduceToNat]
      try simp (disch:=omega) only [Z8,Zbp,Zdb,ZM,ZL,ZaH,Za8,Zbj,Zbi,Option.bind_some,Int.toNat_natCast,List.length_append,List.length_cons,List.length_nil,Nat.zero_add,if_true,if_false,Bool.false_eq_true,Bool.not_true,Bool.not_false,Bool.true_and,Bool.false_and,Bool.and_true,Bool.and_false,Bool.true_or,Bool.false_or,Bool.or_true,Bool.or_false,decide_true,decide_false,Bool.not_eq_true,Bool.decide_eq_true,Int.reduceToNat]
     ·refine ⟨n,hturn j rfl hcl hc,?_⟩
      have hcl':¬ (gi at_ j).X≤(gi at_ n).X:=by simpa [ZbD] using hcl
      simp (disch:=omega) only [ZQ.s0,z,hY,Z8,Zbp,Zdb,ZM,ZL,ZaH,Za8,Zbj,Zbi,Option.bind_some,Int.toNat_natCast,List.length_append,List.length_cons,List.length_nil,Nat.zero_add,if_true,if_false,Bool.false_eq_true,Bool.not_true,Bool.not_false,Bool.true_and,Bool.false_and,Bool.and_true,Bool.and_false,Bool.true_or,Bool.false_or,Bool.or_true,Bool.or_false,decide_true,decide_false,Bool.not_eq_true,Bool.decide_eq_true,Int.reduceToNat]
      try simp (disch:=omega) only [Z8,Zbp,Zdb,ZM,ZL,ZaH,Za8,Zbj,Zbi,Option.bind_some,Int.toNat_natCast,List.length_append,List.length_cons,List.length_nil,Nat.zero_add,if_true,if_false,Bool.false_eq_true,Bool.not_true,Bool.not_false,Bool.true_and,Bool.false_and,Bool.and_true,Bool.and_false,Bool.true_or,Bool.false_or,Bool.or_true,Bool.or_false,decide_true,decide_false,Bool.not_eq_true,Bool.decide_eq_true,Int.reduceToNat]
   ·refine ⟨w,hlow (fun hc=>hX (by have:=hc.2; rw [if_pos rfl] at this; exact this.2)),?_⟩
    simp (disch:=omega) only [ZQ.s0,z,hY,Z8,Zbp,Zdb,ZM,ZL,ZaH,Za8,Zbj,Zbi,Option.bind_some,Int.toNat_natCast,List.length_append,List.length_cons,List.length_nil,Nat.zero_add,if_true,if_false,Bool.false_eq_true,Bool.not_true,Bool.not_false,Bool.true_and,Bool.false_and,Bool.and_true,Bool.and_false,Bool.true_or,Bool.false_or,Bool.or_true,Bool.or_false,decide_true,decide_false,Bool.not_eq_true,Bool.decide_eq_true,Int.reduceToNat]
    try simp (disch:=omega) only [Z8,Zbp,Zdb,ZM,ZL,ZaH,Za8,Zbj,Zbi,Option.bind_some,Int.toNat_natCast,List.length_append,List.length_cons,List.length_nil,Nat.zero_add,if_true,if_false,Bool.false_eq_true,Bool.not_true,Bool.not_false,Bool.true_and,Bool.false_and,Bool.and_true,Bool.and_false,Bool.true_or,Bool.false_or,Bool.or_true,Bool.or_false,decide_true,decide_false,Bool.not_eq_true,Bool.decide_eq_true,Int.reduceToNat]
  ·refine ⟨w,hlow (fun hc=>hY (by have:=hc.2; rw [if_pos rfl] at this; exact this.1)),?_⟩
   simp (disch:=omega) only [ZQ.s0,z,hY,Z8,Zbp,Zdb,ZM,ZL,ZaH,Za8,Zbj,Zbi,Option.bind_some,Int.toNat_natCast,List.length_append,List.length_cons,List.length_nil,Nat.zero_add,if_true,if_false,Bool.false_eq_true,Bool.not_true,Bool.not_false,Bool.true_and,Bool.false_and,Bool.and_true,Bool.and_false,Bool.true_or,Bool.false_or,Bool.or_true,Bool.or_false,decide_true,decide_false,Bool.not_eq_true,Bool.decide_eq_true,Int.reduceToNat]
   try simp (disch:=omega) only [Z8,Zbp,Zdb,ZM,ZL,ZaH,Za8,Zbj,Zbi,Option.bind_some,Int.toNat_natCast,List.length_append,List.length_cons,List.length_nil,Nat.zero_add,if_true,if_false,Bool.false_eq_true,Bool.not_true,Bool.not_false,Bool.true_and,Bool.false_and,Bool.and_true,Bool.and_false,Bool.true_or,Bool.false_or,Bool.or_true,Bool.or_false,decide_true,decide_false,Bool.not_eq_true,Bool.decide_eq_true,Int.reduceToNat]
 ·have z:((1:Nat):Int) = 1:=rfl
  by_cases hY:(gi at_ n).X = (gi at_ i).X
  ·by_cases hX:(gi at_ i).Y < (gi at_ n).Y
   ·have hc:Ze8 at_ i 1 n:=⟨hn,by rw [if_neg (by decide)]; exact ⟨hY,hX⟩⟩
    rcases hwc with rfl | ⟨j,rfl,hj⟩
    ·refine ⟨n,hnew rfl hc,?_⟩
     simp (disch:=omega) only [ZQ.s0,z,hY,Z8,Zbp,Zdb,ZM,ZL,ZaH,Za8,Zbj,Zbi,Option.bind_some,Int.toNat_natCast,List.length_append,List.length_cons,List.length_nil,Nat.zero_add,if_true,if_false,Bool.false_eq_true,Bool.not_true,Bool.not_false,Bool.true_and,Bool.false_and,Bool.and_true,Bool.and_false,Bool.true_or,Bool.false_or,Bool.or_true,Bool.or_false,decide_true,decide_false,Bool.not_eq_true,Bool.decide_eq_true,Int.reduceToNat]
     try simp (disch:=omega) only [Z8,Zbp,Zdb,ZM,ZL,ZaH,Za8,Zbj,Zbi,Option.bind_some,Int.toNat_natCast,List.length_append,List.length_cons,List.length_nil,Nat.zero_add,if_true,if_false,Bool.false_eq_true,Bool.not_true,Bool.not_false,Bool.true_and,Bool.false_and,Bool.and_true,Bool.and_false,Bool.true_or,Bool.false_or,Bool.or_true,Bool.or_false,decide_true,decide_false,Bool.not_eq_true,Bool.decide_eq_true,Int.reduceToNat]
    ·by_cases hcl:ZbD at_ 1 j n
     ·refine ⟨j,hkeep j rfl hcl,?_⟩
      have hcl':(gi at_ j).Y≤(gi at_ n).Y:=by simpa [ZbD] using hcl
      simp (disch:=omega) only [ZQ.s0,z,hY,Z8,Zbp,Zdb,ZM,ZL,ZaH,Za8,Zbj,Zbi,Option.bind_some,Int.toNat_natCast,List.length_append,List.length_cons,List.length_nil,Nat.zero_add,if_true,if_false,Bool.false_eq_true,Bool.not_true,Bool.not_false,Bool.true_and,Bool.false_and,Bool.and_true,Bool.and_false,Bool.true_or,Bool.false_or,Bool.or_true,Bool.or_false,decide_true,decide_false,Bool.not_eq_true,Bool.decide_eq_true,Int.reduceToNat]
      try simp (disch:=omega) only [Z8,Zbp,Zdb,ZM,ZL,ZaH,Za8,Zbj,Zbi,Option.bind_some,Int.toNat_natCast,List.length_append,List.length_cons,List.length_nil,Nat.zero_add,if_true,if_false,Bool.false_eq_true,Bool.not_true,Bool.not_false,Bool.true_and,Bool.false_and,Bool.and_true,Bool.and_false,Bool.true_or,Bool.false_or,Bool.or_true,Bool.or_false,decide_true,decide_false,Bool.not_eq_true,Bool.decide_eq_true,Int.reduceToNat]
     ·refine ⟨n,hturn j rfl hcl hc,?_⟩
      have hcl':¬ (gi at_ j).Y≤(gi at_ n).Y:=by simpa [ZbD] using hcl
      simp (disch:=omega) only [ZQ.s0,z,hY,Z8,Zbp,Zdb,ZM,ZL,ZaH,Za8,Zbj,Zbi,Option.bind_some,Int.toNat_natCast,List.length_append,List.length_cons,List.length_nil,Nat.zero_add,if_true,if_false,Bool.false_eq_true,Bool.not_true,Bool.not_false,Bool.true_and,Bool.false_and,Bool.and_true,Bool.and_false,Bool.true_or,Bool.false_or,Bool.or_true,Bool.or_false,decide_true,decide_false,Bool.not_eq_true,Bool.decide_eq_true,Int.reduceToNat]
      try simp (disch:=omega) only [Z8,Zbp,Zdb,ZM,ZL,ZaH,Za8,Zbj,Zbi,Option.bind_some,Int.toNat_natCast,List.length_append,List.length_cons,List.length_nil,Nat.zero_add,if_true,if_false,Bool.false_eq_true,Bool.not_true,Bool.not_false,Bool.true_and,Bool.false_and,Bool.and_true,Bool.and_false,Bool.true_or,Bool.false_or,Bool.or_true,Bool.or_false,decide_true,decide_false,Bool.not_eq_true,Bool.decide_eq_true,Int.reduceToNat]
   ·refine ⟨w,hlow (fun hc=>hX (by have:=hc.2; rw [if_neg (by decide)] at this; exact this.2)),?_⟩
    simp (disch:=omega) only [ZQ.s0,z,hY,Z8,Zbp,Zdb,ZM,ZL,ZaH,Za8,Zbj,Zbi,Option.bind_some,Int.toNat_natCast,List.length_append,List.length_cons,List.length_nil,Nat.zero_add,if_true,if_false,Bool.false_eq_true,Bool.not_true,Bool.not_false,Bool.true_and,Bool.false_and,Bool.and_true,Bool.and_false,Bool.true_or,Bool.false_or,Bool.or_true,Bool.or_false,decide_true,decide_false,Bool.not_eq_true,Bool.decide_eq_true,Int.reduceToNat]
    try simp (disch:=omega) only [Z8,Zbp,Zdb,ZM,ZL,ZaH,Za8,Zbj,Zbi,Option.bind_some,Int.toNat_natCast,List.length_append,List.length_cons,List.length_nil,Nat.zero_add,if_true,if_false,Bool.false_eq_true,Bool.not_true,Bool.not_false,Bool.true_and,Bool.false_and,Bool.and_true,Bool.and_false,Bool.true_or,Bool.false_or,Bool.or_true,Bool.or_false,decide_true,decide_false,Bool.not_eq_true,Bool.decide_eq_true,Int.reduceToNat]
  ·refine ⟨w,hlow (fun hc=>hY (by have:=hc.2; rw [if_neg (by decide)] at this; exact this.1)),?_⟩
   simp (disch:=omega) only [ZQ.s0,z,hY,Z8,Zbp,Zdb,ZM,ZL,ZaH,Za8,Zbj,Zbi,Option.bind_some,Int.toNat_natCast,List.length_append,List.length_cons,List.length_nil,Nat.zero_add,if_true,if_false,Bool.false_eq_true,Bool.not_true,Bool.not_false,Bool.true_and,Bool.false_and,Bool.and_true,Bool.and_false,Bool.true_or,Bool.false_or,Bool.or_true,Bool.or_false,decide_true,decide_false,Bool.not_eq_true,Bool.decide_eq_true,Int.reduceToNat]
   try simp (disch:=omega) only [Z8,Zbp,Zdb,ZM,ZL,ZaH,Za8,Zbj,Zbi,Option.bind_some,Int.toNat_natCast,List.length_append,List.length_cons,List.length_nil,Nat.zero_add,if_true,if_false,Bool.false_eq_true,Bool.not_true,Bool.not_false,Bool.true_and,Bool.false_and,Bool.and_true,Bool.and_false,Bool.true_or,Bool.false_or,Bool.or_true,Bool.or_false,decide_true,decide_false,Bool.not_eq_true,Bool.decide_eq_true,Int.reduceToNat]
theorem Zcx {σ ρ:Type} {step:σ→Option (σ ⊕ ρ)} {n:Nat} (I:Nat→σ→Prop) {s0:σ} {R:ρ→Prop} (hn:n < big) (h0:I 0 s0) (hs:∀ i s,i < n→I i s→∃ s',step s = some (.inl s')∧I (i + 1) s') (he:∀ s,I n s→∃ r,step s = some (.inr r)∧R r):∃ r,za step big s0 = some r∧R r:=by
 have key:∀ k i s,i + k = n→I i s→∃ r,za step (k + 1) s = some r∧R r:=by
  intro k
  induction k with
  | zero =>
   intro i s hi hI
   obtain rfl:i = n:=by omega
   obtain ⟨r,hr,hR⟩:=he s hI
   exact ⟨r,by simp only [za,hr],hR⟩
  | succ k ih =>
   intro i s hi hI
   obtain ⟨s',hs',hI'⟩:=hs i s (by omega) hI
   obtain ⟨r,hr,hR⟩:=ih (i + 1) s' (by omega) hI'
   exact ⟨r,by rw [za,hs']; exact hr,hR⟩
 obtain ⟨r,hr,hR⟩:=key n 0 s0 (by omega) h0
 exact ⟨r,Zcw hr (by unfold big at *; omega),hR⟩
theorem Zlj {at_:List Z5} {i d:Nat} (hl:at_.length≤1000) (hi:i < at_.length) (hd:d < 2):∃ w,ZQ at_ i d = some w∧ZbQ at_ i d at_.length w:=by
 obtain ⟨r,hr,hR⟩:=Zcx (step:=ZQ.s0 at_ i d) (n:=at_.length) (I:=fun n (s:Int × Int)=>s.2 = n∧ZbQ at_ i d n s.1) (s0:=((-1:Int),(0:Int))) (R:=ZbQ at_ i d at_.length) (Zbc (by omega)) ⟨rfl,.inl ⟨rfl,fun k hk=>by omega⟩⟩ (fun n (s:Int × Int) hn hs=>by
  obtain ⟨w,m⟩:=s
  obtain ⟨rfl,hw⟩:=hs
  obtain ⟨w',h1,h2⟩:=ZgG hl hi hd hn hw
  exact ⟨_,h2,rfl,h1⟩) (fun (s:Int × Int) hs=>by
  obtain ⟨w,m⟩:=s
  obtain ⟨rfl,hw⟩:=hs
  exact ⟨w,by simp only [ZQ.s0]; rw [ZL (by omega)],hw⟩)
 exact ⟨r,by unfold ZQ; rw [hr]; rfl,hR⟩
end Mu
/- Layer 10: crossed,with,make. -/
set_option linter.unusedVariables false
set_option linter.unusedSimpArgs false
set_option maxRecDepth 10000
namespace Mu

theorem zr {α:Type} {x:Int} {o:Option α} (h:-9223372036854775808≤x∧x≤9223372036854775807):ck (zH x) o = o:=Z8 h
def Zb8 (at_:List Z5) (l:List Zc) (i w a d:Nat):Bool :=
 let p:=gi at_ a
 let q:=gi at_ (nx l a d).toNat
 let s:=gi at_ i
 let t:=gi at_ w
 decide (0≤nx l a d) && ((decide (p.Y = q.Y) && decide (s.X = t.X) && decide (p.X < s.X) && decide (s.X < q.X) && decide (s.Y < p.Y) && decide (p.Y < t.Y)) || (decide (p.X = q.X) && decide (s.Y = t.Y) && decide (s.X < p.X) && decide (p.X < t.X) && decide (p.Y < s.Y) && decide (s.Y < q.Y)))
theorem ZjW {a:Bool} {b:Bool}:(if a = true then some b else some false) = some (a && b):=by cases a <;> rfl
theorem Zjk {at_:List Z5} {l:List Zc} {i w a d:Nat} (hl:at_.length = l.length) (hi:i < l.length) (hw:w < l.length) (ha:a < l.length) (hd:d < 2) (hn:nx l a d < l.length):ZP.s1 at_ l i w a d = some (if Zb8 at_ l i w a d = true then .inr (.inr ()) else .inl ((d:Int) + 1)):=by
 unfold ZP.s1
 rw [ZM (by omega),Z8 (by omega),Z8 (by omega),Int.toNat_natCast]
 have e:((gi l a).Next).get (d:Int) = nx l a d:=rfl
 rw [e]
 unfold Zb8
 by_cases h0:nx l a d < 0
 ·rw [ZM h0,zr (by omega),Zbi (show ¬ 0≤nx l a d by omega)]
  simp
 ·rw [ZL h0,Z8 (by omega),Z8 (by omega),Zbj (show 0≤nx l a d by omega)]
  have k1:∀ (α:Type) (o:Option α),ck ((0:Int)≤(i:Int)∧(i:Int) < (at_.length:Int)) o = o:=fun _ _=>Z8 (by omega)
  have k2:∀ (α:Type) (o:Option α),ck ((0:Int)≤(w:Int)∧(w:Int) < (at_.length:Int)) o = o:=fun _ _=>Z8 (by omega)
  have k3:∀ (α:Type) (o:Option α),ck (zH ((d:Int) + 1)) o = o:=fun _ _=>zr (by omega)
  simp only [k1,k2,k3,Int.toNat_natCast,Option.bind_some,ZjW,Bool.true_and]
  generalize (decide ((gi at_ a).Y = (gi at_ (nx l a d).toNat).Y) && decide ((gi at_ i).X = (gi at_ w).X) && decide ((gi at_ a).X < (gi at_ i).X) && decide ((gi at_ i).X < (gi at_ (nx l a d).toNat).X) && decide ((gi at_ i).Y < (gi at_ a).Y) && decide ((gi at_ a).Y < (gi at_ w).Y)) = A
  generalize (decide ((gi at_ a).X = (gi at_ (nx l a d).toNat).X) && decide ((gi at_ i).Y = (gi at_ w).Y) && decide ((gi at_ i).X < (gi at_ a).X) && decide ((gi at_ a).X < (gi at_ w).X) && decide ((gi at_ a).Y < (gi at_ i).Y) && decide ((gi at_ i).Y < (gi at_ (nx l a d).toNat).Y)) = B
  cases A <;> cases B <;> rfl
def Zd7 (at_:List Z5) (l:List Zc) (i w a:Nat):Bool:=Zb8 at_ l i w a 0 || Zb8 at_ l i w a 1
def ZeR (at_:List Z5) (l:List Zc) (i w:Nat):Bool:=(List.range l.length).any fun a=>Zd7 at_ l i w a
theorem Zjl {at_:List Z5} {l:List Zc} {i w a:Nat} (hl:at_.length = l.length) (hi:i < l.length) (hw:w < l.length) (hn:∀ a d,a < l.length→d < 2→nx l a d < l.length) (ha:a < l.length):za (ZP.s1 at_ l i w a) big 0 = some (if Zd7 at_ l i w a = true then .inr () else .inl ()):=by
 have h:za (ZP.s1 at_ l i w a) big 0 = some (match (List.range 2).find? (fun d=>Zb8 at_ l i w a d) with | some i=>.inr ((fun _=>()) i) | none=>.inl ()):=by
  refine ZdJ (Zbc (by omega)) (fun d hd=>?_) ?_
  ·exact Zjk hl hi hw ha hd (hn a d ha hd)
  ·simp only [ZP.s1]
   rw [ZL (by omega)]
 rw [h]
 have e:(List.range 2).find? (fun d=>Zb8 at_ l i w a d) = if Zb8 at_ l i w a 0 = true then some 0 else if Zb8 at_ l i w a 1 = true then some 1 else none:=by
  have:List.range 2 = [0,1]:=by decide
  rw [this]
  cases c0:Zb8 at_ l i w a 0 <;> cases c1:Zb8 at_ l i w a 1 <;> simp [c0,c1]
 rw [e]
 unfold Zd7
 cases c0:Zb8 at_ l i w a 0 <;> cases c1:Zb8 at_ l i w a 1 <;> simp
theorem Zjj {at_:List Z5} {l:List Zc} {i w a:Nat} (hl:at_.length = l.length) (h1000:l.length≤1000) (hi:i < l.length) (hw:w < l.length) (hn:∀ a d,a < l.length→d < 2→nx l a d < l.length) (ha:a < l.length):ZP.s0 at_ l i w a = some (if Zd7 at_ l i w a = true then .inr (.inr ()) else .inl ((a:Int) + 1)):=by
 simp only [ZP.s0]
 rw [ZM (by omega),Zjl hl hi hw hn ha,Option.bind_some]
 by_cases c:Zd7 at_ l i w a = true
 ·rw [if_pos c,if_pos c]
 ·rw [if_neg c,if_neg c]
  dsimp only
  rw [zr (by omega)]
theorem Zjn {at_:List Z5} {l:List Zc} {i w:Nat}:ZP.s0 at_ l i w l.length = some (.inr (.inl ())):=by
 simp only [ZP.s0]
 rw [ZL (by omega)]
theorem Zid {n:Nat} {P:Nat→Bool}:((List.range n).any P) = ((List.range n).find? P).isSome:=by
 rw [Bool.eq_iff_iff,List.find?_isSome,List.any_eq_true]
theorem Zjm {at_:List Z5} {l:List Zc} {i w:Nat} (hl:at_.length = l.length) (h1000:l.length≤1000) (hi:i < l.length) (hw:w < l.length) (hn:∀ a d,a < l.length→d < 2→nx l a d < l.length):za (ZP.s0 at_ l i w) big 0 = some (match (List.range l.length).find? (fun a=>Zd7 at_ l i w a) with | some i=>.inr ((fun _=>()) i) | none=>.inl ()) :=
 ZdJ (Zbc (by omega)) (fun a ha=>Zjj hl h1000 hi hw hn ha) Zjn
theorem Ziw {at_:List Z5} {l:List Zc} {i w:Nat} (hl:at_.length = l.length) (h1000:l.length≤1000) (hi:i < l.length) (hw:w < l.length) (hn:∀ a d,a < l.length→d < 2→nx l a d < l.length):ZP at_ l i w = some (ZeR at_ l i w):=by
 have h0:=Zjm hl h1000 hi hw hn
 unfold ZP
 rw [h0]
 unfold ZeR
 rw [Zid]
 cases h:(List.range l.length).find? fun a=>Zd7 at_ l i w a with
 | none=>simp
 | some j=>simp

/-! with -/
def wC1 (c:Zc) (d w o:Int):Zc:=⟨c.Next.set d w,c.Owner.set d o⟩
def wC (l:List Zc) (v d w o:Int) (i:Nat):Zc :=
 let c:=if (i:Int) = v then wC1 (gi l i) d w o else gi l i
 if (i:Int) = w then wC1 c ((d + 2).tmod 4) v o else c
def wth (l:List Zc) (v d w o:Int):List Zc:=(List.range l.length).map (wC l v d w o)
theorem Zbu {l:List Zc} {v d w o:Int}:(wth l v d w o).length = l.length:=by simp [wth]
theorem ZjI {l:List Zc} {v d w o:Int} (hl:l.length≤100000) (hd:0≤d∧d < 4):zK l v d w o = some (wth l v d w o):=by
 unfold zK
 rw [Zhh (x:=wth l v d w o)]
 refine ZbC (fun n:Nat=>((List.range n).map (wC l v d w o),(n:Int))) (n:=l.length) (Zbc (by omega)) rfl (fun n hn=>?_) ?_
 ·have hm:((List.range n).map (wC l v d w o)).length = n:=by simp
  have t:=Int.tmod_nonneg 4 (show (0:Int)≤d + 2 by omega)
  have t2:=Int.tmod_lt_of_pos (d + 2) (show (0:Int) < 4 by omega)
  rw [List.range_succ,List.map_append,List.map_cons,List.map_nil]
  simp only [zK.s0]
  rw [ZM (by omega),Z8 (by omega),Int.toNat_natCast]
  unfold wC
  by_cases c1:(n:Int) = v
  ·rw [ZM c1,Z8 hd,Option.bind_some]
   by_cases c2:(n:Int) = w
   ·rw [ZM c2,zr (by omega),Z8 (by omega),Z8 (by simp; omega),zr (by omega),if_pos c1,if_pos c2]
    rfl
   ·rw [ZL c2,Z8 (by simp; omega),zr (by omega),if_pos c1,if_neg c2]
    rfl
  ·rw [ZL c1,Option.bind_some]
   by_cases c2:(n:Int) = w
   ·rw [ZM c2,zr (by omega),Z8 (by omega),Z8 (by simp; omega),zr (by omega),if_neg c1,if_pos c2]
    rfl
   ·rw [ZL c2,Z8 (by simp; omega),zr (by omega),if_neg c1,if_neg c2]
    rfl
 ·simp only [zK.s0]
  rw [ZL (by omega)]
  rfl
theorem Zfa {l:List Zc} {v w d i e:Nat} {o:Int} (hv:v < l.length) (hw:w < l.length) (hvw:v≠w) (hd:d < 4) (hi:i < l.length) (he:e < 4):nx (wth l v d w o) i e = (if i = v∧e = d then (w:Int) else if i = w∧e = (d + 2) % 4 then (v:Int) else nx l i e)∧ow (wth l v d w o) i e = (if i = v∧e = d then o else if i = w∧e = (d + 2) % 4 then o else ow l i e):=by
 have hb:(((d:Int) + 2).tmod 4) = (((d + 2) % 4:Nat):Int):=by
  match d,hd with
  | 0,_ | 1,_ | 2,_ | 3,_=>rfl
 have g:gi (wth l v d w o) i = wC l v d w o i:=Zdn hi
 unfold nx ow
 rw [g]
 unfold wC
 rw [hb]
 by_cases c1:i = v
 ·subst c1
  rw [if_pos rfl,if_neg (show ¬ ((i:Nat):Int) = (w:Int) by omega)]
  simp only [wC1]
  rw [Zdi hd he,Zdi hd he]
  have:¬ (i = w):=hvw
  simp [this]
 ·rw [if_neg (show ¬ ((i:Nat):Int) = (v:Int) by omega)]
  by_cases c2:i = w
  ·subst c2
   rw [if_pos rfl]
   simp only [wC1]
   rw [Zdi (by omega) he,Zdi (by omega) he]
   simp [c1]
  ·rw [if_neg (show ¬ ((i:Nat):Int) = (w:Int) by omega)]
   simp [c1,c2]

/-! What may be. -/
structure Ck (l:List Zc):Prop where
 s:∀ v d,v < l.length→d < 4→(nx l v d = -1∧ow l v d = 0)∨∃ w:Nat,nx l v d = w∧w < l.length∧w≠v∧nx l w ((d + 2) % 4) = v∧ow l w ((d + 2) % 4) = ow l v d∧-2≤ow l v d
theorem Ck.new (n:Nat):Ck (List.replicate n noC):=⟨fun v d hv hd=>.inl (by
 have:gi (List.replicate n noC) v = noC:=by rw [Zbd hv]; simp
 unfold nx ow; rw [this]
 match d,hd with
 | 0,_ | 1,_ | 2,_ | 3,_=>exact ⟨rfl,rfl⟩)⟩
theorem Ck.wth {l:List Zc} (h:Ck l) {v w d:Nat} {o:Int} (hv:v < l.length) (hw:w < l.length) (hvw:v≠w) (hd:d < 4) (h1:nx l v d = -1) (h2:nx l w ((d + 2) % 4) = -1) (ho:-2≤o):Ck (wth l v d w o):=by
 refine ⟨fun i e hi he=>?_⟩
 rw [Zbu] at hi ⊢
 have n1:=fun i e hi he=>(Zfa (o:=o) hv hw hvw hd (i:=i) (e:=e) hi he).1
 have n2:=fun i e hi he=>(Zfa (o:=o) hv hw hvw hd (i:=i) (e:=e) hi he).2
 rw [n1 i e hi he,n2 i e hi he]
 by_cases c1:i = v∧e = d
 ·rw [if_pos c1,if_pos c1]
  refine .inr ⟨w,rfl,hw,by omega,?_,?_,ho⟩
  ·rw [n1 w _ hw (by omega),if_neg (by omega),if_pos ⟨rfl,by rw [c1.2]⟩,c1.1]
  ·rw [n2 w _ hw (by omega),if_neg (by omega),if_pos ⟨rfl,by rw [c1.2]⟩]
 ·rw [if_neg c1,if_neg c1]
  by_cases c2:i = w∧e = (d + 2) % 4
  ·rw [if_pos c2,if_pos c2]
   refine .inr ⟨v,rfl,hv,by omega,?_,?_,ho⟩
   ·rw [n1 v _ hv (by omega),if_pos ⟨rfl,by omega⟩,c2.1]
   ·rw [n2 v _ hv (by omega),if_pos ⟨rfl,by omega⟩]
  ·rw [if_neg c2,if_neg c2]
   rcases h.s i e hi he with hh | ⟨x,x1,x2,x3,x4,x5,x6⟩
   ·exact .inl hh
   ·refine .inr ⟨x,x1,x2,x3,?_,?_,x6⟩
    ·rw [n1 x _ x2 (by omega)]
     rw [if_neg (fun c=>by
      have:nx l x ((e + 2) % 4) = -1:=by rw [c.1,c.2]; exact h1
      omega)]
     rw [if_neg (fun c=>by
      have:nx l x ((e + 2) % 4) = -1:=by rw [c.1,c.2]; exact h2
      omega)]
     exact x4
    ·rw [n2 x _ x2 (by omega)]
     rw [if_neg (fun c=>by
      have:nx l x ((e + 2) % 4) = -1:=by rw [c.1,c.2]; exact h1
      omega)]
     rw [if_neg (fun c=>by
      have:nx l x ((e + 2) % 4) = -1:=by rw [c.1,c.2]; exact h2
      omega)]
     exact x5
end Mu
/- Layer 10: make. -/
set_option linter.unusedVariables false
set_option linter.unusedSimpArgs false
set_option maxRecDepth 10000
namespace Mu

theorem Za7 {σ ρ:Type} {step:σ→Option (σ ⊕ ρ)} (μ:σ→Nat) (I:σ→Prop) {s0:σ} {R:ρ→Prop} (hn:μ s0 < big) (h0:I s0) (hs:∀ s,I s→(∃ s',step s = some (.inl s')∧I s'∧μ s' < μ s)∨∃ r,step s = some (.inr r)∧R r):∃ r,za step big s0 = some r∧R r:=by
 have key:∀ k s,μ s≤k→I s→∃ r,za step (k + 1) s = some r∧R r:=by
  intro k
  induction k with
  | zero =>
   intro s hk hI
   rcases hs s hI with ⟨s',h1,h2,h3⟩ | ⟨r,h1,h2⟩
   ·omega
   ·exact ⟨r,by simp only [za,h1],h2⟩
  | succ k ih =>
   intro s hk hI
   rcases hs s hI with ⟨s',h1,h2,h3⟩ | ⟨r,h1,h2⟩
   ·obtain ⟨r,hr,hR⟩:=ih s' (by omega) h2
    exact ⟨r,by rw [za,h1]; exact hr,hR⟩
   ·exact ⟨r,by rw [za,h1],h2⟩
 obtain ⟨r,hr,hR⟩:=key (μ s0) s0 (Nat.le_refl _) h0
 exact ⟨r,Zcw hr (by omega),hR⟩

structure Pts (at_:List Z5):Prop where
 b:∀ i,i < at_.length→0≤(gi at_ i).X∧(gi at_ i).X < 8∧0≤(gi at_ i).Y∧(gi at_ i).Y < 8
 d:∀ i j,i < at_.length→j < at_.length→gi at_ i = gi at_ j→i = j
theorem Pts.nil:Pts []:=⟨fun i h=>by simp at h,fun i j h=>by simp at h⟩
theorem Pts.app {at_:List Z5} (h:Pts at_) {p:Z5} (hp:0≤p.X∧p.X < 8∧0≤p.Y∧p.Y < 8) (hn:∀ k,k < at_.length→gi at_ k≠p):Pts (at_++[p]):=by
 have g1:∀ i,i < at_.length→gi (at_++[p]) i = gi at_ i:=fun i hi=>ZbU hi
 have g2:gi (at_++[p]) at_.length = p:=by
  have:=ZbB (l:=at_) (m:=[p]) (i:=0)
  rw [Nat.add_zero] at this
  rw [this]; rfl
 refine ⟨fun i hi=>?_,fun i j hi hj hij=>?_⟩
 ·simp only [List.length_append,List.length_cons,List.length_nil] at hi
  by_cases c:i < at_.length
  ·rw [g1 i c]; exact h.b i c
  ·rw [show i = at_.length by omega,g2]; exact hp
 ·simp only [List.length_append,List.length_cons,List.length_nil] at hi hj
  by_cases c:i < at_.length <;> by_cases c2:j < at_.length
  ·rw [g1 i c,g1 j c2] at hij; exact h.d i j c c2 hij
  ·rw [g1 i c,show j = at_.length by omega,g2] at hij; exact absurd hij (hn i c)
  ·rw [g1 j c2,show i = at_.length by omega,g2] at hij; exact absurd hij.symm (hn j c2)
  ·omega
theorem Zi0 {at_:List Z5} (hp:Pts at_) {i j d:Nat} {w:Nat} (hi:i < at_.length) (hj:j < at_.length) (hd:d < 2) (h1:ZbQ at_ i d at_.length w) (h2:ZbQ at_ j d at_.length w):i = j:=by
 rcases h1 with ⟨h,_⟩ | ⟨w1,e1,l1,c1,m1⟩
 ·omega
 rcases h2 with ⟨h,_⟩ | ⟨w2,e2,l2,c2,m2⟩
 ·omega
 obtain rfl:w = w1:=by omega
 obtain rfl:w = w2:=by omega
 apply hp.d i j hi hj
 have x1:=m1 j hj
 have x2:=m2 i hi
 have c1:=c1.2
 have c2:=c2.2
 unfold Ze8 ZbD at x1 x2
 by_cases z:d = 0
 ·simp only [if_pos z] at *
  have hX:(gi at_ i).X = (gi at_ j).X:=by
   by_cases q1:(gi at_ i).X < (gi at_ j).X
   ·have:=x1 ⟨hj,by omega,q1⟩; omega
   ·by_cases q2:(gi at_ j).X < (gi at_ i).X
    ·have:=x2 ⟨hi,by omega,q2⟩; omega
    ·omega
  have hY:(gi at_ i).Y = (gi at_ j).Y:=by omega
  generalize gi at_ i = p at *
  generalize gi at_ j = q at *
  obtain ⟨a,b⟩:=p
  obtain ⟨a',b'⟩:=q
  simp only at hX hY
  rw [hX,hY]
 ·simp only [if_neg z] at *
  have hX:(gi at_ i).Y = (gi at_ j).Y:=by
   by_cases q1:(gi at_ i).Y < (gi at_ j).Y
   ·have:=x1 ⟨hj,by omega,q1⟩; omega
   ·by_cases q2:(gi at_ j).Y < (gi at_ i).Y
    ·have:=x2 ⟨hi,by omega,q2⟩; omega
    ·omega
  have hY:(gi at_ i).X = (gi at_ j).X:=by omega
  generalize gi at_ i = p at *
  generalize gi at_ j = q at *
  obtain ⟨a,b⟩:=p
  obtain ⟨a',b'⟩:=q
  simp only at hX hY
  rw [hX,hY]
def NX (at_:List Z5) (l:List Zc):Prop:=∀ a b:Nat,a < l.length→b < l.length→0≤nx l a 0→0≤nx l b 1→¬ ((gi at_ a).X < (gi at_ b).X∧(gi at_ b).X < (gi at_ (nx l a 0).toNat).X∧(gi at_ b).Y < (gi at_ a).Y∧(gi at_ a).Y < (gi at_ (nx l b 1).toNat).Y)
structure Mk (at_:List Z5) (l:List Zc) (i d:Nat):Prop where
 len:l.length = at_.length
 ck:Ck l
 near:∀ v e,v < l.length→e < 2→nx l v e = -1∨((v < i∨v = i∧e < d)∧ZbQ at_ v e at_.length (nx l v e))
 own:∀ v e,v < l.length→e < 4→-2≤ow l v e∧ow l v e≤1000
 nc:NX at_ l
theorem Mk.step {at_:List Z5} {l:List Zc} {i d:Nat} (h:Mk at_ l i d):Mk at_ l i (d + 1) :=
 ⟨h.len,h.ck,fun v e hv he=>(h.near v e hv he).imp id (fun ⟨a,b⟩=>⟨by omega,b⟩),h.own,h.nc⟩
theorem Mk.next {at_:List Z5} {l:List Zc} {i:Nat} (h:Mk at_ l i 2):Mk at_ l (i + 1) 0 :=
 ⟨h.len,h.ck,fun v e hv he=>(h.near v e hv he).imp id (fun ⟨a,b⟩=>⟨by omega,b⟩),h.own,h.nc⟩
theorem Ck.lt {l:List Zc} (h:Ck l) {v d:Nat} (hv:v < l.length) (hd:d < 4):-1≤nx l v d∧nx l v d < l.length:=by
 rcases h.s v d hv hd with ⟨a,_⟩ | ⟨w,a,b,_⟩ <;> omega
theorem Mk.lay {at_:List Z5} (hp:Pts at_) {l:List Zc} {i d w:Nat} {o:Int} (h:Mk at_ l i d) (hi:i < l.length) (hd:d < 2) (hw:ZbQ at_ i d at_.length w) (hx:ZeR at_ l i w = false) (ho:-2≤o∧o≤1000):Mk at_ (wth l i d w o) i (d + 1):=by
 have hl:=h.len
 have hwl:w < l.length∧Ze8 at_ i d w:=by
  rcases hw with ⟨e,_⟩ | ⟨j,e,h1,h2,_⟩
  ·omega
  ·have:w = j:=by omega
   subst this; exact ⟨by omega,h2⟩
 have hne:i≠w:=by
  rintro rfl
  have:=hwl.2.2
  split at this <;> omega
 have n1:nx l i d = -1:=by
  rcases h.near i d hi (by omega) with e | ⟨e,_⟩
  ·exact e
  ·omega
 have n2:nx l w ((d + 2) % 4) = -1:=by
  rcases h.ck.s w ((d + 2) % 4) hwl.1 (by omega) with ⟨e,_⟩ | ⟨x,e1,e2,e3,e4,e5,e6⟩
  ·exact e
  ·rw [show ((d + 2) % 4 + 2) % 4 = d by omega] at e4
   rcases h.near x d e2 hd with e | ⟨e,e7⟩
   ·omega
   ·rw [e4] at e7
    have:=Zi0 hp (by omega) (by omega) hd e7 hw
    subst this
    omega
 have m1:=fun v e hv he=>(Zfa (o:=o) hi hwl.1 hne (show d < 4 by omega) (i:=v) (e:=e) hv he).1
 have m2:=fun v e hv he=>(Zfa (o:=o) hi hwl.1 hne (show d < 4 by omega) (i:=v) (e:=e) hv he).2
 have hcr:∀ a,a < l.length→Zb8 at_ l i w a 0 = false∧Zb8 at_ l i w a 1 = false:=by
  intro a ha
  unfold ZeR at hx
  rw [List.any_eq_false] at hx
  have:=hx a (List.mem_range.2 ha)
  unfold Zd7 at this
  simpa using this
 refine ⟨by rw [Zbu]; exact hl,h.ck.wth hi hwl.1 hne (by omega) n1 n2 ho.1,fun v e hv he=>?_,fun v e hv he=>?_,fun a b ha hb=>?_⟩
 ·rw [Zbu] at hv
  rw [m1 v e hv (by omega)]
  by_cases c:v = i∧e = d
  ·rw [if_pos c]
   right
   refine ⟨by omega,?_⟩
   rw [c.1,c.2]; exact hw
  ·rw [if_neg c]
   rw [if_neg (fun c2=>by omega)]
   exact (h.near v e hv he).imp id (fun ⟨a,b⟩=>⟨by omega,b⟩)
 ·rw [Zbu] at hv
  rw [m2 v e hv he]
  by_cases c:v = i∧e = d
  ·rw [if_pos c]; exact ho
  ·rw [if_neg c]
   by_cases c2:v = w∧e = (d + 2) % 4
   ·rw [if_pos c2]; exact ho
   ·rw [if_neg c2]; exact h.own v e hv he
 ·rw [Zbu] at ha hb
  rw [m1 a 0 ha (by omega),m1 b 1 hb (by omega)]
  have cd:=hwl.2.2
  by_cases c0:d = 0
  ·subst c0
   rw [if_pos rfl] at cd
   rw [if_neg (show ¬ (b = i∧1 = 0) by omega),if_neg (show ¬ (b = w∧1 = (0 + 2) % 4) by omega),if_neg (show ¬ (a = w∧0 = (0 + 2) % 4) by omega)]
   by_cases c:a = i
   ·subst c
    rw [if_pos ⟨rfl,rfl⟩]
    intro _ h1 ⟨k1,k2,k3,k4⟩
    rw [Int.toNat_natCast] at k2
    have q:=(hcr b hb).2
    have nb:=h.near b 1 hb (by omega)
    have ex:(gi at_ b).X = (gi at_ (nx l b 1).toNat).X:=by
     rcases nb with e | ⟨_,e⟩
     ·omega
     ·rcases e with ⟨e,_⟩ | ⟨j,e,_,e2,_⟩
      ·omega
      ·rw [e,Int.toNat_natCast]; exact e2.2.1.symm
    unfold Zb8 at q
    simp [h1,ex,cd.1] at q
    omega
   ·rw [if_neg (show ¬ (a = i∧0 = 0) by omega)]
    exact h.nc a b ha hb
  ·have c1:d = 1:=by omega
   subst c1
   rw [if_neg (by omega)] at cd
   rw [if_neg (show ¬ (a = i∧0 = 1) by omega),if_neg (show ¬ (a = w∧0 = (1 + 2) % 4) by omega),if_neg (show ¬ (b = w∧1 = (1 + 2) % 4) by omega)]
   by_cases c:b = i
   ·subst c
    rw [if_pos ⟨rfl,rfl⟩]
    intro h1 _ ⟨k1,k2,k3,k4⟩
    rw [Int.toNat_natCast] at k4
    have q:=(hcr a ha).1
    have na:=h.near a 0 ha (by omega)
    have ey:(gi at_ a).Y = (gi at_ (nx l a 0).toNat).Y:=by
     rcases na with e | ⟨_,e⟩
     ·omega
     ·rcases e with ⟨e,_⟩ | ⟨j,e,_,e2,_⟩
      ·omega
      ·rw [e,Int.toNat_natCast]; exact e2.2.1.symm
    unfold Zb8 at q
    simp [h1,ey,cd.1] at q
    omega
   ·rw [if_neg (show ¬ (b = i∧1 = 1) by omega)]
    exact h.nc a b ha hb
theorem Zks {at_:List Z5} (hp:Pts at_) (h1000:at_.length≤1000) {l:List Zc} {i:Nat} {b o:Int} (h:Mk at_ l i 0) (hi:i < l.length) (ho:-2≤o∧o≤1000):∃ l',za (ZF.s3 i b at_ o) big (l,0) = some l'∧Mk at_ l' i 2∧i < l'.length:=by
 refine Zcx (n:=2) (I:=fun n (s:List Zc × Int)=>s.2 = n∧Mk at_ s.1 i n∧i < s.1.length) (R:=fun l'=>Mk at_ l' i 2∧i < l'.length) (Zbc (by omega)) ⟨rfl,h,hi⟩ ?_ ?_
 ·rintro d ⟨l,x⟩ hd ⟨hx,hM,hi⟩
  dsimp only at hx hM hi
  subst hx
  have hl:=hM.len
  obtain ⟨w,hw,hN⟩:=Zlj (at_:=at_) (i:=i) (d:=d) h1000 (by omega) hd
  simp only [ZF.s3]
  rw [ZM (by omega),hw,Option.bind_some,Z8 (by omega),zr (by omega)]
  by_cases c:((decide (Zx .u8 (Z9 .u8 b d) 1 = 0)) || (decide (w < 0))) = true
  ·rw [if_pos c]
   exact ⟨_,rfl,rfl,hM.step,hi⟩
  ·rw [if_neg c]
   have hw0:¬ w < 0:=by
    intro hh
    apply c
    simp [hh]
   obtain ⟨wn,rfl⟩:∃ wn:Nat,w = wn:=⟨w.toNat,by omega⟩
   have hwl:wn < l.length:=by
    rcases hN with ⟨e,_⟩ | ⟨j,e,h1,h2,_⟩
    ·omega
    ·omega
   rw [Ziw hl.symm (by omega) hi hwl (fun a e ha he=>(hM.ck.lt ha (by omega)).2),Option.bind_some,ZjI (by omega) (by omega)]
   by_cases c2:(!ZeR at_ l i wn) = true
   ·rw [if_pos c2,Option.bind_some,zr (by omega)]
    exact ⟨_,rfl,rfl,hM.lay hp hi hd hN (by simpa using c2) ho,by rw [Zbu]; exact hi⟩
   ·rw [if_neg c2]
    exact ⟨_,rfl,rfl,hM.step,hi⟩
 ·rintro ⟨l,x⟩ ⟨hx,hM,hi⟩
  dsimp only at hx hM hi
  subst hx
  simp only [ZF.s3]
  rw [ZL (by omega)]
  exact ⟨_,rfl,hM,hi⟩

theorem Zkr {z:zo} {at_:List Z5} (hp:Pts at_) (h1000:at_.length≤1000) (hown:∀ y∈z.Own,Wf .i8 y) {l:List Zc} (h:Mk at_ l 0 0):∃ r:List Z5 × List Zc,za (ZF.s2 z) big (at_,l,0) = some r∧r.1 = at_∧Mk at_ r.2 at_.length 0:=by
 refine Zcx (n:=at_.length) (I:=fun n (s:List Z5 × List Zc × Int)=>s.1 = at_∧s.2.2 = n∧Mk at_ s.2.1 n 0) (s0:=(at_,l,(0:Int))) (R:=fun r:List Z5 × List Zc=>r.1 = at_∧Mk at_ r.2 at_.length 0) (Zbc (by omega)) ⟨rfl,rfl,h⟩ ?_ ?_
 ·rintro i ⟨a,l,x⟩ hi ⟨ha,hx,hM⟩
  dsimp only at ha hx hM
  subst ha hx
  have hb:∃ b,(if decide ((i:Int) < (z.Bits.length:Int)) = true then ck ((0:Int)≤(i:Int)∧(i:Int) < (z.Bits.length:Int)) (some (a,l,gi z.Bits (i:Int).toNat)) else some (a,l,3)) = some (a,l,b):=by
   by_cases c:(i:Int) < (z.Bits.length:Int)
   ·exact ⟨gi z.Bits i,by rw [ZM c,Z8 (by omega)]; rfl⟩
   ·exact ⟨3,by rw [ZL c]⟩
  have ho:∃ o:Int,(-2≤o∧o≤1000)∧(if decide ((i:Int) < (z.Own.length:Int)) = true then ck ((0:Int)≤(i:Int)∧(i:Int) < (z.Own.length:Int)) (ck (inK .i64 (gi z.Own (i:Int).toNat)) (if decide ((gi z.Own (i:Int).toNat) < (-2)) = true then ck (zH (-(gi z.Own (i:Int).toNat))) (some (a,l,-(gi z.Own (i:Int).toNat))) else some (a,l,gi z.Own (i:Int).toNat))) else some (a,l,(i:Int))) = some (a,l,o):=by
   by_cases c:(i:Int) < (z.Own.length:Int)
   ·have hw:=(hown _ (ZbE (show i < z.Own.length by omega))).i8
    rw [ZM c,Z8 (by omega),Int.toNat_natCast,Zbp (by omega)]
    by_cases c2:gi z.Own i < -2
    ·exact ⟨-(gi z.Own i),by omega,by rw [ZM c2,zr (by omega)]⟩
    ·exact ⟨gi z.Own i,by omega,by rw [ZL c2]⟩
   ·exact ⟨i,by omega,by rw [ZL c]⟩
  obtain ⟨b,hb⟩:=hb
  obtain ⟨o,ho1,ho⟩:=ho
  have hl:=hM.len
  obtain ⟨l',h1,h2,h3⟩:=Zks (b:=b) hp h1000 hM (by omega) ho1
  simp only [ZF.s2]
  rw [ZM (by omega),hb,Option.bind_some]
  dsimp only
  rw [ho,Option.bind_some]
  dsimp only
  rw [h1,Option.bind_some,zr (by omega)]
  exact ⟨_,rfl,rfl,rfl,h2.next⟩
 ·rintro ⟨a,l,x⟩ ⟨ha,hx,hM⟩
  dsimp only at ha hx hM
  subst ha hx
  simp only [ZF.s2]
  rw [ZL (by omega)]
  exact ⟨_,rfl,rfl,hM⟩
theorem Zkq {z:zo} {at_:List Z5} {i:Nat} (h1000:at_.length≤1000):∃ m:Bool,za (ZF.s1 z at_ i) big (false,0) = some (at_,m)∧(m = false→∀ k,k < at_.length→gi at_ k≠(⟨(gi z.At i).tmod 8,((gi z.At i).tdiv 8).tmod 8⟩:Z5)):=by
 obtain ⟨r,h1,h2,h3⟩:=Zcx (step:=ZF.s1 z at_ i) (s0:=((false:Bool),(0:Int))) (n:=at_.length) (I:=fun n (s:Bool × Int)=>s.2 = n∧(s.1 = false→∀ k,k < n→gi at_ k≠(⟨(gi z.At i).tmod 8,((gi z.At i).tdiv 8).tmod 8⟩:Z5))) (R:=fun r:List Z5 × Bool=>r.1 = at_∧(r.2 = false→∀ k,k < at_.length→gi at_ k≠(⟨(gi z.At i).tmod 8,((gi z.At i).tdiv 8).tmod 8⟩:Z5))) (Zbc (by omega)) ⟨rfl,fun _ k hk=>by omega⟩ (by
  rintro n ⟨m,x⟩ hn ⟨hx,hm⟩
  dsimp only at hx hm
  subst hx
  simp only [ZF.s1]
  rw [ZM (by omega)]
  cases m with
  | true =>
   rw [if_pos rfl,Option.bind_some,zr (by omega)]
   exact ⟨_,rfl,rfl,fun h=>by cases h⟩
  | false =>
   rw [if_neg (by decide),Z8 (by omega),Option.bind_some,zr (by omega),Int.toNat_natCast,Int.toNat_natCast]
   refine ⟨_,rfl,rfl,fun h k hk=>?_⟩
   rcases Nat.lt_succ_iff_lt_or_eq.1 hk with h' | rfl
   ·exact hm rfl k h'
   ·simpa using h) (by
  rintro ⟨m,x⟩ ⟨hx,hm⟩
  dsimp only at hx hm
  subst hx
  simp only [ZF.s1]
  rw [ZL (by omega)]
  exact ⟨_,rfl,rfl,hm⟩)
 obtain ⟨a,m⟩:=r
 dsimp only at h2 h3
 subst h2
 exact ⟨m,h1,h3⟩
theorem Zkp {z:zo} {most:Int} (hm:0≤most∧most≤1000) (hlen:z.At.length≤9223372036854775807) (hat:∀ y∈z.At,Wf .u8 y):∃ a,za (ZF.s0 z most) big (([]:List Z5),0) = some a∧Pts a∧(a.length:Int)≤most:=by
 refine Za7 (μ:=fun s:List Z5 × Int=>((z.At.length:Int) - s.2).toNat) (I:=fun s=>0≤s.2∧Pts s.1∧(s.1.length:Int)≤most) (R:=fun a=>Pts a∧(a.length:Int)≤most) (Zbc (by omega)) ⟨by decide,Pts.nil,by simpa using hm.1⟩ ?_
 rintro ⟨a,i⟩ ⟨h1,h2,h3⟩
 dsimp only at h1 h2 h3
 obtain ⟨n,rfl⟩:∃ n:Nat,i = n:=⟨i.toNat,by omega⟩
 simp only [ZF.s0]
 by_cases c:((decide ((n:Int) < (z.At.length:Int))) && (decide ((a.length:Int) < most))) = true
 ·left
  rw [if_pos c]
  rw [Bool.and_eq_true,decide_eq_true_iff,decide_eq_true_iff] at c
  have hu:=(hat _ (ZbE (show n < z.At.length by omega))).u8
  obtain ⟨m,e1,e2⟩:=Zkq (z:=z) (at_:=a) (i:=n) (by omega)
  have hdv:0≤(gi z.At n).tdiv 8∧(gi z.At n).tdiv 8≤255:=by
   rw [Int.tdiv_eq_ediv_of_nonneg hu.1]; omega
  rw [Z8 (by omega),Int.toNat_natCast,Zbp (by omega),Z8 ⟨by omega,by constructor <;> omega⟩,e1,Option.bind_some]
  dsimp only
  cases m with
  | false =>
   rw [if_pos (by decide),Z8 (by simp; omega),zr (by omega)]
   refine ⟨_,rfl,⟨by omega,h2.app ?_ (e2 rfl),by simp; omega⟩,by dsimp only; omega⟩
   have a1:=Int.tmod_nonneg 8 hu.1
   have a2:=Int.tmod_lt_of_pos (gi z.At n) (show (0:Int) < 8 by omega)
   have a3:=Int.tmod_nonneg 8 hdv.1
   have a4:=Int.tmod_lt_of_pos ((gi z.At n).tdiv 8) (show (0:Int) < 8 by omega)
   exact ⟨a1,a2,a3,a4⟩
  | true =>
   rw [if_neg (by decide),zr (by omega)]
   exact ⟨_,rfl,⟨by dsimp only; omega,h2,h3⟩,by dsimp only; omega⟩
 ·right
  rw [if_neg c]
  exact ⟨_,rfl,h2,h3⟩
structure Zl4 (l:List Zc) (at_:List Z5):Prop where
 pts:Pts at_
 len:l.length = at_.length
 ck:Ck l
 near:∀ v e,v < l.length→e < 2→nx l v e = -1∨ZbQ at_ v e at_.length (nx l v e)
 own:∀ v e,v < l.length→e < 4→-2≤ow l v e∧ow l v e≤1000
 nc:NX at_ l
structure OkZ (z:zo):Prop where
 a:z.At.length≤9223372036854775807
 b:∀ y∈z.At,Wf .u8 y
 o:∀ y∈z.Own,Wf .i8 y
theorem Zlh {z:zo} {most:Int} (hz:OkZ z) (hm:0≤most∧most≤1000):∃ l at_,ZF z most = some (l,at_)∧Zl4 l at_∧(l.length:Int)≤most:=by
 obtain ⟨a,h1,hp,hl⟩:=Zkp hm hz.a hz.b
 have hM:Mk a (List.replicate a.length noC) 0 0:=⟨by simp,Ck.new _,fun v e hv he=>.inl (by
   have:gi (List.replicate a.length noC) v = noC:=by rw [Zbd hv]; simp
   unfold nx; rw [this]
   match e,he with
   | 0,_ | 1,_=>rfl),fun v e hv he=>by
   have:gi (List.replicate a.length noC) v = noC:=by rw [Zbd hv]; simp
   unfold ow; rw [this]
   match e,he with
   | 0,_ | 1,_ | 2,_ | 3,_=>decide,fun v b hv hb h0=>by
   exfalso
   have:gi (List.replicate a.length noC) v = noC:=by rw [Zbd hv]; simp
   unfold nx at h0; rw [this] at h0
   exact absurd h0 (by decide)⟩
 obtain ⟨⟨a',l⟩,h2,h3,h4⟩:=Zkr (z:=z) hp (by omega) hz.o hM
 dsimp only at h3 h4
 subst h3
 refine ⟨l,a',?_,⟨hp,h4.len,h4.ck,fun v e hv he=>(h4.near v e hv he).imp id (·.2),h4.own,h4.nc⟩,by rw [h4.len]; exact hl⟩
 unfold ZF
 rw [h1,Option.bind_some,Zjp (by omega),Option.bind_some,h2,Option.bind_some]
end Mu
/- Layer 10: check. -/
set_option linter.unusedVariables false
set_option linter.unusedSimpArgs false
set_option maxRecDepth 10000
namespace Mu

def ZdG (l:List Zc) (v d:Nat):Int :=
 if nx l v d = -1 then (if ow l v d = 0 then 0 else 9)
 else if nx l v d < 0∨(l.length:Int)≤nx l v d∨nx l v d = v then 3
 else if nx l (nx l v d).toNat ((d + 2) % 4) = v∧ow l (nx l v d).toNat ((d + 2) % 4) = ow l v d∧¬ ow l v d < -2 then 0 else 9
theorem Zlg {d:Nat} (hd:d < 4):ZaF d 2 = some (((d + 2) % 4:Nat):Int):=by
 match d,hd with
 | 0,_ | 1,_ | 2,_ | 3,_=>decide
theorem Zlk {l:List Zc} {v d:Nat} (hv:v < l.length) (hd:d < 4):Zb1 l v d = some (ZdG l v d):=by
 unfold Zb1 ZdG
 have e:((gi l v).Next).get (d:Int) = nx l v d:=rfl
 have e2:((gi l v).Owner).get (d:Int) = ow l v d:=rfl
 rw [Z8 (by omega),Z8 (by omega),Int.toNat_natCast,e,e2]
 by_cases c:nx l v d = -1
 ·rw [ZM c,if_pos c]
  by_cases c2:ow l v d = 0
  ·rw [Za8 c2,if_pos c2]
  ·rw [ZaH c2,if_neg c2]
 ·rw [ZL c,if_neg c]
  by_cases c2:nx l v d < 0∨(l.length:Int)≤nx l v d∨nx l v d = v
  ·rw [if_pos c2,if_pos (by simpa [or_assoc] using c2)]
  ·rw [if_neg c2,if_neg (by simpa [or_assoc] using c2),Zlg hd,Option.bind_some,Z8 (by omega),Z8 (by omega)]
   have e3:((gi l (nx l v d).toNat).Next).get (((d + 2) % 4:Nat):Int) = nx l (nx l v d).toNat ((d + 2) % 4):=rfl
   have e4:((gi l (nx l v d).toNat).Owner).get (((d + 2) % 4:Nat):Int) = ow l (nx l v d).toNat ((d + 2) % 4):=rfl
   rw [e3,e4]
   by_cases q1:nx l (nx l v d).toNat ((d + 2) % 4) = v <;> by_cases q2:ow l (nx l v d).toNat ((d + 2) % 4) = ow l v d <;> by_cases q3:ow l v d < -2 <;> simp [q1,q2,q3]
def Zge (l:List Zc) (v:Nat):Int:=match (List.range 4).find? (fun d=>decide (ZdG l v d≠0)) with | some d=>ZdG l v d | none=>0
def ZdQ (l:List Zc):Int:=if 4096 < l.length then 6 else match (List.range l.length).find? (fun v=>decide (Zge l v≠0)) with | some v=>Zge l v | none=>0
theorem Zf3 {n:Nat} {f:Nat→Int}:(match (List.range n).find? (fun d=>decide (f d≠0)) with | some d=>f d | none=>0) = 0↔∀ d,d < n→f d = 0:=by
 cases h:(List.range n).find? (fun d=>decide (f d≠0)) with
 | none =>
  rw [List.find?_range_eq_none] at h
  simp only [true_iff]
  intro d hd
  have:=h d hd
  simpa using this
 | some j =>
  rw [List.find?_range_eq_some] at h
  have h1:f j≠0:=by simpa using h.1
  have h2:j < n:=by simpa using h.2.1
  constructor
  ·intro h3; exact absurd h3 h1
  ·intro h3; exact h3 j h2
theorem ZfB {l:List Zc} {v:Nat}:Zge l v = 0↔∀ d,d < 4→ZdG l v d = 0:=Zf3
theorem Zh2 {l:List Zc}:ZdQ l = 0↔l.length≤4096∧∀ v,v < l.length→∀ d,d < 4→ZdG l v d = 0:=by
 unfold ZdQ
 by_cases c:4096 < l.length
 ·rw [if_pos c]; constructor
  ·intro h; omega
  ·intro h; omega
 ·rw [if_neg c,Zf3]
  constructor
  ·intro h; exact ⟨by omega,fun v hv=>ZfB.1 (h v hv)⟩
  ·intro h v hv; exact ZfB.2 (h.2 v hv)
theorem Zfl {l:List Zc} {v d:Nat}:ZdG l v d = 0↔(nx l v d = -1∧ow l v d = 0)∨∃ w:Nat,nx l v d = w∧w < l.length∧w≠v∧nx l w ((d + 2) % 4) = v∧ow l w ((d + 2) % 4) = ow l v d∧-2≤ow l v d:=by
 unfold ZdG
 by_cases c:nx l v d = -1
 ·rw [if_pos c]
  by_cases c2:ow l v d = 0
  ·simp [c,c2]
  ·rw [if_neg c2]
   constructor
   ·intro h; omega
   ·rintro (⟨_,h⟩ | ⟨w,h,_⟩)
    ·exact absurd h c2
    ·omega
 ·rw [if_neg c]
  by_cases c2:nx l v d < 0∨(l.length:Int)≤nx l v d∨nx l v d = v
  ·rw [if_pos c2]
   constructor
   ·intro h; omega
   ·rintro (⟨h,_⟩ | ⟨w,h,h1,h2,_⟩)
    ·exact absurd h c
    ·omega
  ·rw [if_neg c2]
   constructor
   ·intro h
    split at h
    ·rename_i q
     exact .inr ⟨(nx l v d).toNat,by omega,by omega,by omega,q.1,q.2.1,by omega⟩
    ·omega
   ·rintro (⟨h,_⟩ | ⟨w,h,h1,h2,h3,h4,h5⟩)
    ·exact absurd h c
    ·have:(nx l v d).toNat = w:=by omega
     rw [this,if_pos ⟨h3,h4,by omega⟩]
theorem Zdy {l:List Zc}:ZdQ l = 0↔l.length≤4096∧Ck l:=by
 rw [Zh2]
 constructor
 ·intro h; exact ⟨h.1,⟨fun v d hv hd=>Zfl.1 (h.2 v hv d hd)⟩⟩
 ·intro h; exact ⟨h.1,fun v hv d hd=>Zfl.2 (h.2.s v d hv hd)⟩
theorem Zit {n:Nat} {f:Nat→Int}:((match (List.range n).find? (fun d=>decide (f d≠0)) with | some d=>(.inr (f d):Unit ⊕ Int) | none=>.inl ())) = if (match (List.range n).find? (fun d=>decide (f d≠0)) with | some d=>f d | none=>0) = 0 then .inl () else .inr (match (List.range n).find? (fun d=>decide (f d≠0)) with | some d=>f d | none=>0):=by
 cases h:(List.range n).find? (fun d=>decide (f d≠0)) with
 | none=>simp
 | some j =>
  rw [List.find?_range_eq_some] at h
  have h1:f j≠0:=by simpa using h.1
  rw [if_neg h1]
theorem Zl8 {l:List Zc} {v:Nat} (hv:v < l.length):za (z4.s1 l v) big 0 = some (if Zge l v = 0 then .inl () else .inr (Zge l v)):=by
 have h:za (z4.s1 l v) big 0 = some (match (List.range 4).find? (fun d=>decide (ZdG l v d≠0)) with | some d=>.inr (ZdG l v d) | none=>.inl ()):=by
  refine ZdJ (Zbc (by omega)) (fun d hd=>?_) ?_
  ·simp only [z4.s1]
   rw [ZM (by omega),Zlk hv hd,Option.bind_some]
   by_cases c:ZdG l v d = 0
   ·rw [Za8 c,if_neg (by simpa using c),zr (by omega)]
   ·rw [ZaH c,if_pos (by simpa using c)]
  ·simp only [z4.s1]
   rw [ZL (by omega)]
 rw [h,Zit]; rfl
theorem ZfU {l:List Zc} (hl:l.length≤1000000000000):z4 l = some (ZdQ l):=by
 unfold z4 ZdQ
 by_cases c:4096 < l.length
 ·rw [if_pos c,ZM (by omega)]
 ·rw [if_neg c,ZL (by omega)]
  have h:za (z4.s0 l) big 0 = some (match (List.range l.length).find? (fun v=>decide (Zge l v≠0)) with | some v=>.inr (Zge l v) | none=>.inl ()):=by
   refine ZdJ (Zbc (by omega)) (fun v hv=>?_) ?_
   ·simp only [z4.s0]
    rw [ZM (by omega),Zl8 hv,Option.bind_some]
    by_cases c:Zge l v = 0
    ·rw [if_pos c,if_neg (by simpa using c)]
     dsimp only
     rw [zr (by omega)]
    ·rw [if_neg c,if_pos (by simpa using c)]
   ·simp only [z4.s0]
    rw [ZL (by omega)]
  rw [h]
  cases (List.range l.length).find? (fun v=>decide (Zge l v≠0)) <;> simp
end Mu
/- Layer 10: a grid's cells,played with. -/
set_option linter.unusedVariables false
set_option linter.unusedSimpArgs false
set_option maxRecDepth 10000
namespace Mu
structure Rg (l:List Zc):Prop where
 len:l.length≤4096
 nx:∀ v d:Nat,v < l.length→d < 4→nx l v d = -1∨(0≤nx l v d∧nx l v d < l.length)
theorem Rg.wth {l:List Zc} {v w d:Nat} {o:Int} (h:Rg l) (hv:v < l.length) (hw:w < l.length) (hvw:v≠w) (hd:d < 4):Rg (wth l v d w o):=by
 refine ⟨by rw [Zbu]; exact h.len,fun i e hi he=>?_⟩
 rw [Zbu] at hi ⊢
 rw [(Zfa hv hw hvw hd hi he).1]
 split
 ·omega
 ·split
  ·omega
  ·exact h.nx i e hi he
theorem Zi2 {d:Nat} (h:d < 4):noC.Next.get (d:Int) = -1∧noC.Owner.get (d:Int) = 0:=by
 match d,h with
 | 0,_ | 1,_ | 2,_ | 3,_=>exact ⟨rfl,rfl⟩
theorem Rg.add {l:List Zc} (h:Rg l) (hl:l.length < 4096):Rg (l++[noC]):=by
 refine ⟨by simp; omega,fun i e hi he=>?_⟩
 rw [List.length_append,List.length_singleton] at hi ⊢
 unfold Mu.nx
 by_cases c:i < l.length
 ·rw [ZbU c]
  have:=h.nx i e c he
  unfold Mu.nx at this
  omega
 ·rw [show i = l.length + 0 by omega,ZbB]
  exact .inl (Zi2 he).1
end Mu
/- Layer 10: a split edge. -/
set_option linter.unusedVariables false
set_option linter.unusedSimpArgs false
set_option maxRecDepth 10000
namespace Mu
end Mu
/- Layer 12: ZaX,in the code and in the document,are the same walk. -/
set_option linter.unusedVariables false
set_option linter.unusedSimpArgs false
set_option maxRecDepth 10000
namespace Mu
abbrev Da:=Nat × Nat
def dt (p:Da):Zs:=⟨p.1,p.2⟩
def rt (p:Da):Z0:=⟨p.1,p.2⟩
def isD (l:List Zc) (p:Da):Prop:=p.1 < l.length∧p.2 < 4∧0≤nx l p.1 p.2
instance {l:List Zc} {p:Da}:Decidable (isD l p):=by unfold isD; infer_instance
def bh (l:List Zc) (p:Da):Da :=
 if 0≤nx l (nx l p.1 p.2).toNat ((p.2 + 1) % 4) then ((nx l p.1 p.2).toNat,(p.2 + 1) % 4)
 else if 0≤nx l (nx l p.1 p.2).toNat p.2 then ((nx l p.1 p.2).toNat,p.2)
 else if 0≤nx l (nx l p.1 p.2).toNat ((p.2 + 3) % 4) then ((nx l p.1 p.2).toNat,(p.2 + 3) % 4)
 else ((nx l p.1 p.2).toNat,(p.2 + 2) % 4)
theorem isD.fwd {l:List Zc} (hc:Ck l) {p:Da} (h:isD l p):(nx l p.1 p.2).toNat < l.length∧nx l (nx l p.1 p.2).toNat ((p.2 + 2) % 4) = p.1:=by
 rcases hc.s p.1 p.2 h.1 h.2.1 with ⟨a,_⟩ | ⟨w,a,b,_,c,_⟩
 ·have:=h.2.2; omega
 ·rw [a,Int.toNat_natCast]; exact ⟨b,c⟩
theorem isD.bh {l:List Zc} (hc:Ck l) {p:Da} (h:isD l p):isD l (bh l p):=by
 have f:=h.fwd hc
 have:=h.2.1
 unfold Mu.bh
 split
 ·rename_i c; exact ⟨f.1,by dsimp only; omega,c⟩
 ·split
  ·rename_i c; exact ⟨f.1,by dsimp only; omega,c⟩
  ·split
   ·rename_i c; exact ⟨f.1,by dsimp only; omega,c⟩
   ·exact ⟨f.1,by dsimp only; omega,by dsimp only; rw [f.2]; omega⟩
theorem Zle {l:List Zc} {v d:Int}:Za1 ⟨v,d⟩ l = some (decide (0≤v∧v < l.length∧0≤d∧d < 4∧0≤nx l v.toNat d.toNat)):=by
 unfold Za1 Za0
 dsimp only
 by_cases c1:0≤v
 ·rw [ZM c1]
  by_cases c2:v < l.length
  ·rw [ZM c2,Option.bind_some]
   by_cases c3:0≤d∧d≤3
   ·rw [if_pos (by simp [c3]),Z8 (by omega),Z8 (by omega)]
    have:(gi l v.toNat).Next.get d = nx l v.toNat d.toNat:=by unfold nx; rw [show ((d.toNat:Nat):Int) = d by omega]
    rw [this]
    congr 1
    rw [Bool.eq_iff_iff]
    simp only [decide_eq_true_eq]
    omega
   ·rw [if_neg (by simp; omega),Zbi]
    omega
  ·rw [ZL c2,Zbi]
   omega
 ·rw [ZL c1,Zbi]
  omega
theorem Zlf {l:List Zc} {p:Da}:Za1 (dt p) l = some (decide (isD l p)):=by
 unfold dt
 rw [Zle]
 congr 1
 rw [Bool.eq_iff_iff]
 simp only [decide_eq_true_eq,Int.toNat_natCast]
 unfold isD
 omega
theorem ZfV {d:Nat} (hd:d < 4) {t:Int} (ht:t = 1∨t = 0∨t = -1∨t = 2):ZaF d t = some (if t = 1 then (((d + 1) % 4:Nat):Int) else if t = 0 then (d:Int) else if t = -1 then (((d + 3) % 4:Nat):Int) else (((d + 2) % 4:Nat):Int)):=by
 have:d = 0∨d = 1∨d = 2∨d = 3:=by omega
 rcases this with rfl | rfl | rfl | rfl <;> rcases ht with rfl | rfl | rfl | rfl <;> rfl
theorem ZjG {ρ:Type} {F:Int→Option (Int ⊕ ρ)} {c0 c1 c2:Prop} [Decidable c0] [Decidable c1] [Decidable c2] {r0 r1 r2 r3:ρ} (s0:F ((0:Nat):Int) = some (if c0 then .inr r0 else .inl (((0:Nat):Int) + 1))) (s1:F ((1:Nat):Int) = some (if c1 then .inr r1 else .inl (((1:Nat):Int) + 1))) (s2:F ((2:Nat):Int) = some (if c2 then .inr r2 else .inl (((2:Nat):Int) + 1))) (s3:F ((3:Nat):Int) = some (.inr r3)):za F big 0 = some (if c0 then r0 else if c1 then r1 else if c2 then r2 else r3):=by
 refine Zcw (n:=4) ?_ (by unfold big; omega)
 replace s0:F 0 = some (if c0 then .inr r0 else .inl 1):=s0
 replace s1:F 1 = some (if c1 then .inr r1 else .inl 2):=s1
 replace s2:F 2 = some (if c2 then .inr r2 else .inl 3):=s2
 replace s3:F 3 = some (.inr r3):=s3
 rw [za,s0]
 by_cases h0:c0
 ·rw [if_pos h0,if_pos h0]
 ·rw [if_neg h0,if_neg h0]
  dsimp only
  rw [za,s1]
  by_cases h1:c1
  ·rw [if_pos h1,if_pos h1]
  ·rw [if_neg h1,if_neg h1]
   dsimp only
   rw [za,s2]
   by_cases h2:c2
   ·rw [if_pos h2,if_pos h2]
   ·rw [if_neg h2,if_neg h2]
    dsimp only
    rw [za,s3]
theorem Zho {l:List Zc} (hc:Ck l) {p:Da} (h:isD l p):zA (dt p) l = some (dt (bh l p)):=by
 have f:=h.fwd hc
 obtain ⟨h1,h2,h3⟩:=h
 have e:((gi l p.1).Next).get (p.2:Int) = nx l p.1 p.2:=rfl
 have st:∀ (k:Nat) (d':Nat),k < 4→d' < 4→ZaF (p.2:Int) ((⟨1,0,(-1),2⟩:A4 Int).get k) = some (d':Int)→zA.s0 (dt p) l (k:Int) = some (if 0≤nx l (nx l p.1 p.2).toNat d' then .inr (.inr (dt ((nx l p.1 p.2).toNat,d'))) else .inl ((k:Int) + 1)):=by
  intro k d' hk hd hl
  have i:=Zle (l:=l) (v:=nx l p.1 p.2) (d:=d')
  simp only [zA.s0,dt,Int.toNat_natCast,e]
  rw [ZM (by omega),Z8 (by omega),hl,Option.bind_some,i,Option.bind_some]
  by_cases c:0≤nx l (nx l p.1 p.2).toNat d'
  ·rw [ZM (by rw [Int.toNat_natCast]; omega),if_pos c]
   congr 4
   omega
  ·rw [ZL (by rw [Int.toNat_natCast]; omega),zr (by omega),if_neg c]
 have s0:=st 0 ((p.2 + 1) % 4) (by omega) (by omega) ((ZfV h2 (.inl rfl)).trans rfl)
 have s1:=st 1 p.2 (by omega) h2 ((ZfV h2 (.inr (.inl rfl))).trans rfl)
 have s2:=st 2 ((p.2 + 3) % 4) (by omega) (by omega) ((ZfV h2 (.inr (.inr (.inl rfl)))).trans rfl)
 have s3:=st 3 ((p.2 + 2) % 4) (by omega) (by omega) ((ZfV h2 (.inr (.inr (.inr rfl)))).trans rfl)
 rw [if_pos (by rw [f.2]; omega)] at s3
 have L:za (zA.s0 (dt p) l) big 0 = some (.inr (dt (bh l p))):=by
  rw [ZjG s0 s1 s2 s3]
  unfold bh
  by_cases c0:0≤nx l (nx l p.1 p.2).toNat ((p.2 + 1) % 4)
  ·rw [if_pos c0,if_pos c0]
  ·rw [if_neg c0,if_neg c0]
   by_cases c1:0≤nx l (nx l p.1 p.2).toNat p.2
   ·rw [if_pos c1,if_pos c1]
   ·rw [if_neg c1,if_neg c1]
    by_cases c2:0≤nx l (nx l p.1 p.2).toNat ((p.2 + 3) % 4)
    ·rw [if_pos c2,if_pos c2]
    ·rw [if_neg c2,if_neg c2]
 unfold zA
 rw [Z8 (by unfold dt; dsimp only; omega),Z8 (by unfold dt; dsimp only; omega),L,Option.bind_some]
theorem Zjx {l:List Zc} (hc:Ck l) {p:Da} (h:isD l p):zE l (rt p) = some (rt (bh l p)):=by
 have f:=h.fwd hc
 obtain ⟨h1,h2,h3⟩:=h
 have e:((gi l p.1).Next).get (p.2:Int) = nx l p.1 p.2:=rfl
 have st:∀ (k:Nat) (o:Nat),k < 4→gi ([1,0,3,2]:List Int) k = o→o < 4→zE.s0 l (rt p) (k:Int) = some (if 0≤nx l (nx l p.1 p.2).toNat ((p.2 + o) % 4) then .inr (.inr (rt ((nx l p.1 p.2).toNat,(p.2 + o) % 4))) else .inl ((k:Int) + 1)):=by
  intro k o hk ho ho4
  have m:((p.2:Int) + (o:Int)).tmod 4 = (((p.2 + o) % 4:Nat):Int):=by
   rw [Int.tmod_eq_emod_of_nonneg (by omega)]; omega
  have e2:(gi l (nx l p.1 p.2).toNat).Next.get (((p.2 + o) % 4:Nat):Int) = nx l (nx l p.1 p.2).toNat ((p.2 + o) % 4):=rfl
  simp only [zE.s0,rt,Int.toNat_natCast,e,ho,m,e2]
  rw [ZM (by omega),Z8 (by simp; omega),zr (by omega),Z8 (by omega),Z8 (by omega)]
  by_cases c:0≤nx l (nx l p.1 p.2).toNat ((p.2 + o) % 4)
  ·rw [ZM c,if_pos c]
   congr 4
   omega
  ·rw [ZL c,zr (by omega),if_neg c]
 have s0:=st 0 1 (by omega) rfl (by omega)
 have s1:=st 1 0 (by omega) rfl (by omega)
 have s2:=st 2 3 (by omega) rfl (by omega)
 have s3:=st 3 2 (by omega) rfl (by omega)
 rw [show (p.2 + 0) % 4 = p.2 by omega] at s1
 rw [if_pos (by rw [f.2]; omega)] at s3
 have L:za (zE.s0 l (rt p)) big 0 = some (.inr (rt (bh l p))):=by
  rw [ZjG s0 s1 s2 s3]
  unfold bh
  by_cases c0:0≤nx l (nx l p.1 p.2).toNat ((p.2 + 1) % 4)
  ·rw [if_pos c0,if_pos c0]
  ·rw [if_neg c0,if_neg c0]
   by_cases c1:0≤nx l (nx l p.1 p.2).toNat p.2
   ·rw [if_pos c1,if_pos c1]
   ·rw [if_neg c1,if_neg c1]
    by_cases c2:0≤nx l (nx l p.1 p.2).toNat ((p.2 + 3) % 4)
    ·rw [if_pos c2,if_pos c2]
    ·rw [if_neg c2,if_neg c2]
 unfold zE
 rw [Z8 (by unfold rt; dsimp only; omega),Z8 (by unfold rt; dsimp only; omega),L,Option.bind_some]
def walk (l:List Zc):Nat→List Da→Da→List Da
 | 0,_,_=>[]
 | n + 1,met,x=>if x∈met then [] else x :: walk l n (met++[x]) (bh l x)
structure Mets (l:List Zc) (met:List Da):Prop where
 nd:met.Nodup
 is:∀ p∈met,isD l p
theorem Mets.len {l:List Zc} {met:List Da} (h:Mets l met):met.length≤4 * l.length:=by
 have n:(met.map fun p=>4 * p.1 + p.2).Nodup:=by
  refine List.pairwise_map.2 (h.nd.imp_of_mem fun {p q} hp hq hne he=>hne ?_)
  have a:=h.is p hp
  have b:=h.is q hq
  unfold isD at a b
  exact Prod.ext (by omega) (by omega)
 have:=n.length_le_of_subset (l₂:=List.range (4 * l.length)) (fun x hx=>by
  obtain ⟨p,hp,rfl⟩:=List.mem_map.1 hx
  have:=h.is p hp
  unfold isD at this
  exact List.mem_range.2 (by omega))
 simpa using this
theorem Mets.nil {l:List Zc}:Mets l []:=⟨List.nodup_nil,by simp⟩
theorem Mets.snoc {l:List Zc} {met:List Da} (h:Mets l met) {x:Da} (hx:isD l x) (hn:x ∉ met):Mets l (met++[x]):=by
 refine ⟨?_,fun p hp=>?_⟩
 ·rw [List.nodup_append]
  exact ⟨h.nd,by simp,fun a ha b hb e=>hn (by simp at hb; rw [← hb,← e]; exact ha)⟩
 ·rcases List.mem_append.1 hp with q | q
  ·exact h.is p q
  ·simp at q; rw [q]; exact hx
theorem Mets.walk {l:List Zc} (hc:Ck l):∀ {n:Nat} {met:List Da} {x:Da},Mets l met→isD l x→Mets l (met++walk l n met x)
 | 0,met,x,h,hx=>by rw [Mu.walk,List.append_nil]; exact h
 | n + 1,met,x,h,hx=>by
  rw [Mu.walk]
  split
  ·rw [List.append_nil]; exact h
  ·rename_i c
   have:=Mets.walk hc (n:=n) (h.snoc hx c) (hx.bh hc)
   rwa [List.append_assoc] at this
theorem Zh0 {l:List Zc} (hc:Ck l):∀ {n:Nat} {met:List Da} {x:Da},isD l x→∀ p∈walk l n met x,isD l p
 | 0,_,_,_,p,hp=>by simp [walk] at hp
 | n + 1,met,x,hx,p,hp=>by
  rw [walk] at hp
  split at hp
  ·simp at hp
  ·rcases List.mem_cons.1 hp with rfl | hp
   ·exact hx
   ·exact Zh0 hc (hx.bh hc) p hp
def mpD (met:List Da):List (Zs × Bool):=met.map fun p=>(dt p,true)
theorem Ziq {p q:Da} (h:dt p = dt q):p = q:=by
 unfold dt at h
 injection h with a b
 exact Prod.ext (by omega) (by omega)
theorem ZfW {x:Da}:∀ {met:List Da},ZbV false (dt x) (mpD met) = decide (x∈met)
 | []=>rfl
 | p :: met=>by
  show (if dt x = dt p then true else ZbV false (dt x) (mpD met)) = _
  by_cases c:x = p
  ·rw [if_pos (by rw [c]),Zbj (by simp [c])]
  ·rw [if_neg fun h=>c (Ziq h),ZfW]
   rw [Bool.eq_iff_iff]
   simp [c]
theorem Zju {x:Da} {met:List Da} (h:x ∉ met):ZcT (dt x) true (mpD met) = mpD (met++[x]):=by
 have:∀ {m:List Da},x ∉ m→ZcT (dt x) true (mpD m) = mpD m++[(dt x,true)]:=by
  intro m
  induction m with
  | nil=>intro _; rfl
  | cons p m ih =>
   intro h
   show (if dt x = dt p then _ else (dt p,true) :: ZcT (dt x) true (mpD m)) = _
   rw [if_neg fun e=>h (by rw [Ziq e]; simp),ih fun e=>h (by simp [e])]
   rfl
 rw [this h]
 unfold mpD
 rw [List.map_append]
 rfl
theorem ZjH {l:List Zc} (hc:Ck l) (hl:l.length≤5000):∀ (n:Nat) (met:List Da) (f:List Zs) (x:Da),Mets l met→isD l x→4 * l.length < met.length + n→f.length≤met.length→za (zF.s2 l) n (mpD met,f,dt x) = some (mpD (met++walk l n met x),f++(walk l n met x).map dt)
 | 0,met,f,x,h,_,hn,_=>by have:=h.len; omega
 | n + 1,met,f,x,h,hx,hn,hf=>by
  have ml:=h.len
  rw [za,walk]
  simp only [zF.s2]
  rw [ZfW]
  by_cases c:x∈met
  ·rw [Za8 c,if_pos c,List.append_nil,List.map_nil,List.append_nil]
  ·rw [ZaH c,Z8 (by simp; omega),Zho hc hx,Option.bind_some,if_neg c,Zju c]
   dsimp only
   rw [ZjH hc hl n (met++[x]) (f++[dt x]) (bh l x) (h.snoc hx c) (hx.bh hc) (by simp; omega) (by simp; omega)]
   rw [List.append_assoc,List.append_assoc]
   rfl
def Marks (l:List Zc) (met:List Da) (a:List Bool):Prop:=a.length = 4 * l.length∧∀ c e,c < l.length→e < 4→gi a (4 * c + e) = decide ((c,e)∈met)
theorem Marks.set {l:List Zc} {met:List Da} {a:List Bool} (h:Marks l met a) {x:Da} (hx:isD l x):Marks l (met++[x]) (a.set (4 * x.1 + x.2) true):=by
 unfold isD at hx
 refine ⟨by rw [List.length_set]; exact h.1,fun c e hc he=>?_⟩
 rw [Zc2 (by have:=h.1; omega),h.2 c e hc he]
 by_cases q:(c,e) = x
 ·rw [← q]
  rw [if_pos rfl,Zbj (by simp)]
 ·rw [if_neg]
  ·rw [Bool.eq_iff_iff]; simp [q]
  ·intro k
   exact q (Prod.ext (by dsimp only; omega) (by dsimp only; omega))
theorem ZjL {l:List Zc} (hc:Ck l) (hl:l.length≤5000):∀ (n:Nat) (met:List Da) (a:List Bool) (f:List Z0) (x:Da),Mets l met→Marks l met a→isD l x→4 * l.length < met.length + n→f.length≤met.length→∃ a',za (ZK.s2 l) n (a,f,rt x) = some (a',f++(walk l n met x).map rt)∧Marks l (met++walk l n met x) a'
 | 0,met,a,f,x,h,_,_,hn,_=>by have:=h.len; omega
 | n + 1,met,a,f,x,h,hm,hx,hn,hf=>by
  have ml:=h.len
  have hx':=hx
  unfold isD at hx'
  have al:=hm.1
  rw [za,walk,show rt x = (⟨x.1,x.2⟩:Z0) from rfl]
  simp only [ZK.s2]
  rw [zr (by omega),zr (by omega),Z8 (by omega),show (4 * (x.1:Int) + (x.2:Int)).toNat = 4 * x.1 + x.2 by omega,hm.2 x.1 x.2 hx'.1 hx'.2.1]
  by_cases c:x∈met
  ·rw [Za8 c,if_pos c,List.map_nil,List.append_nil,List.append_nil]
   exact ⟨a,rfl,hm⟩
  ·rw [ZaH c,Z8 (by simp; omega)]
   have rb:=Zjx hc hx
   unfold rt at rb
   rw [rb,Option.bind_some,if_neg c]
   dsimp only
   obtain ⟨a',e1,e2⟩:=ZjL hc hl n (met++[x]) (a.set (4 * x.1 + x.2) true) (f++[rt x]) (bh l x) (h.snoc hx c) (hm.set hx) (hx.bh hc) (by simp; omega) (by simp; omega)
   refine ⟨a',?_,?_⟩
   ·unfold rt at e1 ⊢
    rw [e1,List.append_assoc]
    rfl
   ·rw [List.append_assoc] at e2
    exact e2
def stF (l:List Zc) (s:List Da × List (List Da)) (p:Da):List Da × List (List Da) :=
 if nx l p.1 p.2 < 0∨p∈s.1 then s else (s.1++walk l (4 * l.length + 1) s.1 p,s.2++[walk l (4 * l.length + 1) s.1 p])
def Zfv (l:List Zc) (v:Nat) (s:List Da × List (List Da)):Nat→List Da × List (List Da)
 | 0=>s
 | e + 1=>stF l (Zfv l v s e) (v,e)
def FS (l:List Zc):Nat→List Da × List (List Da)
 | 0=>([],[])
 | v + 1=>Zfv l v (FS l v) 4
def ZaX (l:List Zc):List (List Da):=(FS l l.length).2
structure FI (l:List Zc) (s:List Da × List (List Da)):Prop where
 m:Mets l s.1
 len:s.2.length≤s.1.length
 is:∀ f∈s.2,∀ p∈f,isD l p
 fl:s.2.flatten = s.1
theorem FI.st {l:List Zc} (hc:Ck l) {s:List Da × List (List Da)} (h:FI l s) {p:Da} (h1:p.1 < l.length) (h2:p.2 < 4):FI l (stF l s p):=by
 unfold stF
 split
 ·exact h
 ·rename_i c
  have hp:isD l p:=⟨h1,h2,by omega⟩
  have hn:p ∉ s.1:=fun q=>c (.inr q)
  refine ⟨Mets.walk hc h.m hp,?_,?_,?_⟩
  ·dsimp only
   rw [List.length_append,List.length_append,walk,if_neg hn]
   have:=h.len
   simp; omega
  ·intro f hf q hq
   rcases List.mem_append.1 hf with k | k
   ·exact h.is f k q hq
   ·simp at k
    subst k
    exact Zh0 hc hp q hq
  ·dsimp only
   rw [List.flatten_append,h.fl]
   simp
theorem FI.row {l:List Zc} (hc:Ck l) {s:List Da × List (List Da)} (h:FI l s) {v:Nat} (hv:v < l.length):∀ e,e≤4→FI l (Zfv l v s e)
 | 0,_=>h
 | e + 1,he=>(FI.row hc h hv e (by omega)).st hc hv (by dsimp only; omega)
theorem ZeG {l:List Zc} (hc:Ck l):∀ v,v≤l.length→FI l (FS l v)
 | 0,_=>⟨Mets.nil,by simp [FS],by simp [FS],by simp [FS]⟩
 | v + 1,hv=>(ZeG hc v (by omega)).row hc (by omega) 4 (by omega)
theorem Zjo {l:List Zc} (hc:Ck l) (hl:l.length≤5000) {s:List Da × List (List Da)} (h:FI l s) {v e:Nat} (hv:v < l.length) (he:e < 4):zF.s1 l v (s.2.map (List.map dt),mpD s.1,(e:Int)) = some (.inl ((stF l s (v,e)).2.map (List.map dt),mpD (stF l s (v,e)).1,(e:Int) + 1)):=by
 have i:=Zlf (l:=l) (p:=(v,e))
 have g:=ZfW (x:=(v,e)) (met:=s.1)
 unfold dt at i g
 dsimp only at i g
 have ml:=h.m.len
 have sl:=h.len
 simp only [zF.s1]
 rw [ZM (by omega),i,Option.bind_some,g]
 unfold stF
 dsimp only
 by_cases c:nx l v e < 0∨(v,e)∈s.1
 ·rw [if_pos c,if_pos,zr (by omega)]
  rcases c with c | c
  ·rw [Zbi (show ¬ isD l (v,e) from fun q=>by have:=q.2.2; dsimp only at this; omega)]; rfl
  ·rw [Zbj c,Bool.or_true]
 ·have hp:isD l (v,e):=⟨hv,he,by dsimp only; omega⟩
  have hn:(v,e) ∉ s.1:=fun q=>c (.inr q)
  have W:=ZjH hc hl (4 * l.length + 1) s.1 [] (v,e) h.m hp (by omega) (by simp)
  unfold dt at W
  dsimp only at W
  rw [if_neg c,if_neg (by rw [Zbj hp,Zbi hn]; decide),Zcw W (by unfold big; omega),Option.bind_some]
  dsimp only
  rw [Z8 (by rw [List.length_map]; omega),zr (by omega),List.map_append]
  rfl
theorem Zjy {l:List Zc} (hc:Ck l) (hl:l.length≤5000) {s:List Da × List (List Da)} (h:FI l s) {a:List Bool} (ha:Marks l s.1 a) {v e:Nat} (hv:v < l.length) (he:e < 4):∃ a',ZK.s1 l v (a,s.2.map (List.map rt),(e:Int)) = some (.inl (a',(stF l s (v,e)).2.map (List.map rt),(e:Int) + 1))∧Marks l (stF l s (v,e)).1 a':=by
 have ml:=h.m.len
 have sl:=h.len
 have al:=ha.1
 have en:(gi l v).Next.get (e:Int) = nx l v e:=rfl
 simp only [ZK.s1,Int.toNat_natCast,en]
 rw [ZM (by omega),Z8 (by omega),Z8 (by omega)]
 unfold stF
 dsimp only
 by_cases c0:nx l v e < 0
 ·rw [ZM c0,Option.bind_some,if_pos rfl,zr (by omega),if_pos (.inl c0)]
  exact ⟨a,rfl,ha⟩
 ·rw [ZL c0,zr (by omega),zr (by omega),Z8 (by omega),Option.bind_some,show (4 * (v:Int) + (e:Int)).toNat = 4 * v + e by omega,ha.2 v e hv he]
  by_cases c1:(v,e)∈s.1
  ·rw [ZM c1,zr (by omega),if_pos (.inr c1)]
   exact ⟨a,rfl,ha⟩
  ·have hp:isD l (v,e):=⟨hv,he,by dsimp only; omega⟩
   obtain ⟨a',W,M⟩:=ZjL hc hl (4 * l.length + 1) s.1 a [] (v,e) h.m ha hp (by omega) (by simp)
   unfold rt at W
   dsimp only at W
   rw [ZL c1,Zcw W (by unfold big; omega),Option.bind_some,if_neg (by simp [c0,c1])]
   dsimp only
   rw [Z8 (by rw [List.length_map]; omega),zr (by omega),List.map_append]
   exact ⟨a',rfl,M⟩
theorem Zko {l:List Zc} (hl:l.length≤4096) (h:ZdQ l = 0):zF l = some ((ZaX l).map (List.map dt),0):=by
 have hc:=(Zdy.1 h).2
 have row:∀ v,v < l.length→za (zF.s1 l v) big ((FS l v).2.map (List.map dt),mpD (FS l v).1,0) = some ((FS l (v + 1)).2.map (List.map dt),mpD (FS l (v + 1)).1):=by
  intro v hv
  refine ZbC (fun e:Nat=>((Zfv l v (FS l v) e).2.map (List.map dt),mpD (Zfv l v (FS l v) e).1,(e:Int))) (n:=4) (Zbc (by omega)) rfl (fun e he=>?_) ?_
  ·rw [Zjo hc (by omega) ((ZeG hc v (by omega)).row hc hv e (by omega)) hv he]
   rfl
  ·simp only [zF.s1]
   rw [ZL (by omega)]
   rfl
 unfold zF
 rw [ZfU (by omega),Option.bind_some,Za8 h,Zhh (x:=(ZaX l).map (List.map dt))]
 refine ZbC (fun v:Nat=>((FS l v).2.map (List.map dt),mpD (FS l v).1,(v:Int))) (n:=l.length) (Zbc (by omega)) rfl (fun v hv=>?_) ?_
 ·simp only [zF.s0]
  rw [ZM (by omega),row v hv,Option.bind_some]
  dsimp only
  rw [zr (by omega),show ((v + 1:Nat):Int) = (v:Int) + 1 by omega]
 ·simp only [zF.s0]
  rw [ZL (by omega)]
  rfl
theorem Zk2 {l:List Zc} (hl:l.length≤4096) (h:ZdQ l = 0):ZK l = some ((ZaX l).map (List.map rt)):=by
 have hc:=(Zdy.1 h).2
 have row:∀ v,v < l.length→∀ a,Marks l (FS l v).1 a→∃ a',za (ZK.s1 l v) big (a,(FS l v).2.map (List.map rt),0) = some (a',(FS l (v + 1)).2.map (List.map rt))∧Marks l (FS l (v + 1)).1 a':=by
  intro v hv a ha
  have:∃ r,za (ZK.s1 l v) big (a,(FS l v).2.map (List.map rt),0) = some r∧(r.2 = (FS l (v + 1)).2.map (List.map rt)∧Marks l (FS l (v + 1)).1 r.1):=by
   refine Zcx (fun (e:Nat) (s:List Bool × List (List Z0) × Int)=>(s.2.1 = (Zfv l v (FS l v) e).2.map (List.map rt)∧Marks l (Zfv l v (FS l v) e).1 s.1)∧s.2.2 = e) (n:=4) (Zbc (by omega)) ⟨⟨rfl,ha⟩,rfl⟩ ?_ ?_
   ·rintro e ⟨a,o,j⟩ he ⟨⟨h1,h2⟩,h3⟩
    dsimp only at h1 h2 h3 ⊢
    subst h3 h1
    obtain ⟨a',e1,e2⟩:=Zjy hc (by omega) ((ZeG hc v (by omega)).row hc hv e (by omega)) h2 hv he
    exact ⟨_,e1,⟨rfl,e2⟩,by dsimp only; omega⟩
   ·rintro ⟨a,o,j⟩ ⟨⟨h1,h2⟩,h3⟩
    dsimp only at h1 h2 h3 ⊢
    subst h3 h1
    simp only [ZK.s1]
    rw [ZL (by omega)]
    exact ⟨_,rfl,rfl,h2⟩
  obtain ⟨⟨a',o⟩,e1,e2,e3⟩:=this
  dsimp only at e2 e3
  subst e2
  exact ⟨a',e1,e3⟩
 have M:∃ r,za (ZK.s0 l) big (List.replicate (4 * (l.length:Int)).toNat false,([]:List (List Z0)),0) = some r∧r = (ZaX l).map (List.map rt):=by
  refine Zcx (fun (v:Nat) (s:List Bool × List (List Z0) × Int)=>(s.2.1 = (FS l v).2.map (List.map rt)∧Marks l (FS l v).1 s.1)∧s.2.2 = v) (n:=l.length) (Zbc (by omega)) ⟨⟨rfl,by simp; omega,fun c e hc' he=>?_⟩,rfl⟩ ?_ ?_
  ·rw [Zbd (by simp; omega)]
   simp [FS]
  ·rintro v ⟨a,o,j⟩ hv ⟨⟨h1,h2⟩,h3⟩
   dsimp only at h1 h2 h3 ⊢
   subst h3 h1
   obtain ⟨a',e1,e2⟩:=row v hv a h2
   simp only [ZK.s0]
   rw [ZM (by omega),e1,Option.bind_some]
   dsimp only
   rw [zr (by omega)]
   exact ⟨_,rfl,⟨rfl,e2⟩,by dsimp only; omega⟩
  ·rintro ⟨a,o,j⟩ ⟨⟨h1,h2⟩,h3⟩
   dsimp only at h1 h2 h3 ⊢
   subst h3 h1
   simp only [ZK.s0]
   rw [ZL (by omega)]
   exact ⟨_,rfl,rfl⟩
 obtain ⟨r,e1,e2⟩:=M
 unfold ZK
 rw [zr (by omega),Z8 (by omega),e1,Option.bind_some,e2]
end Mu
/- Layer 13: what hangs together,by steps. -/
set_option linter.unusedVariables false
set_option linter.unusedSimpArgs false
set_option maxRecDepth 10000
namespace Mu

theorem ZgD {α:Type} [Inhabited α] {l:List α} {n i:Nat} (h:i < n):gi (l.take n) i = gi l i:=by
 unfold gi
 simp [List.getElem?_take,h]
theorem Zli {n:Nat} (h:n≤1200):ZbF 1 n = some (0,(n:Int)):=by
 have key:∀ n:Fin 1201,ZbF 1 ((n:Nat):Int) = some (0,((n:Nat):Int)):=by decide +kernel
 exact key ⟨n,by omega⟩
theorem Zjr {n:Nat} (h:n≤1200):zC [-1] n = some (List.replicate n (-1)):=by
 have L:∃ r,za zC.s0 big (([-1]:List Int).take (List.replicate n (0:Int)).length++(List.replicate n (0:Int)).drop ([-1]:List Int).length,((min ([-1]:List Int).length (List.replicate n (0:Int)).length:Nat):Int)) = some r∧(r.length = n∧∀ i,i < n→gi r i = -1):=by
  refine Za7 (μ:=fun s=>((n:Int) - s.2).toNat) (I:=fun s=>s.1.length = n∧(0≤s.2∧s.2≤(n:Int))∧(0 < n→0 < s.2)∧∀ i:Nat,(i:Int) < s.2→gi s.1 i = -1) (by dsimp only; unfold big; omega) ?_ ?_
  ·cases n with
   | zero=>exact ⟨rfl,by simp,by simp,fun i hi=>by simp at hi; omega⟩
   | succ n =>
    refine ⟨by simp,by simp; omega,fun _=>by simp,fun i hi=>?_⟩
    have:i = 0:=by simp at hi; omega
    subst this
    rfl
  ·rintro ⟨x,m⟩ ⟨h1,h2,h3,h4⟩
   dsimp only at h1 h2 h3 h4 ⊢
   obtain ⟨k,rfl⟩:=Int.eq_ofNat_of_zero_le h2.1
   simp only [zC.s0,Int.toNat_natCast]
   by_cases c:(k:Int) < (x.length:Int)
   ·refine .inl ?_
    have t1:(x.take k).length = k:=by rw [List.length_take]; omega
    have t2:(x.drop k).length = n - k:=by rw [List.length_drop]; omega
    rw [ZM c,Z8 (by omega),zr (by omega),t1,t2]
    refine ⟨_,rfl,⟨by simp; omega,by dsimp only; omega,fun _=>by dsimp only; omega,fun i hi=>?_⟩,by dsimp only; omega⟩
    dsimp only at hi ⊢
    by_cases q:i < k
    ·rw [ZbU (by rw [t1]; exact q),ZgD q]
     exact h4 i (by omega)
    ·have e:i = (x.take k).length + (i - k):=by rw [t1]; omega
     rw [e,ZbB,ZbU (by rw [List.length_take,t1]; omega),ZgD (by omega),ZgD (by omega)]
     exact h4 _ (by omega)
   ·refine .inr ?_
    rw [ZL c]
    exact ⟨_,rfl,h1,fun i hi=>h4 i (by omega)⟩
 obtain ⟨r,e1,e2,e3⟩:=L
 have er:r = List.replicate n (-1):=ZdC (by simp [e2]) fun i hi=>by
  rw [e3 i (by omega),Zbd (by simp; omega)]
  simp
 unfold zC
 rw [ZL (by omega),Option.bind_some,Z8 (show inK .u64 (([-1]:List Int).length:Int) by decide),Z8 (show inK .u64 (n:Int) from by
  simp only [inK,Go.IntKind.wrap,Go.IntKind.bits,Go.IntKind.signed]
  simp
  omega),show (([-1]:List Int).length:Int) = 1 from rfl,Zli h,Option.bind_some]
 dsimp only
 rw [if_neg (by simp; omega),Option.bind_some,Zbp (by omega),Z8 (by omega),Int.toNat_natCast,e1,Option.bind_some,er]

def Adj (l:List Zc) (a b:Nat):Prop:=∃ d,d < 4∧nx l a d = b
inductive Rch (l:List Zc) (v:Nat):Nat→Nat→Prop
 | zero:Rch l v 0 v
 | succ {n a b}:Rch l v n a→Adj l a b→Rch l v (n + 1) b
theorem Adj.lt {l:List Zc} (h:Ck l) {a b:Nat} (ha:a < l.length) (hab:Adj l a b):b < l.length:=by
 obtain ⟨d,hd,e⟩:=hab
 have:=h.lt ha hd
 omega
theorem Adj.symm {l:List Zc} (h:Ck l) {a b:Nat} (ha:a < l.length) (hab:Adj l a b):Adj l b a:=by
 obtain ⟨d,hd,e⟩:=hab
 rcases h.s a d ha hd with ⟨e2,_⟩ | ⟨w,e2,_,_,e3,_⟩
 ·omega
 ·have:w = b:=by omega
  subst this
  exact ⟨(d + 2) % 4,by omega,e3⟩
theorem Rch.lt {l:List Zc} (h:Ck l) {v n w:Nat} (hv:v < l.length) (hr:Rch l v n w):w < l.length:=by
 induction hr with
 | zero=>exact hv
 | succ _ hab ih=>exact hab.lt h ih
theorem Rch.trans {l:List Zc} {a b c n m:Nat} (h1:Rch l a n b) (h2:Rch l b m c):Rch l a (n + m) c:=by
 induction h2 with
 | zero=>exact h1
 | succ _ hab ih=>exact .succ ih hab
theorem Rch.symm {l:List Zc} (h:Ck l) {v n w:Nat} (hv:v < l.length) (hr:Rch l v n w):Rch l w n v:=by
 induction hr with
 | zero=>exact .zero
 | succ hr hab ih =>
  have ha:=hr.lt h hv
  have:=(Rch.succ .zero (hab.symm h ha)).trans ih
  rw [Nat.zero_add,Nat.add_comm] at this
  exact this
def Dist (l:List Zc) (v w n:Nat):Prop:=Rch l v n w∧∀ m,Rch l v m w→n≤m
theorem Dist.uniq {l:List Zc} {v w n m:Nat} (h1:Dist l v w n) (h2:Dist l v w m):n = m:=by
 have:=h1.2 m h2.1
 have:=h2.2 n h1.1
 omega
theorem Rch.dist {l:List Zc} {v w n:Nat} (h:Rch l v n w):∃ m,m≤n∧Dist l v w m:=by
 induction n using Nat.strongRecOn with
 | _ n ih =>
  by_cases c:∃ m,m < n∧Rch l v m w
  ·obtain ⟨m,hm,hr⟩:=c
   obtain ⟨k,hk,hd⟩:=ih m hm hr
   exact ⟨k,by omega,hd⟩
  ·refine ⟨n,Nat.le_refl _,h,fun m hm=>?_⟩
   by_cases q:n≤m
   ·exact q
   ·exact absurd ⟨m,by omega,hm⟩ c
theorem Dist.symm {l:List Zc} (h:Ck l) {v w n:Nat} (hv:v < l.length) (hd:Dist l v w n):Dist l w v n :=
 ⟨hd.1.symm h hv,fun m hm=>hd.2 m (hm.symm h (hd.1.lt h hv))⟩
theorem Dist.pred {l:List Zc} {v w n:Nat} (hd:Dist l v w (n + 1)):∃ a,Dist l v a n∧Adj l a w:=by
 obtain ⟨h1,h2⟩:=hd
 cases h1 with
 | succ hr hab =>
  refine ⟨_,⟨hr,fun m hm=>?_⟩,hab⟩
  have:=h2 (m + 1) (.succ hm hab)
  omega
theorem Zi5:∀ {n m:Nat} (f:Nat→Nat),(∀ i,i < n→f i < m)→(∀ i j,i < n→j < n→f i = f j→i = j)→n≤m
 | 0,m,f,_,_=>Nat.zero_le _
 | n + 1,0,f,h,_=>absurd (h 0 (by omega)) (by omega)
 | n + 1,m + 1,f,h,hi=>by
  have:=Zi5 (n:=n) (m:=m) (fun i=>if f i = m then f n else f i) (fun i hi'=>by
   by_cases c:f i = m
   ·rw [if_pos c]
    have:=h n (by omega)
    by_cases c2:f n = m
    ·have:=hi i n (by omega) (by omega) (by omega); omega
    ·omega
   ·rw [if_neg c]
    have:=h i (by omega)
    omega) (fun i j hi' hj' e=>by
   by_cases c:f i = m <;> by_cases c2:f j = m
   ·exact hi i j (by omega) (by omega) (by omega)
   ·rw [if_pos c,if_neg c2] at e
    have:=hi n j (by omega) (by omega) e; omega
   ·rw [if_neg c,if_pos c2] at e
    have:=hi i n (by omega) (by omega) e; omega
   ·rw [if_neg c,if_neg c2] at e
    exact hi i j (by omega) (by omega) e)
  omega
theorem Dist.all {l:List Zc} {v w:Nat}:∀ n,Dist l v w n→∀ m,m≤n→∃ a,Dist l v a m
 | 0,h,m,hm=>⟨w,by rw [show m = 0 by omega]; exact h⟩
 | n + 1,h,m,hm=>by
  by_cases c:m = n + 1
  ·exact ⟨w,by rw [c]; exact h⟩
  ·obtain ⟨a,ha,_⟩:=h.pred
   exact Dist.all n ha m (by omega)
theorem Dist.lt {l:List Zc} (h:Ck l) {v w n:Nat} (hv:v < l.length) (hd:Dist l v w n):n < l.length:=by
 have hall:=fun m (hm:m < n + 1)=>hd.all n m (by omega)
 have:=Zi5 (n:=n + 1) (m:=l.length) (fun m=>if hm:m < n + 1 then (hall m hm).choose else 0) (fun i hi=>by
  rw [dif_pos hi]
  exact (hall i hi).choose_spec.1.lt h hv) (fun i j hi hj e=>by
  rw [dif_pos hi,dif_pos hj] at e
  have d1:=(hall i hi).choose_spec
  have d2:=(hall j hj).choose_spec
  rw [e] at d1
  exact d1.uniq d2)
 omega
end Mu
/- Layer 13: spread. -/
set_option linter.unusedVariables false
set_option linter.unusedSimpArgs false
set_option maxRecDepth 10000
namespace Mu

theorem Zd6:∀ {m:List Bool} {w:Nat},w < m.length→gi m w = false→(m.set w true).count false + 1 = m.count false
 | [],w,h,_=>by simp at h
 | b :: m,0,_,hf=>by
  have:b = false:=hf
  subst this
  simp
 | b :: m,w + 1,h,hf=>by
  have:=Zd6 (m:=m) (w:=w) (by simpa using h) hf
  cases b <;> simp [List.count_cons] <;> omega
structure Sb (l:List Zc) (v:Nat) (δ:Nat→Nat) (fr dr:List Int) (mt:List Bool):Prop where
 lf:fr.length = l.length
 ld:dr.length = l.length
 lm:mt.length = l.length
 mv:gi mt v = true
 dv:δ v = 0
 rc:∀ a,gi mt a = true→Rch l v (δ a) a
 fm:∀ a,gi mt a = true→a≠v→∃ p d:Nat,gi fr a = p∧gi dr a = d∧d < 4∧gi mt p = true∧nx l p d = a∧δ a = δ p + 1
 un:∀ a,a < l.length→gi mt a = false→gi dr a = -1
structure So (l:List Zc) (v:Nat) (δ:Nat→Nat) (q:List Int) (mt:List Bool):Prop where
 el:∀ x∈q,∃ a:Nat,x = a∧a < l.length∧gi mt a = true
 so:q.Pairwise fun x y=>δ x.toNat≤δ y.toNat∧δ y.toNat≤δ x.toNat + 1
 pr:∀ a:Nat,gi mt a = true→(a:Int) ∉ q→(∀ x∈q,δ a≤δ x.toNat)∧∀ b,Adj l a b→gi mt b = true∧δ b≤δ a + 1
structure Si (l:List Zc) (v h:Nat) (δ:Nat→Nat) (q:List Int) (mt:List Bool) (d:Nat):Prop where
 hm:gi mt h = true
 el:∀ x∈q,∃ a:Nat,x = a∧a < l.length∧gi mt a = true∧δ h≤δ a∧δ a≤δ h + 1
 so:q.Pairwise fun x y=>δ x.toNat≤δ y.toNat
 pr:∀ a:Nat,gi mt a = true→(a:Int) ∉ q→a≠h→δ a≤δ h∧∀ b,Adj l a b→gi mt b = true∧δ b≤δ a + 1
 hd:∀ e,e < d→∀ b:Nat,nx l h e = b→gi mt b = true∧δ b≤δ h + 1
theorem So.open {l:List Zc} {v h:Nat} {δ:Nat→Nat} {t:List Int} {mt:List Bool} (s:So l v δ ((h:Int) :: t) mt):Si l v h δ t mt 0:=by
 have hs:=List.pairwise_cons.1 s.so
 refine ⟨?_,fun x hx=>?_,hs.2.imp (fun h=>h.1),fun a ha hn hne=>?_,fun e he=>by omega⟩
 ·obtain ⟨a,e,_,hh⟩:=s.el _ List.mem_cons_self
  obtain rfl:h = a:=by omega
  exact hh
 ·obtain ⟨a,e,h1,h2⟩:=s.el x (List.mem_cons_of_mem _ hx)
  have:=hs.1 x hx
  subst e
  exact ⟨a,rfl,h1,h2,by simpa using this.1,by simpa using this.2⟩
 ·have:=s.pr a ha (by
   rw [List.mem_cons]
   rintro (h | h)
   ·omega
   ·exact hn h)
  exact ⟨by simpa using this.1 _ List.mem_cons_self,this.2⟩
theorem Si.close {l:List Zc} {v h:Nat} {δ:Nat→Nat} {t:List Int} {mt:List Bool} (s:Si l v h δ t mt 4):So l v δ t mt:=by
 have b:∀ x∈t,δ h≤δ x.toNat∧δ x.toNat≤δ h + 1:=by
  intro x hx
  obtain ⟨a,rfl,_,_,h1,h2⟩:=s.el x hx
  exact ⟨h1,h2⟩
 refine ⟨fun x hx=>?_,?_,fun a ha hn=>?_⟩
 ·obtain ⟨a,e,h1,h2,_⟩:=s.el x hx
  exact ⟨a,e,h1,h2⟩
 ·refine List.Pairwise.imp_of_mem ?_ s.so
  intro x y hx hy hxy
  have:=b x hx
  have:=b y hy
  exact ⟨hxy,by omega⟩
 ·by_cases c:a = h
  ·subst c
   refine ⟨fun x hx=>(b x hx).1,?_⟩
   rintro w ⟨d,hd,e⟩
   exact s.hd d hd w e
  ·have:=s.pr a ha hn c
   refine ⟨fun x hx=>?_,this.2⟩
   have:=b x hx
   omega
theorem Sb.meet {l:List Zc} (hc:Ck l) {v h d w:Nat} {δ:Nat→Nat} {fr dr:List Int} {mt:List Bool} (s:Sb l v δ fr dr mt) (hm:gi mt h = true) (hd:d < 4) (hw:nx l h d = w) (hwl:w < l.length) (hu:gi mt w = false) :
  Sb l v (fun a=>if a = w then δ h + 1 else δ a) (fr.set w h) (dr.set w d) (mt.set w true):=by
 have gm:∀ a,gi (mt.set w true) a = if a = w then true else gi mt a:=fun a=>Zc2 (by rw [s.lm]; exact hwl)
 have gf:∀ a,gi (fr.set w (h:Int)) a = if a = w then (h:Int) else gi fr a:=fun a=>Zc2 (by rw [s.lf]; exact hwl)
 have gd:∀ a,gi (dr.set w (d:Int)) a = if a = w then (d:Int) else gi dr a:=fun a=>Zc2 (by rw [s.ld]; exact hwl)
 have hwh:h≠w:=by rintro rfl; rw [hm] at hu; cases hu
 have hwv:v≠w:=by rintro rfl; rw [s.mv] at hu; cases hu
 have old:∀ a,gi mt a = true→a≠w:=by rintro a ha rfl; rw [ha] at hu; cases hu
 refine ⟨by simpa using s.lf,by simpa using s.ld,by simpa using s.lm,?_,?_,fun a ha=>?_,fun a ha hav=>?_,fun a ha hau=>?_⟩
 ·rw [gm,s.mv]; simp
 ·rw [if_neg hwv]; exact s.dv
 ·by_cases c:a = w
  ·subst c
   rw [if_pos rfl]
   exact .succ (s.rc h hm) ⟨d,hd,hw⟩
  ·rw [if_neg c]
   rw [gm,if_neg c] at ha
   exact s.rc a ha
 ·by_cases c:a = w
  ·subst c
   refine ⟨h,d,by rw [gf,if_pos rfl],by rw [gd,if_pos rfl],hd,by rw [gm,hm]; simp,hw,?_⟩
   rw [if_pos rfl,if_neg hwh]
  ·rw [gm,if_neg c] at ha
   obtain ⟨p,e,h1,h2,h3,h4,h5,h6⟩:=s.fm a ha hav
   refine ⟨p,e,by rw [gf,if_neg c]; exact h1,by rw [gd,if_neg c]; exact h2,h3,by rw [gm,h4]; simp,h5,?_⟩
   rw [if_neg c,if_neg (old p h4)]; exact h6
 ·rw [gm] at hau
  by_cases c:a = w
  ·rw [if_pos c] at hau; cases hau
  ·rw [if_neg c] at hau
   rw [gd,if_neg c]
   exact s.un a ha hau
theorem Si.meet {l:List Zc} {v h d w:Nat} {δ:Nat→Nat} {q:List Int} {mt:List Bool} (lm:mt.length = l.length) (s:Si l v h δ q mt d) (hw:nx l h d = w) (hwl:w < l.length) (hu:gi mt w = false) :
  Si l v h (fun a=>if a = w then δ h + 1 else δ a) (q++[(w:Int)]) (mt.set w true) (d + 1):=by
 have gm:∀ a,gi (mt.set w true) a = if a = w then true else gi mt a:=fun a=>Zc2 (by rw [lm]; exact hwl)
 have old:∀ a,gi mt a = true→a≠w:=by rintro a ha rfl; rw [ha] at hu; cases hu
 have hwh:h≠w:=old h s.hm
 have keep:∀ a,gi mt a = true→gi (mt.set w true) a = true:=fun a ha=>by rw [gm,ha]; simp
 refine ⟨keep h s.hm,fun x hx=>?_,?_,fun a ha hn hne=>?_,fun e he b hb=>?_⟩
 ·rw [List.mem_append,List.mem_singleton] at hx
  rw [if_neg hwh]
  rcases hx with hx | rfl
  ·obtain ⟨a,e,h1,h2,h3,h4⟩:=s.el x hx
   exact ⟨a,e,h1,keep a h2,by rw [if_neg (old a h2)]; exact h3,by rw [if_neg (old a h2)]; exact h4⟩
  ·exact ⟨w,rfl,hwl,by rw [gm,if_pos rfl],by rw [if_pos rfl]; omega,by rw [if_pos rfl]; omega⟩
 ·rw [List.pairwise_append]
  refine ⟨List.Pairwise.imp_of_mem ?_ s.so,List.pairwise_singleton _ _,fun x hx y hy=>?_⟩
  ·intro x y hx hy hxy
   obtain ⟨a,rfl,h1,h2,h3,h4⟩:=s.el x hx
   obtain ⟨b,rfl,k1,k2,k3,k4⟩:=s.el y hy
   simp only [Int.toNat_natCast] at hxy ⊢
   rw [if_neg (old a h2),if_neg (old b k2)]
   exact hxy
  ·rw [List.mem_singleton] at hy
   subst hy
   obtain ⟨a,rfl,h1,h2,h3,h4⟩:=s.el x hx
   simp only [Int.toNat_natCast]
   rw [if_neg (old a h2)]
   simpa using h4
 ·rw [List.mem_append,List.mem_singleton] at hn
  have haw:a≠w:=fun c=>hn (.inr (by omega))
  rw [gm,if_neg haw] at ha
  have:=s.pr a ha (fun c=>hn (.inl c)) hne
  rw [if_neg haw,if_neg hwh]
  refine ⟨this.1,fun b hb=>?_⟩
  have:=this.2 b hb
  exact ⟨keep b this.1,by rw [if_neg (old b this.1)]; exact this.2⟩
 ·rw [if_neg hwh]
  by_cases c:e = d
  ·subst c
   have:b = w:=by omega
   subst this
   exact ⟨by rw [gm,if_pos rfl],by rw [if_pos rfl]; omega⟩
  ·have:=s.hd e (by omega) b hb
   exact ⟨keep b this.1,by rw [if_neg (old b this.1)]; exact this.2⟩
theorem Si.skip {l:List Zc} {v h d:Nat} {δ:Nat→Nat} {q:List Int} {mt:List Bool} (s:Si l v h δ q mt d) (hs:∀ w:Nat,nx l h d = w→gi mt w = true):Si l v h δ q mt (d + 1):=by
 refine ⟨s.hm,s.el,s.so,s.pr,fun e he b hb=>?_⟩
 by_cases c:e = d
 ·subst c
  have hm:=hs b hb
  refine ⟨hm,?_⟩
  by_cases c1:(b:Int)∈q
  ·obtain ⟨a,e,_,_,_,h4⟩:=s.el _ c1
   have:b = a:=by omega
   subst this; exact h4
  ·by_cases c2:b = h
   ·subst c2; omega
   ·have:=(s.pr b hm c1 c2).1
    omega
 ·exact s.hd e (by omega) b hb
end Mu
/- Layer 13: spread,walked. -/
set_option linter.unusedVariables false
set_option linter.unusedSimpArgs false
set_option maxRecDepth 10000
namespace Mu

theorem Zix {l:List Zc} (hc:Ck l) (hl:l.length≤4096) {v h:Nat} {t0 t:List Int} {δ:Nat→Nat} {fr dr:List Int} {mt:List Bool} (hh:h < l.length) (sb:Sb l v δ fr dr mt) (si:Si l v h δ t mt 0) (hn:mt.count false + t.length≤l.length) :
  ∃ r:List Int × List Int × List Int × List Bool,za (zY.s1 l ((h:Int) :: t0)) big (fr,dr,t,mt,0) = some r∧∃ δ',Sb l v δ' r.1 r.2.1 r.2.2.2∧Si l v h δ' r.2.2.1 r.2.2.2 4∧r.2.2.2.count false + r.2.2.1.length = mt.count false + t.length:=by
 have g0:∀ x:List Int,gi ((h:Int) :: x) (0:Int).toNat = h:=fun _=>rfl
 refine Zcx (n:=4) (I:=fun d (s:List Int × List Int × List Int × List Bool × Int)=>s.2.2.2.2 = d∧∃ δ',Sb l v δ' s.1 s.2.1 s.2.2.2.1∧Si l v h δ' s.2.2.1 s.2.2.2.1 d∧s.2.2.2.1.count false + s.2.2.1.length = mt.count false + t.length) (R:=fun r:List Int × List Int × List Int × List Bool=>∃ δ',Sb l v δ' r.1 r.2.1 r.2.2.2∧Si l v h δ' r.2.2.1 r.2.2.2 4∧r.2.2.2.count false + r.2.2.1.length = mt.count false + t.length) (Zbc (by omega)) ⟨rfl,δ,sb,si,rfl⟩ ?_ ?_
 ·rintro d ⟨fr',dr',t',mt',x⟩ hd ⟨hx,δ',sb',si',hn'⟩
  dsimp only at hx sb' si' hn'
  subst hx
  simp only [zY.s1]
  rw [ZM (by omega),g0,Z8 (by omega),Z8 (by omega),Int.toNat_natCast]
  have e:((gi l h).Next).get (d:Int) = nx l h d:=rfl
  rw [e]
  have hlt:=hc.lt hh (show d < 4 from hd)
  have lm:=sb'.lm
  have lf:=sb'.lf
  have ld:=sb'.ld
  by_cases c:0≤nx l h d
  ·obtain ⟨w,hw⟩:∃ w:Nat,nx l h d = w:=⟨(nx l h d).toNat,by omega⟩
   rw [hw]
   rw [hw] at hlt
   have hwl:w < l.length:=by omega
   rw [ZM (by omega),Z8 (by omega),Option.bind_some,Int.toNat_natCast]
   cases hm:gi mt' w with
   | true =>
    rw [if_neg (by decide),zr (by omega)]
    refine ⟨_,rfl,rfl,δ',sb',si'.skip (fun w' hw'=>?_),hn'⟩
    have:w' = w:=by omega
    rw [this]; exact hm
   | false =>
    have hcount:=Zd6 (m:=mt') (w:=w) (by omega) hm
    rw [if_pos (by decide),Z8 (by omega),Z8 (by omega),Z8 (by omega),Z8 (by simp; omega),zr (by omega)]
    refine ⟨_,rfl,rfl,_,sb'.meet hc si'.hm hd hw hwl hm,si'.meet lm hw hwl hm,?_⟩
    simp only [List.length_append,List.length_cons,List.length_nil]
    omega
  ·rw [ZL (by omega),Option.bind_some,if_neg (by decide),zr (by omega)]
   exact ⟨_,rfl,rfl,δ',sb',si'.skip (fun w' hw'=>by omega),hn'⟩
 ·rintro ⟨fr',dr',t',mt',x⟩ ⟨hx,δ',sb',si',hn'⟩
  dsimp only at hx sb' si' hn'
  subst hx
  simp only [zY.s1]
  rw [ZL (by omega)]
  exact ⟨_,rfl,δ',sb',si',hn'⟩
structure Spr (l:List Zc) (v:Nat) (fr dr:List Int):Prop where
 lf:fr.length = l.length
 ld:dr.length = l.length
 fm:∀ a n,Dist l v a n→a≠v→∃ p d m:Nat,gi fr a = p∧gi dr a = d∧d < 4∧nx l p d = a∧Dist l v p m∧n = m + 1
 un:∀ a,a < l.length→(∀ n,¬ Rch l v n a)→gi dr a = -1
theorem Zk6 {l:List Zc} (hc:Ck l) {v:Nat} {δ:Nat→Nat} {fr dr:List Int} {mt:List Bool} (hv:v < l.length) (sb:Sb l v δ fr dr mt) (so:So l v δ [] mt):Spr l v fr dr:=by
 have all:∀ n a,Rch l v n a→gi mt a = true∧δ a≤n:=by
  intro n a h
  induction h with
  | zero=>exact ⟨sb.mv,by rw [sb.dv]; omega⟩
  | succ hr hab ih =>
   have:=(so.pr _ ih.1 (by simp)).2 _ hab
   exact ⟨this.1,by omega⟩
 have dist:∀ a,gi mt a = true→Dist l v a (δ a):=fun a ha=>⟨sb.rc a ha,fun m hm=>(all m a hm).2⟩
 refine ⟨sb.lf,sb.ld,fun a n hd hav=>?_,fun a ha hu=>?_⟩
 ·have hm:=(all n a hd.1).1
  obtain ⟨p,d,h1,h2,h3,h4,h5,h6⟩:=sb.fm a hm hav
  refine ⟨p,d,δ p,h1,h2,h3,h5,dist p h4,?_⟩
  have:=(dist a hm).uniq hd
  omega
 ·refine sb.un a ha ?_
  cases h:gi mt a with
  | false=>rfl
  | true=>exact absurd (sb.rc a h) (hu _)
theorem Zjs {l:List Zc} (hc:Ck l) (hl:l.length≤1200) {v:Nat} (hv:v < l.length):∃ fr dr,zY l v = some (fr,dr)∧Spr l v fr dr:=by
 have gr:∀ a,gi (List.replicate l.length false) a = false:=by
  intro a
  by_cases h:a < l.length
  ·rw [Zbd (by simpa using h)]; simp
  ·rw [ZeT (by simpa using h)]; rfl
 have gr2:∀ a,a < l.length→gi (List.replicate l.length (-1:Int)) a = -1:=by
  intro a h
  rw [Zbd (by simpa using h)]; simp
 have gm:∀ a,gi ((List.replicate l.length false).set v true) a = if a = v then true else false:=by
  intro a
  rw [Zc2 (by simpa using hv),gr]
 have sb0:Sb l v (fun _=>0) (List.replicate l.length (-1)) (List.replicate l.length (-1)) ((List.replicate l.length false).set v true):=by
  refine ⟨by simp,by simp,by simp,by rw [gm,if_pos rfl],rfl,fun a ha=>?_,fun a ha hav=>?_,fun a ha hu=>gr2 a ha⟩
  ·rw [gm] at ha
   by_cases c:a = v
   ·subst c; exact .zero
   ·rw [if_neg c] at ha; cases ha
  ·rw [gm,if_neg hav] at ha; cases ha
 have so0:So l v (fun _=>0) [(v:Int)] ((List.replicate l.length false).set v true):=by
  refine ⟨fun x hx=>?_,List.pairwise_singleton _ _,fun a ha hn=>?_⟩
  ·rw [List.mem_singleton] at hx
   exact ⟨v,hx,hv,by rw [gm,if_pos rfl]⟩
  ·rw [gm] at ha
   by_cases c:a = v
   ·subst c; exact absurd List.mem_cons_self hn
   ·rw [if_neg c] at ha; cases ha
 have cnt0:((List.replicate l.length false).set v true).count false + 1 = l.length:=by
  rw [Zd6 (by simpa using hv) (gr v)]; simp
 obtain ⟨r,h1,h2⟩:=Za7 (step:=zY.s0 l) (s0:=(List.replicate l.length (-1),List.replicate l.length (-1),[(v:Int)],(List.replicate l.length false).set v true)) (μ:=fun s:List Int × List Int × List Int × List Bool=>s.2.2.2.count false + s.2.2.1.length) (I:=fun s=>∃ δ,Sb l v δ s.1 s.2.1 s.2.2.2∧So l v δ s.2.2.1 s.2.2.2∧s.2.2.2.count false + s.2.2.1.length≤l.length) (R:=fun r:List Int × List Int=>Spr l v r.1 r.2) (Zbc (by simp only [List.length_cons,List.length_nil]; omega)) ⟨_,sb0,so0,by simp only [List.length_cons,List.length_nil]; omega⟩ (by
  rintro ⟨fr,dr,q,mt⟩ ⟨δ,sb,so,hn⟩
  dsimp only at sb so hn
  simp only [zY.s0]
  cases q with
  | nil =>
   right
   rw [ZL (by simp)]
   exact ⟨_,rfl,Zk6 hc hv sb so⟩
  | cons x t =>
   left
   obtain ⟨h,rfl,hh,_⟩:=so.el x List.mem_cons_self
   rw [List.length_cons] at hn
   obtain ⟨⟨fr',dr',t',mt'⟩,e1,δ',sb',si',hn'⟩:=Zix (t0:=t) hc (by omega) hh sb so.open (by omega)
   dsimp only at e1 sb' si' hn'
   have hd:List.drop (1:Int).toNat ((h:Int) :: t) = t:=rfl
   rw [ZM (by simp <;> omega),Z8 (by simp <;> omega),Z8 (by simp <;> omega),hd,e1,Option.bind_some]
   refine ⟨_,rfl,⟨δ',sb',si'.close,by dsimp only; omega⟩,?_⟩
   simp only [List.length_cons]
   omega)
 obtain ⟨fr,dr⟩:=r
 refine ⟨fr,dr,?_,h2⟩
 unfold zY
 rw [Zjr hl,Option.bind_some,Option.bind_some,Z8 (by omega),Int.toNat_natCast,Z8 (by simp; omega),Int.toNat_natCast,h1,Option.bind_some]
end Mu
/- Layer 13: far. -/
set_option linter.unusedVariables false
set_option linter.unusedSimpArgs false
set_option maxRecDepth 10000
namespace Mu

structure Fa (l:List Zc) (v r i d:Nat) (far:List Int):Prop where
 lf:far.length = l.length
 so:∀ a,a < l.length→gi far a = -1∨∃ n:Nat,gi far a = n∧Dist l v a n∧n≤r + 1
 al:∀ a n,Dist l v a n→n≤r→gi far a = n
 nw:∀ (a b e:Nat),e < 4→Dist l v a r→nx l a e = b→(a < i∨a = i∧e < d)→0≤gi far b
theorem Fa.close {l:List Zc} (hc:Ck l) {v r:Nat} {far:List Int} (hv:v < l.length) (h:Fa l v r l.length 0 far):Fa l v (r + 1) 0 0 far:=by
 refine ⟨h.lf,fun a ha=>(h.so a ha).imp id (fun ⟨n,e,d,k⟩=>⟨n,e,d,by omega⟩),fun a n hd hn=>?_,fun a b e he hd hw hh=>by omega⟩
 by_cases c:n≤r
 ·exact h.al a n hd c
 ·obtain rfl:n = r + 1:=by omega
  obtain ⟨p,hp,e,he,hw⟩:=hd.pred
  have hpl:=hp.1.lt hc hv
  have:=h.nw p a e he hp hw (.inl hpl)
  rcases h.so a (hd.1.lt hc hv) with e1 | ⟨m,e1,e2,e3⟩
  ·omega
  ·rw [e1,e2.uniq hd]
end Mu
/- Layer 13: paths. -/
set_option linter.unusedVariables false
set_option linter.unusedSimpArgs false
set_option maxRecDepth 10000
namespace Mu

end Mu
/- Layer 13: there and back. -/
set_option linter.unusedVariables false
set_option linter.unusedSimpArgs false
set_option maxRecDepth 10000
namespace Mu
theorem okZ {z:zo} (m1:z.At.length≤Go.maxLen) (b1:∀ y∈z.At,ZdM y) (b3:∀ y∈z.Own,ZgW y):OkZ z :=
 ⟨by unfold Go.maxLen at m1; omega,b1,b3⟩
end Mu
/- Layer 13: join's paths. -/
set_option linter.unusedVariables false
set_option linter.unusedSimpArgs false
set_option maxRecDepth 10000
namespace Mu
end Mu
/- Layer 13: join's parts. -/
set_option linter.unusedVariables false
set_option linter.unusedSimpArgs false
set_option maxRecDepth 10000
namespace Mu
noncomputable def rb (l:List Zc) (v w:Nat):Bool:=@decide (∃ n,Rch l v n w) (Classical.propDecidable _)
theorem Zfh {l:List Zc} {v w:Nat}:rb l v w = true↔∃ n,Rch l v n w:=by simp [rb]
noncomputable def Zcj (l:List Zc) (v k:Nat):List Int:=((List.range k).filter (rb l v)).map fun w:Nat=>(w:Int)
noncomputable def ZcS (l:List Zc) (v:Nat) (met:List Bool) (k:Nat):List Bool:=(List.range l.length).map fun w=>if w < k then gi met w || rb l v w else gi met w
theorem ZaR {l:List Zc} {v k:Nat} {met:List Bool}:(ZcS l v met k).length = l.length:=by simp [ZcS]
theorem Zde {l:List Zc} {v k w:Nat} {met:List Bool} (h:w < l.length):gi (ZcS l v met k) w = if w < k then gi met w || rb l v w else gi met w:=Zdn h
theorem ZgH {l:List Zc} {v:Nat} {met:List Bool} (h:met.length = l.length):ZcS l v met 0 = met :=
 ZdC (by rw [ZaR,h]) (fun i hi=>by rw [ZaR] at hi; rw [Zde hi,if_neg (by omega)])
theorem Ziy {l:List Zc} {v k:Nat} {met:List Bool} (hk:k < l.length) (h:rb l v k = true):(ZcS l v met k).set k true = ZcS l v met (k + 1):=by
 apply ZdC (by rw [List.length_set,ZaR,ZaR])
 intro i hi
 rw [List.length_set,ZaR] at hi
 rw [Zc2 (by rw [ZaR]; exact hk),Zde hi,Zde hi]
 by_cases c:i = k
 ·subst c; rw [if_pos rfl,if_pos (by omega),h]; simp
 ·rw [if_neg c]
  by_cases c2:i < k
  ·rw [if_pos c2,if_pos (by omega)]
  ·rw [if_neg c2,if_neg (by omega)]
theorem ZhA {l:List Zc} {v k:Nat} {met:List Bool} (h:rb l v k = false):ZcS l v met k = ZcS l v met (k + 1):=by
 apply ZdC (by rw [ZaR,ZaR])
 intro i hi
 rw [ZaR] at hi
 rw [Zde hi,Zde hi]
 by_cases c:i = k
 ·subst c; rw [if_neg (by omega),if_pos (by omega),h]; simp
 ·by_cases c2:i < k
  ·rw [if_pos c2,if_pos (by omega)]
  ·rw [if_neg c2,if_neg (by omega)]
theorem ZhC {l:List Zc} {v k:Nat} (h:rb l v k = true):Zcj l v (k + 1) = Zcj l v k++[(k:Int)]:=by
 unfold Zcj; rw [List.range_succ,List.filter_append]; simp [h]
theorem ZgM {l:List Zc} {v k:Nat} (h:rb l v k = false):Zcj l v (k + 1) = Zcj l v k:=by
 unfold Zcj; rw [List.range_succ,List.filter_append]; simp [h]
theorem Zfu {l:List Zc} {v k:Nat}:(Zcj l v k).length≤k:=by
 unfold Zcj; rw [List.length_map]
 have:=List.length_filter_le (rb l v) (List.range k)
 simpa using this
theorem Zjh {l:List Zc} (hl:l.length≤1200) {v:Nat} {fr dr:List Int} {met:List Bool} (hm:met.length = l.length) (sp:Spr l v fr dr) (hc:Ck l) (hv:v < l.length):za (Zae.s1 l v dr) big (met,[],0) = some (ZcS l v met l.length,Zcj l v l.length):=by
 have ld:=sp.ld
 refine ZbC (fun k:Nat=>(ZcS l v met k,Zcj l v k,(k:Int))) (n:=l.length) (Zbc (by omega)) (by rw [ZgH hm]; rfl) (fun k hk=>?_) ?_
 ·have hp:=Zfu (l:=l) (v:=v) (k:=k)
  have hmt:=ZaR (l:=l) (v:=v) (k:=k) (met:=met)
  have t:(if decide ((k:Int) = (v:Int)) = true then some true else ck ((0:Int)≤(k:Int)∧(k:Int) < (dr.length:Int)) (some (decide (0≤(gi dr (k:Int).toNat))))) = some (rb l v k):=by
   by_cases c:k = v
   ·subst c
    rw [ZM rfl,(Zfh).2 ⟨0,.zero⟩]
   ·rw [ZL (by omega),Z8 (by omega),Int.toNat_natCast]
    cases h:rb l v k with
    | true =>
     obtain ⟨n,hn⟩:=Zfh.1 h
     obtain ⟨m,_,hd⟩:=hn.dist
     obtain ⟨p,d,_,_,e2,_⟩:=sp.fm k m hd c
     rw [Zbj (by omega)]
    | false =>
     have:=sp.un k hk (fun n hn=>by rw [Zfh.2 ⟨n,hn⟩] at h; cases h)
     rw [Zbi (by omega)]
  simp only [Zae.s1]
  rw [ZM (by omega),t,Option.bind_some,zr (by omega)]
  cases h:rb l v k with
  | true =>
   rw [if_pos rfl,Z8 (by omega),Z8 (by simp; omega),Int.toNat_natCast,Ziy hk h,ZhC h,show ((k + 1:Nat):Int) = (k:Int) + 1 by omega]
  | false =>
   rw [if_neg (by decide),zr (by omega),ZhA h,ZgM h,show ((k + 1:Nat):Int) = (k:Int) + 1 by omega]
 ·simp only [Zae.s1]
  rw [ZL (by omega)]
noncomputable def PS (l:List Zc):Nat→List (List Int) × List Bool
 | 0=>([],List.replicate l.length false)
 | n + 1=>if gi (PS l n).2 n = true then PS l n else ((PS l n).1++[Zcj l n l.length],ZcS l n (PS l n).2 l.length)
theorem ZhN {l:List Zc}:∀ n,(PS l n).1.length≤n∧(PS l n).2.length = l.length
 | 0=>by simp [PS]
 | n + 1=>by
  have:=ZhN (l:=l) n
  simp only [PS]
  split
  ·exact ⟨by omega,this.2⟩
  ·exact ⟨by simp; omega,ZaR⟩
theorem ZgF {l:List Zc} (hc:Ck l) (hl:l.length≤1200):Zae l = some ((PS l l.length).1,0):=by
 have hk:ZdQ l = 0:=Zdy.2 ⟨by omega,hc⟩
 have h:za (Zae.s0 l) big (([]:List (List Int)),List.replicate l.length false,0) = some (PS l l.length).1:=by
  refine ZbC (fun n:Nat=>((PS l n).1,(PS l n).2,(n:Int))) (n:=l.length) (Zbc (by omega)) rfl (fun n hn=>?_) ?_
  ·have hp:=ZhN (l:=l) n
   simp only [Zae.s0]
   rw [ZM (by omega),Z8 (by omega),Int.toNat_natCast,zr (by omega)]
   by_cases c:gi (PS l n).2 n = true
   ·rw [if_pos c,show PS l (n + 1) = PS l n by rw [PS,if_pos c],show ((n + 1:Nat):Int) = (n:Int) + 1 by omega]
   ·obtain ⟨fr,dr,e1,sp⟩:=Zjs hc hl hn
    rw [if_neg c,e1,Option.bind_some]
    dsimp only
    rw [Zjh hl hp.2 sp hc hn,Option.bind_some]
    dsimp only
    rw [Z8 (by omega),zr (by omega),show PS l (n + 1) = ((PS l n).1++[Zcj l n l.length],ZcS l n (PS l n).2 l.length) by rw [PS,if_neg c],show ((n + 1:Nat):Int) = (n:Int) + 1 by omega]
  ·simp only [Zae.s0]
   rw [ZL (by omega)]
 unfold Zae
 rw [ZfU (by omega),Option.bind_some,hk,Za8 rfl,Z8 (by omega),Int.toNat_natCast,h,Option.bind_some]
end Mu
/- Layer 13: the document's parts,and the law. -/
set_option linter.unusedVariables false
set_option linter.unusedSimpArgs false
set_option maxRecDepth 10000
namespace Mu
theorem Zkv {l:List Zc} (hc:Ck l) (hl:l.length≤1200):Zbt l = some (decide (((PS l l.length).1.length:Int) = 1)):=by
 unfold Zbt
 rw [ZgF hc hl,Option.bind_some]
 simp
end Mu
/- Layer 10: GridPlays. -/
set_option linter.unusedVariables false
set_option linter.unusedSimpArgs false
set_option maxRecDepth 10000
namespace Mu
theorem Rg.start {n:Nat} (h:n≤4096):Rg (List.replicate n noC):=by
 refine ⟨by simpa using h,fun v d hv hd=>?_⟩
 simp only [List.length_replicate] at hv
 have:gi (List.replicate n noC) v = noC:=by rw [Zbd (by simpa using hv)]; simp
 unfold Mu.nx
 rw [this]
 exact .inl (Zi2 hd).1
end Mu
/- Layer 10: turned cells; what Split and Of answer. -/
set_option linter.unusedVariables false
set_option linter.unusedSimpArgs false
set_option maxRecDepth 10000
namespace Mu
end Mu
/- Layer 13: JoinTurns. -/
set_option linter.unusedVariables false
set_option linter.unusedSimpArgs false
set_option maxRecDepth 10000
namespace Mu
/-! the split edge -/
def ext (v u:Int) (p:List Int):List Int:=if v∈p then p++[u] else p
theorem ZhO {l:List Zc}:∀ n,n≤l.length→∀ u,u < n→gi (PS l n).2 u = true
 | 0,_,u,hu=>by omega
 | n + 1,hn,u,hu=>by
  have ih:=ZhO (l:=l) n (by omega)
  simp only [PS]
  by_cases c:gi (PS l n).2 n = true
  ·rw [if_pos c]
   by_cases q:u = n
   ·subst q; exact c
   ·exact ih u (by omega)
  ·rw [if_neg c]
   dsimp only
   rw [Zde (show u < l.length by omega),if_pos (show u < l.length by omega)]
   by_cases q:u = n
   ·subst q; rw [Zfh.2 ⟨0,.zero⟩]; simp
   ·rw [ih u (by omega)]; rfl
end Mu
/- Layers 12 and 14: turns of ZaX,rotations,the outer face. -/
set_option linter.unusedVariables false
set_option linter.unusedSimpArgs false
set_option maxRecDepth 10000
namespace Mu
def tn (d e:Nat):Int:=if e = d then 0 else if e = (d + 1) % 4 then 1 else if e = (d + 3) % 4 then -1 else -2
theorem Zll {d e:Nat} (hd:d < 4) (he:e < 4):Zbf d e = some (tn d e):=by
 have a:d = 0∨d = 1∨d = 2∨d = 3:=by omega
 have b:e = 0∨e = 1∨e = 2∨e = 3:=by omega
 rcases a with rfl | rfl | rfl | rfl <;> rcases b with rfl | rfl | rfl | rfl <;> rfl
theorem Zk7 {d e:Nat}:-2≤tn d e∧tn d e≤1:=by unfold tn; split <;> (try split) <;> (try split) <;> omega
def tns (l:List Zc) (f:List Da):List Int:=f.map fun p=>tn p.2 (bh l p).2
theorem ZeU {α β:Type} [Inhabited α] [Inhabited β] {f:α→β} {l:List α} {i:Nat} (h:i < l.length):gi (l.map f) i = f (gi l i):=by
 rw [Zbd (by simpa using h),Zbd h,List.getElem_map]
theorem Zgg {l:List Zc} {f:List Da}:(tns l f).length = f.length:=by simp [tns]
theorem Zj9 {l:List Zc} {f:List Da}:∀ i,-2≤gi (tns l f) i∧gi (tns l f) i≤1:=by
 intro i
 by_cases h:i < f.length
 ·unfold tns
  rw [ZeU h]
  exact Zk7
 ·rw [ZeT (by rw [Zgg]; omega)]
  decide
theorem Zku {l:List Zc} (hl:l.length≤4096) (h:ZdQ l = 0) {f:List Da} (hf:∀ p∈f,isD l p) (hn:f.length≤1000000):ZaB l (f.map dt) = some (tns l f):=by
 have hc:=(Zdy.1 h).2
 have fl:(f.map dt).length = f.length:=by simp
 unfold ZaB
 rw [Z8 (by rw [fl]; omega),ZfU (by omega),Option.bind_some,Za8 h]
 have:∃ r,za (ZaB.s0 l (f.map dt)) big (List.replicate (((f.map dt).length:Int)).toNat (0:Int),0) = some r∧r = tns l f:=by
  refine Zcx (fun (k:Nat) (s:List Int × Int)=>(s.1.length = f.length∧∀ i,i < k→gi s.1 i = gi (tns l f) i)∧s.2 = k) (n:=f.length) (Zbc (by omega)) ⟨⟨by simp,fun i hi=>by omega⟩,rfl⟩ ?_ ?_
  ·rintro k ⟨r,j⟩ hk ⟨⟨h1,h2⟩,h3⟩
   dsimp only at h1 h2 h3 ⊢
   subst h3
   have hp:=hf _ (ZbE hk)
   have g:gi (f.map dt) k = dt (gi f k):=ZeU hk
   simp only [ZaB.s0,Int.toNat_natCast,g]
   have tt:Zbf (dt (gi f k)).Dir (dt (bh l (gi f k))).Dir = some (tn (gi f k).2 (bh l (gi f k)).2):=Zll hp.2.1 (hp.bh hc).2.1
   rw [ZM (by rw [fl]; omega),Z8 (by rw [fl]; omega),Zlf,Option.bind_some,Zbj hp,if_pos rfl,Zho hc hp,Option.bind_some,tt,Option.bind_some,Z8 (by omega),zr (by omega)]
   refine ⟨_,rfl,⟨by dsimp only; rw [List.length_set]; exact h1,fun i hi=>?_⟩,by dsimp only; omega⟩
   dsimp only
   rw [Zc2 (by omega)]
   by_cases c:i = k
   ·subst c
    rw [if_pos rfl]
    unfold tns
    rw [ZeU hk]
   ·rw [if_neg c]
    exact h2 i (by omega)
  ·rintro ⟨r,j⟩ ⟨⟨h1,h2⟩,h3⟩
   dsimp only at h1 h2 h3 ⊢
   subst h3
   simp only [ZaB.s0]
   rw [ZL (by rw [fl]; omega)]
   exact ⟨_,rfl,ZdC (by rw [h1,Zgg]) fun i hi=>h2 i (by omega)⟩
 obtain ⟨r,e1,e2⟩:=this
 rw [e1,Option.bind_some,e2]
theorem Zg2 {t:List Int} {n:Nat} (h:n < t.length):(t.take (n + 1)).sum = (t.take n).sum + gi t n:=by
 rw [Zj8 h,List.sum_append]
 simp
theorem Zhy {t:List Int} (h:∀ i,-2≤gi t i∧gi t i≤1):∀ n,n≤t.length→-2 * (n:Int)≤(t.take n).sum∧(t.take n).sum≤n
 | 0,_=>by simp
 | n + 1,hn=>by
  have ih:=Zhy h n (by omega)
  have:=h n
  rw [Zg2 (by omega)]
  omega
theorem Zh8 {t:List Int} (h:∀ i,-2≤gi t i∧gi t i≤1) (hn:t.length≤1000000):Zas t = some t.sum:=by
 unfold Zas
 rw [Zhh (x:=t.sum)]
 refine ZbC (fun n:Nat=>((t.take n).sum,(n:Int))) (n:=t.length) (Zbc (by omega)) rfl (fun k hk=>?_) ?_
 ·have a:=Zhy h k (by omega)
  have b:=h k
  simp only [Zas.s0,Int.toNat_natCast]
  rw [ZM (by omega),Z8 (by omega),if_pos (by simp; omega),zr (by omega),zr (by omega),Zg2 hk,show ((k + 1:Nat):Int) = (k:Int) + 1 by omega]
 ·simp only [Zas.s0]
  rw [ZL (by omega),List.take_length]
def ZhG (l:List Zc) (f:List Da):Int:=(tns l f).sum
theorem Zd9 {l:List Zc} (hc:Ck l):(∀ f∈ZaX l,∀ p∈f,isD l p)∧(ZaX l).length≤4 * l.length∧(∀ f∈ZaX l,f.length≤4 * l.length)∧(ZaX l).flatten.Nodup∧∀ p∈(ZaX l).flatten,isD l p:=by
 have h:=ZeG hc l.length (by omega)
 have hm:=h.m.len
 have hf:=h.fl
 refine ⟨h.is,by have:=h.len; unfold ZaX; omega,fun f hf'=>?_,by unfold ZaX; rw [hf]; exact h.m.nd,fun p hp=>by unfold ZaX at hp; rw [hf] at hp; exact h.m.is p hp⟩
 have:(f).Sublist (ZaX l).flatten:=List.sublist_flatten_of_mem hf'
 have:=this.length_le
 unfold ZaX at this
 rw [hf] at this
 omega
def Zdw:List Int→Int→Int→Option Int
 | [],_,a=>some a
 | r :: R,i,a=>if r = 4 then Zdw R (i + 1) a else if r = -4 then (if 0≤a then none else Zdw R (i + 1) i) else none
def Zft (l:List Zc):Option Int:=Zdw ((ZaX l).map (ZhG l)) 0 (-1)
theorem ZgL {F:Int × Int→Option ((Int × Int) ⊕ (Int ⊕ Unit))} {R:List Int} (hR:R.length≤1000000) (h:∀ (i:Nat) (a:Int),i < R.length→F (a,(i:Int)) = some (if gi R i = 4 then .inl (a,(i:Int) + 1) else if gi R i = -4 then (if 0≤a then .inr (.inr ()) else .inl ((i:Int),(i:Int) + 1)) else .inr (.inr ()))) (he:∀ a,F (a,(R.length:Int)) = some (.inr (.inl a))):za F big (-1,0) = some (match Zdw R 0 (-1) with | some a=>.inl a | none=>.inr ()):=by
 have key:∀ (m n:Nat) (a:Int),n + m = R.length→za F (m + 1) (a,(n:Int)) = some (match Zdw (R.drop n) n a with | some a=>.inl a | none=>.inr ()):=by
  intro m
  induction m with
  | zero =>
   intro n a hn
   have:n = R.length:=by omega
   subst this
   rw [za,he,List.drop_length]
   rfl
  | succ m ih =>
   intro n a hn
   have hlt:n < R.length:=by omega
   have d:R.drop n = gi R n :: R.drop (n + 1):=by rw [Zbd hlt]; exact List.drop_eq_getElem_cons hlt
   rw [za,h n a hlt,d,Zdw]
   by_cases c1:gi R n = 4
   ·rw [if_pos c1,if_pos c1]
    dsimp only
    have:=ih (n + 1) a (by omega)
    rw [show ((n + 1:Nat):Int) = (n:Int) + 1 by omega] at this
    exact this
   ·rw [if_neg c1,if_neg c1]
    by_cases c2:gi R n = -4
    ·rw [if_pos c2,if_pos c2]
     by_cases c3:0≤a
     ·rw [if_pos c3,if_pos c3]
     ·rw [if_neg c3,if_neg c3]
      dsimp only
      have:=ih (n + 1) n (by omega)
      rw [show ((n + 1:Nat):Int) = (n:Int) + 1 by omega] at this
      exact this
    ·rw [if_neg c2,if_neg c2]
 have:=key R.length 0 (-1) (by omega)
 rw [List.drop_zero] at this
 exact Zcw this (by unfold big; omega)
theorem Zjq {l:List Zc} (hl:l.length≤4096) (h:ZdQ l = 0):Zap l = some (match Zft l with | some a=>(a,decide (0≤a)) | none=>(0,false)):=by
 have hc:=(Zdy.1 h).2
 obtain ⟨o1,o2,o3,_⟩:=Zd9 hc
 have L:za (Zap.s0 l ((ZaX l).map (List.map dt))) big (-1,0) = some (match Zft l with | some a=>.inl a | none=>.inr ()):=by
  refine ZgL (R:=(ZaX l).map (ZhG l)) (by simp; omega) (fun i a hi=>?_) fun a=>?_
  ·have hi':i < (ZaX l).length:=by simpa using hi
   have hm:=ZbE hi'
   have fl:=o3 _ hm
   simp only [Zap.s0,Int.toNat_natCast]
   rw [ZM (by simp; omega),Z8 (by simp; omega),ZeU hi',Zku hl h (o1 _ hm) (by omega),Option.bind_some,Zh8 Zj9 (by rw [Zgg]; omega),Option.bind_some,ZeU hi']
   show (if decide (ZhG l (gi (ZaX l) i) = 4) = true then _ else _) = _
   by_cases c1:ZhG l (gi (ZaX l) i) = 4
   ·rw [ZM c1,if_pos c1,zr (by omega)]
   ·rw [ZL c1,if_neg c1]
    show (if decide (ZhG l (gi (ZaX l) i) = -4) = true then _ else _) = _
    by_cases c2:ZhG l (gi (ZaX l) i) = -4
    ·rw [ZM c2,if_pos c2]
     by_cases c3:0≤a
     ·rw [ZM c3,if_pos c3]
     ·rw [ZL c3,if_neg c3,zr (by omega)]
    ·rw [ZL c2,if_neg c2]
  ·simp only [Zap.s0]
   rw [ZL (by simp)]
 unfold Zap
 rw [Zko hl h,Option.bind_some]
 dsimp only
 rw [L,Option.bind_some]
 cases Zft l <;> rfl
theorem Zen:∀ {R:List Int} {i a b:Int},Zdw R i a = some b→-1≤a→0≤i→(b = a∨(i≤b∧b < i + R.length))
 | [],i,a,b,h,_,_=>by
  simp only [Zdw,Option.some.injEq] at h
  exact .inl h.symm
 | r :: R,i,a,b,h,ha,hi=>by
  rw [Zdw] at h
  split at h
  ·rcases Zen h ha (by omega) with q | q
   ·exact .inl q
   ·refine .inr ?_
    rw [List.length_cons]; omega
  ·split at h
   ·split at h
    ·cases h
    ·rcases Zen h (by omega) (by omega) with q | q
     ·refine .inr ?_
      rw [List.length_cons]; omega
     ·refine .inr ?_
      rw [List.length_cons]; omega
   ·cases h
def ZcN (l:List Zc):Prop:=((PS l l.length).1.length:Int) = 1
noncomputable instance {l:List Zc}:Decidable (ZcN l):=by unfold ZcN; infer_instance
noncomputable def Zgh (l:List Zc):Int :=
 if ZdQ l = 0 then (if ZcN l then (if l.length = 1 then 0 else match Zft l with | some a=>if 0≤a then 0 else 10 | none=>10) else 13) else ZdQ l
theorem ZhK {l:List Zc} (h:ZcN l):0 < l.length:=by
 cases l with
 | nil=>unfold ZcN at h; simp [PS] at h
 | cons a l=>simp
theorem Zh5 {l:List Zc} (hc:Ck l) (h:l.length = 1):ZaX l = []:=by
 obtain ⟨o1,o2,o3,o4,o5⟩:=Zd9 hc
 have no:∀ p,¬ isD l p:=by
  intro p hp
  have f:=hp.fwd hc
  rcases hc.s p.1 p.2 hp.1 hp.2.1 with ⟨a,_⟩ | ⟨w,a,b,c,_⟩
  ·have:=hp.2.2; omega
  ·have:=hp.1; omega
 have:(ZaX l).flatten = []:=by
  cases q:(ZaX l).flatten with
  | nil=>rfl
  | cons a t=>exact absurd (o5 a (by rw [q]; simp)) (no a)
 have len:=(ZeG hc l.length (by omega)).len
 have fl:=(ZeG hc l.length (by omega)).fl
 unfold ZaX at this ⊢
 rw [fl] at this
 rw [this] at len
 exact List.length_eq_zero_iff.1 (by simpa using len)
theorem Zhp {l:List Zc} (hl:l.length≤1200):zT l = some (Zgh l):=by
 unfold zT Zgh
 rw [ZfU (by omega),Option.bind_some]
 by_cases h:ZdQ l = 0
 ·have hc:=(Zdy.1 h).2
  rw [Za8 h,if_pos h,Zkv hc hl,Option.bind_some]
  by_cases w:ZcN l
  ·have hp:=ZhK w
   rw [if_pos w,Zbj (show ((PS l l.length).1.length:Int) = 1 from w),if_neg (by decide),Zjq (by omega) h,Option.bind_some]
   by_cases c:l.length = 1
   ·rw [if_pos c]
    have:Zft l = some (-1):=by unfold Zft; rw [Zh5 hc c]; rfl
    rw [this]
    dsimp only
    rw [if_neg (by simp; omega)]
   ·rw [if_neg c]
    cases Zft l with
    | none=>dsimp only; rw [if_pos (by simp; omega)]
    | some a =>
     dsimp only
     by_cases q:0≤a
     ·rw [if_pos q,if_neg (by simp; omega)]
     ·rw [if_neg q,if_pos (by simp; omega)]
  ·rw [if_neg w,Zbi (show ¬ ((PS l l.length).1.length:Int) = 1 from w),if_pos (by decide)]
 ·rw [ZaH h,if_neg h]
theorem Zhz {l:List Zc} (h:Zgh l = 0):ZdQ l = 0∧ZcN l∧(l.length≠1→∃ a,Zft l = some a∧0≤a):=by
 unfold Zgh at h
 by_cases c:ZdQ l = 0
 ·rw [if_pos c] at h
  by_cases w:ZcN l
  ·rw [if_pos w] at h
   refine ⟨c,w,fun h1=>?_⟩
   rw [if_neg h1] at h
   cases q:Zft l with
   | none=>rw [q] at h; exact absurd h (by decide)
   | some a =>
    rw [q] at h
    dsimp only at h
    by_cases k:0≤a
    ·exact ⟨a,rfl,k⟩
    ·rw [if_neg k] at h; exact absurd h (by decide)
  ·rw [if_neg w] at h; exact absurd h (by decide)
 ·rw [if_neg c] at h; exact absurd h c
end Mu
/- Layers 8 and 11: shapes that may be written have their cells: all that is worked out of them comes to an end. -/
set_option linter.unusedVariables false
set_option linter.unusedSimpArgs false
set_option maxRecDepth 100000
namespace Mu
structure Ed (n:Nat) (e:z8):Prop where
 f:0≤e.From∧e.From < n
 t:0≤e.To∧e.To < n
 d:0≤e.Dir∧e.Dir < 4
 b:e.Bends.size≤3
structure Sh (s:zk):Prop where
 b:s.Boxes.length≤8
 e:s.Edges.length≤16
 ed:∀ e∈s.Edges,Ed s.Boxes.length e
theorem Zb2 {a n:Int} (ha:0≤a) (hn:0 < n):0≤a.tmod n∧a.tmod n < n:=by
 rw [Int.tmod_eq_emod_of_nonneg ha]
 exact ⟨Int.emod_nonneg _ (by omega),Int.emod_lt_of_pos _ hn⟩
theorem Zif {a b:ByteArray}:(a++b).size = a.size + b.size:=by
 exact ByteArray.size_append
theorem Zjz {z:Zag} (hb:∀ y∈z.Bends,ZdM y) {i:Nat} (hi:i < z.Bends.length) {n:Nat} {f t d:Int} (h:Ed n ⟨f,t,d,⟨#[]⟩⟩):∃ e,za (ze.s2 z i) big (⟨f,t,d,(⟨#[]⟩:ByteArray)⟩,0) = some e∧Ed n e:=by
 have hx:0≤gi z.Bends i∧gi z.Bends i≤255:=(hb _ (ZbE hi)).u8
 have hm:=Zb2 (a:=gi z.Bends i) (n:=4) (by omega) (by omega)
 refine Za7 (μ:=fun s=>(4 - s.2).toNat) (I:=fun s=>(0≤s.2∧s.2≤3)∧Ed n { s.1 with Bends:=⟨#[]⟩ }∧s.1.Bends.size = s.2.toNat) (by simp [big]) ⟨by dsimp only; omega,h,rfl⟩ ?_
 rintro ⟨e,k⟩ ⟨h1,h2,h3⟩
 dsimp only at h1 h2 h3 ⊢
 simp only [ze.s2,Int.toNat_natCast]
 rw [Z8 (by omega),Zbp (by omega)]
 by_cases c:k < (gi z.Bends i).tmod 4
 ·refine .inl ?_
  have s1:(⟨#[76]⟩:ByteArray).size = 1:=rfl
  have s2:(⟨#[82]⟩:ByteArray).size = 1:=rfl
  rw [ZM c,zr (by omega),Z8 (by omega)]
  by_cases q:Zx .u8 (Z9 .u8 (gi z.Bends i) (2 + k)) 1 = 1
  ·rw [ZM q,Z8 (by omega),zr (by omega)]
   exact ⟨_,rfl,⟨by dsimp only; omega,h2,by dsimp only; rw [Zif]; omega⟩,by dsimp only; omega⟩
  ·rw [ZL q,Z8 (by omega),zr (by omega)]
   exact ⟨_,rfl,⟨by dsimp only; omega,h2,by dsimp only; rw [Zif]; omega⟩,by dsimp only; omega⟩
 ·refine .inr ?_
  rw [ZL c]
  exact ⟨_,rfl,h2.f,h2.t,h2.d,by omega⟩
theorem Zkt {z:Zag} (he:∀ y∈z.Edges,ZdW y) (hb:∀ y∈z.Bends,ZdM y) {most:Int} (hm:0≤most∧most≤8):∃ s,ze z most = some s∧Sh s∧(s.Boxes.length:Int)≤most:=by
 have h0:∃ r,za (ze.s0 z most) big (([]:List Bool),0) = some r∧(r.length:Int)≤most:=by
  refine Za7 (μ:=fun s=>(most - s.2).toNat) (I:=fun s=>(0≤s.2∧s.2≤most)∧(s.1.length:Int) = s.2) (by dsimp only; unfold big; omega) ⟨by dsimp only; omega,rfl⟩ ?_
  rintro ⟨s,i⟩ ⟨h1,h2⟩
  dsimp only at h1 h2 ⊢
  simp only [ze.s0]
  by_cases c:i < (z.Boxes.length:Int)∧i < most
  ·refine .inl ?_
   rw [if_pos (by simp [c]),Z8 (by omega),Z8 (by simp; omega),zr (by omega)]
   exact ⟨_,rfl,⟨by dsimp only; omega,by simp; omega⟩,by dsimp only; omega⟩
  ·refine .inr ?_
   rw [if_neg (by simpa using c)]
   exact ⟨_,rfl,by omega⟩
 obtain ⟨B,e1,hB⟩:=h0
 have h1:∃ r,za (ze.s1 z most B) big (([]:List z8),0) = some r∧(r.length≤16∧∀ e∈r,Ed B.length e):=by
  refine Za7 (μ:=fun s=>(2 * most - s.2).toNat) (I:=fun s=>(0≤s.2∧s.2≤2 * most)∧(s.1.length:Int) = s.2∧∀ e∈s.1,Ed B.length e) (by dsimp only; unfold big; omega) ⟨by dsimp only; omega,rfl,by simp⟩ ?_
  rintro ⟨s,i⟩ ⟨h1,h2,h3⟩
  dsimp only at h1 h2 h3 ⊢
  simp only [ze.s1]
  have T:(if decide (i < (z.Edges.length:Int)) = true then ck (zH (2 * most)) (some (decide (i < 2 * most))) else some false) = some (decide (i < (z.Edges.length:Int)∧i < 2 * most)):=by
   by_cases c:i < (z.Edges.length:Int)
   ·rw [ZM c,zr (by omega)]
    congr 1
    rw [Bool.eq_iff_iff]; simp [c]
   ·rw [ZL c,Zbi fun q=>c q.1]
  rw [T,Option.bind_some]
  by_cases c:(i < (z.Edges.length:Int)∧i < 2 * most)∧0 < (B.length:Int)
  ·refine .inl ?_
   obtain ⟨n,rfl⟩:=Int.eq_ofNat_of_zero_le h1.1
   have hx:=he _ (ZbE (l:=z.Edges) (i:=n) (by omega))
   have x0:0≤(gi z.Edges n).get 0∧(gi z.Edges n).get 0≤255:=hx.1.u8
   have x1:0≤(gi z.Edges n).get 1∧(gi z.Edges n).get 1≤255:=hx.2.1.u8
   have x2:0≤(gi z.Edges n).get 2∧(gi z.Edges n).get 2≤255:=hx.2.2.u8
   have E0:Ed B.length ⟨((gi z.Edges n).get 0).tmod (B.length:Int),((gi z.Edges n).get 1).tmod (B.length:Int),((gi z.Edges n).get 2).tmod 4,(⟨#[]⟩:ByteArray)⟩:=⟨Zb2 (by omega) (by omega),Zb2 (by omega) (by omega),Zb2 (by omega) (by omega),Nat.zero_le _⟩
   rw [if_pos (by simp [c]; omega),Int.toNat_natCast,Z8 (by omega),Zbp (by omega),Z8 (by omega),Zbp (by omega),Zbp (by omega)]
   by_cases q:(n:Int) < (z.Bends.length:Int)
   ·obtain ⟨e,l1,l2⟩:=Zjz hb (i:=n) (by omega) E0
    rw [ZM q,l1,Option.bind_some,Option.bind_some,Z8 (by simp; omega),zr (by omega)]
    refine ⟨_,rfl,⟨by dsimp only; omega,by simp; omega,fun e' he'=>?_⟩,by dsimp only; omega⟩
    rcases List.mem_append.1 he' with k | k
    ·exact h3 _ k
    ·rw [List.mem_singleton.1 k]; exact l2
   ·rw [ZL q,Option.bind_some,Z8 (by simp; omega),zr (by omega)]
    refine ⟨_,rfl,⟨by dsimp only; omega,by simp; omega,fun e' he'=>?_⟩,by dsimp only; omega⟩
    rcases List.mem_append.1 he' with k | k
    ·exact h3 _ k
    ·rw [List.mem_singleton.1 k]; exact E0
  ·refine .inr ?_
   rw [if_neg (by simp at c ⊢; omega)]
   exact ⟨_,rfl,by omega,h3⟩
 obtain ⟨E,e2,hE,hE2⟩:=h1
 refine ⟨⟨B,E⟩,?_,⟨by dsimp only; omega,hE,hE2⟩,hB⟩
 unfold ze
 rw [e1,Option.bind_some,e2,Option.bind_some]
theorem Zk4 {n:Nat} {e:z8} (h:Ed n e):∃ d,Zab e = some d∧0≤d∧d < 4:=by
 have:∃ r,za (Zab.s0 e) big (e.Dir,0) = some r∧(0≤r∧r < 4):=by
  refine Za7 (μ:=fun s=>((e.Bends.size:Int) - s.2).toNat) (I:=fun s=>(0≤s.1∧s.1 < 4)∧0≤s.2) (by dsimp only; unfold big; have:=h.b; omega) ⟨h.d,by dsimp only; omega⟩ ?_
  rintro ⟨d,i⟩ ⟨h1,h2⟩
  have hb:=h.b
  dsimp only at h1 h2 ⊢
  simp only [Zab.s0]
  by_cases c:i < (e.Bends.size:Int)
  ·refine .inl ?_
   rw [ZM c,Z8 (by omega)]
   have a:=Zb2 (a:=d + 1) (n:=4) (by omega) (by omega)
   have b:=Zb2 (a:=d + 3) (n:=4) (by omega) (by omega)
   by_cases q:sAt e.Bends i.toNat = 76
   ·rw [ZM q,zr (by omega),zr (by omega)]
    exact ⟨_,rfl,⟨a,by dsimp only; omega⟩,by dsimp only; omega⟩
   ·rw [ZL q,zr (by omega),zr (by omega)]
    exact ⟨_,rfl,⟨b,by dsimp only; omega⟩,by dsimp only; omega⟩
  ·refine .inr ?_
   rw [ZL c]
   exact ⟨_,rfl,h1⟩
 obtain ⟨r,e1,e2⟩:=this
 exact ⟨r,by unfold Zab; rw [e1,Option.bind_some],e2⟩
theorem Zj2 {s:zk} (h:Sh s) (v d:Int):∃ l,z7 s v d = some l∧l.length≤32∧∀ x∈l,0≤x∧x < 2 * (s.Edges.length:Int):=by
 have he:=h.e
 have:∃ r,za (z7.s0 s v d) big (([]:List Int),0) = some r∧(r.length≤32∧∀ x∈r,0≤x∧x < 2 * (s.Edges.length:Int)):=by
  refine Za7 (μ:=fun s'=>((s.Edges.length:Int) - s'.2).toNat) (I:=fun s'=>(0≤s'.2∧s'.2≤(s.Edges.length:Int))∧(s'.1.length:Int)≤2 * s'.2∧∀ x∈s'.1,0≤x∧x < 2 * (s.Edges.length:Int)) (by dsimp only; unfold big; omega) ⟨by dsimp only; omega,by simp,by simp⟩ ?_
  rintro ⟨l,i⟩ ⟨h1,h2,h3⟩
  dsimp only at h1 h2 h3 ⊢
  simp only [z7.s0]
  by_cases c:i < (s.Edges.length:Int)
  ·refine .inl ?_
   obtain ⟨n,rfl⟩:=Int.eq_ofNat_of_zero_le h1.1
   have hx:=h.ed _ (ZbE (l:=s.Edges) (i:=n) (by omega))
   obtain ⟨q,l1,l2⟩:=Zk4 hx
   have sd:ZaK (gi s.Edges n) = some ((q + 2).tmod 4):=by
    unfold ZaK
    rw [l1,Option.bind_some,zr (by omega)]
   rw [ZM c,Z8 (by omega),Int.toNat_natCast,sd]
   have A:∃ l2,(if (decide ((gi s.Edges n).From = v) && decide ((gi s.Edges n).Dir = d)) = true then ck (zH (2 * (n:Int))) (ck (l.length + [2 * (n:Int)].length≤1000000000) (some (l++[2 * (n:Int)]))) else some l) = some l2∧l2.length≤2 * n + 1∧∀ x∈l2,0≤x∧x < 2 * (s.Edges.length:Int):=by
    split
    ·rw [zr (by omega),Z8 (by simp; omega)]
     refine ⟨_,rfl,by simp; omega,fun x hx=>?_⟩
     rcases List.mem_append.1 hx with k | k
     ·exact h3 _ k
     ·rw [List.mem_singleton.1 k]; omega
    ·exact ⟨_,rfl,by omega,h3⟩
   obtain ⟨m,a1,a2,a3⟩:=A
   rw [a1,Option.bind_some,Option.bind_some]
   split
   ·rw [zr (by omega),zr (by omega),Z8 (by simp; omega),zr (by omega)]
    refine ⟨_,rfl,⟨by dsimp only; omega,by simp; omega,fun x hx=>?_⟩,by dsimp only; omega⟩
    rcases List.mem_append.1 hx with k | k
    ·exact a3 _ k
    ·rw [List.mem_singleton.1 k]; omega
   ·rw [zr (by omega)]
    exact ⟨_,rfl,⟨by dsimp only; omega,by dsimp only; omega,a3⟩,by dsimp only; omega⟩
  ·refine .inr ?_
   rw [ZL c]
   exact ⟨_,rfl,by omega,h3⟩
 obtain ⟨r,e1,e2⟩:=this
 exact ⟨r,by unfold z7; rw [e1,Option.bind_some],e2⟩
theorem Zed {ρ:Type} {F:Int→Option (Int ⊕ ρ)} {n:Nat} (hn:n≤1000000) (h:∀ i:Nat,i < n→F i = some (.inl ((i:Int) + 1))∨∃ r,F i = some (.inr r)) (he:∃ r,F n = some (.inr r)):∃ r,za F big 0 = some r:=by
 obtain ⟨r,e,_⟩:=Za7 (step:=F) (s0:=0) (μ:=fun s=>((n:Int) - s).toNat) (I:=fun s=>0≤s∧s≤n) (R:=fun _=>True) (by first | (unfold big; omega) | (dsimp only; unfold big; omega)) (by first | omega | (dsimp only; omega)) (by
  intro s hs
  obtain ⟨i,rfl⟩:=Int.eq_ofNat_of_zero_le hs.1
  by_cases c:i < n
  ·rcases h i c with k | ⟨r,k⟩
   ·exact .inl ⟨_,k,by omega,by omega⟩
   ·exact .inr ⟨r,k,trivial⟩
  ·have:i = n:=by omega
   subst this
   obtain ⟨r,k⟩:=he
   exact .inr ⟨r,k,trivial⟩)
 exact ⟨r,e⟩
theorem Zj3 {b:ByteArray} (hb:b.size≤3):∃ t,zM b = some t:=by
 obtain ⟨r,e⟩:=Zed (F:=zM.s0 b) (n:=b.size) (by omega) (fun i hi=>by
  simp only [zM.s0]
  rw [ZM (by omega),Z8 (by omega)]
  split
  ·exact .inr ⟨_,rfl⟩
  ·rw [zr (by omega)]; exact .inl rfl) ⟨_,by simp only [zM.s0]; rw [ZL (by omega)]⟩
 unfold zM
 rw [e,Option.bind_some]
 cases r <;> exact ⟨_,rfl⟩
theorem Zj0 {s:zk} (h:Sh s):∃ e,zl s = some e:=by
 have he:=h.e
 have hB:=h.b
 have h0:∃ r,za (zl.s0 s) big (0,0) = some r∧True:=by
  refine Za7 (μ:=fun s'=>((s.Edges.length:Int) - s'.2).toNat) (I:=fun s'=>(0≤s'.2∧s'.2≤(s.Edges.length:Int))∧0≤s'.1∧s'.1≤3 * s'.2) (by dsimp only; unfold big; omega) ⟨by dsimp only; omega,by dsimp only; omega⟩ ?_
  rintro ⟨n,i⟩ ⟨h1,h2⟩
  dsimp only at h1 h2 ⊢
  simp only [zl.s0]
  by_cases c:i < (s.Edges.length:Int)
  ·refine .inl ?_
   have hx:=(h.ed _ (ZbE (l:=s.Edges) (i:=i.toNat) (by omega))).b
   rw [ZM c,Z8 (by omega),zr (by omega),zr (by omega)]
   exact ⟨_,rfl,⟨by dsimp only; omega,by dsimp only; omega⟩,by dsimp only; omega⟩
  ·refine .inr ?_
   rw [ZL c]
   exact ⟨_,rfl,trivial⟩
 obtain ⟨n,e1,_⟩:=h0
 obtain ⟨r,e2⟩:=Zed (F:=zl.s1 s) (n:=s.Edges.length) (by omega) (fun i hi=>by
  have hx:=h.ed _ (ZbE hi)
  obtain ⟨t,ht⟩:=Zj3 hx.b
  simp only [zl.s1,Int.toNat_natCast]
  rw [ZM (by omega),Z8 (by omega)]
  split
  ·exact .inr ⟨_,rfl⟩
  ·rw [ht,Option.bind_some]
   split
   ·exact .inr ⟨_,rfl⟩
   ·rw [zr (by omega)]; exact .inl rfl) ⟨_,by simp only [zl.s1]; rw [ZL (by omega)]⟩
 unfold zl
 rw [e1,Option.bind_some]
 split
 ·exact ⟨_,rfl⟩
 ·rw [e2,Option.bind_some]
  cases r <;> exact ⟨_,rfl⟩
theorem Zj1 {s:zk} (h:Sh s):∃ n,ZZ s = some n:=by
 have he:=h.e
 have hB:=h.b
 have h1:∀ (v:Nat) (m:Int),v < s.Boxes.length→0≤m→m≤1000000→∃ r,za (ZZ.s1 s v) big (m,0) = some r∧(0≤r∧r≤m + 128):=by
  intro v m hv m0 m1
  refine Za7 (μ:=fun s'=>(4 - s'.2).toNat) (I:=fun s'=>(0≤s'.2∧s'.2≤4)∧0≤s'.1∧s'.1≤m + 32 * s'.2) (by dsimp only; unfold big; omega) ⟨by dsimp only; omega,by dsimp only; omega⟩ ?_
  rintro ⟨n,i⟩ ⟨h1,h2⟩
  dsimp only at h1 h2 ⊢
  simp only [ZZ.s1]
  by_cases c:i < 4
  ·rw [ZM c,Z8 (by omega),Option.bind_some]
   obtain ⟨l,l1,l2,_⟩:=Zj2 h v i
   split
   ·refine .inl ?_
    rw [l1,Option.bind_some,zr (by omega),zr (by omega)]
    exact ⟨_,rfl,⟨by dsimp only; omega,by dsimp only; omega⟩,by dsimp only; omega⟩
   ·exact .inr ⟨_,rfl,by omega⟩
  ·refine .inr ?_
   rw [ZL c,Option.bind_some,if_neg (by decide)]
   exact ⟨_,rfl,by omega⟩
 have h0:∃ r,za (ZZ.s0 s) big (0,0) = some r∧(0≤r∧r≤10000):=by
  refine Za7 (μ:=fun s'=>((s.Boxes.length:Int) - s'.2).toNat) (I:=fun s'=>(0≤s'.2∧s'.2≤(s.Boxes.length:Int))∧0≤s'.1∧s'.1≤200 * s'.2) (by dsimp only; unfold big; omega) ⟨by dsimp only; omega,by dsimp only; omega⟩ ?_
  rintro ⟨n,i⟩ ⟨g1,g2⟩
  dsimp only at g1 g2 ⊢
  simp only [ZZ.s0]
  by_cases c:i < (s.Boxes.length:Int)
  ·refine .inl ?_
   obtain ⟨v,rfl⟩:=Int.eq_ofNat_of_zero_le g1.1
   obtain ⟨r,r1,r2⟩:=h1 v (n + 1) (by omega) (by omega) (by omega)
   rw [ZM c,zr (by omega),r1,Option.bind_some,Z8 (by omega)]
   by_cases z:gi s.Boxes ((v:Int)).toNat = true
   ·rw [if_pos z,zr (by omega),zr (by omega)]
    exact ⟨_,rfl,⟨by dsimp only; omega,by dsimp only; omega⟩,by dsimp only; omega⟩
   ·rw [if_neg z,zr (by omega)]
    exact ⟨_,rfl,⟨by dsimp only; omega,by dsimp only; omega⟩,by dsimp only; omega⟩
  ·refine .inr ?_
   rw [ZL c]
   exact ⟨_,rfl,by omega⟩
 obtain ⟨m,e1,e2⟩:=h0
 have h2:∃ r,za (ZZ.s2 s) big (m,0) = some r∧True:=by
  refine Za7 (μ:=fun s'=>((s.Edges.length:Int) - s'.2).toNat) (I:=fun s'=>(0≤s'.2∧s'.2≤(s.Edges.length:Int))∧0≤s'.1∧s'.1≤10000 + 3 * s'.2) (by dsimp only; unfold big; omega) ⟨by dsimp only; omega,by dsimp only; omega⟩ ?_
  rintro ⟨n,i⟩ ⟨h1,h2⟩
  dsimp only at h1 h2 ⊢
  simp only [ZZ.s2]
  by_cases c:i < (s.Edges.length:Int)
  ·refine .inl ?_
   have hx:=(h.ed _ (ZbE (l:=s.Edges) (i:=i.toNat) (by omega))).b
   rw [ZM c,Z8 (by omega),zr (by omega),zr (by omega)]
   exact ⟨_,rfl,⟨by dsimp only; omega,by dsimp only; omega⟩,by dsimp only; omega⟩
  ·refine .inr ?_
   rw [ZL c]
   exact ⟨_,rfl,trivial⟩
 obtain ⟨r,e3,_⟩:=h2
 exact ⟨r,by unfold ZZ; rw [e1,Option.bind_some,e3,Option.bind_some]⟩
theorem Zj4 {s:zk} (h:Sh s):∃ e,ZU s = some e:=by
 have he:=h.e
 have hB:=h.b
 obtain ⟨x,c1⟩:=Zj0 h
 obtain ⟨n,c2⟩:=Zj1 h
 have w1:∀ v:Nat,v < s.Boxes.length→∃ r,za (ZU.s1 s v) big 0 = some r:=by
  intro v hv
  refine Zed (n:=4) (by omega) (fun i hi=>?_) ⟨_,by simp only [ZU.s1]; rw [ZL (by omega),Option.bind_some,if_neg (by decide)]⟩
  simp only [ZU.s1]
  rw [ZM (by omega),Z8 (by omega),Option.bind_some]
  obtain ⟨l,l1,l2,_⟩:=Zj2 h v i
  split
  ·rw [l1,Option.bind_some]
   split
   ·exact .inr ⟨_,rfl⟩
   ·rw [zr (by omega)]; exact .inl rfl
  ·exact .inr ⟨_,rfl⟩
 obtain ⟨r0,w0⟩:=Zed (F:=ZU.s0 s) (n:=s.Boxes.length) (by omega) (fun i hi=>by
  obtain ⟨r,w⟩:=w1 i hi
  simp only [ZU.s0]
  rw [ZM (by omega),w,Option.bind_some]
  cases r with
  | inl _=>dsimp only; rw [zr (by omega)]; exact .inl rfl
  | inr _=>exact .inr ⟨_,rfl⟩) ⟨_,by simp only [ZU.s0]; rw [ZL (by omega)]⟩
 obtain ⟨r2,w2⟩:=Zed (F:=ZU.s2 s) (n:=s.Edges.length) (by omega) (fun i hi=>by
  have hx:=h.ed _ (ZbE hi)
  have hf:=hx.f
  simp only [ZU.s2,Int.toNat_natCast]
  rw [ZM (by omega),Z8 (by omega),Z8 (by omega),zr (by omega)]
  split
  ·rw [Option.bind_some]
   split
   ·exact .inr ⟨_,rfl⟩
   ·exact .inl rfl
  ·rw [Option.bind_some,if_neg (by decide)]
   exact .inl rfl) ⟨_,by simp only [ZU.s2]; rw [ZL (by omega)]⟩
 unfold ZU
 rw [c1,Option.bind_some]
 split
 ·exact ⟨_,rfl⟩
 ·rw [c2,Option.bind_some]
  split
  ·exact ⟨_,rfl⟩
  ·rw [w0,Option.bind_some]
   cases r0 with
   | inl _ =>
    dsimp only
    rw [w2,Option.bind_some]
    cases r2 <;> exact ⟨_,rfl⟩
   | inr _=>exact ⟨_,rfl⟩
theorem Zgd {l:List Zc} (hl:l.length≤10000) (v d w o:Int):∃ l' e,zh l v d w o = some (l',e)∧l'.length = l.length:=by
 simp only [zh]
 by_cases c:(0≤v∧v < l.length∧0≤d∧d < 4)∧(0≤w∧w < l.length)∧v≠w∧-2≤o
 ·obtain ⟨⟨c1,c2,c3,c4⟩,⟨c5,c6⟩,c7,c8⟩:=c
  have hb:0≤(d + 2).tmod 4∧(d + 2).tmod 4 < 4:=Zb2 (by omega) (by omega)
  rw [if_neg (by simp; omega),Z8 (by omega),Z8 (by omega),zr (by omega),Z8 (by omega),Z8 hb,ZjI (by omega) (by omega),Option.bind_some]
  split
  ·rw [Option.bind_some,if_pos rfl]; exact ⟨_,_,rfl,rfl⟩
  ·rw [Option.bind_some]
   split
   ·exact ⟨_,_,rfl,rfl⟩
   ·exact ⟨_,_,rfl,by rw [Zbu]⟩
 ·rw [if_pos (by simp; omega)]
  exact ⟨_,_,rfl,rfl⟩
theorem Zls {s:zk} (h:Sh s) {n:zZ} (hn:n.Ends.length = s.Edges.length) (hc:n.Cells.length≤2000) (v:Int):∃ r,z5 n s v = some r∧r.Ends.length = s.Edges.length∧r.Cells.length≤n.Cells.length + 132∧r.First = n.First∧r.Ways = n.Ways:=by
 have he:=h.e
 have inner:∀ (d:Int) (x1:List Int) (c0:List Zc) (e0:List (A2 Int)) (f0:Int),x1.length≤32→(∀ x∈x1,0≤x∧x < 2 * (s.Edges.length:Int))→c0.length≤2200→e0.length = s.Edges.length→∃ r,za (z5.s1 d x1) big (c0,e0,f0,0) = some r∧(r.1.length≤c0.length + 32∧r.2.1.length = s.Edges.length):=by
  intro d x1 c0 e0 f0 hx hxr hc0 he0
  refine Za7 (μ:=fun s'=>((x1.length:Int) - s'.2.2.2).toNat) (I:=fun s'=>(0≤s'.2.2.2∧s'.2.2.2≤(x1.length:Int))∧(s'.1.length:Int)≤(c0.length:Int) + s'.2.2.2∧s'.2.1.length = s.Edges.length) (by dsimp only; unfold big; omega) ⟨by dsimp only; omega,by dsimp only; omega,he0⟩ ?_
  rintro ⟨c,e,f,i⟩ ⟨h1,h2,h3⟩
  dsimp only at h1 h2 h3 ⊢
  simp only [z5.s1]
  by_cases q:i < (x1.length:Int)
  ·refine .inl ?_
   have m1:=Zjp (n:=1) (by omega)
   rw [show ((1:Nat):Int) = 1 from rfl] at m1
   have xr:=hxr _ (ZbE (l:=x1) (i:=i.toNat) (by omega))
   have d1:0≤(gi x1 i.toNat).tdiv 2∧(gi x1 i.toNat).tdiv 2 < s.Edges.length:=by
    rw [Int.tdiv_eq_ediv_of_nonneg (by omega)]; omega
   have d2:=Zb2 (a:=gi x1 i.toNat) (n:=2) (by omega) (by omega)
   obtain ⟨l',e',j1,j2⟩:=Zgd (l:=c++List.replicate 1 noC) (by simp; omega) f (gi ([1,0,1,0]:List Int) d.toNat) (c.length:Int) (-1)
   rw [ZM q,m1,Option.bind_some,Z8 (by simp; omega),Z8 (by omega),Z8 (by refine ⟨by omega,by omega,by omega⟩),Z8 (by omega),Z8 (by omega),j1,Option.bind_some]
   dsimp only
   rw [zr (by omega)]
   exact ⟨_,rfl,⟨by dsimp only; omega,by dsimp only; rw [j2]; simp; omega,by dsimp only; rw [List.length_set]; exact h3⟩,by dsimp only; omega⟩
  ·refine .inr ?_
   rw [ZL q]
   exact ⟨_,rfl,by dsimp only; omega,h3⟩
 have m4:=Zjp (n:=4) (by omega)
 rw [show ((4:Nat):Int) = 4 from rfl] at m4
 have outer:∃ r,za (z5.s0 n s v) big (n.Cells++List.replicate 4 noC,n.Ends,0) = some r∧(r.1.length≤n.Cells.length + 132∧r.2.length = s.Edges.length):=by
  refine Za7 (μ:=fun s'=>(4 - s'.2.2).toNat) (I:=fun s'=>(0≤s'.2.2∧s'.2.2≤4)∧(s'.1.length:Int)≤(n.Cells.length:Int) + 4 + 32 * s'.2.2∧s'.2.1.length = s.Edges.length) (by dsimp only; unfold big; omega) ⟨by dsimp only; omega,by simp,hn⟩ ?_
  rintro ⟨c,e,d⟩ ⟨h1,h2,h3⟩
  dsimp only at h1 h2 h3 ⊢
  simp only [z5.s0]
  by_cases q:d < 4
  ·refine .inl ?_
   obtain ⟨l,l1,l2,l3⟩:=Zj2 h v d
   obtain ⟨⟨c',e',f'⟩,r1,r2,r3⟩:=inner d l c e (gi [(n.Cells.length:Int) + 1,(n.Cells.length:Int) + 3,(n.Cells.length:Int),(n.Cells.length:Int)] d.toNat) l2 l3 (by omega) h3
   dsimp only at r2 r3
   obtain ⟨l',e2,j1,j2⟩:=Zgd (l:=c') (by omega) f' (gi ([1,0,1,0]:List Int) d.toNat) (gi [(n.Cells.length:Int) + 2,(n.Cells.length:Int) + 2,(n.Cells.length:Int) + 3,(n.Cells.length:Int) + 1] d.toNat) (-1)
   rw [ZM q,zr (by omega),zr (by omega),Z8 (by simp; omega),zr (by omega),Z8 (by simp; omega),Z8 (by simp; omega),l1,Option.bind_some,r1,Option.bind_some]
   dsimp only
   rw [j1,Option.bind_some]
   dsimp only
   rw [zr (by omega)]
   exact ⟨_,rfl,⟨by dsimp only; omega,by dsimp only; omega,r3⟩,by dsimp only; omega⟩
  ·refine .inr ?_
   rw [ZL q]
   exact ⟨_,rfl,by dsimp only; omega,h3⟩
 obtain ⟨⟨c,e⟩,o1,o2,o3⟩:=outer
 dsimp only at o2 o3
 refine ⟨⟨c,n.First,e,n.Ways⟩,?_,o3,o2,rfl,rfl⟩
 unfold z5
 rw [m4,Option.bind_some,Z8 (by simp; omega),o1,Option.bind_some]
theorem Zl9 {s:zk} (h:Sh s):∃ n,ZO s = some n∧n.Cells.length≤1200:=by
 have he:=h.e
 have hB:=h.b
 have m1:=Zjp (n:=1) (by omega)
 rw [show ((1:Nat):Int) = 1 from rfl] at m1
 have s2:∀ (n:List Zc) (x:List Int) (e0:List (A2 Int)),n.length≤2000→x.length≤32→(∀ y∈x,0≤y∧y < 2 * (s.Edges.length:Int))→e0.length = s.Edges.length→∃ r,za (ZO.s2 n x) big (e0,0) = some r∧r.length = s.Edges.length:=by
  intro n x e0 hn hx hxr he0
  refine Za7 (μ:=fun s'=>((x.length:Int) - s'.2).toNat) (I:=fun s'=>(0≤s'.2∧s'.2≤(x.length:Int))∧s'.1.length = s.Edges.length) (by dsimp only; unfold big; omega) ⟨by dsimp only; omega,he0⟩ ?_
  rintro ⟨e,i⟩ ⟨h1,h3⟩
  dsimp only at h1 h3 ⊢
  simp only [ZO.s2]
  by_cases q:i < (x.length:Int)
  ·refine .inl ?_
   have xr:=hxr _ (ZbE (l:=x) (i:=i.toNat) (by omega))
   have d1:0≤(gi x i.toNat).tdiv 2∧(gi x i.toNat).tdiv 2 < s.Edges.length:=by
    rw [Int.tdiv_eq_ediv_of_nonneg (by omega)]; omega
   have d2:=Zb2 (a:=gi x i.toNat) (n:=2) (by omega) (by omega)
   rw [ZM q,Z8 (by omega),Z8 (by refine ⟨by omega,by omega,by omega⟩),Z8 (by omega),Z8 (by omega),zr (by omega)]
   exact ⟨_,rfl,⟨by dsimp only; omega,by dsimp only; rw [List.length_set]; exact h3⟩,by dsimp only; omega⟩
  ·refine .inr ?_
   rw [ZL q]
   exact ⟨_,rfl,h3⟩
 have s1:∀ (n:List Zc) (v:Int) (e0:List (A2 Int)),n.length≤2000→e0.length = s.Edges.length→∃ r,za (ZO.s1 s n v) big (e0,0) = some r∧r.length = s.Edges.length:=by
  intro n v e0 hn he0
  refine Za7 (μ:=fun s'=>(4 - s'.2).toNat) (I:=fun s'=>(0≤s'.2∧s'.2≤4)∧s'.1.length = s.Edges.length) (by dsimp only; unfold big; omega) ⟨by dsimp only; omega,he0⟩ ?_
  rintro ⟨e,d⟩ ⟨h1,h3⟩
  dsimp only at h1 h3 ⊢
  simp only [ZO.s1]
  by_cases q:d < 4
  ·refine .inl ?_
   obtain ⟨l,l1,l2,l3⟩:=Zj2 h v d
   obtain ⟨r,r1,r2⟩:=s2 n l e hn l2 l3 h3
   rw [ZM q,l1,Option.bind_some,r1,Option.bind_some,zr (by omega)]
   exact ⟨_,rfl,⟨by dsimp only; omega,r2⟩,by dsimp only; omega⟩
  ·refine .inr ?_
   rw [ZL q]
   exact ⟨_,rfl,h3⟩
 have s0:∃ r,za (ZO.s0 s) big (([]:List Zc),([]:List Int),List.replicate (s.Edges.length:Int).toNat (⟨0,0⟩:A2 Int),([]:List (List Int)),0) = some r∧(r.1.length≤1056∧r.2.2.1.length = s.Edges.length∧r.2.2.2 = []):=by
  refine Za7 (μ:=fun s'=>((s.Boxes.length:Int) - s'.2.2.2.2).toNat) (I:=fun s'=>(0≤s'.2.2.2.2∧s'.2.2.2.2≤(s.Boxes.length:Int))∧(s'.1.length:Int)≤132 * s'.2.2.2.2∧(s'.2.1.length:Int) = s'.2.2.2.2∧s'.2.2.1.length = s.Edges.length∧s'.2.2.2.1 = []) (by dsimp only; unfold big; omega) ⟨by dsimp only; omega,by simp,by simp,by simp,rfl⟩ ?_
  rintro ⟨c,f,e,w,v⟩ ⟨h1,h2,h3,h4,h5⟩
  dsimp only at h1 h2 h3 h4 h5 ⊢
  simp only [ZO.s0]
  by_cases q:v < (s.Boxes.length:Int)
  ·refine .inl ?_
   rw [ZM q,Z8 (by simp; omega),Z8 (by omega)]
   split
   ·obtain ⟨r,b1,b2,b3,b4,b5⟩:=Zls h (n:=⟨c,f++[(c.length:Int)],e,w⟩) h4 (by dsimp only; omega) v
    dsimp only at b3 b4 b5
    rw [b1,Option.bind_some,zr (by omega)]
    exact ⟨_,rfl,⟨by dsimp only; omega,by dsimp only; omega,by dsimp only; rw [b4]; simp; omega,b2,by dsimp only; rw [b5]; exact h5⟩,by dsimp only; omega⟩
   ·obtain ⟨r,r1,r2⟩:=s1 c v e (by omega) h4
    rw [m1,Option.bind_some,Z8 (by simp; omega),r1,Option.bind_some,zr (by omega)]
    exact ⟨_,rfl,⟨by dsimp only; omega,by simp; omega,by simp; omega,r2,h5⟩,by dsimp only; omega⟩
  ·refine .inr ?_
   rw [ZL q]
   exact ⟨_,rfl,by dsimp only; omega,h4,h5⟩
 obtain ⟨⟨c,f,e,w⟩,o1,o2,o3,o4⟩:=s0
 dsimp only at o2 o3 o4
 subst o4
 have s4:∀ (i:Nat) (c0:List Zc) (a d:Int) (w0:List Int),i < s.Edges.length→c0.length≤2000→0≤d∧d < 4→w0.length≤1→∃ r,za (ZO.s4 s i) big (c0,a,d,w0,0) = some r∧(r.1.length≤c0.length + 3∧r.2.2.2.length≤4):=by
  intro i c0 a d w0 hi hc0 hd hw0
  have hx:=h.ed _ (ZbE hi)
  have hb:=hx.b
  refine Za7 (μ:=fun s'=>(((gi s.Edges i).Bends.size:Int) - s'.2.2.2.2).toNat) (I:=fun s'=>(0≤s'.2.2.2.2∧s'.2.2.2.2≤((gi s.Edges i).Bends.size:Int))∧(s'.1.length:Int)≤(c0.length:Int) + s'.2.2.2.2∧(s'.2.2.2.1.length:Int)≤1 + s'.2.2.2.2∧0≤s'.2.2.1∧s'.2.2.1 < 4) (by dsimp only; unfold big; omega) ⟨by dsimp only; omega,by dsimp only; omega,by dsimp only; omega,hd⟩ ?_
  rintro ⟨c,at_,d,w,k⟩ ⟨h1,h2,h3,h4⟩
  dsimp only at h1 h2 h3 h4 ⊢
  simp only [ZO.s4,Int.toNat_natCast]
  by_cases q:k < ((gi s.Edges i).Bends.size:Int)
  ·refine .inl ?_
   obtain ⟨l',e',j1,j2⟩:=Zgd (l:=c++List.replicate 1 noC) (by simp; omega) at_ d (c.length:Int) i
   have t1:=Zb2 (a:=d + 1) (n:=4) (by omega) (by omega)
   have t3:=Zb2 (a:=d + 3) (n:=4) (by omega) (by omega)
   have jl:l'.length = c.length + 1:=by rw [j2]; simp
   rw [ZM q,m1,Option.bind_some,Z8 (by simp; omega),j1,Option.bind_some]
   dsimp only
   rw [Z8 (by simp; omega),Z8 (by omega)]
   by_cases z:sAt (gi s.Edges i).Bends k.toNat = 76
   ·rw [ZM z,zr (by omega),zr (by omega)]
    exact ⟨_,rfl,⟨by dsimp only; omega,by dsimp only; omega,by simp; omega,t1⟩,by dsimp only; omega⟩
   ·rw [ZL z,zr (by omega),zr (by omega)]
    exact ⟨_,rfl,⟨by dsimp only; omega,by dsimp only; omega,by simp; omega,t3⟩,by dsimp only; omega⟩
  ·refine .inr ?_
   rw [ZL q]
   exact ⟨_,rfl,by dsimp only; omega,by dsimp only; omega⟩
 have s3:∃ r,za (ZO.s3 s e) big (c,([]:List (List Int)),0) = some r∧r.1.length≤1200:=by
  refine Za7 (μ:=fun s'=>((s.Edges.length:Int) - s'.2.2).toNat) (I:=fun s'=>(0≤s'.2.2∧s'.2.2≤(s.Edges.length:Int))∧(s'.1.length:Int)≤1056 + 3 * s'.2.2∧(s'.2.1.length:Int) = s'.2.2) (by dsimp only; unfold big; omega) ⟨by dsimp only; omega,by dsimp only; omega,rfl⟩ ?_
  rintro ⟨c,w,i⟩ ⟨h1,h2,h3⟩
  dsimp only at h1 h2 h3 ⊢
  simp only [ZO.s3]
  by_cases q:i < (s.Edges.length:Int)
  ·refine .inl ?_
   obtain ⟨n,rfl⟩:=Int.eq_ofNat_of_zero_le h1.1
   have hx:=h.ed _ (ZbE (l:=s.Edges) (i:=n) (by omega))
   obtain ⟨⟨c',a',d',w'⟩,r1,r2,r3⟩:=s4 n c ((gi e n).get 0) (gi s.Edges n).Dir [(gi e n).get 0] (by omega) (by omega) hx.d (by simp)
   dsimp only at r2 r3
   obtain ⟨l',e',j1,j2⟩:=Zgd (l:=c') (by omega) a' d' ((gi e n).get 1) n
   rw [ZM q,Z8 (by omega),Z8 (by omega),Int.toNat_natCast,r1,Option.bind_some]
   dsimp only
   rw [j1,Option.bind_some]
   dsimp only
   rw [Z8 (by simp; omega),Z8 (by omega),zr (by omega)]
   exact ⟨_,rfl,⟨by dsimp only; omega,by dsimp only; omega,by simp; omega⟩,by dsimp only; omega⟩
  ·refine .inr ?_
   rw [ZL q]
   exact ⟨_,rfl,by dsimp only; omega⟩
 obtain ⟨⟨c2,w2⟩,p1,p2⟩:=s3
 dsimp only at p2
 refine ⟨⟨c2,f,e,w2⟩,?_,p2⟩
 unfold ZO
 rw [Z8 (by omega),o1,Option.bind_some]
 dsimp only
 rw [p1,Option.bind_some]
end Mu
/- Layer 14: ValidTells. -/
set_option linter.unusedVariables false
set_option linter.unusedSimpArgs false
set_option maxRecDepth 10000
namespace Mu
theorem Zez:Zam = some true:=by decide +kernel
end Mu
/- Sums. -/
set_option linter.unusedVariables false
namespace Mu
def sg (f:Nat→Int):Nat→Int
 | 0=>0
 | n + 1=>sg f n + f n
theorem Zcz {f g:Nat→Int}:∀ {n:Nat},(∀ i,i < n→f i = g i)→sg f n = sg g n
 | 0,_=>rfl
 | n + 1,h=>by rw [sg,sg,Zcz (n:=n) fun i hi=>h i (by omega),h n (by omega)]
theorem ZeF {f:Nat→Int} {n:Nat} (h:∀ i,i < n→f i = 0):sg f n = 0:=by
 induction n with
 | zero=>rfl
 | succ n ih=>rw [sg,ih fun i hi=>h i (by omega),h n (by omega)]; rfl
theorem Zi9 {f g:Nat→Int}:∀ {n:Nat},sg (fun i=>f i + g i) n = sg f n + sg g n
 | 0=>rfl
 | n + 1=>by rw [sg,sg,sg,Zi9 (n:=n)]; omega
theorem ZiB {f:Nat→Int} {k:Int}:∀ {n:Nat},sg (fun i=>k * f i) n = k * sg f n
 | 0=>by simp [sg]
 | n + 1=>by rw [sg,sg,ZiB (n:=n),Int.mul_add]
theorem ZgS {f:Nat→Int}:∀ {n j:Nat},j < n→(∀ i,i < n→i≠j→f i = 0)→sg f n = f j
 | n + 1,j,hj,h=>by
  rw [sg]
  by_cases c:j = n
  ·subst c
   rw [ZeF fun i hi=>h i (by omega) (by omega)]; omega
  ·rw [ZgS (j:=j) (by omega) fun i hi=>h i (by omega),h n (by omega) (by omega)]; omega
theorem ZeE {f:Nat→Nat→Int} {m:Nat}:∀ {n:Nat},sg (fun i=>sg (f i) m) n = sg (fun j=>sg (fun i=>f i j) n) m
 | 0=>by
  rw [sg,ZeF]
  intro i _; rfl
 | n + 1=>by
  rw [sg,ZeE (n:=n),← Zi9]
  exact Zcz fun i _=>rfl
end Mu
/- Layer 14: ValidEuler: what turns there are in all,by ZaX and by cells. -/
set_option linter.unusedVariables false
set_option linter.unusedSimpArgs false
set_option maxRecDepth 10000
namespace Mu
/-! Cells that hang together. -/
theorem ZfH {l:List Zc}:∀ {n m:Nat},n≤m→(PS l n).1.length≤(PS l m).1.length
 | n,0,h=>by
  have:n = 0:=by omega
  subst this; exact Nat.le_refl _
 | n,m + 1,h=>by
  by_cases c:n = m + 1
  ·subst c; exact Nat.le_refl _
  ·have:=ZfH (l:=l) (n:=n) (m:=m) (by omega)
   rw [PS]
   split
   ·exact this
   ·simp; omega
theorem ZfF {l:List Zc} (h:ZcN l) {w:Nat} (hw:w < l.length):∃ n,Rch l 0 n w:=by
 have w1:(PS l l.length).1.length = 1:=by unfold ZcN at h; omega
 have e1:PS l 1 = ([Zcj l 0 l.length],ZcS l 0 (List.replicate l.length false) l.length):=by
  have g:gi (PS l 0).2 0 = false:=by
   show gi (List.replicate l.length false) 0 = false
   rw [Zbd (by simp; omega)]; simp
  rw [PS,if_neg (by rw [g]; decide)]
  rfl
 have key:∀ n,n + 1≤l.length→PS l (n + 1) = PS l 1:=by
  intro n
  induction n with
  | zero=>intro _; rfl
  | succ n ih =>
   intro hn
   have i:=ih (by omega)
   have m:=ZfH (l:=l) (n:=n + 2) (m:=l.length) (by omega)
   rw [PS]
   split
   ·exact i
   ·rename_i c
    rw [PS,if_neg c] at m
    have:=ZfH (l:=l) (n:=1) (m:=n + 1) (by omega)
    rw [e1] at this
    simp at m this
    omega
 have k:=key (l.length - 1) (by omega)
 rw [show l.length - 1 + 1 = l.length by omega] at k
 have met:=ZhO (l:=l) l.length (by omega) w hw
 rw [k,e1] at met
 dsimp only at met
 unfold ZcS at met
 rw [Zdn hw,if_pos hw] at met
 have g:gi (List.replicate l.length false) w = false:=by
  rw [Zbd (by simpa using hw)]; simp
 rw [g,Bool.false_or] at met
 exact Zfh.1 met
theorem Rch.edge {l:List Zc} (hc:Ck l) {v n w:Nat} (hv:v < l.length) (hr:Rch l v n w) (hne:v≠w):(∃ d,d < 4∧0≤nx l w d)∧∃ d,d < 4∧0≤nx l v d:=by
 have one:∀ {v n w},v < l.length→Rch l v n w→v≠w→∃ d,d < 4∧0≤nx l w d:=by
  intro v n w hv hr hne
  cases hr with
  | zero=>exact absurd rfl hne
  | succ hr ha =>
   have hl:=Rch.lt hc hv hr
   obtain ⟨d,hd,e⟩:=Adj.symm hc hl ha
   exact ⟨d,hd,by omega⟩
 exact ⟨one hv hr hne,one (hr.lt hc hv) (hr.symm hc hv) (fun e=>hne e.symm)⟩
theorem ZgU {l:List Zc} (hc:Ck l) (h:ZcN l) (h2:2≤l.length) {w:Nat} (hw:w < l.length):∃ d,d < 4∧0≤nx l w d:=by
 by_cases c:w = 0
 ·subst c
  obtain ⟨n,hr⟩:=ZfF h (w:=1) (by omega)
  exact (hr.edge hc (by omega) (by decide)).2
 ·obtain ⟨n,hr⟩:=ZfF h hw
  exact (hr.edge hc (by omega) (fun e=>c e.symm)).1
/-! All Zcg are in the ZaX. -/
theorem ZiE {l:List Zc} {n:Nat} {met:List Da} {x:Da} (h:x ∉ met):x∈walk l (n + 1) met x:=by
 rw [walk,if_neg h]; simp
theorem Zhw {l:List Zc} {s:List Da × List (List Da)} {p q:Da} (h:q∈s.1):q∈(stF l s p).1:=by
 unfold stF
 split
 ·exact h
 ·exact List.mem_append.2 (.inl h)
theorem Zj7 {l:List Zc} {s:List Da × List (List Da)} {p:Da} (h:0≤nx l p.1 p.2):p∈(stF l s p).1:=by
 unfold stF
 split
 ·rename_i c
  rcases c with c | c
  ·omega
  ·exact c
 ·rename_i c
  exact List.mem_append.2 (.inr (ZiE fun q=>c (.inr q)))
theorem Zgt {l:List Zc} {v:Nat} {s:List Da × List (List Da)} {q:Da} (h:q∈s.1):∀ e,q∈(Zfv l v s e).1
 | 0=>h
 | e + 1=>Zhw (Zgt h e)
theorem Zgs {l:List Zc} {v:Nat} {s:List Da × List (List Da)} {d:Nat} (h:0≤nx l v d):∀ e,d < e→(v,d)∈(Zfv l v s e).1
 | e + 1,he=>by
  rw [Zfv]
  by_cases c:d = e
  ·subst c; exact Zj7 h
  ·exact Zhw (Zgs h e (by omega))
theorem ZhL {l:List Zc} {v d:Nat} (hd:d < 4) (h:0≤nx l v d):∀ n,v < n→(v,d)∈(FS l n).1
 | n + 1,hn=>by
  rw [FS]
  by_cases c:v = n
  ·subst c; exact Zgs h 4 hd
  ·exact Zgt (ZhL hd h n (by omega)) 4
theorem Zh4 {l:List Zc} (hc:Ck l) {p:Da}:p∈(ZaX l).flatten↔isD l p:=by
 constructor
 ·exact (Zd9 hc).2.2.2.2 p
 ·intro h
  have fl:=(ZeG hc l.length (by omega)).fl
  unfold ZaX
  rw [fl]
  exact ZhL h.2.1 h.2.2 _ h.1
/-! Sums over lists of Zcg. -/
theorem Zi4 {α:Type} {f:α→Int} {l m:List α} (h:l.Perm m):(l.map f).sum = (m.map f).sum:=by
 induction h with
 | nil=>rfl
 | cons x _ ih=>simp [ih]
 | swap x y l=>simp; omega
 | trans _ _ i1 i2=>rw [i1,i2]
def Zcg (l:List Zc):List Da:=(List.range l.length).flatMap fun v=>((List.range 4).filter fun d=>decide (0≤nx l v d)).map fun d=>(v,d)
theorem Zh9 {l:List Zc} {p:Da}:p∈Zcg l↔isD l p:=by
 unfold Zcg isD
 simp only [List.mem_flatMap,List.mem_range,List.mem_map,List.mem_filter,decide_eq_true_eq]
 constructor
 ·rintro ⟨v,hv,d,⟨hd,h⟩,rfl⟩
  exact ⟨hv,hd,h⟩
 ·rintro ⟨h1,h2,h3⟩
  exact ⟨p.1,h1,p.2,⟨h2,h3⟩,rfl⟩
theorem Zim {l:List Zc}:(Zcg l).Nodup:=by
 unfold Zcg
 rw [List.Nodup,List.pairwise_flatMap]
 refine ⟨fun v _=>?_,?_⟩
 ·rw [List.pairwise_map]
  refine (List.Pairwise.filter _ (List.nodup_range (n:=4))).imp ?_
  intro a b h e
  exact h (congrArg Prod.snd e)
 ·refine (List.nodup_range (n:=l.length)).imp ?_
  intro a b h x hx y hy e
  obtain ⟨d,_,rfl⟩:=List.mem_map.1 hx
  obtain ⟨d',_,rfl⟩:=List.mem_map.1 hy
  exact h (congrArg Prod.fst e)
theorem ZgC {l:List Zc} (hc:Ck l):(ZaX l).flatten.Perm (Zcg l) :=
 (List.perm_ext_iff_of_nodup (Zd9 hc).2.2.2.1 Zim).2 fun p=>by rw [Zh4 hc,Zh9]
theorem Zg1 {f:Da→Int}:∀ L:List (List Da),(L.flatten.map f).sum = (L.map fun x=>(x.map f).sum).sum
 | []=>rfl
 | x :: L=>by rw [List.flatten_cons,List.map_append,List.sum_append,Zg1 L,List.map_cons,List.sum_cons]
theorem Zet {f:Nat→Int}:∀ n,((List.range n).map f).sum = sg f n
 | 0=>rfl
 | n + 1=>by rw [List.range_succ,List.map_append,List.sum_append,Zet n,sg]; simp
theorem ZhI {l:List Zc} {f:Da→Int}:((Zcg l).map f).sum = sg (fun v=>sg (fun d=>if 0≤nx l v d then f (v,d) else 0) 4) l.length:=by
 unfold Zcg
 rw [← Zet]
 generalize List.range l.length = vs
 induction vs with
 | nil=>rfl
 | cons v vs ih =>
  rw [List.flatMap_cons,List.map_append,List.sum_append,ih,List.map_cons,List.sum_cons]
  congr 1
  rw [← Zet]
  generalize List.range 4 = ds
  induction ds with
  | nil=>rfl
  | cons d ds ih2 =>
   rw [List.filter_cons]
   by_cases c:0≤nx l v d
   ·rw [if_pos (by simpa using c),List.map_cons,List.map_cons,List.sum_cons,ih2,List.map_cons,List.sum_cons,if_pos c]
   ·rw [if_neg (by simpa using c),ih2,List.map_cons,List.sum_cons,if_neg c]; omega
theorem Zk3 {f:Nat→Int}:sg f 4 = f 0 + f 1 + f 2 + f 3:=by
 show 0 + f 0 + f 1 + f 2 + f 3 = _
 omega
def arr (l:List Zc) (w d:Nat):Int :=
 if 0≤nx l w ((d + 1) % 4) then 1 else if 0≤nx l w d then 0 else if 0≤nx l w ((d + 3) % 4) then -1 else -2
theorem Zlu {l:List Zc} {p:Da} (h:p.2 < 4):tn p.2 (bh l p).2 = arr l (nx l p.1 p.2).toNat p.2:=by
 unfold bh arr tn
 have h1:¬ (p.2 + 1) % 4 = p.2:=by omega
 have h2:¬ (p.2 + 3) % 4 = p.2:=by omega
 have h3:¬ (p.2 + 2) % 4 = p.2:=by omega
 have h4:¬ (p.2 + 3) % 4 = (p.2 + 1) % 4:=by omega
 have h5:¬ (p.2 + 2) % 4 = (p.2 + 1) % 4:=by omega
 have h6:¬ (p.2 + 2) % 4 = (p.2 + 3) % 4:=by omega
 by_cases c0:0≤nx l (nx l p.1 p.2).toNat ((p.2 + 1) % 4)
 ·simp [c0,h1]
 ·by_cases c1:0≤nx l (nx l p.1 p.2).toNat p.2
  ·simp [c0,c1]
  ·by_cases c2:0≤nx l (nx l p.1 p.2).toNat ((p.2 + 3) % 4)
   ·simp [c0,c1,c2,h2,h4]
   ·simp [c0,c1,c2,h3,h5,h6]
def deg (l:List Zc) (w:Nat):Int:=sg (fun d=>if 0≤nx l w d then 1 else 0) 4
theorem Zg8 {l:List Zc} {w:Nat} (h:∃ d,d < 4∧0≤nx l w d):sg (fun d=>if 0≤nx l w ((d + 2) % 4) then arr l w d else 0) 4 = 2 * deg l w - 4:=by
 unfold deg
 rw [Zk3,Zk3]
 unfold arr
 simp only [show (0 + 2) % 4 = 2 from rfl,show (1 + 2) % 4 = 3 from rfl,show (2 + 2) % 4 = 0 from rfl,show (3 + 2) % 4 = 1 from rfl,show (0 + 1) % 4 = 1 from rfl,show (1 + 1) % 4 = 2 from rfl,show (2 + 1) % 4 = 3 from rfl,show (3 + 1) % 4 = 0 from rfl,show (0 + 3) % 4 = 3 from rfl,show (1 + 3) % 4 = 0 from rfl,show (2 + 3) % 4 = 1 from rfl,show (3 + 3) % 4 = 2 from rfl]
 by_cases c0:0≤nx l w 0 <;> by_cases c1:0≤nx l w 1 <;> by_cases c2:0≤nx l w 2 <;> by_cases c3:0≤nx l w 3 <;> simp [c0,c1,c2,c3]
 obtain ⟨d,hd,q⟩:=h
 have:d = 0∨d = 1∨d = 2∨d = 3:=by omega
 rcases this with rfl | rfl | rfl | rfl <;> omega
theorem ZiC {f g:Nat→Int}:∀ {n:Nat},sg (fun i=>f i - g i) n = sg f n - sg g n
 | 0=>rfl
 | n + 1=>by rw [sg,sg,sg,ZiC (n:=n)]; omega
theorem Zgx {c:Int}:∀ n:Nat,sg (fun _=>c) n = c * n
 | 0=>by simp [sg]
 | n + 1=>by rw [sg,Zgx n,Int.natCast_add,Int.mul_add]; omega
theorem Ck.back' {l:List Zc} (h:Ck l) {v d w:Nat} (hv:v < l.length) (hd:d < 4) (hw:nx l v d = w):w < l.length∧nx l w ((d + 2) % 4) = v:=by
 rcases h.s v d hv hd with ⟨a,_⟩ | ⟨u,a,b,_,c,_⟩
 ·omega
 ·have:w = u:=by omega
  subst this; exact ⟨b,c⟩
theorem ZiA {l:List Zc} (hc:Ck l) {d:Nat} (hd:d < 4) {f g:Nat→Int} (hf:∀ v,v < l.length→nx l v d < 0→f v = 0) (hg:∀ v,v < l.length→nx l v ((d + 2) % 4) < 0→g v = 0) (h:∀ v w:Nat,v < l.length→w < l.length→nx l v d = w→f v = g w):sg f l.length = sg g l.length:=by
 have e1:sg f l.length = sg (fun v=>sg (fun w=>if nx l v d = w then f v else 0) l.length) l.length:=by
  refine Zcz fun v hv=>?_
  have hlt:=hc.lt hv hd
  by_cases c:nx l v d < 0
  ·rw [hf v hv c,ZeF]
   intro i _
   rw [if_neg (by omega)]
  ·rw [ZgS (j:=(nx l v d).toNat) (by omega)]
   ·rw [if_pos (by omega)]
   ·intro i _ hne
    rw [if_neg (by omega)]
 have e2:sg g l.length = sg (fun w=>sg (fun v=>if nx l w ((d + 2) % 4) = v then g w else 0) l.length) l.length:=by
  refine Zcz fun v hv=>?_
  have hlt:=hc.lt hv (show (d + 2) % 4 < 4 by omega)
  by_cases c:nx l v ((d + 2) % 4) < 0
  ·rw [hg v hv c,ZeF]
   intro i _
   rw [if_neg (by omega)]
  ·rw [ZgS (j:=(nx l v ((d + 2) % 4)).toNat) (by omega)]
   ·rw [if_pos (by omega)]
   ·intro i _ hne
    rw [if_neg (by omega)]
 rw [e1,e2,ZeE]
 refine Zcz fun w hw=>Zcz fun v hv=>?_
 by_cases c:nx l v d = w
 ·have:=(hc.back' hv hd c).2
  rw [if_pos c,if_pos this,h v w hv hw c]
 ·rw [if_neg c,if_neg]
  intro q
  have:=(hc.back' hw (show (d + 2) % 4 < 4 by omega) q).2
  rw [show ((d + 2) % 4 + 2) % 4 = d by omega] at this
  exact c this
theorem Zg3 {l:List Zc} (hc:Ck l) (hw:ZcN l) (h2:2≤l.length):((Zcg l).map fun p=>tn p.2 (bh l p).2).sum = 2 * sg (deg l) l.length - 4 * l.length:=by
 rw [ZhI]
 have e1:sg (fun v=>sg (fun d=>if 0≤nx l v d then tn d (bh l (v,d)).2 else 0) 4) l.length = sg (fun d=>sg (fun v=>if 0≤nx l v d then tn d (bh l (v,d)).2 else 0) l.length) 4:=ZeE
 have e2:sg (fun d=>sg (fun v=>if 0≤nx l v d then tn d (bh l (v,d)).2 else 0) l.length) 4 = sg (fun d=>sg (fun w=>if 0≤nx l w ((d + 2) % 4) then arr l w d else 0) l.length) 4:=by
  refine Zcz fun d hd=>?_
  refine ZiA hc hd (fun v hv c=>if_neg (by omega)) (fun v hv c=>if_neg (by omega)) (fun v w hv hw e=>?_)
  have b:=(hc.back' hv hd e)
  rw [if_pos (by omega),if_pos (by omega)]
  have:=Zlu (l:=l) (p:=(v,d)) hd
  dsimp only at this
  rw [this,e,Int.toNat_natCast]
 have e3:sg (fun d=>sg (fun w=>if 0≤nx l w ((d + 2) % 4) then arr l w d else 0) l.length) 4 = sg (fun w=>2 * deg l w - 4) l.length:=by
  rw [ZeE]
  exact Zcz fun w hw'=>Zg8 (ZgU hc hw h2 hw')
 show sg (fun v=>sg (fun d=>if 0≤nx l v d then tn d (bh l (v,d)).2 else 0) 4) l.length = _
 rw [e1,e2,e3,ZiC,ZiB,Zgx]
theorem Zeo:∀ {R:List Int} {i a b:Int},Zdw R i a = some b→0≤i→R.sum = 4 * (R.length:Int) - (if 0≤b∧a < 0 then 8 else 0)
 | [],i,a,b,h,hi=>by
  simp only [Zdw,Option.some.injEq] at h
  subst h
  rw [if_neg (by omega)]
  rfl
 | r :: R,i,a,b,h,hi=>by
  rw [Zdw] at h
  rw [List.sum_cons,List.length_cons]
  by_cases c1:r = 4
  ·rw [if_pos c1] at h
   have:=Zeo h (by omega)
   rw [this]; omega
  ·rw [if_neg c1] at h
   by_cases c2:r = -4
   ·rw [if_pos c2] at h
    by_cases c3:0≤a
    ·rw [if_pos c3] at h; cases h
    ·rw [if_neg c3] at h
     have:=Zeo h (by omega)
     have rg:=Zen h (by omega) (by omega)
     rw [if_neg (by omega)] at this
     rw [this,if_pos (by omega)]; omega
   ·rw [if_neg c2] at h; cases h
theorem Zgo {l:List Zc} {a:Int} (h:Zft l = some a) (ha:0≤a):((ZaX l).flatten.map fun p=>tn p.2 (bh l p).2).sum = 4 * ((ZaX l).length:Int) - 8:=by
 have:=Zeo h (by omega)
 rw [if_pos (by omega),List.length_map] at this
 rw [Zg1,← this]
 rfl
theorem ZkY {l:List Zc} (h:Zgh l = 0) (h2:2≤l.length):2 * sg (deg l) l.length = 4 * ((ZaX l).length:Int) - 8 + 4 * l.length:=by
 obtain ⟨k,w,o⟩:=Zhz h
 obtain ⟨a,q,ha⟩:=o (by omega)
 have hc:=(Zdy.1 k).2
 have e1:=Zgo q ha
 have e2:=Zg3 hc w h2
 rw [Zi4 (ZgC hc),e2] at e1
 omega
theorem Zjd {l:List Zc} {w:Nat}:0≤deg l w∧deg l w≤4:=by
 unfold deg
 rw [Zk3]
 split <;> split <;> split <;> split <;> omega
theorem Zes {l:List Zc}:∀ n,0≤sg (deg l) n∧sg (deg l) n≤4 * (n:Int)
 | 0=>by simp [sg]
 | n + 1=>by
  have ih:=Zes (l:=l) n
  have:=Zjd (l:=l) (w:=n)
  rw [sg]
  omega
theorem Ze5 (z:zo) (y:Zag) (m1:z.At.length≤Go.maxLen) (b1:∀ y∈z.At,ZdM y) (m2:z.Bits.length≤Go.maxLen) (b2:∀ y∈z.Bits,ZdM y) (m3:z.Own.length≤Go.maxLen) (b3:∀ y∈z.Own,ZgW y) (n1:y.Boxes.length≤Go.maxLen) (c1:∀ x∈y.Boxes,ZfG x) (n2:y.Edges.length≤Go.maxLen) (c2:∀ x∈y.Edges,ZdW x) (n3:y.Bends.length≤Go.maxLen) (c3:∀ x∈y.Bends,ZdM x):ZV z y = some true:=by
 obtain ⟨l,pts,e1,hM,hlen⟩:=Zlh (z:=z) (most:=16) (okZ m1 b1 b3) (by omega)
 obtain ⟨s,e2,hs,_⟩:=Zkt (z:=y) c2 c3 (most:=8) (by omega)
 obtain ⟨w,e3⟩:=Zj4 hs
 obtain ⟨n,e4,hn⟩:=Zl9 hs
 have fin:∀ m:List Zc,m.length≤1200→(zT m).bind (fun x6=>if ((!(decide (x6 = 0))) || (decide ((m.length:Int) < 2))) = true then (Zam).bind fun x7=>some x7 else (za (ZV.s0 m) big (0,0)).bind fun darts1=>(Zam).bind fun x10=>(if x10 = true then (ZK m).bind fun x11=>ck (zH ((x11.length:Int) + (m.length:Int))) <| ck ((2:Int)≠0∧zH (darts1.tdiv 2)) <| ck (zH ((darts1.tdiv 2) + 2)) <| some (decide ((x11.length:Int) + (m.length:Int) = (darts1.tdiv 2) + 2)) else some false).bind fun t=>some t) = some true:=by
  intro m hm
  rw [Zhp hm,Option.bind_some]
  by_cases c:Zgh m = 0∧2≤m.length
  ·have k:=(Zhz c.1).1
   have hc:=(Zdy.1 k).2
   have eu:=ZkY c.1 c.2
   have rg:=Zes (l:=m) m.length
   have o2:=(Zd9 hc).2.1
   have row:∀ v,v < m.length→za (ZV.s1 m v) big (sg (deg m) v,0) = some (sg (deg m) (v + 1)):=by
    intro v hv
    have r:=Zes (l:=m) v
    refine ZbC (fun d:Nat=>(sg (deg m) v + sg (fun d=>if 0≤nx m v d then 1 else 0) d,(d:Int))) (n:=4) (Zbc (by omega)) (by dsimp only [sg]; rw [Int.add_zero]; rfl) (fun d hd=>?_) ?_
    ·have sd:0≤sg (fun d=>if 0≤nx m v d then (1:Int) else 0) d∧sg (fun d=>if 0≤nx m v d then (1:Int) else 0) d≤d:=by
      clear hd
      induction d with
      | zero=>simp [sg]
      | succ d ih=>rw [sg]; split <;> omega
     have en:(gi m v).Next.get (d:Int) = nx m v d:=rfl
     simp only [ZV.s1,Int.toNat_natCast,en]
     rw [ZM (by omega),Z8 (by omega)]
     by_cases q:0≤nx m v d
     ·rw [ZM q,zr (by omega),zr (by omega),sg,if_pos q,show ((d + 1:Nat):Int) = (d:Int) + 1 by omega,Int.add_assoc]
     ·rw [ZL q,zr (by omega),sg,if_neg q,show ((d + 1:Nat):Int) = (d:Int) + 1 by omega,Int.add_zero]
    ·simp only [ZV.s1]
     rw [ZL (by omega)]
     rfl
   have L:za (ZV.s0 m) big (0,0) = some (sg (deg m) m.length):=by
    refine ZbC (fun v:Nat=>(sg (deg m) v,(v:Int))) (n:=m.length) (Zbc (by omega)) rfl (fun v hv=>?_) ?_
    ·simp only [ZV.s0]
     rw [ZM (by omega),Z8 (by omega),row v hv,Option.bind_some,zr (by omega),show ((v + 1:Nat):Int) = (v:Int) + 1 by omega]
    ·simp only [ZV.s0]
     rw [ZL (by omega)]
   have dv:(sg (deg m) m.length).tdiv 2 = ((ZaX m).length:Int) - 2 + m.length:=by
    rw [Int.tdiv_eq_ediv_of_nonneg rg.1]; omega
   rw [if_neg (by simp [c.1]; omega),L,Option.bind_some,Zez,Option.bind_some,if_pos rfl,Zk2 (by omega) k,Option.bind_some,dv,List.length_map,zr (by omega),Z8 ⟨by decide,by unfold zH; omega⟩,zr (by omega),Option.bind_some,Zbj (by omega)]
  ·have:((!(decide (Zgh m = 0))) || (decide ((m.length:Int) < 2))) = true:=by
    simp
    by_cases q:Zgh m = 0
    ·right; omega
    ·left; exact q
   rw [if_pos this,Zez,Option.bind_some]
 unfold ZV
 rw [e1,Option.bind_some]
 dsimp only
 rw [e2,Option.bind_some,e3,Option.bind_some]
 by_cases c:w = 0
 ·rw [ZM c,e4,Option.bind_some,Zhp hn,Option.bind_some]
  by_cases q:Zgh n.Cells = 0
  ·rw [ZM q,Option.bind_some]
   exact fin _ hn
  ·rw [ZL q,Option.bind_some]
   exact fin _ (by omega)
 ·rw [ZL c,Option.bind_some]
  exact fin _ (by omega)
end Mu
