/- The law, plainly: what is worked out. -/
import Derived.Test.YtfdidkebomeiaaaMuV
import Derived.Test.YtfdidkebomeiaaaMuDf
/- Layer 10: cells,made of places. -/
set_option linter.unusedVariables false
set_option linter.unusedSimpArgs false
set_option maxRecDepth 10000
namespace Mu

def nx (l:List Ze) (v d:Nat):Int:=((gi l v).Next).get (d:Int)
def ow (l:List Ze) (v d:Nat):Int:=((gi l v).Owner).get (d:Int)
theorem ZeF {α:Type} {x:A4 α} {i j:Nat} {v:α} (hi:i < 4) (hj:j < 4):(x.set (i:Int) v).get (j:Int) = if j = i then v else x.get (j:Int):=by
 match i,j,hi,hj with
 | 0,0,_,_ | 0,1,_,_ | 0,2,_,_ | 0,3,_,_ | 1,0,_,_ | 1,1,_,_ | 1,2,_,_ | 1,3,_,_ | 2,0,_,_ | 2,1,_,_ | 2,2,_,_ | 2,3,_,_ | 3,0,_,_ | 3,1,_,_ | 3,2,_,_ | 3,3,_,_=>rfl
def noC:Ze:=⟨⟨-1,-1,-1,-1⟩,⟨0,0,0,0⟩⟩
theorem ZeJ {α:Type} [Inhabited α] {n i:Nat} {f:Nat→α} (h:i < n):gi ((List.range n).map f) i = f i:=by
 rw [ZbG (by simpa using h)]; simp
theorem ZdR {α:Type} [Inhabited α] {l m:List α} (h:l.length = m.length) (hg:∀ i,i < l.length→gi l i = gi m i):l = m:=by
 apply List.ext_getElem h
 intro i h1 h2
 have:=hg i h1
 rw [ZbG h1,ZbG h2] at this
 exact this

/-! New -/
theorem ZnG {n:Nat} (hn:n≤1000000000):zU n = some (List.replicate n noC):=by
 unfold zU
 rw [Z4 (by omega),Int.toNat_natCast,Zgp (x:=List.replicate n noC)]
 refine ZbJ (fun i:Nat=>(List.replicate i noC++List.replicate (n - i) ⟨⟨0,0,0,0⟩,⟨0,0,0,0⟩⟩,(i:Int))) (n:=n) (ZaI (by omega)) (by simp) (fun i hi=>?_) ?_
 ·have e1:List.replicate (n - i) (⟨⟨0,0,0,0⟩,⟨0,0,0,0⟩⟩:Ze) = ⟨⟨0,0,0,0⟩,⟨0,0,0,0⟩⟩ :: List.replicate (n - (i + 1)) ⟨⟨0,0,0,0⟩,⟨0,0,0,0⟩⟩:=by
   rw [show n - i = n - (i + 1) + 1 by omega,List.replicate_succ]
  have e2:List.replicate (i + 1) noC = List.replicate i noC++[noC]:=by rw [List.replicate_succ']
  have inner:ZT (zU.s1 i) big (List.replicate i noC++List.replicate (n - i) ⟨⟨0,0,0,0⟩,⟨0,0,0,0⟩⟩,0) = some (List.replicate (i + 1) noC++List.replicate (n - (i + 1)) ⟨⟨0,0,0,0⟩,⟨0,0,0,0⟩⟩):=by
   rw [e1,e2]
   generalize List.replicate (n - (i + 1)) (⟨⟨0,0,0,0⟩,⟨0,0,0,0⟩⟩:Ze) = r
   refine ZbJ (fun k:Nat=>(List.replicate i noC++(⟨⟨if 0 < k then -1 else 0,if 1 < k then -1 else 0,if 2 < k then -1 else 0,if 3 < k then -1 else 0⟩,⟨0,0,0,0⟩⟩:Ze) :: r,(k:Int))) (n:=4) (ZaI (by omega)) rfl (fun k hk=>?_) ?_
   ·have hlen:(List.replicate i noC).length = i:=by simp
    have g:∀ c:Ze,gi (List.replicate i noC++c :: r) i = c:=by
     intro c
     have:=Zcq (l:=List.replicate i noC) (m:=c :: r) (i:=0)
     rw [hlen,Nat.add_zero] at this
     rw [this]; rfl
    have st:∀ c d:Ze,(List.replicate i noC++c :: r).set i d = List.replicate i noC++d :: r:=by
     intro c d
     rw [List.set_append_right _ _ (by simp)]
     simp
    simp only [zU.s1]
    rw [ZA (by omega),Z4 (by simp; omega),Z4 (by omega),Z4 (by omega),Int.toNat_natCast,g,st]
    match k,hk with
    | 0,_ | 1,_ | 2,_ | 3,_=>rfl
   ·simp only [zU.s1]
    rw [ZC (by omega)]
    simp [noC]
  simp only [zU.s0]
  rw [ZA (by omega),inner,Option.bind_some,Z4 (by omega)]
  rfl
 ·simp only [zU.s0]
  rw [ZC (by omega)]
  simp

/-! The nearest -/
def Zg1 (at_:List Zf) (i d k:Nat):Prop:=k < at_.length∧if d = 0 then (gi at_ k).Y = (gi at_ i).Y∧(gi at_ i).X < (gi at_ k).X else (gi at_ k).X = (gi at_ i).X∧(gi at_ i).Y < (gi at_ k).Y
def ZcY (at_:List Zf) (d j k:Nat):Prop:=if d = 0 then (gi at_ j).X≤(gi at_ k).X else (gi at_ j).Y≤(gi at_ k).Y
def Zdo (at_:List Zf) (i d n:Nat) (w:Int):Prop:=(w = -1∧∀ k,k < n→¬ Zg1 at_ i d k)∨∃ j:Nat,w = j∧j < n∧Zg1 at_ i d j∧∀ k,k < n→Zg1 at_ i d k→ZcY at_ d j k
instance {at_ i d k}:Decidable (Zg1 at_ i d k):=by unfold Zg1; infer_instance
instance {at_ d j k}:Decidable (ZcY at_ d j k):=by unfold ZcY; infer_instance
theorem ZiJ {at_:List Zf} {i d n:Nat} (hl:at_.length≤1000) (hi:i < at_.length) (hd:d < 2) (hn:n < at_.length) {w:Int} (hw:Zdo at_ i d n w):∃ w',Zdo at_ i d (n + 1) w'∧zj.s0 at_ i d (w,n) = some (.inl (w',(n:Int) + 1)):=by
 have hlow:¬ Zg1 at_ i d n→Zdo at_ i d (n + 1) w:=by
  intro hc
  rcases hw with ⟨rfl,h⟩ | ⟨j,rfl,h1,h2,h3⟩
  ·refine .inl ⟨rfl,fun k hk=>?_⟩
   rcases Nat.lt_succ_iff_lt_or_eq.1 hk with h' | rfl
   ·exact h k h'
   ·exact hc
  ·refine .inr ⟨j,rfl,by omega,h2,fun k hk hk2=>?_⟩
   rcases Nat.lt_succ_iff_lt_or_eq.1 hk with h' | rfl
   ·exact h3 k h' hk2
   ·exact absurd hk2 hc
 have hnew:w = -1→Zg1 at_ i d n→Zdo at_ i d (n + 1) n:=by
  intro hw1 hc
  rcases hw with ⟨_,h⟩ | ⟨j,h0,_⟩
  ·refine .inr ⟨n,rfl,by omega,hc,fun k hk hk2=>?_⟩
   rcases Nat.lt_succ_iff_lt_or_eq.1 hk with h' | rfl
   ·exact absurd hk2 (h k h')
   ·unfold ZcY; split <;> omega
  ·omega
 have hkeep:∀ j:Nat,w = j→ZcY at_ d j n→Zdo at_ i d (n + 1) w:=by
  intro j hj hc
  rcases hw with ⟨h0,_⟩ | ⟨j',h0,h1,h2,h3⟩
  ·omega
  ·have:j = j':=by omega
   subst this
   refine .inr ⟨j,h0,by omega,h2,fun k hk hk2=>?_⟩
   rcases Nat.lt_succ_iff_lt_or_eq.1 hk with h' | rfl
   ·exact h3 k h' hk2
   ·exact hc
 have hturn:∀ j:Nat,w = j→¬ ZcY at_ d j n→Zg1 at_ i d n→Zdo at_ i d (n + 1) n:=by
  intro j hj hc hcand
  rcases hw with ⟨h0,_⟩ | ⟨j',h0,h1,h2,h3⟩
  ·omega
  ·have:j = j':=by omega
   subst this
   refine .inr ⟨n,rfl,by omega,hcand,fun k hk hk2=>?_⟩
   rcases Nat.lt_succ_iff_lt_or_eq.1 hk with h' | rfl
   ·have h4:=h3 k h' hk2
    unfold ZcY at h4 hc ⊢
    by_cases z:d = 0
    ·rw [if_pos z] at *; omega
    ·rw [if_neg z] at *; omega
   ·unfold ZcY; split <;> omega
 have hwc:w = -1∨∃ j:Nat,w = j∧j < n:=by
  rcases hw with ⟨h,_⟩ | ⟨j,h,h2,_⟩
  ·exact .inl h
  ·exact .inr ⟨j,h,h2⟩
 have hd':d = 0∨d = 1:=by omega
 rcases hd' with rfl | rfl
 ·have z:((0:Nat):Int) = 0:=rfl
  by_cases hY:(gi at_ n).Y = (gi at_ i).Y
  ·by_cases hX:(gi at_ i).X < (gi at_ n).X
   ·have hc:Zg1 at_ i 0 n:=⟨hn,by rw [if_pos rfl]; exact ⟨hY,hX⟩⟩
    rcases hwc with rfl | ⟨j,rfl,hj⟩
    ·refine ⟨n,hnew rfl hc,?_⟩
     simp (disch:=omega) only [zj.s0,z,hY,Z4,ZcB,Ze8,ZA,ZC,Zba,Za3,Zbz,ZbD,Option.bind_some,Int.toNat_natCast,List.length_append,List.length_cons,List.length_nil,Nat.zero_add,if_true,if_false,Bool.false_eq_true,Bool.not_true,Bool.not_false,Bool.true_and,Bool.false_and,Bool.and_true,Bool.and_false,Bool.true_or,Bool.false_or,Bool.or_true,Bool.or_false,decide_true,decide_false,Bool.not_eq_true,Bool.decide_eq_true,Int.reduceToNat]
     try simp (disch:=omega) only [Z4,ZcB,Ze8,ZA,ZC,Zba,Za3,Zbz,ZbD,Option.bind_some,Int.toNat_natCast,List.length_append,List.length_cons,List.length_nil,Nat.zero_add,if_true,if_false,Bool.false_eq_true,Bool.not_true,Bool.not_false,Bool.true_and,Bool.false_and,Bool.and_true,Bool.and_false,Bool.true_or,Bool.false_or,Bool.or_true,Bool.or_false,decide_true,decide_false,Bool.not_eq_true,Bool.decide_eq_true,Int.reduceToNat]
    ·by_cases hcl:ZcY at_ 0 j n
     ·refine ⟨j,hkeep j rfl hcl,?_⟩
      have hcl':(gi at_ j).X≤(gi at_ n).X:=by simpa [ZcY] using hcl
      simp (disch:=omega) only [zj.s0,z,hY,Z4,ZcB,Ze8,ZA,ZC,Zba,Za3,Zbz,ZbD,Option.bind_some,Int.toNat_natCast,List.length_append,List.length_cons,List.length_nil,Nat.zero_add,if_true,if_false,Bool.false_eq_true,Bool.not_true,Bool.not_false,Bool.true_and,Bool.false_and,Bool.and_true,Bool.and_false,Bool.true_or,Bool.false_or,Bool.or_true,Bool.or_false,decide_true,decide_false,Bool.not_eq_true,Bool.decide_eq_true,Int.reduceToNat]
      try simp (disch:=omega) only [Z4,ZcB,Ze8,ZA,ZC,Zba,Za3,Zbz,ZbD,Option.bind_some,Int.toNat_natCast,List.length_append,List.length_cons,List.length_nil,Nat.zero_add,if_true,if_false,Bool.false_eq_true,Bool.not_true,Bool.not_false,Bool.true_and,Bool.false_and,Bool.and_true,Bool.and_false,Bool.true_or,Bool.false_or,Bool.or_true,Bool.or_false,decide_true,decide_false,Bool.not_eq_true,Bool.decide_eq_true,Int.reduceToNat]
     ·refine ⟨n,hturn j rfl hcl hc,?_⟩
      have hcl':¬ (gi at_ j).X≤(gi at_ n).X:=by simpa [ZcY] using hcl
      simp (disch:=omega) only [zj.s0,z,hY,Z4,ZcB,Ze8,ZA,ZC,Zba,Za3,Zbz,ZbD,Option.bind_some,Int.toNat_natCast,List.length_append,List.length_cons,List.length_nil,Nat.zero_add,if_true,if_false,Bool.false_eq_true,Bool.not_true,Bool.not_false,Bool.true_and,Bool.false_and,Bool.and_true,Bool.and_false,Bool.true_or,Bool.false_or,Bool.or_true,Bool.or_false,decide_true,decide_false,Bool.not_eq_true,Bool.decide_eq_true,Int.reduceToNat]
      try simp (disch:=omega) only [Z4,ZcB,Ze8,ZA,ZC,Zba,Za3,Zbz,ZbD,Option.bind_some,Int.toNat_natCast,List.length_append,List.length_cons,List.length_nil,Nat.zero_add,if_true,if_false,Bool.false_eq_true,Bool.not_true,Bool.not_false,Bool.true_and,Bool.false_and,Bool.and_true,Bool.and_false,Bool.true_or,Bool.false_or,Bool.or_true,Bool.or_false,decide_true,decide_false,Bool.not_eq_true,Bool.decide_eq_true,Int.reduceToNat]
   ·refine ⟨w,hlow (fun hc=>hX (by have:=hc.2; rw [if_pos rfl] at this; exact this.2)),?_⟩
    simp (disch:=omega) only [zj.s0,z,hY,Z4,ZcB,Ze8,ZA,ZC,Zba,Za3,Zbz,ZbD,Option.bind_some,Int.toNat_natCast,List.length_append,List.length_cons,List.length_nil,Nat.zero_add,if_true,if_false,Bool.false_eq_true,Bool.not_true,Bool.not_false,Bool.true_and,Bool.false_and,Bool.and_true,Bool.and_false,Bool.true_or,Bool.false_or,Bool.or_true,Bool.or_false,decide_true,decide_false,Bool.not_eq_true,Bool.decide_eq_true,Int.reduceToNat]
    try simp (disch:=omega) only [Z4,ZcB,Ze8,ZA,ZC,Zba,Za3,Zbz,ZbD,Option.bind_some,Int.toNat_natCast,List.length_append,List.length_cons,List.length_nil,Nat.zero_add,if_true,if_false,Bool.false_eq_true,Bool.not_true,Bool.not_false,Bool.true_and,Bool.false_and,Bool.and_true,Bool.and_false,Bool.true_or,Bool.false_or,Bool.or_true,Bool.or_false,decide_true,decide_false,Bool.not_eq_true,Bool.decide_eq_true,Int.reduceToNat]
  ·refine ⟨w,hlow (fun hc=>hY (by have:=hc.2; rw [if_pos rfl] at this; exact this.1)),?_⟩
   simp (disch:=omega) only [zj.s0,z,hY,Z4,ZcB,Ze8,ZA,ZC,Zba,Za3,Zbz,ZbD,Option.bind_some,Int.toNat_natCast,List.length_append,List.length_cons,List.length_nil,Nat.zero_add,if_true,if_false,Bool.false_eq_true,Bool.not_true,Bool.not_false,Bool.true_and,Bool.false_and,Bool.and_true,Bool.and_false,Bool.true_or,Bool.false_or,Bool.or_true,Bool.or_false,decide_true,decide_false,Bool.not_eq_true,Bool.decide_eq_true,Int.reduceToNat]
   try simp (disch:=omega) only [Z4,ZcB,Ze8,ZA,ZC,Zba,Za3,Zbz,ZbD,Option.bind_some,Int.toNat_natCast,List.length_append,List.length_cons,List.length_nil,Nat.zero_add,if_true,if_false,Bool.false_eq_true,Bool.not_true,Bool.not_false,Bool.true_and,Bool.false_and,Bool.and_true,Bool.and_false,Bool.true_or,Bool.false_or,Bool.or_true,Bool.or_false,decide_true,decide_false,Bool.not_eq_true,Bool.decide_eq_true,Int.reduceToNat]
 ·have z:((1:Nat):Int) = 1:=rfl
  by_cases hY:(gi at_ n).X = (gi at_ i).X
  ·by_cases hX:(gi at_ i).Y < (gi at_ n).Y
   ·have hc:Zg1 at_ i 1 n:=⟨hn,by rw [if_neg (by decide)]; exact ⟨hY,hX⟩⟩
    rcases hwc with rfl | ⟨j,rfl,hj⟩
    ·refine ⟨n,hnew rfl hc,?_⟩
     simp (disch:=omega) only [zj.s0,z,hY,Z4,ZcB,Ze8,ZA,ZC,Zba,Za3,Zbz,ZbD,Option.bind_some,Int.toNat_natCast,List.length_append,List.length_cons,List.length_nil,Nat.zero_add,if_true,if_false,Bool.false_eq_true,Bool.not_true,Bool.not_false,Bool.true_and,Bool.false_and,Bool.and_true,Bool.and_false,Bool.true_or,Bool.false_or,Bool.or_true,Bool.or_false,decide_true,decide_false,Bool.not_eq_true,Bool.decide_eq_true,Int.reduceToNat]
     try simp (disch:=omega) only [Z4,ZcB,Ze8,ZA,ZC,Zba,Za3,Zbz,ZbD,Option.bind_some,Int.toNat_natCast,List.length_append,List.length_cons,List.length_nil,Nat.zero_add,if_true,if_false,Bool.false_eq_true,Bool.not_true,Bool.not_false,Bool.true_and,Bool.false_and,Bool.and_true,Bool.and_false,Bool.true_or,Bool.false_or,Bool.or_true,Bool.or_false,decide_true,decide_false,Bool.not_eq_true,Bool.decide_eq_true,Int.reduceToNat]
    ·by_cases hcl:ZcY at_ 1 j n
     ·refine ⟨j,hkeep j rfl hcl,?_⟩
      have hcl':(gi at_ j).Y≤(gi at_ n).Y:=by simpa [ZcY] using hcl
      simp (disch:=omega) only [zj.s0,z,hY,Z4,ZcB,Ze8,ZA,ZC,Zba,Za3,Zbz,ZbD,Option.bind_some,Int.toNat_natCast,List.length_append,List.length_cons,List.length_nil,Nat.zero_add,if_true,if_false,Bool.false_eq_true,Bool.not_true,Bool.not_false,Bool.true_and,Bool.false_and,Bool.and_true,Bool.and_false,Bool.true_or,Bool.false_or,Bool.or_true,Bool.or_false,decide_true,decide_false,Bool.not_eq_true,Bool.decide_eq_true,Int.reduceToNat]
      try simp (disch:=omega) only [Z4,ZcB,Ze8,ZA,ZC,Zba,Za3,Zbz,ZbD,Option.bind_some,Int.toNat_natCast,List.length_append,List.length_cons,List.length_nil,Nat.zero_add,if_true,if_false,Bool.false_eq_true,Bool.not_true,Bool.not_false,Bool.true_and,Bool.false_and,Bool.and_true,Bool.and_false,Bool.true_or,Bool.false_or,Bool.or_true,Bool.or_false,decide_true,decide_false,Bool.not_eq_true,Bool.decide_eq_true,Int.reduceToNat]
     ·refine ⟨n,hturn j rfl hcl hc,?_⟩
      have hcl':¬ (gi at_ j).Y≤(gi at_ n).Y:=by simpa [ZcY] using hcl
      simp (disch:=omega) only [zj.s0,z,hY,Z4,ZcB,Ze8,ZA,ZC,Zba,Za3,Zbz,ZbD,Option.bind_some,Int.toNat_natCast,List.length_append,List.length_cons,List.length_nil,Nat.zero_add,if_true,if_false,Bool.false_eq_true,Bool.not_true,Bool.not_false,Bool.true_and,Bool.false_and,Bool.and_true,Bool.and_false,Bool.true_or,Bool.false_or,Bool.or_true,Bool.or_false,decide_true,decide_false,Bool.not_eq_true,Bool.decide_eq_true,Int.reduceToNat]
      try simp (disch:=omega) only [Z4,ZcB,Ze8,ZA,ZC,Zba,Za3,Zbz,ZbD,Option.bind_some,Int.toNat_natCast,List.length_append,List.length_cons,List.length_nil,Nat.zero_add,if_true,if_false,Bool.false_eq_true,Bool.not_true,Bool.not_false,Bool.true_and,Bool.false_and,Bool.and_true,Bool.and_false,Bool.true_or,Bool.false_or,Bool.or_true,Bool.or_false,decide_true,decide_false,Bool.not_eq_true,Bool.decide_eq_true,Int.reduceToNat]
   ·refine ⟨w,hlow (fun hc=>hX (by have:=hc.2; rw [if_neg (by decide)] at this; exact this.2)),?_⟩
    simp (disch:=omega) only [zj.s0,z,hY,Z4,ZcB,Ze8,ZA,ZC,Zba,Za3,Zbz,ZbD,Option.bind_some,Int.toNat_natCast,List.length_append,List.length_cons,List.length_nil,Nat.zero_add,if_true,if_false,Bool.false_eq_true,Bool.not_true,Bool.not_false,Bool.true_and,Bool.false_and,Bool.and_true,Bool.and_false,Bool.true_or,Bool.false_or,Bool.or_true,Bool.or_false,decide_true,decide_false,Bool.not_eq_true,Bool.decide_eq_true,Int.reduceToNat]
    try simp (disch:=omega) only [Z4,ZcB,Ze8,ZA,ZC,Zba,Za3,Zbz,ZbD,Option.bind_some,Int.toNat_natCast,List.length_append,List.length_cons,List.length_nil,Nat.zero_add,if_true,if_false,Bool.false_eq_true,Bool.not_true,Bool.not_false,Bool.true_and,Bool.false_and,Bool.and_true,Bool.and_false,Bool.true_or,Bool.false_or,Bool.or_true,Bool.or_false,decide_true,decide_false,Bool.not_eq_true,Bool.decide_eq_true,Int.reduceToNat]
  ·refine ⟨w,hlow (fun hc=>hY (by have:=hc.2; rw [if_neg (by decide)] at this; exact this.1)),?_⟩
   simp (disch:=omega) only [zj.s0,z,hY,Z4,ZcB,Ze8,ZA,ZC,Zba,Za3,Zbz,ZbD,Option.bind_some,Int.toNat_natCast,List.length_append,List.length_cons,List.length_nil,Nat.zero_add,if_true,if_false,Bool.false_eq_true,Bool.not_true,Bool.not_false,Bool.true_and,Bool.false_and,Bool.and_true,Bool.and_false,Bool.true_or,Bool.false_or,Bool.or_true,Bool.or_false,decide_true,decide_false,Bool.not_eq_true,Bool.decide_eq_true,Int.reduceToNat]
   try simp (disch:=omega) only [Z4,ZcB,Ze8,ZA,ZC,Zba,Za3,Zbz,ZbD,Option.bind_some,Int.toNat_natCast,List.length_append,List.length_cons,List.length_nil,Nat.zero_add,if_true,if_false,Bool.false_eq_true,Bool.not_true,Bool.not_false,Bool.true_and,Bool.false_and,Bool.and_true,Bool.and_false,Bool.true_or,Bool.false_or,Bool.or_true,Bool.or_false,decide_true,decide_false,Bool.not_eq_true,Bool.decide_eq_true,Int.reduceToNat]
theorem Zcf {σ ρ:Type} {step:σ→Option (σ ⊕ ρ)} {n:Nat} (I:Nat→σ→Prop) {s0:σ} {R:ρ→Prop} (hn:n < big) (h0:I 0 s0) (hs:∀ i s,i < n→I i s→∃ s',step s = some (.inl s')∧I (i + 1) s') (he:∀ s,I n s→∃ r,step s = some (.inr r)∧R r):∃ r,ZT step big s0 = some r∧R r:=by
 have key:∀ k i s,i + k = n→I i s→∃ r,ZT step (k + 1) s = some r∧R r:=by
  intro k
  induction k with
  | zero =>
   intro i s hi hI
   obtain rfl:i = n:=by omega
   obtain ⟨r,hr,hR⟩:=he s hI
   exact ⟨r,by simp only [ZT,hr],hR⟩
  | succ k ih =>
   intro i s hi hI
   obtain ⟨s',hs',hI'⟩:=hs i s (by omega) hI
   obtain ⟨r,hr,hR⟩:=ih (i + 1) s' (by omega) hI'
   exact ⟨r,by rw [ZT,hs']; exact hr,hR⟩
 obtain ⟨r,hr,hR⟩:=key n 0 s0 (by omega) h0
 exact ⟨r,ZcI hr (by unfold big at *; omega),hR⟩
theorem Znk {at_:List Zf} {i d:Nat} (hl:at_.length≤1000) (hi:i < at_.length) (hd:d < 2):∃ w,zj at_ i d = some w∧Zdo at_ i d at_.length w:=by
 obtain ⟨r,hr,hR⟩:=Zcf (step:=zj.s0 at_ i d) (n:=at_.length) (I:=fun n (s:Int × Int)=>s.2 = n∧Zdo at_ i d n s.1) (s0:=((-1:Int),(0:Int))) (R:=Zdo at_ i d at_.length) (ZaI (by omega)) ⟨rfl,.inl ⟨rfl,fun k hk=>by omega⟩⟩ (fun n (s:Int × Int) hn hs=>by
  obtain ⟨w,m⟩:=s
  obtain ⟨rfl,hw⟩:=hs
  obtain ⟨w',h1,h2⟩:=ZiJ hl hi hd hn hw
  exact ⟨_,h2,rfl,h1⟩) (fun (s:Int × Int) hs=>by
  obtain ⟨w,m⟩:=s
  obtain ⟨rfl,hw⟩:=hs
  exact ⟨w,by simp only [zj.s0]; rw [ZC (by omega)],hw⟩)
 exact ⟨r,by unfold zj; rw [hr]; rfl,hR⟩
end Mu
/- Layer 10: crossed,with,make. -/
set_option linter.unusedVariables false
set_option linter.unusedSimpArgs false
set_option maxRecDepth 10000
namespace Mu

theorem zE {α:Type} {x:Int} {o:Option α} (h:-9223372036854775808≤x∧x≤9223372036854775807):ck (Zal x) o = o:=Z4 h
def ZdV (at_:List Zf) (l:List Ze) (i w a d:Nat):Bool :=
 let p:=gi at_ a
 let q:=gi at_ (nx l a d).toNat
 let s:=gi at_ i
 let t:=gi at_ w
 decide (0≤nx l a d) && ((decide (p.Y = q.Y) && decide (s.X = t.X) && decide (p.X < s.X) && decide (s.X < q.X) && decide (s.Y < p.Y) && decide (p.Y < t.Y)) || (decide (p.X = q.X) && decide (s.Y = t.Y) && decide (s.X < p.X) && decide (p.X < t.X) && decide (p.Y < s.Y) && decide (s.Y < q.Y)))
theorem ZlE {a:Bool} {b:Bool}:(if a = true then some b else some false) = some (a && b):=by cases a <;> rfl
theorem ZkR {at_:List Zf} {l:List Ze} {i w a d:Nat} (hl:at_.length = l.length) (hi:i < l.length) (hw:w < l.length) (ha:a < l.length) (hd:d < 2) (hn:nx l a d < l.length):zi.s1 at_ l i w a d = some (if ZdV at_ l i w a d = true then .inr (.inr ()) else .inl ((d:Int) + 1)):=by
 unfold zi.s1
 rw [ZA (by omega),Z4 (by omega),Z4 (by omega),Int.toNat_natCast]
 have e:((gi l a).Next).get (d:Int) = nx l a d:=rfl
 rw [e]
 unfold ZdV
 by_cases h0:nx l a d < 0
 ·rw [ZA h0,zE (by omega),ZbD (show ¬ 0≤nx l a d by omega)]
  simp
 ·rw [ZC h0,Z4 (by omega),Z4 (by omega),Zbz (show 0≤nx l a d by omega)]
  have k1:∀ (α:Type) (o:Option α),ck ((0:Int)≤(i:Int)∧(i:Int) < (at_.length:Int)) o = o:=fun _ _=>Z4 (by omega)
  have k2:∀ (α:Type) (o:Option α),ck ((0:Int)≤(w:Int)∧(w:Int) < (at_.length:Int)) o = o:=fun _ _=>Z4 (by omega)
  have k3:∀ (α:Type) (o:Option α),ck (Zal ((d:Int) + 1)) o = o:=fun _ _=>zE (by omega)
  simp only [k1,k2,k3,Int.toNat_natCast,Option.bind_some,ZlE,Bool.true_and]
  generalize (decide ((gi at_ a).Y = (gi at_ (nx l a d).toNat).Y) && decide ((gi at_ i).X = (gi at_ w).X) && decide ((gi at_ a).X < (gi at_ i).X) && decide ((gi at_ i).X < (gi at_ (nx l a d).toNat).X) && decide ((gi at_ i).Y < (gi at_ a).Y) && decide ((gi at_ a).Y < (gi at_ w).Y)) = A
  generalize (decide ((gi at_ a).X = (gi at_ (nx l a d).toNat).X) && decide ((gi at_ i).Y = (gi at_ w).Y) && decide ((gi at_ i).X < (gi at_ a).X) && decide ((gi at_ a).X < (gi at_ w).X) && decide ((gi at_ a).Y < (gi at_ i).Y) && decide ((gi at_ i).Y < (gi at_ (nx l a d).toNat).Y)) = B
  cases A <;> cases B <;> rfl
def Zf7 (at_:List Zf) (l:List Ze) (i w a:Nat):Bool:=ZdV at_ l i w a 0 || ZdV at_ l i w a 1
def ZiA (at_:List Zf) (l:List Ze) (i w:Nat):Bool:=(List.range l.length).any fun a=>Zf7 at_ l i w a
theorem ZkS {at_:List Zf} {l:List Ze} {i w a:Nat} (hl:at_.length = l.length) (hi:i < l.length) (hw:w < l.length) (hn:∀ a d,a < l.length→d < 2→nx l a d < l.length) (ha:a < l.length):ZT (zi.s1 at_ l i w a) big 0 = some (if Zf7 at_ l i w a = true then .inr () else .inl ()):=by
 have h:ZT (zi.s1 at_ l i w a) big 0 = some (match (List.range 2).find? (fun d=>ZdV at_ l i w a d) with | some i=>.inr ((fun _=>()) i) | none=>.inl ()):=by
  refine Zc8 (ZaI (by omega)) (fun d hd=>?_) ?_
  ·exact ZkR hl hi hw ha hd (hn a d ha hd)
  ·simp only [zi.s1]
   rw [ZC (by omega)]
 rw [h]
 have e:(List.range 2).find? (fun d=>ZdV at_ l i w a d) = if ZdV at_ l i w a 0 = true then some 0 else if ZdV at_ l i w a 1 = true then some 1 else none:=by
  have:List.range 2 = [0,1]:=by decide
  rw [this]
  cases c0:ZdV at_ l i w a 0 <;> cases c1:ZdV at_ l i w a 1 <;> simp [c0,c1]
 rw [e]
 unfold Zf7
 cases c0:ZdV at_ l i w a 0 <;> cases c1:ZdV at_ l i w a 1 <;> simp
theorem ZkQ {at_:List Zf} {l:List Ze} {i w a:Nat} (hl:at_.length = l.length) (h1000:l.length≤1000) (hi:i < l.length) (hw:w < l.length) (hn:∀ a d,a < l.length→d < 2→nx l a d < l.length) (ha:a < l.length):zi.s0 at_ l i w a = some (if Zf7 at_ l i w a = true then .inr (.inr ()) else .inl ((a:Int) + 1)):=by
 simp only [zi.s0]
 rw [ZA (by omega),ZkS hl hi hw hn ha,Option.bind_some]
 by_cases c:Zf7 at_ l i w a = true
 ·rw [if_pos c,if_pos c]
 ·rw [if_neg c,if_neg c]
  dsimp only
  rw [zE (by omega)]
theorem ZkU {at_:List Zf} {l:List Ze} {i w:Nat}:zi.s0 at_ l i w l.length = some (.inr (.inl ())):=by
 simp only [zi.s0]
 rw [ZC (by omega)]
theorem ZjN {n:Nat} {P:Nat→Bool}:((List.range n).any P) = ((List.range n).find? P).isSome:=by
 rw [Bool.eq_iff_iff,List.find?_isSome,List.any_eq_true]
theorem ZkT {at_:List Zf} {l:List Ze} {i w:Nat} (hl:at_.length = l.length) (h1000:l.length≤1000) (hi:i < l.length) (hw:w < l.length) (hn:∀ a d,a < l.length→d < 2→nx l a d < l.length):ZT (zi.s0 at_ l i w) big 0 = some (match (List.range l.length).find? (fun a=>Zf7 at_ l i w a) with | some i=>.inr ((fun _=>()) i) | none=>.inl ()) :=
 Zc8 (ZaI (by omega)) (fun a ha=>ZkQ hl h1000 hi hw hn ha) ZkU
theorem Zki {at_:List Zf} {l:List Ze} {i w:Nat} (hl:at_.length = l.length) (h1000:l.length≤1000) (hi:i < l.length) (hw:w < l.length) (hn:∀ a d,a < l.length→d < 2→nx l a d < l.length):zi at_ l i w = some (ZiA at_ l i w):=by
 have h0:=ZkT hl h1000 hi hw hn
 unfold zi
 rw [h0]
 unfold ZiA
 rw [ZjN]
 cases h:(List.range l.length).find? fun a=>Zf7 at_ l i w a with
 | none=>simp
 | some j=>simp

/-! with -/
def wC1 (c:Ze) (d w o:Int):Ze:=⟨c.Next.set d w,c.Owner.set d o⟩
def wC (l:List Ze) (v d w o:Int) (i:Nat):Ze :=
 let c:=if (i:Int) = v then wC1 (gi l i) d w o else gi l i
 if (i:Int) = w then wC1 c ((d + 2).tmod 4) v o else c
def wth (l:List Ze) (v d w o:Int):List Ze:=(List.range l.length).map (wC l v d w o)
theorem Zdd {l:List Ze} {v d w o:Int}:(wth l v d w o).length = l.length:=by simp [wth]
theorem Znp {l:List Ze} {v d w o:Int} (hl:l.length≤100000) (hd:0≤d∧d < 4):Za4 l v d w o = some (wth l v d w o):=by
 unfold Za4
 rw [Zgp (x:=wth l v d w o)]
 refine ZbJ (fun n:Nat=>((List.range n).map (wC l v d w o),(n:Int))) (n:=l.length) (ZaI (by omega)) rfl (fun n hn=>?_) ?_
 ·have hm:((List.range n).map (wC l v d w o)).length = n:=by simp
  have t:=Int.tmod_nonneg 4 (show (0:Int)≤d + 2 by omega)
  have t2:=Int.tmod_lt_of_pos (d + 2) (show (0:Int) < 4 by omega)
  rw [List.range_succ,List.map_append,List.map_cons,List.map_nil]
  simp only [Za4.s0]
  rw [ZA (by omega),Z4 (by omega),Int.toNat_natCast]
  unfold wC
  by_cases c1:(n:Int) = v
  ·rw [ZA c1,Z4 hd,Option.bind_some]
   by_cases c2:(n:Int) = w
   ·rw [ZA c2,zE (by omega),Z4 (by omega),Z4 (by simp; omega),zE (by omega),if_pos c1,if_pos c2]
    rfl
   ·rw [ZC c2,Z4 (by simp; omega),zE (by omega),if_pos c1,if_neg c2]
    rfl
  ·rw [ZC c1,Option.bind_some]
   by_cases c2:(n:Int) = w
   ·rw [ZA c2,zE (by omega),Z4 (by omega),Z4 (by simp; omega),zE (by omega),if_neg c1,if_pos c2]
    rfl
   ·rw [ZC c2,Z4 (by simp; omega),zE (by omega),if_neg c1,if_neg c2]
    rfl
 ·simp only [Za4.s0]
  rw [ZC (by omega)]
  rfl
theorem ZgZ {l:List Ze} {v w d i e:Nat} {o:Int} (hv:v < l.length) (hw:w < l.length) (hvw:v≠w) (hd:d < 4) (hi:i < l.length) (he:e < 4):nx (wth l v d w o) i e = (if i = v∧e = d then (w:Int) else if i = w∧e = (d + 2) % 4 then (v:Int) else nx l i e)∧ow (wth l v d w o) i e = (if i = v∧e = d then o else if i = w∧e = (d + 2) % 4 then o else ow l i e):=by
 have hb:(((d:Int) + 2).tmod 4) = (((d + 2) % 4:Nat):Int):=by
  match d,hd with
  | 0,_ | 1,_ | 2,_ | 3,_=>rfl
 have g:gi (wth l v d w o) i = wC l v d w o i:=ZeJ hi
 unfold nx ow
 rw [g]
 unfold wC
 rw [hb]
 by_cases c1:i = v
 ·subst c1
  rw [if_pos rfl,if_neg (show ¬ ((i:Nat):Int) = (w:Int) by omega)]
  simp only [wC1]
  rw [ZeF hd he,ZeF hd he]
  have:¬ (i = w):=hvw
  simp [this]
 ·rw [if_neg (show ¬ ((i:Nat):Int) = (v:Int) by omega)]
  by_cases c2:i = w
  ·subst c2
   rw [if_pos rfl]
   simp only [wC1]
   rw [ZeF (by omega) he,ZeF (by omega) he]
   simp [c1]
  ·rw [if_neg (show ¬ ((i:Nat):Int) = (w:Int) by omega)]
   simp [c1,c2]

/-! What may be. -/
structure Ck (l:List Ze):Prop where
 s:∀ v d,v < l.length→d < 4→(nx l v d = -1∧ow l v d = 0)∨∃ w:Nat,nx l v d = w∧w < l.length∧w≠v∧nx l w ((d + 2) % 4) = v∧ow l w ((d + 2) % 4) = ow l v d∧-2≤ow l v d
theorem Ck.new (n:Nat):Ck (List.replicate n noC):=⟨fun v d hv hd=>.inl (by
 have:gi (List.replicate n noC) v = noC:=by rw [ZbG hv]; simp
 unfold nx ow; rw [this]
 match d,hd with
 | 0,_ | 1,_ | 2,_ | 3,_=>exact ⟨rfl,rfl⟩)⟩
theorem Ck.wth {l:List Ze} (h:Ck l) {v w d:Nat} {o:Int} (hv:v < l.length) (hw:w < l.length) (hvw:v≠w) (hd:d < 4) (h1:nx l v d = -1) (h2:nx l w ((d + 2) % 4) = -1) (ho:-2≤o):Ck (wth l v d w o):=by
 refine ⟨fun i e hi he=>?_⟩
 rw [Zdd] at hi ⊢
 have n1:=fun i e hi he=>(ZgZ (o:=o) hv hw hvw hd (i:=i) (e:=e) hi he).1
 have n2:=fun i e hi he=>(ZgZ (o:=o) hv hw hvw hd (i:=i) (e:=e) hi he).2
 rw [n1 i e hi he,n2 i e hi he]
 by_cases c1:i = v∧e = d
 ·rw [if_pos c1,if_pos c1]
  refine .inr ⟨w,rfl,hw,by omega,?_,?_,ho⟩
  ·rw [n1 w _ hw (by omega),if_neg (by omega),if_pos ⟨rfl,by rw [c1.2]⟩,c1.1]
  ·rw [n2 w _ hw (by omega),if_neg (by omega),if_pos ⟨rfl,by rw [c1.2]⟩]
 ·rw [if_neg c1,if_neg c1]
  by_cases c2:i = w∧e = (d + 2) % 4
  ·rw [if_pos c2,if_pos c2]
   refine .inr ⟨v,rfl,hv,by omega,?_,?_,ho⟩
   ·rw [n1 v _ hv (by omega),if_pos ⟨rfl,by omega⟩,c2.1]
   ·rw [n2 v _ hv (by omega),if_pos ⟨rfl,by omega⟩]
  ·rw [if_neg c2,if_neg c2]
   rcases h.s i e hi he with hh | ⟨x,x1,x2,x3,x4,x5,x6⟩
   ·exact .inl hh
   ·refine .inr ⟨x,x1,x2,x3,?_,?_,x6⟩
    ·rw [n1 x _ x2 (by omega)]
     rw [if_neg (fun c=>by
      have:nx l x ((e + 2) % 4) = -1:=by rw [c.1,c.2]; exact h1
      omega)]
     rw [if_neg (fun c=>by
      have:nx l x ((e + 2) % 4) = -1:=by rw [c.1,c.2]; exact h2
      omega)]
     exact x4
    ·rw [n2 x _ x2 (by omega)]
     rw [if_neg (fun c=>by
      have:nx l x ((e + 2) % 4) = -1:=by rw [c.1,c.2]; exact h1
      omega)]
     rw [if_neg (fun c=>by
      have:nx l x ((e + 2) % 4) = -1:=by rw [c.1,c.2]; exact h2
      omega)]
     exact x5
end Mu
/- Layer 10: make. -/
set_option linter.unusedVariables false
set_option linter.unusedSimpArgs false
set_option maxRecDepth 10000
namespace Mu

theorem ZdA {σ ρ:Type} {step:σ→Option (σ ⊕ ρ)} (μ:σ→Nat) (I:σ→Prop) {s0:σ} {R:ρ→Prop} (hn:μ s0 < big) (h0:I s0) (hs:∀ s,I s→(∃ s',step s = some (.inl s')∧I s'∧μ s' < μ s)∨∃ r,step s = some (.inr r)∧R r):∃ r,ZT step big s0 = some r∧R r:=by
 have key:∀ k s,μ s≤k→I s→∃ r,ZT step (k + 1) s = some r∧R r:=by
  intro k
  induction k with
  | zero =>
   intro s hk hI
   rcases hs s hI with ⟨s',h1,h2,h3⟩ | ⟨r,h1,h2⟩
   ·omega
   ·exact ⟨r,by simp only [ZT,h1],h2⟩
  | succ k ih =>
   intro s hk hI
   rcases hs s hI with ⟨s',h1,h2,h3⟩ | ⟨r,h1,h2⟩
   ·obtain ⟨r,hr,hR⟩:=ih s' (by omega) h2
    exact ⟨r,by rw [ZT,h1]; exact hr,hR⟩
   ·exact ⟨r,by rw [ZT,h1],h2⟩
 obtain ⟨r,hr,hR⟩:=key (μ s0) s0 (Nat.le_refl _) h0
 exact ⟨r,ZcI hr (by omega),hR⟩

structure Pts (at_:List Zf):Prop where
 b:∀ i,i < at_.length→0≤(gi at_ i).X∧(gi at_ i).X < 8∧0≤(gi at_ i).Y∧(gi at_ i).Y < 8
 d:∀ i j,i < at_.length→j < at_.length→gi at_ i = gi at_ j→i = j
theorem Pts.nil:Pts []:=⟨fun i h=>by simp at h,fun i j h=>by simp at h⟩
theorem Pts.app {at_:List Zf} (h:Pts at_) {p:Zf} (hp:0≤p.X∧p.X < 8∧0≤p.Y∧p.Y < 8) (hn:∀ k,k < at_.length→gi at_ k≠p):Pts (at_++[p]):=by
 have g1:∀ i,i < at_.length→gi (at_++[p]) i = gi at_ i:=fun i hi=>Zc0 hi
 have g2:gi (at_++[p]) at_.length = p:=by
  have:=Zcq (l:=at_) (m:=[p]) (i:=0)
  rw [Nat.add_zero] at this
  rw [this]; rfl
 refine ⟨fun i hi=>?_,fun i j hi hj hij=>?_⟩
 ·simp only [List.length_append,List.length_cons,List.length_nil] at hi
  by_cases c:i < at_.length
  ·rw [g1 i c]; exact h.b i c
  ·rw [show i = at_.length by omega,g2]; exact hp
 ·simp only [List.length_append,List.length_cons,List.length_nil] at hi hj
  by_cases c:i < at_.length <;> by_cases c2:j < at_.length
  ·rw [g1 i c,g1 j c2] at hij; exact h.d i j c c2 hij
  ·rw [g1 i c,show j = at_.length by omega,g2] at hij; exact absurd hij (hn i c)
  ·rw [g1 j c2,show i = at_.length by omega,g2] at hij; exact absurd hij.symm (hn j c2)
  ·omega
theorem Zko {at_:List Zf} (hp:Pts at_) {i j d:Nat} {w:Nat} (hi:i < at_.length) (hj:j < at_.length) (hd:d < 2) (h1:Zdo at_ i d at_.length w) (h2:Zdo at_ j d at_.length w):i = j:=by
 rcases h1 with ⟨h,_⟩ | ⟨w1,e1,l1,c1,m1⟩
 ·omega
 rcases h2 with ⟨h,_⟩ | ⟨w2,e2,l2,c2,m2⟩
 ·omega
 obtain rfl:w = w1:=by omega
 obtain rfl:w = w2:=by omega
 apply hp.d i j hi hj
 have x1:=m1 j hj
 have x2:=m2 i hi
 have c1:=c1.2
 have c2:=c2.2
 unfold Zg1 ZcY at x1 x2
 by_cases z:d = 0
 ·simp only [if_pos z] at *
  have hX:(gi at_ i).X = (gi at_ j).X:=by
   by_cases q1:(gi at_ i).X < (gi at_ j).X
   ·have:=x1 ⟨hj,by omega,q1⟩; omega
   ·by_cases q2:(gi at_ j).X < (gi at_ i).X
    ·have:=x2 ⟨hi,by omega,q2⟩; omega
    ·omega
  have hY:(gi at_ i).Y = (gi at_ j).Y:=by omega
  generalize gi at_ i = p at *
  generalize gi at_ j = q at *
  obtain ⟨a,b⟩:=p
  obtain ⟨a',b'⟩:=q
  simp only at hX hY
  rw [hX,hY]
 ·simp only [if_neg z] at *
  have hX:(gi at_ i).Y = (gi at_ j).Y:=by
   by_cases q1:(gi at_ i).Y < (gi at_ j).Y
   ·have:=x1 ⟨hj,by omega,q1⟩; omega
   ·by_cases q2:(gi at_ j).Y < (gi at_ i).Y
    ·have:=x2 ⟨hi,by omega,q2⟩; omega
    ·omega
  have hY:(gi at_ i).X = (gi at_ j).X:=by omega
  generalize gi at_ i = p at *
  generalize gi at_ j = q at *
  obtain ⟨a,b⟩:=p
  obtain ⟨a',b'⟩:=q
  simp only at hX hY
  rw [hX,hY]
structure Mk (at_:List Zf) (l:List Ze) (i d:Nat):Prop where
 len:l.length = at_.length
 ck:Ck l
 near:∀ v e,v < l.length→e < 2→nx l v e = -1∨((v < i∨v = i∧e < d)∧Zdo at_ v e at_.length (nx l v e))
 own:∀ v e,v < l.length→e < 4→-2≤ow l v e∧ow l v e≤1000
theorem Mk.step {at_:List Zf} {l:List Ze} {i d:Nat} (h:Mk at_ l i d):Mk at_ l i (d + 1) :=
 ⟨h.len,h.ck,fun v e hv he=>(h.near v e hv he).imp id (fun ⟨a,b⟩=>⟨by omega,b⟩),h.own⟩
theorem Mk.next {at_:List Zf} {l:List Ze} {i:Nat} (h:Mk at_ l i 2):Mk at_ l (i + 1) 0 :=
 ⟨h.len,h.ck,fun v e hv he=>(h.near v e hv he).imp id (fun ⟨a,b⟩=>⟨by omega,b⟩),h.own⟩
theorem Ck.lt {l:List Ze} (h:Ck l) {v d:Nat} (hv:v < l.length) (hd:d < 4):-1≤nx l v d∧nx l v d < l.length:=by
 rcases h.s v d hv hd with ⟨a,_⟩ | ⟨w,a,b,_⟩ <;> omega
theorem Mk.lay {at_:List Zf} (hp:Pts at_) {l:List Ze} {i d w:Nat} {o:Int} (h:Mk at_ l i d) (hi:i < l.length) (hd:d < 2) (hw:Zdo at_ i d at_.length w) (ho:-2≤o∧o≤1000):Mk at_ (wth l i d w o) i (d + 1):=by
 have hl:=h.len
 have hwl:w < l.length∧Zg1 at_ i d w:=by
  rcases hw with ⟨e,_⟩ | ⟨j,e,h1,h2,_⟩
  ·omega
  ·have:w = j:=by omega
   subst this; exact ⟨by omega,h2⟩
 have hne:i≠w:=by
  rintro rfl
  have:=hwl.2.2
  split at this <;> omega
 have n1:nx l i d = -1:=by
  rcases h.near i d hi (by omega) with e | ⟨e,_⟩
  ·exact e
  ·omega
 have n2:nx l w ((d + 2) % 4) = -1:=by
  rcases h.ck.s w ((d + 2) % 4) hwl.1 (by omega) with ⟨e,_⟩ | ⟨x,e1,e2,e3,e4,e5,e6⟩
  ·exact e
  ·rw [show ((d + 2) % 4 + 2) % 4 = d by omega] at e4
   rcases h.near x d e2 hd with e | ⟨e,e7⟩
   ·omega
   ·rw [e4] at e7
    have:=Zko hp (by omega) (by omega) hd e7 hw
    subst this
    omega
 have m1:=fun v e hv he=>(ZgZ (o:=o) hi hwl.1 hne (show d < 4 by omega) (i:=v) (e:=e) hv he).1
 have m2:=fun v e hv he=>(ZgZ (o:=o) hi hwl.1 hne (show d < 4 by omega) (i:=v) (e:=e) hv he).2
 refine ⟨by rw [Zdd]; exact hl,h.ck.wth hi hwl.1 hne (by omega) n1 n2 ho.1,fun v e hv he=>?_,fun v e hv he=>?_⟩
 ·rw [Zdd] at hv
  rw [m1 v e hv (by omega)]
  by_cases c:v = i∧e = d
  ·rw [if_pos c]
   right
   refine ⟨by omega,?_⟩
   rw [c.1,c.2]; exact hw
  ·rw [if_neg c]
   rw [if_neg (fun c2=>by omega)]
   exact (h.near v e hv he).imp id (fun ⟨a,b⟩=>⟨by omega,b⟩)
 ·rw [Zdd] at hv
  rw [m2 v e hv he]
  by_cases c:v = i∧e = d
  ·rw [if_pos c]; exact ho
  ·rw [if_neg c]
   by_cases c2:v = w∧e = (d + 2) % 4
   ·rw [if_pos c2]; exact ho
   ·rw [if_neg c2]; exact h.own v e hv he
theorem Zmg {at_:List Zf} (hp:Pts at_) (h1000:at_.length≤1000) {l:List Ze} {i:Nat} {b o:Int} (h:Mk at_ l i 0) (hi:i < l.length) (ho:-2≤o∧o≤1000):∃ l',ZT (ZV.s3 i b at_ o) big (l,0) = some l'∧Mk at_ l' i 2∧i < l'.length:=by
 refine Zcf (n:=2) (I:=fun n (s:List Ze × Int)=>s.2 = n∧Mk at_ s.1 i n∧i < s.1.length) (R:=fun l'=>Mk at_ l' i 2∧i < l'.length) (ZaI (by omega)) ⟨rfl,h,hi⟩ ?_ ?_
 ·rintro d ⟨l,x⟩ hd ⟨hx,hM,hi⟩
  dsimp only at hx hM hi
  subst hx
  have hl:=hM.len
  obtain ⟨w,hw,hN⟩:=Znk (at_:=at_) (i:=i) (d:=d) h1000 (by omega) hd
  simp only [ZV.s3]
  rw [ZA (by omega),hw,Option.bind_some,Z4 (by omega),zE (by omega)]
  by_cases c:((decide (Z6 .u8 (ZO .u8 b d) 1 = 0)) || (decide (w < 0))) = true
  ·rw [if_pos c]
   exact ⟨_,rfl,rfl,hM.step,hi⟩
  ·rw [if_neg c]
   have hw0:¬ w < 0:=by
    intro hh
    apply c
    simp [hh]
   obtain ⟨wn,rfl⟩:∃ wn:Nat,w = wn:=⟨w.toNat,by omega⟩
   have hwl:wn < l.length:=by
    rcases hN with ⟨e,_⟩ | ⟨j,e,h1,h2,_⟩
    ·omega
    ·omega
   rw [Zki hl.symm (by omega) hi hwl (fun a e ha he=>(hM.ck.lt ha (by omega)).2),Option.bind_some,Znp (by omega) (by omega)]
   by_cases c2:(!ZiA at_ l i wn) = true
   ·rw [if_pos c2,Option.bind_some,zE (by omega)]
    exact ⟨_,rfl,rfl,hM.lay hp hi hd hN ho,by rw [Zdd]; exact hi⟩
   ·rw [if_neg c2]
    exact ⟨_,rfl,rfl,hM.step,hi⟩
 ·rintro ⟨l,x⟩ ⟨hx,hM,hi⟩
  dsimp only at hx hM hi
  subst hx
  simp only [ZV.s3]
  rw [ZC (by omega)]
  exact ⟨_,rfl,hM,hi⟩

theorem Zmf {z:zX} {at_:List Zf} (hp:Pts at_) (h1000:at_.length≤1000) (hown:∀ y∈z.Own,Wf .i8 y) {l:List Ze} (h:Mk at_ l 0 0):∃ r:List Zf × List Ze,ZT (ZV.s2 z) big (at_,l,0) = some r∧r.1 = at_∧Mk at_ r.2 at_.length 0:=by
 refine Zcf (n:=at_.length) (I:=fun n (s:List Zf × List Ze × Int)=>s.1 = at_∧s.2.2 = n∧Mk at_ s.2.1 n 0) (s0:=(at_,l,(0:Int))) (R:=fun r:List Zf × List Ze=>r.1 = at_∧Mk at_ r.2 at_.length 0) (ZaI (by omega)) ⟨rfl,rfl,h⟩ ?_ ?_
 ·rintro i ⟨a,l,x⟩ hi ⟨ha,hx,hM⟩
  dsimp only at ha hx hM
  subst ha hx
  have hb:∃ b,(if decide ((i:Int) < (z.Bits.length:Int)) = true then ck ((0:Int)≤(i:Int)∧(i:Int) < (z.Bits.length:Int)) (some (a,l,gi z.Bits (i:Int).toNat)) else some (a,l,3)) = some (a,l,b):=by
   by_cases c:(i:Int) < (z.Bits.length:Int)
   ·exact ⟨gi z.Bits i,by rw [ZA c,Z4 (by omega)]; rfl⟩
   ·exact ⟨3,by rw [ZC c]⟩
  have ho:∃ o:Int,(-2≤o∧o≤1000)∧(if decide ((i:Int) < (z.Own.length:Int)) = true then ck ((0:Int)≤(i:Int)∧(i:Int) < (z.Own.length:Int)) (ck (inK .i64 (gi z.Own (i:Int).toNat)) (if decide ((gi z.Own (i:Int).toNat) < (-2)) = true then ck (Zal (-(gi z.Own (i:Int).toNat))) (some (a,l,-(gi z.Own (i:Int).toNat))) else some (a,l,gi z.Own (i:Int).toNat))) else some (a,l,(i:Int))) = some (a,l,o):=by
   by_cases c:(i:Int) < (z.Own.length:Int)
   ·have hw:=(hown _ (Zcp (show i < z.Own.length by omega))).i8
    rw [ZA c,Z4 (by omega),Int.toNat_natCast,ZcB (by omega)]
    by_cases c2:gi z.Own i < -2
    ·exact ⟨-(gi z.Own i),by omega,by rw [ZA c2,zE (by omega)]⟩
    ·exact ⟨gi z.Own i,by omega,by rw [ZC c2]⟩
   ·exact ⟨i,by omega,by rw [ZC c]⟩
  obtain ⟨b,hb⟩:=hb
  obtain ⟨o,ho1,ho⟩:=ho
  have hl:=hM.len
  obtain ⟨l',h1,h2,h3⟩:=Zmg (b:=b) hp h1000 hM (by omega) ho1
  simp only [ZV.s2]
  rw [ZA (by omega),hb,Option.bind_some]
  dsimp only
  rw [ho,Option.bind_some]
  dsimp only
  rw [h1,Option.bind_some,zE (by omega)]
  exact ⟨_,rfl,rfl,rfl,h2.next⟩
 ·rintro ⟨a,l,x⟩ ⟨ha,hx,hM⟩
  dsimp only at ha hx hM
  subst ha hx
  simp only [ZV.s2]
  rw [ZC (by omega)]
  exact ⟨_,rfl,rfl,hM⟩
theorem Zme {z:zX} {at_:List Zf} {i:Nat} (h1000:at_.length≤1000):∃ m:Bool,ZT (ZV.s1 z at_ i) big (false,0) = some (at_,m)∧(m = false→∀ k,k < at_.length→gi at_ k≠(⟨(gi z.At i).tmod 8,((gi z.At i).tdiv 8).tmod 8⟩:Zf)):=by
 obtain ⟨r,h1,h2,h3⟩:=Zcf (step:=ZV.s1 z at_ i) (s0:=((false:Bool),(0:Int))) (n:=at_.length) (I:=fun n (s:Bool × Int)=>s.2 = n∧(s.1 = false→∀ k,k < n→gi at_ k≠(⟨(gi z.At i).tmod 8,((gi z.At i).tdiv 8).tmod 8⟩:Zf))) (R:=fun r:List Zf × Bool=>r.1 = at_∧(r.2 = false→∀ k,k < at_.length→gi at_ k≠(⟨(gi z.At i).tmod 8,((gi z.At i).tdiv 8).tmod 8⟩:Zf))) (ZaI (by omega)) ⟨rfl,fun _ k hk=>by omega⟩ (by
  rintro n ⟨m,x⟩ hn ⟨hx,hm⟩
  dsimp only at hx hm
  subst hx
  simp only [ZV.s1]
  rw [ZA (by omega)]
  cases m with
  | true =>
   rw [if_pos rfl,Option.bind_some,zE (by omega)]
   exact ⟨_,rfl,rfl,fun h=>by cases h⟩
  | false =>
   rw [if_neg (by decide),Z4 (by omega),Option.bind_some,zE (by omega),Int.toNat_natCast,Int.toNat_natCast]
   refine ⟨_,rfl,rfl,fun h k hk=>?_⟩
   rcases Nat.lt_succ_iff_lt_or_eq.1 hk with h' | rfl
   ·exact hm rfl k h'
   ·simpa using h) (by
  rintro ⟨m,x⟩ ⟨hx,hm⟩
  dsimp only at hx hm
  subst hx
  simp only [ZV.s1]
  rw [ZC (by omega)]
  exact ⟨_,rfl,rfl,hm⟩)
 obtain ⟨a,m⟩:=r
 dsimp only at h2 h3
 subst h2
 exact ⟨m,h1,h3⟩
theorem Zmd {z:zX} {most:Int} (hm:0≤most∧most≤1000) (hlen:z.At.length≤9223372036854775807) (hat:∀ y∈z.At,Wf .u8 y):∃ a,ZT (ZV.s0 z most) big (([]:List Zf),0) = some a∧Pts a∧(a.length:Int)≤most:=by
 refine ZdA (μ:=fun s:List Zf × Int=>((z.At.length:Int) - s.2).toNat) (I:=fun s=>0≤s.2∧Pts s.1∧(s.1.length:Int)≤most) (R:=fun a=>Pts a∧(a.length:Int)≤most) (ZaI (by omega)) ⟨by decide,Pts.nil,by simpa using hm.1⟩ ?_
 rintro ⟨a,i⟩ ⟨h1,h2,h3⟩
 dsimp only at h1 h2 h3
 obtain ⟨n,rfl⟩:∃ n:Nat,i = n:=⟨i.toNat,by omega⟩
 simp only [ZV.s0]
 by_cases c:((decide ((n:Int) < (z.At.length:Int))) && (decide ((a.length:Int) < most))) = true
 ·left
  rw [if_pos c]
  rw [Bool.and_eq_true,decide_eq_true_iff,decide_eq_true_iff] at c
  have hu:=(hat _ (Zcp (show n < z.At.length by omega))).u8
  obtain ⟨m,e1,e2⟩:=Zme (z:=z) (at_:=a) (i:=n) (by omega)
  have hdv:0≤(gi z.At n).tdiv 8∧(gi z.At n).tdiv 8≤255:=by
   rw [Int.tdiv_eq_ediv_of_nonneg hu.1]; omega
  rw [Z4 (by omega),Int.toNat_natCast,ZcB (by omega),Z4 ⟨by omega,by constructor <;> omega⟩,e1,Option.bind_some]
  dsimp only
  cases m with
  | false =>
   rw [if_pos (by decide),Z4 (by simp; omega),zE (by omega)]
   refine ⟨_,rfl,⟨by omega,h2.app ?_ (e2 rfl),by simp; omega⟩,by dsimp only; omega⟩
   have a1:=Int.tmod_nonneg 8 hu.1
   have a2:=Int.tmod_lt_of_pos (gi z.At n) (show (0:Int) < 8 by omega)
   have a3:=Int.tmod_nonneg 8 hdv.1
   have a4:=Int.tmod_lt_of_pos ((gi z.At n).tdiv 8) (show (0:Int) < 8 by omega)
   exact ⟨a1,a2,a3,a4⟩
  | true =>
   rw [if_neg (by decide),zE (by omega)]
   exact ⟨_,rfl,⟨by dsimp only; omega,h2,h3⟩,by dsimp only; omega⟩
 ·right
  rw [if_neg c]
  exact ⟨_,rfl,h2,h3⟩
structure Made (l:List Ze) (at_:List Zf):Prop where
 pts:Pts at_
 len:l.length = at_.length
 ck:Ck l
 near:∀ v e,v < l.length→e < 2→nx l v e = -1∨Zdo at_ v e at_.length (nx l v e)
 own:∀ v e,v < l.length→e < 4→-2≤ow l v e∧ow l v e≤1000
structure OkZ (z:zX):Prop where
 a:z.At.length≤9223372036854775807
 b:∀ y∈z.At,Wf .u8 y
 o:∀ y∈z.Own,Wf .i8 y
theorem Znh {z:zX} {most:Int} (hz:OkZ z) (hm:0≤most∧most≤1000):∃ l at_,ZV z most = some (l,at_)∧Made l at_∧(l.length:Int)≤most:=by
 obtain ⟨a,h1,hp,hl⟩:=Zmd hm hz.a hz.b
 have hM:Mk a (List.replicate a.length noC) 0 0:=⟨by simp,Ck.new _,fun v e hv he=>.inl (by
   have:gi (List.replicate a.length noC) v = noC:=by rw [ZbG hv]; simp
   unfold nx; rw [this]
   match e,he with
   | 0,_ | 1,_=>rfl),fun v e hv he=>by
   have:gi (List.replicate a.length noC) v = noC:=by rw [ZbG hv]; simp
   unfold ow; rw [this]
   match e,he with
   | 0,_ | 1,_ | 2,_ | 3,_=>decide⟩
 obtain ⟨⟨a',l⟩,h2,h3,h4⟩:=Zmf (z:=z) hp (by omega) hz.o hM
 dsimp only at h3 h4
 subst h3
 refine ⟨l,a',?_,⟨hp,h4.len,h4.ck,fun v e hv he=>(h4.near v e hv he).imp id (·.2),h4.own⟩,by rw [h4.len]; exact hl⟩
 unfold ZV
 rw [h1,Option.bind_some,ZnG (by omega),Option.bind_some,h2,Option.bind_some]
end Mu
/- Layer 10: check. -/
set_option linter.unusedVariables false
set_option linter.unusedSimpArgs false
set_option maxRecDepth 10000
namespace Mu

def Zeb (l:List Ze) (v d:Nat):Int :=
 if nx l v d = -1 then (if ow l v d = 0 then 0 else 9)
 else if nx l v d < 0∨(l.length:Int)≤nx l v d∨nx l v d = v then 3
 else if nx l (nx l v d).toNat ((d + 2) % 4) = v∧ow l (nx l v d).toNat ((d + 2) % 4) = ow l v d∧¬ ow l v d < -2 then 0 else 9
theorem Zlv {d:Nat} (hd:d < 4):Zbr d 2 = some (((d + 2) % 4:Nat):Int):=by
 match d,hd with
 | 0,_ | 1,_ | 2,_ | 3,_=>decide
theorem tm2 {d:Nat} (hd:d < 4):((d:Int) + 2).tmod 4 = (((d + 2) % 4:Nat):Int):=by
 match d,hd with
 | 0,_ | 1,_ | 2,_ | 3,_=>rfl
theorem Znm {l:List Ze} {v d:Nat} (hv:v < l.length) (hd:d < 4):ZcK l v d = some (Zeb l v d):=by
 unfold ZcK Zeb
 have e:((gi l v).Next).get (d:Int) = nx l v d:=rfl
 have e2:((gi l v).Owner).get (d:Int) = ow l v d:=rfl
 rw [Z4 (by omega),Z4 (by omega),Int.toNat_natCast,e,e2]
 by_cases c:nx l v d = -1
 ·rw [ZA c,if_pos c]
  by_cases c2:ow l v d = 0
  ·rw [Za3 c2,if_pos c2]
  ·rw [Zba c2,if_neg c2]
 ·rw [ZC c,if_neg c]
  by_cases c2:nx l v d < 0∨(l.length:Int)≤nx l v d∨nx l v d = v
  ·rw [if_pos c2,if_pos (by simpa [or_assoc] using c2)]
  ·rw [if_neg c2,if_neg (by simpa [or_assoc] using c2),Zlv hd,Option.bind_some,Z4 (by omega),Z4 (by omega)]
   have e3:((gi l (nx l v d).toNat).Next).get (((d + 2) % 4:Nat):Int) = nx l (nx l v d).toNat ((d + 2) % 4):=rfl
   have e4:((gi l (nx l v d).toNat).Owner).get (((d + 2) % 4:Nat):Int) = ow l (nx l v d).toNat ((d + 2) % 4):=rfl
   rw [e3,e4]
   by_cases q1:nx l (nx l v d).toNat ((d + 2) % 4) = v <;> by_cases q2:ow l (nx l v d).toNat ((d + 2) % 4) = ow l v d <;> by_cases q3:ow l v d < -2 <;> simp [q1,q2,q3]
def ZfB (l:List Ze) (v:Nat):Int:=match (List.range 4).find? (fun d=>decide (Zeb l v d≠0)) with | some d=>Zeb l v d | none=>0
def Zed (l:List Ze):Int:=if 4096 < l.length then 6 else match (List.range l.length).find? (fun v=>decide (ZfB l v≠0)) with | some v=>ZfB l v | none=>0
theorem Zh2 {n:Nat} {f:Nat→Int}:(match (List.range n).find? (fun d=>decide (f d≠0)) with | some d=>f d | none=>0) = 0↔∀ d,d < n→f d = 0:=by
 cases h:(List.range n).find? (fun d=>decide (f d≠0)) with
 | none =>
  rw [List.find?_range_eq_none] at h
  simp only [true_iff]
  intro d hd
  have:=h d hd
  simpa using this
 | some j =>
  rw [List.find?_range_eq_some] at h
  have h1:f j≠0:=by simpa using h.1
  have h2:j < n:=by simpa using h.2.1
  constructor
  ·intro h3; exact absurd h3 h1
  ·intro h3; exact h3 j h2
theorem ZhH {l:List Ze} {v:Nat}:ZfB l v = 0↔∀ d,d < 4→Zeb l v d = 0:=Zh2
theorem Zjy {l:List Ze}:Zed l = 0↔l.length≤4096∧∀ v,v < l.length→∀ d,d < 4→Zeb l v d = 0:=by
 unfold Zed
 by_cases c:4096 < l.length
 ·rw [if_pos c]; constructor
  ·intro h; omega
  ·intro h; omega
 ·rw [if_neg c,Zh2]
  constructor
  ·intro h; exact ⟨by omega,fun v hv=>ZhH.1 (h v hv)⟩
  ·intro h v hv; exact ZhH.2 (h.2 v hv)
theorem Zhl {l:List Ze} {v d:Nat}:Zeb l v d = 0↔(nx l v d = -1∧ow l v d = 0)∨∃ w:Nat,nx l v d = w∧w < l.length∧w≠v∧nx l w ((d + 2) % 4) = v∧ow l w ((d + 2) % 4) = ow l v d∧-2≤ow l v d:=by
 unfold Zeb
 by_cases c:nx l v d = -1
 ·rw [if_pos c]
  by_cases c2:ow l v d = 0
  ·simp [c,c2]
  ·rw [if_neg c2]
   constructor
   ·intro h; omega
   ·rintro (⟨_,h⟩ | ⟨w,h,_⟩)
    ·exact absurd h c2
    ·omega
 ·rw [if_neg c]
  by_cases c2:nx l v d < 0∨(l.length:Int)≤nx l v d∨nx l v d = v
  ·rw [if_pos c2]
   constructor
   ·intro h; omega
   ·rintro (⟨h,_⟩ | ⟨w,h,h1,h2,_⟩)
    ·exact absurd h c
    ·omega
  ·rw [if_neg c2]
   constructor
   ·intro h
    split at h
    ·rename_i q
     exact .inr ⟨(nx l v d).toNat,by omega,by omega,by omega,q.1,q.2.1,by omega⟩
    ·omega
   ·rintro (⟨h,_⟩ | ⟨w,h,h1,h2,h3,h4,h5⟩)
    ·exact absurd h c
    ·have:(nx l v d).toNat = w:=by omega
     rw [this,if_pos ⟨h3,h4,by omega⟩]
theorem Zd6 {l:List Ze}:Zed l = 0↔l.length≤4096∧Ck l:=by
 rw [Zjy]
 constructor
 ·intro h; exact ⟨h.1,⟨fun v d hv hd=>Zhl.1 (h.2 v hv d hd)⟩⟩
 ·intro h; exact ⟨h.1,fun v hv d hd=>Zhl.2 (h.2.s v d hv hd)⟩
theorem Zil {n:Nat} {f:Nat→Int}:((match (List.range n).find? (fun d=>decide (f d≠0)) with | some d=>(.inr (f d):Unit ⊕ Int) | none=>.inl ())) = if (match (List.range n).find? (fun d=>decide (f d≠0)) with | some d=>f d | none=>0) = 0 then .inl () else .inr (match (List.range n).find? (fun d=>decide (f d≠0)) with | some d=>f d | none=>0):=by
 cases h:(List.range n).find? (fun d=>decide (f d≠0)) with
 | none=>simp
 | some j =>
  rw [List.find?_range_eq_some] at h
  have h1:f j≠0:=by simpa using h.1
  rw [if_neg h1]
theorem ZnH {l:List Ze} {v:Nat} (hv:v < l.length):ZT (zV.s1 l v) big 0 = some (if ZfB l v = 0 then .inl () else .inr (ZfB l v)):=by
 have h:ZT (zV.s1 l v) big 0 = some (match (List.range 4).find? (fun d=>decide (Zeb l v d≠0)) with | some d=>.inr (Zeb l v d) | none=>.inl ()):=by
  refine Zc8 (ZaI (by omega)) (fun d hd=>?_) ?_
  ·simp only [zV.s1]
   rw [ZA (by omega),Znm hv hd,Option.bind_some]
   by_cases c:Zeb l v d = 0
   ·rw [Za3 c,if_neg (by simpa using c),zE (by omega)]
   ·rw [Zba c,if_pos (by simpa using c)]
  ·simp only [zV.s1]
   rw [ZC (by omega)]
 rw [h,Zil]; rfl
theorem Zez {l:List Ze} (hl:l.length≤1000000000000):zV l = some (Zed l):=by
 unfold zV Zed
 by_cases c:4096 < l.length
 ·rw [if_pos c,ZA (by omega)]
 ·rw [if_neg c,ZC (by omega)]
  have h:ZT (zV.s0 l) big 0 = some (match (List.range l.length).find? (fun v=>decide (ZfB l v≠0)) with | some v=>.inr (ZfB l v) | none=>.inl ()):=by
   refine Zc8 (ZaI (by omega)) (fun v hv=>?_) ?_
   ·simp only [zV.s0]
    rw [ZA (by omega),ZnH hv,Option.bind_some]
    by_cases c:ZfB l v = 0
    ·rw [if_pos c,if_neg (by simpa using c)]
     dsimp only
     rw [zE (by omega)]
    ·rw [if_neg c,if_pos (by simpa using c)]
   ·simp only [zV.s0]
    rw [ZC (by omega)]
  rw [h]
  cases (List.range l.length).find? (fun v=>decide (ZfB l v≠0)) <;> simp
theorem Znz {l:List Ze} {v d:Nat} (hv:v < l.length) (hd:d < 4):z5.s1 l v d = some (if decide (Zeb l v d≠0) = true then .inr (.inr (Zeb l v d)) else .inl ((d:Int) + 1)):=by
 unfold z5.s1
 have e:((gi l v).Next).get (d:Int) = nx l v d:=rfl
 have e2:((gi l v).Owner).get (d:Int) = ow l v d:=rfl
 rw [ZA (by omega),Z4 (by omega),Z4 (by omega),Int.toNat_natCast,e,e2]
 unfold Zeb
 by_cases c:nx l v d = -1
 ·rw [ZA c,if_pos c]
  by_cases c2:ow l v d = 0
  ·rw [Za3 c2,if_pos c2,zE (by omega)]; rfl
  ·rw [Zba c2,if_neg c2]; rfl
 ·rw [ZC c,if_neg c]
  by_cases c2:nx l v d < 0∨(l.length:Int)≤nx l v d∨nx l v d = v
  ·rw [if_pos c2,if_pos (by simpa [or_assoc] using c2)]; rfl
  ·rw [if_neg c2,if_neg (by simpa [or_assoc] using c2),zE (by omega),Z4 (by omega),tm2 hd,Z4 (by omega),zE (by omega)]
   have e3:((gi l (nx l v d).toNat).Next).get (((d + 2) % 4:Nat):Int) = nx l (nx l v d).toNat ((d + 2) % 4):=rfl
   have e4:((gi l (nx l v d).toNat).Owner).get (((d + 2) % 4:Nat):Int) = ow l (nx l v d).toNat ((d + 2) % 4):=rfl
   rw [e3,e4]
   by_cases q1:nx l (nx l v d).toNat ((d + 2) % 4) = v <;> by_cases q2:ow l (nx l v d).toNat ((d + 2) % 4) = ow l v d <;> by_cases q3:ow l v d < -2 <;> simp [q1,q2,q3]
theorem Zmt {l:List Ze} (hl:l.length≤1000000000000):z5 l = some (Zed l):=by
 unfold z5 Zed
 by_cases c:4096 < l.length
 ·rw [if_pos c,ZA (by omega)]
 ·rw [if_neg c,ZC (by omega)]
  have hrow:∀ v,v < l.length→ZT (z5.s1 l v) big 0 = some (if ZfB l v = 0 then .inl () else .inr (ZfB l v)):=by
   intro v hv
   have h:ZT (z5.s1 l v) big 0 = some (match (List.range 4).find? (fun d=>decide (Zeb l v d≠0)) with | some d=>.inr (Zeb l v d) | none=>.inl ()):=by
    refine Zc8 (ZaI (by omega)) (fun d hd=>Znz hv hd) ?_
    simp only [z5.s1]
    rw [ZC (by omega)]
   rw [h,Zil]; rfl
  have h:ZT (z5.s0 l) big 0 = some (match (List.range l.length).find? (fun v=>decide (ZfB l v≠0)) with | some v=>.inr (ZfB l v) | none=>.inl ()):=by
   refine Zc8 (ZaI (by omega)) (fun v hv=>?_) ?_
   ·simp only [z5.s0]
    rw [ZA (by omega),hrow v hv,Option.bind_some]
    by_cases c:ZfB l v = 0
    ·rw [if_pos c,if_neg (by simpa using c)]
     dsimp only
     rw [zE (by omega)]
    ·rw [if_neg c,if_pos (by simpa using c)]
   ·simp only [z5.s0]
    rw [ZC (by omega)]
  rw [h]
  cases (List.range l.length).find? (fun v=>decide (ZfB l v≠0)) <;> simp
end Mu
/- Layer 10: a grid's cells,played with. -/
set_option linter.unusedVariables false
set_option linter.unusedSimpArgs false
set_option maxRecDepth 10000
namespace Mu
structure Rg (l:List Ze):Prop where
 len:l.length≤4096
 nx:∀ v d:Nat,v < l.length→d < 4→nx l v d = -1∨(0≤nx l v d∧nx l v d < l.length)
theorem Rg.wth {l:List Ze} {v w d:Nat} {o:Int} (h:Rg l) (hv:v < l.length) (hw:w < l.length) (hvw:v≠w) (hd:d < 4):Rg (wth l v d w o):=by
 refine ⟨by rw [Zdd]; exact h.len,fun i e hi he=>?_⟩
 rw [Zdd] at hi ⊢
 rw [(ZgZ hv hw hvw hd hi he).1]
 split
 ·omega
 ·split
  ·omega
  ·exact h.nx i e hi he
theorem Zkq {d:Nat} (h:d < 4):noC.Next.get (d:Int) = -1∧noC.Owner.get (d:Int) = 0:=by
 match d,h with
 | 0,_ | 1,_ | 2,_ | 3,_=>exact ⟨rfl,rfl⟩
theorem Rg.add {l:List Ze} (h:Rg l) (hl:l.length < 4096):Rg (l++[noC]):=by
 refine ⟨by simp; omega,fun i e hi he=>?_⟩
 rw [List.length_append,List.length_singleton] at hi ⊢
 unfold Mu.nx
 by_cases c:i < l.length
 ·rw [Zc0 c]
  have:=h.nx i e c he
  unfold Mu.nx at this
  omega
 ·rw [show i = l.length + 0 by omega,Zcq]
  exact .inl (Zkq he).1
end Mu
/- Layer 10: GridPlays. -/
set_option linter.unusedVariables false
set_option linter.unusedSimpArgs false
set_option maxRecDepth 10000
namespace Mu
theorem Rg.start {n:Nat} (h:n≤4096):Rg (List.replicate n noC):=by
 refine ⟨by simpa using h,fun v d hv hd=>?_⟩
 simp only [List.length_replicate] at hv
 have:gi (List.replicate n noC) v = noC:=by rw [ZbG (by simpa using hv)]; simp
 unfold Mu.nx
 rw [this]
 exact .inl (Zkq hd).1
end Mu
/- Layer 10: a split edge. -/
set_option linter.unusedVariables false
set_option linter.unusedSimpArgs false
set_option maxRecDepth 10000
namespace Mu
end Mu
/- Layer 10: turned cells; what Split and Of answer. -/
set_option linter.unusedVariables false
set_option linter.unusedSimpArgs false
set_option maxRecDepth 10000
namespace Mu
end Mu
/- Layer 13: what hangs together,by steps. -/
set_option linter.unusedVariables false
set_option linter.unusedSimpArgs false
set_option maxRecDepth 10000
namespace Mu

theorem ZiF {α:Type} [Inhabited α] {l:List α} {n i:Nat} (h:i < n):gi (l.take n) i = gi l i:=by
 unfold gi
 simp [List.getElem?_take,h]
theorem Znj {n:Nat} (h:n≤1200):Zda 1 n = some (0,(n:Int)):=by
 have key:∀ n:Fin 1201,Zda 1 ((n:Nat):Int) = some (0,((n:Nat):Int)):=by decide +kernel
 exact key ⟨n,by omega⟩
theorem Zji {n:Nat} (h:n≤1200):Zaf [-1] n = some (List.replicate n (-1)):=by
 have L:∃ r,ZT Zaf.s0 big (([-1]:List Int).take (List.replicate n (0:Int)).length++(List.replicate n (0:Int)).drop ([-1]:List Int).length,((min ([-1]:List Int).length (List.replicate n (0:Int)).length:Nat):Int)) = some r∧(r.length = n∧∀ i,i < n→gi r i = -1):=by
  refine ZdA (μ:=fun s=>((n:Int) - s.2).toNat) (I:=fun s=>s.1.length = n∧(0≤s.2∧s.2≤(n:Int))∧(0 < n→0 < s.2)∧∀ i:Nat,(i:Int) < s.2→gi s.1 i = -1) (by dsimp only; unfold big; omega) ?_ ?_
  ·cases n with
   | zero=>exact ⟨rfl,by simp,by simp,fun i hi=>by simp at hi; omega⟩
   | succ n =>
    refine ⟨by simp,by simp; omega,fun _=>by simp,fun i hi=>?_⟩
    have:i = 0:=by simp at hi; omega
    subst this
    rfl
  ·rintro ⟨x,m⟩ ⟨h1,h2,h3,h4⟩
   dsimp only at h1 h2 h3 h4 ⊢
   obtain ⟨k,rfl⟩:=Int.eq_ofNat_of_zero_le h2.1
   simp only [Zaf.s0,Int.toNat_natCast]
   by_cases c:(k:Int) < (x.length:Int)
   ·refine .inl ?_
    have t1:(x.take k).length = k:=by rw [List.length_take]; omega
    have t2:(x.drop k).length = n - k:=by rw [List.length_drop]; omega
    rw [ZA c,Z4 (by omega),zE (by omega),t1,t2]
    refine ⟨_,rfl,⟨by simp; omega,by dsimp only; omega,fun _=>by dsimp only; omega,fun i hi=>?_⟩,by dsimp only; omega⟩
    dsimp only at hi ⊢
    by_cases q:i < k
    ·rw [Zc0 (by rw [t1]; exact q),ZiF q]
     exact h4 i (by omega)
    ·have e:i = (x.take k).length + (i - k):=by rw [t1]; omega
     rw [e,Zcq,Zc0 (by rw [List.length_take,t1]; omega),ZiF (by omega),ZiF (by omega)]
     exact h4 _ (by omega)
   ·refine .inr ?_
    rw [ZC c]
    exact ⟨_,rfl,h1,fun i hi=>h4 i (by omega)⟩
 obtain ⟨r,e1,e2,e3⟩:=L
 have er:r = List.replicate n (-1):=ZdR (by simp [e2]) fun i hi=>by
  rw [e3 i (by omega),ZbG (by simp; omega)]
  simp
 unfold Zaf
 rw [ZC (by omega),Option.bind_some,Z4 (show inK .u64 (([-1]:List Int).length:Int) by decide),Z4 (show inK .u64 (n:Int) from by
  simp only [inK,Go.IntKind.wrap,Go.IntKind.bits,Go.IntKind.signed]
  simp
  omega),show (([-1]:List Int).length:Int) = 1 from rfl,Znj h,Option.bind_some]
 dsimp only
 rw [if_neg (by simp; omega),Option.bind_some,ZcB (by omega),Z4 (by omega),Int.toNat_natCast,e1,Option.bind_some,er]

def Adj (l:List Ze) (a b:Nat):Prop:=∃ d,d < 4∧nx l a d = b
inductive Rch (l:List Ze) (v:Nat):Nat→Nat→Prop
 | zero:Rch l v 0 v
 | succ {n a b}:Rch l v n a→Adj l a b→Rch l v (n + 1) b
theorem Adj.lt {l:List Ze} (h:Ck l) {a b:Nat} (ha:a < l.length) (hab:Adj l a b):b < l.length:=by
 obtain ⟨d,hd,e⟩:=hab
 have:=h.lt ha hd
 omega
theorem Adj.symm {l:List Ze} (h:Ck l) {a b:Nat} (ha:a < l.length) (hab:Adj l a b):Adj l b a:=by
 obtain ⟨d,hd,e⟩:=hab
 rcases h.s a d ha hd with ⟨e2,_⟩ | ⟨w,e2,_,_,e3,_⟩
 ·omega
 ·have:w = b:=by omega
  subst this
  exact ⟨(d + 2) % 4,by omega,e3⟩
theorem Rch.lt {l:List Ze} (h:Ck l) {v n w:Nat} (hv:v < l.length) (hr:Rch l v n w):w < l.length:=by
 induction hr with
 | zero=>exact hv
 | succ _ hab ih=>exact hab.lt h ih
theorem Rch.trans {l:List Ze} {a b c n m:Nat} (h1:Rch l a n b) (h2:Rch l b m c):Rch l a (n + m) c:=by
 induction h2 with
 | zero=>exact h1
 | succ _ hab ih=>exact .succ ih hab
theorem Rch.symm {l:List Ze} (h:Ck l) {v n w:Nat} (hv:v < l.length) (hr:Rch l v n w):Rch l w n v:=by
 induction hr with
 | zero=>exact .zero
 | succ hr hab ih =>
  have ha:=hr.lt h hv
  have:=(Rch.succ .zero (hab.symm h ha)).trans ih
  rw [Nat.zero_add,Nat.add_comm] at this
  exact this
def Dist (l:List Ze) (v w n:Nat):Prop:=Rch l v n w∧∀ m,Rch l v m w→n≤m
theorem Dist.uniq {l:List Ze} {v w n m:Nat} (h1:Dist l v w n) (h2:Dist l v w m):n = m:=by
 have:=h1.2 m h2.1
 have:=h2.2 n h1.1
 omega
theorem Rch.dist {l:List Ze} {v w n:Nat} (h:Rch l v n w):∃ m,m≤n∧Dist l v w m:=by
 induction n using Nat.strongRecOn with
 | _ n ih =>
  by_cases c:∃ m,m < n∧Rch l v m w
  ·obtain ⟨m,hm,hr⟩:=c
   obtain ⟨k,hk,hd⟩:=ih m hm hr
   exact ⟨k,by omega,hd⟩
  ·refine ⟨n,Nat.le_refl _,h,fun m hm=>?_⟩
   by_cases q:n≤m
   ·exact q
   ·exact absurd ⟨m,by omega,hm⟩ c
theorem Dist.symm {l:List Ze} (h:Ck l) {v w n:Nat} (hv:v < l.length) (hd:Dist l v w n):Dist l w v n :=
 ⟨hd.1.symm h hv,fun m hm=>hd.2 m (hm.symm h (hd.1.lt h hv))⟩
theorem Dist.pred {l:List Ze} {v w n:Nat} (hd:Dist l v w (n + 1)):∃ a,Dist l v a n∧Adj l a w:=by
 obtain ⟨h1,h2⟩:=hd
 cases h1 with
 | succ hr hab =>
  refine ⟨_,⟨hr,fun m hm=>?_⟩,hab⟩
  have:=h2 (m + 1) (.succ hm hab)
  omega
theorem Zia:∀ {n m:Nat} (f:Nat→Nat),(∀ i,i < n→f i < m)→(∀ i j,i < n→j < n→f i = f j→i = j)→n≤m
 | 0,m,f,_,_=>Nat.zero_le _
 | n + 1,0,f,h,_=>absurd (h 0 (by omega)) (by omega)
 | n + 1,m + 1,f,h,hi=>by
  have:=Zia (n:=n) (m:=m) (fun i=>if f i = m then f n else f i) (fun i hi'=>by
   by_cases c:f i = m
   ·rw [if_pos c]
    have:=h n (by omega)
    by_cases c2:f n = m
    ·have:=hi i n (by omega) (by omega) (by omega); omega
    ·omega
   ·rw [if_neg c]
    have:=h i (by omega)
    omega) (fun i j hi' hj' e=>by
   by_cases c:f i = m <;> by_cases c2:f j = m
   ·exact hi i j (by omega) (by omega) (by omega)
   ·rw [if_pos c,if_neg c2] at e
    have:=hi n j (by omega) (by omega) e; omega
   ·rw [if_neg c,if_pos c2] at e
    have:=hi i n (by omega) (by omega) e; omega
   ·rw [if_neg c,if_neg c2] at e
    exact hi i j (by omega) (by omega) e)
  omega
theorem Dist.all {l:List Ze} {v w:Nat}:∀ n,Dist l v w n→∀ m,m≤n→∃ a,Dist l v a m
 | 0,h,m,hm=>⟨w,by rw [show m = 0 by omega]; exact h⟩
 | n + 1,h,m,hm=>by
  by_cases c:m = n + 1
  ·exact ⟨w,by rw [c]; exact h⟩
  ·obtain ⟨a,ha,_⟩:=h.pred
   exact Dist.all n ha m (by omega)
theorem Dist.lt {l:List Ze} (h:Ck l) {v w n:Nat} (hv:v < l.length) (hd:Dist l v w n):n < l.length:=by
 have hall:=fun m (hm:m < n + 1)=>hd.all n m (by omega)
 have:=Zia (n:=n + 1) (m:=l.length) (fun m=>if hm:m < n + 1 then (hall m hm).choose else 0) (fun i hi=>by
  rw [dif_pos hi]
  exact (hall i hi).choose_spec.1.lt h hv) (fun i j hi hj e=>by
  rw [dif_pos hi,dif_pos hj] at e
  have d1:=(hall i hi).choose_spec
  have d2:=(hall j hj).choose_spec
  rw [e] at d1
  exact d1.uniq d2)
 omega
end Mu
/- Layer 13: spread. -/
set_option linter.unusedVariables false
set_option linter.unusedSimpArgs false
set_option maxRecDepth 10000
namespace Mu

theorem Zfl:∀ {m:List Bool} {w:Nat},w < m.length→gi m w = false→(m.set w true).count false + 1 = m.count false
 | [],w,h,_=>by simp at h
 | b :: m,0,_,hf=>by
  have:b = false:=hf
  subst this
  simp
 | b :: m,w + 1,h,hf=>by
  have:=Zfl (m:=m) (w:=w) (by simpa using h) hf
  cases b <;> simp [List.count_cons] <;> omega
structure Sb (l:List Ze) (v:Nat) (δ:Nat→Nat) (fr dr:List Int) (mt:List Bool):Prop where
 lf:fr.length = l.length
 ld:dr.length = l.length
 lm:mt.length = l.length
 mv:gi mt v = true
 dv:δ v = 0
 rc:∀ a,gi mt a = true→Rch l v (δ a) a
 fm:∀ a,gi mt a = true→a≠v→∃ p d:Nat,gi fr a = p∧gi dr a = d∧d < 4∧gi mt p = true∧nx l p d = a∧δ a = δ p + 1
 un:∀ a,a < l.length→gi mt a = false→gi dr a = -1
structure So (l:List Ze) (v:Nat) (δ:Nat→Nat) (q:List Int) (mt:List Bool):Prop where
 el:∀ x∈q,∃ a:Nat,x = a∧a < l.length∧gi mt a = true
 so:q.Pairwise fun x y=>δ x.toNat≤δ y.toNat∧δ y.toNat≤δ x.toNat + 1
 pr:∀ a:Nat,gi mt a = true→(a:Int) ∉ q→(∀ x∈q,δ a≤δ x.toNat)∧∀ b,Adj l a b→gi mt b = true∧δ b≤δ a + 1
structure Si (l:List Ze) (v h:Nat) (δ:Nat→Nat) (q:List Int) (mt:List Bool) (d:Nat):Prop where
 hm:gi mt h = true
 el:∀ x∈q,∃ a:Nat,x = a∧a < l.length∧gi mt a = true∧δ h≤δ a∧δ a≤δ h + 1
 so:q.Pairwise fun x y=>δ x.toNat≤δ y.toNat
 pr:∀ a:Nat,gi mt a = true→(a:Int) ∉ q→a≠h→δ a≤δ h∧∀ b,Adj l a b→gi mt b = true∧δ b≤δ a + 1
 hd:∀ e,e < d→∀ b:Nat,nx l h e = b→gi mt b = true∧δ b≤δ h + 1
theorem So.open {l:List Ze} {v h:Nat} {δ:Nat→Nat} {t:List Int} {mt:List Bool} (s:So l v δ ((h:Int) :: t) mt):Si l v h δ t mt 0:=by
 have hs:=List.pairwise_cons.1 s.so
 refine ⟨?_,fun x hx=>?_,hs.2.imp (fun h=>h.1),fun a ha hn hne=>?_,fun e he=>by omega⟩
 ·obtain ⟨a,e,_,hh⟩:=s.el _ List.mem_cons_self
  obtain rfl:h = a:=by omega
  exact hh
 ·obtain ⟨a,e,h1,h2⟩:=s.el x (List.mem_cons_of_mem _ hx)
  have:=hs.1 x hx
  subst e
  exact ⟨a,rfl,h1,h2,by simpa using this.1,by simpa using this.2⟩
 ·have:=s.pr a ha (by
   rw [List.mem_cons]
   rintro (h | h)
   ·omega
   ·exact hn h)
  exact ⟨by simpa using this.1 _ List.mem_cons_self,this.2⟩
theorem Si.close {l:List Ze} {v h:Nat} {δ:Nat→Nat} {t:List Int} {mt:List Bool} (s:Si l v h δ t mt 4):So l v δ t mt:=by
 have b:∀ x∈t,δ h≤δ x.toNat∧δ x.toNat≤δ h + 1:=by
  intro x hx
  obtain ⟨a,rfl,_,_,h1,h2⟩:=s.el x hx
  exact ⟨h1,h2⟩
 refine ⟨fun x hx=>?_,?_,fun a ha hn=>?_⟩
 ·obtain ⟨a,e,h1,h2,_⟩:=s.el x hx
  exact ⟨a,e,h1,h2⟩
 ·refine List.Pairwise.imp_of_mem ?_ s.so
  intro x y hx hy hxy
  have:=b x hx
  have:=b y hy
  exact ⟨hxy,by omega⟩
 ·by_cases c:a = h
  ·subst c
   refine ⟨fun x hx=>(b x hx).1,?_⟩
   rintro w ⟨d,hd,e⟩
   exact s.hd d hd w e
  ·have:=s.pr a ha hn c
   refine ⟨fun x hx=>?_,this.2⟩
   have:=b x hx
   omega
theorem Sb.meet {l:List Ze} (hc:Ck l) {v h d w:Nat} {δ:Nat→Nat} {fr dr:List Int} {mt:List Bool} (s:Sb l v δ fr dr mt) (hm:gi mt h = true) (hd:d < 4) (hw:nx l h d = w) (hwl:w < l.length) (hu:gi mt w = false) :
  Sb l v (fun a=>if a = w then δ h + 1 else δ a) (fr.set w h) (dr.set w d) (mt.set w true):=by
 have gm:∀ a,gi (mt.set w true) a = if a = w then true else gi mt a:=fun a=>Zc1 (by rw [s.lm]; exact hwl)
 have gf:∀ a,gi (fr.set w (h:Int)) a = if a = w then (h:Int) else gi fr a:=fun a=>Zc1 (by rw [s.lf]; exact hwl)
 have gd:∀ a,gi (dr.set w (d:Int)) a = if a = w then (d:Int) else gi dr a:=fun a=>Zc1 (by rw [s.ld]; exact hwl)
 have hwh:h≠w:=by rintro rfl; rw [hm] at hu; cases hu
 have hwv:v≠w:=by rintro rfl; rw [s.mv] at hu; cases hu
 have old:∀ a,gi mt a = true→a≠w:=by rintro a ha rfl; rw [ha] at hu; cases hu
 refine ⟨by simpa using s.lf,by simpa using s.ld,by simpa using s.lm,?_,?_,fun a ha=>?_,fun a ha hav=>?_,fun a ha hau=>?_⟩
 ·rw [gm,s.mv]; simp
 ·rw [if_neg hwv]; exact s.dv
 ·by_cases c:a = w
  ·subst c
   rw [if_pos rfl]
   exact .succ (s.rc h hm) ⟨d,hd,hw⟩
  ·rw [if_neg c]
   rw [gm,if_neg c] at ha
   exact s.rc a ha
 ·by_cases c:a = w
  ·subst c
   refine ⟨h,d,by rw [gf,if_pos rfl],by rw [gd,if_pos rfl],hd,by rw [gm,hm]; simp,hw,?_⟩
   rw [if_pos rfl,if_neg hwh]
  ·rw [gm,if_neg c] at ha
   obtain ⟨p,e,h1,h2,h3,h4,h5,h6⟩:=s.fm a ha hav
   refine ⟨p,e,by rw [gf,if_neg c]; exact h1,by rw [gd,if_neg c]; exact h2,h3,by rw [gm,h4]; simp,h5,?_⟩
   rw [if_neg c,if_neg (old p h4)]; exact h6
 ·rw [gm] at hau
  by_cases c:a = w
  ·rw [if_pos c] at hau; cases hau
  ·rw [if_neg c] at hau
   rw [gd,if_neg c]
   exact s.un a ha hau
theorem Si.meet {l:List Ze} {v h d w:Nat} {δ:Nat→Nat} {q:List Int} {mt:List Bool} (lm:mt.length = l.length) (s:Si l v h δ q mt d) (hw:nx l h d = w) (hwl:w < l.length) (hu:gi mt w = false) :
  Si l v h (fun a=>if a = w then δ h + 1 else δ a) (q++[(w:Int)]) (mt.set w true) (d + 1):=by
 have gm:∀ a,gi (mt.set w true) a = if a = w then true else gi mt a:=fun a=>Zc1 (by rw [lm]; exact hwl)
 have old:∀ a,gi mt a = true→a≠w:=by rintro a ha rfl; rw [ha] at hu; cases hu
 have hwh:h≠w:=old h s.hm
 have keep:∀ a,gi mt a = true→gi (mt.set w true) a = true:=fun a ha=>by rw [gm,ha]; simp
 refine ⟨keep h s.hm,fun x hx=>?_,?_,fun a ha hn hne=>?_,fun e he b hb=>?_⟩
 ·rw [List.mem_append,List.mem_singleton] at hx
  rw [if_neg hwh]
  rcases hx with hx | rfl
  ·obtain ⟨a,e,h1,h2,h3,h4⟩:=s.el x hx
   exact ⟨a,e,h1,keep a h2,by rw [if_neg (old a h2)]; exact h3,by rw [if_neg (old a h2)]; exact h4⟩
  ·exact ⟨w,rfl,hwl,by rw [gm,if_pos rfl],by rw [if_pos rfl]; omega,by rw [if_pos rfl]; omega⟩
 ·rw [List.pairwise_append]
  refine ⟨List.Pairwise.imp_of_mem ?_ s.so,List.pairwise_singleton _ _,fun x hx y hy=>?_⟩
  ·intro x y hx hy hxy
   obtain ⟨a,rfl,h1,h2,h3,h4⟩:=s.el x hx
   obtain ⟨b,rfl,k1,k2,k3,k4⟩:=s.el y hy
   simp only [Int.toNat_natCast] at hxy ⊢
   rw [if_neg (old a h2),if_neg (old b k2)]
   exact hxy
  ·rw [List.mem_singleton] at hy
   subst hy
   obtain ⟨a,rfl,h1,h2,h3,h4⟩:=s.el x hx
   simp only [Int.toNat_natCast]
   rw [if_neg (old a h2)]
   simpa using h4
 ·rw [List.mem_append,List.mem_singleton] at hn
  have haw:a≠w:=fun c=>hn (.inr (by omega))
  rw [gm,if_neg haw] at ha
  have:=s.pr a ha (fun c=>hn (.inl c)) hne
  rw [if_neg haw,if_neg hwh]
  refine ⟨this.1,fun b hb=>?_⟩
  have:=this.2 b hb
  exact ⟨keep b this.1,by rw [if_neg (old b this.1)]; exact this.2⟩
 ·rw [if_neg hwh]
  by_cases c:e = d
  ·subst c
   have:b = w:=by omega
   subst this
   exact ⟨by rw [gm,if_pos rfl],by rw [if_pos rfl]; omega⟩
  ·have:=s.hd e (by omega) b hb
   exact ⟨keep b this.1,by rw [if_neg (old b this.1)]; exact this.2⟩
theorem Si.skip {l:List Ze} {v h d:Nat} {δ:Nat→Nat} {q:List Int} {mt:List Bool} (s:Si l v h δ q mt d) (hs:∀ w:Nat,nx l h d = w→gi mt w = true):Si l v h δ q mt (d + 1):=by
 refine ⟨s.hm,s.el,s.so,s.pr,fun e he b hb=>?_⟩
 by_cases c:e = d
 ·subst c
  have hm:=hs b hb
  refine ⟨hm,?_⟩
  by_cases c1:(b:Int)∈q
  ·obtain ⟨a,e,_,_,_,h4⟩:=s.el _ c1
   have:b = a:=by omega
   subst this; exact h4
  ·by_cases c2:b = h
   ·subst c2; omega
   ·have:=(s.pr b hm c1 c2).1
    omega
 ·exact s.hd e (by omega) b hb
end Mu
/- Layer 13: spread,walked. -/
set_option linter.unusedVariables false
set_option linter.unusedSimpArgs false
set_option maxRecDepth 10000
namespace Mu

theorem Zkl {l:List Ze} (hc:Ck l) (hl:l.length≤4096) {v h:Nat} {t0 t:List Int} {δ:Nat→Nat} {fr dr:List Int} {mt:List Bool} (hh:h < l.length) (sb:Sb l v δ fr dr mt) (si:Si l v h δ t mt 0) (hn:mt.count false + t.length≤l.length) :
  ∃ r:List Int × List Int × List Int × List Bool,ZT (ZaN.s1 l ((h:Int) :: t0)) big (fr,dr,t,mt,0) = some r∧∃ δ',Sb l v δ' r.1 r.2.1 r.2.2.2∧Si l v h δ' r.2.2.1 r.2.2.2 4∧r.2.2.2.count false + r.2.2.1.length = mt.count false + t.length:=by
 have g0:∀ x:List Int,gi ((h:Int) :: x) (0:Int).toNat = h:=fun _=>rfl
 refine Zcf (n:=4) (I:=fun d (s:List Int × List Int × List Int × List Bool × Int)=>s.2.2.2.2 = d∧∃ δ',Sb l v δ' s.1 s.2.1 s.2.2.2.1∧Si l v h δ' s.2.2.1 s.2.2.2.1 d∧s.2.2.2.1.count false + s.2.2.1.length = mt.count false + t.length) (R:=fun r:List Int × List Int × List Int × List Bool=>∃ δ',Sb l v δ' r.1 r.2.1 r.2.2.2∧Si l v h δ' r.2.2.1 r.2.2.2 4∧r.2.2.2.count false + r.2.2.1.length = mt.count false + t.length) (ZaI (by omega)) ⟨rfl,δ,sb,si,rfl⟩ ?_ ?_
 ·rintro d ⟨fr',dr',t',mt',x⟩ hd ⟨hx,δ',sb',si',hn'⟩
  dsimp only at hx sb' si' hn'
  subst hx
  simp only [ZaN.s1]
  rw [ZA (by omega),g0,Z4 (by omega),Z4 (by omega),Int.toNat_natCast]
  have e:((gi l h).Next).get (d:Int) = nx l h d:=rfl
  rw [e]
  have hlt:=hc.lt hh (show d < 4 from hd)
  have lm:=sb'.lm
  have lf:=sb'.lf
  have ld:=sb'.ld
  by_cases c:0≤nx l h d
  ·obtain ⟨w,hw⟩:∃ w:Nat,nx l h d = w:=⟨(nx l h d).toNat,by omega⟩
   rw [hw]
   rw [hw] at hlt
   have hwl:w < l.length:=by omega
   rw [ZA (by omega),Z4 (by omega),Option.bind_some,Int.toNat_natCast]
   cases hm:gi mt' w with
   | true =>
    rw [if_neg (by decide),zE (by omega)]
    refine ⟨_,rfl,rfl,δ',sb',si'.skip (fun w' hw'=>?_),hn'⟩
    have:w' = w:=by omega
    rw [this]; exact hm
   | false =>
    have hcount:=Zfl (m:=mt') (w:=w) (by omega) hm
    rw [if_pos (by decide),Z4 (by omega),Z4 (by omega),Z4 (by omega),Z4 (by simp; omega),zE (by omega)]
    refine ⟨_,rfl,rfl,_,sb'.meet hc si'.hm hd hw hwl hm,si'.meet lm hw hwl hm,?_⟩
    simp only [List.length_append,List.length_cons,List.length_nil]
    omega
  ·rw [ZC (by omega),Option.bind_some,if_neg (by decide),zE (by omega)]
   exact ⟨_,rfl,rfl,δ',sb',si'.skip (fun w' hw'=>by omega),hn'⟩
 ·rintro ⟨fr',dr',t',mt',x⟩ ⟨hx,δ',sb',si',hn'⟩
  dsimp only at hx sb' si' hn'
  subst hx
  simp only [ZaN.s1]
  rw [ZC (by omega)]
  exact ⟨_,rfl,δ',sb',si',hn'⟩
structure Spr (l:List Ze) (v:Nat) (fr dr:List Int):Prop where
 lf:fr.length = l.length
 ld:dr.length = l.length
 fm:∀ a n,Dist l v a n→a≠v→∃ p d m:Nat,gi fr a = p∧gi dr a = d∧d < 4∧nx l p d = a∧Dist l v p m∧n = m + 1
 un:∀ a,a < l.length→(∀ n,¬ Rch l v n a)→gi dr a = -1
theorem Zm1 {l:List Ze} (hc:Ck l) {v:Nat} {δ:Nat→Nat} {fr dr:List Int} {mt:List Bool} (hv:v < l.length) (sb:Sb l v δ fr dr mt) (so:So l v δ [] mt):Spr l v fr dr:=by
 have all:∀ n a,Rch l v n a→gi mt a = true∧δ a≤n:=by
  intro n a h
  induction h with
  | zero=>exact ⟨sb.mv,by rw [sb.dv]; omega⟩
  | succ hr hab ih =>
   have:=(so.pr _ ih.1 (by simp)).2 _ hab
   exact ⟨this.1,by omega⟩
 have dist:∀ a,gi mt a = true→Dist l v a (δ a):=fun a ha=>⟨sb.rc a ha,fun m hm=>(all m a hm).2⟩
 refine ⟨sb.lf,sb.ld,fun a n hd hav=>?_,fun a ha hu=>?_⟩
 ·have hm:=(all n a hd.1).1
  obtain ⟨p,d,h1,h2,h3,h4,h5,h6⟩:=sb.fm a hm hav
  refine ⟨p,d,δ p,h1,h2,h3,h5,dist p h4,?_⟩
  have:=(dist a hm).uniq hd
  omega
 ·refine sb.un a ha ?_
  cases h:gi mt a with
  | false=>rfl
  | true=>exact absurd (sb.rc a h) (hu _)
theorem ZkZ {l:List Ze} (hc:Ck l) (hl:l.length≤1200) {v:Nat} (hv:v < l.length):∃ fr dr,ZaN l v = some (fr,dr)∧Spr l v fr dr:=by
 have gr:∀ a,gi (List.replicate l.length false) a = false:=by
  intro a
  by_cases h:a < l.length
  ·rw [ZbG (by simpa using h)]; simp
  ·rw [ZgR (by simpa using h)]; rfl
 have gr2:∀ a,a < l.length→gi (List.replicate l.length (-1:Int)) a = -1:=by
  intro a h
  rw [ZbG (by simpa using h)]; simp
 have gm:∀ a,gi ((List.replicate l.length false).set v true) a = if a = v then true else false:=by
  intro a
  rw [Zc1 (by simpa using hv),gr]
 have sb0:Sb l v (fun _=>0) (List.replicate l.length (-1)) (List.replicate l.length (-1)) ((List.replicate l.length false).set v true):=by
  refine ⟨by simp,by simp,by simp,by rw [gm,if_pos rfl],rfl,fun a ha=>?_,fun a ha hav=>?_,fun a ha hu=>gr2 a ha⟩
  ·rw [gm] at ha
   by_cases c:a = v
   ·subst c; exact .zero
   ·rw [if_neg c] at ha; cases ha
  ·rw [gm,if_neg hav] at ha; cases ha
 have so0:So l v (fun _=>0) [(v:Int)] ((List.replicate l.length false).set v true):=by
  refine ⟨fun x hx=>?_,List.pairwise_singleton _ _,fun a ha hn=>?_⟩
  ·rw [List.mem_singleton] at hx
   exact ⟨v,hx,hv,by rw [gm,if_pos rfl]⟩
  ·rw [gm] at ha
   by_cases c:a = v
   ·subst c; exact absurd List.mem_cons_self hn
   ·rw [if_neg c] at ha; cases ha
 have cnt0:((List.replicate l.length false).set v true).count false + 1 = l.length:=by
  rw [Zfl (by simpa using hv) (gr v)]; simp
 obtain ⟨r,h1,h2⟩:=ZdA (step:=ZaN.s0 l) (s0:=(List.replicate l.length (-1),List.replicate l.length (-1),[(v:Int)],(List.replicate l.length false).set v true)) (μ:=fun s:List Int × List Int × List Int × List Bool=>s.2.2.2.count false + s.2.2.1.length) (I:=fun s=>∃ δ,Sb l v δ s.1 s.2.1 s.2.2.2∧So l v δ s.2.2.1 s.2.2.2∧s.2.2.2.count false + s.2.2.1.length≤l.length) (R:=fun r:List Int × List Int=>Spr l v r.1 r.2) (ZaI (by simp only [List.length_cons,List.length_nil]; omega)) ⟨_,sb0,so0,by simp only [List.length_cons,List.length_nil]; omega⟩ (by
  rintro ⟨fr,dr,q,mt⟩ ⟨δ,sb,so,hn⟩
  dsimp only at sb so hn
  simp only [ZaN.s0]
  cases q with
  | nil =>
   right
   rw [ZC (by simp)]
   exact ⟨_,rfl,Zm1 hc hv sb so⟩
  | cons x t =>
   left
   obtain ⟨h,rfl,hh,_⟩:=so.el x List.mem_cons_self
   rw [List.length_cons] at hn
   obtain ⟨⟨fr',dr',t',mt'⟩,e1,δ',sb',si',hn'⟩:=Zkl (t0:=t) hc (by omega) hh sb so.open (by omega)
   dsimp only at e1 sb' si' hn'
   have hd:List.drop (1:Int).toNat ((h:Int) :: t) = t:=rfl
   rw [ZA (by simp <;> omega),Z4 (by simp <;> omega),Z4 (by simp <;> omega),hd,e1,Option.bind_some]
   refine ⟨_,rfl,⟨δ',sb',si'.close,by dsimp only; omega⟩,?_⟩
   simp only [List.length_cons]
   omega)
 obtain ⟨fr,dr⟩:=r
 refine ⟨fr,dr,?_,h2⟩
 unfold ZaN
 rw [Zji hl,Option.bind_some,Option.bind_some,Z4 (by omega),Int.toNat_natCast,Z4 (by simp; omega),Int.toNat_natCast,h1,Option.bind_some]
end Mu
/- Layer 13: far. -/
set_option linter.unusedVariables false
set_option linter.unusedSimpArgs false
set_option maxRecDepth 10000
namespace Mu

structure Fa (l:List Ze) (v r i d:Nat) (far:List Int):Prop where
 lf:far.length = l.length
 so:∀ a,a < l.length→gi far a = -1∨∃ n:Nat,gi far a = n∧Dist l v a n∧n≤r + 1
 al:∀ a n,Dist l v a n→n≤r→gi far a = n
 nw:∀ (a b e:Nat),e < 4→Dist l v a r→nx l a e = b→(a < i∨a = i∧e < d)→0≤gi far b
def Zlo (l:List Ze) (v a:Nat) (x:Int):Prop:=(x = -1∧∀ n,¬ Rch l v n a)∨∃ n:Nat,x = n∧Dist l v a n
theorem Fa.close {l:List Ze} (hc:Ck l) {v r:Nat} {far:List Int} (hv:v < l.length) (h:Fa l v r l.length 0 far):Fa l v (r + 1) 0 0 far:=by
 refine ⟨h.lf,fun a ha=>(h.so a ha).imp id (fun ⟨n,e,d,k⟩=>⟨n,e,d,by omega⟩),fun a n hd hn=>?_,fun a b e he hd hw hh=>by omega⟩
 by_cases c:n≤r
 ·exact h.al a n hd c
 ·obtain rfl:n = r + 1:=by omega
  obtain ⟨p,hp,e,he,hw⟩:=hd.pred
  have hpl:=hp.1.lt hc hv
  have:=h.nw p a e he hp hw (.inl hpl)
  rcases h.so a (hd.1.lt hc hv) with e1 | ⟨m,e1,e2,e3⟩
  ·omega
  ·rw [e1,e2.uniq hd]
theorem Znf {l:List Ze} (hc:Ck l) (hl:l.length≤4096) {v r i:Nat} {far:List Int} (hv:v < l.length) (hi:i < l.length) (h:Fa l v r i 0 far) (hr:r≤4096) :
  ∃ far',ZT (zd.s3 l r i) big (far,0) = some far'∧Fa l v r (i + 1) 0 far':=by
 refine Zcf (n:=4) (I:=fun d (s:List Int × Int)=>s.2 = d∧Fa l v r i d s.1) (R:=fun far'=>Fa l v r (i + 1) 0 far') (ZaI (by omega)) ⟨rfl,h⟩ ?_ ?_
 ·rintro d ⟨f,x⟩ hd ⟨hx,hf⟩
  dsimp only at hx hf
  subst hx
  have lf:=hf.lf
  simp only [zd.s3]
  rw [ZA (by omega),Z4 (by omega),Z4 (by omega),Z4 (by omega),Int.toNat_natCast]
  have e:((gi l i).Next).get (d:Int) = nx l i d:=rfl
  rw [e]
  have hlt:=hc.lt hi (show d < 4 from hd)
  have skip:(Dist l v i r→∀ b:Nat,nx l i d = b→0≤gi f b)→Fa l v r i (d + 1) f:=fun hs=>⟨hf.lf,hf.so,hf.al,fun a b e he ha hw hh=>by
   by_cases c:a = i∧e = d
   ·obtain ⟨rfl,rfl⟩:=c
    exact hs ha b hw
   ·exact hf.nw a b e he ha hw (by omega)⟩
  by_cases c1:gi f i = r∧0≤nx l i d
  ·obtain ⟨w,hw⟩:∃ w:Nat,nx l i d = w:=⟨(nx l i d).toNat,by omega⟩
   have hd0:Dist l v i r:=by
    rcases hf.so i hi with q | ⟨n,q,q2,_⟩
    ·omega
    ·have:n = r:=by omega
     subst this; exact q2
   have hmx:max (nx l i d) 0 = (w:Int):=by omega
   rw [if_pos (by simp [c1]),hmx,Z4 (by omega),Option.bind_some,Int.toNat_natCast]
   have hwl:w < l.length:=by omega
   by_cases c2:gi f w < 0
   ·rw [ZA c2,zE (by omega),Z4 (by omega),zE (by omega),hw,Int.toNat_natCast]
    have g:∀ a,gi (f.set w ((r:Int) + 1)) a = if a = w then (r:Int) + 1 else gi f a:=fun a=>Zc1 (by omega)
    have dw:Dist l v w (r + 1):=by
     refine ⟨.succ hd0.1 ⟨d,hd,hw⟩,fun m hm=>?_⟩
     obtain ⟨k,hk,hdk⟩:=hm.dist
     by_cases q:k≤r
     ·have:=hf.al w k hdk q; omega
     ·omega
    refine ⟨_,rfl,rfl,by simpa using hf.lf,fun a ha=>?_,fun a n hdn hn=>?_,fun a b e he ha hw' hh=>?_⟩
    ·rw [g]
     by_cases q:a = w
     ·rw [if_pos q]; right; exact ⟨r + 1,by omega,by rw [q]; exact dw,by omega⟩
     ·rw [if_neg q]; exact hf.so a ha
    ·rw [g]
     by_cases q:a = w
     ·subst q
      have:=hf.al a n hdn hn; omega
     ·rw [if_neg q]; exact hf.al a n hdn hn
    ·rw [g]
     by_cases q:b = w
     ·rw [if_pos q]; omega
     ·rw [if_neg q]
      refine hf.nw a b e he ha hw' ?_
      by_cases q2:a = i∧e = d
      ·obtain ⟨rfl,rfl⟩:=q2; omega
      ·omega
   ·rw [ZC c2,zE (by omega)]
    refine ⟨_,rfl,rfl,skip (fun _ b hb=>?_)⟩
    have:b = w:=by omega
    subst this; omega
  ·rw [if_neg (by simpa using c1),Option.bind_some,if_neg (by decide),zE (by omega)]
   refine ⟨_,rfl,rfl,skip (fun hd0 b hb=>?_)⟩
   exact absurd ⟨hf.al i r hd0 (Nat.le_refl _),by omega⟩ c1
 ·rintro ⟨f,x⟩ ⟨hx,hf⟩
  dsimp only at hx hf
  subst hx
  simp only [zd.s3]
  rw [ZC (by omega)]
  exact ⟨_,rfl,hf.lf,hf.so,hf.al,fun a b e he ha hw hh=>hf.nw a b e he ha hw (by omega)⟩
theorem Zne {l:List Ze} (hc:Ck l) (hl:l.length≤4096) {v r:Nat} {far:List Int} (hv:v < l.length) (h:Fa l v r 0 0 far) (hr:r≤4096) :
  ∃ far',ZT (zd.s2 l r) big (far,0) = some far'∧Fa l v (r + 1) 0 0 far':=by
 refine Zcf (n:=l.length) (I:=fun i (s:List Int × Int)=>s.2 = i∧Fa l v r i 0 s.1) (R:=fun far'=>Fa l v (r + 1) 0 0 far') (ZaI (by omega)) ⟨rfl,h⟩ ?_ ?_
 ·rintro i ⟨f,x⟩ hi ⟨hx,hf⟩
  dsimp only at hx hf
  subst hx
  obtain ⟨f',e1,e2⟩:=Znf hc hl hv hi hf hr
  simp only [zd.s2]
  rw [ZA (by omega),e1,Option.bind_some,zE (by omega)]
  exact ⟨_,rfl,rfl,e2⟩
 ·rintro ⟨f,x⟩ ⟨hx,hf⟩
  dsimp only at hx hf
  subst hx
  simp only [zd.s2]
  rw [ZC (by omega)]
  exact ⟨_,rfl,hf.close hc hv⟩
theorem Znd {l:List Ze} (hl:l.length≤4096):ZT (zd.s0 l) big (List.replicate l.length 0,0) = some (List.replicate l.length (-1)):=by
 refine ZbJ (fun n:Nat=>(List.replicate n (-1)++List.replicate (l.length - n) 0,(n:Int))) (n:=l.length) (ZaI (by omega)) (by simp) (fun n hn=>?_) ?_
 ·simp only [zd.s0]
  rw [ZA (by omega),Z4 (by simp; omega),zE (by omega),Int.toNat_natCast,show l.length - n = l.length - (n + 1) + 1 by omega,List.replicate_succ,List.set_append_right _ _ (by simp),List.replicate_succ']
  simp
 ·simp only [zd.s0]
  rw [ZC (by omega)]
  simp
theorem ZnF {l:List Ze} (hc:Ck l) (hl:l.length≤4096) {v:Nat} (hv:v < l.length):∃ far,zd l v = some far∧far.length = l.length∧∀ a,a < l.length→Zlo l v a (gi far a):=by
 have gr:∀ a,a < l.length→gi (List.replicate l.length (-1:Int)) a = -1:=by
  intro a h
  rw [ZbG (by simpa using h)]; simp
 have g:∀ a,gi ((List.replicate l.length (-1:Int)).set v 0) a = if a = v then 0 else gi (List.replicate l.length (-1:Int)) a:=fun a=>Zc1 (by simpa using hv)
 have dz:Dist l v v 0:=⟨.zero,fun m _=>by omega⟩
 have h0:Fa l v 0 0 0 ((List.replicate l.length (-1:Int)).set v 0):=by
  refine ⟨by simp,fun a ha=>?_,fun a n hd hn=>?_,fun a b e he hd hw hh=>by omega⟩
  ·rw [g]
   by_cases c:a = v
   ·rw [if_pos c]; right; exact ⟨0,rfl,by rw [c]; exact dz,by omega⟩
   ·rw [if_neg c]; exact .inl (gr a ha)
  ·obtain rfl:n = 0:=by omega
   have:=hd.1
   cases this
   rw [g,if_pos rfl]; rfl
 obtain ⟨far,e1,e2⟩:=Zcf (step:=zd.s1 l) (s0:=((List.replicate l.length (-1:Int)).set v 0,(0:Int))) (n:=l.length) (I:=fun r (s:List Int × Int)=>s.2 = r∧Fa l v r 0 0 s.1) (R:=fun far=>Fa l v l.length 0 0 far) (ZaI (by omega)) ⟨rfl,h0⟩ (by
  rintro r ⟨f,x⟩ hr ⟨hx,hf⟩
  dsimp only at hx hf
  subst hx
  obtain ⟨f',e1,e2⟩:=Zne hc hl hv hf (by omega)
  simp only [zd.s1]
  rw [ZA (by omega),e1,Option.bind_some,zE (by omega)]
  exact ⟨_,rfl,rfl,e2⟩) (by
  rintro ⟨f,x⟩ ⟨hx,hf⟩
  dsimp only at hx hf
  subst hx
  simp only [zd.s1]
  rw [ZC (by omega)]
  exact ⟨_,rfl,hf⟩)
 refine ⟨far,?_,e2.lf,fun a ha=>?_⟩
 ·unfold zd
  rw [Z4 (by omega),Int.toNat_natCast,Znd hl,Option.bind_some,Z4 (by simp; omega),Int.toNat_natCast,e1,Option.bind_some]
 ·by_cases c:∃ n,Rch l v n a
  ·obtain ⟨n,hn⟩:=c
   obtain ⟨m,_,hm⟩:=hn.dist
   have:=hm.lt hc hv
   exact .inr ⟨m,e2.al a m hm (by omega),hm⟩
  ·left
   refine ⟨?_,fun n hn=>c ⟨n,hn⟩⟩
   rcases e2.so a ha with e | ⟨n,e,d,_⟩
   ·exact e
   ·exact absurd ⟨n,d.1⟩ c
end Mu
/- Layer 13: paths. -/
set_option linter.unusedVariables false
set_option linter.unusedSimpArgs false
set_option maxRecDepth 10000
namespace Mu

end Mu
/- Layer 13: there and back. -/
set_option linter.unusedVariables false
set_option linter.unusedSimpArgs false
set_option maxRecDepth 10000
namespace Mu
theorem okZ {z:zX} (m1:z.At.length≤Go.maxLen) (b1:∀ y∈z.At,ZfI y) (b3:∀ y∈z.Own,ZiY y):OkZ z :=
 ⟨by unfold Go.maxLen at m1; omega,b1,b3⟩
end Mu
/- Layer 13: join's paths. -/
set_option linter.unusedVariables false
set_option linter.unusedSimpArgs false
set_option maxRecDepth 10000
namespace Mu
end Mu
/- Layer 13: join's parts. -/
set_option linter.unusedVariables false
set_option linter.unusedSimpArgs false
set_option maxRecDepth 10000
namespace Mu
noncomputable def rb (l:List Ze) (v w:Nat):Bool:=@decide (∃ n,Rch l v n w) (Classical.propDecidable _)
theorem Zhh {l:List Ze} {v w:Nat}:rb l v w = true↔∃ n,Rch l v n w:=by simp [rb]
noncomputable def Zdb (l:List Ze) (v k:Nat):List Int:=((List.range k).filter (rb l v)).map fun w:Nat=>(w:Int)
noncomputable def Zeo (l:List Ze) (v:Nat) (met:List Bool) (k:Nat):List Bool:=(List.range l.length).map fun w=>if w < k then gi met w || rb l v w else gi met w
theorem ZbK {l:List Ze} {v k:Nat} {met:List Bool}:(Zeo l v met k).length = l.length:=by simp [Zeo]
theorem Zfn {l:List Ze} {v k w:Nat} {met:List Bool} (h:w < l.length):gi (Zeo l v met k) w = if w < k then gi met w || rb l v w else gi met w:=ZeJ h
theorem ZgY {l:List Ze} {v:Nat} {met:List Bool} (h:met.length = l.length):Zeo l v met 0 = met :=
 ZdR (by rw [ZbK,h]) (fun i hi=>by rw [ZbK] at hi; rw [Zfn hi,if_neg (by omega)])
theorem Zis {l:List Ze} {v k:Nat} {met:List Bool} (hk:k < l.length) (h:rb l v k = true):(Zeo l v met k).set k true = Zeo l v met (k + 1):=by
 apply ZdR (by rw [List.length_set,ZbK,ZbK])
 intro i hi
 rw [List.length_set,ZbK] at hi
 rw [Zc1 (by rw [ZbK]; exact hk),Zfn hi,Zfn hi]
 by_cases c:i = k
 ·subst c; rw [if_pos rfl,if_pos (by omega),h]; simp
 ·rw [if_neg c]
  by_cases c2:i < k
  ·rw [if_pos c2,if_pos (by omega)]
  ·rw [if_neg c2,if_neg (by omega)]
theorem Zh9 {l:List Ze} {v k:Nat} {met:List Bool} (h:rb l v k = false):Zeo l v met k = Zeo l v met (k + 1):=by
 apply ZdR (by rw [ZbK,ZbK])
 intro i hi
 rw [ZbK] at hi
 rw [Zfn hi,Zfn hi]
 by_cases c:i = k
 ·subst c; rw [if_neg (by omega),if_pos (by omega),h]; simp
 ·by_cases c2:i < k
  ·rw [if_pos c2,if_pos (by omega)]
  ·rw [if_neg c2,if_neg (by omega)]
theorem ZhD {l:List Ze} {v k:Nat} (h:rb l v k = true):Zdb l v (k + 1) = Zdb l v k++[(k:Int)]:=by
 unfold Zdb; rw [List.range_succ,List.filter_append]; simp [h]
theorem Zhc {l:List Ze} {v k:Nat} (h:rb l v k = false):Zdb l v (k + 1) = Zdb l v k:=by
 unfold Zdb; rw [List.range_succ,List.filter_append]; simp [h]
theorem Zf3 {l:List Ze} {v k:Nat}:(Zdb l v k).length≤k:=by
 unfold Zdb; rw [List.length_map]
 have:=List.length_filter_le (rb l v) (List.range k)
 simpa using this
theorem ZkO {l:List Ze} (hl:l.length≤1200) {v:Nat} {fr dr:List Int} {met:List Bool} (hm:met.length = l.length) (sp:Spr l v fr dr) (hc:Ck l) (hv:v < l.length):ZT (ZaQ.s1 l v dr) big (met,[],0) = some (Zeo l v met l.length,Zdb l v l.length):=by
 have ld:=sp.ld
 refine ZbJ (fun k:Nat=>(Zeo l v met k,Zdb l v k,(k:Int))) (n:=l.length) (ZaI (by omega)) (by rw [ZgY hm]; rfl) (fun k hk=>?_) ?_
 ·have hp:=Zf3 (l:=l) (v:=v) (k:=k)
  have hmt:=ZbK (l:=l) (v:=v) (k:=k) (met:=met)
  have t:(if decide ((k:Int) = (v:Int)) = true then some true else ck ((0:Int)≤(k:Int)∧(k:Int) < (dr.length:Int)) (some (decide (0≤(gi dr (k:Int).toNat))))) = some (rb l v k):=by
   by_cases c:k = v
   ·subst c
    rw [ZA rfl,(Zhh).2 ⟨0,.zero⟩]
   ·rw [ZC (by omega),Z4 (by omega),Int.toNat_natCast]
    cases h:rb l v k with
    | true =>
     obtain ⟨n,hn⟩:=Zhh.1 h
     obtain ⟨m,_,hd⟩:=hn.dist
     obtain ⟨p,d,_,_,e2,_⟩:=sp.fm k m hd c
     rw [Zbz (by omega)]
    | false =>
     have:=sp.un k hk (fun n hn=>by rw [Zhh.2 ⟨n,hn⟩] at h; cases h)
     rw [ZbD (by omega)]
  simp only [ZaQ.s1]
  rw [ZA (by omega),t,Option.bind_some,zE (by omega)]
  cases h:rb l v k with
  | true =>
   rw [if_pos rfl,Z4 (by omega),Z4 (by simp; omega),Int.toNat_natCast,Zis hk h,ZhD h,show ((k + 1:Nat):Int) = (k:Int) + 1 by omega]
  | false =>
   rw [if_neg (by decide),zE (by omega),Zh9 h,Zhc h,show ((k + 1:Nat):Int) = (k:Int) + 1 by omega]
 ·simp only [ZaQ.s1]
  rw [ZC (by omega)]
noncomputable def PS (l:List Ze):Nat→List (List Int) × List Bool
 | 0=>([],List.replicate l.length false)
 | n + 1=>if gi (PS l n).2 n = true then PS l n else ((PS l n).1++[Zdb l n l.length],Zeo l n (PS l n).2 l.length)
theorem Zi4 {l:List Ze}:∀ n,(PS l n).1.length≤n∧(PS l n).2.length = l.length
 | 0=>by simp [PS]
 | n + 1=>by
  have:=Zi4 (l:=l) n
  simp only [PS]
  split
  ·exact ⟨by omega,this.2⟩
  ·exact ⟨by simp; omega,ZbK⟩
theorem ZiI {l:List Ze} (hc:Ck l) (hl:l.length≤1200):ZaQ l = some ((PS l l.length).1,0):=by
 have hk:Zed l = 0:=Zd6.2 ⟨by omega,hc⟩
 have h:ZT (ZaQ.s0 l) big (([]:List (List Int)),List.replicate l.length false,0) = some (PS l l.length).1:=by
  refine ZbJ (fun n:Nat=>((PS l n).1,(PS l n).2,(n:Int))) (n:=l.length) (ZaI (by omega)) rfl (fun n hn=>?_) ?_
  ·have hp:=Zi4 (l:=l) n
   simp only [ZaQ.s0]
   rw [ZA (by omega),Z4 (by omega),Int.toNat_natCast,zE (by omega)]
   by_cases c:gi (PS l n).2 n = true
   ·rw [if_pos c,show PS l (n + 1) = PS l n by rw [PS,if_pos c],show ((n + 1:Nat):Int) = (n:Int) + 1 by omega]
   ·obtain ⟨fr,dr,e1,sp⟩:=ZkZ hc hl hn
    rw [if_neg c,e1,Option.bind_some]
    dsimp only
    rw [ZkO hl hp.2 sp hc hn,Option.bind_some]
    dsimp only
    rw [Z4 (by omega),zE (by omega),show PS l (n + 1) = ((PS l n).1++[Zdb l n l.length],Zeo l n (PS l n).2 l.length) by rw [PS,if_neg c],show ((n + 1:Nat):Int) = (n:Int) + 1 by omega]
  ·simp only [ZaQ.s0]
   rw [ZC (by omega)]
 unfold ZaQ
 rw [Zez (by omega),Option.bind_some,hk,Za3 rfl,Z4 (by omega),Int.toNat_natCast,h,Option.bind_some]
end Mu
/- Layer 13: the document's parts,and the law. -/
set_option linter.unusedVariables false
set_option linter.unusedSimpArgs false
set_option maxRecDepth 10000
namespace Mu
theorem Zlj {l:List Ze} (hl:l.length≤1200) {v:Nat} {far:List Int} {met:List Bool} (hm:met.length = l.length) (lf:far.length = l.length) (hf:∀ a,a < l.length→Zlo l v a (gi far a)):ZT (zI.s1 l far) big (met,[],0) = some (Zeo l v met l.length,Zdb l v l.length):=by
 refine ZbJ (fun k:Nat=>(Zeo l v met k,Zdb l v k,(k:Int))) (n:=l.length) (ZaI (by omega)) (by rw [ZgY hm]; rfl) (fun k hk=>?_) ?_
 ·have hp:=Zf3 (l:=l) (v:=v) (k:=k)
  have hmt:=ZbK (l:=l) (v:=v) (k:=k) (met:=met)
  have t:decide (0≤gi far k) = rb l v k:=by
   rcases hf k hk with ⟨e,h⟩ | ⟨n,e,h⟩
   ·have:rb l v k = false:=by
     cases q:rb l v k with
     | false=>rfl
     | true =>
      obtain ⟨n,hn⟩:=Zhh.1 q
      exact absurd hn (h n)
    rw [this,ZbD (by omega)]
   ·rw [Zhh.2 ⟨n,h.1⟩,Zbz (by omega)]
  simp only [zI.s1]
  rw [ZA (by omega),Z4 (by omega),Int.toNat_natCast,t]
  cases h:rb l v k with
  | true =>
   rw [if_pos rfl,Z4 (by omega),Z4 (by simp; omega),zE (by omega),Zis hk h,ZhD h,show ((k + 1:Nat):Int) = (k:Int) + 1 by omega]
  | false =>
   rw [if_neg (by decide),zE (by omega),Zh9 h,Zhc h,show ((k + 1:Nat):Int) = (k:Int) + 1 by omega]
 ·simp only [zI.s1]
  rw [ZC (by omega)]
theorem Zmx {l:List Ze} (hc:Ck l) (hl:l.length≤1200):zI l = some (PS l l.length).1:=by
 have h:ZT (zI.s0 l) big (List.replicate l.length false,([]:List (List Int)),0) = some (PS l l.length).1:=by
  refine ZbJ (fun n:Nat=>((PS l n).2,(PS l n).1,(n:Int))) (n:=l.length) (ZaI (by omega)) rfl (fun n hn=>?_) ?_
  ·have hp:=Zi4 (l:=l) n
   simp only [zI.s0]
   rw [ZA (by omega),Z4 (by omega),Int.toNat_natCast]
   by_cases c:gi (PS l n).2 n = true
   ·rw [if_pos c,zE (by omega),show PS l (n + 1) = PS l n by rw [PS,if_pos c],show ((n + 1:Nat):Int) = (n:Int) + 1 by omega]
   ·obtain ⟨far,e1,lf,hf⟩:=ZnF hc (by omega) hn
    rw [if_neg c,e1,Option.bind_some,Zlj hl hp.2 lf hf,Option.bind_some]
    dsimp only
    rw [Z4 (by omega),zE (by omega),show PS l (n + 1) = ((PS l n).1++[Zdb l n l.length],Zeo l n (PS l n).2 l.length) by rw [PS,if_neg c],show ((n + 1:Nat):Int) = (n:Int) + 1 by omega]
  ·simp only [zI.s0]
   rw [ZC (by omega)]
 unfold zI
 rw [Z4 (by omega),Int.toNat_natCast,h,Option.bind_some]
theorem Zmj {l:List Ze} (hc:Ck l) (hl:l.length≤1200):Zc6 l = some (decide (((PS l l.length).1.length:Int) = 1)):=by
 unfold Zc6
 rw [ZiI hc hl,Option.bind_some]
 simp
end Mu
/- Layer 13: JoinTurns. -/
set_option linter.unusedVariables false
set_option linter.unusedSimpArgs false
set_option maxRecDepth 10000
namespace Mu
/-! the split edge -/
def ext (v u:Int) (p:List Int):List Int:=if v∈p then p++[u] else p
theorem ZiH {s:List Int} {v:Int} (hs:s.length≤1000000):Zby s v = some (decide (v∈s)):=by
 have h:ZT (ZaO.s0 s v) big 0 = some (match (List.range s.length).find? (fun i=>decide (v = gi s i)) with | some i=>.inr (i:Int) | none=>.inl ()):=by
  refine Zc8 (n:=s.length) (P:=fun i=>decide (v = gi s i)) (f:=fun i=>(i:Int)) (ZaI (by omega)) (fun i hi=>?_) ?_
  ·simp only [ZaO.s0]
   rw [ZA (by omega),Z4 (by omega),Int.toNat_natCast,zE (by omega)]
   by_cases c:v = gi s i
   ·rw [ZA c,ZA c]
   ·rw [ZC c,ZC c]
  ·simp only [ZaO.s0]
   rw [ZC (by omega)]
 unfold Zby ZaO
 rw [h,Option.bind_some]
 cases hf:(List.range s.length).find? (fun i=>decide (v = gi s i)) with
 | none =>
  rw [List.find?_range_eq_none] at hf
  rw [ZbD (c:=v∈s)]
  ·rfl
  ·intro hm
   obtain ⟨i,hi,e⟩:=List.mem_iff_getElem.1 hm
   have:=hf i hi
   rw [ZbG hi] at this
   simp [e] at this
 | some i =>
  rw [List.find?_range_eq_some] at hf
  obtain ⟨h1,h2,_⟩:=hf
  have hi:i < s.length:=by simpa using h2
  have e:v = gi s i:=by simpa using h1
  rw [Zbz (c:=v∈s) (by rw [e]; exact Zcp hi)]
  dsimp only
  rw [Option.bind_some,Zbz (by omega)]
end Mu
/- Layer 16: straight chains of cells. -/
set_option linter.unusedVariables false
set_option linter.unusedSimpArgs false
set_option maxRecDepth 10000
namespace Mu
theorem Ck.back {l:List Ze} (h:Ck l) {v d w:Nat} (hv:v < l.length) (hd:d < 4) (hw:nx l v d = w):w < l.length∧nx l w ((d + 2) % 4) = v:=by
 rcases h.s v d hv hd with ⟨a,_⟩ | ⟨u,a,b,_,c,_⟩
 ·omega
 ·have:w = u:=by omega
  subst this; exact ⟨b,c⟩
structure IsCh (l:List Ze) (d:Nat) (C:List Int):Prop where
 ne:0 < C.length
 lt:∀ i,i < C.length→0≤gi C i∧gi C i < l.length
 nxt:∀ i,i + 1 < C.length→nx l (gi C i).toNat d = gi C (i + 1)
 fin:nx l (gi C (C.length - 1)).toNat d = -1
 beg:nx l (gi C 0).toNat ((d + 2) % 4) = -1
theorem IsCh.bk {l:List Ze} (hc:Ck l) {d:Nat} (hd:d < 4) {C:List Int} (h:IsCh l d C) {i:Nat} (hi:i + 1 < C.length):nx l (gi C (i + 1)).toNat ((d + 2) % 4) = gi C i:=by
 have a:=h.lt i (by omega)
 have b:=h.lt (i + 1) hi
 have:=(hc.back (v:=(gi C i).toNat) (d:=d) (w:=(gi C (i + 1)).toNat) (by omega) hd (by rw [h.nxt i hi]; omega)).2
 rw [this]; omega
theorem IsCh.at0 {l:List Ze} (hc:Ck l) {d:Nat} (hd:d < 4) {C C':List Int} (h:IsCh l d C) (h':IsCh l d C'):∀ i j,i < C.length→j < C'.length→gi C i = gi C' j→i = j∧gi C 0 = gi C' 0
 | 0,0,_,_,e=>⟨rfl,e⟩
 | 0,j + 1,_,hj,e=>by
  have a:=h'.bk hc hd hj
  have b:=h.beg
  rw [e,a] at b
  have:=h'.lt j (by omega)
  omega
 | i + 1,0,hi,_,e=>by
  have a:=h.bk hc hd hi
  have b:=h'.beg
  rw [← e,a] at b
  have:=h.lt i (by omega)
  omega
 | i + 1,j + 1,hi,hj,e=>by
  have a:=h.bk hc hd hi
  have b:=h'.bk hc hd hj
  rw [e,b] at a
  obtain ⟨q,r⟩:=IsCh.at0 hc hd h h' i j (by omega) (by omega) a.symm
  exact ⟨by omega,r⟩
theorem IsCh.uniq0 {l:List Ze} {d:Nat} {C C':List Int} (h:IsCh l d C) (h':IsCh l d C') (h0:gi C 0 = gi C' 0):C = C':=by
 have key:∀ {C C':List Int},IsCh l d C→IsCh l d C'→gi C 0 = gi C' 0→∀ k,k < C.length→k < C'.length∧gi C k = gi C' k:=by
  intro C C' h h' h0 k
  induction k with
  | zero=>intro _; exact ⟨h'.ne,h0⟩
  | succ k ih =>
   intro hk
   obtain ⟨a,b⟩:=ih (by omega)
   have n:=h.nxt k hk
   have q:=h.lt (k + 1) hk
   by_cases c:k + 1 < C'.length
   ·refine ⟨c,?_⟩
    rw [← n,← h'.nxt k c,b]
   ·have f:=h'.fin
    rw [show C'.length - 1 = k by omega,← b,n] at f
    omega
 have k1:=key h h' h0
 have k2:=key h' h h0.symm
 have hl:C.length = C'.length:=by
  have a:=h.ne
  have b:=h'.ne
  have:=(k1 (C.length - 1) (by omega)).1
  have:=(k2 (C'.length - 1) (by omega)).1
  omega
 exact ZdR hl fun i hi=>(k1 i hi).2
theorem IsCh.uniq {l:List Ze} (hc:Ck l) {d:Nat} (hd:d < 4) {C C':List Int} (h:IsCh l d C) (h':IsCh l d C') {v:Int} (hv:v∈C) (hv':v∈C'):C = C':=by
 obtain ⟨i,hi,rfl⟩:=List.mem_iff_getElem.1 hv
 obtain ⟨j,hj,e⟩:=List.mem_iff_getElem.1 hv'
 exact h.uniq0 h' (h.at0 hc hd h' i j hi hj (by rw [ZbG hi,ZbG hj]; exact e.symm)).2
theorem IsCh.len {l:List Ze} (hc:Ck l) {d:Nat} (hd:d < 4) {C:List Int} (h:IsCh l d C):C.length≤l.length:=by
 refine Zia (fun i=>(gi C i).toNat) (fun i hi=>?_) (fun i j hi hj e=>?_)
 ·have:=h.lt i hi; show (gi C i).toNat < l.length; omega
 ·have a:=h.lt i hi
  have b:=h.lt j hj
  have e:(gi C i).toNat = (gi C j).toNat:=e
  exact (h.at0 hc hd h i j hi hj (by omega)).1
theorem ZgV {P:Nat→Prop}:∀ k,P k→∃ k,P k∧∀ i,i < k→¬ P i:=by
 intro k
 induction k using Nat.strongRecOn with
 | _ k ih =>
  intro h
  by_cases c:∃ i,i < k∧P i
  ·obtain ⟨i,hi,hp⟩:=c
   exact ih i hi hp
  ·exact ⟨k,h,fun i hi hp=>c ⟨i,hi,hp⟩⟩
def fwd (l:List Ze) (d r:Nat):Nat→Int
 | 0=>r
 | n + 1=>if 0≤fwd l d r n then nx l (fwd l d r n).toNat d else -1
theorem ZjT {l:List Ze} (hc:Ck l) {d r:Nat} (hd:d < 4) (hr:r < l.length) (hb:nx l r ((d + 2) % 4) = -1):∃ C,IsCh l d C∧gi C 0 = r:=by
 have step:∀ n,0≤fwd l d r n→fwd l d r (n + 1) = nx l (fwd l d r n).toNat d:=fun n h=>by rw [fwd,if_pos h]
 have pre:∀ n,0≤fwd l d r (n + 1)→0≤fwd l d r n:=by
  intro n h
  by_cases c:0≤fwd l d r n
  ·exact c
  ·rw [fwd,if_neg c] at h; omega
 have lt:∀ n,0≤fwd l d r n→fwd l d r n < l.length:=by
  intro n
  induction n with
  | zero=>intro _; show (r:Int) < l.length; omega
  | succ n ih =>
   intro h
   have c:=pre n h
   have:=ih c
   rw [step n c]
   exact (hc.lt (by omega) hd).2
 have bkw:∀ n,0≤fwd l d r (n + 1)→nx l (fwd l d r (n + 1)).toNat ((d + 2) % 4) = fwd l d r n:=by
  intro n h
  have c:=pre n h
  have a:=lt n c
  have b:=lt (n + 1) h
  have:=(hc.back (v:=(fwd l d r n).toNat) (d:=d) (w:=(fwd l d r (n + 1)).toNat) (by omega) hd (by rw [← step n c]; omega)).2
  rw [this]; omega
 have z:fwd l d r 0 = r:=rfl
 have inj:∀ i j,0≤fwd l d r i→0≤fwd l d r j→fwd l d r i = fwd l d r j→i = j:=by
  intro i
  induction i with
  | zero =>
   intro j _ hj e
   cases j with
   | zero=>rfl
   | succ j =>
    have:=bkw j hj
    rw [← e,z,Int.toNat_natCast,hb] at this
    have:=pre j hj
    omega
  | succ i ih =>
   intro j hi hj e
   cases j with
   | zero =>
    have:=bkw i hi
    rw [e,z,Int.toNat_natCast,hb] at this
    have:=pre i hi
    omega
   | succ j =>
    have a:=bkw i hi
    have b:=bkw j hj
    rw [e,b] at a
    have:=ih j (pre i hi) (pre j hj) a.symm
    omega
 have ex:∃ k,fwd l d r k < 0:=by
  refine Classical.byContradiction fun hn=>?_
  have all:∀ k,0≤fwd l d r k:=fun k=>by
   by_cases c:0≤fwd l d r k
   ·exact c
   ·exact absurd ⟨k,by omega⟩ hn
  have:=Zia (n:=l.length + 1) (m:=l.length) (fun i=>(fwd l d r i).toNat) (fun i _=>by
   have:=lt i (all i); have:=all i
   show (fwd l d r i).toNat < l.length; omega) (fun i j _ _ e=>inj i j (all i) (all j) (by
   have e:(fwd l d r i).toNat = (fwd l d r j).toNat:=e
   have:=all i; have:=all j
   omega))
  omega
 obtain ⟨k0,hk0⟩:=ex
 obtain ⟨k,hk,hm⟩:=ZgV (P:=fun k=>fwd l d r k < 0) k0 hk0
 have hpos:0 < k:=by
  cases k with
  | zero=>rw [z] at hk; omega
  | succ k=>omega
 have g:∀ i,i < k→gi ((List.range k).map (fwd l d r)) i = fwd l d r i:=fun i hi=>ZeJ hi
 have hlen:((List.range k).map (fwd l d r)).length = k:=by simp
 have ge:∀ i,i < k→0≤fwd l d r i:=fun i hi=>by have:=hm i hi; omega
 refine ⟨(List.range k).map (fwd l d r),⟨by omega,fun i hi=>?_,fun i hi=>?_,?_,?_⟩,?_⟩
 ·rw [hlen] at hi
  rw [g i hi]; exact ⟨ge i hi,lt i (ge i hi)⟩
 ·rw [hlen] at hi
  rw [g i (by omega),g (i + 1) hi,step i (ge i (by omega))]
 ·rw [hlen,g _ (by omega),← step _ (ge _ (by omega)),show k - 1 + 1 = k by omega]
  have:=ge (k - 1) (by omega)
  have a:=step (k - 1) this
  rw [show k - 1 + 1 = k by omega] at a
  have:=lt (k - 1) this
  have:=hc.lt (l:=l) (v:=(fwd l d r (k - 1)).toNat) (d:=d) (by omega) hd
  omega
 ·rw [g 0 hpos,z,Int.toNat_natCast]; exact hb
 ·rw [g 0 hpos,z]
def ZcM (l:List Ze) (b:Nat):Nat→Nat→Option Nat
 | 0,_=>none
 | n + 1,v=>if nx l v b < 0 then some v else ZcM l b n (nx l v b).toNat
theorem ZfA {l:List Ze} (hc:Ck l) {d:Nat} (hd:d < 4) {C:List Int} (h:IsCh l d C):∀ i m,i < C.length→i < m→ZcM l ((d + 2) % 4) m (gi C i).toNat = some (gi C 0).toNat
 | 0,m + 1,_,_=>by rw [ZcM,h.beg,if_pos (by omega)]
 | i + 1,m + 1,hi,hm=>by
  have:=h.lt i (by omega)
  rw [ZcM,h.bk hc hd hi,if_neg (by omega)]
  exact ZfA hc hd h i m (by omega) (by omega)
theorem Zek {l:List Ze} (hc:Ck l) {d:Nat} (hd:d < 4):∀ m v r,v < l.length→ZcM l ((d + 2) % 4) m v = some r→∃ C,IsCh l d C∧gi C 0 = r∧∃ i,i < C.length∧gi C i = v
 | 0,v,r,_,h=>by cases h
 | m + 1,v,r,hv,h=>by
  have hb:=hc.lt hv (d:=(d + 2) % 4) (by omega)
  rw [ZcM] at h
  by_cases c:nx l v ((d + 2) % 4) < 0
  ·rw [if_pos c] at h
   cases h
   obtain ⟨C,hC,h0⟩:=ZjT hc hd hv (by omega)
   exact ⟨C,hC,h0,0,hC.ne,h0⟩
  ·rw [if_neg c] at h
   have bk:=hc.back (v:=v) (d:=(d + 2) % 4) (w:=(nx l v ((d + 2) % 4)).toNat) hv (by omega) (by omega)
   rw [show ((d + 2) % 4 + 2) % 4 = d by omega] at bk
   obtain ⟨C,hC,h0,i,hi,e⟩:=Zek hc hd m _ r (by omega) h
   have n:nx l (gi C i).toNat d = v:=by rw [e,Int.toNat_natCast]; exact bk.2
   by_cases q:i + 1 < C.length
   ·exact ⟨C,hC,h0,i + 1,q,by rw [← hC.nxt i q]; exact n⟩
   ·have f:=hC.fin
    rw [show C.length - 1 = i by omega,n] at f
    omega
def AllCh (l:List Ze) (d:Nat):Prop:=∀ v:Nat,v < l.length→∃ C,IsCh l d C∧(v:Int)∈C
theorem AllCh.root {l:List Ze} (hc:Ck l) {d:Nat} (hd:d < 4) (h:AllCh l d) {v:Nat} (hv:v < l.length):∃ r C,ZcM l ((d + 2) % 4) (l.length + 1) v = some r∧IsCh l d C∧gi C 0 = r∧(v:Int)∈C:=by
 obtain ⟨C,hC,hm⟩:=h v hv
 obtain ⟨i,hi,e⟩:=List.mem_iff_getElem.1 hm
 have:=hC.len hc hd
 have r:=ZfA hc hd hC i (l.length + 1) hi (by omega)
 rw [ZbG hi,e,Int.toNat_natCast] at r
 have:=hC.lt 0 hC.ne
 exact ⟨_,C,r,hC,by omega,hm⟩
theorem ZhB {l:List Ze} (hc:Ck l) {d:Nat} (hd:d < 4) (h:¬ AllCh l d):∃ v,v < l.length∧ZcM l ((d + 2) % 4) (l.length + 1) v = none:=by
 refine Classical.byContradiction fun hn=>h fun v hv=>?_
 cases r:ZcM l ((d + 2) % 4) (l.length + 1) v with
 | none=>exact absurd ⟨v,hv,r⟩ hn
 | some r' =>
  obtain ⟨C,hC,h0,i,hi,e⟩:=Zek hc hd _ v r' hv r
  exact ⟨C,hC,by rw [← e]; exact Zcp hi⟩
structure CH (l:List Ze) (d:Nat) (a:List Int) (L:List (List Int)):Prop where
 alen:a.length = l.length
 ch:∀ i,i < L.length→IsCh l d (gi L i)
 mem:∀ u:Nat,u < l.length→∃ i:Nat,i < L.length∧gi a u = i∧(u:Int)∈gi L i
 one:∀ i u:Nat,i < L.length→u < l.length→(u:Int)∈gi L i→gi a u = i
 seen:∀ i:Nat,i < L.length→∃ u,u < l.length∧gi a u = i
 ord:∀ u i:Nat,u < l.length→gi a u = i + 1→∃ u',u' < u∧gi a u' = i
 Ll:L.length≤l.length
theorem ZiP {n:Nat} {a:List Int} (ord:∀ u i:Nat,u < n→gi a u = i + 1→∃ u',u' < u∧gi a u' = i):∀ (k u i:Nat),u < n→gi a u = i + (k + 1:Nat)→∃ u',u' < u∧gi a u' = i
 | 0,u,i,hu,e=>ord u i hu (by omega)
 | k + 1,u,i,hu,e=>by
  obtain ⟨u',h1,h2⟩:=ord u (i + (k + 1)) hu (by omega)
  obtain ⟨u'',h3,h4⟩:=ZiP ord k u' i (by omega) (by omega)
  exact ⟨u'',by omega,h4⟩
theorem Zmr {n:Nat} {a a':List Int} (p:∀ u:Nat,u < n→∃ i:Nat,gi a u = i) (p':∀ u:Nat,u < n→∃ i:Nat,gi a' u = i) (o:∀ u i:Nat,u < n→gi a u = i + 1→∃ u',u' < u∧gi a u' = i) (o':∀ u i:Nat,u < n→gi a' u = i + 1→∃ u',u' < u∧gi a' u' = i)
  (h:∀ u v:Nat,u < n→v < n→(gi a u = gi a v↔gi a' u = gi a' v)):∀ v:Nat,v < n→gi a v = gi a' v:=by
 intro v
 induction v using Nat.strongRecOn with
 | _ v ih =>
  intro hv
  obtain ⟨i,hi⟩:=p v hv
  obtain ⟨j,hj⟩:=p' v hv
  by_cases c:i = j
  ·rw [hi,hj,c]
  ·by_cases q:i < j
   ·obtain ⟨u,h1,h2⟩:=ZiP o' (j - i - 1) v i hv (by omega)
    have:=ih u h1 (by omega)
    have:=(h u v (by omega) hv).1 (by omega)
    omega
   ·obtain ⟨u,h1,h2⟩:=ZiP o (i - j - 1) v j hv (by omega)
    have:=ih u h1 (by omega)
    have:=(h u v (by omega) hv).2 (by omega)
    omega
theorem CH.eq {l m:List Ze} {d e:Nat} {a a':List Int} {L L':List (List Int)} (h:CH l d a L) (h':CH m e a' L') (hn:l.length = m.length) (f:List Int→List Int) (hf:∀ C C' v,IsCh l d C→IsCh m e C'→v∈C→v∈C'→C' = f C) (hm:∀ C v,v∈f C↔v∈C):a = a'∧L' = L.map f:=by
 have key:∀ u v:Nat,u < l.length→v < l.length→(gi a u = gi a v↔gi a' u = gi a' v):=by
  intro u v hu hv
  obtain ⟨i,i1,i2,i3⟩:=h.mem u hu
  obtain ⟨j,j1,j2,j3⟩:=h'.mem u (by omega)
  have e:=hf _ _ _ (h.ch i i1) (h'.ch j j1) i3 j3
  constructor
  ·intro q
   obtain ⟨k,k1,k2,k3⟩:=h.mem v hv
   have:k = i:=by omega
   subst this
   have:=h'.one j v j1 (by omega) (by rw [e]; exact (hm _ _).2 k3)
   omega
  ·intro q
   obtain ⟨k,k1,k2,k3⟩:=h'.mem v (by omega)
   have:k = j:=by omega
   subst this
   rw [e] at k3
   have:=h.one i v i1 hv ((hm _ _).1 k3)
   omega
 have ae:∀ v:Nat,v < l.length→gi a v = gi a' v:=Zmr (n:=l.length) (fun u hu=>by obtain ⟨i,_,e,_⟩:=h.mem u hu; exact ⟨i,e⟩) (fun u hu=>by obtain ⟨i,_,e,_⟩:=h'.mem u (by omega); exact ⟨i,e⟩) h.ord (fun u i hu=>h'.ord u i (by omega)) key
 refine ⟨ZdR (by rw [h.alen,h'.alen,hn]) fun i hi=>ae i (by rw [h.alen] at hi; exact hi),?_⟩
 have ll:L'.length = L.length:=by
  have A:∀ i,i < L.length→i < L'.length:=by
   intro i hi
   obtain ⟨u,hu,e⟩:=h.seen i hi
   obtain ⟨j,j1,j2,_⟩:=h'.mem u (by omega)
   have:=ae u hu
   omega
  have B:∀ i,i < L'.length→i < L.length:=by
   intro i hi
   obtain ⟨u,hu,e⟩:=h'.seen i hi
   obtain ⟨j,j1,j2,_⟩:=h.mem u (by omega)
   have:=ae u (by omega)
   omega
  have a1:=A (L.length - 1)
  have b1:=B (L'.length - 1)
  omega
 apply ZdR (by rw [ll,List.length_map])
 intro i hi
 have hi':i < L.length:=by omega
 obtain ⟨u,hu,e⟩:=h.seen i hi'
 obtain ⟨k,k1,k2,k3⟩:=h.mem u hu
 obtain ⟨j,j1,j2,j3⟩:=h'.mem u (by omega)
 have:=ae u hu
 have ek:k = i:=by omega
 have ej:j = i:=by omega
 subst ek; subst ej
 rw [hf _ _ _ (h.ch _ hi') (h'.ch _ hi) k3 j3,ZbG (l:=L.map f) (by simpa using hi'),ZbG hi',List.getElem_map]
end Mu
/- Layer 16: what the chains' code works out. -/
set_option linter.unusedVariables false
set_option linter.unusedSimpArgs false
set_option maxRecDepth 10000
namespace Mu
theorem Zn1 {l:List Ze} (hc:Ck l) (hl:l.length≤1000) {b:Nat} (hb:b < 4):∀ (m u j:Nat),j + m = l.length→u < l.length→ZT (zK.s1 l b) (m + 1) ((u:Int),(j:Int)) = some (match ZcM l b (m + 1) u with | some r=>.inl (r:Int) | none=>.inr ()):=by
 intro m
 induction m with
 | zero =>
  intro u j hj hu
  have e:(gi l u).Next.get (b:Int) = nx l u b:=rfl
  simp only [ZT,zK.s1,ZcM]
  rw [Z4 (by omega),Z4 (by omega),Int.toNat_natCast,e]
  by_cases c:nx l u b < 0
  ·rw [ZC (by omega),if_pos c]
  ·rw [ZA (by omega),ZA (by omega),if_neg c]
 | succ m ih =>
  intro u j hj hu
  have e:(gi l u).Next.get (b:Int) = nx l u b:=rfl
  have hlt:=hc.lt hu hb
  rw [ZT,ZcM]
  simp only [zK.s1]
  rw [Z4 (by omega),Z4 (by omega),Int.toNat_natCast,e]
  by_cases c:nx l u b < 0
  ·rw [ZC (by omega),if_pos c]
  ·rw [ZA (by omega),ZC (by omega),zE (by omega),if_neg c]
   have:=ih (nx l u b).toNat (j + 1) (by omega) (by omega)
   rw [show ((nx l u b).toNat:Int) = nx l u b by omega,show ((j + 1:Nat):Int) = (j:Int) + 1 by omega] at this
   exact this
theorem Zix {l:List Ze} (hc:Ck l) (hl:l.length≤1000) {b v:Nat} (hb:b < 4) (hv:v < l.length):ZT (zK.s1 l b) big ((v:Int),0) = some (match ZcM l b (l.length + 1) v with | some r=>.inl (r:Int) | none=>.inr ()):=by
 have:=Zn1 hc hl hb l.length v 0 (by omega) hv
 exact ZcI this (by unfold big; omega)
theorem Zny {l:List Ze} (hc:Ck l) (hl:l.length≤1000) {d:Nat} (hd:d < 4):∀ (m u j:Nat),j + m = l.length + 1→u < l.length→ZT (Za8.s0 l d) (m + 1) ((u:Int),(j:Int)) = some (match ZcM l ((d + 2) % 4) m u with | some r=>.inr (r:Int) | none=>.inl ()):=by
 have hbk:(((d:Int) + 2).tmod 4) = (((d + 2) % 4:Nat):Int):=by
  match d,hd with
  | 0,_ | 1,_ | 2,_ | 3,_=>rfl
 intro m
 induction m with
 | zero =>
  intro u j hj hu
  simp only [ZT,Za8.s0,ZcM]
  rw [ZC (by omega)]
 | succ m ih =>
  intro u j hj hu
  have e:(gi l u).Next.get (((d + 2) % 4:Nat):Int) = nx l u ((d + 2) % 4):=rfl
  have hlt:=hc.lt (d:=(d + 2) % 4) hu (by omega)
  rw [ZT,ZcM]
  simp only [Za8.s0]
  rw [ZA (by omega),zE (by omega),Z4 (by omega),hbk,Z4 (by omega),Int.toNat_natCast,e]
  by_cases c:nx l u ((d + 2) % 4) < 0
  ·rw [ZA c,if_pos c]
  ·rw [ZC c,zE (by omega),if_neg c]
   have:=ih (nx l u ((d + 2) % 4)).toNat (j + 1) (by omega) (by omega)
   rw [show ((nx l u ((d + 2) % 4)).toNat:Int) = nx l u ((d + 2) % 4) by omega,show ((j + 1:Nat):Int) = (j:Int) + 1 by omega] at this
   exact this
theorem Zkj {l:List Ze} (hc:Ck l) (hl:l.length≤1000) {d v:Nat} (hd:d < 4) (hv:v < l.length):Za8 l v d = some (match ZcM l ((d + 2) % 4) (l.length + 1) v with | some r=>(r:Int) | none=>-1):=by
 have:=ZcI (Zny hc hl hd (l.length + 1) v 0 (by omega) hv) (m:=big) (by unfold big; omega)
 unfold Za8
 rw [show (0:Int) = ((0:Nat):Int) from rfl,this,Option.bind_some]
 cases ZcM l ((d + 2) % 4) (l.length + 1) v <;> rfl
theorem Zgh {C:List Int} {i:Nat} (hi:i < C.length):gi (C++[-1]) i = gi C i:=Zc0 hi
theorem Zg8 {C:List Int}:gi (C++[-1]) C.length = -1:=by
 have:=Zcq (l:=C) (m:=[(-1:Int)]) (i:=0)
 rwa [Nat.add_zero] at this
theorem ZhN {l:List Ze} {d:Nat} {C:List Int} (h:IsCh l d C) {i:Nat} (hi:i < C.length):nx l (gi C i).toNat d = gi (C++[-1]) (i + 1):=by
 by_cases c:i + 1 < C.length
 ·rw [Zgh c]; exact h.nxt i c
 ·have e:i + 1 = C.length:=by omega
  rw [e,Zg8]
  have:=h.fin
  rwa [show C.length - 1 = i by omega] at this
theorem Zkv {l:List Ze} (hl:l.length≤1000) {d:Nat} (hd:d < 4) {C:List Int} (h:IsCh l d C) (hCl:C.length≤l.length) {a:List Int} (ha:a.length = l.length) {L:List (List Int)}:∃ r,ZT (zK.s2 l d L) big (a,([]:List Int),gi C 0) = some r∧(r.2 = C∧r.1.length = l.length∧∀ u:Nat,u < l.length→gi r.1 u = if (u:Int)∈C then (L.length:Int) else gi a u):=by
 refine Zcf (fun (k:Nat) (s:List Int × List Int × Int)=>s.2.1 = C.take k∧s.2.2 = gi (C++[-1]) k∧s.1.length = l.length∧∀ u:Nat,u < l.length→gi s.1 u = if (u:Int)∈C.take k then (L.length:Int) else gi a u) (n:=C.length) (ZaI (by omega)) ⟨by simp,(Zgh h.ne).symm,ha,fun u hu=>by simp⟩ ?_ ?_
 ·rintro k ⟨a',c,w⟩ hk ⟨h1,h2,h3,h4⟩
  dsimp only at h1 h2 h3 h4 ⊢
  subst h1
  rw [Zgh hk] at h2
  subst h2
  have hlt:=h.lt k hk
  have e:(gi l (gi C k).toNat).Next.get (d:Int) = nx l (gi C k).toNat d:=rfl
  simp only [zK.s2]
  rw [ZA (by omega),Z4 (by omega),Z4 (by rw [List.length_take]; simp; omega),Z4 (by omega),Z4 (by omega),e,ZhN h hk]
  refine ⟨_,rfl,by dsimp only; rw [Zgc hk],rfl,by rw [List.length_set]; exact h3,fun u hu=>?_⟩
  dsimp only
  have hmem:(u:Int)∈C.take k++[gi C k]↔((u:Int)∈C.take k∨(u:Int) = gi C k):=by rw [List.mem_append,List.mem_singleton]
  rw [Zc1 (by omega),h4 u hu,Zgc hk]
  by_cases q:u = (gi C k).toNat
  ·rw [if_pos q,if_pos (hmem.2 (.inr (by omega)))]
  ·rw [if_neg q]
   by_cases q2:(u:Int)∈C.take k
   ·rw [if_pos q2,if_pos (hmem.2 (.inl q2))]
   ·rw [if_neg q2,if_neg (fun h=>by rcases hmem.1 h with q3 | q3; exact q2 q3; omega)]
 ·rintro ⟨a',c,w⟩ ⟨h1,h2,h3,h4⟩
  dsimp only at h1 h2 h3 h4 ⊢
  subst h1
  rw [Zg8] at h2
  subst h2
  simp only [zK.s2]
  rw [ZC (by omega)]
  rw [List.take_length] at h4 ⊢
  exact ⟨_,rfl,rfl,h3,h4⟩
theorem Zms {l:List Ze} (hl:l.length≤1000) {d:Nat} (hd:d < 4) {C:List Int} (h:IsCh l d C) (hCl:C.length≤l.length):ZT (ZH.s2 l d) big (([]:List Int),gi C 0) = some C:=by
 refine ZbJ (fun k:Nat=>(C.take k,gi (C++[-1]) k)) (n:=C.length) (ZaI (by omega)) (by rw [Zgh h.ne]; rfl) (fun k hk=>?_) ?_
 ·have hlt:=h.lt k hk
  have e:(gi l (gi C k).toNat).Next.get (d:Int) = nx l (gi C k).toNat d:=rfl
  simp only [ZH.s2]
  rw [Zgh hk,ZA (by omega),Z4 (by rw [List.length_take]; simp; omega),Z4 (by omega),Z4 (by omega),e,ZhN h hk,Zgc hk]
 ·simp only [ZH.s2]
  rw [Zg8,ZC (by omega),List.take_length]
structure SI (l:List Ze) (d:Nat) (a:List Int) (L:List (List Int)) (v:Nat):Prop where
 alen:a.length = l.length
 ch:∀ i,i < L.length→IsCh l d (gi L i)
 mem:∀ u:Nat,u < l.length→(gi a u = -1∧∀ i,i < L.length→(u:Int) ∉ gi L i)∨∃ i:Nat,i < L.length∧gi a u = i∧(u:Int)∈gi L i
 one:∀ i u:Nat,i < L.length→u < l.length→(u:Int)∈gi L i→gi a u = i
 done:∀ u,u < v→0≤gi a u
 seen:∀ i:Nat,i < L.length→∃ u,u < v∧gi a u = i
 ord:∀ u i:Nat,u < l.length→gi a u = i + 1→∃ u',u' < u∧gi a u' = i
 Ll:L.length≤v
theorem Zee {α:Type} [Inhabited α] {L:List α} {C:α} {i:Nat} (hi:i < L.length + 1):gi (L++[C]) i = if i < L.length then gi L i else C:=by
 by_cases c:i < L.length
 ·rw [if_pos c,Zc0 c]
 ·rw [if_neg c,show i = L.length + 0 by omega,Zcq]; rfl
theorem SI.skip {l:List Ze} {d v:Nat} {a:List Int} {L:List (List Int)} (h:SI l d a L v) (hv:0≤gi a v):SI l d a L (v + 1) :=
 ⟨h.alen,h.ch,h.mem,h.one,fun u hu=>by
  by_cases c:u = v
  ·subst c; exact hv
  ·exact h.done u (by omega),fun i hi=>by obtain ⟨u,a,b⟩:=h.seen i hi; exact ⟨u,by omega,b⟩,h.ord,by have:=h.Ll; omega⟩
theorem SI.add {l:List Ze} (hc:Ck l) {d v:Nat} (hd:d < 4) {a a':List Int} {L:List (List Int)} (h:SI l d a L v) (hv:v < l.length) (hneg:gi a v < 0) {C:List Int} (hC:IsCh l d C) (hm:(v:Int)∈C) (al:a'.length = l.length) (ha:∀ u:Nat,u < l.length→gi a' u = if (u:Int)∈C then (L.length:Int) else gi a u):SI l d a' (L++[C]) (v + 1):=by
 have hL:(L++[C]).length = L.length + 1:=by simp
 have off:∀ i,i < L.length→∀ u:Nat,u < l.length→(u:Int)∈gi L i→(u:Int) ∉ C:=by
  intro i hi u hu h1 h2
  have e:=(h.ch i hi).uniq hc hd hC h1 h2
  have:=h.one i v hi hv (by rw [e]; exact hm)
  omega
 have late:∀ u:Nat,u < l.length→(u:Int)∈C→v≤u∧gi a u = -1:=by
  intro u hu h2
  have hneg1:gi a u = -1:=by
   rcases h.mem u hu with ⟨q,_⟩ | ⟨i,i1,_,i3⟩
   ·exact q
   ·exact absurd h2 (off i i1 u hu i3)
  refine ⟨?_,hneg1⟩
  by_cases c:u < v
  ·have:=h.done u c; omega
  ·omega
 have av:gi a' v = L.length:=by rw [ha v hv,if_pos hm]
 have old:∀ u:Nat,u < l.length→(u:Int) ∉ C→gi a' u = gi a u:=fun u hu q=>by rw [ha u hu,if_neg q]
 refine ⟨al,fun i hi=>?_,fun u hu=>?_,fun i u hi hu hmem=>?_,fun u hu=>?_,fun i hi=>?_,fun u i hu e=>?_,by rw [hL]; have:=h.Ll; omega⟩
 ·rw [Zee (by omega)]
  split
  ·exact h.ch i (by assumption)
  ·exact hC
 ·by_cases q:(u:Int)∈C
  ·exact .inr ⟨L.length,by omega,by rw [ha u hu,if_pos q],by rw [Zee (by omega),if_neg (by omega)]; exact q⟩
  ·rw [old u hu q]
   rcases h.mem u hu with ⟨p,r⟩ | ⟨i,i1,i2,i3⟩
   ·refine .inl ⟨p,fun i hi=>?_⟩
    rw [Zee (by omega)]
    split
    ·exact r i (by assumption)
    ·exact q
   ·exact .inr ⟨i,by omega,i2,by rw [Zee (by omega),if_pos i1]; exact i3⟩
 ·rw [Zee (by omega)] at hmem
  by_cases c:i < L.length
  ·rw [if_pos c] at hmem
   rw [old u hu (off i c u hu hmem)]
   exact h.one i u c hu hmem
  ·rw [if_neg c] at hmem
   rw [ha u hu,if_pos hmem]; omega
 ·by_cases c:u = v
  ·subst c; rw [av]; omega
  ·have hul:u < l.length:=by omega
   by_cases q:(u:Int)∈C
   ·rw [ha u hul,if_pos q]; omega
   ·rw [old u hul q]; exact h.done u (by omega)
 ·by_cases c:i < L.length
  ·obtain ⟨u,u1,u2⟩:=h.seen i c
   refine ⟨u,by omega,?_⟩
   have hul:u < l.length:=by omega
   rw [old u hul (fun q=>by have:=late u hul q; omega)]; exact u2
  ·exact ⟨v,by omega,by rw [av]; omega⟩
 ·have push:∀ u',u' < v→gi a u' = i→∃ u',u' < v∧gi a' u' = i:=fun u' h1 h2=>⟨u',h1,by rw [old u' (by omega) (fun q=>by have:=late u' (by omega) q; omega)]; exact h2⟩
  by_cases q:(u:Int)∈C
  ·rw [ha u hu,if_pos q] at e
   obtain ⟨u',u1,u2⟩:=h.seen i (by omega)
   obtain ⟨u'',w1,w2⟩:=push u' u1 u2
   exact ⟨u'',by have:=late u hu q; omega,w2⟩
  ·rw [old u hu q] at e
   obtain ⟨u',u1,u2⟩:=h.ord u i hu e
   refine ⟨u',u1,?_⟩
   rw [old u' (by omega) (fun q=>by have:=late u' (by omega) q; omega)]; exact u2
theorem Zjr {l:List Ze} (hc:Ck l) (hl:l.length≤64) {d:Nat} (hd:d < 4):(AllCh l d→∃ a L,zK l d = some (a,L,true)∧CH l d a L)∧(¬ AllCh l d→zK l d = some ([],[],false)):=by
 have rep:=Zji (n:=l.length) (by omega)
 have bk:=Zlv hd
 have z:∀ u:Nat,u < l.length→gi (List.replicate l.length (-1:Int)) u = -1:=fun u hu=>by rw [ZbG (by simpa using hu),List.getElem_replicate]
 have st:SI l d (List.replicate l.length (-1:Int)) [] 0:=⟨by simp,fun i hi=>by simp at hi,fun u hu=>.inl ⟨z u hu,fun i hi=>by simp at hi⟩,fun i u hi=>by simp at hi,fun u hu=>by omega,fun i hi=>by simp at hi,fun u i hu e=>by rw [z u hu] at e; omega,by simp⟩
 constructor
 ·intro hA
  have:∃ r:(List Int × List (List Int)) ⊕ Unit,ZT (zK.s0 l d (((d + 2) % 4:Nat):Int)) big (List.replicate l.length (-1:Int),([]:List (List Int)),0) = some r∧∃ a L,r = .inl (a,L)∧SI l d a L l.length:=by
   refine Zcf (fun (k:Nat) (s:List Int × List (List Int) × Int)=>SI l d s.1 s.2.1 k∧s.2.2 = k) (n:=l.length) (ZaI (by omega)) ⟨st,rfl⟩ ?_ ?_
   ·rintro k ⟨a,L,x⟩ hk ⟨h1,h2⟩
    dsimp only at h1 h2 ⊢
    subst h2
    have hal:=h1.alen
    have hLl:=h1.Ll
    simp only [zK.s0]
    rw [ZA (by omega),Z4 (by omega),Int.toNat_natCast]
    by_cases c:0≤gi a k
    ·rw [ZA c,zE (by omega)]
     exact ⟨_,rfl,h1.skip c,by dsimp only; omega⟩
    ·obtain ⟨r,C,hr,hC,h0,hm⟩:=hA.root hc hd hk
     rw [ZC c,Zix hc (by omega) (by omega) hk,hr,Option.bind_some]
     dsimp only
     obtain ⟨⟨a',C'⟩,e,e1,e2,e3⟩:=Zkv (by omega) hd hC (hC.len hc hd) hal (L:=L)
     dsimp only at e1 e2 e3
     subst e1
     rw [← h0,e,Option.bind_some]
     dsimp only
     rw [Z4 (by omega),zE (by omega)]
     exact ⟨_,rfl,h1.add hc hd hk (by omega) hC hm e2 e3,by dsimp only; omega⟩
   ·rintro ⟨a,L,x⟩ ⟨h1,h2⟩
    dsimp only at h1 h2 ⊢
    subst h2
    simp only [zK.s0]
    rw [ZC (by omega)]
    exact ⟨_,rfl,a,L,rfl,h1⟩
  obtain ⟨r,e,a,L,rfl,h⟩:=this
  refine ⟨a,L,?_,h.alen,h.ch,fun u hu=>?_,h.one,h.seen,h.ord,h.Ll⟩
  ·unfold zK
   rw [rep,Option.bind_some,bk,Option.bind_some,e,Option.bind_some]
  ·rcases h.mem u hu with ⟨q,_⟩ | q
   ·have:=h.done u hu; omega
   ·exact q
 ·intro hA
  obtain ⟨v0,hv0,hr0⟩:=ZhB hc hd hA
  have:∃ r:(List Int × List (List Int)) ⊕ Unit,ZT (zK.s0 l d (((d + 2) % 4:Nat):Int)) big (List.replicate l.length (-1:Int),([]:List (List Int)),0) = some r∧r = .inr ():=by
   refine ZdA (fun s:List Int × List (List Int) × Int=>l.length - s.2.2.toNat) (fun s=>∃ k:Nat,s.2.2 = k∧k≤v0∧SI l d s.1 s.2.1 k) (ZaI (by dsimp only; omega)) ⟨0,rfl,by omega,st⟩ ?_
   rintro ⟨a,L,x⟩ ⟨k,h2,hk0,h1⟩
   dsimp only at h1 h2 ⊢
   subst h2
   have hal:=h1.alen
   have hLl:=h1.Ll
   have hk:k < l.length:=by omega
   simp only [zK.s0]
   rw [ZA (by omega),Z4 (by omega),Int.toNat_natCast]
   by_cases c:0≤gi a k
   ·left
    have hne:k≠v0:=by
     rintro rfl
     rcases h1.mem k hk with ⟨q,_⟩ | ⟨i,i1,i2,i3⟩
     ·omega
     ·obtain ⟨j,hj,e⟩:=List.mem_iff_getElem.1 i3
      have:=(h1.ch i i1).len hc hd
      have r:=ZfA hc hd (h1.ch i i1) j (l.length + 1) hj (by omega)
      rw [ZbG hj,e,Int.toNat_natCast,hr0] at r
      cases r
    rw [ZA c,zE (by omega)]
    exact ⟨_,rfl,⟨k + 1,by dsimp only; omega,by omega,h1.skip c⟩,by dsimp only; omega⟩
   ·rw [ZC c,Zix hc (by omega) (by omega) hk]
    cases hr:ZcM l ((d + 2) % 4) (l.length + 1) k with
    | none =>
     right
     exact ⟨_,rfl,rfl⟩
    | some r =>
     left
     have hne:k≠v0:=by rintro rfl; rw [hr] at hr0; cases hr0
     obtain ⟨C,hC,h0,i,hi,ei⟩:=Zek hc hd _ k r hk hr
     have hm:(k:Int)∈C:=by rw [← ei]; exact Zcp hi
     rw [Option.bind_some]
     dsimp only
     obtain ⟨⟨a',C'⟩,e,e1,e2,e3⟩:=Zkv (by omega) hd hC (hC.len hc hd) hal (L:=L)
     dsimp only at e1 e2 e3
     subst e1
     rw [← h0,e,Option.bind_some]
     dsimp only
     rw [Z4 (by omega),zE (by omega)]
     exact ⟨_,rfl,⟨k + 1,by dsimp only; omega,by omega,h1.add hc hd hk (by omega) hC hm e2 e3⟩,by dsimp only; omega⟩
  obtain ⟨r,e,rfl⟩:=this
  unfold zK
  rw [rep,Option.bind_some,bk,Option.bind_some,e,Option.bind_some]
end Mu
/- Layer 16: what the document's chains are. -/
set_option linter.unusedVariables false
set_option linter.unusedSimpArgs false
set_option maxRecDepth 10000
namespace Mu
structure RI (l:List Ze) (d:Nat) (a F:List Int) (L:List (List Int)) (v:Nat):Prop where
 alen:a.length = l.length
 flen:F.length = L.length
 ch:∀ i,i < L.length→IsCh l d (gi L i)∧gi (gi L i) 0 = gi F i
 mem:∀ u:Nat,u < v→∃ i:Nat,i < L.length∧gi a u = i∧(u:Int)∈gi L i
 inj:∀ i j,i < L.length→j < L.length→gi F i = gi F j→i = j
 seen:∀ i:Nat,i < L.length→∃ u,u < v∧gi a u = i
 ord:∀ u i:Nat,u < v→gi a u = i + 1→∃ u',u' < u∧gi a u' = i
 Ll:L.length≤v
theorem Znx {F:List Int} {x:Int} (hF:F.length≤1000):∃ k:Nat,ZT (ZH.s1 F x) big 0 = some (k:Int)∧((k < F.length∧gi F k = x)∨(k = F.length∧∀ j,j < F.length→gi F j≠x)):=by
 have:∃ r:Int,ZT (ZH.s1 F x) big 0 = some r∧∃ k:Nat,r = k∧((k < F.length∧gi F k = x)∨(k = F.length∧∀ j,j < F.length→gi F j≠x)):=by
  refine ZdA (fun s:Int=>F.length - s.toNat) (fun s=>∃ k:Nat,s = k∧k≤F.length∧∀ j,j < k→gi F j≠x) (ZaI (by omega)) ⟨0,rfl,by omega,fun j hj=>by omega⟩ ?_
  rintro s ⟨k,rfl,hk,hn⟩
  simp only [ZH.s1]
  by_cases c:k < F.length
  ·rw [ZA (by omega),Z4 (by omega),Int.toNat_natCast,Option.bind_some]
   by_cases q:gi F k = x
   ·right
    rw [Za3 q]
    exact ⟨_,rfl,k,rfl,.inl ⟨c,q⟩⟩
   ·left
    rw [Zba q,zE (by omega)]
    refine ⟨_,rfl,⟨k + 1,by omega,by omega,fun j hj=>?_⟩,by omega⟩
    by_cases e:j = k
    ·subst e; exact q
    ·exact hn j (by omega)
  ·right
   rw [ZC (by omega),Option.bind_some,if_neg (by decide)]
   exact ⟨_,rfl,k,rfl,.inr ⟨by omega,fun j hj=>hn j (by omega)⟩⟩
 obtain ⟨r,e,k,rfl,h⟩:=this
 exact ⟨k,e,h⟩
theorem RI.old {l:List Ze} {d v k:Nat} {a F:List Int} {L:List (List Int)} (h:RI l d a F L v) (hv:v < l.length) (hk:k < L.length) (hm:(v:Int)∈gi L k):RI l d (a.set v k) F L (v + 1):=by
 have hal:=h.alen
 have g:∀ u,gi (a.set v (k:Int)) u = if u = v then (k:Int) else gi a u:=fun u=>Zc1 (by omega)
 refine ⟨by rw [List.length_set,hal],h.flen,h.ch,fun u hu=>?_,h.inj,fun i hi=>?_,fun u i hu e=>?_,by have:=h.Ll; omega⟩
 ·rw [g]
  by_cases c:u = v
  ·subst c; exact ⟨k,hk,by rw [if_pos rfl],hm⟩
  ·rw [if_neg c]; exact h.mem u (by omega)
 ·obtain ⟨u,u1,u2⟩:=h.seen i hi
  exact ⟨u,by omega,by rw [g,if_neg (by omega)]; exact u2⟩
 ·rw [g] at e
  by_cases c:u = v
  ·rw [if_pos c] at e
   obtain ⟨u',u1,u2⟩:=h.seen i (by omega)
   exact ⟨u',by omega,by rw [g,if_neg (by omega)]; exact u2⟩
  ·rw [if_neg c] at e
   obtain ⟨u',u1,u2⟩:=h.ord u i (by omega) e
   exact ⟨u',u1,by rw [g,if_neg (by omega)]; exact u2⟩
theorem RI.new {l:List Ze} {d v:Nat} {a F:List Int} {L:List (List Int)} (h:RI l d a F L v) (hv:v < l.length) {C:List Int} (hC:IsCh l d C) (hm:(v:Int)∈C) (hn:∀ j,j < F.length→gi F j≠gi C 0):RI l d (a.set v (L.length:Nat)) (F++[gi C 0]) (L++[C]) (v + 1):=by
 have hal:=h.alen
 have hfl:=h.flen
 have hL:(L++[C]).length = L.length + 1:=by simp
 have g:∀ u,gi (a.set v (L.length:Int)) u = if u = v then (L.length:Int) else gi a u:=fun u=>Zc1 (by omega)
 have gF:∀ i,i < L.length + 1→gi (F++[gi C 0]) i = if i < L.length then gi F i else gi C 0:=fun i hi=>by rw [Zee (by omega),hfl]
 refine ⟨by rw [List.length_set,hal],by simp [hfl],fun i hi=>?_,fun u hu=>?_,fun i j hi hj e=>?_,fun i hi=>?_,fun u i hu e=>?_,by rw [hL]; have:=h.Ll; omega⟩
 ·rw [Zee (by omega),gF i (by omega)]
  by_cases c:i < L.length
  ·rw [if_pos c,if_pos c]; exact h.ch i c
  ·rw [if_neg c,if_neg c]; exact ⟨hC,rfl⟩
 ·rw [g]
  by_cases c:u = v
  ·subst c; exact ⟨L.length,by omega,by rw [if_pos rfl],by rw [Zee (by omega),if_neg (by omega)]; exact hm⟩
  ·rw [if_neg c]
   obtain ⟨i,i1,i2,i3⟩:=h.mem u (by omega)
   exact ⟨i,by omega,i2,by rw [Zee (by omega),if_pos i1]; exact i3⟩
 ·rw [gF i (by omega),gF j (by omega)] at e
  by_cases c:i < L.length
  ·rw [if_pos c] at e
   by_cases c2:j < L.length
   ·rw [if_pos c2] at e; exact h.inj i j c c2 e
   ·rw [if_neg c2] at e; exact absurd e (hn i (by omega))
  ·rw [if_neg c] at e
   by_cases c2:j < L.length
   ·rw [if_pos c2] at e; exact absurd e.symm (hn j (by omega))
   ·omega
 ·by_cases c:i < L.length
  ·obtain ⟨u,u1,u2⟩:=h.seen i c
   exact ⟨u,by omega,by rw [g,if_neg (by omega)]; exact u2⟩
  ·exact ⟨v,by omega,by rw [g,if_pos rfl]; omega⟩
 ·rw [g] at e
  by_cases c:u = v
  ·rw [if_pos c] at e
   obtain ⟨u',u1,u2⟩:=h.seen i (by omega)
   exact ⟨u',by omega,by rw [g,if_neg (by omega)]; exact u2⟩
  ·rw [if_neg c] at e
   obtain ⟨u',u1,u2⟩:=h.ord u i (by omega) e
   exact ⟨u',u1,by rw [g,if_neg (by omega)]; exact u2⟩
theorem Zl0 {l:List Ze} (hc:Ck l) (hl:l.length≤64) {d v:Nat} (hd:d < 4) {a F:List Int} {L:List (List Int)} (h:RI l d a F L v) (hv:v < l.length) {r:Nat} {C:List Int} (hr:ZcM l ((d + 2) % 4) (l.length + 1) v = some r) (hC:IsCh l d C) (h0:gi C 0 = r) (hm:(v:Int)∈C):∃ a' F' L',ZH.s0 l d (a,F,L,(v:Int)) = some (.inl (a',F',L',(v:Int) + 1))∧RI l d a' F' L' (v + 1):=by
 have hal:=h.alen
 have hfl:=h.flen
 have hLl:=h.Ll
 obtain ⟨k,e,hk⟩:=Znx (F:=F) (x:=(r:Int)) (by omega)
 simp only [ZH.s0]
 rw [ZA (by omega),Zkj hc (by omega) hd hv,hr,Option.bind_some]
 dsimp only
 rw [ZC (by omega),e,Option.bind_some,Z4 (by omega),Int.toNat_natCast]
 rcases hk with ⟨k1,k2⟩ | ⟨rfl,k2⟩
 ·rw [ZC (by omega),zE (by omega)]
  have hq:=h.ch k (by omega)
  have:C = gi L k:=hC.uniq0 hq.1 (by rw [h0,hq.2,k2])
  exact ⟨_,_,_,rfl,h.old hv (by omega) (this ▸ hm)⟩
 ·rw [ZA (by omega),Z4 (by simp; omega),← h0,Zms (by omega) hd hC (hC.len hc hd),Option.bind_some,Z4 (by omega),zE (by omega),hfl]
  exact ⟨_,_,_,rfl,h.new hv hC hm (fun j hj=>by rw [h0]; exact k2 j hj)⟩
theorem RI.stop {l:List Ze} (hc:Ck l) {d:Nat} (hd:d < 4) {a F:List Int} {L:List (List Int)} (h:RI l d a F L l.length):CH l d a L :=
 ⟨h.alen,fun i hi=>(h.ch i hi).1,h.mem,fun i u hi hu hm=>by
  obtain ⟨j,j1,j2,j3⟩:=h.mem u hu
  have e:=(h.ch i hi).1.uniq hc hd (h.ch j j1).1 hm j3
  have:=h.inj i j hi j1 (by rw [← (h.ch i hi).2,← (h.ch j j1).2,e])
  omega,h.seen,h.ord,h.Ll⟩
theorem Zjo {l:List Ze} (hc:Ck l) (hl:l.length≤64) {d:Nat} (hd:d < 4):(AllCh l d→∃ a L,ZH l d = some (a,L,true)∧CH l d a L)∧(¬ AllCh l d→ZH l d = some ([],[],false)):=by
 have st:RI l d (List.replicate l.length (0:Int)) [] [] 0:=⟨by simp,rfl,fun i hi=>by simp at hi,fun u hu=>by omega,fun i j hi=>by simp at hi,fun i hi=>by simp at hi,fun u i hu=>by omega,by simp⟩
 constructor
 ·intro hA
  have:∃ r:(List Int × List (List Int)) ⊕ Unit,ZT (ZH.s0 l d) big (List.replicate l.length (0:Int),([]:List Int),([]:List (List Int)),0) = some r∧∃ a F L,r = .inl (a,L)∧RI l d a F L l.length:=by
   refine Zcf (fun (k:Nat) (s:List Int × List Int × List (List Int) × Int)=>RI l d s.1 s.2.1 s.2.2.1 k∧s.2.2.2 = k) (n:=l.length) (ZaI (by omega)) ⟨st,rfl⟩ ?_ ?_
   ·rintro k ⟨a,F,L,x⟩ hk ⟨h1,h2⟩
    dsimp only at h1 h2 ⊢
    subst h2
    obtain ⟨r,C,hr,hC,h0,hm⟩:=hA.root hc hd hk
    obtain ⟨a',F',L',e,h'⟩:=Zl0 hc hl hd h1 hk hr hC h0 hm
    exact ⟨_,e,h',by dsimp only; omega⟩
   ·rintro ⟨a,F,L,x⟩ ⟨h1,h2⟩
    dsimp only at h1 h2 ⊢
    subst h2
    simp only [ZH.s0]
    rw [ZC (by omega)]
    exact ⟨_,rfl,a,F,L,rfl,h1⟩
  obtain ⟨r,e,a,F,L,rfl,h⟩:=this
  refine ⟨a,L,?_,h.stop hc hd⟩
  unfold ZH
  rw [Z4 (by omega),Int.toNat_natCast,e,Option.bind_some]
 ·intro hA
  obtain ⟨v0,hv0,hr0⟩:=ZhB hc hd hA
  have:∃ r:(List Int × List (List Int)) ⊕ Unit,ZT (ZH.s0 l d) big (List.replicate l.length (0:Int),([]:List Int),([]:List (List Int)),0) = some r∧r = .inr ():=by
   refine ZdA (fun s:List Int × List Int × List (List Int) × Int=>l.length - s.2.2.2.toNat) (fun s=>∃ k:Nat,s.2.2.2 = k∧k≤v0∧RI l d s.1 s.2.1 s.2.2.1 k) (ZaI (by dsimp only; omega)) ⟨0,rfl,by omega,st⟩ ?_
   rintro ⟨a,F,L,x⟩ ⟨k,h2,hk0,h1⟩
   dsimp only at h1 h2 ⊢
   subst h2
   have hk:k < l.length:=by omega
   cases hr:ZcM l ((d + 2) % 4) (l.length + 1) k with
   | none =>
    right
    simp only [ZH.s0]
    rw [ZA (by omega),Zkj hc (by omega) hd hk,hr,Option.bind_some]
    dsimp only
    rw [ZA (by omega)]
    exact ⟨_,rfl,rfl⟩
   | some r =>
    left
    have hne:k≠v0:=by rintro rfl; rw [hr] at hr0; cases hr0
    obtain ⟨C,hC,h0,i,hi,ei⟩:=Zek hc hd _ k r hk hr
    obtain ⟨a',F',L',e,h'⟩:=Zl0 hc hl hd h1 hk hr hC h0 (by rw [← ei]; exact Zcp hi)
    exact ⟨_,e,⟨k + 1,by dsimp only; omega,by omega,h'⟩,by dsimp only; omega⟩
  obtain ⟨r,e,rfl⟩:=this
  unfold ZH
  rw [Z4 (by omega),Int.toNat_natCast,e,Option.bind_some]
/-! both together -/
theorem CH.same {l:List Ze} (hc:Ck l) {d:Nat} (hd:d < 4) {a a':List Int} {L L':List (List Int)} (h:CH l d a L) (h':CH l d a' L'):a = a'∧L = L':=by
 have:=h.eq h' rfl id (fun C C' v c1 c2 m1 m2=>(c1.uniq hc hd c2 m1 m2).symm) (fun C v=>Iff.rfl)
 exact ⟨this.1,by rw [this.2,List.map_id]⟩
theorem Zmh {l:List Ze} (hl:l.length≤64):(Zed l≠0→Zcg l = some (⟨[],[],[],[]⟩,Zed l))∧(Zed l = 0→(AllCh l 1∧AllCh l 0→∃ X Y V H,Zcg l = some (⟨X,Y,V,H⟩,0)∧ZaW l = some (⟨X,Y,V,H⟩,true)∧CH l 1 X V∧CH l 0 Y H)∧(¬ (AllCh l 1∧AllCh l 0)→Zcg l = some (⟨[],[],[],[]⟩,10)∧ZaW l = some (⟨[],[],[],[]⟩,false))):=by
 constructor
 ·intro h
  unfold Zcg
  rw [Zez (by omega),Option.bind_some,Zba h]
 ·intro h
  have hc:=(Zd6.1 h).2
  have s1:=Zjr hc hl (d:=1) (by omega)
  have s0:=Zjr hc hl (d:=0) (by omega)
  have r1:=Zjo hc hl (d:=1) (by omega)
  have r0:=Zjo hc hl (d:=0) (by omega)
  rw [show ((1:Nat):Int) = 1 from rfl] at s1 r1
  rw [show ((0:Nat):Int) = 0 from rfl] at s0 r0
  constructor
  ·rintro ⟨A1,A0⟩
   obtain ⟨X,V,e1,c1⟩:=s1.1 A1
   obtain ⟨Y,H,e2,c2⟩:=s0.1 A0
   obtain ⟨X',V',e3,c3⟩:=r1.1 A1
   obtain ⟨Y',H',e4,c4⟩:=r0.1 A0
   obtain ⟨rfl,rfl⟩:=c1.same hc (by omega) c3
   obtain ⟨rfl,rfl⟩:=c2.same hc (by omega) c4
   refine ⟨X,Y,V,H,?_,?_,c1,c2⟩
   ·unfold Zcg
    rw [Zez (by omega),Option.bind_some,Za3 h,e1,Option.bind_some]
    dsimp only
    rw [e2,Option.bind_some]
    rfl
   ·unfold ZaW
    rw [e3,Option.bind_some]
    dsimp only
    rw [e4,Option.bind_some]
    rfl
  ·intro hn
   have go:∀ (A1:AllCh l 1),¬ AllCh l 0→Zcg l = some (⟨[],[],[],[]⟩,10)∧ZaW l = some (⟨[],[],[],[]⟩,false):=by
    intro A1 A0
    obtain ⟨X,V,e1,c1⟩:=s1.1 A1
    obtain ⟨X',V',e3,c3⟩:=r1.1 A1
    constructor
    ·unfold Zcg
     rw [Zez (by omega),Option.bind_some,Za3 h,e1,Option.bind_some]
     dsimp only
     rw [s0.2 A0,Option.bind_some]
     rfl
    ·unfold ZaW
     rw [e3,Option.bind_some]
     dsimp only
     rw [r0.2 A0,Option.bind_some]
     rfl
   by_cases A1:AllCh l 1
   ·exact go A1 (fun A0=>hn ⟨A1,A0⟩)
   ·have x0:∃ a b c,zK l 0 = some (a,b,c):=by
     by_cases A0:AllCh l 0
     ·obtain ⟨Y,H,e2,c2⟩:=s0.1 A0; exact ⟨_,_,_,e2⟩
     ·exact ⟨_,_,_,s0.2 A0⟩
    have y0:∃ a b c,ZH l 0 = some (a,b,c):=by
     by_cases A0:AllCh l 0
     ·obtain ⟨Y,H,e2,c2⟩:=r0.1 A0; exact ⟨_,_,_,e2⟩
     ·exact ⟨_,_,_,r0.2 A0⟩
    obtain ⟨a,b,c,x0⟩:=x0
    obtain ⟨a',b',c',y0⟩:=y0
    constructor
    ·unfold Zcg
     rw [Zez (by omega),Option.bind_some,Za3 h,s1.2 A1,Option.bind_some]
     dsimp only
     rw [x0,Option.bind_some]
     rfl
    ·unfold ZaW
     rw [r1.2 A1,Option.bind_some]
     dsimp only
     rw [y0,Option.bind_some]
     rfl
end Mu
/- Layer 16: SegTells,SegMeets,SegTurns. -/
set_option linter.unusedVariables false
set_option linter.unusedSimpArgs false
set_option maxRecDepth 10000
namespace Mu
theorem Made.allCh {l:List Ze} {pts:List Zf} (h:Made l pts) {d:Nat} (hd:d < 2):AllCh l d:=by
 have hc:=h.ck
 have hl:=h.len
 obtain ⟨co,hco⟩:∃ co:Nat→Int,co = fun v=>if d = 0 then (gi pts v).X else (gi pts v).Y:=⟨_,rfl⟩
 have pos:∀ v,v < l.length→0≤co v∧co v < 8:=by
  intro v hv
  have:=h.pts.b v (by omega)
  rw [hco]; dsimp only
  split <;> omega
 have key:∀ m v:Nat,v < l.length→co v < (m:Int)→∃ r,ZcM l ((d + 2) % 4) m v = some r:=by
  intro m
  induction m with
  | zero=>intro v hv hm; have:=pos v hv; omega
  | succ m ih =>
   intro v hv hm
   have hb:=hc.lt hv (d:=(d + 2) % 4) (by omega)
   rw [ZcM]
   by_cases c:nx l v ((d + 2) % 4) < 0
   ·exact ⟨v,if_pos c⟩
   ·rw [if_neg c]
    have bk:=hc.back (v:=v) (d:=(d + 2) % 4) (w:=(nx l v ((d + 2) % 4)).toNat) hv (by omega) (by omega)
    rw [show ((d + 2) % 4 + 2) % 4 = d by omega] at bk
    refine ih _ bk.1 ?_
    rcases h.near _ d bk.1 hd with q | q
    ·omega
    ·rw [bk.2] at q
     rcases q with ⟨q,_⟩ | ⟨j,e,_,q,_⟩
     ·omega
     ·have:j = v:=by omega
      subst this
      have:=q.2
      rw [hco] at hm ⊢
      dsimp only at hm ⊢
      by_cases z:d = 0
      ·rw [if_pos z] at this hm ⊢; omega
      ·rw [if_neg z] at this hm ⊢; omega
 intro v hv
 have:=pos v hv
 obtain ⟨r,hr⟩:=key 8 v hv (by omega)
 obtain ⟨C,hC,_,i,hi,e⟩:=Zek hc (by omega) 8 v r hv hr
 exact ⟨C,hC,by rw [← e]; exact Zcp hi⟩
theorem IsCh.move {l m:List Ze} {d e:Nat} {C:List Int} (h:IsCh l d C) (hl:m.length = l.length) (h1:∀ v,v < l.length→nx m v e = nx l v d) (h2:∀ v,v < l.length→nx m v ((e + 2) % 4) = nx l v ((d + 2) % 4)):IsCh m e C:=by
 have hne:=h.ne
 refine ⟨h.ne,fun i hi=>by rw [hl]; exact h.lt i hi,fun i hi=>?_,?_,?_⟩
 ·have:=h.lt i (by omega)
  rw [h1 _ (by omega)]; exact h.nxt i hi
 ·have:=h.lt (C.length - 1) (by omega)
  rw [h1 _ (by omega)]; exact h.fin
 ·have:=h.lt 0 h.ne
  rw [h2 _ (by omega)]; exact h.beg
theorem CH.small {l:List Ze} (hc:Ck l) {d:Nat} (hd:d < 4) {a:List Int} {L:List (List Int)} (h:CH l d a L) {i:Nat} (hi:i < L.length):(gi L i).length≤l.length:=(h.ch i hi).len hc hd
def cl (L:List (List Int)) (i:Int):List Int:=if i < 0∨(L.length:Int)≤i then [] else gi L i.toNat
theorem Zkg {X Y:List Int} {V H:List (List Int)} {ver:Bool} {i:Int}:Zbp ⟨X,Y,V,H⟩ ver i = some (cl (if ver = true then V else H) i):=by
 unfold Zbp cl
 have e:(if ver = true then some V else some H) = some (if ver = true then V else H):=by cases ver <;> rfl
 dsimp only
 rw [e,Option.bind_some]
 by_cases c:i < 0∨((if ver = true then V else H).length:Int)≤i
 ·rw [if_pos c,if_pos (by simpa using c)]
 ·rw [if_neg c,if_neg (by simpa using c),Z4 (by omega)]
theorem ZhU {l:List Ze} {d:Nat} {a:List Int} {L:List (List Int)} (h:CH l d a L) {v i:Int}:v∈cl L i↔0≤v∧v < l.length∧gi a v.toNat = i:=by
 unfold cl
 constructor
 ·intro hm
  by_cases c:i < 0∨(L.length:Int)≤i
  ·rw [if_pos c] at hm; simp at hm
  ·rw [if_neg c] at hm
   obtain ⟨j,hj,e⟩:=List.mem_iff_getElem.1 hm
   have lt:=(h.ch i.toNat (by omega)).lt j hj
   rw [ZbG hj,e] at lt
   have:=h.one i.toNat v.toNat (by omega) (by omega) (by rw [Int.toNat_of_nonneg lt.1]; exact hm)
   exact ⟨lt.1,lt.2,by omega⟩
 ·rintro ⟨h0,h1,h2⟩
  obtain ⟨j,j1,j2,j3⟩:=h.mem v.toNat (by omega)
  rw [if_neg (by omega),show i.toNat = j by omega]
  rwa [Int.toNat_of_nonneg h0] at j3
theorem ZjU {l:List Ze} (hc:Ck l) {d:Nat} (hd:d < 4) {a:List Int} {L:List (List Int)} (h:CH l d a L) {i:Int}:(cl L i).length≤l.length:=by
 unfold cl
 split
 ·simp
 ·exact h.small hc hd (by omega)
theorem ZlZ {s:List Int} {f:Int→Option Bool} {g:Int→Bool} (hn:s.length≤1000000) (h:∀ a∈s,f a = some (g a)):ZaU s f = some (s.any g):=by
 have h1:ZT (Zat.s0 s f) big 0 = some (match (List.range s.length).find? (fun i=>g (gi s i)) with | some i=>.inr (i:Int) | none=>.inl ()):=by
  refine Zc8 (n:=s.length) (P:=fun i=>g (gi s i)) (f:=fun i=>(i:Int)) (ZaI (by omega)) (fun i hi=>?_) ?_
  ·simp only [Zat.s0]
   rw [ZA (by omega),Z4 (by omega),Int.toNat_natCast,h _ (Zcp hi),Option.bind_some,zE (by omega)]
   cases g (gi s i) <;> rfl
  ·simp only [Zat.s0]
   rw [ZC (by omega)]
 unfold ZaU Zat
 rw [h1,Option.bind_some]
 cases hf:(List.range s.length).find? (fun i=>g (gi s i)) with
 | none =>
  rw [List.find?_range_eq_none] at hf
  have:s.any g = false:=by
   rw [List.any_eq_false]
   intro a ha
   obtain ⟨i,hi,rfl⟩:=List.mem_iff_getElem.1 ha
   have:=hf i hi
   rw [ZbG hi] at this
   simpa using this
  rw [this]; rfl
 | some i =>
  rw [List.find?_range_eq_some] at hf
  obtain ⟨h1,h2,_⟩:=hf
  have hi:i < s.length:=by simpa using h2
  have:s.any g = true:=by
   rw [List.any_eq_true]
   exact ⟨gi s i,Zcp hi,h1⟩
  rw [this]
  dsimp only
  rw [Option.bind_some,Zbz (by omega)]
theorem Zin {α:Type} {c:Bool} {a b:α}:(if c = true then some a else some b) = some (if c = true then a else b):=by cases c <;> rfl
theorem Zni {l:List Ze} (hc:Ck l) (hl:l.length≤64) {X Y:List Int} {V H:List (List Int)} (hx:CH l 1 X V) (hy:CH l 0 Y H) (ver oth:Bool) (i k:Int):∃ b,Zbb ⟨X,Y,V,H⟩ ver i oth k = some b∧Zao ⟨X,Y,V,H⟩ ver i oth k = some b:=by
 have kind:∀ w:Bool,∃ d,d < 4∧CH l d (if w = true then X else Y) (if w = true then V else H):=by
  intro w
  cases w with
  | true=>exact ⟨1,by omega,hx⟩
  | false=>exact ⟨0,by omega,hy⟩
 obtain ⟨d1,hd1,c1⟩:=kind ver
 obtain ⟨d2,hd2,c2⟩:=kind oth
 have hXl:=hx.alen
 have hYl:=hy.alen
 have n1:=ZjU hc hd1 c1 (i:=i)
 have n2:=ZjU hc hd2 c2 (i:=k)
 have e1:Zbb ⟨X,Y,V,H⟩ ver i oth k = some ((cl (if ver = true then V else H) i).any fun v=>decide (v∈cl (if oth = true then V else H) k)):=by
  unfold Zbb
  rw [Zkg,Option.bind_some,Zkg,Option.bind_some,ZlZ (g:=fun v=>decide (v∈cl (if oth = true then V else H) k)) (by omega) (fun v _=>by
   unfold ZbX
   rw [ZiH (by omega),Option.bind_some]),Option.bind_some]
 have e2:ZT (Zao.s0 ⟨X,Y,V,H⟩ ver i oth k) big 0 = some (match (List.range l.length).find? (fun v=>decide (gi (if ver = true then X else Y) v = i) && decide (gi (if oth = true then X else Y) v = k)) with | some v=>.inr () | none=>.inl ()):=by
  refine Zc8 (n:=l.length) (P:=fun v=>decide (gi (if ver = true then X else Y) v = i) && decide (gi (if oth = true then X else Y) v = k)) (f:=fun _=>()) (ZaI (by omega)) (fun v hv=>?_) ?_
  ·simp only [Zao.s0]
   rw [ZA (by omega),Z4 (by omega),Int.toNat_natCast]
   have t:(if ver = true then ck ((0:Int)≤(v:Int)∧(v:Int) < (X.length:Int)) (some (decide (gi X v = i))) else some (decide (gi Y v = i))) = some (decide (gi (if ver = true then X else Y) v = i)):=by
    cases ver with
    | true=>rw [if_pos rfl,if_pos rfl,Z4 (by omega)]
    | false=>rw [if_neg (by decide),if_neg (by decide)]
   rw [t,Option.bind_some,zE (by omega)]
   cases oth with
   | true =>
    rw [if_pos rfl,Z4 (by omega),if_pos (rfl:true = true)]
    exact Zin
   | false =>
    rw [if_neg (by decide),if_neg (show ¬ false = true by decide)]
    exact Zin
  ·simp only [Zao.s0]
   rw [ZC (by omega)]
 refine ⟨_,e1,?_⟩
 unfold Zao
 rw [e2,Option.bind_some]
 cases hf:(List.range l.length).find? (fun v=>decide (gi (if ver = true then X else Y) v = i) && decide (gi (if oth = true then X else Y) v = k)) with
 | none =>
  rw [List.find?_range_eq_none] at hf
  have:((cl (if ver = true then V else H) i).any fun v=>decide (v∈cl (if oth = true then V else H) k)) = false:=by
   rw [List.any_eq_false]
   intro v hv hw
   rw [decide_eq_true_eq] at hw
   have a:=(ZhU c1).1 hv
   have b:=(ZhU c2).1 hw
   have:=hf v.toNat (by omega)
   rw [a.2.2,b.2.2] at this
   simp at this
  rw [this]
 | some v =>
  rw [List.find?_range_eq_some] at hf
  obtain ⟨h1,h2,_⟩:=hf
  have hv:v < l.length:=by simpa using h2
  rw [Bool.and_eq_true,decide_eq_true_eq,decide_eq_true_eq] at h1
  have:((cl (if ver = true then V else H) i).any fun v=>decide (v∈cl (if oth = true then V else H) k)) = true:=by
   rw [List.any_eq_true]
   refine ⟨v,(ZhU c1).2 ⟨by omega,by omega,by rw [Int.toNat_natCast]; exact h1.1⟩,?_⟩
   rw [decide_eq_true_eq]
   exact (ZhU c2).2 ⟨by omega,by omega,by rw [Int.toNat_natCast]; exact h1.2⟩
  rw [this]
end Mu
/- Layer 16: SegTells,SegTurns. -/
set_option linter.unusedVariables false
set_option linter.unusedSimpArgs false
set_option maxRecDepth 10000
namespace Mu
end Mu
/- Layer 17: lengths of edges. -/
set_option linter.unusedVariables false
set_option linter.unusedSimpArgs false
set_option maxRecDepth 10000
namespace Mu
def strt (d:Nat) (a b:Zf):Prop:=if d = 0 then a.Y = b.Y∧a.X < b.X else a.X = b.X∧a.Y < b.Y
instance {d:Nat} {a b:Zf}:Decidable (strt d a b):=by unfold strt; infer_instance
theorem Zkf {d:Nat} (hd:d < 2) (a b:Zf):∃ x4 x5,Zb0 a b = some (x4,x5)∧((!x5) || (!(decide (x4 = (d:Int))))) = !decide (strt d a b):=by
 have ev:∀ x4 x5,Zb0 a b = some (x4,x5)→(((x5 = true∧x4 = (d:Int))↔strt d a b)→∃ x4 x5,Zb0 a b = some (x4,x5)∧((!x5) || (!(decide (x4 = (d:Int))))) = !decide (strt d a b)):=by
  intro x4 x5 h hh
  refine ⟨x4,x5,h,?_⟩
  by_cases c:strt d a b
  ·obtain ⟨h1,h2⟩:=hh.2 c
   rw [Zbz c,h1,Zbz h2]; rfl
  ·rw [ZbD c]
   cases x5 with
   | false=>rfl
   | true =>
    have:¬ x4 = (d:Int):=fun h=>c (hh.1 ⟨rfl,h⟩)
    rw [ZbD this]; rfl
 unfold Zb0 at ev ⊢
 have hd2:d = 0∨d = 1:=by omega
 by_cases e1:a.X = b.X
 ·by_cases e2:a.Y = b.Y
  ·refine ev 0 false (by rw [Zbz e1,Zbz e2,ZA rfl]) ?_
   constructor
   ·rintro ⟨h,_⟩; cases h
   ·intro h; unfold strt at h; split at h <;> omega
  ·rw [Zbz e1,ZbD e2,ZC (by decide),ZC (by omega),ZC (by omega)] at ev ⊢
   by_cases c:a.Y < b.Y
   ·refine ev 1 true (by rw [ZA c]) ?_
    unfold strt
    rcases hd2 with rfl | rfl
    ·rw [if_pos rfl]; constructor <;> rintro ⟨h1,h2⟩ <;> omega
    ·rw [if_neg (by decide)]; exact ⟨fun _=>⟨e1,c⟩,fun _=>⟨rfl,rfl⟩⟩
   ·refine ev 3 true (by rw [ZC c]) ?_
    unfold strt
    rcases hd2 with rfl | rfl
    ·rw [if_pos rfl]; constructor <;> rintro ⟨h1,h2⟩ <;> omega
    ·rw [if_neg (by decide)]; constructor <;> rintro ⟨h1,h2⟩ <;> omega
 ·by_cases e2:a.Y = b.Y
  ·rw [ZbD e1,Zbz e2,ZC (by decide)] at ev ⊢
   by_cases c:a.X < b.X
   ·refine ev 0 true (by rw [ZA c]) ?_
    unfold strt
    rcases hd2 with rfl | rfl
    ·rw [if_pos rfl]; exact ⟨fun _=>⟨e2,c⟩,fun _=>⟨rfl,rfl⟩⟩
    ·rw [if_neg (by decide)]; constructor <;> rintro ⟨h1,h2⟩ <;> omega
   ·refine ev 2 true (by rw [ZC c,ZA (by omega)]) ?_
    unfold strt
    rcases hd2 with rfl | rfl
    ·rw [if_pos rfl]; constructor <;> rintro ⟨h1,h2⟩ <;> omega
    ·rw [if_neg (by decide)]; constructor <;> rintro ⟨h1,h2⟩ <;> omega
  ·refine ev 0 false (by rw [ZbD e1,ZbD e2,ZA rfl]) ?_
   constructor
   ·rintro ⟨h,_⟩; cases h
   ·intro h; unfold strt at h; split at h <;> omega
def wt (o:Int):Int:=if 0≤o then 1 else 0
theorem Zlb {o:Int}:Zcw o = some (wt o):=by
 unfold Zcw wt
 by_cases c:0≤o
 ·rw [ZA c,if_pos c]
 ·rw [ZC c,if_neg c]
def okE (l:List Ze) (p:List Zf) (v d:Nat):Prop:=nx l v d < 0∨strt d (gi p v) (gi p (nx l v d).toNat)
instance {l:List Ze} {p:List Zf} {v d:Nat}:Decidable (okE l p v d):=by unfold okE; infer_instance
def tE (l:List Ze) (p:List Zf) (v d:Nat):Int:=if nx l v d < 0 then 0 else wt (ow l v d) * ((gi p (nx l v d).toNat).X - (gi p v).X + (gi p (nx l v d).toNat).Y - (gi p v).Y)
def Zft (l:List Ze) (p:List Zf):Nat→Int
 | 0=>0
 | n + 1=>Zft l p n + tE l p n 0 + tE l p n 1
def ZfH (p:List Zf):Prop:=∀ i,i < p.length→(-1000000≤(gi p i).X∧(gi p i).X≤1000000)∧(-1000000≤(gi p i).Y∧(gi p i).Y≤1000000)
theorem Zn6 {o:Int}:wt o = 0∨wt o = 1:=by unfold wt; split <;> simp
theorem Zjt {l:List Ze} (hc:Ck l) {p:List Zf} (hp:p.length = l.length) (hn:ZfH p) {v d:Nat} (hv:v < l.length) (hd:d < 4):-4000000≤tE l p v d∧tE l p v d≤4000000:=by
 unfold tE
 split
 ·omega
 ·have:=hc.lt hv hd
  have a:=hn v (by omega)
  have b:=hn (nx l v d).toNat (by omega)
  rcases Zn6 (o:=ow l v d) with h | h <;> rw [h] <;> omega
theorem Zi2 {l:List Ze} (hc:Ck l) {p:List Zf} (hp:p.length = l.length) (hn:ZfH p):∀ n,n≤l.length→-8000000 * (n:Int)≤Zft l p n∧Zft l p n≤8000000 * (n:Int)
 | 0,_=>by simp [Zft]
 | n + 1,h=>by
  have ih:=Zi2 hc hp hn n (by omega)
  have a:=Zjt hc hp hn (v:=n) (d:=0) (by omega) (by omega)
  have b:=Zjt hc hp hn (v:=n) (d:=1) (by omega) (by omega)
  rw [Zft]
  omega
theorem Zir {l:List Ze} (hc:Ck l) {p:List Zf} (hp:p.length = l.length) (hn:ZfH p) {v d:Nat} (hv:v < l.length) (hd:d < 2) {s:Int} (hs:-1000000000000≤s∧s≤1000000000000):Zam.s1 l p v (s,(d:Int)) = some (if okE l p v d then .inl (s + tE l p v d,(d:Int) + 1) else .inr (.inr ())):=by
 have hlt:=hc.lt hv (d:=d) (by omega)
 have g:gi ([0,1]:List Int) ((d:Int)).toNat = d:=by
  match d,hd with
  | 0,_ | 1,_=>rfl
 have e:(gi l v).Next.get (d:Int) = nx l v d:=rfl
 have eo:(gi l v).Owner.get (d:Int) = ow l v d:=rfl
 simp only [Zam.s1]
 rw [ZA (by simp; omega),Z4 (by simp; omega),g,Z4 (by omega),Int.toNat_natCast,e,eo]
 by_cases c:nx l v d < 0
 ·rw [ZA c,zE (by omega),if_pos (show okE l p v d from .inl c)]
  unfold tE
  rw [if_pos c,Int.add_zero]
 ·obtain ⟨x4,x5,b1,b2⟩:=Zkf hd (gi p v) (gi p (nx l v d).toNat)
  rw [ZC c,Z4 (by omega),Z4 (by omega),b1,Option.bind_some]
  dsimp only
  rw [b2]
  by_cases q:strt d (gi p v) (gi p (nx l v d).toNat)
  ·have t:=Zjt hc hp hn hv (show d < 4 by omega)
   have a:=hn v (by omega)
   have b:=hn (nx l v d).toNat (by omega)
   have te:wt (ow l v d) * ((gi p (nx l v d).toNat).X - (gi p v).X + (gi p (nx l v d).toNat).Y - (gi p v).Y) = tE l p v d:=by unfold tE; rw [if_neg c]
   rw [Za3 q,if_pos (show okE l p v d from .inr q),Zlb,Option.bind_some,zE (by omega),zE (by omega),zE (by omega),te,zE (by omega),zE (by omega),zE (by omega)]
  ·rw [Zba q,if_neg (show ¬ okE l p v d from fun h=>h.elim c q)]
theorem ZkW {l:List Ze} (hc:Ck l) {p:List Zf} (hp:p.length = l.length) (hn:ZfH p) {v:Nat} (hv:v < l.length) {s:Int} (hs:-100000000000≤s∧s≤100000000000):ZT (Zam.s1 l p v) big (s,0) = some (if okE l p v 0∧okE l p v 1 then .inl (s + tE l p v 0 + tE l p v 1) else .inr ()):=by
 have t0:=Zjt hc hp hn hv (show 0 < 4 by omega)
 have s0:=Zir hc hp hn hv (d:=0) (by omega) (s:=s) (by omega)
 have s1:=Zir hc hp hn hv (d:=1) (by omega) (s:=s + tE l p v 0) (by omega)
 have s2:Zam.s1 l p v (s + tE l p v 0 + tE l p v 1,2) = some (.inr (.inl (s + tE l p v 0 + tE l p v 1))):=by
  simp only [Zam.s1]
  rw [ZC (by simp)]
 have hb:big = (big - 3) + 3:=by unfold big; omega
 rw [hb,ZT]
 rw [show ((0:Nat):Int) = 0 from rfl] at s0
 rw [s0]
 by_cases c0:okE l p v 0
 ·rw [if_pos c0]
  dsimp only
  rw [ZT]
  rw [show ((1:Nat):Int) = 0 + 1 from rfl] at s1
  rw [s1]
  by_cases c1:okE l p v 1
  ·rw [if_pos c1,if_pos ⟨c0,c1⟩]
   dsimp only
   rw [ZT,show (0:Int) + 1 + 1 = 2 from rfl,s2]
  ·rw [if_neg c1,if_neg (fun h=>c1 h.2)]
 ·rw [if_neg c0,if_neg (fun h=>c0 h.1)]
theorem Zkh {s:List Zf} {f:Zf→Option Bool} {g:Zf→Bool} (hn:s.length≤1000000) (h:∀ a∈s,f a = some (g a)):ZaA s f = some (s.any g):=by
 have h1:ZT (zM.s0 s f) big 0 = some (match (List.range s.length).find? (fun i=>g (gi s i)) with | some i=>.inr (i:Int) | none=>.inl ()):=by
  refine Zc8 (n:=s.length) (P:=fun i=>g (gi s i)) (f:=fun i=>(i:Int)) (ZaI (by omega)) (fun i hi=>?_) ?_
  ·simp only [zM.s0]
   rw [ZA (by omega),Z4 (by omega),Int.toNat_natCast,h _ (Zcp hi),Option.bind_some,zE (by omega)]
   cases g (gi s i) <;> rfl
  ·simp only [zM.s0]
   rw [ZC (by omega)]
 unfold ZaA zM
 rw [h1,Option.bind_some]
 cases hf:(List.range s.length).find? (fun i=>g (gi s i)) with
 | none =>
  rw [List.find?_range_eq_none] at hf
  have:s.any g = false:=by
   rw [List.any_eq_false]
   intro a ha
   obtain ⟨i,hi,rfl⟩:=List.mem_iff_getElem.1 ha
   have:=hf i hi
   rw [ZbG hi] at this
   simpa using this
  rw [this]; rfl
 | some i =>
  rw [List.find?_range_eq_some] at hf
  obtain ⟨h1,h2,_⟩:=hf
  have hi:i < s.length:=by simpa using h2
  have:s.any g = true:=by
   rw [List.any_eq_true]
   exact ⟨gi s i,Zcp hi,h1⟩
  rw [this]
  dsimp only
  rw [Option.bind_some,Zbz (by omega)]
def ZiE (p:Zf):Bool:=(decide (1000000 < (max p.X p.Y))) || (decide ((min p.X p.Y) < (-1000000)))
theorem Zit {p:List Zf}:p.any ZiE = false↔ZfH p:=by
 rw [List.any_eq_false]
 constructor
 ·intro h i hi
  have:=h _ (Zcp hi)
  simp [ZiE] at this
  omega
 ·intro h a ha
  obtain ⟨i,hi,rfl⟩:=List.mem_iff_getElem.1 ha
  have:=h i hi
  rw [ZbG hi] at this
  simp [ZiE]
  omega
theorem ZkX {l:List Ze} (hc:Ck l) (hl:l.length≤64) {p:List Zf} (hp:p.length = l.length) (hn:ZfH p):Zam l p = some (if ∀ v,v < l.length→okE l p v 0∧okE l p v 1 then (Zft l p l.length,0) else (0,15)):=by
 have hk:Zed l = 0:=Zd6.2 ⟨by omega,hc⟩
 have row:∀ v,v < l.length→Zam.s0 l p (Zft l p v,(v:Int)) = some (if okE l p v 0∧okE l p v 1 then .inl (Zft l p (v + 1),(v:Int) + 1) else .inr (.inr ())):=by
  intro v hv
  have b:=Zi2 hc hp hn v (by omega)
  simp only [Zam.s0]
  rw [ZA (by omega),Z4 (by omega),ZkW hc hp hn hv (by omega),Option.bind_some]
  by_cases c:okE l p v 0∧okE l p v 1
  ·rw [if_pos c,if_pos c]
   dsimp only
   rw [zE (by omega)]
   rfl
  ·rw [if_neg c,if_neg c]
 have main:ZT (Zam.s0 l p) big (0,0) = some (if ∀ v,v < l.length→okE l p v 0∧okE l p v 1 then .inl (Zft l p l.length) else .inr ()):=by
  by_cases c:∀ v,v < l.length→okE l p v 0∧okE l p v 1
  ·rw [if_pos c]
   refine ZbJ (fun v:Nat=>(Zft l p v,(v:Int))) (n:=l.length) (ZaI (by omega)) rfl (fun v hv=>?_) ?_
   ·rw [row v hv,if_pos (c v hv),show ((v + 1:Nat):Int) = (v:Int) + 1 by omega]
   ·simp only [Zam.s0]
    rw [ZC (by omega)]
  ·rw [if_neg c]
   have ⟨v0,hv0⟩:∃ v,v < l.length∧¬ (okE l p v 0∧okE l p v 1):=by
    refine Classical.byContradiction fun hh=>c fun v hv=>Classical.byContradiction fun h2=>hh ⟨v,hv,h2⟩
   obtain ⟨v,⟨hv,hb⟩,hm⟩:=ZgV (P:=fun v=>v < l.length∧¬ (okE l p v 0∧okE l p v 1)) v0 hv0
   refine ZbJ (fun v:Nat=>(Zft l p v,(v:Int))) (n:=v) (ZaI (by omega)) rfl (fun u hu=>?_) ?_
   ·have:okE l p u 0∧okE l p u 1:=Classical.byContradiction fun h2=>hm u hu ⟨by omega,h2⟩
    rw [row u (by omega),if_pos this,show ((u + 1:Nat):Int) = (u:Int) + 1 by omega]
   ·rw [row v hv,if_neg hb]
 unfold Zam
 rw [Zez (by omega),Option.bind_some,Za3 hk,Za3 (by omega),Zkh (f:=fun y0=>ZcZ y0) (g:=ZiE) (by omega) (fun a _=>rfl),Option.bind_some,Zit.2 hn,Option.bind_some,if_neg (by decide),main,Option.bind_some]
 by_cases c:∀ v,v < l.length→okE l p v 0∧okE l p v 1
 ·rw [if_pos c,if_pos c]
 ·rw [if_neg c,if_neg c]
end Mu
/- Layer 17: graphs,places,ArcsFit. -/
set_option linter.unusedVariables false
set_option linter.unusedSimpArgs false
set_option maxRecDepth 10000
namespace Mu
theorem CH.next {l:List Ze} (hc:Ck l) {d:Nat} (hd:d < 4) {a:List Int} {L:List (List Int)} (h:CH l d a L) {v w:Nat} (hv:v < l.length) (hw:nx l v d = w):w < l.length∧gi a v = gi a w:=by
 have bk:=hc.back hv hd hw
 obtain ⟨i,i1,i2,i3⟩:=h.mem v hv
 have hC:=h.ch i i1
 obtain ⟨j,hj,e⟩:=List.mem_iff_getElem.1 i3
 have ej:gi (gi L i) j = v:=by rw [ZbG hj]; exact e
 have n:=ZhN hC hj
 rw [ej,Int.toNat_natCast,hw] at n
 by_cases c:j + 1 < (gi L i).length
 ·rw [Zgh c] at n
  exact ⟨bk.1,by rw [i2,h.one i w i1 bk.1 (n ▸ Zcp c)]⟩
 ·rw [show j + 1 = (gi L i).length by omega,Zg8] at n
  omega
def Zgu (X Y a b:List Int) (n:Nat):List Zf:=(List.range n).map fun v=>⟨gi a (gi X v).toNat,gi b (gi Y v).toNat⟩
end Mu
/- Layer 17: ArcsFit. -/
set_option linter.unusedVariables false
set_option linter.unusedSimpArgs false
set_option maxRecDepth 10000
namespace Mu
end Mu
/- Layer 17: the document's graphs; ArcsTell. -/
set_option linter.unusedVariables false
set_option linter.unusedSimpArgs false
set_option maxRecDepth 10000
namespace Mu
end Mu
/- Sums. -/
set_option linter.unusedVariables false
namespace Mu
end Mu
/- Layer 17: ArcsTurn. -/
set_option linter.unusedVariables false
set_option linter.unusedSimpArgs false
set_option maxRecDepth 10000
namespace Mu
theorem Made.strt {l:List Ze} {pts:List Zf} (h:Made l pts) {v d w:Nat} (hv:v < l.length) (hd:d < 2) (hw:nx l v d = w):strt d (gi pts v) (gi pts w):=by
 rcases h.near v d hv hd with q | q
 ·omega
 ·rw [hw] at q
  rcases q with ⟨q,_⟩ | ⟨j,e,_,q,_⟩
  ·omega
  ·have:j = w:=by omega
   subst this
   have:=q.2
   unfold Mu.strt
   by_cases z:d = 0
   ·rw [if_pos z] at this ⊢; exact ⟨this.1.symm,this.2⟩
   ·rw [if_neg z] at this ⊢; exact ⟨this.1.symm,this.2⟩
theorem Made.okE {l:List Ze} {pts:List Zf} (h:Made l pts) {v d:Nat} (hv:v < l.length) (hd:d < 2):okE l pts v d:=by
 by_cases c:nx l v d < 0
 ·exact .inl c
 ·exact .inr (h.strt hv hd (by omega))
end Mu
/- Layer 17: ArcsPlace. -/
set_option linter.unusedVariables false
set_option linter.unusedSimpArgs false
set_option maxRecDepth 10000
namespace Mu
theorem Zh8 {l:List Ze} (hc:Ck l) (hl:l.length≤64) {p:List Zf} (hp:p.length≤1000) (h:p.length≠l.length∨¬ ZfH p):Zam l p = some (0,2):=by
 have hk:Zed l = 0:=Zd6.2 ⟨by omega,hc⟩
 unfold Zam
 rw [Zez (by omega),Option.bind_some,Za3 hk]
 by_cases c:p.length = l.length
 ·have:p.any ZiE = true:=by
   cases q:p.any ZiE with
   | true=>rfl
   | false=>exact absurd (Zit.1 q) (h.elim (fun h=>absurd c h) id)
  rw [Za3 (by omega),Zkh (f:=fun y0=>ZcZ y0) (g:=ZiE) (by omega) (fun a _=>rfl),Option.bind_some,this,Option.bind_some,if_pos rfl]
 ·rw [Zba (by omega),Option.bind_some,if_pos rfl]
theorem ZhG {l:List Ze} (hc:Ck l) (hl:l.length≤64) {p:List Zf} (hp:p.length = l.length):zT l p = some (decide (∀ v,v < l.length→okE l p v 0∧okE l p v 1)):=by
 have row:∀ v,v < l.length→zT.s0 l p (v:Int) = some (if okE l p v 0∧okE l p v 1 then .inl ((v:Int) + 1) else .inr (.inr ())):=by
  intro v hv
  have l0:=hc.lt hv (d:=0) (by omega)
  have l1:=hc.lt hv (d:=1) (by omega)
  have e0:(gi l v).Next.get 0 = nx l v 0:=rfl
  have e1:(gi l v).Next.get 1 = nx l v 1:=rfl
  have A0:okE l p v 0↔¬ (0≤nx l v 0∧((gi p (nx l v 0).toNat).Y≠(gi p v).Y∨(gi p (nx l v 0).toNat).X≤(gi p v).X)):=by
   unfold Mu.okE Mu.strt
   rw [if_pos rfl]
   omega
  have A1:okE l p v 1↔¬ (0≤nx l v 1∧((gi p (nx l v 1).toNat).X≠(gi p v).X∨(gi p (nx l v 1).toNat).Y≤(gi p v).Y)):=by
   unfold Mu.okE Mu.strt
   rw [if_neg (by decide)]
   omega
  have B0:(if decide (0≤nx l v 0) = true then ck ((0:Int)≤(max (nx l v 0) 0)∧(max (nx l v 0) 0) < (p.length:Int)) <| ck ((0:Int)≤(v:Int)∧(v:Int) < (p.length:Int)) <| some ((!(decide ((gi p (max (nx l v 0) 0).toNat).Y = (gi p v).Y))) || (decide (((gi p (max (nx l v 0) 0).toNat).X)≤((gi p v).X)))) else some false) = some (!decide (okE l p v 0)):=by
   by_cases c:0≤nx l v 0
   ·rw [ZA c,Z4 (by omega),Z4 (by omega),show max (nx l v 0) 0 = nx l v 0 by omega]
    congr 1
    rw [Bool.eq_iff_iff]
    simp only [Bool.or_eq_true,Bool.not_eq_true',decide_eq_true_eq,decide_eq_false_iff_not,A0]
    omega
   ·rw [ZC c,Zbz (A0.2 fun h=>c h.1)]; rfl
  have B1:(if decide (0≤nx l v 1) = true then ck ((0:Int)≤(max (nx l v 1) 0)∧(max (nx l v 1) 0) < (p.length:Int)) <| ck ((0:Int)≤(v:Int)∧(v:Int) < (p.length:Int)) <| some ((!(decide ((gi p (max (nx l v 1) 0).toNat).X = (gi p v).X))) || (decide (((gi p (max (nx l v 1) 0).toNat).Y)≤((gi p v).Y)))) else some false) = some (!decide (okE l p v 1)):=by
   by_cases c:0≤nx l v 1
   ·rw [ZA c,Z4 (by omega),Z4 (by omega),show max (nx l v 1) 0 = nx l v 1 by omega]
    congr 1
    rw [Bool.eq_iff_iff]
    simp only [Bool.or_eq_true,Bool.not_eq_true',decide_eq_true_eq,decide_eq_false_iff_not,A1]
    omega
   ·rw [ZC c,Zbz (A1.2 fun h=>c h.1)]; rfl
  simp only [zT.s0]
  rw [ZA (by omega),Z4 (by omega),Int.toNat_natCast,e0,e1,B0,Option.bind_some]
  by_cases c0:okE l p v 0
  ·rw [Zbz c0,if_neg (by decide),B1,Option.bind_some]
   by_cases c1:okE l p v 1
   ·rw [Zbz c1,if_neg (by decide),zE (by omega),if_pos ⟨c0,c1⟩]
   ·rw [ZbD c1,if_pos (by decide),if_neg fun h=>c1 h.2]
  ·rw [ZbD c0,if_pos (by decide),if_neg fun h=>c0 h.1]
 unfold zT
 by_cases c:∀ v,v < l.length→okE l p v 0∧okE l p v 1
 ·rw [Zbz c,Zgp (x:=.inl ())]
  refine ZbJ (fun v:Nat=>(v:Int)) (n:=l.length) (ZaI (by omega)) rfl (fun v hv=>?_) ?_
  ·rw [row v hv,if_pos (c v hv),show ((v + 1:Nat):Int) = (v:Int) + 1 by omega]
  ·simp only [zT.s0]
   rw [ZC (by omega)]
 ·rw [ZbD c,Zgp (x:=.inr ())]
  have ⟨v0,hv0⟩:∃ v,v < l.length∧¬ (okE l p v 0∧okE l p v 1):=by
   refine Classical.byContradiction fun hh=>c fun v hv=>Classical.byContradiction fun h2=>hh ⟨v,hv,h2⟩
  obtain ⟨v,⟨hv,hb⟩,hm⟩:=ZgV (P:=fun v=>v < l.length∧¬ (okE l p v 0∧okE l p v 1)) v0 hv0
  refine ZbJ (fun v:Nat=>(v:Int)) (n:=v) (ZaI (by omega)) rfl (fun u hu=>?_) ?_
  ·have:okE l p u 0∧okE l p u 1:=Classical.byContradiction fun h2=>hm u hu ⟨by omega,h2⟩
   rw [row u (by omega),if_pos this,show ((u + 1:Nat):Int) = (u:Int) + 1 by omega]
  ·rw [row v hv,if_neg hb]
end Mu
/- Layer 12: ZbY,in the code and in the document,are the same walk. -/
set_option linter.unusedVariables false
set_option linter.unusedSimpArgs false
set_option maxRecDepth 10000
namespace Mu
abbrev Da:=Nat × Nat
def dt (p:Da):Zy:=⟨p.1,p.2⟩
def rt (p:Da):Zz:=⟨p.1,p.2⟩
def isD (l:List Ze) (p:Da):Prop:=p.1 < l.length∧p.2 < 4∧0≤nx l p.1 p.2
instance {l:List Ze} {p:Da}:Decidable (isD l p):=by unfold isD; infer_instance
def bh (l:List Ze) (p:Da):Da :=
 if 0≤nx l (nx l p.1 p.2).toNat ((p.2 + 1) % 4) then ((nx l p.1 p.2).toNat,(p.2 + 1) % 4)
 else if 0≤nx l (nx l p.1 p.2).toNat p.2 then ((nx l p.1 p.2).toNat,p.2)
 else if 0≤nx l (nx l p.1 p.2).toNat ((p.2 + 3) % 4) then ((nx l p.1 p.2).toNat,(p.2 + 3) % 4)
 else ((nx l p.1 p.2).toNat,(p.2 + 2) % 4)
theorem isD.fwd {l:List Ze} (hc:Ck l) {p:Da} (h:isD l p):(nx l p.1 p.2).toNat < l.length∧nx l (nx l p.1 p.2).toNat ((p.2 + 2) % 4) = p.1:=by
 rcases hc.s p.1 p.2 h.1 h.2.1 with ⟨a,_⟩ | ⟨w,a,b,_,c,_⟩
 ·have:=h.2.2; omega
 ·rw [a,Int.toNat_natCast]; exact ⟨b,c⟩
theorem isD.bh {l:List Ze} (hc:Ck l) {p:Da} (h:isD l p):isD l (bh l p):=by
 have f:=h.fwd hc
 have:=h.2.1
 unfold Mu.bh
 split
 ·rename_i c; exact ⟨f.1,by dsimp only; omega,c⟩
 ·split
  ·rename_i c; exact ⟨f.1,by dsimp only; omega,c⟩
  ·split
   ·rename_i c; exact ⟨f.1,by dsimp only; omega,c⟩
   ·exact ⟨f.1,by dsimp only; omega,by dsimp only; rw [f.2]; omega⟩
theorem Znc {l:List Ze} {v d:Int}:Zbs ⟨v,d⟩ l = some (decide (0≤v∧v < l.length∧0≤d∧d < 4∧0≤nx l v.toNat d.toNat)):=by
 unfold Zbs Zbq
 dsimp only
 by_cases c1:0≤v
 ·rw [ZA c1]
  by_cases c2:v < l.length
  ·rw [ZA c2,Option.bind_some]
   by_cases c3:0≤d∧d≤3
   ·rw [if_pos (by simp [c3]),Z4 (by omega),Z4 (by omega)]
    have:(gi l v.toNat).Next.get d = nx l v.toNat d.toNat:=by unfold nx; rw [show ((d.toNat:Nat):Int) = d by omega]
    rw [this]
    congr 1
    rw [Bool.eq_iff_iff]
    simp only [decide_eq_true_eq]
    omega
   ·rw [if_neg (by simp; omega),ZbD]
    omega
  ·rw [ZC c2,ZbD]
   omega
 ·rw [ZC c1,ZbD]
  omega
theorem Zng {l:List Ze} {p:Da}:Zbs (dt p) l = some (decide (isD l p)):=by
 unfold dt
 rw [Znc]
 congr 1
 rw [Bool.eq_iff_iff]
 simp only [decide_eq_true_eq,Int.toNat_natCast]
 unfold isD
 omega
theorem ZhT {d:Nat} (hd:d < 4) {t:Int} (ht:t = 1∨t = 0∨t = -1∨t = 2):Zbr d t = some (if t = 1 then (((d + 1) % 4:Nat):Int) else if t = 0 then (d:Int) else if t = -1 then (((d + 3) % 4:Nat):Int) else (((d + 2) % 4:Nat):Int)):=by
 have:d = 0∨d = 1∨d = 2∨d = 3:=by omega
 rcases this with rfl | rfl | rfl | rfl <;> rcases ht with rfl | rfl | rfl | rfl <;> rfl
theorem Zlu {ρ:Type} {F:Int→Option (Int ⊕ ρ)} {c0 c1 c2:Prop} [Decidable c0] [Decidable c1] [Decidable c2] {r0 r1 r2 r3:ρ} (s0:F ((0:Nat):Int) = some (if c0 then .inr r0 else .inl (((0:Nat):Int) + 1))) (s1:F ((1:Nat):Int) = some (if c1 then .inr r1 else .inl (((1:Nat):Int) + 1))) (s2:F ((2:Nat):Int) = some (if c2 then .inr r2 else .inl (((2:Nat):Int) + 1))) (s3:F ((3:Nat):Int) = some (.inr r3)):ZT F big 0 = some (if c0 then r0 else if c1 then r1 else if c2 then r2 else r3):=by
 refine ZcI (n:=4) ?_ (by unfold big; omega)
 replace s0:F 0 = some (if c0 then .inr r0 else .inl 1):=s0
 replace s1:F 1 = some (if c1 then .inr r1 else .inl 2):=s1
 replace s2:F 2 = some (if c2 then .inr r2 else .inl 3):=s2
 replace s3:F 3 = some (.inr r3):=s3
 rw [ZT,s0]
 by_cases h0:c0
 ·rw [if_pos h0,if_pos h0]
 ·rw [if_neg h0,if_neg h0]
  dsimp only
  rw [ZT,s1]
  by_cases h1:c1
  ·rw [if_pos h1,if_pos h1]
  ·rw [if_neg h1,if_neg h1]
   dsimp only
   rw [ZT,s2]
   by_cases h2:c2
   ·rw [if_pos h2,if_pos h2]
   ·rw [if_neg h2,if_neg h2]
    dsimp only
    rw [ZT,s3]
theorem Zjh {l:List Ze} (hc:Ck l) {p:Da} (h:isD l p):Zav (dt p) l = some (dt (bh l p)):=by
 have f:=h.fwd hc
 obtain ⟨h1,h2,h3⟩:=h
 have e:((gi l p.1).Next).get (p.2:Int) = nx l p.1 p.2:=rfl
 have st:∀ (k:Nat) (d':Nat),k < 4→d' < 4→Zbr (p.2:Int) ((⟨1,0,(-1),2⟩:A4 Int).get k) = some (d':Int)→Zav.s0 (dt p) l (k:Int) = some (if 0≤nx l (nx l p.1 p.2).toNat d' then .inr (.inr (dt ((nx l p.1 p.2).toNat,d'))) else .inl ((k:Int) + 1)):=by
  intro k d' hk hd hl
  have i:=Znc (l:=l) (v:=nx l p.1 p.2) (d:=d')
  simp only [Zav.s0,dt,Int.toNat_natCast,e]
  rw [ZA (by omega),Z4 (by omega),hl,Option.bind_some,i,Option.bind_some]
  by_cases c:0≤nx l (nx l p.1 p.2).toNat d'
  ·rw [ZA (by rw [Int.toNat_natCast]; omega),if_pos c]
   congr 4
   omega
  ·rw [ZC (by rw [Int.toNat_natCast]; omega),zE (by omega),if_neg c]
 have s0:=st 0 ((p.2 + 1) % 4) (by omega) (by omega) ((ZhT h2 (.inl rfl)).trans rfl)
 have s1:=st 1 p.2 (by omega) h2 ((ZhT h2 (.inr (.inl rfl))).trans rfl)
 have s2:=st 2 ((p.2 + 3) % 4) (by omega) (by omega) ((ZhT h2 (.inr (.inr (.inl rfl)))).trans rfl)
 have s3:=st 3 ((p.2 + 2) % 4) (by omega) (by omega) ((ZhT h2 (.inr (.inr (.inr rfl)))).trans rfl)
 rw [if_pos (by rw [f.2]; omega)] at s3
 have L:ZT (Zav.s0 (dt p) l) big 0 = some (.inr (dt (bh l p))):=by
  rw [Zlu s0 s1 s2 s3]
  unfold bh
  by_cases c0:0≤nx l (nx l p.1 p.2).toNat ((p.2 + 1) % 4)
  ·rw [if_pos c0,if_pos c0]
  ·rw [if_neg c0,if_neg c0]
   by_cases c1:0≤nx l (nx l p.1 p.2).toNat p.2
   ·rw [if_pos c1,if_pos c1]
   ·rw [if_neg c1,if_neg c1]
    by_cases c2:0≤nx l (nx l p.1 p.2).toNat ((p.2 + 3) % 4)
    ·rw [if_pos c2,if_pos c2]
    ·rw [if_neg c2,if_neg c2]
 unfold Zav
 rw [Z4 (by unfold dt; dsimp only; omega),Z4 (by unfold dt; dsimp only; omega),L,Option.bind_some]
theorem Zjn {l:List Ze} (hc:Ck l) {p:Da} (h:isD l p):Zaj l (rt p) = some (rt (bh l p)):=by
 have f:=h.fwd hc
 obtain ⟨h1,h2,h3⟩:=h
 have e:((gi l p.1).Next).get (p.2:Int) = nx l p.1 p.2:=rfl
 have st:∀ (k:Nat) (o:Nat),k < 4→gi ([1,0,3,2]:List Int) k = o→o < 4→Zaj.s0 l (rt p) (k:Int) = some (if 0≤nx l (nx l p.1 p.2).toNat ((p.2 + o) % 4) then .inr (.inr (rt ((nx l p.1 p.2).toNat,(p.2 + o) % 4))) else .inl ((k:Int) + 1)):=by
  intro k o hk ho ho4
  have m:((p.2:Int) + (o:Int)).tmod 4 = (((p.2 + o) % 4:Nat):Int):=by
   rw [Int.tmod_eq_emod_of_nonneg (by omega)]; omega
  have e2:(gi l (nx l p.1 p.2).toNat).Next.get (((p.2 + o) % 4:Nat):Int) = nx l (nx l p.1 p.2).toNat ((p.2 + o) % 4):=rfl
  simp only [Zaj.s0,rt,Int.toNat_natCast,e,ho,m,e2]
  rw [ZA (by omega),Z4 (by simp; omega),zE (by omega),Z4 (by omega),Z4 (by omega)]
  by_cases c:0≤nx l (nx l p.1 p.2).toNat ((p.2 + o) % 4)
  ·rw [ZA c,if_pos c]
   congr 4
   omega
  ·rw [ZC c,zE (by omega),if_neg c]
 have s0:=st 0 1 (by omega) rfl (by omega)
 have s1:=st 1 0 (by omega) rfl (by omega)
 have s2:=st 2 3 (by omega) rfl (by omega)
 have s3:=st 3 2 (by omega) rfl (by omega)
 rw [show (p.2 + 0) % 4 = p.2 by omega] at s1
 rw [if_pos (by rw [f.2]; omega)] at s3
 have L:ZT (Zaj.s0 l (rt p)) big 0 = some (.inr (rt (bh l p))):=by
  rw [Zlu s0 s1 s2 s3]
  unfold bh
  by_cases c0:0≤nx l (nx l p.1 p.2).toNat ((p.2 + 1) % 4)
  ·rw [if_pos c0,if_pos c0]
  ·rw [if_neg c0,if_neg c0]
   by_cases c1:0≤nx l (nx l p.1 p.2).toNat p.2
   ·rw [if_pos c1,if_pos c1]
   ·rw [if_neg c1,if_neg c1]
    by_cases c2:0≤nx l (nx l p.1 p.2).toNat ((p.2 + 3) % 4)
    ·rw [if_pos c2,if_pos c2]
    ·rw [if_neg c2,if_neg c2]
 unfold Zaj
 rw [Z4 (by unfold rt; dsimp only; omega),Z4 (by unfold rt; dsimp only; omega),L,Option.bind_some]
def walk (l:List Ze):Nat→List Da→Da→List Da
 | 0,_,_=>[]
 | n + 1,met,x=>if x∈met then [] else x :: walk l n (met++[x]) (bh l x)
structure Mets (l:List Ze) (met:List Da):Prop where
 nd:met.Nodup
 is:∀ p∈met,isD l p
theorem Mets.len {l:List Ze} {met:List Da} (h:Mets l met):met.length≤4 * l.length:=by
 have n:(met.map fun p=>4 * p.1 + p.2).Nodup:=by
  refine List.pairwise_map.2 (h.nd.imp_of_mem fun {p q} hp hq hne he=>hne ?_)
  have a:=h.is p hp
  have b:=h.is q hq
  unfold isD at a b
  exact Prod.ext (by omega) (by omega)
 have:=n.length_le_of_subset (l₂:=List.range (4 * l.length)) (fun x hx=>by
  obtain ⟨p,hp,rfl⟩:=List.mem_map.1 hx
  have:=h.is p hp
  unfold isD at this
  exact List.mem_range.2 (by omega))
 simpa using this
theorem Mets.nil {l:List Ze}:Mets l []:=⟨List.nodup_nil,by simp⟩
theorem Mets.snoc {l:List Ze} {met:List Da} (h:Mets l met) {x:Da} (hx:isD l x) (hn:x ∉ met):Mets l (met++[x]):=by
 refine ⟨?_,fun p hp=>?_⟩
 ·rw [List.nodup_append]
  exact ⟨h.nd,by simp,fun a ha b hb e=>hn (by simp at hb; rw [← hb,← e]; exact ha)⟩
 ·rcases List.mem_append.1 hp with q | q
  ·exact h.is p q
  ·simp at q; rw [q]; exact hx
theorem Mets.walk {l:List Ze} (hc:Ck l):∀ {n:Nat} {met:List Da} {x:Da},Mets l met→isD l x→Mets l (met++walk l n met x)
 | 0,met,x,h,hx=>by rw [Mu.walk,List.append_nil]; exact h
 | n + 1,met,x,h,hx=>by
  rw [Mu.walk]
  split
  ·rw [List.append_nil]; exact h
  ·rename_i c
   have:=Mets.walk hc (n:=n) (h.snoc hx c) (hx.bh hc)
   rwa [List.append_assoc] at this
theorem Zjv {l:List Ze} (hc:Ck l):∀ {n:Nat} {met:List Da} {x:Da},isD l x→∀ p∈walk l n met x,isD l p
 | 0,_,_,_,p,hp=>by simp [walk] at hp
 | n + 1,met,x,hx,p,hp=>by
  rw [walk] at hp
  split at hp
  ·simp at hp
  ·rcases List.mem_cons.1 hp with rfl | hp
   ·exact hx
   ·exact Zjv hc (hx.bh hc) p hp
def mpD (met:List Da):List (Zy × Bool):=met.map fun p=>(dt p,true)
theorem ZjZ {p q:Da} (h:dt p = dt q):p = q:=by
 unfold dt at h
 injection h with a b
 exact Prod.ext (by omega) (by omega)
theorem ZhV {x:Da}:∀ {met:List Da},Zds false (dt x) (mpD met) = decide (x∈met)
 | []=>rfl
 | p :: met=>by
  show (if dt x = dt p then true else Zds false (dt x) (mpD met)) = _
  by_cases c:x = p
  ·rw [if_pos (by rw [c]),Zbz (by simp [c])]
  ·rw [if_neg fun h=>c (ZjZ h),ZhV]
   rw [Bool.eq_iff_iff]
   simp [c]
theorem Zld {x:Da} {met:List Da} (h:x ∉ met):Zex (dt x) true (mpD met) = mpD (met++[x]):=by
 have:∀ {m:List Da},x ∉ m→Zex (dt x) true (mpD m) = mpD m++[(dt x,true)]:=by
  intro m
  induction m with
  | nil=>intro _; rfl
  | cons p m ih =>
   intro h
   show (if dt x = dt p then _ else (dt p,true) :: Zex (dt x) true (mpD m)) = _
   rw [if_neg fun e=>h (by rw [ZjZ e]; simp),ih fun e=>h (by simp [e])]
   rfl
 rw [this h]
 unfold mpD
 rw [List.map_append]
 rfl
theorem Zlw {l:List Ze} (hc:Ck l) (hl:l.length≤5000):∀ (n:Nat) (met:List Da) (f:List Zy) (x:Da),Mets l met→isD l x→4 * l.length < met.length + n→f.length≤met.length→ZT (Zaz.s2 l) n (mpD met,f,dt x) = some (mpD (met++walk l n met x),f++(walk l n met x).map dt)
 | 0,met,f,x,h,_,hn,_=>by have:=h.len; omega
 | n + 1,met,f,x,h,hx,hn,hf=>by
  have ml:=h.len
  rw [ZT,walk]
  simp only [Zaz.s2]
  rw [ZhV]
  by_cases c:x∈met
  ·rw [Za3 c,if_pos c,List.append_nil,List.map_nil,List.append_nil]
  ·rw [Zba c,Z4 (by simp; omega),Zjh hc hx,Option.bind_some,if_neg c,Zld c]
   dsimp only
   rw [Zlw hc hl n (met++[x]) (f++[dt x]) (bh l x) (h.snoc hx c) (hx.bh hc) (by simp; omega) (by simp; omega)]
   rw [List.append_assoc,List.append_assoc]
   rfl
def Marks (l:List Ze) (met:List Da) (a:List Bool):Prop:=a.length = 4 * l.length∧∀ c e,c < l.length→e < 4→gi a (4 * c + e) = decide ((c,e)∈met)
theorem Marks.set {l:List Ze} {met:List Da} {a:List Bool} (h:Marks l met a) {x:Da} (hx:isD l x):Marks l (met++[x]) (a.set (4 * x.1 + x.2) true):=by
 unfold isD at hx
 refine ⟨by rw [List.length_set]; exact h.1,fun c e hc he=>?_⟩
 rw [Zc1 (by have:=h.1; omega),h.2 c e hc he]
 by_cases q:(c,e) = x
 ·rw [← q]
  rw [if_pos rfl,Zbz (by simp)]
 ·rw [if_neg]
  ·rw [Bool.eq_iff_iff]; simp [q]
  ·intro k
   exact q (Prod.ext (by dsimp only; omega) (by dsimp only; omega))
theorem Zl1 {l:List Ze} (hc:Ck l) (hl:l.length≤5000):∀ (n:Nat) (met:List Da) (a:List Bool) (f:List Zz) (x:Da),Mets l met→Marks l met a→isD l x→4 * l.length < met.length + n→f.length≤met.length→∃ a',ZT (zh.s2 l) n (a,f,rt x) = some (a',f++(walk l n met x).map rt)∧Marks l (met++walk l n met x) a'
 | 0,met,a,f,x,h,_,_,hn,_=>by have:=h.len; omega
 | n + 1,met,a,f,x,h,hm,hx,hn,hf=>by
  have ml:=h.len
  have hx':=hx
  unfold isD at hx'
  have al:=hm.1
  rw [ZT,walk,show rt x = (⟨x.1,x.2⟩:Zz) from rfl]
  simp only [zh.s2]
  rw [zE (by omega),zE (by omega),Z4 (by omega),show (4 * (x.1:Int) + (x.2:Int)).toNat = 4 * x.1 + x.2 by omega,hm.2 x.1 x.2 hx'.1 hx'.2.1]
  by_cases c:x∈met
  ·rw [Za3 c,if_pos c,List.map_nil,List.append_nil,List.append_nil]
   exact ⟨a,rfl,hm⟩
  ·rw [Zba c,Z4 (by simp; omega)]
   have rb:=Zjn hc hx
   unfold rt at rb
   rw [rb,Option.bind_some,if_neg c]
   dsimp only
   obtain ⟨a',e1,e2⟩:=Zl1 hc hl n (met++[x]) (a.set (4 * x.1 + x.2) true) (f++[rt x]) (bh l x) (h.snoc hx c) (hm.set hx) (hx.bh hc) (by simp; omega) (by simp; omega)
   refine ⟨a',?_,?_⟩
   ·unfold rt at e1 ⊢
    rw [e1,List.append_assoc]
    rfl
   ·rw [List.append_assoc] at e2
    exact e2
def stF (l:List Ze) (s:List Da × List (List Da)) (p:Da):List Da × List (List Da) :=
 if nx l p.1 p.2 < 0∨p∈s.1 then s else (s.1++walk l (4 * l.length + 1) s.1 p,s.2++[walk l (4 * l.length + 1) s.1 p])
def ZiS (l:List Ze) (v:Nat) (s:List Da × List (List Da)):Nat→List Da × List (List Da)
 | 0=>s
 | e + 1=>stF l (ZiS l v s e) (v,e)
def FS (l:List Ze):Nat→List Da × List (List Da)
 | 0=>([],[])
 | v + 1=>ZiS l v (FS l v) 4
def ZbY (l:List Ze):List (List Da):=(FS l l.length).2
structure FI (l:List Ze) (s:List Da × List (List Da)):Prop where
 m:Mets l s.1
 len:s.2.length≤s.1.length
 is:∀ f∈s.2,∀ p∈f,isD l p
 fl:s.2.flatten = s.1
theorem FI.st {l:List Ze} (hc:Ck l) {s:List Da × List (List Da)} (h:FI l s) {p:Da} (h1:p.1 < l.length) (h2:p.2 < 4):FI l (stF l s p):=by
 unfold stF
 split
 ·exact h
 ·rename_i c
  have hp:isD l p:=⟨h1,h2,by omega⟩
  have hn:p ∉ s.1:=fun q=>c (.inr q)
  refine ⟨Mets.walk hc h.m hp,?_,?_,?_⟩
  ·dsimp only
   rw [List.length_append,List.length_append,walk,if_neg hn]
   have:=h.len
   simp; omega
  ·intro f hf q hq
   rcases List.mem_append.1 hf with k | k
   ·exact h.is f k q hq
   ·simp at k
    subst k
    exact Zjv hc hp q hq
  ·dsimp only
   rw [List.flatten_append,h.fl]
   simp
theorem FI.row {l:List Ze} (hc:Ck l) {s:List Da × List (List Da)} (h:FI l s) {v:Nat} (hv:v < l.length):∀ e,e≤4→FI l (ZiS l v s e)
 | 0,_=>h
 | e + 1,he=>(FI.row hc h hv e (by omega)).st hc hv (by dsimp only; omega)
theorem Zhy {l:List Ze} (hc:Ck l):∀ v,v≤l.length→FI l (FS l v)
 | 0,_=>⟨Mets.nil,by simp [FS],by simp [FS],by simp [FS]⟩
 | v + 1,hv=>(Zhy hc v (by omega)).row hc (by omega) 4 (by omega)
theorem ZkV {l:List Ze} (hc:Ck l) (hl:l.length≤5000) {s:List Da × List (List Da)} (h:FI l s) {v e:Nat} (hv:v < l.length) (he:e < 4):Zaz.s1 l v (s.2.map (List.map dt),mpD s.1,(e:Int)) = some (.inl ((stF l s (v,e)).2.map (List.map dt),mpD (stF l s (v,e)).1,(e:Int) + 1)):=by
 have i:=Zng (l:=l) (p:=(v,e))
 have g:=ZhV (x:=(v,e)) (met:=s.1)
 unfold dt at i g
 dsimp only at i g
 have ml:=h.m.len
 have sl:=h.len
 simp only [Zaz.s1]
 rw [ZA (by omega),i,Option.bind_some,g]
 unfold stF
 dsimp only
 by_cases c:nx l v e < 0∨(v,e)∈s.1
 ·rw [if_pos c,if_pos,zE (by omega)]
  rcases c with c | c
  ·rw [ZbD (show ¬ isD l (v,e) from fun q=>by have:=q.2.2; dsimp only at this; omega)]; rfl
  ·rw [Zbz c,Bool.or_true]
 ·have hp:isD l (v,e):=⟨hv,he,by dsimp only; omega⟩
  have hn:(v,e) ∉ s.1:=fun q=>c (.inr q)
  have W:=Zlw hc hl (4 * l.length + 1) s.1 [] (v,e) h.m hp (by omega) (by simp)
  unfold dt at W
  dsimp only at W
  rw [if_neg c,if_neg (by rw [Zbz hp,ZbD hn]; decide),ZcI W (by unfold big; omega),Option.bind_some]
  dsimp only
  rw [Z4 (by rw [List.length_map]; omega),zE (by omega),List.map_append]
  rfl
theorem Zlh {l:List Ze} (hc:Ck l) (hl:l.length≤5000) {s:List Da × List (List Da)} (h:FI l s) {a:List Bool} (ha:Marks l s.1 a) {v e:Nat} (hv:v < l.length) (he:e < 4):∃ a',zh.s1 l v (a,s.2.map (List.map rt),(e:Int)) = some (.inl (a',(stF l s (v,e)).2.map (List.map rt),(e:Int) + 1))∧Marks l (stF l s (v,e)).1 a':=by
 have ml:=h.m.len
 have sl:=h.len
 have al:=ha.1
 have en:(gi l v).Next.get (e:Int) = nx l v e:=rfl
 simp only [zh.s1,Int.toNat_natCast,en]
 rw [ZA (by omega),Z4 (by omega),Z4 (by omega)]
 unfold stF
 dsimp only
 by_cases c0:nx l v e < 0
 ·rw [ZA c0,Option.bind_some,if_pos rfl,zE (by omega),if_pos (.inl c0)]
  exact ⟨a,rfl,ha⟩
 ·rw [ZC c0,zE (by omega),zE (by omega),Z4 (by omega),Option.bind_some,show (4 * (v:Int) + (e:Int)).toNat = 4 * v + e by omega,ha.2 v e hv he]
  by_cases c1:(v,e)∈s.1
  ·rw [ZA c1,zE (by omega),if_pos (.inr c1)]
   exact ⟨a,rfl,ha⟩
  ·have hp:isD l (v,e):=⟨hv,he,by dsimp only; omega⟩
   obtain ⟨a',W,M⟩:=Zl1 hc hl (4 * l.length + 1) s.1 a [] (v,e) h.m ha hp (by omega) (by simp)
   unfold rt at W
   dsimp only at W
   rw [ZC c1,ZcI W (by unfold big; omega),Option.bind_some,if_neg (by simp [c0,c1])]
   dsimp only
   rw [Z4 (by rw [List.length_map]; omega),zE (by omega),List.map_append]
   exact ⟨a',rfl,M⟩
theorem Zmb {l:List Ze} (hl:l.length≤4096) (h:Zed l = 0):Zaz l = some ((ZbY l).map (List.map dt),0):=by
 have hc:=(Zd6.1 h).2
 have row:∀ v,v < l.length→ZT (Zaz.s1 l v) big ((FS l v).2.map (List.map dt),mpD (FS l v).1,0) = some ((FS l (v + 1)).2.map (List.map dt),mpD (FS l (v + 1)).1):=by
  intro v hv
  refine ZbJ (fun e:Nat=>((ZiS l v (FS l v) e).2.map (List.map dt),mpD (ZiS l v (FS l v) e).1,(e:Int))) (n:=4) (ZaI (by omega)) rfl (fun e he=>?_) ?_
  ·rw [ZkV hc (by omega) ((Zhy hc v (by omega)).row hc hv e (by omega)) hv he]
   rfl
  ·simp only [Zaz.s1]
   rw [ZC (by omega)]
   rfl
 unfold Zaz
 rw [Zez (by omega),Option.bind_some,Za3 h,Zgp (x:=(ZbY l).map (List.map dt))]
 refine ZbJ (fun v:Nat=>((FS l v).2.map (List.map dt),mpD (FS l v).1,(v:Int))) (n:=l.length) (ZaI (by omega)) rfl (fun v hv=>?_) ?_
 ·simp only [Zaz.s0]
  rw [ZA (by omega),row v hv,Option.bind_some]
  dsimp only
  rw [zE (by omega),show ((v + 1:Nat):Int) = (v:Int) + 1 by omega]
 ·simp only [Zaz.s0]
  rw [ZC (by omega)]
  rfl
theorem Zmu {l:List Ze} (hl:l.length≤4096) (h:Zed l = 0):zh l = some ((ZbY l).map (List.map rt)):=by
 have hc:=(Zd6.1 h).2
 have row:∀ v,v < l.length→∀ a,Marks l (FS l v).1 a→∃ a',ZT (zh.s1 l v) big (a,(FS l v).2.map (List.map rt),0) = some (a',(FS l (v + 1)).2.map (List.map rt))∧Marks l (FS l (v + 1)).1 a':=by
  intro v hv a ha
  have:∃ r,ZT (zh.s1 l v) big (a,(FS l v).2.map (List.map rt),0) = some r∧(r.2 = (FS l (v + 1)).2.map (List.map rt)∧Marks l (FS l (v + 1)).1 r.1):=by
   refine Zcf (fun (e:Nat) (s:List Bool × List (List Zz) × Int)=>(s.2.1 = (ZiS l v (FS l v) e).2.map (List.map rt)∧Marks l (ZiS l v (FS l v) e).1 s.1)∧s.2.2 = e) (n:=4) (ZaI (by omega)) ⟨⟨rfl,ha⟩,rfl⟩ ?_ ?_
   ·rintro e ⟨a,o,j⟩ he ⟨⟨h1,h2⟩,h3⟩
    dsimp only at h1 h2 h3 ⊢
    subst h3 h1
    obtain ⟨a',e1,e2⟩:=Zlh hc (by omega) ((Zhy hc v (by omega)).row hc hv e (by omega)) h2 hv he
    exact ⟨_,e1,⟨rfl,e2⟩,by dsimp only; omega⟩
   ·rintro ⟨a,o,j⟩ ⟨⟨h1,h2⟩,h3⟩
    dsimp only at h1 h2 h3 ⊢
    subst h3 h1
    simp only [zh.s1]
    rw [ZC (by omega)]
    exact ⟨_,rfl,rfl,h2⟩
  obtain ⟨⟨a',o⟩,e1,e2,e3⟩:=this
  dsimp only at e2 e3
  subst e2
  exact ⟨a',e1,e3⟩
 have M:∃ r,ZT (zh.s0 l) big (List.replicate (4 * (l.length:Int)).toNat false,([]:List (List Zz)),0) = some r∧r = (ZbY l).map (List.map rt):=by
  refine Zcf (fun (v:Nat) (s:List Bool × List (List Zz) × Int)=>(s.2.1 = (FS l v).2.map (List.map rt)∧Marks l (FS l v).1 s.1)∧s.2.2 = v) (n:=l.length) (ZaI (by omega)) ⟨⟨rfl,by simp; omega,fun c e hc' he=>?_⟩,rfl⟩ ?_ ?_
  ·rw [ZbG (by simp; omega)]
   simp [FS]
  ·rintro v ⟨a,o,j⟩ hv ⟨⟨h1,h2⟩,h3⟩
   dsimp only at h1 h2 h3 ⊢
   subst h3 h1
   obtain ⟨a',e1,e2⟩:=row v hv a h2
   simp only [zh.s0]
   rw [ZA (by omega),e1,Option.bind_some]
   dsimp only
   rw [zE (by omega)]
   exact ⟨_,rfl,⟨rfl,e2⟩,by dsimp only; omega⟩
  ·rintro ⟨a,o,j⟩ ⟨⟨h1,h2⟩,h3⟩
   dsimp only at h1 h2 h3 ⊢
   subst h3 h1
   simp only [zh.s0]
   rw [ZC (by omega)]
   exact ⟨_,rfl,rfl⟩
 obtain ⟨r,e1,e2⟩:=M
 unfold zh
 rw [zE (by omega),Z4 (by omega),e1,Option.bind_some,e2]
end Mu
/- Layers 12 and 14: turns of ZbY,rotations,the outer face. -/
set_option linter.unusedVariables false
set_option linter.unusedSimpArgs false
set_option maxRecDepth 10000
namespace Mu
def tn (d e:Nat):Int:=if e = d then 0 else if e = (d + 1) % 4 then 1 else if e = (d + 3) % 4 then -1 else -2
theorem Znn {d e:Nat} (hd:d < 4) (he:e < 4):Zcm d e = some (tn d e):=by
 have a:d = 0∨d = 1∨d = 2∨d = 3:=by omega
 have b:e = 0∨e = 1∨e = 2∨e = 3:=by omega
 rcases a with rfl | rfl | rfl | rfl <;> rcases b with rfl | rfl | rfl | rfl <;> rfl
theorem Zn0 {d e:Nat} (hd:d < 4) (he:e < 4):ZbP d e = some (tn d e):=by
 have a:d = 0∨d = 1∨d = 2∨d = 3:=by omega
 have b:e = 0∨e = 1∨e = 2∨e = 3:=by omega
 rcases a with rfl | rfl | rfl | rfl <;> rcases b with rfl | rfl | rfl | rfl <;> rfl
theorem Zm2 {d e:Nat}:-2≤tn d e∧tn d e≤1:=by unfold tn; split <;> (try split) <;> (try split) <;> omega
def tns (l:List Ze) (f:List Da):List Int:=f.map fun p=>tn p.2 (bh l p).2
theorem Zdr {α β:Type} [Inhabited α] [Inhabited β] {f:α→β} {l:List α} {i:Nat} (h:i < l.length):gi (l.map f) i = f (gi l i):=by
 rw [ZbG (by simpa using h),ZbG h,List.getElem_map]
theorem Zfy {l:List Ze} {f:List Da}:(tns l f).length = f.length:=by simp [tns]
theorem Zju {l:List Ze} {f:List Da}:∀ i,-2≤gi (tns l f) i∧gi (tns l f) i≤1:=by
 intro i
 by_cases h:i < f.length
 ·unfold tns
  rw [Zdr h]
  exact Zm2
 ·rw [ZgR (by rw [Zfy]; omega)]
  decide
theorem Zmi {l:List Ze} (hl:l.length≤4096) (h:Zed l = 0) {f:List Da} (hf:∀ p∈f,isD l p) (hn:f.length≤1000000):Zb9 l (f.map dt) = some (tns l f):=by
 have hc:=(Zd6.1 h).2
 have fl:(f.map dt).length = f.length:=by simp
 unfold Zb9
 rw [Z4 (by rw [fl]; omega),Zez (by omega),Option.bind_some,Za3 h]
 have:∃ r,ZT (Zb9.s0 l (f.map dt)) big (List.replicate (((f.map dt).length:Int)).toNat (0:Int),0) = some r∧r = tns l f:=by
  refine Zcf (fun (k:Nat) (s:List Int × Int)=>(s.1.length = f.length∧∀ i,i < k→gi s.1 i = gi (tns l f) i)∧s.2 = k) (n:=f.length) (ZaI (by omega)) ⟨⟨by simp,fun i hi=>by omega⟩,rfl⟩ ?_ ?_
  ·rintro k ⟨r,j⟩ hk ⟨⟨h1,h2⟩,h3⟩
   dsimp only at h1 h2 h3 ⊢
   subst h3
   have hp:=hf _ (Zcp hk)
   have g:gi (f.map dt) k = dt (gi f k):=Zdr hk
   simp only [Zb9.s0,Int.toNat_natCast,g]
   have tt:Zcm (dt (gi f k)).Dir (dt (bh l (gi f k))).Dir = some (tn (gi f k).2 (bh l (gi f k)).2):=Znn hp.2.1 (hp.bh hc).2.1
   rw [ZA (by rw [fl]; omega),Z4 (by rw [fl]; omega),Zng,Option.bind_some,Zbz hp,if_pos rfl,Zjh hc hp,Option.bind_some,tt,Option.bind_some,Z4 (by omega),zE (by omega)]
   refine ⟨_,rfl,⟨by dsimp only; rw [List.length_set]; exact h1,fun i hi=>?_⟩,by dsimp only; omega⟩
   dsimp only
   rw [Zc1 (by omega)]
   by_cases c:i = k
   ·subst c
    rw [if_pos rfl]
    unfold tns
    rw [Zdr hk]
   ·rw [if_neg c]
    exact h2 i (by omega)
  ·rintro ⟨r,j⟩ ⟨⟨h1,h2⟩,h3⟩
   dsimp only at h1 h2 h3 ⊢
   subst h3
   simp only [Zb9.s0]
   rw [ZC (by rw [fl]; omega)]
   exact ⟨_,rfl,ZdR (by rw [h1,Zfy]) fun i hi=>h2 i (by omega)⟩
 obtain ⟨r,e1,e2⟩:=this
 rw [e1,Option.bind_some,e2]
theorem Zmy {l:List Ze} (hl:l.length≤4096) (h:Zed l = 0) {f:List Da} (hf:∀ p∈f,isD l p) (hn:f.length≤1000000):ZaH l (f.map rt) = some (tns l f):=by
 have hc:=(Zd6.1 h).2
 have fl:(f.map rt).length = f.length:=by simp
 unfold ZaH
 rw [Zgp (x:=tns l f)]
 refine ZbJ (fun n:Nat=>((tns l f).take n,(n:Int))) (n:=f.length) (ZaI (by omega)) rfl (fun k hk=>?_) ?_
 ·have hp:=hf _ (Zcp hk)
  have g:gi (f.map rt) k = rt (gi f k):=Zdr hk
  simp only [ZaH.s0,Int.toNat_natCast,g]
  have tt:ZbP (rt (gi f k)).Dir (rt (bh l (gi f k))).Dir = some (tn (gi f k).2 (bh l (gi f k)).2):=Zn0 hp.2.1 (hp.bh hc).2.1
  rw [ZA (by rw [fl]; omega),Z4 (by rw [fl]; omega),Zjn hc hp,Option.bind_some,tt,Option.bind_some,Z4 (by simp; omega),zE (by omega),Zgc (by rw [Zfy]; exact hk),show ((k + 1:Nat):Int) = (k:Int) + 1 by omega]
  congr 3
  unfold tns
  rw [Zdr hk]
 ·simp only [ZaH.s0]
  rw [ZC (by rw [fl]; omega),List.take_of_length_le (by rw [Zfy]; omega)]
theorem Zhn {t:List Int} {n:Nat} (h:n < t.length):(t.take (n + 1)).sum = (t.take n).sum + gi t n:=by
 rw [Zgc h,List.sum_append]
 simp
theorem Zie {t:List Int} (h:∀ i,-2≤gi t i∧gi t i≤1):∀ n,n≤t.length→-2 * (n:Int)≤(t.take n).sum∧(t.take n).sum≤n
 | 0,_=>by simp
 | n + 1,hn=>by
  have ih:=Zie h n (by omega)
  have:=h n
  rw [Zhn (by omega)]
  omega
theorem Zj1 {t:List Int} (h:∀ i,-2≤gi t i∧gi t i≤1) (hn:t.length≤1000000):Zbi t = some t.sum:=by
 unfold Zbi
 rw [Zgp (x:=t.sum)]
 refine ZbJ (fun n:Nat=>((t.take n).sum,(n:Int))) (n:=t.length) (ZaI (by omega)) rfl (fun k hk=>?_) ?_
 ·have a:=Zie h k (by omega)
  have b:=h k
  simp only [Zbi.s0,Int.toNat_natCast]
  rw [ZA (by omega),Z4 (by omega),if_pos (by simp; omega),zE (by omega),zE (by omega),Zhn hk,show ((k + 1:Nat):Int) = (k:Int) + 1 by omega]
 ·simp only [Zbi.s0]
  rw [ZC (by omega),List.take_length]
theorem Zj4 {t:List Int} (h:∀ i,-2≤gi t i∧gi t i≤1) (hn:t.length≤1000000):Zas t = some t.sum:=by
 unfold Zas
 rw [Zgp (x:=t.sum)]
 refine ZbJ (fun n:Nat=>((t.take n).sum,(n:Int))) (n:=t.length) (ZaI (by omega)) rfl (fun k hk=>?_) ?_
 ·have a:=Zie h k (by omega)
  have b:=h k
  simp only [Zas.s0,Int.toNat_natCast]
  rw [ZA (by omega),Z4 (by omega),if_pos (by simp; omega),zE (by omega),zE (by omega),Zhn hk,show ((k + 1:Nat):Int) = (k:Int) + 1 by omega]
 ·simp only [Zas.s0]
  rw [ZC (by omega),List.take_length]
def ZfW (l:List Ze) (f:List Da):Int:=(tns l f).sum
theorem ZgO {l:List Ze} (hc:Ck l):(∀ f∈ZbY l,∀ p∈f,isD l p)∧(ZbY l).length≤4 * l.length∧(∀ f∈ZbY l,f.length≤4 * l.length)∧(ZbY l).flatten.Nodup∧∀ p∈(ZbY l).flatten,isD l p:=by
 have h:=Zhy hc l.length (by omega)
 have hm:=h.m.len
 have hf:=h.fl
 refine ⟨h.is,by have:=h.len; unfold ZbY; omega,fun f hf'=>?_,by unfold ZbY; rw [hf]; exact h.m.nd,fun p hp=>by unfold ZbY at hp; rw [hf] at hp; exact h.m.is p hp⟩
 have:(f).Sublist (ZbY l).flatten:=List.sublist_flatten_of_mem hf'
 have:=this.length_le
 unfold ZbY at this
 rw [hf] at this
 omega
def ZhC:List Int→Int→Int→Option Int
 | [],_,a=>some a
 | r :: R,i,a=>if r = 4 then ZhC R (i + 1) a else if r = -4 then (if 0≤a then none else ZhC R (i + 1) i) else none
def Zht (l:List Ze):Option Int:=ZhC ((ZbY l).map (ZfW l)) 0 (-1)
theorem Zha {F:Int × Int→Option ((Int × Int) ⊕ (Int ⊕ Unit))} {R:List Int} (hR:R.length≤1000000) (h:∀ (i:Nat) (a:Int),i < R.length→F (a,(i:Int)) = some (if gi R i = 4 then .inl (a,(i:Int) + 1) else if gi R i = -4 then (if 0≤a then .inr (.inr ()) else .inl ((i:Int),(i:Int) + 1)) else .inr (.inr ()))) (he:∀ a,F (a,(R.length:Int)) = some (.inr (.inl a))):ZT F big (-1,0) = some (match ZhC R 0 (-1) with | some a=>.inl a | none=>.inr ()):=by
 have key:∀ (m n:Nat) (a:Int),n + m = R.length→ZT F (m + 1) (a,(n:Int)) = some (match ZhC (R.drop n) n a with | some a=>.inl a | none=>.inr ()):=by
  intro m
  induction m with
  | zero =>
   intro n a hn
   have:n = R.length:=by omega
   subst this
   rw [ZT,he,List.drop_length]
   rfl
  | succ m ih =>
   intro n a hn
   have hlt:n < R.length:=by omega
   have d:R.drop n = gi R n :: R.drop (n + 1):=by rw [ZbG hlt]; exact List.drop_eq_getElem_cons hlt
   rw [ZT,h n a hlt,d,ZhC]
   by_cases c1:gi R n = 4
   ·rw [if_pos c1,if_pos c1]
    dsimp only
    have:=ih (n + 1) a (by omega)
    rw [show ((n + 1:Nat):Int) = (n:Int) + 1 by omega] at this
    exact this
   ·rw [if_neg c1,if_neg c1]
    by_cases c2:gi R n = -4
    ·rw [if_pos c2,if_pos c2]
     by_cases c3:0≤a
     ·rw [if_pos c3,if_pos c3]
     ·rw [if_neg c3,if_neg c3]
      dsimp only
      have:=ih (n + 1) n (by omega)
      rw [show ((n + 1:Nat):Int) = (n:Int) + 1 by omega] at this
      exact this
    ·rw [if_neg c2,if_neg c2]
 have:=key R.length 0 (-1) (by omega)
 rw [List.drop_zero] at this
 exact ZcI this (by unfold big; omega)
theorem ZkY {l:List Ze} (hl:l.length≤4096) (h:Zed l = 0):Zbu l = some (match Zht l with | some a=>(a,decide (0≤a)) | none=>(0,false)):=by
 have hc:=(Zd6.1 h).2
 obtain ⟨o1,o2,o3,_⟩:=ZgO hc
 have L:ZT (Zbu.s0 l ((ZbY l).map (List.map dt))) big (-1,0) = some (match Zht l with | some a=>.inl a | none=>.inr ()):=by
  refine Zha (R:=(ZbY l).map (ZfW l)) (by simp; omega) (fun i a hi=>?_) fun a=>?_
  ·have hi':i < (ZbY l).length:=by simpa using hi
   have hm:=Zcp hi'
   have fl:=o3 _ hm
   simp only [Zbu.s0,Int.toNat_natCast]
   rw [ZA (by simp; omega),Z4 (by simp; omega),Zdr hi',Zmi hl h (o1 _ hm) (by omega),Option.bind_some,Zj1 Zju (by rw [Zfy]; omega),Option.bind_some,Zdr hi']
   show (if decide (ZfW l (gi (ZbY l) i) = 4) = true then _ else _) = _
   by_cases c1:ZfW l (gi (ZbY l) i) = 4
   ·rw [ZA c1,if_pos c1,zE (by omega)]
   ·rw [ZC c1,if_neg c1]
    show (if decide (ZfW l (gi (ZbY l) i) = -4) = true then _ else _) = _
    by_cases c2:ZfW l (gi (ZbY l) i) = -4
    ·rw [ZA c2,if_pos c2]
     by_cases c3:0≤a
     ·rw [ZA c3,if_pos c3]
     ·rw [ZC c3,if_neg c3,zE (by omega)]
    ·rw [ZC c2,if_neg c2]
  ·simp only [Zbu.s0]
   rw [ZC (by simp)]
 unfold Zbu
 rw [Zmb hl h,Option.bind_some]
 dsimp only
 rw [L,Option.bind_some]
 cases Zht l <;> rfl
theorem Zli {l:List Ze} (hl:l.length≤4096) (h:Zed l = 0):ZT (Za7.s0 l ((ZbY l).map (List.map rt))) big (-1,0) = some (match Zht l with | some a=>.inl a | none=>.inr ()):=by
 have hc:=(Zd6.1 h).2
 obtain ⟨o1,o2,o3,_⟩:=ZgO hc
 refine Zha (R:=(ZbY l).map (ZfW l)) (by simp; omega) (fun i a hi=>?_) fun a=>?_
 ·have hi':i < (ZbY l).length:=by simpa using hi
  have hm:=Zcp hi'
  have fl:=o3 _ hm
  simp only [Za7.s0,Int.toNat_natCast]
  rw [ZA (by simp; omega),Z4 (by simp; omega),Zdr hi',Zmy hl h (o1 _ hm) (by omega),Option.bind_some,Zj4 Zju (by rw [Zfy]; omega),Option.bind_some,Zdr hi']
  show (if (((!(decide (ZfW l (gi (ZbY l) i) = 4))) && (!(decide (ZfW l (gi (ZbY l) i) = (-4))))) || ((decide (ZfW l (gi (ZbY l) i) = (-4))) && (decide (0≤a)))) = true then _ else (if decide (ZfW l (gi (ZbY l) i) = (-4)) = true then _ else _)) = _
  by_cases c1:ZfW l (gi (ZbY l) i) = 4
  ·have c2:¬ ZfW l (gi (ZbY l) i) = -4:=by omega
   rw [Zbz c1,ZbD c2,if_pos c1,if_neg (by simp),if_neg (by decide),zE (by omega)]
  ·rw [ZbD c1,if_neg c1]
   by_cases c2:ZfW l (gi (ZbY l) i) = -4
   ·rw [Zbz c2,if_pos c2]
    by_cases c3:0≤a
    ·rw [Zbz c3,if_pos c3,if_pos (by decide)]
    ·rw [ZbD c3,if_neg c3,if_neg (by decide),if_pos rfl,zE (by omega)]
   ·rw [ZbD c2,if_neg c2,if_pos (by simp)]
 ·simp only [Za7.s0]
  rw [ZC (by simp)]
def Zf4 (l:List Ze):Prop:=((PS l l.length).1.length:Int) = 1
noncomputable instance {l:List Ze}:Decidable (Zf4 l):=by unfold Zf4; infer_instance
noncomputable def Zfu (l:List Ze):Int :=
 if Zed l = 0 then (if Zf4 l then (if l.length = 1 then 0 else match Zht l with | some a=>if 0≤a then 0 else 10 | none=>10) else 13) else Zed l
def Zln (l:List Ze):Int:=if l.length = 1 then -1 else match Zht l with | some a=>a | none=>-1
theorem Zj9 {l:List Ze} (h:Zf4 l):0 < l.length:=by
 cases l with
 | nil=>unfold Zf4 at h; simp [PS] at h
 | cons a l=>simp
theorem Zjz {l:List Ze} (hc:Ck l) (h:l.length = 1):ZbY l = []:=by
 obtain ⟨o1,o2,o3,o4,o5⟩:=ZgO hc
 have no:∀ p,¬ isD l p:=by
  intro p hp
  have f:=hp.fwd hc
  rcases hc.s p.1 p.2 hp.1 hp.2.1 with ⟨a,_⟩ | ⟨w,a,b,c,_⟩
  ·have:=hp.2.2; omega
  ·have:=hp.1; omega
 have:(ZbY l).flatten = []:=by
  cases q:(ZbY l).flatten with
  | nil=>rfl
  | cons a t=>exact absurd (o5 a (by rw [q]; simp)) (no a)
 have len:=(Zhy hc l.length (by omega)).len
 have fl:=(Zhy hc l.length (by omega)).fl
 unfold ZbY at this ⊢
 rw [fl] at this
 rw [this] at len
 exact List.length_eq_zero_iff.1 (by simpa using len)
theorem Zla {l:List Ze} (hl:l.length≤1200):Zcx l = some (Zfu l):=by
 unfold Zcx Zfu
 rw [Zez (by omega),Option.bind_some]
 by_cases h:Zed l = 0
 ·have hc:=(Zd6.1 h).2
  rw [Za3 h,if_pos h,Zmj hc hl,Option.bind_some]
  by_cases w:Zf4 l
  ·have hp:=Zj9 w
   rw [if_pos w,Zbz (show ((PS l l.length).1.length:Int) = 1 from w),if_neg (by decide),ZkY (by omega) h,Option.bind_some]
   by_cases c:l.length = 1
   ·rw [if_pos c]
    have:Zht l = some (-1):=by unfold Zht; rw [Zjz hc c]; rfl
    rw [this]
    dsimp only
    rw [if_neg (by simp; omega)]
   ·rw [if_neg c]
    cases Zht l with
    | none=>dsimp only; rw [if_pos (by simp; omega)]
    | some a =>
     dsimp only
     by_cases q:0≤a
     ·rw [if_pos q,if_neg (by simp; omega)]
     ·rw [if_neg q,if_pos (by simp; omega)]
  ·rw [if_neg w,ZbD (show ¬ ((PS l l.length).1.length:Int) = 1 from w),if_pos (by decide)]
 ·rw [Zba h,if_neg h]
theorem Zmw {l:List Ze} (hl:l.length≤1200):Za7 l = some (if Zfu l = 0 then Zln l else -1,Zfu l):=by
 unfold Za7
 rw [Zmt (by omega),Option.bind_some]
 by_cases h:Zed l = 0
 ·have hc:=(Zd6.1 h).2
  rw [Za3 h,Zmx hc hl,Option.bind_some]
  by_cases w:Zf4 l
  ·rw [Za3 (show ((PS l l.length).1.length:Int) = 1 from w)]
   by_cases c:l.length = 1
   ·rw [ZA (by omega)]
    have e:Zfu l = 0:=by unfold Zfu; rw [if_pos h,if_pos w,if_pos c]
    rw [e,if_pos rfl]
    unfold Zln
    rw [if_pos c]
   ·rw [ZC (by omega),Zmu (by omega) h,Option.bind_some,Zli (by omega) h,Option.bind_some]
    cases q:Zht l with
    | none =>
     have e:Zfu l = 10:=by unfold Zfu; rw [if_pos h,if_pos w,if_neg c,q]
     rw [e]
     rfl
    | some a =>
     dsimp only
     by_cases k:0≤a
     ·have e:Zfu l = 0:=by unfold Zfu; rw [if_pos h,if_pos w,if_neg c,q]; dsimp only; rw [if_pos k]
      have v:Zln l = a:=by unfold Zln; rw [if_neg c,q]
      rw [ZC (by omega),e,v,if_pos rfl]
     ·have e:Zfu l = 10:=by unfold Zfu; rw [if_pos h,if_pos w,if_neg c,q]; dsimp only; rw [if_neg k]
      rw [ZA (by omega),e]
      rfl
  ·rw [Zba (show ¬ ((PS l l.length).1.length:Int) = 1 from w)]
   have e:Zfu l = 13:=by unfold Zfu; rw [if_pos h,if_neg w]
   rw [e,if_neg (by decide)]
 ·have e:Zfu l = Zed l:=by unfold Zfu; rw [if_neg h]
  rw [Zba h,e,if_neg h]
end Mu
