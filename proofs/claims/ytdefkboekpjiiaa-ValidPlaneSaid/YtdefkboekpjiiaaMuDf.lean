/- What the functions work out. -/
import Derived.Test.YtdefkboekpjiiaaMuA
import Derived.Test.YtdefkboekpjiiaaMuR
set_option linter.unusedVariables false
set_option linter.unnecessarySimpa false
set_option linter.unusedSimpArgs false
set_option maxHeartbeats 2000000
set_option maxRecDepth 10000
namespace Mu
open Go (IntKind BinOp UnOp)
structure ZQ where
 At:List Int
 Bits:List Int
 Own:List Int
 deriving DecidableEq,Inhabited
abbrev Zeq:Enc Int:=⟨1,fun x=>[.i .u8 x],fun _=>rfl⟩
theorem Zeq.one (x:Int):(Zeq.c x).all V.one = true:=rfl
abbrev Zg7:Enc Int:=⟨1,fun x=>[.i .i8 x],fun _=>rfl⟩
theorem Zg7.one (x:Int):(Zg7.c x).all V.one = true:=rfl
structure Za where
 Next:A4 Int
 Owner:A4 Int
 deriving DecidableEq,Inhabited
structure Zk where
 X:Int
 Y:Int
 deriving DecidableEq,Inhabited
abbrev Zg:Enc Zk:=⟨2,fun x=>[.i .i64 x.X,.i .i64 x.Y],fun _=>rfl⟩
theorem Zg.one (x:Zk):(Zg.c x).all V.one = true:=rfl
theorem Zg.same (x y:Zk):zk [.i,.i] (Zg.c x) (Zg.c y) = some (decide (x = y)):=by
 obtain ⟨x1,x2⟩:=x
 obtain ⟨y1,y2⟩:=y
 refine (Zdn (Zdn Zel)).trans ?_
 congr 1
 rw [Bool.eq_iff_iff]
 simp [and_assoc]
abbrev Zh:Enc Za:=⟨8,fun x=>[.i .i64 x.Next.a,.i .i64 x.Next.b,.i .i64 x.Next.c,.i .i64 x.Next.d,.i .i64 x.Owner.a,.i .i64 x.Owner.b,.i .i64 x.Owner.c,.i .i64 x.Owner.d],fun _=>rfl⟩
theorem Zh.one (x:Za):(Zh.c x).all V.one = true:=rfl
abbrev e_bool:Enc Bool:=⟨1,fun x=>[.b x],fun _=>rfl⟩
theorem e_bool.one (x:Bool):(e_bool.c x).all V.one = true:=rfl
structure Zj where
 Cell:Int
 Dir:Int
 deriving DecidableEq,Inhabited
abbrev Ze:Enc Zj:=⟨2,fun x=>[.i .i64 x.Cell,.i .i64 x.Dir],fun _=>rfl⟩
theorem Ze.one (x:Zj):(Ze.c x).all V.one = true:=rfl
theorem Ze.same (x y:Zj):zk [.i,.i] (Ze.c x) (Ze.c y) = some (decide (x = y)):=by
 obtain ⟨x1,x2⟩:=x
 obtain ⟨y1,y2⟩:=y
 refine (Zdn (Zdn Zel)).trans ?_
 congr 1
 rw [Bool.eq_iff_iff]
 simp [and_assoc]
abbrev ZaP:Enc (A4 Int):=⟨4,fun x=>[.i .i64 x.a,.i .i64 x.b,.i .i64 x.c,.i .i64 x.d],fun _=>rfl⟩
theorem ZaP.one (x:A4 Int):(ZaP.c x).all V.one = true:=rfl
def Zfc (x:Int):Prop:=Wf .u8 x
def ZgW (x:Int):Prop:=Wf .i8 x
/-! muntin/muntinref10.New -/
def ZE.s1 (v:Int):(List Za) × Int→Option (((List Za) × Int) ⊕ (List Za)):=fun (l2,d) =>
 if decide (d < 4) then
  ck ((0:Int)≤v∧v < (l2.length:Int)) <|
  ck ((0:Int)≤d∧d < 4) <|
  ck (Zaf (d + 1)) <|
  some (.inl (l2.set v.toNat ({ gi l2 v.toNat with Next:=((gi l2 v.toNat).Next).set d (-1) }),d + 1))
 else
  some (.inr l2)

def ZE.s0 (n:Int):(List Za) × Int→Option (((List Za) × Int) ⊕ (List Za)):=fun (l,v) =>
 if decide (v < n) then
  (ZY (ZE.s1 v) big (l,0)).bind fun l3 =>
  ck (Zaf (v + 1)) <|
  some (.inl (l3,v + 1))
 else
  some (.inr l)

def ZE (n:Int):Option (List Za) :=
 ck ((0:Int)≤n∧n≤1000000000) <|
 (ZY (ZE.s0 n) big (List.replicate n.toNat (⟨⟨0,0,0,0⟩,⟨0,0,0,0⟩⟩:Za),0)).bind fun l1 =>
 some l1

/-! muntin/muntinref10.Nearest -/
def Z9.s0 (at_:List Zk) (i:Int) (d:Int):Int × Int→Option ((Int × Int) ⊕ Int):=fun (best,k_) =>
 if decide (k_ < (at_.length:Int)) then
  (if decide (d = 0) then
   ck ((0:Int)≤k_∧k_ < (at_.length:Int)) <|
   ck ((0:Int)≤i∧i < (at_.length:Int)) <|
   some (decide ((gi at_ k_.toNat).Y = (gi at_ i.toNat).Y))
  else
   some false).bind fun t =>
  (if t then
   ck ((0:Int)≤k_∧k_ < (at_.length:Int)) <|
   ck ((0:Int)≤i∧i < (at_.length:Int)) <|
   some (decide (((gi at_ i.toNat).X) < ((gi at_ k_.toNat).X)))
  else
   some false).bind fun t1 =>
  (if t1 then
   (if decide (best < 0) then
    some true
   else
    ck ((0:Int)≤k_∧k_ < (at_.length:Int)) <|
    ck ((0:Int)≤best∧best < (at_.length:Int)) <|
    some (decide (((gi at_ k_.toNat).X) < ((gi at_ best.toNat).X)))).bind fun t3 =>
   some t3
  else
   some false).bind fun t2 =>
  (
   if t2 then
    some k_
   else
    some best).bind fun best2 =>
  (if decide (d = 1) then
   ck ((0:Int)≤k_∧k_ < (at_.length:Int)) <|
   ck ((0:Int)≤i∧i < (at_.length:Int)) <|
   some (decide ((gi at_ k_.toNat).X = (gi at_ i.toNat).X))
  else
   some false).bind fun t4 =>
  (if t4 then
   ck ((0:Int)≤k_∧k_ < (at_.length:Int)) <|
   ck ((0:Int)≤i∧i < (at_.length:Int)) <|
   some (decide (((gi at_ i.toNat).Y) < ((gi at_ k_.toNat).Y)))
  else
   some false).bind fun t5 =>
  (if t5 then
   (if decide (best2 < 0) then
    some true
   else
    ck ((0:Int)≤k_∧k_ < (at_.length:Int)) <|
    ck ((0:Int)≤best2∧best2 < (at_.length:Int)) <|
    some (decide (((gi at_ k_.toNat).Y) < ((gi at_ best2.toNat).Y)))).bind fun t7 =>
   some t7
  else
   some false).bind fun t6 =>
  if t6 then
   ck (Zaf (k_ + 1)) <|
   some (.inl (k_,k_ + 1))
  else
   ck (Zaf (k_ + 1)) <|
   some (.inl (best2,k_ + 1))
 else
  some (.inr best)

def Z9 (at_:List Zk) (i:Int) (d:Int):Option Int :=
 (ZY (Z9.s0 at_ i d) big ((-1),0)).bind fun best1 =>
 some best1

/-! muntin/muntinref10.Crossed -/
def Z8.s1 (at_:List Zk) (l:List Za) (i:Int) (w:Int) (a:Int):Int→Option (Int ⊕ (Unit ⊕ Unit)):=fun d =>
 if decide (d < 2) then
  ck ((0:Int)≤a∧a < (l.length:Int)) <|
  ck ((0:Int)≤d∧d < 4) <|
  if decide ((((gi l a.toNat).Next).get d) < 0) then
   ck (Zaf (d + 1)) <|
   some (.inl (d + 1))
  else
   ck ((0:Int)≤a∧a < (at_.length:Int)) <|
   ck ((0:Int)≤(((gi l a.toNat).Next).get d)∧(((gi l a.toNat).Next).get d) < (at_.length:Int)) <|
   (if decide ((gi at_ a.toNat).Y = (gi at_ (((gi l a.toNat).Next).get d:Int).toNat).Y) then
    ck ((0:Int)≤i∧i < (at_.length:Int)) <|
    ck ((0:Int)≤w∧w < (at_.length:Int)) <|
    some (decide ((gi at_ i.toNat).X = (gi at_ w.toNat).X))
   else
    some false).bind fun t =>
   (if t then
    ck ((0:Int)≤i∧i < (at_.length:Int)) <|
    some (decide (((gi at_ a.toNat).X) < ((gi at_ i.toNat).X)))
   else
    some false).bind fun t1 =>
   (if t1 then
    ck ((0:Int)≤i∧i < (at_.length:Int)) <|
    some (decide (((gi at_ i.toNat).X) < ((gi at_ (((gi l a.toNat).Next).get d:Int).toNat).X)))
   else
    some false).bind fun t2 =>
   (if t2 then
    ck ((0:Int)≤i∧i < (at_.length:Int)) <|
    some (decide (((gi at_ i.toNat).Y) < ((gi at_ a.toNat).Y)))
   else
    some false).bind fun t3 =>
   (if t3 then
    ck ((0:Int)≤w∧w < (at_.length:Int)) <|
    some (decide (((gi at_ a.toNat).Y) < ((gi at_ w.toNat).Y)))
   else
    some false).bind fun t4 =>
   if t4 then
    some (.inr (.inr ()))
   else
    (if decide ((gi at_ a.toNat).X = (gi at_ (((gi l a.toNat).Next).get d:Int).toNat).X) then
     ck ((0:Int)≤i∧i < (at_.length:Int)) <|
     ck ((0:Int)≤w∧w < (at_.length:Int)) <|
     some (decide ((gi at_ i.toNat).Y = (gi at_ w.toNat).Y))
    else
     some false).bind fun t5 =>
    (if t5 then
     ck ((0:Int)≤i∧i < (at_.length:Int)) <|
     some (decide (((gi at_ i.toNat).X) < ((gi at_ a.toNat).X)))
    else
     some false).bind fun t6 =>
    (if t6 then
     ck ((0:Int)≤w∧w < (at_.length:Int)) <|
     some (decide (((gi at_ a.toNat).X) < ((gi at_ w.toNat).X)))
    else
     some false).bind fun t7 =>
    (if t7 then
     ck ((0:Int)≤i∧i < (at_.length:Int)) <|
     some (decide (((gi at_ a.toNat).Y) < ((gi at_ i.toNat).Y)))
    else
     some false).bind fun t8 =>
    (if t8 then
     ck ((0:Int)≤i∧i < (at_.length:Int)) <|
     some (decide (((gi at_ i.toNat).Y) < ((gi at_ (((gi l a.toNat).Next).get d:Int).toNat).Y)))
    else
     some false).bind fun t9 =>
    if t9 then
     some (.inr (.inr ()))
    else
     ck (Zaf (d + 1)) <|
     some (.inl (d + 1))
 else
  some (.inr (.inl ()))

def Z8.s0 (at_:List Zk) (l:List Za) (i:Int) (w:Int):Int→Option (Int ⊕ (Unit ⊕ Unit)):=fun a =>
 if decide (a < (l.length:Int)) then
  (
   ZY (Z8.s1 at_ l i w a) big 0:Option (Unit ⊕ Unit)).bind fun o₃=>match o₃ with
  | .inl _ =>
   ck (Zaf (a + 1)) <|
   some (.inl (a + 1))
  | .inr _ =>
   some (.inr (.inr ()))
 else
  some (.inr (.inl ()))

def Z8 (at_:List Zk) (l:List Za) (i:Int) (w:Int):Option Bool :=
 (
  ZY (Z8.s0 at_ l i w) big 0:Option (Unit ⊕ Unit)).bind fun o₁=>match o₁ with
 | .inl _ =>
  some false
 | .inr _ =>
  some true

/-! muntin/muntinref10.with -/
def zf.s0 (l:List Za) (v:Int) (d:Int) (w:Int) (o:Int):(List Za) × Int→Option (((List Za) × Int) ⊕ (List Za)):=fun (out,i) =>
 if decide (i < (l.length:Int)) then
  ck ((0:Int)≤i∧i < (l.length:Int)) <|
  (
   if decide (i = v) then
    ck ((0:Int)≤d∧d < 4) <|
    some ({ { gi l i.toNat with Next:=((gi l i.toNat).Next).set d w } with Owner:=(({ gi l i.toNat with Next:=((gi l i.toNat).Next).set d w }).Owner).set d o })
   else
    some (gi l i.toNat)).bind fun c =>
  if decide (i = w) then
   ck (Zaf (d + 2)) <|
   ck ((0:Int)≤((d + 2).tmod 4)∧((d + 2).tmod 4) < 4) <|
   ck (out.length + [{ { c with Next:=c.Next.set ((d + 2).tmod 4) v } with Owner:=(({ c with Next:=c.Next.set ((d + 2).tmod 4) v }).Owner).set ((d + 2).tmod 4) o }].length≤1000000000) <|
   ck (Zaf (i + 1)) <|
   some (.inl (out++[{ { c with Next:=c.Next.set ((d + 2).tmod 4) v } with Owner:=(({ c with Next:=c.Next.set ((d + 2).tmod 4) v }).Owner).set ((d + 2).tmod 4) o }],i + 1))
  else
   ck (out.length + [c].length≤1000000000) <|
   ck (Zaf (i + 1)) <|
   some (.inl (out++[c],i + 1))
 else
  some (.inr out)

def zf (l:List Za) (v:Int) (d:Int) (w:Int) (o:Int):Option (List Za) :=
 (ZY (zf.s0 l v d w o) big (([]:List Za),0)).bind fun out1 =>
 some out1

/-! muntin/muntinref10.Make -/
def Z1.s1 (z:ZQ) (at_:List Zk) (i:Int):Bool × Int→Option ((Bool × Int) ⊕ ((List Zk) × Bool)):=fun (met,k_) =>
 if decide (k_ < (at_.length:Int)) then
  (if met then
   some true
  else
   ck ((0:Int)≤k_∧k_ < (at_.length:Int)) <|
   some (decide (gi at_ k_.toNat = (⟨(gi z.At i.toNat).tmod 8,((gi z.At i.toNat).tdiv 8).tmod 8⟩:Zk)))).bind fun t =>
  ck (Zaf (k_ + 1)) <|
  some (.inl (t,k_ + 1))
 else
  some (.inr (at_,met))

def Z1.s0 (z:ZQ) (most:Int):(List Zk) × Int→Option (((List Zk) × Int) ⊕ (List Zk)):=fun (at_,i) =>
 if (decide (i < (z.At.length:Int))) && (decide ((at_.length:Int) < most)) then
  ck ((0:Int)≤i∧i < (z.At.length:Int)) <|
  ck (inK .i64 (gi z.At i.toNat)) <|
  ck ((8:Int)≠0∧Zaf ((gi z.At i.toNat).tdiv 8)) <|
  (ZY (Z1.s1 z at_ i) big (false,0)).bind fun (at_2,met1) =>
  if !met1 then
   ck (at_2.length + [(⟨(gi z.At i.toNat).tmod 8,((gi z.At i.toNat).tdiv 8).tmod 8⟩:Zk)].length≤1000000000) <|
   ck (Zaf (i + 1)) <|
   some (.inl (at_2++[(⟨(gi z.At i.toNat).tmod 8,((gi z.At i.toNat).tdiv 8).tmod 8⟩:Zk)],i + 1))
  else
   ck (Zaf (i + 1)) <|
   some (.inl (at_2,i + 1))
 else
  some (.inr at_)

def Z1.s3 (i1:Int) (bits:Int) (at_6:List Zk) (own:Int):(List Za) × Int→Option (((List Za) × Int) ⊕ (List Za)):=fun (l4,d) =>
 if decide (d < 2) then
  (Z9 at_6 i1 d).bind fun x1 =>
  ck ((0:Int)≤d) <|
  if (decide (Zo .u8 (Zx .u8 bits d) 1 = 0)) || (decide (x1 < 0)) then
   ck (Zaf (d + 1)) <|
   some (.inl (l4,d + 1))
  else
   (Z8 at_6 l4 i1 x1).bind fun x2 =>
   if !x2 then
    (zf l4 i1 d x1 own).bind fun x3 =>
    ck (Zaf (d + 1)) <|
    some (.inl (x3,d + 1))
   else
    ck (Zaf (d + 1)) <|
    some (.inl (l4,d + 1))
 else
  some (.inr l4)

def Z1.s2 (z:ZQ):(List Zk) × (List Za) × Int→Option (((List Zk) × (List Za) × Int) ⊕ ((List Zk) × (List Za))):=fun (at_3,l,i1) =>
 if decide (i1 < (at_3.length:Int)) then
  (
   if decide (i1 < (z.Bits.length:Int)) then
    ck ((0:Int)≤i1∧i1 < (z.Bits.length:Int)) <|
    some (at_3,l,gi z.Bits i1.toNat)
   else
    some (at_3,l,3)).bind fun (at_5,l2,bits) =>
  (
   if decide (i1 < (z.Own.length:Int)) then
    ck ((0:Int)≤i1∧i1 < (z.Own.length:Int)) <|
    ck (inK .i64 (gi z.Own i1.toNat)) <|
    if decide ((gi z.Own i1.toNat) < (-2)) then
     ck (Zaf (-(gi z.Own i1.toNat))) <|
     some (at_5,l2,-(gi z.Own i1.toNat))
    else
     some (at_5,l2,gi z.Own i1.toNat)
   else
    some (at_5,l2,i1)).bind fun (at_6,l3,own) =>
  (ZY (Z1.s3 i1 bits at_6 own) big (l3,0)).bind fun l5 =>
  ck (Zaf (i1 + 1)) <|
  some (.inl (at_6,l5,i1 + 1))
 else
  some (.inr (at_3,l))

def Z1 (z:ZQ) (most:Int):Option ((List Za) × (List Zk)) :=
 (ZY (Z1.s0 z most) big (([]:List Zk),0)).bind fun at_1 =>
 (ZE (at_1.length:Int)).bind fun x =>
 (ZY (Z1.s2 z) big (at_1,x,0)).bind fun (at_4,l1) =>
 some (l1,at_4)

/-! muntin/muntinref13.Far -/
def Z6.s0 (l:List Za):(List Int) × Int→Option (((List Int) × Int) ⊕ (List Int)):=fun (far,i) =>
 if decide (i < (l.length:Int)) then
  ck ((0:Int)≤i∧i < (far.length:Int)) <|
  ck (Zaf (i + 1)) <|
  some (.inl (far.set i.toNat (-1),i + 1))
 else
  some (.inr far)

def Z6.s3 (l:List Za) (round:Int) (i1:Int):(List Int) × Int→Option (((List Int) × Int) ⊕ (List Int)):=fun (far6,d) =>
 if decide (d < 4) then
  ck ((0:Int)≤i1∧i1 < (l.length:Int)) <|
  ck ((0:Int)≤d∧d < 4) <|
  ck ((0:Int)≤i1∧i1 < (far6.length:Int)) <|
  (if (decide (gi far6 i1.toNat = round)) && (decide (0≤(((gi l i1.toNat).Next).get d))) then
   ck ((0:Int)≤(max (((gi l i1.toNat).Next).get d) 0)∧(max (((gi l i1.toNat).Next).get d) 0) < (far6.length:Int)) <|
   some (decide ((gi far6 (max (((gi l i1.toNat).Next).get d) 0:Int).toNat) < 0))
  else
   some false).bind fun t =>
  if t then
   ck (Zaf (round + 1)) <|
   ck ((0:Int)≤(((gi l i1.toNat).Next).get d)∧(((gi l i1.toNat).Next).get d) < (far6.length:Int)) <|
   ck (Zaf (d + 1)) <|
   some (.inl (far6.set (((gi l i1.toNat).Next).get d:Int).toNat (round + 1),d + 1))
  else
   ck (Zaf (d + 1)) <|
   some (.inl (far6,d + 1))
 else
  some (.inr far6)

def Z6.s2 (l:List Za) (round:Int):(List Int) × Int→Option (((List Int) × Int) ⊕ (List Int)):=fun (far4,i1) =>
 if decide (i1 < (l.length:Int)) then
  (ZY (Z6.s3 l round i1) big (far4,0)).bind fun far7 =>
  ck (Zaf (i1 + 1)) <|
  some (.inl (far7,i1 + 1))
 else
  some (.inr far4)

def Z6.s1 (l:List Za):(List Int) × Int→Option (((List Int) × Int) ⊕ (List Int)):=fun (far2,round) =>
 if decide (round < (l.length:Int)) then
  (ZY (Z6.s2 l round) big (far2,0)).bind fun far5 =>
  ck (Zaf (round + 1)) <|
  some (.inl (far5,round + 1))
 else
  some (.inr far2)

def Z6 (l:List Za) (v:Int):Option (List Int) :=
 ck ((0:Int)≤(l.length:Int)∧(l.length:Int)≤1000000000) <|
 (ZY (Z6.s0 l) big (List.replicate ((l.length:Int):Int).toNat (0:Int),0)).bind fun far1 =>
 ck ((0:Int)≤v∧v < (far1.length:Int)) <|
 (ZY (Z6.s1 l) big (far1.set v.toNat 0,0)).bind fun far3 =>
 some far3

/-! muntin/muntinref13.Parts -/
def ZK.s1 (l:List Za) (x:List Int):(List Bool) × (List Int) × Int→Option (((List Bool) × (List Int) × Int) ⊕ ((List Bool) × (List Int))):=fun (in_1,p,w) =>
 if decide (w < (l.length:Int)) then
  ck ((0:Int)≤w∧w < (x.length:Int)) <|
  if decide (0≤(gi x w.toNat)) then
   ck ((0:Int)≤w∧w < (in_1.length:Int)) <|
   ck (p.length + [w].length≤1000000000) <|
   ck (Zaf (w + 1)) <|
   some (.inl (in_1.set w.toNat true,p++[w],w + 1))
  else
   ck (Zaf (w + 1)) <|
   some (.inl (in_1,p,w + 1))
 else
  some (.inr (in_1,p))

def ZK.s0 (l:List Za):(List Bool) × (List (List Int)) × Int→Option (((List Bool) × (List (List Int)) × Int) ⊕ (List (List Int))):=fun (in_,out,v) =>
 if decide (v < (l.length:Int)) then
  ck ((0:Int)≤v∧v < (in_.length:Int)) <|
  if gi in_ v.toNat then
   ck (Zaf (v + 1)) <|
   some (.inl (in_,out,v + 1))
  else
   (Z6 l v).bind fun x =>
   (ZY (ZK.s1 l x) big (in_,([]:List Int),0)).bind fun (in_2,p1) =>
   ck (out.length + 1≤1000000000) <|
   ck (Zaf (v + 1)) <|
   some (.inl (in_2,out++[p1],v + 1))
 else
  some (.inr out)

def ZK (l:List Za):Option (List (List Int)) :=
 ck ((0:Int)≤(l.length:Int)∧(l.length:Int)≤1000000000) <|
 (ZY (ZK.s0 l) big (List.replicate ((l.length:Int):Int).toNat false,([]:List (List Int)),0)).bind fun out1 =>
 some out1

/-! muntin/muntinref10.Join -/
def zq (l:List Za) (v:Int) (d:Int) (w:Int) (o:Int):Option ((List Za) × Int) :=
 if (((((((decide (v < 0)) || (decide ((l.length:Int)≤v))) || (decide (w < 0))) || (decide ((l.length:Int)≤w))) || (decide (v = w))) || (decide (d < 0))) || (decide (3 < d))) || (decide (o < (-2))) then
  some (l,2)
 else
  ck ((0:Int)≤v∧v < (l.length:Int)) <|
  ck ((0:Int)≤d∧d < 4) <|
  (if !(decide (((gi l v.toNat).Next).get d = (-1))) then
   some true
  else
   ck (Zaf (d + 2)) <|
   ck ((0:Int)≤w∧w < (l.length:Int)) <|
   ck ((0:Int)≤((d + 2).tmod 4)∧((d + 2).tmod 4) < 4) <|
   some (!(decide (((gi l w.toNat).Next).get ((d + 2).tmod 4) = (-1))))).bind fun t =>
  if t then
   some (l,9)
  else
   (zf l v d w o).bind fun x =>
   some (x,0)

/-! muntin/muntinlaw14.square -/
def zN:Option (List Za) :=
 (ZE 4).bind fun x =>
 (zq x 0 0 1 0).bind fun (x1,x2) =>
 (zq x1 1 1 2 0).bind fun (x3,x4) =>
 (zq x3 2 2 3 0).bind fun (x5,x6) =>
 (zq x5 3 3 0 0).bind fun (x7,x8) =>
 some x7

/-! muntin/compass.Good -/
def zC (d:Int):Option Bool :=
 some ((decide (0≤d)) && (decide (d≤3)))

/-! muntin/compass.Left -/
def zW (d:Int) (times:Int):Option Int :=
 (zC d).bind fun x =>
 if !x then
  some 0
 else
  ck (Zaf (d + (times.tmod 4))) <|
  ck (Zaf ((d + (times.tmod 4)) + 4)) <|
  some (((d + (times.tmod 4)) + 4).tmod 4)

/-! muntin/grid.side -/
def ZaS (cells:List Za) (v:Int) (d:Int):Option Int :=
 ck ((0:Int)≤v∧v < (cells.length:Int)) <|
 ck ((0:Int)≤d∧d < 4) <|
 if decide (((gi cells v.toNat).Next).get d = (-1)) then
  if !(decide (((gi cells v.toNat).Owner).get d = 0)) then
   some 9
  else
   some 0
 else
  if ((decide ((((gi cells v.toNat).Next).get d) < 0)) || (decide ((cells.length:Int)≤(((gi cells v.toNat).Next).get d)))) || (decide (((gi cells v.toNat).Next).get d = v)) then
   some 3
  else
   (zW d 2).bind fun x =>
   ck ((0:Int)≤(((gi cells v.toNat).Next).get d)∧(((gi cells v.toNat).Next).get d) < (cells.length:Int)) <|
   ck ((0:Int)≤x∧x < 4) <|
   if ((!(decide (((gi cells (((gi cells v.toNat).Next).get d:Int).toNat).Next).get x = v))) || (!(decide (((gi cells (((gi cells v.toNat).Next).get d:Int).toNat).Owner).get x = ((gi cells v.toNat).Owner).get d)))) || (decide ((((gi cells v.toNat).Owner).get d) < (-2))) then
    some 9
   else
    some 0

/-! muntin/grid.Check -/
def ZX.s1 (cells:List Za) (x:Int):Int→Option (Int ⊕ (Unit ⊕ Int)):=fun x2 =>
 if decide (x2 < 4) then
  (ZaS cells x x2).bind fun x4 =>
  if !(decide (x4 = 0)) then
   some (.inr (.inr x4))
  else
   ck (Zaf (x2 + 1)) <|
   some (.inl (x2 + 1))
 else
  some (.inr (.inl ()))

def ZX.s0 (cells:List Za):Int→Option (Int ⊕ (Unit ⊕ Int)):=fun x =>
 if decide (x < (cells.length:Int)) then
  (
   ZY (ZX.s1 cells x) big 0:Option (Unit ⊕ Int)).bind fun o₃=>match o₃ with
  | .inl _ =>
   ck (Zaf (x + 1)) <|
   some (.inl (x + 1))
  | .inr x3 =>
   some (.inr (.inr x3))
 else
  some (.inr (.inl ()))

def ZX (cells:List Za):Option Int :=
 if decide (4096 < (cells.length:Int)) then
  some 6
 else
  (
   ZY (ZX.s0 cells) big 0:Option (Unit ⊕ Int)).bind fun o₁=>match o₁ with
  | .inl _ =>
   some 0
  | .inr x1 =>
   some x1

/-! math/bits.Mul64 -/
def Zb0 (x:Int) (y:Int):Option (Int × Int) :=
 some (za .u64 (za .u64 (Z7 .u64 (Zx .u64 x 32) (Zx .u64 y 32)) (Zx .u64 (za .u64 (Z7 .u64 (Zx .u64 x 32) (Zo .u64 y 4294967295)) (Zx .u64 (Z7 .u64 (Zo .u64 x 4294967295) (Zo .u64 y 4294967295)) 32)) 32)) (Zx .u64 (za .u64 (Zo .u64 (za .u64 (Z7 .u64 (Zx .u64 x 32) (Zo .u64 y 4294967295)) (Zx .u64 (Z7 .u64 (Zo .u64 x 4294967295) (Zo .u64 y 4294967295)) 32)) 4294967295) (Z7 .u64 (Zo .u64 x 4294967295) (Zx .u64 y 32))) 32),Z7 .u64 x y)

/-! math/bits.Mul -/
def Zbg (x:Int) (y:Int):Option (Int × Int) :=
 (Zb0 x y).bind fun (x1,x2) =>
 some (x1,x2)

/-! slices.Repeat[[]int,int] -/
def zb.s0:(List Int) × Int→Option (((List Int) × Int) ⊕ (List Int)):=fun (newslice,n) =>
 if decide (n < (newslice.length:Int)) then
  ck ((0:Int)≤n∧n≤(newslice.length:Int)) <|
  ck (Zaf (n + ((min (newslice.take n.toNat).length (newslice.drop n.toNat).length:Nat):Int))) <|
  some (.inl (newslice.take n.toNat++((newslice.take n.toNat).take (newslice.drop n.toNat).length++(newslice.drop n.toNat).drop (newslice.take n.toNat).length),n + ((min (newslice.take n.toNat).length (newslice.drop n.toNat).length:Nat):Int)))
 else
  some (.inr newslice)

def zb (x:List Int) (count:Int):Option (List Int) :=
 (
  if decide (count < 0) then
   none
  else
   some ()).bind fun _ =>
 ck (inK .u64 (x.length:Int)) <|
 ck (inK .u64 count) <|
 (Zbg (x.length:Int) count).bind fun (x1,x2) =>
 (
  if (decide (0 < x1)) || (decide (9223372036854775807 < x2)) then
   none
  else
   some ()).bind fun _ =>
 ck (inK .i64 x2) <|
 ck ((0:Int)≤x2∧x2≤1000000000) <|
 (ZY zb.s0 big (x.take (List.replicate x2.toNat (0:Int)).length++(List.replicate x2.toNat (0:Int)).drop x.length,((min x.length (List.replicate x2.toNat (0:Int)).length:Nat):Int))).bind fun newslice1 =>
 some newslice1

/-! muntin/join.spread -/
def zl.s1 (cells:List Za) (l:List Int):(List Int) × (List Int) × (List Int) × (List Bool) × Int→Option (((List Int) × (List Int) × (List Int) × (List Bool) × Int) ⊕ ((List Int) × (List Int) × (List Int) × (List Bool))):=fun (from_2,dir2,l1,met1,x2) =>
 if decide (x2 < 4) then
  ck ((0:Int)≤(gi l (0:Int).toNat)∧(gi l (0:Int).toNat) < (cells.length:Int)) <|
  ck ((0:Int)≤x2∧x2 < 4) <|
  (if decide (0≤(((gi cells (gi l (0:Int).toNat:Int).toNat).Next).get x2)) then
   ck ((0:Int)≤(((gi cells (gi l (0:Int).toNat:Int).toNat).Next).get x2)∧(((gi cells (gi l (0:Int).toNat:Int).toNat).Next).get x2) < (met1.length:Int)) <|
   some (!(gi met1 (((gi cells (gi l (0:Int).toNat:Int).toNat).Next).get x2:Int).toNat))
  else
   some false).bind fun t =>
  if t then
   ck ((0:Int)≤(((gi cells (gi l (0:Int).toNat:Int).toNat).Next).get x2)∧(((gi cells (gi l (0:Int).toNat:Int).toNat).Next).get x2) < (met1.length:Int)) <|
   ck ((0:Int)≤(((gi cells (gi l (0:Int).toNat:Int).toNat).Next).get x2)∧(((gi cells (gi l (0:Int).toNat:Int).toNat).Next).get x2) < (from_2.length:Int)) <|
   ck ((0:Int)≤(((gi cells (gi l (0:Int).toNat:Int).toNat).Next).get x2)∧(((gi cells (gi l (0:Int).toNat:Int).toNat).Next).get x2) < (dir2.length:Int)) <|
   ck (l1.length + [((gi cells (gi l (0:Int).toNat:Int).toNat).Next).get x2].length≤1000000000) <|
   ck (Zaf (x2 + 1)) <|
   some (.inl (from_2.set (((gi cells (gi l (0:Int).toNat:Int).toNat).Next).get x2:Int).toNat (gi l (0:Int).toNat),dir2.set (((gi cells (gi l (0:Int).toNat:Int).toNat).Next).get x2:Int).toNat x2,l1++[((gi cells (gi l (0:Int).toNat:Int).toNat).Next).get x2],met1.set (((gi cells (gi l (0:Int).toNat:Int).toNat).Next).get x2:Int).toNat true,x2 + 1))
  else
   ck (Zaf (x2 + 1)) <|
   some (.inl (from_2,dir2,l1,met1,x2 + 1))
 else
  some (.inr (from_2,dir2,l1,met1))

def zl.s0 (cells:List Za):(List Int) × (List Int) × (List Int) × (List Bool)→Option (((List Int) × (List Int) × (List Int) × (List Bool)) ⊕ ((List Int) × (List Int))):=fun (from_,dir,l,met) =>
 if decide (0 < (l.length:Int)) then
  ck ((0:Int)≤0∧0 < (l.length:Int)) <|
  ck ((0:Int)≤1∧1≤(l.length:Int)) <|
  (ZY (zl.s1 cells l) big (from_,dir,l.drop (1:Int).toNat,met,0)).bind fun (from_3,dir3,l2,met2) =>
  some (.inl (from_3,dir3,l2,met2))
 else
  some (.inr (from_,dir))

def zl (cells:List Za) (v:Int):Option ((List Int) × (List Int)) :=
 (zb ([(-1)]:List Int) (cells.length:Int)).bind fun x =>
 (zb ([(-1)]:List Int) (cells.length:Int)).bind fun x1 =>
 ck ((0:Int)≤(cells.length:Int)∧(cells.length:Int)≤1000000000) <|
 ck ((0:Int)≤v∧v < ((List.replicate ((cells.length:Int):Int).toNat false).length:Int)) <|
 (ZY (zl.s0 cells) big (x,x1,[v],(List.replicate ((cells.length:Int):Int).toNat false).set v.toNat true)).bind fun (from_1,dir1) =>
 some (from_1,dir1)

/-! muntin/join.Parts -/
def zm.s1 (cells:List Za) (x1:Int) (x3:List Int):(List Bool) × (List Int) × Int→Option (((List Bool) × (List Int) × Int) ⊕ ((List Bool) × (List Int))):=fun (met1,part,x4) =>
 if decide (x4 < (cells.length:Int)) then
  (if decide (x4 = x1) then
   some true
  else
   ck ((0:Int)≤x4∧x4 < (x3.length:Int)) <|
   some (decide (0≤(gi x3 x4.toNat)))).bind fun t =>
  if t then
   ck ((0:Int)≤x4∧x4 < (met1.length:Int)) <|
   ck (part.length + [x4].length≤1000000000) <|
   ck (Zaf (x4 + 1)) <|
   some (.inl (met1.set x4.toNat true,part++[x4],x4 + 1))
  else
   ck (Zaf (x4 + 1)) <|
   some (.inl (met1,part,x4 + 1))
 else
  some (.inr (met1,part))

def zm.s0 (cells:List Za):(List (List Int)) × (List Bool) × Int→Option (((List (List Int)) × (List Bool) × Int) ⊕ (List (List Int))):=fun (l,met,x1) =>
 if decide (x1 < (cells.length:Int)) then
  ck ((0:Int)≤x1∧x1 < (met.length:Int)) <|
  if gi met x1.toNat then
   ck (Zaf (x1 + 1)) <|
   some (.inl (l,met,x1 + 1))
  else
   (zl cells x1).bind fun (x2,x3) =>
   (ZY (zm.s1 cells x1 x3) big (met,[],0)).bind fun (met2,part1) =>
   ck (l.length + 1≤1000000000) <|
   ck (Zaf (x1 + 1)) <|
   some (.inl (l++[part1],met2,x1 + 1))
 else
  some (.inr l)

def zm (cells:List Za):Option ((List (List Int)) × Int) :=
 (ZX cells).bind fun x =>
 if !(decide (x = 0)) then
  some (([]:List (List Int)),x)
 else
  ck ((0:Int)≤(cells.length:Int)∧(cells.length:Int)≤1000000000) <|
  (ZY (zm.s0 cells) big (([]:List (List Int)),List.replicate ((cells.length:Int):Int).toNat false,0)).bind fun l1 =>
  some (l1,0)

/-! muntin/join.Whole -/
def ZaG (cells:List Za):Option Bool :=
 (zm cells).bind fun (x,x1) =>
 some ((decide (x1 = 0)) && (decide ((x.length:Int) = 1)))

/-! (muntin/face.Dart).is -/
def zD (d:Zj) (cells:List Za):Option Bool :=
 if decide (0≤d.Cell) then
  if decide (d.Cell < (cells.length:Int)) then
   (zC d.Dir).bind fun x =>
   if x then
    ck ((0:Int)≤d.Cell∧d.Cell < (cells.length:Int)) <|
    ck ((0:Int)≤d.Dir∧d.Dir < 4) <|
    some (decide (0≤(((gi cells (d.Cell:Int).toNat).Next).get d.Dir)))
   else
    some false
  else
   some false
 else
  some false

/-! (muntin/face.Dart).behind -/
def ZZ.s0 (d:Zj) (cells:List Za):Int→Option (Int ⊕ (Unit ⊕ Zj)):=fun x =>
 if decide (x < 4) then
  ck ((0:Int)≤x∧x < 4) <|
  (zW d.Dir ((⟨1,0,(-1),2⟩:A4 Int).get x)).bind fun x2 =>
  (zD (⟨((gi cells (d.Cell:Int).toNat).Next).get d.Dir,x2⟩:Zj) cells).bind fun x3 =>
  if x3 then
   some (.inr (.inr (⟨((gi cells (d.Cell:Int).toNat).Next).get d.Dir,x2⟩:Zj)))
  else
   ck (Zaf (x + 1)) <|
   some (.inl (x + 1))
 else
  some (.inr (.inl ()))

def ZZ (d:Zj) (cells:List Za):Option Zj :=
 ck ((0:Int)≤d.Cell∧d.Cell < (cells.length:Int)) <|
 ck ((0:Int)≤d.Dir∧d.Dir < 4) <|
 (
  ZY (ZZ.s0 d cells) big 0:Option (Unit ⊕ Zj)).bind fun o₁=>match o₁ with
 | .inl _ =>
  some d
 | .inr x1 =>
  some x1

/-! muntin/face.Faces -/
def zd.s2 (cells:List Za):(List (Zj × Bool)) × (List Zj) × Zj→Option (((List (Zj × Bool)) × (List Zj) × Zj) ⊕ ((List (Zj × Bool)) × (List Zj))):=fun (met3,f,x4) =>
 if !(Zby false x4 met3) then
  ck (f.length + [x4].length≤1000000000) <|
  (ZZ x4 cells).bind fun x5 =>
  some (.inl (Zcl x4 true met3,f++[x4],x5))
 else
  some (.inr (met3,f))

def zd.s1 (cells:List Za) (x1:Int):(List (List Zj)) × (List (Zj × Bool)) × Int→Option (((List (List Zj)) × (List (Zj × Bool)) × Int) ⊕ ((List (List Zj)) × (List (Zj × Bool)))):=fun (l2,met1,x2) =>
 if decide (x2 < 4) then
  (zD (⟨x1,x2⟩:Zj) cells).bind fun x3 =>
  if (!x3) || (Zby false (⟨x1,x2⟩:Zj) met1) then
   ck (Zaf (x2 + 1)) <|
   some (.inl (l2,met1,x2 + 1))
  else
   (ZY (zd.s2 cells) big (met1,([]:List Zj),(⟨x1,x2⟩:Zj))).bind fun (met4,f1) =>
   ck (l2.length + 1≤1000000000) <|
   ck (Zaf (x2 + 1)) <|
   some (.inl (l2++[f1],met4,x2 + 1))
 else
  some (.inr (l2,met1))

def zd.s0 (cells:List Za):(List (List Zj)) × (List (Zj × Bool)) × Int→Option (((List (List Zj)) × (List (Zj × Bool)) × Int) ⊕ (List (List Zj))):=fun (l,met,x1) =>
 if decide (x1 < (cells.length:Int)) then
  (ZY (zd.s1 cells x1) big (l,met,0)).bind fun (l3,met2) =>
  ck (Zaf (x1 + 1)) <|
  some (.inl (l3,met2,x1 + 1))
 else
  some (.inr l)

def zd (cells:List Za):Option ((List (List Zj)) × Int) :=
 (ZX cells).bind fun x =>
 if !(decide (x = 0)) then
  some (([]:List (List Zj)),x)
 else
  (ZY (zd.s0 cells) big (([]:List (List Zj)),([]:List (Zj × Bool)),0)).bind fun l1 =>
  some (l1,0)

/-! muntin/compass.Turn -/
def Zaz (d:Int) (e_:Int):Option Int :=
 (zC d).bind fun x =>
 (if !x then
  some true
 else
  (zC e_).bind fun x1 =>
  some (!x1)).bind fun t =>
 if t then
  some 0
 else
  ck (Zaf (e_ - d)) <|
  ck (Zaf ((e_ - d) + 4)) <|
  ck ((0:Int)≤(((e_ - d) + 4).tmod 4)∧(((e_ - d) + 4).tmod 4) < 4) <|
  some ((⟨0,1,(-2),(-1)⟩:A4 Int).get (((e_ - d) + 4).tmod 4))

/-! muntin/face.Turns -/
def zQ.s0 (cells:List Za) (f:List Zj):(List Int) × Int→Option (((List Int) × Int) ⊕ (List Int)):=fun (l,x1) =>
 if decide (x1 < (f.length:Int)) then
  ck ((0:Int)≤x1∧x1 < (f.length:Int)) <|
  (zD (gi f x1.toNat) cells).bind fun x2 =>
  if x2 then
   (ZZ (gi f x1.toNat) cells).bind fun x3 =>
   (Zaz ((gi f x1.toNat).Dir) x3.Dir).bind fun x4 =>
   ck ((0:Int)≤x1∧x1 < (l.length:Int)) <|
   ck (Zaf (x1 + 1)) <|
   some (.inl (l.set x1.toNat x4,x1 + 1))
  else
   ck (Zaf (x1 + 1)) <|
   some (.inl (l,x1 + 1))
 else
  some (.inr l)

def zQ (cells:List Za) (f:List Zj):Option (List Int) :=
 ck ((0:Int)≤(f.length:Int)∧(f.length:Int)≤1000000000) <|
 (ZX cells).bind fun x =>
 if !(decide (x = 0)) then
  some (List.replicate ((f.length:Int):Int).toNat (0:Int))
 else
  (ZY (zQ.s0 cells f) big (List.replicate ((f.length:Int):Int).toNat (0:Int),0)).bind fun l1 =>
  some l1

/-! muntin/face.Rotation -/
def zz.s0 (turns:List Int):Int × Int→Option ((Int × Int) ⊕ Int):=fun (n,x) =>
 if decide (x < (turns.length:Int)) then
  ck ((0:Int)≤x∧x < (turns.length:Int)) <|
  if (decide ((-2)≤(gi turns x.toNat))) && (decide ((gi turns x.toNat)≤1)) then
   ck (Zaf (n + (gi turns x.toNat))) <|
   ck (Zaf (x + 1)) <|
   some (.inl (n + (gi turns x.toNat),x + 1))
  else
   ck (Zaf (x + 1)) <|
   some (.inl (n,x + 1))
 else
  some (.inr n)

def zz (turns:List Int):Option Int :=
 (ZY (zz.s0 turns) big (0,0)).bind fun n1 =>
 some n1

/-! muntin/valid.outer -/
def zw.s0 (cells:List Za) (x:List (List Zj)):Int × Int→Option ((Int × Int) ⊕ (Int ⊕ Unit)):=fun (at_,x2) =>
 if decide (x2 < (x.length:Int)) then
  ck ((0:Int)≤x2∧x2 < (x.length:Int)) <|
  (zQ cells (gi x x2.toNat)).bind fun x3 =>
  (zz x3).bind fun x4 =>
  if decide (x4 = 4) then
   ck (Zaf (x2 + 1)) <|
   some (.inl (at_,x2 + 1))
  else
   if decide (x4 = (-4)) then
    if decide (0≤at_) then
     some (.inr (.inr ()))
    else
     ck (Zaf (x2 + 1)) <|
     some (.inl (x2,x2 + 1))
   else
    some (.inr (.inr ()))
 else
  some (.inr (.inl at_))

def zw (cells:List Za):Option (Int × Bool) :=
 (zd cells).bind fun (x,x1) =>
 (
  ZY (zw.s0 cells x) big ((-1),0):Option (Int ⊕ Unit)).bind fun o₁=>match o₁ with
 | .inl at_1 =>
  some (at_1,decide (0≤at_1))
 | .inr _ =>
  some (0,false)

/-! muntin/valid.Check -/
def zo (cells:List Za):Option Int :=
 (ZX cells).bind fun x =>
 if !(decide (x = 0)) then
  some x
 else
  (ZaG cells).bind fun x1 =>
  if !x1 then
   some 13
  else
   (zw cells).bind fun (x2,x3) =>
   if (!x3) && (decide (1 < (cells.length:Int))) then
    some 10
   else
    some 0

/-! muntin/valid.Outer -/
def Za5 (cells:List Za):Option (Int × Int) :=
 (zo cells).bind fun x =>
 if !(decide (x = 0)) then
  some (0,x)
 else
  (zw cells).bind fun (x1,x2) =>
  if !x2 then
   some (0,2)
  else
   some (x1,0)

/-! muntin/muntinlaw14.wakes -/
def Zal:Option Bool :=
 (zN ).bind fun x =>
 (Za5 x).bind fun (x1,x2) =>
 (ZE 1).bind fun x3 =>
 (Za5 x3).bind fun (x4,x5) =>
 (zN ).bind fun x6 =>
 (zo x6).bind fun x7 =>
 (if ((decide (x7 = 0)) && (decide (x1 = 1))) && (decide (x2 = 0)) then
  (ZE 1).bind fun x8 =>
  (zo x8).bind fun x9 =>
  some (decide (x9 = 0))
 else
  some false).bind fun t =>
 (if t && (decide (x5 = 2)) then
  (ZE 2).bind fun x10 =>
  (zo x10).bind fun x11 =>
  some (decide (x11 = 13))
 else
  some false).bind fun t1 =>
 (if t1 then
  (zo ([]:List Za)).bind fun x12 =>
  some (decide (x12 = 13))
 else
  some false).bind fun t2 =>
 some t2

/-! muntin/muntinlaw14.ValidPlane -/
def zF (z:ZQ):Option Bool :=
 (Z1 z 20).bind fun (x,x1) =>
 (ZK x).bind fun x2 =>
 (
  if !(decide ((x2.length:Int) = 1)) then
   some 13
  else
   some 0).bind fun want =>
 (Zal ).bind fun x3 =>
 (if x3 then
  (zo x).bind fun x4 =>
  some (decide (x4 = want))
 else
  some false).bind fun t =>
 some t

end Mu
