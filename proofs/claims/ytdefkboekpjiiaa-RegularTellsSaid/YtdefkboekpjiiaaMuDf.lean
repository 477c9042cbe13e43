/- What the functions work out. -/
import Derived.Test.YtdefkboekpjiiaaMuA
import Derived.Test.YtdefkboekpjiiaaMuR
set_option linter.unusedVariables false
set_option linter.unnecessarySimpa false
set_option linter.unusedSimpArgs false
set_option maxHeartbeats 2000000
set_option maxRecDepth 10000
namespace Mu
open Go (IntKind BinOp UnOp)
structure Za1 where
 At:List Int
 Bits:List Int
 Own:List Int
 deriving DecidableEq,Inhabited
structure ZbB where
 Boxes:List Bool
 Edges:List (A3 Int)
 Bends:List Int
 deriving DecidableEq,Inhabited
structure Za where
 Next:A4 Int
 Owner:A4 Int
 deriving DecidableEq,Inhabited
structure ZcB where
 Places:Za1
 Shape:ZbB
 Raw:List Za
 Picks:List Bool
 deriving DecidableEq,Inhabited
abbrev ZhA:Enc Int:=⟨1,fun x=>[.i .u8 x],fun _=>rfl⟩
theorem ZhA.one (x:Int):(ZhA.c x).all V.one=true:=rfl
abbrev Zln:Enc Int:=⟨1,fun x=>[.i .i8 x],fun _=>rfl⟩
theorem Zln.one (x:Int):(Zln.c x).all V.one=true:=rfl
abbrev e_bool:Enc Bool:=⟨1,fun x=>[.b x],fun _=>rfl⟩
theorem e_bool.one (x:Bool):(e_bool.c x).all V.one=true:=rfl
abbrev Zgv:Enc (A3 Int):=⟨3,fun x=>[.i .u8 x.a,.i .u8 x.b,.i .u8 x.c],fun _=>rfl⟩
theorem Zgv.one (x:A3 Int):(Zgv.c x).all V.one=true:=rfl
abbrev Zd:Enc Za:=⟨8,fun x=>[.i .i64 x.Next.a,.i .i64 x.Next.b,.i .i64 x.Next.c,.i .i64 x.Next.d,.i .i64 x.Owner.a,.i .i64 x.Owner.b,.i .i64 x.Owner.c,.i .i64 x.Owner.d],fun _=>rfl⟩
theorem Zd.one (x:Za):(Zd.c x).all V.one=true:=rfl
theorem Zd.same (x y:Za):ZaS [.i,.i,.i,.i,.i,.i,.i,.i] (Zd.c x) (Zd.c y)=some (decide (x=y)):=by
 obtain ⟨⟨x1,x2,x3,x4⟩,⟨x5,x6,x7,x8⟩⟩:=x
 obtain ⟨⟨y1,y2,y3,y4⟩,⟨y5,y6,y7,y8⟩⟩:=y
 refine (ZcL (ZcL (ZcL (ZcL (ZcL (ZcL (ZcL (ZcL Zgt)))))))).trans ?_
 congr 1
 rw [Bool.eq_iff_iff]
 simp [and_assoc]
structure ZD where
 X:Int
 Y:Int
 deriving DecidableEq,Inhabited
abbrev ZH:Enc ZD:=⟨2,fun x=>[.i .i64 x.X,.i .i64 x.Y],fun _=>rfl⟩
theorem ZH.one (x:ZD):(ZH.c x).all V.one=true:=rfl
theorem ZH.same (x y:ZD):ZaS [.i,.i] (ZH.c x) (ZH.c y)=some (decide (x=y)):=by
 obtain ⟨x1,x2⟩:=x
 obtain ⟨y1,y2⟩:=y
 refine (ZcL (ZcL Zgt)).trans ?_
 congr 1
 rw [Bool.eq_iff_iff]
 simp [and_assoc]
structure ZaO where
 From:Int
 To:Int
 Dir:Int
 Bends:ByteArray
 deriving DecidableEq,Inhabited
abbrev z1:Enc ZaO:=⟨4,fun x=>[.i .i64 x.From,.i .i64 x.To,.i .i64 x.Dir,.s x.Bends],fun _=>rfl⟩
theorem z1.one (x:ZaO):(z1.c x).all V.one=true:=rfl
structure Zac where
 Boxes:List Bool
 Edges:List ZaO
 deriving DecidableEq,Inhabited
structure ZF where
 Cell:Int
 Dir:Int
 deriving DecidableEq,Inhabited
abbrev Z2:Enc ZF:=⟨2,fun x=>[.i .i64 x.Cell,.i .i64 x.Dir],fun _=>rfl⟩
theorem Z2.one (x:ZF):(Z2.c x).all V.one=true:=rfl
theorem Z2.same (x y:ZF):ZaS [.i,.i] (Z2.c x) (Z2.c y)=some (decide (x=y)):=by
 obtain ⟨x1,x2⟩:=x
 obtain ⟨y1,y2⟩:=y
 refine (ZcL (ZcL Zgt)).trans ?_
 congr 1
 rw [Bool.eq_iff_iff]
 simp [and_assoc]
abbrev Zdk:Enc (A4 Int):=⟨4,fun x=>[.i .i64 x.a,.i .i64 x.b,.i .i64 x.c,.i .i64 x.d],fun _=>rfl⟩
theorem Zdk.one (x:A4 Int):(Zdk.c x).all V.one=true:=rfl
structure Zbe where
 cells:List Za
 deriving DecidableEq,Inhabited
structure ZA where
 At:Int
 Part:Int
 deriving DecidableEq,Inhabited
abbrev Z6:Enc ZA:=⟨2,fun x=>[.i .i64 x.At,.i .i64 x.Part],fun _=>rfl⟩
theorem Z6.one (x:ZA):(Z6.c x).all V.one=true:=rfl
structure Zz where
 Cell:Int
 Dir:Int
 deriving DecidableEq,Inhabited
abbrev Zl:Enc Zz:=⟨2,fun x=>[.i .i64 x.Cell,.i .i64 x.Dir],fun _=>rfl⟩
theorem Zl.one (x:Zz):(Zl.c x).all V.one=true:=rfl
structure Zq where
 At:Int
 Part:Int
 deriving DecidableEq,Inhabited
abbrev Zm:Enc Zq:=⟨2,fun x=>[.i .i64 x.At,.i .i64 x.Part],fun _=>rfl⟩
theorem Zm.one (x:Zq):(Zm.c x).all V.one=true:=rfl
abbrev Zbf:Enc (A2 Int):=⟨2,fun x=>[.i .i64 x.a,.i .i64 x.b],fun _=>rfl⟩
theorem Zbf.one (x:A2 Int):(Zbf.c x).all V.one=true:=rfl
structure Zbb where
 Cells:List Za
 First:List Int
 Ends:List (A2 Int)
 Ways:List (List Int)
 deriving DecidableEq,Inhabited
def Zg0 (x:Int):Prop:=Wf .u8 x
def Zk9 (x:Int):Prop:=Wf .i8 x
def ZgI (x:Bool):Prop:=True
def ZgH (x:A3 Int):Prop:=Wf .u8 x.a∧Wf .u8 x.b∧Wf .u8 x.c
def Zfo (x:Za):Prop:=Wf .i64 x.Next.a∧Wf .i64 x.Next.b∧Wf .i64 x.Next.c∧Wf .i64 x.Next.d∧Wf .i64 x.Owner.a∧Wf .i64 x.Owner.b∧Wf .i64 x.Owner.c∧Wf .i64 x.Owner.d
/-! muntin/muntinref10.New -/
def zk.s1 (v:Int):(List Za) × Int→Option (((List Za) × Int) ⊕ (List Za)):=fun (l2,d) =>
 if decide (d < 4) then
  ck ((0:Int)≤v∧v < (l2.length:Int)) <|
  ck ((0:Int)≤d∧d < 4) <|
  ck (zU (d + 1)) <|
  some (.inl (l2.set v.toNat ({ gi l2 v.toNat with Next:=((gi l2 v.toNat).Next).set d (-1) }),d + 1))
 else
  some (.inr l2)

def zk.s0 (n:Int):(List Za) × Int→Option (((List Za) × Int) ⊕ (List Za)):=fun (l,v) =>
 if decide (v < n) then
  (ZL (zk.s1 v) big (l,0)).bind fun l3 =>
  ck (zU (v + 1)) <|
  some (.inl (l3,v + 1))
 else
  some (.inr l)

def zk (n:Int):Option (List Za) :=
 ck ((0:Int)≤n∧n≤1000000000) <|
 (ZL (zk.s0 n) big (List.replicate n.toNat (⟨⟨0,0,0,0⟩,⟨0,0,0,0⟩⟩:Za),0)).bind fun l1 =>
 some l1

/-! muntin/muntinref10.Nearest -/
def zn.s0 (at_:List ZD) (i:Int) (d:Int):Int × Int→Option ((Int × Int) ⊕ Int):=fun (best,k_) =>
 if decide (k_ < (at_.length:Int)) then
  (if decide (d=0) then
   ck ((0:Int)≤k_∧k_ < (at_.length:Int)) <|
   ck ((0:Int)≤i∧i < (at_.length:Int)) <|
   some (decide ((gi at_ k_.toNat).Y=(gi at_ i.toNat).Y))
  else
   some false).bind fun t =>
  (if t then
   ck ((0:Int)≤k_∧k_ < (at_.length:Int)) <|
   ck ((0:Int)≤i∧i < (at_.length:Int)) <|
   some (decide (((gi at_ i.toNat).X) < ((gi at_ k_.toNat).X)))
  else
   some false).bind fun t1 =>
  (if t1 then
   (if decide (best < 0) then
    some true
   else
    ck ((0:Int)≤k_∧k_ < (at_.length:Int)) <|
    ck ((0:Int)≤best∧best < (at_.length:Int)) <|
    some (decide (((gi at_ k_.toNat).X) < ((gi at_ best.toNat).X)))).bind fun t3 =>
   some t3
  else
   some false).bind fun t2 =>
  (
   if t2 then
    some k_
   else
    some best).bind fun best2 =>
  (if decide (d=1) then
   ck ((0:Int)≤k_∧k_ < (at_.length:Int)) <|
   ck ((0:Int)≤i∧i < (at_.length:Int)) <|
   some (decide ((gi at_ k_.toNat).X=(gi at_ i.toNat).X))
  else
   some false).bind fun t4 =>
  (if t4 then
   ck ((0:Int)≤k_∧k_ < (at_.length:Int)) <|
   ck ((0:Int)≤i∧i < (at_.length:Int)) <|
   some (decide (((gi at_ i.toNat).Y) < ((gi at_ k_.toNat).Y)))
  else
   some false).bind fun t5 =>
  (if t5 then
   (if decide (best2 < 0) then
    some true
   else
    ck ((0:Int)≤k_∧k_ < (at_.length:Int)) <|
    ck ((0:Int)≤best2∧best2 < (at_.length:Int)) <|
    some (decide (((gi at_ k_.toNat).Y) < ((gi at_ best2.toNat).Y)))).bind fun t7 =>
   some t7
  else
   some false).bind fun t6 =>
  if t6 then
   ck (zU (k_ + 1)) <|
   some (.inl (k_,k_ + 1))
  else
   ck (zU (k_ + 1)) <|
   some (.inl (best2,k_ + 1))
 else
  some (.inr best)

def zn (at_:List ZD) (i:Int) (d:Int):Option Int :=
 (ZL (zn.s0 at_ i d) big ((-1),0)).bind fun best1 =>
 some best1

/-! muntin/muntinref10.Crossed -/
def zm.s1 (at_:List ZD) (l:List Za) (i:Int) (w:Int) (a:Int):Int→Option (Int ⊕ (Unit ⊕ Unit)):=fun d =>
 if decide (d < 2) then
  ck ((0:Int)≤a∧a < (l.length:Int)) <|
  ck ((0:Int)≤d∧d < 4) <|
  if decide ((((gi l a.toNat).Next).get d) < 0) then
   ck (zU (d + 1)) <|
   some (.inl (d + 1))
  else
   ck ((0:Int)≤a∧a < (at_.length:Int)) <|
   ck ((0:Int)≤(((gi l a.toNat).Next).get d)∧(((gi l a.toNat).Next).get d) < (at_.length:Int)) <|
   (if decide ((gi at_ a.toNat).Y=(gi at_ (((gi l a.toNat).Next).get d:Int).toNat).Y) then
    ck ((0:Int)≤i∧i < (at_.length:Int)) <|
    ck ((0:Int)≤w∧w < (at_.length:Int)) <|
    some (decide ((gi at_ i.toNat).X=(gi at_ w.toNat).X))
   else
    some false).bind fun t =>
   (if t then
    ck ((0:Int)≤i∧i < (at_.length:Int)) <|
    some (decide (((gi at_ a.toNat).X) < ((gi at_ i.toNat).X)))
   else
    some false).bind fun t1 =>
   (if t1 then
    ck ((0:Int)≤i∧i < (at_.length:Int)) <|
    some (decide (((gi at_ i.toNat).X) < ((gi at_ (((gi l a.toNat).Next).get d:Int).toNat).X)))
   else
    some false).bind fun t2 =>
   (if t2 then
    ck ((0:Int)≤i∧i < (at_.length:Int)) <|
    some (decide (((gi at_ i.toNat).Y) < ((gi at_ a.toNat).Y)))
   else
    some false).bind fun t3 =>
   (if t3 then
    ck ((0:Int)≤w∧w < (at_.length:Int)) <|
    some (decide (((gi at_ a.toNat).Y) < ((gi at_ w.toNat).Y)))
   else
    some false).bind fun t4 =>
   if t4 then
    some (.inr (.inr ()))
   else
    (if decide ((gi at_ a.toNat).X=(gi at_ (((gi l a.toNat).Next).get d:Int).toNat).X) then
     ck ((0:Int)≤i∧i < (at_.length:Int)) <|
     ck ((0:Int)≤w∧w < (at_.length:Int)) <|
     some (decide ((gi at_ i.toNat).Y=(gi at_ w.toNat).Y))
    else
     some false).bind fun t5 =>
    (if t5 then
     ck ((0:Int)≤i∧i < (at_.length:Int)) <|
     some (decide (((gi at_ i.toNat).X) < ((gi at_ a.toNat).X)))
    else
     some false).bind fun t6 =>
    (if t6 then
     ck ((0:Int)≤w∧w < (at_.length:Int)) <|
     some (decide (((gi at_ a.toNat).X) < ((gi at_ w.toNat).X)))
    else
     some false).bind fun t7 =>
    (if t7 then
     ck ((0:Int)≤i∧i < (at_.length:Int)) <|
     some (decide (((gi at_ a.toNat).Y) < ((gi at_ i.toNat).Y)))
    else
     some false).bind fun t8 =>
    (if t8 then
     ck ((0:Int)≤i∧i < (at_.length:Int)) <|
     some (decide (((gi at_ i.toNat).Y) < ((gi at_ (((gi l a.toNat).Next).get d:Int).toNat).Y)))
    else
     some false).bind fun t9 =>
    if t9 then
     some (.inr (.inr ()))
    else
     ck (zU (d + 1)) <|
     some (.inl (d + 1))
 else
  some (.inr (.inl ()))

def zm.s0 (at_:List ZD) (l:List Za) (i:Int) (w:Int):Int→Option (Int ⊕ (Unit ⊕ Unit)):=fun a =>
 if decide (a < (l.length:Int)) then
  (
   ZL (zm.s1 at_ l i w a) big 0:Option (Unit ⊕ Unit)).bind fun o₃=>match o₃ with
  | .inl _ =>
   ck (zU (a + 1)) <|
   some (.inl (a + 1))
  | .inr _ =>
   some (.inr (.inr ()))
 else
  some (.inr (.inl ()))

def zm (at_:List ZD) (l:List Za) (i:Int) (w:Int):Option Bool :=
 (
  ZL (zm.s0 at_ l i w) big 0:Option (Unit ⊕ Unit)).bind fun o₁=>match o₁ with
 | .inl _ =>
  some false
 | .inr _ =>
  some true

/-! muntin/muntinref10.with -/
def ZaB.s0 (l:List Za) (v:Int) (d:Int) (w:Int) (o:Int):(List Za) × Int→Option (((List Za) × Int) ⊕ (List Za)):=fun (out,i) =>
 if decide (i < (l.length:Int)) then
  ck ((0:Int)≤i∧i < (l.length:Int)) <|
  (
   if decide (i=v) then
    ck ((0:Int)≤d∧d < 4) <|
    some ({ { gi l i.toNat with Next:=((gi l i.toNat).Next).set d w } with Owner:=(({ gi l i.toNat with Next:=((gi l i.toNat).Next).set d w }).Owner).set d o })
   else
    some (gi l i.toNat)).bind fun c =>
  if decide (i=w) then
   ck (zU (d + 2)) <|
   ck ((0:Int)≤((d + 2).tmod 4)∧((d + 2).tmod 4) < 4) <|
   ck (out.length + [{ { c with Next:=c.Next.set ((d + 2).tmod 4) v } with Owner:=(({ c with Next:=c.Next.set ((d + 2).tmod 4) v }).Owner).set ((d + 2).tmod 4) o }].length≤1000000000) <|
   ck (zU (i + 1)) <|
   some (.inl (out++[{ { c with Next:=c.Next.set ((d + 2).tmod 4) v } with Owner:=(({ c with Next:=c.Next.set ((d + 2).tmod 4) v }).Owner).set ((d + 2).tmod 4) o }],i + 1))
  else
   ck (out.length + [c].length≤1000000000) <|
   ck (zU (i + 1)) <|
   some (.inl (out++[c],i + 1))
 else
  some (.inr out)

def ZaB (l:List Za) (v:Int) (d:Int) (w:Int) (o:Int):Option (List Za) :=
 (ZL (ZaB.s0 l v d w o) big (([]:List Za),0)).bind fun out1 =>
 some out1

/-! muntin/muntinref10.Make -/
def ZV.s1 (z:Za1) (at_:List ZD) (i:Int):Bool × Int→Option ((Bool × Int) ⊕ ((List ZD) × Bool)):=fun (met,k_) =>
 if decide (k_ < (at_.length:Int)) then
  (if met then
   some true
  else
   ck ((0:Int)≤k_∧k_ < (at_.length:Int)) <|
   some (decide (gi at_ k_.toNat=(⟨(gi z.At i.toNat).tmod 8,((gi z.At i.toNat).tdiv 8).tmod 8⟩:ZD)))).bind fun t =>
  ck (zU (k_ + 1)) <|
  some (.inl (t,k_ + 1))
 else
  some (.inr (at_,met))

def ZV.s0 (z:Za1) (most:Int):(List ZD) × Int→Option (((List ZD) × Int) ⊕ (List ZD)):=fun (at_,i) =>
 if (decide (i < (z.At.length:Int))) && (decide ((at_.length:Int) < most)) then
  ck ((0:Int)≤i∧i < (z.At.length:Int)) <|
  ck (inK .i64 (gi z.At i.toNat)) <|
  ck ((8:Int)≠0∧zU ((gi z.At i.toNat).tdiv 8)) <|
  (ZL (ZV.s1 z at_ i) big (false,0)).bind fun (at_2,met1) =>
  if !met1 then
   ck (at_2.length + [(⟨(gi z.At i.toNat).tmod 8,((gi z.At i.toNat).tdiv 8).tmod 8⟩:ZD)].length≤1000000000) <|
   ck (zU (i + 1)) <|
   some (.inl (at_2++[(⟨(gi z.At i.toNat).tmod 8,((gi z.At i.toNat).tdiv 8).tmod 8⟩:ZD)],i + 1))
  else
   ck (zU (i + 1)) <|
   some (.inl (at_2,i + 1))
 else
  some (.inr at_)

def ZV.s3 (i1:Int) (bits:Int) (at_6:List ZD) (own:Int):(List Za) × Int→Option (((List Za) × Int) ⊕ (List Za)):=fun (l4,d) =>
 if decide (d < 2) then
  (zn at_6 i1 d).bind fun x1 =>
  ck ((0:Int)≤d) <|
  if (decide (ZM .u8 (zL .u8 bits d) 1=0)) || (decide (x1 < 0)) then
   ck (zU (d + 1)) <|
   some (.inl (l4,d + 1))
  else
   (zm at_6 l4 i1 x1).bind fun x2 =>
   if !x2 then
    (ZaB l4 i1 d x1 own).bind fun x3 =>
    ck (zU (d + 1)) <|
    some (.inl (x3,d + 1))
   else
    ck (zU (d + 1)) <|
    some (.inl (l4,d + 1))
 else
  some (.inr l4)

def ZV.s2 (z:Za1):(List ZD) × (List Za) × Int→Option (((List ZD) × (List Za) × Int) ⊕ ((List ZD) × (List Za))):=fun (at_3,l,i1) =>
 if decide (i1 < (at_3.length:Int)) then
  (
   if decide (i1 < (z.Bits.length:Int)) then
    ck ((0:Int)≤i1∧i1 < (z.Bits.length:Int)) <|
    some (at_3,l,gi z.Bits i1.toNat)
   else
    some (at_3,l,3)).bind fun (at_5,l2,bits) =>
  (
   if decide (i1 < (z.Own.length:Int)) then
    ck ((0:Int)≤i1∧i1 < (z.Own.length:Int)) <|
    ck (inK .i64 (gi z.Own i1.toNat)) <|
    if decide ((gi z.Own i1.toNat) < (-2)) then
     ck (zU (-(gi z.Own i1.toNat))) <|
     some (at_5,l2,-(gi z.Own i1.toNat))
    else
     some (at_5,l2,gi z.Own i1.toNat)
   else
    some (at_5,l2,i1)).bind fun (at_6,l3,own) =>
  (ZL (ZV.s3 i1 bits at_6 own) big (l3,0)).bind fun l5 =>
  ck (zU (i1 + 1)) <|
  some (.inl (at_6,l5,i1 + 1))
 else
  some (.inr (at_3,l))

def ZV (z:Za1) (most:Int):Option ((List Za) × (List ZD)) :=
 (ZL (ZV.s0 z most) big (([]:List ZD),0)).bind fun at_1 =>
 (zk (at_1.length:Int)).bind fun x =>
 (ZL (ZV.s2 z) big (at_1,x,0)).bind fun (at_4,l1) =>
 some (l1,at_4)

/-! muntin/muntinref08.Make -/
def zQ.s0 (z:ZbB) (most:Int):(List Bool) × Int→Option (((List Bool) × Int) ⊕ (List Bool)):=fun (s,i) =>
 if (decide (i < (z.Boxes.length:Int))) && (decide (i < most)) then
  ck ((0:Int)≤i∧i < (z.Boxes.length:Int)) <|
  ck (s.length + [gi z.Boxes i.toNat].length≤1000000000) <|
  ck (zU (i + 1)) <|
  some (.inl (s++[gi z.Boxes i.toNat],i + 1))
 else
  some (.inr s)

def zQ.s2 (z:ZbB) (i1:Int):ZaO × Int→Option ((ZaO × Int) ⊕ ZaO):=fun (e_1,k_) =>
 ck ((0:Int)≤i1∧i1 < (z.Bends.length:Int)) <|
 ck (inK .i64 (gi z.Bends i1.toNat)) <|
 if decide (k_ < ((gi z.Bends i1.toNat).tmod 4)) then
  ck (zU (2 + k_)) <|
  ck ((0:Int)≤(2 + k_)) <|
  if decide (ZM .u8 (zL .u8 (gi z.Bends i1.toNat) (2 + k_)) 1=1) then
   ck (e_1.Bends.size + (⟨#[76]⟩:ByteArray).size≤1000000000000) <|
   ck (zU (k_ + 1)) <|
   some (.inl ({ e_1 with Bends:=e_1.Bends++(⟨#[76]⟩:ByteArray) },k_ + 1))
  else
   ck (e_1.Bends.size + (⟨#[82]⟩:ByteArray).size≤1000000000000) <|
   ck (zU (k_ + 1)) <|
   some (.inl ({ e_1 with Bends:=e_1.Bends++(⟨#[82]⟩:ByteArray) },k_ + 1))
 else
  some (.inr e_1)

def zQ.s1 (z:ZbB) (most:Int) (s1:List Bool):(List ZaO) × Int→Option (((List ZaO) × Int) ⊕ (List ZaO)):=fun (s2,i1) =>
 (if decide (i1 < (z.Edges.length:Int)) then
  ck (zU (2 * most)) <|
  some (decide (i1 < (2 * most)))
 else
  some false).bind fun t =>
 if t && (decide (0 < (s1.length:Int))) then
  ck ((0:Int)≤i1∧i1 < (z.Edges.length:Int)) <|
  ck (inK .i64 ((gi z.Edges i1.toNat).get 0)) <|
  ck (((s1.length:Int):Int)≠0) <|
  ck (inK .i64 ((gi z.Edges i1.toNat).get 1)) <|
  ck (inK .i64 ((gi z.Edges i1.toNat).get 2)) <|
  (
   if decide (i1 < (z.Bends.length:Int)) then
    (ZL (zQ.s2 z i1) big ((⟨((gi z.Edges i1.toNat).get 0).tmod (s1.length:Int),((gi z.Edges i1.toNat).get 1).tmod (s1.length:Int),((gi z.Edges i1.toNat).get 2).tmod 4,(⟨#[]⟩:ByteArray)⟩:ZaO),0)).bind fun e_2 =>
    some e_2
   else
    some (⟨((gi z.Edges i1.toNat).get 0).tmod (s1.length:Int),((gi z.Edges i1.toNat).get 1).tmod (s1.length:Int),((gi z.Edges i1.toNat).get 2).tmod 4,(⟨#[]⟩:ByteArray)⟩:ZaO)).bind fun e_ =>
  ck (s2.length + [e_].length≤1000000000) <|
  ck (zU (i1 + 1)) <|
  some (.inl (s2++[e_],i1 + 1))
 else
  some (.inr s2)

def zQ (z:ZbB) (most:Int):Option Zac :=
 (ZL (zQ.s0 z most) big (([]:List Bool),0)).bind fun s1 =>
 (ZL (zQ.s1 z most s1) big (([]:List ZaO),0)).bind fun s3 =>
 some (⟨s1,s3⟩:Zac)

/-! muntin/muntinref10.Join -/
def zR (l:List Za) (v:Int) (d:Int) (w:Int) (o:Int):Option ((List Za) × Int) :=
 if (((((((decide (v < 0)) || (decide ((l.length:Int)≤v))) || (decide (w < 0))) || (decide ((l.length:Int)≤w))) || (decide (v=w))) || (decide (d < 0))) || (decide (3 < d))) || (decide (o < (-2))) then
  some (l,2)
 else
  ck ((0:Int)≤v∧v < (l.length:Int)) <|
  ck ((0:Int)≤d∧d < 4) <|
  (if !(decide (((gi l v.toNat).Next).get d=(-1))) then
   some true
  else
   ck (zU (d + 2)) <|
   ck ((0:Int)≤w∧w < (l.length:Int)) <|
   ck ((0:Int)≤((d + 2).tmod 4)∧((d + 2).tmod 4) < 4) <|
   some (!(decide (((gi l w.toNat).Next).get ((d + 2).tmod 4)=(-1))))).bind fun t =>
  if t then
   some (l,9)
  else
   (ZaB l v d w o).bind fun x =>
   some (x,0)

/-! muntin/muntinlaw22.plus -/
def Zb1.s0:(List Za) × Int→Option (((List Za) × Int) ⊕ (List Za)):=fun (l,x1) =>
 if decide (x1 < (([0,1,0,1,2,1,2,3,2,3,0,3]:List Int).length:Int)) then
  ck ((0:Int)≤x1∧x1 < (([0,1,0,1,2,1,2,3,2,3,0,3]:List Int).length:Int)) <|
  ck (zU (x1 + 1)) <|
  (zR l x1 (gi ([0,1,0,1,2,1,2,3,2,3,0,3]:List Int) x1.toNat) ((x1 + 1).tmod 12) 0).bind fun (x2,x3) =>
  some (.inl (x2,x1 + 1))
 else
  some (.inr l)

def Zb1:Option (List Za) :=
 (zk 12).bind fun x =>
 (ZL Zb1.s0 big (x,0)).bind fun l1 =>
 some l1

/-! muntin/compass.Good -/
def Zbp (d:Int):Option Bool :=
 some ((decide (0≤d)) && (decide (d≤3)))

/-! muntin/compass.Left -/
def Za6 (d:Int) (times:Int):Option Int :=
 (Zbp d).bind fun x =>
 if !x then
  some 0
 else
  ck (zU (d + (times.tmod 4))) <|
  ck (zU ((d + (times.tmod 4)) + 4)) <|
  some (((d + (times.tmod 4)) + 4).tmod 4)

/-! muntin/grid.side -/
def Zdo (cells:List Za) (v:Int) (d:Int):Option Int :=
 ck ((0:Int)≤v∧v < (cells.length:Int)) <|
 ck ((0:Int)≤d∧d < 4) <|
 if decide (((gi cells v.toNat).Next).get d=(-1)) then
  if !(decide (((gi cells v.toNat).Owner).get d=0)) then
   some 9
  else
   some 0
 else
  if ((decide ((((gi cells v.toNat).Next).get d) < 0)) || (decide ((cells.length:Int)≤(((gi cells v.toNat).Next).get d)))) || (decide (((gi cells v.toNat).Next).get d=v)) then
   some 3
  else
   (Za6 d 2).bind fun x =>
   ck ((0:Int)≤(((gi cells v.toNat).Next).get d)∧(((gi cells v.toNat).Next).get d) < (cells.length:Int)) <|
   ck ((0:Int)≤x∧x < 4) <|
   if ((!(decide (((gi cells (((gi cells v.toNat).Next).get d:Int).toNat).Next).get x=v))) || (!(decide (((gi cells (((gi cells v.toNat).Next).get d:Int).toNat).Owner).get x=((gi cells v.toNat).Owner).get d)))) || (decide ((((gi cells v.toNat).Owner).get d) < (-2))) then
    some 9
   else
    some 0

/-! muntin/grid.Check -/
def Zam.s1 (cells:List Za) (x:Int):Int→Option (Int ⊕ (Unit ⊕ Int)):=fun x2 =>
 if decide (x2 < 4) then
  (Zdo cells x x2).bind fun x4 =>
  if !(decide (x4=0)) then
   some (.inr (.inr x4))
  else
   ck (zU (x2 + 1)) <|
   some (.inl (x2 + 1))
 else
  some (.inr (.inl ()))

def Zam.s0 (cells:List Za):Int→Option (Int ⊕ (Unit ⊕ Int)):=fun x =>
 if decide (x < (cells.length:Int)) then
  (
   ZL (Zam.s1 cells x) big 0:Option (Unit ⊕ Int)).bind fun o₃=>match o₃ with
  | .inl _ =>
   ck (zU (x + 1)) <|
   some (.inl (x + 1))
  | .inr x3 =>
   some (.inr (.inr x3))
 else
  some (.inr (.inl ()))

def Zam (cells:List Za):Option Int :=
 if decide (4096 < (cells.length:Int)) then
  some 6
 else
  (
   ZL (Zam.s0 cells) big 0:Option (Unit ⊕ Int)).bind fun o₁=>match o₁ with
  | .inl _ =>
   some 0
  | .inr x1 =>
   some x1

/-! math/bits.Mul64 -/
def ZdS (x:Int) (y:Int):Option (Int × Int) :=
 some (Zb0 .u64 (Zb0 .u64 (Zaj .u64 (zL .u64 x 32) (zL .u64 y 32)) (zL .u64 (Zb0 .u64 (Zaj .u64 (zL .u64 x 32) (ZM .u64 y 4294967295)) (zL .u64 (Zaj .u64 (ZM .u64 x 4294967295) (ZM .u64 y 4294967295)) 32)) 32)) (zL .u64 (Zb0 .u64 (ZM .u64 (Zb0 .u64 (Zaj .u64 (zL .u64 x 32) (ZM .u64 y 4294967295)) (zL .u64 (Zaj .u64 (ZM .u64 x 4294967295) (ZM .u64 y 4294967295)) 32)) 4294967295) (Zaj .u64 (ZM .u64 x 4294967295) (zL .u64 y 32))) 32),Zaj .u64 x y)

/-! math/bits.Mul -/
def ZdA (x:Int) (y:Int):Option (Int × Int) :=
 (ZdS x y).bind fun (x1,x2) =>
 some (x1,x2)

/-! slices.Repeat[[]int,int] -/
def ZaD.s0:(List Int) × Int→Option (((List Int) × Int) ⊕ (List Int)):=fun (newslice,n) =>
 if decide (n < (newslice.length:Int)) then
  ck ((0:Int)≤n∧n≤(newslice.length:Int)) <|
  ck (zU (n + ((min (newslice.take n.toNat).length (newslice.drop n.toNat).length:Nat):Int))) <|
  some (.inl (newslice.take n.toNat++((newslice.take n.toNat).take (newslice.drop n.toNat).length++(newslice.drop n.toNat).drop (newslice.take n.toNat).length),n + ((min (newslice.take n.toNat).length (newslice.drop n.toNat).length:Nat):Int)))
 else
  some (.inr newslice)

def ZaD (x:List Int) (count:Int):Option (List Int) :=
 (
  if decide (count < 0) then
   none
  else
   some ()).bind fun _ =>
 ck (inK .u64 (x.length:Int)) <|
 ck (inK .u64 count) <|
 (ZdA (x.length:Int) count).bind fun (x1,x2) =>
 (
  if (decide (0 < x1)) || (decide (9223372036854775807 < x2)) then
   none
  else
   some ()).bind fun _ =>
 ck (inK .i64 x2) <|
 ck ((0:Int)≤x2∧x2≤1000000000) <|
 (ZL ZaD.s0 big (x.take (List.replicate x2.toNat (0:Int)).length++(List.replicate x2.toNat (0:Int)).drop x.length,((min x.length (List.replicate x2.toNat (0:Int)).length:Nat):Int))).bind fun newslice1 =>
 some newslice1

/-! muntin/join.spread -/
def Zba.s1 (cells:List Za) (l:List Int):(List Int) × (List Int) × (List Int) × (List Bool) × Int→Option (((List Int) × (List Int) × (List Int) × (List Bool) × Int) ⊕ ((List Int) × (List Int) × (List Int) × (List Bool))):=fun (from_2,dir2,l1,met1,x2) =>
 if decide (x2 < 4) then
  ck ((0:Int)≤(gi l (0:Int).toNat)∧(gi l (0:Int).toNat) < (cells.length:Int)) <|
  ck ((0:Int)≤x2∧x2 < 4) <|
  (if decide (0≤(((gi cells (gi l (0:Int).toNat:Int).toNat).Next).get x2)) then
   ck ((0:Int)≤(((gi cells (gi l (0:Int).toNat:Int).toNat).Next).get x2)∧(((gi cells (gi l (0:Int).toNat:Int).toNat).Next).get x2) < (met1.length:Int)) <|
   some (!(gi met1 (((gi cells (gi l (0:Int).toNat:Int).toNat).Next).get x2:Int).toNat))
  else
   some false).bind fun t =>
  if t then
   ck ((0:Int)≤(((gi cells (gi l (0:Int).toNat:Int).toNat).Next).get x2)∧(((gi cells (gi l (0:Int).toNat:Int).toNat).Next).get x2) < (met1.length:Int)) <|
   ck ((0:Int)≤(((gi cells (gi l (0:Int).toNat:Int).toNat).Next).get x2)∧(((gi cells (gi l (0:Int).toNat:Int).toNat).Next).get x2) < (from_2.length:Int)) <|
   ck ((0:Int)≤(((gi cells (gi l (0:Int).toNat:Int).toNat).Next).get x2)∧(((gi cells (gi l (0:Int).toNat:Int).toNat).Next).get x2) < (dir2.length:Int)) <|
   ck (l1.length + [((gi cells (gi l (0:Int).toNat:Int).toNat).Next).get x2].length≤1000000000) <|
   ck (zU (x2 + 1)) <|
   some (.inl (from_2.set (((gi cells (gi l (0:Int).toNat:Int).toNat).Next).get x2:Int).toNat (gi l (0:Int).toNat),dir2.set (((gi cells (gi l (0:Int).toNat:Int).toNat).Next).get x2:Int).toNat x2,l1++[((gi cells (gi l (0:Int).toNat:Int).toNat).Next).get x2],met1.set (((gi cells (gi l (0:Int).toNat:Int).toNat).Next).get x2:Int).toNat true,x2 + 1))
  else
   ck (zU (x2 + 1)) <|
   some (.inl (from_2,dir2,l1,met1,x2 + 1))
 else
  some (.inr (from_2,dir2,l1,met1))

def Zba.s0 (cells:List Za):(List Int) × (List Int) × (List Int) × (List Bool)→Option (((List Int) × (List Int) × (List Int) × (List Bool)) ⊕ ((List Int) × (List Int))):=fun (from_,dir,l,met) =>
 if decide (0 < (l.length:Int)) then
  ck ((0:Int)≤0∧0 < (l.length:Int)) <|
  ck ((0:Int)≤1∧1≤(l.length:Int)) <|
  (ZL (Zba.s1 cells l) big (from_,dir,l.drop (1:Int).toNat,met,0)).bind fun (from_3,dir3,l2,met2) =>
  some (.inl (from_3,dir3,l2,met2))
 else
  some (.inr (from_,dir))

def Zba (cells:List Za) (v:Int):Option ((List Int) × (List Int)) :=
 (ZaD ([(-1)]:List Int) (cells.length:Int)).bind fun x =>
 (ZaD ([(-1)]:List Int) (cells.length:Int)).bind fun x1 =>
 ck ((0:Int)≤(cells.length:Int)∧(cells.length:Int)≤1000000000) <|
 ck ((0:Int)≤v∧v < ((List.replicate ((cells.length:Int):Int).toNat false).length:Int)) <|
 (ZL (Zba.s0 cells) big (x,x1,[v],(List.replicate ((cells.length:Int):Int).toNat false).set v.toNat true)).bind fun (from_1,dir1) =>
 some (from_1,dir1)

/-! muntin/join.Parts -/
def Zbj.s1 (cells:List Za) (x1:Int) (x3:List Int):(List Bool) × (List Int) × Int→Option (((List Bool) × (List Int) × Int) ⊕ ((List Bool) × (List Int))):=fun (met1,part,x4) =>
 if decide (x4 < (cells.length:Int)) then
  (if decide (x4=x1) then
   some true
  else
   ck ((0:Int)≤x4∧x4 < (x3.length:Int)) <|
   some (decide (0≤(gi x3 x4.toNat)))).bind fun t =>
  if t then
   ck ((0:Int)≤x4∧x4 < (met1.length:Int)) <|
   ck (part.length + [x4].length≤1000000000) <|
   ck (zU (x4 + 1)) <|
   some (.inl (met1.set x4.toNat true,part++[x4],x4 + 1))
  else
   ck (zU (x4 + 1)) <|
   some (.inl (met1,part,x4 + 1))
 else
  some (.inr (met1,part))

def Zbj.s0 (cells:List Za):(List (List Int)) × (List Bool) × Int→Option (((List (List Int)) × (List Bool) × Int) ⊕ (List (List Int))):=fun (l,met,x1) =>
 if decide (x1 < (cells.length:Int)) then
  ck ((0:Int)≤x1∧x1 < (met.length:Int)) <|
  if gi met x1.toNat then
   ck (zU (x1 + 1)) <|
   some (.inl (l,met,x1 + 1))
  else
   (Zba cells x1).bind fun (x2,x3) =>
   (ZL (Zbj.s1 cells x1 x3) big (met,[],0)).bind fun (met2,part1) =>
   ck (l.length + 1≤1000000000) <|
   ck (zU (x1 + 1)) <|
   some (.inl (l++[part1],met2,x1 + 1))
 else
  some (.inr l)

def Zbj (cells:List Za):Option ((List (List Int)) × Int) :=
 (Zam cells).bind fun x =>
 if !(decide (x=0)) then
  some (([]:List (List Int)),x)
 else
  ck ((0:Int)≤(cells.length:Int)∧(cells.length:Int)≤1000000000) <|
  (ZL (Zbj.s0 cells) big (([]:List (List Int)),List.replicate ((cells.length:Int):Int).toNat false,0)).bind fun l1 =>
  some (l1,0)

/-! muntin/join.Whole -/
def ZcZ (cells:List Za):Option Bool :=
 (Zbj cells).bind fun (x,x1) =>
 some ((decide (x1=0)) && (decide ((x.length:Int)=1)))

/-! (muntin/face.Dart).is -/
def ZbJ (d:ZF) (cells:List Za):Option Bool :=
 if decide (0≤d.Cell) then
  if decide (d.Cell < (cells.length:Int)) then
   (Zbp d.Dir).bind fun x =>
   if x then
    ck ((0:Int)≤d.Cell∧d.Cell < (cells.length:Int)) <|
    ck ((0:Int)≤d.Dir∧d.Dir < 4) <|
    some (decide (0≤(((gi cells (d.Cell:Int).toNat).Next).get d.Dir)))
   else
    some false
  else
   some false
 else
  some false

/-! (muntin/face.Dart).behind -/
def ZaA.s0 (d:ZF) (cells:List Za):Int→Option (Int ⊕ (Unit ⊕ ZF)):=fun x =>
 if decide (x < 4) then
  ck ((0:Int)≤x∧x < 4) <|
  (Za6 d.Dir ((⟨1,0,(-1),2⟩:A4 Int).get x)).bind fun x2 =>
  (ZbJ (⟨((gi cells (d.Cell:Int).toNat).Next).get d.Dir,x2⟩:ZF) cells).bind fun x3 =>
  if x3 then
   some (.inr (.inr (⟨((gi cells (d.Cell:Int).toNat).Next).get d.Dir,x2⟩:ZF)))
  else
   ck (zU (x + 1)) <|
   some (.inl (x + 1))
 else
  some (.inr (.inl ()))

def ZaA (d:ZF) (cells:List Za):Option ZF :=
 ck ((0:Int)≤d.Cell∧d.Cell < (cells.length:Int)) <|
 ck ((0:Int)≤d.Dir∧d.Dir < 4) <|
 (
  ZL (ZaA.s0 d cells) big 0:Option (Unit ⊕ ZF)).bind fun o₁=>match o₁ with
 | .inl _ =>
  some d
 | .inr x1 =>
  some x1

/-! muntin/face.Faces -/
def Za2.s2 (cells:List Za):(List (ZF × Bool)) × (List ZF) × ZF→Option (((List (ZF × Bool)) × (List ZF) × ZF) ⊕ ((List (ZF × Bool)) × (List ZF))):=fun (met3,f,x4) =>
 if !(ZfS false x4 met3) then
  ck (f.length + [x4].length≤1000000000) <|
  (ZaA x4 cells).bind fun x5 =>
  some (.inl (Zf7 x4 true met3,f++[x4],x5))
 else
  some (.inr (met3,f))

def Za2.s1 (cells:List Za) (x1:Int):(List (List ZF)) × (List (ZF × Bool)) × Int→Option (((List (List ZF)) × (List (ZF × Bool)) × Int) ⊕ ((List (List ZF)) × (List (ZF × Bool)))):=fun (l2,met1,x2) =>
 if decide (x2 < 4) then
  (ZbJ (⟨x1,x2⟩:ZF) cells).bind fun x3 =>
  if (!x3) || (ZfS false (⟨x1,x2⟩:ZF) met1) then
   ck (zU (x2 + 1)) <|
   some (.inl (l2,met1,x2 + 1))
  else
   (ZL (Za2.s2 cells) big (met1,([]:List ZF),(⟨x1,x2⟩:ZF))).bind fun (met4,f1) =>
   ck (l2.length + 1≤1000000000) <|
   ck (zU (x2 + 1)) <|
   some (.inl (l2++[f1],met4,x2 + 1))
 else
  some (.inr (l2,met1))

def Za2.s0 (cells:List Za):(List (List ZF)) × (List (ZF × Bool)) × Int→Option (((List (List ZF)) × (List (ZF × Bool)) × Int) ⊕ (List (List ZF))):=fun (l,met,x1) =>
 if decide (x1 < (cells.length:Int)) then
  (ZL (Za2.s1 cells x1) big (l,met,0)).bind fun (l3,met2) =>
  ck (zU (x1 + 1)) <|
  some (.inl (l3,met2,x1 + 1))
 else
  some (.inr l)

def Za2 (cells:List Za):Option ((List (List ZF)) × Int) :=
 (Zam cells).bind fun x =>
 if !(decide (x=0)) then
  some (([]:List (List ZF)),x)
 else
  (ZL (Za2.s0 cells) big (([]:List (List ZF)),([]:List (ZF × Bool)),0)).bind fun l1 =>
  some (l1,0)

/-! muntin/compass.Turn -/
def ZcE (d:Int) (e_:Int):Option Int :=
 (Zbp d).bind fun x =>
 (if !x then
  some true
 else
  (Zbp e_).bind fun x1 =>
  some (!x1)).bind fun t =>
 if t then
  some 0
 else
  ck (zU (e_ - d)) <|
  ck (zU ((e_ - d) + 4)) <|
  ck ((0:Int)≤(((e_ - d) + 4).tmod 4)∧(((e_ - d) + 4).tmod 4) < 4) <|
  some ((⟨0,1,(-2),(-1)⟩:A4 Int).get (((e_ - d) + 4).tmod 4))

/-! muntin/face.Turns -/
def ZbE.s0 (cells:List Za) (f:List ZF):(List Int) × Int→Option (((List Int) × Int) ⊕ (List Int)):=fun (l,x1) =>
 if decide (x1 < (f.length:Int)) then
  ck ((0:Int)≤x1∧x1 < (f.length:Int)) <|
  (ZbJ (gi f x1.toNat) cells).bind fun x2 =>
  if x2 then
   (ZaA (gi f x1.toNat) cells).bind fun x3 =>
   (ZcE ((gi f x1.toNat).Dir) x3.Dir).bind fun x4 =>
   ck ((0:Int)≤x1∧x1 < (l.length:Int)) <|
   ck (zU (x1 + 1)) <|
   some (.inl (l.set x1.toNat x4,x1 + 1))
  else
   ck (zU (x1 + 1)) <|
   some (.inl (l,x1 + 1))
 else
  some (.inr l)

def ZbE (cells:List Za) (f:List ZF):Option (List Int) :=
 ck ((0:Int)≤(f.length:Int)∧(f.length:Int)≤1000000000) <|
 (Zam cells).bind fun x =>
 if !(decide (x=0)) then
  some (List.replicate ((f.length:Int):Int).toNat (0:Int))
 else
  (ZL (ZbE.s0 cells f) big (List.replicate ((f.length:Int):Int).toNat (0:Int),0)).bind fun l1 =>
  some l1

/-! muntin/face.Rotation -/
def Zb4.s0 (turns:List Int):Int × Int→Option ((Int × Int) ⊕ Int):=fun (n,x) =>
 if decide (x < (turns.length:Int)) then
  ck ((0:Int)≤x∧x < (turns.length:Int)) <|
  if (decide ((-2)≤(gi turns x.toNat))) && (decide ((gi turns x.toNat)≤1)) then
   ck (zU (n + (gi turns x.toNat))) <|
   ck (zU (x + 1)) <|
   some (.inl (n + (gi turns x.toNat),x + 1))
  else
   ck (zU (x + 1)) <|
   some (.inl (n,x + 1))
 else
  some (.inr n)

def Zb4 (turns:List Int):Option Int :=
 (ZL (Zb4.s0 turns) big (0,0)).bind fun n1 =>
 some n1

/-! muntin/valid.outer -/
def ZbK.s0 (cells:List Za) (x:List (List ZF)):Int × Int→Option ((Int × Int) ⊕ (Int ⊕ Unit)):=fun (at_,x2) =>
 if decide (x2 < (x.length:Int)) then
  ck ((0:Int)≤x2∧x2 < (x.length:Int)) <|
  (ZbE cells (gi x x2.toNat)).bind fun x3 =>
  (Zb4 x3).bind fun x4 =>
  if decide (x4=4) then
   ck (zU (x2 + 1)) <|
   some (.inl (at_,x2 + 1))
  else
   if decide (x4=(-4)) then
    if decide (0≤at_) then
     some (.inr (.inr ()))
    else
     ck (zU (x2 + 1)) <|
     some (.inl (x2,x2 + 1))
   else
    some (.inr (.inr ()))
 else
  some (.inr (.inl at_))

def ZbK (cells:List Za):Option (Int × Bool) :=
 (Za2 cells).bind fun (x,x1) =>
 (
  ZL (ZbK.s0 cells x) big ((-1),0):Option (Int ⊕ Unit)).bind fun o₁=>match o₁ with
 | .inl at_1 =>
  some (at_1,decide (0≤at_1))
 | .inr _ =>
  some (0,false)

/-! muntin/valid.Check -/
def ZcS (cells:List Za):Option Int :=
 (Zam cells).bind fun x =>
 if !(decide (x=0)) then
  some x
 else
  (ZcZ cells).bind fun x1 =>
  if !x1 then
   some 13
  else
   (ZbK cells).bind fun (x2,x3) =>
   if (!x3) && (decide (1 < (cells.length:Int))) then
    some 10
   else
    some 0

/-! slices.Clone[[]muntin/api.Cell,muntin/api.Cell] -/
def Zbs (s:List Za):Option (List Za) :=
 ck (s.length≤1000000000) <|
 some s
/-! muntin/grid.Of -/
def Zem (cells:List Za):Option ((Option Zbe) × Int) :=
 (Zam cells).bind fun x =>
 if !(decide (x=0)) then
  some (none,x)
 else
  (Zbs cells).bind fun x1 =>
  some (some (⟨x1⟩:Zbe),0)

/-! (*muntin/grid.Grid).Cells -/
def ZbO (g:Zbe):Option (List Za) :=
 (Zbs g.cells).bind fun x =>
 some x

/-! slices.IndexFunc[[]int,int] -/
def ZaL.s0 (s:List Int) (f:Int→Option Bool):Int→Option (Int ⊕ (Unit ⊕ Int)):=fun x =>
 if decide (x < (s.length:Int)) then
  ck ((0:Int)≤x∧x < (s.length:Int)) <|
  (f (gi s x.toNat)).bind fun x2 =>
  if x2 then
   some (.inr (.inr x))
  else
   ck (zU (x + 1)) <|
   some (.inl (x + 1))
 else
  some (.inr (.inl ()))

def ZaL (s:List Int) (f:Int→Option Bool):Option Int :=
 (
  ZL (ZaL.s0 s f) big 0:Option (Unit ⊕ Int)).bind fun o₁=>match o₁ with
 | .inl _ =>
  some (-1)
 | .inr x1 =>
  some x1

/-! slices.ContainsFunc[[]int,int] -/
def ZbC (s:List Int) (f:Int→Option Bool):Option Bool :=
 (ZaL s f).bind fun x =>
 some (decide (0≤x))

/-! muntin/kitty.right$1 -/
def ZcK (t:Int):Option Bool :=
 some ((decide (t < (-2))) || (decide (1 < t)))

/-! muntin/kitty.right -/
def ZcR (turns:List Int):Option Bool :=
 (ZbC turns (fun y0=>ZcK y0)).bind fun x =>
 some (!x)

/-! muntin/kitty.Corners -/
def Za8.s1 (turns:List Int) (x:Int):(List ZA) × Int→Option (((List ZA) × Int) ⊕ (List ZA)):=fun (l2,x1) =>
 if decide (x1 < (-(gi turns x.toNat))) then
  ck (l2.length + [(⟨x,x1⟩:ZA)].length≤1000000000) <|
  ck (zU (x1 + 1)) <|
  some (.inl (l2++[(⟨x,x1⟩:ZA)],x1 + 1))
 else
  some (.inr l2)

def Za8.s0 (turns:List Int):(List ZA) × Int→Option (((List ZA) × Int) ⊕ (List ZA)):=fun (l,x) =>
 if decide (x < (turns.length:Int)) then
  ck ((0:Int)≤x∧x < (turns.length:Int)) <|
  if decide ((gi turns x.toNat) < (-2)) then
   ck (zU (x + 1)) <|
   some (.inl (l,x + 1))
  else
   ck (zU (-(gi turns x.toNat))) <|
   (ZL (Za8.s1 turns x) big (l,0)).bind fun l3 =>
   ck (zU (x + 1)) <|
   some (.inl (l3,x + 1))
 else
  some (.inr l)

def Za8 (turns:List Int):Option (List ZA) :=
 (ZL (Za8.s0 turns) big (([]:List ZA),0)).bind fun l1 =>
 some l1

/-! muntin/kitty.sums -/
def Zca.s0 (turns:List Int):(List Int) × Int→Option (((List Int) × Int) ⊕ (List Int)):=fun (l,x) =>
 if decide (x < (turns.length:Int)) then
  ck ((0:Int)≤x∧x < (turns.length:Int)) <|
  ck (zU (x + 1)) <|
  ck ((0:Int)≤x∧x < (l.length:Int)) <|
  ck (zU ((gi l x.toNat) + (gi turns x.toNat))) <|
  ck ((0:Int)≤(x + 1)∧(x + 1) < (l.length:Int)) <|
  some (.inl (l.set (x + 1:Int).toNat ((gi l x.toNat) + (gi turns x.toNat)),x + 1))
 else
  some (.inr l)

def Zca (turns:List Int):Option (List Int) :=
 ck (zU ((turns.length:Int) + 1)) <|
 ck ((0:Int)≤((turns.length:Int) + 1)∧((turns.length:Int) + 1)≤1000000000) <|
 (ZL (Zca.s0 turns) big (List.replicate ((turns.length:Int) + 1:Int).toNat (0:Int),0)).bind fun l1 =>
 some l1

/-! muntin/kitty.rot -/
def Zdp (l:List Int) (a:ZA) (b:ZA):Option Int :=
 ck ((0:Int)≤b.At∧b.At < (l.length:Int)) <|
 ck (zU ((gi l (b.At:Int).toNat) - b.Part)) <|
 ck ((0:Int)≤a.At∧a.At < (l.length:Int)) <|
 ck (zU ((gi l (a.At:Int).toNat) - a.Part)) <|
 ck (zU (((gi l (b.At:Int).toNat) - b.Part) - ((gi l (a.At:Int).toNat) - a.Part))) <|
 if (decide (b.At < a.At)) || ((decide (b.At=a.At)) && (decide (b.Part < a.Part))) then
  ck (zU ((l.length:Int) - 1)) <|
  ck ((0:Int)≤((l.length:Int) - 1)∧((l.length:Int) - 1) < (l.length:Int)) <|
  ck (zU ((((gi l (b.At:Int).toNat) - b.Part) - ((gi l (a.At:Int).toNat) - a.Part)) + (gi l ((l.length:Int) - 1:Int).toNat))) <|
  some ((((gi l (b.At:Int).toNat) - b.Part) - ((gi l (a.At:Int).toNat) - a.Part)) + (gi l ((l.length:Int) - 1:Int).toNat))
 else
  some (((gi l (b.At:Int).toNat) - b.Part) - ((gi l (a.At:Int).toNat) - a.Part))

/-! muntin/kitty.Pair -/
def ZaV.s1 (x1:List ZA) (x2:List Int) (x3:Int):Int→Option (Int ⊕ (Unit ⊕ ZA)):=fun x6 =>
 if decide (x6 < (x1.length:Int)) then
  ck ((0:Int)≤x6∧x6 < (x1.length:Int)) <|
  (Zdp x2 (gi x1 x3.toNat) (gi x1 x6.toNat)).bind fun x8 =>
  if decide (x8=2) then
   some (.inr (.inr (gi x1 x6.toNat)))
  else
   ck (zU (x6 + 1)) <|
   some (.inl (x6 + 1))
 else
  some (.inr (.inl ()))

def ZaV.s0 (x1:List ZA) (x2:List Int):Int→Option (Int ⊕ (Unit ⊕ (ZA × ZA))):=fun x3 =>
 if decide (x3 < (x1.length:Int)) then
  ck ((0:Int)≤x3∧x3 < (x1.length:Int)) <|
  (
   ZL (ZaV.s1 x1 x2 x3) big 0:Option (Unit ⊕ ZA)).bind fun o₃=>match o₃ with
  | .inl _ =>
   ck (zU (x3 + 1)) <|
   some (.inl (x3 + 1))
  | .inr x7 =>
   some (.inr (.inr (gi x1 x3.toNat,x7)))
 else
  some (.inr (.inl ()))

def ZaV (turns:List Int):Option (ZA × ZA × Bool) :=
 (ZcR turns).bind fun x =>
 if !x then
  some ((⟨(0:Int),(0:Int)⟩:ZA),(⟨(0:Int),(0:Int)⟩:ZA),false)
 else
  (Za8 turns).bind fun x1 =>
  (Zca turns).bind fun x2 =>
  (
   ZL (ZaV.s0 x1 x2) big 0:Option (Unit ⊕ (ZA × ZA))).bind fun o₁=>match o₁ with
  | .inl _ =>
   some ((⟨(0:Int),(0:Int)⟩:ZA),(⟨(0:Int),(0:Int)⟩:ZA),false)
  | .inr (x4,x5) =>
   some (x4,x5,true)

/-! muntin/regular.pair -/
def Zb9.s0 (cells:List Za) (x:List (List ZF)):Int→Option (Int ⊕ (Unit ⊕ (Int × Int × Int))):=fun x2 =>
 if decide (x2 < (x.length:Int)) then
  ck ((0:Int)≤x2∧x2 < (x.length:Int)) <|
  (ZbE cells (gi x x2.toNat)).bind fun x6 =>
  (ZaV x6).bind fun (x7,x8,x9) =>
  if !x9 then
   ck (zU (x2 + 1)) <|
   some (.inl (x2 + 1))
  else
   ck ((0:Int)≤x7.At∧x7.At < ((gi x x2.toNat).length:Int)) <|
   ck ((0:Int)≤x8.At∧x8.At < ((gi x x2.toNat).length:Int)) <|
   ck ((0:Int)≤((gi (gi x x2.toNat) (x7.At:Int).toNat).Cell)∧((gi (gi x x2.toNat) (x7.At:Int).toNat).Cell) < (cells.length:Int)) <|
   ck ((0:Int)≤((gi (gi x x2.toNat) (x7.At:Int).toNat).Dir)∧((gi (gi x x2.toNat) (x7.At:Int).toNat).Dir) < 4) <|
   ck (zU (-x7.Part)) <|
   (Za6 ((gi (gi x x2.toNat) (x7.At:Int).toNat).Dir) (-x7.Part)).bind fun x10 =>
   ck ((0:Int)≤((gi (gi x x2.toNat) (x8.At:Int).toNat).Cell)∧((gi (gi x x2.toNat) (x8.At:Int).toNat).Cell) < (cells.length:Int)) <|
   ck ((0:Int)≤((gi (gi x x2.toNat) (x8.At:Int).toNat).Dir)∧((gi (gi x x2.toNat) (x8.At:Int).toNat).Dir) < 4) <|
   some (.inr (.inr (((gi cells ((gi (gi x x2.toNat) (x7.At:Int).toNat).Cell:Int).toNat).Next).get ((gi (gi x x2.toNat) (x7.At:Int).toNat).Dir),x10,((gi cells ((gi (gi x x2.toNat) (x8.At:Int).toNat).Cell:Int).toNat).Next).get ((gi (gi x x2.toNat) (x8.At:Int).toNat).Dir))))
 else
  some (.inr (.inl ()))

def Zb9 (cells:List Za):Option (Int × Int × Int × Bool) :=
 (Za2 cells).bind fun (x,x1) =>
 (
  ZL (Zb9.s0 cells x) big 0:Option (Unit ⊕ (Int × Int × Int))).bind fun o₁=>match o₁ with
 | .inl _ =>
  some (0,0,0,false)
 | .inr (x3,x4,x5) =>
  some (x3,x4,x5,true)

/-! muntin/regular.horizontal -/
def Zck (d:Int):Option Bool :=
 some ((decide (d=0)) || (decide (d=2)))

/-! (*muntin/grid.Grid).Len -/
def ZcJ (g:Zbe):Option Int :=
 some (g.cells.length:Int)

/-! (*muntin/grid.Grid).is -/
def Zcq (g:Zbe) (v:Int) (d:Int):Option Bool :=
 (if decide (0≤v) then
  (ZcJ g).bind fun x =>
  some (decide (v < x))
 else
  some false).bind fun t =>
 (if t then
  (Zbp d).bind fun x1 =>
  some x1
 else
  some false).bind fun t1 =>
 some t1

/-! (*muntin/grid.Grid).lay -/
def Zc9 (g:Zbe) (v:Int) (d:Int) (w:Int) (owner:Int):Option Zbe :=
 (Za6 d 2).bind fun x =>
 ck ((0:Int)≤v∧v < (g.cells.length:Int)) <|
 ck ((0:Int)≤d∧d < 4) <|
 ck ((0:Int)≤v∧v < ((g.cells.set v.toNat ({ gi g.cells v.toNat with Next:=((gi g.cells v.toNat).Next).set d w })).length:Int)) <|
 ck ((0:Int)≤w∧w < (((g.cells.set v.toNat ({ gi g.cells v.toNat with Next:=((gi g.cells v.toNat).Next).set d w })).set v.toNat ({ gi (g.cells.set v.toNat ({ gi g.cells v.toNat with Next:=((gi g.cells v.toNat).Next).set d w })) v.toNat with Owner:=((gi (g.cells.set v.toNat ({ gi g.cells v.toNat with Next:=((gi g.cells v.toNat).Next).set d w })) v.toNat).Owner).set d owner })).length:Int)) <|
 ck ((0:Int)≤x∧x < 4) <|
 ck ((0:Int)≤w∧w < ((((g.cells.set v.toNat ({ gi g.cells v.toNat with Next:=((gi g.cells v.toNat).Next).set d w })).set v.toNat ({ gi (g.cells.set v.toNat ({ gi g.cells v.toNat with Next:=((gi g.cells v.toNat).Next).set d w })) v.toNat with Owner:=((gi (g.cells.set v.toNat ({ gi g.cells v.toNat with Next:=((gi g.cells v.toNat).Next).set d w })) v.toNat).Owner).set d owner })).set w.toNat ({ gi ((g.cells.set v.toNat ({ gi g.cells v.toNat with Next:=((gi g.cells v.toNat).Next).set d w })).set v.toNat ({ gi (g.cells.set v.toNat ({ gi g.cells v.toNat with Next:=((gi g.cells v.toNat).Next).set d w })) v.toNat with Owner:=((gi (g.cells.set v.toNat ({ gi g.cells v.toNat with Next:=((gi g.cells v.toNat).Next).set d w })) v.toNat).Owner).set d owner })) w.toNat with Next:=((gi ((g.cells.set v.toNat ({ gi g.cells v.toNat with Next:=((gi g.cells v.toNat).Next).set d w })).set v.toNat ({ gi (g.cells.set v.toNat ({ gi g.cells v.toNat with Next:=((gi g.cells v.toNat).Next).set d w })) v.toNat with Owner:=((gi (g.cells.set v.toNat ({ gi g.cells v.toNat with Next:=((gi g.cells v.toNat).Next).set d w })) v.toNat).Owner).set d owner })) w.toNat).Next).set x v })).length:Int)) <|
 some (⟨(((g.cells.set v.toNat ({ gi g.cells v.toNat with Next:=((gi g.cells v.toNat).Next).set d w })).set v.toNat ({ gi (g.cells.set v.toNat ({ gi g.cells v.toNat with Next:=((gi g.cells v.toNat).Next).set d w })) v.toNat with Owner:=((gi (g.cells.set v.toNat ({ gi g.cells v.toNat with Next:=((gi g.cells v.toNat).Next).set d w })) v.toNat).Owner).set d owner })).set w.toNat ({ gi ((g.cells.set v.toNat ({ gi g.cells v.toNat with Next:=((gi g.cells v.toNat).Next).set d w })).set v.toNat ({ gi (g.cells.set v.toNat ({ gi g.cells v.toNat with Next:=((gi g.cells v.toNat).Next).set d w })) v.toNat with Owner:=((gi (g.cells.set v.toNat ({ gi g.cells v.toNat with Next:=((gi g.cells v.toNat).Next).set d w })) v.toNat).Owner).set d owner })) w.toNat with Next:=((gi ((g.cells.set v.toNat ({ gi g.cells v.toNat with Next:=((gi g.cells v.toNat).Next).set d w })).set v.toNat ({ gi (g.cells.set v.toNat ({ gi g.cells v.toNat with Next:=((gi g.cells v.toNat).Next).set d w })) v.toNat with Owner:=((gi (g.cells.set v.toNat ({ gi g.cells v.toNat with Next:=((gi g.cells v.toNat).Next).set d w })) v.toNat).Owner).set d owner })) w.toNat).Next).set x v })).set w.toNat ({ gi (((g.cells.set v.toNat ({ gi g.cells v.toNat with Next:=((gi g.cells v.toNat).Next).set d w })).set v.toNat ({ gi (g.cells.set v.toNat ({ gi g.cells v.toNat with Next:=((gi g.cells v.toNat).Next).set d w })) v.toNat with Owner:=((gi (g.cells.set v.toNat ({ gi g.cells v.toNat with Next:=((gi g.cells v.toNat).Next).set d w })) v.toNat).Owner).set d owner })).set w.toNat ({ gi ((g.cells.set v.toNat ({ gi g.cells v.toNat with Next:=((gi g.cells v.toNat).Next).set d w })).set v.toNat ({ gi (g.cells.set v.toNat ({ gi g.cells v.toNat with Next:=((gi g.cells v.toNat).Next).set d w })) v.toNat with Owner:=((gi (g.cells.set v.toNat ({ gi g.cells v.toNat with Next:=((gi g.cells v.toNat).Next).set d w })) v.toNat).Owner).set d owner })) w.toNat with Next:=((gi ((g.cells.set v.toNat ({ gi g.cells v.toNat with Next:=((gi g.cells v.toNat).Next).set d w })).set v.toNat ({ gi (g.cells.set v.toNat ({ gi g.cells v.toNat with Next:=((gi g.cells v.toNat).Next).set d w })) v.toNat with Owner:=((gi (g.cells.set v.toNat ({ gi g.cells v.toNat with Next:=((gi g.cells v.toNat).Next).set d w })) v.toNat).Owner).set d owner })) w.toNat).Next).set x v })) w.toNat with Owner:=((gi (((g.cells.set v.toNat ({ gi g.cells v.toNat with Next:=((gi g.cells v.toNat).Next).set d w })).set v.toNat ({ gi (g.cells.set v.toNat ({ gi g.cells v.toNat with Next:=((gi g.cells v.toNat).Next).set d w })) v.toNat with Owner:=((gi (g.cells.set v.toNat ({ gi g.cells v.toNat with Next:=((gi g.cells v.toNat).Next).set d w })) v.toNat).Owner).set d owner })).set w.toNat ({ gi ((g.cells.set v.toNat ({ gi g.cells v.toNat with Next:=((gi g.cells v.toNat).Next).set d w })).set v.toNat ({ gi (g.cells.set v.toNat ({ gi g.cells v.toNat with Next:=((gi g.cells v.toNat).Next).set d w })) v.toNat with Owner:=((gi (g.cells.set v.toNat ({ gi g.cells v.toNat with Next:=((gi g.cells v.toNat).Next).set d w })) v.toNat).Owner).set d owner })) w.toNat with Next:=((gi ((g.cells.set v.toNat ({ gi g.cells v.toNat with Next:=((gi g.cells v.toNat).Next).set d w })).set v.toNat ({ gi (g.cells.set v.toNat ({ gi g.cells v.toNat with Next:=((gi g.cells v.toNat).Next).set d w })) v.toNat with Owner:=((gi (g.cells.set v.toNat ({ gi g.cells v.toNat with Next:=((gi g.cells v.toNat).Next).set d w })) v.toNat).Owner).set d owner })) w.toNat).Next).set x v })) w.toNat).Owner).set x owner })⟩:Zbe)

/-! (*muntin/grid.Grid).Join -/
def Zcy (g:Zbe) (v:Int) (d:Int) (w:Int) (owner:Int):Option (Int × Zbe) :=
 (Zcq g v d).bind fun x =>
 (if !x then
  some true
 else
  (Zcq g w d).bind fun x1 =>
  some (!x1)).bind fun t =>
 if (t || (decide (v=w))) || (decide (owner < (-2))) then
  some (2,g)
 else
  (
   ck ((0:Int)≤v∧v < (g.cells.length:Int)) <|
   ck ((0:Int)≤d∧d < 4) <|
   if !(decide (((gi g.cells v.toNat).Next).get d=(-1))) then
    some true
   else
    (Za6 d 2).bind fun x3 =>
    ck ((0:Int)≤w∧w < (g.cells.length:Int)) <|
    ck ((0:Int)≤x3∧x3 < 4) <|
    some (!(decide (((gi g.cells w.toNat).Next).get x3=(-1))))).bind fun x2 =>
  if x2 then
   some (9,g)
  else
   (Zc9 g v d w owner).bind fun m =>
   some (0,m)

/-! muntin/regular.Make -/
def ZaK.s0 (cells:List Za) (picks:List Bool):(List Za) × Int→Option (((List Za) × Int) ⊕ ((List Za) × Int × Int)):=fun (g1,n) =>
 (ZbO (⟨g1⟩:Zbe)).bind fun x6 =>
 (Zb9 x6).bind fun (x7,x8,x9,x10) =>
 if !x10 then
  (ZbO (⟨g1⟩:Zbe)).bind fun x11 =>
  some (.inr (x11,n,0))
 else
  (if decide (n < (picks.length:Int)) then
   ck ((0:Int)≤n∧n < (picks.length:Int)) <|
   some (gi picks n.toNat)
  else
   some false).bind fun t =>
  (Zck x8).bind fun x12 =>
  (
   if decide (x12=t) then
    (Za6 x8 1).bind fun x13 =>
    some x13
   else
    some x8).bind fun d =>
  (Zcy (⟨g1⟩:Zbe) x7 d x9 (-2)).bind fun (x14,m) =>
  if !(decide (x14=0)) then
   some (.inr (([]:List Za),0,x14))
  else
   ck (zU (n + 1)) <|
   some (.inl (m.cells,n + 1))

def ZaK (cells:List Za) (picks:List Bool):Option ((List Za) × Int × Int) :=
 (ZcS cells).bind fun x =>
 if !(decide (x=0)) then
  some (([]:List Za),0,x)
 else
  (Zem cells).bind fun (x1,x2) =>
  (x1).bind fun g =>
  (ZL (ZaK.s0 cells picks) big (g.cells,0)).bind fun (x3,x4,x5) =>
  some (x3,x4,x5)

/-! muntin/regular.Bare -/
def Za7.s1:Za × Int→Option ((Za × Int) ⊕ Za):=fun (c,x2) =>
 if decide (x2 < 4) then
  ck ((0:Int)≤x2∧x2 < 4) <|
  if (decide (0≤(c.Next.get x2))) && (decide (c.Owner.get x2=(-2))) then
   ck (zU (x2 + 1)) <|
   some (.inl ({ { c with Next:=c.Next.set x2 (-1) } with Owner:=(({ c with Next:=c.Next.set x2 (-1) }).Owner).set x2 0 },x2 + 1))
  else
   ck (zU (x2 + 1)) <|
   some (.inl (c,x2 + 1))
 else
  some (.inr c)

def Za7.s0 (cells:List Za):(List Za) × Int→Option (((List Za) × Int) ⊕ (List Za)):=fun (l,x1) =>
 if decide (x1 < (cells.length:Int)) then
  ck ((0:Int)≤x1∧x1 < (cells.length:Int)) <|
  (ZL Za7.s1 big (gi cells x1.toNat,0)).bind fun c1 =>
  ck (l.length + [c1].length≤1000000000) <|
  ck (zU (x1 + 1)) <|
  some (.inl (l++[c1],x1 + 1))
 else
  some (.inr l)

def Za7 (cells:List Za):Option ((List Za) × Int) :=
 (Zam cells).bind fun x =>
 if !(decide (x=0)) then
  some (([]:List Za),x)
 else
  (ZL (Za7.s0 cells) big (([]:List Za),0)).bind fun l1 =>
  some (l1,0)

/-! muntin/muntinref10.Same -/
def Zan.s0 (a:List Za) (b:List Za):Int→Option (Int ⊕ (Unit ⊕ Unit)):=fun i =>
 if decide (i < (a.length:Int)) then
  ck ((0:Int)≤i∧i < (a.length:Int)) <|
  ck ((0:Int)≤i∧i < (b.length:Int)) <|
  if !(decide (gi a i.toNat=gi b i.toNat)) then
   some (.inr (.inr ()))
  else
   ck (zU (i + 1)) <|
   some (.inl (i + 1))
 else
  some (.inr (.inl ()))

def Zan (a:List Za) (b:List Za):Option Bool :=
 if !(decide ((a.length:Int)=(b.length:Int))) then
  some false
 else
  (
   ZL (Zan.s0 a b) big 0:Option (Unit ⊕ Unit)).bind fun o₁=>match o₁ with
  | .inl _ =>
   some true
  | .inr _ =>
   some false

/-! muntin/muntinlaw22.wakes -/
def Zct:Option Bool :=
 (Zb1 ).bind fun x =>
 (ZaK x ([]:List Bool)).bind fun (x1,x2,x3) =>
 (Za7 x1).bind fun (x4,x5) =>
 (zk 2).bind fun x6 =>
 (ZaK x6 ([]:List Bool)).bind fun (x7,x8,x9) =>
 (if (((decide (x3=0)) && (decide (0 < x2))) && (decide (x2 < 3))) && (decide (x5=0)) then
  (Zb1 ).bind fun x10 =>
  (Zan x4 x10).bind fun x11 =>
  some x11
 else
  some false).bind fun t =>
 some (t && (decide (x9=13)))

/-! muntin/muntinref10.Check -/
def zA.s1 (l:List Za) (v:Int):Int→Option (Int ⊕ (Unit ⊕ Int)):=fun d =>
 if decide (d < 4) then
  ck ((0:Int)≤v∧v < (l.length:Int)) <|
  ck ((0:Int)≤d∧d < 4) <|
  if decide (((gi l v.toNat).Next).get d=(-1)) then
   if !(decide (((gi l v.toNat).Owner).get d=0)) then
    some (.inr (.inr 9))
   else
    ck (zU (d + 1)) <|
    some (.inl (d + 1))
  else
   if ((decide ((((gi l v.toNat).Next).get d) < 0)) || (decide ((l.length:Int)≤(((gi l v.toNat).Next).get d)))) || (decide (((gi l v.toNat).Next).get d=v)) then
    some (.inr (.inr 3))
   else
    ck (zU (d + 2)) <|
    ck ((0:Int)≤(((gi l v.toNat).Next).get d)∧(((gi l v.toNat).Next).get d) < (l.length:Int)) <|
    ck ((0:Int)≤((d + 2).tmod 4)∧((d + 2).tmod 4) < 4) <|
    if ((!(decide (((gi l (((gi l v.toNat).Next).get d:Int).toNat).Next).get ((d + 2).tmod 4)=v))) || (!(decide (((gi l (((gi l v.toNat).Next).get d:Int).toNat).Owner).get ((d + 2).tmod 4)=((gi l v.toNat).Owner).get d)))) || (decide ((((gi l v.toNat).Owner).get d) < (-2))) then
     some (.inr (.inr 9))
    else
     ck (zU (d + 1)) <|
     some (.inl (d + 1))
 else
  some (.inr (.inl ()))

def zA.s0 (l:List Za):Int→Option (Int ⊕ (Unit ⊕ Int)):=fun v =>
 if decide (v < (l.length:Int)) then
  (
   ZL (zA.s1 l v) big 0:Option (Unit ⊕ Int)).bind fun o₃=>match o₃ with
  | .inl _ =>
   ck (zU (v + 1)) <|
   some (.inl (v + 1))
  | .inr x1 =>
   some (.inr (.inr x1))
 else
  some (.inr (.inl ()))

def zA (l:List Za):Option Int :=
 if decide (4096 < (l.length:Int)) then
  some 6
 else
  (
   ZL (zA.s0 l) big 0:Option (Unit ⊕ Int)).bind fun o₁=>match o₁ with
  | .inl _ =>
   some 0
  | .inr x =>
   some x

/-! muntin/muntinref22.Bare -/
def Zak.s1:Za × Int→Option ((Za × Int) ⊕ Za):=fun (c,d) =>
 if decide (d < 4) then
  ck ((0:Int)≤d∧d < 4) <|
  if (decide (0≤(c.Next.get d))) && (decide (c.Owner.get d=(-2))) then
   ck (zU (d + 1)) <|
   some (.inl ({ { c with Next:=c.Next.set d (-1) } with Owner:=(({ c with Next:=c.Next.set d (-1) }).Owner).set d 0 },d + 1))
  else
   ck (zU (d + 1)) <|
   some (.inl (c,d + 1))
 else
  some (.inr c)

def Zak.s0 (l:List Za):(List Za) × Int→Option (((List Za) × Int) ⊕ (List Za)):=fun (out,i) =>
 if decide (i < (l.length:Int)) then
  ck ((0:Int)≤i∧i < (l.length:Int)) <|
  (ZL Zak.s1 big (gi l i.toNat,0)).bind fun c1 =>
  ck (out.length + [c1].length≤1000000000) <|
  ck (zU (i + 1)) <|
  some (.inl (out++[c1],i + 1))
 else
  some (.inr out)

def Zak (l:List Za):Option (List Za) :=
 (ZL (Zak.s0 l) big (([]:List Za),0)).bind fun out1 =>
 some out1

/-! muntin/muntinref13.Far -/
def zi.s0 (l:List Za):(List Int) × Int→Option (((List Int) × Int) ⊕ (List Int)):=fun (far,i) =>
 if decide (i < (l.length:Int)) then
  ck ((0:Int)≤i∧i < (far.length:Int)) <|
  ck (zU (i + 1)) <|
  some (.inl (far.set i.toNat (-1),i + 1))
 else
  some (.inr far)

def zi.s3 (l:List Za) (round:Int) (i1:Int):(List Int) × Int→Option (((List Int) × Int) ⊕ (List Int)):=fun (far6,d) =>
 if decide (d < 4) then
  ck ((0:Int)≤i1∧i1 < (l.length:Int)) <|
  ck ((0:Int)≤d∧d < 4) <|
  ck ((0:Int)≤i1∧i1 < (far6.length:Int)) <|
  (if (decide (gi far6 i1.toNat=round)) && (decide (0≤(((gi l i1.toNat).Next).get d))) then
   ck ((0:Int)≤(max (((gi l i1.toNat).Next).get d) 0)∧(max (((gi l i1.toNat).Next).get d) 0) < (far6.length:Int)) <|
   some (decide ((gi far6 (max (((gi l i1.toNat).Next).get d) 0:Int).toNat) < 0))
  else
   some false).bind fun t =>
  if t then
   ck (zU (round + 1)) <|
   ck ((0:Int)≤(((gi l i1.toNat).Next).get d)∧(((gi l i1.toNat).Next).get d) < (far6.length:Int)) <|
   ck (zU (d + 1)) <|
   some (.inl (far6.set (((gi l i1.toNat).Next).get d:Int).toNat (round + 1),d + 1))
  else
   ck (zU (d + 1)) <|
   some (.inl (far6,d + 1))
 else
  some (.inr far6)

def zi.s2 (l:List Za) (round:Int):(List Int) × Int→Option (((List Int) × Int) ⊕ (List Int)):=fun (far4,i1) =>
 if decide (i1 < (l.length:Int)) then
  (ZL (zi.s3 l round i1) big (far4,0)).bind fun far7 =>
  ck (zU (i1 + 1)) <|
  some (.inl (far7,i1 + 1))
 else
  some (.inr far4)

def zi.s1 (l:List Za):(List Int) × Int→Option (((List Int) × Int) ⊕ (List Int)):=fun (far2,round) =>
 if decide (round < (l.length:Int)) then
  (ZL (zi.s2 l round) big (far2,0)).bind fun far5 =>
  ck (zU (round + 1)) <|
  some (.inl (far5,round + 1))
 else
  some (.inr far2)

def zi (l:List Za) (v:Int):Option (List Int) :=
 ck ((0:Int)≤(l.length:Int)∧(l.length:Int)≤1000000000) <|
 (ZL (zi.s0 l) big (List.replicate ((l.length:Int):Int).toNat (0:Int),0)).bind fun far1 =>
 ck ((0:Int)≤v∧v < (far1.length:Int)) <|
 (ZL (zi.s1 l) big (far1.set v.toNat 0,0)).bind fun far3 =>
 some far3

/-! muntin/muntinref13.Parts -/
def zY.s1 (l:List Za) (x:List Int):(List Bool) × (List Int) × Int→Option (((List Bool) × (List Int) × Int) ⊕ ((List Bool) × (List Int))):=fun (in_1,p,w) =>
 if decide (w < (l.length:Int)) then
  ck ((0:Int)≤w∧w < (x.length:Int)) <|
  if decide (0≤(gi x w.toNat)) then
   ck ((0:Int)≤w∧w < (in_1.length:Int)) <|
   ck (p.length + [w].length≤1000000000) <|
   ck (zU (w + 1)) <|
   some (.inl (in_1.set w.toNat true,p++[w],w + 1))
  else
   ck (zU (w + 1)) <|
   some (.inl (in_1,p,w + 1))
 else
  some (.inr (in_1,p))

def zY.s0 (l:List Za):(List Bool) × (List (List Int)) × Int→Option (((List Bool) × (List (List Int)) × Int) ⊕ (List (List Int))):=fun (in_,out,v) =>
 if decide (v < (l.length:Int)) then
  ck ((0:Int)≤v∧v < (in_.length:Int)) <|
  if gi in_ v.toNat then
   ck (zU (v + 1)) <|
   some (.inl (in_,out,v + 1))
  else
   (zi l v).bind fun x =>
   (ZL (zY.s1 l x) big (in_,([]:List Int),0)).bind fun (in_2,p1) =>
   ck (out.length + 1≤1000000000) <|
   ck (zU (v + 1)) <|
   some (.inl (in_2,out++[p1],v + 1))
 else
  some (.inr out)

def zY (l:List Za):Option (List (List Int)) :=
 ck ((0:Int)≤(l.length:Int)∧(l.length:Int)≤1000000000) <|
 (ZL (zY.s0 l) big (List.replicate ((l.length:Int):Int).toNat false,([]:List (List Int)),0)).bind fun out1 =>
 some out1

/-! muntin/muntinref12.Behind -/
def Zat.s0 (l:List Za) (d:Zz):Int→Option (Int ⊕ (Unit ⊕ Zz)):=fun i =>
 if decide (i < 4) then
  ck ((0:Int)≤i∧i < (([1,0,3,2]:List Int).length:Int)) <|
  ck (zU (d.Dir + (gi ([1,0,3,2]:List Int) i.toNat))) <|
  ck ((0:Int)≤(((gi l (d.Cell:Int).toNat).Next).get d.Dir)∧(((gi l (d.Cell:Int).toNat).Next).get d.Dir) < (l.length:Int)) <|
  ck ((0:Int)≤((d.Dir + (gi ([1,0,3,2]:List Int) i.toNat)).tmod 4)∧((d.Dir + (gi ([1,0,3,2]:List Int) i.toNat)).tmod 4) < 4) <|
  if decide (0≤(((gi l (((gi l (d.Cell:Int).toNat).Next).get d.Dir:Int).toNat).Next).get ((d.Dir + (gi ([1,0,3,2]:List Int) i.toNat)).tmod 4))) then
   some (.inr (.inr (⟨((gi l (d.Cell:Int).toNat).Next).get d.Dir,(d.Dir + (gi ([1,0,3,2]:List Int) i.toNat)).tmod 4⟩:Zz)))
  else
   ck (zU (i + 1)) <|
   some (.inl (i + 1))
 else
  some (.inr (.inl ()))

def Zat (l:List Za) (d:Zz):Option Zz :=
 ck ((0:Int)≤d.Cell∧d.Cell < (l.length:Int)) <|
 ck ((0:Int)≤d.Dir∧d.Dir < 4) <|
 (
  ZL (Zat.s0 l d) big 0:Option (Unit ⊕ Zz)).bind fun o₁=>match o₁ with
 | .inl _ =>
  some d
 | .inr x =>
  some x

/-! muntin/muntinref12.Faces -/
def ZX.s2 (l:List Za):(List Bool) × (List Zz) × Zz→Option (((List Bool) × (List Zz) × Zz) ⊕ ((List Bool) × (List Zz))):=fun (met3,f,d) =>
 ck (zU (4 * d.Cell)) <|
 ck (zU ((4 * d.Cell) + d.Dir)) <|
 ck ((0:Int)≤((4 * d.Cell) + d.Dir)∧((4 * d.Cell) + d.Dir) < (met3.length:Int)) <|
 if !(gi met3 ((4 * d.Cell) + d.Dir:Int).toNat) then
  ck (f.length + [d].length≤1000000000) <|
  (Zat l d).bind fun x =>
  some (.inl (met3.set ((4 * d.Cell) + d.Dir:Int).toNat true,f++[d],x))
 else
  some (.inr (met3,f))

def ZX.s1 (l:List Za) (v:Int):(List Bool) × (List (List Zz)) × Int→Option (((List Bool) × (List (List Zz)) × Int) ⊕ ((List Bool) × (List (List Zz)))):=fun (met1,out2,e_) =>
 if decide (e_ < 4) then
  ck ((0:Int)≤v∧v < (l.length:Int)) <|
  ck ((0:Int)≤e_∧e_ < 4) <|
  (if decide ((((gi l v.toNat).Next).get e_) < 0) then
   some true
  else
   ck (zU (4 * v)) <|
   ck (zU ((4 * v) + e_)) <|
   ck ((0:Int)≤((4 * v) + e_)∧((4 * v) + e_) < (met1.length:Int)) <|
   some (gi met1 ((4 * v) + e_:Int).toNat)).bind fun t =>
  if t then
   ck (zU (e_ + 1)) <|
   some (.inl (met1,out2,e_ + 1))
  else
   (ZL (ZX.s2 l) big (met1,([]:List Zz),(⟨v,e_⟩:Zz))).bind fun (met4,f1) =>
   ck (out2.length + 1≤1000000000) <|
   ck (zU (e_ + 1)) <|
   some (.inl (met4,out2++[f1],e_ + 1))
 else
  some (.inr (met1,out2))

def ZX.s0 (l:List Za):(List Bool) × (List (List Zz)) × Int→Option (((List Bool) × (List (List Zz)) × Int) ⊕ (List (List Zz))):=fun (met,out,v) =>
 if decide (v < (l.length:Int)) then
  (ZL (ZX.s1 l v) big (met,out,0)).bind fun (met2,out3) =>
  ck (zU (v + 1)) <|
  some (.inl (met2,out3,v + 1))
 else
  some (.inr out)

def ZX (l:List Za):Option (List (List Zz)) :=
 ck (zU (4 * (l.length:Int))) <|
 ck ((0:Int)≤(4 * (l.length:Int))∧(4 * (l.length:Int))≤1000000000) <|
 (ZL (ZX.s0 l) big (List.replicate (4 * (l.length:Int):Int).toNat false,([]:List (List Zz)),0)).bind fun out1 =>
 some out1

/-! muntin/muntinref01.Good -/
def ZbF (d:Int):Option Bool :=
 some ((decide (0≤d)) && (decide (d≤3)))

/-! muntin/muntinref01.Left -/
def Zcg (d:Int) (times:Int):Option Int :=
 (ZbF d).bind fun x =>
 if !x then
  some 0
 else
  if decide ((times.tmod 4) < 0) then
   ck (zU ((times.tmod 4) + 4)) <|
   ck (zU (d + ((times.tmod 4) + 4))) <|
   some ((d + ((times.tmod 4) + 4)).tmod 4)
  else
   ck (zU (d + (times.tmod 4))) <|
   some ((d + (times.tmod 4)).tmod 4)

/-! muntin/muntinref01.Turn -/
def Zch (d:Int) (e_:Int):Option Int :=
 (ZbF d).bind fun x =>
 (ZbF e_).bind fun x1 =>
 if ((!x) || (!x1)) || (decide (d=e_)) then
  some 0
 else
  (Zcg d 1).bind fun x2 =>
  if decide (x2=e_) then
   some 1
  else
   (Zcg d 3).bind fun x3 =>
   if decide (x3=e_) then
    some (-1)
   else
    some (-2)

/-! muntin/muntinref12.Turns -/
def Zaz.s0 (l:List Za) (f:List Zz):(List Int) × Int→Option (((List Int) × Int) ⊕ (List Int)):=fun (out,i) =>
 if decide (i < (f.length:Int)) then
  ck ((0:Int)≤i∧i < (f.length:Int)) <|
  (Zat l (gi f i.toNat)).bind fun x =>
  (Zch ((gi f i.toNat).Dir) x.Dir).bind fun x1 =>
  ck (out.length + [x1].length≤1000000000) <|
  ck (zU (i + 1)) <|
  some (.inl (out++[x1],i + 1))
 else
  some (.inr out)

def Zaz (l:List Za) (f:List Zz):Option (List Int) :=
 (ZL (Zaz.s0 l f) big (([]:List Int),0)).bind fun out1 =>
 some out1

/-! muntin/muntinref12.Rotation -/
def Za9.s0 (t:List Int):Int × Int→Option ((Int × Int) ⊕ Int):=fun (n,i) =>
 if decide (i < (t.length:Int)) then
  ck ((0:Int)≤i∧i < (t.length:Int)) <|
  if (decide ((-2)≤(gi t i.toNat))) && (decide ((gi t i.toNat)≤1)) then
   ck (zU (n + (gi t i.toNat))) <|
   ck (zU (i + 1)) <|
   some (.inl (n + (gi t i.toNat),i + 1))
  else
   ck (zU (i + 1)) <|
   some (.inl (n,i + 1))
 else
  some (.inr n)

def Za9 (t:List Int):Option Int :=
 (ZL (Za9.s0 t) big (0,0)).bind fun n1 =>
 some n1

/-! muntin/muntinref14.Outer -/
def ZaC.s0 (l:List Za) (x2:List (List Zz)):Int × Int→Option ((Int × Int) ⊕ (Int ⊕ Unit)):=fun (at_,i) =>
 if decide (i < (x2.length:Int)) then
  ck ((0:Int)≤i∧i < (x2.length:Int)) <|
  (Zaz l (gi x2 i.toNat)).bind fun x3 =>
  (Za9 x3).bind fun x4 =>
  if ((!(decide (x4=4))) && (!(decide (x4=(-4))))) || ((decide (x4=(-4))) && (decide (0≤at_))) then
   some (.inr (.inr ()))
  else
   if decide (x4=(-4)) then
    ck (zU (i + 1)) <|
    some (.inl (i,i + 1))
   else
    ck (zU (i + 1)) <|
    some (.inl (at_,i + 1))
 else
  some (.inr (.inl at_))

def ZaC (l:List Za):Option (Int × Int) :=
 (zA l).bind fun x =>
 if !(decide (x=0)) then
  some ((-1),x)
 else
  (zY l).bind fun x1 =>
  if !(decide ((x1.length:Int)=1)) then
   some ((-1),13)
  else
   if decide ((l.length:Int)=1) then
    some ((-1),0)
   else
    (ZX l).bind fun x2 =>
    (
     ZL (ZaC.s0 l x2) big ((-1),0):Option (Int ⊕ Unit)).bind fun o₁=>match o₁ with
    | .inl at_1 =>
     if decide (at_1 < 0) then
      some ((-1),10)
     else
      some (at_1,0)
    | .inr _ =>
     some ((-1),10)

/-! muntin/muntinref15.Corners -/
def Zaw.s0 (t:List Int):(List Zq) × Int→Option (((List Zq) × Int) ⊕ (List Zq)):=fun (l,i) =>
 if decide (i < (t.length:Int)) then
  ck ((0:Int)≤i∧i < (t.length:Int)) <|
  (
   if (decide (gi t i.toNat=(-1))) || (decide (gi t i.toNat=(-2))) then
    ck (l.length + [(⟨i,(0:Int)⟩:Zq)].length≤1000000000) <|
    some (l++[(⟨i,(0:Int)⟩:Zq)])
   else
    some l).bind fun l2 =>
  if decide (gi t i.toNat=(-2)) then
   ck (l2.length + [(⟨i,1⟩:Zq)].length≤1000000000) <|
   ck (zU (i + 1)) <|
   some (.inl (l2++[(⟨i,1⟩:Zq)],i + 1))
  else
   ck (zU (i + 1)) <|
   some (.inl (l2,i + 1))
 else
  some (.inr l)

def Zaw (t:List Int):Option (List Zq) :=
 (ZL (Zaw.s0 t) big (([]:List Zq),0)).bind fun l1 =>
 some l1

/-! muntin/muntinref15.Rot -/
def Zad.s0 (t:List Int) (a:Zq) (b:Zq):(List Int) × Int × Int × Int→Option (((List Int) × Int × Int × Int) ⊕ ((List Int) × Int × Int)):=fun (single,from_,to_,i) =>
 if decide (i < (t.length:Int)) then
  (
   if decide (i=a.At) then
    ck (zU ((single.length:Int) + a.Part)) <|
    some ((single.length:Int) + a.Part)
   else
    some from_).bind fun from_2 =>
  (
   if decide (i=b.At) then
    ck (zU ((single.length:Int) + b.Part)) <|
    some ((single.length:Int) + b.Part)
   else
    some to_).bind fun to_2 =>
  ck ((0:Int)≤i∧i < (t.length:Int)) <|
  if decide (gi t i.toNat=(-2)) then
   ck (single.length + ([(-1),(-1)]:List Int).length≤1000000000) <|
   ck (zU (i + 1)) <|
   some (.inl (single++([(-1),(-1)]:List Int),from_2,to_2,i + 1))
  else
   ck (single.length + [gi t i.toNat].length≤1000000000) <|
   ck (zU (i + 1)) <|
   some (.inl (single++[gi t i.toNat],from_2,to_2,i + 1))
 else
  some (.inr (single,from_,to_))

def Zad.s1 (single1:List Int) (to_1:Int):Int × Int→Option ((Int × Int) ⊕ Int):=fun (sum,k_) =>
 if !(decide (k_=to_1)) then
  ck ((0:Int)≤k_∧k_ < (single1.length:Int)) <|
  ck (zU (sum + (gi single1 k_.toNat))) <|
  ck (zU (k_ + 1)) <|
  ck (((single1.length:Int):Int)≠0) <|
  some (.inl (sum + (gi single1 k_.toNat),(k_ + 1).tmod (single1.length:Int)))
 else
  some (.inr sum)

def Zad (t:List Int) (a:Zq) (b:Zq):Option Int :=
 (ZL (Zad.s0 t a b) big (([]:List Int),0,0,0)).bind fun (single1,from_1,to_1) =>
 (ZL (Zad.s1 single1 to_1) big (0,from_1)).bind fun sum1 =>
 some sum1

/-! muntin/muntinref15.Pair -/
def zS.s1 (t:List Int) (x:List Zq) (i:Int):Int→Option (Int ⊕ (Unit ⊕ Zq)):=fun k_ =>
 if decide (k_ < (x.length:Int)) then
  ck ((0:Int)≤i∧i < (x.length:Int)) <|
  ck ((0:Int)≤k_∧k_ < (x.length:Int)) <|
  (Zad t (gi x i.toNat) (gi x k_.toNat)).bind fun x4 =>
  if decide (x4=2) then
   some (.inr (.inr (gi x k_.toNat)))
  else
   ck (zU (k_ + 1)) <|
   some (.inl (k_ + 1))
 else
  some (.inr (.inl ()))

def zS.s0 (t:List Int) (x:List Zq):Int→Option (Int ⊕ (Unit ⊕ (Zq × Zq))):=fun i =>
 if decide (i < (x.length:Int)) then
  (
   ZL (zS.s1 t x i) big 0:Option (Unit ⊕ Zq)).bind fun o₃=>match o₃ with
  | .inl _ =>
   ck (zU (i + 1)) <|
   some (.inl (i + 1))
  | .inr x3 =>
   some (.inr (.inr (gi x i.toNat,x3)))
 else
  some (.inr (.inl ()))

def zS (t:List Int):Option (Zq × Zq × Bool) :=
 (Zaw t).bind fun x =>
 (
  ZL (zS.s0 t x) big 0:Option (Unit ⊕ (Zq × Zq))).bind fun o₁=>match o₁ with
 | .inl _ =>
  some ((⟨(0:Int),(0:Int)⟩:Zq),(⟨(0:Int),(0:Int)⟩:Zq),false)
 | .inr (x1,x2) =>
  some (x1,x2,true)

/-! muntin/muntinref22.Make -/
def zy.s1 (picks:List Bool) (n:Int) (x2:List (List Zz)):(List Za) × Bool × Int→Option (((List Za) × Bool × Int) ⊕ ((List Za) × Bool)):=fun (l3,done,i) =>
 if (decide (i < (x2.length:Int))) && done then
  ck ((0:Int)≤i∧i < (x2.length:Int)) <|
  (Zaz l3 (gi x2 i.toNat)).bind fun x3 =>
  (zS x3).bind fun (x4,x5,x6) =>
  if !x6 then
   ck (zU (i + 1)) <|
   some (.inl (l3,done,i + 1))
  else
   ck ((0:Int)≤x4.At∧x4.At < ((gi x2 i.toNat).length:Int)) <|
   ck ((0:Int)≤x5.At∧x5.At < ((gi x2 i.toNat).length:Int)) <|
   (
    if decide (x4.Part=1) then
     ck (zU (((gi (gi x2 i.toNat) (x4.At:Int).toNat).Dir) + 3)) <|
     some ((((gi (gi x2 i.toNat) (x4.At:Int).toNat).Dir) + 3).tmod 4)
    else
     some ((gi (gi x2 i.toNat) (x4.At:Int).toNat).Dir)).bind fun d =>
   (if decide (n < (picks.length:Int)) then
    ck (zU ((picks.length:Int) - 1)) <|
    ck ((0:Int)≤(min n (max ((picks.length:Int) - 1) 0))∧(min n (max ((picks.length:Int) - 1) 0)) < (picks.length:Int)) <|
    some (gi picks (min n (max ((picks.length:Int) - 1) 0):Int).toNat)
   else
    some false).bind fun t =>
   (
    if decide (t=(decide (d.tmod 2=0))) then
     ck (zU (d + 1)) <|
     some ((d + 1).tmod 4)
    else
     some d).bind fun d1 =>
   ck ((0:Int)≤((gi (gi x2 i.toNat) (x4.At:Int).toNat).Cell)∧((gi (gi x2 i.toNat) (x4.At:Int).toNat).Cell) < (l3.length:Int)) <|
   ck ((0:Int)≤((gi (gi x2 i.toNat) (x4.At:Int).toNat).Dir)∧((gi (gi x2 i.toNat) (x4.At:Int).toNat).Dir) < 4) <|
   ck ((0:Int)≤((gi (gi x2 i.toNat) (x5.At:Int).toNat).Cell)∧((gi (gi x2 i.toNat) (x5.At:Int).toNat).Cell) < (l3.length:Int)) <|
   ck ((0:Int)≤((gi (gi x2 i.toNat) (x5.At:Int).toNat).Dir)∧((gi (gi x2 i.toNat) (x5.At:Int).toNat).Dir) < 4) <|
   (zR l3 (((gi l3 ((gi (gi x2 i.toNat) (x4.At:Int).toNat).Cell:Int).toNat).Next).get ((gi (gi x2 i.toNat) (x4.At:Int).toNat).Dir)) d1 (((gi l3 ((gi (gi x2 i.toNat) (x5.At:Int).toNat).Cell:Int).toNat).Next).get ((gi (gi x2 i.toNat) (x5.At:Int).toNat).Dir)) (-2)).bind fun (x7,x8) =>
   ck (zU (i + 1)) <|
   some (.inl (x7,false,i + 1))
 else
  some (.inr (l3,done))

def zy.s0 (picks:List Bool):(List Za) × Int→Option (((List Za) × Int) ⊕ ((List Za) ⊕ ((List Za) × Int))):=fun (l1,n) =>
 if decide (n < 100000) then
  (ZX l1).bind fun x2 =>
  (ZL (zy.s1 picks n x2) big (l1,true,0)).bind fun (l4,done1) =>
  if done1 then
   some (.inr (.inr (l4,n)))
  else
   ck (zU (n + 1)) <|
   some (.inl (l4,n + 1))
 else
  some (.inr (.inl l1))

def zy (l:List Za) (picks:List Bool):Option ((List Za) × Int) :=
 (
  ZL (zy.s0 picks) big (l,0):Option ((List Za) ⊕ ((List Za) × Int))).bind fun o₁=>match o₁ with
 | .inl l2 =>
  some (l2,0)
 | .inr (x,x1) =>
  some (x,x1)

/-! muntin/muntinref10.Join -/
/-! muntin/muntinref22.Make -/
/-! muntin/muntinlaw22.told -/
def Zbc (l:List Za) (picks:List Bool):Option Bool :=
 (ZaK l picks).bind fun (x,x1,x2) =>
 (Za7 l).bind fun (x3,x4) =>
 (zA l).bind fun x5 =>
 (if !(decide (x4=x5)) then
  some true
 else
  (if decide (x5=0) then
   (Zak l).bind fun x6 =>
   (Zan x3 x6).bind fun x7 =>
   some (!x7)
  else
   some false).bind fun t1 =>
  some t1).bind fun t =>
 if t || ((!(decide (x5=0))) && (decide (0 < (x3.length:Int)))) then
  some false
 else
  (ZaC l).bind fun (x8,x9) =>
  if !(decide (x9=0)) then
   some (((decide (x2=x9)) && (decide ((x.length:Int)=0))) && (decide (x1=0)))
  else
   (zy l picks).bind fun (x10,x11) =>
   (if (decide (x2=0)) && (decide (x1=x11)) then
    (Zan x x10).bind fun x12 =>
    some x12
   else
    some false).bind fun t2 =>
   some t2

/-! muntin/muntinref08.turns -/
def ZaM.s0 (s:ByteArray):Int→Option (Int ⊕ (Unit ⊕ Unit)):=fun i =>
 if decide (i < (s.size:Int)) then
  ck ((0:Int)≤i∧i < (s.size:Int)) <|
  if (!(decide (sAt s i.toNat=76))) && (!(decide (sAt s i.toNat=82))) then
   some (.inr (.inr ()))
  else
   ck (zU (i + 1)) <|
   some (.inl (i + 1))
 else
  some (.inr (.inl ()))

def ZaM (s:ByteArray):Option Bool :=
 (
  ZL (ZaM.s0 s) big 0:Option (Unit ⊕ Unit)).bind fun o₁=>match o₁ with
 | .inl _ =>
  some true
 | .inr _ =>
  some false

/-! muntin/muntinref08.Check -/
def Zag.s0 (s:Zac):Int × Int→Option ((Int × Int) ⊕ Int):=fun (n,i) =>
 if decide (i < (s.Edges.length:Int)) then
  ck ((0:Int)≤i∧i < (s.Edges.length:Int)) <|
  ck (zU (n + (((gi s.Edges i.toNat).Bends).size:Int))) <|
  ck (zU (i + 1)) <|
  some (.inl (n + (((gi s.Edges i.toNat).Bends).size:Int),i + 1))
 else
  some (.inr n)

def Zag.s1 (s:Zac):Int→Option (Int ⊕ (Unit ⊕ Int)):=fun i1 =>
 if decide (i1 < (s.Edges.length:Int)) then
  ck ((0:Int)≤i1∧i1 < (s.Edges.length:Int)) <|
  if (((decide (((gi s.Edges i1.toNat).From) < 0)) || (decide ((s.Boxes.length:Int)≤((gi s.Edges i1.toNat).From)))) || (decide (((gi s.Edges i1.toNat).To) < 0))) || (decide ((s.Boxes.length:Int)≤((gi s.Edges i1.toNat).To))) then
   some (.inr (.inr 3))
  else
   (ZaM ((gi s.Edges i1.toNat).Bends)).bind fun x1 =>
   if ((decide (((gi s.Edges i1.toNat).Dir) < 0)) || (decide (3 < ((gi s.Edges i1.toNat).Dir)))) || (!x1) then
    some (.inr (.inr 2))
   else
    ck (zU (i1 + 1)) <|
    some (.inl (i1 + 1))
 else
  some (.inr (.inl ()))

def Zag (s:Zac):Option Int :=
 (ZL (Zag.s0 s) big (0,0)).bind fun n1 =>
 if ((decide (4096 < (s.Boxes.length:Int))) || (decide (4096 < (s.Edges.length:Int)))) || (decide (4096 < n1)) then
  some 6
 else
  (
   ZL (Zag.s1 s) big 0:Option (Unit ⊕ Int)).bind fun o₃=>match o₃ with
  | .inl _ =>
   some 0
  | .inr x =>
   some x

/-! muntin/muntinref09.Last -/
def Zbd.s0 (e_:ZaO):Int × Int→Option ((Int × Int) ⊕ Int):=fun (d,i) =>
 if decide (i < (e_.Bends.size:Int)) then
  ck ((0:Int)≤i∧i < (e_.Bends.size:Int)) <|
  if decide (sAt e_.Bends i.toNat=76) then
   ck (zU (d + 1)) <|
   ck (zU (i + 1)) <|
   some (.inl ((d + 1).tmod 4,i + 1))
  else
   ck (zU (d + 3)) <|
   ck (zU (i + 1)) <|
   some (.inl ((d + 3).tmod 4,i + 1))
 else
  some (.inr d)

def Zbd (e_:ZaO):Option Int :=
 (ZL (Zbd.s0 e_) big (e_.Dir,0)).bind fun d1 =>
 some d1

/-! muntin/muntinref11.Side -/
def Zci (e_:ZaO):Option Int :=
 (Zbd e_).bind fun x =>
 ck (zU (x + 2)) <|
 some ((x + 2).tmod 4)

/-! muntin/muntinref11.On -/
def Za4.s0 (s:Zac) (v:Int) (d:Int):(List Int) × Int→Option (((List Int) × Int) ⊕ (List Int)):=fun (l,i) =>
 if decide (i < (s.Edges.length:Int)) then
  ck ((0:Int)≤i∧i < (s.Edges.length:Int)) <|
  (
   if (decide ((gi s.Edges i.toNat).From=v)) && (decide ((gi s.Edges i.toNat).Dir=d)) then
    ck (zU (2 * i)) <|
    ck (l.length + [2 * i].length≤1000000000) <|
    some (l++[2 * i])
   else
    some l).bind fun l2 =>
  (Zci (gi s.Edges i.toNat)).bind fun x =>
  if (decide ((gi s.Edges i.toNat).To=v)) && (decide (x=d)) then
   ck (zU (2 * i)) <|
   ck (zU ((2 * i) + 1)) <|
   ck (l2.length + [(2 * i) + 1].length≤1000000000) <|
   ck (zU (i + 1)) <|
   some (.inl (l2++[(2 * i) + 1],i + 1))
  else
   ck (zU (i + 1)) <|
   some (.inl (l2,i + 1))
 else
  some (.inr l)

def Za4 (s:Zac) (v:Int) (d:Int):Option (List Int) :=
 (ZL (Za4.s0 s v d) big (([]:List Int),0)).bind fun l1 =>
 some l1

/-! muntin/muntinref11.Count -/
def zH.s1 (s:Zac) (v:Int):Int × Int→Option ((Int × Int) ⊕ Int):=fun (n2,d) =>
 (if decide (d < 4) then
  ck ((0:Int)≤v∧v < (s.Boxes.length:Int)) <|
  some (gi s.Boxes v.toNat)
 else
  some false).bind fun t =>
 if t then
  (Za4 s v d).bind fun x =>
  ck (zU (n2 + (x.length:Int))) <|
  ck (zU (d + 1)) <|
  some (.inl (n2 + (x.length:Int),d + 1))
 else
  some (.inr n2)

def zH.s0 (s:Zac):Int × Int→Option ((Int × Int) ⊕ Int):=fun (n,v) =>
 if decide (v < (s.Boxes.length:Int)) then
  ck (zU (n + 1)) <|
  (ZL (zH.s1 s v) big (n + 1,0)).bind fun n3 =>
  ck ((0:Int)≤v∧v < (s.Boxes.length:Int)) <|
  if gi s.Boxes v.toNat then
   ck (zU (n3 + 3)) <|
   ck (zU (v + 1)) <|
   some (.inl (n3 + 3,v + 1))
  else
   ck (zU (v + 1)) <|
   some (.inl (n3,v + 1))
 else
  some (.inr n)

def zH.s2 (s:Zac):Int × Int→Option ((Int × Int) ⊕ Int):=fun (n4,i) =>
 if decide (i < (s.Edges.length:Int)) then
  ck ((0:Int)≤i∧i < (s.Edges.length:Int)) <|
  ck (zU (n4 + (((gi s.Edges i.toNat).Bends).size:Int))) <|
  ck (zU (i + 1)) <|
  some (.inl (n4 + (((gi s.Edges i.toNat).Bends).size:Int),i + 1))
 else
  some (.inr n4)

def zH (s:Zac):Option Int :=
 (ZL (zH.s0 s) big (0,0)).bind fun n1 =>
 (ZL (zH.s2 s) big (n1,0)).bind fun n5 =>
 some n5

/-! muntin/muntinref11.Wrong -/
def zw.s1 (s:Zac) (v:Int):Int→Option (Int ⊕ (Unit ⊕ Unit)):=fun d =>
 (if decide (d < 4) then
  ck ((0:Int)≤v∧v < (s.Boxes.length:Int)) <|
  some (!(gi s.Boxes v.toNat))
 else
  some false).bind fun t =>
 if t then
  (Za4 s v d).bind fun x2 =>
  if decide (1 < (x2.length:Int)) then
   some (.inr (.inr ()))
  else
   ck (zU (d + 1)) <|
   some (.inl (d + 1))
 else
  some (.inr (.inl ()))

def zw.s0 (s:Zac):Int→Option (Int ⊕ (Unit ⊕ Unit)):=fun v =>
 if decide (v < (s.Boxes.length:Int)) then
  (
   ZL (zw.s1 s v) big 0:Option (Unit ⊕ Unit)).bind fun o₃=>match o₃ with
  | .inl _ =>
   ck (zU (v + 1)) <|
   some (.inl (v + 1))
  | .inr _ =>
   some (.inr (.inr ()))
 else
  some (.inr (.inl ()))

def zw.s2 (s:Zac):Int→Option (Int ⊕ (Unit ⊕ Unit)):=fun i =>
 if decide (i < (s.Edges.length:Int)) then
  ck ((0:Int)≤i∧i < (s.Edges.length:Int)) <|
  (if (decide ((gi s.Edges i.toNat).From=(gi s.Edges i.toNat).To)) && (((gi s.Edges i.toNat).Bends).toList == (⟨#[]⟩:ByteArray).toList) then
   ck ((0:Int)≤((gi s.Edges i.toNat).From)∧((gi s.Edges i.toNat).From) < (s.Boxes.length:Int)) <|
   some (!(gi s.Boxes ((gi s.Edges i.toNat).From:Int).toNat))
  else
   some false).bind fun t1 =>
  if t1 then
   some (.inr (.inr ()))
  else
   ck (zU (i + 1)) <|
   some (.inl (i + 1))
 else
  some (.inr (.inl ()))

def zw (s:Zac):Option Int :=
 (Zag s).bind fun x =>
 if !(decide (x=0)) then
  some x
 else
  (zH s).bind fun x1 =>
  if decide (4096 < x1) then
   some 6
  else
   (
    ZL (zw.s0 s) big 0:Option (Unit ⊕ Unit)).bind fun o₁=>match o₁ with
   | .inl _ =>
    (
     ZL (zw.s2 s) big 0:Option (Unit ⊕ Unit)).bind fun o₅=>match o₅ with
    | .inl _ =>
     some 0
    | .inr _ =>
     some 10
   | .inr _ =>
    some 8

/-! muntin/muntinref11.box -/
def Za3.s1 (d:Int) (x1:List Int):(List Za) × (List (A2 Int)) × Int × Int→Option (((List Za) × (List (A2 Int)) × Int × Int) ⊕ ((List Za) × (List (A2 Int)) × Int)):=fun (n5,n6,from_,i) =>
 if decide (i < (x1.length:Int)) then
  (zk 1).bind fun x2 =>
  ck (n5.length + x2.length≤1000000000) <|
  ck ((0:Int)≤i∧i < (x1.length:Int)) <|
  ck ((2:Int)≠0∧zU ((gi x1 i.toNat).tdiv 2)) <|
  ck ((0:Int)≤((gi x1 i.toNat).tdiv 2)∧((gi x1 i.toNat).tdiv 2) < (n6.length:Int)) <|
  ck ((0:Int)≤((gi x1 i.toNat).tmod 2)∧((gi x1 i.toNat).tmod 2) < 2) <|
  (zR (n5++x2) from_ (gi ([1,0,1,0]:List Int) d.toNat) (n5.length:Int) (-1)).bind fun (x3,x4) =>
  ck (zU (i + 1)) <|
  some (.inl (x3,n6.set ((gi x1 i.toNat).tdiv 2:Int).toNat ((gi n6 ((gi x1 i.toNat).tdiv 2:Int).toNat).set ((gi x1 i.toNat).tmod 2) (n5.length:Int)),(n5.length:Int),i + 1))
 else
  some (.inr (n5,n6,from_))

def Za3.s0 (n:Zbb) (s:Zac) (v:Int):(List Za) × (List (A2 Int)) × Int→Option (((List Za) × (List (A2 Int)) × Int) ⊕ ((List Za) × (List (A2 Int)))):=fun (n1,n2,d) =>
 if decide (d < 4) then
  ck (zU ((n.Cells.length:Int) + 1)) <|
  ck (zU ((n.Cells.length:Int) + 3)) <|
  ck ((0:Int)≤d∧d < ([(n.Cells.length:Int) + 1,(n.Cells.length:Int) + 3,(n.Cells.length:Int),(n.Cells.length:Int)].length:Int)) <|
  ck (zU ((n.Cells.length:Int) + 2)) <|
  ck ((0:Int)≤d∧d < ([(n.Cells.length:Int) + 2,(n.Cells.length:Int) + 2,(n.Cells.length:Int) + 3,(n.Cells.length:Int) + 1].length:Int)) <|
  ck ((0:Int)≤d∧d < (([1,0,1,0]:List Int).length:Int)) <|
  (Za4 s v d).bind fun x1 =>
  (ZL (Za3.s1 d x1) big (n1,n2,gi [(n.Cells.length:Int) + 1,(n.Cells.length:Int) + 3,(n.Cells.length:Int),(n.Cells.length:Int)] d.toNat,0)).bind fun (n7,n8,from_1) =>
  (zR n7 from_1 (gi ([1,0,1,0]:List Int) d.toNat) (gi [(n.Cells.length:Int) + 2,(n.Cells.length:Int) + 2,(n.Cells.length:Int) + 3,(n.Cells.length:Int) + 1] d.toNat) (-1)).bind fun (x5,x6) =>
  ck (zU (d + 1)) <|
  some (.inl (x5,n8,d + 1))
 else
  some (.inr (n1,n2))

def Za3 (n:Zbb) (s:Zac) (v:Int):Option Zbb :=
 (zk 4).bind fun x =>
 ck (n.Cells.length + x.length≤1000000000) <|
 (ZL (Za3.s0 n s v) big (n.Cells++x,n.Ends,0)).bind fun (n3,n4) =>
 some (⟨n3,n.First,n4,n.Ways⟩:Zbb)

/-! muntin/muntinref11.Of -/
def zl.s2 (n:List Za) (x2:List Int):(List (A2 Int)) × Int→Option (((List (A2 Int)) × Int) ⊕ (List (A2 Int))):=fun (n10,i) =>
 if decide (i < (x2.length:Int)) then
  ck ((0:Int)≤i∧i < (x2.length:Int)) <|
  ck ((2:Int)≠0∧zU ((gi x2 i.toNat).tdiv 2)) <|
  ck ((0:Int)≤((gi x2 i.toNat).tdiv 2)∧((gi x2 i.toNat).tdiv 2) < (n10.length:Int)) <|
  ck ((0:Int)≤((gi x2 i.toNat).tmod 2)∧((gi x2 i.toNat).tmod 2) < 2) <|
  ck (zU (i + 1)) <|
  some (.inl (n10.set ((gi x2 i.toNat).tdiv 2:Int).toNat ((gi n10 ((gi x2 i.toNat).tdiv 2:Int).toNat).set ((gi x2 i.toNat).tmod 2) (n.length:Int)),i + 1))
 else
  some (.inr n10)

def zl.s1 (s:Zac) (n:List Za) (v:Int):(List (A2 Int)) × Int→Option (((List (A2 Int)) × Int) ⊕ (List (A2 Int))):=fun (n8,d) =>
 if decide (d < 4) then
  (Za4 s v d).bind fun x2 =>
  (ZL (zl.s2 n x2) big (n8,0)).bind fun n11 =>
  ck (zU (d + 1)) <|
  some (.inl (n11,d + 1))
 else
  some (.inr n8)

def zl.s0 (s:Zac):(List Za) × (List Int) × (List (A2 Int)) × (List (List Int)) × Int→Option (((List Za) × (List Int) × (List (A2 Int)) × (List (List Int)) × Int) ⊕ ((List Za) × (List Int) × (List (A2 Int)) × (List (List Int)))):=fun (n,n1,n2,n3,v) =>
 if decide (v < (s.Boxes.length:Int)) then
  ck (n1.length + [(n.length:Int)].length≤1000000000) <|
  ck ((0:Int)≤v∧v < (s.Boxes.length:Int)) <|
  if gi s.Boxes v.toNat then
   (Za3 (⟨n,n1++[(n.length:Int)],n2,n3⟩:Zbb) s v).bind fun x =>
   ck (zU (v + 1)) <|
   some (.inl (x.Cells,x.First,x.Ends,x.Ways,v + 1))
  else
   (zk 1).bind fun x1 =>
   ck (n.length + x1.length≤1000000000) <|
   (ZL (zl.s1 s n v) big (n2,0)).bind fun n9 =>
   ck (zU (v + 1)) <|
   some (.inl (n++x1,n1++[(n.length:Int)],n9,n3,v + 1))
 else
  some (.inr (n,n1,n2,n3))

def zl.s4 (s:Zac) (i1:Int):(List Za) × Int × Int × (List Int) × Int→Option (((List Za) × Int × Int × (List Int) × Int) ⊕ ((List Za) × Int × Int × (List Int))):=fun (n16,at_,d1,way,k_) =>
 if decide (k_ < (((gi s.Edges i1.toNat).Bends).size:Int)) then
  (zk 1).bind fun x3 =>
  ck (n16.length + x3.length≤1000000000) <|
  (zR (n16++x3) at_ d1 (n16.length:Int) i1).bind fun (x4,x5) =>
  ck (way.length + [(n16.length:Int)].length≤1000000000) <|
  ck ((0:Int)≤k_∧k_ < (((gi s.Edges i1.toNat).Bends).size:Int)) <|
  if decide (sAt ((gi s.Edges i1.toNat).Bends) k_.toNat=76) then
   ck (zU (d1 + 1)) <|
   ck (zU (k_ + 1)) <|
   some (.inl (x4,(n16.length:Int),(d1 + 1).tmod 4,way++[(n16.length:Int)],k_ + 1))
  else
   ck (zU (d1 + 3)) <|
   ck (zU (k_ + 1)) <|
   some (.inl (x4,(n16.length:Int),(d1 + 3).tmod 4,way++[(n16.length:Int)],k_ + 1))
 else
  some (.inr (n16,at_,d1,way))

def zl.s3 (s:Zac) (n6:List (A2 Int)):(List Za) × (List (List Int)) × Int→Option (((List Za) × (List (List Int)) × Int) ⊕ ((List Za) × (List (List Int)))):=fun (n12,n13,i1) =>
 if decide (i1 < (s.Edges.length:Int)) then
  ck ((0:Int)≤i1∧i1 < (n6.length:Int)) <|
  ck ((0:Int)≤i1∧i1 < (s.Edges.length:Int)) <|
  (ZL (zl.s4 s i1) big (n12,(gi n6 i1.toNat).get 0,(gi s.Edges i1.toNat).Dir,[(gi n6 i1.toNat).get 0],0)).bind fun (n17,at_1,d2,way1) =>
  (zR n17 at_1 d2 ((gi n6 i1.toNat).get 1) i1).bind fun (x6,x7) =>
  ck (way1.length + [(gi n6 i1.toNat).get 1].length≤1000000000) <|
  ck (n13.length + 1≤1000000000) <|
  ck (zU (i1 + 1)) <|
  some (.inl (x6,n13++[way1++[(gi n6 i1.toNat).get 1]],i1 + 1))
 else
  some (.inr (n12,n13))

def zl (s:Zac):Option Zbb :=
 ck ((0:Int)≤(s.Edges.length:Int)∧(s.Edges.length:Int)≤1000000000) <|
 (ZL (zl.s0 s) big (([]:List Za),([]:List Int),List.replicate ((s.Edges.length:Int):Int).toNat (⟨0,0⟩:A2 Int),([]:List (List Int)),0)).bind fun (n4,n5,n6,n7) =>
 (ZL (zl.s3 s n6) big (n4,n7,0)).bind fun (n14,n15) =>
 some (⟨n14,n5,n6,n15⟩:Zbb)

/-! muntin/muntinlaw22.RegularTells -/
def Zb8 (z:ZcB):Option Bool :=
 ck ((0:Int)≤(min (z.Picks.length:Int) 20)∧(min (z.Picks.length:Int) 20)≤(z.Picks.length:Int)) <|
 (ZV z.Places 14).bind fun (x,x1) =>
 (zQ z.Shape 4).bind fun x2 =>
 (Zct ).bind fun x3 =>
 (if !x3 then
  some true
 else
  (Zbc x (z.Picks.take (min (z.Picks.length:Int) 20:Int).toNat)).bind fun x4 =>
  some (!x4)).bind fun t =>
 (if t then
  some true
 else
  ck ((0:Int)≤(min (z.Raw.length:Int) 4)∧(min (z.Raw.length:Int) 4)≤(z.Raw.length:Int)) <|
  (Zbc (z.Raw.take (min (z.Raw.length:Int) 4:Int).toNat) (z.Picks.take (min (z.Picks.length:Int) 20:Int).toNat)).bind fun x5 =>
  some (!x5)).bind fun t1 =>
 if t1 then
  some false
 else
  (zw x2).bind fun x6 =>
  if !(decide (x6=0)) then
   some true
  else
   (zl x2).bind fun x7 =>
   (if decide (30 < (x7.Cells.length:Int)) then
    some true
   else
    (Zbc x7.Cells (z.Picks.take (min (z.Picks.length:Int) 20:Int).toNat)).bind fun x8 =>
    some x8).bind fun t2 =>
   some t2

end Mu
