/- What the functions work out. -/
import Derived.Test.YtdefkboekpjiiaaMuA
import Derived.Test.YtdefkboekpjiiaaMuR
set_option linter.unusedVariables false
set_option linter.unnecessarySimpa false
set_option linter.unusedSimpArgs false
set_option maxHeartbeats 2000000
set_option maxRecDepth 10000
namespace Mu
open Go (IntKind BinOp UnOp)
structure zj where
 At:List Int
 Bits:List Int
 Own:List Int
 deriving DecidableEq,Inhabited
structure Zaa where
 Boxes:List Bool
 Edges:List (A3 Int)
 Bends:List Int
 deriving DecidableEq,Inhabited
abbrev Zfi:Enc Int:=⟨1,fun x=>[.i .u8 x],fun _=>rfl⟩
theorem Zfi.one (x:Int):(Zfi.c x).all V.one=true:=rfl
abbrev Zi2:Enc Int:=⟨1,fun x=>[.i .i8 x],fun _=>rfl⟩
theorem Zi2.one (x:Int):(Zi2.c x).all V.one=true:=rfl
abbrev e_bool:Enc Bool:=⟨1,fun x=>[.b x],fun _=>rfl⟩
theorem e_bool.one (x:Bool):(e_bool.c x).all V.one=true:=rfl
abbrev Zeb:Enc (A3 Int):=⟨3,fun x=>[.i .u8 x.a,.i .u8 x.b,.i .u8 x.c],fun _=>rfl⟩
theorem Zeb.one (x:A3 Int):(Zeb.c x).all V.one=true:=rfl
abbrev Zdf:Enc (A2 Int):=⟨2,fun x=>[.i .u8 x.a,.i .u8 x.b],fun _=>rfl⟩
theorem Zdf.one (x:A2 Int):(Zdf.c x).all V.one=true:=rfl
structure Za where
 Next:A4 Int
 Owner:A4 Int
 deriving DecidableEq,Inhabited
structure Zv where
 X:Int
 Y:Int
 deriving DecidableEq,Inhabited
abbrev Z1:Enc Zv:=⟨2,fun x=>[.i .i64 x.X,.i .i64 x.Y],fun _=>rfl⟩
theorem Z1.one (x:Zv):(Z1.c x).all V.one=true:=rfl
theorem Z1.same (x y:Zv):zN [.i,.i] (Z1.c x) (Z1.c y)=some (decide (x=y)):=by
 obtain ⟨x1,x2⟩:=x
 obtain ⟨y1,y2⟩:=y
 refine (Zef (Zef Zfd)).trans ?_
 congr 1
 rw [Bool.eq_iff_iff]
 simp [and_assoc]
abbrev Zd:Enc Za:=⟨8,fun x=>[.i .i64 x.Next.a,.i .i64 x.Next.b,.i .i64 x.Next.c,.i .i64 x.Next.d,.i .i64 x.Owner.a,.i .i64 x.Owner.b,.i .i64 x.Owner.c,.i .i64 x.Owner.d],fun _=>rfl⟩
theorem Zd.one (x:Za):(Zd.c x).all V.one=true:=rfl
structure zH where
 From:Int
 To:Int
 Dir:Int
 Bends:ByteArray
 deriving DecidableEq,Inhabited
abbrev ZP:Enc zH:=⟨4,fun x=>[.i .i64 x.From,.i .i64 x.To,.i .i64 x.Dir,.s x.Bends],fun _=>rfl⟩
theorem ZP.one (x:zH):(ZP.c x).all V.one=true:=rfl
structure zc where
 Boxes:List Bool
 Edges:List zH
 deriving DecidableEq,Inhabited
abbrev zZ:Enc (A2 Int):=⟨2,fun x=>[.i .i64 x.a,.i .i64 x.b],fun _=>rfl⟩
theorem zZ.one (x:A2 Int):(zZ.c x).all V.one=true:=rfl
structure zR where
 Cells:List Za
 First:List Int
 Ends:List (A2 Int)
 Ways:List (List Int)
 deriving DecidableEq,Inhabited
structure Z0 where
 Cell:Int
 Dir:Int
 deriving DecidableEq,Inhabited
abbrev Zt:Enc Z0:=⟨2,fun x=>[.i .i64 x.Cell,.i .i64 x.Dir],fun _=>rfl⟩
theorem Zt.one (x:Z0):(Zt.c x).all V.one=true:=rfl
theorem Zt.same (x y:Z0):zN [.i,.i] (Zt.c x) (Zt.c y)=some (decide (x=y)):=by
 obtain ⟨x1,x2⟩:=x
 obtain ⟨y1,y2⟩:=y
 refine (Zef (Zef Zfd)).trans ?_
 congr 1
 rw [Bool.eq_iff_iff]
 simp [and_assoc]
abbrev Zb9:Enc (A4 Int):=⟨4,fun x=>[.i .i64 x.a,.i .i64 x.b,.i .i64 x.c,.i .i64 x.d],fun _=>rfl⟩
theorem Zb9.one (x:A4 Int):(Zb9.c x).all V.one=true:=rfl
def Zek (x:Int):Prop:=Wf .u8 x
def ZhP (x:Int):Prop:=Wf .i8 x
def Zgt (x:Bool):Prop:=True
def Zey (x:A3 Int):Prop:=Wf .u8 x.a∧Wf .u8 x.b∧Wf .u8 x.c
def Zfv (x:A2 Int):Prop:=Wf .u8 x.a∧Wf .u8 x.b
/-! muntin/muntinref10.New -/
def Z3.s1 (v:Int):(List Za) × Int→Option (((List Za) × Int) ⊕ (List Za)):=fun (l2,d) =>
 if decide (d < 4) then
  ck ((0:Int)≤v∧v < (l2.length:Int)) <|
  ck ((0:Int)≤d∧d < 4) <|
  ck (zK (d + 1)) <|
  some (.inl (l2.set v.toNat ({ gi l2 v.toNat with Next:=((gi l2 v.toNat).Next).set d (-1) }),d + 1))
 else
  some (.inr l2)

def Z3.s0 (n:Int):(List Za) × Int→Option (((List Za) × Int) ⊕ (List Za)):=fun (l,v) =>
 if decide (v < n) then
  (ZW (Z3.s1 v) big (l,0)).bind fun l3 =>
  ck (zK (v + 1)) <|
  some (.inl (l3,v + 1))
 else
  some (.inr l)

def Z3 (n:Int):Option (List Za) :=
 ck ((0:Int)≤n∧n≤1000000000) <|
 (ZW (Z3.s0 n) big (List.replicate n.toNat (⟨⟨0,0,0,0⟩,⟨0,0,0,0⟩⟩:Za),0)).bind fun l1 =>
 some l1

/-! muntin/muntinref10.Nearest -/
def ZE.s0 (at_:List Zv) (i:Int) (d:Int):Int × Int→Option ((Int × Int) ⊕ Int):=fun (best,k_) =>
 if decide (k_ < (at_.length:Int)) then
  (if decide (d=0) then
   ck ((0:Int)≤k_∧k_ < (at_.length:Int)) <|
   ck ((0:Int)≤i∧i < (at_.length:Int)) <|
   some (decide ((gi at_ k_.toNat).Y=(gi at_ i.toNat).Y))
  else
   some false).bind fun t =>
  (if t then
   ck ((0:Int)≤k_∧k_ < (at_.length:Int)) <|
   ck ((0:Int)≤i∧i < (at_.length:Int)) <|
   some (decide (((gi at_ i.toNat).X) < ((gi at_ k_.toNat).X)))
  else
   some false).bind fun t1 =>
  (if t1 then
   (if decide (best < 0) then
    some true
   else
    ck ((0:Int)≤k_∧k_ < (at_.length:Int)) <|
    ck ((0:Int)≤best∧best < (at_.length:Int)) <|
    some (decide (((gi at_ k_.toNat).X) < ((gi at_ best.toNat).X)))).bind fun t3 =>
   some t3
  else
   some false).bind fun t2 =>
  (
   if t2 then
    some k_
   else
    some best).bind fun best2 =>
  (if decide (d=1) then
   ck ((0:Int)≤k_∧k_ < (at_.length:Int)) <|
   ck ((0:Int)≤i∧i < (at_.length:Int)) <|
   some (decide ((gi at_ k_.toNat).X=(gi at_ i.toNat).X))
  else
   some false).bind fun t4 =>
  (if t4 then
   ck ((0:Int)≤k_∧k_ < (at_.length:Int)) <|
   ck ((0:Int)≤i∧i < (at_.length:Int)) <|
   some (decide (((gi at_ i.toNat).Y) < ((gi at_ k_.toNat).Y)))
  else
   some false).bind fun t5 =>
  (if t5 then
   (if decide (best2 < 0) then
    some true
   else
    ck ((0:Int)≤k_∧k_ < (at_.length:Int)) <|
    ck ((0:Int)≤best2∧best2 < (at_.length:Int)) <|
    some (decide (((gi at_ k_.toNat).Y) < ((gi at_ best2.toNat).Y)))).bind fun t7 =>
   some t7
  else
   some false).bind fun t6 =>
  if t6 then
   ck (zK (k_ + 1)) <|
   some (.inl (k_,k_ + 1))
  else
   ck (zK (k_ + 1)) <|
   some (.inl (best2,k_ + 1))
 else
  some (.inr best)

def ZE (at_:List Zv) (i:Int) (d:Int):Option Int :=
 (ZW (ZE.s0 at_ i d) big ((-1),0)).bind fun best1 =>
 some best1

/-! muntin/muntinref10.Crossed -/
def ZD.s1 (at_:List Zv) (l:List Za) (i:Int) (w:Int) (a:Int):Int→Option (Int ⊕ (Unit ⊕ Unit)):=fun d =>
 if decide (d < 2) then
  ck ((0:Int)≤a∧a < (l.length:Int)) <|
  ck ((0:Int)≤d∧d < 4) <|
  if decide ((((gi l a.toNat).Next).get d) < 0) then
   ck (zK (d + 1)) <|
   some (.inl (d + 1))
  else
   ck ((0:Int)≤a∧a < (at_.length:Int)) <|
   ck ((0:Int)≤(((gi l a.toNat).Next).get d)∧(((gi l a.toNat).Next).get d) < (at_.length:Int)) <|
   (if decide ((gi at_ a.toNat).Y=(gi at_ (((gi l a.toNat).Next).get d:Int).toNat).Y) then
    ck ((0:Int)≤i∧i < (at_.length:Int)) <|
    ck ((0:Int)≤w∧w < (at_.length:Int)) <|
    some (decide ((gi at_ i.toNat).X=(gi at_ w.toNat).X))
   else
    some false).bind fun t =>
   (if t then
    ck ((0:Int)≤i∧i < (at_.length:Int)) <|
    some (decide (((gi at_ a.toNat).X) < ((gi at_ i.toNat).X)))
   else
    some false).bind fun t1 =>
   (if t1 then
    ck ((0:Int)≤i∧i < (at_.length:Int)) <|
    some (decide (((gi at_ i.toNat).X) < ((gi at_ (((gi l a.toNat).Next).get d:Int).toNat).X)))
   else
    some false).bind fun t2 =>
   (if t2 then
    ck ((0:Int)≤i∧i < (at_.length:Int)) <|
    some (decide (((gi at_ i.toNat).Y) < ((gi at_ a.toNat).Y)))
   else
    some false).bind fun t3 =>
   (if t3 then
    ck ((0:Int)≤w∧w < (at_.length:Int)) <|
    some (decide (((gi at_ a.toNat).Y) < ((gi at_ w.toNat).Y)))
   else
    some false).bind fun t4 =>
   if t4 then
    some (.inr (.inr ()))
   else
    (if decide ((gi at_ a.toNat).X=(gi at_ (((gi l a.toNat).Next).get d:Int).toNat).X) then
     ck ((0:Int)≤i∧i < (at_.length:Int)) <|
     ck ((0:Int)≤w∧w < (at_.length:Int)) <|
     some (decide ((gi at_ i.toNat).Y=(gi at_ w.toNat).Y))
    else
     some false).bind fun t5 =>
    (if t5 then
     ck ((0:Int)≤i∧i < (at_.length:Int)) <|
     some (decide (((gi at_ i.toNat).X) < ((gi at_ a.toNat).X)))
    else
     some false).bind fun t6 =>
    (if t6 then
     ck ((0:Int)≤w∧w < (at_.length:Int)) <|
     some (decide (((gi at_ a.toNat).X) < ((gi at_ w.toNat).X)))
    else
     some false).bind fun t7 =>
    (if t7 then
     ck ((0:Int)≤i∧i < (at_.length:Int)) <|
     some (decide (((gi at_ a.toNat).Y) < ((gi at_ i.toNat).Y)))
    else
     some false).bind fun t8 =>
    (if t8 then
     ck ((0:Int)≤i∧i < (at_.length:Int)) <|
     some (decide (((gi at_ i.toNat).Y) < ((gi at_ (((gi l a.toNat).Next).get d:Int).toNat).Y)))
    else
     some false).bind fun t9 =>
    if t9 then
     some (.inr (.inr ()))
    else
     ck (zK (d + 1)) <|
     some (.inl (d + 1))
 else
  some (.inr (.inl ()))

def ZD.s0 (at_:List Zv) (l:List Za) (i:Int) (w:Int):Int→Option (Int ⊕ (Unit ⊕ Unit)):=fun a =>
 if decide (a < (l.length:Int)) then
  (
   ZW (ZD.s1 at_ l i w a) big 0:Option (Unit ⊕ Unit)).bind fun o₃=>match o₃ with
  | .inl _ =>
   ck (zK (a + 1)) <|
   some (.inl (a + 1))
  | .inr _ =>
   some (.inr (.inr ()))
 else
  some (.inr (.inl ()))

def ZD (at_:List Zv) (l:List Za) (i:Int) (w:Int):Option Bool :=
 (
  ZW (ZD.s0 at_ l i w) big 0:Option (Unit ⊕ Unit)).bind fun o₁=>match o₁ with
 | .inl _ =>
  some false
 | .inr _ =>
  some true

/-! muntin/muntinref10.with -/
def ZS.s0 (l:List Za) (v:Int) (d:Int) (w:Int) (o:Int):(List Za) × Int→Option (((List Za) × Int) ⊕ (List Za)):=fun (out,i) =>
 if decide (i < (l.length:Int)) then
  ck ((0:Int)≤i∧i < (l.length:Int)) <|
  (
   if decide (i=v) then
    ck ((0:Int)≤d∧d < 4) <|
    some ({ { gi l i.toNat with Next:=((gi l i.toNat).Next).set d w } with Owner:=(({ gi l i.toNat with Next:=((gi l i.toNat).Next).set d w }).Owner).set d o })
   else
    some (gi l i.toNat)).bind fun c =>
  if decide (i=w) then
   ck (zK (d + 2)) <|
   ck ((0:Int)≤((d + 2).tmod 4)∧((d + 2).tmod 4) < 4) <|
   ck (out.length + [{ { c with Next:=c.Next.set ((d + 2).tmod 4) v } with Owner:=(({ c with Next:=c.Next.set ((d + 2).tmod 4) v }).Owner).set ((d + 2).tmod 4) o }].length≤1000000000) <|
   ck (zK (i + 1)) <|
   some (.inl (out++[{ { c with Next:=c.Next.set ((d + 2).tmod 4) v } with Owner:=(({ c with Next:=c.Next.set ((d + 2).tmod 4) v }).Owner).set ((d + 2).tmod 4) o }],i + 1))
  else
   ck (out.length + [c].length≤1000000000) <|
   ck (zK (i + 1)) <|
   some (.inl (out++[c],i + 1))
 else
  some (.inr out)

def ZS (l:List Za) (v:Int) (d:Int) (w:Int) (o:Int):Option (List Za) :=
 (ZW (ZS.s0 l v d w o) big (([]:List Za),0)).bind fun out1 =>
 some out1

/-! muntin/muntinref10.Make -/
def Z8.s1 (z:zj) (at_:List Zv) (i:Int):Bool × Int→Option ((Bool × Int) ⊕ ((List Zv) × Bool)):=fun (met,k_) =>
 if decide (k_ < (at_.length:Int)) then
  (if met then
   some true
  else
   ck ((0:Int)≤k_∧k_ < (at_.length:Int)) <|
   some (decide (gi at_ k_.toNat=(⟨(gi z.At i.toNat).tmod 8,((gi z.At i.toNat).tdiv 8).tmod 8⟩:Zv)))).bind fun t =>
  ck (zK (k_ + 1)) <|
  some (.inl (t,k_ + 1))
 else
  some (.inr (at_,met))

def Z8.s0 (z:zj) (most:Int):(List Zv) × Int→Option (((List Zv) × Int) ⊕ (List Zv)):=fun (at_,i) =>
 if (decide (i < (z.At.length:Int))) && (decide ((at_.length:Int) < most)) then
  ck ((0:Int)≤i∧i < (z.At.length:Int)) <|
  ck (inK .i64 (gi z.At i.toNat)) <|
  ck ((8:Int)≠0∧zK ((gi z.At i.toNat).tdiv 8)) <|
  (ZW (Z8.s1 z at_ i) big (false,0)).bind fun (at_2,met1) =>
  if !met1 then
   ck (at_2.length + [(⟨(gi z.At i.toNat).tmod 8,((gi z.At i.toNat).tdiv 8).tmod 8⟩:Zv)].length≤1000000000) <|
   ck (zK (i + 1)) <|
   some (.inl (at_2++[(⟨(gi z.At i.toNat).tmod 8,((gi z.At i.toNat).tdiv 8).tmod 8⟩:Zv)],i + 1))
  else
   ck (zK (i + 1)) <|
   some (.inl (at_2,i + 1))
 else
  some (.inr at_)

def Z8.s3 (i1:Int) (bits:Int) (at_6:List Zv) (own:Int):(List Za) × Int→Option (((List Za) × Int) ⊕ (List Za)):=fun (l4,d) =>
 if decide (d < 2) then
  (ZE at_6 i1 d).bind fun x1 =>
  ck ((0:Int)≤d) <|
  if (decide (Z4 .u8 (ZT .u8 bits d) 1=0)) || (decide (x1 < 0)) then
   ck (zK (d + 1)) <|
   some (.inl (l4,d + 1))
  else
   (ZD at_6 l4 i1 x1).bind fun x2 =>
   if !x2 then
    (ZS l4 i1 d x1 own).bind fun x3 =>
    ck (zK (d + 1)) <|
    some (.inl (x3,d + 1))
   else
    ck (zK (d + 1)) <|
    some (.inl (l4,d + 1))
 else
  some (.inr l4)

def Z8.s2 (z:zj):(List Zv) × (List Za) × Int→Option (((List Zv) × (List Za) × Int) ⊕ ((List Zv) × (List Za))):=fun (at_3,l,i1) =>
 if decide (i1 < (at_3.length:Int)) then
  (
   if decide (i1 < (z.Bits.length:Int)) then
    ck ((0:Int)≤i1∧i1 < (z.Bits.length:Int)) <|
    some (at_3,l,gi z.Bits i1.toNat)
   else
    some (at_3,l,3)).bind fun (at_5,l2,bits) =>
  (
   if decide (i1 < (z.Own.length:Int)) then
    ck ((0:Int)≤i1∧i1 < (z.Own.length:Int)) <|
    ck (inK .i64 (gi z.Own i1.toNat)) <|
    if decide ((gi z.Own i1.toNat) < (-2)) then
     ck (zK (-(gi z.Own i1.toNat))) <|
     some (at_5,l2,-(gi z.Own i1.toNat))
    else
     some (at_5,l2,gi z.Own i1.toNat)
   else
    some (at_5,l2,i1)).bind fun (at_6,l3,own) =>
  (ZW (Z8.s3 i1 bits at_6 own) big (l3,0)).bind fun l5 =>
  ck (zK (i1 + 1)) <|
  some (.inl (at_6,l5,i1 + 1))
 else
  some (.inr (at_3,l))

def Z8 (z:zj) (most:Int):Option ((List Za) × (List Zv)) :=
 (ZW (Z8.s0 z most) big (([]:List Zv),0)).bind fun at_1 =>
 (Z3 (at_1.length:Int)).bind fun x =>
 (ZW (Z8.s2 z) big (at_1,x,0)).bind fun (at_4,l1) =>
 some (l1,at_4)

/-! muntin/muntinref08.Make -/
def ZV.s0 (z:Zaa) (most:Int):(List Bool) × Int→Option (((List Bool) × Int) ⊕ (List Bool)):=fun (s,i) =>
 if (decide (i < (z.Boxes.length:Int))) && (decide (i < most)) then
  ck ((0:Int)≤i∧i < (z.Boxes.length:Int)) <|
  ck (s.length + [gi z.Boxes i.toNat].length≤1000000000) <|
  ck (zK (i + 1)) <|
  some (.inl (s++[gi z.Boxes i.toNat],i + 1))
 else
  some (.inr s)

def ZV.s2 (z:Zaa) (i1:Int):zH × Int→Option ((zH × Int) ⊕ zH):=fun (e_1,k_) =>
 ck ((0:Int)≤i1∧i1 < (z.Bends.length:Int)) <|
 ck (inK .i64 (gi z.Bends i1.toNat)) <|
 if decide (k_ < ((gi z.Bends i1.toNat).tmod 4)) then
  ck (zK (2 + k_)) <|
  ck ((0:Int)≤(2 + k_)) <|
  if decide (Z4 .u8 (ZT .u8 (gi z.Bends i1.toNat) (2 + k_)) 1=1) then
   ck (e_1.Bends.size + (⟨#[76]⟩:ByteArray).size≤1000000000000) <|
   ck (zK (k_ + 1)) <|
   some (.inl ({ e_1 with Bends:=e_1.Bends++(⟨#[76]⟩:ByteArray) },k_ + 1))
  else
   ck (e_1.Bends.size + (⟨#[82]⟩:ByteArray).size≤1000000000000) <|
   ck (zK (k_ + 1)) <|
   some (.inl ({ e_1 with Bends:=e_1.Bends++(⟨#[82]⟩:ByteArray) },k_ + 1))
 else
  some (.inr e_1)

def ZV.s1 (z:Zaa) (most:Int) (s1:List Bool):(List zH) × Int→Option (((List zH) × Int) ⊕ (List zH)):=fun (s2,i1) =>
 (if decide (i1 < (z.Edges.length:Int)) then
  ck (zK (2 * most)) <|
  some (decide (i1 < (2 * most)))
 else
  some false).bind fun t =>
 if t && (decide (0 < (s1.length:Int))) then
  ck ((0:Int)≤i1∧i1 < (z.Edges.length:Int)) <|
  ck (inK .i64 ((gi z.Edges i1.toNat).get 0)) <|
  ck (((s1.length:Int):Int)≠0) <|
  ck (inK .i64 ((gi z.Edges i1.toNat).get 1)) <|
  ck (inK .i64 ((gi z.Edges i1.toNat).get 2)) <|
  (
   if decide (i1 < (z.Bends.length:Int)) then
    (ZW (ZV.s2 z i1) big ((⟨((gi z.Edges i1.toNat).get 0).tmod (s1.length:Int),((gi z.Edges i1.toNat).get 1).tmod (s1.length:Int),((gi z.Edges i1.toNat).get 2).tmod 4,(⟨#[]⟩:ByteArray)⟩:zH),0)).bind fun e_2 =>
    some e_2
   else
    some (⟨((gi z.Edges i1.toNat).get 0).tmod (s1.length:Int),((gi z.Edges i1.toNat).get 1).tmod (s1.length:Int),((gi z.Edges i1.toNat).get 2).tmod 4,(⟨#[]⟩:ByteArray)⟩:zH)).bind fun e_ =>
  ck (s2.length + [e_].length≤1000000000) <|
  ck (zK (i1 + 1)) <|
  some (.inl (s2++[e_],i1 + 1))
 else
  some (.inr s2)

def ZV (z:Zaa) (most:Int):Option zc :=
 (ZW (ZV.s0 z most) big (([]:List Bool),0)).bind fun s1 =>
 (ZW (ZV.s1 z most s1) big (([]:List zH),0)).bind fun s3 =>
 some (⟨s1,s3⟩:zc)

/-! muntin/muntinref08.turns -/
def zD.s0 (s:ByteArray):Int→Option (Int ⊕ (Unit ⊕ Unit)):=fun i =>
 if decide (i < (s.size:Int)) then
  ck ((0:Int)≤i∧i < (s.size:Int)) <|
  if (!(decide (sAt s i.toNat=76))) && (!(decide (sAt s i.toNat=82))) then
   some (.inr (.inr ()))
  else
   ck (zK (i + 1)) <|
   some (.inl (i + 1))
 else
  some (.inr (.inl ()))

def zD (s:ByteArray):Option Bool :=
 (
  ZW (zD.s0 s) big 0:Option (Unit ⊕ Unit)).bind fun o₁=>match o₁ with
 | .inl _ =>
  some true
 | .inr _ =>
  some false

/-! muntin/muntinref08.Check -/
def zf.s0 (s:zc):Int × Int→Option ((Int × Int) ⊕ Int):=fun (n,i) =>
 if decide (i < (s.Edges.length:Int)) then
  ck ((0:Int)≤i∧i < (s.Edges.length:Int)) <|
  ck (zK (n + (((gi s.Edges i.toNat).Bends).size:Int))) <|
  ck (zK (i + 1)) <|
  some (.inl (n + (((gi s.Edges i.toNat).Bends).size:Int),i + 1))
 else
  some (.inr n)

def zf.s1 (s:zc):Int→Option (Int ⊕ (Unit ⊕ Int)):=fun i1 =>
 if decide (i1 < (s.Edges.length:Int)) then
  ck ((0:Int)≤i1∧i1 < (s.Edges.length:Int)) <|
  if (((decide (((gi s.Edges i1.toNat).From) < 0)) || (decide ((s.Boxes.length:Int)≤((gi s.Edges i1.toNat).From)))) || (decide (((gi s.Edges i1.toNat).To) < 0))) || (decide ((s.Boxes.length:Int)≤((gi s.Edges i1.toNat).To))) then
   some (.inr (.inr 3))
  else
   (zD ((gi s.Edges i1.toNat).Bends)).bind fun x1 =>
   if ((decide (((gi s.Edges i1.toNat).Dir) < 0)) || (decide (3 < ((gi s.Edges i1.toNat).Dir)))) || (!x1) then
    some (.inr (.inr 2))
   else
    ck (zK (i1 + 1)) <|
    some (.inl (i1 + 1))
 else
  some (.inr (.inl ()))

def zf (s:zc):Option Int :=
 (ZW (zf.s0 s) big (0,0)).bind fun n1 =>
 if ((decide (4096 < (s.Boxes.length:Int))) || (decide (4096 < (s.Edges.length:Int)))) || (decide (4096 < n1)) then
  some 6
 else
  (
   ZW (zf.s1 s) big 0:Option (Unit ⊕ Int)).bind fun o₃=>match o₃ with
  | .inl _ =>
   some 0
  | .inr x =>
   some x

/-! muntin/muntinref09.Last -/
def zT.s0 (e_:zH):Int × Int→Option ((Int × Int) ⊕ Int):=fun (d,i) =>
 if decide (i < (e_.Bends.size:Int)) then
  ck ((0:Int)≤i∧i < (e_.Bends.size:Int)) <|
  if decide (sAt e_.Bends i.toNat=76) then
   ck (zK (d + 1)) <|
   ck (zK (i + 1)) <|
   some (.inl ((d + 1).tmod 4,i + 1))
  else
   ck (zK (d + 3)) <|
   ck (zK (i + 1)) <|
   some (.inl ((d + 3).tmod 4,i + 1))
 else
  some (.inr d)

def zT (e_:zH):Option Int :=
 (ZW (zT.s0 e_) big (e_.Dir,0)).bind fun d1 =>
 some d1

/-! muntin/muntinref11.Side -/
def ZaM (e_:zH):Option Int :=
 (zT e_).bind fun x =>
 ck (zK (x + 2)) <|
 some ((x + 2).tmod 4)

/-! muntin/muntinref11.On -/
def zx.s0 (s:zc) (v:Int) (d:Int):(List Int) × Int→Option (((List Int) × Int) ⊕ (List Int)):=fun (l,i) =>
 if decide (i < (s.Edges.length:Int)) then
  ck ((0:Int)≤i∧i < (s.Edges.length:Int)) <|
  (
   if (decide ((gi s.Edges i.toNat).From=v)) && (decide ((gi s.Edges i.toNat).Dir=d)) then
    ck (zK (2 * i)) <|
    ck (l.length + [2 * i].length≤1000000000) <|
    some (l++[2 * i])
   else
    some l).bind fun l2 =>
  (ZaM (gi s.Edges i.toNat)).bind fun x =>
  if (decide ((gi s.Edges i.toNat).To=v)) && (decide (x=d)) then
   ck (zK (2 * i)) <|
   ck (zK ((2 * i) + 1)) <|
   ck (l2.length + [(2 * i) + 1].length≤1000000000) <|
   ck (zK (i + 1)) <|
   some (.inl (l2++[(2 * i) + 1],i + 1))
  else
   ck (zK (i + 1)) <|
   some (.inl (l2,i + 1))
 else
  some (.inr l)

def zx (s:zc) (v:Int) (d:Int):Option (List Int) :=
 (ZW (zx.s0 s v d) big (([]:List Int),0)).bind fun l1 =>
 some l1

/-! muntin/muntinref11.Count -/
def ZQ.s1 (s:zc) (v:Int):Int × Int→Option ((Int × Int) ⊕ Int):=fun (n2,d) =>
 (if decide (d < 4) then
  ck ((0:Int)≤v∧v < (s.Boxes.length:Int)) <|
  some (gi s.Boxes v.toNat)
 else
  some false).bind fun t =>
 if t then
  (zx s v d).bind fun x =>
  ck (zK (n2 + (x.length:Int))) <|
  ck (zK (d + 1)) <|
  some (.inl (n2 + (x.length:Int),d + 1))
 else
  some (.inr n2)

def ZQ.s0 (s:zc):Int × Int→Option ((Int × Int) ⊕ Int):=fun (n,v) =>
 if decide (v < (s.Boxes.length:Int)) then
  ck (zK (n + 1)) <|
  (ZW (ZQ.s1 s v) big (n + 1,0)).bind fun n3 =>
  ck ((0:Int)≤v∧v < (s.Boxes.length:Int)) <|
  if gi s.Boxes v.toNat then
   ck (zK (n3 + 3)) <|
   ck (zK (v + 1)) <|
   some (.inl (n3 + 3,v + 1))
  else
   ck (zK (v + 1)) <|
   some (.inl (n3,v + 1))
 else
  some (.inr n)

def ZQ.s2 (s:zc):Int × Int→Option ((Int × Int) ⊕ Int):=fun (n4,i) =>
 if decide (i < (s.Edges.length:Int)) then
  ck ((0:Int)≤i∧i < (s.Edges.length:Int)) <|
  ck (zK (n4 + (((gi s.Edges i.toNat).Bends).size:Int))) <|
  ck (zK (i + 1)) <|
  some (.inl (n4 + (((gi s.Edges i.toNat).Bends).size:Int),i + 1))
 else
  some (.inr n4)

def ZQ (s:zc):Option Int :=
 (ZW (ZQ.s0 s) big (0,0)).bind fun n1 =>
 (ZW (ZQ.s2 s) big (n1,0)).bind fun n5 =>
 some n5

/-! muntin/muntinref11.Wrong -/
def ZJ.s1 (s:zc) (v:Int):Int→Option (Int ⊕ (Unit ⊕ Unit)):=fun d =>
 (if decide (d < 4) then
  ck ((0:Int)≤v∧v < (s.Boxes.length:Int)) <|
  some (!(gi s.Boxes v.toNat))
 else
  some false).bind fun t =>
 if t then
  (zx s v d).bind fun x2 =>
  if decide (1 < (x2.length:Int)) then
   some (.inr (.inr ()))
  else
   ck (zK (d + 1)) <|
   some (.inl (d + 1))
 else
  some (.inr (.inl ()))

def ZJ.s0 (s:zc):Int→Option (Int ⊕ (Unit ⊕ Unit)):=fun v =>
 if decide (v < (s.Boxes.length:Int)) then
  (
   ZW (ZJ.s1 s v) big 0:Option (Unit ⊕ Unit)).bind fun o₃=>match o₃ with
  | .inl _ =>
   ck (zK (v + 1)) <|
   some (.inl (v + 1))
  | .inr _ =>
   some (.inr (.inr ()))
 else
  some (.inr (.inl ()))

def ZJ.s2 (s:zc):Int→Option (Int ⊕ (Unit ⊕ Unit)):=fun i =>
 if decide (i < (s.Edges.length:Int)) then
  ck ((0:Int)≤i∧i < (s.Edges.length:Int)) <|
  (if (decide ((gi s.Edges i.toNat).From=(gi s.Edges i.toNat).To)) && (((gi s.Edges i.toNat).Bends).toList == (⟨#[]⟩:ByteArray).toList) then
   ck ((0:Int)≤((gi s.Edges i.toNat).From)∧((gi s.Edges i.toNat).From) < (s.Boxes.length:Int)) <|
   some (!(gi s.Boxes ((gi s.Edges i.toNat).From:Int).toNat))
  else
   some false).bind fun t1 =>
  if t1 then
   some (.inr (.inr ()))
  else
   ck (zK (i + 1)) <|
   some (.inl (i + 1))
 else
  some (.inr (.inl ()))

def ZJ (s:zc):Option Int :=
 (zf s).bind fun x =>
 if !(decide (x=0)) then
  some x
 else
  (ZQ s).bind fun x1 =>
  if decide (4096 < x1) then
   some 6
  else
   (
    ZW (ZJ.s0 s) big 0:Option (Unit ⊕ Unit)).bind fun o₁=>match o₁ with
   | .inl _ =>
    (
     ZW (ZJ.s2 s) big 0:Option (Unit ⊕ Unit)).bind fun o₅=>match o₅ with
    | .inl _ =>
     some 0
    | .inr _ =>
     some 10
   | .inr _ =>
    some 8

/-! muntin/muntinref10.Join -/
def ZZ (l:List Za) (v:Int) (d:Int) (w:Int) (o:Int):Option ((List Za) × Int) :=
 if (((((((decide (v < 0)) || (decide ((l.length:Int)≤v))) || (decide (w < 0))) || (decide ((l.length:Int)≤w))) || (decide (v=w))) || (decide (d < 0))) || (decide (3 < d))) || (decide (o < (-2))) then
  some (l,2)
 else
  ck ((0:Int)≤v∧v < (l.length:Int)) <|
  ck ((0:Int)≤d∧d < 4) <|
  (if !(decide (((gi l v.toNat).Next).get d=(-1))) then
   some true
  else
   ck (zK (d + 2)) <|
   ck ((0:Int)≤w∧w < (l.length:Int)) <|
   ck ((0:Int)≤((d + 2).tmod 4)∧((d + 2).tmod 4) < 4) <|
   some (!(decide (((gi l w.toNat).Next).get ((d + 2).tmod 4)=(-1))))).bind fun t =>
  if t then
   some (l,9)
  else
   (ZS l v d w o).bind fun x =>
   some (x,0)

/-! muntin/muntinref11.box -/
def zw.s1 (d:Int) (x1:List Int):(List Za) × (List (A2 Int)) × Int × Int→Option (((List Za) × (List (A2 Int)) × Int × Int) ⊕ ((List Za) × (List (A2 Int)) × Int)):=fun (n5,n6,from_,i) =>
 if decide (i < (x1.length:Int)) then
  (Z3 1).bind fun x2 =>
  ck (n5.length + x2.length≤1000000000) <|
  ck ((0:Int)≤i∧i < (x1.length:Int)) <|
  ck ((2:Int)≠0∧zK ((gi x1 i.toNat).tdiv 2)) <|
  ck ((0:Int)≤((gi x1 i.toNat).tdiv 2)∧((gi x1 i.toNat).tdiv 2) < (n6.length:Int)) <|
  ck ((0:Int)≤((gi x1 i.toNat).tmod 2)∧((gi x1 i.toNat).tmod 2) < 2) <|
  (ZZ (n5++x2) from_ (gi ([1,0,1,0]:List Int) d.toNat) (n5.length:Int) (-1)).bind fun (x3,x4) =>
  ck (zK (i + 1)) <|
  some (.inl (x3,n6.set ((gi x1 i.toNat).tdiv 2:Int).toNat ((gi n6 ((gi x1 i.toNat).tdiv 2:Int).toNat).set ((gi x1 i.toNat).tmod 2) (n5.length:Int)),(n5.length:Int),i + 1))
 else
  some (.inr (n5,n6,from_))

def zw.s0 (n:zR) (s:zc) (v:Int):(List Za) × (List (A2 Int)) × Int→Option (((List Za) × (List (A2 Int)) × Int) ⊕ ((List Za) × (List (A2 Int)))):=fun (n1,n2,d) =>
 if decide (d < 4) then
  ck (zK ((n.Cells.length:Int) + 1)) <|
  ck (zK ((n.Cells.length:Int) + 3)) <|
  ck ((0:Int)≤d∧d < ([(n.Cells.length:Int) + 1,(n.Cells.length:Int) + 3,(n.Cells.length:Int),(n.Cells.length:Int)].length:Int)) <|
  ck (zK ((n.Cells.length:Int) + 2)) <|
  ck ((0:Int)≤d∧d < ([(n.Cells.length:Int) + 2,(n.Cells.length:Int) + 2,(n.Cells.length:Int) + 3,(n.Cells.length:Int) + 1].length:Int)) <|
  ck ((0:Int)≤d∧d < (([1,0,1,0]:List Int).length:Int)) <|
  (zx s v d).bind fun x1 =>
  (ZW (zw.s1 d x1) big (n1,n2,gi [(n.Cells.length:Int) + 1,(n.Cells.length:Int) + 3,(n.Cells.length:Int),(n.Cells.length:Int)] d.toNat,0)).bind fun (n7,n8,from_1) =>
  (ZZ n7 from_1 (gi ([1,0,1,0]:List Int) d.toNat) (gi [(n.Cells.length:Int) + 2,(n.Cells.length:Int) + 2,(n.Cells.length:Int) + 3,(n.Cells.length:Int) + 1] d.toNat) (-1)).bind fun (x5,x6) =>
  ck (zK (d + 1)) <|
  some (.inl (x5,n8,d + 1))
 else
  some (.inr (n1,n2))

def zw (n:zR) (s:zc) (v:Int):Option zR :=
 (Z3 4).bind fun x =>
 ck (n.Cells.length + x.length≤1000000000) <|
 (ZW (zw.s0 n s v) big (n.Cells++x,n.Ends,0)).bind fun (n3,n4) =>
 some (⟨n3,n.First,n4,n.Ways⟩:zR)

/-! muntin/muntinref11.Of -/
def ZC.s2 (n:List Za) (x2:List Int):(List (A2 Int)) × Int→Option (((List (A2 Int)) × Int) ⊕ (List (A2 Int))):=fun (n10,i) =>
 if decide (i < (x2.length:Int)) then
  ck ((0:Int)≤i∧i < (x2.length:Int)) <|
  ck ((2:Int)≠0∧zK ((gi x2 i.toNat).tdiv 2)) <|
  ck ((0:Int)≤((gi x2 i.toNat).tdiv 2)∧((gi x2 i.toNat).tdiv 2) < (n10.length:Int)) <|
  ck ((0:Int)≤((gi x2 i.toNat).tmod 2)∧((gi x2 i.toNat).tmod 2) < 2) <|
  ck (zK (i + 1)) <|
  some (.inl (n10.set ((gi x2 i.toNat).tdiv 2:Int).toNat ((gi n10 ((gi x2 i.toNat).tdiv 2:Int).toNat).set ((gi x2 i.toNat).tmod 2) (n.length:Int)),i + 1))
 else
  some (.inr n10)

def ZC.s1 (s:zc) (n:List Za) (v:Int):(List (A2 Int)) × Int→Option (((List (A2 Int)) × Int) ⊕ (List (A2 Int))):=fun (n8,d) =>
 if decide (d < 4) then
  (zx s v d).bind fun x2 =>
  (ZW (ZC.s2 n x2) big (n8,0)).bind fun n11 =>
  ck (zK (d + 1)) <|
  some (.inl (n11,d + 1))
 else
  some (.inr n8)

def ZC.s0 (s:zc):(List Za) × (List Int) × (List (A2 Int)) × (List (List Int)) × Int→Option (((List Za) × (List Int) × (List (A2 Int)) × (List (List Int)) × Int) ⊕ ((List Za) × (List Int) × (List (A2 Int)) × (List (List Int)))):=fun (n,n1,n2,n3,v) =>
 if decide (v < (s.Boxes.length:Int)) then
  ck (n1.length + [(n.length:Int)].length≤1000000000) <|
  ck ((0:Int)≤v∧v < (s.Boxes.length:Int)) <|
  if gi s.Boxes v.toNat then
   (zw (⟨n,n1++[(n.length:Int)],n2,n3⟩:zR) s v).bind fun x =>
   ck (zK (v + 1)) <|
   some (.inl (x.Cells,x.First,x.Ends,x.Ways,v + 1))
  else
   (Z3 1).bind fun x1 =>
   ck (n.length + x1.length≤1000000000) <|
   (ZW (ZC.s1 s n v) big (n2,0)).bind fun n9 =>
   ck (zK (v + 1)) <|
   some (.inl (n++x1,n1++[(n.length:Int)],n9,n3,v + 1))
 else
  some (.inr (n,n1,n2,n3))

def ZC.s4 (s:zc) (i1:Int):(List Za) × Int × Int × (List Int) × Int→Option (((List Za) × Int × Int × (List Int) × Int) ⊕ ((List Za) × Int × Int × (List Int))):=fun (n16,at_,d1,way,k_) =>
 if decide (k_ < (((gi s.Edges i1.toNat).Bends).size:Int)) then
  (Z3 1).bind fun x3 =>
  ck (n16.length + x3.length≤1000000000) <|
  (ZZ (n16++x3) at_ d1 (n16.length:Int) i1).bind fun (x4,x5) =>
  ck (way.length + [(n16.length:Int)].length≤1000000000) <|
  ck ((0:Int)≤k_∧k_ < (((gi s.Edges i1.toNat).Bends).size:Int)) <|
  if decide (sAt ((gi s.Edges i1.toNat).Bends) k_.toNat=76) then
   ck (zK (d1 + 1)) <|
   ck (zK (k_ + 1)) <|
   some (.inl (x4,(n16.length:Int),(d1 + 1).tmod 4,way++[(n16.length:Int)],k_ + 1))
  else
   ck (zK (d1 + 3)) <|
   ck (zK (k_ + 1)) <|
   some (.inl (x4,(n16.length:Int),(d1 + 3).tmod 4,way++[(n16.length:Int)],k_ + 1))
 else
  some (.inr (n16,at_,d1,way))

def ZC.s3 (s:zc) (n6:List (A2 Int)):(List Za) × (List (List Int)) × Int→Option (((List Za) × (List (List Int)) × Int) ⊕ ((List Za) × (List (List Int)))):=fun (n12,n13,i1) =>
 if decide (i1 < (s.Edges.length:Int)) then
  ck ((0:Int)≤i1∧i1 < (n6.length:Int)) <|
  ck ((0:Int)≤i1∧i1 < (s.Edges.length:Int)) <|
  (ZW (ZC.s4 s i1) big (n12,(gi n6 i1.toNat).get 0,(gi s.Edges i1.toNat).Dir,[(gi n6 i1.toNat).get 0],0)).bind fun (n17,at_1,d2,way1) =>
  (ZZ n17 at_1 d2 ((gi n6 i1.toNat).get 1) i1).bind fun (x6,x7) =>
  ck (way1.length + [(gi n6 i1.toNat).get 1].length≤1000000000) <|
  ck (n13.length + 1≤1000000000) <|
  ck (zK (i1 + 1)) <|
  some (.inl (x6,n13++[way1++[(gi n6 i1.toNat).get 1]],i1 + 1))
 else
  some (.inr (n12,n13))

def ZC (s:zc):Option zR :=
 ck ((0:Int)≤(s.Edges.length:Int)∧(s.Edges.length:Int)≤1000000000) <|
 (ZW (ZC.s0 s) big (([]:List Za),([]:List Int),List.replicate ((s.Edges.length:Int):Int).toNat (⟨0,0⟩:A2 Int),([]:List (List Int)),0)).bind fun (n4,n5,n6,n7) =>
 (ZW (ZC.s3 s n6) big (n4,n7,0)).bind fun (n14,n15) =>
 some (⟨n14,n5,n6,n15⟩:zR)

/-! muntin/compass.Good -/
def Zay (d:Int):Option Bool :=
 some ((decide (0≤d)) && (decide (d≤3)))

/-! muntin/compass.Left -/
def ZaG (d:Int) (times:Int):Option Int :=
 (Zay d).bind fun x =>
 if !x then
  some 0
 else
  ck (zK (d + (times.tmod 4))) <|
  ck (zK ((d + (times.tmod 4)) + 4)) <|
  some (((d + (times.tmod 4)) + 4).tmod 4)

/-! muntin/grid.side -/
def ZbC (cells:List Za) (v:Int) (d:Int):Option Int :=
 ck ((0:Int)≤v∧v < (cells.length:Int)) <|
 ck ((0:Int)≤d∧d < 4) <|
 if decide (((gi cells v.toNat).Next).get d=(-1)) then
  if !(decide (((gi cells v.toNat).Owner).get d=0)) then
   some 9
  else
   some 0
 else
  if ((decide ((((gi cells v.toNat).Next).get d) < 0)) || (decide ((cells.length:Int)≤(((gi cells v.toNat).Next).get d)))) || (decide (((gi cells v.toNat).Next).get d=v)) then
   some 3
  else
   (ZaG d 2).bind fun x =>
   ck ((0:Int)≤(((gi cells v.toNat).Next).get d)∧(((gi cells v.toNat).Next).get d) < (cells.length:Int)) <|
   ck ((0:Int)≤x∧x < 4) <|
   if ((!(decide (((gi cells (((gi cells v.toNat).Next).get d:Int).toNat).Next).get x=v))) || (!(decide (((gi cells (((gi cells v.toNat).Next).get d:Int).toNat).Owner).get x=((gi cells v.toNat).Owner).get d)))) || (decide ((((gi cells v.toNat).Owner).get d) < (-2))) then
    some 9
   else
    some 0

/-! muntin/grid.Check -/
def zu.s1 (cells:List Za) (x:Int):Int→Option (Int ⊕ (Unit ⊕ Int)):=fun x2 =>
 if decide (x2 < 4) then
  (ZbC cells x x2).bind fun x4 =>
  if !(decide (x4=0)) then
   some (.inr (.inr x4))
  else
   ck (zK (x2 + 1)) <|
   some (.inl (x2 + 1))
 else
  some (.inr (.inl ()))

def zu.s0 (cells:List Za):Int→Option (Int ⊕ (Unit ⊕ Int)):=fun x =>
 if decide (x < (cells.length:Int)) then
  (
   ZW (zu.s1 cells x) big 0:Option (Unit ⊕ Int)).bind fun o₃=>match o₃ with
  | .inl _ =>
   ck (zK (x + 1)) <|
   some (.inl (x + 1))
  | .inr x3 =>
   some (.inr (.inr x3))
 else
  some (.inr (.inl ()))

def zu (cells:List Za):Option Int :=
 if decide (4096 < (cells.length:Int)) then
  some 6
 else
  (
   ZW (zu.s0 cells) big 0:Option (Unit ⊕ Int)).bind fun o₁=>match o₁ with
  | .inl _ =>
   some 0
  | .inr x1 =>
   some x1

/-! math/bits.Mul64 -/
def Zcg (x:Int) (y:Int):Option (Int × Int) :=
 some (Zah .u64 (Zah .u64 (zh .u64 (ZT .u64 x 32) (ZT .u64 y 32)) (ZT .u64 (Zah .u64 (zh .u64 (ZT .u64 x 32) (Z4 .u64 y 4294967295)) (ZT .u64 (zh .u64 (Z4 .u64 x 4294967295) (Z4 .u64 y 4294967295)) 32)) 32)) (ZT .u64 (Zah .u64 (Z4 .u64 (Zah .u64 (zh .u64 (ZT .u64 x 32) (Z4 .u64 y 4294967295)) (ZT .u64 (zh .u64 (Z4 .u64 x 4294967295) (Z4 .u64 y 4294967295)) 32)) 4294967295) (zh .u64 (Z4 .u64 x 4294967295) (ZT .u64 y 32))) 32),zh .u64 x y)

/-! math/bits.Mul -/
def ZbR (x:Int) (y:Int):Option (Int × Int) :=
 (Zcg x y).bind fun (x1,x2) =>
 some (x1,x2)

/-! slices.Repeat[[]int,int] -/
def z2.s0:(List Int) × Int→Option (((List Int) × Int) ⊕ (List Int)):=fun (newslice,n) =>
 if decide (n < (newslice.length:Int)) then
  ck ((0:Int)≤n∧n≤(newslice.length:Int)) <|
  ck (zK (n + ((min (newslice.take n.toNat).length (newslice.drop n.toNat).length:Nat):Int))) <|
  some (.inl (newslice.take n.toNat++((newslice.take n.toNat).take (newslice.drop n.toNat).length++(newslice.drop n.toNat).drop (newslice.take n.toNat).length),n + ((min (newslice.take n.toNat).length (newslice.drop n.toNat).length:Nat):Int)))
 else
  some (.inr newslice)

def z2 (x:List Int) (count:Int):Option (List Int) :=
 (
  if decide (count < 0) then
   none
  else
   some ()).bind fun _ =>
 ck (inK .u64 (x.length:Int)) <|
 ck (inK .u64 count) <|
 (ZbR (x.length:Int) count).bind fun (x1,x2) =>
 (
  if (decide (0 < x1)) || (decide (9223372036854775807 < x2)) then
   none
  else
   some ()).bind fun _ =>
 ck (inK .i64 x2) <|
 ck ((0:Int)≤x2∧x2≤1000000000) <|
 (ZW z2.s0 big (x.take (List.replicate x2.toNat (0:Int)).length++(List.replicate x2.toNat (0:Int)).drop x.length,((min x.length (List.replicate x2.toNat (0:Int)).length:Nat):Int))).bind fun newslice1 =>
 some newslice1

/-! muntin/join.spread -/
def zQ.s1 (cells:List Za) (l:List Int):(List Int) × (List Int) × (List Int) × (List Bool) × Int→Option (((List Int) × (List Int) × (List Int) × (List Bool) × Int) ⊕ ((List Int) × (List Int) × (List Int) × (List Bool))):=fun (from_2,dir2,l1,met1,x2) =>
 if decide (x2 < 4) then
  ck ((0:Int)≤(gi l (0:Int).toNat)∧(gi l (0:Int).toNat) < (cells.length:Int)) <|
  ck ((0:Int)≤x2∧x2 < 4) <|
  (if decide (0≤(((gi cells (gi l (0:Int).toNat:Int).toNat).Next).get x2)) then
   ck ((0:Int)≤(((gi cells (gi l (0:Int).toNat:Int).toNat).Next).get x2)∧(((gi cells (gi l (0:Int).toNat:Int).toNat).Next).get x2) < (met1.length:Int)) <|
   some (!(gi met1 (((gi cells (gi l (0:Int).toNat:Int).toNat).Next).get x2:Int).toNat))
  else
   some false).bind fun t =>
  if t then
   ck ((0:Int)≤(((gi cells (gi l (0:Int).toNat:Int).toNat).Next).get x2)∧(((gi cells (gi l (0:Int).toNat:Int).toNat).Next).get x2) < (met1.length:Int)) <|
   ck ((0:Int)≤(((gi cells (gi l (0:Int).toNat:Int).toNat).Next).get x2)∧(((gi cells (gi l (0:Int).toNat:Int).toNat).Next).get x2) < (from_2.length:Int)) <|
   ck ((0:Int)≤(((gi cells (gi l (0:Int).toNat:Int).toNat).Next).get x2)∧(((gi cells (gi l (0:Int).toNat:Int).toNat).Next).get x2) < (dir2.length:Int)) <|
   ck (l1.length + [((gi cells (gi l (0:Int).toNat:Int).toNat).Next).get x2].length≤1000000000) <|
   ck (zK (x2 + 1)) <|
   some (.inl (from_2.set (((gi cells (gi l (0:Int).toNat:Int).toNat).Next).get x2:Int).toNat (gi l (0:Int).toNat),dir2.set (((gi cells (gi l (0:Int).toNat:Int).toNat).Next).get x2:Int).toNat x2,l1++[((gi cells (gi l (0:Int).toNat:Int).toNat).Next).get x2],met1.set (((gi cells (gi l (0:Int).toNat:Int).toNat).Next).get x2:Int).toNat true,x2 + 1))
  else
   ck (zK (x2 + 1)) <|
   some (.inl (from_2,dir2,l1,met1,x2 + 1))
 else
  some (.inr (from_2,dir2,l1,met1))

def zQ.s0 (cells:List Za):(List Int) × (List Int) × (List Int) × (List Bool)→Option (((List Int) × (List Int) × (List Int) × (List Bool)) ⊕ ((List Int) × (List Int))):=fun (from_,dir,l,met) =>
 if decide (0 < (l.length:Int)) then
  ck ((0:Int)≤0∧0 < (l.length:Int)) <|
  ck ((0:Int)≤1∧1≤(l.length:Int)) <|
  (ZW (zQ.s1 cells l) big (from_,dir,l.drop (1:Int).toNat,met,0)).bind fun (from_3,dir3,l2,met2) =>
  some (.inl (from_3,dir3,l2,met2))
 else
  some (.inr (from_,dir))

def zQ (cells:List Za) (v:Int):Option ((List Int) × (List Int)) :=
 (z2 ([(-1)]:List Int) (cells.length:Int)).bind fun x =>
 (z2 ([(-1)]:List Int) (cells.length:Int)).bind fun x1 =>
 ck ((0:Int)≤(cells.length:Int)∧(cells.length:Int)≤1000000000) <|
 ck ((0:Int)≤v∧v < ((List.replicate ((cells.length:Int):Int).toNat false).length:Int)) <|
 (ZW (zQ.s0 cells) big (x,x1,[v],(List.replicate ((cells.length:Int):Int).toNat false).set v.toNat true)).bind fun (from_1,dir1) =>
 some (from_1,dir1)

/-! muntin/join.Parts -/
def zY.s1 (cells:List Za) (x1:Int) (x3:List Int):(List Bool) × (List Int) × Int→Option (((List Bool) × (List Int) × Int) ⊕ ((List Bool) × (List Int))):=fun (met1,part,x4) =>
 if decide (x4 < (cells.length:Int)) then
  (if decide (x4=x1) then
   some true
  else
   ck ((0:Int)≤x4∧x4 < (x3.length:Int)) <|
   some (decide (0≤(gi x3 x4.toNat)))).bind fun t =>
  if t then
   ck ((0:Int)≤x4∧x4 < (met1.length:Int)) <|
   ck (part.length + [x4].length≤1000000000) <|
   ck (zK (x4 + 1)) <|
   some (.inl (met1.set x4.toNat true,part++[x4],x4 + 1))
  else
   ck (zK (x4 + 1)) <|
   some (.inl (met1,part,x4 + 1))
 else
  some (.inr (met1,part))

def zY.s0 (cells:List Za):(List (List Int)) × (List Bool) × Int→Option (((List (List Int)) × (List Bool) × Int) ⊕ (List (List Int))):=fun (l,met,x1) =>
 if decide (x1 < (cells.length:Int)) then
  ck ((0:Int)≤x1∧x1 < (met.length:Int)) <|
  if gi met x1.toNat then
   ck (zK (x1 + 1)) <|
   some (.inl (l,met,x1 + 1))
  else
   (zQ cells x1).bind fun (x2,x3) =>
   (ZW (zY.s1 cells x1 x3) big (met,[],0)).bind fun (met2,part1) =>
   ck (l.length + 1≤1000000000) <|
   ck (zK (x1 + 1)) <|
   some (.inl (l++[part1],met2,x1 + 1))
 else
  some (.inr l)

def zY (cells:List Za):Option ((List (List Int)) × Int) :=
 (zu cells).bind fun x =>
 if !(decide (x=0)) then
  some (([]:List (List Int)),x)
 else
  ck ((0:Int)≤(cells.length:Int)∧(cells.length:Int)≤1000000000) <|
  (ZW (zY.s0 cells) big (([]:List (List Int)),List.replicate ((cells.length:Int):Int).toNat false,0)).bind fun l1 =>
  some (l1,0)

/-! muntin/join.Whole -/
def Zb1 (cells:List Za):Option Bool :=
 (zY cells).bind fun (x,x1) =>
 some ((decide (x1=0)) && (decide ((x.length:Int)=1)))

/-! (muntin/face.Dart).is -/
def Zaz (d:Z0) (cells:List Za):Option Bool :=
 if decide (0≤d.Cell) then
  if decide (d.Cell < (cells.length:Int)) then
   (Zay d.Dir).bind fun x =>
   if x then
    ck ((0:Int)≤d.Cell∧d.Cell < (cells.length:Int)) <|
    ck ((0:Int)≤d.Dir∧d.Dir < 4) <|
    some (decide (0≤(((gi cells (d.Cell:Int).toNat).Next).get d.Dir)))
   else
    some false
  else
   some false
 else
  some false

/-! (muntin/face.Dart).behind -/
def zz.s0 (d:Z0) (cells:List Za):Int→Option (Int ⊕ (Unit ⊕ Z0)):=fun x =>
 if decide (x < 4) then
  ck ((0:Int)≤x∧x < 4) <|
  (ZaG d.Dir ((⟨1,0,(-1),2⟩:A4 Int).get x)).bind fun x2 =>
  (Zaz (⟨((gi cells (d.Cell:Int).toNat).Next).get d.Dir,x2⟩:Z0) cells).bind fun x3 =>
  if x3 then
   some (.inr (.inr (⟨((gi cells (d.Cell:Int).toNat).Next).get d.Dir,x2⟩:Z0)))
  else
   ck (zK (x + 1)) <|
   some (.inl (x + 1))
 else
  some (.inr (.inl ()))

def zz (d:Z0) (cells:List Za):Option Z0 :=
 ck ((0:Int)≤d.Cell∧d.Cell < (cells.length:Int)) <|
 ck ((0:Int)≤d.Dir∧d.Dir < 4) <|
 (
  ZW (zz.s0 d cells) big 0:Option (Unit ⊕ Z0)).bind fun o₁=>match o₁ with
 | .inl _ =>
  some d
 | .inr x1 =>
  some x1

/-! muntin/face.Faces -/
def z5.s2 (cells:List Za):(List (Z0 × Bool)) × (List Z0) × Z0→Option (((List (Z0 × Bool)) × (List Z0) × Z0) ⊕ ((List (Z0 × Bool)) × (List Z0))):=fun (met3,f,x4) =>
 if !(ZdG false x4 met3) then
  ck (f.length + [x4].length≤1000000000) <|
  (zz x4 cells).bind fun x5 =>
  some (.inl (Zdt x4 true met3,f++[x4],x5))
 else
  some (.inr (met3,f))

def z5.s1 (cells:List Za) (x1:Int):(List (List Z0)) × (List (Z0 × Bool)) × Int→Option (((List (List Z0)) × (List (Z0 × Bool)) × Int) ⊕ ((List (List Z0)) × (List (Z0 × Bool)))):=fun (l2,met1,x2) =>
 if decide (x2 < 4) then
  (Zaz (⟨x1,x2⟩:Z0) cells).bind fun x3 =>
  if (!x3) || (ZdG false (⟨x1,x2⟩:Z0) met1) then
   ck (zK (x2 + 1)) <|
   some (.inl (l2,met1,x2 + 1))
  else
   (ZW (z5.s2 cells) big (met1,([]:List Z0),(⟨x1,x2⟩:Z0))).bind fun (met4,f1) =>
   ck (l2.length + 1≤1000000000) <|
   ck (zK (x2 + 1)) <|
   some (.inl (l2++[f1],met4,x2 + 1))
 else
  some (.inr (l2,met1))

def z5.s0 (cells:List Za):(List (List Z0)) × (List (Z0 × Bool)) × Int→Option (((List (List Z0)) × (List (Z0 × Bool)) × Int) ⊕ (List (List Z0))):=fun (l,met,x1) =>
 if decide (x1 < (cells.length:Int)) then
  (ZW (z5.s1 cells x1) big (l,met,0)).bind fun (l3,met2) =>
  ck (zK (x1 + 1)) <|
  some (.inl (l3,met2,x1 + 1))
 else
  some (.inr l)

def z5 (cells:List Za):Option ((List (List Z0)) × Int) :=
 (zu cells).bind fun x =>
 if !(decide (x=0)) then
  some (([]:List (List Z0)),x)
 else
  (ZW (z5.s0 cells) big (([]:List (List Z0)),([]:List (Z0 × Bool)),0)).bind fun l1 =>
  some (l1,0)

/-! muntin/compass.Turn -/
def Zbl (d:Int) (e_:Int):Option Int :=
 (Zay d).bind fun x =>
 (if !x then
  some true
 else
  (Zay e_).bind fun x1 =>
  some (!x1)).bind fun t =>
 if t then
  some 0
 else
  ck (zK (e_ - d)) <|
  ck (zK ((e_ - d) + 4)) <|
  ck ((0:Int)≤(((e_ - d) + 4).tmod 4)∧(((e_ - d) + 4).tmod 4) < 4) <|
  some ((⟨0,1,(-2),(-1)⟩:A4 Int).get (((e_ - d) + 4).tmod 4))

/-! muntin/face.Turns -/
def ZaB.s0 (cells:List Za) (f:List Z0):(List Int) × Int→Option (((List Int) × Int) ⊕ (List Int)):=fun (l,x1) =>
 if decide (x1 < (f.length:Int)) then
  ck ((0:Int)≤x1∧x1 < (f.length:Int)) <|
  (Zaz (gi f x1.toNat) cells).bind fun x2 =>
  if x2 then
   (zz (gi f x1.toNat) cells).bind fun x3 =>
   (Zbl ((gi f x1.toNat).Dir) x3.Dir).bind fun x4 =>
   ck ((0:Int)≤x1∧x1 < (l.length:Int)) <|
   ck (zK (x1 + 1)) <|
   some (.inl (l.set x1.toNat x4,x1 + 1))
  else
   ck (zK (x1 + 1)) <|
   some (.inl (l,x1 + 1))
 else
  some (.inr l)

def ZaB (cells:List Za) (f:List Z0):Option (List Int) :=
 ck ((0:Int)≤(f.length:Int)∧(f.length:Int)≤1000000000) <|
 (zu cells).bind fun x =>
 if !(decide (x=0)) then
  some (List.replicate ((f.length:Int):Int).toNat (0:Int))
 else
  (ZW (ZaB.s0 cells f) big (List.replicate ((f.length:Int):Int).toNat (0:Int),0)).bind fun l1 =>
  some l1

/-! muntin/face.Rotation -/
def Zao.s0 (turns:List Int):Int × Int→Option ((Int × Int) ⊕ Int):=fun (n,x) =>
 if decide (x < (turns.length:Int)) then
  ck ((0:Int)≤x∧x < (turns.length:Int)) <|
  if (decide ((-2)≤(gi turns x.toNat))) && (decide ((gi turns x.toNat)≤1)) then
   ck (zK (n + (gi turns x.toNat))) <|
   ck (zK (x + 1)) <|
   some (.inl (n + (gi turns x.toNat),x + 1))
  else
   ck (zK (x + 1)) <|
   some (.inl (n,x + 1))
 else
  some (.inr n)

def Zao (turns:List Int):Option Int :=
 (ZW (Zao.s0 turns) big (0,0)).bind fun n1 =>
 some n1

/-! muntin/valid.outer -/
def Zai.s0 (cells:List Za) (x:List (List Z0)):Int × Int→Option ((Int × Int) ⊕ (Int ⊕ Unit)):=fun (at_,x2) =>
 if decide (x2 < (x.length:Int)) then
  ck ((0:Int)≤x2∧x2 < (x.length:Int)) <|
  (ZaB cells (gi x x2.toNat)).bind fun x3 =>
  (Zao x3).bind fun x4 =>
  if decide (x4=4) then
   ck (zK (x2 + 1)) <|
   some (.inl (at_,x2 + 1))
  else
   if decide (x4=(-4)) then
    if decide (0≤at_) then
     some (.inr (.inr ()))
    else
     ck (zK (x2 + 1)) <|
     some (.inl (x2,x2 + 1))
   else
    some (.inr (.inr ()))
 else
  some (.inr (.inl at_))

def Zai (cells:List Za):Option (Int × Bool) :=
 (z5 cells).bind fun (x,x1) =>
 (
  ZW (Zai.s0 cells x) big ((-1),0):Option (Int ⊕ Unit)).bind fun o₁=>match o₁ with
 | .inl at_1 =>
  some (at_1,decide (0≤at_1))
 | .inr _ =>
  some (0,false)

/-! muntin/valid.Check -/
def z9 (cells:List Za):Option Int :=
 (zu cells).bind fun x =>
 if !(decide (x=0)) then
  some x
 else
  (Zb1 cells).bind fun x1 =>
  if !x1 then
   some 13
  else
   (Zai cells).bind fun (x2,x3) =>
   if (!x3) && (decide (1 < (cells.length:Int))) then
    some 10
   else
    some 0

/-! muntin/muntinref10.Turned -/
def za.s1 (l:List Za) (v:Int):Za × Int→Option ((Za × Int) ⊕ Za):=fun (c,d) =>
 if decide (d < 4) then
  ck (zK (d + 1)) <|
  ck ((0:Int)≤d∧d < 4) <|
  ck ((0:Int)≤((d + 1).tmod 4)∧((d + 1).tmod 4) < 4) <|
  some (.inl ({ { c with Next:=c.Next.set ((d + 1).tmod 4) (((gi l v.toNat).Next).get d) } with Owner:=(({ c with Next:=c.Next.set ((d + 1).tmod 4) (((gi l v.toNat).Next).get d) }).Owner).set ((d + 1).tmod 4) (((gi l v.toNat).Owner).get d) },d + 1))
 else
  some (.inr c)

def za.s0 (l:List Za):(List Za) × Int→Option (((List Za) × Int) ⊕ (List Za)):=fun (out,v) =>
 if decide (v < (l.length:Int)) then
  ck ((0:Int)≤v∧v < (l.length:Int)) <|
  (ZW (za.s1 l v) big (gi l v.toNat,0)).bind fun c1 =>
  ck (out.length + [c1].length≤1000000000) <|
  ck (zK (v + 1)) <|
  some (.inl (out++[c1],v + 1))
 else
  some (.inr out)

def za (l:List Za):Option (List Za) :=
 (ZW (za.s0 l) big (([]:List Za),0)).bind fun out1 =>
 some out1

/-! muntin/muntinref10.Edge -/
def zU.s0 (l:List Za) (a:Int) (b:Int):Int→Option (Int ⊕ (Unit ⊕ (Int × Int))):=fun i =>
 ck (zK (4 * (l.length:Int))) <|
 if decide (i < (4 * (l.length:Int))) then
  ck (((max (l.length:Int) 1):Int)≠0) <|
  ck (zK (4 * (a.tmod (max (l.length:Int) 1)))) <|
  ck (zK ((4 * (a.tmod (max (l.length:Int) 1))) + (b.tmod 4))) <|
  ck (zK (((4 * (a.tmod (max (l.length:Int) 1))) + (b.tmod 4)) + i)) <|
  ck (((4 * (l.length:Int)):Int)≠0) <|
  ck ((4:Int)≠0∧zK (((((4 * (a.tmod (max (l.length:Int) 1))) + (b.tmod 4)) + i).tmod (4 * (l.length:Int))).tdiv 4)) <|
  ck ((0:Int)≤(((((4 * (a.tmod (max (l.length:Int) 1))) + (b.tmod 4)) + i).tmod (4 * (l.length:Int))).tdiv 4)∧(((((4 * (a.tmod (max (l.length:Int) 1))) + (b.tmod 4)) + i).tmod (4 * (l.length:Int))).tdiv 4) < (l.length:Int)) <|
  ck ((0:Int)≤(((((4 * (a.tmod (max (l.length:Int) 1))) + (b.tmod 4)) + i).tmod (4 * (l.length:Int))).tmod 4)∧(((((4 * (a.tmod (max (l.length:Int) 1))) + (b.tmod 4)) + i).tmod (4 * (l.length:Int))).tmod 4) < 4) <|
  if decide (0≤(((gi l (((((4 * (a.tmod (max (l.length:Int) 1))) + (b.tmod 4)) + i).tmod (4 * (l.length:Int))).tdiv 4:Int).toNat).Next).get (((((4 * (a.tmod (max (l.length:Int) 1))) + (b.tmod 4)) + i).tmod (4 * (l.length:Int))).tmod 4))) then
   some (.inr (.inr (((((4 * (a.tmod (max (l.length:Int) 1))) + (b.tmod 4)) + i).tmod (4 * (l.length:Int))).tdiv 4,((((4 * (a.tmod (max (l.length:Int) 1))) + (b.tmod 4)) + i).tmod (4 * (l.length:Int))).tmod 4)))
  else
   ck (zK (i + 1)) <|
   some (.inl (i + 1))
 else
  some (.inr (.inl ()))

def zU (l:List Za) (a:Int) (b:Int):Option (Int × Int × Bool) :=
 (
  ZW (zU.s0 l a b) big 0:Option (Unit ⊕ (Int × Int))).bind fun o₁=>match o₁ with
 | .inl _ =>
  some (0,0,false)
 | .inr (x,x1) =>
  some (x,x1,true)

/-! muntin/muntinref10.Split -/
def Za1 (l:List Za) (v:Int) (d:Int):Option ((List Za) × Int × Int) :=
 if (((decide (v < 0)) || (decide ((l.length:Int)≤v))) || (decide (d < 0))) || (decide (3 < d)) then
  some (l,0,2)
 else
  ck ((0:Int)≤v∧v < (l.length:Int)) <|
  ck ((0:Int)≤d∧d < 4) <|
  if decide (((gi l v.toNat).Next).get d=(-1)) then
   some (l,0,9)
  else
   if decide (4096≤(l.length:Int)) then
    some (l,0,6)
   else
    (Z3 1).bind fun x =>
    (ZS l (-1) 0 (-1) 0).bind fun x1 =>
    ck ((0:Int)≤0∧0 < (x.length:Int)) <|
    ck (x1.length + [gi x (0:Int).toNat].length≤1000000000) <|
    (ZS (x1++[gi x (0:Int).toNat]) v d (l.length:Int) (((gi l v.toNat).Owner).get d)).bind fun x2 =>
    (ZS x2 (l.length:Int) d (((gi l v.toNat).Next).get d) (((gi l v.toNat).Owner).get d)).bind fun x3 =>
    some (x3,(l.length:Int),0)

/-! muntin/muntinref10.Split -/
/-! muntin/muntinlaw14.square -/
def ZaA:Option (List Za) :=
 (Z3 4).bind fun x =>
 (ZZ x 0 0 1 0).bind fun (x1,x2) =>
 (ZZ x1 1 1 2 0).bind fun (x3,x4) =>
 (ZZ x3 2 2 3 0).bind fun (x5,x6) =>
 (ZZ x5 3 3 0 0).bind fun (x7,x8) =>
 some x7

/-! muntin/valid.Outer -/
def Zbq (cells:List Za):Option (Int × Int) :=
 (z9 cells).bind fun x =>
 if !(decide (x=0)) then
  some (0,x)
 else
  (Zai cells).bind fun (x1,x2) =>
  if !x2 then
   some (0,2)
  else
   some (x1,0)

/-! muntin/muntinlaw14.wakes -/
def ZaU:Option Bool :=
 (ZaA ).bind fun x =>
 (Zbq x).bind fun (x1,x2) =>
 (Z3 1).bind fun x3 =>
 (Zbq x3).bind fun (x4,x5) =>
 (ZaA ).bind fun x6 =>
 (z9 x6).bind fun x7 =>
 (if ((decide (x7=0)) && (decide (x1=1))) && (decide (x2=0)) then
  (Z3 1).bind fun x8 =>
  (z9 x8).bind fun x9 =>
  some (decide (x9=0))
 else
  some false).bind fun t =>
 (if t && (decide (x5=2)) then
  (Z3 2).bind fun x10 =>
  (z9 x10).bind fun x11 =>
  some (decide (x11=13))
 else
  some false).bind fun t1 =>
 (if t1 then
  (z9 ([]:List Za)).bind fun x12 =>
  some (decide (x12=13))
 else
  some false).bind fun t2 =>
 some t2

/-! muntin/muntinlaw14.ValidTurns -/
def zi.s0 (at_:A2 Int) (lists:List (List Za)):Int→Option (Int ⊕ (Unit ⊕ Unit)):=fun x5 =>
 if decide (x5 < (lists.length:Int)) then
  ck ((0:Int)≤x5∧x5 < (lists.length:Int)) <|
  (z9 (gi lists x5.toNat)).bind fun x6 =>
  (za (gi lists x5.toNat)).bind fun x7 =>
  (z9 x7).bind fun x8 =>
  if !(decide (x8=x6)) then
   some (.inr (.inr ()))
  else
   ck (inK .i64 (at_.get 0)) <|
   ck (inK .i64 (at_.get 1)) <|
   (zU (gi lists x5.toNat) (at_.get 0) (at_.get 1)).bind fun (x9,x10,x11) =>
   if x11 then
    (Za1 (gi lists x5.toNat) x9 x10).bind fun (x12,x13,x14) =>
    (z9 x12).bind fun x15 =>
    if !(decide (x15=x6)) then
     some (.inr (.inr ()))
    else
     ck (zK (x5 + 1)) <|
     some (.inl (x5 + 1))
   else
    ck (zK (x5 + 1)) <|
    some (.inl (x5 + 1))
 else
  some (.inr (.inl ()))

def zi (z:zj) (y:Zaa) (at_:A2 Int):Option Bool :=
 (Z8 z 16).bind fun (x,x1) =>
 (ZV y 6).bind fun x2 =>
 (ZJ x2).bind fun x3 =>
 (
  if decide (x3=0) then
   (ZC x2).bind fun x4 =>
   ck ([x].length + 1≤1000000000) <|
   some ([x]++[x4.Cells])
  else
   some [x]).bind fun lists =>
 (
  ZW (zi.s0 at_ lists) big 0:Option (Unit ⊕ Unit)).bind fun o₂=>match o₂ with
 | .inl _ =>
  (ZaU ).bind fun x16 =>
  some x16
 | .inr _ =>
  some false

end Mu
