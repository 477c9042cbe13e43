/- What the functions work out. -/
import Derived.Test.YtdefkboekpjiiaaMuA
import Derived.Test.YtdefkboekpjiiaaMuR
set_option linter.unusedVariables false
set_option linter.unnecessarySimpa false
set_option linter.unusedSimpArgs false
set_option maxHeartbeats 2000000
set_option maxRecDepth 10000
namespace Mu
open Go (IntKind BinOp UnOp)
structure zo where
 At:List Int
 Bits:List Int
 Own:List Int
 deriving DecidableEq,Inhabited
structure Zag where
 Boxes:List Bool
 Edges:List (A3 Int)
 Bends:List Int
 deriving DecidableEq,Inhabited
abbrev Zd8:Enc Int:=⟨1,fun x=>[.i .u8 x],fun _=>rfl⟩
theorem Zd8.one (x:Int):(Zd8.c x).all V.one = true:=rfl
abbrev ZgA:Enc Int:=⟨1,fun x=>[.i .i8 x],fun _=>rfl⟩
theorem ZgA.one (x:Int):(ZgA.c x).all V.one = true:=rfl
abbrev e_bool:Enc Bool:=⟨1,fun x=>[.b x],fun _=>rfl⟩
theorem e_bool.one (x:Bool):(e_bool.c x).all V.one = true:=rfl
abbrev Zc8:Enc (A3 Int):=⟨3,fun x=>[.i .u8 x.a,.i .u8 x.b,.i .u8 x.c],fun _=>rfl⟩
theorem Zc8.one (x:A3 Int):(Zc8.c x).all V.one = true:=rfl
structure Zc where
 Next:A4 Int
 Owner:A4 Int
 deriving DecidableEq,Inhabited
structure Z5 where
 X:Int
 Y:Int
 deriving DecidableEq,Inhabited
abbrev Zl:Enc Z5:=⟨2,fun x=>[.i .i64 x.X,.i .i64 x.Y],fun _=>rfl⟩
theorem Zl.one (x:Z5):(Zl.c x).all V.one = true:=rfl
theorem Zl.same (x y:Z5):zX [.i,.i] (Zl.c x) (Zl.c y) = some (decide (x = y)):=by
 obtain ⟨x1,x2⟩:=x
 obtain ⟨y1,y2⟩:=y
 refine (ZdK (ZdK Ze3)).trans ?_
 congr 1
 rw [Bool.eq_iff_iff]
 simp [and_assoc]
abbrev Zf:Enc Zc:=⟨8,fun x=>[.i .i64 x.Next.a,.i .i64 x.Next.b,.i .i64 x.Next.c,.i .i64 x.Next.d,.i .i64 x.Owner.a,.i .i64 x.Owner.b,.i .i64 x.Owner.c,.i .i64 x.Owner.d],fun _=>rfl⟩
theorem Zf.one (x:Zc):(Zf.c x).all V.one = true:=rfl
structure z8 where
 From:Int
 To:Int
 Dir:Int
 Bends:ByteArray
 deriving DecidableEq,Inhabited
abbrev Zr:Enc z8:=⟨4,fun x=>[.i .i64 x.From,.i .i64 x.To,.i .i64 x.Dir,.s x.Bends],fun _=>rfl⟩
theorem Zr.one (x:z8):(Zr.c x).all V.one = true:=rfl
structure zk where
 Boxes:List Bool
 Edges:List z8
 deriving DecidableEq,Inhabited
abbrev zJ:Enc (A2 Int):=⟨2,fun x=>[.i .i64 x.a,.i .i64 x.b],fun _=>rfl⟩
theorem zJ.one (x:A2 Int):(zJ.c x).all V.one = true:=rfl
structure zZ where
 Cells:List Zc
 First:List Int
 Ends:List (A2 Int)
 Ways:List (List Int)
 deriving DecidableEq,Inhabited
structure Zs where
 Cell:Int
 Dir:Int
 deriving DecidableEq,Inhabited
abbrev Zg:Enc Zs:=⟨2,fun x=>[.i .i64 x.Cell,.i .i64 x.Dir],fun _=>rfl⟩
theorem Zg.one (x:Zs):(Zg.c x).all V.one = true:=rfl
theorem Zg.same (x y:Zs):zX [.i,.i] (Zg.c x) (Zg.c y) = some (decide (x = y)):=by
 obtain ⟨x1,x2⟩:=x
 obtain ⟨y1,y2⟩:=y
 refine (ZdK (ZdK Ze3)).trans ?_
 congr 1
 rw [Bool.eq_iff_iff]
 simp [and_assoc]
abbrev Zbk:Enc (A4 Int):=⟨4,fun x=>[.i .i64 x.a,.i .i64 x.b,.i .i64 x.c,.i .i64 x.d],fun _=>rfl⟩
theorem Zbk.one (x:A4 Int):(Zbk.c x).all V.one = true:=rfl
structure Z0 where
 Cell:Int
 Dir:Int
 deriving DecidableEq,Inhabited
abbrev Zn:Enc Z0:=⟨2,fun x=>[.i .i64 x.Cell,.i .i64 x.Dir],fun _=>rfl⟩
theorem Zn.one (x:Z0):(Zn.c x).all V.one = true:=rfl
def ZdM (x:Int):Prop:=Wf .u8 x
def ZgW (x:Int):Prop:=Wf .i8 x
def ZfG (x:Bool):Prop:=True
def ZdW (x:A3 Int):Prop:=Wf .u8 x.a∧Wf .u8 x.b∧Wf .u8 x.c
/-! muntin/muntinref10.New -/
def ZE.s1 (v:Int):(List Zc) × Int→Option (((List Zc) × Int) ⊕ (List Zc)):=fun (l2,d) =>
 if decide (d < 4) then
  ck ((0:Int)≤v∧v < (l2.length:Int)) <|
  ck ((0:Int)≤d∧d < 4) <|
  ck (zH (d + 1)) <|
  some (.inl (l2.set v.toNat ({ gi l2 v.toNat with Next:=((gi l2 v.toNat).Next).set d (-1) }),d + 1))
 else
  some (.inr l2)

def ZE.s0 (n:Int):(List Zc) × Int→Option (((List Zc) × Int) ⊕ (List Zc)):=fun (l,v) =>
 if decide (v < n) then
  (za (ZE.s1 v) big (l,0)).bind fun l3 =>
  ck (zH (v + 1)) <|
  some (.inl (l3,v + 1))
 else
  some (.inr l)

def ZE (n:Int):Option (List Zc) :=
 ck ((0:Int)≤n∧n≤1000000000) <|
 (za (ZE.s0 n) big (List.replicate n.toNat (⟨⟨0,0,0,0⟩,⟨0,0,0,0⟩⟩:Zc),0)).bind fun l1 =>
 some l1

/-! muntin/muntinref10.Nearest -/
def ZQ.s0 (at_:List Z5) (i:Int) (d:Int):Int × Int→Option ((Int × Int) ⊕ Int):=fun (best,k_) =>
 if decide (k_ < (at_.length:Int)) then
  (if decide (d = 0) then
   ck ((0:Int)≤k_∧k_ < (at_.length:Int)) <|
   ck ((0:Int)≤i∧i < (at_.length:Int)) <|
   some (decide ((gi at_ k_.toNat).Y = (gi at_ i.toNat).Y))
  else
   some false).bind fun t =>
  (if t then
   ck ((0:Int)≤k_∧k_ < (at_.length:Int)) <|
   ck ((0:Int)≤i∧i < (at_.length:Int)) <|
   some (decide (((gi at_ i.toNat).X) < ((gi at_ k_.toNat).X)))
  else
   some false).bind fun t1 =>
  (if t1 then
   (if decide (best < 0) then
    some true
   else
    ck ((0:Int)≤k_∧k_ < (at_.length:Int)) <|
    ck ((0:Int)≤best∧best < (at_.length:Int)) <|
    some (decide (((gi at_ k_.toNat).X) < ((gi at_ best.toNat).X)))).bind fun t3 =>
   some t3
  else
   some false).bind fun t2 =>
  (
   if t2 then
    some k_
   else
    some best).bind fun best2 =>
  (if decide (d = 1) then
   ck ((0:Int)≤k_∧k_ < (at_.length:Int)) <|
   ck ((0:Int)≤i∧i < (at_.length:Int)) <|
   some (decide ((gi at_ k_.toNat).X = (gi at_ i.toNat).X))
  else
   some false).bind fun t4 =>
  (if t4 then
   ck ((0:Int)≤k_∧k_ < (at_.length:Int)) <|
   ck ((0:Int)≤i∧i < (at_.length:Int)) <|
   some (decide (((gi at_ i.toNat).Y) < ((gi at_ k_.toNat).Y)))
  else
   some false).bind fun t5 =>
  (if t5 then
   (if decide (best2 < 0) then
    some true
   else
    ck ((0:Int)≤k_∧k_ < (at_.length:Int)) <|
    ck ((0:Int)≤best2∧best2 < (at_.length:Int)) <|
    some (decide (((gi at_ k_.toNat).Y) < ((gi at_ best2.toNat).Y)))).bind fun t7 =>
   some t7
  else
   some false).bind fun t6 =>
  if t6 then
   ck (zH (k_ + 1)) <|
   some (.inl (k_,k_ + 1))
  else
   ck (zH (k_ + 1)) <|
   some (.inl (best2,k_ + 1))
 else
  some (.inr best)

def ZQ (at_:List Z5) (i:Int) (d:Int):Option Int :=
 (za (ZQ.s0 at_ i d) big ((-1),0)).bind fun best1 =>
 some best1

/-! muntin/muntinref10.Crossed -/
def ZP.s1 (at_:List Z5) (l:List Zc) (i:Int) (w:Int) (a:Int):Int→Option (Int ⊕ (Unit ⊕ Unit)):=fun d =>
 if decide (d < 2) then
  ck ((0:Int)≤a∧a < (l.length:Int)) <|
  ck ((0:Int)≤d∧d < 4) <|
  if decide ((((gi l a.toNat).Next).get d) < 0) then
   ck (zH (d + 1)) <|
   some (.inl (d + 1))
  else
   ck ((0:Int)≤a∧a < (at_.length:Int)) <|
   ck ((0:Int)≤(((gi l a.toNat).Next).get d)∧(((gi l a.toNat).Next).get d) < (at_.length:Int)) <|
   (if decide ((gi at_ a.toNat).Y = (gi at_ (((gi l a.toNat).Next).get d:Int).toNat).Y) then
    ck ((0:Int)≤i∧i < (at_.length:Int)) <|
    ck ((0:Int)≤w∧w < (at_.length:Int)) <|
    some (decide ((gi at_ i.toNat).X = (gi at_ w.toNat).X))
   else
    some false).bind fun t =>
   (if t then
    ck ((0:Int)≤i∧i < (at_.length:Int)) <|
    some (decide (((gi at_ a.toNat).X) < ((gi at_ i.toNat).X)))
   else
    some false).bind fun t1 =>
   (if t1 then
    ck ((0:Int)≤i∧i < (at_.length:Int)) <|
    some (decide (((gi at_ i.toNat).X) < ((gi at_ (((gi l a.toNat).Next).get d:Int).toNat).X)))
   else
    some false).bind fun t2 =>
   (if t2 then
    ck ((0:Int)≤i∧i < (at_.length:Int)) <|
    some (decide (((gi at_ i.toNat).Y) < ((gi at_ a.toNat).Y)))
   else
    some false).bind fun t3 =>
   (if t3 then
    ck ((0:Int)≤w∧w < (at_.length:Int)) <|
    some (decide (((gi at_ a.toNat).Y) < ((gi at_ w.toNat).Y)))
   else
    some false).bind fun t4 =>
   if t4 then
    some (.inr (.inr ()))
   else
    (if decide ((gi at_ a.toNat).X = (gi at_ (((gi l a.toNat).Next).get d:Int).toNat).X) then
     ck ((0:Int)≤i∧i < (at_.length:Int)) <|
     ck ((0:Int)≤w∧w < (at_.length:Int)) <|
     some (decide ((gi at_ i.toNat).Y = (gi at_ w.toNat).Y))
    else
     some false).bind fun t5 =>
    (if t5 then
     ck ((0:Int)≤i∧i < (at_.length:Int)) <|
     some (decide (((gi at_ i.toNat).X) < ((gi at_ a.toNat).X)))
    else
     some false).bind fun t6 =>
    (if t6 then
     ck ((0:Int)≤w∧w < (at_.length:Int)) <|
     some (decide (((gi at_ a.toNat).X) < ((gi at_ w.toNat).X)))
    else
     some false).bind fun t7 =>
    (if t7 then
     ck ((0:Int)≤i∧i < (at_.length:Int)) <|
     some (decide (((gi at_ a.toNat).Y) < ((gi at_ i.toNat).Y)))
    else
     some false).bind fun t8 =>
    (if t8 then
     ck ((0:Int)≤i∧i < (at_.length:Int)) <|
     some (decide (((gi at_ i.toNat).Y) < ((gi at_ (((gi l a.toNat).Next).get d:Int).toNat).Y)))
    else
     some false).bind fun t9 =>
    if t9 then
     some (.inr (.inr ()))
    else
     ck (zH (d + 1)) <|
     some (.inl (d + 1))
 else
  some (.inr (.inl ()))

def ZP.s0 (at_:List Z5) (l:List Zc) (i:Int) (w:Int):Int→Option (Int ⊕ (Unit ⊕ Unit)):=fun a =>
 if decide (a < (l.length:Int)) then
  (
   za (ZP.s1 at_ l i w a) big 0:Option (Unit ⊕ Unit)).bind fun o₃=>match o₃ with
  | .inl _ =>
   ck (zH (a + 1)) <|
   some (.inl (a + 1))
  | .inr _ =>
   some (.inr (.inr ()))
 else
  some (.inr (.inl ()))

def ZP (at_:List Z5) (l:List Zc) (i:Int) (w:Int):Option Bool :=
 (
  za (ZP.s0 at_ l i w) big 0:Option (Unit ⊕ Unit)).bind fun o₁=>match o₁ with
 | .inl _ =>
  some false
 | .inr _ =>
  some true

/-! muntin/muntinref10.with -/
def zK.s0 (l:List Zc) (v:Int) (d:Int) (w:Int) (o:Int):(List Zc) × Int→Option (((List Zc) × Int) ⊕ (List Zc)):=fun (out,i) =>
 if decide (i < (l.length:Int)) then
  ck ((0:Int)≤i∧i < (l.length:Int)) <|
  (
   if decide (i = v) then
    ck ((0:Int)≤d∧d < 4) <|
    some ({ { gi l i.toNat with Next:=((gi l i.toNat).Next).set d w } with Owner:=(({ gi l i.toNat with Next:=((gi l i.toNat).Next).set d w }).Owner).set d o })
   else
    some (gi l i.toNat)).bind fun c =>
  if decide (i = w) then
   ck (zH (d + 2)) <|
   ck ((0:Int)≤((d + 2).tmod 4)∧((d + 2).tmod 4) < 4) <|
   ck (out.length + [{ { c with Next:=c.Next.set ((d + 2).tmod 4) v } with Owner:=(({ c with Next:=c.Next.set ((d + 2).tmod 4) v }).Owner).set ((d + 2).tmod 4) o }].length≤1000000000) <|
   ck (zH (i + 1)) <|
   some (.inl (out++[{ { c with Next:=c.Next.set ((d + 2).tmod 4) v } with Owner:=(({ c with Next:=c.Next.set ((d + 2).tmod 4) v }).Owner).set ((d + 2).tmod 4) o }],i + 1))
  else
   ck (out.length + [c].length≤1000000000) <|
   ck (zH (i + 1)) <|
   some (.inl (out++[c],i + 1))
 else
  some (.inr out)

def zK (l:List Zc) (v:Int) (d:Int) (w:Int) (o:Int):Option (List Zc) :=
 (za (zK.s0 l v d w o) big (([]:List Zc),0)).bind fun out1 =>
 some out1

/-! muntin/muntinref10.Make -/
def ZF.s1 (z:zo) (at_:List Z5) (i:Int):Bool × Int→Option ((Bool × Int) ⊕ ((List Z5) × Bool)):=fun (met,k_) =>
 if decide (k_ < (at_.length:Int)) then
  (if met then
   some true
  else
   ck ((0:Int)≤k_∧k_ < (at_.length:Int)) <|
   some (decide (gi at_ k_.toNat = (⟨(gi z.At i.toNat).tmod 8,((gi z.At i.toNat).tdiv 8).tmod 8⟩:Z5)))).bind fun t =>
  ck (zH (k_ + 1)) <|
  some (.inl (t,k_ + 1))
 else
  some (.inr (at_,met))

def ZF.s0 (z:zo) (most:Int):(List Z5) × Int→Option (((List Z5) × Int) ⊕ (List Z5)):=fun (at_,i) =>
 if (decide (i < (z.At.length:Int))) && (decide ((at_.length:Int) < most)) then
  ck ((0:Int)≤i∧i < (z.At.length:Int)) <|
  ck (inK .i64 (gi z.At i.toNat)) <|
  ck ((8:Int)≠0∧zH ((gi z.At i.toNat).tdiv 8)) <|
  (za (ZF.s1 z at_ i) big (false,0)).bind fun (at_2,met1) =>
  if !met1 then
   ck (at_2.length + [(⟨(gi z.At i.toNat).tmod 8,((gi z.At i.toNat).tdiv 8).tmod 8⟩:Z5)].length≤1000000000) <|
   ck (zH (i + 1)) <|
   some (.inl (at_2++[(⟨(gi z.At i.toNat).tmod 8,((gi z.At i.toNat).tdiv 8).tmod 8⟩:Z5)],i + 1))
  else
   ck (zH (i + 1)) <|
   some (.inl (at_2,i + 1))
 else
  some (.inr at_)

def ZF.s3 (i1:Int) (bits:Int) (at_6:List Z5) (own:Int):(List Zc) × Int→Option (((List Zc) × Int) ⊕ (List Zc)):=fun (l4,d) =>
 if decide (d < 2) then
  (ZQ at_6 i1 d).bind fun x1 =>
  ck ((0:Int)≤d) <|
  if (decide (Zx .u8 (Z9 .u8 bits d) 1 = 0)) || (decide (x1 < 0)) then
   ck (zH (d + 1)) <|
   some (.inl (l4,d + 1))
  else
   (ZP at_6 l4 i1 x1).bind fun x2 =>
   if !x2 then
    (zK l4 i1 d x1 own).bind fun x3 =>
    ck (zH (d + 1)) <|
    some (.inl (x3,d + 1))
   else
    ck (zH (d + 1)) <|
    some (.inl (l4,d + 1))
 else
  some (.inr l4)

def ZF.s2 (z:zo):(List Z5) × (List Zc) × Int→Option (((List Z5) × (List Zc) × Int) ⊕ ((List Z5) × (List Zc))):=fun (at_3,l,i1) =>
 if decide (i1 < (at_3.length:Int)) then
  (
   if decide (i1 < (z.Bits.length:Int)) then
    ck ((0:Int)≤i1∧i1 < (z.Bits.length:Int)) <|
    some (at_3,l,gi z.Bits i1.toNat)
   else
    some (at_3,l,3)).bind fun (at_5,l2,bits) =>
  (
   if decide (i1 < (z.Own.length:Int)) then
    ck ((0:Int)≤i1∧i1 < (z.Own.length:Int)) <|
    ck (inK .i64 (gi z.Own i1.toNat)) <|
    if decide ((gi z.Own i1.toNat) < (-2)) then
     ck (zH (-(gi z.Own i1.toNat))) <|
     some (at_5,l2,-(gi z.Own i1.toNat))
    else
     some (at_5,l2,gi z.Own i1.toNat)
   else
    some (at_5,l2,i1)).bind fun (at_6,l3,own) =>
  (za (ZF.s3 i1 bits at_6 own) big (l3,0)).bind fun l5 =>
  ck (zH (i1 + 1)) <|
  some (.inl (at_6,l5,i1 + 1))
 else
  some (.inr (at_3,l))

def ZF (z:zo) (most:Int):Option ((List Zc) × (List Z5)) :=
 (za (ZF.s0 z most) big (([]:List Z5),0)).bind fun at_1 =>
 (ZE (at_1.length:Int)).bind fun x =>
 (za (ZF.s2 z) big (at_1,x,0)).bind fun (at_4,l1) =>
 some (l1,at_4)

/-! muntin/muntinref08.Make -/
def ze.s0 (z:Zag) (most:Int):(List Bool) × Int→Option (((List Bool) × Int) ⊕ (List Bool)):=fun (s,i) =>
 if (decide (i < (z.Boxes.length:Int))) && (decide (i < most)) then
  ck ((0:Int)≤i∧i < (z.Boxes.length:Int)) <|
  ck (s.length + [gi z.Boxes i.toNat].length≤1000000000) <|
  ck (zH (i + 1)) <|
  some (.inl (s++[gi z.Boxes i.toNat],i + 1))
 else
  some (.inr s)

def ze.s2 (z:Zag) (i1:Int):z8 × Int→Option ((z8 × Int) ⊕ z8):=fun (e_1,k_) =>
 ck ((0:Int)≤i1∧i1 < (z.Bends.length:Int)) <|
 ck (inK .i64 (gi z.Bends i1.toNat)) <|
 if decide (k_ < ((gi z.Bends i1.toNat).tmod 4)) then
  ck (zH (2 + k_)) <|
  ck ((0:Int)≤(2 + k_)) <|
  if decide (Zx .u8 (Z9 .u8 (gi z.Bends i1.toNat) (2 + k_)) 1 = 1) then
   ck (e_1.Bends.size + (⟨#[76]⟩:ByteArray).size≤1000000000000) <|
   ck (zH (k_ + 1)) <|
   some (.inl ({ e_1 with Bends:=e_1.Bends++(⟨#[76]⟩:ByteArray) },k_ + 1))
  else
   ck (e_1.Bends.size + (⟨#[82]⟩:ByteArray).size≤1000000000000) <|
   ck (zH (k_ + 1)) <|
   some (.inl ({ e_1 with Bends:=e_1.Bends++(⟨#[82]⟩:ByteArray) },k_ + 1))
 else
  some (.inr e_1)

def ze.s1 (z:Zag) (most:Int) (s1:List Bool):(List z8) × Int→Option (((List z8) × Int) ⊕ (List z8)):=fun (s2,i1) =>
 (if decide (i1 < (z.Edges.length:Int)) then
  ck (zH (2 * most)) <|
  some (decide (i1 < (2 * most)))
 else
  some false).bind fun t =>
 if t && (decide (0 < (s1.length:Int))) then
  ck ((0:Int)≤i1∧i1 < (z.Edges.length:Int)) <|
  ck (inK .i64 ((gi z.Edges i1.toNat).get 0)) <|
  ck (((s1.length:Int):Int)≠0) <|
  ck (inK .i64 ((gi z.Edges i1.toNat).get 1)) <|
  ck (inK .i64 ((gi z.Edges i1.toNat).get 2)) <|
  (
   if decide (i1 < (z.Bends.length:Int)) then
    (za (ze.s2 z i1) big ((⟨((gi z.Edges i1.toNat).get 0).tmod (s1.length:Int),((gi z.Edges i1.toNat).get 1).tmod (s1.length:Int),((gi z.Edges i1.toNat).get 2).tmod 4,(⟨#[]⟩:ByteArray)⟩:z8),0)).bind fun e_2 =>
    some e_2
   else
    some (⟨((gi z.Edges i1.toNat).get 0).tmod (s1.length:Int),((gi z.Edges i1.toNat).get 1).tmod (s1.length:Int),((gi z.Edges i1.toNat).get 2).tmod 4,(⟨#[]⟩:ByteArray)⟩:z8)).bind fun e_ =>
  ck (s2.length + [e_].length≤1000000000) <|
  ck (zH (i1 + 1)) <|
  some (.inl (s2++[e_],i1 + 1))
 else
  some (.inr s2)

def ze (z:Zag) (most:Int):Option zk :=
 (za (ze.s0 z most) big (([]:List Bool),0)).bind fun s1 =>
 (za (ze.s1 z most s1) big (([]:List z8),0)).bind fun s3 =>
 some (⟨s1,s3⟩:zk)

/-! muntin/muntinref08.turns -/
def zM.s0 (s:ByteArray):Int→Option (Int ⊕ (Unit ⊕ Unit)):=fun i =>
 if decide (i < (s.size:Int)) then
  ck ((0:Int)≤i∧i < (s.size:Int)) <|
  if (!(decide (sAt s i.toNat = 76))) && (!(decide (sAt s i.toNat = 82))) then
   some (.inr (.inr ()))
  else
   ck (zH (i + 1)) <|
   some (.inl (i + 1))
 else
  some (.inr (.inl ()))

def zM (s:ByteArray):Option Bool :=
 (
  za (zM.s0 s) big 0:Option (Unit ⊕ Unit)).bind fun o₁=>match o₁ with
 | .inl _ =>
  some true
 | .inr _ =>
  some false

/-! muntin/muntinref08.Check -/
def zl.s0 (s:zk):Int × Int→Option ((Int × Int) ⊕ Int):=fun (n,i) =>
 if decide (i < (s.Edges.length:Int)) then
  ck ((0:Int)≤i∧i < (s.Edges.length:Int)) <|
  ck (zH (n + (((gi s.Edges i.toNat).Bends).size:Int))) <|
  ck (zH (i + 1)) <|
  some (.inl (n + (((gi s.Edges i.toNat).Bends).size:Int),i + 1))
 else
  some (.inr n)

def zl.s1 (s:zk):Int→Option (Int ⊕ (Unit ⊕ Int)):=fun i1 =>
 if decide (i1 < (s.Edges.length:Int)) then
  ck ((0:Int)≤i1∧i1 < (s.Edges.length:Int)) <|
  if (((decide (((gi s.Edges i1.toNat).From) < 0)) || (decide ((s.Boxes.length:Int)≤((gi s.Edges i1.toNat).From)))) || (decide (((gi s.Edges i1.toNat).To) < 0))) || (decide ((s.Boxes.length:Int)≤((gi s.Edges i1.toNat).To))) then
   some (.inr (.inr 3))
  else
   (zM ((gi s.Edges i1.toNat).Bends)).bind fun x1 =>
   if ((decide (((gi s.Edges i1.toNat).Dir) < 0)) || (decide (3 < ((gi s.Edges i1.toNat).Dir)))) || (!x1) then
    some (.inr (.inr 2))
   else
    ck (zH (i1 + 1)) <|
    some (.inl (i1 + 1))
 else
  some (.inr (.inl ()))

def zl (s:zk):Option Int :=
 (za (zl.s0 s) big (0,0)).bind fun n1 =>
 if ((decide (4096 < (s.Boxes.length:Int))) || (decide (4096 < (s.Edges.length:Int)))) || (decide (4096 < n1)) then
  some 6
 else
  (
   za (zl.s1 s) big 0:Option (Unit ⊕ Int)).bind fun o₃=>match o₃ with
  | .inl _ =>
   some 0
  | .inr x =>
   some x

/-! muntin/muntinref09.Last -/
def Zab.s0 (e_:z8):Int × Int→Option ((Int × Int) ⊕ Int):=fun (d,i) =>
 if decide (i < (e_.Bends.size:Int)) then
  ck ((0:Int)≤i∧i < (e_.Bends.size:Int)) <|
  if decide (sAt e_.Bends i.toNat = 76) then
   ck (zH (d + 1)) <|
   ck (zH (i + 1)) <|
   some (.inl ((d + 1).tmod 4,i + 1))
  else
   ck (zH (d + 3)) <|
   ck (zH (i + 1)) <|
   some (.inl ((d + 3).tmod 4,i + 1))
 else
  some (.inr d)

def Zab (e_:z8):Option Int :=
 (za (Zab.s0 e_) big (e_.Dir,0)).bind fun d1 =>
 some d1

/-! muntin/muntinref11.Side -/
def ZaK (e_:z8):Option Int :=
 (Zab e_).bind fun x =>
 ck (zH (x + 2)) <|
 some ((x + 2).tmod 4)

/-! muntin/muntinref11.On -/
def z7.s0 (s:zk) (v:Int) (d:Int):(List Int) × Int→Option (((List Int) × Int) ⊕ (List Int)):=fun (l,i) =>
 if decide (i < (s.Edges.length:Int)) then
  ck ((0:Int)≤i∧i < (s.Edges.length:Int)) <|
  (
   if (decide ((gi s.Edges i.toNat).From = v)) && (decide ((gi s.Edges i.toNat).Dir = d)) then
    ck (zH (2 * i)) <|
    ck (l.length + [2 * i].length≤1000000000) <|
    some (l++[2 * i])
   else
    some l).bind fun l2 =>
  (ZaK (gi s.Edges i.toNat)).bind fun x =>
  if (decide ((gi s.Edges i.toNat).To = v)) && (decide (x = d)) then
   ck (zH (2 * i)) <|
   ck (zH ((2 * i) + 1)) <|
   ck (l2.length + [(2 * i) + 1].length≤1000000000) <|
   ck (zH (i + 1)) <|
   some (.inl (l2++[(2 * i) + 1],i + 1))
  else
   ck (zH (i + 1)) <|
   some (.inl (l2,i + 1))
 else
  some (.inr l)

def z7 (s:zk) (v:Int) (d:Int):Option (List Int) :=
 (za (z7.s0 s v d) big (([]:List Int),0)).bind fun l1 =>
 some l1

/-! muntin/muntinref11.Count -/
def ZZ.s1 (s:zk) (v:Int):Int × Int→Option ((Int × Int) ⊕ Int):=fun (n2,d) =>
 (if decide (d < 4) then
  ck ((0:Int)≤v∧v < (s.Boxes.length:Int)) <|
  some (gi s.Boxes v.toNat)
 else
  some false).bind fun t =>
 if t then
  (z7 s v d).bind fun x =>
  ck (zH (n2 + (x.length:Int))) <|
  ck (zH (d + 1)) <|
  some (.inl (n2 + (x.length:Int),d + 1))
 else
  some (.inr n2)

def ZZ.s0 (s:zk):Int × Int→Option ((Int × Int) ⊕ Int):=fun (n,v) =>
 if decide (v < (s.Boxes.length:Int)) then
  ck (zH (n + 1)) <|
  (za (ZZ.s1 s v) big (n + 1,0)).bind fun n3 =>
  ck ((0:Int)≤v∧v < (s.Boxes.length:Int)) <|
  if gi s.Boxes v.toNat then
   ck (zH (n3 + 3)) <|
   ck (zH (v + 1)) <|
   some (.inl (n3 + 3,v + 1))
  else
   ck (zH (v + 1)) <|
   some (.inl (n3,v + 1))
 else
  some (.inr n)

def ZZ.s2 (s:zk):Int × Int→Option ((Int × Int) ⊕ Int):=fun (n4,i) =>
 if decide (i < (s.Edges.length:Int)) then
  ck ((0:Int)≤i∧i < (s.Edges.length:Int)) <|
  ck (zH (n4 + (((gi s.Edges i.toNat).Bends).size:Int))) <|
  ck (zH (i + 1)) <|
  some (.inl (n4 + (((gi s.Edges i.toNat).Bends).size:Int),i + 1))
 else
  some (.inr n4)

def ZZ (s:zk):Option Int :=
 (za (ZZ.s0 s) big (0,0)).bind fun n1 =>
 (za (ZZ.s2 s) big (n1,0)).bind fun n5 =>
 some n5

/-! muntin/muntinref11.Wrong -/
def ZU.s1 (s:zk) (v:Int):Int→Option (Int ⊕ (Unit ⊕ Unit)):=fun d =>
 (if decide (d < 4) then
  ck ((0:Int)≤v∧v < (s.Boxes.length:Int)) <|
  some (!(gi s.Boxes v.toNat))
 else
  some false).bind fun t =>
 if t then
  (z7 s v d).bind fun x2 =>
  if decide (1 < (x2.length:Int)) then
   some (.inr (.inr ()))
  else
   ck (zH (d + 1)) <|
   some (.inl (d + 1))
 else
  some (.inr (.inl ()))

def ZU.s0 (s:zk):Int→Option (Int ⊕ (Unit ⊕ Unit)):=fun v =>
 if decide (v < (s.Boxes.length:Int)) then
  (
   za (ZU.s1 s v) big 0:Option (Unit ⊕ Unit)).bind fun o₃=>match o₃ with
  | .inl _ =>
   ck (zH (v + 1)) <|
   some (.inl (v + 1))
  | .inr _ =>
   some (.inr (.inr ()))
 else
  some (.inr (.inl ()))

def ZU.s2 (s:zk):Int→Option (Int ⊕ (Unit ⊕ Unit)):=fun i =>
 if decide (i < (s.Edges.length:Int)) then
  ck ((0:Int)≤i∧i < (s.Edges.length:Int)) <|
  (if (decide ((gi s.Edges i.toNat).From = (gi s.Edges i.toNat).To)) && (((gi s.Edges i.toNat).Bends).toList == (⟨#[]⟩:ByteArray).toList) then
   ck ((0:Int)≤((gi s.Edges i.toNat).From)∧((gi s.Edges i.toNat).From) < (s.Boxes.length:Int)) <|
   some (!(gi s.Boxes ((gi s.Edges i.toNat).From:Int).toNat))
  else
   some false).bind fun t1 =>
  if t1 then
   some (.inr (.inr ()))
  else
   ck (zH (i + 1)) <|
   some (.inl (i + 1))
 else
  some (.inr (.inl ()))

def ZU (s:zk):Option Int :=
 (zl s).bind fun x =>
 if !(decide (x = 0)) then
  some x
 else
  (ZZ s).bind fun x1 =>
  if decide (4096 < x1) then
   some 6
  else
   (
    za (ZU.s0 s) big 0:Option (Unit ⊕ Unit)).bind fun o₁=>match o₁ with
   | .inl _ =>
    (
     za (ZU.s2 s) big 0:Option (Unit ⊕ Unit)).bind fun o₅=>match o₅ with
    | .inl _ =>
     some 0
    | .inr _ =>
     some 10
   | .inr _ =>
    some 8

/-! muntin/muntinref10.Join -/
def zh (l:List Zc) (v:Int) (d:Int) (w:Int) (o:Int):Option ((List Zc) × Int) :=
 if (((((((decide (v < 0)) || (decide ((l.length:Int)≤v))) || (decide (w < 0))) || (decide ((l.length:Int)≤w))) || (decide (v = w))) || (decide (d < 0))) || (decide (3 < d))) || (decide (o < (-2))) then
  some (l,2)
 else
  ck ((0:Int)≤v∧v < (l.length:Int)) <|
  ck ((0:Int)≤d∧d < 4) <|
  (if !(decide (((gi l v.toNat).Next).get d = (-1))) then
   some true
  else
   ck (zH (d + 2)) <|
   ck ((0:Int)≤w∧w < (l.length:Int)) <|
   ck ((0:Int)≤((d + 2).tmod 4)∧((d + 2).tmod 4) < 4) <|
   some (!(decide (((gi l w.toNat).Next).get ((d + 2).tmod 4) = (-1))))).bind fun t =>
  if t then
   some (l,9)
  else
   (zK l v d w o).bind fun x =>
   some (x,0)

/-! muntin/muntinref11.box -/
def z5.s1 (d:Int) (x1:List Int):(List Zc) × (List (A2 Int)) × Int × Int→Option (((List Zc) × (List (A2 Int)) × Int × Int) ⊕ ((List Zc) × (List (A2 Int)) × Int)):=fun (n5,n6,from_,i) =>
 if decide (i < (x1.length:Int)) then
  (ZE 1).bind fun x2 =>
  ck (n5.length + x2.length≤1000000000) <|
  ck ((0:Int)≤i∧i < (x1.length:Int)) <|
  ck ((2:Int)≠0∧zH ((gi x1 i.toNat).tdiv 2)) <|
  ck ((0:Int)≤((gi x1 i.toNat).tdiv 2)∧((gi x1 i.toNat).tdiv 2) < (n6.length:Int)) <|
  ck ((0:Int)≤((gi x1 i.toNat).tmod 2)∧((gi x1 i.toNat).tmod 2) < 2) <|
  (zh (n5++x2) from_ (gi ([1,0,1,0]:List Int) d.toNat) (n5.length:Int) (-1)).bind fun (x3,x4) =>
  ck (zH (i + 1)) <|
  some (.inl (x3,n6.set ((gi x1 i.toNat).tdiv 2:Int).toNat ((gi n6 ((gi x1 i.toNat).tdiv 2:Int).toNat).set ((gi x1 i.toNat).tmod 2) (n5.length:Int)),(n5.length:Int),i + 1))
 else
  some (.inr (n5,n6,from_))

def z5.s0 (n:zZ) (s:zk) (v:Int):(List Zc) × (List (A2 Int)) × Int→Option (((List Zc) × (List (A2 Int)) × Int) ⊕ ((List Zc) × (List (A2 Int)))):=fun (n1,n2,d) =>
 if decide (d < 4) then
  ck (zH ((n.Cells.length:Int) + 1)) <|
  ck (zH ((n.Cells.length:Int) + 3)) <|
  ck ((0:Int)≤d∧d < ([(n.Cells.length:Int) + 1,(n.Cells.length:Int) + 3,(n.Cells.length:Int),(n.Cells.length:Int)].length:Int)) <|
  ck (zH ((n.Cells.length:Int) + 2)) <|
  ck ((0:Int)≤d∧d < ([(n.Cells.length:Int) + 2,(n.Cells.length:Int) + 2,(n.Cells.length:Int) + 3,(n.Cells.length:Int) + 1].length:Int)) <|
  ck ((0:Int)≤d∧d < (([1,0,1,0]:List Int).length:Int)) <|
  (z7 s v d).bind fun x1 =>
  (za (z5.s1 d x1) big (n1,n2,gi [(n.Cells.length:Int) + 1,(n.Cells.length:Int) + 3,(n.Cells.length:Int),(n.Cells.length:Int)] d.toNat,0)).bind fun (n7,n8,from_1) =>
  (zh n7 from_1 (gi ([1,0,1,0]:List Int) d.toNat) (gi [(n.Cells.length:Int) + 2,(n.Cells.length:Int) + 2,(n.Cells.length:Int) + 3,(n.Cells.length:Int) + 1] d.toNat) (-1)).bind fun (x5,x6) =>
  ck (zH (d + 1)) <|
  some (.inl (x5,n8,d + 1))
 else
  some (.inr (n1,n2))

def z5 (n:zZ) (s:zk) (v:Int):Option zZ :=
 (ZE 4).bind fun x =>
 ck (n.Cells.length + x.length≤1000000000) <|
 (za (z5.s0 n s v) big (n.Cells++x,n.Ends,0)).bind fun (n3,n4) =>
 some (⟨n3,n.First,n4,n.Ways⟩:zZ)

/-! muntin/muntinref11.Of -/
def ZO.s2 (n:List Zc) (x2:List Int):(List (A2 Int)) × Int→Option (((List (A2 Int)) × Int) ⊕ (List (A2 Int))):=fun (n10,i) =>
 if decide (i < (x2.length:Int)) then
  ck ((0:Int)≤i∧i < (x2.length:Int)) <|
  ck ((2:Int)≠0∧zH ((gi x2 i.toNat).tdiv 2)) <|
  ck ((0:Int)≤((gi x2 i.toNat).tdiv 2)∧((gi x2 i.toNat).tdiv 2) < (n10.length:Int)) <|
  ck ((0:Int)≤((gi x2 i.toNat).tmod 2)∧((gi x2 i.toNat).tmod 2) < 2) <|
  ck (zH (i + 1)) <|
  some (.inl (n10.set ((gi x2 i.toNat).tdiv 2:Int).toNat ((gi n10 ((gi x2 i.toNat).tdiv 2:Int).toNat).set ((gi x2 i.toNat).tmod 2) (n.length:Int)),i + 1))
 else
  some (.inr n10)

def ZO.s1 (s:zk) (n:List Zc) (v:Int):(List (A2 Int)) × Int→Option (((List (A2 Int)) × Int) ⊕ (List (A2 Int))):=fun (n8,d) =>
 if decide (d < 4) then
  (z7 s v d).bind fun x2 =>
  (za (ZO.s2 n x2) big (n8,0)).bind fun n11 =>
  ck (zH (d + 1)) <|
  some (.inl (n11,d + 1))
 else
  some (.inr n8)

def ZO.s0 (s:zk):(List Zc) × (List Int) × (List (A2 Int)) × (List (List Int)) × Int→Option (((List Zc) × (List Int) × (List (A2 Int)) × (List (List Int)) × Int) ⊕ ((List Zc) × (List Int) × (List (A2 Int)) × (List (List Int)))):=fun (n,n1,n2,n3,v) =>
 if decide (v < (s.Boxes.length:Int)) then
  ck (n1.length + [(n.length:Int)].length≤1000000000) <|
  ck ((0:Int)≤v∧v < (s.Boxes.length:Int)) <|
  if gi s.Boxes v.toNat then
   (z5 (⟨n,n1++[(n.length:Int)],n2,n3⟩:zZ) s v).bind fun x =>
   ck (zH (v + 1)) <|
   some (.inl (x.Cells,x.First,x.Ends,x.Ways,v + 1))
  else
   (ZE 1).bind fun x1 =>
   ck (n.length + x1.length≤1000000000) <|
   (za (ZO.s1 s n v) big (n2,0)).bind fun n9 =>
   ck (zH (v + 1)) <|
   some (.inl (n++x1,n1++[(n.length:Int)],n9,n3,v + 1))
 else
  some (.inr (n,n1,n2,n3))

def ZO.s4 (s:zk) (i1:Int):(List Zc) × Int × Int × (List Int) × Int→Option (((List Zc) × Int × Int × (List Int) × Int) ⊕ ((List Zc) × Int × Int × (List Int))):=fun (n16,at_,d1,way,k_) =>
 if decide (k_ < (((gi s.Edges i1.toNat).Bends).size:Int)) then
  (ZE 1).bind fun x3 =>
  ck (n16.length + x3.length≤1000000000) <|
  (zh (n16++x3) at_ d1 (n16.length:Int) i1).bind fun (x4,x5) =>
  ck (way.length + [(n16.length:Int)].length≤1000000000) <|
  ck ((0:Int)≤k_∧k_ < (((gi s.Edges i1.toNat).Bends).size:Int)) <|
  if decide (sAt ((gi s.Edges i1.toNat).Bends) k_.toNat = 76) then
   ck (zH (d1 + 1)) <|
   ck (zH (k_ + 1)) <|
   some (.inl (x4,(n16.length:Int),(d1 + 1).tmod 4,way++[(n16.length:Int)],k_ + 1))
  else
   ck (zH (d1 + 3)) <|
   ck (zH (k_ + 1)) <|
   some (.inl (x4,(n16.length:Int),(d1 + 3).tmod 4,way++[(n16.length:Int)],k_ + 1))
 else
  some (.inr (n16,at_,d1,way))

def ZO.s3 (s:zk) (n6:List (A2 Int)):(List Zc) × (List (List Int)) × Int→Option (((List Zc) × (List (List Int)) × Int) ⊕ ((List Zc) × (List (List Int)))):=fun (n12,n13,i1) =>
 if decide (i1 < (s.Edges.length:Int)) then
  ck ((0:Int)≤i1∧i1 < (n6.length:Int)) <|
  ck ((0:Int)≤i1∧i1 < (s.Edges.length:Int)) <|
  (za (ZO.s4 s i1) big (n12,(gi n6 i1.toNat).get 0,(gi s.Edges i1.toNat).Dir,[(gi n6 i1.toNat).get 0],0)).bind fun (n17,at_1,d2,way1) =>
  (zh n17 at_1 d2 ((gi n6 i1.toNat).get 1) i1).bind fun (x6,x7) =>
  ck (way1.length + [(gi n6 i1.toNat).get 1].length≤1000000000) <|
  ck (n13.length + 1≤1000000000) <|
  ck (zH (i1 + 1)) <|
  some (.inl (x6,n13++[way1++[(gi n6 i1.toNat).get 1]],i1 + 1))
 else
  some (.inr (n12,n13))

def ZO (s:zk):Option zZ :=
 ck ((0:Int)≤(s.Edges.length:Int)∧(s.Edges.length:Int)≤1000000000) <|
 (za (ZO.s0 s) big (([]:List Zc),([]:List Int),List.replicate ((s.Edges.length:Int):Int).toNat (⟨0,0⟩:A2 Int),([]:List (List Int)),0)).bind fun (n4,n5,n6,n7) =>
 (za (ZO.s3 s n6) big (n4,n7,0)).bind fun (n14,n15) =>
 some (⟨n14,n5,n6,n15⟩:zZ)

/-! muntin/compass.Good -/
def Za0 (d:Int):Option Bool :=
 some ((decide (0≤d)) && (decide (d≤3)))

/-! muntin/compass.Left -/
def ZaF (d:Int) (times:Int):Option Int :=
 (Za0 d).bind fun x =>
 if !x then
  some 0
 else
  ck (zH (d + (times.tmod 4))) <|
  ck (zH ((d + (times.tmod 4)) + 4)) <|
  some (((d + (times.tmod 4)) + 4).tmod 4)

/-! muntin/grid.side -/
def Zb1 (cells:List Zc) (v:Int) (d:Int):Option Int :=
 ck ((0:Int)≤v∧v < (cells.length:Int)) <|
 ck ((0:Int)≤d∧d < 4) <|
 if decide (((gi cells v.toNat).Next).get d = (-1)) then
  if !(decide (((gi cells v.toNat).Owner).get d = 0)) then
   some 9
  else
   some 0
 else
  if ((decide ((((gi cells v.toNat).Next).get d) < 0)) || (decide ((cells.length:Int)≤(((gi cells v.toNat).Next).get d)))) || (decide (((gi cells v.toNat).Next).get d = v)) then
   some 3
  else
   (ZaF d 2).bind fun x =>
   ck ((0:Int)≤(((gi cells v.toNat).Next).get d)∧(((gi cells v.toNat).Next).get d) < (cells.length:Int)) <|
   ck ((0:Int)≤x∧x < 4) <|
   if ((!(decide (((gi cells (((gi cells v.toNat).Next).get d:Int).toNat).Next).get x = v))) || (!(decide (((gi cells (((gi cells v.toNat).Next).get d:Int).toNat).Owner).get x = ((gi cells v.toNat).Owner).get d)))) || (decide ((((gi cells v.toNat).Owner).get d) < (-2))) then
    some 9
   else
    some 0

/-! muntin/grid.Check -/
def z4.s1 (cells:List Zc) (x:Int):Int→Option (Int ⊕ (Unit ⊕ Int)):=fun x2 =>
 if decide (x2 < 4) then
  (Zb1 cells x x2).bind fun x4 =>
  if !(decide (x4 = 0)) then
   some (.inr (.inr x4))
  else
   ck (zH (x2 + 1)) <|
   some (.inl (x2 + 1))
 else
  some (.inr (.inl ()))

def z4.s0 (cells:List Zc):Int→Option (Int ⊕ (Unit ⊕ Int)):=fun x =>
 if decide (x < (cells.length:Int)) then
  (
   za (z4.s1 cells x) big 0:Option (Unit ⊕ Int)).bind fun o₃=>match o₃ with
  | .inl _ =>
   ck (zH (x + 1)) <|
   some (.inl (x + 1))
  | .inr x3 =>
   some (.inr (.inr x3))
 else
  some (.inr (.inl ()))

def z4 (cells:List Zc):Option Int :=
 if decide (4096 < (cells.length:Int)) then
  some 6
 else
  (
   za (z4.s0 cells) big 0:Option (Unit ⊕ Int)).bind fun o₁=>match o₁ with
  | .inl _ =>
   some 0
  | .inr x1 =>
   some x1

/-! math/bits.Mul64 -/
def ZbW (x:Int) (y:Int):Option (Int × Int) :=
 some (zB .u64 (zB .u64 (ZN .u64 (Z9 .u64 x 32) (Z9 .u64 y 32)) (Z9 .u64 (zB .u64 (ZN .u64 (Z9 .u64 x 32) (Zx .u64 y 4294967295)) (Z9 .u64 (ZN .u64 (Zx .u64 x 4294967295) (Zx .u64 y 4294967295)) 32)) 32)) (Z9 .u64 (zB .u64 (Zx .u64 (zB .u64 (ZN .u64 (Z9 .u64 x 32) (Zx .u64 y 4294967295)) (Z9 .u64 (ZN .u64 (Zx .u64 x 4294967295) (Zx .u64 y 4294967295)) 32)) 4294967295) (ZN .u64 (Zx .u64 x 4294967295) (Z9 .u64 y 32))) 32),ZN .u64 x y)

/-! math/bits.Mul -/
def ZbF (x:Int) (y:Int):Option (Int × Int) :=
 (ZbW x y).bind fun (x1,x2) =>
 some (x1,x2)

/-! slices.Repeat[[]int,int] -/
def zC.s0:(List Int) × Int→Option (((List Int) × Int) ⊕ (List Int)):=fun (newslice,n) =>
 if decide (n < (newslice.length:Int)) then
  ck ((0:Int)≤n∧n≤(newslice.length:Int)) <|
  ck (zH (n + ((min (newslice.take n.toNat).length (newslice.drop n.toNat).length:Nat):Int))) <|
  some (.inl (newslice.take n.toNat++((newslice.take n.toNat).take (newslice.drop n.toNat).length++(newslice.drop n.toNat).drop (newslice.take n.toNat).length),n + ((min (newslice.take n.toNat).length (newslice.drop n.toNat).length:Nat):Int)))
 else
  some (.inr newslice)

def zC (x:List Int) (count:Int):Option (List Int) :=
 (
  if decide (count < 0) then
   none
  else
   some ()).bind fun _ =>
 ck (inK .u64 (x.length:Int)) <|
 ck (inK .u64 count) <|
 (ZbF (x.length:Int) count).bind fun (x1,x2) =>
 (
  if (decide (0 < x1)) || (decide (9223372036854775807 < x2)) then
   none
  else
   some ()).bind fun _ =>
 ck (inK .i64 x2) <|
 ck ((0:Int)≤x2∧x2≤1000000000) <|
 (za zC.s0 big (x.take (List.replicate x2.toNat (0:Int)).length++(List.replicate x2.toNat (0:Int)).drop x.length,((min x.length (List.replicate x2.toNat (0:Int)).length:Nat):Int))).bind fun newslice1 =>
 some newslice1

/-! muntin/join.spread -/
def zY.s1 (cells:List Zc) (l:List Int):(List Int) × (List Int) × (List Int) × (List Bool) × Int→Option (((List Int) × (List Int) × (List Int) × (List Bool) × Int) ⊕ ((List Int) × (List Int) × (List Int) × (List Bool))):=fun (from_2,dir2,l1,met1,x2) =>
 if decide (x2 < 4) then
  ck ((0:Int)≤(gi l (0:Int).toNat)∧(gi l (0:Int).toNat) < (cells.length:Int)) <|
  ck ((0:Int)≤x2∧x2 < 4) <|
  (if decide (0≤(((gi cells (gi l (0:Int).toNat:Int).toNat).Next).get x2)) then
   ck ((0:Int)≤(((gi cells (gi l (0:Int).toNat:Int).toNat).Next).get x2)∧(((gi cells (gi l (0:Int).toNat:Int).toNat).Next).get x2) < (met1.length:Int)) <|
   some (!(gi met1 (((gi cells (gi l (0:Int).toNat:Int).toNat).Next).get x2:Int).toNat))
  else
   some false).bind fun t =>
  if t then
   ck ((0:Int)≤(((gi cells (gi l (0:Int).toNat:Int).toNat).Next).get x2)∧(((gi cells (gi l (0:Int).toNat:Int).toNat).Next).get x2) < (met1.length:Int)) <|
   ck ((0:Int)≤(((gi cells (gi l (0:Int).toNat:Int).toNat).Next).get x2)∧(((gi cells (gi l (0:Int).toNat:Int).toNat).Next).get x2) < (from_2.length:Int)) <|
   ck ((0:Int)≤(((gi cells (gi l (0:Int).toNat:Int).toNat).Next).get x2)∧(((gi cells (gi l (0:Int).toNat:Int).toNat).Next).get x2) < (dir2.length:Int)) <|
   ck (l1.length + [((gi cells (gi l (0:Int).toNat:Int).toNat).Next).get x2].length≤1000000000) <|
   ck (zH (x2 + 1)) <|
   some (.inl (from_2.set (((gi cells (gi l (0:Int).toNat:Int).toNat).Next).get x2:Int).toNat (gi l (0:Int).toNat),dir2.set (((gi cells (gi l (0:Int).toNat:Int).toNat).Next).get x2:Int).toNat x2,l1++[((gi cells (gi l (0:Int).toNat:Int).toNat).Next).get x2],met1.set (((gi cells (gi l (0:Int).toNat:Int).toNat).Next).get x2:Int).toNat true,x2 + 1))
  else
   ck (zH (x2 + 1)) <|
   some (.inl (from_2,dir2,l1,met1,x2 + 1))
 else
  some (.inr (from_2,dir2,l1,met1))

def zY.s0 (cells:List Zc):(List Int) × (List Int) × (List Int) × (List Bool)→Option (((List Int) × (List Int) × (List Int) × (List Bool)) ⊕ ((List Int) × (List Int))):=fun (from_,dir,l,met) =>
 if decide (0 < (l.length:Int)) then
  ck ((0:Int)≤0∧0 < (l.length:Int)) <|
  ck ((0:Int)≤1∧1≤(l.length:Int)) <|
  (za (zY.s1 cells l) big (from_,dir,l.drop (1:Int).toNat,met,0)).bind fun (from_3,dir3,l2,met2) =>
  some (.inl (from_3,dir3,l2,met2))
 else
  some (.inr (from_,dir))

def zY (cells:List Zc) (v:Int):Option ((List Int) × (List Int)) :=
 (zC ([(-1)]:List Int) (cells.length:Int)).bind fun x =>
 (zC ([(-1)]:List Int) (cells.length:Int)).bind fun x1 =>
 ck ((0:Int)≤(cells.length:Int)∧(cells.length:Int)≤1000000000) <|
 ck ((0:Int)≤v∧v < ((List.replicate ((cells.length:Int):Int).toNat false).length:Int)) <|
 (za (zY.s0 cells) big (x,x1,[v],(List.replicate ((cells.length:Int):Int).toNat false).set v.toNat true)).bind fun (from_1,dir1) =>
 some (from_1,dir1)

/-! muntin/join.Parts -/
def Zae.s1 (cells:List Zc) (x1:Int) (x3:List Int):(List Bool) × (List Int) × Int→Option (((List Bool) × (List Int) × Int) ⊕ ((List Bool) × (List Int))):=fun (met1,part,x4) =>
 if decide (x4 < (cells.length:Int)) then
  (if decide (x4 = x1) then
   some true
  else
   ck ((0:Int)≤x4∧x4 < (x3.length:Int)) <|
   some (decide (0≤(gi x3 x4.toNat)))).bind fun t =>
  if t then
   ck ((0:Int)≤x4∧x4 < (met1.length:Int)) <|
   ck (part.length + [x4].length≤1000000000) <|
   ck (zH (x4 + 1)) <|
   some (.inl (met1.set x4.toNat true,part++[x4],x4 + 1))
  else
   ck (zH (x4 + 1)) <|
   some (.inl (met1,part,x4 + 1))
 else
  some (.inr (met1,part))

def Zae.s0 (cells:List Zc):(List (List Int)) × (List Bool) × Int→Option (((List (List Int)) × (List Bool) × Int) ⊕ (List (List Int))):=fun (l,met,x1) =>
 if decide (x1 < (cells.length:Int)) then
  ck ((0:Int)≤x1∧x1 < (met.length:Int)) <|
  if gi met x1.toNat then
   ck (zH (x1 + 1)) <|
   some (.inl (l,met,x1 + 1))
  else
   (zY cells x1).bind fun (x2,x3) =>
   (za (Zae.s1 cells x1 x3) big (met,[],0)).bind fun (met2,part1) =>
   ck (l.length + 1≤1000000000) <|
   ck (zH (x1 + 1)) <|
   some (.inl (l++[part1],met2,x1 + 1))
 else
  some (.inr l)

def Zae (cells:List Zc):Option ((List (List Int)) × Int) :=
 (z4 cells).bind fun x =>
 if !(decide (x = 0)) then
  some (([]:List (List Int)),x)
 else
  ck ((0:Int)≤(cells.length:Int)∧(cells.length:Int)≤1000000000) <|
  (za (Zae.s0 cells) big (([]:List (List Int)),List.replicate ((cells.length:Int):Int).toNat false,0)).bind fun l1 =>
  some (l1,0)

/-! muntin/join.Whole -/
def Zbt (cells:List Zc):Option Bool :=
 (Zae cells).bind fun (x,x1) =>
 some ((decide (x1 = 0)) && (decide ((x.length:Int) = 1)))

/-! (muntin/face.Dart).is -/
def Za1 (d:Zs) (cells:List Zc):Option Bool :=
 if decide (0≤d.Cell) then
  if decide (d.Cell < (cells.length:Int)) then
   (Za0 d.Dir).bind fun x =>
   if x then
    ck ((0:Int)≤d.Cell∧d.Cell < (cells.length:Int)) <|
    ck ((0:Int)≤d.Dir∧d.Dir < 4) <|
    some (decide (0≤(((gi cells (d.Cell:Int).toNat).Next).get d.Dir)))
   else
    some false
  else
   some false
 else
  some false

/-! (muntin/face.Dart).behind -/
def zA.s0 (d:Zs) (cells:List Zc):Int→Option (Int ⊕ (Unit ⊕ Zs)):=fun x =>
 if decide (x < 4) then
  ck ((0:Int)≤x∧x < 4) <|
  (ZaF d.Dir ((⟨1,0,(-1),2⟩:A4 Int).get x)).bind fun x2 =>
  (Za1 (⟨((gi cells (d.Cell:Int).toNat).Next).get d.Dir,x2⟩:Zs) cells).bind fun x3 =>
  if x3 then
   some (.inr (.inr (⟨((gi cells (d.Cell:Int).toNat).Next).get d.Dir,x2⟩:Zs)))
  else
   ck (zH (x + 1)) <|
   some (.inl (x + 1))
 else
  some (.inr (.inl ()))

def zA (d:Zs) (cells:List Zc):Option Zs :=
 ck ((0:Int)≤d.Cell∧d.Cell < (cells.length:Int)) <|
 ck ((0:Int)≤d.Dir∧d.Dir < 4) <|
 (
  za (zA.s0 d cells) big 0:Option (Unit ⊕ Zs)).bind fun o₁=>match o₁ with
 | .inl _ =>
  some d
 | .inr x1 =>
  some x1

/-! muntin/face.Faces -/
def zF.s2 (cells:List Zc):(List (Zs × Bool)) × (List Zs) × Zs→Option (((List (Zs × Bool)) × (List Zs) × Zs) ⊕ ((List (Zs × Bool)) × (List Zs))):=fun (met3,f,x4) =>
 if !(ZbV false x4 met3) then
  ck (f.length + [x4].length≤1000000000) <|
  (zA x4 cells).bind fun x5 =>
  some (.inl (ZcT x4 true met3,f++[x4],x5))
 else
  some (.inr (met3,f))

def zF.s1 (cells:List Zc) (x1:Int):(List (List Zs)) × (List (Zs × Bool)) × Int→Option (((List (List Zs)) × (List (Zs × Bool)) × Int) ⊕ ((List (List Zs)) × (List (Zs × Bool)))):=fun (l2,met1,x2) =>
 if decide (x2 < 4) then
  (Za1 (⟨x1,x2⟩:Zs) cells).bind fun x3 =>
  if (!x3) || (ZbV false (⟨x1,x2⟩:Zs) met1) then
   ck (zH (x2 + 1)) <|
   some (.inl (l2,met1,x2 + 1))
  else
   (za (zF.s2 cells) big (met1,([]:List Zs),(⟨x1,x2⟩:Zs))).bind fun (met4,f1) =>
   ck (l2.length + 1≤1000000000) <|
   ck (zH (x2 + 1)) <|
   some (.inl (l2++[f1],met4,x2 + 1))
 else
  some (.inr (l2,met1))

def zF.s0 (cells:List Zc):(List (List Zs)) × (List (Zs × Bool)) × Int→Option (((List (List Zs)) × (List (Zs × Bool)) × Int) ⊕ (List (List Zs))):=fun (l,met,x1) =>
 if decide (x1 < (cells.length:Int)) then
  (za (zF.s1 cells x1) big (l,met,0)).bind fun (l3,met2) =>
  ck (zH (x1 + 1)) <|
  some (.inl (l3,met2,x1 + 1))
 else
  some (.inr l)

def zF (cells:List Zc):Option ((List (List Zs)) × Int) :=
 (z4 cells).bind fun x =>
 if !(decide (x = 0)) then
  some (([]:List (List Zs)),x)
 else
  (za (zF.s0 cells) big (([]:List (List Zs)),([]:List (Zs × Bool)),0)).bind fun l1 =>
  some (l1,0)

/-! muntin/compass.Turn -/
def Zbf (d:Int) (e_:Int):Option Int :=
 (Za0 d).bind fun x =>
 (if !x then
  some true
 else
  (Za0 e_).bind fun x1 =>
  some (!x1)).bind fun t =>
 if t then
  some 0
 else
  ck (zH (e_ - d)) <|
  ck (zH ((e_ - d) + 4)) <|
  ck ((0:Int)≤(((e_ - d) + 4).tmod 4)∧(((e_ - d) + 4).tmod 4) < 4) <|
  some ((⟨0,1,(-2),(-1)⟩:A4 Int).get (((e_ - d) + 4).tmod 4))

/-! muntin/face.Turns -/
def ZaB.s0 (cells:List Zc) (f:List Zs):(List Int) × Int→Option (((List Int) × Int) ⊕ (List Int)):=fun (l,x1) =>
 if decide (x1 < (f.length:Int)) then
  ck ((0:Int)≤x1∧x1 < (f.length:Int)) <|
  (Za1 (gi f x1.toNat) cells).bind fun x2 =>
  if x2 then
   (zA (gi f x1.toNat) cells).bind fun x3 =>
   (Zbf ((gi f x1.toNat).Dir) x3.Dir).bind fun x4 =>
   ck ((0:Int)≤x1∧x1 < (l.length:Int)) <|
   ck (zH (x1 + 1)) <|
   some (.inl (l.set x1.toNat x4,x1 + 1))
  else
   ck (zH (x1 + 1)) <|
   some (.inl (l,x1 + 1))
 else
  some (.inr l)

def ZaB (cells:List Zc) (f:List Zs):Option (List Int) :=
 ck ((0:Int)≤(f.length:Int)∧(f.length:Int)≤1000000000) <|
 (z4 cells).bind fun x =>
 if !(decide (x = 0)) then
  some (List.replicate ((f.length:Int):Int).toNat (0:Int))
 else
  (za (ZaB.s0 cells f) big (List.replicate ((f.length:Int):Int).toNat (0:Int),0)).bind fun l1 =>
  some l1

/-! muntin/face.Rotation -/
def Zas.s0 (turns:List Int):Int × Int→Option ((Int × Int) ⊕ Int):=fun (n,x) =>
 if decide (x < (turns.length:Int)) then
  ck ((0:Int)≤x∧x < (turns.length:Int)) <|
  if (decide ((-2)≤(gi turns x.toNat))) && (decide ((gi turns x.toNat)≤1)) then
   ck (zH (n + (gi turns x.toNat))) <|
   ck (zH (x + 1)) <|
   some (.inl (n + (gi turns x.toNat),x + 1))
  else
   ck (zH (x + 1)) <|
   some (.inl (n,x + 1))
 else
  some (.inr n)

def Zas (turns:List Int):Option Int :=
 (za (Zas.s0 turns) big (0,0)).bind fun n1 =>
 some n1

/-! muntin/valid.outer -/
def Zap.s0 (cells:List Zc) (x:List (List Zs)):Int × Int→Option ((Int × Int) ⊕ (Int ⊕ Unit)):=fun (at_,x2) =>
 if decide (x2 < (x.length:Int)) then
  ck ((0:Int)≤x2∧x2 < (x.length:Int)) <|
  (ZaB cells (gi x x2.toNat)).bind fun x3 =>
  (Zas x3).bind fun x4 =>
  if decide (x4 = 4) then
   ck (zH (x2 + 1)) <|
   some (.inl (at_,x2 + 1))
  else
   if decide (x4 = (-4)) then
    if decide (0≤at_) then
     some (.inr (.inr ()))
    else
     ck (zH (x2 + 1)) <|
     some (.inl (x2,x2 + 1))
   else
    some (.inr (.inr ()))
 else
  some (.inr (.inl at_))

def Zap (cells:List Zc):Option (Int × Bool) :=
 (zF cells).bind fun (x,x1) =>
 (
  za (Zap.s0 cells x) big ((-1),0):Option (Int ⊕ Unit)).bind fun o₁=>match o₁ with
 | .inl at_1 =>
  some (at_1,decide (0≤at_1))
 | .inr _ =>
  some (0,false)

/-! muntin/valid.Check -/
def zT (cells:List Zc):Option Int :=
 (z4 cells).bind fun x =>
 if !(decide (x = 0)) then
  some x
 else
  (Zbt cells).bind fun x1 =>
  if !x1 then
   some 13
  else
   (Zap cells).bind fun (x2,x3) =>
   if (!x3) && (decide (1 < (cells.length:Int))) then
    some 10
   else
    some 0

/-! muntin/muntinlaw14.square -/
def ZaA:Option (List Zc) :=
 (ZE 4).bind fun x =>
 (zh x 0 0 1 0).bind fun (x1,x2) =>
 (zh x1 1 1 2 0).bind fun (x3,x4) =>
 (zh x3 2 2 3 0).bind fun (x5,x6) =>
 (zh x5 3 3 0 0).bind fun (x7,x8) =>
 some x7

/-! muntin/valid.Outer -/
def Zbm (cells:List Zc):Option (Int × Int) :=
 (zT cells).bind fun x =>
 if !(decide (x = 0)) then
  some (0,x)
 else
  (Zap cells).bind fun (x1,x2) =>
  if !x2 then
   some (0,2)
  else
   some (x1,0)

/-! muntin/muntinlaw14.wakes -/
def Zam:Option Bool :=
 (ZaA ).bind fun x =>
 (Zbm x).bind fun (x1,x2) =>
 (ZE 1).bind fun x3 =>
 (Zbm x3).bind fun (x4,x5) =>
 (ZaA ).bind fun x6 =>
 (zT x6).bind fun x7 =>
 (if ((decide (x7 = 0)) && (decide (x1 = 1))) && (decide (x2 = 0)) then
  (ZE 1).bind fun x8 =>
  (zT x8).bind fun x9 =>
  some (decide (x9 = 0))
 else
  some false).bind fun t =>
 (if t && (decide (x5 = 2)) then
  (ZE 2).bind fun x10 =>
  (zT x10).bind fun x11 =>
  some (decide (x11 = 13))
 else
  some false).bind fun t1 =>
 (if t1 then
  (zT ([]:List Zc)).bind fun x12 =>
  some (decide (x12 = 13))
 else
  some false).bind fun t2 =>
 some t2

/-! muntin/muntinref12.Behind -/
def zE.s0 (l:List Zc) (d:Z0):Int→Option (Int ⊕ (Unit ⊕ Z0)):=fun i =>
 if decide (i < 4) then
  ck ((0:Int)≤i∧i < (([1,0,3,2]:List Int).length:Int)) <|
  ck (zH (d.Dir + (gi ([1,0,3,2]:List Int) i.toNat))) <|
  ck ((0:Int)≤(((gi l (d.Cell:Int).toNat).Next).get d.Dir)∧(((gi l (d.Cell:Int).toNat).Next).get d.Dir) < (l.length:Int)) <|
  ck ((0:Int)≤((d.Dir + (gi ([1,0,3,2]:List Int) i.toNat)).tmod 4)∧((d.Dir + (gi ([1,0,3,2]:List Int) i.toNat)).tmod 4) < 4) <|
  if decide (0≤(((gi l (((gi l (d.Cell:Int).toNat).Next).get d.Dir:Int).toNat).Next).get ((d.Dir + (gi ([1,0,3,2]:List Int) i.toNat)).tmod 4))) then
   some (.inr (.inr (⟨((gi l (d.Cell:Int).toNat).Next).get d.Dir,(d.Dir + (gi ([1,0,3,2]:List Int) i.toNat)).tmod 4⟩:Z0)))
  else
   ck (zH (i + 1)) <|
   some (.inl (i + 1))
 else
  some (.inr (.inl ()))

def zE (l:List Zc) (d:Z0):Option Z0 :=
 ck ((0:Int)≤d.Cell∧d.Cell < (l.length:Int)) <|
 ck ((0:Int)≤d.Dir∧d.Dir < 4) <|
 (
  za (zE.s0 l d) big 0:Option (Unit ⊕ Z0)).bind fun o₁=>match o₁ with
 | .inl _ =>
  some d
 | .inr x =>
  some x

/-! muntin/muntinref12.Faces -/
def ZK.s2 (l:List Zc):(List Bool) × (List Z0) × Z0→Option (((List Bool) × (List Z0) × Z0) ⊕ ((List Bool) × (List Z0))):=fun (met3,f,d) =>
 ck (zH (4 * d.Cell)) <|
 ck (zH ((4 * d.Cell) + d.Dir)) <|
 ck ((0:Int)≤((4 * d.Cell) + d.Dir)∧((4 * d.Cell) + d.Dir) < (met3.length:Int)) <|
 if !(gi met3 ((4 * d.Cell) + d.Dir:Int).toNat) then
  ck (f.length + [d].length≤1000000000) <|
  (zE l d).bind fun x =>
  some (.inl (met3.set ((4 * d.Cell) + d.Dir:Int).toNat true,f++[d],x))
 else
  some (.inr (met3,f))

def ZK.s1 (l:List Zc) (v:Int):(List Bool) × (List (List Z0)) × Int→Option (((List Bool) × (List (List Z0)) × Int) ⊕ ((List Bool) × (List (List Z0)))):=fun (met1,out2,e_) =>
 if decide (e_ < 4) then
  ck ((0:Int)≤v∧v < (l.length:Int)) <|
  ck ((0:Int)≤e_∧e_ < 4) <|
  (if decide ((((gi l v.toNat).Next).get e_) < 0) then
   some true
  else
   ck (zH (4 * v)) <|
   ck (zH ((4 * v) + e_)) <|
   ck ((0:Int)≤((4 * v) + e_)∧((4 * v) + e_) < (met1.length:Int)) <|
   some (gi met1 ((4 * v) + e_:Int).toNat)).bind fun t =>
  if t then
   ck (zH (e_ + 1)) <|
   some (.inl (met1,out2,e_ + 1))
  else
   (za (ZK.s2 l) big (met1,([]:List Z0),(⟨v,e_⟩:Z0))).bind fun (met4,f1) =>
   ck (out2.length + 1≤1000000000) <|
   ck (zH (e_ + 1)) <|
   some (.inl (met4,out2++[f1],e_ + 1))
 else
  some (.inr (met1,out2))

def ZK.s0 (l:List Zc):(List Bool) × (List (List Z0)) × Int→Option (((List Bool) × (List (List Z0)) × Int) ⊕ (List (List Z0))):=fun (met,out,v) =>
 if decide (v < (l.length:Int)) then
  (za (ZK.s1 l v) big (met,out,0)).bind fun (met2,out3) =>
  ck (zH (v + 1)) <|
  some (.inl (met2,out3,v + 1))
 else
  some (.inr out)

def ZK (l:List Zc):Option (List (List Z0)) :=
 ck (zH (4 * (l.length:Int))) <|
 ck ((0:Int)≤(4 * (l.length:Int))∧(4 * (l.length:Int))≤1000000000) <|
 (za (ZK.s0 l) big (List.replicate (4 * (l.length:Int):Int).toNat false,([]:List (List Z0)),0)).bind fun out1 =>
 some out1

/-! muntin/muntinlaw14.ValidEuler -/
def ZV.s1 (l:List Zc) (x8:Int):Int × Int→Option ((Int × Int) ⊕ Int):=fun (darts2,x9) =>
 if decide (x9 < 4) then
  ck ((0:Int)≤x9∧x9 < 4) <|
  if decide (0≤(((gi l x8.toNat).Next).get x9)) then
   ck (zH (darts2 + 1)) <|
   ck (zH (x9 + 1)) <|
   some (.inl (darts2 + 1,x9 + 1))
  else
   ck (zH (x9 + 1)) <|
   some (.inl (darts2,x9 + 1))
 else
  some (.inr darts2)

def ZV.s0 (l:List Zc):Int × Int→Option ((Int × Int) ⊕ Int):=fun (Zcg,x8) =>
 if decide (x8 < (l.length:Int)) then
  ck ((0:Int)≤x8∧x8 < (l.length:Int)) <|
  (za (ZV.s1 l x8) big (Zcg,0)).bind fun darts3 =>
  ck (zH (x8 + 1)) <|
  some (.inl (darts3,x8 + 1))
 else
  some (.inr Zcg)

def ZV (z:zo) (y:Zag):Option Bool :=
 (ZF z 16).bind fun (x,x1) =>
 (ze y 8).bind fun x2 =>
 (ZU x2).bind fun x3 =>
 (
  if decide (x3 = 0) then
   (ZO x2).bind fun x4 =>
   (zT x4.Cells).bind fun x5 =>
   if decide (x5 = 0) then
    some x4.Cells
   else
    some x
  else
   some x).bind fun l =>
 (zT l).bind fun x6 =>
 if (!(decide (x6 = 0))) || (decide ((l.length:Int) < 2)) then
  (Zam ).bind fun x7 =>
  some x7
 else
  (za (ZV.s0 l) big (0,0)).bind fun darts1 =>
  (Zam ).bind fun x10 =>
  (if x10 then
   (ZK l).bind fun x11 =>
   ck (zH ((x11.length:Int) + (l.length:Int))) <|
   ck ((2:Int)≠0∧zH (darts1.tdiv 2)) <|
   ck (zH ((darts1.tdiv 2) + 2)) <|
   some (decide ((x11.length:Int) + (l.length:Int) = (darts1.tdiv 2) + 2))
  else
   some false).bind fun t =>
  some t

end Mu
