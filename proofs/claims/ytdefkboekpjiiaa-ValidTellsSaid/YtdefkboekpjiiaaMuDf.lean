/- What the functions work out. -/
import Derived.Test.YtdefkboekpjiiaaMuA
import Derived.Test.YtdefkboekpjiiaaMuR
set_option linter.unusedVariables false
set_option linter.unnecessarySimpa false
set_option linter.unusedSimpArgs false
set_option maxHeartbeats 2000000
set_option maxRecDepth 10000
namespace Mu
open Go (IntKind BinOp UnOp)
structure zB where
 At:List Int
 Bits:List Int
 Own:List Int
 deriving DecidableEq,Inhabited
structure Za0 where
 Boxes:List Bool
 Edges:List (A3 Int)
 Bends:List Int
 deriving DecidableEq,Inhabited
structure Zc where
 Next:A4 Int
 Owner:A4 Int
 deriving DecidableEq,Inhabited
abbrev Zed:Enc Int:=⟨1,fun x=>[.i .u8 x],fun _=>rfl⟩
theorem Zed.one (x:Int):(Zed.c x).all V.one = true:=rfl
abbrev Zhe:Enc Int:=⟨1,fun x=>[.i .i8 x],fun _=>rfl⟩
theorem Zhe.one (x:Int):(Zhe.c x).all V.one = true:=rfl
abbrev e_bool:Enc Bool:=⟨1,fun x=>[.b x],fun _=>rfl⟩
theorem e_bool.one (x:Bool):(e_bool.c x).all V.one = true:=rfl
abbrev Zdg:Enc (A3 Int):=⟨3,fun x=>[.i .u8 x.a,.i .u8 x.b,.i .u8 x.c],fun _=>rfl⟩
theorem Zdg.one (x:A3 Int):(Zdg.c x).all V.one = true:=rfl
abbrev Zh:Enc Zc:=⟨8,fun x=>[.i .i64 x.Next.a,.i .i64 x.Next.b,.i .i64 x.Next.c,.i .i64 x.Next.d,.i .i64 x.Owner.a,.i .i64 x.Owner.b,.i .i64 x.Owner.c,.i .i64 x.Owner.d],fun _=>rfl⟩
theorem Zh.one (x:Zc):(Zh.c x).all V.one = true:=rfl
structure Z8 where
 X:Int
 Y:Int
 deriving DecidableEq,Inhabited
abbrev Zn:Enc Z8:=⟨2,fun x=>[.i .i64 x.X,.i .i64 x.Y],fun _=>rfl⟩
theorem Zn.one (x:Z8):(Zn.c x).all V.one = true:=rfl
theorem Zn.same (x y:Z8):Zas [.i,.i] (Zn.c x) (Zn.c y) = some (decide (x = y)):=by
 obtain ⟨x1,x2⟩:=x
 obtain ⟨y1,y2⟩:=y
 refine (Zen (Zen ZeZ)).trans ?_
 congr 1
 rw [Bool.eq_iff_iff]
 simp [and_assoc]
structure zW where
 From:Int
 To:Int
 Dir:Int
 Bends:ByteArray
 deriving DecidableEq,Inhabited
abbrev Zs:Enc zW:=⟨4,fun x=>[.i .i64 x.From,.i .i64 x.To,.i .i64 x.Dir,.s x.Bends],fun _=>rfl⟩
theorem Zs.one (x:zW):(Zs.c x).all V.one = true:=rfl
structure z6 where
 Boxes:List Bool
 Edges:List zW
 deriving DecidableEq,Inhabited
structure Zv where
 Cell:Int
 Dir:Int
 deriving DecidableEq,Inhabited
abbrev Zi:Enc Zv:=⟨2,fun x=>[.i .i64 x.Cell,.i .i64 x.Dir],fun _=>rfl⟩
theorem Zi.one (x:Zv):(Zi.c x).all V.one = true:=rfl
theorem Zi.same (x y:Zv):Zas [.i,.i] (Zi.c x) (Zi.c y) = some (decide (x = y)):=by
 obtain ⟨x1,x2⟩:=x
 obtain ⟨y1,y2⟩:=y
 refine (Zen (Zen ZeZ)).trans ?_
 congr 1
 rw [Bool.eq_iff_iff]
 simp [and_assoc]
abbrev ZbO:Enc (A4 Int):=⟨4,fun x=>[.i .i64 x.a,.i .i64 x.b,.i .i64 x.c,.i .i64 x.d],fun _=>rfl⟩
theorem ZbO.one (x:A4 Int):(ZbO.c x).all V.one = true:=rfl
structure Zw where
 Cell:Int
 Dir:Int
 deriving DecidableEq,Inhabited
abbrev Zm:Enc Zw:=⟨2,fun x=>[.i .i64 x.Cell,.i .i64 x.Dir],fun _=>rfl⟩
theorem Zm.one (x:Zw):(Zm.c x).all V.one = true:=rfl
abbrev Zai:Enc (A2 Int):=⟨2,fun x=>[.i .i64 x.a,.i .i64 x.b],fun _=>rfl⟩
theorem Zai.one (x:A2 Int):(Zai.c x).all V.one = true:=rfl
structure Zau where
 Cells:List Zc
 First:List Int
 Ends:List (A2 Int)
 Ways:List (List Int)
 deriving DecidableEq,Inhabited
def Zeq (x:Int):Prop:=Wf .u8 x
def Zhv (x:Int):Prop:=Wf .i8 x
def Zgr (x:Bool):Prop:=True
def Ze3 (x:A3 Int):Prop:=Wf .u8 x.a∧Wf .u8 x.b∧Wf .u8 x.c
def Zd1 (x:Zc):Prop:=Wf .i64 x.Next.a∧Wf .i64 x.Next.b∧Wf .i64 x.Next.c∧Wf .i64 x.Next.d∧Wf .i64 x.Owner.a∧Wf .i64 x.Owner.b∧Wf .i64 x.Owner.c∧Wf .i64 x.Owner.d
/-! muntin/muntinref10.New -/
def ZJ.s1 (v:Int):(List Zc) × Int→Option (((List Zc) × Int) ⊕ (List Zc)):=fun (l2,d) =>
 if decide (d < 4) then
  ck ((0:Int)≤v∧v < (l2.length:Int)) <|
  ck ((0:Int)≤d∧d < 4) <|
  ck (zQ (d + 1)) <|
  some (.inl (l2.set v.toNat ({ gi l2 v.toNat with Next:=((gi l2 v.toNat).Next).set d (-1) }),d + 1))
 else
  some (.inr l2)

def ZJ.s0 (n:Int):(List Zc) × Int→Option (((List Zc) × Int) ⊕ (List Zc)):=fun (l,v) =>
 if decide (v < n) then
  (ze (ZJ.s1 v) big (l,0)).bind fun l3 =>
  ck (zQ (v + 1)) <|
  some (.inl (l3,v + 1))
 else
  some (.inr l)

def ZJ (n:Int):Option (List Zc) :=
 ck ((0:Int)≤n∧n≤1000000000) <|
 (ze (ZJ.s0 n) big (List.replicate n.toNat (⟨⟨0,0,0,0⟩,⟨0,0,0,0⟩⟩:Zc),0)).bind fun l1 =>
 some l1

/-! muntin/muntinref10.Nearest -/
def ZX.s0 (at_:List Z8) (i:Int) (d:Int):Int × Int→Option ((Int × Int) ⊕ Int):=fun (best,k_) =>
 if decide (k_ < (at_.length:Int)) then
  (if decide (d = 0) then
   ck ((0:Int)≤k_∧k_ < (at_.length:Int)) <|
   ck ((0:Int)≤i∧i < (at_.length:Int)) <|
   some (decide ((gi at_ k_.toNat).Y = (gi at_ i.toNat).Y))
  else
   some false).bind fun t =>
  (if t then
   ck ((0:Int)≤k_∧k_ < (at_.length:Int)) <|
   ck ((0:Int)≤i∧i < (at_.length:Int)) <|
   some (decide (((gi at_ i.toNat).X) < ((gi at_ k_.toNat).X)))
  else
   some false).bind fun t1 =>
  (if t1 then
   (if decide (best < 0) then
    some true
   else
    ck ((0:Int)≤k_∧k_ < (at_.length:Int)) <|
    ck ((0:Int)≤best∧best < (at_.length:Int)) <|
    some (decide (((gi at_ k_.toNat).X) < ((gi at_ best.toNat).X)))).bind fun t3 =>
   some t3
  else
   some false).bind fun t2 =>
  (
   if t2 then
    some k_
   else
    some best).bind fun best2 =>
  (if decide (d = 1) then
   ck ((0:Int)≤k_∧k_ < (at_.length:Int)) <|
   ck ((0:Int)≤i∧i < (at_.length:Int)) <|
   some (decide ((gi at_ k_.toNat).X = (gi at_ i.toNat).X))
  else
   some false).bind fun t4 =>
  (if t4 then
   ck ((0:Int)≤k_∧k_ < (at_.length:Int)) <|
   ck ((0:Int)≤i∧i < (at_.length:Int)) <|
   some (decide (((gi at_ i.toNat).Y) < ((gi at_ k_.toNat).Y)))
  else
   some false).bind fun t5 =>
  (if t5 then
   (if decide (best2 < 0) then
    some true
   else
    ck ((0:Int)≤k_∧k_ < (at_.length:Int)) <|
    ck ((0:Int)≤best2∧best2 < (at_.length:Int)) <|
    some (decide (((gi at_ k_.toNat).Y) < ((gi at_ best2.toNat).Y)))).bind fun t7 =>
   some t7
  else
   some false).bind fun t6 =>
  if t6 then
   ck (zQ (k_ + 1)) <|
   some (.inl (k_,k_ + 1))
  else
   ck (zQ (k_ + 1)) <|
   some (.inl (best2,k_ + 1))
 else
  some (.inr best)

def ZX (at_:List Z8) (i:Int) (d:Int):Option Int :=
 (ze (ZX.s0 at_ i d) big ((-1),0)).bind fun best1 =>
 some best1

/-! muntin/muntinref10.Crossed -/
def ZW.s1 (at_:List Z8) (l:List Zc) (i:Int) (w:Int) (a:Int):Int→Option (Int ⊕ (Unit ⊕ Unit)):=fun d =>
 if decide (d < 2) then
  ck ((0:Int)≤a∧a < (l.length:Int)) <|
  ck ((0:Int)≤d∧d < 4) <|
  if decide ((((gi l a.toNat).Next).get d) < 0) then
   ck (zQ (d + 1)) <|
   some (.inl (d + 1))
  else
   ck ((0:Int)≤a∧a < (at_.length:Int)) <|
   ck ((0:Int)≤(((gi l a.toNat).Next).get d)∧(((gi l a.toNat).Next).get d) < (at_.length:Int)) <|
   (if decide ((gi at_ a.toNat).Y = (gi at_ (((gi l a.toNat).Next).get d:Int).toNat).Y) then
    ck ((0:Int)≤i∧i < (at_.length:Int)) <|
    ck ((0:Int)≤w∧w < (at_.length:Int)) <|
    some (decide ((gi at_ i.toNat).X = (gi at_ w.toNat).X))
   else
    some false).bind fun t =>
   (if t then
    ck ((0:Int)≤i∧i < (at_.length:Int)) <|
    some (decide (((gi at_ a.toNat).X) < ((gi at_ i.toNat).X)))
   else
    some false).bind fun t1 =>
   (if t1 then
    ck ((0:Int)≤i∧i < (at_.length:Int)) <|
    some (decide (((gi at_ i.toNat).X) < ((gi at_ (((gi l a.toNat).Next).get d:Int).toNat).X)))
   else
    some false).bind fun t2 =>
   (if t2 then
    ck ((0:Int)≤i∧i < (at_.length:Int)) <|
    some (decide (((gi at_ i.toNat).Y) < ((gi at_ a.toNat).Y)))
   else
    some false).bind fun t3 =>
   (if t3 then
    ck ((0:Int)≤w∧w < (at_.length:Int)) <|
    some (decide (((gi at_ a.toNat).Y) < ((gi at_ w.toNat).Y)))
   else
    some false).bind fun t4 =>
   if t4 then
    some (.inr (.inr ()))
   else
    (if decide ((gi at_ a.toNat).X = (gi at_ (((gi l a.toNat).Next).get d:Int).toNat).X) then
     ck ((0:Int)≤i∧i < (at_.length:Int)) <|
     ck ((0:Int)≤w∧w < (at_.length:Int)) <|
     some (decide ((gi at_ i.toNat).Y = (gi at_ w.toNat).Y))
    else
     some false).bind fun t5 =>
    (if t5 then
     ck ((0:Int)≤i∧i < (at_.length:Int)) <|
     some (decide (((gi at_ i.toNat).X) < ((gi at_ a.toNat).X)))
    else
     some false).bind fun t6 =>
    (if t6 then
     ck ((0:Int)≤w∧w < (at_.length:Int)) <|
     some (decide (((gi at_ a.toNat).X) < ((gi at_ w.toNat).X)))
    else
     some false).bind fun t7 =>
    (if t7 then
     ck ((0:Int)≤i∧i < (at_.length:Int)) <|
     some (decide (((gi at_ a.toNat).Y) < ((gi at_ i.toNat).Y)))
    else
     some false).bind fun t8 =>
    (if t8 then
     ck ((0:Int)≤i∧i < (at_.length:Int)) <|
     some (decide (((gi at_ i.toNat).Y) < ((gi at_ (((gi l a.toNat).Next).get d:Int).toNat).Y)))
    else
     some false).bind fun t9 =>
    if t9 then
     some (.inr (.inr ()))
    else
     ck (zQ (d + 1)) <|
     some (.inl (d + 1))
 else
  some (.inr (.inl ()))

def ZW.s0 (at_:List Z8) (l:List Zc) (i:Int) (w:Int):Int→Option (Int ⊕ (Unit ⊕ Unit)):=fun a =>
 if decide (a < (l.length:Int)) then
  (
   ze (ZW.s1 at_ l i w a) big 0:Option (Unit ⊕ Unit)).bind fun o₃=>match o₃ with
  | .inl _ =>
   ck (zQ (a + 1)) <|
   some (.inl (a + 1))
  | .inr _ =>
   some (.inr (.inr ()))
 else
  some (.inr (.inl ()))

def ZW (at_:List Z8) (l:List Zc) (i:Int) (w:Int):Option Bool :=
 (
  ze (ZW.s0 at_ l i w) big 0:Option (Unit ⊕ Unit)).bind fun o₁=>match o₁ with
 | .inl _ =>
  some false
 | .inr _ =>
  some true

/-! muntin/muntinref10.with -/
def Zak.s0 (l:List Zc) (v:Int) (d:Int) (w:Int) (o:Int):(List Zc) × Int→Option (((List Zc) × Int) ⊕ (List Zc)):=fun (out,i) =>
 if decide (i < (l.length:Int)) then
  ck ((0:Int)≤i∧i < (l.length:Int)) <|
  (
   if decide (i = v) then
    ck ((0:Int)≤d∧d < 4) <|
    some ({ { gi l i.toNat with Next:=((gi l i.toNat).Next).set d w } with Owner:=(({ gi l i.toNat with Next:=((gi l i.toNat).Next).set d w }).Owner).set d o })
   else
    some (gi l i.toNat)).bind fun c =>
  if decide (i = w) then
   ck (zQ (d + 2)) <|
   ck ((0:Int)≤((d + 2).tmod 4)∧((d + 2).tmod 4) < 4) <|
   ck (out.length + [{ { c with Next:=c.Next.set ((d + 2).tmod 4) v } with Owner:=(({ c with Next:=c.Next.set ((d + 2).tmod 4) v }).Owner).set ((d + 2).tmod 4) o }].length≤1000000000) <|
   ck (zQ (i + 1)) <|
   some (.inl (out++[{ { c with Next:=c.Next.set ((d + 2).tmod 4) v } with Owner:=(({ c with Next:=c.Next.set ((d + 2).tmod 4) v }).Owner).set ((d + 2).tmod 4) o }],i + 1))
  else
   ck (out.length + [c].length≤1000000000) <|
   ck (zQ (i + 1)) <|
   some (.inl (out++[c],i + 1))
 else
  some (.inr out)

def Zak (l:List Zc) (v:Int) (d:Int) (w:Int) (o:Int):Option (List Zc) :=
 (ze (Zak.s0 l v d w o) big (([]:List Zc),0)).bind fun out1 =>
 some out1

/-! muntin/muntinref10.Make -/
def ZK.s1 (z:zB) (at_:List Z8) (i:Int):Bool × Int→Option ((Bool × Int) ⊕ ((List Z8) × Bool)):=fun (met,k_) =>
 if decide (k_ < (at_.length:Int)) then
  (if met then
   some true
  else
   ck ((0:Int)≤k_∧k_ < (at_.length:Int)) <|
   some (decide (gi at_ k_.toNat = (⟨(gi z.At i.toNat).tmod 8,((gi z.At i.toNat).tdiv 8).tmod 8⟩:Z8)))).bind fun t =>
  ck (zQ (k_ + 1)) <|
  some (.inl (t,k_ + 1))
 else
  some (.inr (at_,met))

def ZK.s0 (z:zB) (most:Int):(List Z8) × Int→Option (((List Z8) × Int) ⊕ (List Z8)):=fun (at_,i) =>
 if (decide (i < (z.At.length:Int))) && (decide ((at_.length:Int) < most)) then
  ck ((0:Int)≤i∧i < (z.At.length:Int)) <|
  ck (inK .i64 (gi z.At i.toNat)) <|
  ck ((8:Int)≠0∧zQ ((gi z.At i.toNat).tdiv 8)) <|
  (ze (ZK.s1 z at_ i) big (false,0)).bind fun (at_2,met1) =>
  if !met1 then
   ck (at_2.length + [(⟨(gi z.At i.toNat).tmod 8,((gi z.At i.toNat).tdiv 8).tmod 8⟩:Z8)].length≤1000000000) <|
   ck (zQ (i + 1)) <|
   some (.inl (at_2++[(⟨(gi z.At i.toNat).tmod 8,((gi z.At i.toNat).tdiv 8).tmod 8⟩:Z8)],i + 1))
  else
   ck (zQ (i + 1)) <|
   some (.inl (at_2,i + 1))
 else
  some (.inr at_)

def ZK.s3 (i1:Int) (bits:Int) (at_6:List Z8) (own:Int):(List Zc) × Int→Option (((List Zc) × Int) ⊕ (List Zc)):=fun (l4,d) =>
 if decide (d < 2) then
  (ZX at_6 i1 d).bind fun x1 =>
  ck ((0:Int)≤d) <|
  if (decide (Z3 .u8 (ZD .u8 bits d) 1 = 0)) || (decide (x1 < 0)) then
   ck (zQ (d + 1)) <|
   some (.inl (l4,d + 1))
  else
   (ZW at_6 l4 i1 x1).bind fun x2 =>
   if !x2 then
    (Zak l4 i1 d x1 own).bind fun x3 =>
    ck (zQ (d + 1)) <|
    some (.inl (x3,d + 1))
   else
    ck (zQ (d + 1)) <|
    some (.inl (l4,d + 1))
 else
  some (.inr l4)

def ZK.s2 (z:zB):(List Z8) × (List Zc) × Int→Option (((List Z8) × (List Zc) × Int) ⊕ ((List Z8) × (List Zc))):=fun (at_3,l,i1) =>
 if decide (i1 < (at_3.length:Int)) then
  (
   if decide (i1 < (z.Bits.length:Int)) then
    ck ((0:Int)≤i1∧i1 < (z.Bits.length:Int)) <|
    some (at_3,l,gi z.Bits i1.toNat)
   else
    some (at_3,l,3)).bind fun (at_5,l2,bits) =>
  (
   if decide (i1 < (z.Own.length:Int)) then
    ck ((0:Int)≤i1∧i1 < (z.Own.length:Int)) <|
    ck (inK .i64 (gi z.Own i1.toNat)) <|
    if decide ((gi z.Own i1.toNat) < (-2)) then
     ck (zQ (-(gi z.Own i1.toNat))) <|
     some (at_5,l2,-(gi z.Own i1.toNat))
    else
     some (at_5,l2,gi z.Own i1.toNat)
   else
    some (at_5,l2,i1)).bind fun (at_6,l3,own) =>
  (ze (ZK.s3 i1 bits at_6 own) big (l3,0)).bind fun l5 =>
  ck (zQ (i1 + 1)) <|
  some (.inl (at_6,l5,i1 + 1))
 else
  some (.inr (at_3,l))

def ZK (z:zB) (most:Int):Option ((List Zc) × (List Z8)) :=
 (ze (ZK.s0 z most) big (([]:List Z8),0)).bind fun at_1 =>
 (ZJ (at_1.length:Int)).bind fun x =>
 (ze (ZK.s2 z) big (at_1,x,0)).bind fun (at_4,l1) =>
 some (l1,at_4)

/-! muntin/muntinref08.Make -/
def zr.s0 (z:Za0) (most:Int):(List Bool) × Int→Option (((List Bool) × Int) ⊕ (List Bool)):=fun (s,i) =>
 if (decide (i < (z.Boxes.length:Int))) && (decide (i < most)) then
  ck ((0:Int)≤i∧i < (z.Boxes.length:Int)) <|
  ck (s.length + [gi z.Boxes i.toNat].length≤1000000000) <|
  ck (zQ (i + 1)) <|
  some (.inl (s++[gi z.Boxes i.toNat],i + 1))
 else
  some (.inr s)

def zr.s2 (z:Za0) (i1:Int):zW × Int→Option ((zW × Int) ⊕ zW):=fun (e_1,k_) =>
 ck ((0:Int)≤i1∧i1 < (z.Bends.length:Int)) <|
 ck (inK .i64 (gi z.Bends i1.toNat)) <|
 if decide (k_ < ((gi z.Bends i1.toNat).tmod 4)) then
  ck (zQ (2 + k_)) <|
  ck ((0:Int)≤(2 + k_)) <|
  if decide (Z3 .u8 (ZD .u8 (gi z.Bends i1.toNat) (2 + k_)) 1 = 1) then
   ck (e_1.Bends.size + (⟨#[76]⟩:ByteArray).size≤1000000000000) <|
   ck (zQ (k_ + 1)) <|
   some (.inl ({ e_1 with Bends:=e_1.Bends++(⟨#[76]⟩:ByteArray) },k_ + 1))
  else
   ck (e_1.Bends.size + (⟨#[82]⟩:ByteArray).size≤1000000000000) <|
   ck (zQ (k_ + 1)) <|
   some (.inl ({ e_1 with Bends:=e_1.Bends++(⟨#[82]⟩:ByteArray) },k_ + 1))
 else
  some (.inr e_1)

def zr.s1 (z:Za0) (most:Int) (s1:List Bool):(List zW) × Int→Option (((List zW) × Int) ⊕ (List zW)):=fun (s2,i1) =>
 (if decide (i1 < (z.Edges.length:Int)) then
  ck (zQ (2 * most)) <|
  some (decide (i1 < (2 * most)))
 else
  some false).bind fun t =>
 if t && (decide (0 < (s1.length:Int))) then
  ck ((0:Int)≤i1∧i1 < (z.Edges.length:Int)) <|
  ck (inK .i64 ((gi z.Edges i1.toNat).get 0)) <|
  ck (((s1.length:Int):Int)≠0) <|
  ck (inK .i64 ((gi z.Edges i1.toNat).get 1)) <|
  ck (inK .i64 ((gi z.Edges i1.toNat).get 2)) <|
  (
   if decide (i1 < (z.Bends.length:Int)) then
    (ze (zr.s2 z i1) big ((⟨((gi z.Edges i1.toNat).get 0).tmod (s1.length:Int),((gi z.Edges i1.toNat).get 1).tmod (s1.length:Int),((gi z.Edges i1.toNat).get 2).tmod 4,(⟨#[]⟩:ByteArray)⟩:zW),0)).bind fun e_2 =>
    some e_2
   else
    some (⟨((gi z.Edges i1.toNat).get 0).tmod (s1.length:Int),((gi z.Edges i1.toNat).get 1).tmod (s1.length:Int),((gi z.Edges i1.toNat).get 2).tmod 4,(⟨#[]⟩:ByteArray)⟩:zW)).bind fun e_ =>
  ck (s2.length + [e_].length≤1000000000) <|
  ck (zQ (i1 + 1)) <|
  some (.inl (s2++[e_],i1 + 1))
 else
  some (.inr s2)

def zr (z:Za0) (most:Int):Option z6 :=
 (ze (zr.s0 z most) big (([]:List Bool),0)).bind fun s1 =>
 (ze (zr.s1 z most s1) big (([]:List zW),0)).bind fun s3 =>
 some (⟨s1,s3⟩:z6)

/-! muntin/muntinref10.Join -/
def zx (l:List Zc) (v:Int) (d:Int) (w:Int) (o:Int):Option ((List Zc) × Int) :=
 if (((((((decide (v < 0)) || (decide ((l.length:Int)≤v))) || (decide (w < 0))) || (decide ((l.length:Int)≤w))) || (decide (v = w))) || (decide (d < 0))) || (decide (3 < d))) || (decide (o < (-2))) then
  some (l,2)
 else
  ck ((0:Int)≤v∧v < (l.length:Int)) <|
  ck ((0:Int)≤d∧d < 4) <|
  (if !(decide (((gi l v.toNat).Next).get d = (-1))) then
   some true
  else
   ck (zQ (d + 2)) <|
   ck ((0:Int)≤w∧w < (l.length:Int)) <|
   ck ((0:Int)≤((d + 2).tmod 4)∧((d + 2).tmod 4) < 4) <|
   some (!(decide (((gi l w.toNat).Next).get ((d + 2).tmod 4) = (-1))))).bind fun t =>
  if t then
   some (l,9)
  else
   (Zak l v d w o).bind fun x =>
   some (x,0)

/-! muntin/muntinlaw14.square -/
def ZaW:Option (List Zc) :=
 (ZJ 4).bind fun x =>
 (zx x 0 0 1 0).bind fun (x1,x2) =>
 (zx x1 1 1 2 0).bind fun (x3,x4) =>
 (zx x3 2 2 3 0).bind fun (x5,x6) =>
 (zx x5 3 3 0 0).bind fun (x7,x8) =>
 some x7

/-! muntin/compass.Good -/
def ZaN (d:Int):Option Bool :=
 some ((decide (0≤d)) && (decide (d≤3)))

/-! muntin/compass.Left -/
def Zbd (d:Int) (times:Int):Option Int :=
 (ZaN d).bind fun x =>
 if !x then
  some 0
 else
  ck (zQ (d + (times.tmod 4))) <|
  ck (zQ ((d + (times.tmod 4)) + 4)) <|
  some (((d + (times.tmod 4)) + 4).tmod 4)

/-! muntin/grid.side -/
def ZbT (cells:List Zc) (v:Int) (d:Int):Option Int :=
 ck ((0:Int)≤v∧v < (cells.length:Int)) <|
 ck ((0:Int)≤d∧d < 4) <|
 if decide (((gi cells v.toNat).Next).get d = (-1)) then
  if !(decide (((gi cells v.toNat).Owner).get d = 0)) then
   some 9
  else
   some 0
 else
  if ((decide ((((gi cells v.toNat).Next).get d) < 0)) || (decide ((cells.length:Int)≤(((gi cells v.toNat).Next).get d)))) || (decide (((gi cells v.toNat).Next).get d = v)) then
   some 3
  else
   (Zbd d 2).bind fun x =>
   ck ((0:Int)≤(((gi cells v.toNat).Next).get d)∧(((gi cells v.toNat).Next).get d) < (cells.length:Int)) <|
   ck ((0:Int)≤x∧x < 4) <|
   if ((!(decide (((gi cells (((gi cells v.toNat).Next).get d:Int).toNat).Next).get x = v))) || (!(decide (((gi cells (((gi cells v.toNat).Next).get d:Int).toNat).Owner).get x = ((gi cells v.toNat).Owner).get d)))) || (decide ((((gi cells v.toNat).Owner).get d) < (-2))) then
    some 9
   else
    some 0

/-! muntin/grid.Check -/
def zR.s1 (cells:List Zc) (x:Int):Int→Option (Int ⊕ (Unit ⊕ Int)):=fun x2 =>
 if decide (x2 < 4) then
  (ZbT cells x x2).bind fun x4 =>
  if !(decide (x4 = 0)) then
   some (.inr (.inr x4))
  else
   ck (zQ (x2 + 1)) <|
   some (.inl (x2 + 1))
 else
  some (.inr (.inl ()))

def zR.s0 (cells:List Zc):Int→Option (Int ⊕ (Unit ⊕ Int)):=fun x =>
 if decide (x < (cells.length:Int)) then
  (
   ze (zR.s1 cells x) big 0:Option (Unit ⊕ Int)).bind fun o₃=>match o₃ with
  | .inl _ =>
   ck (zQ (x + 1)) <|
   some (.inl (x + 1))
  | .inr x3 =>
   some (.inr (.inr x3))
 else
  some (.inr (.inl ()))

def zR (cells:List Zc):Option Int :=
 if decide (4096 < (cells.length:Int)) then
  some 6
 else
  (
   ze (zR.s0 cells) big 0:Option (Unit ⊕ Int)).bind fun o₁=>match o₁ with
  | .inl _ =>
   some 0
  | .inr x1 =>
   some x1

/-! math/bits.Mul64 -/
def Zcy (x:Int) (y:Int):Option (Int × Int) :=
 some (zZ .u64 (zZ .u64 (ZS .u64 (ZD .u64 x 32) (ZD .u64 y 32)) (ZD .u64 (zZ .u64 (ZS .u64 (ZD .u64 x 32) (Z3 .u64 y 4294967295)) (ZD .u64 (ZS .u64 (Z3 .u64 x 4294967295) (Z3 .u64 y 4294967295)) 32)) 32)) (ZD .u64 (zZ .u64 (Z3 .u64 (zZ .u64 (ZS .u64 (ZD .u64 x 32) (Z3 .u64 y 4294967295)) (ZD .u64 (ZS .u64 (Z3 .u64 x 4294967295) (Z3 .u64 y 4294967295)) 32)) 4294967295) (ZS .u64 (Z3 .u64 x 4294967295) (ZD .u64 y 32))) 32),ZS .u64 x y)

/-! math/bits.Mul -/
def Zcg (x:Int) (y:Int):Option (Int × Int) :=
 (Zcy x y).bind fun (x1,x2) =>
 some (x1,x2)

/-! slices.Repeat[[]int,int] -/
def Zaa.s0:(List Int) × Int→Option (((List Int) × Int) ⊕ (List Int)):=fun (newslice,n) =>
 if decide (n < (newslice.length:Int)) then
  ck ((0:Int)≤n∧n≤(newslice.length:Int)) <|
  ck (zQ (n + ((min (newslice.take n.toNat).length (newslice.drop n.toNat).length:Nat):Int))) <|
  some (.inl (newslice.take n.toNat++((newslice.take n.toNat).take (newslice.drop n.toNat).length++(newslice.drop n.toNat).drop (newslice.take n.toNat).length),n + ((min (newslice.take n.toNat).length (newslice.drop n.toNat).length:Nat):Int)))
 else
  some (.inr newslice)

def Zaa (x:List Int) (count:Int):Option (List Int) :=
 (
  if decide (count < 0) then
   none
  else
   some ()).bind fun _ =>
 ck (inK .u64 (x.length:Int)) <|
 ck (inK .u64 count) <|
 (Zcg (x.length:Int) count).bind fun (x1,x2) =>
 (
  if (decide (0 < x1)) || (decide (9223372036854775807 < x2)) then
   none
  else
   some ()).bind fun _ =>
 ck (inK .i64 x2) <|
 ck ((0:Int)≤x2∧x2≤1000000000) <|
 (ze Zaa.s0 big (x.take (List.replicate x2.toNat (0:Int)).length++(List.replicate x2.toNat (0:Int)).drop x.length,((min x.length (List.replicate x2.toNat (0:Int)).length:Nat):Int))).bind fun newslice1 =>
 some newslice1

/-! muntin/join.spread -/
def Zat.s1 (cells:List Zc) (l:List Int):(List Int) × (List Int) × (List Int) × (List Bool) × Int→Option (((List Int) × (List Int) × (List Int) × (List Bool) × Int) ⊕ ((List Int) × (List Int) × (List Int) × (List Bool))):=fun (from_2,dir2,l1,met1,x2) =>
 if decide (x2 < 4) then
  ck ((0:Int)≤(gi l (0:Int).toNat)∧(gi l (0:Int).toNat) < (cells.length:Int)) <|
  ck ((0:Int)≤x2∧x2 < 4) <|
  (if decide (0≤(((gi cells (gi l (0:Int).toNat:Int).toNat).Next).get x2)) then
   ck ((0:Int)≤(((gi cells (gi l (0:Int).toNat:Int).toNat).Next).get x2)∧(((gi cells (gi l (0:Int).toNat:Int).toNat).Next).get x2) < (met1.length:Int)) <|
   some (!(gi met1 (((gi cells (gi l (0:Int).toNat:Int).toNat).Next).get x2:Int).toNat))
  else
   some false).bind fun t =>
  if t then
   ck ((0:Int)≤(((gi cells (gi l (0:Int).toNat:Int).toNat).Next).get x2)∧(((gi cells (gi l (0:Int).toNat:Int).toNat).Next).get x2) < (met1.length:Int)) <|
   ck ((0:Int)≤(((gi cells (gi l (0:Int).toNat:Int).toNat).Next).get x2)∧(((gi cells (gi l (0:Int).toNat:Int).toNat).Next).get x2) < (from_2.length:Int)) <|
   ck ((0:Int)≤(((gi cells (gi l (0:Int).toNat:Int).toNat).Next).get x2)∧(((gi cells (gi l (0:Int).toNat:Int).toNat).Next).get x2) < (dir2.length:Int)) <|
   ck (l1.length + [((gi cells (gi l (0:Int).toNat:Int).toNat).Next).get x2].length≤1000000000) <|
   ck (zQ (x2 + 1)) <|
   some (.inl (from_2.set (((gi cells (gi l (0:Int).toNat:Int).toNat).Next).get x2:Int).toNat (gi l (0:Int).toNat),dir2.set (((gi cells (gi l (0:Int).toNat:Int).toNat).Next).get x2:Int).toNat x2,l1++[((gi cells (gi l (0:Int).toNat:Int).toNat).Next).get x2],met1.set (((gi cells (gi l (0:Int).toNat:Int).toNat).Next).get x2:Int).toNat true,x2 + 1))
  else
   ck (zQ (x2 + 1)) <|
   some (.inl (from_2,dir2,l1,met1,x2 + 1))
 else
  some (.inr (from_2,dir2,l1,met1))

def Zat.s0 (cells:List Zc):(List Int) × (List Int) × (List Int) × (List Bool)→Option (((List Int) × (List Int) × (List Int) × (List Bool)) ⊕ ((List Int) × (List Int))):=fun (from_,dir,l,met) =>
 if decide (0 < (l.length:Int)) then
  ck ((0:Int)≤0∧0 < (l.length:Int)) <|
  ck ((0:Int)≤1∧1≤(l.length:Int)) <|
  (ze (Zat.s1 cells l) big (from_,dir,l.drop (1:Int).toNat,met,0)).bind fun (from_3,dir3,l2,met2) =>
  some (.inl (from_3,dir3,l2,met2))
 else
  some (.inr (from_,dir))

def Zat (cells:List Zc) (v:Int):Option ((List Int) × (List Int)) :=
 (Zaa ([(-1)]:List Int) (cells.length:Int)).bind fun x =>
 (Zaa ([(-1)]:List Int) (cells.length:Int)).bind fun x1 =>
 ck ((0:Int)≤(cells.length:Int)∧(cells.length:Int)≤1000000000) <|
 ck ((0:Int)≤v∧v < ((List.replicate ((cells.length:Int):Int).toNat false).length:Int)) <|
 (ze (Zat.s0 cells) big (x,x1,[v],(List.replicate ((cells.length:Int):Int).toNat false).set v.toNat true)).bind fun (from_1,dir1) =>
 some (from_1,dir1)

/-! muntin/join.Parts -/
def Zay.s1 (cells:List Zc) (x1:Int) (x3:List Int):(List Bool) × (List Int) × Int→Option (((List Bool) × (List Int) × Int) ⊕ ((List Bool) × (List Int))):=fun (met1,part,x4) =>
 if decide (x4 < (cells.length:Int)) then
  (if decide (x4 = x1) then
   some true
  else
   ck ((0:Int)≤x4∧x4 < (x3.length:Int)) <|
   some (decide (0≤(gi x3 x4.toNat)))).bind fun t =>
  if t then
   ck ((0:Int)≤x4∧x4 < (met1.length:Int)) <|
   ck (part.length + [x4].length≤1000000000) <|
   ck (zQ (x4 + 1)) <|
   some (.inl (met1.set x4.toNat true,part++[x4],x4 + 1))
  else
   ck (zQ (x4 + 1)) <|
   some (.inl (met1,part,x4 + 1))
 else
  some (.inr (met1,part))

def Zay.s0 (cells:List Zc):(List (List Int)) × (List Bool) × Int→Option (((List (List Int)) × (List Bool) × Int) ⊕ (List (List Int))):=fun (l,met,x1) =>
 if decide (x1 < (cells.length:Int)) then
  ck ((0:Int)≤x1∧x1 < (met.length:Int)) <|
  if gi met x1.toNat then
   ck (zQ (x1 + 1)) <|
   some (.inl (l,met,x1 + 1))
  else
   (Zat cells x1).bind fun (x2,x3) =>
   (ze (Zay.s1 cells x1 x3) big (met,[],0)).bind fun (met2,part1) =>
   ck (l.length + 1≤1000000000) <|
   ck (zQ (x1 + 1)) <|
   some (.inl (l++[part1],met2,x1 + 1))
 else
  some (.inr l)

def Zay (cells:List Zc):Option ((List (List Int)) × Int) :=
 (zR cells).bind fun x =>
 if !(decide (x = 0)) then
  some (([]:List (List Int)),x)
 else
  ck ((0:Int)≤(cells.length:Int)∧(cells.length:Int)≤1000000000) <|
  (ze (Zay.s0 cells) big (([]:List (List Int)),List.replicate ((cells.length:Int):Int).toNat false,0)).bind fun l1 =>
  some (l1,0)

/-! muntin/join.Whole -/
def ZbI (cells:List Zc):Option Bool :=
 (Zay cells).bind fun (x,x1) =>
 some ((decide (x1 = 0)) && (decide ((x.length:Int) = 1)))

/-! (muntin/face.Dart).is -/
def ZaO (d:Zv) (cells:List Zc):Option Bool :=
 if decide (0≤d.Cell) then
  if decide (d.Cell < (cells.length:Int)) then
   (ZaN d.Dir).bind fun x =>
   if x then
    ck ((0:Int)≤d.Cell∧d.Cell < (cells.length:Int)) <|
    ck ((0:Int)≤d.Dir∧d.Dir < 4) <|
    some (decide (0≤(((gi cells (d.Cell:Int).toNat).Next).get d.Dir)))
   else
    some false
  else
   some false
 else
  some false

/-! (muntin/face.Dart).behind -/
def zY.s0 (d:Zv) (cells:List Zc):Int→Option (Int ⊕ (Unit ⊕ Zv)):=fun x =>
 if decide (x < 4) then
  ck ((0:Int)≤x∧x < 4) <|
  (Zbd d.Dir ((⟨1,0,(-1),2⟩:A4 Int).get x)).bind fun x2 =>
  (ZaO (⟨((gi cells (d.Cell:Int).toNat).Next).get d.Dir,x2⟩:Zv) cells).bind fun x3 =>
  if x3 then
   some (.inr (.inr (⟨((gi cells (d.Cell:Int).toNat).Next).get d.Dir,x2⟩:Zv)))
  else
   ck (zQ (x + 1)) <|
   some (.inl (x + 1))
 else
  some (.inr (.inl ()))

def zY (d:Zv) (cells:List Zc):Option Zv :=
 ck ((0:Int)≤d.Cell∧d.Cell < (cells.length:Int)) <|
 ck ((0:Int)≤d.Dir∧d.Dir < 4) <|
 (
  ze (zY.s0 d cells) big 0:Option (Unit ⊕ Zv)).bind fun o₁=>match o₁ with
 | .inl _ =>
  some d
 | .inr x1 =>
  some x1

/-! muntin/face.Faces -/
def Zad.s2 (cells:List Zc):(List (Zv × Bool)) × (List Zv) × Zv→Option (((List (Zv × Bool)) × (List Zv) × Zv) ⊕ ((List (Zv × Bool)) × (List Zv))):=fun (met3,f,x4) =>
 if !(Zcx false x4 met3) then
  ck (f.length + [x4].length≤1000000000) <|
  (zY x4 cells).bind fun x5 =>
  some (.inl (Zdz x4 true met3,f++[x4],x5))
 else
  some (.inr (met3,f))

def Zad.s1 (cells:List Zc) (x1:Int):(List (List Zv)) × (List (Zv × Bool)) × Int→Option (((List (List Zv)) × (List (Zv × Bool)) × Int) ⊕ ((List (List Zv)) × (List (Zv × Bool)))):=fun (l2,met1,x2) =>
 if decide (x2 < 4) then
  (ZaO (⟨x1,x2⟩:Zv) cells).bind fun x3 =>
  if (!x3) || (Zcx false (⟨x1,x2⟩:Zv) met1) then
   ck (zQ (x2 + 1)) <|
   some (.inl (l2,met1,x2 + 1))
  else
   (ze (Zad.s2 cells) big (met1,([]:List Zv),(⟨x1,x2⟩:Zv))).bind fun (met4,f1) =>
   ck (l2.length + 1≤1000000000) <|
   ck (zQ (x2 + 1)) <|
   some (.inl (l2++[f1],met4,x2 + 1))
 else
  some (.inr (l2,met1))

def Zad.s0 (cells:List Zc):(List (List Zv)) × (List (Zv × Bool)) × Int→Option (((List (List Zv)) × (List (Zv × Bool)) × Int) ⊕ (List (List Zv))):=fun (l,met,x1) =>
 if decide (x1 < (cells.length:Int)) then
  (ze (Zad.s1 cells x1) big (l,met,0)).bind fun (l3,met2) =>
  ck (zQ (x1 + 1)) <|
  some (.inl (l3,met2,x1 + 1))
 else
  some (.inr l)

def Zad (cells:List Zc):Option ((List (List Zv)) × Int) :=
 (zR cells).bind fun x =>
 if !(decide (x = 0)) then
  some (([]:List (List Zv)),x)
 else
  (ze (Zad.s0 cells) big (([]:List (List Zv)),([]:List (Zv × Bool)),0)).bind fun l1 =>
  some (l1,0)

/-! muntin/compass.Turn -/
def Zb5 (d:Int) (e_:Int):Option Int :=
 (ZaN d).bind fun x =>
 (if !x then
  some true
 else
  (ZaN e_).bind fun x1 =>
  some (!x1)).bind fun t =>
 if t then
  some 0
 else
  ck (zQ (e_ - d)) <|
  ck (zQ ((e_ - d) + 4)) <|
  ck ((0:Int)≤(((e_ - d) + 4).tmod 4)∧(((e_ - d) + 4).tmod 4) < 4) <|
  some ((⟨0,1,(-2),(-1)⟩:A4 Int).get (((e_ - d) + 4).tmod 4))

/-! muntin/face.Turns -/
def ZaY.s0 (cells:List Zc) (f:List Zv):(List Int) × Int→Option (((List Int) × Int) ⊕ (List Int)):=fun (l,x1) =>
 if decide (x1 < (f.length:Int)) then
  ck ((0:Int)≤x1∧x1 < (f.length:Int)) <|
  (ZaO (gi f x1.toNat) cells).bind fun x2 =>
  if x2 then
   (zY (gi f x1.toNat) cells).bind fun x3 =>
   (Zb5 ((gi f x1.toNat).Dir) x3.Dir).bind fun x4 =>
   ck ((0:Int)≤x1∧x1 < (l.length:Int)) <|
   ck (zQ (x1 + 1)) <|
   some (.inl (l.set x1.toNat x4,x1 + 1))
  else
   ck (zQ (x1 + 1)) <|
   some (.inl (l,x1 + 1))
 else
  some (.inr l)

def ZaY (cells:List Zc) (f:List Zv):Option (List Int) :=
 ck ((0:Int)≤(f.length:Int)∧(f.length:Int)≤1000000000) <|
 (zR cells).bind fun x =>
 if !(decide (x = 0)) then
  some (List.replicate ((f.length:Int):Int).toNat (0:Int))
 else
  (ze (ZaY.s0 cells f) big (List.replicate ((f.length:Int):Int).toNat (0:Int),0)).bind fun l1 =>
  some l1

/-! muntin/face.Rotation -/
def ZaC.s0 (turns:List Int):Int × Int→Option ((Int × Int) ⊕ Int):=fun (n,x) =>
 if decide (x < (turns.length:Int)) then
  ck ((0:Int)≤x∧x < (turns.length:Int)) <|
  if (decide ((-2)≤(gi turns x.toNat))) && (decide ((gi turns x.toNat)≤1)) then
   ck (zQ (n + (gi turns x.toNat))) <|
   ck (zQ (x + 1)) <|
   some (.inl (n + (gi turns x.toNat),x + 1))
  else
   ck (zQ (x + 1)) <|
   some (.inl (n,x + 1))
 else
  some (.inr n)

def ZaC (turns:List Int):Option Int :=
 (ze (ZaC.s0 turns) big (0,0)).bind fun n1 =>
 some n1

/-! muntin/valid.outer -/
def Za9.s0 (cells:List Zc) (x:List (List Zv)):Int × Int→Option ((Int × Int) ⊕ (Int ⊕ Unit)):=fun (at_,x2) =>
 if decide (x2 < (x.length:Int)) then
  ck ((0:Int)≤x2∧x2 < (x.length:Int)) <|
  (ZaY cells (gi x x2.toNat)).bind fun x3 =>
  (ZaC x3).bind fun x4 =>
  if decide (x4 = 4) then
   ck (zQ (x2 + 1)) <|
   some (.inl (at_,x2 + 1))
  else
   if decide (x4 = (-4)) then
    if decide (0≤at_) then
     some (.inr (.inr ()))
    else
     ck (zQ (x2 + 1)) <|
     some (.inl (x2,x2 + 1))
   else
    some (.inr (.inr ()))
 else
  some (.inr (.inl at_))

def Za9 (cells:List Zc):Option (Int × Bool) :=
 (Zad cells).bind fun (x,x1) =>
 (
  ze (Za9.s0 cells x) big ((-1),0):Option (Int ⊕ Unit)).bind fun o₁=>match o₁ with
 | .inl at_1 =>
  some (at_1,decide (0≤at_1))
 | .inr _ =>
  some (0,false)

/-! muntin/valid.Check -/
def Zaz (cells:List Zc):Option Int :=
 (zR cells).bind fun x =>
 if !(decide (x = 0)) then
  some x
 else
  (ZbI cells).bind fun x1 =>
  if !x1 then
   some 13
  else
   (Za9 cells).bind fun (x2,x3) =>
   if (!x3) && (decide (1 < (cells.length:Int))) then
    some 10
   else
    some 0

/-! muntin/valid.Outer -/
def Zbe (cells:List Zc):Option (Int × Int) :=
 (Zaz cells).bind fun x =>
 if !(decide (x = 0)) then
  some (0,x)
 else
  (Za9 cells).bind fun (x1,x2) =>
  if !x2 then
   some (0,2)
  else
   some (x1,0)

/-! muntin/muntinlaw14.wakes -/
def Zbw:Option Bool :=
 (ZaW ).bind fun x =>
 (Zbe x).bind fun (x1,x2) =>
 (ZJ 1).bind fun x3 =>
 (Zbe x3).bind fun (x4,x5) =>
 (ZaW ).bind fun x6 =>
 (Zaz x6).bind fun x7 =>
 (if ((decide (x7 = 0)) && (decide (x1 = 1))) && (decide (x2 = 0)) then
  (ZJ 1).bind fun x8 =>
  (Zaz x8).bind fun x9 =>
  some (decide (x9 = 0))
 else
  some false).bind fun t =>
 (if t && (decide (x5 = 2)) then
  (ZJ 2).bind fun x10 =>
  (Zaz x10).bind fun x11 =>
  some (decide (x11 = 13))
 else
  some false).bind fun t1 =>
 (if t1 then
  (Zaz ([]:List Zc)).bind fun x12 =>
  some (decide (x12 = 13))
 else
  some false).bind fun t2 =>
 some t2

/-! muntin/muntinref10.Check -/
def zq.s1 (l:List Zc) (v:Int):Int→Option (Int ⊕ (Unit ⊕ Int)):=fun d =>
 if decide (d < 4) then
  ck ((0:Int)≤v∧v < (l.length:Int)) <|
  ck ((0:Int)≤d∧d < 4) <|
  if decide (((gi l v.toNat).Next).get d = (-1)) then
   if !(decide (((gi l v.toNat).Owner).get d = 0)) then
    some (.inr (.inr 9))
   else
    ck (zQ (d + 1)) <|
    some (.inl (d + 1))
  else
   if ((decide ((((gi l v.toNat).Next).get d) < 0)) || (decide ((l.length:Int)≤(((gi l v.toNat).Next).get d)))) || (decide (((gi l v.toNat).Next).get d = v)) then
    some (.inr (.inr 3))
   else
    ck (zQ (d + 2)) <|
    ck ((0:Int)≤(((gi l v.toNat).Next).get d)∧(((gi l v.toNat).Next).get d) < (l.length:Int)) <|
    ck ((0:Int)≤((d + 2).tmod 4)∧((d + 2).tmod 4) < 4) <|
    if ((!(decide (((gi l (((gi l v.toNat).Next).get d:Int).toNat).Next).get ((d + 2).tmod 4) = v))) || (!(decide (((gi l (((gi l v.toNat).Next).get d:Int).toNat).Owner).get ((d + 2).tmod 4) = ((gi l v.toNat).Owner).get d)))) || (decide ((((gi l v.toNat).Owner).get d) < (-2))) then
     some (.inr (.inr 9))
    else
     ck (zQ (d + 1)) <|
     some (.inl (d + 1))
 else
  some (.inr (.inl ()))

def zq.s0 (l:List Zc):Int→Option (Int ⊕ (Unit ⊕ Int)):=fun v =>
 if decide (v < (l.length:Int)) then
  (
   ze (zq.s1 l v) big 0:Option (Unit ⊕ Int)).bind fun o₃=>match o₃ with
  | .inl _ =>
   ck (zQ (v + 1)) <|
   some (.inl (v + 1))
  | .inr x1 =>
   some (.inr (.inr x1))
 else
  some (.inr (.inl ()))

def zq (l:List Zc):Option Int :=
 if decide (4096 < (l.length:Int)) then
  some 6
 else
  (
   ze (zq.s0 l) big 0:Option (Unit ⊕ Int)).bind fun o₁=>match o₁ with
  | .inl _ =>
   some 0
  | .inr x =>
   some x

/-! muntin/muntinref13.Far -/
def ZR.s0 (l:List Zc):(List Int) × Int→Option (((List Int) × Int) ⊕ (List Int)):=fun (far,i) =>
 if decide (i < (l.length:Int)) then
  ck ((0:Int)≤i∧i < (far.length:Int)) <|
  ck (zQ (i + 1)) <|
  some (.inl (far.set i.toNat (-1),i + 1))
 else
  some (.inr far)

def ZR.s3 (l:List Zc) (round:Int) (i1:Int):(List Int) × Int→Option (((List Int) × Int) ⊕ (List Int)):=fun (far6,d) =>
 if decide (d < 4) then
  ck ((0:Int)≤i1∧i1 < (l.length:Int)) <|
  ck ((0:Int)≤d∧d < 4) <|
  ck ((0:Int)≤i1∧i1 < (far6.length:Int)) <|
  (if (decide (gi far6 i1.toNat = round)) && (decide (0≤(((gi l i1.toNat).Next).get d))) then
   ck ((0:Int)≤(max (((gi l i1.toNat).Next).get d) 0)∧(max (((gi l i1.toNat).Next).get d) 0) < (far6.length:Int)) <|
   some (decide ((gi far6 (max (((gi l i1.toNat).Next).get d) 0:Int).toNat) < 0))
  else
   some false).bind fun t =>
  if t then
   ck (zQ (round + 1)) <|
   ck ((0:Int)≤(((gi l i1.toNat).Next).get d)∧(((gi l i1.toNat).Next).get d) < (far6.length:Int)) <|
   ck (zQ (d + 1)) <|
   some (.inl (far6.set (((gi l i1.toNat).Next).get d:Int).toNat (round + 1),d + 1))
  else
   ck (zQ (d + 1)) <|
   some (.inl (far6,d + 1))
 else
  some (.inr far6)

def ZR.s2 (l:List Zc) (round:Int):(List Int) × Int→Option (((List Int) × Int) ⊕ (List Int)):=fun (far4,i1) =>
 if decide (i1 < (l.length:Int)) then
  (ze (ZR.s3 l round i1) big (far4,0)).bind fun far7 =>
  ck (zQ (i1 + 1)) <|
  some (.inl (far7,i1 + 1))
 else
  some (.inr far4)

def ZR.s1 (l:List Zc):(List Int) × Int→Option (((List Int) × Int) ⊕ (List Int)):=fun (far2,round) =>
 if decide (round < (l.length:Int)) then
  (ze (ZR.s2 l round) big (far2,0)).bind fun far5 =>
  ck (zQ (round + 1)) <|
  some (.inl (far5,round + 1))
 else
  some (.inr far2)

def ZR (l:List Zc) (v:Int):Option (List Int) :=
 ck ((0:Int)≤(l.length:Int)∧(l.length:Int)≤1000000000) <|
 (ze (ZR.s0 l) big (List.replicate ((l.length:Int):Int).toNat (0:Int),0)).bind fun far1 =>
 ck ((0:Int)≤v∧v < (far1.length:Int)) <|
 (ze (ZR.s1 l) big (far1.set v.toNat 0,0)).bind fun far3 =>
 some far3

/-! muntin/muntinref13.Parts -/
def z4.s1 (l:List Zc) (x:List Int):(List Bool) × (List Int) × Int→Option (((List Bool) × (List Int) × Int) ⊕ ((List Bool) × (List Int))):=fun (in_1,p,w) =>
 if decide (w < (l.length:Int)) then
  ck ((0:Int)≤w∧w < (x.length:Int)) <|
  if decide (0≤(gi x w.toNat)) then
   ck ((0:Int)≤w∧w < (in_1.length:Int)) <|
   ck (p.length + [w].length≤1000000000) <|
   ck (zQ (w + 1)) <|
   some (.inl (in_1.set w.toNat true,p++[w],w + 1))
  else
   ck (zQ (w + 1)) <|
   some (.inl (in_1,p,w + 1))
 else
  some (.inr (in_1,p))

def z4.s0 (l:List Zc):(List Bool) × (List (List Int)) × Int→Option (((List Bool) × (List (List Int)) × Int) ⊕ (List (List Int))):=fun (in_,out,v) =>
 if decide (v < (l.length:Int)) then
  ck ((0:Int)≤v∧v < (in_.length:Int)) <|
  if gi in_ v.toNat then
   ck (zQ (v + 1)) <|
   some (.inl (in_,out,v + 1))
  else
   (ZR l v).bind fun x =>
   (ze (z4.s1 l x) big (in_,([]:List Int),0)).bind fun (in_2,p1) =>
   ck (out.length + 1≤1000000000) <|
   ck (zQ (v + 1)) <|
   some (.inl (in_2,out++[p1],v + 1))
 else
  some (.inr out)

def z4 (l:List Zc):Option (List (List Int)) :=
 ck ((0:Int)≤(l.length:Int)∧(l.length:Int)≤1000000000) <|
 (ze (z4.s0 l) big (List.replicate ((l.length:Int):Int).toNat false,([]:List (List Int)),0)).bind fun out1 =>
 some out1

/-! muntin/muntinref12.Behind -/
def zK.s0 (l:List Zc) (d:Zw):Int→Option (Int ⊕ (Unit ⊕ Zw)):=fun i =>
 if decide (i < 4) then
  ck ((0:Int)≤i∧i < (([1,0,3,2]:List Int).length:Int)) <|
  ck (zQ (d.Dir + (gi ([1,0,3,2]:List Int) i.toNat))) <|
  ck ((0:Int)≤(((gi l (d.Cell:Int).toNat).Next).get d.Dir)∧(((gi l (d.Cell:Int).toNat).Next).get d.Dir) < (l.length:Int)) <|
  ck ((0:Int)≤((d.Dir + (gi ([1,0,3,2]:List Int) i.toNat)).tmod 4)∧((d.Dir + (gi ([1,0,3,2]:List Int) i.toNat)).tmod 4) < 4) <|
  if decide (0≤(((gi l (((gi l (d.Cell:Int).toNat).Next).get d.Dir:Int).toNat).Next).get ((d.Dir + (gi ([1,0,3,2]:List Int) i.toNat)).tmod 4))) then
   some (.inr (.inr (⟨((gi l (d.Cell:Int).toNat).Next).get d.Dir,(d.Dir + (gi ([1,0,3,2]:List Int) i.toNat)).tmod 4⟩:Zw)))
  else
   ck (zQ (i + 1)) <|
   some (.inl (i + 1))
 else
  some (.inr (.inl ()))

def zK (l:List Zc) (d:Zw):Option Zw :=
 ck ((0:Int)≤d.Cell∧d.Cell < (l.length:Int)) <|
 ck ((0:Int)≤d.Dir∧d.Dir < 4) <|
 (
  ze (zK.s0 l d) big 0:Option (Unit ⊕ Zw)).bind fun o₁=>match o₁ with
 | .inl _ =>
  some d
 | .inr x =>
  some x

/-! muntin/muntinref12.Faces -/
def ZV.s2 (l:List Zc):(List Bool) × (List Zw) × Zw→Option (((List Bool) × (List Zw) × Zw) ⊕ ((List Bool) × (List Zw))):=fun (met3,f,d) =>
 ck (zQ (4 * d.Cell)) <|
 ck (zQ ((4 * d.Cell) + d.Dir)) <|
 ck ((0:Int)≤((4 * d.Cell) + d.Dir)∧((4 * d.Cell) + d.Dir) < (met3.length:Int)) <|
 if !(gi met3 ((4 * d.Cell) + d.Dir:Int).toNat) then
  ck (f.length + [d].length≤1000000000) <|
  (zK l d).bind fun x =>
  some (.inl (met3.set ((4 * d.Cell) + d.Dir:Int).toNat true,f++[d],x))
 else
  some (.inr (met3,f))

def ZV.s1 (l:List Zc) (v:Int):(List Bool) × (List (List Zw)) × Int→Option (((List Bool) × (List (List Zw)) × Int) ⊕ ((List Bool) × (List (List Zw)))):=fun (met1,out2,e_) =>
 if decide (e_ < 4) then
  ck ((0:Int)≤v∧v < (l.length:Int)) <|
  ck ((0:Int)≤e_∧e_ < 4) <|
  (if decide ((((gi l v.toNat).Next).get e_) < 0) then
   some true
  else
   ck (zQ (4 * v)) <|
   ck (zQ ((4 * v) + e_)) <|
   ck ((0:Int)≤((4 * v) + e_)∧((4 * v) + e_) < (met1.length:Int)) <|
   some (gi met1 ((4 * v) + e_:Int).toNat)).bind fun t =>
  if t then
   ck (zQ (e_ + 1)) <|
   some (.inl (met1,out2,e_ + 1))
  else
   (ze (ZV.s2 l) big (met1,([]:List Zw),(⟨v,e_⟩:Zw))).bind fun (met4,f1) =>
   ck (out2.length + 1≤1000000000) <|
   ck (zQ (e_ + 1)) <|
   some (.inl (met4,out2++[f1],e_ + 1))
 else
  some (.inr (met1,out2))

def ZV.s0 (l:List Zc):(List Bool) × (List (List Zw)) × Int→Option (((List Bool) × (List (List Zw)) × Int) ⊕ (List (List Zw))):=fun (met,out,v) =>
 if decide (v < (l.length:Int)) then
  (ze (ZV.s1 l v) big (met,out,0)).bind fun (met2,out3) =>
  ck (zQ (v + 1)) <|
  some (.inl (met2,out3,v + 1))
 else
  some (.inr out)

def ZV (l:List Zc):Option (List (List Zw)) :=
 ck (zQ (4 * (l.length:Int))) <|
 ck ((0:Int)≤(4 * (l.length:Int))∧(4 * (l.length:Int))≤1000000000) <|
 (ze (ZV.s0 l) big (List.replicate (4 * (l.length:Int):Int).toNat false,([]:List (List Zw)),0)).bind fun out1 =>
 some out1

/-! muntin/muntinref01.Good -/
def ZaL (d:Int):Option Bool :=
 some ((decide (0≤d)) && (decide (d≤3)))

/-! muntin/muntinref01.Left -/
def Zbj (d:Int) (times:Int):Option Int :=
 (ZaL d).bind fun x =>
 if !x then
  some 0
 else
  if decide ((times.tmod 4) < 0) then
   ck (zQ ((times.tmod 4) + 4)) <|
   ck (zQ (d + ((times.tmod 4) + 4))) <|
   some ((d + ((times.tmod 4) + 4)).tmod 4)
  else
   ck (zQ (d + (times.tmod 4))) <|
   some ((d + (times.tmod 4)).tmod 4)

/-! muntin/muntinref01.Turn -/
def Zbk (d:Int) (e_:Int):Option Int :=
 (ZaL d).bind fun x =>
 (ZaL e_).bind fun x1 =>
 if ((!x) || (!x1)) || (decide (d = e_)) then
  some 0
 else
  (Zbj d 1).bind fun x2 =>
  if decide (x2 = e_) then
   some 1
  else
   (Zbj d 3).bind fun x3 =>
   if decide (x3 = e_) then
    some (-1)
   else
    some (-2)

/-! muntin/muntinref12.Turns -/
def Zar.s0 (l:List Zc) (f:List Zw):(List Int) × Int→Option (((List Int) × Int) ⊕ (List Int)):=fun (out,i) =>
 if decide (i < (f.length:Int)) then
  ck ((0:Int)≤i∧i < (f.length:Int)) <|
  (zK l (gi f i.toNat)).bind fun x =>
  (Zbk ((gi f i.toNat).Dir) x.Dir).bind fun x1 =>
  ck (out.length + [x1].length≤1000000000) <|
  ck (zQ (i + 1)) <|
  some (.inl (out++[x1],i + 1))
 else
  some (.inr out)

def Zar (l:List Zc) (f:List Zw):Option (List Int) :=
 (ze (Zar.s0 l f) big (([]:List Int),0)).bind fun out1 =>
 some out1

/-! muntin/muntinref12.Rotation -/
def zX.s0 (t:List Int):Int × Int→Option ((Int × Int) ⊕ Int):=fun (n,i) =>
 if decide (i < (t.length:Int)) then
  ck ((0:Int)≤i∧i < (t.length:Int)) <|
  if (decide ((-2)≤(gi t i.toNat))) && (decide ((gi t i.toNat)≤1)) then
   ck (zQ (n + (gi t i.toNat))) <|
   ck (zQ (i + 1)) <|
   some (.inl (n + (gi t i.toNat),i + 1))
  else
   ck (zQ (i + 1)) <|
   some (.inl (n,i + 1))
 else
  some (.inr n)

def zX (t:List Int):Option Int :=
 (ze (zX.s0 t) big (0,0)).bind fun n1 =>
 some n1

/-! muntin/muntinref14.Outer -/
def Zan.s0 (l:List Zc) (x2:List (List Zw)):Int × Int→Option ((Int × Int) ⊕ (Int ⊕ Unit)):=fun (at_,i) =>
 if decide (i < (x2.length:Int)) then
  ck ((0:Int)≤i∧i < (x2.length:Int)) <|
  (Zar l (gi x2 i.toNat)).bind fun x3 =>
  (zX x3).bind fun x4 =>
  if ((!(decide (x4 = 4))) && (!(decide (x4 = (-4))))) || ((decide (x4 = (-4))) && (decide (0≤at_))) then
   some (.inr (.inr ()))
  else
   if decide (x4 = (-4)) then
    ck (zQ (i + 1)) <|
    some (.inl (i,i + 1))
   else
    ck (zQ (i + 1)) <|
    some (.inl (at_,i + 1))
 else
  some (.inr (.inl at_))

def Zan (l:List Zc):Option (Int × Int) :=
 (zq l).bind fun x =>
 if !(decide (x = 0)) then
  some ((-1),x)
 else
  (z4 l).bind fun x1 =>
  if !(decide ((x1.length:Int) = 1)) then
   some ((-1),13)
  else
   if decide ((l.length:Int) = 1) then
    some ((-1),0)
   else
    (ZV l).bind fun x2 =>
    (
     ze (Zan.s0 l x2) big ((-1),0):Option (Int ⊕ Unit)).bind fun o₁=>match o₁ with
    | .inl at_1 =>
     if decide (at_1 < 0) then
      some ((-1),10)
     else
      some (at_1,0)
    | .inr _ =>
     some ((-1),10)

/-! muntin/muntinlaw14.told -/
def Za5 (l:List Zc):Option Bool :=
 (Zan l).bind fun (x,x1) =>
 (Zbe l).bind fun (x2,x3) =>
 (Zaz l).bind fun x4 =>
 if !(decide (x4 = x1)) then
  some false
 else
  if !(decide (x1 = 0)) then
   some ((decide (x3 = x1)) && (decide (x2 = 0)))
  else
   if decide (x < 0) then
    some ((decide (x3 = 2)) && (decide (x2 = 0)))
   else
    some ((decide (x3 = 0)) && (decide (x2 = x)))

/-! muntin/muntinref08.turns -/
def Zam.s0 (s:ByteArray):Int→Option (Int ⊕ (Unit ⊕ Unit)):=fun i =>
 if decide (i < (s.size:Int)) then
  ck ((0:Int)≤i∧i < (s.size:Int)) <|
  if (!(decide (sAt s i.toNat = 76))) && (!(decide (sAt s i.toNat = 82))) then
   some (.inr (.inr ()))
  else
   ck (zQ (i + 1)) <|
   some (.inl (i + 1))
 else
  some (.inr (.inl ()))

def Zam (s:ByteArray):Option Bool :=
 (
  ze (Zam.s0 s) big 0:Option (Unit ⊕ Unit)).bind fun o₁=>match o₁ with
 | .inl _ =>
  some true
 | .inr _ =>
  some false

/-! muntin/muntinref08.Check -/
def z7.s0 (s:z6):Int × Int→Option ((Int × Int) ⊕ Int):=fun (n,i) =>
 if decide (i < (s.Edges.length:Int)) then
  ck ((0:Int)≤i∧i < (s.Edges.length:Int)) <|
  ck (zQ (n + (((gi s.Edges i.toNat).Bends).size:Int))) <|
  ck (zQ (i + 1)) <|
  some (.inl (n + (((gi s.Edges i.toNat).Bends).size:Int),i + 1))
 else
  some (.inr n)

def z7.s1 (s:z6):Int→Option (Int ⊕ (Unit ⊕ Int)):=fun i1 =>
 if decide (i1 < (s.Edges.length:Int)) then
  ck ((0:Int)≤i1∧i1 < (s.Edges.length:Int)) <|
  if (((decide (((gi s.Edges i1.toNat).From) < 0)) || (decide ((s.Boxes.length:Int)≤((gi s.Edges i1.toNat).From)))) || (decide (((gi s.Edges i1.toNat).To) < 0))) || (decide ((s.Boxes.length:Int)≤((gi s.Edges i1.toNat).To))) then
   some (.inr (.inr 3))
  else
   (Zam ((gi s.Edges i1.toNat).Bends)).bind fun x1 =>
   if ((decide (((gi s.Edges i1.toNat).Dir) < 0)) || (decide (3 < ((gi s.Edges i1.toNat).Dir)))) || (!x1) then
    some (.inr (.inr 2))
   else
    ck (zQ (i1 + 1)) <|
    some (.inl (i1 + 1))
 else
  some (.inr (.inl ()))

def z7 (s:z6):Option Int :=
 (ze (z7.s0 s) big (0,0)).bind fun n1 =>
 if ((decide (4096 < (s.Boxes.length:Int))) || (decide (4096 < (s.Edges.length:Int)))) || (decide (4096 < n1)) then
  some 6
 else
  (
   ze (z7.s1 s) big 0:Option (Unit ⊕ Int)).bind fun o₃=>match o₃ with
  | .inl _ =>
   some 0
  | .inr x =>
   some x

/-! muntin/muntinref09.Last -/
def Zaw.s0 (e_:zW):Int × Int→Option ((Int × Int) ⊕ Int):=fun (d,i) =>
 if decide (i < (e_.Bends.size:Int)) then
  ck ((0:Int)≤i∧i < (e_.Bends.size:Int)) <|
  if decide (sAt e_.Bends i.toNat = 76) then
   ck (zQ (d + 1)) <|
   ck (zQ (i + 1)) <|
   some (.inl ((d + 1).tmod 4,i + 1))
  else
   ck (zQ (d + 3)) <|
   ck (zQ (i + 1)) <|
   some (.inl ((d + 3).tmod 4,i + 1))
 else
  some (.inr d)

def Zaw (e_:zW):Option Int :=
 (ze (Zaw.s0 e_) big (e_.Dir,0)).bind fun d1 =>
 some d1

/-! muntin/muntinref11.Side -/
def Zbl (e_:zW):Option Int :=
 (Zaw e_).bind fun x =>
 ck (zQ (x + 2)) <|
 some ((x + 2).tmod 4)

/-! muntin/muntinref11.On -/
def zV.s0 (s:z6) (v:Int) (d:Int):(List Int) × Int→Option (((List Int) × Int) ⊕ (List Int)):=fun (l,i) =>
 if decide (i < (s.Edges.length:Int)) then
  ck ((0:Int)≤i∧i < (s.Edges.length:Int)) <|
  (
   if (decide ((gi s.Edges i.toNat).From = v)) && (decide ((gi s.Edges i.toNat).Dir = d)) then
    ck (zQ (2 * i)) <|
    ck (l.length + [2 * i].length≤1000000000) <|
    some (l++[2 * i])
   else
    some l).bind fun l2 =>
  (Zbl (gi s.Edges i.toNat)).bind fun x =>
  if (decide ((gi s.Edges i.toNat).To = v)) && (decide (x = d)) then
   ck (zQ (2 * i)) <|
   ck (zQ ((2 * i) + 1)) <|
   ck (l2.length + [(2 * i) + 1].length≤1000000000) <|
   ck (zQ (i + 1)) <|
   some (.inl (l2++[(2 * i) + 1],i + 1))
  else
   ck (zQ (i + 1)) <|
   some (.inl (l2,i + 1))
 else
  some (.inr l)

def zV (s:z6) (v:Int) (d:Int):Option (List Int) :=
 (ze (zV.s0 s v d) big (([]:List Int),0)).bind fun l1 =>
 some l1

/-! muntin/muntinref11.Count -/
def zl.s1 (s:z6) (v:Int):Int × Int→Option ((Int × Int) ⊕ Int):=fun (n2,d) =>
 (if decide (d < 4) then
  ck ((0:Int)≤v∧v < (s.Boxes.length:Int)) <|
  some (gi s.Boxes v.toNat)
 else
  some false).bind fun t =>
 if t then
  (zV s v d).bind fun x =>
  ck (zQ (n2 + (x.length:Int))) <|
  ck (zQ (d + 1)) <|
  some (.inl (n2 + (x.length:Int),d + 1))
 else
  some (.inr n2)

def zl.s0 (s:z6):Int × Int→Option ((Int × Int) ⊕ Int):=fun (n,v) =>
 if decide (v < (s.Boxes.length:Int)) then
  ck (zQ (n + 1)) <|
  (ze (zl.s1 s v) big (n + 1,0)).bind fun n3 =>
  ck ((0:Int)≤v∧v < (s.Boxes.length:Int)) <|
  if gi s.Boxes v.toNat then
   ck (zQ (n3 + 3)) <|
   ck (zQ (v + 1)) <|
   some (.inl (n3 + 3,v + 1))
  else
   ck (zQ (v + 1)) <|
   some (.inl (n3,v + 1))
 else
  some (.inr n)

def zl.s2 (s:z6):Int × Int→Option ((Int × Int) ⊕ Int):=fun (n4,i) =>
 if decide (i < (s.Edges.length:Int)) then
  ck ((0:Int)≤i∧i < (s.Edges.length:Int)) <|
  ck (zQ (n4 + (((gi s.Edges i.toNat).Bends).size:Int))) <|
  ck (zQ (i + 1)) <|
  some (.inl (n4 + (((gi s.Edges i.toNat).Bends).size:Int),i + 1))
 else
  some (.inr n4)

def zl (s:z6):Option Int :=
 (ze (zl.s0 s) big (0,0)).bind fun n1 =>
 (ze (zl.s2 s) big (n1,0)).bind fun n5 =>
 some n5

/-! muntin/muntinref11.Wrong -/
def zd.s1 (s:z6) (v:Int):Int→Option (Int ⊕ (Unit ⊕ Unit)):=fun d =>
 (if decide (d < 4) then
  ck ((0:Int)≤v∧v < (s.Boxes.length:Int)) <|
  some (!(gi s.Boxes v.toNat))
 else
  some false).bind fun t =>
 if t then
  (zV s v d).bind fun x2 =>
  if decide (1 < (x2.length:Int)) then
   some (.inr (.inr ()))
  else
   ck (zQ (d + 1)) <|
   some (.inl (d + 1))
 else
  some (.inr (.inl ()))

def zd.s0 (s:z6):Int→Option (Int ⊕ (Unit ⊕ Unit)):=fun v =>
 if decide (v < (s.Boxes.length:Int)) then
  (
   ze (zd.s1 s v) big 0:Option (Unit ⊕ Unit)).bind fun o₃=>match o₃ with
  | .inl _ =>
   ck (zQ (v + 1)) <|
   some (.inl (v + 1))
  | .inr _ =>
   some (.inr (.inr ()))
 else
  some (.inr (.inl ()))

def zd.s2 (s:z6):Int→Option (Int ⊕ (Unit ⊕ Unit)):=fun i =>
 if decide (i < (s.Edges.length:Int)) then
  ck ((0:Int)≤i∧i < (s.Edges.length:Int)) <|
  (if (decide ((gi s.Edges i.toNat).From = (gi s.Edges i.toNat).To)) && (((gi s.Edges i.toNat).Bends).toList == (⟨#[]⟩:ByteArray).toList) then
   ck ((0:Int)≤((gi s.Edges i.toNat).From)∧((gi s.Edges i.toNat).From) < (s.Boxes.length:Int)) <|
   some (!(gi s.Boxes ((gi s.Edges i.toNat).From:Int).toNat))
  else
   some false).bind fun t1 =>
  if t1 then
   some (.inr (.inr ()))
  else
   ck (zQ (i + 1)) <|
   some (.inl (i + 1))
 else
  some (.inr (.inl ()))

def zd (s:z6):Option Int :=
 (z7 s).bind fun x =>
 if !(decide (x = 0)) then
  some x
 else
  (zl s).bind fun x1 =>
  if decide (4096 < x1) then
   some 6
  else
   (
    ze (zd.s0 s) big 0:Option (Unit ⊕ Unit)).bind fun o₁=>match o₁ with
   | .inl _ =>
    (
     ze (zd.s2 s) big 0:Option (Unit ⊕ Unit)).bind fun o₅=>match o₅ with
    | .inl _ =>
     some 0
    | .inr _ =>
     some 10
   | .inr _ =>
    some 8

/-! muntin/muntinref11.box -/
def zS.s1 (d:Int) (x1:List Int):(List Zc) × (List (A2 Int)) × Int × Int→Option (((List Zc) × (List (A2 Int)) × Int × Int) ⊕ ((List Zc) × (List (A2 Int)) × Int)):=fun (n5,n6,from_,i) =>
 if decide (i < (x1.length:Int)) then
  (ZJ 1).bind fun x2 =>
  ck (n5.length + x2.length≤1000000000) <|
  ck ((0:Int)≤i∧i < (x1.length:Int)) <|
  ck ((2:Int)≠0∧zQ ((gi x1 i.toNat).tdiv 2)) <|
  ck ((0:Int)≤((gi x1 i.toNat).tdiv 2)∧((gi x1 i.toNat).tdiv 2) < (n6.length:Int)) <|
  ck ((0:Int)≤((gi x1 i.toNat).tmod 2)∧((gi x1 i.toNat).tmod 2) < 2) <|
  (zx (n5++x2) from_ (gi ([1,0,1,0]:List Int) d.toNat) (n5.length:Int) (-1)).bind fun (x3,x4) =>
  ck (zQ (i + 1)) <|
  some (.inl (x3,n6.set ((gi x1 i.toNat).tdiv 2:Int).toNat ((gi n6 ((gi x1 i.toNat).tdiv 2:Int).toNat).set ((gi x1 i.toNat).tmod 2) (n5.length:Int)),(n5.length:Int),i + 1))
 else
  some (.inr (n5,n6,from_))

def zS.s0 (n:Zau) (s:z6) (v:Int):(List Zc) × (List (A2 Int)) × Int→Option (((List Zc) × (List (A2 Int)) × Int) ⊕ ((List Zc) × (List (A2 Int)))):=fun (n1,n2,d) =>
 if decide (d < 4) then
  ck (zQ ((n.Cells.length:Int) + 1)) <|
  ck (zQ ((n.Cells.length:Int) + 3)) <|
  ck ((0:Int)≤d∧d < ([(n.Cells.length:Int) + 1,(n.Cells.length:Int) + 3,(n.Cells.length:Int),(n.Cells.length:Int)].length:Int)) <|
  ck (zQ ((n.Cells.length:Int) + 2)) <|
  ck ((0:Int)≤d∧d < ([(n.Cells.length:Int) + 2,(n.Cells.length:Int) + 2,(n.Cells.length:Int) + 3,(n.Cells.length:Int) + 1].length:Int)) <|
  ck ((0:Int)≤d∧d < (([1,0,1,0]:List Int).length:Int)) <|
  (zV s v d).bind fun x1 =>
  (ze (zS.s1 d x1) big (n1,n2,gi [(n.Cells.length:Int) + 1,(n.Cells.length:Int) + 3,(n.Cells.length:Int),(n.Cells.length:Int)] d.toNat,0)).bind fun (n7,n8,from_1) =>
  (zx n7 from_1 (gi ([1,0,1,0]:List Int) d.toNat) (gi [(n.Cells.length:Int) + 2,(n.Cells.length:Int) + 2,(n.Cells.length:Int) + 3,(n.Cells.length:Int) + 1] d.toNat) (-1)).bind fun (x5,x6) =>
  ck (zQ (d + 1)) <|
  some (.inl (x5,n8,d + 1))
 else
  some (.inr (n1,n2))

def zS (n:Zau) (s:z6) (v:Int):Option Zau :=
 (ZJ 4).bind fun x =>
 ck (n.Cells.length + x.length≤1000000000) <|
 (ze (zS.s0 n s v) big (n.Cells++x,n.Ends,0)).bind fun (n3,n4) =>
 some (⟨n3,n.First,n4,n.Ways⟩:Zau)

/-! muntin/muntinref11.Of -/
def ZT.s2 (n:List Zc) (x2:List Int):(List (A2 Int)) × Int→Option (((List (A2 Int)) × Int) ⊕ (List (A2 Int))):=fun (n10,i) =>
 if decide (i < (x2.length:Int)) then
  ck ((0:Int)≤i∧i < (x2.length:Int)) <|
  ck ((2:Int)≠0∧zQ ((gi x2 i.toNat).tdiv 2)) <|
  ck ((0:Int)≤((gi x2 i.toNat).tdiv 2)∧((gi x2 i.toNat).tdiv 2) < (n10.length:Int)) <|
  ck ((0:Int)≤((gi x2 i.toNat).tmod 2)∧((gi x2 i.toNat).tmod 2) < 2) <|
  ck (zQ (i + 1)) <|
  some (.inl (n10.set ((gi x2 i.toNat).tdiv 2:Int).toNat ((gi n10 ((gi x2 i.toNat).tdiv 2:Int).toNat).set ((gi x2 i.toNat).tmod 2) (n.length:Int)),i + 1))
 else
  some (.inr n10)

def ZT.s1 (s:z6) (n:List Zc) (v:Int):(List (A2 Int)) × Int→Option (((List (A2 Int)) × Int) ⊕ (List (A2 Int))):=fun (n8,d) =>
 if decide (d < 4) then
  (zV s v d).bind fun x2 =>
  (ze (ZT.s2 n x2) big (n8,0)).bind fun n11 =>
  ck (zQ (d + 1)) <|
  some (.inl (n11,d + 1))
 else
  some (.inr n8)

def ZT.s0 (s:z6):(List Zc) × (List Int) × (List (A2 Int)) × (List (List Int)) × Int→Option (((List Zc) × (List Int) × (List (A2 Int)) × (List (List Int)) × Int) ⊕ ((List Zc) × (List Int) × (List (A2 Int)) × (List (List Int)))):=fun (n,n1,n2,n3,v) =>
 if decide (v < (s.Boxes.length:Int)) then
  ck (n1.length + [(n.length:Int)].length≤1000000000) <|
  ck ((0:Int)≤v∧v < (s.Boxes.length:Int)) <|
  if gi s.Boxes v.toNat then
   (zS (⟨n,n1++[(n.length:Int)],n2,n3⟩:Zau) s v).bind fun x =>
   ck (zQ (v + 1)) <|
   some (.inl (x.Cells,x.First,x.Ends,x.Ways,v + 1))
  else
   (ZJ 1).bind fun x1 =>
   ck (n.length + x1.length≤1000000000) <|
   (ze (ZT.s1 s n v) big (n2,0)).bind fun n9 =>
   ck (zQ (v + 1)) <|
   some (.inl (n++x1,n1++[(n.length:Int)],n9,n3,v + 1))
 else
  some (.inr (n,n1,n2,n3))

def ZT.s4 (s:z6) (i1:Int):(List Zc) × Int × Int × (List Int) × Int→Option (((List Zc) × Int × Int × (List Int) × Int) ⊕ ((List Zc) × Int × Int × (List Int))):=fun (n16,at_,d1,way,k_) =>
 if decide (k_ < (((gi s.Edges i1.toNat).Bends).size:Int)) then
  (ZJ 1).bind fun x3 =>
  ck (n16.length + x3.length≤1000000000) <|
  (zx (n16++x3) at_ d1 (n16.length:Int) i1).bind fun (x4,x5) =>
  ck (way.length + [(n16.length:Int)].length≤1000000000) <|
  ck ((0:Int)≤k_∧k_ < (((gi s.Edges i1.toNat).Bends).size:Int)) <|
  if decide (sAt ((gi s.Edges i1.toNat).Bends) k_.toNat = 76) then
   ck (zQ (d1 + 1)) <|
   ck (zQ (k_ + 1)) <|
   some (.inl (x4,(n16.length:Int),(d1 + 1).tmod 4,way++[(n16.length:Int)],k_ + 1))
  else
   ck (zQ (d1 + 3)) <|
   ck (zQ (k_ + 1)) <|
   some (.inl (x4,(n16.length:Int),(d1 + 3).tmod 4,way++[(n16.length:Int)],k_ + 1))
 else
  some (.inr (n16,at_,d1,way))

def ZT.s3 (s:z6) (n6:List (A2 Int)):(List Zc) × (List (List Int)) × Int→Option (((List Zc) × (List (List Int)) × Int) ⊕ ((List Zc) × (List (List Int)))):=fun (n12,n13,i1) =>
 if decide (i1 < (s.Edges.length:Int)) then
  ck ((0:Int)≤i1∧i1 < (n6.length:Int)) <|
  ck ((0:Int)≤i1∧i1 < (s.Edges.length:Int)) <|
  (ze (ZT.s4 s i1) big (n12,(gi n6 i1.toNat).get 0,(gi s.Edges i1.toNat).Dir,[(gi n6 i1.toNat).get 0],0)).bind fun (n17,at_1,d2,way1) =>
  (zx n17 at_1 d2 ((gi n6 i1.toNat).get 1) i1).bind fun (x6,x7) =>
  ck (way1.length + [(gi n6 i1.toNat).get 1].length≤1000000000) <|
  ck (n13.length + 1≤1000000000) <|
  ck (zQ (i1 + 1)) <|
  some (.inl (x6,n13++[way1++[(gi n6 i1.toNat).get 1]],i1 + 1))
 else
  some (.inr (n12,n13))

def ZT (s:z6):Option Zau :=
 ck ((0:Int)≤(s.Edges.length:Int)∧(s.Edges.length:Int)≤1000000000) <|
 (ze (ZT.s0 s) big (([]:List Zc),([]:List Int),List.replicate ((s.Edges.length:Int):Int).toNat (⟨0,0⟩:A2 Int),([]:List (List Int)),0)).bind fun (n4,n5,n6,n7) =>
 (ze (ZT.s3 s n6) big (n4,n7,0)).bind fun (n14,n15) =>
 some (⟨n14,n5,n6,n15⟩:Zau)

/-! muntin/muntinlaw14.ValidTells -/
def ZaP (z:zB) (y:Za0) (raw:List Zc):Option Bool :=
 (ZK z 16).bind fun (x,x1) =>
 (zr y 8).bind fun x2 =>
 (Zbw ).bind fun x3 =>
 (if !x3 then
  some true
 else
  (Za5 x).bind fun x4 =>
  some (!x4)).bind fun t =>
 (if t then
  some true
 else
  ck ((0:Int)≤(min (raw.length:Int) 5)∧(min (raw.length:Int) 5)≤(raw.length:Int)) <|
  (Za5 (raw.take (min (raw.length:Int) 5:Int).toNat)).bind fun x5 =>
  some (!x5)).bind fun t1 =>
 if t1 then
  some false
 else
  (zd x2).bind fun x6 =>
  (if !(decide (x6 = 0)) then
   some true
  else
   (ZT x2).bind fun x7 =>
   (Za5 x7.Cells).bind fun x8 =>
   some x8).bind fun t2 =>
  some t2

end Mu
