/- What the functions work out. -/
import Derived.Test.YtfdidkebomeiaaaMuA
import Derived.Test.YtfdidkebomeiaaaMuR
set_option linter.unusedVariables false
set_option linter.unnecessarySimpa false
set_option linter.unusedSimpArgs false
set_option maxHeartbeats 2000000
set_option maxRecDepth 10000
namespace Mu
open Go (IntKind BinOp UnOp)
structure zx where
 At:List Int
 Bits:List Int
 Own:List Int
 deriving DecidableEq,Inhabited
abbrev ZgO:Enc Int:=⟨1,fun x=>[.i .u8 x],fun _=>rfl⟩
theorem ZgO.one (x:Int):(ZgO.c x).all V.one = true:=rfl
abbrev Zj2:Enc Int:=⟨1,fun x=>[.i .i8 x],fun _=>rfl⟩
theorem Zj2.one (x:Int):(Zj2.c x).all V.one = true:=rfl
structure Za where
 Next:A4 Int
 Owner:A4 Int
 deriving DecidableEq,Inhabited
structure Zw where
 X:Int
 Y:Int
 deriving DecidableEq,Inhabited
abbrev Zn:Enc Zw:=⟨2,fun x=>[.i .i64 x.X,.i .i64 x.Y],fun _=>rfl⟩
theorem Zn.one (x:Zw):(Zn.c x).all V.one = true:=rfl
theorem Zn.same (x y:Zw):Zar [.i,.i] (Zn.c x) (Zn.c y) = some (decide (x = y)):=by
 obtain ⟨x1,x2⟩:=x
 obtain ⟨y1,y2⟩:=y
 refine (ZfE (ZfE ZgI)).trans ?_
 congr 1
 rw [Bool.eq_iff_iff]
 simp [and_assoc]
abbrev Ze:Enc Za:=⟨8,fun x=>[.i .i64 x.Next.a,.i .i64 x.Next.b,.i .i64 x.Next.c,.i .i64 x.Next.d,.i .i64 x.Owner.a,.i .i64 x.Owner.b,.i .i64 x.Owner.c,.i .i64 x.Owner.d],fun _=>rfl⟩
theorem Ze.one (x:Za):(Ze.c x).all V.one = true:=rfl
structure Zr where
 Cell:Int
 Dir:Int
 deriving DecidableEq,Inhabited
abbrev Zf:Enc Zr:=⟨2,fun x=>[.i .i64 x.Cell,.i .i64 x.Dir],fun _=>rfl⟩
theorem Zf.one (x:Zr):(Zf.c x).all V.one = true:=rfl
theorem Zf.same (x y:Zr):Zar [.i,.i] (Zf.c x) (Zf.c y) = some (decide (x = y)):=by
 obtain ⟨x1,x2⟩:=x
 obtain ⟨y1,y2⟩:=y
 refine (ZfE (ZfE ZgI)).trans ?_
 congr 1
 rw [Bool.eq_iff_iff]
 simp [and_assoc]
abbrev e_bool:Enc Bool:=⟨1,fun x=>[.b x],fun _=>rfl⟩
theorem e_bool.one (x:Bool):(e_bool.c x).all V.one = true:=rfl
abbrev Zcq:Enc (A4 Int):=⟨4,fun x=>[.i .i64 x.a,.i .i64 x.b,.i .i64 x.c,.i .i64 x.d],fun _=>rfl⟩
theorem Zcq.one (x:A4 Int):(Zcq.c x).all V.one = true:=rfl
structure ZQ where
 cells:List Za
 deriving DecidableEq,Inhabited
structure Zu where
 Cell:Int
 Dir:Int
 deriving DecidableEq,Inhabited
abbrev Zi:Enc Zu:=⟨2,fun x=>[.i .i64 x.Cell,.i .i64 x.Dir],fun _=>rfl⟩
theorem Zi.one (x:Zu):(Zi.c x).all V.one = true:=rfl
def ZhK (x:Int):Prop:=Wf .u8 x
def Zkb (x:Int):Prop:=Wf .i8 x
/-! muntin/muntinref10.New -/
def zu.s1 (v:Int):(List Za) × Int→Option (((List Za) × Int) ⊕ (List Za)):=fun (l2,d) =>
 if decide (d < 4) then
  ck ((0:Int)≤v∧v < (l2.length:Int)) <|
  ck ((0:Int)≤d∧d < 4) <|
  ck (Zan (d + 1)) <|
  some (.inl (l2.set v.toNat ({ gi l2 v.toNat with Next:=((gi l2 v.toNat).Next).set d (-1) }),d + 1))
 else
  some (.inr l2)

def zu.s0 (n:Int):(List Za) × Int→Option (((List Za) × Int) ⊕ (List Za)):=fun (l,v) =>
 if decide (v < n) then
  (zk (zu.s1 v) big (l,0)).bind fun l3 =>
  ck (Zan (v + 1)) <|
  some (.inl (l3,v + 1))
 else
  some (.inr l)

def zu (n:Int):Option (List Za) :=
 ck ((0:Int)≤n∧n≤1000000000) <|
 (zk (zu.s0 n) big (List.replicate n.toNat (⟨⟨0,0,0,0⟩,⟨0,0,0,0⟩⟩:Za),0)).bind fun l1 =>
 some l1

/-! muntin/muntinref10.Nearest -/
def ZU.s0 (at_:List Zw) (i:Int) (d:Int):Int × Int→Option ((Int × Int) ⊕ Int):=fun (best,k_) =>
 if decide (k_ < (at_.length:Int)) then
  (if decide (d = 0) then
   ck ((0:Int)≤k_∧k_ < (at_.length:Int)) <|
   ck ((0:Int)≤i∧i < (at_.length:Int)) <|
   some (decide ((gi at_ k_.toNat).Y = (gi at_ i.toNat).Y))
  else
   some false).bind fun t =>
  (if t then
   ck ((0:Int)≤k_∧k_ < (at_.length:Int)) <|
   ck ((0:Int)≤i∧i < (at_.length:Int)) <|
   some (decide (((gi at_ i.toNat).X) < ((gi at_ k_.toNat).X)))
  else
   some false).bind fun t1 =>
  (if t1 then
   (if decide (best < 0) then
    some true
   else
    ck ((0:Int)≤k_∧k_ < (at_.length:Int)) <|
    ck ((0:Int)≤best∧best < (at_.length:Int)) <|
    some (decide (((gi at_ k_.toNat).X) < ((gi at_ best.toNat).X)))).bind fun t3 =>
   some t3
  else
   some false).bind fun t2 =>
  (
   if t2 then
    some k_
   else
    some best).bind fun best2 =>
  (if decide (d = 1) then
   ck ((0:Int)≤k_∧k_ < (at_.length:Int)) <|
   ck ((0:Int)≤i∧i < (at_.length:Int)) <|
   some (decide ((gi at_ k_.toNat).X = (gi at_ i.toNat).X))
  else
   some false).bind fun t4 =>
  (if t4 then
   ck ((0:Int)≤k_∧k_ < (at_.length:Int)) <|
   ck ((0:Int)≤i∧i < (at_.length:Int)) <|
   some (decide (((gi at_ i.toNat).Y) < ((gi at_ k_.toNat).Y)))
  else
   some false).bind fun t5 =>
  (if t5 then
   (if decide (best2 < 0) then
    some true
   else
    ck ((0:Int)≤k_∧k_ < (at_.length:Int)) <|
    ck ((0:Int)≤best2∧best2 < (at_.length:Int)) <|
    some (decide (((gi at_ k_.toNat).Y) < ((gi at_ best2.toNat).Y)))).bind fun t7 =>
   some t7
  else
   some false).bind fun t6 =>
  if t6 then
   ck (Zan (k_ + 1)) <|
   some (.inl (k_,k_ + 1))
  else
   ck (Zan (k_ + 1)) <|
   some (.inl (best2,k_ + 1))
 else
  some (.inr best)

def ZU (at_:List Zw) (i:Int) (d:Int):Option Int :=
 (zk (ZU.s0 at_ i d) big ((-1),0)).bind fun best1 =>
 some best1

/-! muntin/muntinref10.Crossed -/
def ZT.s1 (at_:List Zw) (l:List Za) (i:Int) (w:Int) (a:Int):Int→Option (Int ⊕ (Unit ⊕ Unit)):=fun d =>
 if decide (d < 2) then
  ck ((0:Int)≤a∧a < (l.length:Int)) <|
  ck ((0:Int)≤d∧d < 4) <|
  if decide ((((gi l a.toNat).Next).get d) < 0) then
   ck (Zan (d + 1)) <|
   some (.inl (d + 1))
  else
   ck ((0:Int)≤a∧a < (at_.length:Int)) <|
   ck ((0:Int)≤(((gi l a.toNat).Next).get d)∧(((gi l a.toNat).Next).get d) < (at_.length:Int)) <|
   (if decide ((gi at_ a.toNat).Y = (gi at_ (((gi l a.toNat).Next).get d:Int).toNat).Y) then
    ck ((0:Int)≤i∧i < (at_.length:Int)) <|
    ck ((0:Int)≤w∧w < (at_.length:Int)) <|
    some (decide ((gi at_ i.toNat).X = (gi at_ w.toNat).X))
   else
    some false).bind fun t =>
   (if t then
    ck ((0:Int)≤i∧i < (at_.length:Int)) <|
    some (decide (((gi at_ a.toNat).X) < ((gi at_ i.toNat).X)))
   else
    some false).bind fun t1 =>
   (if t1 then
    ck ((0:Int)≤i∧i < (at_.length:Int)) <|
    some (decide (((gi at_ i.toNat).X) < ((gi at_ (((gi l a.toNat).Next).get d:Int).toNat).X)))
   else
    some false).bind fun t2 =>
   (if t2 then
    ck ((0:Int)≤i∧i < (at_.length:Int)) <|
    some (decide (((gi at_ i.toNat).Y) < ((gi at_ a.toNat).Y)))
   else
    some false).bind fun t3 =>
   (if t3 then
    ck ((0:Int)≤w∧w < (at_.length:Int)) <|
    some (decide (((gi at_ a.toNat).Y) < ((gi at_ w.toNat).Y)))
   else
    some false).bind fun t4 =>
   if t4 then
    some (.inr (.inr ()))
   else
    (if decide ((gi at_ a.toNat).X = (gi at_ (((gi l a.toNat).Next).get d:Int).toNat).X) then
     ck ((0:Int)≤i∧i < (at_.length:Int)) <|
     ck ((0:Int)≤w∧w < (at_.length:Int)) <|
     some (decide ((gi at_ i.toNat).Y = (gi at_ w.toNat).Y))
    else
     some false).bind fun t5 =>
    (if t5 then
     ck ((0:Int)≤i∧i < (at_.length:Int)) <|
     some (decide (((gi at_ i.toNat).X) < ((gi at_ a.toNat).X)))
    else
     some false).bind fun t6 =>
    (if t6 then
     ck ((0:Int)≤w∧w < (at_.length:Int)) <|
     some (decide (((gi at_ a.toNat).X) < ((gi at_ w.toNat).X)))
    else
     some false).bind fun t7 =>
    (if t7 then
     ck ((0:Int)≤i∧i < (at_.length:Int)) <|
     some (decide (((gi at_ a.toNat).Y) < ((gi at_ i.toNat).Y)))
    else
     some false).bind fun t8 =>
    (if t8 then
     ck ((0:Int)≤i∧i < (at_.length:Int)) <|
     some (decide (((gi at_ i.toNat).Y) < ((gi at_ (((gi l a.toNat).Next).get d:Int).toNat).Y)))
    else
     some false).bind fun t9 =>
    if t9 then
     some (.inr (.inr ()))
    else
     ck (Zan (d + 1)) <|
     some (.inl (d + 1))
 else
  some (.inr (.inl ()))

def ZT.s0 (at_:List Zw) (l:List Za) (i:Int) (w:Int):Int→Option (Int ⊕ (Unit ⊕ Unit)):=fun a =>
 if decide (a < (l.length:Int)) then
  (
   zk (ZT.s1 at_ l i w a) big 0:Option (Unit ⊕ Unit)).bind fun o₃=>match o₃ with
  | .inl _ =>
   ck (Zan (a + 1)) <|
   some (.inl (a + 1))
  | .inr _ =>
   some (.inr (.inr ()))
 else
  some (.inr (.inl ()))

def ZT (at_:List Zw) (l:List Za) (i:Int) (w:Int):Option Bool :=
 (
  zk (ZT.s0 at_ l i w) big 0:Option (Unit ⊕ Unit)).bind fun o₁=>match o₁ with
 | .inl _ =>
  some false
 | .inr _ =>
  some true

/-! muntin/muntinref10.with -/
def Zab.s0 (l:List Za) (v:Int) (d:Int) (w:Int) (o:Int):(List Za) × Int→Option (((List Za) × Int) ⊕ (List Za)):=fun (out,i) =>
 if decide (i < (l.length:Int)) then
  ck ((0:Int)≤i∧i < (l.length:Int)) <|
  (
   if decide (i = v) then
    ck ((0:Int)≤d∧d < 4) <|
    some ({ { gi l i.toNat with Next:=((gi l i.toNat).Next).set d w } with Owner:=(({ gi l i.toNat with Next:=((gi l i.toNat).Next).set d w }).Owner).set d o })
   else
    some (gi l i.toNat)).bind fun c =>
  if decide (i = w) then
   ck (Zan (d + 2)) <|
   ck ((0:Int)≤((d + 2).tmod 4)∧((d + 2).tmod 4) < 4) <|
   ck (out.length + [{ { c with Next:=c.Next.set ((d + 2).tmod 4) v } with Owner:=(({ c with Next:=c.Next.set ((d + 2).tmod 4) v }).Owner).set ((d + 2).tmod 4) o }].length≤1000000000) <|
   ck (Zan (i + 1)) <|
   some (.inl (out++[{ { c with Next:=c.Next.set ((d + 2).tmod 4) v } with Owner:=(({ c with Next:=c.Next.set ((d + 2).tmod 4) v }).Owner).set ((d + 2).tmod 4) o }],i + 1))
  else
   ck (out.length + [c].length≤1000000000) <|
   ck (Zan (i + 1)) <|
   some (.inl (out++[c],i + 1))
 else
  some (.inr out)

def Zab (l:List Za) (v:Int) (d:Int) (w:Int) (o:Int):Option (List Za) :=
 (zk (Zab.s0 l v d w o) big (([]:List Za),0)).bind fun out1 =>
 some out1

/-! muntin/muntinref10.Make -/
def ZC.s1 (z:zx) (at_:List Zw) (i:Int):Bool × Int→Option ((Bool × Int) ⊕ ((List Zw) × Bool)):=fun (met,k_) =>
 if decide (k_ < (at_.length:Int)) then
  (if met then
   some true
  else
   ck ((0:Int)≤k_∧k_ < (at_.length:Int)) <|
   some (decide (gi at_ k_.toNat = (⟨(gi z.At i.toNat).tmod 8,((gi z.At i.toNat).tdiv 8).tmod 8⟩:Zw)))).bind fun t =>
  ck (Zan (k_ + 1)) <|
  some (.inl (t,k_ + 1))
 else
  some (.inr (at_,met))

def ZC.s0 (z:zx) (most:Int):(List Zw) × Int→Option (((List Zw) × Int) ⊕ (List Zw)):=fun (at_,i) =>
 if (decide (i < (z.At.length:Int))) && (decide ((at_.length:Int) < most)) then
  ck ((0:Int)≤i∧i < (z.At.length:Int)) <|
  ck (inK .i64 (gi z.At i.toNat)) <|
  ck ((8:Int)≠0∧Zan ((gi z.At i.toNat).tdiv 8)) <|
  (zk (ZC.s1 z at_ i) big (false,0)).bind fun (at_2,met1) =>
  if !met1 then
   ck (at_2.length + [(⟨(gi z.At i.toNat).tmod 8,((gi z.At i.toNat).tdiv 8).tmod 8⟩:Zw)].length≤1000000000) <|
   ck (Zan (i + 1)) <|
   some (.inl (at_2++[(⟨(gi z.At i.toNat).tmod 8,((gi z.At i.toNat).tdiv 8).tmod 8⟩:Zw)],i + 1))
  else
   ck (Zan (i + 1)) <|
   some (.inl (at_2,i + 1))
 else
  some (.inr at_)

def ZC.s3 (i1:Int) (bits:Int) (at_6:List Zw) (own:Int):(List Za) × Int→Option (((List Za) × Int) ⊕ (List Za)):=fun (l4,d) =>
 if decide (d < 2) then
  (ZU at_6 i1 d).bind fun x1 =>
  ck ((0:Int)≤d) <|
  if (decide (Z1 .u8 (Z8 .u8 bits d) 1 = 0)) || (decide (x1 < 0)) then
   ck (Zan (d + 1)) <|
   some (.inl (l4,d + 1))
  else
   (ZT at_6 l4 i1 x1).bind fun x2 =>
   if !x2 then
    (Zab l4 i1 d x1 own).bind fun x3 =>
    ck (Zan (d + 1)) <|
    some (.inl (x3,d + 1))
   else
    ck (Zan (d + 1)) <|
    some (.inl (l4,d + 1))
 else
  some (.inr l4)

def ZC.s2 (z:zx):(List Zw) × (List Za) × Int→Option (((List Zw) × (List Za) × Int) ⊕ ((List Zw) × (List Za))):=fun (at_3,l,i1) =>
 if decide (i1 < (at_3.length:Int)) then
  (
   if decide (i1 < (z.Bits.length:Int)) then
    ck ((0:Int)≤i1∧i1 < (z.Bits.length:Int)) <|
    some (at_3,l,gi z.Bits i1.toNat)
   else
    some (at_3,l,3)).bind fun (at_5,l2,bits) =>
  (
   if decide (i1 < (z.Own.length:Int)) then
    ck ((0:Int)≤i1∧i1 < (z.Own.length:Int)) <|
    ck (inK .i64 (gi z.Own i1.toNat)) <|
    if decide ((gi z.Own i1.toNat) < (-2)) then
     ck (Zan (-(gi z.Own i1.toNat))) <|
     some (at_5,l2,-(gi z.Own i1.toNat))
    else
     some (at_5,l2,gi z.Own i1.toNat)
   else
    some (at_5,l2,i1)).bind fun (at_6,l3,own) =>
  (zk (ZC.s3 i1 bits at_6 own) big (l3,0)).bind fun l5 =>
  ck (Zan (i1 + 1)) <|
  some (.inl (at_6,l5,i1 + 1))
 else
  some (.inr (at_3,l))

def ZC (z:zx) (most:Int):Option ((List Za) × (List Zw)) :=
 (zk (ZC.s0 z most) big (([]:List Zw),0)).bind fun at_1 =>
 (zu (at_1.length:Int)).bind fun x =>
 (zk (ZC.s2 z) big (at_1,x,0)).bind fun (at_4,l1) =>
 some (l1,at_4)

/-! muntin/compass.Good -/
def Za8 (d:Int):Option Bool :=
 some ((decide (0≤d)) && (decide (d≤3)))

/-! muntin/compass.Left -/
def Za9 (d:Int) (times:Int):Option Int :=
 (Za8 d).bind fun x =>
 if !x then
  some 0
 else
  ck (Zan (d + (times.tmod 4))) <|
  ck (Zan ((d + (times.tmod 4)) + 4)) <|
  some (((d + (times.tmod 4)) + 4).tmod 4)

/-! muntin/grid.side -/
def ZcG (cells:List Za) (v:Int) (d:Int):Option Int :=
 ck ((0:Int)≤v∧v < (cells.length:Int)) <|
 ck ((0:Int)≤d∧d < 4) <|
 if decide (((gi cells v.toNat).Next).get d = (-1)) then
  if !(decide (((gi cells v.toNat).Owner).get d = 0)) then
   some 9
  else
   some 0
 else
  if ((decide ((((gi cells v.toNat).Next).get d) < 0)) || (decide ((cells.length:Int)≤(((gi cells v.toNat).Next).get d)))) || (decide (((gi cells v.toNat).Next).get d = v)) then
   some 3
  else
   (Za9 d 2).bind fun x =>
   ck ((0:Int)≤(((gi cells v.toNat).Next).get d)∧(((gi cells v.toNat).Next).get d) < (cells.length:Int)) <|
   ck ((0:Int)≤x∧x < 4) <|
   if ((!(decide (((gi cells (((gi cells v.toNat).Next).get d:Int).toNat).Next).get x = v))) || (!(decide (((gi cells (((gi cells v.toNat).Next).get d:Int).toNat).Owner).get x = ((gi cells v.toNat).Owner).get d)))) || (decide ((((gi cells v.toNat).Owner).get d) < (-2))) then
    some 9
   else
    some 0

/-! muntin/grid.Check -/
def z9.s1 (cells:List Za) (x:Int):Int→Option (Int ⊕ (Unit ⊕ Int)):=fun x2 =>
 if decide (x2 < 4) then
  (ZcG cells x x2).bind fun x4 =>
  if !(decide (x4 = 0)) then
   some (.inr (.inr x4))
  else
   ck (Zan (x2 + 1)) <|
   some (.inl (x2 + 1))
 else
  some (.inr (.inl ()))

def z9.s0 (cells:List Za):Int→Option (Int ⊕ (Unit ⊕ Int)):=fun x =>
 if decide (x < (cells.length:Int)) then
  (
   zk (z9.s1 cells x) big 0:Option (Unit ⊕ Int)).bind fun o₃=>match o₃ with
  | .inl _ =>
   ck (Zan (x + 1)) <|
   some (.inl (x + 1))
  | .inr x3 =>
   some (.inr (.inr x3))
 else
  some (.inr (.inl ()))

def z9 (cells:List Za):Option Int :=
 if decide (4096 < (cells.length:Int)) then
  some 6
 else
  (
   zk (z9.s0 cells) big 0:Option (Unit ⊕ Int)).bind fun o₁=>match o₁ with
  | .inl _ =>
   some 0
  | .inr x1 =>
   some x1

/-! math/bits.Mul64 -/
def Zds (x:Int) (y:Int):Option (Int × Int) :=
 some (zQ .u64 (zQ .u64 (ZR .u64 (Z8 .u64 x 32) (Z8 .u64 y 32)) (Z8 .u64 (zQ .u64 (ZR .u64 (Z8 .u64 x 32) (Z1 .u64 y 4294967295)) (Z8 .u64 (ZR .u64 (Z1 .u64 x 4294967295) (Z1 .u64 y 4294967295)) 32)) 32)) (Z8 .u64 (zQ .u64 (Z1 .u64 (zQ .u64 (ZR .u64 (Z8 .u64 x 32) (Z1 .u64 y 4294967295)) (Z8 .u64 (ZR .u64 (Z1 .u64 x 4294967295) (Z1 .u64 y 4294967295)) 32)) 4294967295) (ZR .u64 (Z1 .u64 x 4294967295) (Z8 .u64 y 32))) 32),ZR .u64 x y)

/-! math/bits.Mul -/
def Zda (x:Int) (y:Int):Option (Int × Int) :=
 (Zds x y).bind fun (x1,x2) =>
 some (x1,x2)

/-! slices.Repeat[[]int,int] -/
def zS.s0:(List Int) × Int→Option (((List Int) × Int) ⊕ (List Int)):=fun (newslice,n) =>
 if decide (n < (newslice.length:Int)) then
  ck ((0:Int)≤n∧n≤(newslice.length:Int)) <|
  ck (Zan (n + ((min (newslice.take n.toNat).length (newslice.drop n.toNat).length:Nat):Int))) <|
  some (.inl (newslice.take n.toNat++((newslice.take n.toNat).take (newslice.drop n.toNat).length++(newslice.drop n.toNat).drop (newslice.take n.toNat).length),n + ((min (newslice.take n.toNat).length (newslice.drop n.toNat).length:Nat):Int)))
 else
  some (.inr newslice)

def zS (x:List Int) (count:Int):Option (List Int) :=
 (
  if decide (count < 0) then
   none
  else
   some ()).bind fun _ =>
 ck (inK .u64 (x.length:Int)) <|
 ck (inK .u64 count) <|
 (Zda (x.length:Int) count).bind fun (x1,x2) =>
 (
  if (decide (0 < x1)) || (decide (9223372036854775807 < x2)) then
   none
  else
   some ()).bind fun _ =>
 ck (inK .i64 x2) <|
 ck ((0:Int)≤x2∧x2≤1000000000) <|
 (zk zS.s0 big (x.take (List.replicate x2.toNat (0:Int)).length++(List.replicate x2.toNat (0:Int)).drop x.length,((min x.length (List.replicate x2.toNat (0:Int)).length:Nat):Int))).bind fun newslice1 =>
 some newslice1

/-! muntin/join.spread -/
def Zau.s1 (cells:List Za) (l:List Int):(List Int) × (List Int) × (List Int) × (List Bool) × Int→Option (((List Int) × (List Int) × (List Int) × (List Bool) × Int) ⊕ ((List Int) × (List Int) × (List Int) × (List Bool))):=fun (from_2,dir2,l1,met1,x2) =>
 if decide (x2 < 4) then
  ck ((0:Int)≤(gi l (0:Int).toNat)∧(gi l (0:Int).toNat) < (cells.length:Int)) <|
  ck ((0:Int)≤x2∧x2 < 4) <|
  (if decide (0≤(((gi cells (gi l (0:Int).toNat:Int).toNat).Next).get x2)) then
   ck ((0:Int)≤(((gi cells (gi l (0:Int).toNat:Int).toNat).Next).get x2)∧(((gi cells (gi l (0:Int).toNat:Int).toNat).Next).get x2) < (met1.length:Int)) <|
   some (!(gi met1 (((gi cells (gi l (0:Int).toNat:Int).toNat).Next).get x2:Int).toNat))
  else
   some false).bind fun t =>
  if t then
   ck ((0:Int)≤(((gi cells (gi l (0:Int).toNat:Int).toNat).Next).get x2)∧(((gi cells (gi l (0:Int).toNat:Int).toNat).Next).get x2) < (met1.length:Int)) <|
   ck ((0:Int)≤(((gi cells (gi l (0:Int).toNat:Int).toNat).Next).get x2)∧(((gi cells (gi l (0:Int).toNat:Int).toNat).Next).get x2) < (from_2.length:Int)) <|
   ck ((0:Int)≤(((gi cells (gi l (0:Int).toNat:Int).toNat).Next).get x2)∧(((gi cells (gi l (0:Int).toNat:Int).toNat).Next).get x2) < (dir2.length:Int)) <|
   ck (l1.length + [((gi cells (gi l (0:Int).toNat:Int).toNat).Next).get x2].length≤1000000000) <|
   ck (Zan (x2 + 1)) <|
   some (.inl (from_2.set (((gi cells (gi l (0:Int).toNat:Int).toNat).Next).get x2:Int).toNat (gi l (0:Int).toNat),dir2.set (((gi cells (gi l (0:Int).toNat:Int).toNat).Next).get x2:Int).toNat x2,l1++[((gi cells (gi l (0:Int).toNat:Int).toNat).Next).get x2],met1.set (((gi cells (gi l (0:Int).toNat:Int).toNat).Next).get x2:Int).toNat true,x2 + 1))
  else
   ck (Zan (x2 + 1)) <|
   some (.inl (from_2,dir2,l1,met1,x2 + 1))
 else
  some (.inr (from_2,dir2,l1,met1))

def Zau.s0 (cells:List Za):(List Int) × (List Int) × (List Int) × (List Bool)→Option (((List Int) × (List Int) × (List Int) × (List Bool)) ⊕ ((List Int) × (List Int))):=fun (from_,dir,l,met) =>
 if decide (0 < (l.length:Int)) then
  ck ((0:Int)≤0∧0 < (l.length:Int)) <|
  ck ((0:Int)≤1∧1≤(l.length:Int)) <|
  (zk (Zau.s1 cells l) big (from_,dir,l.drop (1:Int).toNat,met,0)).bind fun (from_3,dir3,l2,met2) =>
  some (.inl (from_3,dir3,l2,met2))
 else
  some (.inr (from_,dir))

def Zau (cells:List Za) (v:Int):Option ((List Int) × (List Int)) :=
 (zS ([(-1)]:List Int) (cells.length:Int)).bind fun x =>
 (zS ([(-1)]:List Int) (cells.length:Int)).bind fun x1 =>
 ck ((0:Int)≤(cells.length:Int)∧(cells.length:Int)≤1000000000) <|
 ck ((0:Int)≤v∧v < ((List.replicate ((cells.length:Int):Int).toNat false).length:Int)) <|
 (zk (Zau.s0 cells) big (x,x1,[v],(List.replicate ((cells.length:Int):Int).toNat false).set v.toNat true)).bind fun (from_1,dir1) =>
 some (from_1,dir1)

/-! muntin/join.Parts -/
def Zaz.s1 (cells:List Za) (x1:Int) (x3:List Int):(List Bool) × (List Int) × Int→Option (((List Bool) × (List Int) × Int) ⊕ ((List Bool) × (List Int))):=fun (met1,part,x4) =>
 if decide (x4 < (cells.length:Int)) then
  (if decide (x4 = x1) then
   some true
  else
   ck ((0:Int)≤x4∧x4 < (x3.length:Int)) <|
   some (decide (0≤(gi x3 x4.toNat)))).bind fun t =>
  if t then
   ck ((0:Int)≤x4∧x4 < (met1.length:Int)) <|
   ck (part.length + [x4].length≤1000000000) <|
   ck (Zan (x4 + 1)) <|
   some (.inl (met1.set x4.toNat true,part++[x4],x4 + 1))
  else
   ck (Zan (x4 + 1)) <|
   some (.inl (met1,part,x4 + 1))
 else
  some (.inr (met1,part))

def Zaz.s0 (cells:List Za):(List (List Int)) × (List Bool) × Int→Option (((List (List Int)) × (List Bool) × Int) ⊕ (List (List Int))):=fun (l,met,x1) =>
 if decide (x1 < (cells.length:Int)) then
  ck ((0:Int)≤x1∧x1 < (met.length:Int)) <|
  if gi met x1.toNat then
   ck (Zan (x1 + 1)) <|
   some (.inl (l,met,x1 + 1))
  else
   (Zau cells x1).bind fun (x2,x3) =>
   (zk (Zaz.s1 cells x1 x3) big (met,[],0)).bind fun (met2,part1) =>
   ck (l.length + 1≤1000000000) <|
   ck (Zan (x1 + 1)) <|
   some (.inl (l++[part1],met2,x1 + 1))
 else
  some (.inr l)

def Zaz (cells:List Za):Option ((List (List Int)) × Int) :=
 (z9 cells).bind fun x =>
 if !(decide (x = 0)) then
  some (([]:List (List Int)),x)
 else
  ck ((0:Int)≤(cells.length:Int)∧(cells.length:Int)≤1000000000) <|
  (zk (Zaz.s0 cells) big (([]:List (List Int)),List.replicate ((cells.length:Int):Int).toNat false,0)).bind fun l1 =>
  some (l1,0)

/-! muntin/join.Whole -/
def Zc2 (cells:List Za):Option Bool :=
 (Zaz cells).bind fun (x,x1) =>
 some ((decide (x1 = 0)) && (decide ((x.length:Int) = 1)))

/-! (muntin/face.Dart).is -/
def ZaY (d:Zr) (cells:List Za):Option Bool :=
 if decide (0≤d.Cell) then
  if decide (d.Cell < (cells.length:Int)) then
   (Za8 d.Dir).bind fun x =>
   if x then
    ck ((0:Int)≤d.Cell∧d.Cell < (cells.length:Int)) <|
    ck ((0:Int)≤d.Dir∧d.Dir < 4) <|
    some (decide (0≤(((gi cells (d.Cell:Int).toNat).Next).get d.Dir)))
   else
    some false
  else
   some false
 else
  some false

/-! (muntin/face.Dart).behind -/
def zP.s0 (d:Zr) (cells:List Za):Int→Option (Int ⊕ (Unit ⊕ Zr)):=fun x =>
 if decide (x < 4) then
  ck ((0:Int)≤x∧x < 4) <|
  (Za9 d.Dir ((⟨1,0,(-1),2⟩:A4 Int).get x)).bind fun x2 =>
  (ZaY (⟨((gi cells (d.Cell:Int).toNat).Next).get d.Dir,x2⟩:Zr) cells).bind fun x3 =>
  if x3 then
   some (.inr (.inr (⟨((gi cells (d.Cell:Int).toNat).Next).get d.Dir,x2⟩:Zr)))
  else
   ck (Zan (x + 1)) <|
   some (.inl (x + 1))
 else
  some (.inr (.inl ()))

def zP (d:Zr) (cells:List Za):Option Zr :=
 ck ((0:Int)≤d.Cell∧d.Cell < (cells.length:Int)) <|
 ck ((0:Int)≤d.Dir∧d.Dir < 4) <|
 (
  zk (zP.s0 d cells) big 0:Option (Unit ⊕ Zr)).bind fun o₁=>match o₁ with
 | .inl _ =>
  some d
 | .inr x1 =>
  some x1

/-! muntin/face.Faces -/
def zw.s2 (cells:List Za):(List (Zr × Bool)) × (List Zr) × Zr→Option (((List (Zr × Bool)) × (List Zr) × Zr) ⊕ ((List (Zr × Bool)) × (List Zr))):=fun (met3,f,x4) =>
 if !(Zdr false x4 met3) then
  ck (f.length + [x4].length≤1000000000) <|
  (zP x4 cells).bind fun x5 =>
  some (.inl (Ze6 x4 true met3,f++[x4],x5))
 else
  some (.inr (met3,f))

def zw.s1 (cells:List Za) (x1:Int):(List (List Zr)) × (List (Zr × Bool)) × Int→Option (((List (List Zr)) × (List (Zr × Bool)) × Int) ⊕ ((List (List Zr)) × (List (Zr × Bool)))):=fun (l2,met1,x2) =>
 if decide (x2 < 4) then
  (ZaY (⟨x1,x2⟩:Zr) cells).bind fun x3 =>
  if (!x3) || (Zdr false (⟨x1,x2⟩:Zr) met1) then
   ck (Zan (x2 + 1)) <|
   some (.inl (l2,met1,x2 + 1))
  else
   (zk (zw.s2 cells) big (met1,([]:List Zr),(⟨x1,x2⟩:Zr))).bind fun (met4,f1) =>
   ck (l2.length + 1≤1000000000) <|
   ck (Zan (x2 + 1)) <|
   some (.inl (l2++[f1],met4,x2 + 1))
 else
  some (.inr (l2,met1))

def zw.s0 (cells:List Za):(List (List Zr)) × (List (Zr × Bool)) × Int→Option (((List (List Zr)) × (List (Zr × Bool)) × Int) ⊕ (List (List Zr))):=fun (l,met,x1) =>
 if decide (x1 < (cells.length:Int)) then
  (zk (zw.s1 cells x1) big (l,met,0)).bind fun (l3,met2) =>
  ck (Zan (x1 + 1)) <|
  some (.inl (l3,met2,x1 + 1))
 else
  some (.inr l)

def zw (cells:List Za):Option ((List (List Zr)) × Int) :=
 (z9 cells).bind fun x =>
 if !(decide (x = 0)) then
  some (([]:List (List Zr)),x)
 else
  (zk (zw.s0 cells) big (([]:List (List Zr)),([]:List (Zr × Bool)),0)).bind fun l1 =>
  some (l1,0)

/-! muntin/compass.Turn -/
def ZbZ (d:Int) (e_:Int):Option Int :=
 (Za8 d).bind fun x =>
 (if !x then
  some true
 else
  (Za8 e_).bind fun x1 =>
  some (!x1)).bind fun t =>
 if t then
  some 0
 else
  ck (Zan (e_ - d)) <|
  ck (Zan ((e_ - d) + 4)) <|
  ck ((0:Int)≤(((e_ - d) + 4).tmod 4)∧(((e_ - d) + 4).tmod 4) < 4) <|
  some ((⟨0,1,(-2),(-1)⟩:A4 Int).get (((e_ - d) + 4).tmod 4))

/-! muntin/face.Turns -/
def Zay.s0 (cells:List Za) (f:List Zr):(List Int) × Int→Option (((List Int) × Int) ⊕ (List Int)):=fun (l,x1) =>
 if decide (x1 < (f.length:Int)) then
  ck ((0:Int)≤x1∧x1 < (f.length:Int)) <|
  (ZaY (gi f x1.toNat) cells).bind fun x2 =>
  if x2 then
   (zP (gi f x1.toNat) cells).bind fun x3 =>
   (ZbZ ((gi f x1.toNat).Dir) x3.Dir).bind fun x4 =>
   ck ((0:Int)≤x1∧x1 < (l.length:Int)) <|
   ck (Zan (x1 + 1)) <|
   some (.inl (l.set x1.toNat x4,x1 + 1))
  else
   ck (Zan (x1 + 1)) <|
   some (.inl (l,x1 + 1))
 else
  some (.inr l)

def Zay (cells:List Za) (f:List Zr):Option (List Int) :=
 ck ((0:Int)≤(f.length:Int)∧(f.length:Int)≤1000000000) <|
 (z9 cells).bind fun x =>
 if !(decide (x = 0)) then
  some (List.replicate ((f.length:Int):Int).toNat (0:Int))
 else
  (zk (Zay.s0 cells f) big (List.replicate ((f.length:Int):Int).toNat (0:Int),0)).bind fun l1 =>
  some l1

/-! muntin/face.Rotation -/
def ZaL.s0 (turns:List Int):Int × Int→Option ((Int × Int) ⊕ Int):=fun (n,x) =>
 if decide (x < (turns.length:Int)) then
  ck ((0:Int)≤x∧x < (turns.length:Int)) <|
  if (decide ((-2)≤(gi turns x.toNat))) && (decide ((gi turns x.toNat)≤1)) then
   ck (Zan (n + (gi turns x.toNat))) <|
   ck (Zan (x + 1)) <|
   some (.inl (n + (gi turns x.toNat),x + 1))
  else
   ck (Zan (x + 1)) <|
   some (.inl (n,x + 1))
 else
  some (.inr n)

def ZaL (turns:List Int):Option Int :=
 (zk (ZaL.s0 turns) big (0,0)).bind fun n1 =>
 some n1

/-! muntin/valid.outer -/
def ZaI.s0 (cells:List Za) (x:List (List Zr)):Int × Int→Option ((Int × Int) ⊕ (Int ⊕ Unit)):=fun (at_,x2) =>
 if decide (x2 < (x.length:Int)) then
  ck ((0:Int)≤x2∧x2 < (x.length:Int)) <|
  (Zay cells (gi x x2.toNat)).bind fun x3 =>
  (ZaL x3).bind fun x4 =>
  if decide (x4 = 4) then
   ck (Zan (x2 + 1)) <|
   some (.inl (at_,x2 + 1))
  else
   if decide (x4 = (-4)) then
    if decide (0≤at_) then
     some (.inr (.inr ()))
    else
     ck (Zan (x2 + 1)) <|
     some (.inl (x2,x2 + 1))
   else
    some (.inr (.inr ()))
 else
  some (.inr (.inl at_))

def ZaI (cells:List Za):Option (Int × Bool) :=
 (zw cells).bind fun (x,x1) =>
 (
  zk (ZaI.s0 cells x) big ((-1),0):Option (Int ⊕ Unit)).bind fun o₁=>match o₁ with
 | .inl at_1 =>
  some (at_1,decide (0≤at_1))
 | .inr _ =>
  some (0,false)

/-! muntin/valid.Check -/
def ZbO (cells:List Za):Option Int :=
 (z9 cells).bind fun x =>
 if !(decide (x = 0)) then
  some x
 else
  (Zc2 cells).bind fun x1 =>
  if !x1 then
   some 13
  else
   (ZaI cells).bind fun (x2,x3) =>
   if (!x3) && (decide (1 < (cells.length:Int))) then
    some 10
   else
    some 0

/-! muntin/valid.Outer -/
def ZbP (cells:List Za):Option (Int × Int) :=
 (ZbO cells).bind fun x =>
 if !(decide (x = 0)) then
  some (0,x)
 else
  (ZaI cells).bind fun (x1,x2) =>
  if !x2 then
   some (0,2)
  else
   some (x1,0)

/-! slices.IndexFunc[[]int,int] -/
def zf.s0 (s:List Int) (f:Int→Option Bool):Int→Option (Int ⊕ (Unit ⊕ Int)):=fun x =>
 if decide (x < (s.length:Int)) then
  ck ((0:Int)≤x∧x < (s.length:Int)) <|
  (f (gi s x.toNat)).bind fun x2 =>
  if x2 then
   some (.inr (.inr x))
  else
   ck (Zan (x + 1)) <|
   some (.inl (x + 1))
 else
  some (.inr (.inl ()))

def zf (s:List Int) (f:Int→Option Bool):Option Int :=
 (
  zk (zf.s0 s f) big 0:Option (Unit ⊕ Int)).bind fun o₁=>match o₁ with
 | .inl _ =>
  some (-1)
 | .inr x1 =>
  some x1

/-! slices.ContainsFunc[[]int,int] -/
def ZaT (s:List Int) (f:Int→Option Bool):Option Bool :=
 (zf s f).bind fun x =>
 some (decide (0≤x))

/-! muntin/front.right$1 -/
def Zcf (t:Int):Option Bool :=
 some ((decide (t < (-2))) || (decide (1 < t)))

/-! muntin/front.right -/
def ZbN (turns:List Int):Option Bool :=
 (ZaT turns (fun y0=>Zcf y0)).bind fun x =>
 some (!x)

/-! muntin/front.Of -/
def ZaP.s0 (turns:List Int) (i:Int):Int × Int→Option ((Int × Int) ⊕ (Unit ⊕ Int)):=fun (sum,x1) =>
 if decide (x1 < (turns.length:Int)) then
  ck (Zan (i + x1)) <|
  ck (((turns.length:Int):Int)≠0) <|
  ck ((0:Int)≤((i + x1).tmod (turns.length:Int))∧((i + x1).tmod (turns.length:Int)) < (turns.length:Int)) <|
  ck (Zan (sum + (gi turns ((i + x1).tmod (turns.length:Int):Int).toNat))) <|
  if decide (sum + (gi turns ((i + x1).tmod (turns.length:Int):Int).toNat) = 1) then
   ck (Zan (((i + x1).tmod (turns.length:Int)) + 1)) <|
   some (.inr (.inr ((((i + x1).tmod (turns.length:Int)) + 1).tmod (turns.length:Int))))
  else
   ck (Zan (x1 + 1)) <|
   some (.inl (sum + (gi turns ((i + x1).tmod (turns.length:Int):Int).toNat),x1 + 1))
 else
  some (.inr (.inl ()))

def ZaP (turns:List Int) (i:Int):Option (Int × Bool) :=
 (ZbN turns).bind fun x =>
 (if ((!x) || (decide (i < 0))) || (decide ((turns.length:Int)≤i)) then
  some true
 else
  ck ((0:Int)≤i∧i < (turns.length:Int)) <|
  some (decide (0≤(gi turns i.toNat)))).bind fun t =>
 if t then
  some (0,false)
 else
  (
   zk (ZaP.s0 turns i) big (0,0):Option (Unit ⊕ Int)).bind fun o₁=>match o₁ with
  | .inl _ =>
   some (0,false)
  | .inr x2 =>
   some (x2,true)

/-! muntin/front.Open -/
def Zbo.s0 (turns:List Int):Int→Option (Int ⊕ (Unit ⊕ Int)):=fun x1 =>
 if decide (x1 < (turns.length:Int)) then
  ck ((0:Int)≤x1∧x1 < (turns.length:Int)) <|
  (ZaP turns x1).bind fun (x3,x4) =>
  if (decide ((gi turns x1.toNat) < 0)) && (!x4) then
   some (.inr (.inr x1))
  else
   ck (Zan (x1 + 1)) <|
   some (.inl (x1 + 1))
 else
  some (.inr (.inl ()))

def Zbo (turns:List Int):Option (Int × Bool) :=
 (ZbN turns).bind fun x =>
 if !x then
  some (0,false)
 else
  (
   zk (Zbo.s0 turns) big 0:Option (Unit ⊕ Int)).bind fun o₁=>match o₁ with
  | .inl _ =>
   some (0,false)
  | .inr x2 =>
   some (x2,true)

/-! muntin/rect.outside -/
def Zb9 (cells:List Za):Option (Zr × Int) :=
 (ZbP cells).bind fun (x,x1) =>
 if !(decide (x1 = 0)) then
  some ((⟨(0:Int),(0:Int)⟩:Zr),x1)
 else
  (zw cells).bind fun (x2,x3) =>
  ck ((0:Int)≤x∧x < (x2.length:Int)) <|
  (Zay cells (gi x2 x.toNat)).bind fun x4 =>
  (Zbo x4).bind fun (x5,x6) =>
  ck ((0:Int)≤x5∧x5 < ((gi x2 x.toNat).length:Int)) <|
  some (gi (gi x2 x.toNat) x5.toNat,0)

/-! slices.Clone[[]muntin/api.Cell,muntin/api.Cell] -/
def zV (s:List Za):Option (List Za) :=
 ck (s.length≤1000000000) <|
 some s
/-! muntin/grid.Of -/
def ZdB (cells:List Za):Option ((Option ZQ) × Int) :=
 (z9 cells).bind fun x =>
 if !(decide (x = 0)) then
  some (none,x)
 else
  (zV cells).bind fun x1 =>
  some (some (⟨x1⟩:ZQ),0)

/-! (*muntin/grid.Grid).Len -/
def Za6 (g:ZQ):Option Int :=
 some (g.cells.length:Int)

/-! (*muntin/grid.Grid).is -/
def ZaQ (g:ZQ) (v:Int) (d:Int):Option Bool :=
 (if decide (0≤v) then
  (Za6 g).bind fun x =>
  some (decide (v < x))
 else
  some false).bind fun t =>
 (if t then
  (Za8 d).bind fun x1 =>
  some x1
 else
  some false).bind fun t1 =>
 some t1

/-! (*muntin/grid.Grid).Next -/
def Za3 (g:ZQ) (v:Int) (d:Int):Option (Int × Int × Bool) :=
 (ZaQ g v d).bind fun x =>
 (if !x then
  some true
 else
  ck ((0:Int)≤v∧v < (g.cells.length:Int)) <|
  ck ((0:Int)≤d∧d < 4) <|
  some (decide (((gi g.cells v.toNat).Next).get d = (-1)))).bind fun t =>
 if t then
  some (0,0,false)
 else
  ck ((0:Int)≤v∧v < (g.cells.length:Int)) <|
  ck ((0:Int)≤d∧d < 4) <|
  some (((gi g.cells v.toNat).Next).get d,((gi g.cells v.toNat).Owner).get d,true)

/-! muntin/grid.empty -/
def ZcL:Option Za :=
 some (⟨(⟨(-1),(-1),(-1),(-1)⟩:A4 Int),(⟨0,0,0,0⟩:A4 Int)⟩:Za)

/-! (*muntin/grid.Grid).Add -/
def Zbp (g:ZQ):Option (Int × Int × ZQ) :=
 (Za6 g).bind fun x =>
 if decide (x = 4096) then
  some (0,6,g)
 else
  (ZcL ).bind fun x1 =>
  ck (g.cells.length + [x1].length≤1000000000) <|
  (Za6 (⟨g.cells++[x1]⟩:ZQ)).bind fun x2 =>
  ck (Zan (x2 - 1)) <|
  some (x2 - 1,0,(⟨g.cells++[x1]⟩:ZQ))

/-! (*muntin/grid.Grid).lay -/
def ZaZ (g:ZQ) (v:Int) (d:Int) (w:Int) (owner:Int):Option ZQ :=
 (Za9 d 2).bind fun x =>
 ck ((0:Int)≤v∧v < (g.cells.length:Int)) <|
 ck ((0:Int)≤d∧d < 4) <|
 ck ((0:Int)≤v∧v < ((g.cells.set v.toNat ({ gi g.cells v.toNat with Next:=((gi g.cells v.toNat).Next).set d w })).length:Int)) <|
 ck ((0:Int)≤w∧w < (((g.cells.set v.toNat ({ gi g.cells v.toNat with Next:=((gi g.cells v.toNat).Next).set d w })).set v.toNat ({ gi (g.cells.set v.toNat ({ gi g.cells v.toNat with Next:=((gi g.cells v.toNat).Next).set d w })) v.toNat with Owner:=((gi (g.cells.set v.toNat ({ gi g.cells v.toNat with Next:=((gi g.cells v.toNat).Next).set d w })) v.toNat).Owner).set d owner })).length:Int)) <|
 ck ((0:Int)≤x∧x < 4) <|
 ck ((0:Int)≤w∧w < ((((g.cells.set v.toNat ({ gi g.cells v.toNat with Next:=((gi g.cells v.toNat).Next).set d w })).set v.toNat ({ gi (g.cells.set v.toNat ({ gi g.cells v.toNat with Next:=((gi g.cells v.toNat).Next).set d w })) v.toNat with Owner:=((gi (g.cells.set v.toNat ({ gi g.cells v.toNat with Next:=((gi g.cells v.toNat).Next).set d w })) v.toNat).Owner).set d owner })).set w.toNat ({ gi ((g.cells.set v.toNat ({ gi g.cells v.toNat with Next:=((gi g.cells v.toNat).Next).set d w })).set v.toNat ({ gi (g.cells.set v.toNat ({ gi g.cells v.toNat with Next:=((gi g.cells v.toNat).Next).set d w })) v.toNat with Owner:=((gi (g.cells.set v.toNat ({ gi g.cells v.toNat with Next:=((gi g.cells v.toNat).Next).set d w })) v.toNat).Owner).set d owner })) w.toNat with Next:=((gi ((g.cells.set v.toNat ({ gi g.cells v.toNat with Next:=((gi g.cells v.toNat).Next).set d w })).set v.toNat ({ gi (g.cells.set v.toNat ({ gi g.cells v.toNat with Next:=((gi g.cells v.toNat).Next).set d w })) v.toNat with Owner:=((gi (g.cells.set v.toNat ({ gi g.cells v.toNat with Next:=((gi g.cells v.toNat).Next).set d w })) v.toNat).Owner).set d owner })) w.toNat).Next).set x v })).length:Int)) <|
 some (⟨(((g.cells.set v.toNat ({ gi g.cells v.toNat with Next:=((gi g.cells v.toNat).Next).set d w })).set v.toNat ({ gi (g.cells.set v.toNat ({ gi g.cells v.toNat with Next:=((gi g.cells v.toNat).Next).set d w })) v.toNat with Owner:=((gi (g.cells.set v.toNat ({ gi g.cells v.toNat with Next:=((gi g.cells v.toNat).Next).set d w })) v.toNat).Owner).set d owner })).set w.toNat ({ gi ((g.cells.set v.toNat ({ gi g.cells v.toNat with Next:=((gi g.cells v.toNat).Next).set d w })).set v.toNat ({ gi (g.cells.set v.toNat ({ gi g.cells v.toNat with Next:=((gi g.cells v.toNat).Next).set d w })) v.toNat with Owner:=((gi (g.cells.set v.toNat ({ gi g.cells v.toNat with Next:=((gi g.cells v.toNat).Next).set d w })) v.toNat).Owner).set d owner })) w.toNat with Next:=((gi ((g.cells.set v.toNat ({ gi g.cells v.toNat with Next:=((gi g.cells v.toNat).Next).set d w })).set v.toNat ({ gi (g.cells.set v.toNat ({ gi g.cells v.toNat with Next:=((gi g.cells v.toNat).Next).set d w })) v.toNat with Owner:=((gi (g.cells.set v.toNat ({ gi g.cells v.toNat with Next:=((gi g.cells v.toNat).Next).set d w })) v.toNat).Owner).set d owner })) w.toNat).Next).set x v })).set w.toNat ({ gi (((g.cells.set v.toNat ({ gi g.cells v.toNat with Next:=((gi g.cells v.toNat).Next).set d w })).set v.toNat ({ gi (g.cells.set v.toNat ({ gi g.cells v.toNat with Next:=((gi g.cells v.toNat).Next).set d w })) v.toNat with Owner:=((gi (g.cells.set v.toNat ({ gi g.cells v.toNat with Next:=((gi g.cells v.toNat).Next).set d w })) v.toNat).Owner).set d owner })).set w.toNat ({ gi ((g.cells.set v.toNat ({ gi g.cells v.toNat with Next:=((gi g.cells v.toNat).Next).set d w })).set v.toNat ({ gi (g.cells.set v.toNat ({ gi g.cells v.toNat with Next:=((gi g.cells v.toNat).Next).set d w })) v.toNat with Owner:=((gi (g.cells.set v.toNat ({ gi g.cells v.toNat with Next:=((gi g.cells v.toNat).Next).set d w })) v.toNat).Owner).set d owner })) w.toNat with Next:=((gi ((g.cells.set v.toNat ({ gi g.cells v.toNat with Next:=((gi g.cells v.toNat).Next).set d w })).set v.toNat ({ gi (g.cells.set v.toNat ({ gi g.cells v.toNat with Next:=((gi g.cells v.toNat).Next).set d w })) v.toNat with Owner:=((gi (g.cells.set v.toNat ({ gi g.cells v.toNat with Next:=((gi g.cells v.toNat).Next).set d w })) v.toNat).Owner).set d owner })) w.toNat).Next).set x v })) w.toNat with Owner:=((gi (((g.cells.set v.toNat ({ gi g.cells v.toNat with Next:=((gi g.cells v.toNat).Next).set d w })).set v.toNat ({ gi (g.cells.set v.toNat ({ gi g.cells v.toNat with Next:=((gi g.cells v.toNat).Next).set d w })) v.toNat with Owner:=((gi (g.cells.set v.toNat ({ gi g.cells v.toNat with Next:=((gi g.cells v.toNat).Next).set d w })) v.toNat).Owner).set d owner })).set w.toNat ({ gi ((g.cells.set v.toNat ({ gi g.cells v.toNat with Next:=((gi g.cells v.toNat).Next).set d w })).set v.toNat ({ gi (g.cells.set v.toNat ({ gi g.cells v.toNat with Next:=((gi g.cells v.toNat).Next).set d w })) v.toNat with Owner:=((gi (g.cells.set v.toNat ({ gi g.cells v.toNat with Next:=((gi g.cells v.toNat).Next).set d w })) v.toNat).Owner).set d owner })) w.toNat with Next:=((gi ((g.cells.set v.toNat ({ gi g.cells v.toNat with Next:=((gi g.cells v.toNat).Next).set d w })).set v.toNat ({ gi (g.cells.set v.toNat ({ gi g.cells v.toNat with Next:=((gi g.cells v.toNat).Next).set d w })) v.toNat with Owner:=((gi (g.cells.set v.toNat ({ gi g.cells v.toNat with Next:=((gi g.cells v.toNat).Next).set d w })) v.toNat).Owner).set d owner })) w.toNat).Next).set x v })) w.toNat).Owner).set x owner })⟩:ZQ)

/-! (*muntin/grid.Grid).Join -/
def zJ (g:ZQ) (v:Int) (d:Int) (w:Int) (owner:Int):Option (Int × ZQ) :=
 (ZaQ g v d).bind fun x =>
 (if !x then
  some true
 else
  (ZaQ g w d).bind fun x1 =>
  some (!x1)).bind fun t =>
 if (t || (decide (v = w))) || (decide (owner < (-2))) then
  some (2,g)
 else
  (
   ck ((0:Int)≤v∧v < (g.cells.length:Int)) <|
   ck ((0:Int)≤d∧d < 4) <|
   if !(decide (((gi g.cells v.toNat).Next).get d = (-1))) then
    some true
   else
    (Za9 d 2).bind fun x3 =>
    ck ((0:Int)≤w∧w < (g.cells.length:Int)) <|
    ck ((0:Int)≤x3∧x3 < 4) <|
    some (!(decide (((gi g.cells w.toNat).Next).get x3 = (-1))))).bind fun x2 =>
  if x2 then
   some (9,g)
  else
   (ZaZ g v d w owner).bind fun m =>
   some (0,m)

/-! muntin/rect.frame -/
def Za0.s0:(List Za) × Int→Option (((List Za) × Int) ⊕ (List Za)):=fun (g1,x4) =>
 if decide (x4 < 5) then
  (Zbp (⟨g1⟩:ZQ)).bind fun (x5,x6,m) =>
  ck (Zan (x4 + 1)) <|
  some (.inl (m.cells,x4 + 1))
 else
  some (.inr g1)

def Za0.s1 (d:Zr) (x3:Int):(List Za) × Int→Option (((List Za) × Int) ⊕ (List Za)):=fun (g3,x7) =>
 if decide (x7 < 4) then
  ck (Zan (x7 + 3)) <|
  ck (Zan (x3 + x7)) <|
  ck (Zan (x7 + 1)) <|
  ck (Zan (x3 + ((x7 + 1).tmod 4))) <|
  if decide ((x7 + 3).tmod 4 = d.Dir) then
   ck (Zan (x3 + 4)) <|
   (zJ (⟨g3⟩:ZQ) (x3 + x7) x7 (x3 + 4) (-2)).bind fun (x8,m1) =>
   (zJ m1 (x3 + 4) x7 (x3 + ((x7 + 1).tmod 4)) (-2)).bind fun (x9,m2) =>
   some (.inl (m2.cells,x7 + 1))
  else
   (zJ (⟨g3⟩:ZQ) (x3 + x7) x7 (x3 + ((x7 + 1).tmod 4)) (-2)).bind fun (x10,m3) =>
   some (.inl (m3.cells,x7 + 1))
 else
  some (.inr g3)

def Za0 (g:ZQ) (d:Zr):Option ZQ :=
 (Za3 g d.Cell d.Dir).bind fun (x,x1,x2) =>
 (Za6 g).bind fun x3 =>
 (zk Za0.s0 big (g.cells,0)).bind fun g2 =>
 (zk (Za0.s1 d x3) big (g2,0)).bind fun g4 =>
 ck (Zan (x3 + 4)) <|
 (zJ (⟨g4⟩:ZQ) x d.Dir (x3 + 4) (-2)).bind fun (x11,m4) =>
 some m4

/-! muntin/rect.framed -/
def Zba (cells:List Za):Option ((Option ZQ) × Int) :=
 (Zb9 cells).bind fun (x,x1) =>
 if !(decide (x1 = 0)) then
  some (none,x1)
 else
  ck (Zan ((cells.length:Int) + 4)) <|
  ck (Zan (((cells.length:Int) + 4) + 1)) <|
  if decide (4096 < (((cells.length:Int) + 4) + 1)) then
   some (none,6)
  else
   (ZdB cells).bind fun (x2,x3) =>
   (x2).bind fun g =>
   (Za0 g x).bind fun m =>
   some (some m,0)

/-! (*muntin/grid.Grid).Cells -/
def ZaF (g:ZQ):Option (List Za) :=
 (zV g.cells).bind fun x =>
 some x

/-! muntin/rect.Frame -/
def Zbh (cells:List Za):Option ((List Za) × Int) :=
 (Zba cells).bind fun (x,x1) =>
 if !(decide (x1 = 0)) then
  some (([]:List Za),x1)
 else
  (x).bind fun g =>
  (ZaF g).bind fun x2 =>
  some (x2,0)

/-! muntin/front.First$1 -/
def ZbD (t:Int):Option Bool :=
 some (decide (t < 0))

/-! muntin/front.First -/
def ZaH.s0 (cells:List Za) (x:Int) (x2:List (List Zr)):Int→Option (Int ⊕ (Unit ⊕ (Int × Int))):=fun x4 =>
 if decide (x4 < (x2.length:Int)) then
  ck ((0:Int)≤x4∧x4 < (x2.length:Int)) <|
  (Zay cells (gi x2 x4.toNat)).bind fun x7 =>
  (zf x7 (fun y0=>ZbD y0)).bind fun x8 =>
  if (!(decide (x4 = x))) && (decide (0≤x8)) then
   some (.inr (.inr (x4,x8)))
  else
   ck (Zan (x4 + 1)) <|
   some (.inl (x4 + 1))
 else
  some (.inr (.inl ()))

def ZaH (cells:List Za):Option (Int × Int × Bool) :=
 (ZbP cells).bind fun (x,x1) =>
 if !(decide (x1 = 0)) then
  some (0,0,false)
 else
  (zw cells).bind fun (x2,x3) =>
  (
   zk (ZaH.s0 cells x x2) big 0:Option (Unit ⊕ (Int × Int))).bind fun o₁=>match o₁ with
  | .inl _ =>
   some (0,0,false)
  | .inr (x5,x6) =>
   some (x5,x6,true)

/-! (*muntin/grid.Grid).Split -/
def Zbj (g:ZQ) (v:Int) (d:Int):Option (Int × Int × ZQ) :=
 (ZaQ g v d).bind fun x =>
 if !x then
  some (0,2,g)
 else
  (Za3 g v d).bind fun (x1,x2,x3) =>
  if !x3 then
   some (0,9,g)
  else
   (Zbp g).bind fun (x4,x5,m) =>
   if !(decide (x5 = 0)) then
    some (0,x5,m)
   else
    (ZaZ m v d x4 x2).bind fun m1 =>
    (ZaZ m1 x4 d x1 x2).bind fun m2 =>
    some (x4,0,m2)

/-! muntin/rect.cut -/
def ZcH (g:ZQ):Option (Bool × Int × ZQ) :=
 (ZaF g).bind fun x =>
 (ZaH x).bind fun (x1,x2,x3) =>
 if !x3 then
  some (false,0,g)
 else
  (zw x).bind fun (x4,x5) =>
  ck ((0:Int)≤x1∧x1 < (x4.length:Int)) <|
  (Zay x (gi x4 x1.toNat)).bind fun x6 =>
  (ZaP x6 x2).bind fun (x7,x8) =>
  ck ((0:Int)≤x2∧x2 < ((gi x4 x1.toNat).length:Int)) <|
  ck ((0:Int)≤x7∧x7 < ((gi x4 x1.toNat).length:Int)) <|
  (Za3 g ((gi (gi x4 x1.toNat) x2.toNat).Cell) ((gi (gi x4 x1.toNat) x2.toNat).Dir)).bind fun (x9,x10,x11) =>
  (Zbj g ((gi (gi x4 x1.toNat) x7.toNat).Cell) ((gi (gi x4 x1.toNat) x7.toNat).Dir)).bind fun (x12,x13,m) =>
  if !(decide (x13 = 0)) then
   some (false,x13,m)
  else
   (zJ m x9 ((gi (gi x4 x1.toNat) x2.toNat).Dir) x12 (-2)).bind fun (x14,m1) =>
   some (true,x14,m1)

/-! muntin/rect.Refine -/
def Zag.s0 (cells:List Za):(List Za) × Bool→Option (((List Za) × Bool) ⊕ ((List Za) ⊕ Int)):=fun (g1,more) =>
 if more then
  (ZcH (⟨g1⟩:ZQ)).bind fun (x4,x5,m) =>
  if !(decide (x5 = 0)) then
   some (.inr (.inr x5))
  else
   some (.inl (m.cells,x4))
 else
  some (.inr (.inl g1))

def Zag (cells:List Za):Option ((List Za) × Int) :=
 (Zba cells).bind fun (x,x1) =>
 if decide (x1 = 2) then
  (zV cells).bind fun x2 =>
  some (x2,0)
 else
  if !(decide (x1 = 0)) then
   some (([]:List Za),x1)
  else
   (x).bind fun g =>
   (
    zk (Zag.s0 cells) big (g.cells,true):Option ((List Za) ⊕ Int)).bind fun o₁=>match o₁ with
   | .inl g2 =>
    (ZaF (⟨g2⟩:ZQ)).bind fun x6 =>
    some (x6,0)
   | .inr x3 =>
    some (([]:List Za),x3)

/-! muntin/muntinref10.Join -/
def Zby (l:List Za) (v:Int) (d:Int) (w:Int) (o:Int):Option ((List Za) × Int) :=
 if (((((((decide (v < 0)) || (decide ((l.length:Int)≤v))) || (decide (w < 0))) || (decide ((l.length:Int)≤w))) || (decide (v = w))) || (decide (d < 0))) || (decide (3 < d))) || (decide (o < (-2))) then
  some (l,2)
 else
  ck ((0:Int)≤v∧v < (l.length:Int)) <|
  ck ((0:Int)≤d∧d < 4) <|
  (if !(decide (((gi l v.toNat).Next).get d = (-1))) then
   some true
  else
   ck (Zan (d + 2)) <|
   ck ((0:Int)≤w∧w < (l.length:Int)) <|
   ck ((0:Int)≤((d + 2).tmod 4)∧((d + 2).tmod 4) < 4) <|
   some (!(decide (((gi l w.toNat).Next).get ((d + 2).tmod 4) = (-1))))).bind fun t =>
  if t then
   some (l,9)
  else
   (Zab l v d w o).bind fun x =>
   some (x,0)

/-! muntin/rect.Rectangular -/
def Zca (cells:List Za):Option (Bool × Int) :=
 (ZbO cells).bind fun x =>
 if !(decide (x = 0)) then
  some (false,x)
 else
  (ZaH cells).bind fun (x1,x2,x3) =>
  some (!x3,0)

/-! muntin/muntinlaw21.wakes -/
def Zbb:Option Bool :=
 (zu 2).bind fun x =>
 (Zby x 0 0 1 0).bind fun (x1,x2) =>
 (Zbh x1).bind fun (x3,x4) =>
 (Zag x1).bind fun (x5,x6) =>
 (Zca x5).bind fun (x7,x8) =>
 ck ((0:Int)≤1∧1≤(x1.length:Int)) <|
 (Zbh (x1.take (1:Int).toNat)).bind fun (x9,x10) =>
 some (((((((decide (x4 = 0)) && (decide ((x3.length:Int) = 7))) && (decide (x6 = 0))) && (decide (7 < (x5.length:Int)))) && x7) && (decide (x8 = 0))) && (decide (x10 = 3)))

/-! muntin/muntinref10.Check -/
def zi.s1 (l:List Za) (v:Int):Int→Option (Int ⊕ (Unit ⊕ Int)):=fun d =>
 if decide (d < 4) then
  ck ((0:Int)≤v∧v < (l.length:Int)) <|
  ck ((0:Int)≤d∧d < 4) <|
  if decide (((gi l v.toNat).Next).get d = (-1)) then
   if !(decide (((gi l v.toNat).Owner).get d = 0)) then
    some (.inr (.inr 9))
   else
    ck (Zan (d + 1)) <|
    some (.inl (d + 1))
  else
   if ((decide ((((gi l v.toNat).Next).get d) < 0)) || (decide ((l.length:Int)≤(((gi l v.toNat).Next).get d)))) || (decide (((gi l v.toNat).Next).get d = v)) then
    some (.inr (.inr 3))
   else
    ck (Zan (d + 2)) <|
    ck ((0:Int)≤(((gi l v.toNat).Next).get d)∧(((gi l v.toNat).Next).get d) < (l.length:Int)) <|
    ck ((0:Int)≤((d + 2).tmod 4)∧((d + 2).tmod 4) < 4) <|
    if ((!(decide (((gi l (((gi l v.toNat).Next).get d:Int).toNat).Next).get ((d + 2).tmod 4) = v))) || (!(decide (((gi l (((gi l v.toNat).Next).get d:Int).toNat).Owner).get ((d + 2).tmod 4) = ((gi l v.toNat).Owner).get d)))) || (decide ((((gi l v.toNat).Owner).get d) < (-2))) then
     some (.inr (.inr 9))
    else
     ck (Zan (d + 1)) <|
     some (.inl (d + 1))
 else
  some (.inr (.inl ()))

def zi.s0 (l:List Za):Int→Option (Int ⊕ (Unit ⊕ Int)):=fun v =>
 if decide (v < (l.length:Int)) then
  (
   zk (zi.s1 l v) big 0:Option (Unit ⊕ Int)).bind fun o₃=>match o₃ with
  | .inl _ =>
   ck (Zan (v + 1)) <|
   some (.inl (v + 1))
  | .inr x1 =>
   some (.inr (.inr x1))
 else
  some (.inr (.inl ()))

def zi (l:List Za):Option Int :=
 if decide (4096 < (l.length:Int)) then
  some 6
 else
  (
   zk (zi.s0 l) big 0:Option (Unit ⊕ Int)).bind fun o₁=>match o₁ with
  | .inl _ =>
   some 0
  | .inr x =>
   some x

/-! muntin/muntinref13.Far -/
def ZP.s0 (l:List Za):(List Int) × Int→Option (((List Int) × Int) ⊕ (List Int)):=fun (far,i) =>
 if decide (i < (l.length:Int)) then
  ck ((0:Int)≤i∧i < (far.length:Int)) <|
  ck (Zan (i + 1)) <|
  some (.inl (far.set i.toNat (-1),i + 1))
 else
  some (.inr far)

def ZP.s3 (l:List Za) (round:Int) (i1:Int):(List Int) × Int→Option (((List Int) × Int) ⊕ (List Int)):=fun (far6,d) =>
 if decide (d < 4) then
  ck ((0:Int)≤i1∧i1 < (l.length:Int)) <|
  ck ((0:Int)≤d∧d < 4) <|
  ck ((0:Int)≤i1∧i1 < (far6.length:Int)) <|
  (if (decide (gi far6 i1.toNat = round)) && (decide (0≤(((gi l i1.toNat).Next).get d))) then
   ck ((0:Int)≤(max (((gi l i1.toNat).Next).get d) 0)∧(max (((gi l i1.toNat).Next).get d) 0) < (far6.length:Int)) <|
   some (decide ((gi far6 (max (((gi l i1.toNat).Next).get d) 0:Int).toNat) < 0))
  else
   some false).bind fun t =>
  if t then
   ck (Zan (round + 1)) <|
   ck ((0:Int)≤(((gi l i1.toNat).Next).get d)∧(((gi l i1.toNat).Next).get d) < (far6.length:Int)) <|
   ck (Zan (d + 1)) <|
   some (.inl (far6.set (((gi l i1.toNat).Next).get d:Int).toNat (round + 1),d + 1))
  else
   ck (Zan (d + 1)) <|
   some (.inl (far6,d + 1))
 else
  some (.inr far6)

def ZP.s2 (l:List Za) (round:Int):(List Int) × Int→Option (((List Int) × Int) ⊕ (List Int)):=fun (far4,i1) =>
 if decide (i1 < (l.length:Int)) then
  (zk (ZP.s3 l round i1) big (far4,0)).bind fun far7 =>
  ck (Zan (i1 + 1)) <|
  some (.inl (far7,i1 + 1))
 else
  some (.inr far4)

def ZP.s1 (l:List Za):(List Int) × Int→Option (((List Int) × Int) ⊕ (List Int)):=fun (far2,round) =>
 if decide (round < (l.length:Int)) then
  (zk (ZP.s2 l round) big (far2,0)).bind fun far5 =>
  ck (Zan (round + 1)) <|
  some (.inl (far5,round + 1))
 else
  some (.inr far2)

def ZP (l:List Za) (v:Int):Option (List Int) :=
 ck ((0:Int)≤(l.length:Int)∧(l.length:Int)≤1000000000) <|
 (zk (ZP.s0 l) big (List.replicate ((l.length:Int):Int).toNat (0:Int),0)).bind fun far1 =>
 ck ((0:Int)≤v∧v < (far1.length:Int)) <|
 (zk (ZP.s1 l) big (far1.set v.toNat 0,0)).bind fun far3 =>
 some far3

/-! muntin/muntinref13.Parts -/
def zo.s1 (l:List Za) (x:List Int):(List Bool) × (List Int) × Int→Option (((List Bool) × (List Int) × Int) ⊕ ((List Bool) × (List Int))):=fun (in_1,p,w) =>
 if decide (w < (l.length:Int)) then
  ck ((0:Int)≤w∧w < (x.length:Int)) <|
  if decide (0≤(gi x w.toNat)) then
   ck ((0:Int)≤w∧w < (in_1.length:Int)) <|
   ck (p.length + [w].length≤1000000000) <|
   ck (Zan (w + 1)) <|
   some (.inl (in_1.set w.toNat true,p++[w],w + 1))
  else
   ck (Zan (w + 1)) <|
   some (.inl (in_1,p,w + 1))
 else
  some (.inr (in_1,p))

def zo.s0 (l:List Za):(List Bool) × (List (List Int)) × Int→Option (((List Bool) × (List (List Int)) × Int) ⊕ (List (List Int))):=fun (in_,out,v) =>
 if decide (v < (l.length:Int)) then
  ck ((0:Int)≤v∧v < (in_.length:Int)) <|
  if gi in_ v.toNat then
   ck (Zan (v + 1)) <|
   some (.inl (in_,out,v + 1))
  else
   (ZP l v).bind fun x =>
   (zk (zo.s1 l x) big (in_,([]:List Int),0)).bind fun (in_2,p1) =>
   ck (out.length + 1≤1000000000) <|
   ck (Zan (v + 1)) <|
   some (.inl (in_2,out++[p1],v + 1))
 else
  some (.inr out)

def zo (l:List Za):Option (List (List Int)) :=
 ck ((0:Int)≤(l.length:Int)∧(l.length:Int)≤1000000000) <|
 (zk (zo.s0 l) big (List.replicate ((l.length:Int):Int).toNat false,([]:List (List Int)),0)).bind fun out1 =>
 some out1

/-! muntin/muntinref12.Behind -/
def zE.s0 (l:List Za) (d:Zu):Int→Option (Int ⊕ (Unit ⊕ Zu)):=fun i =>
 if decide (i < 4) then
  ck ((0:Int)≤i∧i < (([1,0,3,2]:List Int).length:Int)) <|
  ck (Zan (d.Dir + (gi ([1,0,3,2]:List Int) i.toNat))) <|
  ck ((0:Int)≤(((gi l (d.Cell:Int).toNat).Next).get d.Dir)∧(((gi l (d.Cell:Int).toNat).Next).get d.Dir) < (l.length:Int)) <|
  ck ((0:Int)≤((d.Dir + (gi ([1,0,3,2]:List Int) i.toNat)).tmod 4)∧((d.Dir + (gi ([1,0,3,2]:List Int) i.toNat)).tmod 4) < 4) <|
  if decide (0≤(((gi l (((gi l (d.Cell:Int).toNat).Next).get d.Dir:Int).toNat).Next).get ((d.Dir + (gi ([1,0,3,2]:List Int) i.toNat)).tmod 4))) then
   some (.inr (.inr (⟨((gi l (d.Cell:Int).toNat).Next).get d.Dir,(d.Dir + (gi ([1,0,3,2]:List Int) i.toNat)).tmod 4⟩:Zu)))
  else
   ck (Zan (i + 1)) <|
   some (.inl (i + 1))
 else
  some (.inr (.inl ()))

def zE (l:List Za) (d:Zu):Option Zu :=
 ck ((0:Int)≤d.Cell∧d.Cell < (l.length:Int)) <|
 ck ((0:Int)≤d.Dir∧d.Dir < 4) <|
 (
  zk (zE.s0 l d) big 0:Option (Unit ⊕ Zu)).bind fun o₁=>match o₁ with
 | .inl _ =>
  some d
 | .inr x =>
  some x

/-! muntin/muntinref12.Faces -/
def ZH.s2 (l:List Za):(List Bool) × (List Zu) × Zu→Option (((List Bool) × (List Zu) × Zu) ⊕ ((List Bool) × (List Zu))):=fun (met3,f,d) =>
 ck (Zan (4 * d.Cell)) <|
 ck (Zan ((4 * d.Cell) + d.Dir)) <|
 ck ((0:Int)≤((4 * d.Cell) + d.Dir)∧((4 * d.Cell) + d.Dir) < (met3.length:Int)) <|
 if !(gi met3 ((4 * d.Cell) + d.Dir:Int).toNat) then
  ck (f.length + [d].length≤1000000000) <|
  (zE l d).bind fun x =>
  some (.inl (met3.set ((4 * d.Cell) + d.Dir:Int).toNat true,f++[d],x))
 else
  some (.inr (met3,f))

def ZH.s1 (l:List Za) (v:Int):(List Bool) × (List (List Zu)) × Int→Option (((List Bool) × (List (List Zu)) × Int) ⊕ ((List Bool) × (List (List Zu)))):=fun (met1,out2,e_) =>
 if decide (e_ < 4) then
  ck ((0:Int)≤v∧v < (l.length:Int)) <|
  ck ((0:Int)≤e_∧e_ < 4) <|
  (if decide ((((gi l v.toNat).Next).get e_) < 0) then
   some true
  else
   ck (Zan (4 * v)) <|
   ck (Zan ((4 * v) + e_)) <|
   ck ((0:Int)≤((4 * v) + e_)∧((4 * v) + e_) < (met1.length:Int)) <|
   some (gi met1 ((4 * v) + e_:Int).toNat)).bind fun t =>
  if t then
   ck (Zan (e_ + 1)) <|
   some (.inl (met1,out2,e_ + 1))
  else
   (zk (ZH.s2 l) big (met1,([]:List Zu),(⟨v,e_⟩:Zu))).bind fun (met4,f1) =>
   ck (out2.length + 1≤1000000000) <|
   ck (Zan (e_ + 1)) <|
   some (.inl (met4,out2++[f1],e_ + 1))
 else
  some (.inr (met1,out2))

def ZH.s0 (l:List Za):(List Bool) × (List (List Zu)) × Int→Option (((List Bool) × (List (List Zu)) × Int) ⊕ (List (List Zu))):=fun (met,out,v) =>
 if decide (v < (l.length:Int)) then
  (zk (ZH.s1 l v) big (met,out,0)).bind fun (met2,out3) =>
  ck (Zan (v + 1)) <|
  some (.inl (met2,out3,v + 1))
 else
  some (.inr out)

def ZH (l:List Za):Option (List (List Zu)) :=
 ck (Zan (4 * (l.length:Int))) <|
 ck ((0:Int)≤(4 * (l.length:Int))∧(4 * (l.length:Int))≤1000000000) <|
 (zk (ZH.s0 l) big (List.replicate (4 * (l.length:Int):Int).toNat false,([]:List (List Zu)),0)).bind fun out1 =>
 some out1

/-! muntin/muntinref01.Good -/
def ZaW (d:Int):Option Bool :=
 some ((decide (0≤d)) && (decide (d≤3)))

/-! muntin/muntinref01.Left -/
def Zbw (d:Int) (times:Int):Option Int :=
 (ZaW d).bind fun x =>
 if !x then
  some 0
 else
  if decide ((times.tmod 4) < 0) then
   ck (Zan ((times.tmod 4) + 4)) <|
   ck (Zan (d + ((times.tmod 4) + 4))) <|
   some ((d + ((times.tmod 4) + 4)).tmod 4)
  else
   ck (Zan (d + (times.tmod 4))) <|
   some ((d + (times.tmod 4)).tmod 4)

/-! muntin/muntinref01.Turn -/
def Zbx (d:Int) (e_:Int):Option Int :=
 (ZaW d).bind fun x =>
 (ZaW e_).bind fun x1 =>
 if ((!x) || (!x1)) || (decide (d = e_)) then
  some 0
 else
  (Zbw d 1).bind fun x2 =>
  if decide (x2 = e_) then
   some 1
  else
   (Zbw d 3).bind fun x3 =>
   if decide (x3 = e_) then
    some (-1)
   else
    some (-2)

/-! muntin/muntinref12.Turns -/
def zR.s0 (l:List Za) (f:List Zu):(List Int) × Int→Option (((List Int) × Int) ⊕ (List Int)):=fun (out,i) =>
 if decide (i < (f.length:Int)) then
  ck ((0:Int)≤i∧i < (f.length:Int)) <|
  (zE l (gi f i.toNat)).bind fun x =>
  (Zbx ((gi f i.toNat).Dir) x.Dir).bind fun x1 =>
  ck (out.length + [x1].length≤1000000000) <|
  ck (Zan (i + 1)) <|
  some (.inl (out++[x1],i + 1))
 else
  some (.inr out)

def zR (l:List Za) (f:List Zu):Option (List Int) :=
 (zk (zR.s0 l f) big (([]:List Int),0)).bind fun out1 =>
 some out1

/-! muntin/muntinref12.Rotation -/
def zN.s0 (t:List Int):Int × Int→Option ((Int × Int) ⊕ Int):=fun (n,i) =>
 if decide (i < (t.length:Int)) then
  ck ((0:Int)≤i∧i < (t.length:Int)) <|
  if (decide ((-2)≤(gi t i.toNat))) && (decide ((gi t i.toNat)≤1)) then
   ck (Zan (n + (gi t i.toNat))) <|
   ck (Zan (i + 1)) <|
   some (.inl (n + (gi t i.toNat),i + 1))
  else
   ck (Zan (i + 1)) <|
   some (.inl (n,i + 1))
 else
  some (.inr n)

def zN (t:List Int):Option Int :=
 (zk (zN.s0 t) big (0,0)).bind fun n1 =>
 some n1

/-! muntin/muntinref14.Outer -/
def Zac.s0 (l:List Za) (x2:List (List Zu)):Int × Int→Option ((Int × Int) ⊕ (Int ⊕ Unit)):=fun (at_,i) =>
 if decide (i < (x2.length:Int)) then
  ck ((0:Int)≤i∧i < (x2.length:Int)) <|
  (zR l (gi x2 i.toNat)).bind fun x3 =>
  (zN x3).bind fun x4 =>
  if ((!(decide (x4 = 4))) && (!(decide (x4 = (-4))))) || ((decide (x4 = (-4))) && (decide (0≤at_))) then
   some (.inr (.inr ()))
  else
   if decide (x4 = (-4)) then
    ck (Zan (i + 1)) <|
    some (.inl (i,i + 1))
   else
    ck (Zan (i + 1)) <|
    some (.inl (at_,i + 1))
 else
  some (.inr (.inl at_))

def Zac (l:List Za):Option (Int × Int) :=
 (zi l).bind fun x =>
 if !(decide (x = 0)) then
  some ((-1),x)
 else
  (zo l).bind fun x1 =>
  if !(decide ((x1.length:Int) = 1)) then
   some ((-1),13)
  else
   if decide ((l.length:Int) = 1) then
    some ((-1),0)
   else
    (ZH l).bind fun x2 =>
    (
     zk (Zac.s0 l x2) big ((-1),0):Option (Int ⊕ Unit)).bind fun o₁=>match o₁ with
    | .inl at_1 =>
     if decide (at_1 < 0) then
      some ((-1),10)
     else
      some (at_1,0)
    | .inr _ =>
     some ((-1),10)

/-! muntin/muntinlaw21.RectCounts -/
def zb.s1 (x8:Int) (x11:Int) (x12:List Int):Int × Int→Option ((Int × Int) ⊕ Int):=fun (n2,x13) =>
 if decide (x13 < (x12.length:Int)) then
  ck ((0:Int)≤x13∧x13 < (x12.length:Int)) <|
  if (!(decide (x11 = x8))) && (decide ((gi x12 x13.toNat) < 0)) then
   ck (Zan (n2 - (gi x12 x13.toNat))) <|
   ck (Zan (x13 + 1)) <|
   some (.inl (n2 - (gi x12 x13.toNat),x13 + 1))
  else
   ck (Zan (x13 + 1)) <|
   some (.inl (n2,x13 + 1))
 else
  some (.inr n2)

def zb.s0 (x2:List Za) (x8:Int) (x10:List (List Zu)):Int × Int→Option ((Int × Int) ⊕ Int):=fun (n,x11) =>
 if decide (x11 < (x10.length:Int)) then
  ck ((0:Int)≤x11∧x11 < (x10.length:Int)) <|
  (zR x2 (gi x10 x11.toNat)).bind fun x12 =>
  (zk (zb.s1 x8 x11 x12) big (n,0)).bind fun n3 =>
  ck (Zan (x11 + 1)) <|
  some (.inl (n3,x11 + 1))
 else
  some (.inr n)

def zb (z:zx):Option Bool :=
 (ZC z 14).bind fun (x,x1) =>
 (Zbh x).bind fun (x2,x3) =>
 (Zag x).bind fun (x4,x5) =>
 (Zbb ).bind fun x6 =>
 if (!x6) || (!(decide (x3 = 0))) then
  (Zbb ).bind fun x7 =>
  some (x7 && ((!(decide (x5 = 0))) || (decide ((x4.length:Int) = 1))))
 else
  (if !(decide (x5 = 0)) then
   some true
  else
   ck (Zan ((x.length:Int) + 5)) <|
   some (!(decide ((x2.length:Int) = (x.length:Int) + 5)))).bind fun t =>
  if t then
   some false
  else
   (Zac x2).bind fun (x8,x9) =>
   (ZH x2).bind fun x10 =>
   (zk (zb.s0 x2 x8 x10) big (0,0)).bind fun n1 =>
   ck (Zan ((x2.length:Int) + n1)) <|
   some ((decide ((x4.length:Int)≤((x2.length:Int) + n1))) && (decide ((decide (n1 = 0)) = (decide ((x4.length:Int) = (x2.length:Int))))))

end Mu
