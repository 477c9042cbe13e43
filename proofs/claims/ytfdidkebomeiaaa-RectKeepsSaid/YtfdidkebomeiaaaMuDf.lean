/- What the functions work out. -/
import Derived.Test.YtfdidkebomeiaaaMuA
import Derived.Test.YtfdidkebomeiaaaMuR
set_option linter.unusedVariables false
set_option linter.unnecessarySimpa false
set_option linter.unusedSimpArgs false
set_option maxHeartbeats 2000000
set_option maxRecDepth 10000
namespace Mu
open Go (IntKind BinOp UnOp)
structure zy where
 At:List Int
 Bits:List Int
 Own:List Int
 deriving DecidableEq,Inhabited
abbrev ZgK:Enc Int:=⟨1,fun x=>[.i .u8 x],fun _=>rfl⟩
theorem ZgK.one (x:Int):(ZgK.c x).all V.one = true:=rfl
abbrev Zjq:Enc Int:=⟨1,fun x=>[.i .i8 x],fun _=>rfl⟩
theorem Zjq.one (x:Int):(Zjq.c x).all V.one = true:=rfl
structure Za where
 Next:A4 Int
 Owner:A4 Int
 deriving DecidableEq,Inhabited
structure Zv where
 X:Int
 Y:Int
 deriving DecidableEq,Inhabited
abbrev Zo:Enc Zv:=⟨2,fun x=>[.i .i64 x.X,.i .i64 x.Y],fun _=>rfl⟩
theorem Zo.one (x:Zv):(Zo.c x).all V.one = true:=rfl
theorem Zo.same (x y:Zv):Zav [.i,.i] (Zo.c x) (Zo.c y) = some (decide (x = y)):=by
 obtain ⟨x1,x2⟩:=x
 obtain ⟨y1,y2⟩:=y
 refine (ZfE (ZfE ZgF)).trans ?_
 congr 1
 rw [Bool.eq_iff_iff]
 simp [and_assoc]
abbrev Ze:Enc Za:=⟨8,fun x=>[.i .i64 x.Next.a,.i .i64 x.Next.b,.i .i64 x.Next.c,.i .i64 x.Next.d,.i .i64 x.Owner.a,.i .i64 x.Owner.b,.i .i64 x.Owner.c,.i .i64 x.Owner.d],fun _=>rfl⟩
theorem Ze.one (x:Za):(Ze.c x).all V.one = true:=rfl
structure Zr where
 Cell:Int
 Dir:Int
 deriving DecidableEq,Inhabited
abbrev Zf:Enc Zr:=⟨2,fun x=>[.i .i64 x.Cell,.i .i64 x.Dir],fun _=>rfl⟩
theorem Zf.one (x:Zr):(Zf.c x).all V.one = true:=rfl
theorem Zf.same (x y:Zr):Zav [.i,.i] (Zf.c x) (Zf.c y) = some (decide (x = y)):=by
 obtain ⟨x1,x2⟩:=x
 obtain ⟨y1,y2⟩:=y
 refine (ZfE (ZfE ZgF)).trans ?_
 congr 1
 rw [Bool.eq_iff_iff]
 simp [and_assoc]
abbrev e_bool:Enc Bool:=⟨1,fun x=>[.b x],fun _=>rfl⟩
theorem e_bool.one (x:Bool):(e_bool.c x).all V.one = true:=rfl
abbrev Zbl:Enc (A4 Int):=⟨4,fun x=>[.i .i64 x.a,.i .i64 x.b,.i .i64 x.c,.i .i64 x.d],fun _=>rfl⟩
theorem Zbl.one (x:A4 Int):(Zbl.c x).all V.one = true:=rfl
structure ZQ where
 cells:List Za
 deriving DecidableEq,Inhabited
structure Zu where
 Cell:Int
 Dir:Int
 deriving DecidableEq,Inhabited
abbrev Zm:Enc Zu:=⟨2,fun x=>[.i .i64 x.Cell,.i .i64 x.Dir],fun _=>rfl⟩
theorem Zm.one (x:Zu):(Zm.c x).all V.one = true:=rfl
def ZhH (x:Int):Prop:=Wf .u8 x
def ZjP (x:Int):Prop:=Wf .i8 x
/-! muntin/muntinref10.New -/
def zw.s1 (v:Int):(List Za) × Int→Option (((List Za) × Int) ⊕ (List Za)):=fun (l2,d) =>
 if decide (d < 4) then
  ck ((0:Int)≤v∧v < (l2.length:Int)) <|
  ck ((0:Int)≤d∧d < 4) <|
  ck (Zaw (d + 1)) <|
  some (.inl (l2.set v.toNat ({ gi l2 v.toNat with Next:=((gi l2 v.toNat).Next).set d (-1) }),d + 1))
 else
  some (.inr l2)

def zw.s0 (n:Int):(List Za) × Int→Option (((List Za) × Int) ⊕ (List Za)):=fun (l,v) =>
 if decide (v < n) then
  (ze (zw.s1 v) big (l,0)).bind fun l3 =>
  ck (Zaw (v + 1)) <|
  some (.inl (l3,v + 1))
 else
  some (.inr l)

def zw (n:Int):Option (List Za) :=
 ck ((0:Int)≤n∧n≤1000000000) <|
 (ze (zw.s0 n) big (List.replicate n.toNat (⟨⟨0,0,0,0⟩,⟨0,0,0,0⟩⟩:Za),0)).bind fun l1 =>
 some l1

/-! muntin/muntinref10.Nearest -/
def ZX.s0 (at_:List Zv) (i:Int) (d:Int):Int × Int→Option ((Int × Int) ⊕ Int):=fun (best,k_) =>
 if decide (k_ < (at_.length:Int)) then
  (if decide (d = 0) then
   ck ((0:Int)≤k_∧k_ < (at_.length:Int)) <|
   ck ((0:Int)≤i∧i < (at_.length:Int)) <|
   some (decide ((gi at_ k_.toNat).Y = (gi at_ i.toNat).Y))
  else
   some false).bind fun t =>
  (if t then
   ck ((0:Int)≤k_∧k_ < (at_.length:Int)) <|
   ck ((0:Int)≤i∧i < (at_.length:Int)) <|
   some (decide (((gi at_ i.toNat).X) < ((gi at_ k_.toNat).X)))
  else
   some false).bind fun t1 =>
  (if t1 then
   (if decide (best < 0) then
    some true
   else
    ck ((0:Int)≤k_∧k_ < (at_.length:Int)) <|
    ck ((0:Int)≤best∧best < (at_.length:Int)) <|
    some (decide (((gi at_ k_.toNat).X) < ((gi at_ best.toNat).X)))).bind fun t3 =>
   some t3
  else
   some false).bind fun t2 =>
  (
   if t2 then
    some k_
   else
    some best).bind fun best2 =>
  (if decide (d = 1) then
   ck ((0:Int)≤k_∧k_ < (at_.length:Int)) <|
   ck ((0:Int)≤i∧i < (at_.length:Int)) <|
   some (decide ((gi at_ k_.toNat).X = (gi at_ i.toNat).X))
  else
   some false).bind fun t4 =>
  (if t4 then
   ck ((0:Int)≤k_∧k_ < (at_.length:Int)) <|
   ck ((0:Int)≤i∧i < (at_.length:Int)) <|
   some (decide (((gi at_ i.toNat).Y) < ((gi at_ k_.toNat).Y)))
  else
   some false).bind fun t5 =>
  (if t5 then
   (if decide (best2 < 0) then
    some true
   else
    ck ((0:Int)≤k_∧k_ < (at_.length:Int)) <|
    ck ((0:Int)≤best2∧best2 < (at_.length:Int)) <|
    some (decide (((gi at_ k_.toNat).Y) < ((gi at_ best2.toNat).Y)))).bind fun t7 =>
   some t7
  else
   some false).bind fun t6 =>
  if t6 then
   ck (Zaw (k_ + 1)) <|
   some (.inl (k_,k_ + 1))
  else
   ck (Zaw (k_ + 1)) <|
   some (.inl (best2,k_ + 1))
 else
  some (.inr best)

def ZX (at_:List Zv) (i:Int) (d:Int):Option Int :=
 (ze (ZX.s0 at_ i d) big ((-1),0)).bind fun best1 =>
 some best1

/-! muntin/muntinref10.Crossed -/
def ZW.s1 (at_:List Zv) (l:List Za) (i:Int) (w:Int) (a:Int):Int→Option (Int ⊕ (Unit ⊕ Unit)):=fun d =>
 if decide (d < 2) then
  ck ((0:Int)≤a∧a < (l.length:Int)) <|
  ck ((0:Int)≤d∧d < 4) <|
  if decide ((((gi l a.toNat).Next).get d) < 0) then
   ck (Zaw (d + 1)) <|
   some (.inl (d + 1))
  else
   ck ((0:Int)≤a∧a < (at_.length:Int)) <|
   ck ((0:Int)≤(((gi l a.toNat).Next).get d)∧(((gi l a.toNat).Next).get d) < (at_.length:Int)) <|
   (if decide ((gi at_ a.toNat).Y = (gi at_ (((gi l a.toNat).Next).get d:Int).toNat).Y) then
    ck ((0:Int)≤i∧i < (at_.length:Int)) <|
    ck ((0:Int)≤w∧w < (at_.length:Int)) <|
    some (decide ((gi at_ i.toNat).X = (gi at_ w.toNat).X))
   else
    some false).bind fun t =>
   (if t then
    ck ((0:Int)≤i∧i < (at_.length:Int)) <|
    some (decide (((gi at_ a.toNat).X) < ((gi at_ i.toNat).X)))
   else
    some false).bind fun t1 =>
   (if t1 then
    ck ((0:Int)≤i∧i < (at_.length:Int)) <|
    some (decide (((gi at_ i.toNat).X) < ((gi at_ (((gi l a.toNat).Next).get d:Int).toNat).X)))
   else
    some false).bind fun t2 =>
   (if t2 then
    ck ((0:Int)≤i∧i < (at_.length:Int)) <|
    some (decide (((gi at_ i.toNat).Y) < ((gi at_ a.toNat).Y)))
   else
    some false).bind fun t3 =>
   (if t3 then
    ck ((0:Int)≤w∧w < (at_.length:Int)) <|
    some (decide (((gi at_ a.toNat).Y) < ((gi at_ w.toNat).Y)))
   else
    some false).bind fun t4 =>
   if t4 then
    some (.inr (.inr ()))
   else
    (if decide ((gi at_ a.toNat).X = (gi at_ (((gi l a.toNat).Next).get d:Int).toNat).X) then
     ck ((0:Int)≤i∧i < (at_.length:Int)) <|
     ck ((0:Int)≤w∧w < (at_.length:Int)) <|
     some (decide ((gi at_ i.toNat).Y = (gi at_ w.toNat).Y))
    else
     some false).bind fun t5 =>
    (if t5 then
     ck ((0:Int)≤i∧i < (at_.length:Int)) <|
     some (decide (((gi at_ i.toNat).X) < ((gi at_ a.toNat).X)))
    else
     some false).bind fun t6 =>
    (if t6 then
     ck ((0:Int)≤w∧w < (at_.length:Int)) <|
     some (decide (((gi at_ a.toNat).X) < ((gi at_ w.toNat).X)))
    else
     some false).bind fun t7 =>
    (if t7 then
     ck ((0:Int)≤i∧i < (at_.length:Int)) <|
     some (decide (((gi at_ a.toNat).Y) < ((gi at_ i.toNat).Y)))
    else
     some false).bind fun t8 =>
    (if t8 then
     ck ((0:Int)≤i∧i < (at_.length:Int)) <|
     some (decide (((gi at_ i.toNat).Y) < ((gi at_ (((gi l a.toNat).Next).get d:Int).toNat).Y)))
    else
     some false).bind fun t9 =>
    if t9 then
     some (.inr (.inr ()))
    else
     ck (Zaw (d + 1)) <|
     some (.inl (d + 1))
 else
  some (.inr (.inl ()))

def ZW.s0 (at_:List Zv) (l:List Za) (i:Int) (w:Int):Int→Option (Int ⊕ (Unit ⊕ Unit)):=fun a =>
 if decide (a < (l.length:Int)) then
  (
   ze (ZW.s1 at_ l i w a) big 0:Option (Unit ⊕ Unit)).bind fun o₃=>match o₃ with
  | .inl _ =>
   ck (Zaw (a + 1)) <|
   some (.inl (a + 1))
  | .inr _ =>
   some (.inr (.inr ()))
 else
  some (.inr (.inl ()))

def ZW (at_:List Zv) (l:List Za) (i:Int) (w:Int):Option Bool :=
 (
  ze (ZW.s0 at_ l i w) big 0:Option (Unit ⊕ Unit)).bind fun o₁=>match o₁ with
 | .inl _ =>
  some false
 | .inr _ =>
  some true

/-! muntin/muntinref10.with -/
def Zaf.s0 (l:List Za) (v:Int) (d:Int) (w:Int) (o:Int):(List Za) × Int→Option (((List Za) × Int) ⊕ (List Za)):=fun (out,i) =>
 if decide (i < (l.length:Int)) then
  ck ((0:Int)≤i∧i < (l.length:Int)) <|
  (
   if decide (i = v) then
    ck ((0:Int)≤d∧d < 4) <|
    some ({ { gi l i.toNat with Next:=((gi l i.toNat).Next).set d w } with Owner:=(({ gi l i.toNat with Next:=((gi l i.toNat).Next).set d w }).Owner).set d o })
   else
    some (gi l i.toNat)).bind fun c =>
  if decide (i = w) then
   ck (Zaw (d + 2)) <|
   ck ((0:Int)≤((d + 2).tmod 4)∧((d + 2).tmod 4) < 4) <|
   ck (out.length + [{ { c with Next:=c.Next.set ((d + 2).tmod 4) v } with Owner:=(({ c with Next:=c.Next.set ((d + 2).tmod 4) v }).Owner).set ((d + 2).tmod 4) o }].length≤1000000000) <|
   ck (Zaw (i + 1)) <|
   some (.inl (out++[{ { c with Next:=c.Next.set ((d + 2).tmod 4) v } with Owner:=(({ c with Next:=c.Next.set ((d + 2).tmod 4) v }).Owner).set ((d + 2).tmod 4) o }],i + 1))
  else
   ck (out.length + [c].length≤1000000000) <|
   ck (Zaw (i + 1)) <|
   some (.inl (out++[c],i + 1))
 else
  some (.inr out)

def Zaf (l:List Za) (v:Int) (d:Int) (w:Int) (o:Int):Option (List Za) :=
 (ze (Zaf.s0 l v d w o) big (([]:List Za),0)).bind fun out1 =>
 some out1

/-! muntin/muntinref10.Make -/
def ZE.s1 (z:zy) (at_:List Zv) (i:Int):Bool × Int→Option ((Bool × Int) ⊕ ((List Zv) × Bool)):=fun (met,k_) =>
 if decide (k_ < (at_.length:Int)) then
  (if met then
   some true
  else
   ck ((0:Int)≤k_∧k_ < (at_.length:Int)) <|
   some (decide (gi at_ k_.toNat = (⟨(gi z.At i.toNat).tmod 8,((gi z.At i.toNat).tdiv 8).tmod 8⟩:Zv)))).bind fun t =>
  ck (Zaw (k_ + 1)) <|
  some (.inl (t,k_ + 1))
 else
  some (.inr (at_,met))

def ZE.s0 (z:zy) (most:Int):(List Zv) × Int→Option (((List Zv) × Int) ⊕ (List Zv)):=fun (at_,i) =>
 if (decide (i < (z.At.length:Int))) && (decide ((at_.length:Int) < most)) then
  ck ((0:Int)≤i∧i < (z.At.length:Int)) <|
  ck (inK .i64 (gi z.At i.toNat)) <|
  ck ((8:Int)≠0∧Zaw ((gi z.At i.toNat).tdiv 8)) <|
  (ze (ZE.s1 z at_ i) big (false,0)).bind fun (at_2,met1) =>
  if !met1 then
   ck (at_2.length + [(⟨(gi z.At i.toNat).tmod 8,((gi z.At i.toNat).tdiv 8).tmod 8⟩:Zv)].length≤1000000000) <|
   ck (Zaw (i + 1)) <|
   some (.inl (at_2++[(⟨(gi z.At i.toNat).tmod 8,((gi z.At i.toNat).tdiv 8).tmod 8⟩:Zv)],i + 1))
  else
   ck (Zaw (i + 1)) <|
   some (.inl (at_2,i + 1))
 else
  some (.inr at_)

def ZE.s3 (i1:Int) (bits:Int) (at_6:List Zv) (own:Int):(List Za) × Int→Option (((List Za) × Int) ⊕ (List Za)):=fun (l4,d) =>
 if decide (d < 2) then
  (ZX at_6 i1 d).bind fun x1 =>
  ck ((0:Int)≤d) <|
  if (decide (Z2 .u8 (ZA .u8 bits d) 1 = 0)) || (decide (x1 < 0)) then
   ck (Zaw (d + 1)) <|
   some (.inl (l4,d + 1))
  else
   (ZW at_6 l4 i1 x1).bind fun x2 =>
   if !x2 then
    (Zaf l4 i1 d x1 own).bind fun x3 =>
    ck (Zaw (d + 1)) <|
    some (.inl (x3,d + 1))
   else
    ck (Zaw (d + 1)) <|
    some (.inl (l4,d + 1))
 else
  some (.inr l4)

def ZE.s2 (z:zy):(List Zv) × (List Za) × Int→Option (((List Zv) × (List Za) × Int) ⊕ ((List Zv) × (List Za))):=fun (at_3,l,i1) =>
 if decide (i1 < (at_3.length:Int)) then
  (
   if decide (i1 < (z.Bits.length:Int)) then
    ck ((0:Int)≤i1∧i1 < (z.Bits.length:Int)) <|
    some (at_3,l,gi z.Bits i1.toNat)
   else
    some (at_3,l,3)).bind fun (at_5,l2,bits) =>
  (
   if decide (i1 < (z.Own.length:Int)) then
    ck ((0:Int)≤i1∧i1 < (z.Own.length:Int)) <|
    ck (inK .i64 (gi z.Own i1.toNat)) <|
    if decide ((gi z.Own i1.toNat) < (-2)) then
     ck (Zaw (-(gi z.Own i1.toNat))) <|
     some (at_5,l2,-(gi z.Own i1.toNat))
    else
     some (at_5,l2,gi z.Own i1.toNat)
   else
    some (at_5,l2,i1)).bind fun (at_6,l3,own) =>
  (ze (ZE.s3 i1 bits at_6 own) big (l3,0)).bind fun l5 =>
  ck (Zaw (i1 + 1)) <|
  some (.inl (at_6,l5,i1 + 1))
 else
  some (.inr (at_3,l))

def ZE (z:zy) (most:Int):Option ((List Za) × (List Zv)) :=
 (ze (ZE.s0 z most) big (([]:List Zv),0)).bind fun at_1 =>
 (zw (at_1.length:Int)).bind fun x =>
 (ze (ZE.s2 z) big (at_1,x,0)).bind fun (at_4,l1) =>
 some (l1,at_4)

/-! muntin/compass.Good -/
def ZaA (d:Int):Option Bool :=
 some ((decide (0≤d)) && (decide (d≤3)))

/-! muntin/compass.Left -/
def ZaB (d:Int) (times:Int):Option Int :=
 (ZaA d).bind fun x =>
 if !x then
  some 0
 else
  ck (Zaw (d + (times.tmod 4))) <|
  ck (Zaw ((d + (times.tmod 4)) + 4)) <|
  some (((d + (times.tmod 4)) + 4).tmod 4)

/-! muntin/grid.side -/
def ZcI (cells:List Za) (v:Int) (d:Int):Option Int :=
 ck ((0:Int)≤v∧v < (cells.length:Int)) <|
 ck ((0:Int)≤d∧d < 4) <|
 if decide (((gi cells v.toNat).Next).get d = (-1)) then
  if !(decide (((gi cells v.toNat).Owner).get d = 0)) then
   some 9
  else
   some 0
 else
  if ((decide ((((gi cells v.toNat).Next).get d) < 0)) || (decide ((cells.length:Int)≤(((gi cells v.toNat).Next).get d)))) || (decide (((gi cells v.toNat).Next).get d = v)) then
   some 3
  else
   (ZaB d 2).bind fun x =>
   ck ((0:Int)≤(((gi cells v.toNat).Next).get d)∧(((gi cells v.toNat).Next).get d) < (cells.length:Int)) <|
   ck ((0:Int)≤x∧x < 4) <|
   if ((!(decide (((gi cells (((gi cells v.toNat).Next).get d:Int).toNat).Next).get x = v))) || (!(decide (((gi cells (((gi cells v.toNat).Next).get d:Int).toNat).Owner).get x = ((gi cells v.toNat).Owner).get d)))) || (decide ((((gi cells v.toNat).Owner).get d) < (-2))) then
    some 9
   else
    some 0

/-! muntin/grid.Check -/
def zE.s1 (cells:List Za) (x:Int):Int→Option (Int ⊕ (Unit ⊕ Int)):=fun x2 =>
 if decide (x2 < 4) then
  (ZcI cells x x2).bind fun x4 =>
  if !(decide (x4 = 0)) then
   some (.inr (.inr x4))
  else
   ck (Zaw (x2 + 1)) <|
   some (.inl (x2 + 1))
 else
  some (.inr (.inl ()))

def zE.s0 (cells:List Za):Int→Option (Int ⊕ (Unit ⊕ Int)):=fun x =>
 if decide (x < (cells.length:Int)) then
  (
   ze (zE.s1 cells x) big 0:Option (Unit ⊕ Int)).bind fun o₃=>match o₃ with
  | .inl _ =>
   ck (Zaw (x + 1)) <|
   some (.inl (x + 1))
  | .inr x3 =>
   some (.inr (.inr x3))
 else
  some (.inr (.inl ()))

def zE (cells:List Za):Option Int :=
 if decide (4096 < (cells.length:Int)) then
  some 6
 else
  (
   ze (zE.s0 cells) big 0:Option (Unit ⊕ Int)).bind fun o₁=>match o₁ with
  | .inl _ =>
   some 0
  | .inr x1 =>
   some x1

/-! math/bits.Mul64 -/
def Zdu (x:Int) (y:Int):Option (Int × Int) :=
 some (zV .u64 (zV .u64 (ZR .u64 (ZA .u64 x 32) (ZA .u64 y 32)) (ZA .u64 (zV .u64 (ZR .u64 (ZA .u64 x 32) (Z2 .u64 y 4294967295)) (ZA .u64 (ZR .u64 (Z2 .u64 x 4294967295) (Z2 .u64 y 4294967295)) 32)) 32)) (ZA .u64 (zV .u64 (Z2 .u64 (zV .u64 (ZR .u64 (ZA .u64 x 32) (Z2 .u64 y 4294967295)) (ZA .u64 (ZR .u64 (Z2 .u64 x 4294967295) (Z2 .u64 y 4294967295)) 32)) 4294967295) (ZR .u64 (Z2 .u64 x 4294967295) (ZA .u64 y 32))) 32),ZR .u64 x y)

/-! math/bits.Mul -/
def Zdc (x:Int) (y:Int):Option (Int × Int) :=
 (Zdu x y).bind fun (x1,x2) =>
 some (x1,x2)

/-! slices.Repeat[[]int,int] -/
def zW.s0:(List Int) × Int→Option (((List Int) × Int) ⊕ (List Int)):=fun (newslice,n) =>
 if decide (n < (newslice.length:Int)) then
  ck ((0:Int)≤n∧n≤(newslice.length:Int)) <|
  ck (Zaw (n + ((min (newslice.take n.toNat).length (newslice.drop n.toNat).length:Nat):Int))) <|
  some (.inl (newslice.take n.toNat++((newslice.take n.toNat).take (newslice.drop n.toNat).length++(newslice.drop n.toNat).drop (newslice.take n.toNat).length),n + ((min (newslice.take n.toNat).length (newslice.drop n.toNat).length:Nat):Int)))
 else
  some (.inr newslice)

def zW (x:List Int) (count:Int):Option (List Int) :=
 (
  if decide (count < 0) then
   none
  else
   some ()).bind fun _ =>
 ck (inK .u64 (x.length:Int)) <|
 ck (inK .u64 count) <|
 (Zdc (x.length:Int) count).bind fun (x1,x2) =>
 (
  if (decide (0 < x1)) || (decide (9223372036854775807 < x2)) then
   none
  else
   some ()).bind fun _ =>
 ck (inK .i64 x2) <|
 ck ((0:Int)≤x2∧x2≤1000000000) <|
 (ze zW.s0 big (x.take (List.replicate x2.toNat (0:Int)).length++(List.replicate x2.toNat (0:Int)).drop x.length,((min x.length (List.replicate x2.toNat (0:Int)).length:Nat):Int))).bind fun newslice1 =>
 some newslice1

/-! muntin/join.spread -/
def Za1.s1 (cells:List Za) (l:List Int):(List Int) × (List Int) × (List Int) × (List Bool) × Int→Option (((List Int) × (List Int) × (List Int) × (List Bool) × Int) ⊕ ((List Int) × (List Int) × (List Int) × (List Bool))):=fun (from_2,dir2,l1,met1,x2) =>
 if decide (x2 < 4) then
  ck ((0:Int)≤(gi l (0:Int).toNat)∧(gi l (0:Int).toNat) < (cells.length:Int)) <|
  ck ((0:Int)≤x2∧x2 < 4) <|
  (if decide (0≤(((gi cells (gi l (0:Int).toNat:Int).toNat).Next).get x2)) then
   ck ((0:Int)≤(((gi cells (gi l (0:Int).toNat:Int).toNat).Next).get x2)∧(((gi cells (gi l (0:Int).toNat:Int).toNat).Next).get x2) < (met1.length:Int)) <|
   some (!(gi met1 (((gi cells (gi l (0:Int).toNat:Int).toNat).Next).get x2:Int).toNat))
  else
   some false).bind fun t =>
  if t then
   ck ((0:Int)≤(((gi cells (gi l (0:Int).toNat:Int).toNat).Next).get x2)∧(((gi cells (gi l (0:Int).toNat:Int).toNat).Next).get x2) < (met1.length:Int)) <|
   ck ((0:Int)≤(((gi cells (gi l (0:Int).toNat:Int).toNat).Next).get x2)∧(((gi cells (gi l (0:Int).toNat:Int).toNat).Next).get x2) < (from_2.length:Int)) <|
   ck ((0:Int)≤(((gi cells (gi l (0:Int).toNat:Int).toNat).Next).get x2)∧(((gi cells (gi l (0:Int).toNat:Int).toNat).Next).get x2) < (dir2.length:Int)) <|
   ck (l1.length + [((gi cells (gi l (0:Int).toNat:Int).toNat).Next).get x2].length≤1000000000) <|
   ck (Zaw (x2 + 1)) <|
   some (.inl (from_2.set (((gi cells (gi l (0:Int).toNat:Int).toNat).Next).get x2:Int).toNat (gi l (0:Int).toNat),dir2.set (((gi cells (gi l (0:Int).toNat:Int).toNat).Next).get x2:Int).toNat x2,l1++[((gi cells (gi l (0:Int).toNat:Int).toNat).Next).get x2],met1.set (((gi cells (gi l (0:Int).toNat:Int).toNat).Next).get x2:Int).toNat true,x2 + 1))
  else
   ck (Zaw (x2 + 1)) <|
   some (.inl (from_2,dir2,l1,met1,x2 + 1))
 else
  some (.inr (from_2,dir2,l1,met1))

def Za1.s0 (cells:List Za):(List Int) × (List Int) × (List Int) × (List Bool)→Option (((List Int) × (List Int) × (List Int) × (List Bool)) ⊕ ((List Int) × (List Int))):=fun (from_,dir,l,met) =>
 if decide (0 < (l.length:Int)) then
  ck ((0:Int)≤0∧0 < (l.length:Int)) <|
  ck ((0:Int)≤1∧1≤(l.length:Int)) <|
  (ze (Za1.s1 cells l) big (from_,dir,l.drop (1:Int).toNat,met,0)).bind fun (from_3,dir3,l2,met2) =>
  some (.inl (from_3,dir3,l2,met2))
 else
  some (.inr (from_,dir))

def Za1 (cells:List Za) (v:Int):Option ((List Int) × (List Int)) :=
 (zW ([(-1)]:List Int) (cells.length:Int)).bind fun x =>
 (zW ([(-1)]:List Int) (cells.length:Int)).bind fun x1 =>
 ck ((0:Int)≤(cells.length:Int)∧(cells.length:Int)≤1000000000) <|
 ck ((0:Int)≤v∧v < ((List.replicate ((cells.length:Int):Int).toNat false).length:Int)) <|
 (ze (Za1.s0 cells) big (x,x1,[v],(List.replicate ((cells.length:Int):Int).toNat false).set v.toNat true)).bind fun (from_1,dir1) =>
 some (from_1,dir1)

/-! muntin/join.Parts -/
def Za3.s1 (cells:List Za) (x1:Int) (x3:List Int):(List Bool) × (List Int) × Int→Option (((List Bool) × (List Int) × Int) ⊕ ((List Bool) × (List Int))):=fun (met1,part,x4) =>
 if decide (x4 < (cells.length:Int)) then
  (if decide (x4 = x1) then
   some true
  else
   ck ((0:Int)≤x4∧x4 < (x3.length:Int)) <|
   some (decide (0≤(gi x3 x4.toNat)))).bind fun t =>
  if t then
   ck ((0:Int)≤x4∧x4 < (met1.length:Int)) <|
   ck (part.length + [x4].length≤1000000000) <|
   ck (Zaw (x4 + 1)) <|
   some (.inl (met1.set x4.toNat true,part++[x4],x4 + 1))
  else
   ck (Zaw (x4 + 1)) <|
   some (.inl (met1,part,x4 + 1))
 else
  some (.inr (met1,part))

def Za3.s0 (cells:List Za):(List (List Int)) × (List Bool) × Int→Option (((List (List Int)) × (List Bool) × Int) ⊕ (List (List Int))):=fun (l,met,x1) =>
 if decide (x1 < (cells.length:Int)) then
  ck ((0:Int)≤x1∧x1 < (met.length:Int)) <|
  if gi met x1.toNat then
   ck (Zaw (x1 + 1)) <|
   some (.inl (l,met,x1 + 1))
  else
   (Za1 cells x1).bind fun (x2,x3) =>
   (ze (Za3.s1 cells x1 x3) big (met,[],0)).bind fun (met2,part1) =>
   ck (l.length + 1≤1000000000) <|
   ck (Zaw (x1 + 1)) <|
   some (.inl (l++[part1],met2,x1 + 1))
 else
  some (.inr l)

def Za3 (cells:List Za):Option ((List (List Int)) × Int) :=
 (zE cells).bind fun x =>
 if !(decide (x = 0)) then
  some (([]:List (List Int)),x)
 else
  ck ((0:Int)≤(cells.length:Int)∧(cells.length:Int)≤1000000000) <|
  (ze (Za3.s0 cells) big (([]:List (List Int)),List.replicate ((cells.length:Int):Int).toNat false,0)).bind fun l1 =>
  some (l1,0)

/-! muntin/join.Whole -/
def Zc1 (cells:List Za):Option Bool :=
 (Za3 cells).bind fun (x,x1) =>
 some ((decide (x1 = 0)) && (decide ((x.length:Int) = 1)))

/-! (muntin/face.Dart).is -/
def Zbe (d:Zr) (cells:List Za):Option Bool :=
 if decide (0≤d.Cell) then
  if decide (d.Cell < (cells.length:Int)) then
   (ZaA d.Dir).bind fun x =>
   if x then
    ck ((0:Int)≤d.Cell∧d.Cell < (cells.length:Int)) <|
    ck ((0:Int)≤d.Dir∧d.Dir < 4) <|
    some (decide (0≤(((gi cells (d.Cell:Int).toNat).Next).get d.Dir)))
   else
    some false
  else
   some false
 else
  some false

/-! (muntin/face.Dart).behind -/
def zT.s0 (d:Zr) (cells:List Za):Int→Option (Int ⊕ (Unit ⊕ Zr)):=fun x =>
 if decide (x < 4) then
  ck ((0:Int)≤x∧x < 4) <|
  (ZaB d.Dir ((⟨1,0,(-1),2⟩:A4 Int).get x)).bind fun x2 =>
  (Zbe (⟨((gi cells (d.Cell:Int).toNat).Next).get d.Dir,x2⟩:Zr) cells).bind fun x3 =>
  if x3 then
   some (.inr (.inr (⟨((gi cells (d.Cell:Int).toNat).Next).get d.Dir,x2⟩:Zr)))
  else
   ck (Zaw (x + 1)) <|
   some (.inl (x + 1))
 else
  some (.inr (.inl ()))

def zT (d:Zr) (cells:List Za):Option Zr :=
 ck ((0:Int)≤d.Cell∧d.Cell < (cells.length:Int)) <|
 ck ((0:Int)≤d.Dir∧d.Dir < 4) <|
 (
  ze (zT.s0 d cells) big 0:Option (Unit ⊕ Zr)).bind fun o₁=>match o₁ with
 | .inl _ =>
  some d
 | .inr x1 =>
  some x1

/-! muntin/face.Faces -/
def zx.s2 (cells:List Za):(List (Zr × Bool)) × (List Zr) × Zr→Option (((List (Zr × Bool)) × (List Zr) × Zr) ⊕ ((List (Zr × Bool)) × (List Zr))):=fun (met3,f,x4) =>
 if !(Zdt false x4 met3) then
  ck (f.length + [x4].length≤1000000000) <|
  (zT x4 cells).bind fun x5 =>
  some (.inl (Ze3 x4 true met3,f++[x4],x5))
 else
  some (.inr (met3,f))

def zx.s1 (cells:List Za) (x1:Int):(List (List Zr)) × (List (Zr × Bool)) × Int→Option (((List (List Zr)) × (List (Zr × Bool)) × Int) ⊕ ((List (List Zr)) × (List (Zr × Bool)))):=fun (l2,met1,x2) =>
 if decide (x2 < 4) then
  (Zbe (⟨x1,x2⟩:Zr) cells).bind fun x3 =>
  if (!x3) || (Zdt false (⟨x1,x2⟩:Zr) met1) then
   ck (Zaw (x2 + 1)) <|
   some (.inl (l2,met1,x2 + 1))
  else
   (ze (zx.s2 cells) big (met1,([]:List Zr),(⟨x1,x2⟩:Zr))).bind fun (met4,f1) =>
   ck (l2.length + 1≤1000000000) <|
   ck (Zaw (x2 + 1)) <|
   some (.inl (l2++[f1],met4,x2 + 1))
 else
  some (.inr (l2,met1))

def zx.s0 (cells:List Za):(List (List Zr)) × (List (Zr × Bool)) × Int→Option (((List (List Zr)) × (List (Zr × Bool)) × Int) ⊕ (List (List Zr))):=fun (l,met,x1) =>
 if decide (x1 < (cells.length:Int)) then
  (ze (zx.s1 cells x1) big (l,met,0)).bind fun (l3,met2) =>
  ck (Zaw (x1 + 1)) <|
  some (.inl (l3,met2,x1 + 1))
 else
  some (.inr l)

def zx (cells:List Za):Option ((List (List Zr)) × Int) :=
 (zE cells).bind fun x =>
 if !(decide (x = 0)) then
  some (([]:List (List Zr)),x)
 else
  (ze (zx.s0 cells) big (([]:List (List Zr)),([]:List (Zr × Bool)),0)).bind fun l1 =>
  some (l1,0)

/-! muntin/compass.Turn -/
def Zcg (d:Int) (e_:Int):Option Int :=
 (ZaA d).bind fun x =>
 (if !x then
  some true
 else
  (ZaA e_).bind fun x1 =>
  some (!x1)).bind fun t =>
 if t then
  some 0
 else
  ck (Zaw (e_ - d)) <|
  ck (Zaw ((e_ - d) + 4)) <|
  ck ((0:Int)≤(((e_ - d) + 4).tmod 4)∧(((e_ - d) + 4).tmod 4) < 4) <|
  some ((⟨0,1,(-2),(-1)⟩:A4 Int).get (((e_ - d) + 4).tmod 4))

/-! muntin/face.Turns -/
def Za2.s0 (cells:List Za) (f:List Zr):(List Int) × Int→Option (((List Int) × Int) ⊕ (List Int)):=fun (l,x1) =>
 if decide (x1 < (f.length:Int)) then
  ck ((0:Int)≤x1∧x1 < (f.length:Int)) <|
  (Zbe (gi f x1.toNat) cells).bind fun x2 =>
  if x2 then
   (zT (gi f x1.toNat) cells).bind fun x3 =>
   (Zcg ((gi f x1.toNat).Dir) x3.Dir).bind fun x4 =>
   ck ((0:Int)≤x1∧x1 < (l.length:Int)) <|
   ck (Zaw (x1 + 1)) <|
   some (.inl (l.set x1.toNat x4,x1 + 1))
  else
   ck (Zaw (x1 + 1)) <|
   some (.inl (l,x1 + 1))
 else
  some (.inr l)

def Za2 (cells:List Za) (f:List Zr):Option (List Int) :=
 ck ((0:Int)≤(f.length:Int)∧(f.length:Int)≤1000000000) <|
 (zE cells).bind fun x =>
 if !(decide (x = 0)) then
  some (List.replicate ((f.length:Int):Int).toNat (0:Int))
 else
  (ze (Za2.s0 cells f) big (List.replicate ((f.length:Int):Int).toNat (0:Int),0)).bind fun l1 =>
  some l1

/-! muntin/face.Rotation -/
def ZaQ.s0 (turns:List Int):Int × Int→Option ((Int × Int) ⊕ Int):=fun (n,x) =>
 if decide (x < (turns.length:Int)) then
  ck ((0:Int)≤x∧x < (turns.length:Int)) <|
  if (decide ((-2)≤(gi turns x.toNat))) && (decide ((gi turns x.toNat)≤1)) then
   ck (Zaw (n + (gi turns x.toNat))) <|
   ck (Zaw (x + 1)) <|
   some (.inl (n + (gi turns x.toNat),x + 1))
  else
   ck (Zaw (x + 1)) <|
   some (.inl (n,x + 1))
 else
  some (.inr n)

def ZaQ (turns:List Int):Option Int :=
 (ze (ZaQ.s0 turns) big (0,0)).bind fun n1 =>
 some n1

/-! muntin/valid.outer -/
def ZaM.s0 (cells:List Za) (x:List (List Zr)):Int × Int→Option ((Int × Int) ⊕ (Int ⊕ Unit)):=fun (at_,x2) =>
 if decide (x2 < (x.length:Int)) then
  ck ((0:Int)≤x2∧x2 < (x.length:Int)) <|
  (Za2 cells (gi x x2.toNat)).bind fun x3 =>
  (ZaQ x3).bind fun x4 =>
  if decide (x4 = 4) then
   ck (Zaw (x2 + 1)) <|
   some (.inl (at_,x2 + 1))
  else
   if decide (x4 = (-4)) then
    if decide (0≤at_) then
     some (.inr (.inr ()))
    else
     ck (Zaw (x2 + 1)) <|
     some (.inl (x2,x2 + 1))
   else
    some (.inr (.inr ()))
 else
  some (.inr (.inl at_))

def ZaM (cells:List Za):Option (Int × Bool) :=
 (zx cells).bind fun (x,x1) =>
 (
  ze (ZaM.s0 cells x) big ((-1),0):Option (Int ⊕ Unit)).bind fun o₁=>match o₁ with
 | .inl at_1 =>
  some (at_1,decide (0≤at_1))
 | .inr _ =>
  some (0,false)

/-! muntin/valid.Check -/
def ZbT (cells:List Za):Option Int :=
 (zE cells).bind fun x =>
 if !(decide (x = 0)) then
  some x
 else
  (Zc1 cells).bind fun x1 =>
  if !x1 then
   some 13
  else
   (ZaM cells).bind fun (x2,x3) =>
   if (!x3) && (decide (1 < (cells.length:Int))) then
    some 10
   else
    some 0

/-! muntin/valid.Outer -/
def ZbU (cells:List Za):Option (Int × Int) :=
 (ZbT cells).bind fun x =>
 if !(decide (x = 0)) then
  some (0,x)
 else
  (ZaM cells).bind fun (x1,x2) =>
  if !x2 then
   some (0,2)
  else
   some (x1,0)

/-! slices.IndexFunc[[]int,int] -/
def zg.s0 (s:List Int) (f:Int→Option Bool):Int→Option (Int ⊕ (Unit ⊕ Int)):=fun x =>
 if decide (x < (s.length:Int)) then
  ck ((0:Int)≤x∧x < (s.length:Int)) <|
  (f (gi s x.toNat)).bind fun x2 =>
  if x2 then
   some (.inr (.inr x))
  else
   ck (Zaw (x + 1)) <|
   some (.inl (x + 1))
 else
  some (.inr (.inl ()))

def zg (s:List Int) (f:Int→Option Bool):Option Int :=
 (
  ze (zg.s0 s f) big 0:Option (Unit ⊕ Int)).bind fun o₁=>match o₁ with
 | .inl _ =>
  some (-1)
 | .inr x1 =>
  some x1

/-! slices.ContainsFunc[[]int,int] -/
def ZaW (s:List Int) (f:Int→Option Bool):Option Bool :=
 (zg s f).bind fun x =>
 some (decide (0≤x))

/-! muntin/front.right$1 -/
def Zck (t:Int):Option Bool :=
 some ((decide (t < (-2))) || (decide (1 < t)))

/-! muntin/front.right -/
def ZbS (turns:List Int):Option Bool :=
 (ZaW turns (fun y0=>Zck y0)).bind fun x =>
 some (!x)

/-! muntin/front.Of -/
def ZaT.s0 (turns:List Int) (i:Int):Int × Int→Option ((Int × Int) ⊕ (Unit ⊕ Int)):=fun (sum,x1) =>
 if decide (x1 < (turns.length:Int)) then
  ck (Zaw (i + x1)) <|
  ck (((turns.length:Int):Int)≠0) <|
  ck ((0:Int)≤((i + x1).tmod (turns.length:Int))∧((i + x1).tmod (turns.length:Int)) < (turns.length:Int)) <|
  ck (Zaw (sum + (gi turns ((i + x1).tmod (turns.length:Int):Int).toNat))) <|
  if decide (sum + (gi turns ((i + x1).tmod (turns.length:Int):Int).toNat) = 1) then
   ck (Zaw (((i + x1).tmod (turns.length:Int)) + 1)) <|
   some (.inr (.inr ((((i + x1).tmod (turns.length:Int)) + 1).tmod (turns.length:Int))))
  else
   ck (Zaw (x1 + 1)) <|
   some (.inl (sum + (gi turns ((i + x1).tmod (turns.length:Int):Int).toNat),x1 + 1))
 else
  some (.inr (.inl ()))

def ZaT (turns:List Int) (i:Int):Option (Int × Bool) :=
 (ZbS turns).bind fun x =>
 (if ((!x) || (decide (i < 0))) || (decide ((turns.length:Int)≤i)) then
  some true
 else
  ck ((0:Int)≤i∧i < (turns.length:Int)) <|
  some (decide (0≤(gi turns i.toNat)))).bind fun t =>
 if t then
  some (0,false)
 else
  (
   ze (ZaT.s0 turns i) big (0,0):Option (Unit ⊕ Int)).bind fun o₁=>match o₁ with
  | .inl _ =>
   some (0,false)
  | .inr x2 =>
   some (x2,true)

/-! muntin/front.Open -/
def Zby.s0 (turns:List Int):Int→Option (Int ⊕ (Unit ⊕ Int)):=fun x1 =>
 if decide (x1 < (turns.length:Int)) then
  ck ((0:Int)≤x1∧x1 < (turns.length:Int)) <|
  (ZaT turns x1).bind fun (x3,x4) =>
  if (decide ((gi turns x1.toNat) < 0)) && (!x4) then
   some (.inr (.inr x1))
  else
   ck (Zaw (x1 + 1)) <|
   some (.inl (x1 + 1))
 else
  some (.inr (.inl ()))

def Zby (turns:List Int):Option (Int × Bool) :=
 (ZbS turns).bind fun x =>
 if !x then
  some (0,false)
 else
  (
   ze (Zby.s0 turns) big 0:Option (Unit ⊕ Int)).bind fun o₁=>match o₁ with
  | .inl _ =>
   some (0,false)
  | .inr x2 =>
   some (x2,true)

/-! muntin/rect.outside -/
def ZbG (cells:List Za):Option (Zr × Int) :=
 (ZbU cells).bind fun (x,x1) =>
 if !(decide (x1 = 0)) then
  some ((⟨(0:Int),(0:Int)⟩:Zr),x1)
 else
  (zx cells).bind fun (x2,x3) =>
  ck ((0:Int)≤x∧x < (x2.length:Int)) <|
  (Za2 cells (gi x2 x.toNat)).bind fun x4 =>
  (Zby x4).bind fun (x5,x6) =>
  ck ((0:Int)≤x5∧x5 < ((gi x2 x.toNat).length:Int)) <|
  some (gi (gi x2 x.toNat) x5.toNat,0)

/-! slices.Clone[[]muntin/api.Cell,muntin/api.Cell] -/
def zZ (s:List Za):Option (List Za) :=
 ck (s.length≤1000000000) <|
 some s
/-! muntin/grid.Of -/
def ZdE (cells:List Za):Option ((Option ZQ) × Int) :=
 (zE cells).bind fun x =>
 if !(decide (x = 0)) then
  some (none,x)
 else
  (zZ cells).bind fun x1 =>
  some (some (⟨x1⟩:ZQ),0)

/-! (*muntin/grid.Grid).Len -/
def Za8 (g:ZQ):Option Int :=
 some (g.cells.length:Int)

/-! (*muntin/grid.Grid).is -/
def ZaU (g:ZQ) (v:Int) (d:Int):Option Bool :=
 (if decide (0≤v) then
  (Za8 g).bind fun x =>
  some (decide (v < x))
 else
  some false).bind fun t =>
 (if t then
  (ZaA d).bind fun x1 =>
  some x1
 else
  some false).bind fun t1 =>
 some t1

/-! (*muntin/grid.Grid).Next -/
def Za6 (g:ZQ) (v:Int) (d:Int):Option (Int × Int × Bool) :=
 (ZaU g v d).bind fun x =>
 (if !x then
  some true
 else
  ck ((0:Int)≤v∧v < (g.cells.length:Int)) <|
  ck ((0:Int)≤d∧d < 4) <|
  some (decide (((gi g.cells v.toNat).Next).get d = (-1)))).bind fun t =>
 if t then
  some (0,0,false)
 else
  ck ((0:Int)≤v∧v < (g.cells.length:Int)) <|
  ck ((0:Int)≤d∧d < 4) <|
  some (((gi g.cells v.toNat).Next).get d,((gi g.cells v.toNat).Owner).get d,true)

/-! muntin/grid.empty -/
def ZcN:Option Za :=
 some (⟨(⟨(-1),(-1),(-1),(-1)⟩:A4 Int),(⟨0,0,0,0⟩:A4 Int)⟩:Za)

/-! (*muntin/grid.Grid).Add -/
def Zbz (g:ZQ):Option (Int × Int × ZQ) :=
 (Za8 g).bind fun x =>
 if decide (x = 4096) then
  some (0,6,g)
 else
  (ZcN ).bind fun x1 =>
  ck (g.cells.length + [x1].length≤1000000000) <|
  (Za8 (⟨g.cells++[x1]⟩:ZQ)).bind fun x2 =>
  ck (Zaw (x2 - 1)) <|
  some (x2 - 1,0,(⟨g.cells++[x1]⟩:ZQ))

/-! (*muntin/grid.Grid).lay -/
def Zbf (g:ZQ) (v:Int) (d:Int) (w:Int) (owner:Int):Option ZQ :=
 (ZaB d 2).bind fun x =>
 ck ((0:Int)≤v∧v < (g.cells.length:Int)) <|
 ck ((0:Int)≤d∧d < 4) <|
 ck ((0:Int)≤v∧v < ((g.cells.set v.toNat ({ gi g.cells v.toNat with Next:=((gi g.cells v.toNat).Next).set d w })).length:Int)) <|
 ck ((0:Int)≤w∧w < (((g.cells.set v.toNat ({ gi g.cells v.toNat with Next:=((gi g.cells v.toNat).Next).set d w })).set v.toNat ({ gi (g.cells.set v.toNat ({ gi g.cells v.toNat with Next:=((gi g.cells v.toNat).Next).set d w })) v.toNat with Owner:=((gi (g.cells.set v.toNat ({ gi g.cells v.toNat with Next:=((gi g.cells v.toNat).Next).set d w })) v.toNat).Owner).set d owner })).length:Int)) <|
 ck ((0:Int)≤x∧x < 4) <|
 ck ((0:Int)≤w∧w < ((((g.cells.set v.toNat ({ gi g.cells v.toNat with Next:=((gi g.cells v.toNat).Next).set d w })).set v.toNat ({ gi (g.cells.set v.toNat ({ gi g.cells v.toNat with Next:=((gi g.cells v.toNat).Next).set d w })) v.toNat with Owner:=((gi (g.cells.set v.toNat ({ gi g.cells v.toNat with Next:=((gi g.cells v.toNat).Next).set d w })) v.toNat).Owner).set d owner })).set w.toNat ({ gi ((g.cells.set v.toNat ({ gi g.cells v.toNat with Next:=((gi g.cells v.toNat).Next).set d w })).set v.toNat ({ gi (g.cells.set v.toNat ({ gi g.cells v.toNat with Next:=((gi g.cells v.toNat).Next).set d w })) v.toNat with Owner:=((gi (g.cells.set v.toNat ({ gi g.cells v.toNat with Next:=((gi g.cells v.toNat).Next).set d w })) v.toNat).Owner).set d owner })) w.toNat with Next:=((gi ((g.cells.set v.toNat ({ gi g.cells v.toNat with Next:=((gi g.cells v.toNat).Next).set d w })).set v.toNat ({ gi (g.cells.set v.toNat ({ gi g.cells v.toNat with Next:=((gi g.cells v.toNat).Next).set d w })) v.toNat with Owner:=((gi (g.cells.set v.toNat ({ gi g.cells v.toNat with Next:=((gi g.cells v.toNat).Next).set d w })) v.toNat).Owner).set d owner })) w.toNat).Next).set x v })).length:Int)) <|
 some (⟨(((g.cells.set v.toNat ({ gi g.cells v.toNat with Next:=((gi g.cells v.toNat).Next).set d w })).set v.toNat ({ gi (g.cells.set v.toNat ({ gi g.cells v.toNat with Next:=((gi g.cells v.toNat).Next).set d w })) v.toNat with Owner:=((gi (g.cells.set v.toNat ({ gi g.cells v.toNat with Next:=((gi g.cells v.toNat).Next).set d w })) v.toNat).Owner).set d owner })).set w.toNat ({ gi ((g.cells.set v.toNat ({ gi g.cells v.toNat with Next:=((gi g.cells v.toNat).Next).set d w })).set v.toNat ({ gi (g.cells.set v.toNat ({ gi g.cells v.toNat with Next:=((gi g.cells v.toNat).Next).set d w })) v.toNat with Owner:=((gi (g.cells.set v.toNat ({ gi g.cells v.toNat with Next:=((gi g.cells v.toNat).Next).set d w })) v.toNat).Owner).set d owner })) w.toNat with Next:=((gi ((g.cells.set v.toNat ({ gi g.cells v.toNat with Next:=((gi g.cells v.toNat).Next).set d w })).set v.toNat ({ gi (g.cells.set v.toNat ({ gi g.cells v.toNat with Next:=((gi g.cells v.toNat).Next).set d w })) v.toNat with Owner:=((gi (g.cells.set v.toNat ({ gi g.cells v.toNat with Next:=((gi g.cells v.toNat).Next).set d w })) v.toNat).Owner).set d owner })) w.toNat).Next).set x v })).set w.toNat ({ gi (((g.cells.set v.toNat ({ gi g.cells v.toNat with Next:=((gi g.cells v.toNat).Next).set d w })).set v.toNat ({ gi (g.cells.set v.toNat ({ gi g.cells v.toNat with Next:=((gi g.cells v.toNat).Next).set d w })) v.toNat with Owner:=((gi (g.cells.set v.toNat ({ gi g.cells v.toNat with Next:=((gi g.cells v.toNat).Next).set d w })) v.toNat).Owner).set d owner })).set w.toNat ({ gi ((g.cells.set v.toNat ({ gi g.cells v.toNat with Next:=((gi g.cells v.toNat).Next).set d w })).set v.toNat ({ gi (g.cells.set v.toNat ({ gi g.cells v.toNat with Next:=((gi g.cells v.toNat).Next).set d w })) v.toNat with Owner:=((gi (g.cells.set v.toNat ({ gi g.cells v.toNat with Next:=((gi g.cells v.toNat).Next).set d w })) v.toNat).Owner).set d owner })) w.toNat with Next:=((gi ((g.cells.set v.toNat ({ gi g.cells v.toNat with Next:=((gi g.cells v.toNat).Next).set d w })).set v.toNat ({ gi (g.cells.set v.toNat ({ gi g.cells v.toNat with Next:=((gi g.cells v.toNat).Next).set d w })) v.toNat with Owner:=((gi (g.cells.set v.toNat ({ gi g.cells v.toNat with Next:=((gi g.cells v.toNat).Next).set d w })) v.toNat).Owner).set d owner })) w.toNat).Next).set x v })) w.toNat with Owner:=((gi (((g.cells.set v.toNat ({ gi g.cells v.toNat with Next:=((gi g.cells v.toNat).Next).set d w })).set v.toNat ({ gi (g.cells.set v.toNat ({ gi g.cells v.toNat with Next:=((gi g.cells v.toNat).Next).set d w })) v.toNat with Owner:=((gi (g.cells.set v.toNat ({ gi g.cells v.toNat with Next:=((gi g.cells v.toNat).Next).set d w })) v.toNat).Owner).set d owner })).set w.toNat ({ gi ((g.cells.set v.toNat ({ gi g.cells v.toNat with Next:=((gi g.cells v.toNat).Next).set d w })).set v.toNat ({ gi (g.cells.set v.toNat ({ gi g.cells v.toNat with Next:=((gi g.cells v.toNat).Next).set d w })) v.toNat with Owner:=((gi (g.cells.set v.toNat ({ gi g.cells v.toNat with Next:=((gi g.cells v.toNat).Next).set d w })) v.toNat).Owner).set d owner })) w.toNat with Next:=((gi ((g.cells.set v.toNat ({ gi g.cells v.toNat with Next:=((gi g.cells v.toNat).Next).set d w })).set v.toNat ({ gi (g.cells.set v.toNat ({ gi g.cells v.toNat with Next:=((gi g.cells v.toNat).Next).set d w })) v.toNat with Owner:=((gi (g.cells.set v.toNat ({ gi g.cells v.toNat with Next:=((gi g.cells v.toNat).Next).set d w })) v.toNat).Owner).set d owner })) w.toNat).Next).set x v })) w.toNat).Owner).set x owner })⟩:ZQ)

/-! (*muntin/grid.Grid).Join -/
def zM (g:ZQ) (v:Int) (d:Int) (w:Int) (owner:Int):Option (Int × ZQ) :=
 (ZaU g v d).bind fun x =>
 (if !x then
  some true
 else
  (ZaU g w d).bind fun x1 =>
  some (!x1)).bind fun t =>
 if (t || (decide (v = w))) || (decide (owner < (-2))) then
  some (2,g)
 else
  (
   ck ((0:Int)≤v∧v < (g.cells.length:Int)) <|
   ck ((0:Int)≤d∧d < 4) <|
   if !(decide (((gi g.cells v.toNat).Next).get d = (-1))) then
    some true
   else
    (ZaB d 2).bind fun x3 =>
    ck ((0:Int)≤w∧w < (g.cells.length:Int)) <|
    ck ((0:Int)≤x3∧x3 < 4) <|
    some (!(decide (((gi g.cells w.toNat).Next).get x3 = (-1))))).bind fun x2 =>
  if x2 then
   some (9,g)
  else
   (Zbf g v d w owner).bind fun m =>
   some (0,m)

/-! muntin/rect.frame -/
def Za4.s0:(List Za) × Int→Option (((List Za) × Int) ⊕ (List Za)):=fun (g1,x4) =>
 if decide (x4 < 5) then
  (Zbz (⟨g1⟩:ZQ)).bind fun (x5,x6,m) =>
  ck (Zaw (x4 + 1)) <|
  some (.inl (m.cells,x4 + 1))
 else
  some (.inr g1)

def Za4.s1 (d:Zr) (x3:Int):(List Za) × Int→Option (((List Za) × Int) ⊕ (List Za)):=fun (g3,x7) =>
 if decide (x7 < 4) then
  ck (Zaw (x7 + 3)) <|
  ck (Zaw (x3 + x7)) <|
  ck (Zaw (x7 + 1)) <|
  ck (Zaw (x3 + ((x7 + 1).tmod 4))) <|
  if decide ((x7 + 3).tmod 4 = d.Dir) then
   ck (Zaw (x3 + 4)) <|
   (zM (⟨g3⟩:ZQ) (x3 + x7) x7 (x3 + 4) (-2)).bind fun (x8,m1) =>
   (zM m1 (x3 + 4) x7 (x3 + ((x7 + 1).tmod 4)) (-2)).bind fun (x9,m2) =>
   some (.inl (m2.cells,x7 + 1))
  else
   (zM (⟨g3⟩:ZQ) (x3 + x7) x7 (x3 + ((x7 + 1).tmod 4)) (-2)).bind fun (x10,m3) =>
   some (.inl (m3.cells,x7 + 1))
 else
  some (.inr g3)

def Za4 (g:ZQ) (d:Zr):Option ZQ :=
 (Za6 g d.Cell d.Dir).bind fun (x,x1,x2) =>
 (Za8 g).bind fun x3 =>
 (ze Za4.s0 big (g.cells,0)).bind fun g2 =>
 (ze (Za4.s1 d x3) big (g2,0)).bind fun g4 =>
 ck (Zaw (x3 + 4)) <|
 (zM (⟨g4⟩:ZQ) x d.Dir (x3 + 4) (-2)).bind fun (x11,m4) =>
 some m4

/-! muntin/rect.framed -/
def Zbg (cells:List Za):Option ((Option ZQ) × Int) :=
 (ZbG cells).bind fun (x,x1) =>
 if !(decide (x1 = 0)) then
  some (none,x1)
 else
  ck (Zaw ((cells.length:Int) + 4)) <|
  ck (Zaw (((cells.length:Int) + 4) + 1)) <|
  if decide (4096 < (((cells.length:Int) + 4) + 1)) then
   some (none,6)
  else
   (ZdE cells).bind fun (x2,x3) =>
   (x2).bind fun g =>
   (Za4 g x).bind fun m =>
   some (some m,0)

/-! (*muntin/grid.Grid).Cells -/
def ZaJ (g:ZQ):Option (List Za) :=
 (zZ g.cells).bind fun x =>
 some x

/-! muntin/rect.Frame -/
def Zbm (cells:List Za):Option ((List Za) × Int) :=
 (Zbg cells).bind fun (x,x1) =>
 if !(decide (x1 = 0)) then
  some (([]:List Za),x1)
 else
  (x).bind fun g =>
  (ZaJ g).bind fun x2 =>
  some (x2,0)

/-! muntin/front.First$1 -/
def ZbL (t:Int):Option Bool :=
 some (decide (t < 0))

/-! muntin/front.First -/
def ZaL.s0 (cells:List Za) (x:Int) (x2:List (List Zr)):Int→Option (Int ⊕ (Unit ⊕ (Int × Int))):=fun x4 =>
 if decide (x4 < (x2.length:Int)) then
  ck ((0:Int)≤x4∧x4 < (x2.length:Int)) <|
  (Za2 cells (gi x2 x4.toNat)).bind fun x7 =>
  (zg x7 (fun y0=>ZbL y0)).bind fun x8 =>
  if (!(decide (x4 = x))) && (decide (0≤x8)) then
   some (.inr (.inr (x4,x8)))
  else
   ck (Zaw (x4 + 1)) <|
   some (.inl (x4 + 1))
 else
  some (.inr (.inl ()))

def ZaL (cells:List Za):Option (Int × Int × Bool) :=
 (ZbU cells).bind fun (x,x1) =>
 if !(decide (x1 = 0)) then
  some (0,0,false)
 else
  (zx cells).bind fun (x2,x3) =>
  (
   ze (ZaL.s0 cells x x2) big 0:Option (Unit ⊕ (Int × Int))).bind fun o₁=>match o₁ with
  | .inl _ =>
   some (0,0,false)
  | .inr (x5,x6) =>
   some (x5,x6,true)

/-! (*muntin/grid.Grid).Split -/
def Zbp (g:ZQ) (v:Int) (d:Int):Option (Int × Int × ZQ) :=
 (ZaU g v d).bind fun x =>
 if !x then
  some (0,2,g)
 else
  (Za6 g v d).bind fun (x1,x2,x3) =>
  if !x3 then
   some (0,9,g)
  else
   (Zbz g).bind fun (x4,x5,m) =>
   if !(decide (x5 = 0)) then
    some (0,x5,m)
   else
    (Zbf m v d x4 x2).bind fun m1 =>
    (Zbf m1 x4 d x1 x2).bind fun m2 =>
    some (x4,0,m2)

/-! muntin/rect.cut -/
def ZcJ (g:ZQ):Option (Bool × Int × ZQ) :=
 (ZaJ g).bind fun x =>
 (ZaL x).bind fun (x1,x2,x3) =>
 if !x3 then
  some (false,0,g)
 else
  (zx x).bind fun (x4,x5) =>
  ck ((0:Int)≤x1∧x1 < (x4.length:Int)) <|
  (Za2 x (gi x4 x1.toNat)).bind fun x6 =>
  (ZaT x6 x2).bind fun (x7,x8) =>
  ck ((0:Int)≤x2∧x2 < ((gi x4 x1.toNat).length:Int)) <|
  ck ((0:Int)≤x7∧x7 < ((gi x4 x1.toNat).length:Int)) <|
  (Za6 g ((gi (gi x4 x1.toNat) x2.toNat).Cell) ((gi (gi x4 x1.toNat) x2.toNat).Dir)).bind fun (x9,x10,x11) =>
  (Zbp g ((gi (gi x4 x1.toNat) x7.toNat).Cell) ((gi (gi x4 x1.toNat) x7.toNat).Dir)).bind fun (x12,x13,m) =>
  if !(decide (x13 = 0)) then
   some (false,x13,m)
  else
   (zM m x9 ((gi (gi x4 x1.toNat) x2.toNat).Dir) x12 (-2)).bind fun (x14,m1) =>
   some (true,x14,m1)

/-! muntin/rect.Refine -/
def Zam.s0 (cells:List Za):(List Za) × Bool→Option (((List Za) × Bool) ⊕ ((List Za) ⊕ Int)):=fun (g1,more) =>
 if more then
  (ZcJ (⟨g1⟩:ZQ)).bind fun (x4,x5,m) =>
  if !(decide (x5 = 0)) then
   some (.inr (.inr x5))
  else
   some (.inl (m.cells,x4))
 else
  some (.inr (.inl g1))

def Zam (cells:List Za):Option ((List Za) × Int) :=
 (Zbg cells).bind fun (x,x1) =>
 if decide (x1 = 2) then
  (zZ cells).bind fun x2 =>
  some (x2,0)
 else
  if !(decide (x1 = 0)) then
   some (([]:List Za),x1)
  else
   (x).bind fun g =>
   (
    ze (Zam.s0 cells) big (g.cells,true):Option ((List Za) ⊕ Int)).bind fun o₁=>match o₁ with
   | .inl g2 =>
    (ZaJ (⟨g2⟩:ZQ)).bind fun x6 =>
    some (x6,0)
   | .inr x3 =>
    some (([]:List Za),x3)

/-! muntin/muntinref10.Join -/
def Zb6 (l:List Za) (v:Int) (d:Int) (w:Int) (o:Int):Option ((List Za) × Int) :=
 if (((((((decide (v < 0)) || (decide ((l.length:Int)≤v))) || (decide (w < 0))) || (decide ((l.length:Int)≤w))) || (decide (v = w))) || (decide (d < 0))) || (decide (3 < d))) || (decide (o < (-2))) then
  some (l,2)
 else
  ck ((0:Int)≤v∧v < (l.length:Int)) <|
  ck ((0:Int)≤d∧d < 4) <|
  (if !(decide (((gi l v.toNat).Next).get d = (-1))) then
   some true
  else
   ck (Zaw (d + 2)) <|
   ck ((0:Int)≤w∧w < (l.length:Int)) <|
   ck ((0:Int)≤((d + 2).tmod 4)∧((d + 2).tmod 4) < 4) <|
   some (!(decide (((gi l w.toNat).Next).get ((d + 2).tmod 4) = (-1))))).bind fun t =>
  if t then
   some (l,9)
  else
   (Zaf l v d w o).bind fun x =>
   some (x,0)

/-! muntin/rect.Rectangular -/
def Zbb (cells:List Za):Option (Bool × Int) :=
 (ZbT cells).bind fun x =>
 if !(decide (x = 0)) then
  some (false,x)
 else
  (ZaL cells).bind fun (x1,x2,x3) =>
  some (!x3,0)

/-! muntin/muntinlaw21.wakes -/
def Zbh:Option Bool :=
 (zw 2).bind fun x =>
 (Zb6 x 0 0 1 0).bind fun (x1,x2) =>
 (Zbm x1).bind fun (x3,x4) =>
 (Zam x1).bind fun (x5,x6) =>
 (Zbb x5).bind fun (x7,x8) =>
 ck ((0:Int)≤1∧1≤(x1.length:Int)) <|
 (Zbm (x1.take (1:Int).toNat)).bind fun (x9,x10) =>
 some (((((((decide (x4 = 0)) && (decide ((x3.length:Int) = 7))) && (decide (x6 = 0))) && (decide (7 < (x5.length:Int)))) && x7) && (decide (x8 = 0))) && (decide (x10 = 3)))

/-! muntin/muntinref10.Check -/
def zk.s1 (l:List Za) (v:Int):Int→Option (Int ⊕ (Unit ⊕ Int)):=fun d =>
 if decide (d < 4) then
  ck ((0:Int)≤v∧v < (l.length:Int)) <|
  ck ((0:Int)≤d∧d < 4) <|
  if decide (((gi l v.toNat).Next).get d = (-1)) then
   if !(decide (((gi l v.toNat).Owner).get d = 0)) then
    some (.inr (.inr 9))
   else
    ck (Zaw (d + 1)) <|
    some (.inl (d + 1))
  else
   if ((decide ((((gi l v.toNat).Next).get d) < 0)) || (decide ((l.length:Int)≤(((gi l v.toNat).Next).get d)))) || (decide (((gi l v.toNat).Next).get d = v)) then
    some (.inr (.inr 3))
   else
    ck (Zaw (d + 2)) <|
    ck ((0:Int)≤(((gi l v.toNat).Next).get d)∧(((gi l v.toNat).Next).get d) < (l.length:Int)) <|
    ck ((0:Int)≤((d + 2).tmod 4)∧((d + 2).tmod 4) < 4) <|
    if ((!(decide (((gi l (((gi l v.toNat).Next).get d:Int).toNat).Next).get ((d + 2).tmod 4) = v))) || (!(decide (((gi l (((gi l v.toNat).Next).get d:Int).toNat).Owner).get ((d + 2).tmod 4) = ((gi l v.toNat).Owner).get d)))) || (decide ((((gi l v.toNat).Owner).get d) < (-2))) then
     some (.inr (.inr 9))
    else
     ck (Zaw (d + 1)) <|
     some (.inl (d + 1))
 else
  some (.inr (.inl ()))

def zk.s0 (l:List Za):Int→Option (Int ⊕ (Unit ⊕ Int)):=fun v =>
 if decide (v < (l.length:Int)) then
  (
   ze (zk.s1 l v) big 0:Option (Unit ⊕ Int)).bind fun o₃=>match o₃ with
  | .inl _ =>
   ck (Zaw (v + 1)) <|
   some (.inl (v + 1))
  | .inr x1 =>
   some (.inr (.inr x1))
 else
  some (.inr (.inl ()))

def zk (l:List Za):Option Int :=
 if decide (4096 < (l.length:Int)) then
  some 6
 else
  (
   ze (zk.s0 l) big 0:Option (Unit ⊕ Int)).bind fun o₁=>match o₁ with
  | .inl _ =>
   some 0
  | .inr x =>
   some x

/-! muntin/muntinref13.Far -/
def ZP.s0 (l:List Za):(List Int) × Int→Option (((List Int) × Int) ⊕ (List Int)):=fun (far,i) =>
 if decide (i < (l.length:Int)) then
  ck ((0:Int)≤i∧i < (far.length:Int)) <|
  ck (Zaw (i + 1)) <|
  some (.inl (far.set i.toNat (-1),i + 1))
 else
  some (.inr far)

def ZP.s3 (l:List Za) (round:Int) (i1:Int):(List Int) × Int→Option (((List Int) × Int) ⊕ (List Int)):=fun (far6,d) =>
 if decide (d < 4) then
  ck ((0:Int)≤i1∧i1 < (l.length:Int)) <|
  ck ((0:Int)≤d∧d < 4) <|
  ck ((0:Int)≤i1∧i1 < (far6.length:Int)) <|
  (if (decide (gi far6 i1.toNat = round)) && (decide (0≤(((gi l i1.toNat).Next).get d))) then
   ck ((0:Int)≤(max (((gi l i1.toNat).Next).get d) 0)∧(max (((gi l i1.toNat).Next).get d) 0) < (far6.length:Int)) <|
   some (decide ((gi far6 (max (((gi l i1.toNat).Next).get d) 0:Int).toNat) < 0))
  else
   some false).bind fun t =>
  if t then
   ck (Zaw (round + 1)) <|
   ck ((0:Int)≤(((gi l i1.toNat).Next).get d)∧(((gi l i1.toNat).Next).get d) < (far6.length:Int)) <|
   ck (Zaw (d + 1)) <|
   some (.inl (far6.set (((gi l i1.toNat).Next).get d:Int).toNat (round + 1),d + 1))
  else
   ck (Zaw (d + 1)) <|
   some (.inl (far6,d + 1))
 else
  some (.inr far6)

def ZP.s2 (l:List Za) (round:Int):(List Int) × Int→Option (((List Int) × Int) ⊕ (List Int)):=fun (far4,i1) =>
 if decide (i1 < (l.length:Int)) then
  (ze (ZP.s3 l round i1) big (far4,0)).bind fun far7 =>
  ck (Zaw (i1 + 1)) <|
  some (.inl (far7,i1 + 1))
 else
  some (.inr far4)

def ZP.s1 (l:List Za):(List Int) × Int→Option (((List Int) × Int) ⊕ (List Int)):=fun (far2,round) =>
 if decide (round < (l.length:Int)) then
  (ze (ZP.s2 l round) big (far2,0)).bind fun far5 =>
  ck (Zaw (round + 1)) <|
  some (.inl (far5,round + 1))
 else
  some (.inr far2)

def ZP (l:List Za) (v:Int):Option (List Int) :=
 ck ((0:Int)≤(l.length:Int)∧(l.length:Int)≤1000000000) <|
 (ze (ZP.s0 l) big (List.replicate ((l.length:Int):Int).toNat (0:Int),0)).bind fun far1 =>
 ck ((0:Int)≤v∧v < (far1.length:Int)) <|
 (ze (ZP.s1 l) big (far1.set v.toNat 0,0)).bind fun far3 =>
 some far3

/-! muntin/muntinref13.Parts -/
def zo.s1 (l:List Za) (x:List Int):(List Bool) × (List Int) × Int→Option (((List Bool) × (List Int) × Int) ⊕ ((List Bool) × (List Int))):=fun (in_1,p,w) =>
 if decide (w < (l.length:Int)) then
  ck ((0:Int)≤w∧w < (x.length:Int)) <|
  if decide (0≤(gi x w.toNat)) then
   ck ((0:Int)≤w∧w < (in_1.length:Int)) <|
   ck (p.length + [w].length≤1000000000) <|
   ck (Zaw (w + 1)) <|
   some (.inl (in_1.set w.toNat true,p++[w],w + 1))
  else
   ck (Zaw (w + 1)) <|
   some (.inl (in_1,p,w + 1))
 else
  some (.inr (in_1,p))

def zo.s0 (l:List Za):(List Bool) × (List (List Int)) × Int→Option (((List Bool) × (List (List Int)) × Int) ⊕ (List (List Int))):=fun (in_,out,v) =>
 if decide (v < (l.length:Int)) then
  ck ((0:Int)≤v∧v < (in_.length:Int)) <|
  if gi in_ v.toNat then
   ck (Zaw (v + 1)) <|
   some (.inl (in_,out,v + 1))
  else
   (ZP l v).bind fun x =>
   (ze (zo.s1 l x) big (in_,([]:List Int),0)).bind fun (in_2,p1) =>
   ck (out.length + 1≤1000000000) <|
   ck (Zaw (v + 1)) <|
   some (.inl (in_2,out++[p1],v + 1))
 else
  some (.inr out)

def zo (l:List Za):Option (List (List Int)) :=
 ck ((0:Int)≤(l.length:Int)∧(l.length:Int)≤1000000000) <|
 (ze (zo.s0 l) big (List.replicate ((l.length:Int):Int).toNat false,([]:List (List Int)),0)).bind fun out1 =>
 some out1

/-! muntin/muntinref12.Behind -/
def zG.s0 (l:List Za) (d:Zu):Int→Option (Int ⊕ (Unit ⊕ Zu)):=fun i =>
 if decide (i < 4) then
  ck ((0:Int)≤i∧i < (([1,0,3,2]:List Int).length:Int)) <|
  ck (Zaw (d.Dir + (gi ([1,0,3,2]:List Int) i.toNat))) <|
  ck ((0:Int)≤(((gi l (d.Cell:Int).toNat).Next).get d.Dir)∧(((gi l (d.Cell:Int).toNat).Next).get d.Dir) < (l.length:Int)) <|
  ck ((0:Int)≤((d.Dir + (gi ([1,0,3,2]:List Int) i.toNat)).tmod 4)∧((d.Dir + (gi ([1,0,3,2]:List Int) i.toNat)).tmod 4) < 4) <|
  if decide (0≤(((gi l (((gi l (d.Cell:Int).toNat).Next).get d.Dir:Int).toNat).Next).get ((d.Dir + (gi ([1,0,3,2]:List Int) i.toNat)).tmod 4))) then
   some (.inr (.inr (⟨((gi l (d.Cell:Int).toNat).Next).get d.Dir,(d.Dir + (gi ([1,0,3,2]:List Int) i.toNat)).tmod 4⟩:Zu)))
  else
   ck (Zaw (i + 1)) <|
   some (.inl (i + 1))
 else
  some (.inr (.inl ()))

def zG (l:List Za) (d:Zu):Option Zu :=
 ck ((0:Int)≤d.Cell∧d.Cell < (l.length:Int)) <|
 ck ((0:Int)≤d.Dir∧d.Dir < 4) <|
 (
  ze (zG.s0 l d) big 0:Option (Unit ⊕ Zu)).bind fun o₁=>match o₁ with
 | .inl _ =>
  some d
 | .inr x =>
  some x

/-! muntin/muntinref12.Faces -/
def ZV.s2 (l:List Za):(List Bool) × (List Zu) × Zu→Option (((List Bool) × (List Zu) × Zu) ⊕ ((List Bool) × (List Zu))):=fun (met3,f,d) =>
 ck (Zaw (4 * d.Cell)) <|
 ck (Zaw ((4 * d.Cell) + d.Dir)) <|
 ck ((0:Int)≤((4 * d.Cell) + d.Dir)∧((4 * d.Cell) + d.Dir) < (met3.length:Int)) <|
 if !(gi met3 ((4 * d.Cell) + d.Dir:Int).toNat) then
  ck (f.length + [d].length≤1000000000) <|
  (zG l d).bind fun x =>
  some (.inl (met3.set ((4 * d.Cell) + d.Dir:Int).toNat true,f++[d],x))
 else
  some (.inr (met3,f))

def ZV.s1 (l:List Za) (v:Int):(List Bool) × (List (List Zu)) × Int→Option (((List Bool) × (List (List Zu)) × Int) ⊕ ((List Bool) × (List (List Zu)))):=fun (met1,out2,e_) =>
 if decide (e_ < 4) then
  ck ((0:Int)≤v∧v < (l.length:Int)) <|
  ck ((0:Int)≤e_∧e_ < 4) <|
  (if decide ((((gi l v.toNat).Next).get e_) < 0) then
   some true
  else
   ck (Zaw (4 * v)) <|
   ck (Zaw ((4 * v) + e_)) <|
   ck ((0:Int)≤((4 * v) + e_)∧((4 * v) + e_) < (met1.length:Int)) <|
   some (gi met1 ((4 * v) + e_:Int).toNat)).bind fun t =>
  if t then
   ck (Zaw (e_ + 1)) <|
   some (.inl (met1,out2,e_ + 1))
  else
   (ze (ZV.s2 l) big (met1,([]:List Zu),(⟨v,e_⟩:Zu))).bind fun (met4,f1) =>
   ck (out2.length + 1≤1000000000) <|
   ck (Zaw (e_ + 1)) <|
   some (.inl (met4,out2++[f1],e_ + 1))
 else
  some (.inr (met1,out2))

def ZV.s0 (l:List Za):(List Bool) × (List (List Zu)) × Int→Option (((List Bool) × (List (List Zu)) × Int) ⊕ (List (List Zu))):=fun (met,out,v) =>
 if decide (v < (l.length:Int)) then
  (ze (ZV.s1 l v) big (met,out,0)).bind fun (met2,out3) =>
  ck (Zaw (v + 1)) <|
  some (.inl (met2,out3,v + 1))
 else
  some (.inr out)

def ZV (l:List Za):Option (List (List Zu)) :=
 ck (Zaw (4 * (l.length:Int))) <|
 ck ((0:Int)≤(4 * (l.length:Int))∧(4 * (l.length:Int))≤1000000000) <|
 (ze (ZV.s0 l) big (List.replicate (4 * (l.length:Int):Int).toNat false,([]:List (List Zu)),0)).bind fun out1 =>
 some out1

/-! muntin/muntinref01.Good -/
def Zba (d:Int):Option Bool :=
 some ((decide (0≤d)) && (decide (d≤3)))

/-! muntin/muntinref01.Left -/
def Zb4 (d:Int) (times:Int):Option Int :=
 (Zba d).bind fun x =>
 if !x then
  some 0
 else
  if decide ((times.tmod 4) < 0) then
   ck (Zaw ((times.tmod 4) + 4)) <|
   ck (Zaw (d + ((times.tmod 4) + 4))) <|
   some ((d + ((times.tmod 4) + 4)).tmod 4)
  else
   ck (Zaw (d + (times.tmod 4))) <|
   some ((d + (times.tmod 4)).tmod 4)

/-! muntin/muntinref01.Turn -/
def Zb5 (d:Int) (e_:Int):Option Int :=
 (Zba d).bind fun x =>
 (Zba e_).bind fun x1 =>
 if ((!x) || (!x1)) || (decide (d = e_)) then
  some 0
 else
  (Zb4 d 1).bind fun x2 =>
  if decide (x2 = e_) then
   some 1
  else
   (Zb4 d 3).bind fun x3 =>
   if decide (x3 = e_) then
    some (-1)
   else
    some (-2)

/-! muntin/muntinref12.Turns -/
def Zas.s0 (l:List Za) (f:List Zu):(List Int) × Int→Option (((List Int) × Int) ⊕ (List Int)):=fun (out,i) =>
 if decide (i < (f.length:Int)) then
  ck ((0:Int)≤i∧i < (f.length:Int)) <|
  (zG l (gi f i.toNat)).bind fun x =>
  (Zb5 ((gi f i.toNat).Dir) x.Dir).bind fun x1 =>
  ck (out.length + [x1].length≤1000000000) <|
  ck (Zaw (i + 1)) <|
  some (.inl (out++[x1],i + 1))
 else
  some (.inr out)

def Zas (l:List Za) (f:List Zu):Option (List Int) :=
 (ze (Zas.s0 l f) big (([]:List Int),0)).bind fun out1 =>
 some out1

/-! muntin/muntinref12.Rotation -/
def zQ.s0 (t:List Int):Int × Int→Option ((Int × Int) ⊕ Int):=fun (n,i) =>
 if decide (i < (t.length:Int)) then
  ck ((0:Int)≤i∧i < (t.length:Int)) <|
  if (decide ((-2)≤(gi t i.toNat))) && (decide ((gi t i.toNat)≤1)) then
   ck (Zaw (n + (gi t i.toNat))) <|
   ck (Zaw (i + 1)) <|
   some (.inl (n + (gi t i.toNat),i + 1))
  else
   ck (Zaw (i + 1)) <|
   some (.inl (n,i + 1))
 else
  some (.inr n)

def zQ (t:List Int):Option Int :=
 (ze (zQ.s0 t) big (0,0)).bind fun n1 =>
 some n1

/-! muntin/muntinref14.Outer -/
def Zag.s0 (l:List Za) (x2:List (List Zu)):Int × Int→Option ((Int × Int) ⊕ (Int ⊕ Unit)):=fun (at_,i) =>
 if decide (i < (x2.length:Int)) then
  ck ((0:Int)≤i∧i < (x2.length:Int)) <|
  (Zas l (gi x2 i.toNat)).bind fun x3 =>
  (zQ x3).bind fun x4 =>
  if ((!(decide (x4 = 4))) && (!(decide (x4 = (-4))))) || ((decide (x4 = (-4))) && (decide (0≤at_))) then
   some (.inr (.inr ()))
  else
   if decide (x4 = (-4)) then
    ck (Zaw (i + 1)) <|
    some (.inl (i,i + 1))
   else
    ck (Zaw (i + 1)) <|
    some (.inl (at_,i + 1))
 else
  some (.inr (.inl at_))

def Zag (l:List Za):Option (Int × Int) :=
 (zk l).bind fun x =>
 if !(decide (x = 0)) then
  some ((-1),x)
 else
  (zo l).bind fun x1 =>
  if !(decide ((x1.length:Int) = 1)) then
   some ((-1),13)
  else
   if decide ((l.length:Int) = 1) then
    some ((-1),0)
   else
    (ZV l).bind fun x2 =>
    (
     ze (Zag.s0 l x2) big ((-1),0):Option (Int ⊕ Unit)).bind fun o₁=>match o₁ with
    | .inl at_1 =>
     if decide (at_1 < 0) then
      some ((-1),10)
     else
      some (at_1,0)
    | .inr _ =>
     some ((-1),10)

/-! muntin/muntinlaw21.RectKeeps -/
def Z3.s3 (x:List Za) (x2:List Za) (x4:List Za) (x10:Int) (x13:Int) (x14:Int):Int × Int→Option ((Int × Int) ⊕ (Unit ⊕ Unit)):=fun (at_,n) =>
 if (decide (0≤(((gi x x13.toNat).Next).get x14))) && (!(decide (at_ = ((gi x x13.toNat).Next).get x14))) then
  (if decide (((gi [x2,x4] x10.toNat).length:Int) < n) then
   some true
  else
   ck ((0:Int)≤at_∧at_ < ((gi [x2,x4] x10.toNat).length:Int)) <|
   some (decide ((((gi (gi [x2,x4] x10.toNat) at_.toNat).Next).get x14) < 0))).bind fun t =>
  (if t then
   some true
  else
   ck ((0:Int)≤at_∧at_ < ((gi [x2,x4] x10.toNat).length:Int)) <|
   some (!(decide (((gi (gi [x2,x4] x10.toNat) at_.toNat).Owner).get x14 = ((gi x x13.toNat).Owner).get x14)))).bind fun t1 =>
  if t1 || ((!(decide (at_ = x13))) && (decide (at_ < (x.length:Int)))) then
   some (.inr (.inr ()))
  else
   ck ((0:Int)≤at_∧at_ < ((gi [x2,x4] x10.toNat).length:Int)) <|
   ck (Zaw (n + 1)) <|
   some (.inl (((gi (gi [x2,x4] x10.toNat) at_.toNat).Next).get x14,n + 1))
 else
  some (.inr (.inl ()))

def Z3.s2 (x:List Za) (x2:List Za) (x4:List Za) (x10:Int) (x13:Int):Int→Option (Int ⊕ (Unit ⊕ Unit)):=fun x14 =>
 if decide (x14 < 4) then
  ck ((0:Int)≤x14∧x14 < 4) <|
  (
   ze (Z3.s3 x x2 x4 x10 x13 x14) big (x13,0):Option (Unit ⊕ Unit)).bind fun o₇=>match o₇ with
  | .inl _ =>
   ck (Zaw (x14 + 1)) <|
   some (.inl (x14 + 1))
  | .inr _ =>
   some (.inr (.inr ()))
 else
  some (.inr (.inl ()))

def Z3.s1 (x:List Za) (x2:List Za) (x4:List Za) (x10:Int):Int→Option (Int ⊕ (Unit ⊕ Unit)):=fun x13 =>
 if decide (x13 < (x.length:Int)) then
  ck ((0:Int)≤x13∧x13 < (x.length:Int)) <|
  (
   ze (Z3.s2 x x2 x4 x10 x13) big 0:Option (Unit ⊕ Unit)).bind fun o₅=>match o₅ with
  | .inl _ =>
   ck (Zaw (x13 + 1)) <|
   some (.inl (x13 + 1))
  | .inr _ =>
   some (.inr (.inr ()))
 else
  some (.inr (.inl ()))

def Z3.s0 (x:List Za) (x2:List Za) (x4:List Za):Int→Option (Int ⊕ (Unit ⊕ Unit)):=fun x10 =>
 if decide (x10 < ([x2,x4].length:Int)) then
  ck ((0:Int)≤x10∧x10 < ([x2,x4].length:Int)) <|
  (Zag (gi [x2,x4] x10.toNat)).bind fun (x11,x12) =>
  if (!(decide (x12 = 0))) || (decide (((gi [x2,x4] x10.toNat).length:Int) < (x.length:Int))) then
   some (.inr (.inr ()))
  else
   (
    ze (Z3.s1 x x2 x4 x10) big 0:Option (Unit ⊕ Unit)).bind fun o₃=>match o₃ with
   | .inl _ =>
    ck (Zaw (x10 + 1)) <|
    some (.inl (x10 + 1))
   | .inr _ =>
    some (.inr (.inr ()))
 else
  some (.inr (.inl ()))

def Z3 (z:zy):Option Bool :=
 (ZE z 14).bind fun (x,x1) =>
 (Zbm x).bind fun (x2,x3) =>
 (Zam x).bind fun (x4,x5) =>
 (Zbh ).bind fun x6 =>
 if ((!x6) || (!(decide (x5 = 0)))) || (decide ((x.length:Int) < 2)) then
  (Zbh ).bind fun x7 =>
  some x7
 else
  (Zbb x4).bind fun (x8,x9) =>
  if ((!(decide (x3 = 0))) || (!x8)) || (!(decide (x9 = 0))) then
   some false
  else
   (
    ze (Z3.s0 x x2 x4) big 0:Option (Unit ⊕ Unit)).bind fun o₁=>match o₁ with
   | .inl _ =>
    some true
   | .inr _ =>
    some false

end Mu
