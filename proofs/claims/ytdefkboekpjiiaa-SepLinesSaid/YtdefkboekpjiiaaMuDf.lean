/- What the functions work out. -/
import Derived.Test.YtdefkboekpjiiaaMuA
import Derived.Test.YtdefkboekpjiiaaMuR
set_option linter.unusedVariables false
set_option linter.unnecessarySimpa false
set_option linter.unusedSimpArgs false
set_option maxHeartbeats 2000000
set_option maxRecDepth 10000
namespace Mu
open Go (IntKind BinOp UnOp)
structure zb where
 At:List Int
 Bits:List Int
 Own:List Int
 deriving DecidableEq,Inhabited
structure Za where
 Next:A4 Int
 Owner:A4 Int
 deriving DecidableEq,Inhabited
abbrev Zf8:Enc Int:=⟨1,fun x=>[.i .u8 x],fun _=>rfl⟩
theorem Zf8.one (x:Int):(Zf8.c x).all V.one=true:=rfl
abbrev ZhJ:Enc Int:=⟨1,fun x=>[.i .i8 x],fun _=>rfl⟩
theorem ZhJ.one (x:Int):(ZhJ.c x).all V.one=true:=rfl
abbrev Zr:Enc Za:=⟨8,fun x=>[.i .i64 x.Next.a,.i .i64 x.Next.b,.i .i64 x.Next.c,.i .i64 x.Next.d,.i .i64 x.Owner.a,.i .i64 x.Owner.b,.i .i64 x.Owner.c,.i .i64 x.Owner.d],fun _=>rfl⟩
theorem Zr.one (x:Za):(Zr.c x).all V.one=true:=rfl
structure Zp where
 X:Int
 Y:Int
 deriving DecidableEq,Inhabited
abbrev Zy:Enc Zp:=⟨2,fun x=>[.i .i64 x.X,.i .i64 x.Y],fun _=>rfl⟩
theorem Zy.one (x:Zp):(Zy.c x).all V.one=true:=rfl
theorem Zy.same (x y:Zp):zC [.i,.i] (Zy.c x) (Zy.c y)=some (decide (x=y)):=by
 obtain ⟨x1,x2⟩:=x;obtain ⟨y1,y2⟩:=y;refine (Zfw (Zfw Zg7)).trans ?_;congr 1;rw [Bool.eq_iff_iff];simp [and_assoc]
structure ZO where
 Vertical:Bool
 Place:Int
 deriving DecidableEq,Inhabited
structure ZaK where
 X:List Int
 Y:List Int
 Vert:List (List Int)
 Horz:List (List Int)
 deriving DecidableEq,Inhabited
abbrev zN:Enc ZO:=⟨2,fun x=>[.b x.Vertical,.i .i64 x.Place],fun _=>rfl⟩
theorem zN.one (x:ZO):(zN.c x).all V.one=true:=rfl
structure zX where
 X:List Int
 Y:List Int
 Vert:List (List Int)
 Horz:List (List Int)
 deriving DecidableEq,Inhabited
structure Zl where
 Vertical:Bool
 Place:Int
 deriving DecidableEq,Inhabited
abbrev zf:Enc Zl:=⟨2,fun x=>[.b x.Vertical,.i .i64 x.Place],fun _=>rfl⟩
theorem zf.one (x:Zl):(zf.c x).all V.one=true:=rfl
def Zfg (x:Int):Prop:=Wf .u8 x
def Zhn (x:Int):Prop:=Wf .i8 x
def Zcn (x:Za):Prop:=Wf .i64 x.Next.a∧Wf .i64 x.Next.b∧Wf .i64 x.Next.c∧Wf .i64 x.Next.d∧Wf .i64 x.Owner.a∧Wf .i64 x.Owner.b∧Wf .i64 x.Owner.c∧Wf .i64 x.Owner.d
/-! muntin/muntinref10.New -/
def zh.s1 (v:Int):(List Za)×Int→Option (((List Za)×Int)⊕(List Za)):=fun (l2,d) =>
 if decide (d<4) then
  ck ((0:Int)≤v∧v<(l2.length:Int)) <|
  ck ((0:Int)≤d∧d<4) <|
  ck (ZaC (d+1)) <|
  some (.inl (l2.set v.toNat ({ gi l2 v.toNat with Next:=((gi l2 v.toNat).Next).set d (-1) }),d+1))
 else
  some (.inr l2)

def zh.s0 (n:Int):(List Za)×Int→Option (((List Za)×Int)⊕(List Za)):=fun (l,v) =>
 if decide (v<n) then
  (zp (zh.s1 v) big (l,0)).bind fun l3 =>
  ck (ZaC (v+1)) <|
  some (.inl (l3,v+1))
 else
  some (.inr l)

def zh (n:Int):Option (List Za) :=
 ck ((0:Int)≤n∧n≤1000000000) <|
 (zp (zh.s0 n) big (List.replicate n.toNat (⟨⟨0,0,0,0⟩,⟨0,0,0,0⟩⟩:Za),0)).bind fun l1 =>
 some l1

/-! muntin/muntinref10.Nearest -/
def ZC.s0 (at_:List Zp) (i:Int) (d:Int):Int×Int→Option ((Int×Int)⊕Int):=fun (best,k_) =>
 if decide (k_<(at_.length:Int)) then
  (if decide (d=0) then
   ck ((0:Int)≤k_∧k_<(at_.length:Int)) <|
   ck ((0:Int)≤i∧i<(at_.length:Int)) <|
   some (decide ((gi at_ k_.toNat).Y=(gi at_ i.toNat).Y))
  else
   some false).bind fun t =>
  (if t then
   ck ((0:Int)≤k_∧k_<(at_.length:Int)) <|
   ck ((0:Int)≤i∧i<(at_.length:Int)) <|
   some (decide (((gi at_ i.toNat).X)<((gi at_ k_.toNat).X)))
  else
   some false).bind fun t1 =>
  (if t1 then
   (if decide (best<0) then
    some true
   else
    ck ((0:Int)≤k_∧k_<(at_.length:Int)) <|
    ck ((0:Int)≤best∧best<(at_.length:Int)) <|
    some (decide (((gi at_ k_.toNat).X)<((gi at_ best.toNat).X)))).bind fun t3 =>
   some t3
  else
   some false).bind fun t2 =>
  (
   if t2 then
    some k_
   else
    some best).bind fun best2 =>
  (if decide (d=1) then
   ck ((0:Int)≤k_∧k_<(at_.length:Int)) <|
   ck ((0:Int)≤i∧i<(at_.length:Int)) <|
   some (decide ((gi at_ k_.toNat).X=(gi at_ i.toNat).X))
  else
   some false).bind fun t4 =>
  (if t4 then
   ck ((0:Int)≤k_∧k_<(at_.length:Int)) <|
   ck ((0:Int)≤i∧i<(at_.length:Int)) <|
   some (decide (((gi at_ i.toNat).Y)<((gi at_ k_.toNat).Y)))
  else
   some false).bind fun t5 =>
  (if t5 then
   (if decide (best2<0) then
    some true
   else
    ck ((0:Int)≤k_∧k_<(at_.length:Int)) <|
    ck ((0:Int)≤best2∧best2<(at_.length:Int)) <|
    some (decide (((gi at_ k_.toNat).Y)<((gi at_ best2.toNat).Y)))).bind fun t7 =>
   some t7
  else
   some false).bind fun t6 =>
  if t6 then
   ck (ZaC (k_+1)) <|
   some (.inl (k_,k_+1))
  else
   ck (ZaC (k_+1)) <|
   some (.inl (best2,k_+1))
 else
  some (.inr best)

def ZC (at_:List Zp) (i:Int) (d:Int):Option Int :=
 (zp (ZC.s0 at_ i d) big ((-1),0)).bind fun best1 =>
 some best1

/-! muntin/muntinref10.Crossed -/
def ZB.s1 (at_:List Zp) (l:List Za) (i:Int) (w:Int) (a:Int):Int→Option (Int⊕(Unit⊕Unit)):=fun d =>
 if decide (d<2) then
  ck ((0:Int)≤a∧a<(l.length:Int)) <|
  ck ((0:Int)≤d∧d<4) <|
  if decide ((((gi l a.toNat).Next).get d)<0) then
   ck (ZaC (d+1)) <|
   some (.inl (d+1))
  else
   ck ((0:Int)≤a∧a<(at_.length:Int)) <|
   ck ((0:Int)≤(((gi l a.toNat).Next).get d)∧(((gi l a.toNat).Next).get d)<(at_.length:Int)) <|
   (if decide ((gi at_ a.toNat).Y=(gi at_ (((gi l a.toNat).Next).get d:Int).toNat).Y) then
    ck ((0:Int)≤i∧i<(at_.length:Int)) <|
    ck ((0:Int)≤w∧w<(at_.length:Int)) <|
    some (decide ((gi at_ i.toNat).X=(gi at_ w.toNat).X))
   else
    some false).bind fun t =>
   (if t then
    ck ((0:Int)≤i∧i<(at_.length:Int)) <|
    some (decide (((gi at_ a.toNat).X)<((gi at_ i.toNat).X)))
   else
    some false).bind fun t1 =>
   (if t1 then
    ck ((0:Int)≤i∧i<(at_.length:Int)) <|
    some (decide (((gi at_ i.toNat).X)<((gi at_ (((gi l a.toNat).Next).get d:Int).toNat).X)))
   else
    some false).bind fun t2 =>
   (if t2 then
    ck ((0:Int)≤i∧i<(at_.length:Int)) <|
    some (decide (((gi at_ i.toNat).Y)<((gi at_ a.toNat).Y)))
   else
    some false).bind fun t3 =>
   (if t3 then
    ck ((0:Int)≤w∧w<(at_.length:Int)) <|
    some (decide (((gi at_ a.toNat).Y)<((gi at_ w.toNat).Y)))
   else
    some false).bind fun t4 =>
   if t4 then
    some (.inr (.inr ()))
   else
    (if decide ((gi at_ a.toNat).X=(gi at_ (((gi l a.toNat).Next).get d:Int).toNat).X) then
     ck ((0:Int)≤i∧i<(at_.length:Int)) <|
     ck ((0:Int)≤w∧w<(at_.length:Int)) <|
     some (decide ((gi at_ i.toNat).Y=(gi at_ w.toNat).Y))
    else
     some false).bind fun t5 =>
    (if t5 then
     ck ((0:Int)≤i∧i<(at_.length:Int)) <|
     some (decide (((gi at_ i.toNat).X)<((gi at_ a.toNat).X)))
    else
     some false).bind fun t6 =>
    (if t6 then
     ck ((0:Int)≤w∧w<(at_.length:Int)) <|
     some (decide (((gi at_ a.toNat).X)<((gi at_ w.toNat).X)))
    else
     some false).bind fun t7 =>
    (if t7 then
     ck ((0:Int)≤i∧i<(at_.length:Int)) <|
     some (decide (((gi at_ a.toNat).Y)<((gi at_ i.toNat).Y)))
    else
     some false).bind fun t8 =>
    (if t8 then
     ck ((0:Int)≤i∧i<(at_.length:Int)) <|
     some (decide (((gi at_ i.toNat).Y)<((gi at_ (((gi l a.toNat).Next).get d:Int).toNat).Y)))
    else
     some false).bind fun t9 =>
    if t9 then
     some (.inr (.inr ()))
    else
     ck (ZaC (d+1)) <|
     some (.inl (d+1))
 else
  some (.inr (.inl ()))

def ZB.s0 (at_:List Zp) (l:List Za) (i:Int) (w:Int):Int→Option (Int⊕(Unit⊕Unit)):=fun a =>
 if decide (a<(l.length:Int)) then
  (
   zp (ZB.s1 at_ l i w a) big 0:Option (Unit⊕Unit)).bind fun o₃=>match o₃ with
  | .inl _ =>
   ck (ZaC (a+1)) <|
   some (.inl (a+1))
  | .inr _ =>
   some (.inr (.inr ()))
 else
  some (.inr (.inl ()))

def ZB (at_:List Zp) (l:List Za) (i:Int) (w:Int):Option Bool :=
 (
  zp (ZB.s0 at_ l i w) big 0:Option (Unit⊕Unit)).bind fun o₁=>match o₁ with
 | .inl _ =>
  some false
 | .inr _ =>
  some true

/-! muntin/muntinref10.with -/
def z9.s0 (l:List Za) (v:Int) (d:Int) (w:Int) (o:Int):(List Za)×Int→Option (((List Za)×Int)⊕(List Za)):=fun (out,i) =>
 if decide (i<(l.length:Int)) then
  ck ((0:Int)≤i∧i<(l.length:Int)) <|
  (
   if decide (i=v) then
    ck ((0:Int)≤d∧d<4) <|
    some ({ { gi l i.toNat with Next:=((gi l i.toNat).Next).set d w } with Owner:=(({ gi l i.toNat with Next:=((gi l i.toNat).Next).set d w }).Owner).set d o })
   else
    some (gi l i.toNat)).bind fun c =>
  if decide (i=w) then
   ck (ZaC (d+2)) <|
   ck ((0:Int)≤((d+2).tmod 4)∧((d+2).tmod 4)<4) <|
   ck (out.length+[{ { c with Next:=c.Next.set ((d+2).tmod 4) v } with Owner:=(({ c with Next:=c.Next.set ((d+2).tmod 4) v }).Owner).set ((d+2).tmod 4) o }].length≤1000000000) <|
   ck (ZaC (i+1)) <|
   some (.inl (out++[{ { c with Next:=c.Next.set ((d+2).tmod 4) v } with Owner:=(({ c with Next:=c.Next.set ((d+2).tmod 4) v }).Owner).set ((d+2).tmod 4) o }],i+1))
  else
   ck (out.length+[c].length≤1000000000) <|
   ck (ZaC (i+1)) <|
   some (.inl (out++[c],i+1))
 else
  some (.inr out)

def z9 (l:List Za) (v:Int) (d:Int) (w:Int) (o:Int):Option (List Za) :=
 (zp (z9.s0 l v d w o) big (([]:List Za),0)).bind fun out1 =>
 some out1

/-! muntin/muntinref10.Make -/
def Z4.s1 (z:zb) (at_:List Zp) (i:Int):Bool×Int→Option ((Bool×Int)⊕((List Zp)×Bool)):=fun (met,k_) =>
 if decide (k_<(at_.length:Int)) then
  (if met then
   some true
  else
   ck ((0:Int)≤k_∧k_<(at_.length:Int)) <|
   some (decide (gi at_ k_.toNat=(⟨(gi z.At i.toNat).tmod 8,((gi z.At i.toNat).tdiv 8).tmod 8⟩:Zp)))).bind fun t =>
  ck (ZaC (k_+1)) <|
  some (.inl (t,k_+1))
 else
  some (.inr (at_,met))

def Z4.s0 (z:zb) (most:Int):(List Zp)×Int→Option (((List Zp)×Int)⊕(List Zp)):=fun (at_,i) =>
 if (decide (i<(z.At.length:Int)))&&(decide ((at_.length:Int)<most)) then
  ck ((0:Int)≤i∧i<(z.At.length:Int)) <|
  ck (inK .i64 (gi z.At i.toNat)) <|
  ck ((8:Int)≠0∧ZaC ((gi z.At i.toNat).tdiv 8)) <|
  (zp (Z4.s1 z at_ i) big (false,0)).bind fun (at_2,met1) =>
  if !met1 then
   ck (at_2.length+[(⟨(gi z.At i.toNat).tmod 8,((gi z.At i.toNat).tdiv 8).tmod 8⟩:Zp)].length≤1000000000) <|
   ck (ZaC (i+1)) <|
   some (.inl (at_2++[(⟨(gi z.At i.toNat).tmod 8,((gi z.At i.toNat).tdiv 8).tmod 8⟩:Zp)],i+1))
  else
   ck (ZaC (i+1)) <|
   some (.inl (at_2,i+1))
 else
  some (.inr at_)

def Z4.s3 (i1:Int) (bits:Int) (at_6:List Zp) (own:Int):(List Za)×Int→Option (((List Za)×Int)⊕(List Za)):=fun (l4,d) =>
 if decide (d<2) then
  (ZC at_6 i1 d).bind fun x1 =>
  ck ((0:Int)≤d) <|
  if (decide (Z2 .u8 (ZN .u8 bits d) 1=0))||(decide (x1<0)) then
   ck (ZaC (d+1)) <|
   some (.inl (l4,d+1))
  else
   (ZB at_6 l4 i1 x1).bind fun x2 =>
   if !x2 then
    (z9 l4 i1 d x1 own).bind fun x3 =>
    ck (ZaC (d+1)) <|
    some (.inl (x3,d+1))
   else
    ck (ZaC (d+1)) <|
    some (.inl (l4,d+1))
 else
  some (.inr l4)

def Z4.s2 (z:zb):(List Zp)×(List Za)×Int→Option (((List Zp)×(List Za)×Int)⊕((List Zp)×(List Za))):=fun (at_3,l,i1) =>
 if decide (i1<(at_3.length:Int)) then
  (
   if decide (i1<(z.Bits.length:Int)) then
    ck ((0:Int)≤i1∧i1<(z.Bits.length:Int)) <|
    some (at_3,l,gi z.Bits i1.toNat)
   else
    some (at_3,l,3)).bind fun (at_5,l2,bits) =>
  (
   if decide (i1<(z.Own.length:Int)) then
    ck ((0:Int)≤i1∧i1<(z.Own.length:Int)) <|
    ck (inK .i64 (gi z.Own i1.toNat)) <|
    if decide ((gi z.Own i1.toNat)<(-2)) then
     ck (ZaC (-(gi z.Own i1.toNat))) <|
     some (at_5,l2,-(gi z.Own i1.toNat))
    else
     some (at_5,l2,gi z.Own i1.toNat)
   else
    some (at_5,l2,i1)).bind fun (at_6,l3,own) =>
  (zp (Z4.s3 i1 bits at_6 own) big (l3,0)).bind fun l5 =>
  ck (ZaC (i1+1)) <|
  some (.inl (at_6,l5,i1+1))
 else
  some (.inr (at_3,l))

def Z4 (z:zb) (most:Int):Option ((List Za)×(List Zp)) :=
 (zp (Z4.s0 z most) big (([]:List Zp),0)).bind fun at_1 =>
 (zh (at_1.length:Int)).bind fun x =>
 (zp (Z4.s2 z) big (at_1,x,0)).bind fun (at_4,l1) =>
 some (l1,at_4)

/-! muntin/compass.Good -/
def Zbi (d:Int):Option Bool :=
 some ((decide (0≤d))&&(decide (d≤3)))

/-! muntin/compass.Left -/
def ZaF (d:Int) (times:Int):Option Int :=
 (Zbi d).bind fun x =>
 if !x then
  some 0
 else
  ck (ZaC (d+(times.tmod 4))) <|
  ck (ZaC ((d+(times.tmod 4))+4)) <|
  some (((d+(times.tmod 4))+4).tmod 4)

/-! muntin/grid.side -/
def Zbj (cells:List Za) (v:Int) (d:Int):Option Int :=
 ck ((0:Int)≤v∧v<(cells.length:Int)) <|
 ck ((0:Int)≤d∧d<4) <|
 if decide (((gi cells v.toNat).Next).get d=(-1)) then
  if !(decide (((gi cells v.toNat).Owner).get d=0)) then
   some 9
  else
   some 0
 else
  if ((decide ((((gi cells v.toNat).Next).get d)<0))||(decide ((cells.length:Int)≤(((gi cells v.toNat).Next).get d))))||(decide (((gi cells v.toNat).Next).get d=v)) then
   some 3
  else
   (ZaF d 2).bind fun x =>
   ck ((0:Int)≤(((gi cells v.toNat).Next).get d)∧(((gi cells v.toNat).Next).get d)<(cells.length:Int)) <|
   ck ((0:Int)≤x∧x<4) <|
   if ((!(decide (((gi cells (((gi cells v.toNat).Next).get d:Int).toNat).Next).get x=v)))||(!(decide (((gi cells (((gi cells v.toNat).Next).get d:Int).toNat).Owner).get x=((gi cells v.toNat).Owner).get d))))||(decide ((((gi cells v.toNat).Owner).get d)<(-2))) then
    some 9
   else
    some 0

/-! muntin/grid.Check -/
def z6.s1 (cells:List Za) (x:Int):Int→Option (Int⊕(Unit⊕Int)):=fun x2 =>
 if decide (x2<4) then
  (Zbj cells x x2).bind fun x4 =>
  if !(decide (x4=0)) then
   some (.inr (.inr x4))
  else
   ck (ZaC (x2+1)) <|
   some (.inl (x2+1))
 else
  some (.inr (.inl ()))

def z6.s0 (cells:List Za):Int→Option (Int⊕(Unit⊕Int)):=fun x =>
 if decide (x<(cells.length:Int)) then
  (
   zp (z6.s1 cells x) big 0:Option (Unit⊕Int)).bind fun o₃=>match o₃ with
  | .inl _ =>
   ck (ZaC (x+1)) <|
   some (.inl (x+1))
  | .inr x3 =>
   some (.inr (.inr x3))
 else
  some (.inr (.inl ()))

def z6 (cells:List Za):Option Int :=
 if decide (4096<(cells.length:Int)) then
  some 6
 else
  (
   zp (z6.s0 cells) big 0:Option (Unit⊕Int)).bind fun o₁=>match o₁ with
  | .inl _ =>
   some 0
  | .inr x1 =>
   some x1

/-! math/bits.Mul64 -/
def Zb5 (x:Int) (y:Int):Option (Int×Int) :=
 some (zM .u64 (zM .u64 (ZX .u64 (ZN .u64 x 32) (ZN .u64 y 32)) (ZN .u64 (zM .u64 (ZX .u64 (ZN .u64 x 32) (Z2 .u64 y 4294967295)) (ZN .u64 (ZX .u64 (Z2 .u64 x 4294967295) (Z2 .u64 y 4294967295)) 32)) 32)) (ZN .u64 (zM .u64 (Z2 .u64 (zM .u64 (ZX .u64 (ZN .u64 x 32) (Z2 .u64 y 4294967295)) (ZN .u64 (ZX .u64 (Z2 .u64 x 4294967295) (Z2 .u64 y 4294967295)) 32)) 4294967295) (ZX .u64 (Z2 .u64 x 4294967295) (ZN .u64 y 32))) 32),ZX .u64 x y)

/-! math/bits.Mul -/
def Zbw (x:Int) (y:Int):Option (Int×Int) :=
 (Zb5 x y).bind fun (x1,x2) =>
 some (x1,x2)

/-! slices.Repeat[[]int,int] -/
def zy.s0:(List Int)×Int→Option (((List Int)×Int)⊕(List Int)):=fun (newslice,n) =>
 if decide (n<(newslice.length:Int)) then
  ck ((0:Int)≤n∧n≤(newslice.length:Int)) <|
  ck (ZaC (n+((min (newslice.take n.toNat).length (newslice.drop n.toNat).length:Nat):Int))) <|
  some (.inl (newslice.take n.toNat++((newslice.take n.toNat).take (newslice.drop n.toNat).length++(newslice.drop n.toNat).drop (newslice.take n.toNat).length),n+((min (newslice.take n.toNat).length (newslice.drop n.toNat).length:Nat):Int)))
 else
  some (.inr newslice)

def zy (x:List Int) (count:Int):Option (List Int) :=
 (
  if decide (count<0) then
   none
  else
   some ()).bind fun _ =>
 ck (inK .u64 (x.length:Int)) <|
 ck (inK .u64 count) <|
 (Zbw (x.length:Int) count).bind fun (x1,x2) =>
 (
  if (decide (0<x1))||(decide (9223372036854775807<x2)) then
   none
  else
   some ()).bind fun _ =>
 ck (inK .i64 x2) <|
 ck ((0:Int)≤x2∧x2≤1000000000) <|
 (zp zy.s0 big (x.take (List.replicate x2.toNat (0:Int)).length++(List.replicate x2.toNat (0:Int)).drop x.length,((min x.length (List.replicate x2.toNat (0:Int)).length:Nat):Int))).bind fun newslice1 =>
 some newslice1

/-! muntin/seg.chains -/
def ZS.s1 (cells:List Za) (x1:Int):Int×Int→Option ((Int×Int)⊕(Int⊕Unit)):=fun (first,n) =>
 ck ((0:Int)≤first∧first<(cells.length:Int)) <|
 ck ((0:Int)≤x1∧x1<4) <|
 if decide (0≤(((gi cells first.toNat).Next).get x1)) then
  if decide (n=(cells.length:Int)) then
   some (.inr (.inr ()))
  else
   ck (ZaC (n+1)) <|
   some (.inl (((gi cells first.toNat).Next).get x1,n+1))
 else
  some (.inr (.inl first))

def ZS.s2 (cells:List Za) (d:Int) (l:List (List Int)):(List Int)×(List Int)×Int→Option (((List Int)×(List Int)×Int)⊕((List Int)×(List Int))):=fun (at_2,chain,w) =>
 if decide (0≤w) then
  ck ((0:Int)≤w∧w<(at_2.length:Int)) <|
  ck (chain.length+[w].length≤1000000000) <|
  ck ((0:Int)≤w∧w<(cells.length:Int)) <|
  ck ((0:Int)≤d∧d<4) <|
  some (.inl (at_2.set w.toNat (l.length:Int),chain++[w],((gi cells w.toNat).Next).get d))
 else
  some (.inr (at_2,chain))

def ZS.s0 (cells:List Za) (d:Int) (x1:Int):(List Int)×(List (List Int))×Int→Option (((List Int)×(List (List Int))×Int)⊕(((List Int)×(List (List Int)))⊕Unit)):=fun (at_,l,x2) =>
 if decide (x2<(cells.length:Int)) then
  ck ((0:Int)≤x2∧x2<(at_.length:Int)) <|
  if decide (0≤(gi at_ x2.toNat)) then
   ck (ZaC (x2+1)) <|
   some (.inl (at_,l,x2+1))
  else
   (
    zp (ZS.s1 cells x1) big (x2,0):Option (Int⊕Unit)).bind fun o₃=>match o₃ with
   | .inl first1 =>
    (zp (ZS.s2 cells d l) big (at_,([]:List Int),first1)).bind fun (at_3,chain1) =>
    ck (l.length+1≤1000000000) <|
    ck (ZaC (x2+1)) <|
    some (.inl (at_3,l++[chain1],x2+1))
   | .inr _ =>
    some (.inr (.inr ()))
 else
  some (.inr (.inl (at_,l)))

def ZS (cells:List Za) (d:Int):Option ((List Int)×(List (List Int))×Bool) :=
 (zy ([(-1)]:List Int) (cells.length:Int)).bind fun x =>
 (ZaF d 2).bind fun x1 =>
 (
  zp (ZS.s0 cells d x1) big (x,([]:List (List Int)),0):Option (((List Int)×(List (List Int)))⊕Unit)).bind fun o₁=>match o₁ with
 | .inl (at_1,l1) =>
  some (at_1,l1,true)
 | .inr _ =>
  some (([]:List Int),([]:List (List Int)),false)

/-! muntin/seg.Of -/
def ZaX (cells:List Za):Option (ZaK×Int) :=
 (z6 cells).bind fun x =>
 if !(decide (x=0)) then
  some ((⟨([]:List Int),([]:List Int),([]:List (List Int)),([]:List (List Int))⟩:ZaK),x)
 else
  (ZS cells 1).bind fun (x1,x2,x3) =>
  (ZS cells 0).bind fun (x4,x5,x6) =>
  if (!x3)||(!x6) then
   some ((⟨([]:List Int),([]:List Int),([]:List (List Int)),([]:List (List Int))⟩:ZaK),10)
  else
   some ((⟨x1,x4,x2,x5⟩:ZaK),0)

/-! muntin/sep.lines -/
def zO.s0 (c:ZaK):(List ZO)×Int→Option (((List ZO)×Int)⊕(List ZO)):=fun (l,x) =>
 if decide (x<(c.Vert.length:Int)) then
  ck ((0:Int)≤x∧x<(c.Vert.length:Int)) <|
  if decide (1<((gi c.Vert x.toNat).length:Int)) then
   ck (l.length+[(⟨true,x⟩:ZO)].length≤1000000000) <|
   ck (ZaC (x+1)) <|
   some (.inl (l++[(⟨true,x⟩:ZO)],x+1))
  else
   ck (ZaC (x+1)) <|
   some (.inl (l,x+1))
 else
  some (.inr l)

def zO.s1 (c:ZaK):(List ZO)×Int→Option (((List ZO)×Int)⊕(List ZO)):=fun (l2,x1) =>
 if decide (x1<(c.Horz.length:Int)) then
  ck ((0:Int)≤x1∧x1<(c.Horz.length:Int)) <|
  if decide (1<((gi c.Horz x1.toNat).length:Int)) then
   ck (l2.length+[(⟨false,x1⟩:ZO)].length≤1000000000) <|
   ck (ZaC (x1+1)) <|
   some (.inl (l2++[(⟨false,x1⟩:ZO)],x1+1))
  else
   ck (ZaC (x1+1)) <|
   some (.inl (l2,x1+1))
 else
  some (.inr l2)

def zO (c:ZaK):Option (List ZO) :=
 (zp (zO.s0 c) big (([]:List ZO),0)).bind fun l1 =>
 (zp (zO.s1 c) big (l1,0)).bind fun l3 =>
 some l3

/-! muntin/sep.Lines -/
def ZaG (cells:List Za):Option ((List ZO)×Int) :=
 (ZaX cells).bind fun (x,x1) =>
 if !(decide (x1=0)) then
  some (([]:List ZO),x1)
 else
  (zO x).bind fun x2 =>
  some (x2,0)

/-! muntin/muntinref10.Check -/
def ZK.s1 (l:List Za) (v:Int):Int→Option (Int⊕(Unit⊕Int)):=fun d =>
 if decide (d<4) then
  ck ((0:Int)≤v∧v<(l.length:Int)) <|
  ck ((0:Int)≤d∧d<4) <|
  if decide (((gi l v.toNat).Next).get d=(-1)) then
   if !(decide (((gi l v.toNat).Owner).get d=0)) then
    some (.inr (.inr 9))
   else
    ck (ZaC (d+1)) <|
    some (.inl (d+1))
  else
   if ((decide ((((gi l v.toNat).Next).get d)<0))||(decide ((l.length:Int)≤(((gi l v.toNat).Next).get d))))||(decide (((gi l v.toNat).Next).get d=v)) then
    some (.inr (.inr 3))
   else
    ck (ZaC (d+2)) <|
    ck ((0:Int)≤(((gi l v.toNat).Next).get d)∧(((gi l v.toNat).Next).get d)<(l.length:Int)) <|
    ck ((0:Int)≤((d+2).tmod 4)∧((d+2).tmod 4)<4) <|
    if ((!(decide (((gi l (((gi l v.toNat).Next).get d:Int).toNat).Next).get ((d+2).tmod 4)=v)))||(!(decide (((gi l (((gi l v.toNat).Next).get d:Int).toNat).Owner).get ((d+2).tmod 4)=((gi l v.toNat).Owner).get d))))||(decide ((((gi l v.toNat).Owner).get d)<(-2))) then
     some (.inr (.inr 9))
    else
     ck (ZaC (d+1)) <|
     some (.inl (d+1))
 else
  some (.inr (.inl ()))

def ZK.s0 (l:List Za):Int→Option (Int⊕(Unit⊕Int)):=fun v =>
 if decide (v<(l.length:Int)) then
  (
   zp (ZK.s1 l v) big 0:Option (Unit⊕Int)).bind fun o₃=>match o₃ with
  | .inl _ =>
   ck (ZaC (v+1)) <|
   some (.inl (v+1))
  | .inr x1 =>
   some (.inr (.inr x1))
 else
  some (.inr (.inl ()))

def ZK (l:List Za):Option Int :=
 if decide (4096<(l.length:Int)) then
  some 6
 else
  (
   zp (ZK.s0 l) big 0:Option (Unit⊕Int)).bind fun o₁=>match o₁ with
  | .inl _ =>
   some 0
  | .inr x =>
   some x

/-! muntin/muntinref16.First -/
def zw.s0 (l:List Za) (d:Int):Int×Int→Option ((Int×Int)⊕(Unit⊕Int)):=fun (v1,n) =>
 if decide (n≤(l.length:Int)) then
  ck (ZaC (d+2)) <|
  ck ((0:Int)≤v1∧v1<(l.length:Int)) <|
  ck ((0:Int)≤((d+2).tmod 4)∧((d+2).tmod 4)<4) <|
  if decide ((((gi l v1.toNat).Next).get ((d+2).tmod 4))<0) then
   some (.inr (.inr v1))
  else
   ck (ZaC (n+1)) <|
   some (.inl (((gi l v1.toNat).Next).get ((d+2).tmod 4),n+1))
 else
  some (.inr (.inl ()))

def zw (l:List Za) (v:Int) (d:Int):Option Int :=
 (
  zp (zw.s0 l d) big (v,0):Option (Unit⊕Int)).bind fun o₁=>match o₁ with
 | .inl _ =>
  some (-1)
 | .inr x =>
  some x

/-! muntin/muntinref16.chains -/
def Zt.s1 (firsts:List Int) (x:Int):Int→Option (Int⊕Int):=fun k_ =>
 (if decide (k_<(firsts.length:Int)) then
  ck ((0:Int)≤k_∧k_<(firsts.length:Int)) <|
  some (!(decide (gi firsts k_.toNat=x)))
 else
  some false).bind fun t =>
 if t then
  ck (ZaC (k_+1)) <|
  some (.inl (k_+1))
 else
  some (.inr k_)

def Zt.s2 (l:List Za) (d:Int):(List Int)×Int→Option (((List Int)×Int)⊕(List Int)):=fun (c,w) =>
 if decide (0≤w) then
  ck (c.length+[w].length≤1000000000) <|
  ck ((0:Int)≤w∧w<(l.length:Int)) <|
  ck ((0:Int)≤d∧d<4) <|
  some (.inl (c++[w],((gi l w.toNat).Next).get d))
 else
  some (.inr c)

def Zt.s0 (l:List Za) (d:Int):(List Int)×(List Int)×(List (List Int))×Int→Option (((List Int)×(List Int)×(List (List Int))×Int)⊕(((List Int)×(List (List Int)))⊕Unit)):=fun (at_,firsts,out,v) =>
 if decide (v<(l.length:Int)) then
  (zw l v d).bind fun x =>
  if decide (x<0) then
   some (.inr (.inr ()))
  else
   (zp (Zt.s1 firsts x) big 0).bind fun k_1 =>
   ck ((0:Int)≤v∧v<(at_.length:Int)) <|
   if decide (k_1=(firsts.length:Int)) then
    ck (firsts.length+[x].length≤1000000000) <|
    (zp (Zt.s2 l d) big (([]:List Int),x)).bind fun c1 =>
    ck (out.length+1≤1000000000) <|
    ck (ZaC (v+1)) <|
    some (.inl (at_.set v.toNat k_1,firsts++[x],out++[c1],v+1))
   else
    ck (ZaC (v+1)) <|
    some (.inl (at_.set v.toNat k_1,firsts,out,v+1))
 else
  some (.inr (.inl (at_,out)))

def Zt (l:List Za) (d:Int):Option ((List Int)×(List (List Int))×Bool) :=
 ck ((0:Int)≤(l.length:Int)∧(l.length:Int)≤1000000000) <|
 (
  zp (Zt.s0 l d) big (List.replicate ((l.length:Int):Int).toNat (0:Int),([]:List Int),([]:List (List Int)),0):Option (((List Int)×(List (List Int)))⊕Unit)).bind fun o₁=>match o₁ with
 | .inl (at_1,out1) =>
  some (at_1,out1,true)
 | .inr _ =>
  some (([]:List Int),([]:List (List Int)),false)

/-! muntin/muntinref16.Of -/
def zQ (l:List Za):Option (zX×Bool) :=
 (Zt l 1).bind fun (x,x1,x2) =>
 (Zt l 0).bind fun (x3,x4,x5) =>
 if (!x2)||(!x5) then
  some ((⟨([]:List Int),([]:List Int),([]:List (List Int)),([]:List (List Int))⟩:zX),false)
 else
  some ((⟨x,x3,x1,x4⟩:zX),true)

/-! muntin/muntinref19.Lines -/
def ZR.s0 (c:zX):(List Zl)×Int→Option (((List Zl)×Int)⊕(List Zl)):=fun (l,i) =>
 if decide (i<(c.Vert.length:Int)) then
  ck ((0:Int)≤i∧i<(c.Vert.length:Int)) <|
  if decide (1<((gi c.Vert i.toNat).length:Int)) then
   ck (l.length+[(⟨true,i⟩:Zl)].length≤1000000000) <|
   ck (ZaC (i+1)) <|
   some (.inl (l++[(⟨true,i⟩:Zl)],i+1))
  else
   ck (ZaC (i+1)) <|
   some (.inl (l,i+1))
 else
  some (.inr l)

def ZR.s1 (c:zX):(List Zl)×Int→Option (((List Zl)×Int)⊕(List Zl)):=fun (l2,i1) =>
 if decide (i1<(c.Horz.length:Int)) then
  ck ((0:Int)≤i1∧i1<(c.Horz.length:Int)) <|
  if decide (1<((gi c.Horz i1.toNat).length:Int)) then
   ck (l2.length+[(⟨false,i1⟩:Zl)].length≤1000000000) <|
   ck (ZaC (i1+1)) <|
   some (.inl (l2++[(⟨false,i1⟩:Zl)],i1+1))
  else
   ck (ZaC (i1+1)) <|
   some (.inl (l2,i1+1))
 else
  some (.inr l2)

def ZR (c:zX):Option (List Zl) :=
 (zp (ZR.s0 c) big (([]:List Zl),0)).bind fun l1 =>
 (zp (ZR.s1 c) big (l1,0)).bind fun l3 =>
 some l3

/-! muntin/muntinlaw19.wakes -/
def ZaU:Option Bool:=some true
/-! muntin/muntinlaw19.SepLines -/
def ZJ.s1 (x3:List ZO) (x8:List Zl):Int→Option (Int⊕(Unit⊕Unit)):=fun x9 =>
 if decide (x9<(x3.length:Int)) then
  ck ((0:Int)≤x9∧x9<(x3.length:Int)) <|
  ck ((0:Int)≤x9∧x9<(x8.length:Int)) <|
  if (!(decide (((gi x3 x9.toNat).Vertical)=((gi x8 x9.toNat).Vertical))))||(!(decide ((gi x3 x9.toNat).Place=(gi x8 x9.toNat).Place))) then
   some (.inr (.inr ()))
  else
   ck (ZaC (x9+1)) <|
   some (.inl (x9+1))
 else
  some (.inr (.inl ()))

def ZJ.s0 (raw:List Za) (x:List Za):Int→Option (Int⊕(Unit⊕Unit)):=fun x2 =>
 if decide (x2<([x,raw.take (min (raw.length:Int) 5:Int).toNat].length:Int)) then
  ck ((0:Int)≤x2∧x2<([x,raw.take (min (raw.length:Int) 5:Int).toNat].length:Int)) <|
  (ZaG (gi [x,raw.take (min (raw.length:Int) 5:Int).toNat] x2.toNat)).bind fun (x3,x4) =>
  (ZK (gi [x,raw.take (min (raw.length:Int) 5:Int).toNat] x2.toNat)).bind fun x5 =>
  if !(decide (x5=0)) then
   if (!(decide (x4=x5)))||(decide (0<(x3.length:Int))) then
    some (.inr (.inr ()))
   else
    ck (ZaC (x2+1)) <|
    some (.inl (x2+1))
  else
   (zQ (gi [x,raw.take (min (raw.length:Int) 5:Int).toNat] x2.toNat)).bind fun (x6,x7) =>
   if !x7 then
    if (!(decide (x4=10)))||(decide (0<(x3.length:Int))) then
     some (.inr (.inr ()))
    else
     ck (ZaC (x2+1)) <|
     some (.inl (x2+1))
   else
    (ZR x6).bind fun x8 =>
    if (!(decide (x4=0)))||(!(decide ((x3.length:Int)=(x8.length:Int)))) then
     some (.inr (.inr ()))
    else
     (
      zp (ZJ.s1 x3 x8) big 0:Option (Unit⊕Unit)).bind fun o₃=>match o₃ with
     | .inl _ =>
      ck (ZaC (x2+1)) <|
      some (.inl (x2+1))
     | .inr _ =>
      some (.inr (.inr ()))
 else
  some (.inr (.inl ()))

def ZJ (z:zb) (raw:List Za):Option Bool :=
 (Z4 z 20).bind fun (x,x1) =>
 ck ((0:Int)≤(min (raw.length:Int) 5)∧(min (raw.length:Int) 5)≤(raw.length:Int)) <|
 (
  zp (ZJ.s0 raw x) big 0:Option (Unit⊕Unit)).bind fun o₁=>match o₁ with
 | .inl _ =>
  (ZaU ).bind fun x10 =>
  some x10
 | .inr _ =>
  some false

end Mu
