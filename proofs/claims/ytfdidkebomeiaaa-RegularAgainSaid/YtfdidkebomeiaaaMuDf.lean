/- What the functions work out. -/
import Derived.Test.YtfdidkebomeiaaaMuA
import Derived.Test.YtfdidkebomeiaaaMuR
set_option linter.unusedVariables false
set_option linter.unnecessarySimpa false
set_option linter.unusedSimpArgs false
set_option maxHeartbeats 2000000
set_option maxRecDepth 10000
namespace Mu
open Go (IntKind BinOp UnOp)
structure ZU where
 At:List Int
 Bits:List Int
 Own:List Int
 deriving DecidableEq,Inhabited
abbrev Zhg:Enc Int:=⟨1,fun x=>[.i .u8 x],fun _=>rfl⟩
theorem Zhg.one (x:Int):(Zhg.c x).all V.one=true:=rfl
abbrev Zjl:Enc Int:=⟨1,fun x=>[.i .i8 x],fun _=>rfl⟩
theorem Zjl.one (x:Int):(Zjl.c x).all V.one=true:=rfl
abbrev e_bool:Enc Bool:=⟨1,fun x=>[.b x],fun _=>rfl⟩
theorem e_bool.one (x:Bool):(e_bool.c x).all V.one=true:=rfl
structure Za where
 Next:A4 Int
 Owner:A4 Int
 deriving DecidableEq,Inhabited
structure Zk where
 X:Int
 Y:Int
 deriving DecidableEq,Inhabited
abbrev Zs:Enc Zk:=⟨2,fun x=>[.i .i64 x.X,.i .i64 x.Y],fun _=>rfl⟩
theorem Zs.one (x:Zk):(Zs.c x).all V.one=true:=rfl
theorem Zs.same (x y:Zk):zu [.i,.i] (Zs.c x) (Zs.c y)=some (decide (x=y)):=by
 obtain ⟨x1,x2⟩:=x;obtain ⟨y1,y2⟩:=y;refine (Zbs (Zbs Ze4)).trans ?_;congr 1;rw [Bool.eq_iff_iff];simp [and_assoc]
abbrev Zc:Enc Za:=⟨8,fun x=>[.i .i64 x.Next.a,.i .i64 x.Next.b,.i .i64 x.Next.c,.i .i64 x.Next.d,.i .i64 x.Owner.a,.i .i64 x.Owner.b,.i .i64 x.Owner.c,.i .i64 x.Owner.d],fun _=>rfl⟩
theorem Zc.one (x:Za):(Zc.c x).all V.one=true:=rfl
theorem Zc.same (x y:Za):zu [.i,.i,.i,.i,.i,.i,.i,.i] (Zc.c x) (Zc.c y)=some (decide (x=y)):=by
 obtain ⟨⟨x1,x2,x3,x4⟩,⟨x5,x6,x7,x8⟩⟩:=x;obtain ⟨⟨y1,y2,y3,y4⟩,⟨y5,y6,y7,y8⟩⟩:=y;refine (Zbs (Zbs (Zbs (Zbs (Zbs (Zbs (Zbs (Zbs Ze4)))))))).trans ?_;congr 1;rw [Bool.eq_iff_iff];simp [and_assoc]
structure Zr where
 Cell:Int
 Dir:Int
 deriving DecidableEq,Inhabited
abbrev Zh:Enc Zr:=⟨2,fun x=>[.i .i64 x.Cell,.i .i64 x.Dir],fun _=>rfl⟩
theorem Zh.one (x:Zr):(Zh.c x).all V.one=true:=rfl
theorem Zh.same (x y:Zr):zu [.i,.i] (Zh.c x) (Zh.c y)=some (decide (x=y)):=by
 obtain ⟨x1,x2⟩:=x;obtain ⟨y1,y2⟩:=y;refine (Zbs (Zbs Ze4)).trans ?_;congr 1;rw [Bool.eq_iff_iff];simp [and_assoc]
abbrev ZbJ:Enc (A4 Int):=⟨4,fun x=>[.i .i64 x.a,.i .i64 x.b,.i .i64 x.c,.i .i64 x.d],fun _=>rfl⟩
theorem ZbJ.one (x:A4 Int):(ZbJ.c x).all V.one=true:=rfl
structure z9 where
 cells:List Za
 deriving DecidableEq,Inhabited
structure Zl where
 At:Int
 Part:Int
 deriving DecidableEq,Inhabited
abbrev Zj:Enc Zl:=⟨2,fun x=>[.i .i64 x.At,.i .i64 x.Part],fun _=>rfl⟩
theorem Zj.one (x:Zl):(Zj.c x).all V.one=true:=rfl
def ZgF (x:Int):Prop:=Wf .u8 x
def ZiG (x:Int):Prop:=Wf .i8 x
def ZeU (x:Bool):Prop:=True
/-! muntin/muntinref10.New -/
def ZM.s1 (v:Int):(List Za)×Int→Option (((List Za)×Int)⊕(List Za)):=fun (l2,d) =>
 if decide (d<4) then
  ck ((0:Int)≤v∧v<(l2.length:Int)) <|
  ck ((0:Int)≤d∧d<4) <|
  ck (Zav (d+1)) <|
  some (.inl (l2.set v.toNat ({ gi l2 v.toNat with Next:=((gi l2 v.toNat).Next).set d (-1) }),d+1))
 else
  some (.inr l2)

def ZM.s0 (n:Int):(List Za)×Int→Option (((List Za)×Int)⊕(List Za)):=fun (l,v) =>
 if decide (v<n) then
  (za (ZM.s1 v) big (l,0)).bind fun l3 =>
  ck (Zav (v+1)) <|
  some (.inl (l3,v+1))
 else
  some (.inr l)

def ZM (n:Int):Option (List Za) :=
 ck ((0:Int)≤n∧n≤1000000000) <|
 (za (ZM.s0 n) big (List.replicate n.toNat (⟨⟨0,0,0,0⟩,⟨0,0,0,0⟩⟩:Za),0)).bind fun l1 =>
 some l1

/-! muntin/muntinref10.Nearest -/
def Z9.s0 (at_:List Zk) (i:Int) (d:Int):Int×Int→Option ((Int×Int)⊕Int):=fun (best,k_) =>
 if decide (k_<(at_.length:Int)) then
  (if decide (d=0) then
   ck ((0:Int)≤k_∧k_<(at_.length:Int)) <|
   ck ((0:Int)≤i∧i<(at_.length:Int)) <|
   some (decide ((gi at_ k_.toNat).Y=(gi at_ i.toNat).Y))
  else
   some false).bind fun t =>
  (if t then
   ck ((0:Int)≤k_∧k_<(at_.length:Int)) <|
   ck ((0:Int)≤i∧i<(at_.length:Int)) <|
   some (decide (((gi at_ i.toNat).X)<((gi at_ k_.toNat).X)))
  else
   some false).bind fun t1 =>
  (if t1 then
   (if decide (best<0) then
    some true
   else
    ck ((0:Int)≤k_∧k_<(at_.length:Int)) <|
    ck ((0:Int)≤best∧best<(at_.length:Int)) <|
    some (decide (((gi at_ k_.toNat).X)<((gi at_ best.toNat).X)))).bind fun t3 =>
   some t3
  else
   some false).bind fun t2 =>
  (
   if t2 then
    some k_
   else
    some best).bind fun best2 =>
  (if decide (d=1) then
   ck ((0:Int)≤k_∧k_<(at_.length:Int)) <|
   ck ((0:Int)≤i∧i<(at_.length:Int)) <|
   some (decide ((gi at_ k_.toNat).X=(gi at_ i.toNat).X))
  else
   some false).bind fun t4 =>
  (if t4 then
   ck ((0:Int)≤k_∧k_<(at_.length:Int)) <|
   ck ((0:Int)≤i∧i<(at_.length:Int)) <|
   some (decide (((gi at_ i.toNat).Y)<((gi at_ k_.toNat).Y)))
  else
   some false).bind fun t5 =>
  (if t5 then
   (if decide (best2<0) then
    some true
   else
    ck ((0:Int)≤k_∧k_<(at_.length:Int)) <|
    ck ((0:Int)≤best2∧best2<(at_.length:Int)) <|
    some (decide (((gi at_ k_.toNat).Y)<((gi at_ best2.toNat).Y)))).bind fun t7 =>
   some t7
  else
   some false).bind fun t6 =>
  if t6 then
   ck (Zav (k_+1)) <|
   some (.inl (k_,k_+1))
  else
   ck (Zav (k_+1)) <|
   some (.inl (best2,k_+1))
 else
  some (.inr best)

def Z9 (at_:List Zk) (i:Int) (d:Int):Option Int :=
 (za (Z9.s0 at_ i d) big ((-1),0)).bind fun best1 =>
 some best1

/-! muntin/muntinref10.Crossed -/
def Z8.s1 (at_:List Zk) (l:List Za) (i:Int) (w:Int) (a:Int):Int→Option (Int⊕(Unit⊕Unit)):=fun d =>
 if decide (d<2) then
  ck ((0:Int)≤a∧a<(l.length:Int)) <|
  ck ((0:Int)≤d∧d<4) <|
  if decide ((((gi l a.toNat).Next).get d)<0) then
   ck (Zav (d+1)) <|
   some (.inl (d+1))
  else
   ck ((0:Int)≤a∧a<(at_.length:Int)) <|
   ck ((0:Int)≤(((gi l a.toNat).Next).get d)∧(((gi l a.toNat).Next).get d)<(at_.length:Int)) <|
   (if decide ((gi at_ a.toNat).Y=(gi at_ (((gi l a.toNat).Next).get d:Int).toNat).Y) then
    ck ((0:Int)≤i∧i<(at_.length:Int)) <|
    ck ((0:Int)≤w∧w<(at_.length:Int)) <|
    some (decide ((gi at_ i.toNat).X=(gi at_ w.toNat).X))
   else
    some false).bind fun t =>
   (if t then
    ck ((0:Int)≤i∧i<(at_.length:Int)) <|
    some (decide (((gi at_ a.toNat).X)<((gi at_ i.toNat).X)))
   else
    some false).bind fun t1 =>
   (if t1 then
    ck ((0:Int)≤i∧i<(at_.length:Int)) <|
    some (decide (((gi at_ i.toNat).X)<((gi at_ (((gi l a.toNat).Next).get d:Int).toNat).X)))
   else
    some false).bind fun t2 =>
   (if t2 then
    ck ((0:Int)≤i∧i<(at_.length:Int)) <|
    some (decide (((gi at_ i.toNat).Y)<((gi at_ a.toNat).Y)))
   else
    some false).bind fun t3 =>
   (if t3 then
    ck ((0:Int)≤w∧w<(at_.length:Int)) <|
    some (decide (((gi at_ a.toNat).Y)<((gi at_ w.toNat).Y)))
   else
    some false).bind fun t4 =>
   if t4 then
    some (.inr (.inr ()))
   else
    (if decide ((gi at_ a.toNat).X=(gi at_ (((gi l a.toNat).Next).get d:Int).toNat).X) then
     ck ((0:Int)≤i∧i<(at_.length:Int)) <|
     ck ((0:Int)≤w∧w<(at_.length:Int)) <|
     some (decide ((gi at_ i.toNat).Y=(gi at_ w.toNat).Y))
    else
     some false).bind fun t5 =>
    (if t5 then
     ck ((0:Int)≤i∧i<(at_.length:Int)) <|
     some (decide (((gi at_ i.toNat).X)<((gi at_ a.toNat).X)))
    else
     some false).bind fun t6 =>
    (if t6 then
     ck ((0:Int)≤w∧w<(at_.length:Int)) <|
     some (decide (((gi at_ a.toNat).X)<((gi at_ w.toNat).X)))
    else
     some false).bind fun t7 =>
    (if t7 then
     ck ((0:Int)≤i∧i<(at_.length:Int)) <|
     some (decide (((gi at_ a.toNat).Y)<((gi at_ i.toNat).Y)))
    else
     some false).bind fun t8 =>
    (if t8 then
     ck ((0:Int)≤i∧i<(at_.length:Int)) <|
     some (decide (((gi at_ i.toNat).Y)<((gi at_ (((gi l a.toNat).Next).get d:Int).toNat).Y)))
    else
     some false).bind fun t9 =>
    if t9 then
     some (.inr (.inr ()))
    else
     ck (Zav (d+1)) <|
     some (.inl (d+1))
 else
  some (.inr (.inl ()))

def Z8.s0 (at_:List Zk) (l:List Za) (i:Int) (w:Int):Int→Option (Int⊕(Unit⊕Unit)):=fun a =>
 if decide (a<(l.length:Int)) then
  (
   za (Z8.s1 at_ l i w a) big 0:Option (Unit⊕Unit)).bind fun o₃=>match o₃ with
  | .inl _ =>
   ck (Zav (a+1)) <|
   some (.inl (a+1))
  | .inr _ =>
   some (.inr (.inr ()))
 else
  some (.inr (.inl ()))

def Z8 (at_:List Zk) (l:List Za) (i:Int) (w:Int):Option Bool :=
 (
  za (Z8.s0 at_ l i w) big 0:Option (Unit⊕Unit)).bind fun o₁=>match o₁ with
 | .inl _ =>
  some false
 | .inr _ =>
  some true

/-! muntin/muntinref10.with -/
def zq.s0 (l:List Za) (v:Int) (d:Int) (w:Int) (o:Int):(List Za)×Int→Option (((List Za)×Int)⊕(List Za)):=fun (out,i) =>
 if decide (i<(l.length:Int)) then
  ck ((0:Int)≤i∧i<(l.length:Int)) <|
  (
   if decide (i=v) then
    ck ((0:Int)≤d∧d<4) <|
    some ({ { gi l i.toNat with Next:=((gi l i.toNat).Next).set d w } with Owner:=(({ gi l i.toNat with Next:=((gi l i.toNat).Next).set d w }).Owner).set d o })
   else
    some (gi l i.toNat)).bind fun c =>
  if decide (i=w) then
   ck (Zav (d+2)) <|
   ck ((0:Int)≤((d+2).tmod 4)∧((d+2).tmod 4)<4) <|
   ck (out.length+[{ { c with Next:=c.Next.set ((d+2).tmod 4) v } with Owner:=(({ c with Next:=c.Next.set ((d+2).tmod 4) v }).Owner).set ((d+2).tmod 4) o }].length≤1000000000) <|
   ck (Zav (i+1)) <|
   some (.inl (out++[{ { c with Next:=c.Next.set ((d+2).tmod 4) v } with Owner:=(({ c with Next:=c.Next.set ((d+2).tmod 4) v }).Owner).set ((d+2).tmod 4) o }],i+1))
  else
   ck (out.length+[c].length≤1000000000) <|
   ck (Zav (i+1)) <|
   some (.inl (out++[c],i+1))
 else
  some (.inr out)

def zq (l:List Za) (v:Int) (d:Int) (w:Int) (o:Int):Option (List Za) :=
 (za (zq.s0 l v d w o) big (([]:List Za),0)).bind fun out1 =>
 some out1

/-! muntin/muntinref10.Make -/
def Zz.s1 (z:ZU) (at_:List Zk) (i:Int):Bool×Int→Option ((Bool×Int)⊕((List Zk)×Bool)):=fun (met,k_) =>
 if decide (k_<(at_.length:Int)) then
  (if met then
   some true
  else
   ck ((0:Int)≤k_∧k_<(at_.length:Int)) <|
   some (decide (gi at_ k_.toNat=(⟨(gi z.At i.toNat).tmod 8,((gi z.At i.toNat).tdiv 8).tmod 8⟩:Zk)))).bind fun t =>
  ck (Zav (k_+1)) <|
  some (.inl (t,k_+1))
 else
  some (.inr (at_,met))

def Zz.s0 (z:ZU) (most:Int):(List Zk)×Int→Option (((List Zk)×Int)⊕(List Zk)):=fun (at_,i) =>
 if (decide (i<(z.At.length:Int)))&&(decide ((at_.length:Int)<most)) then
  ck ((0:Int)≤i∧i<(z.At.length:Int)) <|
  ck (inK .i64 (gi z.At i.toNat)) <|
  ck ((8:Int)≠0∧Zav ((gi z.At i.toNat).tdiv 8)) <|
  (za (Zz.s1 z at_ i) big (false,0)).bind fun (at_2,met1) =>
  if !met1 then
   ck (at_2.length+[(⟨(gi z.At i.toNat).tmod 8,((gi z.At i.toNat).tdiv 8).tmod 8⟩:Zk)].length≤1000000000) <|
   ck (Zav (i+1)) <|
   some (.inl (at_2++[(⟨(gi z.At i.toNat).tmod 8,((gi z.At i.toNat).tdiv 8).tmod 8⟩:Zk)],i+1))
  else
   ck (Zav (i+1)) <|
   some (.inl (at_2,i+1))
 else
  some (.inr at_)

def Zz.s3 (i1:Int) (bits:Int) (at_6:List Zk) (own:Int):(List Za)×Int→Option (((List Za)×Int)⊕(List Za)):=fun (l4,d) =>
 if decide (d<2) then
  (Z9 at_6 i1 d).bind fun x1 =>
  ck ((0:Int)≤d) <|
  if (decide (Zx .u8 (ZK .u8 bits d) 1=0))||(decide (x1<0)) then
   ck (Zav (d+1)) <|
   some (.inl (l4,d+1))
  else
   (Z8 at_6 l4 i1 x1).bind fun x2 =>
   if !x2 then
    (zq l4 i1 d x1 own).bind fun x3 =>
    ck (Zav (d+1)) <|
    some (.inl (x3,d+1))
   else
    ck (Zav (d+1)) <|
    some (.inl (l4,d+1))
 else
  some (.inr l4)

def Zz.s2 (z:ZU):(List Zk)×(List Za)×Int→Option (((List Zk)×(List Za)×Int)⊕((List Zk)×(List Za))):=fun (at_3,l,i1) =>
 if decide (i1<(at_3.length:Int)) then
  (
   if decide (i1<(z.Bits.length:Int)) then
    ck ((0:Int)≤i1∧i1<(z.Bits.length:Int)) <|
    some (at_3,l,gi z.Bits i1.toNat)
   else
    some (at_3,l,3)).bind fun (at_5,l2,bits) =>
  (
   if decide (i1<(z.Own.length:Int)) then
    ck ((0:Int)≤i1∧i1<(z.Own.length:Int)) <|
    ck (inK .i64 (gi z.Own i1.toNat)) <|
    if decide ((gi z.Own i1.toNat)<(-2)) then
     ck (Zav (-(gi z.Own i1.toNat))) <|
     some (at_5,l2,-(gi z.Own i1.toNat))
    else
     some (at_5,l2,gi z.Own i1.toNat)
   else
    some (at_5,l2,i1)).bind fun (at_6,l3,own) =>
  (za (Zz.s3 i1 bits at_6 own) big (l3,0)).bind fun l5 =>
  ck (Zav (i1+1)) <|
  some (.inl (at_6,l5,i1+1))
 else
  some (.inr (at_3,l))

def Zz (z:ZU) (most:Int):Option ((List Za)×(List Zk)) :=
 (za (Zz.s0 z most) big (([]:List Zk),0)).bind fun at_1 =>
 (ZM (at_1.length:Int)).bind fun x =>
 (za (Zz.s2 z) big (at_1,x,0)).bind fun (at_4,l1) =>
 some (l1,at_4)

/-! muntin/compass.Good -/
def zG (d:Int):Option Bool :=
 some ((decide (0≤d))&&(decide (d≤3)))

/-! muntin/compass.Left -/
def zf (d:Int) (times:Int):Option Int :=
 (zG d).bind fun x =>
 if !x then
  some 0
 else
  ck (Zav (d+(times.tmod 4))) <|
  ck (Zav ((d+(times.tmod 4))+4)) <|
  some (((d+(times.tmod 4))+4).tmod 4)

/-! muntin/grid.side -/
def ZbM (cells:List Za) (v:Int) (d:Int):Option Int :=
 ck ((0:Int)≤v∧v<(cells.length:Int)) <|
 ck ((0:Int)≤d∧d<4) <|
 if decide (((gi cells v.toNat).Next).get d=(-1)) then
  if !(decide (((gi cells v.toNat).Owner).get d=0)) then
   some 9
  else
   some 0
 else
  if ((decide ((((gi cells v.toNat).Next).get d)<0))||(decide ((cells.length:Int)≤(((gi cells v.toNat).Next).get d))))||(decide (((gi cells v.toNat).Next).get d=v)) then
   some 3
  else
   (zf d 2).bind fun x =>
   ck ((0:Int)≤(((gi cells v.toNat).Next).get d)∧(((gi cells v.toNat).Next).get d)<(cells.length:Int)) <|
   ck ((0:Int)≤x∧x<4) <|
   if ((!(decide (((gi cells (((gi cells v.toNat).Next).get d:Int).toNat).Next).get x=v)))||(!(decide (((gi cells (((gi cells v.toNat).Next).get d:Int).toNat).Owner).get x=((gi cells v.toNat).Owner).get d))))||(decide ((((gi cells v.toNat).Owner).get d)<(-2))) then
    some 9
   else
    some 0

/-! muntin/grid.Check -/
def ZT.s1 (cells:List Za) (x:Int):Int→Option (Int⊕(Unit⊕Int)):=fun x2 =>
 if decide (x2<4) then
  (ZbM cells x x2).bind fun x4 =>
  if !(decide (x4=0)) then
   some (.inr (.inr x4))
  else
   ck (Zav (x2+1)) <|
   some (.inl (x2+1))
 else
  some (.inr (.inl ()))

def ZT.s0 (cells:List Za):Int→Option (Int⊕(Unit⊕Int)):=fun x =>
 if decide (x<(cells.length:Int)) then
  (
   za (ZT.s1 cells x) big 0:Option (Unit⊕Int)).bind fun o₃=>match o₃ with
  | .inl _ =>
   ck (Zav (x+1)) <|
   some (.inl (x+1))
  | .inr x3 =>
   some (.inr (.inr x3))
 else
  some (.inr (.inl ()))

def ZT (cells:List Za):Option Int :=
 if decide (4096<(cells.length:Int)) then
  some 6
 else
  (
   za (ZT.s0 cells) big 0:Option (Unit⊕Int)).bind fun o₁=>match o₁ with
  | .inl _ =>
   some 0
  | .inr x1 =>
   some x1

/-! math/bits.Mul64 -/
def Zcx (x:Int) (y:Int):Option (Int×Int) :=
 some (zS .u64 (zS .u64 (ZS .u64 (ZK .u64 x 32) (ZK .u64 y 32)) (ZK .u64 (zS .u64 (ZS .u64 (ZK .u64 x 32) (Zx .u64 y 4294967295)) (ZK .u64 (ZS .u64 (Zx .u64 x 4294967295) (Zx .u64 y 4294967295)) 32)) 32)) (ZK .u64 (zS .u64 (Zx .u64 (zS .u64 (ZS .u64 (ZK .u64 x 32) (Zx .u64 y 4294967295)) (ZK .u64 (ZS .u64 (Zx .u64 x 4294967295) (Zx .u64 y 4294967295)) 32)) 4294967295) (ZS .u64 (Zx .u64 x 4294967295) (ZK .u64 y 32))) 32),ZS .u64 x y)

/-! math/bits.Mul -/
def Zcf (x:Int) (y:Int):Option (Int×Int) :=
 (Zcx x y).bind fun (x1,x2) =>
 some (x1,x2)

/-! slices.Repeat[[]int,int] -/
def zj.s0:(List Int)×Int→Option (((List Int)×Int)⊕(List Int)):=fun (newslice,n) =>
 if decide (n<(newslice.length:Int)) then
  ck ((0:Int)≤n∧n≤(newslice.length:Int)) <|
  ck (Zav (n+((min (newslice.take n.toNat).length (newslice.drop n.toNat).length:Nat):Int))) <|
  some (.inl (newslice.take n.toNat++((newslice.take n.toNat).take (newslice.drop n.toNat).length++(newslice.drop n.toNat).drop (newslice.take n.toNat).length),n+((min (newslice.take n.toNat).length (newslice.drop n.toNat).length:Nat):Int)))
 else
  some (.inr newslice)

def zj (x:List Int) (count:Int):Option (List Int) :=
 (
  if decide (count<0) then
   none
  else
   some ()).bind fun _ =>
 ck (inK .u64 (x.length:Int)) <|
 ck (inK .u64 count) <|
 (Zcf (x.length:Int) count).bind fun (x1,x2) =>
 (
  if (decide (0<x1))||(decide (9223372036854775807<x2)) then
   none
  else
   some ()).bind fun _ =>
 ck (inK .i64 x2) <|
 ck ((0:Int)≤x2∧x2≤1000000000) <|
 (za zj.s0 big (x.take (List.replicate x2.toNat (0:Int)).length++(List.replicate x2.toNat (0:Int)).drop x.length,((min x.length (List.replicate x2.toNat (0:Int)).length:Nat):Int))).bind fun newslice1 =>
 some newslice1

/-! muntin/join.spread -/
def z8.s1 (cells:List Za) (l:List Int):(List Int)×(List Int)×(List Int)×(List Bool)×Int→Option (((List Int)×(List Int)×(List Int)×(List Bool)×Int)⊕((List Int)×(List Int)×(List Int)×(List Bool))):=fun (from_2,dir2,l1,met1,x2) =>
 if decide (x2<4) then
  ck ((0:Int)≤(gi l (0:Int).toNat)∧(gi l (0:Int).toNat)<(cells.length:Int)) <|
  ck ((0:Int)≤x2∧x2<4) <|
  (if decide (0≤(((gi cells (gi l (0:Int).toNat:Int).toNat).Next).get x2)) then
   ck ((0:Int)≤(((gi cells (gi l (0:Int).toNat:Int).toNat).Next).get x2)∧(((gi cells (gi l (0:Int).toNat:Int).toNat).Next).get x2)<(met1.length:Int)) <|
   some (!(gi met1 (((gi cells (gi l (0:Int).toNat:Int).toNat).Next).get x2:Int).toNat))
  else
   some false).bind fun t =>
  if t then
   ck ((0:Int)≤(((gi cells (gi l (0:Int).toNat:Int).toNat).Next).get x2)∧(((gi cells (gi l (0:Int).toNat:Int).toNat).Next).get x2)<(met1.length:Int)) <|
   ck ((0:Int)≤(((gi cells (gi l (0:Int).toNat:Int).toNat).Next).get x2)∧(((gi cells (gi l (0:Int).toNat:Int).toNat).Next).get x2)<(from_2.length:Int)) <|
   ck ((0:Int)≤(((gi cells (gi l (0:Int).toNat:Int).toNat).Next).get x2)∧(((gi cells (gi l (0:Int).toNat:Int).toNat).Next).get x2)<(dir2.length:Int)) <|
   ck (l1.length+[((gi cells (gi l (0:Int).toNat:Int).toNat).Next).get x2].length≤1000000000) <|
   ck (Zav (x2+1)) <|
   some (.inl (from_2.set (((gi cells (gi l (0:Int).toNat:Int).toNat).Next).get x2:Int).toNat (gi l (0:Int).toNat),dir2.set (((gi cells (gi l (0:Int).toNat:Int).toNat).Next).get x2:Int).toNat x2,l1++[((gi cells (gi l (0:Int).toNat:Int).toNat).Next).get x2],met1.set (((gi cells (gi l (0:Int).toNat:Int).toNat).Next).get x2:Int).toNat true,x2+1))
  else
   ck (Zav (x2+1)) <|
   some (.inl (from_2,dir2,l1,met1,x2+1))
 else
  some (.inr (from_2,dir2,l1,met1))

def z8.s0 (cells:List Za):(List Int)×(List Int)×(List Int)×(List Bool)→Option (((List Int)×(List Int)×(List Int)×(List Bool))⊕((List Int)×(List Int))):=fun (from_,dir,l,met) =>
 if decide (0<(l.length:Int)) then
  ck ((0:Int)≤0∧0<(l.length:Int)) <|
  ck ((0:Int)≤1∧1≤(l.length:Int)) <|
  (za (z8.s1 cells l) big (from_,dir,l.drop (1:Int).toNat,met,0)).bind fun (from_3,dir3,l2,met2) =>
  some (.inl (from_3,dir3,l2,met2))
 else
  some (.inr (from_,dir))

def z8 (cells:List Za) (v:Int):Option ((List Int)×(List Int)) :=
 (zj ([(-1)]:List Int) (cells.length:Int)).bind fun x =>
 (zj ([(-1)]:List Int) (cells.length:Int)).bind fun x1 =>
 ck ((0:Int)≤(cells.length:Int)∧(cells.length:Int)≤1000000000) <|
 ck ((0:Int)≤v∧v<((List.replicate ((cells.length:Int):Int).toNat false).length:Int)) <|
 (za (z8.s0 cells) big (x,x1,[v],(List.replicate ((cells.length:Int):Int).toNat false).set v.toNat true)).bind fun (from_1,dir1) =>
 some (from_1,dir1)

/-! muntin/join.Parts -/
def zC.s1 (cells:List Za) (x1:Int) (x3:List Int):(List Bool)×(List Int)×Int→Option (((List Bool)×(List Int)×Int)⊕((List Bool)×(List Int))):=fun (met1,part,x4) =>
 if decide (x4<(cells.length:Int)) then
  (if decide (x4=x1) then
   some true
  else
   ck ((0:Int)≤x4∧x4<(x3.length:Int)) <|
   some (decide (0≤(gi x3 x4.toNat)))).bind fun t =>
  if t then
   ck ((0:Int)≤x4∧x4<(met1.length:Int)) <|
   ck (part.length+[x4].length≤1000000000) <|
   ck (Zav (x4+1)) <|
   some (.inl (met1.set x4.toNat true,part++[x4],x4+1))
  else
   ck (Zav (x4+1)) <|
   some (.inl (met1,part,x4+1))
 else
  some (.inr (met1,part))

def zC.s0 (cells:List Za):(List (List Int))×(List Bool)×Int→Option (((List (List Int))×(List Bool)×Int)⊕(List (List Int))):=fun (l,met,x1) =>
 if decide (x1<(cells.length:Int)) then
  ck ((0:Int)≤x1∧x1<(met.length:Int)) <|
  if gi met x1.toNat then
   ck (Zav (x1+1)) <|
   some (.inl (l,met,x1+1))
  else
   (z8 cells x1).bind fun (x2,x3) =>
   (za (zC.s1 cells x1 x3) big (met,[],0)).bind fun (met2,part1) =>
   ck (l.length+1≤1000000000) <|
   ck (Zav (x1+1)) <|
   some (.inl (l++[part1],met2,x1+1))
 else
  some (.inr l)

def zC (cells:List Za):Option ((List (List Int))×Int) :=
 (ZT cells).bind fun x =>
 if !(decide (x=0)) then
  some (([]:List (List Int)),x)
 else
  ck ((0:Int)≤(cells.length:Int)∧(cells.length:Int)≤1000000000) <|
  (za (zC.s0 cells) big (([]:List (List Int)),List.replicate ((cells.length:Int):Int).toNat false,0)).bind fun l1 =>
  some (l1,0)

/-! muntin/join.Whole -/
def Zb5 (cells:List Za):Option Bool :=
 (zC cells).bind fun (x,x1) =>
 some ((decide (x1=0))&&(decide ((x.length:Int)=1)))

/-! (muntin/face.Dart).is -/
def Zam (d:Zr) (cells:List Za):Option Bool :=
 if decide (0≤d.Cell) then
  if decide (d.Cell<(cells.length:Int)) then
   (zG d.Dir).bind fun x =>
   if x then
    ck ((0:Int)≤d.Cell∧d.Cell<(cells.length:Int)) <|
    ck ((0:Int)≤d.Dir∧d.Dir<4) <|
    some (decide (0≤(((gi cells (d.Cell:Int).toNat).Next).get d.Dir)))
   else
    some false
  else
   some false
 else
  some false

/-! (muntin/face.Dart).behind -/
def zh.s0 (d:Zr) (cells:List Za):Int→Option (Int⊕(Unit⊕Zr)):=fun x =>
 if decide (x<4) then
  ck ((0:Int)≤x∧x<4) <|
  (zf d.Dir ((⟨1,0,(-1),2⟩:A4 Int).get x)).bind fun x2 =>
  (Zam (⟨((gi cells (d.Cell:Int).toNat).Next).get d.Dir,x2⟩:Zr) cells).bind fun x3 =>
  if x3 then
   some (.inr (.inr (⟨((gi cells (d.Cell:Int).toNat).Next).get d.Dir,x2⟩:Zr)))
  else
   ck (Zav (x+1)) <|
   some (.inl (x+1))
 else
  some (.inr (.inl ()))

def zh (d:Zr) (cells:List Za):Option Zr :=
 ck ((0:Int)≤d.Cell∧d.Cell<(cells.length:Int)) <|
 ck ((0:Int)≤d.Dir∧d.Dir<4) <|
 (
  za (zh.s0 d cells) big 0:Option (Unit⊕Zr)).bind fun o₁=>match o₁ with
 | .inl _ =>
  some d
 | .inr x1 =>
  some x1

/-! muntin/face.Faces -/
def ze.s2 (cells:List Za):(List (Zr×Bool))×(List Zr)×Zr→Option (((List (Zr×Bool))×(List Zr)×Zr)⊕((List (Zr×Bool))×(List Zr))):=fun (met3,f,x4) =>
 if !(Zej false x4 met3) then
  ck (f.length+[x4].length≤1000000000) <|
  (zh x4 cells).bind fun x5 =>
  some (.inl (ZdL x4 true met3,f++[x4],x5))
 else
  some (.inr (met3,f))

def ze.s1 (cells:List Za) (x1:Int):(List (List Zr))×(List (Zr×Bool))×Int→Option (((List (List Zr))×(List (Zr×Bool))×Int)⊕((List (List Zr))×(List (Zr×Bool)))):=fun (l2,met1,x2) =>
 if decide (x2<4) then
  (Zam (⟨x1,x2⟩:Zr) cells).bind fun x3 =>
  if (!x3)||(Zej false (⟨x1,x2⟩:Zr) met1) then
   ck (Zav (x2+1)) <|
   some (.inl (l2,met1,x2+1))
  else
   (za (ze.s2 cells) big (met1,([]:List Zr),(⟨x1,x2⟩:Zr))).bind fun (met4,f1) =>
   ck (l2.length+1≤1000000000) <|
   ck (Zav (x2+1)) <|
   some (.inl (l2++[f1],met4,x2+1))
 else
  some (.inr (l2,met1))

def ze.s0 (cells:List Za):(List (List Zr))×(List (Zr×Bool))×Int→Option (((List (List Zr))×(List (Zr×Bool))×Int)⊕(List (List Zr))):=fun (l,met,x1) =>
 if decide (x1<(cells.length:Int)) then
  (za (ze.s1 cells x1) big (l,met,0)).bind fun (l3,met2) =>
  ck (Zav (x1+1)) <|
  some (.inl (l3,met2,x1+1))
 else
  some (.inr l)

def ze (cells:List Za):Option ((List (List Zr))×Int) :=
 (ZT cells).bind fun x =>
 if !(decide (x=0)) then
  some (([]:List (List Zr)),x)
 else
  (za (ze.s0 cells) big (([]:List (List Zr)),([]:List (Zr×Bool)),0)).bind fun l1 =>
  some (l1,0)

/-! muntin/compass.Turn -/
def Zbm (d:Int) (e_:Int):Option Int :=
 (zG d).bind fun x =>
 (if !x then
  some true
 else
  (zG e_).bind fun x1 =>
  some (!x1)).bind fun t =>
 if t then
  some 0
 else
  ck (Zav (e_-d)) <|
  ck (Zav ((e_-d)+4)) <|
  ck ((0:Int)≤(((e_-d)+4).tmod 4)∧(((e_-d)+4).tmod 4)<4) <|
  some ((⟨0,1,(-2),(-1)⟩:A4 Int).get (((e_-d)+4).tmod 4))

/-! muntin/face.Turns -/
def Zak.s0 (cells:List Za) (f:List Zr):(List Int)×Int→Option (((List Int)×Int)⊕(List Int)):=fun (l,x1) =>
 if decide (x1<(f.length:Int)) then
  ck ((0:Int)≤x1∧x1<(f.length:Int)) <|
  (Zam (gi f x1.toNat) cells).bind fun x2 =>
  if x2 then
   (zh (gi f x1.toNat) cells).bind fun x3 =>
   (Zbm ((gi f x1.toNat).Dir) x3.Dir).bind fun x4 =>
   ck ((0:Int)≤x1∧x1<(l.length:Int)) <|
   ck (Zav (x1+1)) <|
   some (.inl (l.set x1.toNat x4,x1+1))
  else
   ck (Zav (x1+1)) <|
   some (.inl (l,x1+1))
 else
  some (.inr l)

def Zak (cells:List Za) (f:List Zr):Option (List Int) :=
 ck ((0:Int)≤(f.length:Int)∧(f.length:Int)≤1000000000) <|
 (ZT cells).bind fun x =>
 if !(decide (x=0)) then
  some (List.replicate ((f.length:Int):Int).toNat (0:Int))
 else
  (za (Zak.s0 cells f) big (List.replicate ((f.length:Int):Int).toNat (0:Int),0)).bind fun l1 =>
  some l1

/-! muntin/face.Rotation -/
def zZ.s0 (turns:List Int):Int×Int→Option ((Int×Int)⊕Int):=fun (n,x) =>
 if decide (x<(turns.length:Int)) then
  ck ((0:Int)≤x∧x<(turns.length:Int)) <|
  if (decide ((-2)≤(gi turns x.toNat)))&&(decide ((gi turns x.toNat)≤1)) then
   ck (Zav (n+(gi turns x.toNat))) <|
   ck (Zav (x+1)) <|
   some (.inl (n+(gi turns x.toNat),x+1))
  else
   ck (Zav (x+1)) <|
   some (.inl (n,x+1))
 else
  some (.inr n)

def zZ (turns:List Int):Option Int :=
 (za (zZ.s0 turns) big (0,0)).bind fun n1 =>
 some n1

/-! muntin/valid.outer -/
def Zan.s0 (cells:List Za) (x:List (List Zr)):Int×Int→Option ((Int×Int)⊕(Int⊕Unit)):=fun (at_,x2) =>
 if decide (x2<(x.length:Int)) then
  ck ((0:Int)≤x2∧x2<(x.length:Int)) <|
  (Zak cells (gi x x2.toNat)).bind fun x3 =>
  (zZ x3).bind fun x4 =>
  if decide (x4=4) then
   ck (Zav (x2+1)) <|
   some (.inl (at_,x2+1))
  else
   if decide (x4=(-4)) then
    if decide (0≤at_) then
     some (.inr (.inr ()))
    else
     ck (Zav (x2+1)) <|
     some (.inl (x2,x2+1))
   else
    some (.inr (.inr ()))
 else
  some (.inr (.inl at_))

def Zan (cells:List Za):Option (Int×Bool) :=
 (ze cells).bind fun (x,x1) =>
 (
  za (Zan.s0 cells x) big ((-1),0):Option (Int⊕Unit)).bind fun o₁=>match o₁ with
 | .inl at_1 =>
  some (at_1,decide (0≤at_1))
 | .inr _ =>
  some (0,false)

/-! muntin/valid.Check -/
def Zbv (cells:List Za):Option Int :=
 (ZT cells).bind fun x =>
 if !(decide (x=0)) then
  some x
 else
  (Zb5 cells).bind fun x1 =>
  if !x1 then
   some 13
  else
   (Zan cells).bind fun (x2,x3) =>
   if (!x3)&&(decide (1<(cells.length:Int))) then
    some 10
   else
    some 0

/-! slices.Clone[[]muntin/api.Cell,muntin/api.Cell] -/
def zI (s:List Za):Option (List Za) :=
 ck (s.length≤1000000000) <|
 some s
/-! muntin/grid.Of -/
def Zc6 (cells:List Za):Option ((Option z9)×Int) :=
 (ZT cells).bind fun x =>
 if !(decide (x=0)) then
  some (none,x)
 else
  (zI cells).bind fun x1 =>
  some (some (⟨x1⟩:z9),0)

/-! (*muntin/grid.Grid).Cells -/
def Zaw (g:z9):Option (List Za) :=
 (zI g.cells).bind fun x =>
 some x

/-! slices.IndexFunc[[]int,int] -/
def zr.s0 (s:List Int) (f:Int→Option Bool):Int→Option (Int⊕(Unit⊕Int)):=fun x =>
 if decide (x<(s.length:Int)) then
  ck ((0:Int)≤x∧x<(s.length:Int)) <|
  (f (gi s x.toNat)).bind fun x2 =>
  if x2 then
   some (.inr (.inr x))
  else
   ck (Zav (x+1)) <|
   some (.inl (x+1))
 else
  some (.inr (.inl ()))

def zr (s:List Int) (f:Int→Option Bool):Option Int :=
 (
  za (zr.s0 s f) big 0:Option (Unit⊕Int)).bind fun o₁=>match o₁ with
 | .inl _ =>
  some (-1)
 | .inr x1 =>
  some x1

/-! slices.ContainsFunc[[]int,int] -/
def Zai (s:List Int) (f:Int→Option Bool):Option Bool :=
 (zr s f).bind fun x =>
 some (decide (0≤x))

/-! muntin/kitty.right$1 -/
def Zbr (t:Int):Option Bool :=
 some ((decide (t<(-2)))||(decide (1<t)))

/-! muntin/kitty.right -/
def Zbu (turns:List Int):Option Bool :=
 (Zai turns (fun y0=>Zbr y0)).bind fun x =>
 some (!x)

/-! muntin/kitty.Corners -/
def zg.s1 (turns:List Int) (x:Int):(List Zl)×Int→Option (((List Zl)×Int)⊕(List Zl)):=fun (l2,x1) =>
 if decide (x1<(-(gi turns x.toNat))) then
  ck (l2.length+[(⟨x,x1⟩:Zl)].length≤1000000000) <|
  ck (Zav (x1+1)) <|
  some (.inl (l2++[(⟨x,x1⟩:Zl)],x1+1))
 else
  some (.inr l2)

def zg.s0 (turns:List Int):(List Zl)×Int→Option (((List Zl)×Int)⊕(List Zl)):=fun (l,x) =>
 if decide (x<(turns.length:Int)) then
  ck ((0:Int)≤x∧x<(turns.length:Int)) <|
  if decide ((gi turns x.toNat)<(-2)) then
   ck (Zav (x+1)) <|
   some (.inl (l,x+1))
  else
   ck (Zav (-(gi turns x.toNat))) <|
   (za (zg.s1 turns x) big (l,0)).bind fun l3 =>
   ck (Zav (x+1)) <|
   some (.inl (l3,x+1))
 else
  some (.inr l)

def zg (turns:List Int):Option (List Zl) :=
 (za (zg.s0 turns) big (([]:List Zl),0)).bind fun l1 =>
 some l1

/-! muntin/kitty.sums -/
def ZaC.s0 (turns:List Int):(List Int)×Int→Option (((List Int)×Int)⊕(List Int)):=fun (l,x) =>
 if decide (x<(turns.length:Int)) then
  ck ((0:Int)≤x∧x<(turns.length:Int)) <|
  ck (Zav (x+1)) <|
  ck ((0:Int)≤x∧x<(l.length:Int)) <|
  ck (Zav ((gi l x.toNat)+(gi turns x.toNat))) <|
  ck ((0:Int)≤(x+1)∧(x+1)<(l.length:Int)) <|
  some (.inl (l.set (x+1:Int).toNat ((gi l x.toNat)+(gi turns x.toNat)),x+1))
 else
  some (.inr l)

def ZaC (turns:List Int):Option (List Int) :=
 ck (Zav ((turns.length:Int)+1)) <|
 ck ((0:Int)≤((turns.length:Int)+1)∧((turns.length:Int)+1)≤1000000000) <|
 (za (ZaC.s0 turns) big (List.replicate ((turns.length:Int)+1:Int).toNat (0:Int),0)).bind fun l1 =>
 some l1

/-! muntin/kitty.rot -/
def ZbN (l:List Int) (a:Zl) (b:Zl):Option Int :=
 ck ((0:Int)≤b.At∧b.At<(l.length:Int)) <|
 ck (Zav ((gi l (b.At:Int).toNat)-b.Part)) <|
 ck ((0:Int)≤a.At∧a.At<(l.length:Int)) <|
 ck (Zav ((gi l (a.At:Int).toNat)-a.Part)) <|
 ck (Zav (((gi l (b.At:Int).toNat)-b.Part)-((gi l (a.At:Int).toNat)-a.Part))) <|
 if (decide (b.At<a.At))||((decide (b.At=a.At))&&(decide (b.Part<a.Part))) then
  ck (Zav ((l.length:Int)-1)) <|
  ck ((0:Int)≤((l.length:Int)-1)∧((l.length:Int)-1)<(l.length:Int)) <|
  ck (Zav ((((gi l (b.At:Int).toNat)-b.Part)-((gi l (a.At:Int).toNat)-a.Part))+(gi l ((l.length:Int)-1:Int).toNat))) <|
  some ((((gi l (b.At:Int).toNat)-b.Part)-((gi l (a.At:Int).toNat)-a.Part))+(gi l ((l.length:Int)-1:Int).toNat))
 else
  some (((gi l (b.At:Int).toNat)-b.Part)-((gi l (a.At:Int).toNat)-a.Part))

/-! muntin/kitty.Pair -/
def zy.s1 (x1:List Zl) (x2:List Int) (x3:Int):Int→Option (Int⊕(Unit⊕Zl)):=fun x6 =>
 if decide (x6<(x1.length:Int)) then
  ck ((0:Int)≤x6∧x6<(x1.length:Int)) <|
  (ZbN x2 (gi x1 x3.toNat) (gi x1 x6.toNat)).bind fun x8 =>
  if decide (x8=2) then
   some (.inr (.inr (gi x1 x6.toNat)))
  else
   ck (Zav (x6+1)) <|
   some (.inl (x6+1))
 else
  some (.inr (.inl ()))

def zy.s0 (x1:List Zl) (x2:List Int):Int→Option (Int⊕(Unit⊕(Zl×Zl))):=fun x3 =>
 if decide (x3<(x1.length:Int)) then
  ck ((0:Int)≤x3∧x3<(x1.length:Int)) <|
  (
   za (zy.s1 x1 x2 x3) big 0:Option (Unit⊕Zl)).bind fun o₃=>match o₃ with
  | .inl _ =>
   ck (Zav (x3+1)) <|
   some (.inl (x3+1))
  | .inr x7 =>
   some (.inr (.inr (gi x1 x3.toNat,x7)))
 else
  some (.inr (.inl ()))

def zy (turns:List Int):Option (Zl×Zl×Bool) :=
 (Zbu turns).bind fun x =>
 if !x then
  some ((⟨(0:Int),(0:Int)⟩:Zl),(⟨(0:Int),(0:Int)⟩:Zl),false)
 else
  (zg turns).bind fun x1 =>
  (ZaC turns).bind fun x2 =>
  (
   za (zy.s0 x1 x2) big 0:Option (Unit⊕(Zl×Zl))).bind fun o₁=>match o₁ with
  | .inl _ =>
   some ((⟨(0:Int),(0:Int)⟩:Zl),(⟨(0:Int),(0:Int)⟩:Zl),false)
  | .inr (x4,x5) =>
   some (x4,x5,true)

/-! muntin/regular.pair -/
def Zad.s0 (cells:List Za) (x:List (List Zr)):Int→Option (Int⊕(Unit⊕(Int×Int×Int))):=fun x2 =>
 if decide (x2<(x.length:Int)) then
  ck ((0:Int)≤x2∧x2<(x.length:Int)) <|
  (Zak cells (gi x x2.toNat)).bind fun x6 =>
  (zy x6).bind fun (x7,x8,x9) =>
  if !x9 then
   ck (Zav (x2+1)) <|
   some (.inl (x2+1))
  else
   ck ((0:Int)≤x7.At∧x7.At<((gi x x2.toNat).length:Int)) <|
   ck ((0:Int)≤x8.At∧x8.At<((gi x x2.toNat).length:Int)) <|
   ck ((0:Int)≤((gi (gi x x2.toNat) (x7.At:Int).toNat).Cell)∧((gi (gi x x2.toNat) (x7.At:Int).toNat).Cell)<(cells.length:Int)) <|
   ck ((0:Int)≤((gi (gi x x2.toNat) (x7.At:Int).toNat).Dir)∧((gi (gi x x2.toNat) (x7.At:Int).toNat).Dir)<4) <|
   ck (Zav (-x7.Part)) <|
   (zf ((gi (gi x x2.toNat) (x7.At:Int).toNat).Dir) (-x7.Part)).bind fun x10 =>
   ck ((0:Int)≤((gi (gi x x2.toNat) (x8.At:Int).toNat).Cell)∧((gi (gi x x2.toNat) (x8.At:Int).toNat).Cell)<(cells.length:Int)) <|
   ck ((0:Int)≤((gi (gi x x2.toNat) (x8.At:Int).toNat).Dir)∧((gi (gi x x2.toNat) (x8.At:Int).toNat).Dir)<4) <|
   some (.inr (.inr (((gi cells ((gi (gi x x2.toNat) (x7.At:Int).toNat).Cell:Int).toNat).Next).get ((gi (gi x x2.toNat) (x7.At:Int).toNat).Dir),x10,((gi cells ((gi (gi x x2.toNat) (x8.At:Int).toNat).Cell:Int).toNat).Next).get ((gi (gi x x2.toNat) (x8.At:Int).toNat).Dir))))
 else
  some (.inr (.inl ()))

def Zad (cells:List Za):Option (Int×Int×Int×Bool) :=
 (ze cells).bind fun (x,x1) =>
 (
  za (Zad.s0 cells x) big 0:Option (Unit⊕(Int×Int×Int))).bind fun o₁=>match o₁ with
 | .inl _ =>
  some (0,0,0,false)
 | .inr (x3,x4,x5) =>
  some (x3,x4,x5,true)

/-! muntin/regular.horizontal -/
def ZaL (d:Int):Option Bool :=
 some ((decide (d=0))||(decide (d=2)))

/-! (*muntin/grid.Grid).Len -/
def Zbq (g:z9):Option Int :=
 some (g.cells.length:Int)

/-! (*muntin/grid.Grid).is -/
def ZaT (g:z9) (v:Int) (d:Int):Option Bool :=
 (if decide (0≤v) then
  (Zbq g).bind fun x =>
  some (decide (v<x))
 else
  some false).bind fun t =>
 (if t then
  (zG d).bind fun x1 =>
  some x1
 else
  some false).bind fun t1 =>
 some t1

/-! (*muntin/grid.Grid).lay -/
def Zbf (g:z9) (v:Int) (d:Int) (w:Int) (owner:Int):Option z9 :=
 (zf d 2).bind fun x =>
 ck ((0:Int)≤v∧v<(g.cells.length:Int)) <|
 ck ((0:Int)≤d∧d<4) <|
 ck ((0:Int)≤v∧v<((g.cells.set v.toNat ({ gi g.cells v.toNat with Next:=((gi g.cells v.toNat).Next).set d w })).length:Int)) <|
 ck ((0:Int)≤w∧w<(((g.cells.set v.toNat ({ gi g.cells v.toNat with Next:=((gi g.cells v.toNat).Next).set d w })).set v.toNat ({ gi (g.cells.set v.toNat ({ gi g.cells v.toNat with Next:=((gi g.cells v.toNat).Next).set d w })) v.toNat with Owner:=((gi (g.cells.set v.toNat ({ gi g.cells v.toNat with Next:=((gi g.cells v.toNat).Next).set d w })) v.toNat).Owner).set d owner })).length:Int)) <|
 ck ((0:Int)≤x∧x<4) <|
 ck ((0:Int)≤w∧w<((((g.cells.set v.toNat ({ gi g.cells v.toNat with Next:=((gi g.cells v.toNat).Next).set d w })).set v.toNat ({ gi (g.cells.set v.toNat ({ gi g.cells v.toNat with Next:=((gi g.cells v.toNat).Next).set d w })) v.toNat with Owner:=((gi (g.cells.set v.toNat ({ gi g.cells v.toNat with Next:=((gi g.cells v.toNat).Next).set d w })) v.toNat).Owner).set d owner })).set w.toNat ({ gi ((g.cells.set v.toNat ({ gi g.cells v.toNat with Next:=((gi g.cells v.toNat).Next).set d w })).set v.toNat ({ gi (g.cells.set v.toNat ({ gi g.cells v.toNat with Next:=((gi g.cells v.toNat).Next).set d w })) v.toNat with Owner:=((gi (g.cells.set v.toNat ({ gi g.cells v.toNat with Next:=((gi g.cells v.toNat).Next).set d w })) v.toNat).Owner).set d owner })) w.toNat with Next:=((gi ((g.cells.set v.toNat ({ gi g.cells v.toNat with Next:=((gi g.cells v.toNat).Next).set d w })).set v.toNat ({ gi (g.cells.set v.toNat ({ gi g.cells v.toNat with Next:=((gi g.cells v.toNat).Next).set d w })) v.toNat with Owner:=((gi (g.cells.set v.toNat ({ gi g.cells v.toNat with Next:=((gi g.cells v.toNat).Next).set d w })) v.toNat).Owner).set d owner })) w.toNat).Next).set x v })).length:Int)) <|
 some (⟨(((g.cells.set v.toNat ({ gi g.cells v.toNat with Next:=((gi g.cells v.toNat).Next).set d w })).set v.toNat ({ gi (g.cells.set v.toNat ({ gi g.cells v.toNat with Next:=((gi g.cells v.toNat).Next).set d w })) v.toNat with Owner:=((gi (g.cells.set v.toNat ({ gi g.cells v.toNat with Next:=((gi g.cells v.toNat).Next).set d w })) v.toNat).Owner).set d owner })).set w.toNat ({ gi ((g.cells.set v.toNat ({ gi g.cells v.toNat with Next:=((gi g.cells v.toNat).Next).set d w })).set v.toNat ({ gi (g.cells.set v.toNat ({ gi g.cells v.toNat with Next:=((gi g.cells v.toNat).Next).set d w })) v.toNat with Owner:=((gi (g.cells.set v.toNat ({ gi g.cells v.toNat with Next:=((gi g.cells v.toNat).Next).set d w })) v.toNat).Owner).set d owner })) w.toNat with Next:=((gi ((g.cells.set v.toNat ({ gi g.cells v.toNat with Next:=((gi g.cells v.toNat).Next).set d w })).set v.toNat ({ gi (g.cells.set v.toNat ({ gi g.cells v.toNat with Next:=((gi g.cells v.toNat).Next).set d w })) v.toNat with Owner:=((gi (g.cells.set v.toNat ({ gi g.cells v.toNat with Next:=((gi g.cells v.toNat).Next).set d w })) v.toNat).Owner).set d owner })) w.toNat).Next).set x v })).set w.toNat ({ gi (((g.cells.set v.toNat ({ gi g.cells v.toNat with Next:=((gi g.cells v.toNat).Next).set d w })).set v.toNat ({ gi (g.cells.set v.toNat ({ gi g.cells v.toNat with Next:=((gi g.cells v.toNat).Next).set d w })) v.toNat with Owner:=((gi (g.cells.set v.toNat ({ gi g.cells v.toNat with Next:=((gi g.cells v.toNat).Next).set d w })) v.toNat).Owner).set d owner })).set w.toNat ({ gi ((g.cells.set v.toNat ({ gi g.cells v.toNat with Next:=((gi g.cells v.toNat).Next).set d w })).set v.toNat ({ gi (g.cells.set v.toNat ({ gi g.cells v.toNat with Next:=((gi g.cells v.toNat).Next).set d w })) v.toNat with Owner:=((gi (g.cells.set v.toNat ({ gi g.cells v.toNat with Next:=((gi g.cells v.toNat).Next).set d w })) v.toNat).Owner).set d owner })) w.toNat with Next:=((gi ((g.cells.set v.toNat ({ gi g.cells v.toNat with Next:=((gi g.cells v.toNat).Next).set d w })).set v.toNat ({ gi (g.cells.set v.toNat ({ gi g.cells v.toNat with Next:=((gi g.cells v.toNat).Next).set d w })) v.toNat with Owner:=((gi (g.cells.set v.toNat ({ gi g.cells v.toNat with Next:=((gi g.cells v.toNat).Next).set d w })) v.toNat).Owner).set d owner })) w.toNat).Next).set x v })) w.toNat with Owner:=((gi (((g.cells.set v.toNat ({ gi g.cells v.toNat with Next:=((gi g.cells v.toNat).Next).set d w })).set v.toNat ({ gi (g.cells.set v.toNat ({ gi g.cells v.toNat with Next:=((gi g.cells v.toNat).Next).set d w })) v.toNat with Owner:=((gi (g.cells.set v.toNat ({ gi g.cells v.toNat with Next:=((gi g.cells v.toNat).Next).set d w })) v.toNat).Owner).set d owner })).set w.toNat ({ gi ((g.cells.set v.toNat ({ gi g.cells v.toNat with Next:=((gi g.cells v.toNat).Next).set d w })).set v.toNat ({ gi (g.cells.set v.toNat ({ gi g.cells v.toNat with Next:=((gi g.cells v.toNat).Next).set d w })) v.toNat with Owner:=((gi (g.cells.set v.toNat ({ gi g.cells v.toNat with Next:=((gi g.cells v.toNat).Next).set d w })) v.toNat).Owner).set d owner })) w.toNat with Next:=((gi ((g.cells.set v.toNat ({ gi g.cells v.toNat with Next:=((gi g.cells v.toNat).Next).set d w })).set v.toNat ({ gi (g.cells.set v.toNat ({ gi g.cells v.toNat with Next:=((gi g.cells v.toNat).Next).set d w })) v.toNat with Owner:=((gi (g.cells.set v.toNat ({ gi g.cells v.toNat with Next:=((gi g.cells v.toNat).Next).set d w })) v.toNat).Owner).set d owner })) w.toNat).Next).set x v })) w.toNat).Owner).set x owner })⟩:z9)

/-! (*muntin/grid.Grid).Join -/
def ZaY (g:z9) (v:Int) (d:Int) (w:Int) (owner:Int):Option (Int×z9) :=
 (ZaT g v d).bind fun x =>
 (if !x then
  some true
 else
  (ZaT g w d).bind fun x1 =>
  some (!x1)).bind fun t =>
 if (t||(decide (v=w)))||(decide (owner<(-2))) then
  some (2,g)
 else
  (
   ck ((0:Int)≤v∧v<(g.cells.length:Int)) <|
   ck ((0:Int)≤d∧d<4) <|
   if !(decide (((gi g.cells v.toNat).Next).get d=(-1))) then
    some true
   else
    (zf d 2).bind fun x3 =>
    ck ((0:Int)≤w∧w<(g.cells.length:Int)) <|
    ck ((0:Int)≤x3∧x3<4) <|
    some (!(decide (((gi g.cells w.toNat).Next).get x3=(-1))))).bind fun x2 =>
  if x2 then
   some (9,g)
  else
   (Zbf g v d w owner).bind fun m =>
   some (0,m)

/-! muntin/regular.Make -/
def zb.s0 (cells:List Za) (picks:List Bool):(List Za)×Int→Option (((List Za)×Int)⊕((List Za)×Int×Int)):=fun (g1,n) =>
 (Zaw (⟨g1⟩:z9)).bind fun x6 =>
 (Zad x6).bind fun (x7,x8,x9,x10) =>
 if !x10 then
  (Zaw (⟨g1⟩:z9)).bind fun x11 =>
  some (.inr (x11,n,0))
 else
  (if decide (n<(picks.length:Int)) then
   ck ((0:Int)≤n∧n<(picks.length:Int)) <|
   some (gi picks n.toNat)
  else
   some false).bind fun t =>
  (ZaL x8).bind fun x12 =>
  (
   if decide (x12=t) then
    (zf x8 1).bind fun x13 =>
    some x13
   else
    some x8).bind fun d =>
  (ZaY (⟨g1⟩:z9) x7 d x9 (-2)).bind fun (x14,m) =>
  if !(decide (x14=0)) then
   some (.inr (([]:List Za),0,x14))
  else
   ck (Zav (n+1)) <|
   some (.inl (m.cells,n+1))

def zb (cells:List Za) (picks:List Bool):Option ((List Za)×Int×Int) :=
 (Zbv cells).bind fun x =>
 if !(decide (x=0)) then
  some (([]:List Za),0,x)
 else
  (Zc6 cells).bind fun (x1,x2) =>
  (x1).bind fun g =>
  (za (zb.s0 cells picks) big (g.cells,0)).bind fun (x3,x4,x5) =>
  some (x3,x4,x5)

/-! muntin/muntinref10.Join -/
def ZaG (l:List Za) (v:Int) (d:Int) (w:Int) (o:Int):Option ((List Za)×Int) :=
 if (((((((decide (v<0))||(decide ((l.length:Int)≤v)))||(decide (w<0)))||(decide ((l.length:Int)≤w)))||(decide (v=w)))||(decide (d<0)))||(decide (3<d)))||(decide (o<(-2))) then
  some (l,2)
 else
  ck ((0:Int)≤v∧v<(l.length:Int)) <|
  ck ((0:Int)≤d∧d<4) <|
  (if !(decide (((gi l v.toNat).Next).get d=(-1))) then
   some true
  else
   ck (Zav (d+2)) <|
   ck ((0:Int)≤w∧w<(l.length:Int)) <|
   ck ((0:Int)≤((d+2).tmod 4)∧((d+2).tmod 4)<4) <|
   some (!(decide (((gi l w.toNat).Next).get ((d+2).tmod 4)=(-1))))).bind fun t =>
  if t then
   some (l,9)
  else
   (zq l v d w o).bind fun x =>
   some (x,0)

/-! muntin/muntinlaw22.plus -/
def zW.s0:(List Za)×Int→Option (((List Za)×Int)⊕(List Za)):=fun (l,x1) =>
 if decide (x1<(([0,1,0,1,2,1,2,3,2,3,0,3]:List Int).length:Int)) then
  ck ((0:Int)≤x1∧x1<(([0,1,0,1,2,1,2,3,2,3,0,3]:List Int).length:Int)) <|
  ck (Zav (x1+1)) <|
  (ZaG l x1 (gi ([0,1,0,1,2,1,2,3,2,3,0,3]:List Int) x1.toNat) ((x1+1).tmod 12) 0).bind fun (x2,x3) =>
  some (.inl (x2,x1+1))
 else
  some (.inr l)

def zW:Option (List Za) :=
 (ZM 12).bind fun x =>
 (za zW.s0 big (x,0)).bind fun l1 =>
 some l1

/-! muntin/regular.Bare -/
def Za3.s1:Za×Int→Option ((Za×Int)⊕Za):=fun (c,x2) =>
 if decide (x2<4) then
  ck ((0:Int)≤x2∧x2<4) <|
  if (decide (0≤(c.Next.get x2)))&&(decide (c.Owner.get x2=(-2))) then
   ck (Zav (x2+1)) <|
   some (.inl ({ { c with Next:=c.Next.set x2 (-1) } with Owner:=(({ c with Next:=c.Next.set x2 (-1) }).Owner).set x2 0 },x2+1))
  else
   ck (Zav (x2+1)) <|
   some (.inl (c,x2+1))
 else
  some (.inr c)

def Za3.s0 (cells:List Za):(List Za)×Int→Option (((List Za)×Int)⊕(List Za)):=fun (l,x1) =>
 if decide (x1<(cells.length:Int)) then
  ck ((0:Int)≤x1∧x1<(cells.length:Int)) <|
  (za Za3.s1 big (gi cells x1.toNat,0)).bind fun c1 =>
  ck (l.length+[c1].length≤1000000000) <|
  ck (Zav (x1+1)) <|
  some (.inl (l++[c1],x1+1))
 else
  some (.inr l)

def Za3 (cells:List Za):Option ((List Za)×Int) :=
 (ZT cells).bind fun x =>
 if !(decide (x=0)) then
  some (([]:List Za),x)
 else
  (za (Za3.s0 cells) big (([]:List Za),0)).bind fun l1 =>
  some (l1,0)

/-! muntin/muntinref10.Same -/
def ZY.s0 (a:List Za) (b:List Za):Int→Option (Int⊕(Unit⊕Unit)):=fun i =>
 if decide (i<(a.length:Int)) then
  ck ((0:Int)≤i∧i<(a.length:Int)) <|
  ck ((0:Int)≤i∧i<(b.length:Int)) <|
  if !(decide (gi a i.toNat=gi b i.toNat)) then
   some (.inr (.inr ()))
  else
   ck (Zav (i+1)) <|
   some (.inl (i+1))
 else
  some (.inr (.inl ()))

def ZY (a:List Za) (b:List Za):Option Bool :=
 if !(decide ((a.length:Int)=(b.length:Int))) then
  some false
 else
  (
   za (ZY.s0 a b) big 0:Option (Unit⊕Unit)).bind fun o₁=>match o₁ with
  | .inl _ =>
   some true
  | .inr _ =>
   some false

/-! muntin/muntinlaw22.wakes -/
def Zap:Option Bool :=
 (zW ).bind fun x =>
 (zb x ([]:List Bool)).bind fun (x1,x2,x3) =>
 (Za3 x1).bind fun (x4,x5) =>
 (ZM 2).bind fun x6 =>
 (zb x6 ([]:List Bool)).bind fun (x7,x8,x9) =>
 (if (((decide (x3=0))&&(decide (0<x2)))&&(decide (x2<3)))&&(decide (x5=0)) then
  (zW ).bind fun x10 =>
  (ZY x4 x10).bind fun x11 =>
  some x11
 else
  some false).bind fun t =>
 some (t&&(decide (x9=13)))

/-! muntin/muntinlaw22.RegularAgain -/
def Zac (z:ZU) (picks:List Bool) (more:List Bool):Option Bool :=
 (Zz z 14).bind fun (x,x1) =>
 (zb x picks).bind fun (x2,x3,x4) =>
 (Zap ).bind fun x5 =>
 if (!x5)||(!(decide (x4=0))) then
  (Zap ).bind fun x6 =>
  some x6
 else
  (zb x2 more).bind fun (x7,x8,x9) =>
  (if (!(decide (x9=0)))||(!(decide (x8=0))) then
   some true
  else
   (ZY x7 x2).bind fun x10 =>
   some (!x10)).bind fun t =>
  if t then
   some false
  else
   if decide ((picks.length:Int)<x3) then
    some true
   else
    ck ((0:Int)≤x3∧x3≤(picks.length:Int)) <|
    ck (((picks.take x3.toNat).length+more.length)*1≤140737488355328) <|
    (zb x ((picks.take x3.toNat)++more)).bind fun (x11,x12,x13) =>
    (if (decide (x13=0))&&(decide (x12=x3)) then
     (ZY x11 x2).bind fun x14 =>
     some x14
    else
     some false).bind fun t1 =>
    some t1

end Mu
