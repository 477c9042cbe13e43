/- What the functions work out. -/
import Derived.Test.YtfdidkebomeiaaaMuA
import Derived.Test.YtfdidkebomeiaaaMuR
set_option linter.unusedVariables false
set_option linter.unnecessarySimpa false
set_option linter.unusedSimpArgs false
set_option maxHeartbeats 2000000
set_option maxRecDepth 10000
namespace Mu
open Go (IntKind BinOp UnOp)
structure Zao where
 At:List Int
 Bits:List Int
 Own:List Int
 deriving DecidableEq,Inhabited
structure Zbr where
 Boxes:List Bool
 Edges:List (A3 Int)
 Bends:List Int
 deriving DecidableEq,Inhabited
structure Za where
 Next:A4 Int
 Owner:A4 Int
 deriving DecidableEq,Inhabited
abbrev ZhU:Enc Int:=⟨1,fun x=>[.i .u8 x],fun _=>rfl⟩
theorem ZhU.one (x:Int):(ZhU.c x).all V.one=true:=rfl
abbrev Zmf:Enc Int:=⟨1,fun x=>[.i .i8 x],fun _=>rfl⟩
theorem Zmf.one (x:Int):(Zmf.c x).all V.one=true:=rfl
abbrev e_bool:Enc Bool:=⟨1,fun x=>[.b x],fun _=>rfl⟩
theorem e_bool.one (x:Bool):(e_bool.c x).all V.one=true:=rfl
abbrev ZgJ:Enc (A3 Int):=⟨3,fun x=>[.i .u8 x.a,.i .u8 x.b,.i .u8 x.c],fun _=>rfl⟩
theorem ZgJ.one (x:A3 Int):(ZgJ.c x).all V.one=true:=rfl
abbrev Zd:Enc Za:=⟨8,fun x=>[.i .i64 x.Next.a,.i .i64 x.Next.b,.i .i64 x.Next.c,.i .i64 x.Next.d,.i .i64 x.Owner.a,.i .i64 x.Owner.b,.i .i64 x.Owner.c,.i .i64 x.Owner.d],fun _=>rfl⟩
theorem Zd.one (x:Za):(Zd.c x).all V.one=true:=rfl
theorem Zd.same (x y:Za):ZaU [.i,.i,.i,.i,.i,.i,.i,.i] (Zd.c x) (Zd.c y)=some (decide (x=y)):=by
 obtain ⟨⟨x1,x2,x3,x4⟩,⟨x5,x6,x7,x8⟩⟩:=x
 obtain ⟨⟨y1,y2,y3,y4⟩,⟨y5,y6,y7,y8⟩⟩:=y
 refine (ZcZ (ZcZ (ZcZ (ZcZ (ZcZ (ZcZ (ZcZ (ZcZ ZgF)))))))).trans ?_
 congr 1
 rw [Bool.eq_iff_iff]
 simp [and_assoc]
structure Z3 where
 X:Int
 Y:Int
 deriving DecidableEq,Inhabited
abbrev ZE:Enc Z3:=⟨2,fun x=>[.i .i64 x.X,.i .i64 x.Y],fun _=>rfl⟩
theorem ZE.one (x:Z3):(ZE.c x).all V.one=true:=rfl
theorem ZE.same (x y:Z3):ZaU [.i,.i] (ZE.c x) (ZE.c y)=some (decide (x=y)):=by
 obtain ⟨x1,x2⟩:=x
 obtain ⟨y1,y2⟩:=y
 refine (ZcZ (ZcZ ZgF)).trans ?_
 congr 1
 rw [Bool.eq_iff_iff]
 simp [and_assoc]
structure ZaQ where
 From:Int
 To:Int
 Dir:Int
 Bends:ByteArray
 deriving DecidableEq,Inhabited
abbrev zt:Enc ZaQ:=⟨4,fun x=>[.i .i64 x.From,.i .i64 x.To,.i .i64 x.Dir,.s x.Bends],fun _=>rfl⟩
theorem zt.one (x:ZaQ):(zt.c x).all V.one=true:=rfl
structure zX where
 Boxes:List Bool
 Edges:List ZaQ
 deriving DecidableEq,Inhabited
structure Z5 where
 Cell:Int
 Dir:Int
 deriving DecidableEq,Inhabited
abbrev Zn:Enc Z5:=⟨2,fun x=>[.i .i64 x.Cell,.i .i64 x.Dir],fun _=>rfl⟩
theorem Zn.one (x:Z5):(Zn.c x).all V.one=true:=rfl
theorem Zn.same (x y:Z5):ZaU [.i,.i] (Zn.c x) (Zn.c y)=some (decide (x=y)):=by
 obtain ⟨x1,x2⟩:=x
 obtain ⟨y1,y2⟩:=y
 refine (ZcZ (ZcZ ZgF)).trans ?_
 congr 1
 rw [Bool.eq_iff_iff]
 simp [and_assoc]
abbrev Zdi:Enc (A4 Int):=⟨4,fun x=>[.i .i64 x.a,.i .i64 x.b,.i .i64 x.c,.i .i64 x.d],fun _=>rfl⟩
theorem Zdi.one (x:A4 Int):(Zdi.c x).all V.one=true:=rfl
structure zj where
 cells:List Za
 deriving DecidableEq,Inhabited
structure Z2 where
 Cell:Int
 Dir:Int
 deriving DecidableEq,Inhabited
abbrev Zh:Enc Z2:=⟨2,fun x=>[.i .i64 x.Cell,.i .i64 x.Dir],fun _=>rfl⟩
theorem Zh.one (x:Z2):(Zh.c x).all V.one=true:=rfl
abbrev Zbk:Enc (A2 Int):=⟨2,fun x=>[.i .i64 x.a,.i .i64 x.b],fun _=>rfl⟩
theorem Zbk.one (x:A2 Int):(Zbk.c x).all V.one=true:=rfl
structure Zbf where
 Cells:List Za
 First:List Int
 Ends:List (A2 Int)
 Ways:List (List Int)
 deriving DecidableEq,Inhabited
def ZgT (x:Int):Prop:=Wf .u8 x
def Zl2 (x:Int):Prop:=Wf .i8 x
def Zjv (x:Bool):Prop:=True
def Zhk (x:A3 Int):Prop:=Wf .u8 x.a∧Wf .u8 x.b∧Wf .u8 x.c
def Zf8 (x:Za):Prop:=Wf .i64 x.Next.a∧Wf .i64 x.Next.b∧Wf .i64 x.Next.c∧Wf .i64 x.Next.d∧Wf .i64 x.Owner.a∧Wf .i64 x.Owner.b∧Wf .i64 x.Owner.c∧Wf .i64 x.Owner.d
/-! muntin/muntinref10.New -/
def ZO.s1 (v:Int):(List Za)×Int→Option (((List Za)×Int)⊕(List Za)):=fun (l2,d) =>
 if decide (d<4) then
  ck ((0:Int)≤v∧v<(l2.length:Int)) <|
  ck ((0:Int)≤d∧d<4) <|
  ck (zY (d+1)) <|
  some (.inl (l2.set v.toNat ({ gi l2 v.toNat with Next:=((gi l2 v.toNat).Next).set d (-1) }),d+1))
 else
  some (.inr l2)

def ZO.s0 (n:Int):(List Za)×Int→Option (((List Za)×Int)⊕(List Za)):=fun (l,v) =>
 if decide (v<n) then
  (ZJ (ZO.s1 v) big (l,0)).bind fun l3 =>
  ck (zY (v+1)) <|
  some (.inl (l3,v+1))
 else
  some (.inr l)

def ZO (n:Int):Option (List Za) :=
 ck ((0:Int)≤n∧n≤1000000000) <|
 (ZJ (ZO.s0 n) big (List.replicate n.toNat (⟨⟨0,0,0,0⟩,⟨0,0,0,0⟩⟩:Za),0)).bind fun l1 =>
 some l1

/-! muntin/muntinref10.Nearest -/
def zm.s0 (at_:List Z3) (i:Int) (d:Int):Int×Int→Option ((Int×Int)⊕Int):=fun (best,k_) =>
 if decide (k_<(at_.length:Int)) then
  (if decide (d=0) then
   ck ((0:Int)≤k_∧k_<(at_.length:Int)) <|
   ck ((0:Int)≤i∧i<(at_.length:Int)) <|
   some (decide ((gi at_ k_.toNat).Y=(gi at_ i.toNat).Y))
  else
   some false).bind fun t =>
  (if t then
   ck ((0:Int)≤k_∧k_<(at_.length:Int)) <|
   ck ((0:Int)≤i∧i<(at_.length:Int)) <|
   some (decide (((gi at_ i.toNat).X)<((gi at_ k_.toNat).X)))
  else
   some false).bind fun t1 =>
  (if t1 then
   (if decide (best<0) then
    some true
   else
    ck ((0:Int)≤k_∧k_<(at_.length:Int)) <|
    ck ((0:Int)≤best∧best<(at_.length:Int)) <|
    some (decide (((gi at_ k_.toNat).X)<((gi at_ best.toNat).X)))).bind fun t3 =>
   some t3
  else
   some false).bind fun t2 =>
  (
   if t2 then
    some k_
   else
    some best).bind fun best2 =>
  (if decide (d=1) then
   ck ((0:Int)≤k_∧k_<(at_.length:Int)) <|
   ck ((0:Int)≤i∧i<(at_.length:Int)) <|
   some (decide ((gi at_ k_.toNat).X=(gi at_ i.toNat).X))
  else
   some false).bind fun t4 =>
  (if t4 then
   ck ((0:Int)≤k_∧k_<(at_.length:Int)) <|
   ck ((0:Int)≤i∧i<(at_.length:Int)) <|
   some (decide (((gi at_ i.toNat).Y)<((gi at_ k_.toNat).Y)))
  else
   some false).bind fun t5 =>
  (if t5 then
   (if decide (best2<0) then
    some true
   else
    ck ((0:Int)≤k_∧k_<(at_.length:Int)) <|
    ck ((0:Int)≤best2∧best2<(at_.length:Int)) <|
    some (decide (((gi at_ k_.toNat).Y)<((gi at_ best2.toNat).Y)))).bind fun t7 =>
   some t7
  else
   some false).bind fun t6 =>
  if t6 then
   ck (zY (k_+1)) <|
   some (.inl (k_,k_+1))
  else
   ck (zY (k_+1)) <|
   some (.inl (best2,k_+1))
 else
  some (.inr best)

def zm (at_:List Z3) (i:Int) (d:Int):Option Int :=
 (ZJ (zm.s0 at_ i d) big ((-1),0)).bind fun best1 =>
 some best1

/-! muntin/muntinref10.Crossed -/
def zl.s1 (at_:List Z3) (l:List Za) (i:Int) (w:Int) (a:Int):Int→Option (Int⊕(Unit⊕Unit)):=fun d =>
 if decide (d<2) then
  ck ((0:Int)≤a∧a<(l.length:Int)) <|
  ck ((0:Int)≤d∧d<4) <|
  if decide ((((gi l a.toNat).Next).get d)<0) then
   ck (zY (d+1)) <|
   some (.inl (d+1))
  else
   ck ((0:Int)≤a∧a<(at_.length:Int)) <|
   ck ((0:Int)≤(((gi l a.toNat).Next).get d)∧(((gi l a.toNat).Next).get d)<(at_.length:Int)) <|
   (if decide ((gi at_ a.toNat).Y=(gi at_ (((gi l a.toNat).Next).get d:Int).toNat).Y) then
    ck ((0:Int)≤i∧i<(at_.length:Int)) <|
    ck ((0:Int)≤w∧w<(at_.length:Int)) <|
    some (decide ((gi at_ i.toNat).X=(gi at_ w.toNat).X))
   else
    some false).bind fun t =>
   (if t then
    ck ((0:Int)≤i∧i<(at_.length:Int)) <|
    some (decide (((gi at_ a.toNat).X)<((gi at_ i.toNat).X)))
   else
    some false).bind fun t1 =>
   (if t1 then
    ck ((0:Int)≤i∧i<(at_.length:Int)) <|
    some (decide (((gi at_ i.toNat).X)<((gi at_ (((gi l a.toNat).Next).get d:Int).toNat).X)))
   else
    some false).bind fun t2 =>
   (if t2 then
    ck ((0:Int)≤i∧i<(at_.length:Int)) <|
    some (decide (((gi at_ i.toNat).Y)<((gi at_ a.toNat).Y)))
   else
    some false).bind fun t3 =>
   (if t3 then
    ck ((0:Int)≤w∧w<(at_.length:Int)) <|
    some (decide (((gi at_ a.toNat).Y)<((gi at_ w.toNat).Y)))
   else
    some false).bind fun t4 =>
   if t4 then
    some (.inr (.inr ()))
   else
    (if decide ((gi at_ a.toNat).X=(gi at_ (((gi l a.toNat).Next).get d:Int).toNat).X) then
     ck ((0:Int)≤i∧i<(at_.length:Int)) <|
     ck ((0:Int)≤w∧w<(at_.length:Int)) <|
     some (decide ((gi at_ i.toNat).Y=(gi at_ w.toNat).Y))
    else
     some false).bind fun t5 =>
    (if t5 then
     ck ((0:Int)≤i∧i<(at_.length:Int)) <|
     some (decide (((gi at_ i.toNat).X)<((gi at_ a.toNat).X)))
    else
     some false).bind fun t6 =>
    (if t6 then
     ck ((0:Int)≤w∧w<(at_.length:Int)) <|
     some (decide (((gi at_ a.toNat).X)<((gi at_ w.toNat).X)))
    else
     some false).bind fun t7 =>
    (if t7 then
     ck ((0:Int)≤i∧i<(at_.length:Int)) <|
     some (decide (((gi at_ a.toNat).Y)<((gi at_ i.toNat).Y)))
    else
     some false).bind fun t8 =>
    (if t8 then
     ck ((0:Int)≤i∧i<(at_.length:Int)) <|
     some (decide (((gi at_ i.toNat).Y)<((gi at_ (((gi l a.toNat).Next).get d:Int).toNat).Y)))
    else
     some false).bind fun t9 =>
    if t9 then
     some (.inr (.inr ()))
    else
     ck (zY (d+1)) <|
     some (.inl (d+1))
 else
  some (.inr (.inl ()))

def zl.s0 (at_:List Z3) (l:List Za) (i:Int) (w:Int):Int→Option (Int⊕(Unit⊕Unit)):=fun a =>
 if decide (a<(l.length:Int)) then
  (
   ZJ (zl.s1 at_ l i w a) big 0:Option (Unit⊕Unit)).bind fun o₃=>match o₃ with
  | .inl _ =>
   ck (zY (a+1)) <|
   some (.inl (a+1))
  | .inr _ =>
   some (.inr (.inr ()))
 else
  some (.inr (.inl ()))

def zl (at_:List Z3) (l:List Za) (i:Int) (w:Int):Option Bool :=
 (
  ZJ (zl.s0 at_ l i w) big 0:Option (Unit⊕Unit)).bind fun o₁=>match o₁ with
 | .inl _ =>
  some false
 | .inr _ =>
  some true

/-! muntin/muntinref10.with -/
def Zae.s0 (l:List Za) (v:Int) (d:Int) (w:Int) (o:Int):(List Za)×Int→Option (((List Za)×Int)⊕(List Za)):=fun (out,i) =>
 if decide (i<(l.length:Int)) then
  ck ((0:Int)≤i∧i<(l.length:Int)) <|
  (
   if decide (i=v) then
    ck ((0:Int)≤d∧d<4) <|
    some ({ { gi l i.toNat with Next:=((gi l i.toNat).Next).set d w } with Owner:=(({ gi l i.toNat with Next:=((gi l i.toNat).Next).set d w }).Owner).set d o })
   else
    some (gi l i.toNat)).bind fun c =>
  if decide (i=w) then
   ck (zY (d+2)) <|
   ck ((0:Int)≤((d+2).tmod 4)∧((d+2).tmod 4)<4) <|
   ck (out.length+[{ { c with Next:=c.Next.set ((d+2).tmod 4) v } with Owner:=(({ c with Next:=c.Next.set ((d+2).tmod 4) v }).Owner).set ((d+2).tmod 4) o }].length≤1000000000) <|
   ck (zY (i+1)) <|
   some (.inl (out++[{ { c with Next:=c.Next.set ((d+2).tmod 4) v } with Owner:=(({ c with Next:=c.Next.set ((d+2).tmod 4) v }).Owner).set ((d+2).tmod 4) o }],i+1))
  else
   ck (out.length+[c].length≤1000000000) <|
   ck (zY (i+1)) <|
   some (.inl (out++[c],i+1))
 else
  some (.inr out)

def Zae (l:List Za) (v:Int) (d:Int) (w:Int) (o:Int):Option (List Za) :=
 (ZJ (Zae.s0 l v d w o) big (([]:List Za),0)).bind fun out1 =>
 some out1

/-! muntin/muntinref10.Make -/
def ZR.s1 (z:Zao) (at_:List Z3) (i:Int):Bool×Int→Option ((Bool×Int)⊕((List Z3)×Bool)):=fun (met,k_) =>
 if decide (k_<(at_.length:Int)) then
  (if met then
   some true
  else
   ck ((0:Int)≤k_∧k_<(at_.length:Int)) <|
   some (decide (gi at_ k_.toNat=(⟨(gi z.At i.toNat).tmod 8,((gi z.At i.toNat).tdiv 8).tmod 8⟩:Z3)))).bind fun t =>
  ck (zY (k_+1)) <|
  some (.inl (t,k_+1))
 else
  some (.inr (at_,met))

def ZR.s0 (z:Zao) (most:Int):(List Z3)×Int→Option (((List Z3)×Int)⊕(List Z3)):=fun (at_,i) =>
 if (decide (i<(z.At.length:Int)))&&(decide ((at_.length:Int)<most)) then
  ck ((0:Int)≤i∧i<(z.At.length:Int)) <|
  ck (inK .i64 (gi z.At i.toNat)) <|
  ck ((8:Int)≠0∧zY ((gi z.At i.toNat).tdiv 8)) <|
  (ZJ (ZR.s1 z at_ i) big (false,0)).bind fun (at_2,met1) =>
  if !met1 then
   ck (at_2.length+[(⟨(gi z.At i.toNat).tmod 8,((gi z.At i.toNat).tdiv 8).tmod 8⟩:Z3)].length≤1000000000) <|
   ck (zY (i+1)) <|
   some (.inl (at_2++[(⟨(gi z.At i.toNat).tmod 8,((gi z.At i.toNat).tdiv 8).tmod 8⟩:Z3)],i+1))
  else
   ck (zY (i+1)) <|
   some (.inl (at_2,i+1))
 else
  some (.inr at_)

def ZR.s3 (i1:Int) (bits:Int) (at_6:List Z3) (own:Int):(List Za)×Int→Option (((List Za)×Int)⊕(List Za)):=fun (l4,d) =>
 if decide (d<2) then
  (zm at_6 i1 d).bind fun x1 =>
  ck ((0:Int)≤d) <|
  if (decide (ZK .u8 (zD .u8 bits d) 1=0))||(decide (x1<0)) then
   ck (zY (d+1)) <|
   some (.inl (l4,d+1))
  else
   (zl at_6 l4 i1 x1).bind fun x2 =>
   if !x2 then
    (Zae l4 i1 d x1 own).bind fun x3 =>
    ck (zY (d+1)) <|
    some (.inl (x3,d+1))
   else
    ck (zY (d+1)) <|
    some (.inl (l4,d+1))
 else
  some (.inr l4)

def ZR.s2 (z:Zao):(List Z3)×(List Za)×Int→Option (((List Z3)×(List Za)×Int)⊕((List Z3)×(List Za))):=fun (at_3,l,i1) =>
 if decide (i1<(at_3.length:Int)) then
  (
   if decide (i1<(z.Bits.length:Int)) then
    ck ((0:Int)≤i1∧i1<(z.Bits.length:Int)) <|
    some (at_3,l,gi z.Bits i1.toNat)
   else
    some (at_3,l,3)).bind fun (at_5,l2,bits) =>
  (
   if decide (i1<(z.Own.length:Int)) then
    ck ((0:Int)≤i1∧i1<(z.Own.length:Int)) <|
    ck (inK .i64 (gi z.Own i1.toNat)) <|
    if decide ((gi z.Own i1.toNat)<(-2)) then
     ck (zY (-(gi z.Own i1.toNat))) <|
     some (at_5,l2,-(gi z.Own i1.toNat))
    else
     some (at_5,l2,gi z.Own i1.toNat)
   else
    some (at_5,l2,i1)).bind fun (at_6,l3,own) =>
  (ZJ (ZR.s3 i1 bits at_6 own) big (l3,0)).bind fun l5 =>
  ck (zY (i1+1)) <|
  some (.inl (at_6,l5,i1+1))
 else
  some (.inr (at_3,l))

def ZR (z:Zao) (most:Int):Option ((List Za)×(List Z3)) :=
 (ZJ (ZR.s0 z most) big (([]:List Z3),0)).bind fun at_1 =>
 (ZO (at_1.length:Int)).bind fun x =>
 (ZJ (ZR.s2 z) big (at_1,x,0)).bind fun (at_4,l1) =>
 some (l1,at_4)

/-! muntin/muntinref08.Make -/
def zM.s0 (z:Zbr) (most:Int):(List Bool)×Int→Option (((List Bool)×Int)⊕(List Bool)):=fun (s,i) =>
 if (decide (i<(z.Boxes.length:Int)))&&(decide (i<most)) then
  ck ((0:Int)≤i∧i<(z.Boxes.length:Int)) <|
  ck (s.length+[gi z.Boxes i.toNat].length≤1000000000) <|
  ck (zY (i+1)) <|
  some (.inl (s++[gi z.Boxes i.toNat],i+1))
 else
  some (.inr s)

def zM.s2 (z:Zbr) (i1:Int):ZaQ×Int→Option ((ZaQ×Int)⊕ZaQ):=fun (e_1,k_) =>
 ck ((0:Int)≤i1∧i1<(z.Bends.length:Int)) <|
 ck (inK .i64 (gi z.Bends i1.toNat)) <|
 if decide (k_<((gi z.Bends i1.toNat).tmod 4)) then
  ck (zY (2+k_)) <|
  ck ((0:Int)≤(2+k_)) <|
  if decide (ZK .u8 (zD .u8 (gi z.Bends i1.toNat) (2+k_)) 1=1) then
   ck (e_1.Bends.size+(⟨#[76]⟩:ByteArray).size≤1000000000000) <|
   ck (zY (k_+1)) <|
   some (.inl ({ e_1 with Bends:=e_1.Bends++(⟨#[76]⟩:ByteArray) },k_+1))
  else
   ck (e_1.Bends.size+(⟨#[82]⟩:ByteArray).size≤1000000000000) <|
   ck (zY (k_+1)) <|
   some (.inl ({ e_1 with Bends:=e_1.Bends++(⟨#[82]⟩:ByteArray) },k_+1))
 else
  some (.inr e_1)

def zM.s1 (z:Zbr) (most:Int) (s1:List Bool):(List ZaQ)×Int→Option (((List ZaQ)×Int)⊕(List ZaQ)):=fun (s2,i1) =>
 (if decide (i1<(z.Edges.length:Int)) then
  ck (zY (2*most)) <|
  some (decide (i1<(2*most)))
 else
  some false).bind fun t =>
 if t&&(decide (0<(s1.length:Int))) then
  ck ((0:Int)≤i1∧i1<(z.Edges.length:Int)) <|
  ck (inK .i64 ((gi z.Edges i1.toNat).get 0)) <|
  ck (((s1.length:Int):Int)≠0) <|
  ck (inK .i64 ((gi z.Edges i1.toNat).get 1)) <|
  ck (inK .i64 ((gi z.Edges i1.toNat).get 2)) <|
  (
   if decide (i1<(z.Bends.length:Int)) then
    (ZJ (zM.s2 z i1) big ((⟨((gi z.Edges i1.toNat).get 0).tmod (s1.length:Int),((gi z.Edges i1.toNat).get 1).tmod (s1.length:Int),((gi z.Edges i1.toNat).get 2).tmod 4,(⟨#[]⟩:ByteArray)⟩:ZaQ),0)).bind fun e_2 =>
    some e_2
   else
    some (⟨((gi z.Edges i1.toNat).get 0).tmod (s1.length:Int),((gi z.Edges i1.toNat).get 1).tmod (s1.length:Int),((gi z.Edges i1.toNat).get 2).tmod 4,(⟨#[]⟩:ByteArray)⟩:ZaQ)).bind fun e_ =>
  ck (s2.length+[e_].length≤1000000000) <|
  ck (zY (i1+1)) <|
  some (.inl (s2++[e_],i1+1))
 else
  some (.inr s2)

def zM (z:Zbr) (most:Int):Option zX :=
 (ZJ (zM.s0 z most) big (([]:List Bool),0)).bind fun s1 =>
 (ZJ (zM.s1 z most s1) big (([]:List ZaQ),0)).bind fun s3 =>
 some (⟨s1,s3⟩:zX)

/-! muntin/muntinref10.Join -/
def ZQ (l:List Za) (v:Int) (d:Int) (w:Int) (o:Int):Option ((List Za)×Int) :=
 if (((((((decide (v<0))||(decide ((l.length:Int)≤v)))||(decide (w<0)))||(decide ((l.length:Int)≤w)))||(decide (v=w)))||(decide (d<0)))||(decide (3<d)))||(decide (o<(-2))) then
  some (l,2)
 else
  ck ((0:Int)≤v∧v<(l.length:Int)) <|
  ck ((0:Int)≤d∧d<4) <|
  (if !(decide (((gi l v.toNat).Next).get d=(-1))) then
   some true
  else
   ck (zY (d+2)) <|
   ck ((0:Int)≤w∧w<(l.length:Int)) <|
   ck ((0:Int)≤((d+2).tmod 4)∧((d+2).tmod 4)<4) <|
   some (!(decide (((gi l w.toNat).Next).get ((d+2).tmod 4)=(-1))))).bind fun t =>
  if t then
   some (l,9)
  else
   (Zae l v d w o).bind fun x =>
   some (x,0)

/-! muntin/compass.Good -/
def Zbv (d:Int):Option Bool :=
 some ((decide (0≤d))&&(decide (d≤3)))

/-! muntin/compass.Left -/
def Zbw (d:Int) (times:Int):Option Int :=
 (Zbv d).bind fun x =>
 if !x then
  some 0
 else
  ck (zY (d+(times.tmod 4))) <|
  ck (zY ((d+(times.tmod 4))+4)) <|
  some (((d+(times.tmod 4))+4).tmod 4)

/-! muntin/grid.side -/
def Zd9 (cells:List Za) (v:Int) (d:Int):Option Int :=
 ck ((0:Int)≤v∧v<(cells.length:Int)) <|
 ck ((0:Int)≤d∧d<4) <|
 if decide (((gi cells v.toNat).Next).get d=(-1)) then
  if !(decide (((gi cells v.toNat).Owner).get d=0)) then
   some 9
  else
   some 0
 else
  if ((decide ((((gi cells v.toNat).Next).get d)<0))||(decide ((cells.length:Int)≤(((gi cells v.toNat).Next).get d))))||(decide (((gi cells v.toNat).Next).get d=v)) then
   some 3
  else
   (Zbw d 2).bind fun x =>
   ck ((0:Int)≤(((gi cells v.toNat).Next).get d)∧(((gi cells v.toNat).Next).get d)<(cells.length:Int)) <|
   ck ((0:Int)≤x∧x<4) <|
   if ((!(decide (((gi cells (((gi cells v.toNat).Next).get d:Int).toNat).Next).get x=v)))||(!(decide (((gi cells (((gi cells v.toNat).Next).get d:Int).toNat).Owner).get x=((gi cells v.toNat).Owner).get d))))||(decide ((((gi cells v.toNat).Owner).get d)<(-2))) then
    some 9
   else
    some 0

/-! muntin/grid.Check -/
def Zau.s1 (cells:List Za) (x:Int):Int→Option (Int⊕(Unit⊕Int)):=fun x2 =>
 if decide (x2<4) then
  (Zd9 cells x x2).bind fun x4 =>
  if !(decide (x4=0)) then
   some (.inr (.inr x4))
  else
   ck (zY (x2+1)) <|
   some (.inl (x2+1))
 else
  some (.inr (.inl ()))

def Zau.s0 (cells:List Za):Int→Option (Int⊕(Unit⊕Int)):=fun x =>
 if decide (x<(cells.length:Int)) then
  (
   ZJ (Zau.s1 cells x) big 0:Option (Unit⊕Int)).bind fun o₃=>match o₃ with
  | .inl _ =>
   ck (zY (x+1)) <|
   some (.inl (x+1))
  | .inr x3 =>
   some (.inr (.inr x3))
 else
  some (.inr (.inl ()))

def Zau (cells:List Za):Option Int :=
 if decide (4096<(cells.length:Int)) then
  some 6
 else
  (
   ZJ (Zau.s0 cells) big 0:Option (Unit⊕Int)).bind fun o₁=>match o₁ with
  | .inl _ =>
   some 0
  | .inr x1 =>
   some x1

/-! math/bits.Mul64 -/
def Zef (x:Int) (y:Int):Option (Int×Int) :=
 some (Zb1 .u64 (Zb1 .u64 (Zaj .u64 (zD .u64 x 32) (zD .u64 y 32)) (zD .u64 (Zb1 .u64 (Zaj .u64 (zD .u64 x 32) (ZK .u64 y 4294967295)) (zD .u64 (Zaj .u64 (ZK .u64 x 4294967295) (ZK .u64 y 4294967295)) 32)) 32)) (zD .u64 (Zb1 .u64 (ZK .u64 (Zb1 .u64 (Zaj .u64 (zD .u64 x 32) (ZK .u64 y 4294967295)) (zD .u64 (Zaj .u64 (ZK .u64 x 4294967295) (ZK .u64 y 4294967295)) 32)) 4294967295) (Zaj .u64 (ZK .u64 x 4294967295) (zD .u64 y 32))) 32),Zaj .u64 x y)

/-! math/bits.Mul -/
def ZdR (x:Int) (y:Int):Option (Int×Int) :=
 (Zef x y).bind fun (x1,x2) =>
 some (x1,x2)

/-! slices.Repeat[[]int,int] -/
def ZaE.s0:(List Int)×Int→Option (((List Int)×Int)⊕(List Int)):=fun (newslice,n) =>
 if decide (n<(newslice.length:Int)) then
  ck ((0:Int)≤n∧n≤(newslice.length:Int)) <|
  ck (zY (n+((min (newslice.take n.toNat).length (newslice.drop n.toNat).length:Nat):Int))) <|
  some (.inl (newslice.take n.toNat++((newslice.take n.toNat).take (newslice.drop n.toNat).length++(newslice.drop n.toNat).drop (newslice.take n.toNat).length),n+((min (newslice.take n.toNat).length (newslice.drop n.toNat).length:Nat):Int)))
 else
  some (.inr newslice)

def ZaE (x:List Int) (count:Int):Option (List Int) :=
 (
  if decide (count<0) then
   none
  else
   some ()).bind fun _ =>
 ck (inK .u64 (x.length:Int)) <|
 ck (inK .u64 count) <|
 (ZdR (x.length:Int) count).bind fun (x1,x2) =>
 (
  if (decide (0<x1))||(decide (9223372036854775807<x2)) then
   none
  else
   some ()).bind fun _ =>
 ck (inK .i64 x2) <|
 ck ((0:Int)≤x2∧x2≤1000000000) <|
 (ZJ ZaE.s0 big (x.take (List.replicate x2.toNat (0:Int)).length++(List.replicate x2.toNat (0:Int)).drop x.length,((min x.length (List.replicate x2.toNat (0:Int)).length:Nat):Int))).bind fun newslice1 =>
 some newslice1

/-! muntin/join.spread -/
def Zbe.s1 (cells:List Za) (l:List Int):(List Int)×(List Int)×(List Int)×(List Bool)×Int→Option (((List Int)×(List Int)×(List Int)×(List Bool)×Int)⊕((List Int)×(List Int)×(List Int)×(List Bool))):=fun (from_2,dir2,l1,met1,x2) =>
 if decide (x2<4) then
  ck ((0:Int)≤(gi l (0:Int).toNat)∧(gi l (0:Int).toNat)<(cells.length:Int)) <|
  ck ((0:Int)≤x2∧x2<4) <|
  (if decide (0≤(((gi cells (gi l (0:Int).toNat:Int).toNat).Next).get x2)) then
   ck ((0:Int)≤(((gi cells (gi l (0:Int).toNat:Int).toNat).Next).get x2)∧(((gi cells (gi l (0:Int).toNat:Int).toNat).Next).get x2)<(met1.length:Int)) <|
   some (!(gi met1 (((gi cells (gi l (0:Int).toNat:Int).toNat).Next).get x2:Int).toNat))
  else
   some false).bind fun t =>
  if t then
   ck ((0:Int)≤(((gi cells (gi l (0:Int).toNat:Int).toNat).Next).get x2)∧(((gi cells (gi l (0:Int).toNat:Int).toNat).Next).get x2)<(met1.length:Int)) <|
   ck ((0:Int)≤(((gi cells (gi l (0:Int).toNat:Int).toNat).Next).get x2)∧(((gi cells (gi l (0:Int).toNat:Int).toNat).Next).get x2)<(from_2.length:Int)) <|
   ck ((0:Int)≤(((gi cells (gi l (0:Int).toNat:Int).toNat).Next).get x2)∧(((gi cells (gi l (0:Int).toNat:Int).toNat).Next).get x2)<(dir2.length:Int)) <|
   ck (l1.length+[((gi cells (gi l (0:Int).toNat:Int).toNat).Next).get x2].length≤1000000000) <|
   ck (zY (x2+1)) <|
   some (.inl (from_2.set (((gi cells (gi l (0:Int).toNat:Int).toNat).Next).get x2:Int).toNat (gi l (0:Int).toNat),dir2.set (((gi cells (gi l (0:Int).toNat:Int).toNat).Next).get x2:Int).toNat x2,l1++[((gi cells (gi l (0:Int).toNat:Int).toNat).Next).get x2],met1.set (((gi cells (gi l (0:Int).toNat:Int).toNat).Next).get x2:Int).toNat true,x2+1))
  else
   ck (zY (x2+1)) <|
   some (.inl (from_2,dir2,l1,met1,x2+1))
 else
  some (.inr (from_2,dir2,l1,met1))

def Zbe.s0 (cells:List Za):(List Int)×(List Int)×(List Int)×(List Bool)→Option (((List Int)×(List Int)×(List Int)×(List Bool))⊕((List Int)×(List Int))):=fun (from_,dir,l,met) =>
 if decide (0<(l.length:Int)) then
  ck ((0:Int)≤0∧0<(l.length:Int)) <|
  ck ((0:Int)≤1∧1≤(l.length:Int)) <|
  (ZJ (Zbe.s1 cells l) big (from_,dir,l.drop (1:Int).toNat,met,0)).bind fun (from_3,dir3,l2,met2) =>
  some (.inl (from_3,dir3,l2,met2))
 else
  some (.inr (from_,dir))

def Zbe (cells:List Za) (v:Int):Option ((List Int)×(List Int)) :=
 (ZaE ([(-1)]:List Int) (cells.length:Int)).bind fun x =>
 (ZaE ([(-1)]:List Int) (cells.length:Int)).bind fun x1 =>
 ck ((0:Int)≤(cells.length:Int)∧(cells.length:Int)≤1000000000) <|
 ck ((0:Int)≤v∧v<((List.replicate ((cells.length:Int):Int).toNat false).length:Int)) <|
 (ZJ (Zbe.s0 cells) big (x,x1,[v],(List.replicate ((cells.length:Int):Int).toNat false).set v.toNat true)).bind fun (from_1,dir1) =>
 some (from_1,dir1)

/-! muntin/join.Parts -/
def Zbn.s1 (cells:List Za) (x1:Int) (x3:List Int):(List Bool)×(List Int)×Int→Option (((List Bool)×(List Int)×Int)⊕((List Bool)×(List Int))):=fun (met1,part,x4) =>
 if decide (x4<(cells.length:Int)) then
  (if decide (x4=x1) then
   some true
  else
   ck ((0:Int)≤x4∧x4<(x3.length:Int)) <|
   some (decide (0≤(gi x3 x4.toNat)))).bind fun t =>
  if t then
   ck ((0:Int)≤x4∧x4<(met1.length:Int)) <|
   ck (part.length+[x4].length≤1000000000) <|
   ck (zY (x4+1)) <|
   some (.inl (met1.set x4.toNat true,part++[x4],x4+1))
  else
   ck (zY (x4+1)) <|
   some (.inl (met1,part,x4+1))
 else
  some (.inr (met1,part))

def Zbn.s0 (cells:List Za):(List (List Int))×(List Bool)×Int→Option (((List (List Int))×(List Bool)×Int)⊕(List (List Int))):=fun (l,met,x1) =>
 if decide (x1<(cells.length:Int)) then
  ck ((0:Int)≤x1∧x1<(met.length:Int)) <|
  if gi met x1.toNat then
   ck (zY (x1+1)) <|
   some (.inl (l,met,x1+1))
  else
   (Zbe cells x1).bind fun (x2,x3) =>
   (ZJ (Zbn.s1 cells x1 x3) big (met,[],0)).bind fun (met2,part1) =>
   ck (l.length+1≤1000000000) <|
   ck (zY (x1+1)) <|
   some (.inl (l++[part1],met2,x1+1))
 else
  some (.inr l)

def Zbn (cells:List Za):Option ((List (List Int))×Int) :=
 (Zau cells).bind fun x =>
 if !(decide (x=0)) then
  some (([]:List (List Int)),x)
 else
  ck ((0:Int)≤(cells.length:Int)∧(cells.length:Int)≤1000000000) <|
  (ZJ (Zbn.s0 cells) big (([]:List (List Int)),List.replicate ((cells.length:Int):Int).toNat false,0)).bind fun l1 =>
  some (l1,0)

/-! muntin/join.Whole -/
def Zdp (cells:List Za):Option Bool :=
 (Zbn cells).bind fun (x,x1) =>
 some ((decide (x1=0))&&(decide ((x.length:Int)=1)))

/-! (muntin/face.Dart).is -/
def ZbN (d:Z5) (cells:List Za):Option Bool :=
 if decide (0≤d.Cell) then
  if decide (d.Cell<(cells.length:Int)) then
   (Zbv d.Dir).bind fun x =>
   if x then
    ck ((0:Int)≤d.Cell∧d.Cell<(cells.length:Int)) <|
    ck ((0:Int)≤d.Dir∧d.Dir<4) <|
    some (decide (0≤(((gi cells (d.Cell:Int).toNat).Next).get d.Dir)))
   else
    some false
  else
   some false
 else
  some false

/-! (muntin/face.Dart).behind -/
def ZaB.s0 (d:Z5) (cells:List Za):Int→Option (Int⊕(Unit⊕Z5)):=fun x =>
 if decide (x<4) then
  ck ((0:Int)≤x∧x<4) <|
  (Zbw d.Dir ((⟨1,0,(-1),2⟩:A4 Int).get x)).bind fun x2 =>
  (ZbN (⟨((gi cells (d.Cell:Int).toNat).Next).get d.Dir,x2⟩:Z5) cells).bind fun x3 =>
  if x3 then
   some (.inr (.inr (⟨((gi cells (d.Cell:Int).toNat).Next).get d.Dir,x2⟩:Z5)))
  else
   ck (zY (x+1)) <|
   some (.inl (x+1))
 else
  some (.inr (.inl ()))

def ZaB (d:Z5) (cells:List Za):Option Z5 :=
 ck ((0:Int)≤d.Cell∧d.Cell<(cells.length:Int)) <|
 ck ((0:Int)≤d.Dir∧d.Dir<4) <|
 (
  ZJ (ZaB.s0 d cells) big 0:Option (Unit⊕Z5)).bind fun o₁=>match o₁ with
 | .inl _ =>
  some d
 | .inr x1 =>
  some x1

/-! muntin/face.Faces -/
def Zan.s2 (cells:List Za):(List (Z5×Bool))×(List Z5)×Z5→Option (((List (Z5×Bool))×(List Z5)×Z5)⊕((List (Z5×Bool))×(List Z5))):=fun (met3,f,x4) =>
 if !(Zgo false x4 met3) then
  ck (f.length+[x4].length≤1000000000) <|
  (ZaB x4 cells).bind fun x5 =>
  some (.inl (ZfN x4 true met3,f++[x4],x5))
 else
  some (.inr (met3,f))

def Zan.s1 (cells:List Za) (x1:Int):(List (List Z5))×(List (Z5×Bool))×Int→Option (((List (List Z5))×(List (Z5×Bool))×Int)⊕((List (List Z5))×(List (Z5×Bool)))):=fun (l2,met1,x2) =>
 if decide (x2<4) then
  (ZbN (⟨x1,x2⟩:Z5) cells).bind fun x3 =>
  if (!x3)||(Zgo false (⟨x1,x2⟩:Z5) met1) then
   ck (zY (x2+1)) <|
   some (.inl (l2,met1,x2+1))
  else
   (ZJ (Zan.s2 cells) big (met1,([]:List Z5),(⟨x1,x2⟩:Z5))).bind fun (met4,f1) =>
   ck (l2.length+1≤1000000000) <|
   ck (zY (x2+1)) <|
   some (.inl (l2++[f1],met4,x2+1))
 else
  some (.inr (l2,met1))

def Zan.s0 (cells:List Za):(List (List Z5))×(List (Z5×Bool))×Int→Option (((List (List Z5))×(List (Z5×Bool))×Int)⊕(List (List Z5))):=fun (l,met,x1) =>
 if decide (x1<(cells.length:Int)) then
  (ZJ (Zan.s1 cells x1) big (l,met,0)).bind fun (l3,met2) =>
  ck (zY (x1+1)) <|
  some (.inl (l3,met2,x1+1))
 else
  some (.inr l)

def Zan (cells:List Za):Option ((List (List Z5))×Int) :=
 (Zau cells).bind fun x =>
 if !(decide (x=0)) then
  some (([]:List (List Z5)),x)
 else
  (ZJ (Zan.s0 cells) big (([]:List (List Z5)),([]:List (Z5×Bool)),0)).bind fun l1 =>
  some (l1,0)

/-! muntin/compass.Turn -/
def ZcQ (d:Int) (e_:Int):Option Int :=
 (Zbv d).bind fun x =>
 (if !x then
  some true
 else
  (Zbv e_).bind fun x1 =>
  some (!x1)).bind fun t =>
 if t then
  some 0
 else
  ck (zY (e_-d)) <|
  ck (zY ((e_-d)+4)) <|
  ck ((0:Int)≤(((e_-d)+4).tmod 4)∧(((e_-d)+4).tmod 4)<4) <|
  some ((⟨0,1,(-2),(-1)⟩:A4 Int).get (((e_-d)+4).tmod 4))

/-! muntin/face.Turns -/
def Zbm.s0 (cells:List Za) (f:List Z5):(List Int)×Int→Option (((List Int)×Int)⊕(List Int)):=fun (l,x1) =>
 if decide (x1<(f.length:Int)) then
  ck ((0:Int)≤x1∧x1<(f.length:Int)) <|
  (ZbN (gi f x1.toNat) cells).bind fun x2 =>
  if x2 then
   (ZaB (gi f x1.toNat) cells).bind fun x3 =>
   (ZcQ ((gi f x1.toNat).Dir) x3.Dir).bind fun x4 =>
   ck ((0:Int)≤x1∧x1<(l.length:Int)) <|
   ck (zY (x1+1)) <|
   some (.inl (l.set x1.toNat x4,x1+1))
  else
   ck (zY (x1+1)) <|
   some (.inl (l,x1+1))
 else
  some (.inr l)

def Zbm (cells:List Za) (f:List Z5):Option (List Int) :=
 ck ((0:Int)≤(f.length:Int)∧(f.length:Int)≤1000000000) <|
 (Zau cells).bind fun x =>
 if !(decide (x=0)) then
  some (List.replicate ((f.length:Int):Int).toNat (0:Int))
 else
  (ZJ (Zbm.s0 cells f) big (List.replicate ((f.length:Int):Int).toNat (0:Int),0)).bind fun l1 =>
  some l1

/-! muntin/face.Rotation -/
def ZbA.s0 (turns:List Int):Int×Int→Option ((Int×Int)⊕Int):=fun (n,x) =>
 if decide (x<(turns.length:Int)) then
  ck ((0:Int)≤x∧x<(turns.length:Int)) <|
  if (decide ((-2)≤(gi turns x.toNat)))&&(decide ((gi turns x.toNat)≤1)) then
   ck (zY (n+(gi turns x.toNat))) <|
   ck (zY (x+1)) <|
   some (.inl (n+(gi turns x.toNat),x+1))
  else
   ck (zY (x+1)) <|
   some (.inl (n,x+1))
 else
  some (.inr n)

def ZbA (turns:List Int):Option Int :=
 (ZJ (ZbA.s0 turns) big (0,0)).bind fun n1 =>
 some n1

/-! muntin/valid.outer -/
def Zb6.s0 (cells:List Za) (x:List (List Z5)):Int×Int→Option ((Int×Int)⊕(Int⊕Unit)):=fun (at_,x2) =>
 if decide (x2<(x.length:Int)) then
  ck ((0:Int)≤x2∧x2<(x.length:Int)) <|
  (Zbm cells (gi x x2.toNat)).bind fun x3 =>
  (ZbA x3).bind fun x4 =>
  if decide (x4=4) then
   ck (zY (x2+1)) <|
   some (.inl (at_,x2+1))
  else
   if decide (x4=(-4)) then
    if decide (0≤at_) then
     some (.inr (.inr ()))
    else
     ck (zY (x2+1)) <|
     some (.inl (x2,x2+1))
   else
    some (.inr (.inr ()))
 else
  some (.inr (.inl at_))

def Zb6 (cells:List Za):Option (Int×Bool) :=
 (Zan cells).bind fun (x,x1) =>
 (
  ZJ (Zb6.s0 cells x) big ((-1),0):Option (Int⊕Unit)).bind fun o₁=>match o₁ with
 | .inl at_1 =>
  some (at_1,decide (0≤at_1))
 | .inr _ =>
  some (0,false)

/-! muntin/valid.Check -/
def ZcG (cells:List Za):Option Int :=
 (Zau cells).bind fun x =>
 if !(decide (x=0)) then
  some x
 else
  (Zdp cells).bind fun x1 =>
  if !x1 then
   some 13
  else
   (Zb6 cells).bind fun (x2,x3) =>
   if (!x3)&&(decide (1<(cells.length:Int))) then
    some 10
   else
    some 0

/-! muntin/valid.Outer -/
def ZcH (cells:List Za):Option (Int×Int) :=
 (ZcG cells).bind fun x =>
 if !(decide (x=0)) then
  some (0,x)
 else
  (Zb6 cells).bind fun (x1,x2) =>
  if !x2 then
   some (0,2)
  else
   some (x1,0)

/-! slices.IndexFunc[[]int,int] -/
def zE.s0 (s:List Int) (f:Int→Option Bool):Int→Option (Int⊕(Unit⊕Int)):=fun x =>
 if decide (x<(s.length:Int)) then
  ck ((0:Int)≤x∧x<(s.length:Int)) <|
  (f (gi s x.toNat)).bind fun x2 =>
  if x2 then
   some (.inr (.inr x))
  else
   ck (zY (x+1)) <|
   some (.inl (x+1))
 else
  some (.inr (.inl ()))

def zE (s:List Int) (f:Int→Option Bool):Option Int :=
 (
  ZJ (zE.s0 s f) big 0:Option (Unit⊕Int)).bind fun o₁=>match o₁ with
 | .inl _ =>
  some (-1)
 | .inr x1 =>
  some x1

/-! slices.ContainsFunc[[]int,int] -/
def ZbF (s:List Int) (f:Int→Option Bool):Option Bool :=
 (zE s f).bind fun x =>
 some (decide (0≤x))

/-! muntin/front.right$1 -/
def ZcY (t:Int):Option Bool :=
 some ((decide (t<(-2)))||(decide (1<t)))

/-! muntin/front.right -/
def ZcF (turns:List Int):Option Bool :=
 (ZbF turns (fun y0=>ZcY y0)).bind fun x =>
 some (!x)

/-! muntin/front.Of -/
def Zb5.s0 (turns:List Int) (i:Int):Int×Int→Option ((Int×Int)⊕(Unit⊕Int)):=fun (sum,x1) =>
 if decide (x1<(turns.length:Int)) then
  ck (zY (i+x1)) <|
  ck (((turns.length:Int):Int)≠0) <|
  ck ((0:Int)≤((i+x1).tmod (turns.length:Int))∧((i+x1).tmod (turns.length:Int))<(turns.length:Int)) <|
  ck (zY (sum+(gi turns ((i+x1).tmod (turns.length:Int):Int).toNat))) <|
  if decide (sum+(gi turns ((i+x1).tmod (turns.length:Int):Int).toNat)=1) then
   ck (zY (((i+x1).tmod (turns.length:Int))+1)) <|
   some (.inr (.inr ((((i+x1).tmod (turns.length:Int))+1).tmod (turns.length:Int))))
  else
   ck (zY (x1+1)) <|
   some (.inl (sum+(gi turns ((i+x1).tmod (turns.length:Int):Int).toNat),x1+1))
 else
  some (.inr (.inl ()))

def Zb5 (turns:List Int) (i:Int):Option (Int×Bool) :=
 (ZcF turns).bind fun x =>
 (if ((!x)||(decide (i<0)))||(decide ((turns.length:Int)≤i)) then
  some true
 else
  ck ((0:Int)≤i∧i<(turns.length:Int)) <|
  some (decide (0≤(gi turns i.toNat)))).bind fun t =>
 if t then
  some (0,false)
 else
  (
   ZJ (Zb5.s0 turns i) big (0,0):Option (Unit⊕Int)).bind fun o₁=>match o₁ with
  | .inl _ =>
   some (0,false)
  | .inr x2 =>
   some (x2,true)

/-! muntin/front.Open -/
def Zb2.s0 (turns:List Int):Int→Option (Int⊕(Unit⊕Int)):=fun x1 =>
 if decide (x1<(turns.length:Int)) then
  ck ((0:Int)≤x1∧x1<(turns.length:Int)) <|
  (Zb5 turns x1).bind fun (x3,x4) =>
  if (decide ((gi turns x1.toNat)<0))&&(!x4) then
   some (.inr (.inr x1))
  else
   ck (zY (x1+1)) <|
   some (.inl (x1+1))
 else
  some (.inr (.inl ()))

def Zb2 (turns:List Int):Option (Int×Bool) :=
 (ZcF turns).bind fun x =>
 if !x then
  some (0,false)
 else
  (
   ZJ (Zb2.s0 turns) big 0:Option (Unit⊕Int)).bind fun o₁=>match o₁ with
  | .inl _ =>
   some (0,false)
  | .inr x2 =>
   some (x2,true)

/-! muntin/rect.outside -/
def Zc0 (cells:List Za):Option (Z5×Int) :=
 (ZcH cells).bind fun (x,x1) =>
 if !(decide (x1=0)) then
  some ((⟨(0:Int),(0:Int)⟩:Z5),x1)
 else
  (Zan cells).bind fun (x2,x3) =>
  ck ((0:Int)≤x∧x<(x2.length:Int)) <|
  (Zbm cells (gi x2 x.toNat)).bind fun x4 =>
  (Zb2 x4).bind fun (x5,x6) =>
  ck ((0:Int)≤x5∧x5<((gi x2 x.toNat).length:Int)) <|
  some (gi (gi x2 x.toNat) x5.toNat,0)

/-! slices.Clone[[]muntin/api.Cell,muntin/api.Cell] -/
def ZaH (s:List Za):Option (List Za) :=
 ck (s.length≤1000000000) <|
 some s
/-! muntin/grid.Of -/
def Ze4 (cells:List Za):Option ((Option zj)×Int) :=
 (Zau cells).bind fun x =>
 if !(decide (x=0)) then
  some (none,x)
 else
  (ZaH cells).bind fun x1 =>
  some (some (⟨x1⟩:zj),0)

/-! (*muntin/grid.Grid).Len -/
def Zbs (g:zj):Option Int :=
 some (g.cells.length:Int)

/-! (*muntin/grid.Grid).is -/
def ZbD (g:zj) (v:Int) (d:Int):Option Bool :=
 (if decide (0≤v) then
  (Zbs g).bind fun x =>
  some (decide (v<x))
 else
  some false).bind fun t =>
 (if t then
  (Zbv d).bind fun x1 =>
  some x1
 else
  some false).bind fun t1 =>
 some t1

/-! (*muntin/grid.Grid).Next -/
def Zbq (g:zj) (v:Int) (d:Int):Option (Int×Int×Bool) :=
 (ZbD g v d).bind fun x =>
 (if !x then
  some true
 else
  ck ((0:Int)≤v∧v<(g.cells.length:Int)) <|
  ck ((0:Int)≤d∧d<4) <|
  some (decide (((gi g.cells v.toNat).Next).get d=(-1)))).bind fun t =>
 if t then
  some (0,0,false)
 else
  ck ((0:Int)≤v∧v<(g.cells.length:Int)) <|
  ck ((0:Int)≤d∧d<4) <|
  some (((gi g.cells v.toNat).Next).get d,((gi g.cells v.toNat).Owner).get d,true)

/-! muntin/grid.empty -/
def ZdD:Option Za :=
 some (⟨(⟨(-1),(-1),(-1),(-1)⟩:A4 Int),(⟨0,0,0,0⟩:A4 Int)⟩:Za)

/-! (*muntin/grid.Grid).Add -/
def Zcl (g:zj):Option (Int×Int×zj) :=
 (Zbs g).bind fun x =>
 if decide (x=4096) then
  some (0,6,g)
 else
  (ZdD ).bind fun x1 =>
  ck (g.cells.length+[x1].length≤1000000000) <|
  (Zbs (⟨g.cells++[x1]⟩:zj)).bind fun x2 =>
  ck (zY (x2-1)) <|
  some (x2-1,0,(⟨g.cells++[x1]⟩:zj))

/-! (*muntin/grid.Grid).lay -/
def ZbO (g:zj) (v:Int) (d:Int) (w:Int) (owner:Int):Option zj :=
 (Zbw d 2).bind fun x =>
 ck ((0:Int)≤v∧v<(g.cells.length:Int)) <|
 ck ((0:Int)≤d∧d<4) <|
 ck ((0:Int)≤v∧v<((g.cells.set v.toNat ({ gi g.cells v.toNat with Next:=((gi g.cells v.toNat).Next).set d w })).length:Int)) <|
 ck ((0:Int)≤w∧w<(((g.cells.set v.toNat ({ gi g.cells v.toNat with Next:=((gi g.cells v.toNat).Next).set d w })).set v.toNat ({ gi (g.cells.set v.toNat ({ gi g.cells v.toNat with Next:=((gi g.cells v.toNat).Next).set d w })) v.toNat with Owner:=((gi (g.cells.set v.toNat ({ gi g.cells v.toNat with Next:=((gi g.cells v.toNat).Next).set d w })) v.toNat).Owner).set d owner })).length:Int)) <|
 ck ((0:Int)≤x∧x<4) <|
 ck ((0:Int)≤w∧w<((((g.cells.set v.toNat ({ gi g.cells v.toNat with Next:=((gi g.cells v.toNat).Next).set d w })).set v.toNat ({ gi (g.cells.set v.toNat ({ gi g.cells v.toNat with Next:=((gi g.cells v.toNat).Next).set d w })) v.toNat with Owner:=((gi (g.cells.set v.toNat ({ gi g.cells v.toNat with Next:=((gi g.cells v.toNat).Next).set d w })) v.toNat).Owner).set d owner })).set w.toNat ({ gi ((g.cells.set v.toNat ({ gi g.cells v.toNat with Next:=((gi g.cells v.toNat).Next).set d w })).set v.toNat ({ gi (g.cells.set v.toNat ({ gi g.cells v.toNat with Next:=((gi g.cells v.toNat).Next).set d w })) v.toNat with Owner:=((gi (g.cells.set v.toNat ({ gi g.cells v.toNat with Next:=((gi g.cells v.toNat).Next).set d w })) v.toNat).Owner).set d owner })) w.toNat with Next:=((gi ((g.cells.set v.toNat ({ gi g.cells v.toNat with Next:=((gi g.cells v.toNat).Next).set d w })).set v.toNat ({ gi (g.cells.set v.toNat ({ gi g.cells v.toNat with Next:=((gi g.cells v.toNat).Next).set d w })) v.toNat with Owner:=((gi (g.cells.set v.toNat ({ gi g.cells v.toNat with Next:=((gi g.cells v.toNat).Next).set d w })) v.toNat).Owner).set d owner })) w.toNat).Next).set x v })).length:Int)) <|
 some (⟨(((g.cells.set v.toNat ({ gi g.cells v.toNat with Next:=((gi g.cells v.toNat).Next).set d w })).set v.toNat ({ gi (g.cells.set v.toNat ({ gi g.cells v.toNat with Next:=((gi g.cells v.toNat).Next).set d w })) v.toNat with Owner:=((gi (g.cells.set v.toNat ({ gi g.cells v.toNat with Next:=((gi g.cells v.toNat).Next).set d w })) v.toNat).Owner).set d owner })).set w.toNat ({ gi ((g.cells.set v.toNat ({ gi g.cells v.toNat with Next:=((gi g.cells v.toNat).Next).set d w })).set v.toNat ({ gi (g.cells.set v.toNat ({ gi g.cells v.toNat with Next:=((gi g.cells v.toNat).Next).set d w })) v.toNat with Owner:=((gi (g.cells.set v.toNat ({ gi g.cells v.toNat with Next:=((gi g.cells v.toNat).Next).set d w })) v.toNat).Owner).set d owner })) w.toNat with Next:=((gi ((g.cells.set v.toNat ({ gi g.cells v.toNat with Next:=((gi g.cells v.toNat).Next).set d w })).set v.toNat ({ gi (g.cells.set v.toNat ({ gi g.cells v.toNat with Next:=((gi g.cells v.toNat).Next).set d w })) v.toNat with Owner:=((gi (g.cells.set v.toNat ({ gi g.cells v.toNat with Next:=((gi g.cells v.toNat).Next).set d w })) v.toNat).Owner).set d owner })) w.toNat).Next).set x v })).set w.toNat ({ gi (((g.cells.set v.toNat ({ gi g.cells v.toNat with Next:=((gi g.cells v.toNat).Next).set d w })).set v.toNat ({ gi (g.cells.set v.toNat ({ gi g.cells v.toNat with Next:=((gi g.cells v.toNat).Next).set d w })) v.toNat with Owner:=((gi (g.cells.set v.toNat ({ gi g.cells v.toNat with Next:=((gi g.cells v.toNat).Next).set d w })) v.toNat).Owner).set d owner })).set w.toNat ({ gi ((g.cells.set v.toNat ({ gi g.cells v.toNat with Next:=((gi g.cells v.toNat).Next).set d w })).set v.toNat ({ gi (g.cells.set v.toNat ({ gi g.cells v.toNat with Next:=((gi g.cells v.toNat).Next).set d w })) v.toNat with Owner:=((gi (g.cells.set v.toNat ({ gi g.cells v.toNat with Next:=((gi g.cells v.toNat).Next).set d w })) v.toNat).Owner).set d owner })) w.toNat with Next:=((gi ((g.cells.set v.toNat ({ gi g.cells v.toNat with Next:=((gi g.cells v.toNat).Next).set d w })).set v.toNat ({ gi (g.cells.set v.toNat ({ gi g.cells v.toNat with Next:=((gi g.cells v.toNat).Next).set d w })) v.toNat with Owner:=((gi (g.cells.set v.toNat ({ gi g.cells v.toNat with Next:=((gi g.cells v.toNat).Next).set d w })) v.toNat).Owner).set d owner })) w.toNat).Next).set x v })) w.toNat with Owner:=((gi (((g.cells.set v.toNat ({ gi g.cells v.toNat with Next:=((gi g.cells v.toNat).Next).set d w })).set v.toNat ({ gi (g.cells.set v.toNat ({ gi g.cells v.toNat with Next:=((gi g.cells v.toNat).Next).set d w })) v.toNat with Owner:=((gi (g.cells.set v.toNat ({ gi g.cells v.toNat with Next:=((gi g.cells v.toNat).Next).set d w })) v.toNat).Owner).set d owner })).set w.toNat ({ gi ((g.cells.set v.toNat ({ gi g.cells v.toNat with Next:=((gi g.cells v.toNat).Next).set d w })).set v.toNat ({ gi (g.cells.set v.toNat ({ gi g.cells v.toNat with Next:=((gi g.cells v.toNat).Next).set d w })) v.toNat with Owner:=((gi (g.cells.set v.toNat ({ gi g.cells v.toNat with Next:=((gi g.cells v.toNat).Next).set d w })) v.toNat).Owner).set d owner })) w.toNat with Next:=((gi ((g.cells.set v.toNat ({ gi g.cells v.toNat with Next:=((gi g.cells v.toNat).Next).set d w })).set v.toNat ({ gi (g.cells.set v.toNat ({ gi g.cells v.toNat with Next:=((gi g.cells v.toNat).Next).set d w })) v.toNat with Owner:=((gi (g.cells.set v.toNat ({ gi g.cells v.toNat with Next:=((gi g.cells v.toNat).Next).set d w })) v.toNat).Owner).set d owner })) w.toNat).Next).set x v })) w.toNat).Owner).set x owner })⟩:zj)

/-! (*muntin/grid.Grid).Join -/
def Za2 (g:zj) (v:Int) (d:Int) (w:Int) (owner:Int):Option (Int×zj) :=
 (ZbD g v d).bind fun x =>
 (if !x then
  some true
 else
  (ZbD g w d).bind fun x1 =>
  some (!x1)).bind fun t =>
 if (t||(decide (v=w)))||(decide (owner<(-2))) then
  some (2,g)
 else
  (
   ck ((0:Int)≤v∧v<(g.cells.length:Int)) <|
   ck ((0:Int)≤d∧d<4) <|
   if !(decide (((gi g.cells v.toNat).Next).get d=(-1))) then
    some true
   else
    (Zbw d 2).bind fun x3 =>
    ck ((0:Int)≤w∧w<(g.cells.length:Int)) <|
    ck ((0:Int)≤x3∧x3<4) <|
    some (!(decide (((gi g.cells w.toNat).Next).get x3=(-1))))).bind fun x2 =>
  if x2 then
   some (9,g)
  else
   (ZbO g v d w owner).bind fun m =>
   some (0,m)

/-! muntin/rect.frame -/
def Zbo.s0:(List Za)×Int→Option (((List Za)×Int)⊕(List Za)):=fun (g1,x4) =>
 if decide (x4<5) then
  (Zcl (⟨g1⟩:zj)).bind fun (x5,x6,m) =>
  ck (zY (x4+1)) <|
  some (.inl (m.cells,x4+1))
 else
  some (.inr g1)

def Zbo.s1 (d:Z5) (x3:Int):(List Za)×Int→Option (((List Za)×Int)⊕(List Za)):=fun (g3,x7) =>
 if decide (x7<4) then
  ck (zY (x7+3)) <|
  ck (zY (x3+x7)) <|
  ck (zY (x7+1)) <|
  ck (zY (x3+((x7+1).tmod 4))) <|
  if decide ((x7+3).tmod 4=d.Dir) then
   ck (zY (x3+4)) <|
   (Za2 (⟨g3⟩:zj) (x3+x7) x7 (x3+4) (-2)).bind fun (x8,m1) =>
   (Za2 m1 (x3+4) x7 (x3+((x7+1).tmod 4)) (-2)).bind fun (x9,m2) =>
   some (.inl (m2.cells,x7+1))
  else
   (Za2 (⟨g3⟩:zj) (x3+x7) x7 (x3+((x7+1).tmod 4)) (-2)).bind fun (x10,m3) =>
   some (.inl (m3.cells,x7+1))
 else
  some (.inr g3)

def Zbo (g:zj) (d:Z5):Option zj :=
 (Zbq g d.Cell d.Dir).bind fun (x,x1,x2) =>
 (Zbs g).bind fun x3 =>
 (ZJ Zbo.s0 big (g.cells,0)).bind fun g2 =>
 (ZJ (Zbo.s1 d x3) big (g2,0)).bind fun g4 =>
 ck (zY (x3+4)) <|
 (Za2 (⟨g4⟩:zj) x d.Dir (x3+4) (-2)).bind fun (x11,m4) =>
 some m4

/-! muntin/rect.framed -/
def ZbV (cells:List Za):Option ((Option zj)×Int) :=
 (Zc0 cells).bind fun (x,x1) =>
 if !(decide (x1=0)) then
  some (none,x1)
 else
  ck (zY ((cells.length:Int)+4)) <|
  ck (zY (((cells.length:Int)+4)+1)) <|
  if decide (4096<(((cells.length:Int)+4)+1)) then
   some (none,6)
  else
   (Ze4 cells).bind fun (x2,x3) =>
   (x2).bind fun g =>
   (Zbo g x).bind fun m =>
   some (some m,0)

/-! (*muntin/grid.Grid).Cells -/
def Zb3 (g:zj):Option (List Za) :=
 (ZaH g.cells).bind fun x =>
 some x

/-! muntin/rect.Frame -/
def ZbX (cells:List Za):Option ((List Za)×Int) :=
 (ZbV cells).bind fun (x,x1) =>
 if !(decide (x1=0)) then
  some (([]:List Za),x1)
 else
  (x).bind fun g =>
  (Zb3 g).bind fun x2 =>
  some (x2,0)

/-! muntin/front.First$1 -/
def Zc5 (t:Int):Option Bool :=
 some (decide (t<0))

/-! muntin/front.First -/
def Zb4.s0 (cells:List Za) (x:Int) (x2:List (List Z5)):Int→Option (Int⊕(Unit⊕(Int×Int))):=fun x4 =>
 if decide (x4<(x2.length:Int)) then
  ck ((0:Int)≤x4∧x4<(x2.length:Int)) <|
  (Zbm cells (gi x2 x4.toNat)).bind fun x7 =>
  (zE x7 (fun y0=>Zc5 y0)).bind fun x8 =>
  if (!(decide (x4=x)))&&(decide (0≤x8)) then
   some (.inr (.inr (x4,x8)))
  else
   ck (zY (x4+1)) <|
   some (.inl (x4+1))
 else
  some (.inr (.inl ()))

def Zb4 (cells:List Za):Option (Int×Int×Bool) :=
 (ZcH cells).bind fun (x,x1) =>
 if !(decide (x1=0)) then
  some (0,0,false)
 else
  (Zan cells).bind fun (x2,x3) =>
  (
   ZJ (Zb4.s0 cells x x2) big 0:Option (Unit⊕(Int×Int))).bind fun o₁=>match o₁ with
  | .inl _ =>
   some (0,0,false)
  | .inr (x5,x6) =>
   some (x5,x6,true)

/-! (*muntin/grid.Grid).Split -/
def Zcd (g:zj) (v:Int) (d:Int):Option (Int×Int×zj) :=
 (ZbD g v d).bind fun x =>
 if !x then
  some (0,2,g)
 else
  (Zbq g v d).bind fun (x1,x2,x3) =>
  if !x3 then
   some (0,9,g)
  else
   (Zcl g).bind fun (x4,x5,m) =>
   if !(decide (x5=0)) then
    some (0,x5,m)
   else
    (ZbO m v d x4 x2).bind fun m1 =>
    (ZbO m1 x4 d x1 x2).bind fun m2 =>
    some (x4,0,m2)

/-! muntin/rect.cut -/
def ZdA (g:zj):Option (Bool×Int×zj) :=
 (Zb3 g).bind fun x =>
 (Zb4 x).bind fun (x1,x2,x3) =>
 if !x3 then
  some (false,0,g)
 else
  (Zan x).bind fun (x4,x5) =>
  ck ((0:Int)≤x1∧x1<(x4.length:Int)) <|
  (Zbm x (gi x4 x1.toNat)).bind fun x6 =>
  (Zb5 x6 x2).bind fun (x7,x8) =>
  ck ((0:Int)≤x2∧x2<((gi x4 x1.toNat).length:Int)) <|
  ck ((0:Int)≤x7∧x7<((gi x4 x1.toNat).length:Int)) <|
  (Zbq g ((gi (gi x4 x1.toNat) x2.toNat).Cell) ((gi (gi x4 x1.toNat) x2.toNat).Dir)).bind fun (x9,x10,x11) =>
  (Zcd g ((gi (gi x4 x1.toNat) x7.toNat).Cell) ((gi (gi x4 x1.toNat) x7.toNat).Dir)).bind fun (x12,x13,m) =>
  if !(decide (x13=0)) then
   some (false,x13,m)
  else
   (Za2 m x9 ((gi (gi x4 x1.toNat) x2.toNat).Dir) x12 (-2)).bind fun (x14,m1) =>
   some (true,x14,m1)

/-! muntin/rect.Refine -/
def ZaF.s0 (cells:List Za):(List Za)×Bool→Option (((List Za)×Bool)⊕((List Za)⊕Int)):=fun (g1,more) =>
 if more then
  (ZdA (⟨g1⟩:zj)).bind fun (x4,x5,m) =>
  if !(decide (x5=0)) then
   some (.inr (.inr x5))
  else
   some (.inl (m.cells,x4))
 else
  some (.inr (.inl g1))

def ZaF (cells:List Za):Option ((List Za)×Int) :=
 (ZbV cells).bind fun (x,x1) =>
 if decide (x1=2) then
  (ZaH cells).bind fun x2 =>
  some (x2,0)
 else
  if !(decide (x1=0)) then
   some (([]:List Za),x1)
  else
   (x).bind fun g =>
   (
    ZJ (ZaF.s0 cells) big (g.cells,true):Option ((List Za)⊕Int)).bind fun o₁=>match o₁ with
   | .inl g2 =>
    (Zb3 (⟨g2⟩:zj)).bind fun x6 =>
    some (x6,0)
   | .inr x3 =>
    some (([]:List Za),x3)

/-! muntin/rect.Rectangular -/
def ZbK (cells:List Za):Option (Bool×Int) :=
 (ZcG cells).bind fun x =>
 if !(decide (x=0)) then
  some (false,x)
 else
  (Zb4 cells).bind fun (x1,x2,x3) =>
  some (!x3,0)

/-! muntin/muntinlaw21.wakes -/
def Zc4:Option Bool :=
 (ZO 2).bind fun x =>
 (ZQ x 0 0 1 0).bind fun (x1,x2) =>
 (ZbX x1).bind fun (x3,x4) =>
 (ZaF x1).bind fun (x5,x6) =>
 (ZbK x5).bind fun (x7,x8) =>
 ck ((0:Int)≤1∧1≤(x1.length:Int)) <|
 (ZbX (x1.take (1:Int).toNat)).bind fun (x9,x10) =>
 some (((((((decide (x4=0))&&(decide ((x3.length:Int)=7)))&&(decide (x6=0)))&&(decide (7<(x5.length:Int))))&&x7)&&(decide (x8=0)))&&(decide (x10=3)))

/-! muntin/muntinref10.Check -/
def zI.s1 (l:List Za) (v:Int):Int→Option (Int⊕(Unit⊕Int)):=fun d =>
 if decide (d<4) then
  ck ((0:Int)≤v∧v<(l.length:Int)) <|
  ck ((0:Int)≤d∧d<4) <|
  if decide (((gi l v.toNat).Next).get d=(-1)) then
   if !(decide (((gi l v.toNat).Owner).get d=0)) then
    some (.inr (.inr 9))
   else
    ck (zY (d+1)) <|
    some (.inl (d+1))
  else
   if ((decide ((((gi l v.toNat).Next).get d)<0))||(decide ((l.length:Int)≤(((gi l v.toNat).Next).get d))))||(decide (((gi l v.toNat).Next).get d=v)) then
    some (.inr (.inr 3))
   else
    ck (zY (d+2)) <|
    ck ((0:Int)≤(((gi l v.toNat).Next).get d)∧(((gi l v.toNat).Next).get d)<(l.length:Int)) <|
    ck ((0:Int)≤((d+2).tmod 4)∧((d+2).tmod 4)<4) <|
    if ((!(decide (((gi l (((gi l v.toNat).Next).get d:Int).toNat).Next).get ((d+2).tmod 4)=v)))||(!(decide (((gi l (((gi l v.toNat).Next).get d:Int).toNat).Owner).get ((d+2).tmod 4)=((gi l v.toNat).Owner).get d))))||(decide ((((gi l v.toNat).Owner).get d)<(-2))) then
     some (.inr (.inr 9))
    else
     ck (zY (d+1)) <|
     some (.inl (d+1))
 else
  some (.inr (.inl ()))

def zI.s0 (l:List Za):Int→Option (Int⊕(Unit⊕Int)):=fun v =>
 if decide (v<(l.length:Int)) then
  (
   ZJ (zI.s1 l v) big 0:Option (Unit⊕Int)).bind fun o₃=>match o₃ with
  | .inl _ =>
   ck (zY (v+1)) <|
   some (.inl (v+1))
  | .inr x1 =>
   some (.inr (.inr x1))
 else
  some (.inr (.inl ()))

def zI (l:List Za):Option Int :=
 if decide (4096<(l.length:Int)) then
  some 6
 else
  (
   ZJ (zI.s0 l) big 0:Option (Unit⊕Int)).bind fun o₁=>match o₁ with
  | .inl _ =>
   some 0
  | .inr x =>
   some x

/-! muntin/muntinref13.Far -/
def zg.s0 (l:List Za):(List Int)×Int→Option (((List Int)×Int)⊕(List Int)):=fun (far,i) =>
 if decide (i<(l.length:Int)) then
  ck ((0:Int)≤i∧i<(far.length:Int)) <|
  ck (zY (i+1)) <|
  some (.inl (far.set i.toNat (-1),i+1))
 else
  some (.inr far)

def zg.s3 (l:List Za) (round:Int) (i1:Int):(List Int)×Int→Option (((List Int)×Int)⊕(List Int)):=fun (far6,d) =>
 if decide (d<4) then
  ck ((0:Int)≤i1∧i1<(l.length:Int)) <|
  ck ((0:Int)≤d∧d<4) <|
  ck ((0:Int)≤i1∧i1<(far6.length:Int)) <|
  (if (decide (gi far6 i1.toNat=round))&&(decide (0≤(((gi l i1.toNat).Next).get d))) then
   ck ((0:Int)≤(max (((gi l i1.toNat).Next).get d) 0)∧(max (((gi l i1.toNat).Next).get d) 0)<(far6.length:Int)) <|
   some (decide ((gi far6 (max (((gi l i1.toNat).Next).get d) 0:Int).toNat)<0))
  else
   some false).bind fun t =>
  if t then
   ck (zY (round+1)) <|
   ck ((0:Int)≤(((gi l i1.toNat).Next).get d)∧(((gi l i1.toNat).Next).get d)<(far6.length:Int)) <|
   ck (zY (d+1)) <|
   some (.inl (far6.set (((gi l i1.toNat).Next).get d:Int).toNat (round+1),d+1))
  else
   ck (zY (d+1)) <|
   some (.inl (far6,d+1))
 else
  some (.inr far6)

def zg.s2 (l:List Za) (round:Int):(List Int)×Int→Option (((List Int)×Int)⊕(List Int)):=fun (far4,i1) =>
 if decide (i1<(l.length:Int)) then
  (ZJ (zg.s3 l round i1) big (far4,0)).bind fun far7 =>
  ck (zY (i1+1)) <|
  some (.inl (far7,i1+1))
 else
  some (.inr far4)

def zg.s1 (l:List Za):(List Int)×Int→Option (((List Int)×Int)⊕(List Int)):=fun (far2,round) =>
 if decide (round<(l.length:Int)) then
  (ZJ (zg.s2 l round) big (far2,0)).bind fun far5 =>
  ck (zY (round+1)) <|
  some (.inl (far5,round+1))
 else
  some (.inr far2)

def zg (l:List Za) (v:Int):Option (List Int) :=
 ck ((0:Int)≤(l.length:Int)∧(l.length:Int)≤1000000000) <|
 (ZJ (zg.s0 l) big (List.replicate ((l.length:Int):Int).toNat (0:Int),0)).bind fun far1 =>
 ck ((0:Int)≤v∧v<(far1.length:Int)) <|
 (ZJ (zg.s1 l) big (far1.set v.toNat 0,0)).bind fun far3 =>
 some far3

/-! muntin/muntinref13.Parts -/
def Zaa.s1 (l:List Za) (x:List Int):(List Bool)×(List Int)×Int→Option (((List Bool)×(List Int)×Int)⊕((List Bool)×(List Int))):=fun (in_1,p,w) =>
 if decide (w<(l.length:Int)) then
  ck ((0:Int)≤w∧w<(x.length:Int)) <|
  if decide (0≤(gi x w.toNat)) then
   ck ((0:Int)≤w∧w<(in_1.length:Int)) <|
   ck (p.length+[w].length≤1000000000) <|
   ck (zY (w+1)) <|
   some (.inl (in_1.set w.toNat true,p++[w],w+1))
  else
   ck (zY (w+1)) <|
   some (.inl (in_1,p,w+1))
 else
  some (.inr (in_1,p))

def Zaa.s0 (l:List Za):(List Bool)×(List (List Int))×Int→Option (((List Bool)×(List (List Int))×Int)⊕(List (List Int))):=fun (in_,out,v) =>
 if decide (v<(l.length:Int)) then
  ck ((0:Int)≤v∧v<(in_.length:Int)) <|
  if gi in_ v.toNat then
   ck (zY (v+1)) <|
   some (.inl (in_,out,v+1))
  else
   (zg l v).bind fun x =>
   (ZJ (Zaa.s1 l x) big (in_,([]:List Int),0)).bind fun (in_2,p1) =>
   ck (out.length+1≤1000000000) <|
   ck (zY (v+1)) <|
   some (.inl (in_2,out++[p1],v+1))
 else
  some (.inr out)

def Zaa (l:List Za):Option (List (List Int)) :=
 ck ((0:Int)≤(l.length:Int)∧(l.length:Int)≤1000000000) <|
 (ZJ (Zaa.s0 l) big (List.replicate ((l.length:Int):Int).toNat false,([]:List (List Int)),0)).bind fun out1 =>
 some out1

/-! muntin/muntinref12.Behind -/
def Zaw.s0 (l:List Za) (d:Z2):Int→Option (Int⊕(Unit⊕Z2)):=fun i =>
 if decide (i<4) then
  ck ((0:Int)≤i∧i<(([1,0,3,2]:List Int).length:Int)) <|
  ck (zY (d.Dir+(gi ([1,0,3,2]:List Int) i.toNat))) <|
  ck ((0:Int)≤(((gi l (d.Cell:Int).toNat).Next).get d.Dir)∧(((gi l (d.Cell:Int).toNat).Next).get d.Dir)<(l.length:Int)) <|
  ck ((0:Int)≤((d.Dir+(gi ([1,0,3,2]:List Int) i.toNat)).tmod 4)∧((d.Dir+(gi ([1,0,3,2]:List Int) i.toNat)).tmod 4)<4) <|
  if decide (0≤(((gi l (((gi l (d.Cell:Int).toNat).Next).get d.Dir:Int).toNat).Next).get ((d.Dir+(gi ([1,0,3,2]:List Int) i.toNat)).tmod 4))) then
   some (.inr (.inr (⟨((gi l (d.Cell:Int).toNat).Next).get d.Dir,(d.Dir+(gi ([1,0,3,2]:List Int) i.toNat)).tmod 4⟩:Z2)))
  else
   ck (zY (i+1)) <|
   some (.inl (i+1))
 else
  some (.inr (.inl ()))

def Zaw (l:List Za) (d:Z2):Option Z2 :=
 ck ((0:Int)≤d.Cell∧d.Cell<(l.length:Int)) <|
 ck ((0:Int)≤d.Dir∧d.Dir<4) <|
 (
  ZJ (Zaw.s0 l d) big 0:Option (Unit⊕Z2)).bind fun o₁=>match o₁ with
 | .inl _ =>
  some d
 | .inr x =>
  some x

/-! muntin/muntinref12.Faces -/
def ZG.s2 (l:List Za):(List Bool)×(List Z2)×Z2→Option (((List Bool)×(List Z2)×Z2)⊕((List Bool)×(List Z2))):=fun (met3,f,d) =>
 ck (zY (4*d.Cell)) <|
 ck (zY ((4*d.Cell)+d.Dir)) <|
 ck ((0:Int)≤((4*d.Cell)+d.Dir)∧((4*d.Cell)+d.Dir)<(met3.length:Int)) <|
 if !(gi met3 ((4*d.Cell)+d.Dir:Int).toNat) then
  ck (f.length+[d].length≤1000000000) <|
  (Zaw l d).bind fun x =>
  some (.inl (met3.set ((4*d.Cell)+d.Dir:Int).toNat true,f++[d],x))
 else
  some (.inr (met3,f))

def ZG.s1 (l:List Za) (v:Int):(List Bool)×(List (List Z2))×Int→Option (((List Bool)×(List (List Z2))×Int)⊕((List Bool)×(List (List Z2)))):=fun (met1,out2,e_) =>
 if decide (e_<4) then
  ck ((0:Int)≤v∧v<(l.length:Int)) <|
  ck ((0:Int)≤e_∧e_<4) <|
  (if decide ((((gi l v.toNat).Next).get e_)<0) then
   some true
  else
   ck (zY (4*v)) <|
   ck (zY ((4*v)+e_)) <|
   ck ((0:Int)≤((4*v)+e_)∧((4*v)+e_)<(met1.length:Int)) <|
   some (gi met1 ((4*v)+e_:Int).toNat)).bind fun t =>
  if t then
   ck (zY (e_+1)) <|
   some (.inl (met1,out2,e_+1))
  else
   (ZJ (ZG.s2 l) big (met1,([]:List Z2),(⟨v,e_⟩:Z2))).bind fun (met4,f1) =>
   ck (out2.length+1≤1000000000) <|
   ck (zY (e_+1)) <|
   some (.inl (met4,out2++[f1],e_+1))
 else
  some (.inr (met1,out2))

def ZG.s0 (l:List Za):(List Bool)×(List (List Z2))×Int→Option (((List Bool)×(List (List Z2))×Int)⊕(List (List Z2))):=fun (met,out,v) =>
 if decide (v<(l.length:Int)) then
  (ZJ (ZG.s1 l v) big (met,out,0)).bind fun (met2,out3) =>
  ck (zY (v+1)) <|
  some (.inl (met2,out3,v+1))
 else
  some (.inr out)

def ZG (l:List Za):Option (List (List Z2)) :=
 ck (zY (4*(l.length:Int))) <|
 ck ((0:Int)≤(4*(l.length:Int))∧(4*(l.length:Int))≤1000000000) <|
 (ZJ (ZG.s0 l) big (List.replicate (4*(l.length:Int):Int).toNat false,([]:List (List Z2)),0)).bind fun out1 =>
 some out1

/-! muntin/muntinref01.Good -/
def ZbJ (d:Int):Option Bool :=
 some ((decide (0≤d))&&(decide (d≤3)))

/-! muntin/muntinref01.Left -/
def Zcp (d:Int) (times:Int):Option Int :=
 (ZbJ d).bind fun x =>
 if !x then
  some 0
 else
  if decide ((times.tmod 4)<0) then
   ck (zY ((times.tmod 4)+4)) <|
   ck (zY (d+((times.tmod 4)+4))) <|
   some ((d+((times.tmod 4)+4)).tmod 4)
  else
   ck (zY (d+(times.tmod 4))) <|
   some ((d+(times.tmod 4)).tmod 4)

/-! muntin/muntinref01.Turn -/
def Zcq (d:Int) (e_:Int):Option Int :=
 (ZbJ d).bind fun x =>
 (ZbJ e_).bind fun x1 =>
 if ((!x)||(!x1))||(decide (d=e_)) then
  some 0
 else
  (Zcp d 1).bind fun x2 =>
  if decide (x2=e_) then
   some 1
  else
   (Zcp d 3).bind fun x3 =>
   if decide (x3=e_) then
    some (-1)
   else
    some (-2)

/-! muntin/muntinref12.Turns -/
def zZ.s0 (l:List Za) (f:List Z2):(List Int)×Int→Option (((List Int)×Int)⊕(List Int)):=fun (out,i) =>
 if decide (i<(f.length:Int)) then
  ck ((0:Int)≤i∧i<(f.length:Int)) <|
  (Zaw l (gi f i.toNat)).bind fun x =>
  (Zcq ((gi f i.toNat).Dir) x.Dir).bind fun x1 =>
  ck (out.length+[x1].length≤1000000000) <|
  ck (zY (i+1)) <|
  some (.inl (out++[x1],i+1))
 else
  some (.inr out)

def zZ (l:List Za) (f:List Z2):Option (List Int) :=
 (ZJ (zZ.s0 l f) big (([]:List Int),0)).bind fun out1 =>
 some out1

/-! muntin/muntinref12.Rotation -/
def Za7.s0 (t:List Int):Int×Int→Option ((Int×Int)⊕Int):=fun (n,i) =>
 if decide (i<(t.length:Int)) then
  ck ((0:Int)≤i∧i<(t.length:Int)) <|
  if (decide ((-2)≤(gi t i.toNat)))&&(decide ((gi t i.toNat)≤1)) then
   ck (zY (n+(gi t i.toNat))) <|
   ck (zY (i+1)) <|
   some (.inl (n+(gi t i.toNat),i+1))
  else
   ck (zY (i+1)) <|
   some (.inl (n,i+1))
 else
  some (.inr n)

def Za7 (t:List Int):Option Int :=
 (ZJ (Za7.s0 t) big (0,0)).bind fun n1 =>
 some n1

/-! muntin/muntinref14.Outer -/
def zJ.s0 (l:List Za) (x2:List (List Z2)):Int×Int→Option ((Int×Int)⊕(Int⊕Unit)):=fun (at_,i) =>
 if decide (i<(x2.length:Int)) then
  ck ((0:Int)≤i∧i<(x2.length:Int)) <|
  (zZ l (gi x2 i.toNat)).bind fun x3 =>
  (Za7 x3).bind fun x4 =>
  if ((!(decide (x4=4)))&&(!(decide (x4=(-4)))))||((decide (x4=(-4)))&&(decide (0≤at_))) then
   some (.inr (.inr ()))
  else
   if decide (x4=(-4)) then
    ck (zY (i+1)) <|
    some (.inl (i,i+1))
   else
    ck (zY (i+1)) <|
    some (.inl (at_,i+1))
 else
  some (.inr (.inl at_))

def zJ (l:List Za):Option (Int×Int) :=
 (zI l).bind fun x =>
 if !(decide (x=0)) then
  some ((-1),x)
 else
  (Zaa l).bind fun x1 =>
  if !(decide ((x1.length:Int)=1)) then
   some ((-1),13)
  else
   if decide ((l.length:Int)=1) then
    some ((-1),0)
   else
    (ZG l).bind fun x2 =>
    (
     ZJ (zJ.s0 l x2) big ((-1),0):Option (Int⊕Unit)).bind fun o₁=>match o₁ with
    | .inl at_1 =>
     if decide (at_1<0) then
      some ((-1),10)
     else
      some (at_1,0)
    | .inr _ =>
     some ((-1),10)

/-! muntin/muntinref15.Good -/
def ZaN.s0 (t:List Int):Int→Option (Int⊕(Unit⊕Unit)):=fun i =>
 if decide (i<(t.length:Int)) then
  ck ((0:Int)≤i∧i<(t.length:Int)) <|
  if (decide ((gi t i.toNat)<(-2)))||(decide (1<(gi t i.toNat))) then
   some (.inr (.inr ()))
  else
   ck (zY (i+1)) <|
   some (.inl (i+1))
 else
  some (.inr (.inl ()))

def ZaN (t:List Int):Option Bool :=
 (
  ZJ (ZaN.s0 t) big 0:Option (Unit⊕Unit)).bind fun o₁=>match o₁ with
 | .inl _ =>
  some true
 | .inr _ =>
  some false

/-! muntin/muntinref20.Of -/
def zV.s1 (t:List Int) (to_:Int):Int×Int→Option ((Int×Int)⊕Int):=fun (sum,k_) =>
 if decide (k_<to_) then
  ck (((t.length:Int):Int)≠0) <|
  ck ((0:Int)≤(k_.tmod (t.length:Int))∧(k_.tmod (t.length:Int))<(t.length:Int)) <|
  ck (zY (sum+(gi t (k_.tmod (t.length:Int):Int).toNat))) <|
  ck (zY (k_+1)) <|
  some (.inl (sum+(gi t (k_.tmod (t.length:Int):Int).toNat),k_+1))
 else
  some (.inr sum)

def zV.s0 (t:List Int) (i:Int):Int→Option (Int⊕(Unit⊕Int)):=fun to_ =>
 ck (zY (i+(t.length:Int))) <|
 if decide (to_≤(i+(t.length:Int))) then
  (ZJ (zV.s1 t to_) big (0,i)).bind fun sum1 =>
  if decide (sum1=1) then
   ck (((t.length:Int):Int)≠0) <|
   some (.inr (.inr (to_.tmod (t.length:Int))))
  else
   ck (zY (to_+1)) <|
   some (.inl (to_+1))
 else
  some (.inr (.inl ()))

def zV (t:List Int) (i:Int):Option Int :=
 (ZaN t).bind fun x =>
 if ((!x)||(decide (i<0)))||(decide ((t.length:Int)≤i)) then
  some (-1)
 else
  ck ((0:Int)≤i∧i<(t.length:Int)) <|
  if decide (0≤(gi t i.toNat)) then
   some (-1)
  else
   ck (zY (i+1)) <|
   (
    ZJ (zV.s0 t i) big (i+1):Option (Unit⊕Int)).bind fun o₁=>match o₁ with
   | .inl _ =>
    some (-1)
   | .inr x1 =>
    some x1

/-! muntin/muntinref20.Open -/
def ZaW.s0 (t:List Int):Int→Option (Int⊕(Unit⊕Int)):=fun i =>
 if decide (i<(t.length:Int)) then
  (zV t i).bind fun x2 =>
  ck ((0:Int)≤i∧i<(t.length:Int)) <|
  if (decide ((gi t i.toNat)<0))&&(decide (x2<0)) then
   some (.inr (.inr i))
  else
   ck (zY (i+1)) <|
   some (.inl (i+1))
 else
  some (.inr (.inl ()))

def ZaW (t:List Int):Option Int :=
 (ZaN t).bind fun x =>
 if !x then
  some (-1)
 else
  (
   ZJ (ZaW.s0 t) big 0:Option (Unit⊕Int)).bind fun o₁=>match o₁ with
  | .inl _ =>
   some (-1)
  | .inr x1 =>
   some x1

/-! muntin/muntinref21.Frame -/
def zP.s0 (l:List Za) (x:Int) (x2:List (List Z2)) (x4:Int):(List Za)×Int→Option (((List Za)×Int)⊕(List Za)):=fun (out,s) =>
 if decide (s<4) then
  ck ((0:Int)≤s∧s<([(l.length:Int)+1,(l.length:Int)+3,(l.length:Int),(l.length:Int)].length:Int)) <|
  ck ((0:Int)≤s∧s<([(l.length:Int)+2,(l.length:Int)+2,(l.length:Int)+3,(l.length:Int)+1].length:Int)) <|
  ck ((0:Int)≤s∧s<(([1,0,1,0]:List Int).length:Int)) <|
  if !(decide (s=(gi (gi x2 x.toNat) x4.toNat).Dir)) then
   (ZQ out (gi [(l.length:Int)+1,(l.length:Int)+3,(l.length:Int),(l.length:Int)] s.toNat) (gi ([1,0,1,0]:List Int) s.toNat) (gi [(l.length:Int)+2,(l.length:Int)+2,(l.length:Int)+3,(l.length:Int)+1] s.toNat) (-2)).bind fun (x7,x8) =>
   ck (zY (s+1)) <|
   some (.inl (x7,s+1))
  else
   ck (zY (s+1)) <|
   some (.inl (out,s+1))
 else
  some (.inr out)

def zP (l:List Za):Option ((List Za)×Int) :=
 (zJ l).bind fun (x,x1) =>
 if !(decide (x1=0)) then
  some (([]:List Za),x1)
 else
  if decide (x<0) then
   some (([]:List Za),2)
  else
   ck (zY ((l.length:Int)+5)) <|
   if decide (4096<((l.length:Int)+5)) then
    some (([]:List Za),6)
   else
    (ZG l).bind fun x2 =>
    ck ((0:Int)≤x∧x<(x2.length:Int)) <|
    (zZ l (gi x2 x.toNat)).bind fun x3 =>
    (ZaW x3).bind fun x4 =>
    ck ((0:Int)≤x4∧x4<((gi x2 x.toNat).length:Int)) <|
    ck ((0:Int)≤((gi (gi x2 x.toNat) x4.toNat).Cell)∧((gi (gi x2 x.toNat) x4.toNat).Cell)<(l.length:Int)) <|
    ck ((0:Int)≤((gi (gi x2 x.toNat) x4.toNat).Dir)∧((gi (gi x2 x.toNat) x4.toNat).Dir)<4) <|
    (ZO 5).bind fun x5 =>
    (ZO 0).bind fun x6 =>
    ck (x6.length+l.length≤1000000000) <|
    ck ((x6++l).length+x5.length≤1000000000) <|
    ck (zY ((l.length:Int)+1)) <|
    ck (zY ((l.length:Int)+3)) <|
    ck ((0:Int)≤((gi (gi x2 x.toNat) x4.toNat).Dir)∧((gi (gi x2 x.toNat) x4.toNat).Dir)<([(l.length:Int)+1,(l.length:Int)+3,(l.length:Int),(l.length:Int)].length:Int)) <|
    ck (zY ((l.length:Int)+2)) <|
    ck ((0:Int)≤((gi (gi x2 x.toNat) x4.toNat).Dir)∧((gi (gi x2 x.toNat) x4.toNat).Dir)<([(l.length:Int)+2,(l.length:Int)+2,(l.length:Int)+3,(l.length:Int)+1].length:Int)) <|
    ck ((0:Int)≤((gi (gi x2 x.toNat) x4.toNat).Dir)∧((gi (gi x2 x.toNat) x4.toNat).Dir)<(([1,0,1,0]:List Int).length:Int)) <|
    (ZJ (zP.s0 l x x2 x4) big ((x6++l)++x5,0)).bind fun out1 =>
    ck (zY ((l.length:Int)+4)) <|
    (ZQ out1 (gi [(l.length:Int)+1,(l.length:Int)+3,(l.length:Int),(l.length:Int)] ((gi (gi x2 x.toNat) x4.toNat).Dir:Int).toNat) (gi ([1,0,1,0]:List Int) ((gi (gi x2 x.toNat) x4.toNat).Dir:Int).toNat) ((l.length:Int)+4) (-2)).bind fun (x9,x10) =>
    (ZQ x9 ((l.length:Int)+4) (gi ([1,0,1,0]:List Int) ((gi (gi x2 x.toNat) x4.toNat).Dir:Int).toNat) (gi [(l.length:Int)+2,(l.length:Int)+2,(l.length:Int)+3,(l.length:Int)+1] ((gi (gi x2 x.toNat) x4.toNat).Dir:Int).toNat) (-2)).bind fun (x11,x12) =>
    (ZQ x11 (((gi l ((gi (gi x2 x.toNat) x4.toNat).Cell:Int).toNat).Next).get ((gi (gi x2 x.toNat) x4.toNat).Dir)) ((gi (gi x2 x.toNat) x4.toNat).Dir) ((l.length:Int)+4) (-2)).bind fun (x13,x14) =>
    some (x13,0)

/-! muntin/muntinref20.First -/
def z5.s1 (x:Int) (i:Int) (x5:List Int):Int→Option (Int⊕(Unit⊕Int)):=fun k_ =>
 if (decide (k_<(x5.length:Int)))&&(!(decide (i=x))) then
  ck ((0:Int)≤k_∧k_<(x5.length:Int)) <|
  if decide ((gi x5 k_.toNat)<0) then
   some (.inr (.inr k_))
  else
   ck (zY (k_+1)) <|
   some (.inl (k_+1))
 else
  some (.inr (.inl ()))

def z5.s0 (l:List Za) (x:Int) (x2:List (List Z2)):Int→Option (Int⊕(Unit⊕(Int×Int))):=fun i =>
 if decide (i<(x2.length:Int)) then
  ck ((0:Int)≤i∧i<(x2.length:Int)) <|
  (zZ l (gi x2 i.toNat)).bind fun x5 =>
  (
   ZJ (z5.s1 x i x5) big 0:Option (Unit⊕Int)).bind fun o₃=>match o₃ with
  | .inl _ =>
   ck (zY (i+1)) <|
   some (.inl (i+1))
  | .inr x6 =>
   some (.inr (.inr (i,x6)))
 else
  some (.inr (.inl ()))

def z5 (l:List Za):Option (Int×Int) :=
 (zJ l).bind fun (x,x1) =>
 if (!(decide (x1=0)))||(decide (x<0)) then
  some ((-1),0)
 else
  (ZG l).bind fun x2 =>
  (
   ZJ (z5.s0 l x x2) big 0:Option (Unit⊕(Int×Int))).bind fun o₁=>match o₁ with
  | .inl _ =>
   some ((-1),0)
  | .inr (x3,x4) =>
   some (x3,x4)

/-! muntin/muntinref10.Split -/
def ZbP (l:List Za) (v:Int) (d:Int):Option ((List Za)×Int×Int) :=
 if (((decide (v<0))||(decide ((l.length:Int)≤v)))||(decide (d<0)))||(decide (3<d)) then
  some (l,0,2)
 else
  ck ((0:Int)≤v∧v<(l.length:Int)) <|
  ck ((0:Int)≤d∧d<4) <|
  if decide (((gi l v.toNat).Next).get d=(-1)) then
   some (l,0,9)
  else
   if decide (4096≤(l.length:Int)) then
    some (l,0,6)
   else
    (ZO 1).bind fun x =>
    (Zae l (-1) 0 (-1) 0).bind fun x1 =>
    ck ((0:Int)≤0∧0<(x.length:Int)) <|
    ck (x1.length+[gi x (0:Int).toNat].length≤1000000000) <|
    (Zae (x1++[gi x (0:Int).toNat]) v d (l.length:Int) (((gi l v.toNat).Owner).get d)).bind fun x2 =>
    (Zae x2 (l.length:Int) d (((gi l v.toNat).Next).get d) (((gi l v.toNat).Owner).get d)).bind fun x3 =>
    some (x3,(l.length:Int),0)

/-! muntin/muntinref21.Refine -/
def z7.s0:(List Za)×Int→Option (((List Za)×Int)⊕(Unit⊕((List Za)×Int))):=fun (l1,step) =>
 if decide (step<100000) then
  (z5 l1).bind fun (x6,x7) =>
  if decide (x6<0) then
   some (.inr (.inr (l1,0)))
  else
   (ZG l1).bind fun x8 =>
   ck ((0:Int)≤x6∧x6<(x8.length:Int)) <|
   (zZ l1 (gi x8 x6.toNat)).bind fun x9 =>
   (zV x9 x7).bind fun x10 =>
   ck ((0:Int)≤x7∧x7<((gi x8 x6.toNat).length:Int)) <|
   ck ((0:Int)≤((gi (gi x8 x6.toNat) x7.toNat).Cell)∧((gi (gi x8 x6.toNat) x7.toNat).Cell)<(l1.length:Int)) <|
   ck ((0:Int)≤((gi (gi x8 x6.toNat) x7.toNat).Dir)∧((gi (gi x8 x6.toNat) x7.toNat).Dir)<4) <|
   ck ((0:Int)≤x10∧x10<((gi x8 x6.toNat).length:Int)) <|
   (ZbP l1 ((gi (gi x8 x6.toNat) x10.toNat).Cell) ((gi (gi x8 x6.toNat) x10.toNat).Dir)).bind fun (x11,x12,x13) =>
   if !(decide (x13=0)) then
    some (.inr (.inr (([]:List Za),x13)))
   else
    (ZQ x11 (((gi l1 ((gi (gi x8 x6.toNat) x7.toNat).Cell:Int).toNat).Next).get ((gi (gi x8 x6.toNat) x7.toNat).Dir)) ((gi (gi x8 x6.toNat) x7.toNat).Dir) x12 (-2)).bind fun (x14,x15) =>
    ck (zY (step+1)) <|
    some (.inl (x14,step+1))
 else
  some (.inr (.inl ()))

def z7 (l:List Za):Option ((List Za)×Int) :=
 (
  if decide ((l.length:Int)=1) then
   (zJ l).bind fun (x,x1) =>
   if decide (x1=0) then
    some (.inr ())
   else
    some (.inl ())
  else
   some (.inl ()):Option (Unit⊕Unit)).bind fun o₁=>match o₁ with
 | .inl _ =>
  (zP l).bind fun (x2,x3) =>
  if !(decide (x3=0)) then
   some (([]:List Za),x3)
  else
   (
    ZJ z7.s0 big (x2,0):Option (Unit⊕((List Za)×Int))).bind fun o₂=>match o₂ with
   | .inl _ =>
    some (([]:List Za),6)
   | .inr (x4,x5) =>
    some (x4,x5)
 | .inr _ =>
  some (l,0)

/-! muntin/muntinref21.Refine -/
/-! muntin/muntinref10.Same -/
def ZaC.s0 (a:List Za) (b:List Za):Int→Option (Int⊕(Unit⊕Unit)):=fun i =>
 if decide (i<(a.length:Int)) then
  ck ((0:Int)≤i∧i<(a.length:Int)) <|
  ck ((0:Int)≤i∧i<(b.length:Int)) <|
  if !(decide (gi a i.toNat=gi b i.toNat)) then
   some (.inr (.inr ()))
  else
   ck (zY (i+1)) <|
   some (.inl (i+1))
 else
  some (.inr (.inl ()))

def ZaC (a:List Za) (b:List Za):Option Bool :=
 if !(decide ((a.length:Int)=(b.length:Int))) then
  some false
 else
  (
   ZJ (ZaC.s0 a b) big 0:Option (Unit⊕Unit)).bind fun o₁=>match o₁ with
  | .inl _ =>
   some true
  | .inr _ =>
   some false

/-! muntin/muntinlaw21.told -/
def Zbx (l:List Za):Option Bool :=
 (ZbX l).bind fun (x,x1) =>
 (zP l).bind fun (x2,x3) =>
 (ZaF l).bind fun (x4,x5) =>
 (z7 l).bind fun (x6,x7) =>
 (ZbK l).bind fun (x8,x9) =>
 (zJ l).bind fun (x10,x11) =>
 (z5 l).bind fun (x12,x13) =>
 (if decide (x1=x3) then
  (ZaC x x2).bind fun x14 =>
  some x14
 else
  some false).bind fun t =>
 (if t&&(decide (x5=x7)) then
  (ZaC x4 x6).bind fun x15 =>
  some x15
 else
  some false).bind fun t1 =>
 some ((t1&&(decide (x9=x11)))&&(decide (x8=((decide (x11=0))&&(decide (x12<0))))))

/-! muntin/muntinref08.turns -/
def ZaO.s0 (s:ByteArray):Int→Option (Int⊕(Unit⊕Unit)):=fun i =>
 if decide (i<(s.size:Int)) then
  ck ((0:Int)≤i∧i<(s.size:Int)) <|
  if (!(decide (sAt s i.toNat=76)))&&(!(decide (sAt s i.toNat=82))) then
   some (.inr (.inr ()))
  else
   ck (zY (i+1)) <|
   some (.inl (i+1))
 else
  some (.inr (.inl ()))

def ZaO (s:ByteArray):Option Bool :=
 (
  ZJ (ZaO.s0 s) big 0:Option (Unit⊕Unit)).bind fun o₁=>match o₁ with
 | .inl _ =>
  some true
 | .inr _ =>
  some false

/-! muntin/muntinref08.Check -/
def Zag.s0 (s:zX):Int×Int→Option ((Int×Int)⊕Int):=fun (n,i) =>
 if decide (i<(s.Edges.length:Int)) then
  ck ((0:Int)≤i∧i<(s.Edges.length:Int)) <|
  ck (zY (n+(((gi s.Edges i.toNat).Bends).size:Int))) <|
  ck (zY (i+1)) <|
  some (.inl (n+(((gi s.Edges i.toNat).Bends).size:Int),i+1))
 else
  some (.inr n)

def Zag.s1 (s:zX):Int→Option (Int⊕(Unit⊕Int)):=fun i1 =>
 if decide (i1<(s.Edges.length:Int)) then
  ck ((0:Int)≤i1∧i1<(s.Edges.length:Int)) <|
  if (((decide (((gi s.Edges i1.toNat).From)<0))||(decide ((s.Boxes.length:Int)≤((gi s.Edges i1.toNat).From))))||(decide (((gi s.Edges i1.toNat).To)<0)))||(decide ((s.Boxes.length:Int)≤((gi s.Edges i1.toNat).To))) then
   some (.inr (.inr 3))
  else
   (ZaO ((gi s.Edges i1.toNat).Bends)).bind fun x1 =>
   if ((decide (((gi s.Edges i1.toNat).Dir)<0))||(decide (3<((gi s.Edges i1.toNat).Dir))))||(!x1) then
    some (.inr (.inr 2))
   else
    ck (zY (i1+1)) <|
    some (.inl (i1+1))
 else
  some (.inr (.inl ()))

def Zag (s:zX):Option Int :=
 (ZJ (Zag.s0 s) big (0,0)).bind fun n1 =>
 if ((decide (4096<(s.Boxes.length:Int)))||(decide (4096<(s.Edges.length:Int))))||(decide (4096<n1)) then
  some 6
 else
  (
   ZJ (Zag.s1 s) big 0:Option (Unit⊕Int)).bind fun o₃=>match o₃ with
  | .inl _ =>
   some 0
  | .inr x =>
   some x

/-! muntin/muntinref09.Last -/
def Zbh.s0 (e_:ZaQ):Int×Int→Option ((Int×Int)⊕Int):=fun (d,i) =>
 if decide (i<(e_.Bends.size:Int)) then
  ck ((0:Int)≤i∧i<(e_.Bends.size:Int)) <|
  if decide (sAt e_.Bends i.toNat=76) then
   ck (zY (d+1)) <|
   ck (zY (i+1)) <|
   some (.inl ((d+1).tmod 4,i+1))
  else
   ck (zY (d+3)) <|
   ck (zY (i+1)) <|
   some (.inl ((d+3).tmod 4,i+1))
 else
  some (.inr d)

def Zbh (e_:ZaQ):Option Int :=
 (ZJ (Zbh.s0 e_) big (e_.Dir,0)).bind fun d1 =>
 some d1

/-! muntin/muntinref11.Side -/
def Zcr (e_:ZaQ):Option Int :=
 (Zbh e_).bind fun x =>
 ck (zY (x+2)) <|
 some ((x+2).tmod 4)

/-! muntin/muntinref11.On -/
def Za3.s0 (s:zX) (v:Int) (d:Int):(List Int)×Int→Option (((List Int)×Int)⊕(List Int)):=fun (l,i) =>
 if decide (i<(s.Edges.length:Int)) then
  ck ((0:Int)≤i∧i<(s.Edges.length:Int)) <|
  (
   if (decide ((gi s.Edges i.toNat).From=v))&&(decide ((gi s.Edges i.toNat).Dir=d)) then
    ck (zY (2*i)) <|
    ck (l.length+[2*i].length≤1000000000) <|
    some (l++[2*i])
   else
    some l).bind fun l2 =>
  (Zcr (gi s.Edges i.toNat)).bind fun x =>
  if (decide ((gi s.Edges i.toNat).To=v))&&(decide (x=d)) then
   ck (zY (2*i)) <|
   ck (zY ((2*i)+1)) <|
   ck (l2.length+[(2*i)+1].length≤1000000000) <|
   ck (zY (i+1)) <|
   some (.inl (l2++[(2*i)+1],i+1))
  else
   ck (zY (i+1)) <|
   some (.inl (l2,i+1))
 else
  some (.inr l)

def Za3 (s:zX) (v:Int) (d:Int):Option (List Int) :=
 (ZJ (Za3.s0 s v d) big (([]:List Int),0)).bind fun l1 =>
 some l1

/-! muntin/muntinref11.Count -/
def z9.s1 (s:zX) (v:Int):Int×Int→Option ((Int×Int)⊕Int):=fun (n2,d) =>
 (if decide (d<4) then
  ck ((0:Int)≤v∧v<(s.Boxes.length:Int)) <|
  some (gi s.Boxes v.toNat)
 else
  some false).bind fun t =>
 if t then
  (Za3 s v d).bind fun x =>
  ck (zY (n2+(x.length:Int))) <|
  ck (zY (d+1)) <|
  some (.inl (n2+(x.length:Int),d+1))
 else
  some (.inr n2)

def z9.s0 (s:zX):Int×Int→Option ((Int×Int)⊕Int):=fun (n,v) =>
 if decide (v<(s.Boxes.length:Int)) then
  ck (zY (n+1)) <|
  (ZJ (z9.s1 s v) big (n+1,0)).bind fun n3 =>
  ck ((0:Int)≤v∧v<(s.Boxes.length:Int)) <|
  if gi s.Boxes v.toNat then
   ck (zY (n3+3)) <|
   ck (zY (v+1)) <|
   some (.inl (n3+3,v+1))
  else
   ck (zY (v+1)) <|
   some (.inl (n3,v+1))
 else
  some (.inr n)

def z9.s2 (s:zX):Int×Int→Option ((Int×Int)⊕Int):=fun (n4,i) =>
 if decide (i<(s.Edges.length:Int)) then
  ck ((0:Int)≤i∧i<(s.Edges.length:Int)) <|
  ck (zY (n4+(((gi s.Edges i.toNat).Bends).size:Int))) <|
  ck (zY (i+1)) <|
  some (.inl (n4+(((gi s.Edges i.toNat).Bends).size:Int),i+1))
 else
  some (.inr n4)

def z9 (s:zX):Option Int :=
 (ZJ (z9.s0 s) big (0,0)).bind fun n1 =>
 (ZJ (z9.s2 s) big (n1,0)).bind fun n5 =>
 some n5

/-! muntin/muntinref11.Wrong -/
def zr.s1 (s:zX) (v:Int):Int→Option (Int⊕(Unit⊕Unit)):=fun d =>
 (if decide (d<4) then
  ck ((0:Int)≤v∧v<(s.Boxes.length:Int)) <|
  some (!(gi s.Boxes v.toNat))
 else
  some false).bind fun t =>
 if t then
  (Za3 s v d).bind fun x2 =>
  if decide (1<(x2.length:Int)) then
   some (.inr (.inr ()))
  else
   ck (zY (d+1)) <|
   some (.inl (d+1))
 else
  some (.inr (.inl ()))

def zr.s0 (s:zX):Int→Option (Int⊕(Unit⊕Unit)):=fun v =>
 if decide (v<(s.Boxes.length:Int)) then
  (
   ZJ (zr.s1 s v) big 0:Option (Unit⊕Unit)).bind fun o₃=>match o₃ with
  | .inl _ =>
   ck (zY (v+1)) <|
   some (.inl (v+1))
  | .inr _ =>
   some (.inr (.inr ()))
 else
  some (.inr (.inl ()))

def zr.s2 (s:zX):Int→Option (Int⊕(Unit⊕Unit)):=fun i =>
 if decide (i<(s.Edges.length:Int)) then
  ck ((0:Int)≤i∧i<(s.Edges.length:Int)) <|
  (if (decide ((gi s.Edges i.toNat).From=(gi s.Edges i.toNat).To))&&(((gi s.Edges i.toNat).Bends).toList == (⟨#[]⟩:ByteArray).toList) then
   ck ((0:Int)≤((gi s.Edges i.toNat).From)∧((gi s.Edges i.toNat).From)<(s.Boxes.length:Int)) <|
   some (!(gi s.Boxes ((gi s.Edges i.toNat).From:Int).toNat))
  else
   some false).bind fun t1 =>
  if t1 then
   some (.inr (.inr ()))
  else
   ck (zY (i+1)) <|
   some (.inl (i+1))
 else
  some (.inr (.inl ()))

def zr (s:zX):Option Int :=
 (Zag s).bind fun x =>
 if !(decide (x=0)) then
  some x
 else
  (z9 s).bind fun x1 =>
  if decide (4096<x1) then
   some 6
  else
   (
    ZJ (zr.s0 s) big 0:Option (Unit⊕Unit)).bind fun o₁=>match o₁ with
   | .inl _ =>
    (
     ZJ (zr.s2 s) big 0:Option (Unit⊕Unit)).bind fun o₅=>match o₅ with
    | .inl _ =>
     some 0
    | .inr _ =>
     some 10
   | .inr _ =>
    some 8

/-! muntin/muntinref11.box -/
def Za1.s1 (d:Int) (x1:List Int):(List Za)×(List (A2 Int))×Int×Int→Option (((List Za)×(List (A2 Int))×Int×Int)⊕((List Za)×(List (A2 Int))×Int)):=fun (n5,n6,from_,i) =>
 if decide (i<(x1.length:Int)) then
  (ZO 1).bind fun x2 =>
  ck (n5.length+x2.length≤1000000000) <|
  ck ((0:Int)≤i∧i<(x1.length:Int)) <|
  ck ((2:Int)≠0∧zY ((gi x1 i.toNat).tdiv 2)) <|
  ck ((0:Int)≤((gi x1 i.toNat).tdiv 2)∧((gi x1 i.toNat).tdiv 2)<(n6.length:Int)) <|
  ck ((0:Int)≤((gi x1 i.toNat).tmod 2)∧((gi x1 i.toNat).tmod 2)<2) <|
  (ZQ (n5++x2) from_ (gi ([1,0,1,0]:List Int) d.toNat) (n5.length:Int) (-1)).bind fun (x3,x4) =>
  ck (zY (i+1)) <|
  some (.inl (x3,n6.set ((gi x1 i.toNat).tdiv 2:Int).toNat ((gi n6 ((gi x1 i.toNat).tdiv 2:Int).toNat).set ((gi x1 i.toNat).tmod 2) (n5.length:Int)),(n5.length:Int),i+1))
 else
  some (.inr (n5,n6,from_))

def Za1.s0 (n:Zbf) (s:zX) (v:Int):(List Za)×(List (A2 Int))×Int→Option (((List Za)×(List (A2 Int))×Int)⊕((List Za)×(List (A2 Int)))):=fun (n1,n2,d) =>
 if decide (d<4) then
  ck (zY ((n.Cells.length:Int)+1)) <|
  ck (zY ((n.Cells.length:Int)+3)) <|
  ck ((0:Int)≤d∧d<([(n.Cells.length:Int)+1,(n.Cells.length:Int)+3,(n.Cells.length:Int),(n.Cells.length:Int)].length:Int)) <|
  ck (zY ((n.Cells.length:Int)+2)) <|
  ck ((0:Int)≤d∧d<([(n.Cells.length:Int)+2,(n.Cells.length:Int)+2,(n.Cells.length:Int)+3,(n.Cells.length:Int)+1].length:Int)) <|
  ck ((0:Int)≤d∧d<(([1,0,1,0]:List Int).length:Int)) <|
  (Za3 s v d).bind fun x1 =>
  (ZJ (Za1.s1 d x1) big (n1,n2,gi [(n.Cells.length:Int)+1,(n.Cells.length:Int)+3,(n.Cells.length:Int),(n.Cells.length:Int)] d.toNat,0)).bind fun (n7,n8,from_1) =>
  (ZQ n7 from_1 (gi ([1,0,1,0]:List Int) d.toNat) (gi [(n.Cells.length:Int)+2,(n.Cells.length:Int)+2,(n.Cells.length:Int)+3,(n.Cells.length:Int)+1] d.toNat) (-1)).bind fun (x5,x6) =>
  ck (zY (d+1)) <|
  some (.inl (x5,n8,d+1))
 else
  some (.inr (n1,n2))

def Za1 (n:Zbf) (s:zX) (v:Int):Option Zbf :=
 (ZO 4).bind fun x =>
 ck (n.Cells.length+x.length≤1000000000) <|
 (ZJ (Za1.s0 n s v) big (n.Cells++x,n.Ends,0)).bind fun (n3,n4) =>
 some (⟨n3,n.First,n4,n.Ways⟩:Zbf)

/-! muntin/muntinref11.Of -/
def zi.s2 (n:List Za) (x2:List Int):(List (A2 Int))×Int→Option (((List (A2 Int))×Int)⊕(List (A2 Int))):=fun (n10,i) =>
 if decide (i<(x2.length:Int)) then
  ck ((0:Int)≤i∧i<(x2.length:Int)) <|
  ck ((2:Int)≠0∧zY ((gi x2 i.toNat).tdiv 2)) <|
  ck ((0:Int)≤((gi x2 i.toNat).tdiv 2)∧((gi x2 i.toNat).tdiv 2)<(n10.length:Int)) <|
  ck ((0:Int)≤((gi x2 i.toNat).tmod 2)∧((gi x2 i.toNat).tmod 2)<2) <|
  ck (zY (i+1)) <|
  some (.inl (n10.set ((gi x2 i.toNat).tdiv 2:Int).toNat ((gi n10 ((gi x2 i.toNat).tdiv 2:Int).toNat).set ((gi x2 i.toNat).tmod 2) (n.length:Int)),i+1))
 else
  some (.inr n10)

def zi.s1 (s:zX) (n:List Za) (v:Int):(List (A2 Int))×Int→Option (((List (A2 Int))×Int)⊕(List (A2 Int))):=fun (n8,d) =>
 if decide (d<4) then
  (Za3 s v d).bind fun x2 =>
  (ZJ (zi.s2 n x2) big (n8,0)).bind fun n11 =>
  ck (zY (d+1)) <|
  some (.inl (n11,d+1))
 else
  some (.inr n8)

def zi.s0 (s:zX):(List Za)×(List Int)×(List (A2 Int))×(List (List Int))×Int→Option (((List Za)×(List Int)×(List (A2 Int))×(List (List Int))×Int)⊕((List Za)×(List Int)×(List (A2 Int))×(List (List Int)))):=fun (n,n1,n2,n3,v) =>
 if decide (v<(s.Boxes.length:Int)) then
  ck (n1.length+[(n.length:Int)].length≤1000000000) <|
  ck ((0:Int)≤v∧v<(s.Boxes.length:Int)) <|
  if gi s.Boxes v.toNat then
   (Za1 (⟨n,n1++[(n.length:Int)],n2,n3⟩:Zbf) s v).bind fun x =>
   ck (zY (v+1)) <|
   some (.inl (x.Cells,x.First,x.Ends,x.Ways,v+1))
  else
   (ZO 1).bind fun x1 =>
   ck (n.length+x1.length≤1000000000) <|
   (ZJ (zi.s1 s n v) big (n2,0)).bind fun n9 =>
   ck (zY (v+1)) <|
   some (.inl (n++x1,n1++[(n.length:Int)],n9,n3,v+1))
 else
  some (.inr (n,n1,n2,n3))

def zi.s4 (s:zX) (i1:Int):(List Za)×Int×Int×(List Int)×Int→Option (((List Za)×Int×Int×(List Int)×Int)⊕((List Za)×Int×Int×(List Int))):=fun (n16,at_,d1,way,k_) =>
 if decide (k_<(((gi s.Edges i1.toNat).Bends).size:Int)) then
  (ZO 1).bind fun x3 =>
  ck (n16.length+x3.length≤1000000000) <|
  (ZQ (n16++x3) at_ d1 (n16.length:Int) i1).bind fun (x4,x5) =>
  ck (way.length+[(n16.length:Int)].length≤1000000000) <|
  ck ((0:Int)≤k_∧k_<(((gi s.Edges i1.toNat).Bends).size:Int)) <|
  if decide (sAt ((gi s.Edges i1.toNat).Bends) k_.toNat=76) then
   ck (zY (d1+1)) <|
   ck (zY (k_+1)) <|
   some (.inl (x4,(n16.length:Int),(d1+1).tmod 4,way++[(n16.length:Int)],k_+1))
  else
   ck (zY (d1+3)) <|
   ck (zY (k_+1)) <|
   some (.inl (x4,(n16.length:Int),(d1+3).tmod 4,way++[(n16.length:Int)],k_+1))
 else
  some (.inr (n16,at_,d1,way))

def zi.s3 (s:zX) (n6:List (A2 Int)):(List Za)×(List (List Int))×Int→Option (((List Za)×(List (List Int))×Int)⊕((List Za)×(List (List Int)))):=fun (n12,n13,i1) =>
 if decide (i1<(s.Edges.length:Int)) then
  ck ((0:Int)≤i1∧i1<(n6.length:Int)) <|
  ck ((0:Int)≤i1∧i1<(s.Edges.length:Int)) <|
  (ZJ (zi.s4 s i1) big (n12,(gi n6 i1.toNat).get 0,(gi s.Edges i1.toNat).Dir,[(gi n6 i1.toNat).get 0],0)).bind fun (n17,at_1,d2,way1) =>
  (ZQ n17 at_1 d2 ((gi n6 i1.toNat).get 1) i1).bind fun (x6,x7) =>
  ck (way1.length+[(gi n6 i1.toNat).get 1].length≤1000000000) <|
  ck (n13.length+1≤1000000000) <|
  ck (zY (i1+1)) <|
  some (.inl (x6,n13++[way1++[(gi n6 i1.toNat).get 1]],i1+1))
 else
  some (.inr (n12,n13))

def zi (s:zX):Option Zbf :=
 ck ((0:Int)≤(s.Edges.length:Int)∧(s.Edges.length:Int)≤1000000000) <|
 (ZJ (zi.s0 s) big (([]:List Za),([]:List Int),List.replicate ((s.Edges.length:Int):Int).toNat (⟨0,0⟩:A2 Int),([]:List (List Int)),0)).bind fun (n4,n5,n6,n7) =>
 (ZJ (zi.s3 s n6) big (n4,n7,0)).bind fun (n14,n15) =>
 some (⟨n14,n5,n6,n15⟩:Zbf)

/-! muntin/muntinlaw21.RectTells -/
def ZbT (z:Zao) (y:Zbr) (raw:List Za):Option Bool :=
 (ZR z 12).bind fun (x,x1) =>
 (zM y 4).bind fun x2 =>
 (Zc4 ).bind fun x3 =>
 (if !x3 then
  some true
 else
  (Zbx x).bind fun x4 =>
  some (!x4)).bind fun t =>
 (if t then
  some true
 else
  ck ((0:Int)≤(min (raw.length:Int) 4)∧(min (raw.length:Int) 4)≤(raw.length:Int)) <|
  (Zbx (raw.take (min (raw.length:Int) 4:Int).toNat)).bind fun x5 =>
  some (!x5)).bind fun t1 =>
 if t1 then
  some false
 else
  (zr x2).bind fun x6 =>
  if !(decide (x6=0)) then
   some true
  else
   (zi x2).bind fun x7 =>
   (if decide (24<(x7.Cells.length:Int)) then
    some true
   else
    (Zbx x7.Cells).bind fun x8 =>
    some x8).bind fun t2 =>
   some t2

end Mu
