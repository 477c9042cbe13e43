/- What the functions work out. -/
import Derived.Test.YtjhlegefgllihaaMuA
import Derived.Test.YtjhlegefgllihaaMuR
set_option linter.unusedVariables false
set_option linter.unnecessarySimpa false
set_option linter.unusedSimpArgs false
set_option maxHeartbeats 2000000
set_option maxRecDepth 10000
namespace Mu
open Go (IntKind BinOp UnOp)
structure zT where
 At:List Int
 Bits:List Int
 Own:List Int
 deriving DecidableEq,Inhabited
abbrev ZgD:Enc Int:=⟨1,fun x=>[.i .u8 x],fun _=>rfl⟩
theorem ZgD.one (x:Int):(ZgD.c x).all V.one=true:=rfl
abbrev Zlq:Enc Int:=⟨1,fun x=>[.i .i8 x],fun _=>rfl⟩
theorem Zlq.one (x:Int):(Zlq.c x).all V.one=true:=rfl
structure Za where
 Next:A4 Int
 Owner:A4 Int
 deriving DecidableEq,Inhabited
structure Zg where
 X:Int
 Y:Int
 deriving DecidableEq,Inhabited
abbrev Zk:Enc Zg:=⟨2,fun x=>[.i .i64 x.X,.i .i64 x.Y],fun _=>rfl⟩
theorem Zk.one (x:Zg):(Zk.c x).all V.one=true:=rfl
theorem Zk.same (x y:Zg):ZaK [.i,.i] (Zk.c x) (Zk.c y)=some (decide (x=y)):=by
 obtain ⟨x1,x2⟩:=x;obtain ⟨y1,y2⟩:=y;refine (Zgm (Zgm Zht)).trans ?_;congr 1;rw [Bool.eq_iff_iff];simp [and_assoc]
abbrev Zw:Enc Za:=⟨8,fun x=>[.i .i64 x.Next.a,.i .i64 x.Next.b,.i .i64 x.Next.c,.i .i64 x.Next.d,.i .i64 x.Owner.a,.i .i64 x.Owner.b,.i .i64 x.Owner.c,.i .i64 x.Owner.d],fun _=>rfl⟩
theorem Zw.one (x:Za):(Zw.c x).all V.one=true:=rfl
structure Zj where
 From:Int
 To:Int
 Weight:Int
 deriving DecidableEq,Inhabited
structure ZH where
 Vertical:Bool
 Place:Int
 deriving DecidableEq,Inhabited
abbrev e_bool:Enc Bool:=⟨1,fun x=>[.b x],fun _=>rfl⟩
theorem e_bool.one (x:Bool):(e_bool.c x).all V.one=true:=rfl
structure Z9 where
 Cell:Int
 Dir:Int
 deriving DecidableEq,Inhabited
abbrev Z0:Enc Z9:=⟨2,fun x=>[.i .i64 x.Cell,.i .i64 x.Dir],fun _=>rfl⟩
theorem Z0.one (x:Z9):(Z0.c x).all V.one=true:=rfl
theorem Z0.same (x y:Z9):ZaK [.i,.i] (Z0.c x) (Z0.c y)=some (decide (x=y)):=by
 obtain ⟨x1,x2⟩:=x;obtain ⟨y1,y2⟩:=y;refine (Zgm (Zgm Zht)).trans ?_;congr 1;rw [Bool.eq_iff_iff];simp [and_assoc]
abbrev Zda:Enc (A4 Int):=⟨4,fun x=>[.i .i64 x.a,.i .i64 x.b,.i .i64 x.c,.i .i64 x.d],fun _=>rfl⟩
theorem Zda.one (x:A4 Int):(Zda.c x).all V.one=true:=rfl
abbrev ZQ:Enc (A2 ZH):=⟨4,fun x=>[.b x.a.Vertical,.i .i64 x.a.Place,.b x.b.Vertical,.i .i64 x.b.Place],fun _=>rfl⟩
theorem ZQ.one (x:A2 ZH):(ZQ.c x).all V.one=true:=rfl
abbrev Zh:Enc Zj:=⟨3,fun x=>[.i .i64 x.From,.i .i64 x.To,.i .i64 x.Weight],fun _=>rfl⟩
theorem Zh.one (x:Zj):(Zh.c x).all V.one=true:=rfl
structure Za2 where
 X:List Int
 Y:List Int
 Vert:List (List Int)
 Horz:List (List Int)
 deriving DecidableEq,Inhabited
structure ZaL where
 Chains:Za2
 H:List Zj
 V:List Zj
 deriving DecidableEq,Inhabited
abbrev Z2:Enc ZH:=⟨2,fun x=>[.b x.Vertical,.i .i64 x.Place],fun _=>rfl⟩
theorem Z2.one (x:ZH):(Z2.c x).all V.one=true:=rfl
structure Zam where
 left:Int
 right:Int
 bottom:Int
 top:Int
 deriving DecidableEq,Inhabited
abbrev ZO:Enc Zam:=⟨4,fun x=>[.i .i64 x.left,.i .i64 x.right,.i .i64 x.bottom,.i .i64 x.top],fun _=>rfl⟩
theorem ZO.one (x:Zam):(ZO.c x).all V.one=true:=rfl
abbrev zD:Enc Int:=⟨1,fun x=>[.i .u64 x],fun _=>rfl⟩
theorem zD.one (x:Int):(zD.c x).all V.one=true:=rfl
structure zC where
 rows:List (List Int)
 deriving DecidableEq,Inhabited
abbrev Zb9:Enc (A2 Int):=⟨2,fun x=>[.i .i64 x.a,.i .i64 x.b],fun _=>rfl⟩
theorem Zb9.one (x:A2 Int):(Zb9.c x).all V.one=true:=rfl
structure ZbT where
 Graphs:ZaL
 Open:List (A2 ZH)
 deriving DecidableEq,Inhabited
structure zq where
 result:ZbT
 h:zC
 v:zC
 lines:List ZH
 sides:List Zam
 deriving DecidableEq,Inhabited
structure Zr where
 horizontal:Bool
 from_:Int
 to:Int
 deriving DecidableEq,Inhabited
abbrev Zcr:Enc (A4 Zr):=⟨12,fun x=>[.b x.a.horizontal,.i .i64 x.a.from_,.i .i64 x.a.to,.b x.b.horizontal,.i .i64 x.b.from_,.i .i64 x.b.to,.b x.c.horizontal,.i .i64 x.c.from_,.i .i64 x.c.to,.b x.d.horizontal,.i .i64 x.d.from_,.i .i64 x.d.to],fun _=>rfl⟩
theorem Zcr.one (x:A4 Zr):(Zcr.c x).all V.one=true:=rfl
abbrev zk:Enc Zr:=⟨3,fun x=>[.b x.horizontal,.i .i64 x.from_,.i .i64 x.to],fun _=>rfl⟩
theorem zk.one (x:Zr):(zk.c x).all V.one=true:=rfl
abbrev Zcm:Enc (A3 Int):=⟨3,fun x=>[.i .i64 x.a,.i .i64 x.b,.i .i64 x.c],fun _=>rfl⟩
theorem Zcm.one (x:A3 Int):(Zcm.c x).all V.one=true:=rfl
structure zF where
 X:List Int
 Y:List Int
 Vert:List (List Int)
 Horz:List (List Int)
 deriving DecidableEq,Inhabited
structure zg where
 Vertical:Bool
 Place:Int
 deriving DecidableEq,Inhabited
abbrev z6:Enc zg:=⟨2,fun x=>[.b x.Vertical,.i .i64 x.Place],fun _=>rfl⟩
theorem z6.one (x:zg):(z6.c x).all V.one=true:=rfl
def ZfX (x:Int):Prop:=Wf .u8 x
def ZkB (x:Int):Prop:=Wf .i8 x
/-! muntin/muntinref10.New -/
def zE.s1 (v:Int):(List Za)×Int→Option (((List Za)×Int)⊕(List Za)):=fun (l2,d) =>
 if decide (d<4) then
  ck ((0:Int)≤v∧v<(l2.length:Int)) <|
  ck ((0:Int)≤d∧d<4) <|
  ck (ZaA (d+1)) <|
  some (.inl (l2.set v.toNat ({ gi l2 v.toNat with Next:=((gi l2 v.toNat).Next).set d (-1) }),d+1))
 else
  some (.inr l2)

def zE.s0 (n:Int):(List Za)×Int→Option (((List Za)×Int)⊕(List Za)):=fun (l,v) =>
 if decide (v<n) then
  (ZZ (zE.s1 v) big (l,0)).bind fun l3 =>
  ck (ZaA (v+1)) <|
  some (.inl (l3,v+1))
 else
  some (.inr l)

def zE (n:Int):Option (List Za) :=
 ck ((0:Int)≤n∧n≤1000000000) <|
 (ZZ (zE.s0 n) big (List.replicate n.toNat (⟨⟨0,0,0,0⟩,⟨0,0,0,0⟩⟩:Za),0)).bind fun l1 =>
 some l1

/-! muntin/muntinref10.Nearest -/
def zc.s0 (at_:List Zg) (i:Int) (d:Int):Int×Int→Option ((Int×Int)⊕Int):=fun (best,k_) =>
 if decide (k_<(at_.length:Int)) then
  (if decide (d=0) then
   ck ((0:Int)≤k_∧k_<(at_.length:Int)) <|
   ck ((0:Int)≤i∧i<(at_.length:Int)) <|
   some (decide ((gi at_ k_.toNat).Y=(gi at_ i.toNat).Y))
  else
   some false).bind fun t =>
  (if t then
   ck ((0:Int)≤k_∧k_<(at_.length:Int)) <|
   ck ((0:Int)≤i∧i<(at_.length:Int)) <|
   some (decide (((gi at_ i.toNat).X)<((gi at_ k_.toNat).X)))
  else
   some false).bind fun t1 =>
  (if t1 then
   (if decide (best<0) then
    some true
   else
    ck ((0:Int)≤k_∧k_<(at_.length:Int)) <|
    ck ((0:Int)≤best∧best<(at_.length:Int)) <|
    some (decide (((gi at_ k_.toNat).X)<((gi at_ best.toNat).X)))).bind fun t3 =>
   some t3
  else
   some false).bind fun t2 =>
  (
   if t2 then
    some k_
   else
    some best).bind fun best2 =>
  (if decide (d=1) then
   ck ((0:Int)≤k_∧k_<(at_.length:Int)) <|
   ck ((0:Int)≤i∧i<(at_.length:Int)) <|
   some (decide ((gi at_ k_.toNat).X=(gi at_ i.toNat).X))
  else
   some false).bind fun t4 =>
  (if t4 then
   ck ((0:Int)≤k_∧k_<(at_.length:Int)) <|
   ck ((0:Int)≤i∧i<(at_.length:Int)) <|
   some (decide (((gi at_ i.toNat).Y)<((gi at_ k_.toNat).Y)))
  else
   some false).bind fun t5 =>
  (if t5 then
   (if decide (best2<0) then
    some true
   else
    ck ((0:Int)≤k_∧k_<(at_.length:Int)) <|
    ck ((0:Int)≤best2∧best2<(at_.length:Int)) <|
    some (decide (((gi at_ k_.toNat).Y)<((gi at_ best2.toNat).Y)))).bind fun t7 =>
   some t7
  else
   some false).bind fun t6 =>
  if t6 then
   ck (ZaA (k_+1)) <|
   some (.inl (k_,k_+1))
  else
   ck (ZaA (k_+1)) <|
   some (.inl (best2,k_+1))
 else
  some (.inr best)

def zc (at_:List Zg) (i:Int) (d:Int):Option Int :=
 (ZZ (zc.s0 at_ i d) big ((-1),0)).bind fun best1 =>
 some best1

/-! muntin/muntinref10.Crossed -/
def zb.s1 (at_:List Zg) (l:List Za) (i:Int) (w:Int) (a:Int):Int→Option (Int⊕(Unit⊕Unit)):=fun d =>
 if decide (d<2) then
  ck ((0:Int)≤a∧a<(l.length:Int)) <|
  ck ((0:Int)≤d∧d<4) <|
  if decide ((((gi l a.toNat).Next).get d)<0) then
   ck (ZaA (d+1)) <|
   some (.inl (d+1))
  else
   ck ((0:Int)≤a∧a<(at_.length:Int)) <|
   ck ((0:Int)≤(((gi l a.toNat).Next).get d)∧(((gi l a.toNat).Next).get d)<(at_.length:Int)) <|
   (if decide ((gi at_ a.toNat).Y=(gi at_ (((gi l a.toNat).Next).get d:Int).toNat).Y) then
    ck ((0:Int)≤i∧i<(at_.length:Int)) <|
    ck ((0:Int)≤w∧w<(at_.length:Int)) <|
    some (decide ((gi at_ i.toNat).X=(gi at_ w.toNat).X))
   else
    some false).bind fun t =>
   (if t then
    ck ((0:Int)≤i∧i<(at_.length:Int)) <|
    some (decide (((gi at_ a.toNat).X)<((gi at_ i.toNat).X)))
   else
    some false).bind fun t1 =>
   (if t1 then
    ck ((0:Int)≤i∧i<(at_.length:Int)) <|
    some (decide (((gi at_ i.toNat).X)<((gi at_ (((gi l a.toNat).Next).get d:Int).toNat).X)))
   else
    some false).bind fun t2 =>
   (if t2 then
    ck ((0:Int)≤i∧i<(at_.length:Int)) <|
    some (decide (((gi at_ i.toNat).Y)<((gi at_ a.toNat).Y)))
   else
    some false).bind fun t3 =>
   (if t3 then
    ck ((0:Int)≤w∧w<(at_.length:Int)) <|
    some (decide (((gi at_ a.toNat).Y)<((gi at_ w.toNat).Y)))
   else
    some false).bind fun t4 =>
   if t4 then
    some (.inr (.inr ()))
   else
    (if decide ((gi at_ a.toNat).X=(gi at_ (((gi l a.toNat).Next).get d:Int).toNat).X) then
     ck ((0:Int)≤i∧i<(at_.length:Int)) <|
     ck ((0:Int)≤w∧w<(at_.length:Int)) <|
     some (decide ((gi at_ i.toNat).Y=(gi at_ w.toNat).Y))
    else
     some false).bind fun t5 =>
    (if t5 then
     ck ((0:Int)≤i∧i<(at_.length:Int)) <|
     some (decide (((gi at_ i.toNat).X)<((gi at_ a.toNat).X)))
    else
     some false).bind fun t6 =>
    (if t6 then
     ck ((0:Int)≤w∧w<(at_.length:Int)) <|
     some (decide (((gi at_ a.toNat).X)<((gi at_ w.toNat).X)))
    else
     some false).bind fun t7 =>
    (if t7 then
     ck ((0:Int)≤i∧i<(at_.length:Int)) <|
     some (decide (((gi at_ a.toNat).Y)<((gi at_ i.toNat).Y)))
    else
     some false).bind fun t8 =>
    (if t8 then
     ck ((0:Int)≤i∧i<(at_.length:Int)) <|
     some (decide (((gi at_ i.toNat).Y)<((gi at_ (((gi l a.toNat).Next).get d:Int).toNat).Y)))
    else
     some false).bind fun t9 =>
    if t9 then
     some (.inr (.inr ()))
    else
     ck (ZaA (d+1)) <|
     some (.inl (d+1))
 else
  some (.inr (.inl ()))

def zb.s0 (at_:List Zg) (l:List Za) (i:Int) (w:Int):Int→Option (Int⊕(Unit⊕Unit)):=fun a =>
 if decide (a<(l.length:Int)) then
  (
   ZZ (zb.s1 at_ l i w a) big 0:Option (Unit⊕Unit)).bind fun o₃=>match o₃ with
  | .inl _ =>
   ck (ZaA (a+1)) <|
   some (.inl (a+1))
  | .inr _ =>
   some (.inr (.inr ()))
 else
  some (.inr (.inl ()))

def zb (at_:List Zg) (l:List Za) (i:Int) (w:Int):Option Bool :=
 (
  ZZ (zb.s0 at_ l i w) big 0:Option (Unit⊕Unit)).bind fun o₁=>match o₁ with
 | .inl _ =>
  some false
 | .inr _ =>
  some true

/-! muntin/muntinref10.with -/
def Za4.s0 (l:List Za) (v:Int) (d:Int) (w:Int) (o:Int):(List Za)×Int→Option (((List Za)×Int)⊕(List Za)):=fun (out,i) =>
 if decide (i<(l.length:Int)) then
  ck ((0:Int)≤i∧i<(l.length:Int)) <|
  (
   if decide (i=v) then
    ck ((0:Int)≤d∧d<4) <|
    some ({ { gi l i.toNat with Next:=((gi l i.toNat).Next).set d w } with Owner:=(({ gi l i.toNat with Next:=((gi l i.toNat).Next).set d w }).Owner).set d o })
   else
    some (gi l i.toNat)).bind fun c =>
  if decide (i=w) then
   ck (ZaA (d+2)) <|
   ck ((0:Int)≤((d+2).tmod 4)∧((d+2).tmod 4)<4) <|
   ck (out.length+[{ { c with Next:=c.Next.set ((d+2).tmod 4) v } with Owner:=(({ c with Next:=c.Next.set ((d+2).tmod 4) v }).Owner).set ((d+2).tmod 4) o }].length≤1000000000) <|
   ck (ZaA (i+1)) <|
   some (.inl (out++[{ { c with Next:=c.Next.set ((d+2).tmod 4) v } with Owner:=(({ c with Next:=c.Next.set ((d+2).tmod 4) v }).Owner).set ((d+2).tmod 4) o }],i+1))
  else
   ck (out.length+[c].length≤1000000000) <|
   ck (ZaA (i+1)) <|
   some (.inl (out++[c],i+1))
 else
  some (.inr out)

def Za4 (l:List Za) (v:Int) (d:Int) (w:Int) (o:Int):Option (List Za) :=
 (ZZ (Za4.s0 l v d w o) big (([]:List Za),0)).bind fun out1 =>
 some out1

/-! muntin/muntinref10.Make -/
def ZR.s1 (z:zT) (at_:List Zg) (i:Int):Bool×Int→Option ((Bool×Int)⊕((List Zg)×Bool)):=fun (met,k_) =>
 if decide (k_<(at_.length:Int)) then
  (if met then
   some true
  else
   ck ((0:Int)≤k_∧k_<(at_.length:Int)) <|
   some (decide (gi at_ k_.toNat=(⟨(gi z.At i.toNat).tmod 8,((gi z.At i.toNat).tdiv 8).tmod 8⟩:Zg)))).bind fun t =>
  ck (ZaA (k_+1)) <|
  some (.inl (t,k_+1))
 else
  some (.inr (at_,met))

def ZR.s0 (z:zT) (most:Int):(List Zg)×Int→Option (((List Zg)×Int)⊕(List Zg)):=fun (at_,i) =>
 if (decide (i<(z.At.length:Int)))&&(decide ((at_.length:Int)<most)) then
  ck ((0:Int)≤i∧i<(z.At.length:Int)) <|
  ck (inK .i64 (gi z.At i.toNat)) <|
  ck ((8:Int)≠0∧ZaA ((gi z.At i.toNat).tdiv 8)) <|
  (ZZ (ZR.s1 z at_ i) big (false,0)).bind fun (at_2,met1) =>
  if !met1 then
   ck (at_2.length+[(⟨(gi z.At i.toNat).tmod 8,((gi z.At i.toNat).tdiv 8).tmod 8⟩:Zg)].length≤1000000000) <|
   ck (ZaA (i+1)) <|
   some (.inl (at_2++[(⟨(gi z.At i.toNat).tmod 8,((gi z.At i.toNat).tdiv 8).tmod 8⟩:Zg)],i+1))
  else
   ck (ZaA (i+1)) <|
   some (.inl (at_2,i+1))
 else
  some (.inr at_)

def ZR.s3 (i1:Int) (bits:Int) (at_6:List Zg) (own:Int):(List Za)×Int→Option (((List Za)×Int)⊕(List Za)):=fun (l4,d) =>
 if decide (d<2) then
  (zc at_6 i1 d).bind fun x1 =>
  ck ((0:Int)≤d) <|
  if (decide (ZI .u8 (zt .u8 bits d) 1=0))||(decide (x1<0)) then
   ck (ZaA (d+1)) <|
   some (.inl (l4,d+1))
  else
   (zb at_6 l4 i1 x1).bind fun x2 =>
   if !x2 then
    (Za4 l4 i1 d x1 own).bind fun x3 =>
    ck (ZaA (d+1)) <|
    some (.inl (x3,d+1))
   else
    ck (ZaA (d+1)) <|
    some (.inl (l4,d+1))
 else
  some (.inr l4)

def ZR.s2 (z:zT):(List Zg)×(List Za)×Int→Option (((List Zg)×(List Za)×Int)⊕((List Zg)×(List Za))):=fun (at_3,l,i1) =>
 if decide (i1<(at_3.length:Int)) then
  (
   if decide (i1<(z.Bits.length:Int)) then
    ck ((0:Int)≤i1∧i1<(z.Bits.length:Int)) <|
    some (at_3,l,gi z.Bits i1.toNat)
   else
    some (at_3,l,3)).bind fun (at_5,l2,bits) =>
  (
   if decide (i1<(z.Own.length:Int)) then
    ck ((0:Int)≤i1∧i1<(z.Own.length:Int)) <|
    ck (inK .i64 (gi z.Own i1.toNat)) <|
    if decide ((gi z.Own i1.toNat)<(-2)) then
     ck (ZaA (-(gi z.Own i1.toNat))) <|
     some (at_5,l2,-(gi z.Own i1.toNat))
    else
     some (at_5,l2,gi z.Own i1.toNat)
   else
    some (at_5,l2,i1)).bind fun (at_6,l3,own) =>
  (ZZ (ZR.s3 i1 bits at_6 own) big (l3,0)).bind fun l5 =>
  ck (ZaA (i1+1)) <|
  some (.inl (at_6,l5,i1+1))
 else
  some (.inr (at_3,l))

def ZR (z:zT) (most:Int):Option ((List Za)×(List Zg)) :=
 (ZZ (ZR.s0 z most) big (([]:List Zg),0)).bind fun at_1 =>
 (zE (at_1.length:Int)).bind fun x =>
 (ZZ (ZR.s2 z) big (at_1,x,0)).bind fun (at_4,l1) =>
 some (l1,at_4)

/-! muntin/compass.Good -/
def Zby (d:Int):Option Bool :=
 some ((decide (0≤d))&&(decide (d≤3)))

/-! muntin/compass.Left -/
def Zbz (d:Int) (times:Int):Option Int :=
 (Zby d).bind fun x =>
 if !x then
  some 0
 else
  ck (ZaA (d+(times.tmod 4))) <|
  ck (ZaA ((d+(times.tmod 4))+4)) <|
  some (((d+(times.tmod 4))+4).tmod 4)

/-! muntin/grid.side -/
def Zde (cells:List Za) (v:Int) (d:Int):Option Int :=
 ck ((0:Int)≤v∧v<(cells.length:Int)) <|
 ck ((0:Int)≤d∧d<4) <|
 if decide (((gi cells v.toNat).Next).get d=(-1)) then
  if !(decide (((gi cells v.toNat).Owner).get d=0)) then
   some 9
  else
   some 0
 else
  if ((decide ((((gi cells v.toNat).Next).get d)<0))||(decide ((cells.length:Int)≤(((gi cells v.toNat).Next).get d))))||(decide (((gi cells v.toNat).Next).get d=v)) then
   some 3
  else
   (Zbz d 2).bind fun x =>
   ck ((0:Int)≤(((gi cells v.toNat).Next).get d)∧(((gi cells v.toNat).Next).get d)<(cells.length:Int)) <|
   ck ((0:Int)≤x∧x<4) <|
   if ((!(decide (((gi cells (((gi cells v.toNat).Next).get d:Int).toNat).Next).get x=v)))||(!(decide (((gi cells (((gi cells v.toNat).Next).get d:Int).toNat).Owner).get x=((gi cells v.toNat).Owner).get d))))||(decide ((((gi cells v.toNat).Owner).get d)<(-2))) then
    some 9
   else
    some 0

/-! muntin/grid.Check -/
def Zaa.s1 (cells:List Za) (x:Int):Int→Option (Int⊕(Unit⊕Int)):=fun x2 =>
 if decide (x2<4) then
  (Zde cells x x2).bind fun x4 =>
  if !(decide (x4=0)) then
   some (.inr (.inr x4))
  else
   ck (ZaA (x2+1)) <|
   some (.inl (x2+1))
 else
  some (.inr (.inl ()))

def Zaa.s0 (cells:List Za):Int→Option (Int⊕(Unit⊕Int)):=fun x =>
 if decide (x<(cells.length:Int)) then
  (
   ZZ (Zaa.s1 cells x) big 0:Option (Unit⊕Int)).bind fun o₃=>match o₃ with
  | .inl _ =>
   ck (ZaA (x+1)) <|
   some (.inl (x+1))
  | .inr x3 =>
   some (.inr (.inr x3))
 else
  some (.inr (.inl ()))

def Zaa (cells:List Za):Option Int :=
 if decide (4096<(cells.length:Int)) then
  some 6
 else
  (
   ZZ (Zaa.s0 cells) big 0:Option (Unit⊕Int)).bind fun o₁=>match o₁ with
  | .inl _ =>
   some 0
  | .inr x1 =>
   some x1

/-! math/bits.Mul64 -/
def ZdS (x:Int) (y:Int):Option (Int×Int) :=
 some (Zbl .u64 (Zbl .u64 (zO .u64 (zt .u64 x 32) (zt .u64 y 32)) (zt .u64 (Zbl .u64 (zO .u64 (zt .u64 x 32) (ZI .u64 y 4294967295)) (zt .u64 (zO .u64 (ZI .u64 x 4294967295) (ZI .u64 y 4294967295)) 32)) 32)) (zt .u64 (Zbl .u64 (ZI .u64 (Zbl .u64 (zO .u64 (zt .u64 x 32) (ZI .u64 y 4294967295)) (zt .u64 (zO .u64 (ZI .u64 x 4294967295) (ZI .u64 y 4294967295)) 32)) 4294967295) (zO .u64 (ZI .u64 x 4294967295) (zt .u64 y 32))) 32),zO .u64 x y)

/-! math/bits.Mul -/
def Zd2 (x:Int) (y:Int):Option (Int×Int) :=
 (ZdS x y).bind fun (x1,x2) =>
 some (x1,x2)

/-! slices.Repeat[[]int,int] -/
def Zab.s0:(List Int)×Int→Option (((List Int)×Int)⊕(List Int)):=fun (newslice,n) =>
 if decide (n<(newslice.length:Int)) then
  ck ((0:Int)≤n∧n≤(newslice.length:Int)) <|
  ck (ZaA (n+((min (newslice.take n.toNat).length (newslice.drop n.toNat).length:Nat):Int))) <|
  some (.inl (newslice.take n.toNat++((newslice.take n.toNat).take (newslice.drop n.toNat).length++(newslice.drop n.toNat).drop (newslice.take n.toNat).length),n+((min (newslice.take n.toNat).length (newslice.drop n.toNat).length:Nat):Int)))
 else
  some (.inr newslice)

def Zab (x:List Int) (count:Int):Option (List Int) :=
 (
  if decide (count<0) then
   none
  else
   some ()).bind fun _ =>
 ck (inK .u64 (x.length:Int)) <|
 ck (inK .u64 count) <|
 (Zd2 (x.length:Int) count).bind fun (x1,x2) =>
 (
  if (decide (0<x1))||(decide (9223372036854775807<x2)) then
   none
  else
   some ()).bind fun _ =>
 ck (inK .i64 x2) <|
 ck ((0:Int)≤x2∧x2≤1000000000) <|
 (ZZ Zab.s0 big (x.take (List.replicate x2.toNat (0:Int)).length++(List.replicate x2.toNat (0:Int)).drop x.length,((min x.length (List.replicate x2.toNat (0:Int)).length:Nat):Int))).bind fun newslice1 =>
 some newslice1

/-! muntin/join.spread -/
def ZaM.s1 (cells:List Za) (l:List Int):(List Int)×(List Int)×(List Int)×(List Bool)×Int→Option (((List Int)×(List Int)×(List Int)×(List Bool)×Int)⊕((List Int)×(List Int)×(List Int)×(List Bool))):=fun (from_2,dir2,l1,met1,x2) =>
 if decide (x2<4) then
  ck ((0:Int)≤(gi l (0:Int).toNat)∧(gi l (0:Int).toNat)<(cells.length:Int)) <|
  ck ((0:Int)≤x2∧x2<4) <|
  (if decide (0≤(((gi cells (gi l (0:Int).toNat:Int).toNat).Next).get x2)) then
   ck ((0:Int)≤(((gi cells (gi l (0:Int).toNat:Int).toNat).Next).get x2)∧(((gi cells (gi l (0:Int).toNat:Int).toNat).Next).get x2)<(met1.length:Int)) <|
   some (!(gi met1 (((gi cells (gi l (0:Int).toNat:Int).toNat).Next).get x2:Int).toNat))
  else
   some false).bind fun t =>
  if t then
   ck ((0:Int)≤(((gi cells (gi l (0:Int).toNat:Int).toNat).Next).get x2)∧(((gi cells (gi l (0:Int).toNat:Int).toNat).Next).get x2)<(met1.length:Int)) <|
   ck ((0:Int)≤(((gi cells (gi l (0:Int).toNat:Int).toNat).Next).get x2)∧(((gi cells (gi l (0:Int).toNat:Int).toNat).Next).get x2)<(from_2.length:Int)) <|
   ck ((0:Int)≤(((gi cells (gi l (0:Int).toNat:Int).toNat).Next).get x2)∧(((gi cells (gi l (0:Int).toNat:Int).toNat).Next).get x2)<(dir2.length:Int)) <|
   ck (l1.length+[((gi cells (gi l (0:Int).toNat:Int).toNat).Next).get x2].length≤1000000000) <|
   ck (ZaA (x2+1)) <|
   some (.inl (from_2.set (((gi cells (gi l (0:Int).toNat:Int).toNat).Next).get x2:Int).toNat (gi l (0:Int).toNat),dir2.set (((gi cells (gi l (0:Int).toNat:Int).toNat).Next).get x2:Int).toNat x2,l1++[((gi cells (gi l (0:Int).toNat:Int).toNat).Next).get x2],met1.set (((gi cells (gi l (0:Int).toNat:Int).toNat).Next).get x2:Int).toNat true,x2+1))
  else
   ck (ZaA (x2+1)) <|
   some (.inl (from_2,dir2,l1,met1,x2+1))
 else
  some (.inr (from_2,dir2,l1,met1))

def ZaM.s0 (cells:List Za):(List Int)×(List Int)×(List Int)×(List Bool)→Option (((List Int)×(List Int)×(List Int)×(List Bool))⊕((List Int)×(List Int))):=fun (from_,dir,l,met) =>
 if decide (0<(l.length:Int)) then
  ck ((0:Int)≤0∧0<(l.length:Int)) <|
  ck ((0:Int)≤1∧1≤(l.length:Int)) <|
  (ZZ (ZaM.s1 cells l) big (from_,dir,l.drop (1:Int).toNat,met,0)).bind fun (from_3,dir3,l2,met2) =>
  some (.inl (from_3,dir3,l2,met2))
 else
  some (.inr (from_,dir))

def ZaM (cells:List Za) (v:Int):Option ((List Int)×(List Int)) :=
 (Zab ([(-1)]:List Int) (cells.length:Int)).bind fun x =>
 (Zab ([(-1)]:List Int) (cells.length:Int)).bind fun x1 =>
 ck ((0:Int)≤(cells.length:Int)∧(cells.length:Int)≤1000000000) <|
 ck ((0:Int)≤v∧v<((List.replicate ((cells.length:Int):Int).toNat false).length:Int)) <|
 (ZZ (ZaM.s0 cells) big (x,x1,[v],(List.replicate ((cells.length:Int):Int).toNat false).set v.toNat true)).bind fun (from_1,dir1) =>
 some (from_1,dir1)

/-! muntin/join.Parts -/
def ZaV.s1 (cells:List Za) (x1:Int) (x3:List Int):(List Bool)×(List Int)×Int→Option (((List Bool)×(List Int)×Int)⊕((List Bool)×(List Int))):=fun (met1,part,x4) =>
 if decide (x4<(cells.length:Int)) then
  (if decide (x4=x1) then
   some true
  else
   ck ((0:Int)≤x4∧x4<(x3.length:Int)) <|
   some (decide (0≤(gi x3 x4.toNat)))).bind fun t =>
  if t then
   ck ((0:Int)≤x4∧x4<(met1.length:Int)) <|
   ck (part.length+[x4].length≤1000000000) <|
   ck (ZaA (x4+1)) <|
   some (.inl (met1.set x4.toNat true,part++[x4],x4+1))
  else
   ck (ZaA (x4+1)) <|
   some (.inl (met1,part,x4+1))
 else
  some (.inr (met1,part))

def ZaV.s0 (cells:List Za):(List (List Int))×(List Bool)×Int→Option (((List (List Int))×(List Bool)×Int)⊕(List (List Int))):=fun (l,met,x1) =>
 if decide (x1<(cells.length:Int)) then
  ck ((0:Int)≤x1∧x1<(met.length:Int)) <|
  if gi met x1.toNat then
   ck (ZaA (x1+1)) <|
   some (.inl (l,met,x1+1))
  else
   (ZaM cells x1).bind fun (x2,x3) =>
   (ZZ (ZaV.s1 cells x1 x3) big (met,([]:List Int),0)).bind fun (met2,part1) =>
   ck (l.length+1≤1000000000) <|
   ck (ZaA (x1+1)) <|
   some (.inl (l++[part1],met2,x1+1))
 else
  some (.inr l)

def ZaV (cells:List Za):Option ((List (List Int))×Int) :=
 (Zaa cells).bind fun x =>
 if !(decide (x=0)) then
  some (([]:List (List Int)),x)
 else
  ck ((0:Int)≤(cells.length:Int)∧(cells.length:Int)≤1000000000) <|
  (ZZ (ZaV.s0 cells) big (([]:List (List Int)),List.replicate ((cells.length:Int):Int).toNat false,0)).bind fun l1 =>
  some (l1,0)

/-! muntin/join.Whole -/
def ZcQ (cells:List Za):Option Bool :=
 (ZaV cells).bind fun (x,x1) =>
 some ((decide (x1=0))&&(decide ((x.length:Int)=1)))

/-! (muntin/face.Dart).is -/
def Zb0 (d:Z9) (cells:List Za):Option Bool :=
 if decide (0≤d.Cell) then
  if decide (d.Cell<(cells.length:Int)) then
   (Zby d.Dir).bind fun x =>
   if x then
    ck ((0:Int)≤d.Cell∧d.Cell<(cells.length:Int)) <|
    ck ((0:Int)≤d.Dir∧d.Dir<4) <|
    some (decide (0≤(((gi cells (d.Cell:Int).toNat).Next).get d.Dir)))
   else
    some false
  else
   some false
 else
  some false

/-! (muntin/face.Dart).behind -/
def Zas.s0 (d:Z9) (cells:List Za):Int→Option (Int⊕(Unit⊕Z9)):=fun x =>
 if decide (x<4) then
  ck ((0:Int)≤x∧x<4) <|
  (Zbz d.Dir ((⟨1,0,(-1),2⟩:A4 Int).get x)).bind fun x2 =>
  (Zb0 (⟨((gi cells (d.Cell:Int).toNat).Next).get d.Dir,x2⟩:Z9) cells).bind fun x3 =>
  if x3 then
   some (.inr (.inr (⟨((gi cells (d.Cell:Int).toNat).Next).get d.Dir,x2⟩:Z9)))
  else
   ck (ZaA (x+1)) <|
   some (.inl (x+1))
 else
  some (.inr (.inl ()))

def Zas (d:Z9) (cells:List Za):Option Z9 :=
 ck ((0:Int)≤d.Cell∧d.Cell<(cells.length:Int)) <|
 ck ((0:Int)≤d.Dir∧d.Dir<4) <|
 (
  ZZ (Zas.s0 d cells) big 0:Option (Unit⊕Z9)).bind fun o₁=>match o₁ with
 | .inl _ =>
  some d
 | .inr x1 =>
  some x1

/-! muntin/face.Faces -/
def Zaz.s2 (cells:List Za):(List (Z9×Bool))×(List Z9)×Z9→Option (((List (Z9×Bool))×(List Z9)×Z9)⊕((List (Z9×Bool))×(List Z9))):=fun (met3,f,x4) =>
 if !(ZfK false x4 met3) then
  ck (f.length+[x4].length≤1000000000) <|
  (Zas x4 cells).bind fun x5 =>
  some (.inl (Zfy x4 true met3,f++[x4],x5))
 else
  some (.inr (met3,f))

def Zaz.s1 (cells:List Za) (x1:Int):(List (List Z9))×(List (Z9×Bool))×Int→Option (((List (List Z9))×(List (Z9×Bool))×Int)⊕((List (List Z9))×(List (Z9×Bool)))):=fun (l2,met1,x2) =>
 if decide (x2<4) then
  (Zb0 (⟨x1,x2⟩:Z9) cells).bind fun x3 =>
  if (!x3)||(ZfK false (⟨x1,x2⟩:Z9) met1) then
   ck (ZaA (x2+1)) <|
   some (.inl (l2,met1,x2+1))
  else
   (ZZ (Zaz.s2 cells) big (met1,([]:List Z9),(⟨x1,x2⟩:Z9))).bind fun (met4,f1) =>
   ck (l2.length+1≤1000000000) <|
   ck (ZaA (x2+1)) <|
   some (.inl (l2++[f1],met4,x2+1))
 else
  some (.inr (l2,met1))

def Zaz.s0 (cells:List Za):(List (List Z9))×(List (Z9×Bool))×Int→Option (((List (List Z9))×(List (Z9×Bool))×Int)⊕(List (List Z9))):=fun (l,met,x1) =>
 if decide (x1<(cells.length:Int)) then
  (ZZ (Zaz.s1 cells x1) big (l,met,0)).bind fun (l3,met2) =>
  ck (ZaA (x1+1)) <|
  some (.inl (l3,met2,x1+1))
 else
  some (.inr l)

def Zaz (cells:List Za):Option ((List (List Z9))×Int) :=
 (Zaa cells).bind fun x =>
 if !(decide (x=0)) then
  some (([]:List (List Z9)),x)
 else
  (ZZ (Zaz.s0 cells) big (([]:List (List Z9)),([]:List (Z9×Bool)),0)).bind fun l1 =>
  some (l1,0)

/-! muntin/compass.Turn -/
def Zc2 (d:Int) (e_:Int):Option Int :=
 (Zby d).bind fun x =>
 (if !x then
  some true
 else
  (Zby e_).bind fun x1 =>
  some (!x1)).bind fun t =>
 if t then
  some 0
 else
  ck (ZaA (e_-d)) <|
  ck (ZaA ((e_-d)+4)) <|
  ck ((0:Int)≤(((e_-d)+4).tmod 4)∧(((e_-d)+4).tmod 4)<4) <|
  some ((⟨0,1,(-2),(-1)⟩:A4 Int).get (((e_-d)+4).tmod 4))

/-! muntin/face.Turns -/
def ZbL.s0 (cells:List Za) (f:List Z9):(List Int)×Int→Option (((List Int)×Int)⊕(List Int)):=fun (l,x1) =>
 if decide (x1<(f.length:Int)) then
  ck ((0:Int)≤x1∧x1<(f.length:Int)) <|
  (Zb0 (gi f x1.toNat) cells).bind fun x2 =>
  if x2 then
   (Zas (gi f x1.toNat) cells).bind fun x3 =>
   (Zc2 ((gi f x1.toNat).Dir) x3.Dir).bind fun x4 =>
   ck ((0:Int)≤x1∧x1<(l.length:Int)) <|
   ck (ZaA (x1+1)) <|
   some (.inl (l.set x1.toNat x4,x1+1))
  else
   ck (ZaA (x1+1)) <|
   some (.inl (l,x1+1))
 else
  some (.inr l)

def ZbL (cells:List Za) (f:List Z9):Option (List Int) :=
 ck ((0:Int)≤(f.length:Int)∧(f.length:Int)≤1000000000) <|
 (Zaa cells).bind fun x =>
 if !(decide (x=0)) then
  some (List.replicate ((f.length:Int):Int).toNat (0:Int))
 else
  (ZZ (ZbL.s0 cells f) big (List.replicate ((f.length:Int):Int).toNat (0:Int),0)).bind fun l1 =>
  some l1

/-! muntin/face.Rotation -/
def Zbo.s0 (turns:List Int):Int×Int→Option ((Int×Int)⊕Int):=fun (n,x) =>
 if decide (x<(turns.length:Int)) then
  ck ((0:Int)≤x∧x<(turns.length:Int)) <|
  if (decide ((-2)≤(gi turns x.toNat)))&&(decide ((gi turns x.toNat)≤1)) then
   ck (ZaA (n+(gi turns x.toNat))) <|
   ck (ZaA (x+1)) <|
   some (.inl (n+(gi turns x.toNat),x+1))
  else
   ck (ZaA (x+1)) <|
   some (.inl (n,x+1))
 else
  some (.inr n)

def Zbo (turns:List Int):Option Int :=
 (ZZ (Zbo.s0 turns) big (0,0)).bind fun n1 =>
 some n1

/-! muntin/valid.outer -/
def Zb3.s0 (cells:List Za) (x:List (List Z9)):Int×Int→Option ((Int×Int)⊕(Int⊕Unit)):=fun (at_,x2) =>
 if decide (x2<(x.length:Int)) then
  ck ((0:Int)≤x2∧x2<(x.length:Int)) <|
  (ZbL cells (gi x x2.toNat)).bind fun x3 =>
  (Zbo x3).bind fun x4 =>
  if decide (x4=4) then
   ck (ZaA (x2+1)) <|
   some (.inl (at_,x2+1))
  else
   if decide (x4=(-4)) then
    if decide (0≤at_) then
     some (.inr (.inr ()))
    else
     ck (ZaA (x2+1)) <|
     some (.inl (x2,x2+1))
   else
    some (.inr (.inr ()))
 else
  some (.inr (.inl at_))

def Zb3 (cells:List Za):Option (Int×Bool) :=
 (Zaz cells).bind fun (x,x1) =>
 (
  ZZ (Zb3.s0 cells x) big ((-1),0):Option (Int⊕Unit)).bind fun o₁=>match o₁ with
 | .inl at_1 =>
  some (at_1,decide (0≤at_1))
 | .inr _ =>
  some (0,false)

/-! muntin/valid.Check -/
def ZcF (cells:List Za):Option Int :=
 (Zaa cells).bind fun x =>
 if !(decide (x=0)) then
  some x
 else
  (ZcQ cells).bind fun x1 =>
  if !x1 then
   some 13
  else
   (Zb3 cells).bind fun (x2,x3) =>
   if (!x3)&&(decide (1<(cells.length:Int))) then
    some 10
   else
    some 0

/-! muntin/seg.chains -/
def zK.s1 (cells:List Za) (x1:Int):Int×Int→Option ((Int×Int)⊕(Int⊕Unit)):=fun (first,n) =>
 ck ((0:Int)≤first∧first<(cells.length:Int)) <|
 ck ((0:Int)≤x1∧x1<4) <|
 if decide (0≤(((gi cells first.toNat).Next).get x1)) then
  if decide (n=(cells.length:Int)) then
   some (.inr (.inr ()))
  else
   ck (ZaA (n+1)) <|
   some (.inl (((gi cells first.toNat).Next).get x1,n+1))
 else
  some (.inr (.inl first))

def zK.s2 (cells:List Za) (d:Int) (l:List (List Int)):(List Int)×(List Int)×Int→Option (((List Int)×(List Int)×Int)⊕((List Int)×(List Int))):=fun (at_2,chain,w) =>
 if decide (0≤w) then
  ck ((0:Int)≤w∧w<(at_2.length:Int)) <|
  ck (chain.length+[w].length≤1000000000) <|
  ck ((0:Int)≤w∧w<(cells.length:Int)) <|
  ck ((0:Int)≤d∧d<4) <|
  some (.inl (at_2.set w.toNat (l.length:Int),chain++[w],((gi cells w.toNat).Next).get d))
 else
  some (.inr (at_2,chain))

def zK.s0 (cells:List Za) (d:Int) (x1:Int):(List Int)×(List (List Int))×Int→Option (((List Int)×(List (List Int))×Int)⊕(((List Int)×(List (List Int)))⊕Unit)):=fun (at_,l,x2) =>
 if decide (x2<(cells.length:Int)) then
  ck ((0:Int)≤x2∧x2<(at_.length:Int)) <|
  if decide (0≤(gi at_ x2.toNat)) then
   ck (ZaA (x2+1)) <|
   some (.inl (at_,l,x2+1))
  else
   (
    ZZ (zK.s1 cells x1) big (x2,0):Option (Int⊕Unit)).bind fun o₃=>match o₃ with
   | .inl first1 =>
    (ZZ (zK.s2 cells d l) big (at_,([]:List Int),first1)).bind fun (at_3,chain1) =>
    ck (l.length+1≤1000000000) <|
    ck (ZaA (x2+1)) <|
    some (.inl (at_3,l++[chain1],x2+1))
   | .inr _ =>
    some (.inr (.inr ()))
 else
  some (.inr (.inl (at_,l)))

def zK (cells:List Za) (d:Int):Option ((List Int)×(List (List Int))×Bool) :=
 (Zab ([(-1)]:List Int) (cells.length:Int)).bind fun x =>
 (Zbz d 2).bind fun x1 =>
 (
  ZZ (zK.s0 cells d x1) big (x,([]:List (List Int)),0):Option (((List Int)×(List (List Int)))⊕Unit)).bind fun o₁=>match o₁ with
 | .inl (at_1,l1) =>
  some (at_1,l1,true)
 | .inr _ =>
  some (([]:List Int),([]:List (List Int)),false)

/-! muntin/seg.Of -/
def ZdT (cells:List Za):Option (Za2×Int) :=
 (Zaa cells).bind fun x =>
 if !(decide (x=0)) then
  some ((⟨([]:List Int),([]:List Int),([]:List (List Int)),([]:List (List Int))⟩:Za2),x)
 else
  (zK cells 1).bind fun (x1,x2,x3) =>
  (zK cells 0).bind fun (x4,x5,x6) =>
  if (!x3)||(!x6) then
   some ((⟨([]:List Int),([]:List Int),([]:List (List Int)),([]:List (List Int))⟩:Za2),10)
  else
   some ((⟨x1,x4,x2,x5⟩:Za2),0)

/-! muntin/arcs.weight -/
def ZcE (owner:Int):Option Int :=
 if decide (0≤owner) then
  some 1
 else
  some 0

/-! muntin/arcs.graph -/
def ZbA.s0 (cells:List Za) (d:Int) (of:List Int):(List Zj)×Int→Option (((List Zj)×Int)⊕(List Zj)):=fun (l,x) =>
 if decide (x<(cells.length:Int)) then
  ck ((0:Int)≤x∧x<(cells.length:Int)) <|
  ck ((0:Int)≤d∧d<4) <|
  if decide (0≤(((gi cells x.toNat).Next).get d)) then
   ck ((0:Int)≤x∧x<(of.length:Int)) <|
   ck ((0:Int)≤(((gi cells x.toNat).Next).get d)∧(((gi cells x.toNat).Next).get d)<(of.length:Int)) <|
   (ZcE (((gi cells x.toNat).Owner).get d)).bind fun x1 =>
   ck (l.length+[(⟨gi of x.toNat,gi of (((gi cells x.toNat).Next).get d:Int).toNat,x1⟩:Zj)].length≤1000000000) <|
   ck (ZaA (x+1)) <|
   some (.inl (l++[(⟨gi of x.toNat,gi of (((gi cells x.toNat).Next).get d:Int).toNat,x1⟩:Zj)],x+1))
  else
   ck (ZaA (x+1)) <|
   some (.inl (l,x+1))
 else
  some (.inr l)

def ZbA (cells:List Za) (d:Int) (of:List Int):Option (List Zj) :=
 (ZZ (ZbA.s0 cells d of) big (([]:List Zj),0)).bind fun l1 =>
 some l1

/-! muntin/arcs.Of -/
def Zdj (cells:List Za):Option (ZaL×Int) :=
 (ZdT cells).bind fun (x,x1) =>
 if !(decide (x1=0)) then
  some ((⟨(⟨([]:List Int),([]:List Int),([]:List (List Int)),([]:List (List Int))⟩:Za2),([]:List Zj),([]:List Zj)⟩:ZaL),x1)
 else
  (ZbA cells 0 x.X).bind fun x2 =>
  (ZbA cells 1 x.Y).bind fun x3 =>
  some ((⟨x,x2,x3⟩:ZaL),0)

/-! muntin/sep.lines -/
def ZaW.s0 (c:Za2):(List ZH)×Int→Option (((List ZH)×Int)⊕(List ZH)):=fun (l,x) =>
 if decide (x<(c.Vert.length:Int)) then
  ck ((0:Int)≤x∧x<(c.Vert.length:Int)) <|
  if decide (1<((gi c.Vert x.toNat).length:Int)) then
   ck (l.length+[(⟨true,x⟩:ZH)].length≤1000000000) <|
   ck (ZaA (x+1)) <|
   some (.inl (l++[(⟨true,x⟩:ZH)],x+1))
  else
   ck (ZaA (x+1)) <|
   some (.inl (l,x+1))
 else
  some (.inr l)

def ZaW.s1 (c:Za2):(List ZH)×Int→Option (((List ZH)×Int)⊕(List ZH)):=fun (l2,x1) =>
 if decide (x1<(c.Horz.length:Int)) then
  ck ((0:Int)≤x1∧x1<(c.Horz.length:Int)) <|
  if decide (1<((gi c.Horz x1.toNat).length:Int)) then
   ck (l2.length+[(⟨false,x1⟩:ZH)].length≤1000000000) <|
   ck (ZaA (x1+1)) <|
   some (.inl (l2++[(⟨false,x1⟩:ZH)],x1+1))
  else
   ck (ZaA (x1+1)) <|
   some (.inl (l2,x1+1))
 else
  some (.inr l2)

def ZaW (c:Za2):Option (List ZH) :=
 (ZZ (ZaW.s0 c) big (([]:List ZH),0)).bind fun l1 =>
 (ZZ (ZaW.s1 c) big (l1,0)).bind fun l3 =>
 some l3

/-! muntin/reach.New -/
def ZbF.s0 (n:Int):(List (List Int))×Int→Option (((List (List Int))×Int)⊕(List (List Int))):=fun (r_,x) =>
 if decide (x<((List.replicate n.toNat []:List (List Int)).length:Int)) then
  ck (ZaA (n+64)) <|
  ck (ZaA ((n+64)-1)) <|
  ck ((64:Int)≠0∧ZaA (((n+64)-1).tdiv 64)) <|
  ck ((0:Int)≤(((n+64)-1).tdiv 64)∧(((n+64)-1).tdiv 64)≤1000000000) <|
  ck ((0:Int)≤x∧x<(r_.length:Int)) <|
  ck (ZaA (x+1)) <|
  some (.inl (r_.set x.toNat (List.replicate (((n+64)-1).tdiv 64:Int).toNat (0:Int)),x+1))
 else
  some (.inr r_)

def ZbF (n:Int):Option ((Option zC)×Int) :=
 if (decide (n<0))||(decide (4096<n)) then
  some (none,2)
 else
  ck ((0:Int)≤n∧n≤1000000000) <|
  (ZZ (ZbF.s0 n) big ((List.replicate n.toNat []:List (List Int)),0)).bind fun r_1 =>
  some (some (⟨r_1⟩:zC),0)

/-! (*muntin/reach.Reach).is -/
def Za7 (r_:zC) (v:Int):Option Bool :=
 some ((decide (0≤v))&&(decide (v<(r_.rows.length:Int))))

/-! (*muntin/reach.Reach).Has -/
def zJ (r_:zC) (u_:Int) (v:Int):Option Bool :=
 (Za7 r_ u_).bind fun x =>
 (if x then
  (Za7 r_ v).bind fun x1 =>
  some x1
 else
  some false).bind fun t =>
 (if t then
  ck ((0:Int)≤u_∧u_<(r_.rows.length:Int)) <|
  ck ((64:Int)≠0∧ZaA (v.tdiv 64)) <|
  ck ((0:Int)≤(v.tdiv 64)∧(v.tdiv 64)<((gi r_.rows u_.toNat).length:Int)) <|
  ck ((0:Int)≤(v.tmod 64)) <|
  some (decide (ZI .u64 (zt .u64 (gi (gi r_.rows u_.toNat) (v.tdiv 64:Int).toNat) (v.tmod 64)) 1=1))
 else
  some false).bind fun t1 =>
 some t1

/-! slices.Clone[[]uint64,uint64] -/
def Zcn (s:List Int):Option (List Int) :=
 ck (s.length≤1000000000) <|
 some s
/-! (*muntin/reach.Reach).Add -/
def zm.s1 (v:Int) (x3:List Int) (x4:Int):(List (List Int))×Int→Option (((List (List Int))×Int)⊕(List (List Int))):=fun (r_2,x6) =>
 if decide (x6<((x3.set (v.tdiv 64:Int).toNat (Zcb .u64 (gi x3 (v.tdiv 64:Int).toNat) (Zct .u64 1 (v.tmod 64)))).length:Int)) then
  ck ((0:Int)≤x6∧x6<((x3.set (v.tdiv 64:Int).toNat (Zcb .u64 (gi x3 (v.tdiv 64:Int).toNat) (Zct .u64 1 (v.tmod 64)))).length:Int)) <|
  ck ((0:Int)≤x4∧x4<(r_2.length:Int)) <|
  ck ((0:Int)≤x6∧x6<((gi r_2 x4.toNat).length:Int)) <|
  ck (ZaA (x6+1)) <|
  some (.inl ((r_2.set x4.toNat ((gi r_2 x4.toNat).set x6.toNat (Zcb .u64 (gi (gi r_2 x4.toNat) x6.toNat) (gi (x3.set (v.tdiv 64:Int).toNat (Zcb .u64 (gi x3 (v.tdiv 64:Int).toNat) (Zct .u64 1 (v.tmod 64)))) x6.toNat)))),x6+1))
 else
  some (.inr r_2)

def zm.s0 (r_:zC) (u_:Int) (v:Int) (x3:List Int):(List (List Int))×Int→Option (((List (List Int))×Int)⊕(List (List Int))):=fun (r_1,x4) =>
 if decide (x4<(r_.rows.length:Int)) then
  (if !(decide (x4=u_)) then
   (zJ (⟨r_1⟩:zC) x4 u_).bind fun x5 =>
   some (!x5)
  else
   some false).bind fun t1 =>
  if t1 then
   ck (ZaA (x4+1)) <|
   some (.inl (r_1,x4+1))
  else
   (ZZ (zm.s1 v x3 x4) big (r_1,0)).bind fun r_3 =>
   ck (ZaA (x4+1)) <|
   some (.inl (r_3,x4+1))
 else
  some (.inr r_1)

def zm (r_:zC) (u_:Int) (v:Int):Option (Int×zC) :=
 (Za7 r_ u_).bind fun x =>
 (if !x then
  some true
 else
  (Za7 r_ v).bind fun x1 =>
  some (!x1)).bind fun t =>
 if t then
  some (2,r_)
 else
  (zJ r_ u_ v).bind fun x2 =>
  if x2 then
   some (0,r_)
  else
   ck ((0:Int)≤v∧v<(r_.rows.length:Int)) <|
   (Zcn (gi r_.rows v.toNat)).bind fun x3 =>
   ck ((64:Int)≠0∧ZaA (v.tdiv 64)) <|
   ck ((0:Int)≤(v.tdiv 64)∧(v.tdiv 64)<(x3.length:Int)) <|
   ck ((0:Int)≤(v.tmod 64)) <|
   (ZZ (zm.s0 r_ u_ v x3) big (r_.rows,0)).bind fun p0 =>
   some (0,(⟨p0⟩:zC))

/-! (muntin/seg.Chains).chain -/
def Zbb (c:Za2) (vertical:Bool) (i:Int):Option (List Int) :=
 (
  if vertical then
   some c.Vert
  else
   some c.Horz).bind fun l =>
 if (decide (i<0))||(decide ((l.length:Int)≤i)) then
  some ([]:List Int)
 else
  ck ((0:Int)≤i∧i<(l.length:Int)) <|
  some (gi l i.toNat)

/-! (muntin/seg.Chains).Span -/
def Zcv (c:Za2) (vertical:Bool) (i:Int):Option (Int×Int) :=
 (Zbb c vertical i).bind fun x =>
 if decide ((x.length:Int)=0) then
  some (0,0)
 else
  (
   if vertical then
    some c.Y
   else
    some c.X).bind fun of =>
  ck ((0:Int)≤0∧0<(x.length:Int)) <|
  ck ((0:Int)≤(gi x (0:Int).toNat)∧(gi x (0:Int).toNat)<(of.length:Int)) <|
  ck (ZaA ((x.length:Int)-1)) <|
  ck ((0:Int)≤((x.length:Int)-1)∧((x.length:Int)-1)<(x.length:Int)) <|
  ck ((0:Int)≤(gi x ((x.length:Int)-1:Int).toNat)∧(gi x ((x.length:Int)-1:Int).toNat)<(of.length:Int)) <|
  some (gi of (gi x (0:Int).toNat:Int).toNat,gi of (gi x ((x.length:Int)-1:Int).toNat:Int).toNat)

/-! muntin/sep.of -/
def ZeV (c:Za2) (l:ZH):Option Zam :=
 (Zcv c l.Vertical l.Place).bind fun (x,x1) =>
 if l.Vertical then
  some (⟨l.Place,l.Place,x,x1⟩:Zam)
 else
  some (⟨x,x1,l.Place,l.Place⟩:Zam)

/-! slices.IndexFunc[[]int,int] -/
def Zar.s0 (s:List Int) (f:Int→Option Bool):Int→Option (Int⊕(Unit⊕Int)):=fun x =>
 if decide (x<(s.length:Int)) then
  ck ((0:Int)≤x∧x<(s.length:Int)) <|
  (f (gi s x.toNat)).bind fun x2 =>
  if x2 then
   some (.inr (.inr x))
  else
   ck (ZaA (x+1)) <|
   some (.inl (x+1))
 else
  some (.inr (.inl ()))

def Zar (s:List Int) (f:Int→Option Bool):Option Int :=
 (
  ZZ (Zar.s0 s f) big 0:Option (Unit⊕Int)).bind fun o₁=>match o₁ with
 | .inl _ =>
  some (-1)
 | .inr x1 =>
  some x1

/-! slices.ContainsFunc[[]int,int] -/
def Zbf (s:List Int) (f:Int→Option Bool):Option Bool :=
 (Zar s f).bind fun x =>
 some (decide (0≤x))

/-! slices.Index[[]int,int] -/
def ZaN.s0 (s:List Int) (v:Int):Int→Option (Int⊕(Unit⊕Int)):=fun x =>
 if decide (x<(s.length:Int)) then
  ck ((0:Int)≤x∧x<(s.length:Int)) <|
  if decide (v=gi s x.toNat) then
   some (.inr (.inr x))
  else
   ck (ZaA (x+1)) <|
   some (.inl (x+1))
 else
  some (.inr (.inl ()))

def ZaN (s:List Int) (v:Int):Option Int :=
 (
  ZZ (ZaN.s0 s v) big 0:Option (Unit⊕Int)).bind fun o₁=>match o₁ with
 | .inl _ =>
  some (-1)
 | .inr x1 =>
  some x1

/-! slices.Contains[[]int,int] -/
def Zb6 (s:List Int) (v:Int):Option Bool :=
 (ZaN s v).bind fun x =>
 some (decide (0≤x))

/-! (muntin/seg.Chains).Meet$1 -/
def Zcj (v:Int) (c0:List Int):Option Bool :=
 (Zb6 c0 v).bind fun x =>
 some x

/-! (muntin/seg.Chains).Meet -/
def ZbQ (c:Za2) (vertical:Bool) (i:Int) (other:Bool) (k_:Int):Option Bool :=
 (Zbb c other k_).bind fun x =>
 (Zbb c vertical i).bind fun x1 =>
 (Zbf x1 (fun y0=>Zcj y0 x)).bind fun x2 =>
 some x2

/-! muntin/sep.start -/
def zQ.s0 (x:ZaL):(List (List Int))×Int→Option (((List (List Int))×Int)⊕(List (List Int))):=fun (s,x7) =>
 if decide (x7<(x.H.length:Int)) then
  ck ((0:Int)≤x7∧x7<(x.H.length:Int)) <|
  (zm (⟨s⟩:zC) ((gi x.H x7.toNat).From) ((gi x.H x7.toNat).To)).bind fun (x8,m) =>
  ck (ZaA (x7+1)) <|
  some (.inl (m.rows,x7+1))
 else
  some (.inr s)

def zQ.s1 (x:ZaL):(List (List Int))×Int→Option (((List (List Int))×Int)⊕(List (List Int))):=fun (s2,x9) =>
 if decide (x9<(x.V.length:Int)) then
  ck ((0:Int)≤x9∧x9<(x.V.length:Int)) <|
  (zm (⟨s2⟩:zC) ((gi x.V x9.toNat).From) ((gi x.V x9.toNat).To)).bind fun (x10,m1) =>
  ck (ZaA (x9+1)) <|
  some (.inl (m1.rows,x9+1))
 else
  some (.inr s2)

def zQ.s2 (x:ZaL) (x2:List ZH):(List Zam)×Int→Option (((List Zam)×Int)⊕(List Zam)):=fun (s4,x11) =>
 if decide (x11<(x2.length:Int)) then
  ck ((0:Int)≤x11∧x11<(x2.length:Int)) <|
  (ZeV x.Chains (gi x2 x11.toNat)).bind fun x12 =>
  ck (s4.length+[x12].length≤1000000000) <|
  ck (ZaA (x11+1)) <|
  some (.inl (s4++[x12],x11+1))
 else
  some (.inr s4)

def zQ.s4 (x:ZaL) (x2:List ZH) (x13:Int):(List (A2 Int))×Int→Option (((List (A2 Int))×Int)⊕(List (A2 Int))):=fun (open_2,k_) =>
 if decide (k_<(x2.length:Int)) then
  ck ((0:Int)≤k_∧k_<(x2.length:Int)) <|
  (ZbQ x.Chains ((gi x2 x13.toNat).Vertical) ((gi x2 x13.toNat).Place) ((gi x2 k_.toNat).Vertical) ((gi x2 k_.toNat).Place)).bind fun x14 =>
  if !x14 then
   ck (open_2.length+[(⟨x13,k_⟩:A2 Int)].length≤1000000000) <|
   ck (ZaA (k_+1)) <|
   some (.inl (open_2++[(⟨x13,k_⟩:A2 Int)],k_+1))
  else
   ck (ZaA (k_+1)) <|
   some (.inl (open_2,k_+1))
 else
  some (.inr open_2)

def zQ.s3 (x:ZaL) (x2:List ZH):(List (A2 Int))×Int→Option (((List (A2 Int))×Int)⊕(List (A2 Int))):=fun (open_,x13) =>
 if decide (x13<(x2.length:Int)) then
  ck ((0:Int)≤x13∧x13<(x2.length:Int)) <|
  ck (ZaA (x13+1)) <|
  (ZZ (zQ.s4 x x2 x13) big (open_,x13+1)).bind fun open_3 =>
  some (.inl (open_3,x13+1))
 else
  some (.inr open_)

def zQ (cells:List Za):Option (zq×(List (A2 Int))) :=
 (Zdj cells).bind fun (x,x1) =>
 (ZaW x.Chains).bind fun x2 =>
 (ZbF (x.Chains.Vert.length:Int)).bind fun (x3,x4) =>
 (x3).bind fun g =>
 (ZbF (x.Chains.Horz.length:Int)).bind fun (x5,x6) =>
 (x5).bind fun g1 =>
 (ZZ (zQ.s0 x) big (g.rows,0)).bind fun s1 =>
 (ZZ (zQ.s1 x) big (g1.rows,0)).bind fun s3 =>
 (ZZ (zQ.s2 x x2) big (([]:List Zam),0)).bind fun s5 =>
 (ZZ (zQ.s3 x x2) big (([]:List (A2 Int)),0)).bind fun open_1 =>
 some ((⟨(⟨x,([]:List (A2 ZH))⟩:ZbT),(⟨s1⟩:zC),(⟨s3⟩:zC),x2,s5⟩:zq),open_1)

/-! (*muntin/sep.settler).ways -/
def ZbY (s:zq) (i:Int) (k_:Int):Option (A4 Zr) :=
 ck ((0:Int)≤i∧i<(s.sides.length:Int)) <|
 ck ((0:Int)≤k_∧k_<(s.sides.length:Int)) <|
 some (⟨(⟨true,(gi s.sides i.toNat).right,(gi s.sides k_.toNat).left⟩:Zr),(⟨true,(gi s.sides k_.toNat).right,(gi s.sides i.toNat).left⟩:Zr),(⟨false,(gi s.sides i.toNat).top,(gi s.sides k_.toNat).bottom⟩:Zr),(⟨false,(gi s.sides k_.toNat).top,(gi s.sides i.toNat).bottom⟩:Zr)⟩:A4 Zr)

/-! slices.IndexFunc[[]muntin/sep.way,muntin/sep.way] -/
def zx.s0 (s:List Zr) (f:Zr→Option Bool):Int→Option (Int⊕(Unit⊕Int)):=fun x =>
 if decide (x<(s.length:Int)) then
  ck ((0:Int)≤x∧x<(s.length:Int)) <|
  (f (gi s x.toNat)).bind fun x2 =>
  if x2 then
   some (.inr (.inr x))
  else
   ck (ZaA (x+1)) <|
   some (.inl (x+1))
 else
  some (.inr (.inl ()))

def zx (s:List Zr) (f:Zr→Option Bool):Option Int :=
 (
  ZZ (zx.s0 s f) big 0:Option (Unit⊕Int)).bind fun o₁=>match o₁ with
 | .inl _ =>
  some (-1)
 | .inr x1 =>
  some x1

/-! slices.ContainsFunc[[]muntin/sep.way,muntin/sep.way] -/
def Za0 (s:List Zr) (f:Zr→Option Bool):Option Bool :=
 (zx s f).bind fun x =>
 some (decide (0≤x))

/-! (*muntin/sep.settler).graph -/
def ZaR (s:zq) (w:Zr):Option Bool :=
 if w.horizontal then
  some true
 else
  some false

/-! (*muntin/sep.settler).is -/
def Zca (s:zq) (w:Zr):Option Bool :=
 (ZaR s w).bind fun x =>
 if x then
  (zJ s.h w.from_ w.to).bind fun x1 =>
  some x1
 else
  (zJ s.v w.from_ w.to).bind fun x2 =>
  some x2

/-! slices.DeleteFunc[[]muntin/sep.way,muntin/sep.way] -/
def zp.s0 (del:Zr→Option Bool):(List Zr)×Int×Int→Option (((List Zr)×Int×Int)⊕((List Zr)×Int)):=fun (s1,i,j) =>
 if decide (j<(s1.length:Int)) then
  ck ((0:Int)≤j∧j<(s1.length:Int)) <|
  (del (gi s1 j.toNat)).bind fun x1 =>
  if !x1 then
   ck ((0:Int)≤i∧i<(s1.length:Int)) <|
   ck (ZaA (i+1)) <|
   ck (ZaA (j+1)) <|
   some (.inl (s1.set i.toNat (gi s1 j.toNat),i+1,j+1))
  else
   ck (ZaA (j+1)) <|
   some (.inl (s1,i,j+1))
 else
  some (.inr (s1,i))

def zp (s:List Zr) (del:Zr→Option Bool):Option (List Zr) :=
 (zx s del).bind fun x =>
 if decide (x=(-1)) then
  some s
 else
  ck (ZaA (x+1)) <|
  (ZZ (zp.s0 del) big (s,x,x+1)).bind fun (s2,i1) =>
  ck ((0:Int)≤i1∧i1≤(s2.length:Int)) <|
  ck ((0:Int)≤i1∧i1≤((s2.take i1.toNat++List.replicate (s2.length-i1.toNat) (⟨false,0,0⟩:Zr)).length:Int)) <|
  some ((s2.take i1.toNat++List.replicate (s2.length-i1.toNat) (⟨false,0,0⟩:Zr)).take i1.toNat)

/-! (*muntin/sep.settler).can -/
def Zch (s:zq) (w:Zr):Option Bool :=
 if !(decide (w.from_=w.to)) then
  (ZaR s w).bind fun x =>
  if x then
   (zJ s.h w.to w.from_).bind fun x1 =>
   some (!x1)
  else
   (zJ s.v w.to w.from_).bind fun x2 =>
   some (!x2)
 else
  some false

/-! (*muntin/sep.settler).look$1 -/
def Zbt (w:Zr) (c0:zq):Option Bool :=
 (Zch c0 w).bind fun x =>
 some (!x)

/-! (*muntin/sep.settler).force -/
def ZbP (s:zq) (w:Zr):Option zq :=
 (ZaR s w).bind fun x =>
 if x then
  (zm s.h w.from_ w.to).bind fun (x1,m) =>
  if w.horizontal then
   ck (s.result.Graphs.H.length+[(⟨w.from_,w.to,(0:Int)⟩:Zj)].length≤1000000000) <|
   some (⟨(⟨(⟨s.result.Graphs.Chains,s.result.Graphs.H++[(⟨w.from_,w.to,(0:Int)⟩:Zj)],s.result.Graphs.V⟩:ZaL),s.result.Open⟩:ZbT),m,s.v,s.lines,s.sides⟩:zq)
  else
   ck (s.result.Graphs.V.length+[(⟨w.from_,w.to,(0:Int)⟩:Zj)].length≤1000000000) <|
   some (⟨(⟨(⟨s.result.Graphs.Chains,s.result.Graphs.H,s.result.Graphs.V++[(⟨w.from_,w.to,(0:Int)⟩:Zj)]⟩:ZaL),s.result.Open⟩:ZbT),m,s.v,s.lines,s.sides⟩:zq)
 else
  (zm s.v w.from_ w.to).bind fun (x2,m1) =>
  if w.horizontal then
   ck (s.result.Graphs.H.length+[(⟨w.from_,w.to,(0:Int)⟩:Zj)].length≤1000000000) <|
   some (⟨(⟨(⟨s.result.Graphs.Chains,s.result.Graphs.H++[(⟨w.from_,w.to,(0:Int)⟩:Zj)],s.result.Graphs.V⟩:ZaL),s.result.Open⟩:ZbT),s.h,m1,s.lines,s.sides⟩:zq)
  else
   ck (s.result.Graphs.V.length+[(⟨w.from_,w.to,(0:Int)⟩:Zj)].length≤1000000000) <|
   some (⟨(⟨(⟨s.result.Graphs.Chains,s.result.Graphs.H,s.result.Graphs.V++[(⟨w.from_,w.to,(0:Int)⟩:Zj)]⟩:ZaL),s.result.Open⟩:ZbT),s.h,m1,s.lines,s.sides⟩:zq)

/-! (*muntin/sep.settler).look -/
def Zbw (s:zq) (i:Int) (k_:Int):Option (Bool×Bool×zq) :=
 (ZbY s i k_).bind fun x =>
 (Za0 [x.a,x.b,x.c,x.d] (fun y0=>Zca s y0)).bind fun x1 =>
 if x1 then
  some (true,false,s)
 else
  (zp [x.a,x.b,x.c,x.d] (fun y0=>Zbt y0 s)).bind fun x2 =>
  if !(decide ((x2.length:Int)=1)) then
   some (false,false,s)
  else
   ck ((0:Int)≤0∧0<(x2.length:Int)) <|
   (ZbP s (gi x2 (0:Int).toNat)).bind fun m =>
   some (true,true,m)

/-! muntin/sep.Settle -/
def zA.s1 (open_:List (A2 Int)):(List Int)×(List Int)×(List (List Int))×(List (List Int))×(List Zj)×(List Zj)×(List (A2 ZH))×(List (List Int))×(List (List Int))×(List ZH)×(List Zam)×Bool×(List (A2 Int))×Int→Option (((List Int)×(List Int)×(List (List Int))×(List (List Int))×(List Zj)×(List Zj)×(List (A2 ZH))×(List (List Int))×(List (List Int))×(List ZH)×(List Zam)×Bool×(List (A2 Int))×Int)⊕((List Int)×(List Int)×(List (List Int))×(List (List Int))×(List Zj)×(List Zj)×(List (A2 ZH))×(List (List Int))×(List (List Int))×(List ZH)×(List Zam)×Bool×(List (A2 Int)))):=fun (s22,s23,s24,s25,s26,s27,s28,s29,s30,s31,s32,changed1,left,x3) =>
 if decide (x3<(open_.length:Int)) then
  ck ((0:Int)≤x3∧x3<(open_.length:Int)) <|
  (Zbw (⟨(⟨(⟨(⟨s22,s23,s24,s25⟩:Za2),s26,s27⟩:ZaL),s28⟩:ZbT),(⟨s29⟩:zC),(⟨s30⟩:zC),s31,s32⟩:zq) ((gi open_ x3.toNat).get 0) ((gi open_ x3.toNat).get 1)).bind fun (x4,x5,m) =>
  if !x4 then
   ck (left.length+[gi open_ x3.toNat].length≤1000000000) <|
   ck (ZaA (x3+1)) <|
   some (.inl (m.result.Graphs.Chains.X,m.result.Graphs.Chains.Y,m.result.Graphs.Chains.Vert,m.result.Graphs.Chains.Horz,m.result.Graphs.H,m.result.Graphs.V,m.result.Open,m.h.rows,m.v.rows,m.lines,m.sides,changed1||x5,left++[gi open_ x3.toNat],x3+1))
  else
   ck (ZaA (x3+1)) <|
   some (.inl (m.result.Graphs.Chains.X,m.result.Graphs.Chains.Y,m.result.Graphs.Chains.Vert,m.result.Graphs.Chains.Horz,m.result.Graphs.H,m.result.Graphs.V,m.result.Open,m.h.rows,m.v.rows,m.lines,m.sides,changed1||x5,left,x3+1))
 else
  some (.inr (s22,s23,s24,s25,s26,s27,s28,s29,s30,s31,s32,changed1,left))

def zA.s0:(List Int)×(List Int)×(List (List Int))×(List (List Int))×(List Zj)×(List Zj)×(List (A2 ZH))×(List (List Int))×(List (List Int))×(List ZH)×(List Zam)×(List (A2 Int))×Bool→Option (((List Int)×(List Int)×(List (List Int))×(List (List Int))×(List Zj)×(List Zj)×(List (A2 ZH))×(List (List Int))×(List (List Int))×(List ZH)×(List Zam)×(List (A2 Int))×Bool)⊕((List Int)×(List Int)×(List (List Int))×(List (List Int))×(List Zj)×(List Zj)×(List (A2 ZH))×(List (List Int))×(List (List Int))×(List ZH)×(List Zam)×(List (A2 Int)))):=fun (s,s1,s2,s3,s4,s5,s6,s7,s8,s9,s10,open_,changed) =>
 if changed then
  (ZZ (zA.s1 open_) big (s,s1,s2,s3,s4,s5,s6,s7,s8,s9,s10,false,([]:List (A2 Int)),0)).bind fun (s33,s34,s35,s36,s37,s38,s39,s40,s41,s42,s43,changed2,left1) =>
  some (.inl (s33,s34,s35,s36,s37,s38,s39,s40,s41,s42,s43,left1,changed2))
 else
  some (.inr (s,s1,s2,s3,s4,s5,s6,s7,s8,s9,s10,open_))

def zA.s2 (s20:List ZH) (open_1:List (A2 Int)):(List (A2 ZH))×Int→Option (((List (A2 ZH))×Int)⊕(List (A2 ZH))):=fun (s44,x6) =>
 if decide (x6<(open_1.length:Int)) then
  ck ((0:Int)≤x6∧x6<(open_1.length:Int)) <|
  ck ((0:Int)≤((gi open_1 x6.toNat).get 0)∧((gi open_1 x6.toNat).get 0)<(s20.length:Int)) <|
  ck ((0:Int)≤((gi open_1 x6.toNat).get 1)∧((gi open_1 x6.toNat).get 1)<(s20.length:Int)) <|
  ck (s44.length+[(⟨gi s20 ((gi open_1 x6.toNat).get 0:Int).toNat,gi s20 ((gi open_1 x6.toNat).get 1:Int).toNat⟩:A2 ZH)].length≤1000000000) <|
  ck (ZaA (x6+1)) <|
  some (.inl (s44++[(⟨gi s20 ((gi open_1 x6.toNat).get 0:Int).toNat,gi s20 ((gi open_1 x6.toNat).get 1:Int).toNat⟩:A2 ZH)],x6+1))
 else
  some (.inr s44)

def zA (cells:List Za):Option (ZbT×Int) :=
 (ZcF cells).bind fun x =>
 if !(decide (x=0)) then
  some ((⟨(⟨(⟨([]:List Int),([]:List Int),([]:List (List Int)),([]:List (List Int))⟩:Za2),([]:List Zj),([]:List Zj)⟩:ZaL),([]:List (A2 ZH))⟩:ZbT),x)
 else
  (zQ cells).bind fun (x1,x2) =>
  (ZZ zA.s0 big (x1.result.Graphs.Chains.X,x1.result.Graphs.Chains.Y,x1.result.Graphs.Chains.Vert,x1.result.Graphs.Chains.Horz,x1.result.Graphs.H,x1.result.Graphs.V,x1.result.Open,x1.h.rows,x1.v.rows,x1.lines,x1.sides,x2,true)).bind fun (s11,s12,s13,s14,s15,s16,s17,s18,s19,s20,s21,open_1) =>
  (ZZ (zA.s2 s20 open_1) big (s17,0)).bind fun s45 =>
  some ((⟨(⟨(⟨s11,s12,s13,s14⟩:Za2),s15,s16⟩:ZaL),s45⟩:ZbT),0)

/-! muntin/muntinref10.Join -/
def Zc3 (l:List Za) (v:Int) (d:Int) (w:Int) (o:Int):Option ((List Za)×Int) :=
 if (((((((decide (v<0))||(decide ((l.length:Int)≤v)))||(decide (w<0)))||(decide ((l.length:Int)≤w)))||(decide (v=w)))||(decide (d<0)))||(decide (3<d)))||(decide (o<(-2))) then
  some (l,2)
 else
  ck ((0:Int)≤v∧v<(l.length:Int)) <|
  ck ((0:Int)≤d∧d<4) <|
  (if !(decide (((gi l v.toNat).Next).get d=(-1))) then
   some true
  else
   ck (ZaA (d+2)) <|
   ck ((0:Int)≤w∧w<(l.length:Int)) <|
   ck ((0:Int)≤((d+2).tmod 4)∧((d+2).tmod 4)<4) <|
   some (!(decide (((gi l w.toNat).Next).get ((d+2).tmod 4)=(-1))))).bind fun t =>
  if t then
   some (l,9)
  else
   (Za4 l v d w o).bind fun x =>
   some (x,0)

/-! muntin/muntinlaw19.stick -/
def Zbd.s0:(List Za)×Int→Option (((List Za)×Int)⊕(List Za)):=fun (l,x1) =>
 if decide (x1<([(⟨0,0,1⟩:A3 Int),(⟨1,1,2⟩:A3 Int),(⟨2,2,3⟩:A3 Int),(⟨3,3,4⟩:A3 Int),(⟨4,3,0⟩:A3 Int),(⟨4,0,5⟩:A3 Int)].length:Int)) then
  ck ((0:Int)≤x1∧x1<([(⟨0,0,1⟩:A3 Int),(⟨1,1,2⟩:A3 Int),(⟨2,2,3⟩:A3 Int),(⟨3,3,4⟩:A3 Int),(⟨4,3,0⟩:A3 Int),(⟨4,0,5⟩:A3 Int)].length:Int)) <|
  (Zc3 l ((gi [(⟨0,0,1⟩:A3 Int),(⟨1,1,2⟩:A3 Int),(⟨2,2,3⟩:A3 Int),(⟨3,3,4⟩:A3 Int),(⟨4,3,0⟩:A3 Int),(⟨4,0,5⟩:A3 Int)] x1.toNat).get 0) ((gi [(⟨0,0,1⟩:A3 Int),(⟨1,1,2⟩:A3 Int),(⟨2,2,3⟩:A3 Int),(⟨3,3,4⟩:A3 Int),(⟨4,3,0⟩:A3 Int),(⟨4,0,5⟩:A3 Int)] x1.toNat).get 1) ((gi [(⟨0,0,1⟩:A3 Int),(⟨1,1,2⟩:A3 Int),(⟨2,2,3⟩:A3 Int),(⟨3,3,4⟩:A3 Int),(⟨4,3,0⟩:A3 Int),(⟨4,0,5⟩:A3 Int)] x1.toNat).get 2) 0).bind fun (x2,x3) =>
  ck (ZaA (x1+1)) <|
  some (.inl (x2,x1+1))
 else
  some (.inr l)

def Zbd:Option (List Za) :=
 (zE 6).bind fun x =>
 (ZZ Zbd.s0 big (x,0)).bind fun l1 =>
 some l1

/-! muntin/sep.Lines -/
def Ze4 (cells:List Za):Option ((List ZH)×Int) :=
 (ZdT cells).bind fun (x,x1) =>
 if !(decide (x1=0)) then
  some (([]:List ZH),x1)
 else
  (ZaW x).bind fun x2 =>
  some (x2,0)

/-! muntin/muntinlaw19.wakes -/
def Zb4:Option Bool :=
 (Zbd ).bind fun x =>
 (zA x).bind fun (x1,x2) =>
 (Zbd ).bind fun x3 =>
 (Ze4 x3).bind fun (x4,x5) =>
 (zE 2).bind fun x6 =>
 (zA x6).bind fun (x7,x8) =>
 (if ((((decide (x2=0))&&(decide ((x1.Open.length:Int)=0)))&&(decide (3<(x1.Graphs.H.length:Int))))&&(decide (x5=0)))&&(decide ((x4.length:Int)=5)) then
  ck ((0:Int)≤0∧0<(x4.length:Int)) <|
  some ((gi x4 (0:Int).toNat).Vertical)
 else
  some false).bind fun t =>
 some (t&&(decide (x8=13)))

/-! muntin/muntinref16.First -/
def Za6.s0 (l:List Za) (d:Int):Int×Int→Option ((Int×Int)⊕(Unit⊕Int)):=fun (v1,n) =>
 if decide (n≤(l.length:Int)) then
  ck (ZaA (d+2)) <|
  ck ((0:Int)≤v1∧v1<(l.length:Int)) <|
  ck ((0:Int)≤((d+2).tmod 4)∧((d+2).tmod 4)<4) <|
  if decide ((((gi l v1.toNat).Next).get ((d+2).tmod 4))<0) then
   some (.inr (.inr v1))
  else
   ck (ZaA (n+1)) <|
   some (.inl (((gi l v1.toNat).Next).get ((d+2).tmod 4),n+1))
 else
  some (.inr (.inl ()))

def Za6 (l:List Za) (v:Int) (d:Int):Option Int :=
 (
  ZZ (Za6.s0 l d) big (v,0):Option (Unit⊕Int)).bind fun o₁=>match o₁ with
 | .inl _ =>
  some (-1)
 | .inr x =>
  some x

/-! muntin/muntinref16.chains -/
def ZD.s1 (firsts:List Int) (x:Int):Int→Option (Int⊕Int):=fun k_ =>
 (if decide (k_<(firsts.length:Int)) then
  ck ((0:Int)≤k_∧k_<(firsts.length:Int)) <|
  some (!(decide (gi firsts k_.toNat=x)))
 else
  some false).bind fun t =>
 if t then
  ck (ZaA (k_+1)) <|
  some (.inl (k_+1))
 else
  some (.inr k_)

def ZD.s2 (l:List Za) (d:Int):(List Int)×Int→Option (((List Int)×Int)⊕(List Int)):=fun (c,w) =>
 if decide (0≤w) then
  ck (c.length+[w].length≤1000000000) <|
  ck ((0:Int)≤w∧w<(l.length:Int)) <|
  ck ((0:Int)≤d∧d<4) <|
  some (.inl (c++[w],((gi l w.toNat).Next).get d))
 else
  some (.inr c)

def ZD.s0 (l:List Za) (d:Int):(List Int)×(List Int)×(List (List Int))×Int→Option (((List Int)×(List Int)×(List (List Int))×Int)⊕(((List Int)×(List (List Int)))⊕Unit)):=fun (at_,firsts,out,v) =>
 if decide (v<(l.length:Int)) then
  (Za6 l v d).bind fun x =>
  if decide (x<0) then
   some (.inr (.inr ()))
  else
   (ZZ (ZD.s1 firsts x) big 0).bind fun k_1 =>
   ck ((0:Int)≤v∧v<(at_.length:Int)) <|
   if decide (k_1=(firsts.length:Int)) then
    ck (firsts.length+[x].length≤1000000000) <|
    (ZZ (ZD.s2 l d) big (([]:List Int),x)).bind fun c1 =>
    ck (out.length+1≤1000000000) <|
    ck (ZaA (v+1)) <|
    some (.inl (at_.set v.toNat k_1,firsts++[x],out++[c1],v+1))
   else
    ck (ZaA (v+1)) <|
    some (.inl (at_.set v.toNat k_1,firsts,out,v+1))
 else
  some (.inr (.inl (at_,out)))

def ZD (l:List Za) (d:Int):Option ((List Int)×(List (List Int))×Bool) :=
 ck ((0:Int)≤(l.length:Int)∧(l.length:Int)≤1000000000) <|
 (
  ZZ (ZD.s0 l d) big (List.replicate ((l.length:Int):Int).toNat (0:Int),([]:List Int),([]:List (List Int)),0):Option (((List Int)×(List (List Int)))⊕Unit)).bind fun o₁=>match o₁ with
 | .inl (at_1,out1) =>
  some (at_1,out1,true)
 | .inr _ =>
  some (([]:List Int),([]:List (List Int)),false)

/-! muntin/muntinref16.Of -/
def Zb2 (l:List Za):Option (zF×Bool) :=
 (ZD l 1).bind fun (x,x1,x2) =>
 (ZD l 0).bind fun (x3,x4,x5) =>
 if (!x2)||(!x5) then
  some ((⟨([]:List Int),([]:List Int),([]:List (List Int)),([]:List (List Int))⟩:zF),false)
 else
  some ((⟨x,x3,x1,x4⟩:zF),true)

/-! muntin/muntinref04.Layers -/
def zr.s1 (arcs:List Zj):(List Int)×Int→Option (((List Int)×Int)⊕(List Int)):=fun (x2,i) =>
 if decide (i<(arcs.length:Int)) then
  ck ((0:Int)≤i∧i<(arcs.length:Int)) <|
  ck ((0:Int)≤((gi arcs i.toNat).To)∧((gi arcs i.toNat).To)<(x2.length:Int)) <|
  ck ((0:Int)≤((gi arcs i.toNat).From)∧((gi arcs i.toNat).From)<(x2.length:Int)) <|
  if decide ((gi x2 ((gi arcs i.toNat).To:Int).toNat)≤(gi x2 ((gi arcs i.toNat).From:Int).toNat)) then
   ck (ZaA ((gi x2 ((gi arcs i.toNat).From:Int).toNat)+1)) <|
   ck (ZaA (i+1)) <|
   some (.inl (x2.set ((gi arcs i.toNat).To:Int).toNat ((gi x2 ((gi arcs i.toNat).From:Int).toNat)+1),i+1))
  else
   ck (ZaA (i+1)) <|
   some (.inl (x2,i+1))
 else
  some (.inr x2)

def zr.s0 (n:Int) (arcs:List Zj):(List Int)×Int→Option (((List Int)×Int)⊕(List Int)):=fun (x,round) =>
 if decide (round≤n) then
  (ZZ (zr.s1 arcs) big (x,0)).bind fun x3 =>
  ck (ZaA (round+1)) <|
  some (.inl (x3,round+1))
 else
  some (.inr x)

def zr (n:Int) (arcs:List Zj):Option (List Int) :=
 ck ((0:Int)≤n∧n≤1000000000) <|
 (ZZ (zr.s0 n arcs) big (List.replicate n.toNat (0:Int),0)).bind fun x1 =>
 some x1

/-! muntin/muntinref17.Place -/
def Zaj.s0 (c:zF) (x:List Int) (y:List Int):(List Zg)×Int→Option (((List Zg)×Int)⊕(List Zg)):=fun (out,v) =>
 if decide (v<(c.X.length:Int)) then
  ck ((0:Int)≤v∧v<(c.X.length:Int)) <|
  ck ((0:Int)≤(gi c.X v.toNat)∧(gi c.X v.toNat)<(x.length:Int)) <|
  ck ((0:Int)≤v∧v<(c.Y.length:Int)) <|
  ck ((0:Int)≤(gi c.Y v.toNat)∧(gi c.Y v.toNat)<(y.length:Int)) <|
  ck (out.length+[(⟨gi x (gi c.X v.toNat:Int).toNat,gi y (gi c.Y v.toNat:Int).toNat⟩:Zg)].length≤1000000000) <|
  ck (ZaA (v+1)) <|
  some (.inl (out++[(⟨gi x (gi c.X v.toNat:Int).toNat,gi y (gi c.Y v.toNat:Int).toNat⟩:Zg)],v+1))
 else
  some (.inr out)

def Zaj (c:zF) (x:List Int) (y:List Int):Option (List Zg) :=
 (ZZ (Zaj.s0 c x y) big (([]:List Zg),0)).bind fun out1 =>
 some out1

/-! muntin/muntinref17.Straight -/
def Zaf.s0 (l:List Za) (at_:List Zg):Int→Option (Int⊕(Unit⊕Unit)):=fun v =>
 if decide (v<(l.length:Int)) then
  ck ((0:Int)≤v∧v<(l.length:Int)) <|
  (if decide (0≤(((gi l v.toNat).Next).get 0)) then
   ck ((0:Int)≤(max (((gi l v.toNat).Next).get 0) 0)∧(max (((gi l v.toNat).Next).get 0) 0)<(at_.length:Int)) <|
   ck ((0:Int)≤v∧v<(at_.length:Int)) <|
   some ((!(decide ((gi at_ (max (((gi l v.toNat).Next).get 0) 0:Int).toNat).Y=(gi at_ v.toNat).Y)))||(decide (((gi at_ (max (((gi l v.toNat).Next).get 0) 0:Int).toNat).X)≤((gi at_ v.toNat).X))))
  else
   some false).bind fun t =>
  if t then
   some (.inr (.inr ()))
  else
   (if decide (0≤(((gi l v.toNat).Next).get 1)) then
    ck ((0:Int)≤(max (((gi l v.toNat).Next).get 1) 0)∧(max (((gi l v.toNat).Next).get 1) 0)<(at_.length:Int)) <|
    ck ((0:Int)≤v∧v<(at_.length:Int)) <|
    some ((!(decide ((gi at_ (max (((gi l v.toNat).Next).get 1) 0:Int).toNat).X=(gi at_ v.toNat).X)))||(decide (((gi at_ (max (((gi l v.toNat).Next).get 1) 0:Int).toNat).Y)≤((gi at_ v.toNat).Y))))
   else
    some false).bind fun t1 =>
   if t1 then
    some (.inr (.inr ()))
   else
    ck (ZaA (v+1)) <|
    some (.inl (v+1))
 else
  some (.inr (.inl ()))

def Zaf (l:List Za) (at_:List Zg):Option Bool :=
 (
  ZZ (Zaf.s0 l at_) big 0:Option (Unit⊕Unit)).bind fun o₁=>match o₁ with
 | .inl _ =>
  some true
 | .inr _ =>
  some false

/-! muntin/muntinref19.Lines -/
def zG.s0 (c:zF):(List zg)×Int→Option (((List zg)×Int)⊕(List zg)):=fun (l,i) =>
 if decide (i<(c.Vert.length:Int)) then
  ck ((0:Int)≤i∧i<(c.Vert.length:Int)) <|
  if decide (1<((gi c.Vert i.toNat).length:Int)) then
   ck (l.length+[(⟨true,i⟩:zg)].length≤1000000000) <|
   ck (ZaA (i+1)) <|
   some (.inl (l++[(⟨true,i⟩:zg)],i+1))
  else
   ck (ZaA (i+1)) <|
   some (.inl (l,i+1))
 else
  some (.inr l)

def zG.s1 (c:zF):(List zg)×Int→Option (((List zg)×Int)⊕(List zg)):=fun (l2,i1) =>
 if decide (i1<(c.Horz.length:Int)) then
  ck ((0:Int)≤i1∧i1<(c.Horz.length:Int)) <|
  if decide (1<((gi c.Horz i1.toNat).length:Int)) then
   ck (l2.length+[(⟨false,i1⟩:zg)].length≤1000000000) <|
   ck (ZaA (i1+1)) <|
   some (.inl (l2++[(⟨false,i1⟩:zg)],i1+1))
  else
   ck (ZaA (i1+1)) <|
   some (.inl (l2,i1+1))
 else
  some (.inr l2)

def zG (c:zF):Option (List zg) :=
 (ZZ (zG.s0 c) big (([]:List zg),0)).bind fun l1 =>
 (ZZ (zG.s1 c) big (l1,0)).bind fun l3 =>
 some l3

/-! muntin/muntinref16.Meet -/
def Zat.s0 (c:zF) (vertical:Bool) (i:Int) (other:Bool) (k_:Int):Int→Option (Int⊕(Unit⊕Unit)):=fun v =>
 if decide (v<(c.X.length:Int)) then
  ck ((0:Int)≤v∧v<(c.Y.length:Int)) <|
  (
   if vertical then
    ck ((0:Int)≤v∧v<(c.X.length:Int)) <|
    some (decide (gi c.X v.toNat=i))
   else
    some (decide (gi c.Y v.toNat=i))).bind fun a =>
  if other then
   ck ((0:Int)≤v∧v<(c.X.length:Int)) <|
   if a&&(decide (gi c.X v.toNat=k_)) then
    some (.inr (.inr ()))
   else
    ck (ZaA (v+1)) <|
    some (.inl (v+1))
  else
   if a&&(decide (gi c.Y v.toNat=k_)) then
    some (.inr (.inr ()))
   else
    ck (ZaA (v+1)) <|
    some (.inl (v+1))
 else
  some (.inr (.inl ()))

def Zat (c:zF) (vertical:Bool) (i:Int) (other:Bool) (k_:Int):Option Bool :=
 (
  ZZ (Zat.s0 c vertical i other k_) big 0:Option (Unit⊕Unit)).bind fun o₁=>match o₁ with
 | .inl _ =>
  some false
 | .inr _ =>
  some true

/-! muntin/muntinref19.ends -/
def Zbv (c:zF) (l:zg) (at_:List Zg):Option (Zg×Zg) :=
 (
  if l.Vertical then
   some c.Vert
  else
   some c.Horz).bind fun x =>
 ck ((0:Int)≤l.Place∧l.Place<(x.length:Int)) <|
 ck ((0:Int)≤0∧0<((gi x (l.Place:Int).toNat).length:Int)) <|
 ck ((0:Int)≤(gi (gi x (l.Place:Int).toNat) (0:Int).toNat)∧(gi (gi x (l.Place:Int).toNat) (0:Int).toNat)<(at_.length:Int)) <|
 ck (ZaA (((gi x (l.Place:Int).toNat).length:Int)-1)) <|
 ck ((0:Int)≤(((gi x (l.Place:Int).toNat).length:Int)-1)∧(((gi x (l.Place:Int).toNat).length:Int)-1)<((gi x (l.Place:Int).toNat).length:Int)) <|
 ck ((0:Int)≤(gi (gi x (l.Place:Int).toNat) (((gi x (l.Place:Int).toNat).length:Int)-1:Int).toNat)∧(gi (gi x (l.Place:Int).toNat) (((gi x (l.Place:Int).toNat).length:Int)-1:Int).toNat)<(at_.length:Int)) <|
 some (gi at_ (gi (gi x (l.Place:Int).toNat) (0:Int).toNat:Int).toNat,gi at_ (gi (gi x (l.Place:Int).toNat) (((gi x (l.Place:Int).toNat).length:Int)-1:Int).toNat:Int).toNat)

/-! muntin/muntinref19.Real -/
def za.s1 (at_:List Zg) (x1:zF) (x3:List zg) (i:Int):Int→Option (Int⊕(Unit⊕Unit)):=fun k_ =>
 if decide (k_<(x3.length:Int)) then
  ck ((0:Int)≤i∧i<(x3.length:Int)) <|
  ck ((0:Int)≤k_∧k_<(x3.length:Int)) <|
  (Zat x1 ((gi x3 i.toNat).Vertical) ((gi x3 i.toNat).Place) ((gi x3 k_.toNat).Vertical) ((gi x3 k_.toNat).Place)).bind fun x4 =>
  (Zbv x1 (gi x3 i.toNat) at_).bind fun (x5,x6) =>
  (Zbv x1 (gi x3 k_.toNat) at_).bind fun (x7,x8) =>
  if (!x4)&&(!((((decide (x6.X<x7.X))||(decide (x8.X<x5.X)))||(decide (x6.Y<x7.Y)))||(decide (x8.Y<x5.Y)))) then
   some (.inr (.inr ()))
  else
   ck (ZaA (k_+1)) <|
   some (.inl (k_+1))
 else
  some (.inr (.inl ()))

def za.s0 (at_:List Zg) (x1:zF) (x3:List zg):Int→Option (Int⊕(Unit⊕Unit)):=fun i =>
 if decide (i<(x3.length:Int)) then
  ck (ZaA (i+1)) <|
  (
   ZZ (za.s1 at_ x1 x3 i) big (i+1):Option (Unit⊕Unit)).bind fun o₃=>match o₃ with
  | .inl _ =>
   some (.inl (i+1))
  | .inr _ =>
   some (.inr (.inr ()))
 else
  some (.inr (.inl ()))

def za (l:List Za) (at_:List Zg):Option Bool :=
 if !(decide ((at_.length:Int)=(l.length:Int))) then
  some false
 else
  (Zaf l at_).bind fun x =>
  if !x then
   some false
  else
   (Zb2 l).bind fun (x1,x2) =>
   (zG x1).bind fun x3 =>
   (
    ZZ (za.s0 at_ x1 x3) big 0:Option (Unit⊕Unit)).bind fun o₁=>match o₁ with
   | .inl _ =>
    some true
   | .inr _ =>
    some false

/-! muntin/muntinlaw19.SepMakes$1 -/
def Z7.s0 (l:List Int) (by_:List Int):(List Int)×Int→Option (((List Int)×Int)⊕(List Int)):=fun (l1,x) =>
 if decide (x<(l.length:Int)) then
  if decide (x<(by_.length:Int)) then
   ck ((0:Int)≤x∧x<(l1.length:Int)) <|
   ck ((0:Int)≤x∧x<(by_.length:Int)) <|
   ck (inK .i64 ((gi by_ x.toNat).tmod 6)) <|
   ck (ZaA ((gi l1 x.toNat)+((gi by_ x.toNat).tmod 6))) <|
   ck (ZaA (x+1)) <|
   some (.inl (l1.set x.toNat ((gi l1 x.toNat)+((gi by_ x.toNat).tmod 6)),x+1))
  else
   ck (ZaA (x+1)) <|
   some (.inl (l1,x+1))
 else
  some (.inr l1)

def Z7.s2 (arcs:List Zj):(List Int)×Int→Option (((List Int)×Int)⊕(List Int)):=fun (l4,x2) =>
 if decide (x2<(arcs.length:Int)) then
  ck ((0:Int)≤x2∧x2<(arcs.length:Int)) <|
  ck ((0:Int)≤((gi arcs x2.toNat).To)∧((gi arcs x2.toNat).To)<(l4.length:Int)) <|
  ck ((0:Int)≤((gi arcs x2.toNat).From)∧((gi arcs x2.toNat).From)<(l4.length:Int)) <|
  ck (ZaA ((gi l4 ((gi arcs x2.toNat).From:Int).toNat)+1)) <|
  ck (ZaA (x2+1)) <|
  some (.inl (l4.set ((gi arcs x2.toNat).To:Int).toNat (max (gi l4 ((gi arcs x2.toNat).To:Int).toNat) ((gi l4 ((gi arcs x2.toNat).From:Int).toNat)+1)),x2+1))
 else
  some (.inr l4)

def Z7.s1 (arcs:List Zj) (l2:List Int):(List Int)×Int→Option (((List Int)×Int)⊕(List Int)):=fun (l3,x1) =>
 if decide (x1<(l2.length:Int)) then
  (ZZ (Z7.s2 arcs) big (l3,0)).bind fun l5 =>
  ck (ZaA (x1+1)) <|
  some (.inl (l5,x1+1))
 else
  some (.inr l3)

def Z7 (l:List Int) (by_:List Int) (arcs:List Zj):Option (List Int) :=
 (ZZ (Z7.s0 l by_) big (l,0)).bind fun l2 =>
 (ZZ (Z7.s1 arcs l2) big (l2,0)).bind fun p0 =>
 some p0

/-! muntin/muntinlaw19.SepMakes -/
def ZbM (z:zT) (x:List Int) (y:List Int):Option Bool :=
 (ZR z 14).bind fun (x1,x2) =>
 (zA x1).bind fun (x3,x4) =>
 (Zb4 ).bind fun x5 =>
 if ((!x5)||(!(decide (x4=0))))||(decide (0<(x3.Open.length:Int))) then
  (Zb4 ).bind fun x6 =>
  some x6
 else
  (Zb2 x1).bind fun (x7,x8) =>
  (zr (x7.Vert.length:Int) x3.Graphs.H).bind fun x9 =>
  (zr (x7.Horz.length:Int) x3.Graphs.V).bind fun x10 =>
  (Zaj x7 x9 x10).bind fun x11 =>
  (za x1 x11).bind fun x12 =>
  if !x12 then
   some false
  else
   (Z7 x9 x x3.Graphs.H).bind fun m =>
   (Z7 x10 y x3.Graphs.V).bind fun m1 =>
   (Zaj x7 m m1).bind fun x13 =>
   (za x1 x13).bind fun x14 =>
   some x14

end Mu
