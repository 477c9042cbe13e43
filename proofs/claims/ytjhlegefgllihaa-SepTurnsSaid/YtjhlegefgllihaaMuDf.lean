/- What the functions work out. -/
import Derived.Test.YtjhlegefgllihaaMuA
import Derived.Test.YtjhlegefgllihaaMuR
set_option linter.unusedVariables false
set_option linter.unnecessarySimpa false
set_option linter.unusedSimpArgs false
set_option maxHeartbeats 2000000
set_option maxRecDepth 10000
namespace Mu
open Go (IntKind BinOp UnOp)
structure zH where
 At:List Int
 Bits:List Int
 Own:List Int
 deriving DecidableEq,Inhabited
abbrev ZiJ:Enc Int:=⟨1,fun x=>[.i .u8 x],fun _=>rfl⟩
theorem ZiJ.one (x:Int):(ZiJ.c x).all V.one=true:=rfl
abbrev Zlp:Enc Int:=⟨1,fun x=>[.i .i8 x],fun _=>rfl⟩
theorem Zlp.one (x:Int):(Zlp.c x).all V.one=true:=rfl
structure Za where
 Next:A4 Int
 Owner:A4 Int
 deriving DecidableEq,Inhabited
structure Zl where
 X:Int
 Y:Int
 deriving DecidableEq,Inhabited
abbrev Zr:Enc Zl:=⟨2,fun x=>[.i .i64 x.X,.i .i64 x.Y],fun _=>rfl⟩
theorem Zr.one (x:Zl):(Zr.c x).all V.one=true:=rfl
theorem Zr.same (x y:Zl):Zax [.i,.i] (Zr.c x) (Zr.c y)=some (decide (x=y)):=by
 obtain ⟨x1,x2⟩:=x;obtain ⟨y1,y2⟩:=y;refine (ZfV (ZfV Zhb)).trans ?_;congr 1;rw [Bool.eq_iff_iff];simp [and_assoc]
abbrev Zi:Enc Za:=⟨8,fun x=>[.i .i64 x.Next.a,.i .i64 x.Next.b,.i .i64 x.Next.c,.i .i64 x.Next.d,.i .i64 x.Owner.a,.i .i64 x.Owner.b,.i .i64 x.Owner.c,.i .i64 x.Owner.d],fun _=>rfl⟩
theorem Zi.one (x:Za):(Zi.c x).all V.one=true:=rfl
structure Zj where
 From:Int
 To:Int
 Weight:Int
 deriving DecidableEq,Inhabited
structure ZB where
 Vertical:Bool
 Place:Int
 deriving DecidableEq,Inhabited
abbrev e_bool:Enc Bool:=⟨1,fun x=>[.b x],fun _=>rfl⟩
theorem e_bool.one (x:Bool):(e_bool.c x).all V.one=true:=rfl
structure Z4 where
 Cell:Int
 Dir:Int
 deriving DecidableEq,Inhabited
abbrev Zv:Enc Z4:=⟨2,fun x=>[.i .i64 x.Cell,.i .i64 x.Dir],fun _=>rfl⟩
theorem Zv.one (x:Z4):(Zv.c x).all V.one=true:=rfl
theorem Zv.same (x y:Z4):Zax [.i,.i] (Zv.c x) (Zv.c y)=some (decide (x=y)):=by
 obtain ⟨x1,x2⟩:=x;obtain ⟨y1,y2⟩:=y;refine (ZfV (ZfV Zhb)).trans ?_;congr 1;rw [Bool.eq_iff_iff];simp [and_assoc]
abbrev ZcG:Enc (A4 Int):=⟨4,fun x=>[.i .i64 x.a,.i .i64 x.b,.i .i64 x.c,.i .i64 x.d],fun _=>rfl⟩
theorem ZcG.one (x:A4 Int):(ZcG.c x).all V.one=true:=rfl
abbrev Zm:Enc (A2 ZB):=⟨4,fun x=>[.b x.a.Vertical,.i .i64 x.a.Place,.b x.b.Vertical,.i .i64 x.b.Place],fun _=>rfl⟩
theorem Zm.one (x:A2 ZB):(Zm.c x).all V.one=true:=rfl
abbrev Zc:Enc Zj:=⟨3,fun x=>[.i .i64 x.From,.i .i64 x.To,.i .i64 x.Weight],fun _=>rfl⟩
theorem Zc.one (x:Zj):(Zc.c x).all V.one=true:=rfl
structure Zak where
 X:List Int
 Y:List Int
 Vert:List (List Int)
 Horz:List (List Int)
 deriving DecidableEq,Inhabited
structure Za0 where
 Chains:Zak
 H:List Zj
 V:List Zj
 deriving DecidableEq,Inhabited
abbrev Zz:Enc ZB:=⟨2,fun x=>[.b x.Vertical,.i .i64 x.Place],fun _=>rfl⟩
theorem Zz.one (x:ZB):(Zz.c x).all V.one=true:=rfl
structure zP where
 left:Int
 right:Int
 bottom:Int
 top:Int
 deriving DecidableEq,Inhabited
abbrev ZF:Enc zP:=⟨4,fun x=>[.i .i64 x.left,.i .i64 x.right,.i .i64 x.bottom,.i .i64 x.top],fun _=>rfl⟩
theorem ZF.one (x:zP):(ZF.c x).all V.one=true:=rfl
abbrev zt:Enc Int:=⟨1,fun x=>[.i .u64 x],fun _=>rfl⟩
theorem zt.one (x:Int):(zt.c x).all V.one=true:=rfl
structure zr where
 rows:List (List Int)
 deriving DecidableEq,Inhabited
abbrev zx:Enc (A2 Int):=⟨2,fun x=>[.i .i64 x.a,.i .i64 x.b],fun _=>rfl⟩
theorem zx.one (x:A2 Int):(zx.c x).all V.one=true:=rfl
structure ZaR where
 Graphs:Za0
 Open:List (A2 ZB)
 deriving DecidableEq,Inhabited
structure zi where
 result:ZaR
 h:zr
 v:zr
 lines:List ZB
 sides:List zP
 deriving DecidableEq,Inhabited
structure Zn where
 horizontal:Bool
 from_:Int
 to:Int
 deriving DecidableEq,Inhabited
abbrev ZbX:Enc (A4 Zn):=⟨12,fun x=>[.b x.a.horizontal,.i .i64 x.a.from_,.i .i64 x.a.to,.b x.b.horizontal,.i .i64 x.b.from_,.i .i64 x.b.to,.b x.c.horizontal,.i .i64 x.c.from_,.i .i64 x.c.to,.b x.d.horizontal,.i .i64 x.d.from_,.i .i64 x.d.to],fun _=>rfl⟩
theorem ZbX.one (x:A4 Zn):(ZbX.c x).all V.one=true:=rfl
abbrev za:Enc Zn:=⟨3,fun x=>[.b x.horizontal,.i .i64 x.from_,.i .i64 x.to],fun _=>rfl⟩
theorem za.one (x:Zn):(za.c x).all V.one=true:=rfl
abbrev ZbT:Enc (A3 Int):=⟨3,fun x=>[.i .i64 x.a,.i .i64 x.b,.i .i64 x.c],fun _=>rfl⟩
theorem ZbT.one (x:A3 Int):(ZbT.c x).all V.one=true:=rfl
def Zil (x:Int):Prop:=Wf .u8 x
def Zk7 (x:Int):Prop:=Wf .i8 x
/-! muntin/muntinref10.New -/
def zw.s1 (v:Int):(List Za)×Int→Option (((List Za)×Int)⊕(List Za)):=fun (l2,d) =>
 if decide (d<4) then
  ck ((0:Int)≤v∧v<(l2.length:Int)) <|
  ck ((0:Int)≤d∧d<4) <|
  ck (Za6 (d+1)) <|
  some (.inl (l2.set v.toNat ({ gi l2 v.toNat with Next:=((gi l2 v.toNat).Next).set d (-1) }),d+1))
 else
  some (.inr l2)

def zw.s0 (n:Int):(List Za)×Int→Option (((List Za)×Int)⊕(List Za)):=fun (l,v) =>
 if decide (v<n) then
  (ZX (zw.s1 v) big (l,0)).bind fun l3 =>
  ck (Za6 (v+1)) <|
  some (.inl (l3,v+1))
 else
  some (.inr l)

def zw (n:Int):Option (List Za) :=
 ck ((0:Int)≤n∧n≤1000000000) <|
 (ZX (zw.s0 n) big (List.replicate n.toNat (⟨⟨0,0,0,0⟩,⟨0,0,0,0⟩⟩:Za),0)).bind fun l1 =>
 some l1

/-! muntin/muntinref10.Nearest -/
def ZR.s0 (at_:List Zl) (i:Int) (d:Int):Int×Int→Option ((Int×Int)⊕Int):=fun (best,k_) =>
 if decide (k_<(at_.length:Int)) then
  (if decide (d=0) then
   ck ((0:Int)≤k_∧k_<(at_.length:Int)) <|
   ck ((0:Int)≤i∧i<(at_.length:Int)) <|
   some (decide ((gi at_ k_.toNat).Y=(gi at_ i.toNat).Y))
  else
   some false).bind fun t =>
  (if t then
   ck ((0:Int)≤k_∧k_<(at_.length:Int)) <|
   ck ((0:Int)≤i∧i<(at_.length:Int)) <|
   some (decide (((gi at_ i.toNat).X)<((gi at_ k_.toNat).X)))
  else
   some false).bind fun t1 =>
  (if t1 then
   (if decide (best<0) then
    some true
   else
    ck ((0:Int)≤k_∧k_<(at_.length:Int)) <|
    ck ((0:Int)≤best∧best<(at_.length:Int)) <|
    some (decide (((gi at_ k_.toNat).X)<((gi at_ best.toNat).X)))).bind fun t3 =>
   some t3
  else
   some false).bind fun t2 =>
  (
   if t2 then
    some k_
   else
    some best).bind fun best2 =>
  (if decide (d=1) then
   ck ((0:Int)≤k_∧k_<(at_.length:Int)) <|
   ck ((0:Int)≤i∧i<(at_.length:Int)) <|
   some (decide ((gi at_ k_.toNat).X=(gi at_ i.toNat).X))
  else
   some false).bind fun t4 =>
  (if t4 then
   ck ((0:Int)≤k_∧k_<(at_.length:Int)) <|
   ck ((0:Int)≤i∧i<(at_.length:Int)) <|
   some (decide (((gi at_ i.toNat).Y)<((gi at_ k_.toNat).Y)))
  else
   some false).bind fun t5 =>
  (if t5 then
   (if decide (best2<0) then
    some true
   else
    ck ((0:Int)≤k_∧k_<(at_.length:Int)) <|
    ck ((0:Int)≤best2∧best2<(at_.length:Int)) <|
    some (decide (((gi at_ k_.toNat).Y)<((gi at_ best2.toNat).Y)))).bind fun t7 =>
   some t7
  else
   some false).bind fun t6 =>
  if t6 then
   ck (Za6 (k_+1)) <|
   some (.inl (k_,k_+1))
  else
   ck (Za6 (k_+1)) <|
   some (.inl (best2,k_+1))
 else
  some (.inr best)

def ZR (at_:List Zl) (i:Int) (d:Int):Option Int :=
 (ZX (ZR.s0 at_ i d) big ((-1),0)).bind fun best1 =>
 some best1

/-! muntin/muntinref10.Crossed -/
def ZQ.s1 (at_:List Zl) (l:List Za) (i:Int) (w:Int) (a:Int):Int→Option (Int⊕(Unit⊕Unit)):=fun d =>
 if decide (d<2) then
  ck ((0:Int)≤a∧a<(l.length:Int)) <|
  ck ((0:Int)≤d∧d<4) <|
  if decide ((((gi l a.toNat).Next).get d)<0) then
   ck (Za6 (d+1)) <|
   some (.inl (d+1))
  else
   ck ((0:Int)≤a∧a<(at_.length:Int)) <|
   ck ((0:Int)≤(((gi l a.toNat).Next).get d)∧(((gi l a.toNat).Next).get d)<(at_.length:Int)) <|
   (if decide ((gi at_ a.toNat).Y=(gi at_ (((gi l a.toNat).Next).get d:Int).toNat).Y) then
    ck ((0:Int)≤i∧i<(at_.length:Int)) <|
    ck ((0:Int)≤w∧w<(at_.length:Int)) <|
    some (decide ((gi at_ i.toNat).X=(gi at_ w.toNat).X))
   else
    some false).bind fun t =>
   (if t then
    ck ((0:Int)≤i∧i<(at_.length:Int)) <|
    some (decide (((gi at_ a.toNat).X)<((gi at_ i.toNat).X)))
   else
    some false).bind fun t1 =>
   (if t1 then
    ck ((0:Int)≤i∧i<(at_.length:Int)) <|
    some (decide (((gi at_ i.toNat).X)<((gi at_ (((gi l a.toNat).Next).get d:Int).toNat).X)))
   else
    some false).bind fun t2 =>
   (if t2 then
    ck ((0:Int)≤i∧i<(at_.length:Int)) <|
    some (decide (((gi at_ i.toNat).Y)<((gi at_ a.toNat).Y)))
   else
    some false).bind fun t3 =>
   (if t3 then
    ck ((0:Int)≤w∧w<(at_.length:Int)) <|
    some (decide (((gi at_ a.toNat).Y)<((gi at_ w.toNat).Y)))
   else
    some false).bind fun t4 =>
   if t4 then
    some (.inr (.inr ()))
   else
    (if decide ((gi at_ a.toNat).X=(gi at_ (((gi l a.toNat).Next).get d:Int).toNat).X) then
     ck ((0:Int)≤i∧i<(at_.length:Int)) <|
     ck ((0:Int)≤w∧w<(at_.length:Int)) <|
     some (decide ((gi at_ i.toNat).Y=(gi at_ w.toNat).Y))
    else
     some false).bind fun t5 =>
    (if t5 then
     ck ((0:Int)≤i∧i<(at_.length:Int)) <|
     some (decide (((gi at_ i.toNat).X)<((gi at_ a.toNat).X)))
    else
     some false).bind fun t6 =>
    (if t6 then
     ck ((0:Int)≤w∧w<(at_.length:Int)) <|
     some (decide (((gi at_ a.toNat).X)<((gi at_ w.toNat).X)))
    else
     some false).bind fun t7 =>
    (if t7 then
     ck ((0:Int)≤i∧i<(at_.length:Int)) <|
     some (decide (((gi at_ a.toNat).Y)<((gi at_ i.toNat).Y)))
    else
     some false).bind fun t8 =>
    (if t8 then
     ck ((0:Int)≤i∧i<(at_.length:Int)) <|
     some (decide (((gi at_ i.toNat).Y)<((gi at_ (((gi l a.toNat).Next).get d:Int).toNat).Y)))
    else
     some false).bind fun t9 =>
    if t9 then
     some (.inr (.inr ()))
    else
     ck (Za6 (d+1)) <|
     some (.inl (d+1))
 else
  some (.inr (.inl ()))

def ZQ.s0 (at_:List Zl) (l:List Za) (i:Int) (w:Int):Int→Option (Int⊕(Unit⊕Unit)):=fun a =>
 if decide (a<(l.length:Int)) then
  (
   ZX (ZQ.s1 at_ l i w a) big 0:Option (Unit⊕Unit)).bind fun o₃=>match o₃ with
  | .inl _ =>
   ck (Za6 (a+1)) <|
   some (.inl (a+1))
  | .inr _ =>
   some (.inr (.inr ()))
 else
  some (.inr (.inl ()))

def ZQ (at_:List Zl) (l:List Za) (i:Int) (w:Int):Option Bool :=
 (
  ZX (ZQ.s0 at_ l i w) big 0:Option (Unit⊕Unit)).bind fun o₁=>match o₁ with
 | .inl _ =>
  some false
 | .inr _ =>
  some true

/-! muntin/muntinref10.with -/
def Zam.s0 (l:List Za) (v:Int) (d:Int) (w:Int) (o:Int):(List Za)×Int→Option (((List Za)×Int)⊕(List Za)):=fun (out,i) =>
 if decide (i<(l.length:Int)) then
  ck ((0:Int)≤i∧i<(l.length:Int)) <|
  (
   if decide (i=v) then
    ck ((0:Int)≤d∧d<4) <|
    some ({ { gi l i.toNat with Next:=((gi l i.toNat).Next).set d w } with Owner:=(({ gi l i.toNat with Next:=((gi l i.toNat).Next).set d w }).Owner).set d o })
   else
    some (gi l i.toNat)).bind fun c =>
  if decide (i=w) then
   ck (Za6 (d+2)) <|
   ck ((0:Int)≤((d+2).tmod 4)∧((d+2).tmod 4)<4) <|
   ck (out.length+[{ { c with Next:=c.Next.set ((d+2).tmod 4) v } with Owner:=(({ c with Next:=c.Next.set ((d+2).tmod 4) v }).Owner).set ((d+2).tmod 4) o }].length≤1000000000) <|
   ck (Za6 (i+1)) <|
   some (.inl (out++[{ { c with Next:=c.Next.set ((d+2).tmod 4) v } with Owner:=(({ c with Next:=c.Next.set ((d+2).tmod 4) v }).Owner).set ((d+2).tmod 4) o }],i+1))
  else
   ck (out.length+[c].length≤1000000000) <|
   ck (Za6 (i+1)) <|
   some (.inl (out++[c],i+1))
 else
  some (.inr out)

def Zam (l:List Za) (v:Int) (d:Int) (w:Int) (o:Int):Option (List Za) :=
 (ZX (Zam.s0 l v d w o) big (([]:List Za),0)).bind fun out1 =>
 some out1

/-! muntin/muntinref10.Make -/
def ZH.s1 (z:zH) (at_:List Zl) (i:Int):Bool×Int→Option ((Bool×Int)⊕((List Zl)×Bool)):=fun (met,k_) =>
 if decide (k_<(at_.length:Int)) then
  (if met then
   some true
  else
   ck ((0:Int)≤k_∧k_<(at_.length:Int)) <|
   some (decide (gi at_ k_.toNat=(⟨(gi z.At i.toNat).tmod 8,((gi z.At i.toNat).tdiv 8).tmod 8⟩:Zl)))).bind fun t =>
  ck (Za6 (k_+1)) <|
  some (.inl (t,k_+1))
 else
  some (.inr (at_,met))

def ZH.s0 (z:zH) (most:Int):(List Zl)×Int→Option (((List Zl)×Int)⊕(List Zl)):=fun (at_,i) =>
 if (decide (i<(z.At.length:Int)))&&(decide ((at_.length:Int)<most)) then
  ck ((0:Int)≤i∧i<(z.At.length:Int)) <|
  ck (inK .i64 (gi z.At i.toNat)) <|
  ck ((8:Int)≠0∧Za6 ((gi z.At i.toNat).tdiv 8)) <|
  (ZX (ZH.s1 z at_ i) big (false,0)).bind fun (at_2,met1) =>
  if !met1 then
   ck (at_2.length+[(⟨(gi z.At i.toNat).tmod 8,((gi z.At i.toNat).tdiv 8).tmod 8⟩:Zl)].length≤1000000000) <|
   ck (Za6 (i+1)) <|
   some (.inl (at_2++[(⟨(gi z.At i.toNat).tmod 8,((gi z.At i.toNat).tdiv 8).tmod 8⟩:Zl)],i+1))
  else
   ck (Za6 (i+1)) <|
   some (.inl (at_2,i+1))
 else
  some (.inr at_)

def ZH.s3 (i1:Int) (bits:Int) (at_6:List Zl) (own:Int):(List Za)×Int→Option (((List Za)×Int)⊕(List Za)):=fun (l4,d) =>
 if decide (d<2) then
  (ZR at_6 i1 d).bind fun x1 =>
  ck ((0:Int)≤d) <|
  if (decide (ZC .u8 (zj .u8 bits d) 1=0))||(decide (x1<0)) then
   ck (Za6 (d+1)) <|
   some (.inl (l4,d+1))
  else
   (ZQ at_6 l4 i1 x1).bind fun x2 =>
   if !x2 then
    (Zam l4 i1 d x1 own).bind fun x3 =>
    ck (Za6 (d+1)) <|
    some (.inl (x3,d+1))
   else
    ck (Za6 (d+1)) <|
    some (.inl (l4,d+1))
 else
  some (.inr l4)

def ZH.s2 (z:zH):(List Zl)×(List Za)×Int→Option (((List Zl)×(List Za)×Int)⊕((List Zl)×(List Za))):=fun (at_3,l,i1) =>
 if decide (i1<(at_3.length:Int)) then
  (
   if decide (i1<(z.Bits.length:Int)) then
    ck ((0:Int)≤i1∧i1<(z.Bits.length:Int)) <|
    some (at_3,l,gi z.Bits i1.toNat)
   else
    some (at_3,l,3)).bind fun (at_5,l2,bits) =>
  (
   if decide (i1<(z.Own.length:Int)) then
    ck ((0:Int)≤i1∧i1<(z.Own.length:Int)) <|
    ck (inK .i64 (gi z.Own i1.toNat)) <|
    if decide ((gi z.Own i1.toNat)<(-2)) then
     ck (Za6 (-(gi z.Own i1.toNat))) <|
     some (at_5,l2,-(gi z.Own i1.toNat))
    else
     some (at_5,l2,gi z.Own i1.toNat)
   else
    some (at_5,l2,i1)).bind fun (at_6,l3,own) =>
  (ZX (ZH.s3 i1 bits at_6 own) big (l3,0)).bind fun l5 =>
  ck (Za6 (i1+1)) <|
  some (.inl (at_6,l5,i1+1))
 else
  some (.inr (at_3,l))

def ZH (z:zH) (most:Int):Option ((List Za)×(List Zl)) :=
 (ZX (ZH.s0 z most) big (([]:List Zl),0)).bind fun at_1 =>
 (zw (at_1.length:Int)).bind fun x =>
 (ZX (ZH.s2 z) big (at_1,x,0)).bind fun (at_4,l1) =>
 some (l1,at_4)

/-! muntin/compass.Good -/
def Zbh (d:Int):Option Bool :=
 some ((decide (0≤d))&&(decide (d≤3)))

/-! muntin/compass.Left -/
def Zbi (d:Int) (times:Int):Option Int :=
 (Zbh d).bind fun x =>
 if !x then
  some 0
 else
  ck (Za6 (d+(times.tmod 4))) <|
  ck (Za6 ((d+(times.tmod 4))+4)) <|
  some (((d+(times.tmod 4))+4).tmod 4)

/-! muntin/grid.side -/
def ZcJ (cells:List Za) (v:Int) (d:Int):Option Int :=
 ck ((0:Int)≤v∧v<(cells.length:Int)) <|
 ck ((0:Int)≤d∧d<4) <|
 if decide (((gi cells v.toNat).Next).get d=(-1)) then
  if !(decide (((gi cells v.toNat).Owner).get d=0)) then
   some 9
  else
   some 0
 else
  if ((decide ((((gi cells v.toNat).Next).get d)<0))||(decide ((cells.length:Int)≤(((gi cells v.toNat).Next).get d))))||(decide (((gi cells v.toNat).Next).get d=v)) then
   some 3
  else
   (Zbi d 2).bind fun x =>
   ck ((0:Int)≤(((gi cells v.toNat).Next).get d)∧(((gi cells v.toNat).Next).get d)<(cells.length:Int)) <|
   ck ((0:Int)≤x∧x<4) <|
   if ((!(decide (((gi cells (((gi cells v.toNat).Next).get d:Int).toNat).Next).get x=v)))||(!(decide (((gi cells (((gi cells v.toNat).Next).get d:Int).toNat).Owner).get x=((gi cells v.toNat).Owner).get d))))||(decide ((((gi cells v.toNat).Owner).get d)<(-2))) then
    some 9
   else
    some 0

/-! muntin/grid.Check -/
def zL.s1 (cells:List Za) (x:Int):Int→Option (Int⊕(Unit⊕Int)):=fun x2 =>
 if decide (x2<4) then
  (ZcJ cells x x2).bind fun x4 =>
  if !(decide (x4=0)) then
   some (.inr (.inr x4))
  else
   ck (Za6 (x2+1)) <|
   some (.inl (x2+1))
 else
  some (.inr (.inl ()))

def zL.s0 (cells:List Za):Int→Option (Int⊕(Unit⊕Int)):=fun x =>
 if decide (x<(cells.length:Int)) then
  (
   ZX (zL.s1 cells x) big 0:Option (Unit⊕Int)).bind fun o₃=>match o₃ with
  | .inl _ =>
   ck (Za6 (x+1)) <|
   some (.inl (x+1))
  | .inr x3 =>
   some (.inr (.inr x3))
 else
  some (.inr (.inl ()))

def zL (cells:List Za):Option Int :=
 if decide (4096<(cells.length:Int)) then
  some 6
 else
  (
   ZX (zL.s0 cells) big 0:Option (Unit⊕Int)).bind fun o₁=>match o₁ with
  | .inl _ =>
   some 0
  | .inr x1 =>
   some x1

/-! math/bits.Mul64 -/
def Zd4 (x:Int) (y:Int):Option (Int×Int) :=
 some (ZaT .u64 (ZaT .u64 (zE .u64 (zj .u64 x 32) (zj .u64 y 32)) (zj .u64 (ZaT .u64 (zE .u64 (zj .u64 x 32) (ZC .u64 y 4294967295)) (zj .u64 (zE .u64 (ZC .u64 x 4294967295) (ZC .u64 y 4294967295)) 32)) 32)) (zj .u64 (ZaT .u64 (ZC .u64 (ZaT .u64 (zE .u64 (zj .u64 x 32) (ZC .u64 y 4294967295)) (zj .u64 (zE .u64 (ZC .u64 x 4294967295) (ZC .u64 y 4294967295)) 32)) 4294967295) (zE .u64 (ZC .u64 x 4294967295) (zj .u64 y 32))) 32),zE .u64 x y)

/-! math/bits.Mul -/
def Zdm (x:Int) (y:Int):Option (Int×Int) :=
 (Zd4 x y).bind fun (x1,x2) =>
 some (x1,x2)

/-! slices.Repeat[[]int,int] -/
def zM.s0:(List Int)×Int→Option (((List Int)×Int)⊕(List Int)):=fun (newslice,n) =>
 if decide (n<(newslice.length:Int)) then
  ck ((0:Int)≤n∧n≤(newslice.length:Int)) <|
  ck (Za6 (n+((min (newslice.take n.toNat).length (newslice.drop n.toNat).length:Nat):Int))) <|
  some (.inl (newslice.take n.toNat++((newslice.take n.toNat).take (newslice.drop n.toNat).length++(newslice.drop n.toNat).drop (newslice.take n.toNat).length),n+((min (newslice.take n.toNat).length (newslice.drop n.toNat).length:Nat):Int)))
 else
  some (.inr newslice)

def zM (x:List Int) (count:Int):Option (List Int) :=
 (
  if decide (count<0) then
   none
  else
   some ()).bind fun _ =>
 ck (inK .u64 (x.length:Int)) <|
 ck (inK .u64 count) <|
 (Zdm (x.length:Int) count).bind fun (x1,x2) =>
 (
  if (decide (0<x1))||(decide (9223372036854775807<x2)) then
   none
  else
   some ()).bind fun _ =>
 ck (inK .i64 x2) <|
 ck ((0:Int)≤x2∧x2≤1000000000) <|
 (ZX zM.s0 big (x.take (List.replicate x2.toNat (0:Int)).length++(List.replicate x2.toNat (0:Int)).drop x.length,((min x.length (List.replicate x2.toNat (0:Int)).length:Nat):Int))).bind fun newslice1 =>
 some newslice1

/-! muntin/join.spread -/
def Za1.s1 (cells:List Za) (l:List Int):(List Int)×(List Int)×(List Int)×(List Bool)×Int→Option (((List Int)×(List Int)×(List Int)×(List Bool)×Int)⊕((List Int)×(List Int)×(List Int)×(List Bool))):=fun (from_2,dir2,l1,met1,x2) =>
 if decide (x2<4) then
  ck ((0:Int)≤(gi l (0:Int).toNat)∧(gi l (0:Int).toNat)<(cells.length:Int)) <|
  ck ((0:Int)≤x2∧x2<4) <|
  (if decide (0≤(((gi cells (gi l (0:Int).toNat:Int).toNat).Next).get x2)) then
   ck ((0:Int)≤(((gi cells (gi l (0:Int).toNat:Int).toNat).Next).get x2)∧(((gi cells (gi l (0:Int).toNat:Int).toNat).Next).get x2)<(met1.length:Int)) <|
   some (!(gi met1 (((gi cells (gi l (0:Int).toNat:Int).toNat).Next).get x2:Int).toNat))
  else
   some false).bind fun t =>
  if t then
   ck ((0:Int)≤(((gi cells (gi l (0:Int).toNat:Int).toNat).Next).get x2)∧(((gi cells (gi l (0:Int).toNat:Int).toNat).Next).get x2)<(met1.length:Int)) <|
   ck ((0:Int)≤(((gi cells (gi l (0:Int).toNat:Int).toNat).Next).get x2)∧(((gi cells (gi l (0:Int).toNat:Int).toNat).Next).get x2)<(from_2.length:Int)) <|
   ck ((0:Int)≤(((gi cells (gi l (0:Int).toNat:Int).toNat).Next).get x2)∧(((gi cells (gi l (0:Int).toNat:Int).toNat).Next).get x2)<(dir2.length:Int)) <|
   ck (l1.length+[((gi cells (gi l (0:Int).toNat:Int).toNat).Next).get x2].length≤1000000000) <|
   ck (Za6 (x2+1)) <|
   some (.inl (from_2.set (((gi cells (gi l (0:Int).toNat:Int).toNat).Next).get x2:Int).toNat (gi l (0:Int).toNat),dir2.set (((gi cells (gi l (0:Int).toNat:Int).toNat).Next).get x2:Int).toNat x2,l1++[((gi cells (gi l (0:Int).toNat:Int).toNat).Next).get x2],met1.set (((gi cells (gi l (0:Int).toNat:Int).toNat).Next).get x2:Int).toNat true,x2+1))
  else
   ck (Za6 (x2+1)) <|
   some (.inl (from_2,dir2,l1,met1,x2+1))
 else
  some (.inr (from_2,dir2,l1,met1))

def Za1.s0 (cells:List Za):(List Int)×(List Int)×(List Int)×(List Bool)→Option (((List Int)×(List Int)×(List Int)×(List Bool))⊕((List Int)×(List Int))):=fun (from_,dir,l,met) =>
 if decide (0<(l.length:Int)) then
  ck ((0:Int)≤0∧0<(l.length:Int)) <|
  ck ((0:Int)≤1∧1≤(l.length:Int)) <|
  (ZX (Za1.s1 cells l) big (from_,dir,l.drop (1:Int).toNat,met,0)).bind fun (from_3,dir3,l2,met2) =>
  some (.inl (from_3,dir3,l2,met2))
 else
  some (.inr (from_,dir))

def Za1 (cells:List Za) (v:Int):Option ((List Int)×(List Int)) :=
 (zM ([(-1)]:List Int) (cells.length:Int)).bind fun x =>
 (zM ([(-1)]:List Int) (cells.length:Int)).bind fun x1 =>
 ck ((0:Int)≤(cells.length:Int)∧(cells.length:Int)≤1000000000) <|
 ck ((0:Int)≤v∧v<((List.replicate ((cells.length:Int):Int).toNat false).length:Int)) <|
 (ZX (Za1.s0 cells) big (x,x1,[v],(List.replicate ((cells.length:Int):Int).toNat false).set v.toNat true)).bind fun (from_1,dir1) =>
 some (from_1,dir1)

/-! muntin/join.Parts -/
def Za9.s1 (cells:List Za) (x1:Int) (x3:List Int):(List Bool)×(List Int)×Int→Option (((List Bool)×(List Int)×Int)⊕((List Bool)×(List Int))):=fun (met1,part,x4) =>
 if decide (x4<(cells.length:Int)) then
  (if decide (x4=x1) then
   some true
  else
   ck ((0:Int)≤x4∧x4<(x3.length:Int)) <|
   some (decide (0≤(gi x3 x4.toNat)))).bind fun t =>
  if t then
   ck ((0:Int)≤x4∧x4<(met1.length:Int)) <|
   ck (part.length+[x4].length≤1000000000) <|
   ck (Za6 (x4+1)) <|
   some (.inl (met1.set x4.toNat true,part++[x4],x4+1))
  else
   ck (Za6 (x4+1)) <|
   some (.inl (met1,part,x4+1))
 else
  some (.inr (met1,part))

def Za9.s0 (cells:List Za):(List (List Int))×(List Bool)×Int→Option (((List (List Int))×(List Bool)×Int)⊕(List (List Int))):=fun (l,met,x1) =>
 if decide (x1<(cells.length:Int)) then
  ck ((0:Int)≤x1∧x1<(met.length:Int)) <|
  if gi met x1.toNat then
   ck (Za6 (x1+1)) <|
   some (.inl (l,met,x1+1))
  else
   (Za1 cells x1).bind fun (x2,x3) =>
   (ZX (Za9.s1 cells x1 x3) big (met,([]:List Int),0)).bind fun (met2,part1) =>
   ck (l.length+1≤1000000000) <|
   ck (Za6 (x1+1)) <|
   some (.inl (l++[part1],met2,x1+1))
 else
  some (.inr l)

def Za9 (cells:List Za):Option ((List (List Int))×Int) :=
 (zL cells).bind fun x =>
 if !(decide (x=0)) then
  some (([]:List (List Int)),x)
 else
  ck ((0:Int)≤(cells.length:Int)∧(cells.length:Int)≤1000000000) <|
  (ZX (Za9.s0 cells) big (([]:List (List Int)),List.replicate ((cells.length:Int):Int).toNat false,0)).bind fun l1 =>
  some (l1,0)

/-! muntin/join.Whole -/
def Zc5 (cells:List Za):Option Bool :=
 (Za9 cells).bind fun (x,x1) =>
 some ((decide (x1=0))&&(decide ((x.length:Int)=1)))

/-! (muntin/face.Dart).is -/
def Zbj (d:Z4) (cells:List Za):Option Bool :=
 if decide (0≤d.Cell) then
  if decide (d.Cell<(cells.length:Int)) then
   (Zbh d.Dir).bind fun x =>
   if x then
    ck ((0:Int)≤d.Cell∧d.Cell<(cells.length:Int)) <|
    ck ((0:Int)≤d.Dir∧d.Dir<4) <|
    some (decide (0≤(((gi cells (d.Cell:Int).toNat).Next).get d.Dir)))
   else
    some false
  else
   some false
 else
  some false

/-! (muntin/face.Dart).behind -/
def Zab.s0 (d:Z4) (cells:List Za):Int→Option (Int⊕(Unit⊕Z4)):=fun x =>
 if decide (x<4) then
  ck ((0:Int)≤x∧x<4) <|
  (Zbi d.Dir ((⟨1,0,(-1),2⟩:A4 Int).get x)).bind fun x2 =>
  (Zbj (⟨((gi cells (d.Cell:Int).toNat).Next).get d.Dir,x2⟩:Z4) cells).bind fun x3 =>
  if x3 then
   some (.inr (.inr (⟨((gi cells (d.Cell:Int).toNat).Next).get d.Dir,x2⟩:Z4)))
  else
   ck (Za6 (x+1)) <|
   some (.inl (x+1))
 else
  some (.inr (.inl ()))

def Zab (d:Z4) (cells:List Za):Option Z4 :=
 ck ((0:Int)≤d.Cell∧d.Cell<(cells.length:Int)) <|
 ck ((0:Int)≤d.Dir∧d.Dir<4) <|
 (
  ZX (Zab.s0 d cells) big 0:Option (Unit⊕Z4)).bind fun o₁=>match o₁ with
 | .inl _ =>
  some d
 | .inr x1 =>
  some x1

/-! muntin/face.Faces -/
def Zag.s2 (cells:List Za):(List (Z4×Bool))×(List Z4)×Z4→Option (((List (Z4×Bool))×(List Z4)×Z4)⊕((List (Z4×Bool))×(List Z4))):=fun (met3,f,x4) =>
 if !(Zfy false x4 met3) then
  ck (f.length+[x4].length≤1000000000) <|
  (Zab x4 cells).bind fun x5 =>
  some (.inl (ZeW x4 true met3,f++[x4],x5))
 else
  some (.inr (met3,f))

def Zag.s1 (cells:List Za) (x1:Int):(List (List Z4))×(List (Z4×Bool))×Int→Option (((List (List Z4))×(List (Z4×Bool))×Int)⊕((List (List Z4))×(List (Z4×Bool)))):=fun (l2,met1,x2) =>
 if decide (x2<4) then
  (Zbj (⟨x1,x2⟩:Z4) cells).bind fun x3 =>
  if (!x3)||(Zfy false (⟨x1,x2⟩:Z4) met1) then
   ck (Za6 (x2+1)) <|
   some (.inl (l2,met1,x2+1))
  else
   (ZX (Zag.s2 cells) big (met1,([]:List Z4),(⟨x1,x2⟩:Z4))).bind fun (met4,f1) =>
   ck (l2.length+1≤1000000000) <|
   ck (Za6 (x2+1)) <|
   some (.inl (l2++[f1],met4,x2+1))
 else
  some (.inr (l2,met1))

def Zag.s0 (cells:List Za):(List (List Z4))×(List (Z4×Bool))×Int→Option (((List (List Z4))×(List (Z4×Bool))×Int)⊕(List (List Z4))):=fun (l,met,x1) =>
 if decide (x1<(cells.length:Int)) then
  (ZX (Zag.s1 cells x1) big (l,met,0)).bind fun (l3,met2) =>
  ck (Za6 (x1+1)) <|
  some (.inl (l3,met2,x1+1))
 else
  some (.inr l)

def Zag (cells:List Za):Option ((List (List Z4))×Int) :=
 (zL cells).bind fun x =>
 if !(decide (x=0)) then
  some (([]:List (List Z4)),x)
 else
  (ZX (Zag.s0 cells) big (([]:List (List Z4)),([]:List (Z4×Bool)),0)).bind fun l1 =>
  some (l1,0)

/-! muntin/compass.Turn -/
def Zck (d:Int) (e_:Int):Option Int :=
 (Zbh d).bind fun x =>
 (if !x then
  some true
 else
  (Zbh e_).bind fun x1 =>
  some (!x1)).bind fun t =>
 if t then
  some 0
 else
  ck (Za6 (e_-d)) <|
  ck (Za6 ((e_-d)+4)) <|
  ck ((0:Int)≤(((e_-d)+4).tmod 4)∧(((e_-d)+4).tmod 4)<4) <|
  some ((⟨0,1,(-2),(-1)⟩:A4 Int).get (((e_-d)+4).tmod 4))

/-! muntin/face.Turns -/
def Zb3.s0 (cells:List Za) (f:List Z4):(List Int)×Int→Option (((List Int)×Int)⊕(List Int)):=fun (l,x1) =>
 if decide (x1<(f.length:Int)) then
  ck ((0:Int)≤x1∧x1<(f.length:Int)) <|
  (Zbj (gi f x1.toNat) cells).bind fun x2 =>
  if x2 then
   (Zab (gi f x1.toNat) cells).bind fun x3 =>
   (Zck ((gi f x1.toNat).Dir) x3.Dir).bind fun x4 =>
   ck ((0:Int)≤x1∧x1<(l.length:Int)) <|
   ck (Za6 (x1+1)) <|
   some (.inl (l.set x1.toNat x4,x1+1))
  else
   ck (Za6 (x1+1)) <|
   some (.inl (l,x1+1))
 else
  some (.inr l)

def Zb3 (cells:List Za) (f:List Z4):Option (List Int) :=
 ck ((0:Int)≤(f.length:Int)∧(f.length:Int)≤1000000000) <|
 (zL cells).bind fun x =>
 if !(decide (x=0)) then
  some (List.replicate ((f.length:Int):Int).toNat (0:Int))
 else
  (ZX (Zb3.s0 cells f) big (List.replicate ((f.length:Int):Int).toNat (0:Int),0)).bind fun l1 =>
  some l1

/-! muntin/face.Rotation -/
def ZaW.s0 (turns:List Int):Int×Int→Option ((Int×Int)⊕Int):=fun (n,x) =>
 if decide (x<(turns.length:Int)) then
  ck ((0:Int)≤x∧x<(turns.length:Int)) <|
  if (decide ((-2)≤(gi turns x.toNat)))&&(decide ((gi turns x.toNat)≤1)) then
   ck (Za6 (n+(gi turns x.toNat))) <|
   ck (Za6 (x+1)) <|
   some (.inl (n+(gi turns x.toNat),x+1))
  else
   ck (Za6 (x+1)) <|
   some (.inl (n,x+1))
 else
  some (.inr n)

def ZaW (turns:List Int):Option Int :=
 (ZX (ZaW.s0 turns) big (0,0)).bind fun n1 =>
 some n1

/-! muntin/valid.outer -/
def Zbm.s0 (cells:List Za) (x:List (List Z4)):Int×Int→Option ((Int×Int)⊕(Int⊕Unit)):=fun (at_,x2) =>
 if decide (x2<(x.length:Int)) then
  ck ((0:Int)≤x2∧x2<(x.length:Int)) <|
  (Zb3 cells (gi x x2.toNat)).bind fun x3 =>
  (ZaW x3).bind fun x4 =>
  if decide (x4=4) then
   ck (Za6 (x2+1)) <|
   some (.inl (at_,x2+1))
  else
   if decide (x4=(-4)) then
    if decide (0≤at_) then
     some (.inr (.inr ()))
    else
     ck (Za6 (x2+1)) <|
     some (.inl (x2,x2+1))
   else
    some (.inr (.inr ()))
 else
  some (.inr (.inl at_))

def Zbm (cells:List Za):Option (Int×Bool) :=
 (Zag cells).bind fun (x,x1) =>
 (
  ZX (Zbm.s0 cells x) big ((-1),0):Option (Int⊕Unit)).bind fun o₁=>match o₁ with
 | .inl at_1 =>
  some (at_1,decide (0≤at_1))
 | .inr _ =>
  some (0,false)

/-! muntin/valid.Check -/
def Zcw (cells:List Za):Option Int :=
 (zL cells).bind fun x =>
 if !(decide (x=0)) then
  some x
 else
  (Zc5 cells).bind fun x1 =>
  if !x1 then
   some 13
  else
   (Zbm cells).bind fun (x2,x3) =>
   if (!x3)&&(decide (1<(cells.length:Int))) then
    some 10
   else
    some 0

/-! muntin/seg.chains -/
def zB.s1 (cells:List Za) (x1:Int):Int×Int→Option ((Int×Int)⊕(Int⊕Unit)):=fun (first,n) =>
 ck ((0:Int)≤first∧first<(cells.length:Int)) <|
 ck ((0:Int)≤x1∧x1<4) <|
 if decide (0≤(((gi cells first.toNat).Next).get x1)) then
  if decide (n=(cells.length:Int)) then
   some (.inr (.inr ()))
  else
   ck (Za6 (n+1)) <|
   some (.inl (((gi cells first.toNat).Next).get x1,n+1))
 else
  some (.inr (.inl first))

def zB.s2 (cells:List Za) (d:Int) (l:List (List Int)):(List Int)×(List Int)×Int→Option (((List Int)×(List Int)×Int)⊕((List Int)×(List Int))):=fun (at_2,chain,w) =>
 if decide (0≤w) then
  ck ((0:Int)≤w∧w<(at_2.length:Int)) <|
  ck (chain.length+[w].length≤1000000000) <|
  ck ((0:Int)≤w∧w<(cells.length:Int)) <|
  ck ((0:Int)≤d∧d<4) <|
  some (.inl (at_2.set w.toNat (l.length:Int),chain++[w],((gi cells w.toNat).Next).get d))
 else
  some (.inr (at_2,chain))

def zB.s0 (cells:List Za) (d:Int) (x1:Int):(List Int)×(List (List Int))×Int→Option (((List Int)×(List (List Int))×Int)⊕(((List Int)×(List (List Int)))⊕Unit)):=fun (at_,l,x2) =>
 if decide (x2<(cells.length:Int)) then
  ck ((0:Int)≤x2∧x2<(at_.length:Int)) <|
  if decide (0≤(gi at_ x2.toNat)) then
   ck (Za6 (x2+1)) <|
   some (.inl (at_,l,x2+1))
  else
   (
    ZX (zB.s1 cells x1) big (x2,0):Option (Int⊕Unit)).bind fun o₃=>match o₃ with
   | .inl first1 =>
    (ZX (zB.s2 cells d l) big (at_,([]:List Int),first1)).bind fun (at_3,chain1) =>
    ck (l.length+1≤1000000000) <|
    ck (Za6 (x2+1)) <|
    some (.inl (at_3,l++[chain1],x2+1))
   | .inr _ =>
    some (.inr (.inr ()))
 else
  some (.inr (.inl (at_,l)))

def zB (cells:List Za) (d:Int):Option ((List Int)×(List (List Int))×Bool) :=
 (zM ([(-1)]:List Int) (cells.length:Int)).bind fun x =>
 (Zbi d 2).bind fun x1 =>
 (
  ZX (zB.s0 cells d x1) big (x,([]:List (List Int)),0):Option (((List Int)×(List (List Int)))⊕Unit)).bind fun o₁=>match o₁ with
 | .inl (at_1,l1) =>
  some (at_1,l1,true)
 | .inr _ =>
  some (([]:List Int),([]:List (List Int)),false)

/-! muntin/seg.Of -/
def Zd5 (cells:List Za):Option (Zak×Int) :=
 (zL cells).bind fun x =>
 if !(decide (x=0)) then
  some ((⟨([]:List Int),([]:List Int),([]:List (List Int)),([]:List (List Int))⟩:Zak),x)
 else
  (zB cells 1).bind fun (x1,x2,x3) =>
  (zB cells 0).bind fun (x4,x5,x6) =>
  if (!x3)||(!x6) then
   some ((⟨([]:List Int),([]:List Int),([]:List (List Int)),([]:List (List Int))⟩:Zak),10)
  else
   some ((⟨x1,x4,x2,x5⟩:Zak),0)

/-! muntin/arcs.weight -/
def Zcv (owner:Int):Option Int :=
 if decide (0≤owner) then
  some 1
 else
  some 0

/-! muntin/arcs.graph -/
def Zbs.s0 (cells:List Za) (d:Int) (of:List Int):(List Zj)×Int→Option (((List Zj)×Int)⊕(List Zj)):=fun (l,x) =>
 if decide (x<(cells.length:Int)) then
  ck ((0:Int)≤x∧x<(cells.length:Int)) <|
  ck ((0:Int)≤d∧d<4) <|
  if decide (0≤(((gi cells x.toNat).Next).get d)) then
   ck ((0:Int)≤x∧x<(of.length:Int)) <|
   ck ((0:Int)≤(((gi cells x.toNat).Next).get d)∧(((gi cells x.toNat).Next).get d)<(of.length:Int)) <|
   (Zcv (((gi cells x.toNat).Owner).get d)).bind fun x1 =>
   ck (l.length+[(⟨gi of x.toNat,gi of (((gi cells x.toNat).Next).get d:Int).toNat,x1⟩:Zj)].length≤1000000000) <|
   ck (Za6 (x+1)) <|
   some (.inl (l++[(⟨gi of x.toNat,gi of (((gi cells x.toNat).Next).get d:Int).toNat,x1⟩:Zj)],x+1))
  else
   ck (Za6 (x+1)) <|
   some (.inl (l,x+1))
 else
  some (.inr l)

def Zbs (cells:List Za) (d:Int) (of:List Int):Option (List Zj) :=
 (ZX (Zbs.s0 cells d of) big (([]:List Zj),0)).bind fun l1 =>
 some l1

/-! muntin/arcs.Of -/
def ZcP (cells:List Za):Option (Za0×Int) :=
 (Zd5 cells).bind fun (x,x1) =>
 if !(decide (x1=0)) then
  some ((⟨(⟨([]:List Int),([]:List Int),([]:List (List Int)),([]:List (List Int))⟩:Zak),([]:List Zj),([]:List Zj)⟩:Za0),x1)
 else
  (Zbs cells 0 x.X).bind fun x2 =>
  (Zbs cells 1 x.Y).bind fun x3 =>
  some ((⟨x,x2,x3⟩:Za0),0)

/-! muntin/sep.lines -/
def ZaA.s0 (c:Zak):(List ZB)×Int→Option (((List ZB)×Int)⊕(List ZB)):=fun (l,x) =>
 if decide (x<(c.Vert.length:Int)) then
  ck ((0:Int)≤x∧x<(c.Vert.length:Int)) <|
  if decide (1<((gi c.Vert x.toNat).length:Int)) then
   ck (l.length+[(⟨true,x⟩:ZB)].length≤1000000000) <|
   ck (Za6 (x+1)) <|
   some (.inl (l++[(⟨true,x⟩:ZB)],x+1))
  else
   ck (Za6 (x+1)) <|
   some (.inl (l,x+1))
 else
  some (.inr l)

def ZaA.s1 (c:Zak):(List ZB)×Int→Option (((List ZB)×Int)⊕(List ZB)):=fun (l2,x1) =>
 if decide (x1<(c.Horz.length:Int)) then
  ck ((0:Int)≤x1∧x1<(c.Horz.length:Int)) <|
  if decide (1<((gi c.Horz x1.toNat).length:Int)) then
   ck (l2.length+[(⟨false,x1⟩:ZB)].length≤1000000000) <|
   ck (Za6 (x1+1)) <|
   some (.inl (l2++[(⟨false,x1⟩:ZB)],x1+1))
  else
   ck (Za6 (x1+1)) <|
   some (.inl (l2,x1+1))
 else
  some (.inr l2)

def ZaA (c:Zak):Option (List ZB) :=
 (ZX (ZaA.s0 c) big (([]:List ZB),0)).bind fun l1 =>
 (ZX (ZaA.s1 c) big (l1,0)).bind fun l3 =>
 some l3

/-! muntin/reach.New -/
def Zbz.s0 (n:Int):(List (List Int))×Int→Option (((List (List Int))×Int)⊕(List (List Int))):=fun (r_,x) =>
 if decide (x<((List.replicate n.toNat []:List (List Int)).length:Int)) then
  ck (Za6 (n+64)) <|
  ck (Za6 ((n+64)-1)) <|
  ck ((64:Int)≠0∧Za6 (((n+64)-1).tdiv 64)) <|
  ck ((0:Int)≤(((n+64)-1).tdiv 64)∧(((n+64)-1).tdiv 64)≤1000000000) <|
  ck ((0:Int)≤x∧x<(r_.length:Int)) <|
  ck (Za6 (x+1)) <|
  some (.inl (r_.set x.toNat (List.replicate (((n+64)-1).tdiv 64:Int).toNat (0:Int)),x+1))
 else
  some (.inr r_)

def Zbz (n:Int):Option ((Option zr)×Int) :=
 if (decide (n<0))||(decide (4096<n)) then
  some (none,2)
 else
  ck ((0:Int)≤n∧n≤1000000000) <|
  (ZX (Zbz.s0 n) big ((List.replicate n.toNat []:List (List Int)),0)).bind fun r_1 =>
  some (some (⟨r_1⟩:zr),0)

/-! (*muntin/reach.Reach).is -/
def Zao (r_:zr) (v:Int):Option Bool :=
 some ((decide (0≤v))&&(decide (v<(r_.rows.length:Int))))

/-! (*muntin/reach.Reach).Has -/
def zA (r_:zr) (u_:Int) (v:Int):Option Bool :=
 (Zao r_ u_).bind fun x =>
 (if x then
  (Zao r_ v).bind fun x1 =>
  some x1
 else
  some false).bind fun t =>
 (if t then
  ck ((0:Int)≤u_∧u_<(r_.rows.length:Int)) <|
  ck ((64:Int)≠0∧Za6 (v.tdiv 64)) <|
  ck ((0:Int)≤(v.tdiv 64)∧(v.tdiv 64)<((gi r_.rows u_.toNat).length:Int)) <|
  ck ((0:Int)≤(v.tmod 64)) <|
  some (decide (ZC .u64 (zj .u64 (gi (gi r_.rows u_.toNat) (v.tdiv 64:Int).toNat) (v.tmod 64)) 1=1))
 else
  some false).bind fun t1 =>
 some t1

/-! slices.Clone[[]uint64,uint64] -/
def ZbU (s:List Int):Option (List Int) :=
 ck (s.length≤1000000000) <|
 some s
/-! (*muntin/reach.Reach).Add -/
def ze.s1 (v:Int) (x3:List Int) (x4:Int):(List (List Int))×Int→Option (((List (List Int))×Int)⊕(List (List Int))):=fun (r_2,x6) =>
 if decide (x6<((x3.set (v.tdiv 64:Int).toNat (ZbH .u64 (gi x3 (v.tdiv 64:Int).toNat) (ZbZ .u64 1 (v.tmod 64)))).length:Int)) then
  ck ((0:Int)≤x6∧x6<((x3.set (v.tdiv 64:Int).toNat (ZbH .u64 (gi x3 (v.tdiv 64:Int).toNat) (ZbZ .u64 1 (v.tmod 64)))).length:Int)) <|
  ck ((0:Int)≤x4∧x4<(r_2.length:Int)) <|
  ck ((0:Int)≤x6∧x6<((gi r_2 x4.toNat).length:Int)) <|
  ck (Za6 (x6+1)) <|
  some (.inl ((r_2.set x4.toNat ((gi r_2 x4.toNat).set x6.toNat (ZbH .u64 (gi (gi r_2 x4.toNat) x6.toNat) (gi (x3.set (v.tdiv 64:Int).toNat (ZbH .u64 (gi x3 (v.tdiv 64:Int).toNat) (ZbZ .u64 1 (v.tmod 64)))) x6.toNat)))),x6+1))
 else
  some (.inr r_2)

def ze.s0 (r_:zr) (u_:Int) (v:Int) (x3:List Int):(List (List Int))×Int→Option (((List (List Int))×Int)⊕(List (List Int))):=fun (r_1,x4) =>
 if decide (x4<(r_.rows.length:Int)) then
  (if !(decide (x4=u_)) then
   (zA (⟨r_1⟩:zr) x4 u_).bind fun x5 =>
   some (!x5)
  else
   some false).bind fun t1 =>
  if t1 then
   ck (Za6 (x4+1)) <|
   some (.inl (r_1,x4+1))
  else
   (ZX (ze.s1 v x3 x4) big (r_1,0)).bind fun r_3 =>
   ck (Za6 (x4+1)) <|
   some (.inl (r_3,x4+1))
 else
  some (.inr r_1)

def ze (r_:zr) (u_:Int) (v:Int):Option (Int×zr) :=
 (Zao r_ u_).bind fun x =>
 (if !x then
  some true
 else
  (Zao r_ v).bind fun x1 =>
  some (!x1)).bind fun t =>
 if t then
  some (2,r_)
 else
  (zA r_ u_ v).bind fun x2 =>
  if x2 then
   some (0,r_)
  else
   ck ((0:Int)≤v∧v<(r_.rows.length:Int)) <|
   (ZbU (gi r_.rows v.toNat)).bind fun x3 =>
   ck ((64:Int)≠0∧Za6 (v.tdiv 64)) <|
   ck ((0:Int)≤(v.tdiv 64)∧(v.tdiv 64)<(x3.length:Int)) <|
   ck ((0:Int)≤(v.tmod 64)) <|
   (ZX (ze.s0 r_ u_ v x3) big (r_.rows,0)).bind fun p0 =>
   some (0,(⟨p0⟩:zr))

/-! (muntin/seg.Chains).chain -/
def ZaF (c:Zak) (vertical:Bool) (i:Int):Option (List Int) :=
 (
  if vertical then
   some c.Vert
  else
   some c.Horz).bind fun l =>
 if (decide (i<0))||(decide ((l.length:Int)≤i)) then
  some ([]:List Int)
 else
  ck ((0:Int)≤i∧i<(l.length:Int)) <|
  some (gi l i.toNat)

/-! (muntin/seg.Chains).Span -/
def Zcb (c:Zak) (vertical:Bool) (i:Int):Option (Int×Int) :=
 (ZaF c vertical i).bind fun x =>
 if decide ((x.length:Int)=0) then
  some (0,0)
 else
  (
   if vertical then
    some c.Y
   else
    some c.X).bind fun of =>
  ck ((0:Int)≤0∧0<(x.length:Int)) <|
  ck ((0:Int)≤(gi x (0:Int).toNat)∧(gi x (0:Int).toNat)<(of.length:Int)) <|
  ck (Za6 ((x.length:Int)-1)) <|
  ck ((0:Int)≤((x.length:Int)-1)∧((x.length:Int)-1)<(x.length:Int)) <|
  ck ((0:Int)≤(gi x ((x.length:Int)-1:Int).toNat)∧(gi x ((x.length:Int)-1:Int).toNat)<(of.length:Int)) <|
  some (gi of (gi x (0:Int).toNat:Int).toNat,gi of (gi x ((x.length:Int)-1:Int).toNat:Int).toNat)

/-! muntin/sep.of -/
def Ze7 (c:Zak) (l:ZB):Option zP :=
 (Zcb c l.Vertical l.Place).bind fun (x,x1) =>
 if l.Vertical then
  some (⟨l.Place,l.Place,x,x1⟩:zP)
 else
  some (⟨x,x1,l.Place,l.Place⟩:zP)

/-! slices.IndexFunc[[]int,int] -/
def Zaa.s0 (s:List Int) (f:Int→Option Bool):Int→Option (Int⊕(Unit⊕Int)):=fun x =>
 if decide (x<(s.length:Int)) then
  ck ((0:Int)≤x∧x<(s.length:Int)) <|
  (f (gi s x.toNat)).bind fun x2 =>
  if x2 then
   some (.inr (.inr x))
  else
   ck (Za6 (x+1)) <|
   some (.inl (x+1))
 else
  some (.inr (.inl ()))

def Zaa (s:List Int) (f:Int→Option Bool):Option Int :=
 (
  ZX (Zaa.s0 s f) big 0:Option (Unit⊕Int)).bind fun o₁=>match o₁ with
 | .inl _ =>
  some (-1)
 | .inr x1 =>
  some x1

/-! slices.ContainsFunc[[]int,int] -/
def ZaO (s:List Int) (f:Int→Option Bool):Option Bool :=
 (Zaa s f).bind fun x =>
 some (decide (0≤x))

/-! slices.Index[[]int,int] -/
def Za2.s0 (s:List Int) (v:Int):Int→Option (Int⊕(Unit⊕Int)):=fun x =>
 if decide (x<(s.length:Int)) then
  ck ((0:Int)≤x∧x<(s.length:Int)) <|
  if decide (v=gi s x.toNat) then
   some (.inr (.inr x))
  else
   ck (Za6 (x+1)) <|
   some (.inl (x+1))
 else
  some (.inr (.inl ()))

def Za2 (s:List Int) (v:Int):Option Int :=
 (
  ZX (Za2.s0 s v) big 0:Option (Unit⊕Int)).bind fun o₁=>match o₁ with
 | .inl _ =>
  some (-1)
 | .inr x1 =>
  some x1

/-! slices.Contains[[]int,int] -/
def Zbo (s:List Int) (v:Int):Option Bool :=
 (Za2 s v).bind fun x =>
 some (decide (0≤x))

/-! (muntin/seg.Chains).Meet$1 -/
def ZbQ (v:Int) (c0:List Int):Option Bool :=
 (Zbo c0 v).bind fun x =>
 some x

/-! (muntin/seg.Chains).Meet -/
def Zb6 (c:Zak) (vertical:Bool) (i:Int) (other:Bool) (k_:Int):Option Bool :=
 (ZaF c other k_).bind fun x =>
 (ZaF c vertical i).bind fun x1 =>
 (ZaO x1 (fun y0=>ZbQ y0 x)).bind fun x2 =>
 some x2

/-! muntin/sep.start -/
def zF.s0 (x:Za0):(List (List Int))×Int→Option (((List (List Int))×Int)⊕(List (List Int))):=fun (s,x7) =>
 if decide (x7<(x.H.length:Int)) then
  ck ((0:Int)≤x7∧x7<(x.H.length:Int)) <|
  (ze (⟨s⟩:zr) ((gi x.H x7.toNat).From) ((gi x.H x7.toNat).To)).bind fun (x8,m) =>
  ck (Za6 (x7+1)) <|
  some (.inl (m.rows,x7+1))
 else
  some (.inr s)

def zF.s1 (x:Za0):(List (List Int))×Int→Option (((List (List Int))×Int)⊕(List (List Int))):=fun (s2,x9) =>
 if decide (x9<(x.V.length:Int)) then
  ck ((0:Int)≤x9∧x9<(x.V.length:Int)) <|
  (ze (⟨s2⟩:zr) ((gi x.V x9.toNat).From) ((gi x.V x9.toNat).To)).bind fun (x10,m1) =>
  ck (Za6 (x9+1)) <|
  some (.inl (m1.rows,x9+1))
 else
  some (.inr s2)

def zF.s2 (x:Za0) (x2:List ZB):(List zP)×Int→Option (((List zP)×Int)⊕(List zP)):=fun (s4,x11) =>
 if decide (x11<(x2.length:Int)) then
  ck ((0:Int)≤x11∧x11<(x2.length:Int)) <|
  (Ze7 x.Chains (gi x2 x11.toNat)).bind fun x12 =>
  ck (s4.length+[x12].length≤1000000000) <|
  ck (Za6 (x11+1)) <|
  some (.inl (s4++[x12],x11+1))
 else
  some (.inr s4)

def zF.s4 (x:Za0) (x2:List ZB) (x13:Int):(List (A2 Int))×Int→Option (((List (A2 Int))×Int)⊕(List (A2 Int))):=fun (open_2,k_) =>
 if decide (k_<(x2.length:Int)) then
  ck ((0:Int)≤k_∧k_<(x2.length:Int)) <|
  (Zb6 x.Chains ((gi x2 x13.toNat).Vertical) ((gi x2 x13.toNat).Place) ((gi x2 k_.toNat).Vertical) ((gi x2 k_.toNat).Place)).bind fun x14 =>
  if !x14 then
   ck (open_2.length+[(⟨x13,k_⟩:A2 Int)].length≤1000000000) <|
   ck (Za6 (k_+1)) <|
   some (.inl (open_2++[(⟨x13,k_⟩:A2 Int)],k_+1))
  else
   ck (Za6 (k_+1)) <|
   some (.inl (open_2,k_+1))
 else
  some (.inr open_2)

def zF.s3 (x:Za0) (x2:List ZB):(List (A2 Int))×Int→Option (((List (A2 Int))×Int)⊕(List (A2 Int))):=fun (open_,x13) =>
 if decide (x13<(x2.length:Int)) then
  ck ((0:Int)≤x13∧x13<(x2.length:Int)) <|
  ck (Za6 (x13+1)) <|
  (ZX (zF.s4 x x2 x13) big (open_,x13+1)).bind fun open_3 =>
  some (.inl (open_3,x13+1))
 else
  some (.inr open_)

def zF (cells:List Za):Option (zi×(List (A2 Int))) :=
 (ZcP cells).bind fun (x,x1) =>
 (ZaA x.Chains).bind fun x2 =>
 (Zbz (x.Chains.Vert.length:Int)).bind fun (x3,x4) =>
 (x3).bind fun g =>
 (Zbz (x.Chains.Horz.length:Int)).bind fun (x5,x6) =>
 (x5).bind fun g1 =>
 (ZX (zF.s0 x) big (g.rows,0)).bind fun s1 =>
 (ZX (zF.s1 x) big (g1.rows,0)).bind fun s3 =>
 (ZX (zF.s2 x x2) big (([]:List zP),0)).bind fun s5 =>
 (ZX (zF.s3 x x2) big (([]:List (A2 Int)),0)).bind fun open_1 =>
 some ((⟨(⟨x,([]:List (A2 ZB))⟩:ZaR),(⟨s1⟩:zr),(⟨s3⟩:zr),x2,s5⟩:zi),open_1)

/-! (*muntin/sep.settler).ways -/
def ZbD (s:zi) (i:Int) (k_:Int):Option (A4 Zn) :=
 ck ((0:Int)≤i∧i<(s.sides.length:Int)) <|
 ck ((0:Int)≤k_∧k_<(s.sides.length:Int)) <|
 some (⟨(⟨true,(gi s.sides i.toNat).right,(gi s.sides k_.toNat).left⟩:Zn),(⟨true,(gi s.sides k_.toNat).right,(gi s.sides i.toNat).left⟩:Zn),(⟨false,(gi s.sides i.toNat).top,(gi s.sides k_.toNat).bottom⟩:Zn),(⟨false,(gi s.sides k_.toNat).top,(gi s.sides i.toNat).bottom⟩:Zn)⟩:A4 Zn)

/-! slices.IndexFunc[[]muntin/sep.way,muntin/sep.way] -/
def zm.s0 (s:List Zn) (f:Zn→Option Bool):Int→Option (Int⊕(Unit⊕Int)):=fun x =>
 if decide (x<(s.length:Int)) then
  ck ((0:Int)≤x∧x<(s.length:Int)) <|
  (f (gi s x.toNat)).bind fun x2 =>
  if x2 then
   some (.inr (.inr x))
  else
   ck (Za6 (x+1)) <|
   some (.inl (x+1))
 else
  some (.inr (.inl ()))

def zm (s:List Zn) (f:Zn→Option Bool):Option Int :=
 (
  ZX (zm.s0 s f) big 0:Option (Unit⊕Int)).bind fun o₁=>match o₁ with
 | .inl _ =>
  some (-1)
 | .inr x1 =>
  some x1

/-! slices.ContainsFunc[[]muntin/sep.way,muntin/sep.way] -/
def Zaj (s:List Zn) (f:Zn→Option Bool):Option Bool :=
 (zm s f).bind fun x =>
 some (decide (0≤x))

/-! (*muntin/sep.settler).graph -/
def Za7 (s:zi) (w:Zn):Option Bool :=
 if w.horizontal then
  some true
 else
  some false

/-! (*muntin/sep.settler).is -/
def ZbG (s:zi) (w:Zn):Option Bool :=
 (Za7 s w).bind fun x =>
 if x then
  (zA s.h w.from_ w.to).bind fun x1 =>
  some x1
 else
  (zA s.v w.from_ w.to).bind fun x2 =>
  some x2

/-! slices.DeleteFunc[[]muntin/sep.way,muntin/sep.way] -/
def zh.s0 (del:Zn→Option Bool):(List Zn)×Int×Int→Option (((List Zn)×Int×Int)⊕((List Zn)×Int)):=fun (s1,i,j) =>
 if decide (j<(s1.length:Int)) then
  ck ((0:Int)≤j∧j<(s1.length:Int)) <|
  (del (gi s1 j.toNat)).bind fun x1 =>
  if !x1 then
   ck ((0:Int)≤i∧i<(s1.length:Int)) <|
   ck (Za6 (i+1)) <|
   ck (Za6 (j+1)) <|
   some (.inl (s1.set i.toNat (gi s1 j.toNat),i+1,j+1))
  else
   ck (Za6 (j+1)) <|
   some (.inl (s1,i,j+1))
 else
  some (.inr (s1,i))

def zh (s:List Zn) (del:Zn→Option Bool):Option (List Zn) :=
 (zm s del).bind fun x =>
 if decide (x=(-1)) then
  some s
 else
  ck (Za6 (x+1)) <|
  (ZX (zh.s0 del) big (s,x,x+1)).bind fun (s2,i1) =>
  ck ((0:Int)≤i1∧i1≤(s2.length:Int)) <|
  ck ((0:Int)≤i1∧i1≤((s2.take i1.toNat++List.replicate (s2.length-i1.toNat) (⟨false,0,0⟩:Zn)).length:Int)) <|
  some ((s2.take i1.toNat++List.replicate (s2.length-i1.toNat) (⟨false,0,0⟩:Zn)).take i1.toNat)

/-! (*muntin/sep.settler).can -/
def ZbN (s:zi) (w:Zn):Option Bool :=
 if !(decide (w.from_=w.to)) then
  (Za7 s w).bind fun x =>
  if x then
   (zA s.h w.to w.from_).bind fun x1 =>
   some (!x1)
  else
   (zA s.v w.to w.from_).bind fun x2 =>
   some (!x2)
 else
  some false

/-! (*muntin/sep.settler).look$1 -/
def Zbb (w:Zn) (c0:zi):Option Bool :=
 (ZbN c0 w).bind fun x =>
 some (!x)

/-! (*muntin/sep.settler).force -/
def Zb5 (s:zi) (w:Zn):Option zi :=
 (Za7 s w).bind fun x =>
 if x then
  (ze s.h w.from_ w.to).bind fun (x1,m) =>
  if w.horizontal then
   ck (s.result.Graphs.H.length+[(⟨w.from_,w.to,(0:Int)⟩:Zj)].length≤1000000000) <|
   some (⟨(⟨(⟨s.result.Graphs.Chains,s.result.Graphs.H++[(⟨w.from_,w.to,(0:Int)⟩:Zj)],s.result.Graphs.V⟩:Za0),s.result.Open⟩:ZaR),m,s.v,s.lines,s.sides⟩:zi)
  else
   ck (s.result.Graphs.V.length+[(⟨w.from_,w.to,(0:Int)⟩:Zj)].length≤1000000000) <|
   some (⟨(⟨(⟨s.result.Graphs.Chains,s.result.Graphs.H,s.result.Graphs.V++[(⟨w.from_,w.to,(0:Int)⟩:Zj)]⟩:Za0),s.result.Open⟩:ZaR),m,s.v,s.lines,s.sides⟩:zi)
 else
  (ze s.v w.from_ w.to).bind fun (x2,m1) =>
  if w.horizontal then
   ck (s.result.Graphs.H.length+[(⟨w.from_,w.to,(0:Int)⟩:Zj)].length≤1000000000) <|
   some (⟨(⟨(⟨s.result.Graphs.Chains,s.result.Graphs.H++[(⟨w.from_,w.to,(0:Int)⟩:Zj)],s.result.Graphs.V⟩:Za0),s.result.Open⟩:ZaR),s.h,m1,s.lines,s.sides⟩:zi)
  else
   ck (s.result.Graphs.V.length+[(⟨w.from_,w.to,(0:Int)⟩:Zj)].length≤1000000000) <|
   some (⟨(⟨(⟨s.result.Graphs.Chains,s.result.Graphs.H,s.result.Graphs.V++[(⟨w.from_,w.to,(0:Int)⟩:Zj)]⟩:Za0),s.result.Open⟩:ZaR),s.h,m1,s.lines,s.sides⟩:zi)

/-! (*muntin/sep.settler).look -/
def Zbd (s:zi) (i:Int) (k_:Int):Option (Bool×Bool×zi) :=
 (ZbD s i k_).bind fun x =>
 (Zaj [x.a,x.b,x.c,x.d] (fun y0=>ZbG s y0)).bind fun x1 =>
 if x1 then
  some (true,false,s)
 else
  (zh [x.a,x.b,x.c,x.d] (fun y0=>Zbb y0 s)).bind fun x2 =>
  if !(decide ((x2.length:Int)=1)) then
   some (false,false,s)
  else
   ck ((0:Int)≤0∧0<(x2.length:Int)) <|
   (Zb5 s (gi x2 (0:Int).toNat)).bind fun m =>
   some (true,true,m)

/-! muntin/sep.Settle -/
def zg.s1 (open_:List (A2 Int)):(List Int)×(List Int)×(List (List Int))×(List (List Int))×(List Zj)×(List Zj)×(List (A2 ZB))×(List (List Int))×(List (List Int))×(List ZB)×(List zP)×Bool×(List (A2 Int))×Int→Option (((List Int)×(List Int)×(List (List Int))×(List (List Int))×(List Zj)×(List Zj)×(List (A2 ZB))×(List (List Int))×(List (List Int))×(List ZB)×(List zP)×Bool×(List (A2 Int))×Int)⊕((List Int)×(List Int)×(List (List Int))×(List (List Int))×(List Zj)×(List Zj)×(List (A2 ZB))×(List (List Int))×(List (List Int))×(List ZB)×(List zP)×Bool×(List (A2 Int)))):=fun (s22,s23,s24,s25,s26,s27,s28,s29,s30,s31,s32,changed1,left,x3) =>
 if decide (x3<(open_.length:Int)) then
  ck ((0:Int)≤x3∧x3<(open_.length:Int)) <|
  (Zbd (⟨(⟨(⟨(⟨s22,s23,s24,s25⟩:Zak),s26,s27⟩:Za0),s28⟩:ZaR),(⟨s29⟩:zr),(⟨s30⟩:zr),s31,s32⟩:zi) ((gi open_ x3.toNat).get 0) ((gi open_ x3.toNat).get 1)).bind fun (x4,x5,m) =>
  if !x4 then
   ck (left.length+[gi open_ x3.toNat].length≤1000000000) <|
   ck (Za6 (x3+1)) <|
   some (.inl (m.result.Graphs.Chains.X,m.result.Graphs.Chains.Y,m.result.Graphs.Chains.Vert,m.result.Graphs.Chains.Horz,m.result.Graphs.H,m.result.Graphs.V,m.result.Open,m.h.rows,m.v.rows,m.lines,m.sides,changed1||x5,left++[gi open_ x3.toNat],x3+1))
  else
   ck (Za6 (x3+1)) <|
   some (.inl (m.result.Graphs.Chains.X,m.result.Graphs.Chains.Y,m.result.Graphs.Chains.Vert,m.result.Graphs.Chains.Horz,m.result.Graphs.H,m.result.Graphs.V,m.result.Open,m.h.rows,m.v.rows,m.lines,m.sides,changed1||x5,left,x3+1))
 else
  some (.inr (s22,s23,s24,s25,s26,s27,s28,s29,s30,s31,s32,changed1,left))

def zg.s0:(List Int)×(List Int)×(List (List Int))×(List (List Int))×(List Zj)×(List Zj)×(List (A2 ZB))×(List (List Int))×(List (List Int))×(List ZB)×(List zP)×(List (A2 Int))×Bool→Option (((List Int)×(List Int)×(List (List Int))×(List (List Int))×(List Zj)×(List Zj)×(List (A2 ZB))×(List (List Int))×(List (List Int))×(List ZB)×(List zP)×(List (A2 Int))×Bool)⊕((List Int)×(List Int)×(List (List Int))×(List (List Int))×(List Zj)×(List Zj)×(List (A2 ZB))×(List (List Int))×(List (List Int))×(List ZB)×(List zP)×(List (A2 Int)))):=fun (s,s1,s2,s3,s4,s5,s6,s7,s8,s9,s10,open_,changed) =>
 if changed then
  (ZX (zg.s1 open_) big (s,s1,s2,s3,s4,s5,s6,s7,s8,s9,s10,false,([]:List (A2 Int)),0)).bind fun (s33,s34,s35,s36,s37,s38,s39,s40,s41,s42,s43,changed2,left1) =>
  some (.inl (s33,s34,s35,s36,s37,s38,s39,s40,s41,s42,s43,left1,changed2))
 else
  some (.inr (s,s1,s2,s3,s4,s5,s6,s7,s8,s9,s10,open_))

def zg.s2 (s20:List ZB) (open_1:List (A2 Int)):(List (A2 ZB))×Int→Option (((List (A2 ZB))×Int)⊕(List (A2 ZB))):=fun (s44,x6) =>
 if decide (x6<(open_1.length:Int)) then
  ck ((0:Int)≤x6∧x6<(open_1.length:Int)) <|
  ck ((0:Int)≤((gi open_1 x6.toNat).get 0)∧((gi open_1 x6.toNat).get 0)<(s20.length:Int)) <|
  ck ((0:Int)≤((gi open_1 x6.toNat).get 1)∧((gi open_1 x6.toNat).get 1)<(s20.length:Int)) <|
  ck (s44.length+[(⟨gi s20 ((gi open_1 x6.toNat).get 0:Int).toNat,gi s20 ((gi open_1 x6.toNat).get 1:Int).toNat⟩:A2 ZB)].length≤1000000000) <|
  ck (Za6 (x6+1)) <|
  some (.inl (s44++[(⟨gi s20 ((gi open_1 x6.toNat).get 0:Int).toNat,gi s20 ((gi open_1 x6.toNat).get 1:Int).toNat⟩:A2 ZB)],x6+1))
 else
  some (.inr s44)

def zg (cells:List Za):Option (ZaR×Int) :=
 (Zcw cells).bind fun x =>
 if !(decide (x=0)) then
  some ((⟨(⟨(⟨([]:List Int),([]:List Int),([]:List (List Int)),([]:List (List Int))⟩:Zak),([]:List Zj),([]:List Zj)⟩:Za0),([]:List (A2 ZB))⟩:ZaR),x)
 else
  (zF cells).bind fun (x1,x2) =>
  (ZX zg.s0 big (x1.result.Graphs.Chains.X,x1.result.Graphs.Chains.Y,x1.result.Graphs.Chains.Vert,x1.result.Graphs.Chains.Horz,x1.result.Graphs.H,x1.result.Graphs.V,x1.result.Open,x1.h.rows,x1.v.rows,x1.lines,x1.sides,x2,true)).bind fun (s11,s12,s13,s14,s15,s16,s17,s18,s19,s20,s21,open_1) =>
  (ZX (zg.s2 s20 open_1) big (s17,0)).bind fun s45 =>
  some ((⟨(⟨(⟨s11,s12,s13,s14⟩:Zak),s15,s16⟩:Za0),s45⟩:ZaR),0)

/-! muntin/muntinref10.Turned -/
def zy.s1 (l:List Za) (v:Int):Za×Int→Option ((Za×Int)⊕Za):=fun (c,d) =>
 if decide (d<4) then
  ck (Za6 (d+1)) <|
  ck ((0:Int)≤d∧d<4) <|
  ck ((0:Int)≤((d+1).tmod 4)∧((d+1).tmod 4)<4) <|
  some (.inl ({ { c with Next:=c.Next.set ((d+1).tmod 4) (((gi l v.toNat).Next).get d) } with Owner:=(({ c with Next:=c.Next.set ((d+1).tmod 4) (((gi l v.toNat).Next).get d) }).Owner).set ((d+1).tmod 4) (((gi l v.toNat).Owner).get d) },d+1))
 else
  some (.inr c)

def zy.s0 (l:List Za):(List Za)×Int→Option (((List Za)×Int)⊕(List Za)):=fun (out,v) =>
 if decide (v<(l.length:Int)) then
  ck ((0:Int)≤v∧v<(l.length:Int)) <|
  (ZX (zy.s1 l v) big (gi l v.toNat,0)).bind fun c1 =>
  ck (out.length+[c1].length≤1000000000) <|
  ck (Za6 (v+1)) <|
  some (.inl (out++[c1],v+1))
 else
  some (.inr out)

def zy (l:List Za):Option (List Za) :=
 (ZX (zy.s0 l) big (([]:List Za),0)).bind fun out1 =>
 some out1

/-! muntin/muntinref10.Join -/
def Zcl (l:List Za) (v:Int) (d:Int) (w:Int) (o:Int):Option ((List Za)×Int) :=
 if (((((((decide (v<0))||(decide ((l.length:Int)≤v)))||(decide (w<0)))||(decide ((l.length:Int)≤w)))||(decide (v=w)))||(decide (d<0)))||(decide (3<d)))||(decide (o<(-2))) then
  some (l,2)
 else
  ck ((0:Int)≤v∧v<(l.length:Int)) <|
  ck ((0:Int)≤d∧d<4) <|
  (if !(decide (((gi l v.toNat).Next).get d=(-1))) then
   some true
  else
   ck (Za6 (d+2)) <|
   ck ((0:Int)≤w∧w<(l.length:Int)) <|
   ck ((0:Int)≤((d+2).tmod 4)∧((d+2).tmod 4)<4) <|
   some (!(decide (((gi l w.toNat).Next).get ((d+2).tmod 4)=(-1))))).bind fun t =>
  if t then
   some (l,9)
  else
   (Zam l v d w o).bind fun x =>
   some (x,0)

/-! muntin/muntinlaw19.stick -/
def ZaL.s0:(List Za)×Int→Option (((List Za)×Int)⊕(List Za)):=fun (l,x1) =>
 if decide (x1<([(⟨0,0,1⟩:A3 Int),(⟨1,1,2⟩:A3 Int),(⟨2,2,3⟩:A3 Int),(⟨3,3,4⟩:A3 Int),(⟨4,3,0⟩:A3 Int),(⟨4,0,5⟩:A3 Int)].length:Int)) then
  ck ((0:Int)≤x1∧x1<([(⟨0,0,1⟩:A3 Int),(⟨1,1,2⟩:A3 Int),(⟨2,2,3⟩:A3 Int),(⟨3,3,4⟩:A3 Int),(⟨4,3,0⟩:A3 Int),(⟨4,0,5⟩:A3 Int)].length:Int)) <|
  (Zcl l ((gi [(⟨0,0,1⟩:A3 Int),(⟨1,1,2⟩:A3 Int),(⟨2,2,3⟩:A3 Int),(⟨3,3,4⟩:A3 Int),(⟨4,3,0⟩:A3 Int),(⟨4,0,5⟩:A3 Int)] x1.toNat).get 0) ((gi [(⟨0,0,1⟩:A3 Int),(⟨1,1,2⟩:A3 Int),(⟨2,2,3⟩:A3 Int),(⟨3,3,4⟩:A3 Int),(⟨4,3,0⟩:A3 Int),(⟨4,0,5⟩:A3 Int)] x1.toNat).get 1) ((gi [(⟨0,0,1⟩:A3 Int),(⟨1,1,2⟩:A3 Int),(⟨2,2,3⟩:A3 Int),(⟨3,3,4⟩:A3 Int),(⟨4,3,0⟩:A3 Int),(⟨4,0,5⟩:A3 Int)] x1.toNat).get 2) 0).bind fun (x2,x3) =>
  ck (Za6 (x1+1)) <|
  some (.inl (x2,x1+1))
 else
  some (.inr l)

def ZaL:Option (List Za) :=
 (zw 6).bind fun x =>
 (ZX ZaL.s0 big (x,0)).bind fun l1 =>
 some l1

/-! muntin/sep.Lines -/
def Zeb (cells:List Za):Option ((List ZB)×Int) :=
 (Zd5 cells).bind fun (x,x1) =>
 if !(decide (x1=0)) then
  some (([]:List ZB),x1)
 else
  (ZaA x).bind fun x2 =>
  some (x2,0)

/-! muntin/muntinlaw19.wakes -/
def ZbP:Option Bool :=
 (ZaL ).bind fun x =>
 (zg x).bind fun (x1,x2) =>
 (ZaL ).bind fun x3 =>
 (Zeb x3).bind fun (x4,x5) =>
 (zw 2).bind fun x6 =>
 (zg x6).bind fun (x7,x8) =>
 (if ((((decide (x2=0))&&(decide ((x1.Open.length:Int)=0)))&&(decide (3<(x1.Graphs.H.length:Int))))&&(decide (x5=0)))&&(decide ((x4.length:Int)=5)) then
  ck ((0:Int)≤0∧0<(x4.length:Int)) <|
  some ((gi x4 (0:Int).toNat).Vertical)
 else
  some false).bind fun t =>
 some (t&&(decide (x8=13)))

/-! muntin/muntinlaw19.pairs -/
def zz.s0 (l:List Zj):(List (A2 Int))×Int→Option (((List (A2 Int))×Int)⊕(List (A2 Int))):=fun (out,x) =>
 if decide (x<(l.length:Int)) then
  ck ((0:Int)≤x∧x<(l.length:Int)) <|
  ck (out.length+[(⟨(gi l x.toNat).From,(gi l x.toNat).To⟩:A2 Int)].length≤1000000000) <|
  ck (Za6 (x+1)) <|
  some (.inl (out++[(⟨(gi l x.toNat).From,(gi l x.toNat).To⟩:A2 Int)],x+1))
 else
  some (.inr out)

def zz (l:List Zj):Option (List (A2 Int)) :=
 (ZX (zz.s0 l) big (([]:List (A2 Int)),0)).bind fun out1 =>
 some out1

/-! muntin/muntinref18.From -/
def z8.s1 (arcs:List (A2 Int)) (u_:Int):(List Bool)×Int→Option (((List Bool)×Int)⊕(List Bool)):=fun (met2,i) =>
 if decide (i<(arcs.length:Int)) then
  ck ((0:Int)≤i∧i<(arcs.length:Int)) <|
  (if decide ((gi arcs i.toNat).get 0=u_) then
   some true
  else
   ck ((0:Int)≤((gi arcs i.toNat).get 0)∧((gi arcs i.toNat).get 0)<(met2.length:Int)) <|
   some (gi met2 ((gi arcs i.toNat).get 0:Int).toNat)).bind fun t =>
  if t then
   ck ((0:Int)≤((gi arcs i.toNat).get 1)∧((gi arcs i.toNat).get 1)<(met2.length:Int)) <|
   ck (Za6 (i+1)) <|
   some (.inl (met2.set ((gi arcs i.toNat).get 1:Int).toNat true,i+1))
  else
   ck (Za6 (i+1)) <|
   some (.inl (met2,i+1))
 else
  some (.inr met2)

def z8.s0 (n:Int) (arcs:List (A2 Int)) (u_:Int):(List Bool)×Int→Option (((List Bool)×Int)⊕(List Bool)):=fun (met,round) =>
 if decide (round≤n) then
  (ZX (z8.s1 arcs u_) big (met,0)).bind fun met3 =>
  ck (Za6 (round+1)) <|
  some (.inl (met3,round+1))
 else
  some (.inr met)

def z8 (n:Int) (arcs:List (A2 Int)) (u_:Int):Option (List Bool) :=
 ck ((0:Int)≤n∧n≤1000000000) <|
 (ZX (z8.s0 n arcs u_) big (List.replicate n.toNat false,0)).bind fun met1 =>
 some met1

/-! muntin/muntinref18.All -/
def zK.s0 (n:Int) (arcs:List (A2 Int)):(List (List Bool))×Int→Option (((List (List Bool))×Int)⊕(List (List Bool))):=fun (l,u_) =>
 if decide (u_<n) then
  (z8 n arcs u_).bind fun x =>
  ck (l.length+1≤1000000000) <|
  ck (Za6 (u_+1)) <|
  some (.inl (l++[x],u_+1))
 else
  some (.inr l)

def zK (n:Int) (arcs:List (A2 Int)):Option (List (List Bool)) :=
 (ZX (zK.s0 n arcs) big (([]:List (List Bool)),0)).bind fun l1 =>
 some l1

/-! muntin/muntinlaw19.SepTurns -/
def Z3.s1 (x2:ZaR) (x9:List (List Bool)) (x15:List (List Bool)) (x16:Int):Int→Option (Int⊕(Unit⊕Unit)):=fun x17 =>
 if decide (x17<(x2.Graphs.Chains.Vert.length:Int)) then
  ck ((0:Int)≤x16∧x16<(x9.length:Int)) <|
  ck ((0:Int)≤x17∧x17<((gi x9 x16.toNat).length:Int)) <|
  ck ((0:Int)≤x16∧x16<(x15.length:Int)) <|
  ck ((0:Int)≤x17∧x17<((gi x15 x16.toNat).length:Int)) <|
  if !(decide ((gi (gi x9 x16.toNat) x17.toNat)=(gi (gi x15 x16.toNat) x17.toNat))) then
   some (.inr (.inr ()))
  else
   ck (Za6 (x17+1)) <|
   some (.inl (x17+1))
 else
  some (.inr (.inl ()))

def Z3.s0 (x2:ZaR) (x9:List (List Bool)) (x15:List (List Bool)):Int→Option (Int⊕(Unit⊕Unit)):=fun x16 =>
 if decide (x16<(x2.Graphs.Chains.Vert.length:Int)) then
  (
   ZX (Z3.s1 x2 x9 x15 x16) big 0:Option (Unit⊕Unit)).bind fun o₃=>match o₃ with
  | .inl _ =>
   ck (Za6 (x16+1)) <|
   some (.inl (x16+1))
  | .inr _ =>
   some (.inr (.inr ()))
 else
  some (.inr (.inl ()))

def Z3.s3 (x2:ZaR) (x11:List (List Bool)) (x13:List (List Bool)) (x18:Int):Int→Option (Int⊕(Unit⊕Unit)):=fun x19 =>
 if decide (x19<(x2.Graphs.Chains.Horz.length:Int)) then
  ck ((0:Int)≤x18∧x18<(x11.length:Int)) <|
  ck ((0:Int)≤x19∧x19<((gi x11 x18.toNat).length:Int)) <|
  ck ((0:Int)≤x19∧x19<(x13.length:Int)) <|
  ck ((0:Int)≤x18∧x18<((gi x13 x19.toNat).length:Int)) <|
  if !(decide ((gi (gi x11 x18.toNat) x19.toNat)=(gi (gi x13 x19.toNat) x18.toNat))) then
   some (.inr (.inr ()))
  else
   ck (Za6 (x19+1)) <|
   some (.inl (x19+1))
 else
  some (.inr (.inl ()))

def Z3.s2 (x2:ZaR) (x11:List (List Bool)) (x13:List (List Bool)):Int→Option (Int⊕(Unit⊕Unit)):=fun x18 =>
 if decide (x18<(x2.Graphs.Chains.Horz.length:Int)) then
  (
   ZX (Z3.s3 x2 x11 x13 x18) big 0:Option (Unit⊕Unit)).bind fun o₇=>match o₇ with
  | .inl _ =>
   ck (Za6 (x18+1)) <|
   some (.inl (x18+1))
  | .inr _ =>
   some (.inr (.inr ()))
 else
  some (.inr (.inl ()))

def Z3 (z:zH):Option Bool :=
 (ZH z 12).bind fun (x,x1) =>
 (zg x).bind fun (x2,x3) =>
 (zy x).bind fun x4 =>
 (zg x4).bind fun (x5,x6) =>
 (ZbP ).bind fun x7 =>
 if (!x7)||(!(decide (x3=x6))) then
  some false
 else
  if !(decide (x3=0)) then
   some true
  else
   if !(decide ((x2.Open.length:Int)=(x5.Open.length:Int))) then
    some false
   else
    if (!(decide ((x5.Graphs.Chains.Horz.length:Int)=(x2.Graphs.Chains.Vert.length:Int))))||(!(decide ((x5.Graphs.Chains.Vert.length:Int)=(x2.Graphs.Chains.Horz.length:Int)))) then
     some false
    else
     (zz x2.Graphs.H).bind fun x8 =>
     (zK (x2.Graphs.Chains.Vert.length:Int) x8).bind fun x9 =>
     (zz x2.Graphs.V).bind fun x10 =>
     (zK (x2.Graphs.Chains.Horz.length:Int) x10).bind fun x11 =>
     (zz x5.Graphs.H).bind fun x12 =>
     (zK (x2.Graphs.Chains.Horz.length:Int) x12).bind fun x13 =>
     (zz x5.Graphs.V).bind fun x14 =>
     (zK (x2.Graphs.Chains.Vert.length:Int) x14).bind fun x15 =>
     (
      ZX (Z3.s0 x2 x9 x15) big 0:Option (Unit⊕Unit)).bind fun o₁=>match o₁ with
     | .inl _ =>
      (
       ZX (Z3.s2 x2 x11 x13) big 0:Option (Unit⊕Unit)).bind fun o₅=>match o₅ with
      | .inl _ =>
       some true
      | .inr _ =>
       some false
     | .inr _ =>
      some false

end Mu
