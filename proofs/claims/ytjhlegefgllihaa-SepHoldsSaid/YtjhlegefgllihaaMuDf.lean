/- What the functions work out. -/
import Derived.Test.YtjhlegefgllihaaMuA
import Derived.Test.YtjhlegefgllihaaMuR
set_option linter.unusedVariables false
set_option linter.unnecessarySimpa false
set_option linter.unusedSimpArgs false
set_option maxHeartbeats 2000000
set_option maxRecDepth 10000
namespace Mu
open Go (IntKind BinOp UnOp)
structure zU where
 At:List Int
 Bits:List Int
 Own:List Int
 deriving DecidableEq,Inhabited
structure Zf where
 X:Int
 Y:Int
 deriving DecidableEq,Inhabited
abbrev Zh0:Enc Int:=⟨1,fun x=>[.i .u8 x],fun _=>rfl⟩
theorem Zh0.one (x:Int):(Zh0.c x).all V.one=true:=rfl
abbrev Zlt:Enc Int:=⟨1,fun x=>[.i .i8 x],fun _=>rfl⟩
theorem Zlt.one (x:Int):(Zlt.c x).all V.one=true:=rfl
abbrev Zg:Enc Zf:=⟨2,fun x=>[.i .i64 x.X,.i .i64 x.Y],fun _=>rfl⟩
theorem Zg.one (x:Zf):(Zg.c x).all V.one=true:=rfl
theorem Zg.same (x y:Zf):ZaJ [.i,.i] (Zg.c x) (Zg.c y)=some (decide (x=y)):=by
 obtain ⟨x1,x2⟩:=x;obtain ⟨y1,y2⟩:=y;refine (Zgl (Zgl Zhs)).trans ?_;congr 1;rw [Bool.eq_iff_iff];simp [and_assoc]
structure Za where
 Next:A4 Int
 Owner:A4 Int
 deriving DecidableEq,Inhabited
abbrev Zs:Enc Za:=⟨8,fun x=>[.i .i64 x.Next.a,.i .i64 x.Next.b,.i .i64 x.Next.c,.i .i64 x.Next.d,.i .i64 x.Owner.a,.i .i64 x.Owner.b,.i .i64 x.Owner.c,.i .i64 x.Owner.d],fun _=>rfl⟩
theorem Zs.one (x:Za):(Zs.c x).all V.one=true:=rfl
structure Zn where
 From:Int
 To:Int
 Weight:Int
 deriving DecidableEq,Inhabited
structure ZE where
 Vertical:Bool
 Place:Int
 deriving DecidableEq,Inhabited
abbrev e_bool:Enc Bool:=⟨1,fun x=>[.b x],fun _=>rfl⟩
theorem e_bool.one (x:Bool):(e_bool.c x).all V.one=true:=rfl
structure Z8 where
 Cell:Int
 Dir:Int
 deriving DecidableEq,Inhabited
abbrev Z1:Enc Z8:=⟨2,fun x=>[.i .i64 x.Cell,.i .i64 x.Dir],fun _=>rfl⟩
theorem Z1.one (x:Z8):(Z1.c x).all V.one=true:=rfl
theorem Z1.same (x y:Z8):ZaJ [.i,.i] (Z1.c x) (Z1.c y)=some (decide (x=y)):=by
 obtain ⟨x1,x2⟩:=x;obtain ⟨y1,y2⟩:=y;refine (Zgl (Zgl Zhs)).trans ?_;congr 1;rw [Bool.eq_iff_iff];simp [and_assoc]
abbrev Zdc:Enc (A4 Int):=⟨4,fun x=>[.i .i64 x.a,.i .i64 x.b,.i .i64 x.c,.i .i64 x.d],fun _=>rfl⟩
theorem Zdc.one (x:A4 Int):(Zdc.c x).all V.one=true:=rfl
abbrev ZC:Enc (A2 ZE):=⟨4,fun x=>[.b x.a.Vertical,.i .i64 x.a.Place,.b x.b.Vertical,.i .i64 x.b.Place],fun _=>rfl⟩
theorem ZC.one (x:A2 ZE):(ZC.c x).all V.one=true:=rfl
abbrev Zj:Enc Zn:=⟨3,fun x=>[.i .i64 x.From,.i .i64 x.To,.i .i64 x.Weight],fun _=>rfl⟩
theorem Zj.one (x:Zn):(Zj.c x).all V.one=true:=rfl
structure Za1 where
 X:List Int
 Y:List Int
 Vert:List (List Int)
 Horz:List (List Int)
 deriving DecidableEq,Inhabited
structure ZaM where
 Chains:Za1
 H:List Zn
 V:List Zn
 deriving DecidableEq,Inhabited
abbrev Z4:Enc ZE:=⟨2,fun x=>[.b x.Vertical,.i .i64 x.Place],fun _=>rfl⟩
theorem Z4.one (x:ZE):(Z4.c x).all V.one=true:=rfl
structure Zam where
 left:Int
 right:Int
 bottom:Int
 top:Int
 deriving DecidableEq,Inhabited
abbrev ZO:Enc Zam:=⟨4,fun x=>[.i .i64 x.left,.i .i64 x.right,.i .i64 x.bottom,.i .i64 x.top],fun _=>rfl⟩
theorem ZO.one (x:Zam):(ZO.c x).all V.one=true:=rfl
abbrev zB:Enc Int:=⟨1,fun x=>[.i .u64 x],fun _=>rfl⟩
theorem zB.one (x:Int):(zB.c x).all V.one=true:=rfl
structure zA where
 rows:List (List Int)
 deriving DecidableEq,Inhabited
abbrev ZbA:Enc (A2 Int):=⟨2,fun x=>[.i .i64 x.a,.i .i64 x.b],fun _=>rfl⟩
theorem ZbA.one (x:A2 Int):(ZbA.c x).all V.one=true:=rfl
structure Zb9 where
 Graphs:ZaM
 Open:List (A2 ZE)
 deriving DecidableEq,Inhabited
structure zq where
 result:Zb9
 h:zA
 v:zA
 lines:List ZE
 sides:List Zam
 deriving DecidableEq,Inhabited
structure Zt where
 horizontal:Bool
 from_:Int
 to:Int
 deriving DecidableEq,Inhabited
abbrev Zcr:Enc (A4 Zt):=⟨12,fun x=>[.b x.a.horizontal,.i .i64 x.a.from_,.i .i64 x.a.to,.b x.b.horizontal,.i .i64 x.b.from_,.i .i64 x.b.to,.b x.c.horizontal,.i .i64 x.c.from_,.i .i64 x.c.to,.b x.d.horizontal,.i .i64 x.d.from_,.i .i64 x.d.to],fun _=>rfl⟩
theorem Zcr.one (x:A4 Zt):(Zcr.c x).all V.one=true:=rfl
abbrev zk:Enc Zt:=⟨3,fun x=>[.b x.horizontal,.i .i64 x.from_,.i .i64 x.to],fun _=>rfl⟩
theorem zk.one (x:Zt):(zk.c x).all V.one=true:=rfl
abbrev Zco:Enc (A3 Int):=⟨3,fun x=>[.i .i64 x.a,.i .i64 x.b,.i .i64 x.c],fun _=>rfl⟩
theorem Zco.one (x:A3 Int):(Zco.c x).all V.one=true:=rfl
abbrev ZbE:Enc (A10 Int):=⟨10,fun x=>[.i .i64 x.a,.i .i64 x.b,.i .i64 x.c,.i .i64 x.d,.i .i64 x.e,.i .i64 x.f,.i .i64 x.g,.i .i64 x.h,.i .i64 x.i,.i .i64 x.j],fun _=>rfl⟩
theorem ZbE.one (x:A10 Int):(ZbE.c x).all V.one=true:=rfl
structure Zac where
 X:List Int
 Y:List Int
 Vert:List (List Int)
 Horz:List (List Int)
 deriving DecidableEq,Inhabited
structure ze where
 Vertical:Bool
 Place:Int
 deriving DecidableEq,Inhabited
abbrev z6:Enc ze:=⟨2,fun x=>[.b x.Vertical,.i .i64 x.Place],fun _=>rfl⟩
theorem z6.one (x:ze):(z6.c x).all V.one=true:=rfl
def Zg7 (x:Int):Prop:=Wf .u8 x
def ZkE (x:Int):Prop:=Wf .i8 x
def ZeN (x:Zf):Prop:=Wf .i64 x.X∧Wf .i64 x.Y
/-! muntin/muntinref10.New -/
def zC.s1 (v:Int):(List Za)×Int→Option (((List Za)×Int)⊕(List Za)):=fun (l2,d) =>
 if decide (d<4) then
  ck ((0:Int)≤v∧v<(l2.length:Int)) <|
  ck ((0:Int)≤d∧d<4) <|
  ck (Zax (d+1)) <|
  some (.inl (l2.set v.toNat ({ gi l2 v.toNat with Next:=((gi l2 v.toNat).Next).set d (-1) }),d+1))
 else
  some (.inr l2)

def zC.s0 (n:Int):(List Za)×Int→Option (((List Za)×Int)⊕(List Za)):=fun (l,v) =>
 if decide (v<n) then
  (ZU (zC.s1 v) big (l,0)).bind fun l3 =>
  ck (Zax (v+1)) <|
  some (.inl (l3,v+1))
 else
  some (.inr l)

def zC (n:Int):Option (List Za) :=
 ck ((0:Int)≤n∧n≤1000000000) <|
 (ZU (zC.s0 n) big (List.replicate n.toNat (⟨⟨0,0,0,0⟩,⟨0,0,0,0⟩⟩:Za),0)).bind fun l1 =>
 some l1

/-! muntin/muntinref10.Nearest -/
def zb.s0 (at_:List Zf) (i:Int) (d:Int):Int×Int→Option ((Int×Int)⊕Int):=fun (best,k_) =>
 if decide (k_<(at_.length:Int)) then
  (if decide (d=0) then
   ck ((0:Int)≤k_∧k_<(at_.length:Int)) <|
   ck ((0:Int)≤i∧i<(at_.length:Int)) <|
   some (decide ((gi at_ k_.toNat).Y=(gi at_ i.toNat).Y))
  else
   some false).bind fun t =>
  (if t then
   ck ((0:Int)≤k_∧k_<(at_.length:Int)) <|
   ck ((0:Int)≤i∧i<(at_.length:Int)) <|
   some (decide (((gi at_ i.toNat).X)<((gi at_ k_.toNat).X)))
  else
   some false).bind fun t1 =>
  (if t1 then
   (if decide (best<0) then
    some true
   else
    ck ((0:Int)≤k_∧k_<(at_.length:Int)) <|
    ck ((0:Int)≤best∧best<(at_.length:Int)) <|
    some (decide (((gi at_ k_.toNat).X)<((gi at_ best.toNat).X)))).bind fun t3 =>
   some t3
  else
   some false).bind fun t2 =>
  (
   if t2 then
    some k_
   else
    some best).bind fun best2 =>
  (if decide (d=1) then
   ck ((0:Int)≤k_∧k_<(at_.length:Int)) <|
   ck ((0:Int)≤i∧i<(at_.length:Int)) <|
   some (decide ((gi at_ k_.toNat).X=(gi at_ i.toNat).X))
  else
   some false).bind fun t4 =>
  (if t4 then
   ck ((0:Int)≤k_∧k_<(at_.length:Int)) <|
   ck ((0:Int)≤i∧i<(at_.length:Int)) <|
   some (decide (((gi at_ i.toNat).Y)<((gi at_ k_.toNat).Y)))
  else
   some false).bind fun t5 =>
  (if t5 then
   (if decide (best2<0) then
    some true
   else
    ck ((0:Int)≤k_∧k_<(at_.length:Int)) <|
    ck ((0:Int)≤best2∧best2<(at_.length:Int)) <|
    some (decide (((gi at_ k_.toNat).Y)<((gi at_ best2.toNat).Y)))).bind fun t7 =>
   some t7
  else
   some false).bind fun t6 =>
  if t6 then
   ck (Zax (k_+1)) <|
   some (.inl (k_,k_+1))
  else
   ck (Zax (k_+1)) <|
   some (.inl (best2,k_+1))
 else
  some (.inr best)

def zb (at_:List Zf) (i:Int) (d:Int):Option Int :=
 (ZU (zb.s0 at_ i d) big ((-1),0)).bind fun best1 =>
 some best1

/-! muntin/muntinref10.Crossed -/
def za.s1 (at_:List Zf) (l:List Za) (i:Int) (w:Int) (a:Int):Int→Option (Int⊕(Unit⊕Unit)):=fun d =>
 if decide (d<2) then
  ck ((0:Int)≤a∧a<(l.length:Int)) <|
  ck ((0:Int)≤d∧d<4) <|
  if decide ((((gi l a.toNat).Next).get d)<0) then
   ck (Zax (d+1)) <|
   some (.inl (d+1))
  else
   ck ((0:Int)≤a∧a<(at_.length:Int)) <|
   ck ((0:Int)≤(((gi l a.toNat).Next).get d)∧(((gi l a.toNat).Next).get d)<(at_.length:Int)) <|
   (if decide ((gi at_ a.toNat).Y=(gi at_ (((gi l a.toNat).Next).get d:Int).toNat).Y) then
    ck ((0:Int)≤i∧i<(at_.length:Int)) <|
    ck ((0:Int)≤w∧w<(at_.length:Int)) <|
    some (decide ((gi at_ i.toNat).X=(gi at_ w.toNat).X))
   else
    some false).bind fun t =>
   (if t then
    ck ((0:Int)≤i∧i<(at_.length:Int)) <|
    some (decide (((gi at_ a.toNat).X)<((gi at_ i.toNat).X)))
   else
    some false).bind fun t1 =>
   (if t1 then
    ck ((0:Int)≤i∧i<(at_.length:Int)) <|
    some (decide (((gi at_ i.toNat).X)<((gi at_ (((gi l a.toNat).Next).get d:Int).toNat).X)))
   else
    some false).bind fun t2 =>
   (if t2 then
    ck ((0:Int)≤i∧i<(at_.length:Int)) <|
    some (decide (((gi at_ i.toNat).Y)<((gi at_ a.toNat).Y)))
   else
    some false).bind fun t3 =>
   (if t3 then
    ck ((0:Int)≤w∧w<(at_.length:Int)) <|
    some (decide (((gi at_ a.toNat).Y)<((gi at_ w.toNat).Y)))
   else
    some false).bind fun t4 =>
   if t4 then
    some (.inr (.inr ()))
   else
    (if decide ((gi at_ a.toNat).X=(gi at_ (((gi l a.toNat).Next).get d:Int).toNat).X) then
     ck ((0:Int)≤i∧i<(at_.length:Int)) <|
     ck ((0:Int)≤w∧w<(at_.length:Int)) <|
     some (decide ((gi at_ i.toNat).Y=(gi at_ w.toNat).Y))
    else
     some false).bind fun t5 =>
    (if t5 then
     ck ((0:Int)≤i∧i<(at_.length:Int)) <|
     some (decide (((gi at_ i.toNat).X)<((gi at_ a.toNat).X)))
    else
     some false).bind fun t6 =>
    (if t6 then
     ck ((0:Int)≤w∧w<(at_.length:Int)) <|
     some (decide (((gi at_ a.toNat).X)<((gi at_ w.toNat).X)))
    else
     some false).bind fun t7 =>
    (if t7 then
     ck ((0:Int)≤i∧i<(at_.length:Int)) <|
     some (decide (((gi at_ a.toNat).Y)<((gi at_ i.toNat).Y)))
    else
     some false).bind fun t8 =>
    (if t8 then
     ck ((0:Int)≤i∧i<(at_.length:Int)) <|
     some (decide (((gi at_ i.toNat).Y)<((gi at_ (((gi l a.toNat).Next).get d:Int).toNat).Y)))
    else
     some false).bind fun t9 =>
    if t9 then
     some (.inr (.inr ()))
    else
     ck (Zax (d+1)) <|
     some (.inl (d+1))
 else
  some (.inr (.inl ()))

def za.s0 (at_:List Zf) (l:List Za) (i:Int) (w:Int):Int→Option (Int⊕(Unit⊕Unit)):=fun a =>
 if decide (a<(l.length:Int)) then
  (
   ZU (za.s1 at_ l i w a) big 0:Option (Unit⊕Unit)).bind fun o₃=>match o₃ with
  | .inl _ =>
   ck (Zax (a+1)) <|
   some (.inl (a+1))
  | .inr _ =>
   some (.inr (.inr ()))
 else
  some (.inr (.inl ()))

def za (at_:List Zf) (l:List Za) (i:Int) (w:Int):Option Bool :=
 (
  ZU (za.s0 at_ l i w) big 0:Option (Unit⊕Unit)).bind fun o₁=>match o₁ with
 | .inl _ =>
  some false
 | .inr _ =>
  some true

/-! muntin/muntinref10.with -/
def Za5.s0 (l:List Za) (v:Int) (d:Int) (w:Int) (o:Int):(List Za)×Int→Option (((List Za)×Int)⊕(List Za)):=fun (out,i) =>
 if decide (i<(l.length:Int)) then
  ck ((0:Int)≤i∧i<(l.length:Int)) <|
  (
   if decide (i=v) then
    ck ((0:Int)≤d∧d<4) <|
    some ({ { gi l i.toNat with Next:=((gi l i.toNat).Next).set d w } with Owner:=(({ gi l i.toNat with Next:=((gi l i.toNat).Next).set d w }).Owner).set d o })
   else
    some (gi l i.toNat)).bind fun c =>
  if decide (i=w) then
   ck (Zax (d+2)) <|
   ck ((0:Int)≤((d+2).tmod 4)∧((d+2).tmod 4)<4) <|
   ck (out.length+[{ { c with Next:=c.Next.set ((d+2).tmod 4) v } with Owner:=(({ c with Next:=c.Next.set ((d+2).tmod 4) v }).Owner).set ((d+2).tmod 4) o }].length≤1000000000) <|
   ck (Zax (i+1)) <|
   some (.inl (out++[{ { c with Next:=c.Next.set ((d+2).tmod 4) v } with Owner:=(({ c with Next:=c.Next.set ((d+2).tmod 4) v }).Owner).set ((d+2).tmod 4) o }],i+1))
  else
   ck (out.length+[c].length≤1000000000) <|
   ck (Zax (i+1)) <|
   some (.inl (out++[c],i+1))
 else
  some (.inr out)

def Za5 (l:List Za) (v:Int) (d:Int) (w:Int) (o:Int):Option (List Za) :=
 (ZU (Za5.s0 l v d w o) big (([]:List Za),0)).bind fun out1 =>
 some out1

/-! muntin/muntinref10.Make -/
def ZP.s1 (z:zU) (at_:List Zf) (i:Int):Bool×Int→Option ((Bool×Int)⊕((List Zf)×Bool)):=fun (met,k_) =>
 if decide (k_<(at_.length:Int)) then
  (if met then
   some true
  else
   ck ((0:Int)≤k_∧k_<(at_.length:Int)) <|
   some (decide (gi at_ k_.toNat=(⟨(gi z.At i.toNat).tmod 8,((gi z.At i.toNat).tdiv 8).tmod 8⟩:Zf)))).bind fun t =>
  ck (Zax (k_+1)) <|
  some (.inl (t,k_+1))
 else
  some (.inr (at_,met))

def ZP.s0 (z:zU) (most:Int):(List Zf)×Int→Option (((List Zf)×Int)⊕(List Zf)):=fun (at_,i) =>
 if (decide (i<(z.At.length:Int)))&&(decide ((at_.length:Int)<most)) then
  ck ((0:Int)≤i∧i<(z.At.length:Int)) <|
  ck (inK .i64 (gi z.At i.toNat)) <|
  ck ((8:Int)≠0∧Zax ((gi z.At i.toNat).tdiv 8)) <|
  (ZU (ZP.s1 z at_ i) big (false,0)).bind fun (at_2,met1) =>
  if !met1 then
   ck (at_2.length+[(⟨(gi z.At i.toNat).tmod 8,((gi z.At i.toNat).tdiv 8).tmod 8⟩:Zf)].length≤1000000000) <|
   ck (Zax (i+1)) <|
   some (.inl (at_2++[(⟨(gi z.At i.toNat).tmod 8,((gi z.At i.toNat).tdiv 8).tmod 8⟩:Zf)],i+1))
  else
   ck (Zax (i+1)) <|
   some (.inl (at_2,i+1))
 else
  some (.inr at_)

def ZP.s3 (i1:Int) (bits:Int) (at_6:List Zf) (own:Int):(List Za)×Int→Option (((List Za)×Int)⊕(List Za)):=fun (l4,d) =>
 if decide (d<2) then
  (zb at_6 i1 d).bind fun x1 =>
  ck ((0:Int)≤d) <|
  if (decide (ZH .u8 (zr .u8 bits d) 1=0))||(decide (x1<0)) then
   ck (Zax (d+1)) <|
   some (.inl (l4,d+1))
  else
   (za at_6 l4 i1 x1).bind fun x2 =>
   if !x2 then
    (Za5 l4 i1 d x1 own).bind fun x3 =>
    ck (Zax (d+1)) <|
    some (.inl (x3,d+1))
   else
    ck (Zax (d+1)) <|
    some (.inl (l4,d+1))
 else
  some (.inr l4)

def ZP.s2 (z:zU):(List Zf)×(List Za)×Int→Option (((List Zf)×(List Za)×Int)⊕((List Zf)×(List Za))):=fun (at_3,l,i1) =>
 if decide (i1<(at_3.length:Int)) then
  (
   if decide (i1<(z.Bits.length:Int)) then
    ck ((0:Int)≤i1∧i1<(z.Bits.length:Int)) <|
    some (at_3,l,gi z.Bits i1.toNat)
   else
    some (at_3,l,3)).bind fun (at_5,l2,bits) =>
  (
   if decide (i1<(z.Own.length:Int)) then
    ck ((0:Int)≤i1∧i1<(z.Own.length:Int)) <|
    ck (inK .i64 (gi z.Own i1.toNat)) <|
    if decide ((gi z.Own i1.toNat)<(-2)) then
     ck (Zax (-(gi z.Own i1.toNat))) <|
     some (at_5,l2,-(gi z.Own i1.toNat))
    else
     some (at_5,l2,gi z.Own i1.toNat)
   else
    some (at_5,l2,i1)).bind fun (at_6,l3,own) =>
  (ZU (ZP.s3 i1 bits at_6 own) big (l3,0)).bind fun l5 =>
  ck (Zax (i1+1)) <|
  some (.inl (at_6,l5,i1+1))
 else
  some (.inr (at_3,l))

def ZP (z:zU) (most:Int):Option ((List Za)×(List Zf)) :=
 (ZU (ZP.s0 z most) big (([]:List Zf),0)).bind fun at_1 =>
 (zC (at_1.length:Int)).bind fun x =>
 (ZU (ZP.s2 z) big (at_1,x,0)).bind fun (at_4,l1) =>
 some (l1,at_4)

/-! muntin/compass.Good -/
def Zbx (d:Int):Option Bool :=
 some ((decide (0≤d))&&(decide (d≤3)))

/-! muntin/compass.Left -/
def Zby (d:Int) (times:Int):Option Int :=
 (Zbx d).bind fun x =>
 if !x then
  some 0
 else
  ck (Zax (d+(times.tmod 4))) <|
  ck (Zax ((d+(times.tmod 4))+4)) <|
  some (((d+(times.tmod 4))+4).tmod 4)

/-! muntin/grid.side -/
def Zdg (cells:List Za) (v:Int) (d:Int):Option Int :=
 ck ((0:Int)≤v∧v<(cells.length:Int)) <|
 ck ((0:Int)≤d∧d<4) <|
 if decide (((gi cells v.toNat).Next).get d=(-1)) then
  if !(decide (((gi cells v.toNat).Owner).get d=0)) then
   some 9
  else
   some 0
 else
  if ((decide ((((gi cells v.toNat).Next).get d)<0))||(decide ((cells.length:Int)≤(((gi cells v.toNat).Next).get d))))||(decide (((gi cells v.toNat).Next).get d=v)) then
   some 3
  else
   (Zby d 2).bind fun x =>
   ck ((0:Int)≤(((gi cells v.toNat).Next).get d)∧(((gi cells v.toNat).Next).get d)<(cells.length:Int)) <|
   ck ((0:Int)≤x∧x<4) <|
   if ((!(decide (((gi cells (((gi cells v.toNat).Next).get d:Int).toNat).Next).get x=v)))||(!(decide (((gi cells (((gi cells v.toNat).Next).get d:Int).toNat).Owner).get x=((gi cells v.toNat).Owner).get d))))||(decide ((((gi cells v.toNat).Owner).get d)<(-2))) then
    some 9
   else
    some 0

/-! muntin/grid.Check -/
def zZ.s1 (cells:List Za) (x:Int):Int→Option (Int⊕(Unit⊕Int)):=fun x2 =>
 if decide (x2<4) then
  (Zdg cells x x2).bind fun x4 =>
  if !(decide (x4=0)) then
   some (.inr (.inr x4))
  else
   ck (Zax (x2+1)) <|
   some (.inl (x2+1))
 else
  some (.inr (.inl ()))

def zZ.s0 (cells:List Za):Int→Option (Int⊕(Unit⊕Int)):=fun x =>
 if decide (x<(cells.length:Int)) then
  (
   ZU (zZ.s1 cells x) big 0:Option (Unit⊕Int)).bind fun o₃=>match o₃ with
  | .inl _ =>
   ck (Zax (x+1)) <|
   some (.inl (x+1))
  | .inr x3 =>
   some (.inr (.inr x3))
 else
  some (.inr (.inl ()))

def zZ (cells:List Za):Option Int :=
 if decide (4096<(cells.length:Int)) then
  some 6
 else
  (
   ZU (zZ.s0 cells) big 0:Option (Unit⊕Int)).bind fun o₁=>match o₁ with
  | .inl _ =>
   some 0
  | .inr x1 =>
   some x1

/-! math/bits.Mul64 -/
def ZdS (x:Int) (y:Int):Option (Int×Int) :=
 some (Zbj .u64 (Zbj .u64 (zN .u64 (zr .u64 x 32) (zr .u64 y 32)) (zr .u64 (Zbj .u64 (zN .u64 (zr .u64 x 32) (ZH .u64 y 4294967295)) (zr .u64 (zN .u64 (ZH .u64 x 4294967295) (ZH .u64 y 4294967295)) 32)) 32)) (zr .u64 (Zbj .u64 (ZH .u64 (Zbj .u64 (zN .u64 (zr .u64 x 32) (ZH .u64 y 4294967295)) (zr .u64 (zN .u64 (ZH .u64 x 4294967295) (ZH .u64 y 4294967295)) 32)) 4294967295) (zN .u64 (ZH .u64 x 4294967295) (zr .u64 y 32))) 32),zN .u64 x y)

/-! math/bits.Mul -/
def Zd5 (x:Int) (y:Int):Option (Int×Int) :=
 (ZdS x y).bind fun (x1,x2) =>
 some (x1,x2)

/-! slices.Repeat[[]int,int] -/
def Zaa.s0:(List Int)×Int→Option (((List Int)×Int)⊕(List Int)):=fun (newslice,n) =>
 if decide (n<(newslice.length:Int)) then
  ck ((0:Int)≤n∧n≤(newslice.length:Int)) <|
  ck (Zax (n+((min (newslice.take n.toNat).length (newslice.drop n.toNat).length:Nat):Int))) <|
  some (.inl (newslice.take n.toNat++((newslice.take n.toNat).take (newslice.drop n.toNat).length++(newslice.drop n.toNat).drop (newslice.take n.toNat).length),n+((min (newslice.take n.toNat).length (newslice.drop n.toNat).length:Nat):Int)))
 else
  some (.inr newslice)

def Zaa (x:List Int) (count:Int):Option (List Int) :=
 (
  if decide (count<0) then
   none
  else
   some ()).bind fun _ =>
 ck (inK .u64 (x.length:Int)) <|
 ck (inK .u64 count) <|
 (Zd5 (x.length:Int) count).bind fun (x1,x2) =>
 (
  if (decide (0<x1))||(decide (9223372036854775807<x2)) then
   none
  else
   some ()).bind fun _ =>
 ck (inK .i64 x2) <|
 ck ((0:Int)≤x2∧x2≤1000000000) <|
 (ZU Zaa.s0 big (x.take (List.replicate x2.toNat (0:Int)).length++(List.replicate x2.toNat (0:Int)).drop x.length,((min x.length (List.replicate x2.toNat (0:Int)).length:Nat):Int))).bind fun newslice1 =>
 some newslice1

/-! muntin/join.spread -/
def ZaN.s1 (cells:List Za) (l:List Int):(List Int)×(List Int)×(List Int)×(List Bool)×Int→Option (((List Int)×(List Int)×(List Int)×(List Bool)×Int)⊕((List Int)×(List Int)×(List Int)×(List Bool))):=fun (from_2,dir2,l1,met1,x2) =>
 if decide (x2<4) then
  ck ((0:Int)≤(gi l (0:Int).toNat)∧(gi l (0:Int).toNat)<(cells.length:Int)) <|
  ck ((0:Int)≤x2∧x2<4) <|
  (if decide (0≤(((gi cells (gi l (0:Int).toNat:Int).toNat).Next).get x2)) then
   ck ((0:Int)≤(((gi cells (gi l (0:Int).toNat:Int).toNat).Next).get x2)∧(((gi cells (gi l (0:Int).toNat:Int).toNat).Next).get x2)<(met1.length:Int)) <|
   some (!(gi met1 (((gi cells (gi l (0:Int).toNat:Int).toNat).Next).get x2:Int).toNat))
  else
   some false).bind fun t =>
  if t then
   ck ((0:Int)≤(((gi cells (gi l (0:Int).toNat:Int).toNat).Next).get x2)∧(((gi cells (gi l (0:Int).toNat:Int).toNat).Next).get x2)<(met1.length:Int)) <|
   ck ((0:Int)≤(((gi cells (gi l (0:Int).toNat:Int).toNat).Next).get x2)∧(((gi cells (gi l (0:Int).toNat:Int).toNat).Next).get x2)<(from_2.length:Int)) <|
   ck ((0:Int)≤(((gi cells (gi l (0:Int).toNat:Int).toNat).Next).get x2)∧(((gi cells (gi l (0:Int).toNat:Int).toNat).Next).get x2)<(dir2.length:Int)) <|
   ck (l1.length+[((gi cells (gi l (0:Int).toNat:Int).toNat).Next).get x2].length≤1000000000) <|
   ck (Zax (x2+1)) <|
   some (.inl (from_2.set (((gi cells (gi l (0:Int).toNat:Int).toNat).Next).get x2:Int).toNat (gi l (0:Int).toNat),dir2.set (((gi cells (gi l (0:Int).toNat:Int).toNat).Next).get x2:Int).toNat x2,l1++[((gi cells (gi l (0:Int).toNat:Int).toNat).Next).get x2],met1.set (((gi cells (gi l (0:Int).toNat:Int).toNat).Next).get x2:Int).toNat true,x2+1))
  else
   ck (Zax (x2+1)) <|
   some (.inl (from_2,dir2,l1,met1,x2+1))
 else
  some (.inr (from_2,dir2,l1,met1))

def ZaN.s0 (cells:List Za):(List Int)×(List Int)×(List Int)×(List Bool)→Option (((List Int)×(List Int)×(List Int)×(List Bool))⊕((List Int)×(List Int))):=fun (from_,dir,l,met) =>
 if decide (0<(l.length:Int)) then
  ck ((0:Int)≤0∧0<(l.length:Int)) <|
  ck ((0:Int)≤1∧1≤(l.length:Int)) <|
  (ZU (ZaN.s1 cells l) big (from_,dir,l.drop (1:Int).toNat,met,0)).bind fun (from_3,dir3,l2,met2) =>
  some (.inl (from_3,dir3,l2,met2))
 else
  some (.inr (from_,dir))

def ZaN (cells:List Za) (v:Int):Option ((List Int)×(List Int)) :=
 (Zaa ([(-1)]:List Int) (cells.length:Int)).bind fun x =>
 (Zaa ([(-1)]:List Int) (cells.length:Int)).bind fun x1 =>
 ck ((0:Int)≤(cells.length:Int)∧(cells.length:Int)≤1000000000) <|
 ck ((0:Int)≤v∧v<((List.replicate ((cells.length:Int):Int).toNat false).length:Int)) <|
 (ZU (ZaN.s0 cells) big (x,x1,[v],(List.replicate ((cells.length:Int):Int).toNat false).set v.toNat true)).bind fun (from_1,dir1) =>
 some (from_1,dir1)

/-! muntin/join.Parts -/
def ZaU.s1 (cells:List Za) (x1:Int) (x3:List Int):(List Bool)×(List Int)×Int→Option (((List Bool)×(List Int)×Int)⊕((List Bool)×(List Int))):=fun (met1,part,x4) =>
 if decide (x4<(cells.length:Int)) then
  (if decide (x4=x1) then
   some true
  else
   ck ((0:Int)≤x4∧x4<(x3.length:Int)) <|
   some (decide (0≤(gi x3 x4.toNat)))).bind fun t =>
  if t then
   ck ((0:Int)≤x4∧x4<(met1.length:Int)) <|
   ck (part.length+[x4].length≤1000000000) <|
   ck (Zax (x4+1)) <|
   some (.inl (met1.set x4.toNat true,part++[x4],x4+1))
  else
   ck (Zax (x4+1)) <|
   some (.inl (met1,part,x4+1))
 else
  some (.inr (met1,part))

def ZaU.s0 (cells:List Za):(List (List Int))×(List Bool)×Int→Option (((List (List Int))×(List Bool)×Int)⊕(List (List Int))):=fun (l,met,x1) =>
 if decide (x1<(cells.length:Int)) then
  ck ((0:Int)≤x1∧x1<(met.length:Int)) <|
  if gi met x1.toNat then
   ck (Zax (x1+1)) <|
   some (.inl (l,met,x1+1))
  else
   (ZaN cells x1).bind fun (x2,x3) =>
   (ZU (ZaU.s1 cells x1 x3) big (met,([]:List Int),0)).bind fun (met2,part1) =>
   ck (l.length+1≤1000000000) <|
   ck (Zax (x1+1)) <|
   some (.inl (l++[part1],met2,x1+1))
 else
  some (.inr l)

def ZaU (cells:List Za):Option ((List (List Int))×Int) :=
 (zZ cells).bind fun x =>
 if !(decide (x=0)) then
  some (([]:List (List Int)),x)
 else
  ck ((0:Int)≤(cells.length:Int)∧(cells.length:Int)≤1000000000) <|
  (ZU (ZaU.s0 cells) big (([]:List (List Int)),List.replicate ((cells.length:Int):Int).toNat false,0)).bind fun l1 =>
  some (l1,0)

/-! muntin/join.Whole -/
def ZcQ (cells:List Za):Option Bool :=
 (ZaU cells).bind fun (x,x1) =>
 some ((decide (x1=0))&&(decide ((x.length:Int)=1)))

/-! (muntin/face.Dart).is -/
def Zbz (d:Z8) (cells:List Za):Option Bool :=
 if decide (0≤d.Cell) then
  if decide (d.Cell<(cells.length:Int)) then
   (Zbx d.Dir).bind fun x =>
   if x then
    ck ((0:Int)≤d.Cell∧d.Cell<(cells.length:Int)) <|
    ck ((0:Int)≤d.Dir∧d.Dir<4) <|
    some (decide (0≤(((gi cells (d.Cell:Int).toNat).Next).get d.Dir)))
   else
    some false
  else
   some false
 else
  some false

/-! (muntin/face.Dart).behind -/
def Zar.s0 (d:Z8) (cells:List Za):Int→Option (Int⊕(Unit⊕Z8)):=fun x =>
 if decide (x<4) then
  ck ((0:Int)≤x∧x<4) <|
  (Zby d.Dir ((⟨1,0,(-1),2⟩:A4 Int).get x)).bind fun x2 =>
  (Zbz (⟨((gi cells (d.Cell:Int).toNat).Next).get d.Dir,x2⟩:Z8) cells).bind fun x3 =>
  if x3 then
   some (.inr (.inr (⟨((gi cells (d.Cell:Int).toNat).Next).get d.Dir,x2⟩:Z8)))
  else
   ck (Zax (x+1)) <|
   some (.inl (x+1))
 else
  some (.inr (.inl ()))

def Zar (d:Z8) (cells:List Za):Option Z8 :=
 ck ((0:Int)≤d.Cell∧d.Cell<(cells.length:Int)) <|
 ck ((0:Int)≤d.Dir∧d.Dir<4) <|
 (
  ZU (Zar.s0 d cells) big 0:Option (Unit⊕Z8)).bind fun o₁=>match o₁ with
 | .inl _ =>
  some d
 | .inr x1 =>
  some x1

/-! muntin/face.Faces -/
def Zay.s2 (cells:List Za):(List (Z8×Bool))×(List Z8)×Z8→Option (((List (Z8×Bool))×(List Z8)×Z8)⊕((List (Z8×Bool))×(List Z8))):=fun (met3,f,x4) =>
 if !(ZfJ false x4 met3) then
  ck (f.length+[x4].length≤1000000000) <|
  (Zar x4 cells).bind fun x5 =>
  some (.inl (Zfw x4 true met3,f++[x4],x5))
 else
  some (.inr (met3,f))

def Zay.s1 (cells:List Za) (x1:Int):(List (List Z8))×(List (Z8×Bool))×Int→Option (((List (List Z8))×(List (Z8×Bool))×Int)⊕((List (List Z8))×(List (Z8×Bool)))):=fun (l2,met1,x2) =>
 if decide (x2<4) then
  (Zbz (⟨x1,x2⟩:Z8) cells).bind fun x3 =>
  if (!x3)||(ZfJ false (⟨x1,x2⟩:Z8) met1) then
   ck (Zax (x2+1)) <|
   some (.inl (l2,met1,x2+1))
  else
   (ZU (Zay.s2 cells) big (met1,([]:List Z8),(⟨x1,x2⟩:Z8))).bind fun (met4,f1) =>
   ck (l2.length+1≤1000000000) <|
   ck (Zax (x2+1)) <|
   some (.inl (l2++[f1],met4,x2+1))
 else
  some (.inr (l2,met1))

def Zay.s0 (cells:List Za):(List (List Z8))×(List (Z8×Bool))×Int→Option (((List (List Z8))×(List (Z8×Bool))×Int)⊕(List (List Z8))):=fun (l,met,x1) =>
 if decide (x1<(cells.length:Int)) then
  (ZU (Zay.s1 cells x1) big (l,met,0)).bind fun (l3,met2) =>
  ck (Zax (x1+1)) <|
  some (.inl (l3,met2,x1+1))
 else
  some (.inr l)

def Zay (cells:List Za):Option ((List (List Z8))×Int) :=
 (zZ cells).bind fun x =>
 if !(decide (x=0)) then
  some (([]:List (List Z8)),x)
 else
  (ZU (Zay.s0 cells) big (([]:List (List Z8)),([]:List (Z8×Bool)),0)).bind fun l1 =>
  some (l1,0)

/-! muntin/compass.Turn -/
def Zc1 (d:Int) (e_:Int):Option Int :=
 (Zbx d).bind fun x =>
 (if !x then
  some true
 else
  (Zbx e_).bind fun x1 =>
  some (!x1)).bind fun t =>
 if t then
  some 0
 else
  ck (Zax (e_-d)) <|
  ck (Zax ((e_-d)+4)) <|
  ck ((0:Int)≤(((e_-d)+4).tmod 4)∧(((e_-d)+4).tmod 4)<4) <|
  some ((⟨0,1,(-2),(-1)⟩:A4 Int).get (((e_-d)+4).tmod 4))

/-! muntin/face.Turns -/
def ZbP.s0 (cells:List Za) (f:List Z8):(List Int)×Int→Option (((List Int)×Int)⊕(List Int)):=fun (l,x1) =>
 if decide (x1<(f.length:Int)) then
  ck ((0:Int)≤x1∧x1<(f.length:Int)) <|
  (Zbz (gi f x1.toNat) cells).bind fun x2 =>
  if x2 then
   (Zar (gi f x1.toNat) cells).bind fun x3 =>
   (Zc1 ((gi f x1.toNat).Dir) x3.Dir).bind fun x4 =>
   ck ((0:Int)≤x1∧x1<(l.length:Int)) <|
   ck (Zax (x1+1)) <|
   some (.inl (l.set x1.toNat x4,x1+1))
  else
   ck (Zax (x1+1)) <|
   some (.inl (l,x1+1))
 else
  some (.inr l)

def ZbP (cells:List Za) (f:List Z8):Option (List Int) :=
 ck ((0:Int)≤(f.length:Int)∧(f.length:Int)≤1000000000) <|
 (zZ cells).bind fun x =>
 if !(decide (x=0)) then
  some (List.replicate ((f.length:Int):Int).toNat (0:Int))
 else
  (ZU (ZbP.s0 cells f) big (List.replicate ((f.length:Int):Int).toNat (0:Int),0)).bind fun l1 =>
  some l1

/-! muntin/face.Rotation -/
def Zbp.s0 (turns:List Int):Int×Int→Option ((Int×Int)⊕Int):=fun (n,x) =>
 if decide (x<(turns.length:Int)) then
  ck ((0:Int)≤x∧x<(turns.length:Int)) <|
  if (decide ((-2)≤(gi turns x.toNat)))&&(decide ((gi turns x.toNat)≤1)) then
   ck (Zax (n+(gi turns x.toNat))) <|
   ck (Zax (x+1)) <|
   some (.inl (n+(gi turns x.toNat),x+1))
  else
   ck (Zax (x+1)) <|
   some (.inl (n,x+1))
 else
  some (.inr n)

def Zbp (turns:List Int):Option Int :=
 (ZU (Zbp.s0 turns) big (0,0)).bind fun n1 =>
 some n1

/-! muntin/valid.outer -/
def Zb3.s0 (cells:List Za) (x:List (List Z8)):Int×Int→Option ((Int×Int)⊕(Int⊕Unit)):=fun (at_,x2) =>
 if decide (x2<(x.length:Int)) then
  ck ((0:Int)≤x2∧x2<(x.length:Int)) <|
  (ZbP cells (gi x x2.toNat)).bind fun x3 =>
  (Zbp x3).bind fun x4 =>
  if decide (x4=4) then
   ck (Zax (x2+1)) <|
   some (.inl (at_,x2+1))
  else
   if decide (x4=(-4)) then
    if decide (0≤at_) then
     some (.inr (.inr ()))
    else
     ck (Zax (x2+1)) <|
     some (.inl (x2,x2+1))
   else
    some (.inr (.inr ()))
 else
  some (.inr (.inl at_))

def Zb3 (cells:List Za):Option (Int×Bool) :=
 (Zay cells).bind fun (x,x1) =>
 (
  ZU (Zb3.s0 cells x) big ((-1),0):Option (Int⊕Unit)).bind fun o₁=>match o₁ with
 | .inl at_1 =>
  some (at_1,decide (0≤at_1))
 | .inr _ =>
  some (0,false)

/-! muntin/valid.Check -/
def ZcI (cells:List Za):Option Int :=
 (zZ cells).bind fun x =>
 if !(decide (x=0)) then
  some x
 else
  (ZcQ cells).bind fun x1 =>
  if !x1 then
   some 13
  else
   (Zb3 cells).bind fun (x2,x3) =>
   if (!x3)&&(decide (1<(cells.length:Int))) then
    some 10
   else
    some 0

/-! muntin/seg.chains -/
def zJ.s1 (cells:List Za) (x1:Int):Int×Int→Option ((Int×Int)⊕(Int⊕Unit)):=fun (first,n) =>
 ck ((0:Int)≤first∧first<(cells.length:Int)) <|
 ck ((0:Int)≤x1∧x1<4) <|
 if decide (0≤(((gi cells first.toNat).Next).get x1)) then
  if decide (n=(cells.length:Int)) then
   some (.inr (.inr ()))
  else
   ck (Zax (n+1)) <|
   some (.inl (((gi cells first.toNat).Next).get x1,n+1))
 else
  some (.inr (.inl first))

def zJ.s2 (cells:List Za) (d:Int) (l:List (List Int)):(List Int)×(List Int)×Int→Option (((List Int)×(List Int)×Int)⊕((List Int)×(List Int))):=fun (at_2,chain,w) =>
 if decide (0≤w) then
  ck ((0:Int)≤w∧w<(at_2.length:Int)) <|
  ck (chain.length+[w].length≤1000000000) <|
  ck ((0:Int)≤w∧w<(cells.length:Int)) <|
  ck ((0:Int)≤d∧d<4) <|
  some (.inl (at_2.set w.toNat (l.length:Int),chain++[w],((gi cells w.toNat).Next).get d))
 else
  some (.inr (at_2,chain))

def zJ.s0 (cells:List Za) (d:Int) (x1:Int):(List Int)×(List (List Int))×Int→Option (((List Int)×(List (List Int))×Int)⊕(((List Int)×(List (List Int)))⊕Unit)):=fun (at_,l,x2) =>
 if decide (x2<(cells.length:Int)) then
  ck ((0:Int)≤x2∧x2<(at_.length:Int)) <|
  if decide (0≤(gi at_ x2.toNat)) then
   ck (Zax (x2+1)) <|
   some (.inl (at_,l,x2+1))
  else
   (
    ZU (zJ.s1 cells x1) big (x2,0):Option (Int⊕Unit)).bind fun o₃=>match o₃ with
   | .inl first1 =>
    (ZU (zJ.s2 cells d l) big (at_,([]:List Int),first1)).bind fun (at_3,chain1) =>
    ck (l.length+1≤1000000000) <|
    ck (Zax (x2+1)) <|
    some (.inl (at_3,l++[chain1],x2+1))
   | .inr _ =>
    some (.inr (.inr ()))
 else
  some (.inr (.inl (at_,l)))

def zJ (cells:List Za) (d:Int):Option ((List Int)×(List (List Int))×Bool) :=
 (Zaa ([(-1)]:List Int) (cells.length:Int)).bind fun x =>
 (Zby d 2).bind fun x1 =>
 (
  ZU (zJ.s0 cells d x1) big (x,([]:List (List Int)),0):Option (((List Int)×(List (List Int)))⊕Unit)).bind fun o₁=>match o₁ with
 | .inl (at_1,l1) =>
  some (at_1,l1,true)
 | .inr _ =>
  some (([]:List Int),([]:List (List Int)),false)

/-! muntin/seg.Of -/
def ZdT (cells:List Za):Option (Za1×Int) :=
 (zZ cells).bind fun x =>
 if !(decide (x=0)) then
  some ((⟨([]:List Int),([]:List Int),([]:List (List Int)),([]:List (List Int))⟩:Za1),x)
 else
  (zJ cells 1).bind fun (x1,x2,x3) =>
  (zJ cells 0).bind fun (x4,x5,x6) =>
  if (!x3)||(!x6) then
   some ((⟨([]:List Int),([]:List Int),([]:List (List Int)),([]:List (List Int))⟩:Za1),10)
  else
   some ((⟨x1,x4,x2,x5⟩:Za1),0)

/-! muntin/arcs.weight -/
def ZcH (owner:Int):Option Int :=
 if decide (0≤owner) then
  some 1
 else
  some 0

/-! muntin/arcs.graph -/
def ZbB.s0 (cells:List Za) (d:Int) (of:List Int):(List Zn)×Int→Option (((List Zn)×Int)⊕(List Zn)):=fun (l,x) =>
 if decide (x<(cells.length:Int)) then
  ck ((0:Int)≤x∧x<(cells.length:Int)) <|
  ck ((0:Int)≤d∧d<4) <|
  if decide (0≤(((gi cells x.toNat).Next).get d)) then
   ck ((0:Int)≤x∧x<(of.length:Int)) <|
   ck ((0:Int)≤(((gi cells x.toNat).Next).get d)∧(((gi cells x.toNat).Next).get d)<(of.length:Int)) <|
   (ZcH (((gi cells x.toNat).Owner).get d)).bind fun x1 =>
   ck (l.length+[(⟨gi of x.toNat,gi of (((gi cells x.toNat).Next).get d:Int).toNat,x1⟩:Zn)].length≤1000000000) <|
   ck (Zax (x+1)) <|
   some (.inl (l++[(⟨gi of x.toNat,gi of (((gi cells x.toNat).Next).get d:Int).toNat,x1⟩:Zn)],x+1))
  else
   ck (Zax (x+1)) <|
   some (.inl (l,x+1))
 else
  some (.inr l)

def ZbB (cells:List Za) (d:Int) (of:List Int):Option (List Zn) :=
 (ZU (ZbB.s0 cells d of) big (([]:List Zn),0)).bind fun l1 =>
 some l1

/-! muntin/arcs.Of -/
def Zdl (cells:List Za):Option (ZaM×Int) :=
 (ZdT cells).bind fun (x,x1) =>
 if !(decide (x1=0)) then
  some ((⟨(⟨([]:List Int),([]:List Int),([]:List (List Int)),([]:List (List Int))⟩:Za1),([]:List Zn),([]:List Zn)⟩:ZaM),x1)
 else
  (ZbB cells 0 x.X).bind fun x2 =>
  (ZbB cells 1 x.Y).bind fun x3 =>
  some ((⟨x,x2,x3⟩:ZaM),0)

/-! muntin/sep.lines -/
def ZaW.s0 (c:Za1):(List ZE)×Int→Option (((List ZE)×Int)⊕(List ZE)):=fun (l,x) =>
 if decide (x<(c.Vert.length:Int)) then
  ck ((0:Int)≤x∧x<(c.Vert.length:Int)) <|
  if decide (1<((gi c.Vert x.toNat).length:Int)) then
   ck (l.length+[(⟨true,x⟩:ZE)].length≤1000000000) <|
   ck (Zax (x+1)) <|
   some (.inl (l++[(⟨true,x⟩:ZE)],x+1))
  else
   ck (Zax (x+1)) <|
   some (.inl (l,x+1))
 else
  some (.inr l)

def ZaW.s1 (c:Za1):(List ZE)×Int→Option (((List ZE)×Int)⊕(List ZE)):=fun (l2,x1) =>
 if decide (x1<(c.Horz.length:Int)) then
  ck ((0:Int)≤x1∧x1<(c.Horz.length:Int)) <|
  if decide (1<((gi c.Horz x1.toNat).length:Int)) then
   ck (l2.length+[(⟨false,x1⟩:ZE)].length≤1000000000) <|
   ck (Zax (x1+1)) <|
   some (.inl (l2++[(⟨false,x1⟩:ZE)],x1+1))
  else
   ck (Zax (x1+1)) <|
   some (.inl (l2,x1+1))
 else
  some (.inr l2)

def ZaW (c:Za1):Option (List ZE) :=
 (ZU (ZaW.s0 c) big (([]:List ZE),0)).bind fun l1 =>
 (ZU (ZaW.s1 c) big (l1,0)).bind fun l3 =>
 some l3

/-! muntin/reach.New -/
def ZbH.s0 (n:Int):(List (List Int))×Int→Option (((List (List Int))×Int)⊕(List (List Int))):=fun (r_,x) =>
 if decide (x<((List.replicate n.toNat []:List (List Int)).length:Int)) then
  ck (Zax (n+64)) <|
  ck (Zax ((n+64)-1)) <|
  ck ((64:Int)≠0∧Zax (((n+64)-1).tdiv 64)) <|
  ck ((0:Int)≤(((n+64)-1).tdiv 64)∧(((n+64)-1).tdiv 64)≤1000000000) <|
  ck ((0:Int)≤x∧x<(r_.length:Int)) <|
  ck (Zax (x+1)) <|
  some (.inl (r_.set x.toNat (List.replicate (((n+64)-1).tdiv 64:Int).toNat (0:Int)),x+1))
 else
  some (.inr r_)

def ZbH (n:Int):Option ((Option zA)×Int) :=
 if (decide (n<0))||(decide (4096<n)) then
  some (none,2)
 else
  ck ((0:Int)≤n∧n≤1000000000) <|
  (ZU (ZbH.s0 n) big ((List.replicate n.toNat []:List (List Int)),0)).bind fun r_1 =>
  some (some (⟨r_1⟩:zA),0)

/-! (*muntin/reach.Reach).is -/
def Za8 (r_:zA) (v:Int):Option Bool :=
 some ((decide (0≤v))&&(decide (v<(r_.rows.length:Int))))

/-! (*muntin/reach.Reach).Has -/
def zI (r_:zA) (u_:Int) (v:Int):Option Bool :=
 (Za8 r_ u_).bind fun x =>
 (if x then
  (Za8 r_ v).bind fun x1 =>
  some x1
 else
  some false).bind fun t =>
 (if t then
  ck ((0:Int)≤u_∧u_<(r_.rows.length:Int)) <|
  ck ((64:Int)≠0∧Zax (v.tdiv 64)) <|
  ck ((0:Int)≤(v.tdiv 64)∧(v.tdiv 64)<((gi r_.rows u_.toNat).length:Int)) <|
  ck ((0:Int)≤(v.tmod 64)) <|
  some (decide (ZH .u64 (zr .u64 (gi (gi r_.rows u_.toNat) (v.tdiv 64:Int).toNat) (v.tmod 64)) 1=1))
 else
  some false).bind fun t1 =>
 some t1

/-! slices.Clone[[]uint64,uint64] -/
def Zcp (s:List Int):Option (List Int) :=
 ck (s.length≤1000000000) <|
 some s
/-! (*muntin/reach.Reach).Add -/
def zm.s1 (v:Int) (x3:List Int) (x4:Int):(List (List Int))×Int→Option (((List (List Int))×Int)⊕(List (List Int))):=fun (r_2,x6) =>
 if decide (x6<((x3.set (v.tdiv 64:Int).toNat (Zcb .u64 (gi x3 (v.tdiv 64:Int).toNat) (Zct .u64 1 (v.tmod 64)))).length:Int)) then
  ck ((0:Int)≤x6∧x6<((x3.set (v.tdiv 64:Int).toNat (Zcb .u64 (gi x3 (v.tdiv 64:Int).toNat) (Zct .u64 1 (v.tmod 64)))).length:Int)) <|
  ck ((0:Int)≤x4∧x4<(r_2.length:Int)) <|
  ck ((0:Int)≤x6∧x6<((gi r_2 x4.toNat).length:Int)) <|
  ck (Zax (x6+1)) <|
  some (.inl ((r_2.set x4.toNat ((gi r_2 x4.toNat).set x6.toNat (Zcb .u64 (gi (gi r_2 x4.toNat) x6.toNat) (gi (x3.set (v.tdiv 64:Int).toNat (Zcb .u64 (gi x3 (v.tdiv 64:Int).toNat) (Zct .u64 1 (v.tmod 64)))) x6.toNat)))),x6+1))
 else
  some (.inr r_2)

def zm.s0 (r_:zA) (u_:Int) (v:Int) (x3:List Int):(List (List Int))×Int→Option (((List (List Int))×Int)⊕(List (List Int))):=fun (r_1,x4) =>
 if decide (x4<(r_.rows.length:Int)) then
  (if !(decide (x4=u_)) then
   (zI (⟨r_1⟩:zA) x4 u_).bind fun x5 =>
   some (!x5)
  else
   some false).bind fun t1 =>
  if t1 then
   ck (Zax (x4+1)) <|
   some (.inl (r_1,x4+1))
  else
   (ZU (zm.s1 v x3 x4) big (r_1,0)).bind fun r_3 =>
   ck (Zax (x4+1)) <|
   some (.inl (r_3,x4+1))
 else
  some (.inr r_1)

def zm (r_:zA) (u_:Int) (v:Int):Option (Int×zA) :=
 (Za8 r_ u_).bind fun x =>
 (if !x then
  some true
 else
  (Za8 r_ v).bind fun x1 =>
  some (!x1)).bind fun t =>
 if t then
  some (2,r_)
 else
  (zI r_ u_ v).bind fun x2 =>
  if x2 then
   some (0,r_)
  else
   ck ((0:Int)≤v∧v<(r_.rows.length:Int)) <|
   (Zcp (gi r_.rows v.toNat)).bind fun x3 =>
   ck ((64:Int)≠0∧Zax (v.tdiv 64)) <|
   ck ((0:Int)≤(v.tdiv 64)∧(v.tdiv 64)<(x3.length:Int)) <|
   ck ((0:Int)≤(v.tmod 64)) <|
   (ZU (zm.s0 r_ u_ v x3) big (r_.rows,0)).bind fun p0 =>
   some (0,(⟨p0⟩:zA))

/-! (muntin/seg.Chains).chain -/
def Zbb (c:Za1) (vertical:Bool) (i:Int):Option (List Int) :=
 (
  if vertical then
   some c.Vert
  else
   some c.Horz).bind fun l =>
 if (decide (i<0))||(decide ((l.length:Int)≤i)) then
  some ([]:List Int)
 else
  ck ((0:Int)≤i∧i<(l.length:Int)) <|
  some (gi l i.toNat)

/-! (muntin/seg.Chains).Span -/
def Zcw (c:Za1) (vertical:Bool) (i:Int):Option (Int×Int) :=
 (Zbb c vertical i).bind fun x =>
 if decide ((x.length:Int)=0) then
  some (0,0)
 else
  (
   if vertical then
    some c.Y
   else
    some c.X).bind fun of =>
  ck ((0:Int)≤0∧0<(x.length:Int)) <|
  ck ((0:Int)≤(gi x (0:Int).toNat)∧(gi x (0:Int).toNat)<(of.length:Int)) <|
  ck (Zax ((x.length:Int)-1)) <|
  ck ((0:Int)≤((x.length:Int)-1)∧((x.length:Int)-1)<(x.length:Int)) <|
  ck ((0:Int)≤(gi x ((x.length:Int)-1:Int).toNat)∧(gi x ((x.length:Int)-1:Int).toNat)<(of.length:Int)) <|
  some (gi of (gi x (0:Int).toNat:Int).toNat,gi of (gi x ((x.length:Int)-1:Int).toNat:Int).toNat)

/-! muntin/sep.of -/
def ZeT (c:Za1) (l:ZE):Option Zam :=
 (Zcw c l.Vertical l.Place).bind fun (x,x1) =>
 if l.Vertical then
  some (⟨l.Place,l.Place,x,x1⟩:Zam)
 else
  some (⟨x,x1,l.Place,l.Place⟩:Zam)

/-! slices.IndexFunc[[]int,int] -/
def Zap.s0 (s:List Int) (f:Int→Option Bool):Int→Option (Int⊕(Unit⊕Int)):=fun x =>
 if decide (x<(s.length:Int)) then
  ck ((0:Int)≤x∧x<(s.length:Int)) <|
  (f (gi s x.toNat)).bind fun x2 =>
  if x2 then
   some (.inr (.inr x))
  else
   ck (Zax (x+1)) <|
   some (.inl (x+1))
 else
  some (.inr (.inl ()))

def Zap (s:List Int) (f:Int→Option Bool):Option Int :=
 (
  ZU (Zap.s0 s f) big 0:Option (Unit⊕Int)).bind fun o₁=>match o₁ with
 | .inl _ =>
  some (-1)
 | .inr x1 =>
  some x1

/-! slices.ContainsFunc[[]int,int] -/
def Zbg (s:List Int) (f:Int→Option Bool):Option Bool :=
 (Zap s f).bind fun x =>
 some (decide (0≤x))

/-! slices.Index[[]int,int] -/
def ZaO.s0 (s:List Int) (v:Int):Int→Option (Int⊕(Unit⊕Int)):=fun x =>
 if decide (x<(s.length:Int)) then
  ck ((0:Int)≤x∧x<(s.length:Int)) <|
  if decide (v=gi s x.toNat) then
   some (.inr (.inr x))
  else
   ck (Zax (x+1)) <|
   some (.inl (x+1))
 else
  some (.inr (.inl ()))

def ZaO (s:List Int) (v:Int):Option Int :=
 (
  ZU (ZaO.s0 s v) big 0:Option (Unit⊕Int)).bind fun o₁=>match o₁ with
 | .inl _ =>
  some (-1)
 | .inr x1 =>
  some x1

/-! slices.Contains[[]int,int] -/
def Zb6 (s:List Int) (v:Int):Option Bool :=
 (ZaO s v).bind fun x =>
 some (decide (0≤x))

/-! (muntin/seg.Chains).Meet$1 -/
def Zcm (v:Int) (c0:List Int):Option Bool :=
 (Zb6 c0 v).bind fun x =>
 some x

/-! (muntin/seg.Chains).Meet -/
def ZbS (c:Za1) (vertical:Bool) (i:Int) (other:Bool) (k_:Int):Option Bool :=
 (Zbb c other k_).bind fun x =>
 (Zbb c vertical i).bind fun x1 =>
 (Zbg x1 (fun y0=>Zcm y0 x)).bind fun x2 =>
 some x2

/-! muntin/sep.start -/
def zQ.s0 (x:ZaM):(List (List Int))×Int→Option (((List (List Int))×Int)⊕(List (List Int))):=fun (s,x7) =>
 if decide (x7<(x.H.length:Int)) then
  ck ((0:Int)≤x7∧x7<(x.H.length:Int)) <|
  (zm (⟨s⟩:zA) ((gi x.H x7.toNat).From) ((gi x.H x7.toNat).To)).bind fun (x8,m) =>
  ck (Zax (x7+1)) <|
  some (.inl (m.rows,x7+1))
 else
  some (.inr s)

def zQ.s1 (x:ZaM):(List (List Int))×Int→Option (((List (List Int))×Int)⊕(List (List Int))):=fun (s2,x9) =>
 if decide (x9<(x.V.length:Int)) then
  ck ((0:Int)≤x9∧x9<(x.V.length:Int)) <|
  (zm (⟨s2⟩:zA) ((gi x.V x9.toNat).From) ((gi x.V x9.toNat).To)).bind fun (x10,m1) =>
  ck (Zax (x9+1)) <|
  some (.inl (m1.rows,x9+1))
 else
  some (.inr s2)

def zQ.s2 (x:ZaM) (x2:List ZE):(List Zam)×Int→Option (((List Zam)×Int)⊕(List Zam)):=fun (s4,x11) =>
 if decide (x11<(x2.length:Int)) then
  ck ((0:Int)≤x11∧x11<(x2.length:Int)) <|
  (ZeT x.Chains (gi x2 x11.toNat)).bind fun x12 =>
  ck (s4.length+[x12].length≤1000000000) <|
  ck (Zax (x11+1)) <|
  some (.inl (s4++[x12],x11+1))
 else
  some (.inr s4)

def zQ.s4 (x:ZaM) (x2:List ZE) (x13:Int):(List (A2 Int))×Int→Option (((List (A2 Int))×Int)⊕(List (A2 Int))):=fun (open_2,k_) =>
 if decide (k_<(x2.length:Int)) then
  ck ((0:Int)≤k_∧k_<(x2.length:Int)) <|
  (ZbS x.Chains ((gi x2 x13.toNat).Vertical) ((gi x2 x13.toNat).Place) ((gi x2 k_.toNat).Vertical) ((gi x2 k_.toNat).Place)).bind fun x14 =>
  if !x14 then
   ck (open_2.length+[(⟨x13,k_⟩:A2 Int)].length≤1000000000) <|
   ck (Zax (k_+1)) <|
   some (.inl (open_2++[(⟨x13,k_⟩:A2 Int)],k_+1))
  else
   ck (Zax (k_+1)) <|
   some (.inl (open_2,k_+1))
 else
  some (.inr open_2)

def zQ.s3 (x:ZaM) (x2:List ZE):(List (A2 Int))×Int→Option (((List (A2 Int))×Int)⊕(List (A2 Int))):=fun (open_,x13) =>
 if decide (x13<(x2.length:Int)) then
  ck ((0:Int)≤x13∧x13<(x2.length:Int)) <|
  ck (Zax (x13+1)) <|
  (ZU (zQ.s4 x x2 x13) big (open_,x13+1)).bind fun open_3 =>
  some (.inl (open_3,x13+1))
 else
  some (.inr open_)

def zQ (cells:List Za):Option (zq×(List (A2 Int))) :=
 (Zdl cells).bind fun (x,x1) =>
 (ZaW x.Chains).bind fun x2 =>
 (ZbH (x.Chains.Vert.length:Int)).bind fun (x3,x4) =>
 (x3).bind fun g =>
 (ZbH (x.Chains.Horz.length:Int)).bind fun (x5,x6) =>
 (x5).bind fun g1 =>
 (ZU (zQ.s0 x) big (g.rows,0)).bind fun s1 =>
 (ZU (zQ.s1 x) big (g1.rows,0)).bind fun s3 =>
 (ZU (zQ.s2 x x2) big (([]:List Zam),0)).bind fun s5 =>
 (ZU (zQ.s3 x x2) big (([]:List (A2 Int)),0)).bind fun open_1 =>
 some ((⟨(⟨x,([]:List (A2 ZE))⟩:Zb9),(⟨s1⟩:zA),(⟨s3⟩:zA),x2,s5⟩:zq),open_1)

/-! (*muntin/sep.settler).ways -/
def ZbX (s:zq) (i:Int) (k_:Int):Option (A4 Zt) :=
 ck ((0:Int)≤i∧i<(s.sides.length:Int)) <|
 ck ((0:Int)≤k_∧k_<(s.sides.length:Int)) <|
 some (⟨(⟨true,(gi s.sides i.toNat).right,(gi s.sides k_.toNat).left⟩:Zt),(⟨true,(gi s.sides k_.toNat).right,(gi s.sides i.toNat).left⟩:Zt),(⟨false,(gi s.sides i.toNat).top,(gi s.sides k_.toNat).bottom⟩:Zt),(⟨false,(gi s.sides k_.toNat).top,(gi s.sides i.toNat).bottom⟩:Zt)⟩:A4 Zt)

/-! slices.IndexFunc[[]muntin/sep.way,muntin/sep.way] -/
def zy.s0 (s:List Zt) (f:Zt→Option Bool):Int→Option (Int⊕(Unit⊕Int)):=fun x =>
 if decide (x<(s.length:Int)) then
  ck ((0:Int)≤x∧x<(s.length:Int)) <|
  (f (gi s x.toNat)).bind fun x2 =>
  if x2 then
   some (.inr (.inr x))
  else
   ck (Zax (x+1)) <|
   some (.inl (x+1))
 else
  some (.inr (.inl ()))

def zy (s:List Zt) (f:Zt→Option Bool):Option Int :=
 (
  ZU (zy.s0 s f) big 0:Option (Unit⊕Int)).bind fun o₁=>match o₁ with
 | .inl _ =>
  some (-1)
 | .inr x1 =>
  some x1

/-! slices.ContainsFunc[[]muntin/sep.way,muntin/sep.way] -/
def Zaz (s:List Zt) (f:Zt→Option Bool):Option Bool :=
 (zy s f).bind fun x =>
 some (decide (0≤x))

/-! (*muntin/sep.settler).graph -/
def ZaS (s:zq) (w:Zt):Option Bool :=
 if w.horizontal then
  some true
 else
  some false

/-! (*muntin/sep.settler).is -/
def Zca (s:zq) (w:Zt):Option Bool :=
 (ZaS s w).bind fun x =>
 if x then
  (zI s.h w.from_ w.to).bind fun x1 =>
  some x1
 else
  (zI s.v w.from_ w.to).bind fun x2 =>
  some x2

/-! slices.DeleteFunc[[]muntin/sep.way,muntin/sep.way] -/
def zo.s0 (del:Zt→Option Bool):(List Zt)×Int×Int→Option (((List Zt)×Int×Int)⊕((List Zt)×Int)):=fun (s1,i,j) =>
 if decide (j<(s1.length:Int)) then
  ck ((0:Int)≤j∧j<(s1.length:Int)) <|
  (del (gi s1 j.toNat)).bind fun x1 =>
  if !x1 then
   ck ((0:Int)≤i∧i<(s1.length:Int)) <|
   ck (Zax (i+1)) <|
   ck (Zax (j+1)) <|
   some (.inl (s1.set i.toNat (gi s1 j.toNat),i+1,j+1))
  else
   ck (Zax (j+1)) <|
   some (.inl (s1,i,j+1))
 else
  some (.inr (s1,i))

def zo (s:List Zt) (del:Zt→Option Bool):Option (List Zt) :=
 (zy s del).bind fun x =>
 if decide (x=(-1)) then
  some s
 else
  ck (Zax (x+1)) <|
  (ZU (zo.s0 del) big (s,x,x+1)).bind fun (s2,i1) =>
  ck ((0:Int)≤i1∧i1≤(s2.length:Int)) <|
  ck ((0:Int)≤i1∧i1≤((s2.take i1.toNat++List.replicate (s2.length-i1.toNat) (⟨false,0,0⟩:Zt)).length:Int)) <|
  some ((s2.take i1.toNat++List.replicate (s2.length-i1.toNat) (⟨false,0,0⟩:Zt)).take i1.toNat)

/-! (*muntin/sep.settler).can -/
def Zcj (s:zq) (w:Zt):Option Bool :=
 if !(decide (w.from_=w.to)) then
  (ZaS s w).bind fun x =>
  if x then
   (zI s.h w.to w.from_).bind fun x1 =>
   some (!x1)
  else
   (zI s.v w.to w.from_).bind fun x2 =>
   some (!x2)
 else
  some false

/-! (*muntin/sep.settler).look$1 -/
def Zbu (w:Zt) (c0:zq):Option Bool :=
 (Zcj c0 w).bind fun x =>
 some (!x)

/-! (*muntin/sep.settler).force -/
def ZbR (s:zq) (w:Zt):Option zq :=
 (ZaS s w).bind fun x =>
 if x then
  (zm s.h w.from_ w.to).bind fun (x1,m) =>
  if w.horizontal then
   ck (s.result.Graphs.H.length+[(⟨w.from_,w.to,(0:Int)⟩:Zn)].length≤1000000000) <|
   some (⟨(⟨(⟨s.result.Graphs.Chains,s.result.Graphs.H++[(⟨w.from_,w.to,(0:Int)⟩:Zn)],s.result.Graphs.V⟩:ZaM),s.result.Open⟩:Zb9),m,s.v,s.lines,s.sides⟩:zq)
  else
   ck (s.result.Graphs.V.length+[(⟨w.from_,w.to,(0:Int)⟩:Zn)].length≤1000000000) <|
   some (⟨(⟨(⟨s.result.Graphs.Chains,s.result.Graphs.H,s.result.Graphs.V++[(⟨w.from_,w.to,(0:Int)⟩:Zn)]⟩:ZaM),s.result.Open⟩:Zb9),m,s.v,s.lines,s.sides⟩:zq)
 else
  (zm s.v w.from_ w.to).bind fun (x2,m1) =>
  if w.horizontal then
   ck (s.result.Graphs.H.length+[(⟨w.from_,w.to,(0:Int)⟩:Zn)].length≤1000000000) <|
   some (⟨(⟨(⟨s.result.Graphs.Chains,s.result.Graphs.H++[(⟨w.from_,w.to,(0:Int)⟩:Zn)],s.result.Graphs.V⟩:ZaM),s.result.Open⟩:Zb9),s.h,m1,s.lines,s.sides⟩:zq)
  else
   ck (s.result.Graphs.V.length+[(⟨w.from_,w.to,(0:Int)⟩:Zn)].length≤1000000000) <|
   some (⟨(⟨(⟨s.result.Graphs.Chains,s.result.Graphs.H,s.result.Graphs.V++[(⟨w.from_,w.to,(0:Int)⟩:Zn)]⟩:ZaM),s.result.Open⟩:Zb9),s.h,m1,s.lines,s.sides⟩:zq)

/-! (*muntin/sep.settler).look -/
def Zbw (s:zq) (i:Int) (k_:Int):Option (Bool×Bool×zq) :=
 (ZbX s i k_).bind fun x =>
 (Zaz [x.a,x.b,x.c,x.d] (fun y0=>Zca s y0)).bind fun x1 =>
 if x1 then
  some (true,false,s)
 else
  (zo [x.a,x.b,x.c,x.d] (fun y0=>Zbu y0 s)).bind fun x2 =>
  if !(decide ((x2.length:Int)=1)) then
   some (false,false,s)
  else
   ck ((0:Int)≤0∧0<(x2.length:Int)) <|
   (ZbR s (gi x2 (0:Int).toNat)).bind fun m =>
   some (true,true,m)

/-! muntin/sep.Settle -/
def z9.s1 (open_:List (A2 Int)):(List Int)×(List Int)×(List (List Int))×(List (List Int))×(List Zn)×(List Zn)×(List (A2 ZE))×(List (List Int))×(List (List Int))×(List ZE)×(List Zam)×Bool×(List (A2 Int))×Int→Option (((List Int)×(List Int)×(List (List Int))×(List (List Int))×(List Zn)×(List Zn)×(List (A2 ZE))×(List (List Int))×(List (List Int))×(List ZE)×(List Zam)×Bool×(List (A2 Int))×Int)⊕((List Int)×(List Int)×(List (List Int))×(List (List Int))×(List Zn)×(List Zn)×(List (A2 ZE))×(List (List Int))×(List (List Int))×(List ZE)×(List Zam)×Bool×(List (A2 Int)))):=fun (s22,s23,s24,s25,s26,s27,s28,s29,s30,s31,s32,changed1,left,x3) =>
 if decide (x3<(open_.length:Int)) then
  ck ((0:Int)≤x3∧x3<(open_.length:Int)) <|
  (Zbw (⟨(⟨(⟨(⟨s22,s23,s24,s25⟩:Za1),s26,s27⟩:ZaM),s28⟩:Zb9),(⟨s29⟩:zA),(⟨s30⟩:zA),s31,s32⟩:zq) ((gi open_ x3.toNat).get 0) ((gi open_ x3.toNat).get 1)).bind fun (x4,x5,m) =>
  if !x4 then
   ck (left.length+[gi open_ x3.toNat].length≤1000000000) <|
   ck (Zax (x3+1)) <|
   some (.inl (m.result.Graphs.Chains.X,m.result.Graphs.Chains.Y,m.result.Graphs.Chains.Vert,m.result.Graphs.Chains.Horz,m.result.Graphs.H,m.result.Graphs.V,m.result.Open,m.h.rows,m.v.rows,m.lines,m.sides,changed1||x5,left++[gi open_ x3.toNat],x3+1))
  else
   ck (Zax (x3+1)) <|
   some (.inl (m.result.Graphs.Chains.X,m.result.Graphs.Chains.Y,m.result.Graphs.Chains.Vert,m.result.Graphs.Chains.Horz,m.result.Graphs.H,m.result.Graphs.V,m.result.Open,m.h.rows,m.v.rows,m.lines,m.sides,changed1||x5,left,x3+1))
 else
  some (.inr (s22,s23,s24,s25,s26,s27,s28,s29,s30,s31,s32,changed1,left))

def z9.s0:(List Int)×(List Int)×(List (List Int))×(List (List Int))×(List Zn)×(List Zn)×(List (A2 ZE))×(List (List Int))×(List (List Int))×(List ZE)×(List Zam)×(List (A2 Int))×Bool→Option (((List Int)×(List Int)×(List (List Int))×(List (List Int))×(List Zn)×(List Zn)×(List (A2 ZE))×(List (List Int))×(List (List Int))×(List ZE)×(List Zam)×(List (A2 Int))×Bool)⊕((List Int)×(List Int)×(List (List Int))×(List (List Int))×(List Zn)×(List Zn)×(List (A2 ZE))×(List (List Int))×(List (List Int))×(List ZE)×(List Zam)×(List (A2 Int)))):=fun (s,s1,s2,s3,s4,s5,s6,s7,s8,s9,s10,open_,changed) =>
 if changed then
  (ZU (z9.s1 open_) big (s,s1,s2,s3,s4,s5,s6,s7,s8,s9,s10,false,([]:List (A2 Int)),0)).bind fun (s33,s34,s35,s36,s37,s38,s39,s40,s41,s42,s43,changed2,left1) =>
  some (.inl (s33,s34,s35,s36,s37,s38,s39,s40,s41,s42,s43,left1,changed2))
 else
  some (.inr (s,s1,s2,s3,s4,s5,s6,s7,s8,s9,s10,open_))

def z9.s2 (s20:List ZE) (open_1:List (A2 Int)):(List (A2 ZE))×Int→Option (((List (A2 ZE))×Int)⊕(List (A2 ZE))):=fun (s44,x6) =>
 if decide (x6<(open_1.length:Int)) then
  ck ((0:Int)≤x6∧x6<(open_1.length:Int)) <|
  ck ((0:Int)≤((gi open_1 x6.toNat).get 0)∧((gi open_1 x6.toNat).get 0)<(s20.length:Int)) <|
  ck ((0:Int)≤((gi open_1 x6.toNat).get 1)∧((gi open_1 x6.toNat).get 1)<(s20.length:Int)) <|
  ck (s44.length+[(⟨gi s20 ((gi open_1 x6.toNat).get 0:Int).toNat,gi s20 ((gi open_1 x6.toNat).get 1:Int).toNat⟩:A2 ZE)].length≤1000000000) <|
  ck (Zax (x6+1)) <|
  some (.inl (s44++[(⟨gi s20 ((gi open_1 x6.toNat).get 0:Int).toNat,gi s20 ((gi open_1 x6.toNat).get 1:Int).toNat⟩:A2 ZE)],x6+1))
 else
  some (.inr s44)

def z9 (cells:List Za):Option (Zb9×Int) :=
 (ZcI cells).bind fun x =>
 if !(decide (x=0)) then
  some ((⟨(⟨(⟨([]:List Int),([]:List Int),([]:List (List Int)),([]:List (List Int))⟩:Za1),([]:List Zn),([]:List Zn)⟩:ZaM),([]:List (A2 ZE))⟩:Zb9),x)
 else
  (zQ cells).bind fun (x1,x2) =>
  (ZU z9.s0 big (x1.result.Graphs.Chains.X,x1.result.Graphs.Chains.Y,x1.result.Graphs.Chains.Vert,x1.result.Graphs.Chains.Horz,x1.result.Graphs.H,x1.result.Graphs.V,x1.result.Open,x1.h.rows,x1.v.rows,x1.lines,x1.sides,x2,true)).bind fun (s11,s12,s13,s14,s15,s16,s17,s18,s19,s20,s21,open_1) =>
  (ZU (z9.s2 s20 open_1) big (s17,0)).bind fun s45 =>
  some ((⟨(⟨(⟨s11,s12,s13,s14⟩:Za1),s15,s16⟩:ZaM),s45⟩:Zb9),0)

/-! muntin/muntinref10.Join -/
def Zc2 (l:List Za) (v:Int) (d:Int) (w:Int) (o:Int):Option ((List Za)×Int) :=
 if (((((((decide (v<0))||(decide ((l.length:Int)≤v)))||(decide (w<0)))||(decide ((l.length:Int)≤w)))||(decide (v=w)))||(decide (d<0)))||(decide (3<d)))||(decide (o<(-2))) then
  some (l,2)
 else
  ck ((0:Int)≤v∧v<(l.length:Int)) <|
  ck ((0:Int)≤d∧d<4) <|
  (if !(decide (((gi l v.toNat).Next).get d=(-1))) then
   some true
  else
   ck (Zax (d+2)) <|
   ck ((0:Int)≤w∧w<(l.length:Int)) <|
   ck ((0:Int)≤((d+2).tmod 4)∧((d+2).tmod 4)<4) <|
   some (!(decide (((gi l w.toNat).Next).get ((d+2).tmod 4)=(-1))))).bind fun t =>
  if t then
   some (l,9)
  else
   (Za5 l v d w o).bind fun x =>
   some (x,0)

/-! muntin/muntinlaw19.stick -/
def Zbd.s0:(List Za)×Int→Option (((List Za)×Int)⊕(List Za)):=fun (l,x1) =>
 if decide (x1<([(⟨0,0,1⟩:A3 Int),(⟨1,1,2⟩:A3 Int),(⟨2,2,3⟩:A3 Int),(⟨3,3,4⟩:A3 Int),(⟨4,3,0⟩:A3 Int),(⟨4,0,5⟩:A3 Int)].length:Int)) then
  ck ((0:Int)≤x1∧x1<([(⟨0,0,1⟩:A3 Int),(⟨1,1,2⟩:A3 Int),(⟨2,2,3⟩:A3 Int),(⟨3,3,4⟩:A3 Int),(⟨4,3,0⟩:A3 Int),(⟨4,0,5⟩:A3 Int)].length:Int)) <|
  (Zc2 l ((gi [(⟨0,0,1⟩:A3 Int),(⟨1,1,2⟩:A3 Int),(⟨2,2,3⟩:A3 Int),(⟨3,3,4⟩:A3 Int),(⟨4,3,0⟩:A3 Int),(⟨4,0,5⟩:A3 Int)] x1.toNat).get 0) ((gi [(⟨0,0,1⟩:A3 Int),(⟨1,1,2⟩:A3 Int),(⟨2,2,3⟩:A3 Int),(⟨3,3,4⟩:A3 Int),(⟨4,3,0⟩:A3 Int),(⟨4,0,5⟩:A3 Int)] x1.toNat).get 1) ((gi [(⟨0,0,1⟩:A3 Int),(⟨1,1,2⟩:A3 Int),(⟨2,2,3⟩:A3 Int),(⟨3,3,4⟩:A3 Int),(⟨4,3,0⟩:A3 Int),(⟨4,0,5⟩:A3 Int)] x1.toNat).get 2) 0).bind fun (x2,x3) =>
  ck (Zax (x1+1)) <|
  some (.inl (x2,x1+1))
 else
  some (.inr l)

def Zbd:Option (List Za) :=
 (zC 6).bind fun x =>
 (ZU Zbd.s0 big (x,0)).bind fun l1 =>
 some l1

/-! muntin/sep.Lines -/
def Ze1 (cells:List Za):Option ((List ZE)×Int) :=
 (ZdT cells).bind fun (x,x1) =>
 if !(decide (x1=0)) then
  some (([]:List ZE),x1)
 else
  (ZaW x).bind fun x2 =>
  some (x2,0)

/-! muntin/muntinlaw19.wakes -/
def Zb4:Option Bool :=
 (Zbd ).bind fun x =>
 (z9 x).bind fun (x1,x2) =>
 (Zbd ).bind fun x3 =>
 (Ze1 x3).bind fun (x4,x5) =>
 (zC 2).bind fun x6 =>
 (z9 x6).bind fun (x7,x8) =>
 (if ((((decide (x2=0))&&(decide ((x1.Open.length:Int)=0)))&&(decide (3<(x1.Graphs.H.length:Int))))&&(decide (x5=0)))&&(decide ((x4.length:Int)=5)) then
  ck ((0:Int)≤0∧0<(x4.length:Int)) <|
  some ((gi x4 (0:Int).toNat).Vertical)
 else
  some false).bind fun t =>
 some (t&&(decide (x8=13)))

/-! slices.Clone[[]muntin/api.Point,muntin/api.Point] -/
def Zb2 (s:List Zf):Option (List Zf) :=
 ck (s.length≤1000000000) <|
 some s
/-! muntin/muntinref19.Stretched -/
def zp.s0 (steps:List Int):(A10 Int)×(A10 Int)×Int→Option (((A10 Int)×(A10 Int)×Int)⊕((A10 Int)×(A10 Int))):=fun (x,y,i) =>
 if decide (i<10) then
  ck (Zax (2*i)) <|
  (
   if decide ((2*i)<(steps.length:Int)) then
    ck ((0:Int)≤(2*i)∧(2*i)<(steps.length:Int)) <|
    ck (inK .i64 (gi steps (2*i:Int).toNat)) <|
    ck (Zax (1+((gi steps (2*i:Int).toNat).tmod 5))) <|
    some (1+((gi steps (2*i:Int).toNat).tmod 5))
   else
    some 1).bind fun s =>
  ck (Zax ((2*i)+1)) <|
  (
   if decide (((2*i)+1)<(steps.length:Int)) then
    ck ((0:Int)≤((2*i)+1)∧((2*i)+1)<(steps.length:Int)) <|
    ck (inK .i64 (gi steps ((2*i)+1:Int).toNat)) <|
    ck (Zax (1+((gi steps ((2*i)+1:Int).toNat).tmod 5))) <|
    some (1+((gi steps ((2*i)+1:Int).toNat).tmod 5))
   else
    some 1).bind fun t =>
  ck (Zax (i-1)) <|
  ck ((0:Int)≤(i-1)∧(i-1)<10) <|
  ck (Zax ((x.get (i-1))+s)) <|
  ck ((0:Int)≤i∧i<10) <|
  ck (Zax ((y.get (i-1))+t)) <|
  ck (Zax (i+1)) <|
  some (.inl (x.set i ((x.get (i-1))+s),y.set i ((y.get (i-1))+t),i+1))
 else
  some (.inr (x,y))

def zp.s1 (at_:List Zf) (x1:A10 Int) (y1:A10 Int):(List Zf)×Int→Option (((List Zf)×Int)⊕(List Zf)):=fun (out,i1) =>
 if decide (i1<(at_.length:Int)) then
  ck ((0:Int)≤i1∧i1<(at_.length:Int)) <|
  ck ((0:Int)≤(((gi at_ i1.toNat).X).tmod 10)∧(((gi at_ i1.toNat).X).tmod 10)<10) <|
  ck ((0:Int)≤(((gi at_ i1.toNat).Y).tmod 10)∧(((gi at_ i1.toNat).Y).tmod 10)<10) <|
  ck (out.length+[(⟨x1.get (((gi at_ i1.toNat).X).tmod 10),y1.get (((gi at_ i1.toNat).Y).tmod 10)⟩:Zf)].length≤1000000000) <|
  ck (Zax (i1+1)) <|
  some (.inl (out++[(⟨x1.get (((gi at_ i1.toNat).X).tmod 10),y1.get (((gi at_ i1.toNat).Y).tmod 10)⟩:Zf)],i1+1))
 else
  some (.inr out)

def zp (at_:List Zf) (steps:List Int):Option (List Zf) :=
 (ZU (zp.s0 steps) big ((⟨0,0,0,0,0,0,0,0,0,0⟩:A10 Int),(⟨0,0,0,0,0,0,0,0,0,0⟩:A10 Int),1)).bind fun (x1,y1) =>
 (ZU (zp.s1 at_ x1 y1) big (([]:List Zf),0)).bind fun out1 =>
 some out1

/-! muntin/muntinref17.Straight -/
def Zag.s0 (l:List Za) (at_:List Zf):Int→Option (Int⊕(Unit⊕Unit)):=fun v =>
 if decide (v<(l.length:Int)) then
  ck ((0:Int)≤v∧v<(l.length:Int)) <|
  (if decide (0≤(((gi l v.toNat).Next).get 0)) then
   ck ((0:Int)≤(max (((gi l v.toNat).Next).get 0) 0)∧(max (((gi l v.toNat).Next).get 0) 0)<(at_.length:Int)) <|
   ck ((0:Int)≤v∧v<(at_.length:Int)) <|
   some ((!(decide ((gi at_ (max (((gi l v.toNat).Next).get 0) 0:Int).toNat).Y=(gi at_ v.toNat).Y)))||(decide (((gi at_ (max (((gi l v.toNat).Next).get 0) 0:Int).toNat).X)≤((gi at_ v.toNat).X))))
  else
   some false).bind fun t =>
  if t then
   some (.inr (.inr ()))
  else
   (if decide (0≤(((gi l v.toNat).Next).get 1)) then
    ck ((0:Int)≤(max (((gi l v.toNat).Next).get 1) 0)∧(max (((gi l v.toNat).Next).get 1) 0)<(at_.length:Int)) <|
    ck ((0:Int)≤v∧v<(at_.length:Int)) <|
    some ((!(decide ((gi at_ (max (((gi l v.toNat).Next).get 1) 0:Int).toNat).X=(gi at_ v.toNat).X)))||(decide (((gi at_ (max (((gi l v.toNat).Next).get 1) 0:Int).toNat).Y)≤((gi at_ v.toNat).Y))))
   else
    some false).bind fun t1 =>
   if t1 then
    some (.inr (.inr ()))
   else
    ck (Zax (v+1)) <|
    some (.inl (v+1))
 else
  some (.inr (.inl ()))

def Zag (l:List Za) (at_:List Zf):Option Bool :=
 (
  ZU (Zag.s0 l at_) big 0:Option (Unit⊕Unit)).bind fun o₁=>match o₁ with
 | .inl _ =>
  some true
 | .inr _ =>
  some false

/-! muntin/muntinref16.First -/
def Za7.s0 (l:List Za) (d:Int):Int×Int→Option ((Int×Int)⊕(Unit⊕Int)):=fun (v1,n) =>
 if decide (n≤(l.length:Int)) then
  ck (Zax (d+2)) <|
  ck ((0:Int)≤v1∧v1<(l.length:Int)) <|
  ck ((0:Int)≤((d+2).tmod 4)∧((d+2).tmod 4)<4) <|
  if decide ((((gi l v1.toNat).Next).get ((d+2).tmod 4))<0) then
   some (.inr (.inr v1))
  else
   ck (Zax (n+1)) <|
   some (.inl (((gi l v1.toNat).Next).get ((d+2).tmod 4),n+1))
 else
  some (.inr (.inl ()))

def Za7 (l:List Za) (v:Int) (d:Int):Option Int :=
 (
  ZU (Za7.s0 l d) big (v,0):Option (Unit⊕Int)).bind fun o₁=>match o₁ with
 | .inl _ =>
  some (-1)
 | .inr x =>
  some x

/-! muntin/muntinref16.chains -/
def ZD.s1 (firsts:List Int) (x:Int):Int→Option (Int⊕Int):=fun k_ =>
 (if decide (k_<(firsts.length:Int)) then
  ck ((0:Int)≤k_∧k_<(firsts.length:Int)) <|
  some (!(decide (gi firsts k_.toNat=x)))
 else
  some false).bind fun t =>
 if t then
  ck (Zax (k_+1)) <|
  some (.inl (k_+1))
 else
  some (.inr k_)

def ZD.s2 (l:List Za) (d:Int):(List Int)×Int→Option (((List Int)×Int)⊕(List Int)):=fun (c,w) =>
 if decide (0≤w) then
  ck (c.length+[w].length≤1000000000) <|
  ck ((0:Int)≤w∧w<(l.length:Int)) <|
  ck ((0:Int)≤d∧d<4) <|
  some (.inl (c++[w],((gi l w.toNat).Next).get d))
 else
  some (.inr c)

def ZD.s0 (l:List Za) (d:Int):(List Int)×(List Int)×(List (List Int))×Int→Option (((List Int)×(List Int)×(List (List Int))×Int)⊕(((List Int)×(List (List Int)))⊕Unit)):=fun (at_,firsts,out,v) =>
 if decide (v<(l.length:Int)) then
  (Za7 l v d).bind fun x =>
  if decide (x<0) then
   some (.inr (.inr ()))
  else
   (ZU (ZD.s1 firsts x) big 0).bind fun k_1 =>
   ck ((0:Int)≤v∧v<(at_.length:Int)) <|
   if decide (k_1=(firsts.length:Int)) then
    ck (firsts.length+[x].length≤1000000000) <|
    (ZU (ZD.s2 l d) big (([]:List Int),x)).bind fun c1 =>
    ck (out.length+1≤1000000000) <|
    ck (Zax (v+1)) <|
    some (.inl (at_.set v.toNat k_1,firsts++[x],out++[c1],v+1))
   else
    ck (Zax (v+1)) <|
    some (.inl (at_.set v.toNat k_1,firsts,out,v+1))
 else
  some (.inr (.inl (at_,out)))

def ZD (l:List Za) (d:Int):Option ((List Int)×(List (List Int))×Bool) :=
 ck ((0:Int)≤(l.length:Int)∧(l.length:Int)≤1000000000) <|
 (
  ZU (ZD.s0 l d) big (List.replicate ((l.length:Int):Int).toNat (0:Int),([]:List Int),([]:List (List Int)),0):Option (((List Int)×(List (List Int)))⊕Unit)).bind fun o₁=>match o₁ with
 | .inl (at_1,out1) =>
  some (at_1,out1,true)
 | .inr _ =>
  some (([]:List Int),([]:List (List Int)),false)

/-! muntin/muntinref16.Of -/
def ZbZ (l:List Za):Option (Zac×Bool) :=
 (ZD l 1).bind fun (x,x1,x2) =>
 (ZD l 0).bind fun (x3,x4,x5) =>
 if (!x2)||(!x5) then
  some ((⟨([]:List Int),([]:List Int),([]:List (List Int)),([]:List (List Int))⟩:Zac),false)
 else
  some ((⟨x,x3,x1,x4⟩:Zac),true)

/-! muntin/muntinref19.Lines -/
def zD.s0 (c:Zac):(List ze)×Int→Option (((List ze)×Int)⊕(List ze)):=fun (l,i) =>
 if decide (i<(c.Vert.length:Int)) then
  ck ((0:Int)≤i∧i<(c.Vert.length:Int)) <|
  if decide (1<((gi c.Vert i.toNat).length:Int)) then
   ck (l.length+[(⟨true,i⟩:ze)].length≤1000000000) <|
   ck (Zax (i+1)) <|
   some (.inl (l++[(⟨true,i⟩:ze)],i+1))
  else
   ck (Zax (i+1)) <|
   some (.inl (l,i+1))
 else
  some (.inr l)

def zD.s1 (c:Zac):(List ze)×Int→Option (((List ze)×Int)⊕(List ze)):=fun (l2,i1) =>
 if decide (i1<(c.Horz.length:Int)) then
  ck ((0:Int)≤i1∧i1<(c.Horz.length:Int)) <|
  if decide (1<((gi c.Horz i1.toNat).length:Int)) then
   ck (l2.length+[(⟨false,i1⟩:ze)].length≤1000000000) <|
   ck (Zax (i1+1)) <|
   some (.inl (l2++[(⟨false,i1⟩:ze)],i1+1))
  else
   ck (Zax (i1+1)) <|
   some (.inl (l2,i1+1))
 else
  some (.inr l2)

def zD (c:Zac):Option (List ze) :=
 (ZU (zD.s0 c) big (([]:List ze),0)).bind fun l1 =>
 (ZU (zD.s1 c) big (l1,0)).bind fun l3 =>
 some l3

/-! muntin/muntinref16.Meet -/
def Zas.s0 (c:Zac) (vertical:Bool) (i:Int) (other:Bool) (k_:Int):Int→Option (Int⊕(Unit⊕Unit)):=fun v =>
 if decide (v<(c.X.length:Int)) then
  ck ((0:Int)≤v∧v<(c.Y.length:Int)) <|
  (
   if vertical then
    ck ((0:Int)≤v∧v<(c.X.length:Int)) <|
    some (decide (gi c.X v.toNat=i))
   else
    some (decide (gi c.Y v.toNat=i))).bind fun a =>
  if other then
   ck ((0:Int)≤v∧v<(c.X.length:Int)) <|
   if a&&(decide (gi c.X v.toNat=k_)) then
    some (.inr (.inr ()))
   else
    ck (Zax (v+1)) <|
    some (.inl (v+1))
  else
   if a&&(decide (gi c.Y v.toNat=k_)) then
    some (.inr (.inr ()))
   else
    ck (Zax (v+1)) <|
    some (.inl (v+1))
 else
  some (.inr (.inl ()))

def Zas (c:Zac) (vertical:Bool) (i:Int) (other:Bool) (k_:Int):Option Bool :=
 (
  ZU (Zas.s0 c vertical i other k_) big 0:Option (Unit⊕Unit)).bind fun o₁=>match o₁ with
 | .inl _ =>
  some false
 | .inr _ =>
  some true

/-! muntin/muntinref19.ends -/
def Zbv (c:Zac) (l:ze) (at_:List Zf):Option (Zf×Zf) :=
 (
  if l.Vertical then
   some c.Vert
  else
   some c.Horz).bind fun x =>
 ck ((0:Int)≤l.Place∧l.Place<(x.length:Int)) <|
 ck ((0:Int)≤0∧0<((gi x (l.Place:Int).toNat).length:Int)) <|
 ck ((0:Int)≤(gi (gi x (l.Place:Int).toNat) (0:Int).toNat)∧(gi (gi x (l.Place:Int).toNat) (0:Int).toNat)<(at_.length:Int)) <|
 ck (Zax (((gi x (l.Place:Int).toNat).length:Int)-1)) <|
 ck ((0:Int)≤(((gi x (l.Place:Int).toNat).length:Int)-1)∧(((gi x (l.Place:Int).toNat).length:Int)-1)<((gi x (l.Place:Int).toNat).length:Int)) <|
 ck ((0:Int)≤(gi (gi x (l.Place:Int).toNat) (((gi x (l.Place:Int).toNat).length:Int)-1:Int).toNat)∧(gi (gi x (l.Place:Int).toNat) (((gi x (l.Place:Int).toNat).length:Int)-1:Int).toNat)<(at_.length:Int)) <|
 some (gi at_ (gi (gi x (l.Place:Int).toNat) (0:Int).toNat:Int).toNat,gi at_ (gi (gi x (l.Place:Int).toNat) (((gi x (l.Place:Int).toNat).length:Int)-1:Int).toNat:Int).toNat)

/-! muntin/muntinref19.Real -/
def zf.s1 (at_:List Zf) (x1:Zac) (x3:List ze) (i:Int):Int→Option (Int⊕(Unit⊕Unit)):=fun k_ =>
 if decide (k_<(x3.length:Int)) then
  ck ((0:Int)≤i∧i<(x3.length:Int)) <|
  ck ((0:Int)≤k_∧k_<(x3.length:Int)) <|
  (Zas x1 ((gi x3 i.toNat).Vertical) ((gi x3 i.toNat).Place) ((gi x3 k_.toNat).Vertical) ((gi x3 k_.toNat).Place)).bind fun x4 =>
  (Zbv x1 (gi x3 i.toNat) at_).bind fun (x5,x6) =>
  (Zbv x1 (gi x3 k_.toNat) at_).bind fun (x7,x8) =>
  if (!x4)&&(!((((decide (x6.X<x7.X))||(decide (x8.X<x5.X)))||(decide (x6.Y<x7.Y)))||(decide (x8.Y<x5.Y)))) then
   some (.inr (.inr ()))
  else
   ck (Zax (k_+1)) <|
   some (.inl (k_+1))
 else
  some (.inr (.inl ()))

def zf.s0 (at_:List Zf) (x1:Zac) (x3:List ze):Int→Option (Int⊕(Unit⊕Unit)):=fun i =>
 if decide (i<(x3.length:Int)) then
  ck (Zax (i+1)) <|
  (
   ZU (zf.s1 at_ x1 x3 i) big (i+1):Option (Unit⊕Unit)).bind fun o₃=>match o₃ with
  | .inl _ =>
   some (.inl (i+1))
  | .inr _ =>
   some (.inr (.inr ()))
 else
  some (.inr (.inl ()))

def zf (l:List Za) (at_:List Zf):Option Bool :=
 if !(decide ((at_.length:Int)=(l.length:Int))) then
  some false
 else
  (Zag l at_).bind fun x =>
  if !x then
   some false
  else
   (ZbZ l).bind fun (x1,x2) =>
   (zD x1).bind fun x3 =>
   (
    ZU (zf.s0 at_ x1 x3) big 0:Option (Unit⊕Unit)).bind fun o₁=>match o₁ with
   | .inl _ =>
    some true
   | .inr _ =>
    some false

/-! muntin/muntinref03.Fit -/
def Za4.s0 (arcs:List Zn) (x:List Int):Int→Option (Int⊕(Unit⊕Unit)):=fun i =>
 if decide (i<(arcs.length:Int)) then
  ck ((0:Int)≤i∧i<(arcs.length:Int)) <|
  ck ((0:Int)≤((gi arcs i.toNat).To)∧((gi arcs i.toNat).To)<(x.length:Int)) <|
  ck ((0:Int)≤((gi arcs i.toNat).From)∧((gi arcs i.toNat).From)<(x.length:Int)) <|
  if decide ((gi x ((gi arcs i.toNat).To:Int).toNat)≤(gi x ((gi arcs i.toNat).From:Int).toNat)) then
   some (.inr (.inr ()))
  else
   ck (Zax (i+1)) <|
   some (.inl (i+1))
 else
  some (.inr (.inl ()))

def Za4 (arcs:List Zn) (x:List Int):Option Bool :=
 (
  ZU (Za4.s0 arcs x) big 0:Option (Unit⊕Unit)).bind fun o₁=>match o₁ with
 | .inl _ =>
  some true
 | .inr _ =>
  some false

/-! muntin/muntinlaw19.SepHolds -/
def ZR.s0 (raw:List Zf) (x6:List Zf):(List Zf)×Int→Option (((List Zf)×Int)⊕(List Zf)):=fun (wild,x7) =>
 if decide (x7<(x6.length:Int)) then
  if decide (x7<(raw.length:Int)) then
   ck ((0:Int)≤x7∧x7<(wild.length:Int)) <|
   ck ((0:Int)≤x7∧x7<(raw.length:Int)) <|
   ck (Zax (((gi wild x7.toNat).X)+(((gi raw x7.toNat).X).tmod 3))) <|
   ck ((0:Int)≤x7∧x7<((wild.set x7.toNat ({ gi wild x7.toNat with X:=((gi wild x7.toNat).X)+(((gi raw x7.toNat).X).tmod 3) })).length:Int)) <|
   ck (Zax (((gi (wild.set x7.toNat ({ gi wild x7.toNat with X:=((gi wild x7.toNat).X)+(((gi raw x7.toNat).X).tmod 3) })) x7.toNat).Y)+(((gi raw x7.toNat).Y).tmod 3))) <|
   ck (Zax (x7+1)) <|
   some (.inl ((wild.set x7.toNat ({ gi wild x7.toNat with X:=((gi wild x7.toNat).X)+(((gi raw x7.toNat).X).tmod 3) })).set x7.toNat ({ gi (wild.set x7.toNat ({ gi wild x7.toNat with X:=((gi wild x7.toNat).X)+(((gi raw x7.toNat).X).tmod 3) })) x7.toNat with Y:=((gi (wild.set x7.toNat ({ gi wild x7.toNat with X:=((gi wild x7.toNat).X)+(((gi raw x7.toNat).X).tmod 3) })) x7.toNat).Y)+(((gi raw x7.toNat).Y).tmod 3) }),x7+1))
  else
   ck (Zax (x7+1)) <|
   some (.inl (wild,x7+1))
 else
  some (.inr wild)

def ZR.s2 (raw:List Zf) (x1:List Zf) (x2:Zb9) (wild1:List Zf) (x8:List Zf) (x9:Int):(List Int)×(List Int)×Int→Option (((List Int)×(List Int)×Int)⊕((List Int)×(List Int))):=fun (x11,y,x12) =>
 if decide (x12<((gi [x1,x8,wild1,raw.take (min (raw.length:Int) 20:Int).toNat] x9.toNat).length:Int)) then
  ck ((0:Int)≤x12∧x12<((gi [x1,x8,wild1,raw.take (min (raw.length:Int) 20:Int).toNat] x9.toNat).length:Int)) <|
  ck ((0:Int)≤x12∧x12<(x2.Graphs.Chains.X.length:Int)) <|
  ck ((0:Int)≤x12∧x12<(x2.Graphs.Chains.Y.length:Int)) <|
  ck ((0:Int)≤(gi x2.Graphs.Chains.X x12.toNat)∧(gi x2.Graphs.Chains.X x12.toNat)<(x11.length:Int)) <|
  ck ((0:Int)≤(gi x2.Graphs.Chains.Y x12.toNat)∧(gi x2.Graphs.Chains.Y x12.toNat)<(y.length:Int)) <|
  ck (Zax (x12+1)) <|
  some (.inl (x11.set (gi x2.Graphs.Chains.X x12.toNat:Int).toNat ((gi (gi [x1,x8,wild1,raw.take (min (raw.length:Int) 20:Int).toNat] x9.toNat) x12.toNat).X),y.set (gi x2.Graphs.Chains.Y x12.toNat:Int).toNat ((gi (gi [x1,x8,wild1,raw.take (min (raw.length:Int) 20:Int).toNat] x9.toNat) x12.toNat).Y),x12+1))
 else
  some (.inr (x11,y))

def ZR.s1 (raw:List Zf) (x:List Za) (x1:List Zf) (x2:Zb9) (wild1:List Zf) (x8:List Zf):Int→Option (Int⊕(Unit⊕Unit)):=fun x9 =>
 if decide (x9<([x1,x8,wild1,raw.take (min (raw.length:Int) 20:Int).toNat].length:Int)) then
  ck ((0:Int)≤x9∧x9<([x1,x8,wild1,raw.take (min (raw.length:Int) 20:Int).toNat].length:Int)) <|
  (zf x (gi [x1,x8,wild1,raw.take (min (raw.length:Int) 20:Int).toNat] x9.toNat)).bind fun x10 =>
  if !x10 then
   ck (Zax (x9+1)) <|
   some (.inl (x9+1))
  else
   ck ((0:Int)≤(x2.Graphs.Chains.Vert.length:Int)∧(x2.Graphs.Chains.Vert.length:Int)≤1000000000) <|
   ck ((0:Int)≤(x2.Graphs.Chains.Horz.length:Int)∧(x2.Graphs.Chains.Horz.length:Int)≤1000000000) <|
   (ZU (ZR.s2 raw x1 x2 wild1 x8 x9) big (List.replicate ((x2.Graphs.Chains.Vert.length:Int):Int).toNat (0:Int),List.replicate ((x2.Graphs.Chains.Horz.length:Int):Int).toNat (0:Int),0)).bind fun (x13,y1) =>
   (Za4 x2.Graphs.H x13).bind fun x14 =>
   (if !x14 then
    some true
   else
    (Za4 x2.Graphs.V y1).bind fun x15 =>
    some (!x15)).bind fun t =>
   if t then
    some (.inr (.inr ()))
   else
    ck (Zax (x9+1)) <|
    some (.inl (x9+1))
 else
  some (.inr (.inl ()))

def ZR (z:zU) (steps:List Int) (raw:List Zf):Option Bool :=
 (ZP z 14).bind fun (x,x1) =>
 (z9 x).bind fun (x2,x3) =>
 (Zb4 ).bind fun x4 =>
 if (!x4)||(!(decide (x3=0))) then
  (Zb4 ).bind fun x5 =>
  some x5
 else
  (Zb2 x1).bind fun x6 =>
  (ZU (ZR.s0 raw x6) big (x6,0)).bind fun wild1 =>
  (zp x1 steps).bind fun x8 =>
  ck ((0:Int)≤(min (raw.length:Int) 20)∧(min (raw.length:Int) 20)≤(raw.length:Int)) <|
  (
   ZU (ZR.s1 raw x x1 x2 wild1 x8) big 0:Option (Unit⊕Unit)).bind fun o₃=>match o₃ with
  | .inl _ =>
   (zf x x1).bind fun x16 =>
   some x16
  | .inr _ =>
   some false

end Mu
