/- What the functions work out. -/
import Derived.Test.YtfdidkebomeiaaaMuA
import Derived.Test.YtfdidkebomeiaaaMuR
set_option linter.unusedVariables false
set_option linter.unnecessarySimpa false
set_option linter.unusedSimpArgs false
set_option maxHeartbeats 2000000
set_option maxRecDepth 10000
namespace Mu
open Go (IntKind BinOp UnOp)
structure Zah where
 At:List Int
 Bits:List Int
 Own:List Int
 deriving DecidableEq,Inhabited
abbrev ZjO:Enc Int:=⟨1,fun x=>[.i .u8 x],fun _=>rfl⟩
theorem ZjO.one (x:Int):(ZjO.c x).all V.one=true:=rfl
abbrev Zmp:Enc Int:=⟨1,fun x=>[.i .i8 x],fun _=>rfl⟩
theorem Zmp.one (x:Int):(Zmp.c x).all V.one=true:=rfl
abbrev e_bool:Enc Bool:=⟨1,fun x=>[.b x],fun _=>rfl⟩
theorem e_bool.one (x:Bool):(e_bool.c x).all V.one=true:=rfl
structure Za where
 Next:A4 Int
 Owner:A4 Int
 deriving DecidableEq,Inhabited
structure Zl where
 X:Int
 Y:Int
 deriving DecidableEq,Inhabited
abbrev Zm:Enc Zl:=⟨2,fun x=>[.i .i64 x.X,.i .i64 x.Y],fun _=>rfl⟩
theorem Zm.one (x:Zl):(Zm.c x).all V.one=true:=rfl
theorem Zm.same (x y:Zl):ZaW [.i,.i] (Zm.c x) (Zm.c y)=some (decide (x=y)):=by
 obtain ⟨x1,x2⟩:=x;obtain ⟨y1,y2⟩:=y;refine (ZcV (ZcV Zg8)).trans ?_;congr 1;rw [Bool.eq_iff_iff];simp [and_assoc]
abbrev Zf:Enc Za:=⟨8,fun x=>[.i .i64 x.Next.a,.i .i64 x.Next.b,.i .i64 x.Next.c,.i .i64 x.Next.d,.i .i64 x.Owner.a,.i .i64 x.Owner.b,.i .i64 x.Owner.c,.i .i64 x.Owner.d],fun _=>rfl⟩
theorem Zf.one (x:Za):(Zf.c x).all V.one=true:=rfl
theorem Zf.same (x y:Za):ZaW [.i,.i,.i,.i,.i,.i,.i,.i] (Zf.c x) (Zf.c y)=some (decide (x=y)):=by
 obtain ⟨⟨x1,x2,x3,x4⟩,⟨x5,x6,x7,x8⟩⟩:=x;obtain ⟨⟨y1,y2,y3,y4⟩,⟨y5,y6,y7,y8⟩⟩:=y;refine (ZcV (ZcV (ZcV (ZcV (ZcV (ZcV (ZcV (ZcV Zg8)))))))).trans ?_;congr 1;rw [Bool.eq_iff_iff];simp [and_assoc]
structure ZC where
 Cell:Int
 Dir:Int
 deriving DecidableEq,Inhabited
abbrev Zy:Enc ZC:=⟨2,fun x=>[.i .i64 x.Cell,.i .i64 x.Dir],fun _=>rfl⟩
theorem Zy.one (x:ZC):(Zy.c x).all V.one=true:=rfl
theorem Zy.same (x y:ZC):ZaW [.i,.i] (Zy.c x) (Zy.c y)=some (decide (x=y)):=by
 obtain ⟨x1,x2⟩:=x;obtain ⟨y1,y2⟩:=y;refine (ZcV (ZcV Zg8)).trans ?_;congr 1;rw [Bool.eq_iff_iff];simp [and_assoc]
abbrev Zdw:Enc (A4 Int):=⟨4,fun x=>[.i .i64 x.a,.i .i64 x.b,.i .i64 x.c,.i .i64 x.d],fun _=>rfl⟩
theorem Zdw.one (x:A4 Int):(Zdw.c x).all V.one=true:=rfl
structure Zbg where
 cells:List Za
 deriving DecidableEq,Inhabited
structure Z6 where
 At:Int
 Part:Int
 deriving DecidableEq,Inhabited
abbrev Z1:Enc Z6:=⟨2,fun x=>[.i .i64 x.At,.i .i64 x.Part],fun _=>rfl⟩
theorem Z1.one (x:Z6):(Z1.c x).all V.one=true:=rfl
structure Z2 where
 Cell:Int
 Dir:Int
 deriving DecidableEq,Inhabited
abbrev Zg:Enc Z2:=⟨2,fun x=>[.i .i64 x.Cell,.i .i64 x.Dir],fun _=>rfl⟩
theorem Zg.one (x:Z2):(Zg.c x).all V.one=true:=rfl
structure zQ where
 X:List Int
 Y:List Int
 Vert:List (List Int)
 Horz:List (List Int)
 deriving DecidableEq,Inhabited
structure Zav where
 From:Int
 To:Int
 Weight:Int
 deriving DecidableEq,Inhabited
abbrev ZaU:Enc Zav:=⟨3,fun x=>[.i .i64 x.From,.i .i64 x.To,.i .i64 x.Weight],fun _=>rfl⟩
theorem ZaU.one (x:Zav):(ZaU.c x).all V.one=true:=rfl
structure zp where
 Vertical:Bool
 Place:Int
 deriving DecidableEq,Inhabited
abbrev zF:Enc zp:=⟨2,fun x=>[.b x.Vertical,.i .i64 x.Place],fun _=>rfl⟩
theorem zF.one (x:zp):(zF.c x).all V.one=true:=rfl
def Zji (x:Int):Prop:=Wf .u8 x
def ZlE (x:Int):Prop:=Wf .i8 x
def Zj6 (x:Bool):Prop:=True
/-! muntin/muntinref10.New -/
def zw.s1 (v:Int):(List Za)×Int→Option (((List Za)×Int)⊕(List Za)):=fun (l2,d) =>
 if decide (d<4) then
  ck ((0:Int)≤v∧v<(l2.length:Int)) <|
  ck ((0:Int)≤d∧d<4) <|
  ck (Zan (d+1)) <|
  some (.inl (l2.set v.toNat ({ gi l2 v.toNat with Next:=((gi l2 v.toNat).Next).set d (-1) }),d+1))
 else
  some (.inr l2)

def zw.s0 (n:Int):(List Za)×Int→Option (((List Za)×Int)⊕(List Za)):=fun (l,v) =>
 if decide (v<n) then
  (ZV (zw.s1 v) big (l,0)).bind fun l3 =>
  ck (Zan (v+1)) <|
  some (.inl (l3,v+1))
 else
  some (.inr l)

def zw (n:Int):Option (List Za) :=
 ck ((0:Int)≤n∧n≤1000000000) <|
 (ZV (zw.s0 n) big (List.replicate n.toNat (⟨⟨0,0,0,0⟩,⟨0,0,0,0⟩⟩:Za),0)).bind fun l1 =>
 some l1

/-! muntin/muntinref10.Nearest -/
def zm.s0 (at_:List Zl) (i:Int) (d:Int):Int×Int→Option ((Int×Int)⊕Int):=fun (best,k_) =>
 if decide (k_<(at_.length:Int)) then
  (if decide (d=0) then
   ck ((0:Int)≤k_∧k_<(at_.length:Int)) <|
   ck ((0:Int)≤i∧i<(at_.length:Int)) <|
   some (decide ((gi at_ k_.toNat).Y=(gi at_ i.toNat).Y))
  else
   some false).bind fun t =>
  (if t then
   ck ((0:Int)≤k_∧k_<(at_.length:Int)) <|
   ck ((0:Int)≤i∧i<(at_.length:Int)) <|
   some (decide (((gi at_ i.toNat).X)<((gi at_ k_.toNat).X)))
  else
   some false).bind fun t1 =>
  (if t1 then
   (if decide (best<0) then
    some true
   else
    ck ((0:Int)≤k_∧k_<(at_.length:Int)) <|
    ck ((0:Int)≤best∧best<(at_.length:Int)) <|
    some (decide (((gi at_ k_.toNat).X)<((gi at_ best.toNat).X)))).bind fun t3 =>
   some t3
  else
   some false).bind fun t2 =>
  (
   if t2 then
    some k_
   else
    some best).bind fun best2 =>
  (if decide (d=1) then
   ck ((0:Int)≤k_∧k_<(at_.length:Int)) <|
   ck ((0:Int)≤i∧i<(at_.length:Int)) <|
   some (decide ((gi at_ k_.toNat).X=(gi at_ i.toNat).X))
  else
   some false).bind fun t4 =>
  (if t4 then
   ck ((0:Int)≤k_∧k_<(at_.length:Int)) <|
   ck ((0:Int)≤i∧i<(at_.length:Int)) <|
   some (decide (((gi at_ i.toNat).Y)<((gi at_ k_.toNat).Y)))
  else
   some false).bind fun t5 =>
  (if t5 then
   (if decide (best2<0) then
    some true
   else
    ck ((0:Int)≤k_∧k_<(at_.length:Int)) <|
    ck ((0:Int)≤best2∧best2<(at_.length:Int)) <|
    some (decide (((gi at_ k_.toNat).Y)<((gi at_ best2.toNat).Y)))).bind fun t7 =>
   some t7
  else
   some false).bind fun t6 =>
  if t6 then
   ck (Zan (k_+1)) <|
   some (.inl (k_,k_+1))
  else
   ck (Zan (k_+1)) <|
   some (.inl (best2,k_+1))
 else
  some (.inr best)

def zm (at_:List Zl) (i:Int) (d:Int):Option Int :=
 (ZV (zm.s0 at_ i d) big ((-1),0)).bind fun best1 =>
 some best1

/-! muntin/muntinref10.Crossed -/
def zl.s1 (at_:List Zl) (l:List Za) (i:Int) (w:Int) (a:Int):Int→Option (Int⊕(Unit⊕Unit)):=fun d =>
 if decide (d<2) then
  ck ((0:Int)≤a∧a<(l.length:Int)) <|
  ck ((0:Int)≤d∧d<4) <|
  if decide ((((gi l a.toNat).Next).get d)<0) then
   ck (Zan (d+1)) <|
   some (.inl (d+1))
  else
   ck ((0:Int)≤a∧a<(at_.length:Int)) <|
   ck ((0:Int)≤(((gi l a.toNat).Next).get d)∧(((gi l a.toNat).Next).get d)<(at_.length:Int)) <|
   (if decide ((gi at_ a.toNat).Y=(gi at_ (((gi l a.toNat).Next).get d:Int).toNat).Y) then
    ck ((0:Int)≤i∧i<(at_.length:Int)) <|
    ck ((0:Int)≤w∧w<(at_.length:Int)) <|
    some (decide ((gi at_ i.toNat).X=(gi at_ w.toNat).X))
   else
    some false).bind fun t =>
   (if t then
    ck ((0:Int)≤i∧i<(at_.length:Int)) <|
    some (decide (((gi at_ a.toNat).X)<((gi at_ i.toNat).X)))
   else
    some false).bind fun t1 =>
   (if t1 then
    ck ((0:Int)≤i∧i<(at_.length:Int)) <|
    some (decide (((gi at_ i.toNat).X)<((gi at_ (((gi l a.toNat).Next).get d:Int).toNat).X)))
   else
    some false).bind fun t2 =>
   (if t2 then
    ck ((0:Int)≤i∧i<(at_.length:Int)) <|
    some (decide (((gi at_ i.toNat).Y)<((gi at_ a.toNat).Y)))
   else
    some false).bind fun t3 =>
   (if t3 then
    ck ((0:Int)≤w∧w<(at_.length:Int)) <|
    some (decide (((gi at_ a.toNat).Y)<((gi at_ w.toNat).Y)))
   else
    some false).bind fun t4 =>
   if t4 then
    some (.inr (.inr ()))
   else
    (if decide ((gi at_ a.toNat).X=(gi at_ (((gi l a.toNat).Next).get d:Int).toNat).X) then
     ck ((0:Int)≤i∧i<(at_.length:Int)) <|
     ck ((0:Int)≤w∧w<(at_.length:Int)) <|
     some (decide ((gi at_ i.toNat).Y=(gi at_ w.toNat).Y))
    else
     some false).bind fun t5 =>
    (if t5 then
     ck ((0:Int)≤i∧i<(at_.length:Int)) <|
     some (decide (((gi at_ i.toNat).X)<((gi at_ a.toNat).X)))
    else
     some false).bind fun t6 =>
    (if t6 then
     ck ((0:Int)≤w∧w<(at_.length:Int)) <|
     some (decide (((gi at_ a.toNat).X)<((gi at_ w.toNat).X)))
    else
     some false).bind fun t7 =>
    (if t7 then
     ck ((0:Int)≤i∧i<(at_.length:Int)) <|
     some (decide (((gi at_ a.toNat).Y)<((gi at_ i.toNat).Y)))
    else
     some false).bind fun t8 =>
    (if t8 then
     ck ((0:Int)≤i∧i<(at_.length:Int)) <|
     some (decide (((gi at_ i.toNat).Y)<((gi at_ (((gi l a.toNat).Next).get d:Int).toNat).Y)))
    else
     some false).bind fun t9 =>
    if t9 then
     some (.inr (.inr ()))
    else
     ck (Zan (d+1)) <|
     some (.inl (d+1))
 else
  some (.inr (.inl ()))

def zl.s0 (at_:List Zl) (l:List Za) (i:Int) (w:Int):Int→Option (Int⊕(Unit⊕Unit)):=fun a =>
 if decide (a<(l.length:Int)) then
  (
   ZV (zl.s1 at_ l i w a) big 0:Option (Unit⊕Unit)).bind fun o₃=>match o₃ with
  | .inl _ =>
   ck (Zan (a+1)) <|
   some (.inl (a+1))
  | .inr _ =>
   some (.inr (.inr ()))
 else
  some (.inr (.inl ()))

def zl (at_:List Zl) (l:List Za) (i:Int) (w:Int):Option Bool :=
 (
  ZV (zl.s0 at_ l i w) big 0:Option (Unit⊕Unit)).bind fun o₁=>match o₁ with
 | .inl _ =>
  some false
 | .inr _ =>
  some true

/-! muntin/muntinref10.with -/
def zX.s0 (l:List Za) (v:Int) (d:Int) (w:Int) (o:Int):(List Za)×Int→Option (((List Za)×Int)⊕(List Za)):=fun (out,i) =>
 if decide (i<(l.length:Int)) then
  ck ((0:Int)≤i∧i<(l.length:Int)) <|
  (
   if decide (i=v) then
    ck ((0:Int)≤d∧d<4) <|
    some ({ { gi l i.toNat with Next:=((gi l i.toNat).Next).set d w } with Owner:=(({ gi l i.toNat with Next:=((gi l i.toNat).Next).set d w }).Owner).set d o })
   else
    some (gi l i.toNat)).bind fun c =>
  if decide (i=w) then
   ck (Zan (d+2)) <|
   ck ((0:Int)≤((d+2).tmod 4)∧((d+2).tmod 4)<4) <|
   ck (out.length+[{ { c with Next:=c.Next.set ((d+2).tmod 4) v } with Owner:=(({ c with Next:=c.Next.set ((d+2).tmod 4) v }).Owner).set ((d+2).tmod 4) o }].length≤1000000000) <|
   ck (Zan (i+1)) <|
   some (.inl (out++[{ { c with Next:=c.Next.set ((d+2).tmod 4) v } with Owner:=(({ c with Next:=c.Next.set ((d+2).tmod 4) v }).Owner).set ((d+2).tmod 4) o }],i+1))
  else
   ck (out.length+[c].length≤1000000000) <|
   ck (Zan (i+1)) <|
   some (.inl (out++[c],i+1))
 else
  some (.inr out)

def zX (l:List Za) (v:Int) (d:Int) (w:Int) (o:Int):Option (List Za) :=
 (ZV (zX.s0 l v d w o) big (([]:List Za),0)).bind fun out1 =>
 some out1

/-! muntin/muntinref10.Make -/
def ZW.s1 (z:Zah) (at_:List Zl) (i:Int):Bool×Int→Option ((Bool×Int)⊕((List Zl)×Bool)):=fun (met,k_) =>
 if decide (k_<(at_.length:Int)) then
  (if met then
   some true
  else
   ck ((0:Int)≤k_∧k_<(at_.length:Int)) <|
   some (decide (gi at_ k_.toNat=(⟨(gi z.At i.toNat).tmod 8,((gi z.At i.toNat).tdiv 8).tmod 8⟩:Zl)))).bind fun t =>
  ck (Zan (k_+1)) <|
  some (.inl (t,k_+1))
 else
  some (.inr (at_,met))

def ZW.s0 (z:Zah) (most:Int):(List Zl)×Int→Option (((List Zl)×Int)⊕(List Zl)):=fun (at_,i) =>
 if (decide (i<(z.At.length:Int)))&&(decide ((at_.length:Int)<most)) then
  ck ((0:Int)≤i∧i<(z.At.length:Int)) <|
  ck (inK .i64 (gi z.At i.toNat)) <|
  ck ((8:Int)≠0∧Zan ((gi z.At i.toNat).tdiv 8)) <|
  (ZV (ZW.s1 z at_ i) big (false,0)).bind fun (at_2,met1) =>
  if !met1 then
   ck (at_2.length+[(⟨(gi z.At i.toNat).tmod 8,((gi z.At i.toNat).tdiv 8).tmod 8⟩:Zl)].length≤1000000000) <|
   ck (Zan (i+1)) <|
   some (.inl (at_2++[(⟨(gi z.At i.toNat).tmod 8,((gi z.At i.toNat).tdiv 8).tmod 8⟩:Zl)],i+1))
  else
   ck (Zan (i+1)) <|
   some (.inl (at_2,i+1))
 else
  some (.inr at_)

def ZW.s3 (i1:Int) (bits:Int) (at_6:List Zl) (own:Int):(List Za)×Int→Option (((List Za)×Int)⊕(List Za)):=fun (l4,d) =>
 if decide (d<2) then
  (zm at_6 i1 d).bind fun x1 =>
  ck ((0:Int)≤d) <|
  if (decide (ZR .u8 (zK .u8 bits d) 1=0))||(decide (x1<0)) then
   ck (Zan (d+1)) <|
   some (.inl (l4,d+1))
  else
   (zl at_6 l4 i1 x1).bind fun x2 =>
   if !x2 then
    (zX l4 i1 d x1 own).bind fun x3 =>
    ck (Zan (d+1)) <|
    some (.inl (x3,d+1))
   else
    ck (Zan (d+1)) <|
    some (.inl (l4,d+1))
 else
  some (.inr l4)

def ZW.s2 (z:Zah):(List Zl)×(List Za)×Int→Option (((List Zl)×(List Za)×Int)⊕((List Zl)×(List Za))):=fun (at_3,l,i1) =>
 if decide (i1<(at_3.length:Int)) then
  (
   if decide (i1<(z.Bits.length:Int)) then
    ck ((0:Int)≤i1∧i1<(z.Bits.length:Int)) <|
    some (at_3,l,gi z.Bits i1.toNat)
   else
    some (at_3,l,3)).bind fun (at_5,l2,bits) =>
  (
   if decide (i1<(z.Own.length:Int)) then
    ck ((0:Int)≤i1∧i1<(z.Own.length:Int)) <|
    ck (inK .i64 (gi z.Own i1.toNat)) <|
    if decide ((gi z.Own i1.toNat)<(-2)) then
     ck (Zan (-(gi z.Own i1.toNat))) <|
     some (at_5,l2,-(gi z.Own i1.toNat))
    else
     some (at_5,l2,gi z.Own i1.toNat)
   else
    some (at_5,l2,i1)).bind fun (at_6,l3,own) =>
  (ZV (ZW.s3 i1 bits at_6 own) big (l3,0)).bind fun l5 =>
  ck (Zan (i1+1)) <|
  some (.inl (at_6,l5,i1+1))
 else
  some (.inr (at_3,l))

def ZW (z:Zah) (most:Int):Option ((List Za)×(List Zl)) :=
 (ZV (ZW.s0 z most) big (([]:List Zl),0)).bind fun at_1 =>
 (zw (at_1.length:Int)).bind fun x =>
 (ZV (ZW.s2 z) big (at_1,x,0)).bind fun (at_4,l1) =>
 some (l1,at_4)

/-! muntin/compass.Good -/
def Zbn (d:Int):Option Bool :=
 some ((decide (0≤d))&&(decide (d≤3)))

/-! muntin/compass.Left -/
def Za4 (d:Int) (times:Int):Option Int :=
 (Zbn d).bind fun x =>
 if !x then
  some 0
 else
  ck (Zan (d+(times.tmod 4))) <|
  ck (Zan ((d+(times.tmod 4))+4)) <|
  some (((d+(times.tmod 4))+4).tmod 4)

/-! muntin/grid.side -/
def Zdz (cells:List Za) (v:Int) (d:Int):Option Int :=
 ck ((0:Int)≤v∧v<(cells.length:Int)) <|
 ck ((0:Int)≤d∧d<4) <|
 if decide (((gi cells v.toNat).Next).get d=(-1)) then
  if !(decide (((gi cells v.toNat).Owner).get d=0)) then
   some 9
  else
   some 0
 else
  if ((decide ((((gi cells v.toNat).Next).get d)<0))||(decide ((cells.length:Int)≤(((gi cells v.toNat).Next).get d))))||(decide (((gi cells v.toNat).Next).get d=v)) then
   some 3
  else
   (Za4 d 2).bind fun x =>
   ck ((0:Int)≤(((gi cells v.toNat).Next).get d)∧(((gi cells v.toNat).Next).get d)<(cells.length:Int)) <|
   ck ((0:Int)≤x∧x<4) <|
   if ((!(decide (((gi cells (((gi cells v.toNat).Next).get d:Int).toNat).Next).get x=v)))||(!(decide (((gi cells (((gi cells v.toNat).Next).get d:Int).toNat).Owner).get x=((gi cells v.toNat).Owner).get d))))||(decide ((((gi cells v.toNat).Owner).get d)<(-2))) then
    some 9
   else
    some 0

/-! muntin/grid.Check -/
def Zag.s1 (cells:List Za) (x:Int):Int→Option (Int⊕(Unit⊕Int)):=fun x2 =>
 if decide (x2<4) then
  (Zdz cells x x2).bind fun x4 =>
  if !(decide (x4=0)) then
   some (.inr (.inr x4))
  else
   ck (Zan (x2+1)) <|
   some (.inl (x2+1))
 else
  some (.inr (.inl ()))

def Zag.s0 (cells:List Za):Int→Option (Int⊕(Unit⊕Int)):=fun x =>
 if decide (x<(cells.length:Int)) then
  (
   ZV (Zag.s1 cells x) big 0:Option (Unit⊕Int)).bind fun o₃=>match o₃ with
  | .inl _ =>
   ck (Zan (x+1)) <|
   some (.inl (x+1))
  | .inr x3 =>
   some (.inr (.inr x3))
 else
  some (.inr (.inl ()))

def Zag (cells:List Za):Option Int :=
 if decide (4096<(cells.length:Int)) then
  some 6
 else
  (
   ZV (Zag.s0 cells) big 0:Option (Unit⊕Int)).bind fun o₁=>match o₁ with
  | .inl _ =>
   some 0
  | .inr x1 =>
   some x1

/-! math/bits.Mul64 -/
def Zej (x:Int) (y:Int):Option (Int×Int) :=
 some (Zbs .u64 (Zbs .u64 (Zae .u64 (zK .u64 x 32) (zK .u64 y 32)) (zK .u64 (Zbs .u64 (Zae .u64 (zK .u64 x 32) (ZR .u64 y 4294967295)) (zK .u64 (Zae .u64 (ZR .u64 x 4294967295) (ZR .u64 y 4294967295)) 32)) 32)) (zK .u64 (Zbs .u64 (ZR .u64 (Zbs .u64 (Zae .u64 (zK .u64 x 32) (ZR .u64 y 4294967295)) (zK .u64 (Zae .u64 (ZR .u64 x 4294967295) (ZR .u64 y 4294967295)) 32)) 4294967295) (Zae .u64 (ZR .u64 x 4294967295) (zK .u64 y 32))) 32),Zae .u64 x y)

/-! math/bits.Mul -/
def ZdP (x:Int) (y:Int):Option (Int×Int) :=
 (Zej x y).bind fun (x1,x2) =>
 some (x1,x2)

/-! slices.Repeat[[]int,int] -/
def ZaD.s0:(List Int)×Int→Option (((List Int)×Int)⊕(List Int)):=fun (newslice,n) =>
 if decide (n<(newslice.length:Int)) then
  ck ((0:Int)≤n∧n≤(newslice.length:Int)) <|
  ck (Zan (n+((min (newslice.take n.toNat).length (newslice.drop n.toNat).length:Nat):Int))) <|
  some (.inl (newslice.take n.toNat++((newslice.take n.toNat).take (newslice.drop n.toNat).length++(newslice.drop n.toNat).drop (newslice.take n.toNat).length),n+((min (newslice.take n.toNat).length (newslice.drop n.toNat).length:Nat):Int)))
 else
  some (.inr newslice)

def ZaD (x:List Int) (count:Int):Option (List Int) :=
 (
  if decide (count<0) then
   none
  else
   some ()).bind fun _ =>
 ck (inK .u64 (x.length:Int)) <|
 ck (inK .u64 count) <|
 (ZdP (x.length:Int) count).bind fun (x1,x2) =>
 (
  if (decide (0<x1))||(decide (9223372036854775807<x2)) then
   none
  else
   some ()).bind fun _ =>
 ck (inK .i64 x2) <|
 ck ((0:Int)≤x2∧x2≤1000000000) <|
 (ZV ZaD.s0 big (x.take (List.replicate x2.toNat (0:Int)).length++(List.replicate x2.toNat (0:Int)).drop x.length,((min x.length (List.replicate x2.toNat (0:Int)).length:Nat):Int))).bind fun newslice1 =>
 some newslice1

/-! muntin/join.spread -/
def Zbf.s1 (cells:List Za) (l:List Int):(List Int)×(List Int)×(List Int)×(List Bool)×Int→Option (((List Int)×(List Int)×(List Int)×(List Bool)×Int)⊕((List Int)×(List Int)×(List Int)×(List Bool))):=fun (from_2,dir2,l1,met1,x2) =>
 if decide (x2<4) then
  ck ((0:Int)≤(gi l (0:Int).toNat)∧(gi l (0:Int).toNat)<(cells.length:Int)) <|
  ck ((0:Int)≤x2∧x2<4) <|
  (if decide (0≤(((gi cells (gi l (0:Int).toNat:Int).toNat).Next).get x2)) then
   ck ((0:Int)≤(((gi cells (gi l (0:Int).toNat:Int).toNat).Next).get x2)∧(((gi cells (gi l (0:Int).toNat:Int).toNat).Next).get x2)<(met1.length:Int)) <|
   some (!(gi met1 (((gi cells (gi l (0:Int).toNat:Int).toNat).Next).get x2:Int).toNat))
  else
   some false).bind fun t =>
  if t then
   ck ((0:Int)≤(((gi cells (gi l (0:Int).toNat:Int).toNat).Next).get x2)∧(((gi cells (gi l (0:Int).toNat:Int).toNat).Next).get x2)<(met1.length:Int)) <|
   ck ((0:Int)≤(((gi cells (gi l (0:Int).toNat:Int).toNat).Next).get x2)∧(((gi cells (gi l (0:Int).toNat:Int).toNat).Next).get x2)<(from_2.length:Int)) <|
   ck ((0:Int)≤(((gi cells (gi l (0:Int).toNat:Int).toNat).Next).get x2)∧(((gi cells (gi l (0:Int).toNat:Int).toNat).Next).get x2)<(dir2.length:Int)) <|
   ck (l1.length+[((gi cells (gi l (0:Int).toNat:Int).toNat).Next).get x2].length≤1000000000) <|
   ck (Zan (x2+1)) <|
   some (.inl (from_2.set (((gi cells (gi l (0:Int).toNat:Int).toNat).Next).get x2:Int).toNat (gi l (0:Int).toNat),dir2.set (((gi cells (gi l (0:Int).toNat:Int).toNat).Next).get x2:Int).toNat x2,l1++[((gi cells (gi l (0:Int).toNat:Int).toNat).Next).get x2],met1.set (((gi cells (gi l (0:Int).toNat:Int).toNat).Next).get x2:Int).toNat true,x2+1))
  else
   ck (Zan (x2+1)) <|
   some (.inl (from_2,dir2,l1,met1,x2+1))
 else
  some (.inr (from_2,dir2,l1,met1))

def Zbf.s0 (cells:List Za):(List Int)×(List Int)×(List Int)×(List Bool)→Option (((List Int)×(List Int)×(List Int)×(List Bool))⊕((List Int)×(List Int))):=fun (from_,dir,l,met) =>
 if decide (0<(l.length:Int)) then
  ck ((0:Int)≤0∧0<(l.length:Int)) <|
  ck ((0:Int)≤1∧1≤(l.length:Int)) <|
  (ZV (Zbf.s1 cells l) big (from_,dir,l.drop (1:Int).toNat,met,0)).bind fun (from_3,dir3,l2,met2) =>
  some (.inl (from_3,dir3,l2,met2))
 else
  some (.inr (from_,dir))

def Zbf (cells:List Za) (v:Int):Option ((List Int)×(List Int)) :=
 (ZaD ([(-1)]:List Int) (cells.length:Int)).bind fun x =>
 (ZaD ([(-1)]:List Int) (cells.length:Int)).bind fun x1 =>
 ck ((0:Int)≤(cells.length:Int)∧(cells.length:Int)≤1000000000) <|
 ck ((0:Int)≤v∧v<((List.replicate ((cells.length:Int):Int).toNat false).length:Int)) <|
 (ZV (Zbf.s0 cells) big (x,x1,[v],(List.replicate ((cells.length:Int):Int).toNat false).set v.toNat true)).bind fun (from_1,dir1) =>
 some (from_1,dir1)

/-! muntin/join.Parts -/
def Zbk.s1 (cells:List Za) (x1:Int) (x3:List Int):(List Bool)×(List Int)×Int→Option (((List Bool)×(List Int)×Int)⊕((List Bool)×(List Int))):=fun (met1,part,x4) =>
 if decide (x4<(cells.length:Int)) then
  (if decide (x4=x1) then
   some true
  else
   ck ((0:Int)≤x4∧x4<(x3.length:Int)) <|
   some (decide (0≤(gi x3 x4.toNat)))).bind fun t =>
  if t then
   ck ((0:Int)≤x4∧x4<(met1.length:Int)) <|
   ck (part.length+[x4].length≤1000000000) <|
   ck (Zan (x4+1)) <|
   some (.inl (met1.set x4.toNat true,part++[x4],x4+1))
  else
   ck (Zan (x4+1)) <|
   some (.inl (met1,part,x4+1))
 else
  some (.inr (met1,part))

def Zbk.s0 (cells:List Za):(List (List Int))×(List Bool)×Int→Option (((List (List Int))×(List Bool)×Int)⊕(List (List Int))):=fun (l,met,x1) =>
 if decide (x1<(cells.length:Int)) then
  ck ((0:Int)≤x1∧x1<(met.length:Int)) <|
  if gi met x1.toNat then
   ck (Zan (x1+1)) <|
   some (.inl (l,met,x1+1))
  else
   (Zbf cells x1).bind fun (x2,x3) =>
   (ZV (Zbk.s1 cells x1 x3) big (met,[],0)).bind fun (met2,part1) =>
   ck (l.length+1≤1000000000) <|
   ck (Zan (x1+1)) <|
   some (.inl (l++[part1],met2,x1+1))
 else
  some (.inr l)

def Zbk (cells:List Za):Option ((List (List Int))×Int) :=
 (Zag cells).bind fun x =>
 if !(decide (x=0)) then
  some (([]:List (List Int)),x)
 else
  ck ((0:Int)≤(cells.length:Int)∧(cells.length:Int)≤1000000000) <|
  (ZV (Zbk.s0 cells) big (([]:List (List Int)),List.replicate ((cells.length:Int):Int).toNat false,0)).bind fun l1 =>
  some (l1,0)

/-! muntin/join.Whole -/
def Zdl (cells:List Za):Option Bool :=
 (Zbk cells).bind fun (x,x1) =>
 some ((decide (x1=0))&&(decide ((x.length:Int)=1)))

/-! (muntin/face.Dart).is -/
def ZbB (d:ZC) (cells:List Za):Option Bool :=
 if decide (0≤d.Cell) then
  if decide (d.Cell<(cells.length:Int)) then
   (Zbn d.Dir).bind fun x =>
   if x then
    ck ((0:Int)≤d.Cell∧d.Cell<(cells.length:Int)) <|
    ck ((0:Int)≤d.Dir∧d.Dir<4) <|
    some (decide (0≤(((gi cells (d.Cell:Int).toNat).Next).get d.Dir)))
   else
    some false
  else
   some false
 else
  some false

/-! (muntin/face.Dart).behind -/
def Za9.s0 (d:ZC) (cells:List Za):Int→Option (Int⊕(Unit⊕ZC)):=fun x =>
 if decide (x<4) then
  ck ((0:Int)≤x∧x<4) <|
  (Za4 d.Dir ((⟨1,0,(-1),2⟩:A4 Int).get x)).bind fun x2 =>
  (ZbB (⟨((gi cells (d.Cell:Int).toNat).Next).get d.Dir,x2⟩:ZC) cells).bind fun x3 =>
  if x3 then
   some (.inr (.inr (⟨((gi cells (d.Cell:Int).toNat).Next).get d.Dir,x2⟩:ZC)))
  else
   ck (Zan (x+1)) <|
   some (.inl (x+1))
 else
  some (.inr (.inl ()))

def Za9 (d:ZC) (cells:List Za):Option ZC :=
 ck ((0:Int)≤d.Cell∧d.Cell<(cells.length:Int)) <|
 ck ((0:Int)≤d.Dir∧d.Dir<4) <|
 (
  ZV (Za9.s0 d cells) big 0:Option (Unit⊕ZC)).bind fun o₁=>match o₁ with
 | .inl _ =>
  some d
 | .inr x1 =>
  some x1

/-! muntin/face.Faces -/
def Za2.s2 (cells:List Za):(List (ZC×Bool))×(List ZC)×ZC→Option (((List (ZC×Bool))×(List ZC)×ZC)⊕((List (ZC×Bool))×(List ZC))):=fun (met3,f,x4) =>
 if !(Zgj false x4 met3) then
  ck (f.length+[x4].length≤1000000000) <|
  (Za9 x4 cells).bind fun x5 =>
  some (.inl (ZfJ x4 true met3,f++[x4],x5))
 else
  some (.inr (met3,f))

def Za2.s1 (cells:List Za) (x1:Int):(List (List ZC))×(List (ZC×Bool))×Int→Option (((List (List ZC))×(List (ZC×Bool))×Int)⊕((List (List ZC))×(List (ZC×Bool)))):=fun (l2,met1,x2) =>
 if decide (x2<4) then
  (ZbB (⟨x1,x2⟩:ZC) cells).bind fun x3 =>
  if (!x3)||(Zgj false (⟨x1,x2⟩:ZC) met1) then
   ck (Zan (x2+1)) <|
   some (.inl (l2,met1,x2+1))
  else
   (ZV (Za2.s2 cells) big (met1,([]:List ZC),(⟨x1,x2⟩:ZC))).bind fun (met4,f1) =>
   ck (l2.length+1≤1000000000) <|
   ck (Zan (x2+1)) <|
   some (.inl (l2++[f1],met4,x2+1))
 else
  some (.inr (l2,met1))

def Za2.s0 (cells:List Za):(List (List ZC))×(List (ZC×Bool))×Int→Option (((List (List ZC))×(List (ZC×Bool))×Int)⊕(List (List ZC))):=fun (l,met,x1) =>
 if decide (x1<(cells.length:Int)) then
  (ZV (Za2.s1 cells x1) big (l,met,0)).bind fun (l3,met2) =>
  ck (Zan (x1+1)) <|
  some (.inl (l3,met2,x1+1))
 else
  some (.inr l)

def Za2 (cells:List Za):Option ((List (List ZC))×Int) :=
 (Zag cells).bind fun x =>
 if !(decide (x=0)) then
  some (([]:List (List ZC)),x)
 else
  (ZV (Za2.s0 cells) big (([]:List (List ZC)),([]:List (ZC×Bool)),0)).bind fun l1 =>
  some (l1,0)

/-! muntin/compass.Turn -/
def ZcN (d:Int) (e_:Int):Option Int :=
 (Zbn d).bind fun x =>
 (if !x then
  some true
 else
  (Zbn e_).bind fun x1 =>
  some (!x1)).bind fun t =>
 if t then
  some 0
 else
  ck (Zan (e_-d)) <|
  ck (Zan ((e_-d)+4)) <|
  ck ((0:Int)≤(((e_-d)+4).tmod 4)∧(((e_-d)+4).tmod 4)<4) <|
  some ((⟨0,1,(-2),(-1)⟩:A4 Int).get (((e_-d)+4).tmod 4))

/-! muntin/face.Turns -/
def Zb7.s0 (cells:List Za) (f:List ZC):(List Int)×Int→Option (((List Int)×Int)⊕(List Int)):=fun (l,x1) =>
 if decide (x1<(f.length:Int)) then
  ck ((0:Int)≤x1∧x1<(f.length:Int)) <|
  (ZbB (gi f x1.toNat) cells).bind fun x2 =>
  if x2 then
   (Za9 (gi f x1.toNat) cells).bind fun x3 =>
   (ZcN ((gi f x1.toNat).Dir) x3.Dir).bind fun x4 =>
   ck ((0:Int)≤x1∧x1<(l.length:Int)) <|
   ck (Zan (x1+1)) <|
   some (.inl (l.set x1.toNat x4,x1+1))
  else
   ck (Zan (x1+1)) <|
   some (.inl (l,x1+1))
 else
  some (.inr l)

def Zb7 (cells:List Za) (f:List ZC):Option (List Int) :=
 ck ((0:Int)≤(f.length:Int)∧(f.length:Int)≤1000000000) <|
 (Zag cells).bind fun x =>
 if !(decide (x=0)) then
  some (List.replicate ((f.length:Int):Int).toNat (0:Int))
 else
  (ZV (Zb7.s0 cells f) big (List.replicate ((f.length:Int):Int).toNat (0:Int),0)).bind fun l1 =>
  some l1

/-! muntin/face.Rotation -/
def Zbv.s0 (turns:List Int):Int×Int→Option ((Int×Int)⊕Int):=fun (n,x) =>
 if decide (x<(turns.length:Int)) then
  ck ((0:Int)≤x∧x<(turns.length:Int)) <|
  if (decide ((-2)≤(gi turns x.toNat)))&&(decide ((gi turns x.toNat)≤1)) then
   ck (Zan (n+(gi turns x.toNat))) <|
   ck (Zan (x+1)) <|
   some (.inl (n+(gi turns x.toNat),x+1))
  else
   ck (Zan (x+1)) <|
   some (.inl (n,x+1))
 else
  some (.inr n)

def Zbv (turns:List Int):Option Int :=
 (ZV (Zbv.s0 turns) big (0,0)).bind fun n1 =>
 some n1

/-! muntin/valid.outer -/
def ZbE.s0 (cells:List Za) (x:List (List ZC)):Int×Int→Option ((Int×Int)⊕(Int⊕Unit)):=fun (at_,x2) =>
 if decide (x2<(x.length:Int)) then
  ck ((0:Int)≤x2∧x2<(x.length:Int)) <|
  (Zb7 cells (gi x x2.toNat)).bind fun x3 =>
  (Zbv x3).bind fun x4 =>
  if decide (x4=4) then
   ck (Zan (x2+1)) <|
   some (.inl (at_,x2+1))
  else
   if decide (x4=(-4)) then
    if decide (0≤at_) then
     some (.inr (.inr ()))
    else
     ck (Zan (x2+1)) <|
     some (.inl (x2,x2+1))
   else
    some (.inr (.inr ()))
 else
  some (.inr (.inl at_))

def ZbE (cells:List Za):Option (Int×Bool) :=
 (Za2 cells).bind fun (x,x1) =>
 (
  ZV (ZbE.s0 cells x) big ((-1),0):Option (Int⊕Unit)).bind fun o₁=>match o₁ with
 | .inl at_1 =>
  some (at_1,decide (0≤at_1))
 | .inr _ =>
  some (0,false)

/-! muntin/valid.Check -/
def Zdb (cells:List Za):Option Int :=
 (Zag cells).bind fun x =>
 if !(decide (x=0)) then
  some x
 else
  (Zdl cells).bind fun x1 =>
  if !x1 then
   some 13
  else
   (ZbE cells).bind fun (x2,x3) =>
   if (!x3)&&(decide (1<(cells.length:Int))) then
    some 10
   else
    some 0

/-! slices.Clone[[]muntin/api.Cell,muntin/api.Cell] -/
def Zbo (s:List Za):Option (List Za) :=
 ck (s.length≤1000000000) <|
 some s
/-! muntin/grid.Of -/
def Ze7 (cells:List Za):Option ((Option Zbg)×Int) :=
 (Zag cells).bind fun x =>
 if !(decide (x=0)) then
  some (none,x)
 else
  (Zbo cells).bind fun x1 =>
  some (some (⟨x1⟩:Zbg),0)

/-! (*muntin/grid.Grid).Cells -/
def ZbJ (g:Zbg):Option (List Za) :=
 (Zbo g.cells).bind fun x =>
 some x

/-! slices.IndexFunc[[]int,int] -/
def ZaP.s0 (s:List Int) (f:Int→Option Bool):Int→Option (Int⊕(Unit⊕Int)):=fun x =>
 if decide (x<(s.length:Int)) then
  ck ((0:Int)≤x∧x<(s.length:Int)) <|
  (f (gi s x.toNat)).bind fun x2 =>
  if x2 then
   some (.inr (.inr x))
  else
   ck (Zan (x+1)) <|
   some (.inl (x+1))
 else
  some (.inr (.inl ()))

def ZaP (s:List Int) (f:Int→Option Bool):Option Int :=
 (
  ZV (ZaP.s0 s f) big 0:Option (Unit⊕Int)).bind fun o₁=>match o₁ with
 | .inl _ =>
  some (-1)
 | .inr x1 =>
  some x1

/-! slices.ContainsFunc[[]int,int] -/
def Zb5 (s:List Int) (f:Int→Option Bool):Option Bool :=
 (ZaP s f).bind fun x =>
 some (decide (0≤x))

/-! muntin/kitty.right$1 -/
def ZcU (t:Int):Option Bool :=
 some ((decide (t<(-2)))||(decide (1<t)))

/-! muntin/kitty.right -/
def Zda (turns:List Int):Option Bool :=
 (Zb5 turns (fun y0=>ZcU y0)).bind fun x =>
 some (!x)

/-! muntin/kitty.Corners -/
def Za5.s1 (turns:List Int) (x:Int):(List Z6)×Int→Option (((List Z6)×Int)⊕(List Z6)):=fun (l2,x1) =>
 if decide (x1<(-(gi turns x.toNat))) then
  ck (l2.length+[(⟨x,x1⟩:Z6)].length≤1000000000) <|
  ck (Zan (x1+1)) <|
  some (.inl (l2++[(⟨x,x1⟩:Z6)],x1+1))
 else
  some (.inr l2)

def Za5.s0 (turns:List Int):(List Z6)×Int→Option (((List Z6)×Int)⊕(List Z6)):=fun (l,x) =>
 if decide (x<(turns.length:Int)) then
  ck ((0:Int)≤x∧x<(turns.length:Int)) <|
  if decide ((gi turns x.toNat)<(-2)) then
   ck (Zan (x+1)) <|
   some (.inl (l,x+1))
  else
   ck (Zan (-(gi turns x.toNat))) <|
   (ZV (Za5.s1 turns x) big (l,0)).bind fun l3 =>
   ck (Zan (x+1)) <|
   some (.inl (l3,x+1))
 else
  some (.inr l)

def Za5 (turns:List Int):Option (List Z6) :=
 (ZV (Za5.s0 turns) big (([]:List Z6),0)).bind fun l1 =>
 some l1

/-! muntin/kitty.sums -/
def Zcb.s0 (turns:List Int):(List Int)×Int→Option (((List Int)×Int)⊕(List Int)):=fun (l,x) =>
 if decide (x<(turns.length:Int)) then
  ck ((0:Int)≤x∧x<(turns.length:Int)) <|
  ck (Zan (x+1)) <|
  ck ((0:Int)≤x∧x<(l.length:Int)) <|
  ck (Zan ((gi l x.toNat)+(gi turns x.toNat))) <|
  ck ((0:Int)≤(x+1)∧(x+1)<(l.length:Int)) <|
  some (.inl (l.set (x+1:Int).toNat ((gi l x.toNat)+(gi turns x.toNat)),x+1))
 else
  some (.inr l)

def Zcb (turns:List Int):Option (List Int) :=
 ck (Zan ((turns.length:Int)+1)) <|
 ck ((0:Int)≤((turns.length:Int)+1)∧((turns.length:Int)+1)≤1000000000) <|
 (ZV (Zcb.s0 turns) big (List.replicate ((turns.length:Int)+1:Int).toNat (0:Int),0)).bind fun l1 =>
 some l1

/-! muntin/kitty.rot -/
def Zd0 (l:List Int) (a:Z6) (b:Z6):Option Int :=
 ck ((0:Int)≤b.At∧b.At<(l.length:Int)) <|
 ck (Zan ((gi l (b.At:Int).toNat)-b.Part)) <|
 ck ((0:Int)≤a.At∧a.At<(l.length:Int)) <|
 ck (Zan ((gi l (a.At:Int).toNat)-a.Part)) <|
 ck (Zan (((gi l (b.At:Int).toNat)-b.Part)-((gi l (a.At:Int).toNat)-a.Part))) <|
 if (decide (b.At<a.At))||((decide (b.At=a.At))&&(decide (b.Part<a.Part))) then
  ck (Zan ((l.length:Int)-1)) <|
  ck ((0:Int)≤((l.length:Int)-1)∧((l.length:Int)-1)<(l.length:Int)) <|
  ck (Zan ((((gi l (b.At:Int).toNat)-b.Part)-((gi l (a.At:Int).toNat)-a.Part))+(gi l ((l.length:Int)-1:Int).toNat))) <|
  some ((((gi l (b.At:Int).toNat)-b.Part)-((gi l (a.At:Int).toNat)-a.Part))+(gi l ((l.length:Int)-1:Int).toNat))
 else
  some (((gi l (b.At:Int).toNat)-b.Part)-((gi l (a.At:Int).toNat)-a.Part))

/-! muntin/kitty.Pair -/
def Zbb.s1 (x1:List Z6) (x2:List Int) (x3:Int):Int→Option (Int⊕(Unit⊕Z6)):=fun x6 =>
 if decide (x6<(x1.length:Int)) then
  ck ((0:Int)≤x6∧x6<(x1.length:Int)) <|
  (Zd0 x2 (gi x1 x3.toNat) (gi x1 x6.toNat)).bind fun x8 =>
  if decide (x8=2) then
   some (.inr (.inr (gi x1 x6.toNat)))
  else
   ck (Zan (x6+1)) <|
   some (.inl (x6+1))
 else
  some (.inr (.inl ()))

def Zbb.s0 (x1:List Z6) (x2:List Int):Int→Option (Int⊕(Unit⊕(Z6×Z6))):=fun x3 =>
 if decide (x3<(x1.length:Int)) then
  ck ((0:Int)≤x3∧x3<(x1.length:Int)) <|
  (
   ZV (Zbb.s1 x1 x2 x3) big 0:Option (Unit⊕Z6)).bind fun o₃=>match o₃ with
  | .inl _ =>
   ck (Zan (x3+1)) <|
   some (.inl (x3+1))
  | .inr x7 =>
   some (.inr (.inr (gi x1 x3.toNat,x7)))
 else
  some (.inr (.inl ()))

def Zbb (turns:List Int):Option (Z6×Z6×Bool) :=
 (Zda turns).bind fun x =>
 if !x then
  some ((⟨(0:Int),(0:Int)⟩:Z6),(⟨(0:Int),(0:Int)⟩:Z6),false)
 else
  (Za5 turns).bind fun x1 =>
  (Zcb turns).bind fun x2 =>
  (
   ZV (Zbb.s0 x1 x2) big 0:Option (Unit⊕(Z6×Z6))).bind fun o₁=>match o₁ with
  | .inl _ =>
   some ((⟨(0:Int),(0:Int)⟩:Z6),(⟨(0:Int),(0:Int)⟩:Z6),false)
  | .inr (x4,x5) =>
   some (x4,x5,true)

/-! muntin/regular.pair -/
def Zb1.s0 (cells:List Za) (x:List (List ZC)):Int→Option (Int⊕(Unit⊕(Int×Int×Int))):=fun x2 =>
 if decide (x2<(x.length:Int)) then
  ck ((0:Int)≤x2∧x2<(x.length:Int)) <|
  (Zb7 cells (gi x x2.toNat)).bind fun x6 =>
  (Zbb x6).bind fun (x7,x8,x9) =>
  if !x9 then
   ck (Zan (x2+1)) <|
   some (.inl (x2+1))
  else
   ck ((0:Int)≤x7.At∧x7.At<((gi x x2.toNat).length:Int)) <|
   ck ((0:Int)≤x8.At∧x8.At<((gi x x2.toNat).length:Int)) <|
   ck ((0:Int)≤((gi (gi x x2.toNat) (x7.At:Int).toNat).Cell)∧((gi (gi x x2.toNat) (x7.At:Int).toNat).Cell)<(cells.length:Int)) <|
   ck ((0:Int)≤((gi (gi x x2.toNat) (x7.At:Int).toNat).Dir)∧((gi (gi x x2.toNat) (x7.At:Int).toNat).Dir)<4) <|
   ck (Zan (-x7.Part)) <|
   (Za4 ((gi (gi x x2.toNat) (x7.At:Int).toNat).Dir) (-x7.Part)).bind fun x10 =>
   ck ((0:Int)≤((gi (gi x x2.toNat) (x8.At:Int).toNat).Cell)∧((gi (gi x x2.toNat) (x8.At:Int).toNat).Cell)<(cells.length:Int)) <|
   ck ((0:Int)≤((gi (gi x x2.toNat) (x8.At:Int).toNat).Dir)∧((gi (gi x x2.toNat) (x8.At:Int).toNat).Dir)<4) <|
   some (.inr (.inr (((gi cells ((gi (gi x x2.toNat) (x7.At:Int).toNat).Cell:Int).toNat).Next).get ((gi (gi x x2.toNat) (x7.At:Int).toNat).Dir),x10,((gi cells ((gi (gi x x2.toNat) (x8.At:Int).toNat).Cell:Int).toNat).Next).get ((gi (gi x x2.toNat) (x8.At:Int).toNat).Dir))))
 else
  some (.inr (.inl ()))

def Zb1 (cells:List Za):Option (Int×Int×Int×Bool) :=
 (Za2 cells).bind fun (x,x1) =>
 (
  ZV (Zb1.s0 cells x) big 0:Option (Unit⊕(Int×Int×Int))).bind fun o₁=>match o₁ with
 | .inl _ =>
  some (0,0,0,false)
 | .inr (x3,x4,x5) =>
  some (x3,x4,x5,true)

/-! muntin/regular.horizontal -/
def Zck (d:Int):Option Bool :=
 some ((decide (d=0))||(decide (d=2)))

/-! (*muntin/grid.Grid).Len -/
def ZcT (g:Zbg):Option Int :=
 some (g.cells.length:Int)

/-! (*muntin/grid.Grid).is -/
def Zcw (g:Zbg) (v:Int) (d:Int):Option Bool :=
 (if decide (0≤v) then
  (ZcT g).bind fun x =>
  some (decide (v<x))
 else
  some false).bind fun t =>
 (if t then
  (Zbn d).bind fun x1 =>
  some x1
 else
  some false).bind fun t1 =>
 some t1

/-! (*muntin/grid.Grid).lay -/
def ZcC (g:Zbg) (v:Int) (d:Int) (w:Int) (owner:Int):Option Zbg :=
 (Za4 d 2).bind fun x =>
 ck ((0:Int)≤v∧v<(g.cells.length:Int)) <|
 ck ((0:Int)≤d∧d<4) <|
 ck ((0:Int)≤v∧v<((g.cells.set v.toNat ({ gi g.cells v.toNat with Next:=((gi g.cells v.toNat).Next).set d w })).length:Int)) <|
 ck ((0:Int)≤w∧w<(((g.cells.set v.toNat ({ gi g.cells v.toNat with Next:=((gi g.cells v.toNat).Next).set d w })).set v.toNat ({ gi (g.cells.set v.toNat ({ gi g.cells v.toNat with Next:=((gi g.cells v.toNat).Next).set d w })) v.toNat with Owner:=((gi (g.cells.set v.toNat ({ gi g.cells v.toNat with Next:=((gi g.cells v.toNat).Next).set d w })) v.toNat).Owner).set d owner })).length:Int)) <|
 ck ((0:Int)≤x∧x<4) <|
 ck ((0:Int)≤w∧w<((((g.cells.set v.toNat ({ gi g.cells v.toNat with Next:=((gi g.cells v.toNat).Next).set d w })).set v.toNat ({ gi (g.cells.set v.toNat ({ gi g.cells v.toNat with Next:=((gi g.cells v.toNat).Next).set d w })) v.toNat with Owner:=((gi (g.cells.set v.toNat ({ gi g.cells v.toNat with Next:=((gi g.cells v.toNat).Next).set d w })) v.toNat).Owner).set d owner })).set w.toNat ({ gi ((g.cells.set v.toNat ({ gi g.cells v.toNat with Next:=((gi g.cells v.toNat).Next).set d w })).set v.toNat ({ gi (g.cells.set v.toNat ({ gi g.cells v.toNat with Next:=((gi g.cells v.toNat).Next).set d w })) v.toNat with Owner:=((gi (g.cells.set v.toNat ({ gi g.cells v.toNat with Next:=((gi g.cells v.toNat).Next).set d w })) v.toNat).Owner).set d owner })) w.toNat with Next:=((gi ((g.cells.set v.toNat ({ gi g.cells v.toNat with Next:=((gi g.cells v.toNat).Next).set d w })).set v.toNat ({ gi (g.cells.set v.toNat ({ gi g.cells v.toNat with Next:=((gi g.cells v.toNat).Next).set d w })) v.toNat with Owner:=((gi (g.cells.set v.toNat ({ gi g.cells v.toNat with Next:=((gi g.cells v.toNat).Next).set d w })) v.toNat).Owner).set d owner })) w.toNat).Next).set x v })).length:Int)) <|
 some (⟨(((g.cells.set v.toNat ({ gi g.cells v.toNat with Next:=((gi g.cells v.toNat).Next).set d w })).set v.toNat ({ gi (g.cells.set v.toNat ({ gi g.cells v.toNat with Next:=((gi g.cells v.toNat).Next).set d w })) v.toNat with Owner:=((gi (g.cells.set v.toNat ({ gi g.cells v.toNat with Next:=((gi g.cells v.toNat).Next).set d w })) v.toNat).Owner).set d owner })).set w.toNat ({ gi ((g.cells.set v.toNat ({ gi g.cells v.toNat with Next:=((gi g.cells v.toNat).Next).set d w })).set v.toNat ({ gi (g.cells.set v.toNat ({ gi g.cells v.toNat with Next:=((gi g.cells v.toNat).Next).set d w })) v.toNat with Owner:=((gi (g.cells.set v.toNat ({ gi g.cells v.toNat with Next:=((gi g.cells v.toNat).Next).set d w })) v.toNat).Owner).set d owner })) w.toNat with Next:=((gi ((g.cells.set v.toNat ({ gi g.cells v.toNat with Next:=((gi g.cells v.toNat).Next).set d w })).set v.toNat ({ gi (g.cells.set v.toNat ({ gi g.cells v.toNat with Next:=((gi g.cells v.toNat).Next).set d w })) v.toNat with Owner:=((gi (g.cells.set v.toNat ({ gi g.cells v.toNat with Next:=((gi g.cells v.toNat).Next).set d w })) v.toNat).Owner).set d owner })) w.toNat).Next).set x v })).set w.toNat ({ gi (((g.cells.set v.toNat ({ gi g.cells v.toNat with Next:=((gi g.cells v.toNat).Next).set d w })).set v.toNat ({ gi (g.cells.set v.toNat ({ gi g.cells v.toNat with Next:=((gi g.cells v.toNat).Next).set d w })) v.toNat with Owner:=((gi (g.cells.set v.toNat ({ gi g.cells v.toNat with Next:=((gi g.cells v.toNat).Next).set d w })) v.toNat).Owner).set d owner })).set w.toNat ({ gi ((g.cells.set v.toNat ({ gi g.cells v.toNat with Next:=((gi g.cells v.toNat).Next).set d w })).set v.toNat ({ gi (g.cells.set v.toNat ({ gi g.cells v.toNat with Next:=((gi g.cells v.toNat).Next).set d w })) v.toNat with Owner:=((gi (g.cells.set v.toNat ({ gi g.cells v.toNat with Next:=((gi g.cells v.toNat).Next).set d w })) v.toNat).Owner).set d owner })) w.toNat with Next:=((gi ((g.cells.set v.toNat ({ gi g.cells v.toNat with Next:=((gi g.cells v.toNat).Next).set d w })).set v.toNat ({ gi (g.cells.set v.toNat ({ gi g.cells v.toNat with Next:=((gi g.cells v.toNat).Next).set d w })) v.toNat with Owner:=((gi (g.cells.set v.toNat ({ gi g.cells v.toNat with Next:=((gi g.cells v.toNat).Next).set d w })) v.toNat).Owner).set d owner })) w.toNat).Next).set x v })) w.toNat with Owner:=((gi (((g.cells.set v.toNat ({ gi g.cells v.toNat with Next:=((gi g.cells v.toNat).Next).set d w })).set v.toNat ({ gi (g.cells.set v.toNat ({ gi g.cells v.toNat with Next:=((gi g.cells v.toNat).Next).set d w })) v.toNat with Owner:=((gi (g.cells.set v.toNat ({ gi g.cells v.toNat with Next:=((gi g.cells v.toNat).Next).set d w })) v.toNat).Owner).set d owner })).set w.toNat ({ gi ((g.cells.set v.toNat ({ gi g.cells v.toNat with Next:=((gi g.cells v.toNat).Next).set d w })).set v.toNat ({ gi (g.cells.set v.toNat ({ gi g.cells v.toNat with Next:=((gi g.cells v.toNat).Next).set d w })) v.toNat with Owner:=((gi (g.cells.set v.toNat ({ gi g.cells v.toNat with Next:=((gi g.cells v.toNat).Next).set d w })) v.toNat).Owner).set d owner })) w.toNat with Next:=((gi ((g.cells.set v.toNat ({ gi g.cells v.toNat with Next:=((gi g.cells v.toNat).Next).set d w })).set v.toNat ({ gi (g.cells.set v.toNat ({ gi g.cells v.toNat with Next:=((gi g.cells v.toNat).Next).set d w })) v.toNat with Owner:=((gi (g.cells.set v.toNat ({ gi g.cells v.toNat with Next:=((gi g.cells v.toNat).Next).set d w })) v.toNat).Owner).set d owner })) w.toNat).Next).set x v })) w.toNat).Owner).set x owner })⟩:Zbg)

/-! (*muntin/grid.Grid).Join -/
def Zc2 (g:Zbg) (v:Int) (d:Int) (w:Int) (owner:Int):Option (Int×Zbg) :=
 (Zcw g v d).bind fun x =>
 (if !x then
  some true
 else
  (Zcw g w d).bind fun x1 =>
  some (!x1)).bind fun t =>
 if (t||(decide (v=w)))||(decide (owner<(-2))) then
  some (2,g)
 else
  (
   ck ((0:Int)≤v∧v<(g.cells.length:Int)) <|
   ck ((0:Int)≤d∧d<4) <|
   if !(decide (((gi g.cells v.toNat).Next).get d=(-1))) then
    some true
   else
    (Za4 d 2).bind fun x3 =>
    ck ((0:Int)≤w∧w<(g.cells.length:Int)) <|
    ck ((0:Int)≤x3∧x3<4) <|
    some (!(decide (((gi g.cells w.toNat).Next).get x3=(-1))))).bind fun x2 =>
  if x2 then
   some (9,g)
  else
   (ZcC g v d w owner).bind fun m =>
   some (0,m)

/-! muntin/regular.Make -/
def ZaO.s0 (cells:List Za) (picks:List Bool):(List Za)×Int→Option (((List Za)×Int)⊕((List Za)×Int×Int)):=fun (g1,n) =>
 (ZbJ (⟨g1⟩:Zbg)).bind fun x6 =>
 (Zb1 x6).bind fun (x7,x8,x9,x10) =>
 if !x10 then
  (ZbJ (⟨g1⟩:Zbg)).bind fun x11 =>
  some (.inr (x11,n,0))
 else
  (if decide (n<(picks.length:Int)) then
   ck ((0:Int)≤n∧n<(picks.length:Int)) <|
   some (gi picks n.toNat)
  else
   some false).bind fun t =>
  (Zck x8).bind fun x12 =>
  (
   if decide (x12=t) then
    (Za4 x8 1).bind fun x13 =>
    some x13
   else
    some x8).bind fun d =>
  (Zc2 (⟨g1⟩:Zbg) x7 d x9 (-2)).bind fun (x14,m) =>
  if !(decide (x14=0)) then
   some (.inr (([]:List Za),0,x14))
  else
   ck (Zan (n+1)) <|
   some (.inl (m.cells,n+1))

def ZaO (cells:List Za) (picks:List Bool):Option ((List Za)×Int×Int) :=
 (Zdb cells).bind fun x =>
 if !(decide (x=0)) then
  some (([]:List Za),0,x)
 else
  (Ze7 cells).bind fun (x1,x2) =>
  (x1).bind fun g =>
  (ZV (ZaO.s0 cells picks) big (g.cells,0)).bind fun (x3,x4,x5) =>
  some (x3,x4,x5)

/-! muntin/muntinref10.Join -/
def zO (l:List Za) (v:Int) (d:Int) (w:Int) (o:Int):Option ((List Za)×Int) :=
 if (((((((decide (v<0))||(decide ((l.length:Int)≤v)))||(decide (w<0)))||(decide ((l.length:Int)≤w)))||(decide (v=w)))||(decide (d<0)))||(decide (3<d)))||(decide (o<(-2))) then
  some (l,2)
 else
  ck ((0:Int)≤v∧v<(l.length:Int)) <|
  ck ((0:Int)≤d∧d<4) <|
  (if !(decide (((gi l v.toNat).Next).get d=(-1))) then
   some true
  else
   ck (Zan (d+2)) <|
   ck ((0:Int)≤w∧w<(l.length:Int)) <|
   ck ((0:Int)≤((d+2).tmod 4)∧((d+2).tmod 4)<4) <|
   some (!(decide (((gi l w.toNat).Next).get ((d+2).tmod 4)=(-1))))).bind fun t =>
  if t then
   some (l,9)
  else
   (zX l v d w o).bind fun x =>
   some (x,0)

/-! muntin/muntinlaw22.plus -/
def Zbu.s0:(List Za)×Int→Option (((List Za)×Int)⊕(List Za)):=fun (l,x1) =>
 if decide (x1<(([0,1,0,1,2,1,2,3,2,3,0,3]:List Int).length:Int)) then
  ck ((0:Int)≤x1∧x1<(([0,1,0,1,2,1,2,3,2,3,0,3]:List Int).length:Int)) <|
  ck (Zan (x1+1)) <|
  (zO l x1 (gi ([0,1,0,1,2,1,2,3,2,3,0,3]:List Int) x1.toNat) ((x1+1).tmod 12) 0).bind fun (x2,x3) =>
  some (.inl (x2,x1+1))
 else
  some (.inr l)

def Zbu:Option (List Za) :=
 (zw 12).bind fun x =>
 (ZV Zbu.s0 big (x,0)).bind fun l1 =>
 some l1

/-! muntin/regular.Bare -/
def ZbR.s1:Za×Int→Option ((Za×Int)⊕Za):=fun (c,x2) =>
 if decide (x2<4) then
  ck ((0:Int)≤x2∧x2<4) <|
  if (decide (0≤(c.Next.get x2)))&&(decide (c.Owner.get x2=(-2))) then
   ck (Zan (x2+1)) <|
   some (.inl ({ { c with Next:=c.Next.set x2 (-1) } with Owner:=(({ c with Next:=c.Next.set x2 (-1) }).Owner).set x2 0 },x2+1))
  else
   ck (Zan (x2+1)) <|
   some (.inl (c,x2+1))
 else
  some (.inr c)

def ZbR.s0 (cells:List Za):(List Za)×Int→Option (((List Za)×Int)⊕(List Za)):=fun (l,x1) =>
 if decide (x1<(cells.length:Int)) then
  ck ((0:Int)≤x1∧x1<(cells.length:Int)) <|
  (ZV ZbR.s1 big (gi cells x1.toNat,0)).bind fun c1 =>
  ck (l.length+[c1].length≤1000000000) <|
  ck (Zan (x1+1)) <|
  some (.inl (l++[c1],x1+1))
 else
  some (.inr l)

def ZbR (cells:List Za):Option ((List Za)×Int) :=
 (Zag cells).bind fun x =>
 if !(decide (x=0)) then
  some (([]:List Za),x)
 else
  (ZV (ZbR.s0 cells) big (([]:List Za),0)).bind fun l1 =>
  some (l1,0)

/-! muntin/muntinref10.Same -/
def ZbQ.s0 (a:List Za) (b:List Za):Int→Option (Int⊕(Unit⊕Unit)):=fun i =>
 if decide (i<(a.length:Int)) then
  ck ((0:Int)≤i∧i<(a.length:Int)) <|
  ck ((0:Int)≤i∧i<(b.length:Int)) <|
  if !(decide (gi a i.toNat=gi b i.toNat)) then
   some (.inr (.inr ()))
  else
   ck (Zan (i+1)) <|
   some (.inl (i+1))
 else
  some (.inr (.inl ()))

def ZbQ (a:List Za) (b:List Za):Option Bool :=
 if !(decide ((a.length:Int)=(b.length:Int))) then
  some false
 else
  (
   ZV (ZbQ.s0 a b) big 0:Option (Unit⊕Unit)).bind fun o₁=>match o₁ with
  | .inl _ =>
   some true
  | .inr _ =>
   some false

/-! muntin/muntinlaw22.wakes -/
def ZbF:Option Bool :=
 (Zbu ).bind fun x =>
 (ZaO x ([]:List Bool)).bind fun (x1,x2,x3) =>
 (ZbR x1).bind fun (x4,x5) =>
 (zw 2).bind fun x6 =>
 (ZaO x6 ([]:List Bool)).bind fun (x7,x8,x9) =>
 (if (((decide (x3=0))&&(decide (0<x2)))&&(decide (x2<3)))&&(decide (x5=0)) then
  (Zbu ).bind fun x10 =>
  (ZbQ x4 x10).bind fun x11 =>
  some x11
 else
  some false).bind fun t =>
 some (t&&(decide (x9=13)))

/-! muntin/muntinref10.Check -/
def zI.s1 (l:List Za) (v:Int):Int→Option (Int⊕(Unit⊕Int)):=fun d =>
 if decide (d<4) then
  ck ((0:Int)≤v∧v<(l.length:Int)) <|
  ck ((0:Int)≤d∧d<4) <|
  if decide (((gi l v.toNat).Next).get d=(-1)) then
   if !(decide (((gi l v.toNat).Owner).get d=0)) then
    some (.inr (.inr 9))
   else
    ck (Zan (d+1)) <|
    some (.inl (d+1))
  else
   if ((decide ((((gi l v.toNat).Next).get d)<0))||(decide ((l.length:Int)≤(((gi l v.toNat).Next).get d))))||(decide (((gi l v.toNat).Next).get d=v)) then
    some (.inr (.inr 3))
   else
    ck (Zan (d+2)) <|
    ck ((0:Int)≤(((gi l v.toNat).Next).get d)∧(((gi l v.toNat).Next).get d)<(l.length:Int)) <|
    ck ((0:Int)≤((d+2).tmod 4)∧((d+2).tmod 4)<4) <|
    if ((!(decide (((gi l (((gi l v.toNat).Next).get d:Int).toNat).Next).get ((d+2).tmod 4)=v)))||(!(decide (((gi l (((gi l v.toNat).Next).get d:Int).toNat).Owner).get ((d+2).tmod 4)=((gi l v.toNat).Owner).get d))))||(decide ((((gi l v.toNat).Owner).get d)<(-2))) then
     some (.inr (.inr 9))
    else
     ck (Zan (d+1)) <|
     some (.inl (d+1))
 else
  some (.inr (.inl ()))

def zI.s0 (l:List Za):Int→Option (Int⊕(Unit⊕Int)):=fun v =>
 if decide (v<(l.length:Int)) then
  (
   ZV (zI.s1 l v) big 0:Option (Unit⊕Int)).bind fun o₃=>match o₃ with
  | .inl _ =>
   ck (Zan (v+1)) <|
   some (.inl (v+1))
  | .inr x1 =>
   some (.inr (.inr x1))
 else
  some (.inr (.inl ()))

def zI (l:List Za):Option Int :=
 if decide (4096<(l.length:Int)) then
  some 6
 else
  (
   ZV (zI.s0 l) big 0:Option (Unit⊕Int)).bind fun o₁=>match o₁ with
  | .inl _ =>
   some 0
  | .inr x =>
   some x

/-! muntin/muntinref13.Far -/
def zh.s0 (l:List Za):(List Int)×Int→Option (((List Int)×Int)⊕(List Int)):=fun (far,i) =>
 if decide (i<(l.length:Int)) then
  ck ((0:Int)≤i∧i<(far.length:Int)) <|
  ck (Zan (i+1)) <|
  some (.inl (far.set i.toNat (-1),i+1))
 else
  some (.inr far)

def zh.s3 (l:List Za) (round:Int) (i1:Int):(List Int)×Int→Option (((List Int)×Int)⊕(List Int)):=fun (far6,d) =>
 if decide (d<4) then
  ck ((0:Int)≤i1∧i1<(l.length:Int)) <|
  ck ((0:Int)≤d∧d<4) <|
  ck ((0:Int)≤i1∧i1<(far6.length:Int)) <|
  (if (decide (gi far6 i1.toNat=round))&&(decide (0≤(((gi l i1.toNat).Next).get d))) then
   ck ((0:Int)≤(max (((gi l i1.toNat).Next).get d) 0)∧(max (((gi l i1.toNat).Next).get d) 0)<(far6.length:Int)) <|
   some (decide ((gi far6 (max (((gi l i1.toNat).Next).get d) 0:Int).toNat)<0))
  else
   some false).bind fun t =>
  if t then
   ck (Zan (round+1)) <|
   ck ((0:Int)≤(((gi l i1.toNat).Next).get d)∧(((gi l i1.toNat).Next).get d)<(far6.length:Int)) <|
   ck (Zan (d+1)) <|
   some (.inl (far6.set (((gi l i1.toNat).Next).get d:Int).toNat (round+1),d+1))
  else
   ck (Zan (d+1)) <|
   some (.inl (far6,d+1))
 else
  some (.inr far6)

def zh.s2 (l:List Za) (round:Int):(List Int)×Int→Option (((List Int)×Int)⊕(List Int)):=fun (far4,i1) =>
 if decide (i1<(l.length:Int)) then
  (ZV (zh.s3 l round i1) big (far4,0)).bind fun far7 =>
  ck (Zan (i1+1)) <|
  some (.inl (far7,i1+1))
 else
  some (.inr far4)

def zh.s1 (l:List Za):(List Int)×Int→Option (((List Int)×Int)⊕(List Int)):=fun (far2,round) =>
 if decide (round<(l.length:Int)) then
  (ZV (zh.s2 l round) big (far2,0)).bind fun far5 =>
  ck (Zan (round+1)) <|
  some (.inl (far5,round+1))
 else
  some (.inr far2)

def zh (l:List Za) (v:Int):Option (List Int) :=
 ck ((0:Int)≤(l.length:Int)∧(l.length:Int)≤1000000000) <|
 (ZV (zh.s0 l) big (List.replicate ((l.length:Int):Int).toNat (0:Int),0)).bind fun far1 =>
 ck ((0:Int)≤v∧v<(far1.length:Int)) <|
 (ZV (zh.s1 l) big (far1.set v.toNat 0,0)).bind fun far3 =>
 some far3

/-! muntin/muntinref13.Parts -/
def zT.s1 (l:List Za) (x:List Int):(List Bool)×(List Int)×Int→Option (((List Bool)×(List Int)×Int)⊕((List Bool)×(List Int))):=fun (in_1,p,w) =>
 if decide (w<(l.length:Int)) then
  ck ((0:Int)≤w∧w<(x.length:Int)) <|
  if decide (0≤(gi x w.toNat)) then
   ck ((0:Int)≤w∧w<(in_1.length:Int)) <|
   ck (p.length+[w].length≤1000000000) <|
   ck (Zan (w+1)) <|
   some (.inl (in_1.set w.toNat true,p++[w],w+1))
  else
   ck (Zan (w+1)) <|
   some (.inl (in_1,p,w+1))
 else
  some (.inr (in_1,p))

def zT.s0 (l:List Za):(List Bool)×(List (List Int))×Int→Option (((List Bool)×(List (List Int))×Int)⊕(List (List Int))):=fun (in_,out,v) =>
 if decide (v<(l.length:Int)) then
  ck ((0:Int)≤v∧v<(in_.length:Int)) <|
  if gi in_ v.toNat then
   ck (Zan (v+1)) <|
   some (.inl (in_,out,v+1))
  else
   (zh l v).bind fun x =>
   (ZV (zT.s1 l x) big (in_,([]:List Int),0)).bind fun (in_2,p1) =>
   ck (out.length+1≤1000000000) <|
   ck (Zan (v+1)) <|
   some (.inl (in_2,out++[p1],v+1))
 else
  some (.inr out)

def zT (l:List Za):Option (List (List Int)) :=
 ck ((0:Int)≤(l.length:Int)∧(l.length:Int)≤1000000000) <|
 (ZV (zT.s0 l) big (List.replicate ((l.length:Int):Int).toNat false,([]:List (List Int)),0)).bind fun out1 =>
 some out1

/-! muntin/muntinref12.Behind -/
def Zat.s0 (l:List Za) (d:Z2):Int→Option (Int⊕(Unit⊕Z2)):=fun i =>
 if decide (i<4) then
  ck ((0:Int)≤i∧i<(([1,0,3,2]:List Int).length:Int)) <|
  ck (Zan (d.Dir+(gi ([1,0,3,2]:List Int) i.toNat))) <|
  ck ((0:Int)≤(((gi l (d.Cell:Int).toNat).Next).get d.Dir)∧(((gi l (d.Cell:Int).toNat).Next).get d.Dir)<(l.length:Int)) <|
  ck ((0:Int)≤((d.Dir+(gi ([1,0,3,2]:List Int) i.toNat)).tmod 4)∧((d.Dir+(gi ([1,0,3,2]:List Int) i.toNat)).tmod 4)<4) <|
  if decide (0≤(((gi l (((gi l (d.Cell:Int).toNat).Next).get d.Dir:Int).toNat).Next).get ((d.Dir+(gi ([1,0,3,2]:List Int) i.toNat)).tmod 4))) then
   some (.inr (.inr (⟨((gi l (d.Cell:Int).toNat).Next).get d.Dir,(d.Dir+(gi ([1,0,3,2]:List Int) i.toNat)).tmod 4⟩:Z2)))
  else
   ck (Zan (i+1)) <|
   some (.inl (i+1))
 else
  some (.inr (.inl ()))

def Zat (l:List Za) (d:Z2):Option Z2 :=
 ck ((0:Int)≤d.Cell∧d.Cell<(l.length:Int)) <|
 ck ((0:Int)≤d.Dir∧d.Dir<4) <|
 (
  ZV (Zat.s0 l d) big 0:Option (Unit⊕Z2)).bind fun o₁=>match o₁ with
 | .inl _ =>
  some d
 | .inr x =>
  some x

/-! muntin/muntinref12.Faces -/
def ZJ.s2 (l:List Za):(List Bool)×(List Z2)×Z2→Option (((List Bool)×(List Z2)×Z2)⊕((List Bool)×(List Z2))):=fun (met3,f,d) =>
 ck (Zan (4*d.Cell)) <|
 ck (Zan ((4*d.Cell)+d.Dir)) <|
 ck ((0:Int)≤((4*d.Cell)+d.Dir)∧((4*d.Cell)+d.Dir)<(met3.length:Int)) <|
 if !(gi met3 ((4*d.Cell)+d.Dir:Int).toNat) then
  ck (f.length+[d].length≤1000000000) <|
  (Zat l d).bind fun x =>
  some (.inl (met3.set ((4*d.Cell)+d.Dir:Int).toNat true,f++[d],x))
 else
  some (.inr (met3,f))

def ZJ.s1 (l:List Za) (v:Int):(List Bool)×(List (List Z2))×Int→Option (((List Bool)×(List (List Z2))×Int)⊕((List Bool)×(List (List Z2)))):=fun (met1,out2,e_) =>
 if decide (e_<4) then
  ck ((0:Int)≤v∧v<(l.length:Int)) <|
  ck ((0:Int)≤e_∧e_<4) <|
  (if decide ((((gi l v.toNat).Next).get e_)<0) then
   some true
  else
   ck (Zan (4*v)) <|
   ck (Zan ((4*v)+e_)) <|
   ck ((0:Int)≤((4*v)+e_)∧((4*v)+e_)<(met1.length:Int)) <|
   some (gi met1 ((4*v)+e_:Int).toNat)).bind fun t =>
  if t then
   ck (Zan (e_+1)) <|
   some (.inl (met1,out2,e_+1))
  else
   (ZV (ZJ.s2 l) big (met1,([]:List Z2),(⟨v,e_⟩:Z2))).bind fun (met4,f1) =>
   ck (out2.length+1≤1000000000) <|
   ck (Zan (e_+1)) <|
   some (.inl (met4,out2++[f1],e_+1))
 else
  some (.inr (met1,out2))

def ZJ.s0 (l:List Za):(List Bool)×(List (List Z2))×Int→Option (((List Bool)×(List (List Z2))×Int)⊕(List (List Z2))):=fun (met,out,v) =>
 if decide (v<(l.length:Int)) then
  (ZV (ZJ.s1 l v) big (met,out,0)).bind fun (met2,out3) =>
  ck (Zan (v+1)) <|
  some (.inl (met2,out3,v+1))
 else
  some (.inr out)

def ZJ (l:List Za):Option (List (List Z2)) :=
 ck (Zan (4*(l.length:Int))) <|
 ck ((0:Int)≤(4*(l.length:Int))∧(4*(l.length:Int))≤1000000000) <|
 (ZV (ZJ.s0 l) big (List.replicate (4*(l.length:Int):Int).toNat false,([]:List (List Z2)),0)).bind fun out1 =>
 some out1

/-! muntin/muntinref01.Good -/
def Zb8 (d:Int):Option Bool :=
 some ((decide (0≤d))&&(decide (d≤3)))

/-! muntin/muntinref01.Left -/
def Zcg (d:Int) (times:Int):Option Int :=
 (Zb8 d).bind fun x =>
 if !x then
  some 0
 else
  if decide ((times.tmod 4)<0) then
   ck (Zan ((times.tmod 4)+4)) <|
   ck (Zan (d+((times.tmod 4)+4))) <|
   some ((d+((times.tmod 4)+4)).tmod 4)
  else
   ck (Zan (d+(times.tmod 4))) <|
   some ((d+(times.tmod 4)).tmod 4)

/-! muntin/muntinref01.Turn -/
def Zch (d:Int) (e_:Int):Option Int :=
 (Zb8 d).bind fun x =>
 (Zb8 e_).bind fun x1 =>
 if ((!x)||(!x1))||(decide (d=e_)) then
  some 0
 else
  (Zcg d 1).bind fun x2 =>
  if decide (x2=e_) then
   some 1
  else
   (Zcg d 3).bind fun x3 =>
   if decide (x3=e_) then
    some (-1)
   else
    some (-2)

/-! muntin/muntinref12.Turns -/
def zS.s0 (l:List Za) (f:List Z2):(List Int)×Int→Option (((List Int)×Int)⊕(List Int)):=fun (out,i) =>
 if decide (i<(f.length:Int)) then
  ck ((0:Int)≤i∧i<(f.length:Int)) <|
  (Zat l (gi f i.toNat)).bind fun x =>
  (Zch ((gi f i.toNat).Dir) x.Dir).bind fun x1 =>
  ck (out.length+[x1].length≤1000000000) <|
  ck (Zan (i+1)) <|
  some (.inl (out++[x1],i+1))
 else
  some (.inr out)

def zS (l:List Za) (f:List Z2):Option (List Int) :=
 (ZV (zS.s0 l f) big (([]:List Int),0)).bind fun out1 =>
 some out1

/-! muntin/muntinref12.Rotation -/
def Za6.s0 (t:List Int):Int×Int→Option ((Int×Int)⊕Int):=fun (n,i) =>
 if decide (i<(t.length:Int)) then
  ck ((0:Int)≤i∧i<(t.length:Int)) <|
  if (decide ((-2)≤(gi t i.toNat)))&&(decide ((gi t i.toNat)≤1)) then
   ck (Zan (n+(gi t i.toNat))) <|
   ck (Zan (i+1)) <|
   some (.inl (n+(gi t i.toNat),i+1))
  else
   ck (Zan (i+1)) <|
   some (.inl (n,i+1))
 else
  some (.inr n)

def Za6 (t:List Int):Option Int :=
 (ZV (Za6.s0 t) big (0,0)).bind fun n1 =>
 some n1

/-! muntin/muntinref14.Outer -/
def Zab.s0 (l:List Za) (x2:List (List Z2)):Int×Int→Option ((Int×Int)⊕(Int⊕Unit)):=fun (at_,i) =>
 if decide (i<(x2.length:Int)) then
  ck ((0:Int)≤i∧i<(x2.length:Int)) <|
  (zS l (gi x2 i.toNat)).bind fun x3 =>
  (Za6 x3).bind fun x4 =>
  if ((!(decide (x4=4)))&&(!(decide (x4=(-4)))))||((decide (x4=(-4)))&&(decide (0≤at_))) then
   some (.inr (.inr ()))
  else
   if decide (x4=(-4)) then
    ck (Zan (i+1)) <|
    some (.inl (i,i+1))
   else
    ck (Zan (i+1)) <|
    some (.inl (at_,i+1))
 else
  some (.inr (.inl at_))

def Zab (l:List Za):Option (Int×Int) :=
 (zI l).bind fun x =>
 if !(decide (x=0)) then
  some ((-1),x)
 else
  (zT l).bind fun x1 =>
  if !(decide ((x1.length:Int)=1)) then
   some ((-1),13)
  else
   if decide ((l.length:Int)=1) then
    some ((-1),0)
   else
    (ZJ l).bind fun x2 =>
    (
     ZV (Zab.s0 l x2) big ((-1),0):Option (Int⊕Unit)).bind fun o₁=>match o₁ with
    | .inl at_1 =>
     if decide (at_1<0) then
      some ((-1),10)
     else
      some (at_1,0)
    | .inr _ =>
     some ((-1),10)

/-! muntin/muntinref15.Good -/
def ZaN.s0 (t:List Int):Int→Option (Int⊕(Unit⊕Unit)):=fun i =>
 if decide (i<(t.length:Int)) then
  ck ((0:Int)≤i∧i<(t.length:Int)) <|
  if (decide ((gi t i.toNat)<(-2)))||(decide (1<(gi t i.toNat))) then
   some (.inr (.inr ()))
  else
   ck (Zan (i+1)) <|
   some (.inl (i+1))
 else
  some (.inr (.inl ()))

def ZaN (t:List Int):Option Bool :=
 (
  ZV (ZaN.s0 t) big 0:Option (Unit⊕Unit)).bind fun o₁=>match o₁ with
 | .inl _ =>
  some true
 | .inr _ =>
  some false

/-! muntin/muntinref20.Of -/
def zP.s1 (t:List Int) (to_:Int):Int×Int→Option ((Int×Int)⊕Int):=fun (sum,k_) =>
 if decide (k_<to_) then
  ck (((t.length:Int):Int)≠0) <|
  ck ((0:Int)≤(k_.tmod (t.length:Int))∧(k_.tmod (t.length:Int))<(t.length:Int)) <|
  ck (Zan (sum+(gi t (k_.tmod (t.length:Int):Int).toNat))) <|
  ck (Zan (k_+1)) <|
  some (.inl (sum+(gi t (k_.tmod (t.length:Int):Int).toNat),k_+1))
 else
  some (.inr sum)

def zP.s0 (t:List Int) (i:Int):Int→Option (Int⊕(Unit⊕Int)):=fun to_ =>
 ck (Zan (i+(t.length:Int))) <|
 if decide (to_≤(i+(t.length:Int))) then
  (ZV (zP.s1 t to_) big (0,i)).bind fun sum1 =>
  if decide (sum1=1) then
   ck (((t.length:Int):Int)≠0) <|
   some (.inr (.inr (to_.tmod (t.length:Int))))
  else
   ck (Zan (to_+1)) <|
   some (.inl (to_+1))
 else
  some (.inr (.inl ()))

def zP (t:List Int) (i:Int):Option Int :=
 (ZaN t).bind fun x =>
 if ((!x)||(decide (i<0)))||(decide ((t.length:Int)≤i)) then
  some (-1)
 else
  ck ((0:Int)≤i∧i<(t.length:Int)) <|
  if decide (0≤(gi t i.toNat)) then
   some (-1)
  else
   ck (Zan (i+1)) <|
   (
    ZV (zP.s0 t i) big (i+1):Option (Unit⊕Int)).bind fun o₁=>match o₁ with
   | .inl _ =>
    some (-1)
   | .inr x1 =>
    some x1

/-! muntin/muntinref20.Open -/
def ZaZ.s0 (t:List Int):Int→Option (Int⊕(Unit⊕Int)):=fun i =>
 if decide (i<(t.length:Int)) then
  (zP t i).bind fun x2 =>
  ck ((0:Int)≤i∧i<(t.length:Int)) <|
  if (decide ((gi t i.toNat)<0))&&(decide (x2<0)) then
   some (.inr (.inr i))
  else
   ck (Zan (i+1)) <|
   some (.inl (i+1))
 else
  some (.inr (.inl ()))

def ZaZ (t:List Int):Option Int :=
 (ZaN t).bind fun x =>
 if !x then
  some (-1)
 else
  (
   ZV (ZaZ.s0 t) big 0:Option (Unit⊕Int)).bind fun o₁=>match o₁ with
  | .inl _ =>
   some (-1)
  | .inr x1 =>
   some x1

/-! muntin/muntinref21.Frame -/
def ZaC.s0 (l:List Za) (x:Int) (x2:List (List Z2)) (x4:Int):(List Za)×Int→Option (((List Za)×Int)⊕(List Za)):=fun (out,s) =>
 if decide (s<4) then
  ck ((0:Int)≤s∧s<([(l.length:Int)+1,(l.length:Int)+3,(l.length:Int),(l.length:Int)].length:Int)) <|
  ck ((0:Int)≤s∧s<([(l.length:Int)+2,(l.length:Int)+2,(l.length:Int)+3,(l.length:Int)+1].length:Int)) <|
  ck ((0:Int)≤s∧s<(([1,0,1,0]:List Int).length:Int)) <|
  if !(decide (s=(gi (gi x2 x.toNat) x4.toNat).Dir)) then
   (zO out (gi [(l.length:Int)+1,(l.length:Int)+3,(l.length:Int),(l.length:Int)] s.toNat) (gi ([1,0,1,0]:List Int) s.toNat) (gi [(l.length:Int)+2,(l.length:Int)+2,(l.length:Int)+3,(l.length:Int)+1] s.toNat) (-2)).bind fun (x7,x8) =>
   ck (Zan (s+1)) <|
   some (.inl (x7,s+1))
  else
   ck (Zan (s+1)) <|
   some (.inl (out,s+1))
 else
  some (.inr out)

def ZaC (l:List Za):Option ((List Za)×Int) :=
 (Zab l).bind fun (x,x1) =>
 if !(decide (x1=0)) then
  some (([]:List Za),x1)
 else
  if decide (x<0) then
   some (([]:List Za),2)
  else
   ck (Zan ((l.length:Int)+5)) <|
   if decide (4096<((l.length:Int)+5)) then
    some (([]:List Za),6)
   else
    (ZJ l).bind fun x2 =>
    ck ((0:Int)≤x∧x<(x2.length:Int)) <|
    (zS l (gi x2 x.toNat)).bind fun x3 =>
    (ZaZ x3).bind fun x4 =>
    ck ((0:Int)≤x4∧x4<((gi x2 x.toNat).length:Int)) <|
    ck ((0:Int)≤((gi (gi x2 x.toNat) x4.toNat).Cell)∧((gi (gi x2 x.toNat) x4.toNat).Cell)<(l.length:Int)) <|
    ck ((0:Int)≤((gi (gi x2 x.toNat) x4.toNat).Dir)∧((gi (gi x2 x.toNat) x4.toNat).Dir)<4) <|
    (zw 5).bind fun x5 =>
    (zw 0).bind fun x6 =>
    ck (x6.length+l.length≤1000000000) <|
    ck ((x6++l).length+x5.length≤1000000000) <|
    ck (Zan ((l.length:Int)+1)) <|
    ck (Zan ((l.length:Int)+3)) <|
    ck ((0:Int)≤((gi (gi x2 x.toNat) x4.toNat).Dir)∧((gi (gi x2 x.toNat) x4.toNat).Dir)<([(l.length:Int)+1,(l.length:Int)+3,(l.length:Int),(l.length:Int)].length:Int)) <|
    ck (Zan ((l.length:Int)+2)) <|
    ck ((0:Int)≤((gi (gi x2 x.toNat) x4.toNat).Dir)∧((gi (gi x2 x.toNat) x4.toNat).Dir)<([(l.length:Int)+2,(l.length:Int)+2,(l.length:Int)+3,(l.length:Int)+1].length:Int)) <|
    ck ((0:Int)≤((gi (gi x2 x.toNat) x4.toNat).Dir)∧((gi (gi x2 x.toNat) x4.toNat).Dir)<(([1,0,1,0]:List Int).length:Int)) <|
    (ZV (ZaC.s0 l x x2 x4) big ((x6++l)++x5,0)).bind fun out1 =>
    ck (Zan ((l.length:Int)+4)) <|
    (zO out1 (gi [(l.length:Int)+1,(l.length:Int)+3,(l.length:Int),(l.length:Int)] ((gi (gi x2 x.toNat) x4.toNat).Dir:Int).toNat) (gi ([1,0,1,0]:List Int) ((gi (gi x2 x.toNat) x4.toNat).Dir:Int).toNat) ((l.length:Int)+4) (-2)).bind fun (x9,x10) =>
    (zO x9 ((l.length:Int)+4) (gi ([1,0,1,0]:List Int) ((gi (gi x2 x.toNat) x4.toNat).Dir:Int).toNat) (gi [(l.length:Int)+2,(l.length:Int)+2,(l.length:Int)+3,(l.length:Int)+1] ((gi (gi x2 x.toNat) x4.toNat).Dir:Int).toNat) (-2)).bind fun (x11,x12) =>
    (zO x11 (((gi l ((gi (gi x2 x.toNat) x4.toNat).Cell:Int).toNat).Next).get ((gi (gi x2 x.toNat) x4.toNat).Dir)) ((gi (gi x2 x.toNat) x4.toNat).Dir) ((l.length:Int)+4) (-2)).bind fun (x13,x14) =>
    some (x13,0)

/-! muntin/muntinref20.First -/
def zJ.s1 (x:Int) (i:Int) (x5:List Int):Int→Option (Int⊕(Unit⊕Int)):=fun k_ =>
 if (decide (k_<(x5.length:Int)))&&(!(decide (i=x))) then
  ck ((0:Int)≤k_∧k_<(x5.length:Int)) <|
  if decide ((gi x5 k_.toNat)<0) then
   some (.inr (.inr k_))
  else
   ck (Zan (k_+1)) <|
   some (.inl (k_+1))
 else
  some (.inr (.inl ()))

def zJ.s0 (l:List Za) (x:Int) (x2:List (List Z2)):Int→Option (Int⊕(Unit⊕(Int×Int))):=fun i =>
 if decide (i<(x2.length:Int)) then
  ck ((0:Int)≤i∧i<(x2.length:Int)) <|
  (zS l (gi x2 i.toNat)).bind fun x5 =>
  (
   ZV (zJ.s1 x i x5) big 0:Option (Unit⊕Int)).bind fun o₃=>match o₃ with
  | .inl _ =>
   ck (Zan (i+1)) <|
   some (.inl (i+1))
  | .inr x6 =>
   some (.inr (.inr (i,x6)))
 else
  some (.inr (.inl ()))

def zJ (l:List Za):Option (Int×Int) :=
 (Zab l).bind fun (x,x1) =>
 if (!(decide (x1=0)))||(decide (x<0)) then
  some ((-1),0)
 else
  (ZJ l).bind fun x2 =>
  (
   ZV (zJ.s0 l x x2) big 0:Option (Unit⊕(Int×Int))).bind fun o₁=>match o₁ with
  | .inl _ =>
   some ((-1),0)
  | .inr (x3,x4) =>
   some (x3,x4)

/-! muntin/muntinref10.Split -/
def ZbG (l:List Za) (v:Int) (d:Int):Option ((List Za)×Int×Int) :=
 if (((decide (v<0))||(decide ((l.length:Int)≤v)))||(decide (d<0)))||(decide (3<d)) then
  some (l,0,2)
 else
  ck ((0:Int)≤v∧v<(l.length:Int)) <|
  ck ((0:Int)≤d∧d<4) <|
  if decide (((gi l v.toNat).Next).get d=(-1)) then
   some (l,0,9)
  else
   if decide (4096≤(l.length:Int)) then
    some (l,0,6)
   else
    (zw 1).bind fun x =>
    (zX l (-1) 0 (-1) 0).bind fun x1 =>
    ck ((0:Int)≤0∧0<(x.length:Int)) <|
    ck (x1.length+[gi x (0:Int).toNat].length≤1000000000) <|
    (zX (x1++[gi x (0:Int).toNat]) v d (l.length:Int) (((gi l v.toNat).Owner).get d)).bind fun x2 =>
    (zX x2 (l.length:Int) d (((gi l v.toNat).Next).get d) (((gi l v.toNat).Owner).get d)).bind fun x3 =>
    some (x3,(l.length:Int),0)

/-! muntin/muntinref21.Refine -/
def Zaa.s0:(List Za)×Int→Option (((List Za)×Int)⊕(Unit⊕((List Za)×Int))):=fun (l1,step) =>
 if decide (step<100000) then
  (zJ l1).bind fun (x6,x7) =>
  if decide (x6<0) then
   some (.inr (.inr (l1,0)))
  else
   (ZJ l1).bind fun x8 =>
   ck ((0:Int)≤x6∧x6<(x8.length:Int)) <|
   (zS l1 (gi x8 x6.toNat)).bind fun x9 =>
   (zP x9 x7).bind fun x10 =>
   ck ((0:Int)≤x7∧x7<((gi x8 x6.toNat).length:Int)) <|
   ck ((0:Int)≤((gi (gi x8 x6.toNat) x7.toNat).Cell)∧((gi (gi x8 x6.toNat) x7.toNat).Cell)<(l1.length:Int)) <|
   ck ((0:Int)≤((gi (gi x8 x6.toNat) x7.toNat).Dir)∧((gi (gi x8 x6.toNat) x7.toNat).Dir)<4) <|
   ck ((0:Int)≤x10∧x10<((gi x8 x6.toNat).length:Int)) <|
   (ZbG l1 ((gi (gi x8 x6.toNat) x10.toNat).Cell) ((gi (gi x8 x6.toNat) x10.toNat).Dir)).bind fun (x11,x12,x13) =>
   if !(decide (x13=0)) then
    some (.inr (.inr (([]:List Za),x13)))
   else
    (zO x11 (((gi l1 ((gi (gi x8 x6.toNat) x7.toNat).Cell:Int).toNat).Next).get ((gi (gi x8 x6.toNat) x7.toNat).Dir)) ((gi (gi x8 x6.toNat) x7.toNat).Dir) x12 (-2)).bind fun (x14,x15) =>
    ck (Zan (step+1)) <|
    some (.inl (x14,step+1))
 else
  some (.inr (.inl ()))

def Zaa (l:List Za):Option ((List Za)×Int) :=
 (
  if decide ((l.length:Int)=1) then
   (Zab l).bind fun (x,x1) =>
   if decide (x1=0) then
    some (.inr ())
   else
    some (.inl ())
  else
   some (.inl ()):Option (Unit⊕Unit)).bind fun o₁=>match o₁ with
 | .inl _ =>
  (ZaC l).bind fun (x2,x3) =>
  if !(decide (x3=0)) then
   some (([]:List Za),x3)
  else
   (
    ZV Zaa.s0 big (x2,0):Option (Unit⊕((List Za)×Int))).bind fun o₂=>match o₂ with
   | .inl _ =>
    some (([]:List Za),6)
   | .inr (x4,x5) =>
    some (x4,x5)
 | .inr _ =>
  some (l,0)

/-! muntin/muntinref21.Refine -/
/-! muntin/muntinref16.First -/
def ZaQ.s0 (l:List Za) (d:Int):Int×Int→Option ((Int×Int)⊕(Unit⊕Int)):=fun (v1,n) =>
 if decide (n≤(l.length:Int)) then
  ck (Zan (d+2)) <|
  ck ((0:Int)≤v1∧v1<(l.length:Int)) <|
  ck ((0:Int)≤((d+2).tmod 4)∧((d+2).tmod 4)<4) <|
  if decide ((((gi l v1.toNat).Next).get ((d+2).tmod 4))<0) then
   some (.inr (.inr v1))
  else
   ck (Zan (n+1)) <|
   some (.inl (((gi l v1.toNat).Next).get ((d+2).tmod 4),n+1))
 else
  some (.inr (.inl ()))

def ZaQ (l:List Za) (v:Int) (d:Int):Option Int :=
 (
  ZV (ZaQ.s0 l d) big (v,0):Option (Unit⊕Int)).bind fun o₁=>match o₁ with
 | .inl _ =>
  some (-1)
 | .inr x =>
  some x

/-! muntin/muntinref16.chains -/
def ZH.s1 (firsts:List Int) (x:Int):Int→Option (Int⊕Int):=fun k_ =>
 (if decide (k_<(firsts.length:Int)) then
  ck ((0:Int)≤k_∧k_<(firsts.length:Int)) <|
  some (!(decide (gi firsts k_.toNat=x)))
 else
  some false).bind fun t =>
 if t then
  ck (Zan (k_+1)) <|
  some (.inl (k_+1))
 else
  some (.inr k_)

def ZH.s2 (l:List Za) (d:Int):(List Int)×Int→Option (((List Int)×Int)⊕(List Int)):=fun (c,w) =>
 if decide (0≤w) then
  ck (c.length+[w].length≤1000000000) <|
  ck ((0:Int)≤w∧w<(l.length:Int)) <|
  ck ((0:Int)≤d∧d<4) <|
  some (.inl (c++[w],((gi l w.toNat).Next).get d))
 else
  some (.inr c)

def ZH.s0 (l:List Za) (d:Int):(List Int)×(List Int)×(List (List Int))×Int→Option (((List Int)×(List Int)×(List (List Int))×Int)⊕(((List Int)×(List (List Int)))⊕Unit)):=fun (at_,firsts,out,v) =>
 if decide (v<(l.length:Int)) then
  (ZaQ l v d).bind fun x =>
  if decide (x<0) then
   some (.inr (.inr ()))
  else
   (ZV (ZH.s1 firsts x) big 0).bind fun k_1 =>
   ck ((0:Int)≤v∧v<(at_.length:Int)) <|
   if decide (k_1=(firsts.length:Int)) then
    ck (firsts.length+[x].length≤1000000000) <|
    (ZV (ZH.s2 l d) big (([]:List Int),x)).bind fun c1 =>
    ck (out.length+1≤1000000000) <|
    ck (Zan (v+1)) <|
    some (.inl (at_.set v.toNat k_1,firsts++[x],out++[c1],v+1))
   else
    ck (Zan (v+1)) <|
    some (.inl (at_.set v.toNat k_1,firsts,out,v+1))
 else
  some (.inr (.inl (at_,out)))

def ZH (l:List Za) (d:Int):Option ((List Int)×(List (List Int))×Bool) :=
 ck ((0:Int)≤(l.length:Int)∧(l.length:Int)≤1000000000) <|
 (
  ZV (ZH.s0 l d) big (List.replicate ((l.length:Int):Int).toNat (0:Int),([]:List Int),([]:List (List Int)),0):Option (((List Int)×(List (List Int)))⊕Unit)).bind fun o₁=>match o₁ with
 | .inl (at_1,out1) =>
  some (at_1,out1,true)
 | .inr _ =>
  some (([]:List Int),([]:List (List Int)),false)

/-! muntin/muntinref16.Of -/
def Zb0 (l:List Za):Option (zQ×Bool) :=
 (ZH l 1).bind fun (x,x1,x2) =>
 (ZH l 0).bind fun (x3,x4,x5) =>
 if (!x2)||(!x5) then
  some ((⟨([]:List Int),([]:List Int),([]:List (List Int)),([]:List (List Int))⟩:zQ),false)
 else
  some ((⟨x,x3,x1,x4⟩:zQ),true)

/-! muntin/muntinref17.Graph -/
def ZaB.s0 (l:List Za) (d:Int) (of:List Int):(List Zav)×Int→Option (((List Zav)×Int)⊕(List Zav)):=fun (out,v) =>
 if decide (v<(l.length:Int)) then
  ck ((0:Int)≤v∧v<(l.length:Int)) <|
  ck ((0:Int)≤d∧d<4) <|
  if decide ((((gi l v.toNat).Next).get d)<0) then
   ck (Zan (v+1)) <|
   some (.inl (out,v+1))
  else
   ck ((0:Int)≤v∧v<(of.length:Int)) <|
   ck ((0:Int)≤(((gi l v.toNat).Next).get d)∧(((gi l v.toNat).Next).get d)<(of.length:Int)) <|
   if decide (0≤(((gi l v.toNat).Owner).get d)) then
    ck (out.length+[{ (⟨gi of v.toNat,gi of (((gi l v.toNat).Next).get d:Int).toNat,(0:Int)⟩:Zav) with Weight:=1 }].length≤1000000000) <|
    ck (Zan (v+1)) <|
    some (.inl (out++[{ (⟨gi of v.toNat,gi of (((gi l v.toNat).Next).get d:Int).toNat,(0:Int)⟩:Zav) with Weight:=1 }],v+1))
   else
    ck (out.length+[(⟨gi of v.toNat,gi of (((gi l v.toNat).Next).get d:Int).toNat,(0:Int)⟩:Zav)].length≤1000000000) <|
    ck (Zan (v+1)) <|
    some (.inl (out++[(⟨gi of v.toNat,gi of (((gi l v.toNat).Next).get d:Int).toNat,(0:Int)⟩:Zav)],v+1))
 else
  some (.inr out)

def ZaB (l:List Za) (d:Int) (of:List Int):Option (List Zav) :=
 (ZV (ZaB.s0 l d of) big (([]:List Zav),0)).bind fun out1 =>
 some out1

/-! muntin/muntinref04.Layers -/
def zC.s1 (arcs:List Zav):(List Int)×Int→Option (((List Int)×Int)⊕(List Int)):=fun (x2,i) =>
 if decide (i<(arcs.length:Int)) then
  ck ((0:Int)≤i∧i<(arcs.length:Int)) <|
  ck ((0:Int)≤((gi arcs i.toNat).To)∧((gi arcs i.toNat).To)<(x2.length:Int)) <|
  ck ((0:Int)≤((gi arcs i.toNat).From)∧((gi arcs i.toNat).From)<(x2.length:Int)) <|
  if decide ((gi x2 ((gi arcs i.toNat).To:Int).toNat)≤(gi x2 ((gi arcs i.toNat).From:Int).toNat)) then
   ck (Zan ((gi x2 ((gi arcs i.toNat).From:Int).toNat)+1)) <|
   ck (Zan (i+1)) <|
   some (.inl (x2.set ((gi arcs i.toNat).To:Int).toNat ((gi x2 ((gi arcs i.toNat).From:Int).toNat)+1),i+1))
  else
   ck (Zan (i+1)) <|
   some (.inl (x2,i+1))
 else
  some (.inr x2)

def zC.s0 (n:Int) (arcs:List Zav):(List Int)×Int→Option (((List Int)×Int)⊕(List Int)):=fun (x,round) =>
 if decide (round≤n) then
  (ZV (zC.s1 arcs) big (x,0)).bind fun x3 =>
  ck (Zan (round+1)) <|
  some (.inl (x3,round+1))
 else
  some (.inr x)

def zC (n:Int) (arcs:List Zav):Option (List Int) :=
 ck ((0:Int)≤n∧n≤1000000000) <|
 (ZV (zC.s0 n arcs) big (List.replicate n.toNat (0:Int),0)).bind fun x1 =>
 some x1

/-! muntin/muntinref17.Place -/
def ZaR.s0 (c:zQ) (x:List Int) (y:List Int):(List Zl)×Int→Option (((List Zl)×Int)⊕(List Zl)):=fun (out,v) =>
 if decide (v<(c.X.length:Int)) then
  ck ((0:Int)≤v∧v<(c.X.length:Int)) <|
  ck ((0:Int)≤(gi c.X v.toNat)∧(gi c.X v.toNat)<(x.length:Int)) <|
  ck ((0:Int)≤v∧v<(c.Y.length:Int)) <|
  ck ((0:Int)≤(gi c.Y v.toNat)∧(gi c.Y v.toNat)<(y.length:Int)) <|
  ck (out.length+[(⟨gi x (gi c.X v.toNat:Int).toNat,gi y (gi c.Y v.toNat:Int).toNat⟩:Zl)].length≤1000000000) <|
  ck (Zan (v+1)) <|
  some (.inl (out++[(⟨gi x (gi c.X v.toNat:Int).toNat,gi y (gi c.Y v.toNat:Int).toNat⟩:Zl)],v+1))
 else
  some (.inr out)

def ZaR (c:zQ) (x:List Int) (y:List Int):Option (List Zl) :=
 (ZV (ZaR.s0 c x y) big (([]:List Zl),0)).bind fun out1 =>
 some out1

/-! muntin/muntinref17.Straight -/
def Zaw.s0 (l:List Za) (at_:List Zl):Int→Option (Int⊕(Unit⊕Unit)):=fun v =>
 if decide (v<(l.length:Int)) then
  ck ((0:Int)≤v∧v<(l.length:Int)) <|
  (if decide (0≤(((gi l v.toNat).Next).get 0)) then
   ck ((0:Int)≤(max (((gi l v.toNat).Next).get 0) 0)∧(max (((gi l v.toNat).Next).get 0) 0)<(at_.length:Int)) <|
   ck ((0:Int)≤v∧v<(at_.length:Int)) <|
   some ((!(decide ((gi at_ (max (((gi l v.toNat).Next).get 0) 0:Int).toNat).Y=(gi at_ v.toNat).Y)))||(decide (((gi at_ (max (((gi l v.toNat).Next).get 0) 0:Int).toNat).X)≤((gi at_ v.toNat).X))))
  else
   some false).bind fun t =>
  if t then
   some (.inr (.inr ()))
  else
   (if decide (0≤(((gi l v.toNat).Next).get 1)) then
    ck ((0:Int)≤(max (((gi l v.toNat).Next).get 1) 0)∧(max (((gi l v.toNat).Next).get 1) 0)<(at_.length:Int)) <|
    ck ((0:Int)≤v∧v<(at_.length:Int)) <|
    some ((!(decide ((gi at_ (max (((gi l v.toNat).Next).get 1) 0:Int).toNat).X=(gi at_ v.toNat).X)))||(decide (((gi at_ (max (((gi l v.toNat).Next).get 1) 0:Int).toNat).Y)≤((gi at_ v.toNat).Y))))
   else
    some false).bind fun t1 =>
   if t1 then
    some (.inr (.inr ()))
   else
    ck (Zan (v+1)) <|
    some (.inl (v+1))
 else
  some (.inr (.inl ()))

def Zaw (l:List Za) (at_:List Zl):Option Bool :=
 (
  ZV (Zaw.s0 l at_) big 0:Option (Unit⊕Unit)).bind fun o₁=>match o₁ with
 | .inl _ =>
  some true
 | .inr _ =>
  some false

/-! muntin/muntinref19.Lines -/
def zU.s0 (c:zQ):(List zp)×Int→Option (((List zp)×Int)⊕(List zp)):=fun (l,i) =>
 if decide (i<(c.Vert.length:Int)) then
  ck ((0:Int)≤i∧i<(c.Vert.length:Int)) <|
  if decide (1<((gi c.Vert i.toNat).length:Int)) then
   ck (l.length+[(⟨true,i⟩:zp)].length≤1000000000) <|
   ck (Zan (i+1)) <|
   some (.inl (l++[(⟨true,i⟩:zp)],i+1))
  else
   ck (Zan (i+1)) <|
   some (.inl (l,i+1))
 else
  some (.inr l)

def zU.s1 (c:zQ):(List zp)×Int→Option (((List zp)×Int)⊕(List zp)):=fun (l2,i1) =>
 if decide (i1<(c.Horz.length:Int)) then
  ck ((0:Int)≤i1∧i1<(c.Horz.length:Int)) <|
  if decide (1<((gi c.Horz i1.toNat).length:Int)) then
   ck (l2.length+[(⟨false,i1⟩:zp)].length≤1000000000) <|
   ck (Zan (i1+1)) <|
   some (.inl (l2++[(⟨false,i1⟩:zp)],i1+1))
  else
   ck (Zan (i1+1)) <|
   some (.inl (l2,i1+1))
 else
  some (.inr l2)

def zU (c:zQ):Option (List zp) :=
 (ZV (zU.s0 c) big (([]:List zp),0)).bind fun l1 =>
 (ZV (zU.s1 c) big (l1,0)).bind fun l3 =>
 some l3

/-! muntin/muntinref16.Meet -/
def ZaA.s0 (c:zQ) (vertical:Bool) (i:Int) (other:Bool) (k_:Int):Int→Option (Int⊕(Unit⊕Unit)):=fun v =>
 if decide (v<(c.X.length:Int)) then
  ck ((0:Int)≤v∧v<(c.Y.length:Int)) <|
  (
   if vertical then
    ck ((0:Int)≤v∧v<(c.X.length:Int)) <|
    some (decide (gi c.X v.toNat=i))
   else
    some (decide (gi c.Y v.toNat=i))).bind fun a =>
  if other then
   ck ((0:Int)≤v∧v<(c.X.length:Int)) <|
   if a&&(decide (gi c.X v.toNat=k_)) then
    some (.inr (.inr ()))
   else
    ck (Zan (v+1)) <|
    some (.inl (v+1))
  else
   if a&&(decide (gi c.Y v.toNat=k_)) then
    some (.inr (.inr ()))
   else
    ck (Zan (v+1)) <|
    some (.inl (v+1))
 else
  some (.inr (.inl ()))

def ZaA (c:zQ) (vertical:Bool) (i:Int) (other:Bool) (k_:Int):Option Bool :=
 (
  ZV (ZaA.s0 c vertical i other k_) big 0:Option (Unit⊕Unit)).bind fun o₁=>match o₁ with
 | .inl _ =>
  some false
 | .inr _ =>
  some true

/-! muntin/muntinref19.ends -/
def Zb9 (c:zQ) (l:zp) (at_:List Zl):Option (Zl×Zl) :=
 (
  if l.Vertical then
   some c.Vert
  else
   some c.Horz).bind fun x =>
 ck ((0:Int)≤l.Place∧l.Place<(x.length:Int)) <|
 ck ((0:Int)≤0∧0<((gi x (l.Place:Int).toNat).length:Int)) <|
 ck ((0:Int)≤(gi (gi x (l.Place:Int).toNat) (0:Int).toNat)∧(gi (gi x (l.Place:Int).toNat) (0:Int).toNat)<(at_.length:Int)) <|
 ck (Zan (((gi x (l.Place:Int).toNat).length:Int)-1)) <|
 ck ((0:Int)≤(((gi x (l.Place:Int).toNat).length:Int)-1)∧(((gi x (l.Place:Int).toNat).length:Int)-1)<((gi x (l.Place:Int).toNat).length:Int)) <|
 ck ((0:Int)≤(gi (gi x (l.Place:Int).toNat) (((gi x (l.Place:Int).toNat).length:Int)-1:Int).toNat)∧(gi (gi x (l.Place:Int).toNat) (((gi x (l.Place:Int).toNat).length:Int)-1:Int).toNat)<(at_.length:Int)) <|
 some (gi at_ (gi (gi x (l.Place:Int).toNat) (0:Int).toNat:Int).toNat,gi at_ (gi (gi x (l.Place:Int).toNat) (((gi x (l.Place:Int).toNat).length:Int)-1:Int).toNat:Int).toNat)

/-! muntin/muntinref19.Real -/
def zy.s1 (at_:List Zl) (x1:zQ) (x3:List zp) (i:Int):Int→Option (Int⊕(Unit⊕Unit)):=fun k_ =>
 if decide (k_<(x3.length:Int)) then
  ck ((0:Int)≤i∧i<(x3.length:Int)) <|
  ck ((0:Int)≤k_∧k_<(x3.length:Int)) <|
  (ZaA x1 ((gi x3 i.toNat).Vertical) ((gi x3 i.toNat).Place) ((gi x3 k_.toNat).Vertical) ((gi x3 k_.toNat).Place)).bind fun x4 =>
  (Zb9 x1 (gi x3 i.toNat) at_).bind fun (x5,x6) =>
  (Zb9 x1 (gi x3 k_.toNat) at_).bind fun (x7,x8) =>
  if (!x4)&&(!((((decide (x6.X<x7.X))||(decide (x8.X<x5.X)))||(decide (x6.Y<x7.Y)))||(decide (x8.Y<x5.Y)))) then
   some (.inr (.inr ()))
  else
   ck (Zan (k_+1)) <|
   some (.inl (k_+1))
 else
  some (.inr (.inl ()))

def zy.s0 (at_:List Zl) (x1:zQ) (x3:List zp):Int→Option (Int⊕(Unit⊕Unit)):=fun i =>
 if decide (i<(x3.length:Int)) then
  ck (Zan (i+1)) <|
  (
   ZV (zy.s1 at_ x1 x3 i) big (i+1):Option (Unit⊕Unit)).bind fun o₃=>match o₃ with
  | .inl _ =>
   some (.inl (i+1))
  | .inr _ =>
   some (.inr (.inr ()))
 else
  some (.inr (.inl ()))

def zy (l:List Za) (at_:List Zl):Option Bool :=
 if !(decide ((at_.length:Int)=(l.length:Int))) then
  some false
 else
  (Zaw l at_).bind fun x =>
  if !x then
   some false
  else
   (Zb0 l).bind fun (x1,x2) =>
   (zU x1).bind fun x3 =>
   (
    ZV (zy.s0 at_ x1 x3) big 0:Option (Unit⊕Unit)).bind fun o₁=>match o₁ with
   | .inl _ =>
    some true
   | .inr _ =>
    some false

/-! muntin/muntinlaw22.RegularDraws -/
def Zbz (z:Zah) (picks:List Bool):Option Bool :=
 (ZW z 9).bind fun (x,x1) =>
 (ZaO x picks).bind fun (x2,x3,x4) =>
 (ZbF ).bind fun x5 =>
 if (!x5)||(!(decide (x4=0))) then
  (ZbF ).bind fun x6 =>
  some x6
 else
  (Zaa x2).bind fun (x7,x8) =>
  if !(decide (x8=0)) then
   some false
  else
   (Zb0 x7).bind fun (x9,x10) =>
   if !x10 then
    some false
   else
    (ZaB x7 0 x9.X).bind fun x11 =>
    (zC (x9.Vert.length:Int) x11).bind fun x12 =>
    (ZaB x7 1 x9.Y).bind fun x13 =>
    (zC (x9.Horz.length:Int) x13).bind fun x14 =>
    (ZaR x9 x12 x14).bind fun x15 =>
    ck ((0:Int)≤(x.length:Int)∧(x.length:Int)≤(x15.length:Int)) <|
    (zy x2 (x15.take ((x.length:Int):Int).toNat)).bind fun x16 =>
    (if x16 then
     (zy x (x15.take ((x.length:Int):Int).toNat)).bind fun x17 =>
     some x17
    else
     some false).bind fun t =>
    some t

end Mu
