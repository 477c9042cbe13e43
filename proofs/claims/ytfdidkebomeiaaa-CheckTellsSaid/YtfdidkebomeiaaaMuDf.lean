/- What the functions work out. -/
import Derived.Test.YtfdidkebomeiaaaMuA
import Derived.Test.YtfdidkebomeiaaaMuR
set_option linter.unusedVariables false
set_option linter.unnecessarySimpa false
set_option linter.unusedSimpArgs false
set_option maxHeartbeats 2000000
set_option maxRecDepth 10000
namespace Mu
open Go (IntKind BinOp UnOp)
structure zX where
 At:List Int
 Bits:List Int
 Own:List Int
 deriving DecidableEq,Inhabited
structure Zf where
 X:Int
 Y:Int
 deriving DecidableEq,Inhabited
abbrev Zfm:Enc Int:=⟨1,fun x=>[.i .u8 x],fun _=>rfl⟩
theorem Zfm.one (x:Int):(Zfm.c x).all V.one = true:=rfl
abbrev ZiC:Enc Int:=⟨1,fun x=>[.i .i8 x],fun _=>rfl⟩
theorem ZiC.one (x:Int):(ZiC.c x).all V.one = true:=rfl
abbrev Zc:Enc Zf:=⟨2,fun x=>[.i .i64 x.X,.i .i64 x.Y],fun _=>rfl⟩
theorem Zc.one (x:Zf):(Zc.c x).all V.one = true:=rfl
theorem Zc.same (x y:Zf):ZaJ [.i,.i] (Zc.c x) (Zc.c y) = some (decide (x = y)):=by
 obtain ⟨x1,x2⟩:=x
 obtain ⟨y1,y2⟩:=y
 refine (Zfx (Zfx Zgx)).trans ?_
 congr 1
 rw [Bool.eq_iff_iff]
 simp [and_assoc]
structure Ze where
 Next:A4 Int
 Owner:A4 Int
 deriving DecidableEq,Inhabited
abbrev Zn:Enc Ze:=⟨8,fun x=>[.i .i64 x.Next.a,.i .i64 x.Next.b,.i .i64 x.Next.c,.i .i64 x.Next.d,.i .i64 x.Owner.a,.i .i64 x.Owner.b,.i .i64 x.Owner.c,.i .i64 x.Owner.d],fun _=>rfl⟩
theorem Zn.one (x:Ze):(Zn.c x).all V.one = true:=rfl
abbrev Zbf:Enc (A10 Int):=⟨10,fun x=>[.i .i64 x.a,.i .i64 x.b,.i .i64 x.c,.i .i64 x.d,.i .i64 x.e,.i .i64 x.f,.i .i64 x.g,.i .i64 x.h,.i .i64 x.i,.i .i64 x.j],fun _=>rfl⟩
theorem Zbf.one (x:A10 Int):(Zbf.c x).all V.one = true:=rfl
abbrev e_bool:Enc Bool:=⟨1,fun x=>[.b x],fun _=>rfl⟩
theorem e_bool.one (x:Bool):(e_bool.c x).all V.one = true:=rfl
structure Zy where
 Cell:Int
 Dir:Int
 deriving DecidableEq,Inhabited
abbrev Zl:Enc Zy:=⟨2,fun x=>[.i .i64 x.Cell,.i .i64 x.Dir],fun _=>rfl⟩
theorem Zl.one (x:Zy):(Zl.c x).all V.one = true:=rfl
theorem Zl.same (x y:Zy):ZaJ [.i,.i] (Zl.c x) (Zl.c y) = some (decide (x = y)):=by
 obtain ⟨x1,x2⟩:=x
 obtain ⟨y1,y2⟩:=y
 refine (Zfx (Zfx Zgx)).trans ?_
 congr 1
 rw [Bool.eq_iff_iff]
 simp [and_assoc]
abbrev ZcF:Enc (A4 Int):=⟨4,fun x=>[.i .i64 x.a,.i .i64 x.b,.i .i64 x.c,.i .i64 x.d],fun _=>rfl⟩
theorem ZcF.one (x:A4 Int):(ZcF.c x).all V.one = true:=rfl
structure ZaZ where
 X:List Int
 Y:List Int
 Vert:List (List Int)
 Horz:List (List Int)
 deriving DecidableEq,Inhabited
structure Zai where
 Vertical:Bool
 Place:Int
 deriving DecidableEq,Inhabited
abbrev ZP:Enc Zai:=⟨2,fun x=>[.b x.Vertical,.i .i64 x.Place],fun _=>rfl⟩
theorem ZP.one (x:Zai):(ZP.c x).all V.one = true:=rfl
structure Zbe where
 Low:Zf
 High:Zf
 deriving DecidableEq,Inhabited
abbrev zH:Enc Zbe:=⟨4,fun x=>[.i .i64 x.Low.X,.i .i64 x.Low.Y,.i .i64 x.High.X,.i .i64 x.High.Y],fun _=>rfl⟩
theorem zH.one (x:Zbe):(zH.c x).all V.one = true:=rfl
structure Zz where
 Cell:Int
 Dir:Int
 deriving DecidableEq,Inhabited
abbrev Zo:Enc Zz:=⟨2,fun x=>[.i .i64 x.Cell,.i .i64 x.Dir],fun _=>rfl⟩
theorem Zo.one (x:Zz):(Zo.c x).all V.one = true:=rfl
structure Zah where
 X:List Int
 Y:List Int
 Vert:List (List Int)
 Horz:List (List Int)
 deriving DecidableEq,Inhabited
structure ZY where
 Vertical:Bool
 Place:Int
 deriving DecidableEq,Inhabited
abbrev ZD:Enc ZY:=⟨2,fun x=>[.b x.Vertical,.i .i64 x.Place],fun _=>rfl⟩
theorem ZD.one (x:ZY):(ZD.c x).all V.one = true:=rfl
def ZfI (x:Int):Prop:=Wf .u8 x
def ZiY (x:Int):Prop:=Wf .i8 x
def Zei (x:Zf):Prop:=Wf .i64 x.X∧Wf .i64 x.Y
/-! muntin/muntinref10.New -/
def zU.s1 (v:Int):(List Ze) × Int→Option (((List Ze) × Int) ⊕ (List Ze)):=fun (l2,d) =>
 if decide (d < 4) then
  ck ((0:Int)≤v∧v < (l2.length:Int)) <|
  ck ((0:Int)≤d∧d < 4) <|
  ck (Zal (d + 1)) <|
  some (.inl (l2.set v.toNat ({ gi l2 v.toNat with Next:=((gi l2 v.toNat).Next).set d (-1) }),d + 1))
 else
  some (.inr l2)

def zU.s0 (n:Int):(List Ze) × Int→Option (((List Ze) × Int) ⊕ (List Ze)):=fun (l,v) =>
 if decide (v < n) then
  (ZT (zU.s1 v) big (l,0)).bind fun l3 =>
  ck (Zal (v + 1)) <|
  some (.inl (l3,v + 1))
 else
  some (.inr l)

def zU (n:Int):Option (List Ze) :=
 ck ((0:Int)≤n∧n≤1000000000) <|
 (ZT (zU.s0 n) big (List.replicate n.toNat (⟨⟨0,0,0,0⟩,⟨0,0,0,0⟩⟩:Ze),0)).bind fun l1 =>
 some l1

/-! muntin/muntinref10.Nearest -/
def zj.s0 (at_:List Zf) (i:Int) (d:Int):Int × Int→Option ((Int × Int) ⊕ Int):=fun (best,k_) =>
 if decide (k_ < (at_.length:Int)) then
  (if decide (d = 0) then
   ck ((0:Int)≤k_∧k_ < (at_.length:Int)) <|
   ck ((0:Int)≤i∧i < (at_.length:Int)) <|
   some (decide ((gi at_ k_.toNat).Y = (gi at_ i.toNat).Y))
  else
   some false).bind fun t =>
  (if t then
   ck ((0:Int)≤k_∧k_ < (at_.length:Int)) <|
   ck ((0:Int)≤i∧i < (at_.length:Int)) <|
   some (decide (((gi at_ i.toNat).X) < ((gi at_ k_.toNat).X)))
  else
   some false).bind fun t1 =>
  (if t1 then
   (if decide (best < 0) then
    some true
   else
    ck ((0:Int)≤k_∧k_ < (at_.length:Int)) <|
    ck ((0:Int)≤best∧best < (at_.length:Int)) <|
    some (decide (((gi at_ k_.toNat).X) < ((gi at_ best.toNat).X)))).bind fun t3 =>
   some t3
  else
   some false).bind fun t2 =>
  (
   if t2 then
    some k_
   else
    some best).bind fun best2 =>
  (if decide (d = 1) then
   ck ((0:Int)≤k_∧k_ < (at_.length:Int)) <|
   ck ((0:Int)≤i∧i < (at_.length:Int)) <|
   some (decide ((gi at_ k_.toNat).X = (gi at_ i.toNat).X))
  else
   some false).bind fun t4 =>
  (if t4 then
   ck ((0:Int)≤k_∧k_ < (at_.length:Int)) <|
   ck ((0:Int)≤i∧i < (at_.length:Int)) <|
   some (decide (((gi at_ i.toNat).Y) < ((gi at_ k_.toNat).Y)))
  else
   some false).bind fun t5 =>
  (if t5 then
   (if decide (best2 < 0) then
    some true
   else
    ck ((0:Int)≤k_∧k_ < (at_.length:Int)) <|
    ck ((0:Int)≤best2∧best2 < (at_.length:Int)) <|
    some (decide (((gi at_ k_.toNat).Y) < ((gi at_ best2.toNat).Y)))).bind fun t7 =>
   some t7
  else
   some false).bind fun t6 =>
  if t6 then
   ck (Zal (k_ + 1)) <|
   some (.inl (k_,k_ + 1))
  else
   ck (Zal (k_ + 1)) <|
   some (.inl (best2,k_ + 1))
 else
  some (.inr best)

def zj (at_:List Zf) (i:Int) (d:Int):Option Int :=
 (ZT (zj.s0 at_ i d) big ((-1),0)).bind fun best1 =>
 some best1

/-! muntin/muntinref10.Crossed -/
def zi.s1 (at_:List Zf) (l:List Ze) (i:Int) (w:Int) (a:Int):Int→Option (Int ⊕ (Unit ⊕ Unit)):=fun d =>
 if decide (d < 2) then
  ck ((0:Int)≤a∧a < (l.length:Int)) <|
  ck ((0:Int)≤d∧d < 4) <|
  if decide ((((gi l a.toNat).Next).get d) < 0) then
   ck (Zal (d + 1)) <|
   some (.inl (d + 1))
  else
   ck ((0:Int)≤a∧a < (at_.length:Int)) <|
   ck ((0:Int)≤(((gi l a.toNat).Next).get d)∧(((gi l a.toNat).Next).get d) < (at_.length:Int)) <|
   (if decide ((gi at_ a.toNat).Y = (gi at_ (((gi l a.toNat).Next).get d:Int).toNat).Y) then
    ck ((0:Int)≤i∧i < (at_.length:Int)) <|
    ck ((0:Int)≤w∧w < (at_.length:Int)) <|
    some (decide ((gi at_ i.toNat).X = (gi at_ w.toNat).X))
   else
    some false).bind fun t =>
   (if t then
    ck ((0:Int)≤i∧i < (at_.length:Int)) <|
    some (decide (((gi at_ a.toNat).X) < ((gi at_ i.toNat).X)))
   else
    some false).bind fun t1 =>
   (if t1 then
    ck ((0:Int)≤i∧i < (at_.length:Int)) <|
    some (decide (((gi at_ i.toNat).X) < ((gi at_ (((gi l a.toNat).Next).get d:Int).toNat).X)))
   else
    some false).bind fun t2 =>
   (if t2 then
    ck ((0:Int)≤i∧i < (at_.length:Int)) <|
    some (decide (((gi at_ i.toNat).Y) < ((gi at_ a.toNat).Y)))
   else
    some false).bind fun t3 =>
   (if t3 then
    ck ((0:Int)≤w∧w < (at_.length:Int)) <|
    some (decide (((gi at_ a.toNat).Y) < ((gi at_ w.toNat).Y)))
   else
    some false).bind fun t4 =>
   if t4 then
    some (.inr (.inr ()))
   else
    (if decide ((gi at_ a.toNat).X = (gi at_ (((gi l a.toNat).Next).get d:Int).toNat).X) then
     ck ((0:Int)≤i∧i < (at_.length:Int)) <|
     ck ((0:Int)≤w∧w < (at_.length:Int)) <|
     some (decide ((gi at_ i.toNat).Y = (gi at_ w.toNat).Y))
    else
     some false).bind fun t5 =>
    (if t5 then
     ck ((0:Int)≤i∧i < (at_.length:Int)) <|
     some (decide (((gi at_ i.toNat).X) < ((gi at_ a.toNat).X)))
    else
     some false).bind fun t6 =>
    (if t6 then
     ck ((0:Int)≤w∧w < (at_.length:Int)) <|
     some (decide (((gi at_ a.toNat).X) < ((gi at_ w.toNat).X)))
    else
     some false).bind fun t7 =>
    (if t7 then
     ck ((0:Int)≤i∧i < (at_.length:Int)) <|
     some (decide (((gi at_ a.toNat).Y) < ((gi at_ i.toNat).Y)))
    else
     some false).bind fun t8 =>
    (if t8 then
     ck ((0:Int)≤i∧i < (at_.length:Int)) <|
     some (decide (((gi at_ i.toNat).Y) < ((gi at_ (((gi l a.toNat).Next).get d:Int).toNat).Y)))
    else
     some false).bind fun t9 =>
    if t9 then
     some (.inr (.inr ()))
    else
     ck (Zal (d + 1)) <|
     some (.inl (d + 1))
 else
  some (.inr (.inl ()))

def zi.s0 (at_:List Zf) (l:List Ze) (i:Int) (w:Int):Int→Option (Int ⊕ (Unit ⊕ Unit)):=fun a =>
 if decide (a < (l.length:Int)) then
  (
   ZT (zi.s1 at_ l i w a) big 0:Option (Unit ⊕ Unit)).bind fun o₃=>match o₃ with
  | .inl _ =>
   ck (Zal (a + 1)) <|
   some (.inl (a + 1))
  | .inr _ =>
   some (.inr (.inr ()))
 else
  some (.inr (.inl ()))

def zi (at_:List Zf) (l:List Ze) (i:Int) (w:Int):Option Bool :=
 (
  ZT (zi.s0 at_ l i w) big 0:Option (Unit ⊕ Unit)).bind fun o₁=>match o₁ with
 | .inl _ =>
  some false
 | .inr _ =>
  some true

/-! muntin/muntinref10.with -/
def Za4.s0 (l:List Ze) (v:Int) (d:Int) (w:Int) (o:Int):(List Ze) × Int→Option (((List Ze) × Int) ⊕ (List Ze)):=fun (out,i) =>
 if decide (i < (l.length:Int)) then
  ck ((0:Int)≤i∧i < (l.length:Int)) <|
  (
   if decide (i = v) then
    ck ((0:Int)≤d∧d < 4) <|
    some ({ { gi l i.toNat with Next:=((gi l i.toNat).Next).set d w } with Owner:=(({ gi l i.toNat with Next:=((gi l i.toNat).Next).set d w }).Owner).set d o })
   else
    some (gi l i.toNat)).bind fun c =>
  if decide (i = w) then
   ck (Zal (d + 2)) <|
   ck ((0:Int)≤((d + 2).tmod 4)∧((d + 2).tmod 4) < 4) <|
   ck (out.length + [{ { c with Next:=c.Next.set ((d + 2).tmod 4) v } with Owner:=(({ c with Next:=c.Next.set ((d + 2).tmod 4) v }).Owner).set ((d + 2).tmod 4) o }].length≤1000000000) <|
   ck (Zal (i + 1)) <|
   some (.inl (out++[{ { c with Next:=c.Next.set ((d + 2).tmod 4) v } with Owner:=(({ c with Next:=c.Next.set ((d + 2).tmod 4) v }).Owner).set ((d + 2).tmod 4) o }],i + 1))
  else
   ck (out.length + [c].length≤1000000000) <|
   ck (Zal (i + 1)) <|
   some (.inl (out++[c],i + 1))
 else
  some (.inr out)

def Za4 (l:List Ze) (v:Int) (d:Int) (w:Int) (o:Int):Option (List Ze) :=
 (ZT (Za4.s0 l v d w o) big (([]:List Ze),0)).bind fun out1 =>
 some out1

/-! muntin/muntinref10.Make -/
def ZV.s1 (z:zX) (at_:List Zf) (i:Int):Bool × Int→Option ((Bool × Int) ⊕ ((List Zf) × Bool)):=fun (met,k_) =>
 if decide (k_ < (at_.length:Int)) then
  (if met then
   some true
  else
   ck ((0:Int)≤k_∧k_ < (at_.length:Int)) <|
   some (decide (gi at_ k_.toNat = (⟨(gi z.At i.toNat).tmod 8,((gi z.At i.toNat).tdiv 8).tmod 8⟩:Zf)))).bind fun t =>
  ck (Zal (k_ + 1)) <|
  some (.inl (t,k_ + 1))
 else
  some (.inr (at_,met))

def ZV.s0 (z:zX) (most:Int):(List Zf) × Int→Option (((List Zf) × Int) ⊕ (List Zf)):=fun (at_,i) =>
 if (decide (i < (z.At.length:Int))) && (decide ((at_.length:Int) < most)) then
  ck ((0:Int)≤i∧i < (z.At.length:Int)) <|
  ck (inK .i64 (gi z.At i.toNat)) <|
  ck ((8:Int)≠0∧Zal ((gi z.At i.toNat).tdiv 8)) <|
  (ZT (ZV.s1 z at_ i) big (false,0)).bind fun (at_2,met1) =>
  if !met1 then
   ck (at_2.length + [(⟨(gi z.At i.toNat).tmod 8,((gi z.At i.toNat).tdiv 8).tmod 8⟩:Zf)].length≤1000000000) <|
   ck (Zal (i + 1)) <|
   some (.inl (at_2++[(⟨(gi z.At i.toNat).tmod 8,((gi z.At i.toNat).tdiv 8).tmod 8⟩:Zf)],i + 1))
  else
   ck (Zal (i + 1)) <|
   some (.inl (at_2,i + 1))
 else
  some (.inr at_)

def ZV.s3 (i1:Int) (bits:Int) (at_6:List Zf) (own:Int):(List Ze) × Int→Option (((List Ze) × Int) ⊕ (List Ze)):=fun (l4,d) =>
 if decide (d < 2) then
  (zj at_6 i1 d).bind fun x1 =>
  ck ((0:Int)≤d) <|
  if (decide (Z6 .u8 (ZO .u8 bits d) 1 = 0)) || (decide (x1 < 0)) then
   ck (Zal (d + 1)) <|
   some (.inl (l4,d + 1))
  else
   (zi at_6 l4 i1 x1).bind fun x2 =>
   if !x2 then
    (Za4 l4 i1 d x1 own).bind fun x3 =>
    ck (Zal (d + 1)) <|
    some (.inl (x3,d + 1))
   else
    ck (Zal (d + 1)) <|
    some (.inl (l4,d + 1))
 else
  some (.inr l4)

def ZV.s2 (z:zX):(List Zf) × (List Ze) × Int→Option (((List Zf) × (List Ze) × Int) ⊕ ((List Zf) × (List Ze))):=fun (at_3,l,i1) =>
 if decide (i1 < (at_3.length:Int)) then
  (
   if decide (i1 < (z.Bits.length:Int)) then
    ck ((0:Int)≤i1∧i1 < (z.Bits.length:Int)) <|
    some (at_3,l,gi z.Bits i1.toNat)
   else
    some (at_3,l,3)).bind fun (at_5,l2,bits) =>
  (
   if decide (i1 < (z.Own.length:Int)) then
    ck ((0:Int)≤i1∧i1 < (z.Own.length:Int)) <|
    ck (inK .i64 (gi z.Own i1.toNat)) <|
    if decide ((gi z.Own i1.toNat) < (-2)) then
     ck (Zal (-(gi z.Own i1.toNat))) <|
     some (at_5,l2,-(gi z.Own i1.toNat))
    else
     some (at_5,l2,gi z.Own i1.toNat)
   else
    some (at_5,l2,i1)).bind fun (at_6,l3,own) =>
  (ZT (ZV.s3 i1 bits at_6 own) big (l3,0)).bind fun l5 =>
  ck (Zal (i1 + 1)) <|
  some (.inl (at_6,l5,i1 + 1))
 else
  some (.inr (at_3,l))

def ZV (z:zX) (most:Int):Option ((List Ze) × (List Zf)) :=
 (ZT (ZV.s0 z most) big (([]:List Zf),0)).bind fun at_1 =>
 (zU (at_1.length:Int)).bind fun x =>
 (ZT (ZV.s2 z) big (at_1,x,0)).bind fun (at_4,l1) =>
 some (l1,at_4)

/-! slices.Clone[[]muntin/api.Point,muntin/api.Point] -/
def ZbH (s:List Zf):Option (List Zf) :=
 ck (s.length≤1000000000) <|
 some s
/-! muntin/muntinref19.Stretched -/
def zz.s0 (steps:List Int):(A10 Int) × (A10 Int) × Int→Option (((A10 Int) × (A10 Int) × Int) ⊕ ((A10 Int) × (A10 Int))):=fun (x,y,i) =>
 if decide (i < 10) then
  ck (Zal (2 * i)) <|
  (
   if decide ((2 * i) < (steps.length:Int)) then
    ck ((0:Int)≤(2 * i)∧(2 * i) < (steps.length:Int)) <|
    ck (inK .i64 (gi steps (2 * i:Int).toNat)) <|
    ck (Zal (1 + ((gi steps (2 * i:Int).toNat).tmod 5))) <|
    some (1 + ((gi steps (2 * i:Int).toNat).tmod 5))
   else
    some 1).bind fun s =>
  ck (Zal ((2 * i) + 1)) <|
  (
   if decide (((2 * i) + 1) < (steps.length:Int)) then
    ck ((0:Int)≤((2 * i) + 1)∧((2 * i) + 1) < (steps.length:Int)) <|
    ck (inK .i64 (gi steps ((2 * i) + 1:Int).toNat)) <|
    ck (Zal (1 + ((gi steps ((2 * i) + 1:Int).toNat).tmod 5))) <|
    some (1 + ((gi steps ((2 * i) + 1:Int).toNat).tmod 5))
   else
    some 1).bind fun t =>
  ck (Zal (i - 1)) <|
  ck ((0:Int)≤(i - 1)∧(i - 1) < 10) <|
  ck (Zal ((x.get (i - 1)) + s)) <|
  ck ((0:Int)≤i∧i < 10) <|
  ck (Zal ((y.get (i - 1)) + t)) <|
  ck (Zal (i + 1)) <|
  some (.inl (x.set i ((x.get (i - 1)) + s),y.set i ((y.get (i - 1)) + t),i + 1))
 else
  some (.inr (x,y))

def zz.s1 (at_:List Zf) (x1:A10 Int) (y1:A10 Int):(List Zf) × Int→Option (((List Zf) × Int) ⊕ (List Zf)):=fun (out,i1) =>
 if decide (i1 < (at_.length:Int)) then
  ck ((0:Int)≤i1∧i1 < (at_.length:Int)) <|
  ck ((0:Int)≤(((gi at_ i1.toNat).X).tmod 10)∧(((gi at_ i1.toNat).X).tmod 10) < 10) <|
  ck ((0:Int)≤(((gi at_ i1.toNat).Y).tmod 10)∧(((gi at_ i1.toNat).Y).tmod 10) < 10) <|
  ck (out.length + [(⟨x1.get (((gi at_ i1.toNat).X).tmod 10),y1.get (((gi at_ i1.toNat).Y).tmod 10)⟩:Zf)].length≤1000000000) <|
  ck (Zal (i1 + 1)) <|
  some (.inl (out++[(⟨x1.get (((gi at_ i1.toNat).X).tmod 10),y1.get (((gi at_ i1.toNat).Y).tmod 10)⟩:Zf)],i1 + 1))
 else
  some (.inr out)

def zz (at_:List Zf) (steps:List Int):Option (List Zf) :=
 (ZT (zz.s0 steps) big ((⟨0,0,0,0,0,0,0,0,0,0⟩:A10 Int),(⟨0,0,0,0,0,0,0,0,0,0⟩:A10 Int),1)).bind fun (x1,y1) =>
 (ZT (zz.s1 at_ x1 y1) big (([]:List Zf),0)).bind fun out1 =>
 some out1

/-! muntin/compass.Good -/
def Zbq (d:Int):Option Bool :=
 some ((decide (0≤d)) && (decide (d≤3)))

/-! muntin/compass.Left -/
def Zbr (d:Int) (times:Int):Option Int :=
 (Zbq d).bind fun x =>
 if !x then
  some 0
 else
  ck (Zal (d + (times.tmod 4))) <|
  ck (Zal ((d + (times.tmod 4)) + 4)) <|
  some (((d + (times.tmod 4)) + 4).tmod 4)

/-! muntin/grid.side -/
def ZcK (cells:List Ze) (v:Int) (d:Int):Option Int :=
 ck ((0:Int)≤v∧v < (cells.length:Int)) <|
 ck ((0:Int)≤d∧d < 4) <|
 if decide (((gi cells v.toNat).Next).get d = (-1)) then
  if !(decide (((gi cells v.toNat).Owner).get d = 0)) then
   some 9
  else
   some 0
 else
  if ((decide ((((gi cells v.toNat).Next).get d) < 0)) || (decide ((cells.length:Int)≤(((gi cells v.toNat).Next).get d)))) || (decide (((gi cells v.toNat).Next).get d = v)) then
   some 3
  else
   (Zbr d 2).bind fun x =>
   ck ((0:Int)≤(((gi cells v.toNat).Next).get d)∧(((gi cells v.toNat).Next).get d) < (cells.length:Int)) <|
   ck ((0:Int)≤x∧x < 4) <|
   if ((!(decide (((gi cells (((gi cells v.toNat).Next).get d:Int).toNat).Next).get x = v))) || (!(decide (((gi cells (((gi cells v.toNat).Next).get d:Int).toNat).Owner).get x = ((gi cells v.toNat).Owner).get d)))) || (decide ((((gi cells v.toNat).Owner).get d) < (-2))) then
    some 9
   else
    some 0

/-! muntin/grid.Check -/
def zV.s1 (cells:List Ze) (x:Int):Int→Option (Int ⊕ (Unit ⊕ Int)):=fun x2 =>
 if decide (x2 < 4) then
  (ZcK cells x x2).bind fun x4 =>
  if !(decide (x4 = 0)) then
   some (.inr (.inr x4))
  else
   ck (Zal (x2 + 1)) <|
   some (.inl (x2 + 1))
 else
  some (.inr (.inl ()))

def zV.s0 (cells:List Ze):Int→Option (Int ⊕ (Unit ⊕ Int)):=fun x =>
 if decide (x < (cells.length:Int)) then
  (
   ZT (zV.s1 cells x) big 0:Option (Unit ⊕ Int)).bind fun o₃=>match o₃ with
  | .inl _ =>
   ck (Zal (x + 1)) <|
   some (.inl (x + 1))
  | .inr x3 =>
   some (.inr (.inr x3))
 else
  some (.inr (.inl ()))

def zV (cells:List Ze):Option Int :=
 if decide (4096 < (cells.length:Int)) then
  some 6
 else
  (
   ZT (zV.s0 cells) big 0:Option (Unit ⊕ Int)).bind fun o₁=>match o₁ with
  | .inl _ =>
   some 0
  | .inr x1 =>
   some x1

/-! math/bits.Mul64 -/
def Zdt (x:Int) (y:Int):Option (Int × Int) :=
 some (Zaw .u64 (Zaw .u64 (zg .u64 (ZO .u64 x 32) (ZO .u64 y 32)) (ZO .u64 (Zaw .u64 (zg .u64 (ZO .u64 x 32) (Z6 .u64 y 4294967295)) (ZO .u64 (zg .u64 (Z6 .u64 x 4294967295) (Z6 .u64 y 4294967295)) 32)) 32)) (ZO .u64 (Zaw .u64 (Z6 .u64 (Zaw .u64 (zg .u64 (ZO .u64 x 32) (Z6 .u64 y 4294967295)) (ZO .u64 (zg .u64 (Z6 .u64 x 4294967295) (Z6 .u64 y 4294967295)) 32)) 4294967295) (zg .u64 (Z6 .u64 x 4294967295) (ZO .u64 y 32))) 32),zg .u64 x y)

/-! math/bits.Mul -/
def Zda (x:Int) (y:Int):Option (Int × Int) :=
 (Zdt x y).bind fun (x1,x2) =>
 some (x1,x2)

/-! slices.Repeat[[]int,int] -/
def Zaf.s0:(List Int) × Int→Option (((List Int) × Int) ⊕ (List Int)):=fun (newslice,n) =>
 if decide (n < (newslice.length:Int)) then
  ck ((0:Int)≤n∧n≤(newslice.length:Int)) <|
  ck (Zal (n + ((min (newslice.take n.toNat).length (newslice.drop n.toNat).length:Nat):Int))) <|
  some (.inl (newslice.take n.toNat++((newslice.take n.toNat).take (newslice.drop n.toNat).length++(newslice.drop n.toNat).drop (newslice.take n.toNat).length),n + ((min (newslice.take n.toNat).length (newslice.drop n.toNat).length:Nat):Int)))
 else
  some (.inr newslice)

def Zaf (x:List Int) (count:Int):Option (List Int) :=
 (
  if decide (count < 0) then
   none
  else
   some ()).bind fun _ =>
 ck (inK .u64 (x.length:Int)) <|
 ck (inK .u64 count) <|
 (Zda (x.length:Int) count).bind fun (x1,x2) =>
 (
  if (decide (0 < x1)) || (decide (9223372036854775807 < x2)) then
   none
  else
   some ()).bind fun _ =>
 ck (inK .i64 x2) <|
 ck ((0:Int)≤x2∧x2≤1000000000) <|
 (ZT Zaf.s0 big (x.take (List.replicate x2.toNat (0:Int)).length++(List.replicate x2.toNat (0:Int)).drop x.length,((min x.length (List.replicate x2.toNat (0:Int)).length:Nat):Int))).bind fun newslice1 =>
 some newslice1

/-! muntin/join.spread -/
def ZaN.s1 (cells:List Ze) (l:List Int):(List Int) × (List Int) × (List Int) × (List Bool) × Int→Option (((List Int) × (List Int) × (List Int) × (List Bool) × Int) ⊕ ((List Int) × (List Int) × (List Int) × (List Bool))):=fun (from_2,dir2,l1,met1,x2) =>
 if decide (x2 < 4) then
  ck ((0:Int)≤(gi l (0:Int).toNat)∧(gi l (0:Int).toNat) < (cells.length:Int)) <|
  ck ((0:Int)≤x2∧x2 < 4) <|
  (if decide (0≤(((gi cells (gi l (0:Int).toNat:Int).toNat).Next).get x2)) then
   ck ((0:Int)≤(((gi cells (gi l (0:Int).toNat:Int).toNat).Next).get x2)∧(((gi cells (gi l (0:Int).toNat:Int).toNat).Next).get x2) < (met1.length:Int)) <|
   some (!(gi met1 (((gi cells (gi l (0:Int).toNat:Int).toNat).Next).get x2:Int).toNat))
  else
   some false).bind fun t =>
  if t then
   ck ((0:Int)≤(((gi cells (gi l (0:Int).toNat:Int).toNat).Next).get x2)∧(((gi cells (gi l (0:Int).toNat:Int).toNat).Next).get x2) < (met1.length:Int)) <|
   ck ((0:Int)≤(((gi cells (gi l (0:Int).toNat:Int).toNat).Next).get x2)∧(((gi cells (gi l (0:Int).toNat:Int).toNat).Next).get x2) < (from_2.length:Int)) <|
   ck ((0:Int)≤(((gi cells (gi l (0:Int).toNat:Int).toNat).Next).get x2)∧(((gi cells (gi l (0:Int).toNat:Int).toNat).Next).get x2) < (dir2.length:Int)) <|
   ck (l1.length + [((gi cells (gi l (0:Int).toNat:Int).toNat).Next).get x2].length≤1000000000) <|
   ck (Zal (x2 + 1)) <|
   some (.inl (from_2.set (((gi cells (gi l (0:Int).toNat:Int).toNat).Next).get x2:Int).toNat (gi l (0:Int).toNat),dir2.set (((gi cells (gi l (0:Int).toNat:Int).toNat).Next).get x2:Int).toNat x2,l1++[((gi cells (gi l (0:Int).toNat:Int).toNat).Next).get x2],met1.set (((gi cells (gi l (0:Int).toNat:Int).toNat).Next).get x2:Int).toNat true,x2 + 1))
  else
   ck (Zal (x2 + 1)) <|
   some (.inl (from_2,dir2,l1,met1,x2 + 1))
 else
  some (.inr (from_2,dir2,l1,met1))

def ZaN.s0 (cells:List Ze):(List Int) × (List Int) × (List Int) × (List Bool)→Option (((List Int) × (List Int) × (List Int) × (List Bool)) ⊕ ((List Int) × (List Int))):=fun (from_,dir,l,met) =>
 if decide (0 < (l.length:Int)) then
  ck ((0:Int)≤0∧0 < (l.length:Int)) <|
  ck ((0:Int)≤1∧1≤(l.length:Int)) <|
  (ZT (ZaN.s1 cells l) big (from_,dir,l.drop (1:Int).toNat,met,0)).bind fun (from_3,dir3,l2,met2) =>
  some (.inl (from_3,dir3,l2,met2))
 else
  some (.inr (from_,dir))

def ZaN (cells:List Ze) (v:Int):Option ((List Int) × (List Int)) :=
 (Zaf ([(-1)]:List Int) (cells.length:Int)).bind fun x =>
 (Zaf ([(-1)]:List Int) (cells.length:Int)).bind fun x1 =>
 ck ((0:Int)≤(cells.length:Int)∧(cells.length:Int)≤1000000000) <|
 ck ((0:Int)≤v∧v < ((List.replicate ((cells.length:Int):Int).toNat false).length:Int)) <|
 (ZT (ZaN.s0 cells) big (x,x1,[v],(List.replicate ((cells.length:Int):Int).toNat false).set v.toNat true)).bind fun (from_1,dir1) =>
 some (from_1,dir1)

/-! muntin/join.Parts -/
def ZaQ.s1 (cells:List Ze) (x1:Int) (x3:List Int):(List Bool) × (List Int) × Int→Option (((List Bool) × (List Int) × Int) ⊕ ((List Bool) × (List Int))):=fun (met1,part,x4) =>
 if decide (x4 < (cells.length:Int)) then
  (if decide (x4 = x1) then
   some true
  else
   ck ((0:Int)≤x4∧x4 < (x3.length:Int)) <|
   some (decide (0≤(gi x3 x4.toNat)))).bind fun t =>
  if t then
   ck ((0:Int)≤x4∧x4 < (met1.length:Int)) <|
   ck (part.length + [x4].length≤1000000000) <|
   ck (Zal (x4 + 1)) <|
   some (.inl (met1.set x4.toNat true,part++[x4],x4 + 1))
  else
   ck (Zal (x4 + 1)) <|
   some (.inl (met1,part,x4 + 1))
 else
  some (.inr (met1,part))

def ZaQ.s0 (cells:List Ze):(List (List Int)) × (List Bool) × Int→Option (((List (List Int)) × (List Bool) × Int) ⊕ (List (List Int))):=fun (l,met,x1) =>
 if decide (x1 < (cells.length:Int)) then
  ck ((0:Int)≤x1∧x1 < (met.length:Int)) <|
  if gi met x1.toNat then
   ck (Zal (x1 + 1)) <|
   some (.inl (l,met,x1 + 1))
  else
   (ZaN cells x1).bind fun (x2,x3) =>
   (ZT (ZaQ.s1 cells x1 x3) big (met,[],0)).bind fun (met2,part1) =>
   ck (l.length + 1≤1000000000) <|
   ck (Zal (x1 + 1)) <|
   some (.inl (l++[part1],met2,x1 + 1))
 else
  some (.inr l)

def ZaQ (cells:List Ze):Option ((List (List Int)) × Int) :=
 (zV cells).bind fun x =>
 if !(decide (x = 0)) then
  some (([]:List (List Int)),x)
 else
  ck ((0:Int)≤(cells.length:Int)∧(cells.length:Int)≤1000000000) <|
  (ZT (ZaQ.s0 cells) big (([]:List (List Int)),List.replicate ((cells.length:Int):Int).toNat false,0)).bind fun l1 =>
  some (l1,0)

/-! muntin/join.Whole -/
def Zc6 (cells:List Ze):Option Bool :=
 (ZaQ cells).bind fun (x,x1) =>
 some ((decide (x1 = 0)) && (decide ((x.length:Int) = 1)))

/-! (muntin/face.Dart).is -/
def Zbs (d:Zy) (cells:List Ze):Option Bool :=
 if decide (0≤d.Cell) then
  if decide (d.Cell < (cells.length:Int)) then
   (Zbq d.Dir).bind fun x =>
   if x then
    ck ((0:Int)≤d.Cell∧d.Cell < (cells.length:Int)) <|
    ck ((0:Int)≤d.Dir∧d.Dir < 4) <|
    some (decide (0≤(((gi cells (d.Cell:Int).toNat).Next).get d.Dir)))
   else
    some false
  else
   some false
 else
  some false

/-! (muntin/face.Dart).behind -/
def Zav.s0 (d:Zy) (cells:List Ze):Int→Option (Int ⊕ (Unit ⊕ Zy)):=fun x =>
 if decide (x < 4) then
  ck ((0:Int)≤x∧x < 4) <|
  (Zbr d.Dir ((⟨1,0,(-1),2⟩:A4 Int).get x)).bind fun x2 =>
  (Zbs (⟨((gi cells (d.Cell:Int).toNat).Next).get d.Dir,x2⟩:Zy) cells).bind fun x3 =>
  if x3 then
   some (.inr (.inr (⟨((gi cells (d.Cell:Int).toNat).Next).get d.Dir,x2⟩:Zy)))
  else
   ck (Zal (x + 1)) <|
   some (.inl (x + 1))
 else
  some (.inr (.inl ()))

def Zav (d:Zy) (cells:List Ze):Option Zy :=
 ck ((0:Int)≤d.Cell∧d.Cell < (cells.length:Int)) <|
 ck ((0:Int)≤d.Dir∧d.Dir < 4) <|
 (
  ZT (Zav.s0 d cells) big 0:Option (Unit ⊕ Zy)).bind fun o₁=>match o₁ with
 | .inl _ =>
  some d
 | .inr x1 =>
  some x1

/-! muntin/face.Faces -/
def Zaz.s2 (cells:List Ze):(List (Zy × Bool)) × (List Zy) × Zy→Option (((List (Zy × Bool)) × (List Zy) × Zy) ⊕ ((List (Zy × Bool)) × (List Zy))):=fun (met3,f,x4) =>
 if !(Zds false x4 met3) then
  ck (f.length + [x4].length≤1000000000) <|
  (Zav x4 cells).bind fun x5 =>
  some (.inl (Zex x4 true met3,f++[x4],x5))
 else
  some (.inr (met3,f))

def Zaz.s1 (cells:List Ze) (x1:Int):(List (List Zy)) × (List (Zy × Bool)) × Int→Option (((List (List Zy)) × (List (Zy × Bool)) × Int) ⊕ ((List (List Zy)) × (List (Zy × Bool)))):=fun (l2,met1,x2) =>
 if decide (x2 < 4) then
  (Zbs (⟨x1,x2⟩:Zy) cells).bind fun x3 =>
  if (!x3) || (Zds false (⟨x1,x2⟩:Zy) met1) then
   ck (Zal (x2 + 1)) <|
   some (.inl (l2,met1,x2 + 1))
  else
   (ZT (Zaz.s2 cells) big (met1,([]:List Zy),(⟨x1,x2⟩:Zy))).bind fun (met4,f1) =>
   ck (l2.length + 1≤1000000000) <|
   ck (Zal (x2 + 1)) <|
   some (.inl (l2++[f1],met4,x2 + 1))
 else
  some (.inr (l2,met1))

def Zaz.s0 (cells:List Ze):(List (List Zy)) × (List (Zy × Bool)) × Int→Option (((List (List Zy)) × (List (Zy × Bool)) × Int) ⊕ (List (List Zy))):=fun (l,met,x1) =>
 if decide (x1 < (cells.length:Int)) then
  (ZT (Zaz.s1 cells x1) big (l,met,0)).bind fun (l3,met2) =>
  ck (Zal (x1 + 1)) <|
  some (.inl (l3,met2,x1 + 1))
 else
  some (.inr l)

def Zaz (cells:List Ze):Option ((List (List Zy)) × Int) :=
 (zV cells).bind fun x =>
 if !(decide (x = 0)) then
  some (([]:List (List Zy)),x)
 else
  (ZT (Zaz.s0 cells) big (([]:List (List Zy)),([]:List (Zy × Bool)),0)).bind fun l1 =>
  some (l1,0)

/-! muntin/compass.Turn -/
def Zcm (d:Int) (e_:Int):Option Int :=
 (Zbq d).bind fun x =>
 (if !x then
  some true
 else
  (Zbq e_).bind fun x1 =>
  some (!x1)).bind fun t =>
 if t then
  some 0
 else
  ck (Zal (e_ - d)) <|
  ck (Zal ((e_ - d) + 4)) <|
  ck ((0:Int)≤(((e_ - d) + 4).tmod 4)∧(((e_ - d) + 4).tmod 4) < 4) <|
  some ((⟨0,1,(-2),(-1)⟩:A4 Int).get (((e_ - d) + 4).tmod 4))

/-! muntin/face.Turns -/
def Zb9.s0 (cells:List Ze) (f:List Zy):(List Int) × Int→Option (((List Int) × Int) ⊕ (List Int)):=fun (l,x1) =>
 if decide (x1 < (f.length:Int)) then
  ck ((0:Int)≤x1∧x1 < (f.length:Int)) <|
  (Zbs (gi f x1.toNat) cells).bind fun x2 =>
  if x2 then
   (Zav (gi f x1.toNat) cells).bind fun x3 =>
   (Zcm ((gi f x1.toNat).Dir) x3.Dir).bind fun x4 =>
   ck ((0:Int)≤x1∧x1 < (l.length:Int)) <|
   ck (Zal (x1 + 1)) <|
   some (.inl (l.set x1.toNat x4,x1 + 1))
  else
   ck (Zal (x1 + 1)) <|
   some (.inl (l,x1 + 1))
 else
  some (.inr l)

def Zb9 (cells:List Ze) (f:List Zy):Option (List Int) :=
 ck ((0:Int)≤(f.length:Int)∧(f.length:Int)≤1000000000) <|
 (zV cells).bind fun x =>
 if !(decide (x = 0)) then
  some (List.replicate ((f.length:Int):Int).toNat (0:Int))
 else
  (ZT (Zb9.s0 cells f) big (List.replicate ((f.length:Int):Int).toNat (0:Int),0)).bind fun l1 =>
  some l1

/-! muntin/face.Rotation -/
def Zbi.s0 (turns:List Int):Int × Int→Option ((Int × Int) ⊕ Int):=fun (n,x) =>
 if decide (x < (turns.length:Int)) then
  ck ((0:Int)≤x∧x < (turns.length:Int)) <|
  if (decide ((-2)≤(gi turns x.toNat))) && (decide ((gi turns x.toNat)≤1)) then
   ck (Zal (n + (gi turns x.toNat))) <|
   ck (Zal (x + 1)) <|
   some (.inl (n + (gi turns x.toNat),x + 1))
  else
   ck (Zal (x + 1)) <|
   some (.inl (n,x + 1))
 else
  some (.inr n)

def Zbi (turns:List Int):Option Int :=
 (ZT (Zbi.s0 turns) big (0,0)).bind fun n1 =>
 some n1

/-! muntin/valid.outer -/
def Zbu.s0 (cells:List Ze) (x:List (List Zy)):Int × Int→Option ((Int × Int) ⊕ (Int ⊕ Unit)):=fun (at_,x2) =>
 if decide (x2 < (x.length:Int)) then
  ck ((0:Int)≤x2∧x2 < (x.length:Int)) <|
  (Zb9 cells (gi x x2.toNat)).bind fun x3 =>
  (Zbi x3).bind fun x4 =>
  if decide (x4 = 4) then
   ck (Zal (x2 + 1)) <|
   some (.inl (at_,x2 + 1))
  else
   if decide (x4 = (-4)) then
    if decide (0≤at_) then
     some (.inr (.inr ()))
    else
     ck (Zal (x2 + 1)) <|
     some (.inl (x2,x2 + 1))
   else
    some (.inr (.inr ()))
 else
  some (.inr (.inl at_))

def Zbu (cells:List Ze):Option (Int × Bool) :=
 (Zaz cells).bind fun (x,x1) =>
 (
  ZT (Zbu.s0 cells x) big ((-1),0):Option (Int ⊕ Unit)).bind fun o₁=>match o₁ with
 | .inl at_1 =>
  some (at_1,decide (0≤at_1))
 | .inr _ =>
  some (0,false)

/-! muntin/valid.Check -/
def Zcx (cells:List Ze):Option Int :=
 (zV cells).bind fun x =>
 if !(decide (x = 0)) then
  some x
 else
  (Zc6 cells).bind fun x1 =>
  if !x1 then
   some 13
  else
   (Zbu cells).bind fun (x2,x3) =>
   if (!x3) && (decide (1 < (cells.length:Int))) then
    some 10
   else
    some 0

/-! slices.IndexFunc[[]muntin/api.Point,muntin/api.Point] -/
def zM.s0 (s:List Zf) (f:Zf→Option Bool):Int→Option (Int ⊕ (Unit ⊕ Int)):=fun x =>
 if decide (x < (s.length:Int)) then
  ck ((0:Int)≤x∧x < (s.length:Int)) <|
  (f (gi s x.toNat)).bind fun x2 =>
  if x2 then
   some (.inr (.inr x))
  else
   ck (Zal (x + 1)) <|
   some (.inl (x + 1))
 else
  some (.inr (.inl ()))

def zM (s:List Zf) (f:Zf→Option Bool):Option Int :=
 (
  ZT (zM.s0 s f) big 0:Option (Unit ⊕ Int)).bind fun o₁=>match o₁ with
 | .inl _ =>
  some (-1)
 | .inr x1 =>
  some x1

/-! slices.ContainsFunc[[]muntin/api.Point,muntin/api.Point] -/
def ZaA (s:List Zf) (f:Zf→Option Bool):Option Bool :=
 (zM s f).bind fun x =>
 some (decide (0≤x))

/-! muntin/arcs.far -/
def ZcZ (p:Zf):Option Bool :=
 some ((decide (1000000 < (max p.X p.Y))) || (decide ((min p.X p.Y) < (-1000000))))

/-! muntin/compass.Between -/
def Zb0 (a:Zf) (b:Zf):Option (Int × Bool) :=
 if decide ((decide (a.X = b.X)) = (decide (a.Y = b.Y))) then
  some (0,false)
 else
  if decide (a.X < b.X) then
   some (0,true)
  else
   if decide (b.X < a.X) then
    some (2,true)
   else
    if decide (a.Y < b.Y) then
     some (1,true)
    else
     some (3,true)

/-! muntin/arcs.weight -/
def Zcw (owner:Int):Option Int :=
 if decide (0≤owner) then
  some 1
 else
  some 0

/-! muntin/arcs.Length -/
def Zam.s1 (cells:List Ze) (at_:List Zf) (x2:Int):Int × Int→Option ((Int × Int) ⊕ (Int ⊕ Unit)):=fun (sum2,x3) =>
 if decide (x3 < (([0,1]:List Int).length:Int)) then
  ck ((0:Int)≤x3∧x3 < (([0,1]:List Int).length:Int)) <|
  ck ((0:Int)≤(gi ([0,1]:List Int) x3.toNat)∧(gi ([0,1]:List Int) x3.toNat) < 4) <|
  if decide ((((gi cells x2.toNat).Next).get (gi ([0,1]:List Int) x3.toNat)) < 0) then
   ck (Zal (x3 + 1)) <|
   some (.inl (sum2,x3 + 1))
  else
   ck ((0:Int)≤x2∧x2 < (at_.length:Int)) <|
   ck ((0:Int)≤(((gi cells x2.toNat).Next).get (gi ([0,1]:List Int) x3.toNat))∧(((gi cells x2.toNat).Next).get (gi ([0,1]:List Int) x3.toNat)) < (at_.length:Int)) <|
   (Zb0 (gi at_ x2.toNat) (gi at_ (((gi cells x2.toNat).Next).get (gi ([0,1]:List Int) x3.toNat):Int).toNat)).bind fun (x4,x5) =>
   if (!x5) || (!(decide (x4 = gi ([0,1]:List Int) x3.toNat))) then
    some (.inr (.inr ()))
   else
    (Zcw (((gi cells x2.toNat).Owner).get (gi ([0,1]:List Int) x3.toNat))).bind fun x6 =>
    ck (Zal (((gi at_ (((gi cells x2.toNat).Next).get (gi ([0,1]:List Int) x3.toNat):Int).toNat).X) - ((gi at_ x2.toNat).X))) <|
    ck (Zal ((((gi at_ (((gi cells x2.toNat).Next).get (gi ([0,1]:List Int) x3.toNat):Int).toNat).X) - ((gi at_ x2.toNat).X)) + ((gi at_ (((gi cells x2.toNat).Next).get (gi ([0,1]:List Int) x3.toNat):Int).toNat).Y))) <|
    ck (Zal (((((gi at_ (((gi cells x2.toNat).Next).get (gi ([0,1]:List Int) x3.toNat):Int).toNat).X) - ((gi at_ x2.toNat).X)) + ((gi at_ (((gi cells x2.toNat).Next).get (gi ([0,1]:List Int) x3.toNat):Int).toNat).Y)) - ((gi at_ x2.toNat).Y))) <|
    ck (Zal (x6 * (((((gi at_ (((gi cells x2.toNat).Next).get (gi ([0,1]:List Int) x3.toNat):Int).toNat).X) - ((gi at_ x2.toNat).X)) + ((gi at_ (((gi cells x2.toNat).Next).get (gi ([0,1]:List Int) x3.toNat):Int).toNat).Y)) - ((gi at_ x2.toNat).Y)))) <|
    ck (Zal (sum2 + (x6 * (((((gi at_ (((gi cells x2.toNat).Next).get (gi ([0,1]:List Int) x3.toNat):Int).toNat).X) - ((gi at_ x2.toNat).X)) + ((gi at_ (((gi cells x2.toNat).Next).get (gi ([0,1]:List Int) x3.toNat):Int).toNat).Y)) - ((gi at_ x2.toNat).Y))))) <|
    ck (Zal (x3 + 1)) <|
    some (.inl (sum2 + (x6 * (((((gi at_ (((gi cells x2.toNat).Next).get (gi ([0,1]:List Int) x3.toNat):Int).toNat).X) - ((gi at_ x2.toNat).X)) + ((gi at_ (((gi cells x2.toNat).Next).get (gi ([0,1]:List Int) x3.toNat):Int).toNat).Y)) - ((gi at_ x2.toNat).Y))),x3 + 1))
 else
  some (.inr (.inl sum2))

def Zam.s0 (cells:List Ze) (at_:List Zf):Int × Int→Option ((Int × Int) ⊕ (Int ⊕ Unit)):=fun (sum,x2) =>
 if decide (x2 < (cells.length:Int)) then
  ck ((0:Int)≤x2∧x2 < (cells.length:Int)) <|
  (
   ZT (Zam.s1 cells at_ x2) big (sum,0):Option (Int ⊕ Unit)).bind fun o₃=>match o₃ with
  | .inl sum3 =>
   ck (Zal (x2 + 1)) <|
   some (.inl (sum3,x2 + 1))
  | .inr _ =>
   some (.inr (.inr ()))
 else
  some (.inr (.inl sum))

def Zam (cells:List Ze) (at_:List Zf):Option (Int × Int) :=
 (zV cells).bind fun x =>
 if !(decide (x = 0)) then
  some (0,x)
 else
  (if !(decide ((at_.length:Int) = (cells.length:Int))) then
   some true
  else
   (ZaA at_ (fun y0=>ZcZ y0)).bind fun x1 =>
   some x1).bind fun t =>
  if t then
   some (0,2)
  else
   (
    ZT (Zam.s0 cells at_) big (0,0):Option (Int ⊕ Unit)).bind fun o₁=>match o₁ with
   | .inl sum1 =>
    some (sum1,0)
   | .inr _ =>
    some (0,15)

/-! muntin/seg.chains -/
def zK.s1 (cells:List Ze) (x1:Int):Int × Int→Option ((Int × Int) ⊕ (Int ⊕ Unit)):=fun (first,n) =>
 ck ((0:Int)≤first∧first < (cells.length:Int)) <|
 ck ((0:Int)≤x1∧x1 < 4) <|
 if decide (0≤(((gi cells first.toNat).Next).get x1)) then
  if decide (n = (cells.length:Int)) then
   some (.inr (.inr ()))
  else
   ck (Zal (n + 1)) <|
   some (.inl (((gi cells first.toNat).Next).get x1,n + 1))
 else
  some (.inr (.inl first))

def zK.s2 (cells:List Ze) (d:Int) (l:List (List Int)):(List Int) × (List Int) × Int→Option (((List Int) × (List Int) × Int) ⊕ ((List Int) × (List Int))):=fun (at_2,chain,w) =>
 if decide (0≤w) then
  ck ((0:Int)≤w∧w < (at_2.length:Int)) <|
  ck (chain.length + [w].length≤1000000000) <|
  ck ((0:Int)≤w∧w < (cells.length:Int)) <|
  ck ((0:Int)≤d∧d < 4) <|
  some (.inl (at_2.set w.toNat (l.length:Int),chain++[w],((gi cells w.toNat).Next).get d))
 else
  some (.inr (at_2,chain))

def zK.s0 (cells:List Ze) (d:Int) (x1:Int):(List Int) × (List (List Int)) × Int→Option (((List Int) × (List (List Int)) × Int) ⊕ (((List Int) × (List (List Int))) ⊕ Unit)):=fun (at_,l,x2) =>
 if decide (x2 < (cells.length:Int)) then
  ck ((0:Int)≤x2∧x2 < (at_.length:Int)) <|
  if decide (0≤(gi at_ x2.toNat)) then
   ck (Zal (x2 + 1)) <|
   some (.inl (at_,l,x2 + 1))
  else
   (
    ZT (zK.s1 cells x1) big (x2,0):Option (Int ⊕ Unit)).bind fun o₃=>match o₃ with
   | .inl first1 =>
    (ZT (zK.s2 cells d l) big (at_,([]:List Int),first1)).bind fun (at_3,chain1) =>
    ck (l.length + 1≤1000000000) <|
    ck (Zal (x2 + 1)) <|
    some (.inl (at_3,l++[chain1],x2 + 1))
   | .inr _ =>
    some (.inr (.inr ()))
 else
  some (.inr (.inl (at_,l)))

def zK (cells:List Ze) (d:Int):Option ((List Int) × (List (List Int)) × Bool) :=
 (Zaf ([(-1)]:List Int) (cells.length:Int)).bind fun x =>
 (Zbr d 2).bind fun x1 =>
 (
  ZT (zK.s0 cells d x1) big (x,([]:List (List Int)),0):Option (((List Int) × (List (List Int))) ⊕ Unit)).bind fun o₁=>match o₁ with
 | .inl (at_1,l1) =>
  some (at_1,l1,true)
 | .inr _ =>
  some (([]:List Int),([]:List (List Int)),false)

/-! muntin/seg.Of -/
def Zcg (cells:List Ze):Option (ZaZ × Int) :=
 (zV cells).bind fun x =>
 if !(decide (x = 0)) then
  some ((⟨([]:List Int),([]:List Int),([]:List (List Int)),([]:List (List Int))⟩:ZaZ),x)
 else
  (zK cells 1).bind fun (x1,x2,x3) =>
  (zK cells 0).bind fun (x4,x5,x6) =>
  if (!x3) || (!x6) then
   some ((⟨([]:List Int),([]:List Int),([]:List (List Int)),([]:List (List Int))⟩:ZaZ),10)
  else
   some ((⟨x1,x4,x2,x5⟩:ZaZ),0)

/-! muntin/sep.lines -/
def Zbc.s0 (c:ZaZ):(List Zai) × Int→Option (((List Zai) × Int) ⊕ (List Zai)):=fun (l,x) =>
 if decide (x < (c.Vert.length:Int)) then
  ck ((0:Int)≤x∧x < (c.Vert.length:Int)) <|
  if decide (1 < ((gi c.Vert x.toNat).length:Int)) then
   ck (l.length + [(⟨true,x⟩:Zai)].length≤1000000000) <|
   ck (Zal (x + 1)) <|
   some (.inl (l++[(⟨true,x⟩:Zai)],x + 1))
  else
   ck (Zal (x + 1)) <|
   some (.inl (l,x + 1))
 else
  some (.inr l)

def Zbc.s1 (c:ZaZ):(List Zai) × Int→Option (((List Zai) × Int) ⊕ (List Zai)):=fun (l2,x1) =>
 if decide (x1 < (c.Horz.length:Int)) then
  ck ((0:Int)≤x1∧x1 < (c.Horz.length:Int)) <|
  if decide (1 < ((gi c.Horz x1.toNat).length:Int)) then
   ck (l2.length + [(⟨false,x1⟩:Zai)].length≤1000000000) <|
   ck (Zal (x1 + 1)) <|
   some (.inl (l2++[(⟨false,x1⟩:Zai)],x1 + 1))
  else
   ck (Zal (x1 + 1)) <|
   some (.inl (l2,x1 + 1))
 else
  some (.inr l2)

def Zbc (c:ZaZ):Option (List Zai) :=
 (ZT (Zbc.s0 c) big (([]:List Zai),0)).bind fun l1 =>
 (ZT (Zbc.s1 c) big (l1,0)).bind fun l3 =>
 some l3

/-! muntin/sep.Lines -/
def ZcL (cells:List Ze):Option ((List Zai) × Int) :=
 (Zcg cells).bind fun (x,x1) =>
 if !(decide (x1 = 0)) then
  some (([]:List Zai),x1)
 else
  (Zbc x).bind fun x2 =>
  some (x2,0)

/-! muntin/check.span -/
def Zch (c:ZaZ) (l:Zai) (at_:List Zf):Option Zbe :=
 (
  if l.Vertical then
   some c.Vert
  else
   some c.Horz).bind fun of =>
 ck ((0:Int)≤l.Place∧l.Place < (of.length:Int)) <|
 ck ((0:Int)≤0∧0 < ((gi of (l.Place:Int).toNat).length:Int)) <|
 ck ((0:Int)≤(gi (gi of (l.Place:Int).toNat) (0:Int).toNat)∧(gi (gi of (l.Place:Int).toNat) (0:Int).toNat) < (at_.length:Int)) <|
 ck (Zal (((gi of (l.Place:Int).toNat).length:Int) - 1)) <|
 ck ((0:Int)≤(((gi of (l.Place:Int).toNat).length:Int) - 1)∧(((gi of (l.Place:Int).toNat).length:Int) - 1) < ((gi of (l.Place:Int).toNat).length:Int)) <|
 ck ((0:Int)≤(gi (gi of (l.Place:Int).toNat) (((gi of (l.Place:Int).toNat).length:Int) - 1:Int).toNat)∧(gi (gi of (l.Place:Int).toNat) (((gi of (l.Place:Int).toNat).length:Int) - 1:Int).toNat) < (at_.length:Int)) <|
 some (⟨gi at_ (gi (gi of (l.Place:Int).toNat) (0:Int).toNat:Int).toNat,gi at_ (gi (gi of (l.Place:Int).toNat) (((gi of (l.Place:Int).toNat).length:Int) - 1:Int).toNat:Int).toNat⟩:Zbe)

/-! muntin/check.Apart -/
def Zci (a:Zbe) (b:Zbe):Option Bool :=
 some ((((decide (a.High.X < b.Low.X)) || (decide (b.High.X < a.Low.X))) || (decide (a.High.Y < b.Low.Y))) || (decide (b.High.Y < a.Low.Y)))

/-! (muntin/seg.Chains).chain -/
def Zbp (c:ZaZ) (vertical:Bool) (i:Int):Option (List Int) :=
 (
  if vertical then
   some c.Vert
  else
   some c.Horz).bind fun l =>
 if (decide (i < 0)) || (decide ((l.length:Int)≤i)) then
  some ([]:List Int)
 else
  ck ((0:Int)≤i∧i < (l.length:Int)) <|
  some (gi l i.toNat)

/-! slices.IndexFunc[[]int,int] -/
def Zat.s0 (s:List Int) (f:Int→Option Bool):Int→Option (Int ⊕ (Unit ⊕ Int)):=fun x =>
 if decide (x < (s.length:Int)) then
  ck ((0:Int)≤x∧x < (s.length:Int)) <|
  (f (gi s x.toNat)).bind fun x2 =>
  if x2 then
   some (.inr (.inr x))
  else
   ck (Zal (x + 1)) <|
   some (.inl (x + 1))
 else
  some (.inr (.inl ()))

def Zat (s:List Int) (f:Int→Option Bool):Option Int :=
 (
  ZT (Zat.s0 s f) big 0:Option (Unit ⊕ Int)).bind fun o₁=>match o₁ with
 | .inl _ =>
  some (-1)
 | .inr x1 =>
  some x1

/-! slices.ContainsFunc[[]int,int] -/
def ZaU (s:List Int) (f:Int→Option Bool):Option Bool :=
 (Zat s f).bind fun x =>
 some (decide (0≤x))

/-! slices.Index[[]int,int] -/
def ZaO.s0 (s:List Int) (v:Int):Int→Option (Int ⊕ (Unit ⊕ Int)):=fun x =>
 if decide (x < (s.length:Int)) then
  ck ((0:Int)≤x∧x < (s.length:Int)) <|
  if decide (v = gi s x.toNat) then
   some (.inr (.inr x))
  else
   ck (Zal (x + 1)) <|
   some (.inl (x + 1))
 else
  some (.inr (.inl ()))

def ZaO (s:List Int) (v:Int):Option Int :=
 (
  ZT (ZaO.s0 s v) big 0:Option (Unit ⊕ Int)).bind fun o₁=>match o₁ with
 | .inl _ =>
  some (-1)
 | .inr x1 =>
  some x1

/-! slices.Contains[[]int,int] -/
def Zby (s:List Int) (v:Int):Option Bool :=
 (ZaO s v).bind fun x =>
 some (decide (0≤x))

/-! (muntin/seg.Chains).Meet$1 -/
def ZbX (v:Int) (c0:List Int):Option Bool :=
 (Zby c0 v).bind fun x =>
 some x

/-! (muntin/seg.Chains).Meet -/
def Zbb (c:ZaZ) (vertical:Bool) (i:Int) (other:Bool) (k_:Int):Option Bool :=
 (Zbp c other k_).bind fun x =>
 (Zbp c vertical i).bind fun x1 =>
 (ZaU x1 (fun y0=>ZbX y0 x)).bind fun x2 =>
 some x2

/-! muntin/check.crossed -/
def Zab.s1 (at_:List Zf) (x:ZaZ) (x2:List Zai) (x4:Int) (x5:Zbe):Int→Option (Int ⊕ (Unit ⊕ Unit)):=fun x6 =>
 if decide (x6 < ((x2.drop (x4 + 1:Int).toNat).length:Int)) then
  ck ((0:Int)≤x6∧x6 < ((x2.drop (x4 + 1:Int).toNat).length:Int)) <|
  (Zch x (gi (x2.drop (x4 + 1:Int).toNat) x6.toNat) at_).bind fun x7 =>
  (Zci x5 x7).bind fun x8 =>
  if !x8 then
   (Zbb x ((gi x2 x4.toNat).Vertical) ((gi x2 x4.toNat).Place) ((gi (x2.drop (x4 + 1:Int).toNat) x6.toNat).Vertical) ((gi (x2.drop (x4 + 1:Int).toNat) x6.toNat).Place)).bind fun x9 =>
   if !x9 then
    some (.inr (.inr ()))
   else
    ck (Zal (x6 + 1)) <|
    some (.inl (x6 + 1))
  else
   ck (Zal (x6 + 1)) <|
   some (.inl (x6 + 1))
 else
  some (.inr (.inl ()))

def Zab.s0 (at_:List Zf) (x:ZaZ) (x2:List Zai):Int→Option (Int ⊕ (Unit ⊕ Unit)):=fun x4 =>
 if decide (x4 < (x2.length:Int)) then
  ck ((0:Int)≤x4∧x4 < (x2.length:Int)) <|
  (Zch x (gi x2 x4.toNat) at_).bind fun x5 =>
  ck (Zal (x4 + 1)) <|
  ck ((0:Int)≤(x4 + 1)∧(x4 + 1)≤(x2.length:Int)) <|
  (
   ZT (Zab.s1 at_ x x2 x4 x5) big 0:Option (Unit ⊕ Unit)).bind fun o₃=>match o₃ with
  | .inl _ =>
   some (.inl (x4 + 1))
  | .inr _ =>
   some (.inr (.inr ()))
 else
  some (.inr (.inl ()))

def Zab (cells:List Ze) (at_:List Zf):Option Bool :=
 (Zcg cells).bind fun (x,x1) =>
 (ZcL cells).bind fun (x2,x3) =>
 (
  ZT (Zab.s0 at_ x x2) big 0:Option (Unit ⊕ Unit)).bind fun o₁=>match o₁ with
 | .inl _ =>
  some false
 | .inr _ =>
  some true

/-! muntin/check.Real -/
def Zb8 (cells:List Ze) (at_:List Zf):Option Int :=
 (Zcx cells).bind fun x =>
 if !(decide (x = 0)) then
  some x
 else
  (Zam cells at_).bind fun (x1,x2) =>
  if !(decide (x2 = 0)) then
   some x2
  else
   (Zab cells at_).bind fun x3 =>
   if x3 then
    some 14
   else
    some 0

/-! muntin/muntinref10.Check -/
def z5.s1 (l:List Ze) (v:Int):Int→Option (Int ⊕ (Unit ⊕ Int)):=fun d =>
 if decide (d < 4) then
  ck ((0:Int)≤v∧v < (l.length:Int)) <|
  ck ((0:Int)≤d∧d < 4) <|
  if decide (((gi l v.toNat).Next).get d = (-1)) then
   if !(decide (((gi l v.toNat).Owner).get d = 0)) then
    some (.inr (.inr 9))
   else
    ck (Zal (d + 1)) <|
    some (.inl (d + 1))
  else
   if ((decide ((((gi l v.toNat).Next).get d) < 0)) || (decide ((l.length:Int)≤(((gi l v.toNat).Next).get d)))) || (decide (((gi l v.toNat).Next).get d = v)) then
    some (.inr (.inr 3))
   else
    ck (Zal (d + 2)) <|
    ck ((0:Int)≤(((gi l v.toNat).Next).get d)∧(((gi l v.toNat).Next).get d) < (l.length:Int)) <|
    ck ((0:Int)≤((d + 2).tmod 4)∧((d + 2).tmod 4) < 4) <|
    if ((!(decide (((gi l (((gi l v.toNat).Next).get d:Int).toNat).Next).get ((d + 2).tmod 4) = v))) || (!(decide (((gi l (((gi l v.toNat).Next).get d:Int).toNat).Owner).get ((d + 2).tmod 4) = ((gi l v.toNat).Owner).get d)))) || (decide ((((gi l v.toNat).Owner).get d) < (-2))) then
     some (.inr (.inr 9))
    else
     ck (Zal (d + 1)) <|
     some (.inl (d + 1))
 else
  some (.inr (.inl ()))

def z5.s0 (l:List Ze):Int→Option (Int ⊕ (Unit ⊕ Int)):=fun v =>
 if decide (v < (l.length:Int)) then
  (
   ZT (z5.s1 l v) big 0:Option (Unit ⊕ Int)).bind fun o₃=>match o₃ with
  | .inl _ =>
   ck (Zal (v + 1)) <|
   some (.inl (v + 1))
  | .inr x1 =>
   some (.inr (.inr x1))
 else
  some (.inr (.inl ()))

def z5 (l:List Ze):Option Int :=
 if decide (4096 < (l.length:Int)) then
  some 6
 else
  (
   ZT (z5.s0 l) big 0:Option (Unit ⊕ Int)).bind fun o₁=>match o₁ with
  | .inl _ =>
   some 0
  | .inr x =>
   some x

/-! muntin/muntinref13.Far -/
def zd.s0 (l:List Ze):(List Int) × Int→Option (((List Int) × Int) ⊕ (List Int)):=fun (far,i) =>
 if decide (i < (l.length:Int)) then
  ck ((0:Int)≤i∧i < (far.length:Int)) <|
  ck (Zal (i + 1)) <|
  some (.inl (far.set i.toNat (-1),i + 1))
 else
  some (.inr far)

def zd.s3 (l:List Ze) (round:Int) (i1:Int):(List Int) × Int→Option (((List Int) × Int) ⊕ (List Int)):=fun (far6,d) =>
 if decide (d < 4) then
  ck ((0:Int)≤i1∧i1 < (l.length:Int)) <|
  ck ((0:Int)≤d∧d < 4) <|
  ck ((0:Int)≤i1∧i1 < (far6.length:Int)) <|
  (if (decide (gi far6 i1.toNat = round)) && (decide (0≤(((gi l i1.toNat).Next).get d))) then
   ck ((0:Int)≤(max (((gi l i1.toNat).Next).get d) 0)∧(max (((gi l i1.toNat).Next).get d) 0) < (far6.length:Int)) <|
   some (decide ((gi far6 (max (((gi l i1.toNat).Next).get d) 0:Int).toNat) < 0))
  else
   some false).bind fun t =>
  if t then
   ck (Zal (round + 1)) <|
   ck ((0:Int)≤(((gi l i1.toNat).Next).get d)∧(((gi l i1.toNat).Next).get d) < (far6.length:Int)) <|
   ck (Zal (d + 1)) <|
   some (.inl (far6.set (((gi l i1.toNat).Next).get d:Int).toNat (round + 1),d + 1))
  else
   ck (Zal (d + 1)) <|
   some (.inl (far6,d + 1))
 else
  some (.inr far6)

def zd.s2 (l:List Ze) (round:Int):(List Int) × Int→Option (((List Int) × Int) ⊕ (List Int)):=fun (far4,i1) =>
 if decide (i1 < (l.length:Int)) then
  (ZT (zd.s3 l round i1) big (far4,0)).bind fun far7 =>
  ck (Zal (i1 + 1)) <|
  some (.inl (far7,i1 + 1))
 else
  some (.inr far4)

def zd.s1 (l:List Ze):(List Int) × Int→Option (((List Int) × Int) ⊕ (List Int)):=fun (far2,round) =>
 if decide (round < (l.length:Int)) then
  (ZT (zd.s2 l round) big (far2,0)).bind fun far5 =>
  ck (Zal (round + 1)) <|
  some (.inl (far5,round + 1))
 else
  some (.inr far2)

def zd (l:List Ze) (v:Int):Option (List Int) :=
 ck ((0:Int)≤(l.length:Int)∧(l.length:Int)≤1000000000) <|
 (ZT (zd.s0 l) big (List.replicate ((l.length:Int):Int).toNat (0:Int),0)).bind fun far1 =>
 ck ((0:Int)≤v∧v < (far1.length:Int)) <|
 (ZT (zd.s1 l) big (far1.set v.toNat 0,0)).bind fun far3 =>
 some far3

/-! muntin/muntinref13.Parts -/
def zI.s1 (l:List Ze) (x:List Int):(List Bool) × (List Int) × Int→Option (((List Bool) × (List Int) × Int) ⊕ ((List Bool) × (List Int))):=fun (in_1,p,w) =>
 if decide (w < (l.length:Int)) then
  ck ((0:Int)≤w∧w < (x.length:Int)) <|
  if decide (0≤(gi x w.toNat)) then
   ck ((0:Int)≤w∧w < (in_1.length:Int)) <|
   ck (p.length + [w].length≤1000000000) <|
   ck (Zal (w + 1)) <|
   some (.inl (in_1.set w.toNat true,p++[w],w + 1))
  else
   ck (Zal (w + 1)) <|
   some (.inl (in_1,p,w + 1))
 else
  some (.inr (in_1,p))

def zI.s0 (l:List Ze):(List Bool) × (List (List Int)) × Int→Option (((List Bool) × (List (List Int)) × Int) ⊕ (List (List Int))):=fun (in_,out,v) =>
 if decide (v < (l.length:Int)) then
  ck ((0:Int)≤v∧v < (in_.length:Int)) <|
  if gi in_ v.toNat then
   ck (Zal (v + 1)) <|
   some (.inl (in_,out,v + 1))
  else
   (zd l v).bind fun x =>
   (ZT (zI.s1 l x) big (in_,([]:List Int),0)).bind fun (in_2,p1) =>
   ck (out.length + 1≤1000000000) <|
   ck (Zal (v + 1)) <|
   some (.inl (in_2,out++[p1],v + 1))
 else
  some (.inr out)

def zI (l:List Ze):Option (List (List Int)) :=
 ck ((0:Int)≤(l.length:Int)∧(l.length:Int)≤1000000000) <|
 (ZT (zI.s0 l) big (List.replicate ((l.length:Int):Int).toNat false,([]:List (List Int)),0)).bind fun out1 =>
 some out1

/-! muntin/muntinref12.Behind -/
def Zaj.s0 (l:List Ze) (d:Zz):Int→Option (Int ⊕ (Unit ⊕ Zz)):=fun i =>
 if decide (i < 4) then
  ck ((0:Int)≤i∧i < (([1,0,3,2]:List Int).length:Int)) <|
  ck (Zal (d.Dir + (gi ([1,0,3,2]:List Int) i.toNat))) <|
  ck ((0:Int)≤(((gi l (d.Cell:Int).toNat).Next).get d.Dir)∧(((gi l (d.Cell:Int).toNat).Next).get d.Dir) < (l.length:Int)) <|
  ck ((0:Int)≤((d.Dir + (gi ([1,0,3,2]:List Int) i.toNat)).tmod 4)∧((d.Dir + (gi ([1,0,3,2]:List Int) i.toNat)).tmod 4) < 4) <|
  if decide (0≤(((gi l (((gi l (d.Cell:Int).toNat).Next).get d.Dir:Int).toNat).Next).get ((d.Dir + (gi ([1,0,3,2]:List Int) i.toNat)).tmod 4))) then
   some (.inr (.inr (⟨((gi l (d.Cell:Int).toNat).Next).get d.Dir,(d.Dir + (gi ([1,0,3,2]:List Int) i.toNat)).tmod 4⟩:Zz)))
  else
   ck (Zal (i + 1)) <|
   some (.inl (i + 1))
 else
  some (.inr (.inl ()))

def Zaj (l:List Ze) (d:Zz):Option Zz :=
 ck ((0:Int)≤d.Cell∧d.Cell < (l.length:Int)) <|
 ck ((0:Int)≤d.Dir∧d.Dir < 4) <|
 (
  ZT (Zaj.s0 l d) big 0:Option (Unit ⊕ Zz)).bind fun o₁=>match o₁ with
 | .inl _ =>
  some d
 | .inr x =>
  some x

/-! muntin/muntinref12.Faces -/
def zh.s2 (l:List Ze):(List Bool) × (List Zz) × Zz→Option (((List Bool) × (List Zz) × Zz) ⊕ ((List Bool) × (List Zz))):=fun (met3,f,d) =>
 ck (Zal (4 * d.Cell)) <|
 ck (Zal ((4 * d.Cell) + d.Dir)) <|
 ck ((0:Int)≤((4 * d.Cell) + d.Dir)∧((4 * d.Cell) + d.Dir) < (met3.length:Int)) <|
 if !(gi met3 ((4 * d.Cell) + d.Dir:Int).toNat) then
  ck (f.length + [d].length≤1000000000) <|
  (Zaj l d).bind fun x =>
  some (.inl (met3.set ((4 * d.Cell) + d.Dir:Int).toNat true,f++[d],x))
 else
  some (.inr (met3,f))

def zh.s1 (l:List Ze) (v:Int):(List Bool) × (List (List Zz)) × Int→Option (((List Bool) × (List (List Zz)) × Int) ⊕ ((List Bool) × (List (List Zz)))):=fun (met1,out2,e_) =>
 if decide (e_ < 4) then
  ck ((0:Int)≤v∧v < (l.length:Int)) <|
  ck ((0:Int)≤e_∧e_ < 4) <|
  (if decide ((((gi l v.toNat).Next).get e_) < 0) then
   some true
  else
   ck (Zal (4 * v)) <|
   ck (Zal ((4 * v) + e_)) <|
   ck ((0:Int)≤((4 * v) + e_)∧((4 * v) + e_) < (met1.length:Int)) <|
   some (gi met1 ((4 * v) + e_:Int).toNat)).bind fun t =>
  if t then
   ck (Zal (e_ + 1)) <|
   some (.inl (met1,out2,e_ + 1))
  else
   (ZT (zh.s2 l) big (met1,([]:List Zz),(⟨v,e_⟩:Zz))).bind fun (met4,f1) =>
   ck (out2.length + 1≤1000000000) <|
   ck (Zal (e_ + 1)) <|
   some (.inl (met4,out2++[f1],e_ + 1))
 else
  some (.inr (met1,out2))

def zh.s0 (l:List Ze):(List Bool) × (List (List Zz)) × Int→Option (((List Bool) × (List (List Zz)) × Int) ⊕ (List (List Zz))):=fun (met,out,v) =>
 if decide (v < (l.length:Int)) then
  (ZT (zh.s1 l v) big (met,out,0)).bind fun (met2,out3) =>
  ck (Zal (v + 1)) <|
  some (.inl (met2,out3,v + 1))
 else
  some (.inr out)

def zh (l:List Ze):Option (List (List Zz)) :=
 ck (Zal (4 * (l.length:Int))) <|
 ck ((0:Int)≤(4 * (l.length:Int))∧(4 * (l.length:Int))≤1000000000) <|
 (ZT (zh.s0 l) big (List.replicate (4 * (l.length:Int):Int).toNat false,([]:List (List Zz)),0)).bind fun out1 =>
 some out1

/-! muntin/muntinref01.Good -/
def Zbn (d:Int):Option Bool :=
 some ((decide (0≤d)) && (decide (d≤3)))

/-! muntin/muntinref01.Left -/
def ZbO (d:Int) (times:Int):Option Int :=
 (Zbn d).bind fun x =>
 if !x then
  some 0
 else
  if decide ((times.tmod 4) < 0) then
   ck (Zal ((times.tmod 4) + 4)) <|
   ck (Zal (d + ((times.tmod 4) + 4))) <|
   some ((d + ((times.tmod 4) + 4)).tmod 4)
  else
   ck (Zal (d + (times.tmod 4))) <|
   some ((d + (times.tmod 4)).tmod 4)

/-! muntin/muntinref01.Turn -/
def ZbP (d:Int) (e_:Int):Option Int :=
 (Zbn d).bind fun x =>
 (Zbn e_).bind fun x1 =>
 if ((!x) || (!x1)) || (decide (d = e_)) then
  some 0
 else
  (ZbO d 1).bind fun x2 =>
  if decide (x2 = e_) then
   some 1
  else
   (ZbO d 3).bind fun x3 =>
   if decide (x3 = e_) then
    some (-1)
   else
    some (-2)

/-! muntin/muntinref12.Turns -/
def ZaH.s0 (l:List Ze) (f:List Zz):(List Int) × Int→Option (((List Int) × Int) ⊕ (List Int)):=fun (out,i) =>
 if decide (i < (f.length:Int)) then
  ck ((0:Int)≤i∧i < (f.length:Int)) <|
  (Zaj l (gi f i.toNat)).bind fun x =>
  (ZbP ((gi f i.toNat).Dir) x.Dir).bind fun x1 =>
  ck (out.length + [x1].length≤1000000000) <|
  ck (Zal (i + 1)) <|
  some (.inl (out++[x1],i + 1))
 else
  some (.inr out)

def ZaH (l:List Ze) (f:List Zz):Option (List Int) :=
 (ZT (ZaH.s0 l f) big (([]:List Int),0)).bind fun out1 =>
 some out1

/-! muntin/muntinref12.Rotation -/
def Zas.s0 (t:List Int):Int × Int→Option ((Int × Int) ⊕ Int):=fun (n,i) =>
 if decide (i < (t.length:Int)) then
  ck ((0:Int)≤i∧i < (t.length:Int)) <|
  if (decide ((-2)≤(gi t i.toNat))) && (decide ((gi t i.toNat)≤1)) then
   ck (Zal (n + (gi t i.toNat))) <|
   ck (Zal (i + 1)) <|
   some (.inl (n + (gi t i.toNat),i + 1))
  else
   ck (Zal (i + 1)) <|
   some (.inl (n,i + 1))
 else
  some (.inr n)

def Zas (t:List Int):Option Int :=
 (ZT (Zas.s0 t) big (0,0)).bind fun n1 =>
 some n1

/-! muntin/muntinref14.Outer -/
def Za7.s0 (l:List Ze) (x2:List (List Zz)):Int × Int→Option ((Int × Int) ⊕ (Int ⊕ Unit)):=fun (at_,i) =>
 if decide (i < (x2.length:Int)) then
  ck ((0:Int)≤i∧i < (x2.length:Int)) <|
  (ZaH l (gi x2 i.toNat)).bind fun x3 =>
  (Zas x3).bind fun x4 =>
  if ((!(decide (x4 = 4))) && (!(decide (x4 = (-4))))) || ((decide (x4 = (-4))) && (decide (0≤at_))) then
   some (.inr (.inr ()))
  else
   if decide (x4 = (-4)) then
    ck (Zal (i + 1)) <|
    some (.inl (i,i + 1))
   else
    ck (Zal (i + 1)) <|
    some (.inl (at_,i + 1))
 else
  some (.inr (.inl at_))

def Za7 (l:List Ze):Option (Int × Int) :=
 (z5 l).bind fun x =>
 if !(decide (x = 0)) then
  some ((-1),x)
 else
  (zI l).bind fun x1 =>
  if !(decide ((x1.length:Int) = 1)) then
   some ((-1),13)
  else
   if decide ((l.length:Int) = 1) then
    some ((-1),0)
   else
    (zh l).bind fun x2 =>
    (
     ZT (Za7.s0 l x2) big ((-1),0):Option (Int ⊕ Unit)).bind fun o₁=>match o₁ with
    | .inl at_1 =>
     if decide (at_1 < 0) then
      some ((-1),10)
     else
      some (at_1,0)
    | .inr _ =>
     some ((-1),10)

/-! muntin/muntinref17.Straight -/
def zT.s0 (l:List Ze) (at_:List Zf):Int→Option (Int ⊕ (Unit ⊕ Unit)):=fun v =>
 if decide (v < (l.length:Int)) then
  ck ((0:Int)≤v∧v < (l.length:Int)) <|
  (if decide (0≤(((gi l v.toNat).Next).get 0)) then
   ck ((0:Int)≤(max (((gi l v.toNat).Next).get 0) 0)∧(max (((gi l v.toNat).Next).get 0) 0) < (at_.length:Int)) <|
   ck ((0:Int)≤v∧v < (at_.length:Int)) <|
   some ((!(decide ((gi at_ (max (((gi l v.toNat).Next).get 0) 0:Int).toNat).Y = (gi at_ v.toNat).Y))) || (decide (((gi at_ (max (((gi l v.toNat).Next).get 0) 0:Int).toNat).X)≤((gi at_ v.toNat).X))))
  else
   some false).bind fun t =>
  if t then
   some (.inr (.inr ()))
  else
   (if decide (0≤(((gi l v.toNat).Next).get 1)) then
    ck ((0:Int)≤(max (((gi l v.toNat).Next).get 1) 0)∧(max (((gi l v.toNat).Next).get 1) 0) < (at_.length:Int)) <|
    ck ((0:Int)≤v∧v < (at_.length:Int)) <|
    some ((!(decide ((gi at_ (max (((gi l v.toNat).Next).get 1) 0:Int).toNat).X = (gi at_ v.toNat).X))) || (decide (((gi at_ (max (((gi l v.toNat).Next).get 1) 0:Int).toNat).Y)≤((gi at_ v.toNat).Y))))
   else
    some false).bind fun t1 =>
   if t1 then
    some (.inr (.inr ()))
   else
    ck (Zal (v + 1)) <|
    some (.inl (v + 1))
 else
  some (.inr (.inl ()))

def zT (l:List Ze) (at_:List Zf):Option Bool :=
 (
  ZT (zT.s0 l at_) big 0:Option (Unit ⊕ Unit)).bind fun o₁=>match o₁ with
 | .inl _ =>
  some true
 | .inr _ =>
  some false

/-! muntin/muntinref16.First -/
def Za8.s0 (l:List Ze) (d:Int):Int × Int→Option ((Int × Int) ⊕ (Unit ⊕ Int)):=fun (v1,n) =>
 if decide (n≤(l.length:Int)) then
  ck (Zal (d + 2)) <|
  ck ((0:Int)≤v1∧v1 < (l.length:Int)) <|
  ck ((0:Int)≤((d + 2).tmod 4)∧((d + 2).tmod 4) < 4) <|
  if decide ((((gi l v1.toNat).Next).get ((d + 2).tmod 4)) < 0) then
   some (.inr (.inr v1))
  else
   ck (Zal (n + 1)) <|
   some (.inl (((gi l v1.toNat).Next).get ((d + 2).tmod 4),n + 1))
 else
  some (.inr (.inl ()))

def Za8 (l:List Ze) (v:Int) (d:Int):Option Int :=
 (
  ZT (Za8.s0 l d) big (v,0):Option (Unit ⊕ Int)).bind fun o₁=>match o₁ with
 | .inl _ =>
  some (-1)
 | .inr x =>
  some x

/-! muntin/muntinref16.chains -/
def ZH.s1 (firsts:List Int) (x:Int):Int→Option (Int ⊕ Int):=fun k_ =>
 (if decide (k_ < (firsts.length:Int)) then
  ck ((0:Int)≤k_∧k_ < (firsts.length:Int)) <|
  some (!(decide (gi firsts k_.toNat = x)))
 else
  some false).bind fun t =>
 if t then
  ck (Zal (k_ + 1)) <|
  some (.inl (k_ + 1))
 else
  some (.inr k_)

def ZH.s2 (l:List Ze) (d:Int):(List Int) × Int→Option (((List Int) × Int) ⊕ (List Int)):=fun (c,w) =>
 if decide (0≤w) then
  ck (c.length + [w].length≤1000000000) <|
  ck ((0:Int)≤w∧w < (l.length:Int)) <|
  ck ((0:Int)≤d∧d < 4) <|
  some (.inl (c++[w],((gi l w.toNat).Next).get d))
 else
  some (.inr c)

def ZH.s0 (l:List Ze) (d:Int):(List Int) × (List Int) × (List (List Int)) × Int→Option (((List Int) × (List Int) × (List (List Int)) × Int) ⊕ (((List Int) × (List (List Int))) ⊕ Unit)):=fun (at_,firsts,out,v) =>
 if decide (v < (l.length:Int)) then
  (Za8 l v d).bind fun x =>
  if decide (x < 0) then
   some (.inr (.inr ()))
  else
   (ZT (ZH.s1 firsts x) big 0).bind fun k_1 =>
   ck ((0:Int)≤v∧v < (at_.length:Int)) <|
   if decide (k_1 = (firsts.length:Int)) then
    ck (firsts.length + [x].length≤1000000000) <|
    (ZT (ZH.s2 l d) big (([]:List Int),x)).bind fun c1 =>
    ck (out.length + 1≤1000000000) <|
    ck (Zal (v + 1)) <|
    some (.inl (at_.set v.toNat k_1,firsts++[x],out++[c1],v + 1))
   else
    ck (Zal (v + 1)) <|
    some (.inl (at_.set v.toNat k_1,firsts,out,v + 1))
 else
  some (.inr (.inl (at_,out)))

def ZH (l:List Ze) (d:Int):Option ((List Int) × (List (List Int)) × Bool) :=
 ck ((0:Int)≤(l.length:Int)∧(l.length:Int)≤1000000000) <|
 (
  ZT (ZH.s0 l d) big (List.replicate ((l.length:Int):Int).toNat (0:Int),([]:List Int),([]:List (List Int)),0):Option (((List Int) × (List (List Int))) ⊕ Unit)).bind fun o₁=>match o₁ with
 | .inl (at_1,out1) =>
  some (at_1,out1,true)
 | .inr _ =>
  some (([]:List Int),([]:List (List Int)),false)

/-! muntin/muntinref16.Of -/
def ZaW (l:List Ze):Option (Zah × Bool) :=
 (ZH l 1).bind fun (x,x1,x2) =>
 (ZH l 0).bind fun (x3,x4,x5) =>
 if (!x2) || (!x5) then
  some ((⟨([]:List Int),([]:List Int),([]:List (List Int)),([]:List (List Int))⟩:Zah),false)
 else
  some ((⟨x,x3,x1,x4⟩:Zah),true)

/-! muntin/muntinref19.Lines -/
def zJ.s0 (c:Zah):(List ZY) × Int→Option (((List ZY) × Int) ⊕ (List ZY)):=fun (l,i) =>
 if decide (i < (c.Vert.length:Int)) then
  ck ((0:Int)≤i∧i < (c.Vert.length:Int)) <|
  if decide (1 < ((gi c.Vert i.toNat).length:Int)) then
   ck (l.length + [(⟨true,i⟩:ZY)].length≤1000000000) <|
   ck (Zal (i + 1)) <|
   some (.inl (l++[(⟨true,i⟩:ZY)],i + 1))
  else
   ck (Zal (i + 1)) <|
   some (.inl (l,i + 1))
 else
  some (.inr l)

def zJ.s1 (c:Zah):(List ZY) × Int→Option (((List ZY) × Int) ⊕ (List ZY)):=fun (l2,i1) =>
 if decide (i1 < (c.Horz.length:Int)) then
  ck ((0:Int)≤i1∧i1 < (c.Horz.length:Int)) <|
  if decide (1 < ((gi c.Horz i1.toNat).length:Int)) then
   ck (l2.length + [(⟨false,i1⟩:ZY)].length≤1000000000) <|
   ck (Zal (i1 + 1)) <|
   some (.inl (l2++[(⟨false,i1⟩:ZY)],i1 + 1))
  else
   ck (Zal (i1 + 1)) <|
   some (.inl (l2,i1 + 1))
 else
  some (.inr l2)

def zJ (c:Zah):Option (List ZY) :=
 (ZT (zJ.s0 c) big (([]:List ZY),0)).bind fun l1 =>
 (ZT (zJ.s1 c) big (l1,0)).bind fun l3 =>
 some l3

/-! muntin/muntinref16.Meet -/
def Zao.s0 (c:Zah) (vertical:Bool) (i:Int) (other:Bool) (k_:Int):Int→Option (Int ⊕ (Unit ⊕ Unit)):=fun v =>
 if decide (v < (c.X.length:Int)) then
  ck ((0:Int)≤v∧v < (c.Y.length:Int)) <|
  (
   if vertical then
    ck ((0:Int)≤v∧v < (c.X.length:Int)) <|
    some (decide (gi c.X v.toNat = i))
   else
    some (decide (gi c.Y v.toNat = i))).bind fun a =>
  if other then
   ck ((0:Int)≤v∧v < (c.X.length:Int)) <|
   if a && (decide (gi c.X v.toNat = k_)) then
    some (.inr (.inr ()))
   else
    ck (Zal (v + 1)) <|
    some (.inl (v + 1))
  else
   if a && (decide (gi c.Y v.toNat = k_)) then
    some (.inr (.inr ()))
   else
    ck (Zal (v + 1)) <|
    some (.inl (v + 1))
 else
  some (.inr (.inl ()))

def Zao (c:Zah) (vertical:Bool) (i:Int) (other:Bool) (k_:Int):Option Bool :=
 (
  ZT (Zao.s0 c vertical i other k_) big 0:Option (Unit ⊕ Unit)).bind fun o₁=>match o₁ with
 | .inl _ =>
  some false
 | .inr _ =>
  some true

/-! muntin/muntinref19.ends -/
def Zbo (c:Zah) (l:ZY) (at_:List Zf):Option (Zf × Zf) :=
 (
  if l.Vertical then
   some c.Vert
  else
   some c.Horz).bind fun x =>
 ck ((0:Int)≤l.Place∧l.Place < (x.length:Int)) <|
 ck ((0:Int)≤0∧0 < ((gi x (l.Place:Int).toNat).length:Int)) <|
 ck ((0:Int)≤(gi (gi x (l.Place:Int).toNat) (0:Int).toNat)∧(gi (gi x (l.Place:Int).toNat) (0:Int).toNat) < (at_.length:Int)) <|
 ck (Zal (((gi x (l.Place:Int).toNat).length:Int) - 1)) <|
 ck ((0:Int)≤(((gi x (l.Place:Int).toNat).length:Int) - 1)∧(((gi x (l.Place:Int).toNat).length:Int) - 1) < ((gi x (l.Place:Int).toNat).length:Int)) <|
 ck ((0:Int)≤(gi (gi x (l.Place:Int).toNat) (((gi x (l.Place:Int).toNat).length:Int) - 1:Int).toNat)∧(gi (gi x (l.Place:Int).toNat) (((gi x (l.Place:Int).toNat).length:Int) - 1:Int).toNat) < (at_.length:Int)) <|
 some (gi at_ (gi (gi x (l.Place:Int).toNat) (0:Int).toNat:Int).toNat,gi at_ (gi (gi x (l.Place:Int).toNat) (((gi x (l.Place:Int).toNat).length:Int) - 1:Int).toNat:Int).toNat)

/-! muntin/muntinref19.Real -/
def z8.s1 (at_:List Zf) (x1:Zah) (x3:List ZY) (i:Int):Int→Option (Int ⊕ (Unit ⊕ Unit)):=fun k_ =>
 if decide (k_ < (x3.length:Int)) then
  ck ((0:Int)≤i∧i < (x3.length:Int)) <|
  ck ((0:Int)≤k_∧k_ < (x3.length:Int)) <|
  (Zao x1 ((gi x3 i.toNat).Vertical) ((gi x3 i.toNat).Place) ((gi x3 k_.toNat).Vertical) ((gi x3 k_.toNat).Place)).bind fun x4 =>
  (Zbo x1 (gi x3 i.toNat) at_).bind fun (x5,x6) =>
  (Zbo x1 (gi x3 k_.toNat) at_).bind fun (x7,x8) =>
  if (!x4) && (!((((decide (x6.X < x7.X)) || (decide (x8.X < x5.X))) || (decide (x6.Y < x7.Y))) || (decide (x8.Y < x5.Y)))) then
   some (.inr (.inr ()))
  else
   ck (Zal (k_ + 1)) <|
   some (.inl (k_ + 1))
 else
  some (.inr (.inl ()))

def z8.s0 (at_:List Zf) (x1:Zah) (x3:List ZY):Int→Option (Int ⊕ (Unit ⊕ Unit)):=fun i =>
 if decide (i < (x3.length:Int)) then
  ck (Zal (i + 1)) <|
  (
   ZT (z8.s1 at_ x1 x3 i) big (i + 1):Option (Unit ⊕ Unit)).bind fun o₃=>match o₃ with
  | .inl _ =>
   some (.inl (i + 1))
  | .inr _ =>
   some (.inr (.inr ()))
 else
  some (.inr (.inl ()))

def z8 (l:List Ze) (at_:List Zf):Option Bool :=
 if !(decide ((at_.length:Int) = (l.length:Int))) then
  some false
 else
  (zT l at_).bind fun x =>
  if !x then
   some false
  else
   (ZaW l).bind fun (x1,x2) =>
   (zJ x1).bind fun x3 =>
   (
    ZT (z8.s0 at_ x1 x3) big 0:Option (Unit ⊕ Unit)).bind fun o₁=>match o₁ with
   | .inl _ =>
    some true
   | .inr _ =>
    some false

/-! muntin/muntinref26.Real -/
def Za5.s0 (at_:List Zf):Int→Option (Int ⊕ (Unit ⊕ Unit)):=fun i =>
 if decide (i < (at_.length:Int)) then
  ck ((0:Int)≤i∧i < (at_.length:Int)) <|
  if (((decide (1000000 < ((gi at_ i.toNat).X))) || (decide (((gi at_ i.toNat).X) < (-1000000)))) || (decide (1000000 < ((gi at_ i.toNat).Y)))) || (decide (((gi at_ i.toNat).Y) < (-1000000))) then
   some (.inr (.inr ()))
  else
   ck (Zal (i + 1)) <|
   some (.inl (i + 1))
 else
  some (.inr (.inl ()))

def Za5 (l:List Ze) (at_:List Zf):Option Int :=
 (Za7 l).bind fun (x,x1) =>
 if !(decide (x1 = 0)) then
  some x1
 else
  if !(decide ((at_.length:Int) = (l.length:Int))) then
   some 2
  else
   (
    ZT (Za5.s0 at_) big 0:Option (Unit ⊕ Unit)).bind fun o₁=>match o₁ with
   | .inl _ =>
    (zT l at_).bind fun x2 =>
    if !x2 then
     some 15
    else
     (z8 l at_).bind fun x3 =>
     if !x3 then
      some 14
     else
      some 0
   | .inr _ =>
    some 2

/-! muntin/muntinref10.Join -/
def Zcn (l:List Ze) (v:Int) (d:Int) (w:Int) (o:Int):Option ((List Ze) × Int) :=
 if (((((((decide (v < 0)) || (decide ((l.length:Int)≤v))) || (decide (w < 0))) || (decide ((l.length:Int)≤w))) || (decide (v = w))) || (decide (d < 0))) || (decide (3 < d))) || (decide (o < (-2))) then
  some (l,2)
 else
  ck ((0:Int)≤v∧v < (l.length:Int)) <|
  ck ((0:Int)≤d∧d < 4) <|
  (if !(decide (((gi l v.toNat).Next).get d = (-1))) then
   some true
  else
   ck (Zal (d + 2)) <|
   ck ((0:Int)≤w∧w < (l.length:Int)) <|
   ck ((0:Int)≤((d + 2).tmod 4)∧((d + 2).tmod 4) < 4) <|
   some (!(decide (((gi l w.toNat).Next).get ((d + 2).tmod 4) = (-1))))).bind fun t =>
  if t then
   some (l,9)
  else
   (Za4 l v d w o).bind fun x =>
   some (x,0)

/-! muntin/muntinlaw26.wakes -/
def ZbW:Option Bool :=
 (zU 2).bind fun x =>
 (Zcn x 0 0 1 0).bind fun (x1,x2) =>
 (Zb8 x1 [(⟨(0:Int),(0:Int)⟩:Zf),(⟨4,(0:Int)⟩:Zf)]).bind fun x3 =>
 (if decide (x3 = 0) then
  (Zb8 x1 [(⟨(0:Int),(0:Int)⟩:Zf),(⟨(0:Int),4⟩:Zf)]).bind fun x4 =>
  some (decide (x4 = 15))
 else
  some false).bind fun t =>
 (if t then
  (Zb8 x1 ([]:List Zf)).bind fun x5 =>
  some (decide (x5 = 2))
 else
  some false).bind fun t1 =>
 (if t1 then
  (Zci (⟨(⟨0,0⟩:Zf),(⟨0,0⟩:Zf)⟩:Zbe) (⟨(⟨1,(0:Int)⟩:Zf),(⟨1,(0:Int)⟩:Zf)⟩:Zbe)).bind fun x6 =>
  some x6
 else
  some false).bind fun t2 =>
 some t2

/-! muntin/muntinlaw26.CheckTells -/
def zq.s0 (raw:List Zf) (x2:List Zf):(List Zf) × Int→Option (((List Zf) × Int) ⊕ (List Zf)):=fun (wild,x3) =>
 if decide (x3 < (x2.length:Int)) then
  if decide (x3 < (raw.length:Int)) then
   ck ((0:Int)≤x3∧x3 < (wild.length:Int)) <|
   ck ((0:Int)≤x3∧x3 < (raw.length:Int)) <|
   ck (Zal (((gi wild x3.toNat).X) + (((gi raw x3.toNat).X).tmod 4))) <|
   ck ((0:Int)≤x3∧x3 < ((wild.set x3.toNat ({ gi wild x3.toNat with X:=((gi wild x3.toNat).X) + (((gi raw x3.toNat).X).tmod 4) })).length:Int)) <|
   ck (Zal (((gi (wild.set x3.toNat ({ gi wild x3.toNat with X:=((gi wild x3.toNat).X) + (((gi raw x3.toNat).X).tmod 4) })) x3.toNat).Y) + (((gi raw x3.toNat).Y).tmod 4))) <|
   ck (Zal (x3 + 1)) <|
   some (.inl ((wild.set x3.toNat ({ gi wild x3.toNat with X:=((gi wild x3.toNat).X) + (((gi raw x3.toNat).X).tmod 4) })).set x3.toNat ({ gi (wild.set x3.toNat ({ gi wild x3.toNat with X:=((gi wild x3.toNat).X) + (((gi raw x3.toNat).X).tmod 4) })) x3.toNat with Y:=((gi (wild.set x3.toNat ({ gi wild x3.toNat with X:=((gi wild x3.toNat).X) + (((gi raw x3.toNat).X).tmod 4) })) x3.toNat).Y) + (((gi raw x3.toNat).Y).tmod 4) }),x3 + 1))
  else
   ck (Zal (x3 + 1)) <|
   some (.inl (wild,x3 + 1))
 else
  some (.inr wild)

def zq.s1 (raw:List Zf) (x:List Ze) (x1:List Zf) (wild1:List Zf) (x4:List Zf):Int→Option (Int ⊕ (Unit ⊕ Unit)):=fun x5 =>
 if decide (x5 < ([x1,x4,wild1,raw.take (min (raw.length:Int) 20:Int).toNat,x1.take ((x1.length:Int).tdiv 2:Int).toNat].length:Int)) then
  ck ((0:Int)≤x5∧x5 < ([x1,x4,wild1,raw.take (min (raw.length:Int) 20:Int).toNat,x1.take ((x1.length:Int).tdiv 2:Int).toNat].length:Int)) <|
  (Zb8 x (gi [x1,x4,wild1,raw.take (min (raw.length:Int) 20:Int).toNat,x1.take ((x1.length:Int).tdiv 2:Int).toNat] x5.toNat)).bind fun x6 =>
  (Za5 x (gi [x1,x4,wild1,raw.take (min (raw.length:Int) 20:Int).toNat,x1.take ((x1.length:Int).tdiv 2:Int).toNat] x5.toNat)).bind fun x7 =>
  if !(decide (x6 = x7)) then
   some (.inr (.inr ()))
  else
   ck (Zal (x5 + 1)) <|
   some (.inl (x5 + 1))
 else
  some (.inr (.inl ()))

def zq (z:zX) (steps:List Int) (raw:List Zf):Option Bool :=
 (ZV z 14).bind fun (x,x1) =>
 (ZbH x1).bind fun x2 =>
 (ZT (zq.s0 raw x2) big (x2,0)).bind fun wild1 =>
 (zz x1 steps).bind fun x4 =>
 ck ((0:Int)≤(min (raw.length:Int) 20)∧(min (raw.length:Int) 20)≤(raw.length:Int)) <|
 ck ((2:Int)≠0∧Zal ((x1.length:Int).tdiv 2)) <|
 ck ((0:Int)≤((x1.length:Int).tdiv 2)∧((x1.length:Int).tdiv 2)≤(x1.length:Int)) <|
 (
  ZT (zq.s1 raw x x1 wild1 x4) big 0:Option (Unit ⊕ Unit)).bind fun o₃=>match o₃ with
 | .inl _ =>
  (ZbW ).bind fun x8 =>
  some x8
 | .inr _ =>
  some false

end Mu
