/- What the functions work out. -/
import Derived.Test.YtfdidkebomeiaaaMuA
import Derived.Test.YtfdidkebomeiaaaMuR
set_option linter.unusedVariables false
set_option linter.unnecessarySimpa false
set_option linter.unusedSimpArgs false
set_option maxHeartbeats 2000000
set_option maxRecDepth 10000
namespace Mu
open Go (IntKind BinOp UnOp)
structure zj where
 At:List Int
 Bits:List Int
 Own:List Int
 deriving DecidableEq,Inhabited
structure Ze where
 X:Int
 Y:Int
 deriving DecidableEq,Inhabited
abbrev Zfn:Enc Int:=⟨1,fun x=>[.i .u8 x],fun _=>rfl⟩
theorem Zfn.one (x:Int):(Zfn.c x).all V.one = true:=rfl
abbrev ZhB:Enc Int:=⟨1,fun x=>[.i .i8 x],fun _=>rfl⟩
theorem ZhB.one (x:Int):(ZhB.c x).all V.one = true:=rfl
abbrev Zb:Enc Ze:=⟨2,fun x=>[.i .i64 x.X,.i .i64 x.Y],fun _=>rfl⟩
theorem Zb.one (x:Ze):(Zb.c x).all V.one = true:=rfl
theorem Zb.same (x y:Ze):zP [.i,.i] (Zb.c x) (Zb.c y) = some (decide (x = y)):=by
 obtain ⟨x1,x2⟩:=x
 obtain ⟨y1,y2⟩:=y
 refine (Zet (Zet Zfg)).trans ?_
 congr 1
 rw [Bool.eq_iff_iff]
 simp [and_assoc]
abbrev ZbV:Enc (A3 Int):=⟨3,fun x=>[.i .i8 x.a,.i .i8 x.b,.i .i8 x.c],fun _=>rfl⟩
theorem ZbV.one (x:A3 Int):(ZbV.c x).all V.one = true:=rfl
structure Za where
 Next:A4 Int
 Owner:A4 Int
 deriving DecidableEq,Inhabited
abbrev Zi:Enc Za:=⟨8,fun x=>[.i .i64 x.Next.a,.i .i64 x.Next.b,.i .i64 x.Next.c,.i .i64 x.Next.d,.i .i64 x.Owner.a,.i .i64 x.Owner.b,.i .i64 x.Owner.c,.i .i64 x.Owner.d],fun _=>rfl⟩
theorem Zi.one (x:Za):(Zi.c x).all V.one = true:=rfl
abbrev e_bool:Enc Bool:=⟨1,fun x=>[.b x],fun _=>rfl⟩
theorem e_bool.one (x:Bool):(e_bool.c x).all V.one = true:=rfl
structure Zq where
 Cell:Int
 Dir:Int
 deriving DecidableEq,Inhabited
abbrev Zg:Enc Zq:=⟨2,fun x=>[.i .i64 x.Cell,.i .i64 x.Dir],fun _=>rfl⟩
theorem Zg.one (x:Zq):(Zg.c x).all V.one = true:=rfl
theorem Zg.same (x y:Zq):zP [.i,.i] (Zg.c x) (Zg.c y) = some (decide (x = y)):=by
 obtain ⟨x1,x2⟩:=x
 obtain ⟨y1,y2⟩:=y
 refine (Zet (Zet Zfg)).trans ?_
 congr 1
 rw [Bool.eq_iff_iff]
 simp [and_assoc]
abbrev ZbO:Enc (A4 Int):=⟨4,fun x=>[.i .i64 x.a,.i .i64 x.b,.i .i64 x.c,.i .i64 x.d],fun _=>rfl⟩
theorem ZbO.one (x:A4 Int):(ZbO.c x).all V.one = true:=rfl
structure Zag where
 X:List Int
 Y:List Int
 Vert:List (List Int)
 Horz:List (List Int)
 deriving DecidableEq,Inhabited
structure zu where
 Vertical:Bool
 Place:Int
 deriving DecidableEq,Inhabited
abbrev Z4:Enc zu:=⟨2,fun x=>[.b x.Vertical,.i .i64 x.Place],fun _=>rfl⟩
theorem Z4.one (x:zu):(Z4.c x).all V.one = true:=rfl
structure Zal where
 Low:Ze
 High:Ze
 deriving DecidableEq,Inhabited
abbrev ZW:Enc Zal:=⟨4,fun x=>[.i .i64 x.Low.X,.i .i64 x.Low.Y,.i .i64 x.High.X,.i .i64 x.High.Y],fun _=>rfl⟩
theorem ZW.one (x:Zal):(ZW.c x).all V.one = true:=rfl
def Zgh (x:Int):Prop:=Wf .u8 x
def ZhY (x:Int):Prop:=Wf .i8 x
def Zdb (x:Ze):Prop:=Wf .i64 x.X∧Wf .i64 x.Y
def Zha (x:A3 Int):Prop:=Wf .i8 x.a∧Wf .i8 x.b∧Wf .i8 x.c
/-! muntin/muntinref10.New -/
def zf.s1 (v:Int):(List Za) × Int→Option (((List Za) × Int) ⊕ (List Za)):=fun (l2,d) =>
 if decide (d < 4) then
  ck ((0:Int)≤v∧v < (l2.length:Int)) <|
  ck ((0:Int)≤d∧d < 4) <|
  ck (Zaj (d + 1)) <|
  some (.inl (l2.set v.toNat ({ gi l2 v.toNat with Next:=((gi l2 v.toNat).Next).set d (-1) }),d + 1))
 else
  some (.inr l2)

def zf.s0 (n:Int):(List Za) × Int→Option (((List Za) × Int) ⊕ (List Za)):=fun (l,v) =>
 if decide (v < n) then
  (ZV (zf.s1 v) big (l,0)).bind fun l3 =>
  ck (Zaj (v + 1)) <|
  some (.inl (l3,v + 1))
 else
  some (.inr l)

def zf (n:Int):Option (List Za) :=
 ck ((0:Int)≤n∧n≤1000000000) <|
 (ZV (zf.s0 n) big (List.replicate n.toNat (⟨⟨0,0,0,0⟩,⟨0,0,0,0⟩⟩:Za),0)).bind fun l1 =>
 some l1

/-! muntin/muntinref10.Nearest -/
def ZI.s0 (at_:List Ze) (i:Int) (d:Int):Int × Int→Option ((Int × Int) ⊕ Int):=fun (best,k_) =>
 if decide (k_ < (at_.length:Int)) then
  (if decide (d = 0) then
   ck ((0:Int)≤k_∧k_ < (at_.length:Int)) <|
   ck ((0:Int)≤i∧i < (at_.length:Int)) <|
   some (decide ((gi at_ k_.toNat).Y = (gi at_ i.toNat).Y))
  else
   some false).bind fun t =>
  (if t then
   ck ((0:Int)≤k_∧k_ < (at_.length:Int)) <|
   ck ((0:Int)≤i∧i < (at_.length:Int)) <|
   some (decide (((gi at_ i.toNat).X) < ((gi at_ k_.toNat).X)))
  else
   some false).bind fun t1 =>
  (if t1 then
   (if decide (best < 0) then
    some true
   else
    ck ((0:Int)≤k_∧k_ < (at_.length:Int)) <|
    ck ((0:Int)≤best∧best < (at_.length:Int)) <|
    some (decide (((gi at_ k_.toNat).X) < ((gi at_ best.toNat).X)))).bind fun t3 =>
   some t3
  else
   some false).bind fun t2 =>
  (
   if t2 then
    some k_
   else
    some best).bind fun best2 =>
  (if decide (d = 1) then
   ck ((0:Int)≤k_∧k_ < (at_.length:Int)) <|
   ck ((0:Int)≤i∧i < (at_.length:Int)) <|
   some (decide ((gi at_ k_.toNat).X = (gi at_ i.toNat).X))
  else
   some false).bind fun t4 =>
  (if t4 then
   ck ((0:Int)≤k_∧k_ < (at_.length:Int)) <|
   ck ((0:Int)≤i∧i < (at_.length:Int)) <|
   some (decide (((gi at_ i.toNat).Y) < ((gi at_ k_.toNat).Y)))
  else
   some false).bind fun t5 =>
  (if t5 then
   (if decide (best2 < 0) then
    some true
   else
    ck ((0:Int)≤k_∧k_ < (at_.length:Int)) <|
    ck ((0:Int)≤best2∧best2 < (at_.length:Int)) <|
    some (decide (((gi at_ k_.toNat).Y) < ((gi at_ best2.toNat).Y)))).bind fun t7 =>
   some t7
  else
   some false).bind fun t6 =>
  if t6 then
   ck (Zaj (k_ + 1)) <|
   some (.inl (k_,k_ + 1))
  else
   ck (Zaj (k_ + 1)) <|
   some (.inl (best2,k_ + 1))
 else
  some (.inr best)

def ZI (at_:List Ze) (i:Int) (d:Int):Option Int :=
 (ZV (ZI.s0 at_ i d) big ((-1),0)).bind fun best1 =>
 some best1

/-! muntin/muntinref10.Crossed -/
def ZH.s1 (at_:List Ze) (l:List Za) (i:Int) (w:Int) (a:Int):Int→Option (Int ⊕ (Unit ⊕ Unit)):=fun d =>
 if decide (d < 2) then
  ck ((0:Int)≤a∧a < (l.length:Int)) <|
  ck ((0:Int)≤d∧d < 4) <|
  if decide ((((gi l a.toNat).Next).get d) < 0) then
   ck (Zaj (d + 1)) <|
   some (.inl (d + 1))
  else
   ck ((0:Int)≤a∧a < (at_.length:Int)) <|
   ck ((0:Int)≤(((gi l a.toNat).Next).get d)∧(((gi l a.toNat).Next).get d) < (at_.length:Int)) <|
   (if decide ((gi at_ a.toNat).Y = (gi at_ (((gi l a.toNat).Next).get d:Int).toNat).Y) then
    ck ((0:Int)≤i∧i < (at_.length:Int)) <|
    ck ((0:Int)≤w∧w < (at_.length:Int)) <|
    some (decide ((gi at_ i.toNat).X = (gi at_ w.toNat).X))
   else
    some false).bind fun t =>
   (if t then
    ck ((0:Int)≤i∧i < (at_.length:Int)) <|
    some (decide (((gi at_ a.toNat).X) < ((gi at_ i.toNat).X)))
   else
    some false).bind fun t1 =>
   (if t1 then
    ck ((0:Int)≤i∧i < (at_.length:Int)) <|
    some (decide (((gi at_ i.toNat).X) < ((gi at_ (((gi l a.toNat).Next).get d:Int).toNat).X)))
   else
    some false).bind fun t2 =>
   (if t2 then
    ck ((0:Int)≤i∧i < (at_.length:Int)) <|
    some (decide (((gi at_ i.toNat).Y) < ((gi at_ a.toNat).Y)))
   else
    some false).bind fun t3 =>
   (if t3 then
    ck ((0:Int)≤w∧w < (at_.length:Int)) <|
    some (decide (((gi at_ a.toNat).Y) < ((gi at_ w.toNat).Y)))
   else
    some false).bind fun t4 =>
   if t4 then
    some (.inr (.inr ()))
   else
    (if decide ((gi at_ a.toNat).X = (gi at_ (((gi l a.toNat).Next).get d:Int).toNat).X) then
     ck ((0:Int)≤i∧i < (at_.length:Int)) <|
     ck ((0:Int)≤w∧w < (at_.length:Int)) <|
     some (decide ((gi at_ i.toNat).Y = (gi at_ w.toNat).Y))
    else
     some false).bind fun t5 =>
    (if t5 then
     ck ((0:Int)≤i∧i < (at_.length:Int)) <|
     some (decide (((gi at_ i.toNat).X) < ((gi at_ a.toNat).X)))
    else
     some false).bind fun t6 =>
    (if t6 then
     ck ((0:Int)≤w∧w < (at_.length:Int)) <|
     some (decide (((gi at_ a.toNat).X) < ((gi at_ w.toNat).X)))
    else
     some false).bind fun t7 =>
    (if t7 then
     ck ((0:Int)≤i∧i < (at_.length:Int)) <|
     some (decide (((gi at_ a.toNat).Y) < ((gi at_ i.toNat).Y)))
    else
     some false).bind fun t8 =>
    (if t8 then
     ck ((0:Int)≤i∧i < (at_.length:Int)) <|
     some (decide (((gi at_ i.toNat).Y) < ((gi at_ (((gi l a.toNat).Next).get d:Int).toNat).Y)))
    else
     some false).bind fun t9 =>
    if t9 then
     some (.inr (.inr ()))
    else
     ck (Zaj (d + 1)) <|
     some (.inl (d + 1))
 else
  some (.inr (.inl ()))

def ZH.s0 (at_:List Ze) (l:List Za) (i:Int) (w:Int):Int→Option (Int ⊕ (Unit ⊕ Unit)):=fun a =>
 if decide (a < (l.length:Int)) then
  (
   ZV (ZH.s1 at_ l i w a) big 0:Option (Unit ⊕ Unit)).bind fun o₃=>match o₃ with
  | .inl _ =>
   ck (Zaj (a + 1)) <|
   some (.inl (a + 1))
  | .inr _ =>
   some (.inr (.inr ()))
 else
  some (.inr (.inl ()))

def ZH (at_:List Ze) (l:List Za) (i:Int) (w:Int):Option Bool :=
 (
  ZV (ZH.s0 at_ l i w) big 0:Option (Unit ⊕ Unit)).bind fun o₁=>match o₁ with
 | .inl _ =>
  some false
 | .inr _ =>
  some true

/-! muntin/muntinref10.with -/
def zA.s0 (l:List Za) (v:Int) (d:Int) (w:Int) (o:Int):(List Za) × Int→Option (((List Za) × Int) ⊕ (List Za)):=fun (out,i) =>
 if decide (i < (l.length:Int)) then
  ck ((0:Int)≤i∧i < (l.length:Int)) <|
  (
   if decide (i = v) then
    ck ((0:Int)≤d∧d < 4) <|
    some ({ { gi l i.toNat with Next:=((gi l i.toNat).Next).set d w } with Owner:=(({ gi l i.toNat with Next:=((gi l i.toNat).Next).set d w }).Owner).set d o })
   else
    some (gi l i.toNat)).bind fun c =>
  if decide (i = w) then
   ck (Zaj (d + 2)) <|
   ck ((0:Int)≤((d + 2).tmod 4)∧((d + 2).tmod 4) < 4) <|
   ck (out.length + [{ { c with Next:=c.Next.set ((d + 2).tmod 4) v } with Owner:=(({ c with Next:=c.Next.set ((d + 2).tmod 4) v }).Owner).set ((d + 2).tmod 4) o }].length≤1000000000) <|
   ck (Zaj (i + 1)) <|
   some (.inl (out++[{ { c with Next:=c.Next.set ((d + 2).tmod 4) v } with Owner:=(({ c with Next:=c.Next.set ((d + 2).tmod 4) v }).Owner).set ((d + 2).tmod 4) o }],i + 1))
  else
   ck (out.length + [c].length≤1000000000) <|
   ck (Zaj (i + 1)) <|
   some (.inl (out++[c],i + 1))
 else
  some (.inr out)

def zA (l:List Za) (v:Int) (d:Int) (w:Int) (o:Int):Option (List Za) :=
 (ZV (zA.s0 l v d w o) big (([]:List Za),0)).bind fun out1 =>
 some out1

/-! muntin/muntinref10.Make -/
def Z9.s1 (z:zj) (at_:List Ze) (i:Int):Bool × Int→Option ((Bool × Int) ⊕ ((List Ze) × Bool)):=fun (met,k_) =>
 if decide (k_ < (at_.length:Int)) then
  (if met then
   some true
  else
   ck ((0:Int)≤k_∧k_ < (at_.length:Int)) <|
   some (decide (gi at_ k_.toNat = (⟨(gi z.At i.toNat).tmod 8,((gi z.At i.toNat).tdiv 8).tmod 8⟩:Ze)))).bind fun t =>
  ck (Zaj (k_ + 1)) <|
  some (.inl (t,k_ + 1))
 else
  some (.inr (at_,met))

def Z9.s0 (z:zj) (most:Int):(List Ze) × Int→Option (((List Ze) × Int) ⊕ (List Ze)):=fun (at_,i) =>
 if (decide (i < (z.At.length:Int))) && (decide ((at_.length:Int) < most)) then
  ck ((0:Int)≤i∧i < (z.At.length:Int)) <|
  ck (inK .i64 (gi z.At i.toNat)) <|
  ck ((8:Int)≠0∧Zaj ((gi z.At i.toNat).tdiv 8)) <|
  (ZV (Z9.s1 z at_ i) big (false,0)).bind fun (at_2,met1) =>
  if !met1 then
   ck (at_2.length + [(⟨(gi z.At i.toNat).tmod 8,((gi z.At i.toNat).tdiv 8).tmod 8⟩:Ze)].length≤1000000000) <|
   ck (Zaj (i + 1)) <|
   some (.inl (at_2++[(⟨(gi z.At i.toNat).tmod 8,((gi z.At i.toNat).tdiv 8).tmod 8⟩:Ze)],i + 1))
  else
   ck (Zaj (i + 1)) <|
   some (.inl (at_2,i + 1))
 else
  some (.inr at_)

def Z9.s3 (i1:Int) (bits:Int) (at_6:List Ze) (own:Int):(List Za) × Int→Option (((List Za) × Int) ⊕ (List Za)):=fun (l4,d) =>
 if decide (d < 2) then
  (ZI at_6 i1 d).bind fun x1 =>
  ck ((0:Int)≤d) <|
  if (decide (Zp .u8 (Z3 .u8 bits d) 1 = 0)) || (decide (x1 < 0)) then
   ck (Zaj (d + 1)) <|
   some (.inl (l4,d + 1))
  else
   (ZH at_6 l4 i1 x1).bind fun x2 =>
   if !x2 then
    (zA l4 i1 d x1 own).bind fun x3 =>
    ck (Zaj (d + 1)) <|
    some (.inl (x3,d + 1))
   else
    ck (Zaj (d + 1)) <|
    some (.inl (l4,d + 1))
 else
  some (.inr l4)

def Z9.s2 (z:zj):(List Ze) × (List Za) × Int→Option (((List Ze) × (List Za) × Int) ⊕ ((List Ze) × (List Za))):=fun (at_3,l,i1) =>
 if decide (i1 < (at_3.length:Int)) then
  (
   if decide (i1 < (z.Bits.length:Int)) then
    ck ((0:Int)≤i1∧i1 < (z.Bits.length:Int)) <|
    some (at_3,l,gi z.Bits i1.toNat)
   else
    some (at_3,l,3)).bind fun (at_5,l2,bits) =>
  (
   if decide (i1 < (z.Own.length:Int)) then
    ck ((0:Int)≤i1∧i1 < (z.Own.length:Int)) <|
    ck (inK .i64 (gi z.Own i1.toNat)) <|
    if decide ((gi z.Own i1.toNat) < (-2)) then
     ck (Zaj (-(gi z.Own i1.toNat))) <|
     some (at_5,l2,-(gi z.Own i1.toNat))
    else
     some (at_5,l2,gi z.Own i1.toNat)
   else
    some (at_5,l2,i1)).bind fun (at_6,l3,own) =>
  (ZV (Z9.s3 i1 bits at_6 own) big (l3,0)).bind fun l5 =>
  ck (Zaj (i1 + 1)) <|
  some (.inl (at_6,l5,i1 + 1))
 else
  some (.inr (at_3,l))

def Z9 (z:zj) (most:Int):Option ((List Za) × (List Ze)) :=
 (ZV (Z9.s0 z most) big (([]:List Ze),0)).bind fun at_1 =>
 (zf (at_1.length:Int)).bind fun x =>
 (ZV (Z9.s2 z) big (at_1,x,0)).bind fun (at_4,l1) =>
 some (l1,at_4)

/-! muntin/compass.Good -/
def Za2 (d:Int):Option Bool :=
 some ((decide (0≤d)) && (decide (d≤3)))

/-! muntin/compass.Left -/
def Za3 (d:Int) (times:Int):Option Int :=
 (Za2 d).bind fun x =>
 if !x then
  some 0
 else
  ck (Zaj (d + (times.tmod 4))) <|
  ck (Zaj ((d + (times.tmod 4)) + 4)) <|
  some (((d + (times.tmod 4)) + 4).tmod 4)

/-! muntin/grid.side -/
def ZbS (cells:List Za) (v:Int) (d:Int):Option Int :=
 ck ((0:Int)≤v∧v < (cells.length:Int)) <|
 ck ((0:Int)≤d∧d < 4) <|
 if decide (((gi cells v.toNat).Next).get d = (-1)) then
  if !(decide (((gi cells v.toNat).Owner).get d = 0)) then
   some 9
  else
   some 0
 else
  if ((decide ((((gi cells v.toNat).Next).get d) < 0)) || (decide ((cells.length:Int)≤(((gi cells v.toNat).Next).get d)))) || (decide (((gi cells v.toNat).Next).get d = v)) then
   some 3
  else
   (Za3 d 2).bind fun x =>
   ck ((0:Int)≤(((gi cells v.toNat).Next).get d)∧(((gi cells v.toNat).Next).get d) < (cells.length:Int)) <|
   ck ((0:Int)≤x∧x < 4) <|
   if ((!(decide (((gi cells (((gi cells v.toNat).Next).get d:Int).toNat).Next).get x = v))) || (!(decide (((gi cells (((gi cells v.toNat).Next).get d:Int).toNat).Owner).get x = ((gi cells v.toNat).Owner).get d)))) || (decide ((((gi cells v.toNat).Owner).get d) < (-2))) then
    some 9
   else
    some 0

/-! muntin/grid.Check -/
def zg.s1 (cells:List Za) (x:Int):Int→Option (Int ⊕ (Unit ⊕ Int)):=fun x2 =>
 if decide (x2 < 4) then
  (ZbS cells x x2).bind fun x4 =>
  if !(decide (x4 = 0)) then
   some (.inr (.inr x4))
  else
   ck (Zaj (x2 + 1)) <|
   some (.inl (x2 + 1))
 else
  some (.inr (.inl ()))

def zg.s0 (cells:List Za):Int→Option (Int ⊕ (Unit ⊕ Int)):=fun x =>
 if decide (x < (cells.length:Int)) then
  (
   ZV (zg.s1 cells x) big 0:Option (Unit ⊕ Int)).bind fun o₃=>match o₃ with
  | .inl _ =>
   ck (Zaj (x + 1)) <|
   some (.inl (x + 1))
  | .inr x3 =>
   some (.inr (.inr x3))
 else
  some (.inr (.inl ()))

def zg (cells:List Za):Option Int :=
 if decide (4096 < (cells.length:Int)) then
  some 6
 else
  (
   ZV (zg.s0 cells) big 0:Option (Unit ⊕ Int)).bind fun o₁=>match o₁ with
  | .inl _ =>
   some 0
  | .inr x1 =>
   some x1

/-! math/bits.Mul64 -/
def Zc5 (x:Int) (y:Int):Option (Int × Int) :=
 some (z6 .u64 (z6 .u64 (ZE .u64 (Z3 .u64 x 32) (Z3 .u64 y 32)) (Z3 .u64 (z6 .u64 (ZE .u64 (Z3 .u64 x 32) (Zp .u64 y 4294967295)) (Z3 .u64 (ZE .u64 (Zp .u64 x 4294967295) (Zp .u64 y 4294967295)) 32)) 32)) (Z3 .u64 (z6 .u64 (Zp .u64 (z6 .u64 (ZE .u64 (Z3 .u64 x 32) (Zp .u64 y 4294967295)) (Z3 .u64 (ZE .u64 (Zp .u64 x 4294967295) (Zp .u64 y 4294967295)) 32)) 4294967295) (ZE .u64 (Zp .u64 x 4294967295) (Z3 .u64 y 32))) 32),ZE .u64 x y)

/-! math/bits.Mul -/
def Zcl (x:Int) (y:Int):Option (Int × Int) :=
 (Zc5 x y).bind fun (x1,x2) =>
 some (x1,x2)

/-! slices.Repeat[[]int,int] -/
def zt.s0:(List Int) × Int→Option (((List Int) × Int) ⊕ (List Int)):=fun (newslice,n) =>
 if decide (n < (newslice.length:Int)) then
  ck ((0:Int)≤n∧n≤(newslice.length:Int)) <|
  ck (Zaj (n + ((min (newslice.take n.toNat).length (newslice.drop n.toNat).length:Nat):Int))) <|
  some (.inl (newslice.take n.toNat++((newslice.take n.toNat).take (newslice.drop n.toNat).length++(newslice.drop n.toNat).drop (newslice.take n.toNat).length),n + ((min (newslice.take n.toNat).length (newslice.drop n.toNat).length:Nat):Int)))
 else
  some (.inr newslice)

def zt (x:List Int) (count:Int):Option (List Int) :=
 (
  if decide (count < 0) then
   none
  else
   some ()).bind fun _ =>
 ck (inK .u64 (x.length:Int)) <|
 ck (inK .u64 count) <|
 (Zcl (x.length:Int) count).bind fun (x1,x2) =>
 (
  if (decide (0 < x1)) || (decide (9223372036854775807 < x2)) then
   none
  else
   some ()).bind fun _ =>
 ck (inK .i64 x2) <|
 ck ((0:Int)≤x2∧x2≤1000000000) <|
 (ZV zt.s0 big (x.take (List.replicate x2.toNat (0:Int)).length++(List.replicate x2.toNat (0:Int)).drop x.length,((min x.length (List.replicate x2.toNat (0:Int)).length:Nat):Int))).bind fun newslice1 =>
 some newslice1

/-! muntin/join.spread -/
def zT.s1 (cells:List Za) (l:List Int):(List Int) × (List Int) × (List Int) × (List Bool) × Int→Option (((List Int) × (List Int) × (List Int) × (List Bool) × Int) ⊕ ((List Int) × (List Int) × (List Int) × (List Bool))):=fun (from_2,dir2,l1,met1,x2) =>
 if decide (x2 < 4) then
  ck ((0:Int)≤(gi l (0:Int).toNat)∧(gi l (0:Int).toNat) < (cells.length:Int)) <|
  ck ((0:Int)≤x2∧x2 < 4) <|
  (if decide (0≤(((gi cells (gi l (0:Int).toNat:Int).toNat).Next).get x2)) then
   ck ((0:Int)≤(((gi cells (gi l (0:Int).toNat:Int).toNat).Next).get x2)∧(((gi cells (gi l (0:Int).toNat:Int).toNat).Next).get x2) < (met1.length:Int)) <|
   some (!(gi met1 (((gi cells (gi l (0:Int).toNat:Int).toNat).Next).get x2:Int).toNat))
  else
   some false).bind fun t =>
  if t then
   ck ((0:Int)≤(((gi cells (gi l (0:Int).toNat:Int).toNat).Next).get x2)∧(((gi cells (gi l (0:Int).toNat:Int).toNat).Next).get x2) < (met1.length:Int)) <|
   ck ((0:Int)≤(((gi cells (gi l (0:Int).toNat:Int).toNat).Next).get x2)∧(((gi cells (gi l (0:Int).toNat:Int).toNat).Next).get x2) < (from_2.length:Int)) <|
   ck ((0:Int)≤(((gi cells (gi l (0:Int).toNat:Int).toNat).Next).get x2)∧(((gi cells (gi l (0:Int).toNat:Int).toNat).Next).get x2) < (dir2.length:Int)) <|
   ck (l1.length + [((gi cells (gi l (0:Int).toNat:Int).toNat).Next).get x2].length≤1000000000) <|
   ck (Zaj (x2 + 1)) <|
   some (.inl (from_2.set (((gi cells (gi l (0:Int).toNat:Int).toNat).Next).get x2:Int).toNat (gi l (0:Int).toNat),dir2.set (((gi cells (gi l (0:Int).toNat:Int).toNat).Next).get x2:Int).toNat x2,l1++[((gi cells (gi l (0:Int).toNat:Int).toNat).Next).get x2],met1.set (((gi cells (gi l (0:Int).toNat:Int).toNat).Next).get x2:Int).toNat true,x2 + 1))
  else
   ck (Zaj (x2 + 1)) <|
   some (.inl (from_2,dir2,l1,met1,x2 + 1))
 else
  some (.inr (from_2,dir2,l1,met1))

def zT.s0 (cells:List Za):(List Int) × (List Int) × (List Int) × (List Bool)→Option (((List Int) × (List Int) × (List Int) × (List Bool)) ⊕ ((List Int) × (List Int))):=fun (from_,dir,l,met) =>
 if decide (0 < (l.length:Int)) then
  ck ((0:Int)≤0∧0 < (l.length:Int)) <|
  ck ((0:Int)≤1∧1≤(l.length:Int)) <|
  (ZV (zT.s1 cells l) big (from_,dir,l.drop (1:Int).toNat,met,0)).bind fun (from_3,dir3,l2,met2) =>
  some (.inl (from_3,dir3,l2,met2))
 else
  some (.inr (from_,dir))

def zT (cells:List Za) (v:Int):Option ((List Int) × (List Int)) :=
 (zt ([(-1)]:List Int) (cells.length:Int)).bind fun x =>
 (zt ([(-1)]:List Int) (cells.length:Int)).bind fun x1 =>
 ck ((0:Int)≤(cells.length:Int)∧(cells.length:Int)≤1000000000) <|
 ck ((0:Int)≤v∧v < ((List.replicate ((cells.length:Int):Int).toNat false).length:Int)) <|
 (ZV (zT.s0 cells) big (x,x1,[v],(List.replicate ((cells.length:Int):Int).toNat false).set v.toNat true)).bind fun (from_1,dir1) =>
 some (from_1,dir1)

/-! muntin/join.Parts -/
def zW.s1 (cells:List Za) (x1:Int) (x3:List Int):(List Bool) × (List Int) × Int→Option (((List Bool) × (List Int) × Int) ⊕ ((List Bool) × (List Int))):=fun (met1,part,x4) =>
 if decide (x4 < (cells.length:Int)) then
  (if decide (x4 = x1) then
   some true
  else
   ck ((0:Int)≤x4∧x4 < (x3.length:Int)) <|
   some (decide (0≤(gi x3 x4.toNat)))).bind fun t =>
  if t then
   ck ((0:Int)≤x4∧x4 < (met1.length:Int)) <|
   ck (part.length + [x4].length≤1000000000) <|
   ck (Zaj (x4 + 1)) <|
   some (.inl (met1.set x4.toNat true,part++[x4],x4 + 1))
  else
   ck (Zaj (x4 + 1)) <|
   some (.inl (met1,part,x4 + 1))
 else
  some (.inr (met1,part))

def zW.s0 (cells:List Za):(List (List Int)) × (List Bool) × Int→Option (((List (List Int)) × (List Bool) × Int) ⊕ (List (List Int))):=fun (l,met,x1) =>
 if decide (x1 < (cells.length:Int)) then
  ck ((0:Int)≤x1∧x1 < (met.length:Int)) <|
  if gi met x1.toNat then
   ck (Zaj (x1 + 1)) <|
   some (.inl (l,met,x1 + 1))
  else
   (zT cells x1).bind fun (x2,x3) =>
   (ZV (zW.s1 cells x1 x3) big (met,[],0)).bind fun (met2,part1) =>
   ck (l.length + 1≤1000000000) <|
   ck (Zaj (x1 + 1)) <|
   some (.inl (l++[part1],met2,x1 + 1))
 else
  some (.inr l)

def zW (cells:List Za):Option ((List (List Int)) × Int) :=
 (zg cells).bind fun x =>
 if !(decide (x = 0)) then
  some (([]:List (List Int)),x)
 else
  ck ((0:Int)≤(cells.length:Int)∧(cells.length:Int)≤1000000000) <|
  (ZV (zW.s0 cells) big (([]:List (List Int)),List.replicate ((cells.length:Int):Int).toNat false,0)).bind fun l1 =>
  some (l1,0)

/-! muntin/join.Whole -/
def ZbF (cells:List Za):Option Bool :=
 (zW cells).bind fun (x,x1) =>
 some ((decide (x1 = 0)) && (decide ((x.length:Int) = 1)))

/-! (muntin/face.Dart).is -/
def Za4 (d:Zq) (cells:List Za):Option Bool :=
 if decide (0≤d.Cell) then
  if decide (d.Cell < (cells.length:Int)) then
   (Za2 d.Dir).bind fun x =>
   if x then
    ck ((0:Int)≤d.Cell∧d.Cell < (cells.length:Int)) <|
    ck ((0:Int)≤d.Dir∧d.Dir < 4) <|
    some (decide (0≤(((gi cells (d.Cell:Int).toNat).Next).get d.Dir)))
   else
    some false
  else
   some false
 else
  some false

/-! (muntin/face.Dart).behind -/
def z4.s0 (d:Zq) (cells:List Za):Int→Option (Int ⊕ (Unit ⊕ Zq)):=fun x =>
 if decide (x < 4) then
  ck ((0:Int)≤x∧x < 4) <|
  (Za3 d.Dir ((⟨1,0,(-1),2⟩:A4 Int).get x)).bind fun x2 =>
  (Za4 (⟨((gi cells (d.Cell:Int).toNat).Next).get d.Dir,x2⟩:Zq) cells).bind fun x3 =>
  if x3 then
   some (.inr (.inr (⟨((gi cells (d.Cell:Int).toNat).Next).get d.Dir,x2⟩:Zq)))
  else
   ck (Zaj (x + 1)) <|
   some (.inl (x + 1))
 else
  some (.inr (.inl ()))

def z4 (d:Zq) (cells:List Za):Option Zq :=
 ck ((0:Int)≤d.Cell∧d.Cell < (cells.length:Int)) <|
 ck ((0:Int)≤d.Dir∧d.Dir < 4) <|
 (
  ZV (z4.s0 d cells) big 0:Option (Unit ⊕ Zq)).bind fun o₁=>match o₁ with
 | .inl _ =>
  some d
 | .inr x1 =>
  some x1

/-! muntin/face.Faces -/
def z9.s2 (cells:List Za):(List (Zq × Bool)) × (List Zq) × Zq→Option (((List (Zq × Bool)) × (List Zq) × Zq) ⊕ ((List (Zq × Bool)) × (List Zq))):=fun (met3,f,x4) =>
 if !(Zc4 false x4 met3) then
  ck (f.length + [x4].length≤1000000000) <|
  (z4 x4 cells).bind fun x5 =>
  some (.inl (Zdt x4 true met3,f++[x4],x5))
 else
  some (.inr (met3,f))

def z9.s1 (cells:List Za) (x1:Int):(List (List Zq)) × (List (Zq × Bool)) × Int→Option (((List (List Zq)) × (List (Zq × Bool)) × Int) ⊕ ((List (List Zq)) × (List (Zq × Bool)))):=fun (l2,met1,x2) =>
 if decide (x2 < 4) then
  (Za4 (⟨x1,x2⟩:Zq) cells).bind fun x3 =>
  if (!x3) || (Zc4 false (⟨x1,x2⟩:Zq) met1) then
   ck (Zaj (x2 + 1)) <|
   some (.inl (l2,met1,x2 + 1))
  else
   (ZV (z9.s2 cells) big (met1,([]:List Zq),(⟨x1,x2⟩:Zq))).bind fun (met4,f1) =>
   ck (l2.length + 1≤1000000000) <|
   ck (Zaj (x2 + 1)) <|
   some (.inl (l2++[f1],met4,x2 + 1))
 else
  some (.inr (l2,met1))

def z9.s0 (cells:List Za):(List (List Zq)) × (List (Zq × Bool)) × Int→Option (((List (List Zq)) × (List (Zq × Bool)) × Int) ⊕ (List (List Zq))):=fun (l,met,x1) =>
 if decide (x1 < (cells.length:Int)) then
  (ZV (z9.s1 cells x1) big (l,met,0)).bind fun (l3,met2) =>
  ck (Zaj (x1 + 1)) <|
  some (.inl (l3,met2,x1 + 1))
 else
  some (.inr l)

def z9 (cells:List Za):Option ((List (List Zq)) × Int) :=
 (zg cells).bind fun x =>
 if !(decide (x = 0)) then
  some (([]:List (List Zq)),x)
 else
  (ZV (z9.s0 cells) big (([]:List (List Zq)),([]:List (Zq × Bool)),0)).bind fun l1 =>
  some (l1,0)

/-! muntin/compass.Turn -/
def Zbr (d:Int) (e_:Int):Option Int :=
 (Za2 d).bind fun x =>
 (if !x then
  some true
 else
  (Za2 e_).bind fun x1 =>
  some (!x1)).bind fun t =>
 if t then
  some 0
 else
  ck (Zaj (e_ - d)) <|
  ck (Zaj ((e_ - d) + 4)) <|
  ck ((0:Int)≤(((e_ - d) + 4).tmod 4)∧(((e_ - d) + 4).tmod 4) < 4) <|
  some ((⟨0,1,(-2),(-1)⟩:A4 Int).get (((e_ - d) + 4).tmod 4))

/-! muntin/face.Turns -/
def ZaL.s0 (cells:List Za) (f:List Zq):(List Int) × Int→Option (((List Int) × Int) ⊕ (List Int)):=fun (l,x1) =>
 if decide (x1 < (f.length:Int)) then
  ck ((0:Int)≤x1∧x1 < (f.length:Int)) <|
  (Za4 (gi f x1.toNat) cells).bind fun x2 =>
  if x2 then
   (z4 (gi f x1.toNat) cells).bind fun x3 =>
   (Zbr ((gi f x1.toNat).Dir) x3.Dir).bind fun x4 =>
   ck ((0:Int)≤x1∧x1 < (l.length:Int)) <|
   ck (Zaj (x1 + 1)) <|
   some (.inl (l.set x1.toNat x4,x1 + 1))
  else
   ck (Zaj (x1 + 1)) <|
   some (.inl (l,x1 + 1))
 else
  some (.inr l)

def ZaL (cells:List Za) (f:List Zq):Option (List Int) :=
 ck ((0:Int)≤(f.length:Int)∧(f.length:Int)≤1000000000) <|
 (zg cells).bind fun x =>
 if !(decide (x = 0)) then
  some (List.replicate ((f.length:Int):Int).toNat (0:Int))
 else
  (ZV (ZaL.s0 cells f) big (List.replicate ((f.length:Int):Int).toNat (0:Int),0)).bind fun l1 =>
  some l1

/-! muntin/face.Rotation -/
def Zat.s0 (turns:List Int):Int × Int→Option ((Int × Int) ⊕ Int):=fun (n,x) =>
 if decide (x < (turns.length:Int)) then
  ck ((0:Int)≤x∧x < (turns.length:Int)) <|
  if (decide ((-2)≤(gi turns x.toNat))) && (decide ((gi turns x.toNat)≤1)) then
   ck (Zaj (n + (gi turns x.toNat))) <|
   ck (Zaj (x + 1)) <|
   some (.inl (n + (gi turns x.toNat),x + 1))
  else
   ck (Zaj (x + 1)) <|
   some (.inl (n,x + 1))
 else
  some (.inr n)

def Zat (turns:List Int):Option Int :=
 (ZV (Zat.s0 turns) big (0,0)).bind fun n1 =>
 some n1

/-! muntin/valid.outer -/
def Za6.s0 (cells:List Za) (x:List (List Zq)):Int × Int→Option ((Int × Int) ⊕ (Int ⊕ Unit)):=fun (at_,x2) =>
 if decide (x2 < (x.length:Int)) then
  ck ((0:Int)≤x2∧x2 < (x.length:Int)) <|
  (ZaL cells (gi x x2.toNat)).bind fun x3 =>
  (Zat x3).bind fun x4 =>
  if decide (x4 = 4) then
   ck (Zaj (x2 + 1)) <|
   some (.inl (at_,x2 + 1))
  else
   if decide (x4 = (-4)) then
    if decide (0≤at_) then
     some (.inr (.inr ()))
    else
     ck (Zaj (x2 + 1)) <|
     some (.inl (x2,x2 + 1))
   else
    some (.inr (.inr ()))
 else
  some (.inr (.inl at_))

def Za6 (cells:List Za):Option (Int × Bool) :=
 (z9 cells).bind fun (x,x1) =>
 (
  ZV (Za6.s0 cells x) big ((-1),0):Option (Int ⊕ Unit)).bind fun o₁=>match o₁ with
 | .inl at_1 =>
  some (at_1,decide (0≤at_1))
 | .inr _ =>
  some (0,false)

/-! muntin/valid.Check -/
def Zb1 (cells:List Za):Option Int :=
 (zg cells).bind fun x =>
 if !(decide (x = 0)) then
  some x
 else
  (ZbF cells).bind fun x1 =>
  if !x1 then
   some 13
  else
   (Za6 cells).bind fun (x2,x3) =>
   if (!x3) && (decide (1 < (cells.length:Int))) then
    some 10
   else
    some 0

/-! slices.IndexFunc[[]muntin/api.Point,muntin/api.Point] -/
def ZZ.s0 (s:List Ze) (f:Ze→Option Bool):Int→Option (Int ⊕ (Unit ⊕ Int)):=fun x =>
 if decide (x < (s.length:Int)) then
  ck ((0:Int)≤x∧x < (s.length:Int)) <|
  (f (gi s x.toNat)).bind fun x2 =>
  if x2 then
   some (.inr (.inr x))
  else
   ck (Zaj (x + 1)) <|
   some (.inl (x + 1))
 else
  some (.inr (.inl ()))

def ZZ (s:List Ze) (f:Ze→Option Bool):Option Int :=
 (
  ZV (ZZ.s0 s f) big 0:Option (Unit ⊕ Int)).bind fun o₁=>match o₁ with
 | .inl _ =>
  some (-1)
 | .inr x1 =>
  some x1

/-! slices.ContainsFunc[[]muntin/api.Point,muntin/api.Point] -/
def zD (s:List Ze) (f:Ze→Option Bool):Option Bool :=
 (ZZ s f).bind fun x =>
 some (decide (0≤x))

/-! muntin/arcs.far -/
def ZcE (p:Ze):Option Bool :=
 some ((decide (1000000 < (max p.X p.Y))) || (decide ((min p.X p.Y) < (-1000000))))

/-! muntin/compass.Between -/
def ZaC (a:Ze) (b:Ze):Option (Int × Bool) :=
 if decide ((decide (a.X = b.X)) = (decide (a.Y = b.Y))) then
  some (0,false)
 else
  if decide (a.X < b.X) then
   some (0,true)
  else
   if decide (b.X < a.X) then
    some (2,true)
   else
    if decide (a.Y < b.Y) then
     some (1,true)
    else
     some (3,true)

/-! muntin/arcs.weight -/
def Zb0 (owner:Int):Option Int :=
 if decide (0≤owner) then
  some 1
 else
  some 0

/-! muntin/arcs.Length -/
def z7.s1 (cells:List Za) (at_:List Ze) (x2:Int):Int × Int→Option ((Int × Int) ⊕ (Int ⊕ Unit)):=fun (sum2,x3) =>
 if decide (x3 < (([0,1]:List Int).length:Int)) then
  ck ((0:Int)≤x3∧x3 < (([0,1]:List Int).length:Int)) <|
  ck ((0:Int)≤(gi ([0,1]:List Int) x3.toNat)∧(gi ([0,1]:List Int) x3.toNat) < 4) <|
  if decide ((((gi cells x2.toNat).Next).get (gi ([0,1]:List Int) x3.toNat)) < 0) then
   ck (Zaj (x3 + 1)) <|
   some (.inl (sum2,x3 + 1))
  else
   ck ((0:Int)≤x2∧x2 < (at_.length:Int)) <|
   ck ((0:Int)≤(((gi cells x2.toNat).Next).get (gi ([0,1]:List Int) x3.toNat))∧(((gi cells x2.toNat).Next).get (gi ([0,1]:List Int) x3.toNat)) < (at_.length:Int)) <|
   (ZaC (gi at_ x2.toNat) (gi at_ (((gi cells x2.toNat).Next).get (gi ([0,1]:List Int) x3.toNat):Int).toNat)).bind fun (x4,x5) =>
   if (!x5) || (!(decide (x4 = gi ([0,1]:List Int) x3.toNat))) then
    some (.inr (.inr ()))
   else
    (Zb0 (((gi cells x2.toNat).Owner).get (gi ([0,1]:List Int) x3.toNat))).bind fun x6 =>
    ck (Zaj (((gi at_ (((gi cells x2.toNat).Next).get (gi ([0,1]:List Int) x3.toNat):Int).toNat).X) - ((gi at_ x2.toNat).X))) <|
    ck (Zaj ((((gi at_ (((gi cells x2.toNat).Next).get (gi ([0,1]:List Int) x3.toNat):Int).toNat).X) - ((gi at_ x2.toNat).X)) + ((gi at_ (((gi cells x2.toNat).Next).get (gi ([0,1]:List Int) x3.toNat):Int).toNat).Y))) <|
    ck (Zaj (((((gi at_ (((gi cells x2.toNat).Next).get (gi ([0,1]:List Int) x3.toNat):Int).toNat).X) - ((gi at_ x2.toNat).X)) + ((gi at_ (((gi cells x2.toNat).Next).get (gi ([0,1]:List Int) x3.toNat):Int).toNat).Y)) - ((gi at_ x2.toNat).Y))) <|
    ck (Zaj (x6 * (((((gi at_ (((gi cells x2.toNat).Next).get (gi ([0,1]:List Int) x3.toNat):Int).toNat).X) - ((gi at_ x2.toNat).X)) + ((gi at_ (((gi cells x2.toNat).Next).get (gi ([0,1]:List Int) x3.toNat):Int).toNat).Y)) - ((gi at_ x2.toNat).Y)))) <|
    ck (Zaj (sum2 + (x6 * (((((gi at_ (((gi cells x2.toNat).Next).get (gi ([0,1]:List Int) x3.toNat):Int).toNat).X) - ((gi at_ x2.toNat).X)) + ((gi at_ (((gi cells x2.toNat).Next).get (gi ([0,1]:List Int) x3.toNat):Int).toNat).Y)) - ((gi at_ x2.toNat).Y))))) <|
    ck (Zaj (x3 + 1)) <|
    some (.inl (sum2 + (x6 * (((((gi at_ (((gi cells x2.toNat).Next).get (gi ([0,1]:List Int) x3.toNat):Int).toNat).X) - ((gi at_ x2.toNat).X)) + ((gi at_ (((gi cells x2.toNat).Next).get (gi ([0,1]:List Int) x3.toNat):Int).toNat).Y)) - ((gi at_ x2.toNat).Y))),x3 + 1))
 else
  some (.inr (.inl sum2))

def z7.s0 (cells:List Za) (at_:List Ze):Int × Int→Option ((Int × Int) ⊕ (Int ⊕ Unit)):=fun (sum,x2) =>
 if decide (x2 < (cells.length:Int)) then
  ck ((0:Int)≤x2∧x2 < (cells.length:Int)) <|
  (
   ZV (z7.s1 cells at_ x2) big (sum,0):Option (Int ⊕ Unit)).bind fun o₃=>match o₃ with
  | .inl sum3 =>
   ck (Zaj (x2 + 1)) <|
   some (.inl (sum3,x2 + 1))
  | .inr _ =>
   some (.inr (.inr ()))
 else
  some (.inr (.inl sum))

def z7 (cells:List Za) (at_:List Ze):Option (Int × Int) :=
 (zg cells).bind fun x =>
 if !(decide (x = 0)) then
  some (0,x)
 else
  (if !(decide ((at_.length:Int) = (cells.length:Int))) then
   some true
  else
   (zD at_ (fun y0=>ZcE y0)).bind fun x1 =>
   some x1).bind fun t =>
  if t then
   some (0,2)
  else
   (
    ZV (z7.s0 cells at_) big (0,0):Option (Int ⊕ Unit)).bind fun o₁=>match o₁ with
   | .inl sum1 =>
    some (sum1,0)
   | .inr _ =>
    some (0,15)

/-! muntin/seg.chains -/
def za.s1 (cells:List Za) (x1:Int):Int × Int→Option ((Int × Int) ⊕ (Int ⊕ Unit)):=fun (first,n) =>
 ck ((0:Int)≤first∧first < (cells.length:Int)) <|
 ck ((0:Int)≤x1∧x1 < 4) <|
 if decide (0≤(((gi cells first.toNat).Next).get x1)) then
  if decide (n = (cells.length:Int)) then
   some (.inr (.inr ()))
  else
   ck (Zaj (n + 1)) <|
   some (.inl (((gi cells first.toNat).Next).get x1,n + 1))
 else
  some (.inr (.inl first))

def za.s2 (cells:List Za) (d:Int) (l:List (List Int)):(List Int) × (List Int) × Int→Option (((List Int) × (List Int) × Int) ⊕ ((List Int) × (List Int))):=fun (at_2,chain,w) =>
 if decide (0≤w) then
  ck ((0:Int)≤w∧w < (at_2.length:Int)) <|
  ck (chain.length + [w].length≤1000000000) <|
  ck ((0:Int)≤w∧w < (cells.length:Int)) <|
  ck ((0:Int)≤d∧d < 4) <|
  some (.inl (at_2.set w.toNat (l.length:Int),chain++[w],((gi cells w.toNat).Next).get d))
 else
  some (.inr (at_2,chain))

def za.s0 (cells:List Za) (d:Int) (x1:Int):(List Int) × (List (List Int)) × Int→Option (((List Int) × (List (List Int)) × Int) ⊕ (((List Int) × (List (List Int))) ⊕ Unit)):=fun (at_,l,x2) =>
 if decide (x2 < (cells.length:Int)) then
  ck ((0:Int)≤x2∧x2 < (at_.length:Int)) <|
  if decide (0≤(gi at_ x2.toNat)) then
   ck (Zaj (x2 + 1)) <|
   some (.inl (at_,l,x2 + 1))
  else
   (
    ZV (za.s1 cells x1) big (x2,0):Option (Int ⊕ Unit)).bind fun o₃=>match o₃ with
   | .inl first1 =>
    (ZV (za.s2 cells d l) big (at_,([]:List Int),first1)).bind fun (at_3,chain1) =>
    ck (l.length + 1≤1000000000) <|
    ck (Zaj (x2 + 1)) <|
    some (.inl (at_3,l++[chain1],x2 + 1))
   | .inr _ =>
    some (.inr (.inr ()))
 else
  some (.inr (.inl (at_,l)))

def za (cells:List Za) (d:Int):Option ((List Int) × (List (List Int)) × Bool) :=
 (zt ([(-1)]:List Int) (cells.length:Int)).bind fun x =>
 (Za3 d 2).bind fun x1 =>
 (
  ZV (za.s0 cells d x1) big (x,([]:List (List Int)),0):Option (((List Int) × (List (List Int))) ⊕ Unit)).bind fun o₁=>match o₁ with
 | .inl (at_1,l1) =>
  some (at_1,l1,true)
 | .inr _ =>
  some (([]:List Int),([]:List (List Int)),false)

/-! muntin/seg.Of -/
def Zcg (cells:List Za):Option (Zag × Int) :=
 (zg cells).bind fun x =>
 if !(decide (x = 0)) then
  some ((⟨([]:List Int),([]:List Int),([]:List (List Int)),([]:List (List Int))⟩:Zag),x)
 else
  (za cells 1).bind fun (x1,x2,x3) =>
  (za cells 0).bind fun (x4,x5,x6) =>
  if (!x3) || (!x6) then
   some ((⟨([]:List Int),([]:List Int),([]:List (List Int)),([]:List (List Int))⟩:Zag),10)
  else
   some ((⟨x1,x4,x2,x5⟩:Zag),0)

/-! muntin/sep.lines -/
def Zai.s0 (c:Zag):(List zu) × Int→Option (((List zu) × Int) ⊕ (List zu)):=fun (l,x) =>
 if decide (x < (c.Vert.length:Int)) then
  ck ((0:Int)≤x∧x < (c.Vert.length:Int)) <|
  if decide (1 < ((gi c.Vert x.toNat).length:Int)) then
   ck (l.length + [(⟨true,x⟩:zu)].length≤1000000000) <|
   ck (Zaj (x + 1)) <|
   some (.inl (l++[(⟨true,x⟩:zu)],x + 1))
  else
   ck (Zaj (x + 1)) <|
   some (.inl (l,x + 1))
 else
  some (.inr l)

def Zai.s1 (c:Zag):(List zu) × Int→Option (((List zu) × Int) ⊕ (List zu)):=fun (l2,x1) =>
 if decide (x1 < (c.Horz.length:Int)) then
  ck ((0:Int)≤x1∧x1 < (c.Horz.length:Int)) <|
  if decide (1 < ((gi c.Horz x1.toNat).length:Int)) then
   ck (l2.length + [(⟨false,x1⟩:zu)].length≤1000000000) <|
   ck (Zaj (x1 + 1)) <|
   some (.inl (l2++[(⟨false,x1⟩:zu)],x1 + 1))
  else
   ck (Zaj (x1 + 1)) <|
   some (.inl (l2,x1 + 1))
 else
  some (.inr l2)

def Zai (c:Zag):Option (List zu) :=
 (ZV (Zai.s0 c) big (([]:List zu),0)).bind fun l1 =>
 (ZV (Zai.s1 c) big (l1,0)).bind fun l3 =>
 some l3

/-! muntin/sep.Lines -/
def ZbT (cells:List Za):Option ((List zu) × Int) :=
 (Zcg cells).bind fun (x,x1) =>
 if !(decide (x1 = 0)) then
  some (([]:List zu),x1)
 else
  (Zai x).bind fun x2 =>
  some (x2,0)

/-! muntin/check.span -/
def Zbm (c:Zag) (l:zu) (at_:List Ze):Option Zal :=
 (
  if l.Vertical then
   some c.Vert
  else
   some c.Horz).bind fun of =>
 ck ((0:Int)≤l.Place∧l.Place < (of.length:Int)) <|
 ck ((0:Int)≤0∧0 < ((gi of (l.Place:Int).toNat).length:Int)) <|
 ck ((0:Int)≤(gi (gi of (l.Place:Int).toNat) (0:Int).toNat)∧(gi (gi of (l.Place:Int).toNat) (0:Int).toNat) < (at_.length:Int)) <|
 ck (Zaj (((gi of (l.Place:Int).toNat).length:Int) - 1)) <|
 ck ((0:Int)≤(((gi of (l.Place:Int).toNat).length:Int) - 1)∧(((gi of (l.Place:Int).toNat).length:Int) - 1) < ((gi of (l.Place:Int).toNat).length:Int)) <|
 ck ((0:Int)≤(gi (gi of (l.Place:Int).toNat) (((gi of (l.Place:Int).toNat).length:Int) - 1:Int).toNat)∧(gi (gi of (l.Place:Int).toNat) (((gi of (l.Place:Int).toNat).length:Int) - 1:Int).toNat) < (at_.length:Int)) <|
 some (⟨gi at_ (gi (gi of (l.Place:Int).toNat) (0:Int).toNat:Int).toNat,gi at_ (gi (gi of (l.Place:Int).toNat) (((gi of (l.Place:Int).toNat).length:Int) - 1:Int).toNat:Int).toNat⟩:Zal)

/-! muntin/check.Apart -/
def Zbo (a:Zal) (b:Zal):Option Bool :=
 some ((((decide (a.High.X < b.Low.X)) || (decide (b.High.X < a.Low.X))) || (decide (a.High.Y < b.Low.Y))) || (decide (b.High.Y < a.Low.Y)))

/-! (muntin/seg.Chains).chain -/
def Zay (c:Zag) (vertical:Bool) (i:Int):Option (List Int) :=
 (
  if vertical then
   some c.Vert
  else
   some c.Horz).bind fun l =>
 if (decide (i < 0)) || (decide ((l.length:Int)≤i)) then
  some ([]:List Int)
 else
  ck ((0:Int)≤i∧i < (l.length:Int)) <|
  some (gi l i.toNat)

/-! slices.IndexFunc[[]int,int] -/
def z3.s0 (s:List Int) (f:Int→Option Bool):Int→Option (Int ⊕ (Unit ⊕ Int)):=fun x =>
 if decide (x < (s.length:Int)) then
  ck ((0:Int)≤x∧x < (s.length:Int)) <|
  (f (gi s x.toNat)).bind fun x2 =>
  if x2 then
   some (.inr (.inr x))
  else
   ck (Zaj (x + 1)) <|
   some (.inl (x + 1))
 else
  some (.inr (.inl ()))

def z3 (s:List Int) (f:Int→Option Bool):Option Int :=
 (
  ZV (z3.s0 s f) big 0:Option (Unit ⊕ Int)).bind fun o₁=>match o₁ with
 | .inl _ =>
  some (-1)
 | .inr x1 =>
  some x1

/-! slices.ContainsFunc[[]int,int] -/
def Zac (s:List Int) (f:Int→Option Bool):Option Bool :=
 (z3 s f).bind fun x =>
 some (decide (0≤x))

/-! slices.Index[[]int,int] -/
def zU.s0 (s:List Int) (v:Int):Int→Option (Int ⊕ (Unit ⊕ Int)):=fun x =>
 if decide (x < (s.length:Int)) then
  ck ((0:Int)≤x∧x < (s.length:Int)) <|
  if decide (v = gi s x.toNat) then
   some (.inr (.inr x))
  else
   ck (Zaj (x + 1)) <|
   some (.inl (x + 1))
 else
  some (.inr (.inl ()))

def zU (s:List Int) (v:Int):Option Int :=
 (
  ZV (zU.s0 s v) big 0:Option (Unit ⊕ Int)).bind fun o₁=>match o₁ with
 | .inl _ =>
  some (-1)
 | .inr x1 =>
  some x1

/-! slices.Contains[[]int,int] -/
def ZaA (s:List Int) (v:Int):Option Bool :=
 (zU s v).bind fun x =>
 some (decide (0≤x))

/-! (muntin/seg.Chains).Meet$1 -/
def Zbc (v:Int) (c0:List Int):Option Bool :=
 (ZaA c0 v).bind fun x =>
 some x

/-! (muntin/seg.Chains).Meet -/
def ZaD (c:Zag) (vertical:Bool) (i:Int) (other:Bool) (k_:Int):Option Bool :=
 (Zay c other k_).bind fun x =>
 (Zay c vertical i).bind fun x1 =>
 (Zac x1 (fun y0=>Zbc y0 x)).bind fun x2 =>
 some x2

/-! muntin/check.crossed -/
def zo.s1 (at_:List Ze) (x:Zag) (x2:List zu) (x4:Int) (x5:Zal):Int→Option (Int ⊕ (Unit ⊕ Unit)):=fun x6 =>
 if decide (x6 < ((x2.drop (x4 + 1:Int).toNat).length:Int)) then
  ck ((0:Int)≤x6∧x6 < ((x2.drop (x4 + 1:Int).toNat).length:Int)) <|
  (Zbm x (gi (x2.drop (x4 + 1:Int).toNat) x6.toNat) at_).bind fun x7 =>
  (Zbo x5 x7).bind fun x8 =>
  if !x8 then
   (ZaD x ((gi x2 x4.toNat).Vertical) ((gi x2 x4.toNat).Place) ((gi (x2.drop (x4 + 1:Int).toNat) x6.toNat).Vertical) ((gi (x2.drop (x4 + 1:Int).toNat) x6.toNat).Place)).bind fun x9 =>
   if !x9 then
    some (.inr (.inr ()))
   else
    ck (Zaj (x6 + 1)) <|
    some (.inl (x6 + 1))
  else
   ck (Zaj (x6 + 1)) <|
   some (.inl (x6 + 1))
 else
  some (.inr (.inl ()))

def zo.s0 (at_:List Ze) (x:Zag) (x2:List zu):Int→Option (Int ⊕ (Unit ⊕ Unit)):=fun x4 =>
 if decide (x4 < (x2.length:Int)) then
  ck ((0:Int)≤x4∧x4 < (x2.length:Int)) <|
  (Zbm x (gi x2 x4.toNat) at_).bind fun x5 =>
  ck (Zaj (x4 + 1)) <|
  ck ((0:Int)≤(x4 + 1)∧(x4 + 1)≤(x2.length:Int)) <|
  (
   ZV (zo.s1 at_ x x2 x4 x5) big 0:Option (Unit ⊕ Unit)).bind fun o₃=>match o₃ with
  | .inl _ =>
   some (.inl (x4 + 1))
  | .inr _ =>
   some (.inr (.inr ()))
 else
  some (.inr (.inl ()))

def zo (cells:List Za) (at_:List Ze):Option Bool :=
 (Zcg cells).bind fun (x,x1) =>
 (ZbT cells).bind fun (x2,x3) =>
 (
  ZV (zo.s0 at_ x x2) big 0:Option (Unit ⊕ Unit)).bind fun o₁=>match o₁ with
 | .inl _ =>
  some false
 | .inr _ =>
  some true

/-! muntin/check.Real -/
def Zah (cells:List Za) (at_:List Ze):Option Int :=
 (Zb1 cells).bind fun x =>
 if !(decide (x = 0)) then
  some x
 else
  (z7 cells at_).bind fun (x1,x2) =>
  if !(decide (x2 = 0)) then
   some x2
  else
   (zo cells at_).bind fun x3 =>
   if x3 then
    some 14
   else
    some 0

/-! slices.Clone[[]muntin/api.Point,muntin/api.Point] -/
def ZaQ (s:List Ze):Option (List Ze) :=
 ck (s.length≤1000000000) <|
 some s
/-! muntin/muntinref10.Join -/
def Zbs (l:List Za) (v:Int) (d:Int) (w:Int) (o:Int):Option ((List Za) × Int) :=
 if (((((((decide (v < 0)) || (decide ((l.length:Int)≤v))) || (decide (w < 0))) || (decide ((l.length:Int)≤w))) || (decide (v = w))) || (decide (d < 0))) || (decide (3 < d))) || (decide (o < (-2))) then
  some (l,2)
 else
  ck ((0:Int)≤v∧v < (l.length:Int)) <|
  ck ((0:Int)≤d∧d < 4) <|
  (if !(decide (((gi l v.toNat).Next).get d = (-1))) then
   some true
  else
   ck (Zaj (d + 2)) <|
   ck ((0:Int)≤w∧w < (l.length:Int)) <|
   ck ((0:Int)≤((d + 2).tmod 4)∧((d + 2).tmod 4) < 4) <|
   some (!(decide (((gi l w.toNat).Next).get ((d + 2).tmod 4) = (-1))))).bind fun t =>
  if t then
   some (l,9)
  else
   (zA l v d w o).bind fun x =>
   some (x,0)

/-! muntin/muntinlaw26.wakes -/
def Zbb:Option Bool :=
 (zf 2).bind fun x =>
 (Zbs x 0 0 1 0).bind fun (x1,x2) =>
 (Zah x1 [(⟨(0:Int),(0:Int)⟩:Ze),(⟨4,(0:Int)⟩:Ze)]).bind fun x3 =>
 (if decide (x3 = 0) then
  (Zah x1 [(⟨(0:Int),(0:Int)⟩:Ze),(⟨(0:Int),4⟩:Ze)]).bind fun x4 =>
  some (decide (x4 = 15))
 else
  some false).bind fun t =>
 (if t then
  (Zah x1 ([]:List Ze)).bind fun x5 =>
  some (decide (x5 = 2))
 else
  some false).bind fun t1 =>
 (if t1 then
  (Zbo (⟨(⟨0,0⟩:Ze),(⟨0,0⟩:Ze)⟩:Zal) (⟨(⟨1,(0:Int)⟩:Ze),(⟨1,(0:Int)⟩:Ze)⟩:Zal)).bind fun x6 =>
  some x6
 else
  some false).bind fun t2 =>
 some t2

/-! muntin/muntinref10.Turned -/
def ZX.s1 (l:List Za) (v:Int):Za × Int→Option ((Za × Int) ⊕ Za):=fun (c,d) =>
 if decide (d < 4) then
  ck (Zaj (d + 1)) <|
  ck ((0:Int)≤d∧d < 4) <|
  ck ((0:Int)≤((d + 1).tmod 4)∧((d + 1).tmod 4) < 4) <|
  some (.inl ({ { c with Next:=c.Next.set ((d + 1).tmod 4) (((gi l v.toNat).Next).get d) } with Owner:=(({ c with Next:=c.Next.set ((d + 1).tmod 4) (((gi l v.toNat).Next).get d) }).Owner).set ((d + 1).tmod 4) (((gi l v.toNat).Owner).get d) },d + 1))
 else
  some (.inr c)

def ZX.s0 (l:List Za):(List Za) × Int→Option (((List Za) × Int) ⊕ (List Za)):=fun (out,v) =>
 if decide (v < (l.length:Int)) then
  ck ((0:Int)≤v∧v < (l.length:Int)) <|
  (ZV (ZX.s1 l v) big (gi l v.toNat,0)).bind fun c1 =>
  ck (out.length + [c1].length≤1000000000) <|
  ck (Zaj (v + 1)) <|
  some (.inl (out++[c1],v + 1))
 else
  some (.inr out)

def ZX (l:List Za):Option (List Za) :=
 (ZV (ZX.s0 l) big (([]:List Za),0)).bind fun out1 =>
 some out1

/-! muntin/muntinref10.TurnedAt -/
def z2.s0 (at_:List Ze):(List Ze) × Int→Option (((List Ze) × Int) ⊕ (List Ze)):=fun (out,i) =>
 if decide (i < (at_.length:Int)) then
  ck ((0:Int)≤i∧i < (at_.length:Int)) <|
  ck (Zaj (-((gi at_ i.toNat).Y))) <|
  ck (out.length + [(⟨-((gi at_ i.toNat).Y),(gi at_ i.toNat).X⟩:Ze)].length≤1000000000) <|
  ck (Zaj (i + 1)) <|
  some (.inl (out++[(⟨-((gi at_ i.toNat).Y),(gi at_ i.toNat).X⟩:Ze)],i + 1))
 else
  some (.inr out)

def z2 (at_:List Ze):Option (List Ze) :=
 (ZV (z2.s0 at_) big (([]:List Ze),0)).bind fun out1 =>
 some out1

/-! muntin/muntinlaw26.CheckTurns -/
def ZO.s0 (raw:List Ze) (x1:List Ze):(List Ze) × Int→Option (((List Ze) × Int) ⊕ (List Ze)):=fun (at_,x2) =>
 if decide (x2 < (x1.length:Int)) then
  if decide (x2 < (raw.length:Int)) then
   ck ((0:Int)≤x2∧x2 < (at_.length:Int)) <|
   ck ((0:Int)≤x2∧x2 < (raw.length:Int)) <|
   ck (Zaj (((gi at_ x2.toNat).X) + (((gi raw x2.toNat).X).tmod 4))) <|
   ck ((0:Int)≤x2∧x2 < ((at_.set x2.toNat ({ gi at_ x2.toNat with X:=((gi at_ x2.toNat).X) + (((gi raw x2.toNat).X).tmod 4) })).length:Int)) <|
   ck (Zaj (((gi (at_.set x2.toNat ({ gi at_ x2.toNat with X:=((gi at_ x2.toNat).X) + (((gi raw x2.toNat).X).tmod 4) })) x2.toNat).Y) + (((gi raw x2.toNat).Y).tmod 4))) <|
   ck (Zaj (x2 + 1)) <|
   some (.inl ((at_.set x2.toNat ({ gi at_ x2.toNat with X:=((gi at_ x2.toNat).X) + (((gi raw x2.toNat).X).tmod 4) })).set x2.toNat ({ gi (at_.set x2.toNat ({ gi at_ x2.toNat with X:=((gi at_ x2.toNat).X) + (((gi raw x2.toNat).X).tmod 4) })) x2.toNat with Y:=((gi (at_.set x2.toNat ({ gi at_ x2.toNat with X:=((gi at_ x2.toNat).X) + (((gi raw x2.toNat).X).tmod 4) })) x2.toNat).Y) + (((gi raw x2.toNat).Y).tmod 4) }),x2 + 1))
  else
   ck (Zaj (x2 + 1)) <|
   some (.inl (at_,x2 + 1))
 else
  some (.inr at_)

def ZO.s1 (by_:A3 Int) (x4:List Ze):(List Ze) × Int→Option (((List Ze) × Int) ⊕ (List Ze)):=fun (wide,x5) =>
 if decide (x5 < (x4.length:Int)) then
  ck ((0:Int)≤x5∧x5 < (wide.length:Int)) <|
  ck (Zaj ((1 + (Zp .i8 (by_.get 2) 7)) * ((gi wide x5.toNat).X))) <|
  ck (inK .i64 (by_.get 0)) <|
  ck (Zaj (((1 + (Zp .i8 (by_.get 2) 7)) * ((gi wide x5.toNat).X)) + (by_.get 0))) <|
  ck (Zaj ((1 + (Zp .i8 (by_.get 2) 7)) * ((gi wide x5.toNat).Y))) <|
  ck (inK .i64 (by_.get 1)) <|
  ck (Zaj (((1 + (Zp .i8 (by_.get 2) 7)) * ((gi wide x5.toNat).Y)) + (by_.get 1))) <|
  ck (Zaj (x5 + 1)) <|
  some (.inl (wide.set x5.toNat (⟨((1 + (Zp .i8 (by_.get 2) 7)) * ((gi wide x5.toNat).X)) + (by_.get 0),((1 + (Zp .i8 (by_.get 2) 7)) * ((gi wide x5.toNat).Y)) + (by_.get 1)⟩:Ze),x5 + 1))
 else
  some (.inr wide)

def ZO (z:zj) (raw:List Ze) (by_:A3 Int):Option Bool :=
 (Z9 z 14).bind fun (x,x1) =>
 (ZV (ZO.s0 raw x1) big (x1,0)).bind fun at_1 =>
 (Zah x at_1).bind fun x3 =>
 ck (inK .i64 (Zp .i8 (by_.get 2) 7)) <|
 ck (Zaj (1 + (Zp .i8 (by_.get 2) 7))) <|
 (ZaQ at_1).bind fun x4 =>
 (ZV (ZO.s1 by_ x4) big (x4,0)).bind fun wide1 =>
 (Zbb ).bind fun x6 =>
 (if x6 then
  (Zah x wide1).bind fun x7 =>
  some (decide (x7 = x3))
 else
  some false).bind fun t =>
 (if t then
  (ZX x).bind fun x8 =>
  (z2 at_1).bind fun x9 =>
  (Zah x8 x9).bind fun x10 =>
  some (decide (x10 = x3))
 else
  some false).bind fun t1 =>
 some t1

end Mu
