/- What the functions work out. -/
import Derived.Test.YtdefkboekpjiiaaMuA
import Derived.Test.YtdefkboekpjiiaaMuR
set_option linter.unusedVariables false
set_option linter.unnecessarySimpa false
set_option linter.unusedSimpArgs false
set_option maxHeartbeats 2000000
set_option maxRecDepth 10000
namespace Mu
open Go (IntKind BinOp UnOp)
structure ZY where
 At : List Int
 Bits : List Int
 Own : List Int
 deriving DecidableEq, Inhabited
structure Zg where
 Next : A4 Int
 Owner : A4 Int
 deriving DecidableEq, Inhabited
abbrev Za3 : Enc Int := ⟨1, fun x => [.i .u8 x], fun _ => rfl⟩
theorem Za3.one (x : Int) : (Za3.c x).all V.one = true := rfl
abbrev Za6 : Enc Int := ⟨1, fun x => [.i .i8 x], fun _ => rfl⟩
theorem Za6.one (x : Int) : (Za6.c x).all V.one = true := rfl
abbrev Zb : Enc Zg := ⟨8, fun x => [.i .i64 x.Next.a, .i .i64 x.Next.b, .i .i64 x.Next.c, .i .i64 x.Next.d, .i .i64 x.Owner.a, .i .i64 x.Owner.b, .i .i64 x.Owner.c, .i .i64 x.Owner.d], fun _ => rfl⟩
theorem Zb.one (x : Zg) : (Zb.c x).all V.one = true := rfl
structure Zo where
 X : Int
 Y : Int
 deriving DecidableEq, Inhabited
abbrev Zh : Enc Zo := ⟨2, fun x => [.i .i64 x.X, .i .i64 x.Y], fun _ => rfl⟩
theorem Zh.one (x : Zo) : (Zh.c x).all V.one = true := rfl
theorem Zh.same (x y : Zo) : sameAll [.i, .i] (Zh.c x) (Zh.c y) = some (decide (x = y)) := by
 obtain ⟨x1, x2⟩ := x
 obtain ⟨y1, y2⟩ := y
 refine (sameAll_i (sameAll_i sameAll_nil)).trans ?_
 congr 1
 rw [Bool.eq_iff_iff]
 simp [and_assoc]
abbrev e_bool : Enc Bool := ⟨1, fun x => [.b x], fun _ => rfl⟩
theorem e_bool.one (x : Bool) : (e_bool.c x).all V.one = true := rfl
structure Zj where
 Cell : Int
 Dir : Int
 deriving DecidableEq, Inhabited
abbrev Zc : Enc Zj := ⟨2, fun x => [.i .i64 x.Cell, .i .i64 x.Dir], fun _ => rfl⟩
theorem Zc.one (x : Zj) : (Zc.c x).all V.one = true := rfl
theorem Zc.same (x y : Zj) : sameAll [.i, .i] (Zc.c x) (Zc.c y) = some (decide (x = y)) := by
 obtain ⟨x1, x2⟩ := x
 obtain ⟨y1, y2⟩ := y
 refine (sameAll_i (sameAll_i sameAll_nil)).trans ?_
 congr 1
 rw [Bool.eq_iff_iff]
 simp [and_assoc]
abbrev Zav : Enc (A4 Int) := ⟨4, fun x => [.i .i64 x.a, .i .i64 x.b, .i .i64 x.c, .i .i64 x.d], fun _ => rfl⟩
theorem Zav.one (x : A4 Int) : (Zav.c x).all V.one = true := rfl
structure Zl where
 Cell : Int
 Dir : Int
 deriving DecidableEq, Inhabited
abbrev Ze : Enc Zl := ⟨2, fun x => [.i .i64 x.Cell, .i .i64 x.Dir], fun _ => rfl⟩
theorem Ze.one (x : Zl) : (Ze.c x).all V.one = true := rfl
def Za9 (x : Int) : Prop := Wf .u8 x
def ZaC (x : Int) : Prop := Wf .i8 x
def Za4 (x : Zg) : Prop := Wf .i64 x.Next.a ∧ Wf .i64 x.Next.b ∧ Wf .i64 x.Next.c ∧ Wf .i64 x.Next.d ∧ Wf .i64 x.Owner.a ∧ Wf .i64 x.Owner.b ∧ Wf .i64 x.Owner.c ∧ Wf .i64 x.Owner.d
/-! muntin/muntinref10.New -/
def zg.s1 (v : Int) : (List Zg) × Int → Option (((List Zg) × Int) ⊕ (List Zg)) := fun (l2, d) =>
 if decide (d < 4) then
  ck ((0 : Int) ≤ v ∧ v < (l2.length : Int)) <|
  ck ((0 : Int) ≤ d ∧ d < 4) <|
  ck (in64 (d + 1)) <|
  some (.inl (l2.set (v : Int).toNat ({ gi l2 (v : Int).toNat with Next := ((gi l2 (v : Int).toNat).Next).set d (-1) }), d + 1))
 else
  some (.inr l2)

def zg.s0 (n : Int) : (List Zg) × Int → Option (((List Zg) × Int) ⊕ (List Zg)) := fun (l, v) =>
 if decide (v < n) then
  (loopF (zg.s1 v) big (l, 0)).bind fun l3 =>
  ck (in64 (v + 1)) <|
  some (.inl (l3, v + 1))
 else
  some (.inr l)

def zg (n : Int) : Option (List Zg) :=
 ck ((0 : Int) ≤ n ∧ n ≤ 1000000000) <|
 (loopF (zg.s0 n) big (List.replicate (n : Int).toNat (⟨⟨0, 0, 0, 0⟩, ⟨0, 0, 0, 0⟩⟩ : Zg), 0)).bind fun l1 =>
 some l1

/-! muntin/muntinref10.Nearest -/
def ZG.s0 (at_ : List Zo) (i : Int) (d : Int) : Int × Int → Option ((Int × Int) ⊕ Int) := fun (best, k_) =>
 if decide (k_ < (at_.length : Int)) then
  (if decide (d = 0) then
   ck ((0 : Int) ≤ k_ ∧ k_ < (at_.length : Int)) <|
   ck ((0 : Int) ≤ i ∧ i < (at_.length : Int)) <|
   some (decide ((gi at_ (k_ : Int).toNat).Y = (gi at_ (i : Int).toNat).Y))
  else
   some false).bind fun t =>
  (if t then
   ck ((0 : Int) ≤ k_ ∧ k_ < (at_.length : Int)) <|
   ck ((0 : Int) ≤ i ∧ i < (at_.length : Int)) <|
   some (decide (((gi at_ (i : Int).toNat).X) < ((gi at_ (k_ : Int).toNat).X)))
  else
   some false).bind fun t1 =>
  (if t1 then
   (if decide (best < 0) then
    some true
   else
    ck ((0 : Int) ≤ k_ ∧ k_ < (at_.length : Int)) <|
    ck ((0 : Int) ≤ best ∧ best < (at_.length : Int)) <|
    some (decide (((gi at_ (k_ : Int).toNat).X) < ((gi at_ (best : Int).toNat).X)))).bind fun t3 =>
   some t3
  else
   some false).bind fun t2 =>
  (
   if t2 then
    some k_
   else
    some best).bind fun best2 =>
  (if decide (d = 1) then
   ck ((0 : Int) ≤ k_ ∧ k_ < (at_.length : Int)) <|
   ck ((0 : Int) ≤ i ∧ i < (at_.length : Int)) <|
   some (decide ((gi at_ (k_ : Int).toNat).X = (gi at_ (i : Int).toNat).X))
  else
   some false).bind fun t4 =>
  (if t4 then
   ck ((0 : Int) ≤ k_ ∧ k_ < (at_.length : Int)) <|
   ck ((0 : Int) ≤ i ∧ i < (at_.length : Int)) <|
   some (decide (((gi at_ (i : Int).toNat).Y) < ((gi at_ (k_ : Int).toNat).Y)))
  else
   some false).bind fun t5 =>
  (if t5 then
   (if decide (best2 < 0) then
    some true
   else
    ck ((0 : Int) ≤ k_ ∧ k_ < (at_.length : Int)) <|
    ck ((0 : Int) ≤ best2 ∧ best2 < (at_.length : Int)) <|
    some (decide (((gi at_ (k_ : Int).toNat).Y) < ((gi at_ (best2 : Int).toNat).Y)))).bind fun t7 =>
   some t7
  else
   some false).bind fun t6 =>
  if t6 then
   ck (in64 (k_ + 1)) <|
   some (.inl (k_, k_ + 1))
  else
   ck (in64 (k_ + 1)) <|
   some (.inl (best2, k_ + 1))
 else
  some (.inr best)

def ZG (at_ : List Zo) (i : Int) (d : Int) : Option Int :=
 (loopF (ZG.s0 at_ i d) big ((-1), 0)).bind fun best1 =>
 some best1

/-! muntin/muntinref10.Crossed -/
def ZH.s1 (at_ : List Zo) (l : List Zg) (i : Int) (w : Int) (a : Int) : Int → Option (Int ⊕ (Unit ⊕ Unit)) := fun d =>
 if decide (d < 2) then
  ck ((0 : Int) ≤ a ∧ a < (l.length : Int)) <|
  ck ((0 : Int) ≤ d ∧ d < 4) <|
  if decide ((((gi l (a : Int).toNat).Next).get d) < 0) then
   ck (in64 (d + 1)) <|
   some (.inl (d + 1))
  else
   ck ((0 : Int) ≤ a ∧ a < (at_.length : Int)) <|
   ck ((0 : Int) ≤ (((gi l (a : Int).toNat).Next).get d) ∧ (((gi l (a : Int).toNat).Next).get d) < (at_.length : Int)) <|
   (if decide ((gi at_ (a : Int).toNat).Y = (gi at_ (((gi l (a : Int).toNat).Next).get d : Int).toNat).Y) then
    ck ((0 : Int) ≤ i ∧ i < (at_.length : Int)) <|
    ck ((0 : Int) ≤ w ∧ w < (at_.length : Int)) <|
    some (decide ((gi at_ (i : Int).toNat).X = (gi at_ (w : Int).toNat).X))
   else
    some false).bind fun t =>
   (if t then
    ck ((0 : Int) ≤ i ∧ i < (at_.length : Int)) <|
    some (decide (((gi at_ (a : Int).toNat).X) < ((gi at_ (i : Int).toNat).X)))
   else
    some false).bind fun t1 =>
   (if t1 then
    ck ((0 : Int) ≤ i ∧ i < (at_.length : Int)) <|
    some (decide (((gi at_ (i : Int).toNat).X) < ((gi at_ (((gi l (a : Int).toNat).Next).get d : Int).toNat).X)))
   else
    some false).bind fun t2 =>
   (if t2 then
    ck ((0 : Int) ≤ i ∧ i < (at_.length : Int)) <|
    some (decide (((gi at_ (i : Int).toNat).Y) < ((gi at_ (a : Int).toNat).Y)))
   else
    some false).bind fun t3 =>
   (if t3 then
    ck ((0 : Int) ≤ w ∧ w < (at_.length : Int)) <|
    some (decide (((gi at_ (a : Int).toNat).Y) < ((gi at_ (w : Int).toNat).Y)))
   else
    some false).bind fun t4 =>
   if t4 then
    some (.inr (.inr ()))
   else
    (if decide ((gi at_ (a : Int).toNat).X = (gi at_ (((gi l (a : Int).toNat).Next).get d : Int).toNat).X) then
     ck ((0 : Int) ≤ i ∧ i < (at_.length : Int)) <|
     ck ((0 : Int) ≤ w ∧ w < (at_.length : Int)) <|
     some (decide ((gi at_ (i : Int).toNat).Y = (gi at_ (w : Int).toNat).Y))
    else
     some false).bind fun t5 =>
    (if t5 then
     ck ((0 : Int) ≤ i ∧ i < (at_.length : Int)) <|
     some (decide (((gi at_ (i : Int).toNat).X) < ((gi at_ (a : Int).toNat).X)))
    else
     some false).bind fun t6 =>
    (if t6 then
     ck ((0 : Int) ≤ w ∧ w < (at_.length : Int)) <|
     some (decide (((gi at_ (a : Int).toNat).X) < ((gi at_ (w : Int).toNat).X)))
    else
     some false).bind fun t7 =>
    (if t7 then
     ck ((0 : Int) ≤ i ∧ i < (at_.length : Int)) <|
     some (decide (((gi at_ (a : Int).toNat).Y) < ((gi at_ (i : Int).toNat).Y)))
    else
     some false).bind fun t8 =>
    (if t8 then
     ck ((0 : Int) ≤ i ∧ i < (at_.length : Int)) <|
     some (decide (((gi at_ (i : Int).toNat).Y) < ((gi at_ (((gi l (a : Int).toNat).Next).get d : Int).toNat).Y)))
    else
     some false).bind fun t9 =>
    if t9 then
     some (.inr (.inr ()))
    else
     ck (in64 (d + 1)) <|
     some (.inl (d + 1))
 else
  some (.inr (.inl ()))

def ZH.s0 (at_ : List Zo) (l : List Zg) (i : Int) (w : Int) : Int → Option (Int ⊕ (Unit ⊕ Unit)) := fun a =>
 if decide (a < (l.length : Int)) then
  (
   loopF (ZH.s1 at_ l i w a) big 0 : Option (Unit ⊕ Unit)).bind fun o₃ => match o₃ with
  | .inl _ =>
   ck (in64 (a + 1)) <|
   some (.inl (a + 1))
  | .inr _ =>
   some (.inr (.inr ()))
 else
  some (.inr (.inl ()))

def ZH (at_ : List Zo) (l : List Zg) (i : Int) (w : Int) : Option Bool :=
 (
  loopF (ZH.s0 at_ l i w) big 0 : Option (Unit ⊕ Unit)).bind fun o₁ => match o₁ with
 | .inl _ =>
  some false
 | .inr _ =>
  some true

/-! muntin/muntinref10.with -/
def z5.s0 (l : List Zg) (v : Int) (d : Int) (w : Int) (o : Int) : (List Zg) × Int → Option (((List Zg) × Int) ⊕ (List Zg)) := fun (out, i) =>
 if decide (i < (l.length : Int)) then
  ck ((0 : Int) ≤ i ∧ i < (l.length : Int)) <|
  (
   if decide (i = v) then
    ck ((0 : Int) ≤ d ∧ d < 4) <|
    some ({ { gi l (i : Int).toNat with Next := ((gi l (i : Int).toNat).Next).set d w } with Owner := (({ gi l (i : Int).toNat with Next := ((gi l (i : Int).toNat).Next).set d w }).Owner).set d o })
   else
    some (gi l (i : Int).toNat)).bind fun c =>
  if decide (i = w) then
   ck (in64 (d + 2)) <|
   ck ((0 : Int) ≤ ((d + 2).tmod 4) ∧ ((d + 2).tmod 4) < 4) <|
   ck (out.length + [{ { c with Next := c.Next.set ((d + 2).tmod 4) v } with Owner := (({ c with Next := c.Next.set ((d + 2).tmod 4) v }).Owner).set ((d + 2).tmod 4) o }].length ≤ 1000000000) <|
   ck (in64 (i + 1)) <|
   some (.inl (out ++ [{ { c with Next := c.Next.set ((d + 2).tmod 4) v } with Owner := (({ c with Next := c.Next.set ((d + 2).tmod 4) v }).Owner).set ((d + 2).tmod 4) o }], i + 1))
  else
   ck (out.length + [c].length ≤ 1000000000) <|
   ck (in64 (i + 1)) <|
   some (.inl (out ++ [c], i + 1))
 else
  some (.inr out)

def z5 (l : List Zg) (v : Int) (d : Int) (w : Int) (o : Int) : Option (List Zg) :=
 (loopF (z5.s0 l v d w o) big (([] : List Zg), 0)).bind fun out1 =>
 some out1

/-! muntin/muntinref10.Make -/
def Z5.s1 (z : ZY) (at_ : List Zo) (i : Int) : Bool × Int → Option ((Bool × Int) ⊕ ((List Zo) × Bool)) := fun (met, k_) =>
 if decide (k_ < (at_.length : Int)) then
  (if met then
   some true
  else
   ck ((0 : Int) ≤ k_ ∧ k_ < (at_.length : Int)) <|
   some (decide (gi at_ (k_ : Int).toNat = (⟨(gi z.At (i : Int).toNat).tmod 8, ((gi z.At (i : Int).toNat).tdiv 8).tmod 8⟩ : Zo)))).bind fun t =>
  ck (in64 (k_ + 1)) <|
  some (.inl (t, k_ + 1))
 else
  some (.inr (at_, met))

def Z5.s0 (z : ZY) (most : Int) : (List Zo) × Int → Option (((List Zo) × Int) ⊕ (List Zo)) := fun (at_, i) =>
 if (decide (i < (z.At.length : Int))) && (decide ((at_.length : Int) < most)) then
  ck ((0 : Int) ≤ i ∧ i < (z.At.length : Int)) <|
  ck (inK .i64 (gi z.At (i : Int).toNat)) <|
  ck ((8 : Int) ≠ 0 ∧ in64 ((gi z.At (i : Int).toNat).tdiv 8)) <|
  (loopF (Z5.s1 z at_ i) big (false, 0)).bind fun (at_2, met1) =>
  if !met1 then
   ck (at_2.length + [(⟨(gi z.At (i : Int).toNat).tmod 8, ((gi z.At (i : Int).toNat).tdiv 8).tmod 8⟩ : Zo)].length ≤ 1000000000) <|
   ck (in64 (i + 1)) <|
   some (.inl (at_2 ++ [(⟨(gi z.At (i : Int).toNat).tmod 8, ((gi z.At (i : Int).toNat).tdiv 8).tmod 8⟩ : Zo)], i + 1))
  else
   ck (in64 (i + 1)) <|
   some (.inl (at_2, i + 1))
 else
  some (.inr at_)

def Z5.s3 (i1 : Int) (bits : Int) (at_6 : List Zo) (own : Int) : (List Zg) × Int → Option (((List Zg) × Int) ⊕ (List Zg)) := fun (l4, d) =>
 if decide (d < 2) then
  (ZG at_6 i1 d).bind fun x1 =>
  ck ((0 : Int) ≤ d) <|
  if (decide (ari_and .u8 (sh_shr .u8 bits d) 1 = 0)) || (decide (x1 < 0)) then
   ck (in64 (d + 1)) <|
   some (.inl (l4, d + 1))
  else
   (ZH at_6 l4 i1 x1).bind fun x2 =>
   if !x2 then
    (z5 l4 i1 d x1 own).bind fun x3 =>
    ck (in64 (d + 1)) <|
    some (.inl (x3, d + 1))
   else
    ck (in64 (d + 1)) <|
    some (.inl (l4, d + 1))
 else
  some (.inr l4)

def Z5.s2 (z : ZY) : (List Zo) × (List Zg) × Int → Option (((List Zo) × (List Zg) × Int) ⊕ ((List Zo) × (List Zg))) := fun (at_3, l, i1) =>
 if decide (i1 < (at_3.length : Int)) then
  (
   if decide (i1 < (z.Bits.length : Int)) then
    ck ((0 : Int) ≤ i1 ∧ i1 < (z.Bits.length : Int)) <|
    some (at_3, l, gi z.Bits (i1 : Int).toNat)
   else
    some (at_3, l, 3)).bind fun (at_5, l2, bits) =>
  (
   if decide (i1 < (z.Own.length : Int)) then
    ck ((0 : Int) ≤ i1 ∧ i1 < (z.Own.length : Int)) <|
    ck (inK .i64 (gi z.Own (i1 : Int).toNat)) <|
    if decide ((gi z.Own (i1 : Int).toNat) < (-2)) then
     ck (in64 (-(gi z.Own (i1 : Int).toNat))) <|
     some (at_5, l2, -(gi z.Own (i1 : Int).toNat))
    else
     some (at_5, l2, gi z.Own (i1 : Int).toNat)
   else
    some (at_5, l2, i1)).bind fun (at_6, l3, own) =>
  (loopF (Z5.s3 i1 bits at_6 own) big (l3, 0)).bind fun l5 =>
  ck (in64 (i1 + 1)) <|
  some (.inl (at_6, l5, i1 + 1))
 else
  some (.inr (at_3, l))

def Z5 (z : ZY) (most : Int) : Option ((List Zg) × (List Zo)) :=
 (loopF (Z5.s0 z most) big (([] : List Zo), 0)).bind fun at_1 =>
 (zg (at_1.length : Int)).bind fun x =>
 (loopF (Z5.s2 z) big (at_1, x, 0)).bind fun (at_4, l1) =>
 some (l1, at_4)

/-! muntin/compass.Good -/
def zM (d : Int) : Option Bool :=
 some ((decide (0 ≤ d)) && (decide (d ≤ 3)))

/-! muntin/compass.Left -/
def zQ (d : Int) (times : Int) : Option Int :=
 (zM d).bind fun x =>
 if !x then
  some 0
 else
  ck (in64 (d + (times.tmod 4))) <|
  ck (in64 ((d + (times.tmod 4)) + 4)) <|
  some (((d + (times.tmod 4)) + 4).tmod 4)

/-! muntin/grid.side -/
def Zaw (cells : List Zg) (v : Int) (d : Int) : Option Int :=
 ck ((0 : Int) ≤ v ∧ v < (cells.length : Int)) <|
 ck ((0 : Int) ≤ d ∧ d < 4) <|
 if decide (((gi cells (v : Int).toNat).Next).get d = (-1)) then
  if !(decide (((gi cells (v : Int).toNat).Owner).get d = 0)) then
   some 9
  else
   some 0
 else
  if ((decide ((((gi cells (v : Int).toNat).Next).get d) < 0)) || (decide ((cells.length : Int) ≤ (((gi cells (v : Int).toNat).Next).get d)))) || (decide (((gi cells (v : Int).toNat).Next).get d = v)) then
   some 3
  else
   (zQ d 2).bind fun x =>
   ck ((0 : Int) ≤ (((gi cells (v : Int).toNat).Next).get d) ∧ (((gi cells (v : Int).toNat).Next).get d) < (cells.length : Int)) <|
   ck ((0 : Int) ≤ x ∧ x < 4) <|
   if ((!(decide (((gi cells (((gi cells (v : Int).toNat).Next).get d : Int).toNat).Next).get x = v))) || (!(decide (((gi cells (((gi cells (v : Int).toNat).Next).get d : Int).toNat).Owner).get x = ((gi cells (v : Int).toNat).Owner).get d)))) || (decide ((((gi cells (v : Int).toNat).Owner).get d) < (-2))) then
    some 9
   else
    some 0

/-! muntin/grid.Check -/
def zk.s1 (cells : List Zg) (x : Int) : Int → Option (Int ⊕ (Unit ⊕ Int)) := fun x2 =>
 if decide (x2 < 4) then
  (Zaw cells x x2).bind fun x4 =>
  if !(decide (x4 = 0)) then
   some (.inr (.inr x4))
  else
   ck (in64 (x2 + 1)) <|
   some (.inl (x2 + 1))
 else
  some (.inr (.inl ()))

def zk.s0 (cells : List Zg) : Int → Option (Int ⊕ (Unit ⊕ Int)) := fun x =>
 if decide (x < (cells.length : Int)) then
  (
   loopF (zk.s1 cells x) big 0 : Option (Unit ⊕ Int)).bind fun o₃ => match o₃ with
  | .inl _ =>
   ck (in64 (x + 1)) <|
   some (.inl (x + 1))
  | .inr x3 =>
   some (.inr (.inr x3))
 else
  some (.inr (.inl ()))

def zk (cells : List Zg) : Option Int :=
 if decide (4096 < (cells.length : Int)) then
  some 6
 else
  (
   loopF (zk.s0 cells) big 0 : Option (Unit ⊕ Int)).bind fun o₁ => match o₁ with
  | .inl _ =>
   some 0
  | .inr x1 =>
   some x1

/-! math/bits.Mul64 -/
def Za0 (x : Int) (y : Int) : Option (Int × Int) :=
 some (ari_add .u64 (ari_add .u64 (ari_mul .u64 (sh_shr .u64 x 32) (sh_shr .u64 y 32)) (sh_shr .u64 (ari_add .u64 (ari_mul .u64 (sh_shr .u64 x 32) (ari_and .u64 y 4294967295)) (sh_shr .u64 (ari_mul .u64 (ari_and .u64 x 4294967295) (ari_and .u64 y 4294967295)) 32)) 32)) (sh_shr .u64 (ari_add .u64 (ari_and .u64 (ari_add .u64 (ari_mul .u64 (sh_shr .u64 x 32) (ari_and .u64 y 4294967295)) (sh_shr .u64 (ari_mul .u64 (ari_and .u64 x 4294967295) (ari_and .u64 y 4294967295)) 32)) 4294967295) (ari_mul .u64 (ari_and .u64 x 4294967295) (sh_shr .u64 y 32))) 32), ari_mul .u64 x y)

/-! math/bits.Mul -/
def Za2 (x : Int) (y : Int) : Option (Int × Int) :=
 (Za0 x y).bind fun (x1, x2) =>
 some (x1, x2)

/-! slices.Repeat[[]int,int] -/
def zy.s0 : (List Int) × Int → Option (((List Int) × Int) ⊕ (List Int)) := fun (newslice, n) =>
 if decide (n < (newslice.length : Int)) then
  ck ((0 : Int) ≤ n ∧ n ≤ (newslice.length : Int)) <|
  ck (in64 (n + ((min (newslice.take (n : Int).toNat).length (newslice.drop (n : Int).toNat).length : Nat) : Int))) <|
  some (.inl (newslice.take (n : Int).toNat ++ ((newslice.take (n : Int).toNat).take (newslice.drop (n : Int).toNat).length ++ (newslice.drop (n : Int).toNat).drop (newslice.take (n : Int).toNat).length), n + ((min (newslice.take (n : Int).toNat).length (newslice.drop (n : Int).toNat).length : Nat) : Int)))
 else
  some (.inr newslice)

def zy (x : List Int) (count : Int) : Option (List Int) :=
 (
  if decide (count < 0) then
   none
  else
   some ()).bind fun _ =>
 ck (inK .u64 (x.length : Int)) <|
 ck (inK .u64 count) <|
 (Za2 (x.length : Int) count).bind fun (x1, x2) =>
 (
  if (decide (0 < x1)) || (decide (9223372036854775807 < x2)) then
   none
  else
   some ()).bind fun _ =>
 ck (inK .i64 x2) <|
 ck ((0 : Int) ≤ x2 ∧ x2 ≤ 1000000000) <|
 (loopF zy.s0 big (x.take (List.replicate (x2 : Int).toNat (0 : Int)).length ++ (List.replicate (x2 : Int).toNat (0 : Int)).drop x.length, ((min x.length (List.replicate (x2 : Int).toNat (0 : Int)).length : Nat) : Int))).bind fun newslice1 =>
 some newslice1

/-! muntin/join.spread -/
def z3.s1 (cells : List Zg) (l : List Int) : (List Int) × (List Int) × (List Int) × (List Bool) × Int → Option (((List Int) × (List Int) × (List Int) × (List Bool) × Int) ⊕ ((List Int) × (List Int) × (List Int) × (List Bool))) := fun (from_2, dir2, l1, met1, x2) =>
 if decide (x2 < 4) then
  ck ((0 : Int) ≤ (gi l (0 : Int).toNat) ∧ (gi l (0 : Int).toNat) < (cells.length : Int)) <|
  ck ((0 : Int) ≤ x2 ∧ x2 < 4) <|
  (if decide (0 ≤ (((gi cells (gi l (0 : Int).toNat : Int).toNat).Next).get x2)) then
   ck ((0 : Int) ≤ (((gi cells (gi l (0 : Int).toNat : Int).toNat).Next).get x2) ∧ (((gi cells (gi l (0 : Int).toNat : Int).toNat).Next).get x2) < (met1.length : Int)) <|
   some (!(gi met1 (((gi cells (gi l (0 : Int).toNat : Int).toNat).Next).get x2 : Int).toNat))
  else
   some false).bind fun t =>
  if t then
   ck ((0 : Int) ≤ (((gi cells (gi l (0 : Int).toNat : Int).toNat).Next).get x2) ∧ (((gi cells (gi l (0 : Int).toNat : Int).toNat).Next).get x2) < (met1.length : Int)) <|
   ck ((0 : Int) ≤ (((gi cells (gi l (0 : Int).toNat : Int).toNat).Next).get x2) ∧ (((gi cells (gi l (0 : Int).toNat : Int).toNat).Next).get x2) < (from_2.length : Int)) <|
   ck ((0 : Int) ≤ (((gi cells (gi l (0 : Int).toNat : Int).toNat).Next).get x2) ∧ (((gi cells (gi l (0 : Int).toNat : Int).toNat).Next).get x2) < (dir2.length : Int)) <|
   ck (l1.length + [((gi cells (gi l (0 : Int).toNat : Int).toNat).Next).get x2].length ≤ 1000000000) <|
   ck (in64 (x2 + 1)) <|
   some (.inl (from_2.set (((gi cells (gi l (0 : Int).toNat : Int).toNat).Next).get x2 : Int).toNat (gi l (0 : Int).toNat), dir2.set (((gi cells (gi l (0 : Int).toNat : Int).toNat).Next).get x2 : Int).toNat x2, l1 ++ [((gi cells (gi l (0 : Int).toNat : Int).toNat).Next).get x2], met1.set (((gi cells (gi l (0 : Int).toNat : Int).toNat).Next).get x2 : Int).toNat true, x2 + 1))
  else
   ck (in64 (x2 + 1)) <|
   some (.inl (from_2, dir2, l1, met1, x2 + 1))
 else
  some (.inr (from_2, dir2, l1, met1))

def z3.s0 (cells : List Zg) : (List Int) × (List Int) × (List Int) × (List Bool) → Option (((List Int) × (List Int) × (List Int) × (List Bool)) ⊕ ((List Int) × (List Int))) := fun (from_, dir, l, met) =>
 if decide (0 < (l.length : Int)) then
  ck ((0 : Int) ≤ 0 ∧ 0 < (l.length : Int)) <|
  ck ((0 : Int) ≤ 1 ∧ 1 ≤ (l.length : Int)) <|
  (loopF (z3.s1 cells l) big (from_, dir, l.drop (1 : Int).toNat, met, 0)).bind fun (from_3, dir3, l2, met2) =>
  some (.inl (from_3, dir3, l2, met2))
 else
  some (.inr (from_, dir))

def z3 (cells : List Zg) (v : Int) : Option ((List Int) × (List Int)) :=
 (zy ([(-1)] : List Int) (cells.length : Int)).bind fun x =>
 (zy ([(-1)] : List Int) (cells.length : Int)).bind fun x1 =>
 ck ((0 : Int) ≤ (cells.length : Int) ∧ (cells.length : Int) ≤ 1000000000) <|
 ck ((0 : Int) ≤ v ∧ v < ((List.replicate ((cells.length : Int) : Int).toNat false).length : Int)) <|
 (loopF (z3.s0 cells) big (x, x1, [v], (List.replicate ((cells.length : Int) : Int).toNat false).set (v : Int).toNat true)).bind fun (from_1, dir1) =>
 some (from_1, dir1)

/-! muntin/join.Parts -/
def z6.s1 (cells : List Zg) (x1 : Int) (x3 : List Int) : (List Bool) × (List Int) × Int → Option (((List Bool) × (List Int) × Int) ⊕ ((List Bool) × (List Int))) := fun (met1, part, x4) =>
 if decide (x4 < (cells.length : Int)) then
  (if decide (x4 = x1) then
   some true
  else
   ck ((0 : Int) ≤ x4 ∧ x4 < (x3.length : Int)) <|
   some (decide (0 ≤ (gi x3 (x4 : Int).toNat)))).bind fun t =>
  if t then
   ck ((0 : Int) ≤ x4 ∧ x4 < (met1.length : Int)) <|
   ck (part.length + [x4].length ≤ 1000000000) <|
   ck (in64 (x4 + 1)) <|
   some (.inl (met1.set (x4 : Int).toNat true, part ++ [x4], x4 + 1))
  else
   ck (in64 (x4 + 1)) <|
   some (.inl (met1, part, x4 + 1))
 else
  some (.inr (met1, part))

def z6.s0 (cells : List Zg) : (List (List Int)) × (List Bool) × Int → Option (((List (List Int)) × (List Bool) × Int) ⊕ (List (List Int))) := fun (l, met, x1) =>
 if decide (x1 < (cells.length : Int)) then
  ck ((0 : Int) ≤ x1 ∧ x1 < (met.length : Int)) <|
  if gi met (x1 : Int).toNat then
   ck (in64 (x1 + 1)) <|
   some (.inl (l, met, x1 + 1))
  else
   (z3 cells x1).bind fun (x2, x3) =>
   (loopF (z6.s1 cells x1 x3) big (met, [], 0)).bind fun (met2, part1) =>
   ck (l.length + 1 ≤ 1000000000) <|
   ck (in64 (x1 + 1)) <|
   some (.inl (l ++ [part1], met2, x1 + 1))
 else
  some (.inr l)

def z6 (cells : List Zg) : Option ((List (List Int)) × Int) :=
 (zk cells).bind fun x =>
 if !(decide (x = 0)) then
  some (([] : List (List Int)), x)
 else
  ck ((0 : Int) ≤ (cells.length : Int) ∧ (cells.length : Int) ≤ 1000000000) <|
  (loopF (z6.s0 cells) big (([] : List (List Int)), List.replicate ((cells.length : Int) : Int).toNat false, 0)).bind fun l1 =>
  some (l1, 0)

/-! muntin/join.Whole -/
def Zat (cells : List Zg) : Option Bool :=
 (z6 cells).bind fun (x, x1) =>
 some ((decide (x1 = 0)) && (decide ((x.length : Int) = 1)))

/-! (muntin/face.Dart).is -/
def zN (d : Zj) (cells : List Zg) : Option Bool :=
 if decide (0 ≤ d.Cell) then
  if decide (d.Cell < (cells.length : Int)) then
   (zM d.Dir).bind fun x =>
   if x then
    ck ((0 : Int) ≤ d.Cell ∧ d.Cell < (cells.length : Int)) <|
    ck ((0 : Int) ≤ d.Dir ∧ d.Dir < 4) <|
    some (decide (0 ≤ (((gi cells (d.Cell : Int).toNat).Next).get d.Dir)))
   else
    some false
  else
   some false
 else
  some false

/-! (muntin/face.Dart).behind -/
def zo.s0 (d : Zj) (cells : List Zg) : Int → Option (Int ⊕ (Unit ⊕ Zj)) := fun x =>
 if decide (x < 4) then
  ck ((0 : Int) ≤ x ∧ x < 4) <|
  (zQ d.Dir ((⟨1, 0, (-1), 2⟩ : A4 Int).get x)).bind fun x2 =>
  (zN (⟨((gi cells (d.Cell : Int).toNat).Next).get d.Dir, x2⟩ : Zj) cells).bind fun x3 =>
  if x3 then
   some (.inr (.inr (⟨((gi cells (d.Cell : Int).toNat).Next).get d.Dir, x2⟩ : Zj)))
  else
   ck (in64 (x + 1)) <|
   some (.inl (x + 1))
 else
  some (.inr (.inl ()))

def zo (d : Zj) (cells : List Zg) : Option Zj :=
 ck ((0 : Int) ≤ d.Cell ∧ d.Cell < (cells.length : Int)) <|
 ck ((0 : Int) ≤ d.Dir ∧ d.Dir < 4) <|
 (
  loopF (zo.s0 d cells) big 0 : Option (Unit ⊕ Zj)).bind fun o₁ => match o₁ with
 | .inl _ =>
  some d
 | .inr x1 =>
  some x1

/-! muntin/face.Faces -/
def zm.s2 (cells : List Zg) : (List (Zj × Bool)) × (List Zj) × Zj → Option (((List (Zj × Bool)) × (List Zj) × Zj) ⊕ ((List (Zj × Bool)) × (List Zj))) := fun (met3, f, x4) =>
 if !(mpGet false x4 met3) then
  ck (f.length + [x4].length ≤ 1000000000) <|
  (zo x4 cells).bind fun x5 =>
  some (.inl (mpSet x4 true met3, f ++ [x4], x5))
 else
  some (.inr (met3, f))

def zm.s1 (cells : List Zg) (x1 : Int) : (List (List Zj)) × (List (Zj × Bool)) × Int → Option (((List (List Zj)) × (List (Zj × Bool)) × Int) ⊕ ((List (List Zj)) × (List (Zj × Bool)))) := fun (l2, met1, x2) =>
 if decide (x2 < 4) then
  (zN (⟨x1, x2⟩ : Zj) cells).bind fun x3 =>
  if (!x3) || (mpGet false (⟨x1, x2⟩ : Zj) met1) then
   ck (in64 (x2 + 1)) <|
   some (.inl (l2, met1, x2 + 1))
  else
   (loopF (zm.s2 cells) big (met1, ([] : List Zj), (⟨x1, x2⟩ : Zj))).bind fun (met4, f1) =>
   ck (l2.length + 1 ≤ 1000000000) <|
   ck (in64 (x2 + 1)) <|
   some (.inl (l2 ++ [f1], met4, x2 + 1))
 else
  some (.inr (l2, met1))

def zm.s0 (cells : List Zg) : (List (List Zj)) × (List (Zj × Bool)) × Int → Option (((List (List Zj)) × (List (Zj × Bool)) × Int) ⊕ (List (List Zj))) := fun (l, met, x1) =>
 if decide (x1 < (cells.length : Int)) then
  (loopF (zm.s1 cells x1) big (l, met, 0)).bind fun (l3, met2) =>
  ck (in64 (x1 + 1)) <|
  some (.inl (l3, met2, x1 + 1))
 else
  some (.inr l)

def zm (cells : List Zg) : Option ((List (List Zj)) × Int) :=
 (zk cells).bind fun x =>
 if !(decide (x = 0)) then
  some (([] : List (List Zj)), x)
 else
  (loopF (zm.s0 cells) big (([] : List (List Zj)), ([] : List (Zj × Bool)), 0)).bind fun l1 =>
  some (l1, 0)

/-! muntin/compass.Turn -/
def Zaj (d : Int) (e_ : Int) : Option Int :=
 (zM d).bind fun x =>
 (if !x then
  some true
 else
  (zM e_).bind fun x1 =>
  some (!x1)).bind fun t =>
 if t then
  some 0
 else
  ck (in64 (e_ - d)) <|
  ck (in64 ((e_ - d) + 4)) <|
  ck ((0 : Int) ≤ (((e_ - d) + 4).tmod 4) ∧ (((e_ - d) + 4).tmod 4) < 4) <|
  some ((⟨0, 1, (-2), (-1)⟩ : A4 Int).get (((e_ - d) + 4).tmod 4))

/-! muntin/face.Turns -/
def zK.s0 (cells : List Zg) (f : List Zj) : (List Int) × Int → Option (((List Int) × Int) ⊕ (List Int)) := fun (l, x1) =>
 if decide (x1 < (f.length : Int)) then
  ck ((0 : Int) ≤ x1 ∧ x1 < (f.length : Int)) <|
  (zN (gi f (x1 : Int).toNat) cells).bind fun x2 =>
  if x2 then
   (zo (gi f (x1 : Int).toNat) cells).bind fun x3 =>
   (Zaj ((gi f (x1 : Int).toNat).Dir) x3.Dir).bind fun x4 =>
   ck ((0 : Int) ≤ x1 ∧ x1 < (l.length : Int)) <|
   ck (in64 (x1 + 1)) <|
   some (.inl (l.set (x1 : Int).toNat x4, x1 + 1))
  else
   ck (in64 (x1 + 1)) <|
   some (.inl (l, x1 + 1))
 else
  some (.inr l)

def zK (cells : List Zg) (f : List Zj) : Option (List Int) :=
 ck ((0 : Int) ≤ (f.length : Int) ∧ (f.length : Int) ≤ 1000000000) <|
 (zk cells).bind fun x =>
 if !(decide (x = 0)) then
  some (List.replicate ((f.length : Int) : Int).toNat (0 : Int))
 else
  (loopF (zK.s0 cells f) big (List.replicate ((f.length : Int) : Int).toNat (0 : Int), 0)).bind fun l1 =>
  some l1

/-! muntin/face.Rotation -/
def zD.s0 (turns : List Int) : Int × Int → Option ((Int × Int) ⊕ Int) := fun (n, x) =>
 if decide (x < (turns.length : Int)) then
  ck ((0 : Int) ≤ x ∧ x < (turns.length : Int)) <|
  if (decide ((-2) ≤ (gi turns (x : Int).toNat))) && (decide ((gi turns (x : Int).toNat) ≤ 1)) then
   ck (in64 (n + (gi turns (x : Int).toNat))) <|
   ck (in64 (x + 1)) <|
   some (.inl (n + (gi turns (x : Int).toNat), x + 1))
  else
   ck (in64 (x + 1)) <|
   some (.inl (n, x + 1))
 else
  some (.inr n)

def zD (turns : List Int) : Option Int :=
 (loopF (zD.s0 turns) big (0, 0)).bind fun n1 =>
 some n1

/-! muntin/valid.outer -/
def zA.s0 (cells : List Zg) (x : List (List Zj)) : Int × Int → Option ((Int × Int) ⊕ (Int ⊕ Unit)) := fun (at_, x2) =>
 if decide (x2 < (x.length : Int)) then
  ck ((0 : Int) ≤ x2 ∧ x2 < (x.length : Int)) <|
  (zK cells (gi x (x2 : Int).toNat)).bind fun x3 =>
  (zD x3).bind fun x4 =>
  if decide (x4 = 4) then
   ck (in64 (x2 + 1)) <|
   some (.inl (at_, x2 + 1))
  else
   if decide (x4 = (-4)) then
    if decide (0 ≤ at_) then
     some (.inr (.inr ()))
    else
     ck (in64 (x2 + 1)) <|
     some (.inl (x2, x2 + 1))
   else
    some (.inr (.inr ()))
 else
  some (.inr (.inl at_))

def zA (cells : List Zg) : Option (Int × Bool) :=
 (zm cells).bind fun (x, x1) =>
 (
  loopF (zA.s0 cells x) big ((-1), 0) : Option (Int ⊕ Unit)).bind fun o₁ => match o₁ with
 | .inl at_1 =>
  some (at_1, decide (0 ≤ at_1))
 | .inr _ =>
  some (0, false)

/-! muntin/valid.Check -/
def Zao (cells : List Zg) : Option Int :=
 (zk cells).bind fun x =>
 if !(decide (x = 0)) then
  some x
 else
  (Zat cells).bind fun x1 =>
  if !x1 then
   some 13
  else
   (zA cells).bind fun (x2, x3) =>
   if (!x3) && (decide (1 < (cells.length : Int))) then
    some 10
   else
    some 0

/-! muntin/valid.Outer -/
def Zap (cells : List Zg) : Option (Int × Int) :=
 (Zao cells).bind fun x =>
 if !(decide (x = 0)) then
  some (0, x)
 else
  (zA cells).bind fun (x1, x2) =>
  if !x2 then
   some (0, 2)
  else
   some (x1, 0)

/-! slices.IndexFunc[[]int,int] -/
def ZX.s0 (s : List Int) (f : Int → Option Bool) : Int → Option (Int ⊕ (Unit ⊕ Int)) := fun x =>
 if decide (x < (s.length : Int)) then
  ck ((0 : Int) ≤ x ∧ x < (s.length : Int)) <|
  (f (gi s (x : Int).toNat)).bind fun x2 =>
  if x2 then
   some (.inr (.inr x))
  else
   ck (in64 (x + 1)) <|
   some (.inl (x + 1))
 else
  some (.inr (.inl ()))

def ZX (s : List Int) (f : Int → Option Bool) : Option Int :=
 (
  loopF (ZX.s0 s f) big 0 : Option (Unit ⊕ Int)).bind fun o₁ => match o₁ with
 | .inl _ =>
  some (-1)
 | .inr x1 =>
  some x1

/-! muntin/front.First$1 -/
def Zae (t : Int) : Option Bool :=
 some (decide (t < 0))

/-! muntin/front.First -/
def zG.s0 (cells : List Zg) (x : Int) (x2 : List (List Zj)) : Int → Option (Int ⊕ (Unit ⊕ (Int × Int))) := fun x4 =>
 if decide (x4 < (x2.length : Int)) then
  ck ((0 : Int) ≤ x4 ∧ x4 < (x2.length : Int)) <|
  (zK cells (gi x2 (x4 : Int).toNat)).bind fun x7 =>
  (ZX x7 (fun y0 => Zae y0)).bind fun x8 =>
  if (!(decide (x4 = x))) && (decide (0 ≤ x8)) then
   some (.inr (.inr (x4, x8)))
  else
   ck (in64 (x4 + 1)) <|
   some (.inl (x4 + 1))
 else
  some (.inr (.inl ()))

def zG (cells : List Zg) : Option (Int × Int × Bool) :=
 (Zap cells).bind fun (x, x1) =>
 if !(decide (x1 = 0)) then
  some (0, 0, false)
 else
  (zm cells).bind fun (x2, x3) =>
  (
   loopF (zG.s0 cells x x2) big 0 : Option (Unit ⊕ (Int × Int))).bind fun o₁ => match o₁ with
  | .inl _ =>
   some (0, 0, false)
  | .inr (x5, x6) =>
   some (x5, x6, true)

/-! muntin/muntinref10.Check -/
def ZR.s1 (l : List Zg) (v : Int) : Int → Option (Int ⊕ (Unit ⊕ Int)) := fun d =>
 if decide (d < 4) then
  ck ((0 : Int) ≤ v ∧ v < (l.length : Int)) <|
  ck ((0 : Int) ≤ d ∧ d < 4) <|
  if decide (((gi l (v : Int).toNat).Next).get d = (-1)) then
   if !(decide (((gi l (v : Int).toNat).Owner).get d = 0)) then
    some (.inr (.inr 9))
   else
    ck (in64 (d + 1)) <|
    some (.inl (d + 1))
  else
   if ((decide ((((gi l (v : Int).toNat).Next).get d) < 0)) || (decide ((l.length : Int) ≤ (((gi l (v : Int).toNat).Next).get d)))) || (decide (((gi l (v : Int).toNat).Next).get d = v)) then
    some (.inr (.inr 3))
   else
    ck (in64 (d + 2)) <|
    ck ((0 : Int) ≤ (((gi l (v : Int).toNat).Next).get d) ∧ (((gi l (v : Int).toNat).Next).get d) < (l.length : Int)) <|
    ck ((0 : Int) ≤ ((d + 2).tmod 4) ∧ ((d + 2).tmod 4) < 4) <|
    if ((!(decide (((gi l (((gi l (v : Int).toNat).Next).get d : Int).toNat).Next).get ((d + 2).tmod 4) = v))) || (!(decide (((gi l (((gi l (v : Int).toNat).Next).get d : Int).toNat).Owner).get ((d + 2).tmod 4) = ((gi l (v : Int).toNat).Owner).get d)))) || (decide ((((gi l (v : Int).toNat).Owner).get d) < (-2))) then
     some (.inr (.inr 9))
    else
     ck (in64 (d + 1)) <|
     some (.inl (d + 1))
 else
  some (.inr (.inl ()))

def ZR.s0 (l : List Zg) : Int → Option (Int ⊕ (Unit ⊕ Int)) := fun v =>
 if decide (v < (l.length : Int)) then
  (
   loopF (ZR.s1 l v) big 0 : Option (Unit ⊕ Int)).bind fun o₃ => match o₃ with
  | .inl _ =>
   ck (in64 (v + 1)) <|
   some (.inl (v + 1))
  | .inr x1 =>
   some (.inr (.inr x1))
 else
  some (.inr (.inl ()))

def ZR (l : List Zg) : Option Int :=
 if decide (4096 < (l.length : Int)) then
  some 6
 else
  (
   loopF (ZR.s0 l) big 0 : Option (Unit ⊕ Int)).bind fun o₁ => match o₁ with
  | .inl _ =>
   some 0
  | .inr x =>
   some x

/-! muntin/muntinref13.Far -/
def ZF.s0 (l : List Zg) : (List Int) × Int → Option (((List Int) × Int) ⊕ (List Int)) := fun (far, i) =>
 if decide (i < (l.length : Int)) then
  ck ((0 : Int) ≤ i ∧ i < (far.length : Int)) <|
  ck (in64 (i + 1)) <|
  some (.inl (far.set (i : Int).toNat (-1), i + 1))
 else
  some (.inr far)

def ZF.s3 (l : List Zg) (round : Int) (i1 : Int) : (List Int) × Int → Option (((List Int) × Int) ⊕ (List Int)) := fun (far6, d) =>
 if decide (d < 4) then
  ck ((0 : Int) ≤ i1 ∧ i1 < (l.length : Int)) <|
  ck ((0 : Int) ≤ d ∧ d < 4) <|
  ck ((0 : Int) ≤ i1 ∧ i1 < (far6.length : Int)) <|
  (if (decide (gi far6 (i1 : Int).toNat = round)) && (decide (0 ≤ (((gi l (i1 : Int).toNat).Next).get d))) then
   ck ((0 : Int) ≤ (max (((gi l (i1 : Int).toNat).Next).get d) 0) ∧ (max (((gi l (i1 : Int).toNat).Next).get d) 0) < (far6.length : Int)) <|
   some (decide ((gi far6 (max (((gi l (i1 : Int).toNat).Next).get d) 0 : Int).toNat) < 0))
  else
   some false).bind fun t =>
  if t then
   ck (in64 (round + 1)) <|
   ck ((0 : Int) ≤ (((gi l (i1 : Int).toNat).Next).get d) ∧ (((gi l (i1 : Int).toNat).Next).get d) < (far6.length : Int)) <|
   ck (in64 (d + 1)) <|
   some (.inl (far6.set (((gi l (i1 : Int).toNat).Next).get d : Int).toNat (round + 1), d + 1))
  else
   ck (in64 (d + 1)) <|
   some (.inl (far6, d + 1))
 else
  some (.inr far6)

def ZF.s2 (l : List Zg) (round : Int) : (List Int) × Int → Option (((List Int) × Int) ⊕ (List Int)) := fun (far4, i1) =>
 if decide (i1 < (l.length : Int)) then
  (loopF (ZF.s3 l round i1) big (far4, 0)).bind fun far7 =>
  ck (in64 (i1 + 1)) <|
  some (.inl (far7, i1 + 1))
 else
  some (.inr far4)

def ZF.s1 (l : List Zg) : (List Int) × Int → Option (((List Int) × Int) ⊕ (List Int)) := fun (far2, round) =>
 if decide (round < (l.length : Int)) then
  (loopF (ZF.s2 l round) big (far2, 0)).bind fun far5 =>
  ck (in64 (round + 1)) <|
  some (.inl (far5, round + 1))
 else
  some (.inr far2)

def ZF (l : List Zg) (v : Int) : Option (List Int) :=
 ck ((0 : Int) ≤ (l.length : Int) ∧ (l.length : Int) ≤ 1000000000) <|
 (loopF (ZF.s0 l) big (List.replicate ((l.length : Int) : Int).toNat (0 : Int), 0)).bind fun far1 =>
 ck ((0 : Int) ≤ v ∧ v < (far1.length : Int)) <|
 (loopF (ZF.s1 l) big (far1.set (v : Int).toNat 0, 0)).bind fun far3 =>
 some far3

/-! muntin/muntinref13.Parts -/
def ZU.s1 (l : List Zg) (x : List Int) : (List Bool) × (List Int) × Int → Option (((List Bool) × (List Int) × Int) ⊕ ((List Bool) × (List Int))) := fun (in_1, p, w) =>
 if decide (w < (l.length : Int)) then
  ck ((0 : Int) ≤ w ∧ w < (x.length : Int)) <|
  if decide (0 ≤ (gi x (w : Int).toNat)) then
   ck ((0 : Int) ≤ w ∧ w < (in_1.length : Int)) <|
   ck (p.length + [w].length ≤ 1000000000) <|
   ck (in64 (w + 1)) <|
   some (.inl (in_1.set (w : Int).toNat true, p ++ [w], w + 1))
  else
   ck (in64 (w + 1)) <|
   some (.inl (in_1, p, w + 1))
 else
  some (.inr (in_1, p))

def ZU.s0 (l : List Zg) : (List Bool) × (List (List Int)) × Int → Option (((List Bool) × (List (List Int)) × Int) ⊕ (List (List Int))) := fun (in_, out, v) =>
 if decide (v < (l.length : Int)) then
  ck ((0 : Int) ≤ v ∧ v < (in_.length : Int)) <|
  if gi in_ (v : Int).toNat then
   ck (in64 (v + 1)) <|
   some (.inl (in_, out, v + 1))
  else
   (ZF l v).bind fun x =>
   (loopF (ZU.s1 l x) big (in_, ([] : List Int), 0)).bind fun (in_2, p1) =>
   ck (out.length + 1 ≤ 1000000000) <|
   ck (in64 (v + 1)) <|
   some (.inl (in_2, out ++ [p1], v + 1))
 else
  some (.inr out)

def ZU (l : List Zg) : Option (List (List Int)) :=
 ck ((0 : Int) ≤ (l.length : Int) ∧ (l.length : Int) ≤ 1000000000) <|
 (loopF (ZU.s0 l) big (List.replicate ((l.length : Int) : Int).toNat false, ([] : List (List Int)), 0)).bind fun out1 =>
 some out1

/-! muntin/muntinref12.Behind -/
def zd.s0 (l : List Zg) (d : Zl) : Int → Option (Int ⊕ (Unit ⊕ Zl)) := fun i =>
 if decide (i < 4) then
  ck ((0 : Int) ≤ i ∧ i < (([1, 0, 3, 2] : List Int).length : Int)) <|
  ck (in64 (d.Dir + (gi ([1, 0, 3, 2] : List Int) (i : Int).toNat))) <|
  ck ((0 : Int) ≤ (((gi l (d.Cell : Int).toNat).Next).get d.Dir) ∧ (((gi l (d.Cell : Int).toNat).Next).get d.Dir) < (l.length : Int)) <|
  ck ((0 : Int) ≤ ((d.Dir + (gi ([1, 0, 3, 2] : List Int) (i : Int).toNat)).tmod 4) ∧ ((d.Dir + (gi ([1, 0, 3, 2] : List Int) (i : Int).toNat)).tmod 4) < 4) <|
  if decide (0 ≤ (((gi l (((gi l (d.Cell : Int).toNat).Next).get d.Dir : Int).toNat).Next).get ((d.Dir + (gi ([1, 0, 3, 2] : List Int) (i : Int).toNat)).tmod 4))) then
   some (.inr (.inr (⟨((gi l (d.Cell : Int).toNat).Next).get d.Dir, (d.Dir + (gi ([1, 0, 3, 2] : List Int) (i : Int).toNat)).tmod 4⟩ : Zl)))
  else
   ck (in64 (i + 1)) <|
   some (.inl (i + 1))
 else
  some (.inr (.inl ()))

def zd (l : List Zg) (d : Zl) : Option Zl :=
 ck ((0 : Int) ≤ d.Cell ∧ d.Cell < (l.length : Int)) <|
 ck ((0 : Int) ≤ d.Dir ∧ d.Dir < 4) <|
 (
  loopF (zd.s0 l d) big 0 : Option (Unit ⊕ Zl)).bind fun o₁ => match o₁ with
 | .inl _ =>
  some d
 | .inr x =>
  some x

/-! muntin/muntinref12.Faces -/
def Z9.s2 (l : List Zg) : (List Bool) × (List Zl) × Zl → Option (((List Bool) × (List Zl) × Zl) ⊕ ((List Bool) × (List Zl))) := fun (met3, f, d) =>
 ck (in64 (4 * d.Cell)) <|
 ck (in64 ((4 * d.Cell) + d.Dir)) <|
 ck ((0 : Int) ≤ ((4 * d.Cell) + d.Dir) ∧ ((4 * d.Cell) + d.Dir) < (met3.length : Int)) <|
 if !(gi met3 ((4 * d.Cell) + d.Dir : Int).toNat) then
  ck (f.length + [d].length ≤ 1000000000) <|
  (zd l d).bind fun x =>
  some (.inl (met3.set ((4 * d.Cell) + d.Dir : Int).toNat true, f ++ [d], x))
 else
  some (.inr (met3, f))

def Z9.s1 (l : List Zg) (v : Int) : (List Bool) × (List (List Zl)) × Int → Option (((List Bool) × (List (List Zl)) × Int) ⊕ ((List Bool) × (List (List Zl)))) := fun (met1, out2, e_) =>
 if decide (e_ < 4) then
  ck ((0 : Int) ≤ v ∧ v < (l.length : Int)) <|
  ck ((0 : Int) ≤ e_ ∧ e_ < 4) <|
  (if decide ((((gi l (v : Int).toNat).Next).get e_) < 0) then
   some true
  else
   ck (in64 (4 * v)) <|
   ck (in64 ((4 * v) + e_)) <|
   ck ((0 : Int) ≤ ((4 * v) + e_) ∧ ((4 * v) + e_) < (met1.length : Int)) <|
   some (gi met1 ((4 * v) + e_ : Int).toNat)).bind fun t =>
  if t then
   ck (in64 (e_ + 1)) <|
   some (.inl (met1, out2, e_ + 1))
  else
   (loopF (Z9.s2 l) big (met1, ([] : List Zl), (⟨v, e_⟩ : Zl))).bind fun (met4, f1) =>
   ck (out2.length + 1 ≤ 1000000000) <|
   ck (in64 (e_ + 1)) <|
   some (.inl (met4, out2 ++ [f1], e_ + 1))
 else
  some (.inr (met1, out2))

def Z9.s0 (l : List Zg) : (List Bool) × (List (List Zl)) × Int → Option (((List Bool) × (List (List Zl)) × Int) ⊕ (List (List Zl))) := fun (met, out, v) =>
 if decide (v < (l.length : Int)) then
  (loopF (Z9.s1 l v) big (met, out, 0)).bind fun (met2, out3) =>
  ck (in64 (v + 1)) <|
  some (.inl (met2, out3, v + 1))
 else
  some (.inr out)

def Z9 (l : List Zg) : Option (List (List Zl)) :=
 ck (in64 (4 * (l.length : Int))) <|
 ck ((0 : Int) ≤ (4 * (l.length : Int)) ∧ (4 * (l.length : Int)) ≤ 1000000000) <|
 (loopF (Z9.s0 l) big (List.replicate (4 * (l.length : Int) : Int).toNat false, ([] : List (List Zl)), 0)).bind fun out1 =>
 some out1

/-! muntin/muntinref01.Good -/
def zL (d : Int) : Option Bool :=
 some ((decide (0 ≤ d)) && (decide (d ≤ 3)))

/-! muntin/muntinref01.Left -/
def zW (d : Int) (times : Int) : Option Int :=
 (zL d).bind fun x =>
 if !x then
  some 0
 else
  if decide ((times.tmod 4) < 0) then
   ck (in64 ((times.tmod 4) + 4)) <|
   ck (in64 (d + ((times.tmod 4) + 4))) <|
   some ((d + ((times.tmod 4) + 4)).tmod 4)
  else
   ck (in64 (d + (times.tmod 4))) <|
   some ((d + (times.tmod 4)).tmod 4)

/-! muntin/muntinref01.Turn -/
def zV (d : Int) (e_ : Int) : Option Int :=
 (zL d).bind fun x =>
 (zL e_).bind fun x1 =>
 if ((!x) || (!x1)) || (decide (d = e_)) then
  some 0
 else
  (zW d 1).bind fun x2 =>
  if decide (x2 = e_) then
   some 1
  else
   (zW d 3).bind fun x3 =>
   if decide (x3 = e_) then
    some (-1)
   else
    some (-2)

/-! muntin/muntinref12.Turns -/
def zp.s0 (l : List Zg) (f : List Zl) : (List Int) × Int → Option (((List Int) × Int) ⊕ (List Int)) := fun (out, i) =>
 if decide (i < (f.length : Int)) then
  ck ((0 : Int) ≤ i ∧ i < (f.length : Int)) <|
  (zd l (gi f (i : Int).toNat)).bind fun x =>
  (zV ((gi f (i : Int).toNat).Dir) x.Dir).bind fun x1 =>
  ck (out.length + [x1].length ≤ 1000000000) <|
  ck (in64 (i + 1)) <|
  some (.inl (out ++ [x1], i + 1))
 else
  some (.inr out)

def zp (l : List Zg) (f : List Zl) : Option (List Int) :=
 (loopF (zp.s0 l f) big (([] : List Int), 0)).bind fun out1 =>
 some out1

/-! muntin/muntinref12.Rotation -/
def zn.s0 (t : List Int) : Int × Int → Option ((Int × Int) ⊕ Int) := fun (n, i) =>
 if decide (i < (t.length : Int)) then
  ck ((0 : Int) ≤ i ∧ i < (t.length : Int)) <|
  if (decide ((-2) ≤ (gi t (i : Int).toNat))) && (decide ((gi t (i : Int).toNat) ≤ 1)) then
   ck (in64 (n + (gi t (i : Int).toNat))) <|
   ck (in64 (i + 1)) <|
   some (.inl (n + (gi t (i : Int).toNat), i + 1))
  else
   ck (in64 (i + 1)) <|
   some (.inl (n, i + 1))
 else
  some (.inr n)

def zn (t : List Int) : Option Int :=
 (loopF (zn.s0 t) big (0, 0)).bind fun n1 =>
 some n1

/-! muntin/muntinref14.Outer -/
def zt.s0 (l : List Zg) (x2 : List (List Zl)) : Int × Int → Option ((Int × Int) ⊕ (Int ⊕ Unit)) := fun (at_, i) =>
 if decide (i < (x2.length : Int)) then
  ck ((0 : Int) ≤ i ∧ i < (x2.length : Int)) <|
  (zp l (gi x2 (i : Int).toNat)).bind fun x3 =>
  (zn x3).bind fun x4 =>
  if ((!(decide (x4 = 4))) && (!(decide (x4 = (-4))))) || ((decide (x4 = (-4))) && (decide (0 ≤ at_))) then
   some (.inr (.inr ()))
  else
   if decide (x4 = (-4)) then
    ck (in64 (i + 1)) <|
    some (.inl (i, i + 1))
   else
    ck (in64 (i + 1)) <|
    some (.inl (at_, i + 1))
 else
  some (.inr (.inl at_))

def zt (l : List Zg) : Option (Int × Int) :=
 (ZR l).bind fun x =>
 if !(decide (x = 0)) then
  some ((-1), x)
 else
  (ZU l).bind fun x1 =>
  if !(decide ((x1.length : Int) = 1)) then
   some ((-1), 13)
  else
   if decide ((l.length : Int) = 1) then
    some ((-1), 0)
   else
    (Z9 l).bind fun x2 =>
    (
     loopF (zt.s0 l x2) big ((-1), 0) : Option (Int ⊕ Unit)).bind fun o₁ => match o₁ with
    | .inl at_1 =>
     if decide (at_1 < 0) then
      some ((-1), 10)
     else
      some (at_1, 0)
    | .inr _ =>
     some ((-1), 10)

/-! muntin/muntinref20.First -/
def ZQ.s1 (x : Int) (i : Int) (x5 : List Int) : Int → Option (Int ⊕ (Unit ⊕ Int)) := fun k_ =>
 if (decide (k_ < (x5.length : Int))) && (!(decide (i = x))) then
  ck ((0 : Int) ≤ k_ ∧ k_ < (x5.length : Int)) <|
  if decide ((gi x5 (k_ : Int).toNat) < 0) then
   some (.inr (.inr k_))
  else
   ck (in64 (k_ + 1)) <|
   some (.inl (k_ + 1))
 else
  some (.inr (.inl ()))

def ZQ.s0 (l : List Zg) (x : Int) (x2 : List (List Zl)) : Int → Option (Int ⊕ (Unit ⊕ (Int × Int))) := fun i =>
 if decide (i < (x2.length : Int)) then
  ck ((0 : Int) ≤ i ∧ i < (x2.length : Int)) <|
  (zp l (gi x2 (i : Int).toNat)).bind fun x5 =>
  (
   loopF (ZQ.s1 x i x5) big 0 : Option (Unit ⊕ Int)).bind fun o₃ => match o₃ with
  | .inl _ =>
   ck (in64 (i + 1)) <|
   some (.inl (i + 1))
  | .inr x6 =>
   some (.inr (.inr (i, x6)))
 else
  some (.inr (.inl ()))

def ZQ (l : List Zg) : Option (Int × Int) :=
 (zt l).bind fun (x, x1) =>
 if (!(decide (x1 = 0))) || (decide (x < 0)) then
  some ((-1), 0)
 else
  (Z9 l).bind fun x2 =>
  (
   loopF (ZQ.s0 l x x2) big 0 : Option (Unit ⊕ (Int × Int))).bind fun o₁ => match o₁ with
  | .inl _ =>
   some ((-1), 0)
  | .inr (x3, x4) =>
   some (x3, x4)

/-! slices.ContainsFunc[[]int,int] -/
def zP (s : List Int) (f : Int → Option Bool) : Option Bool :=
 (ZX s f).bind fun x =>
 some (decide (0 ≤ x))

/-! muntin/front.right$1 -/
def Zau (t : Int) : Option Bool :=
 some ((decide (t < (-2))) || (decide (1 < t)))

/-! muntin/front.right -/
def Zan (turns : List Int) : Option Bool :=
 (zP turns (fun y0 => Zau y0)).bind fun x =>
 some (!x)

/-! muntin/front.Of -/
def Zai.s0 (turns : List Int) (i : Int) : Int × Int → Option ((Int × Int) ⊕ (Unit ⊕ Int)) := fun (sum, x1) =>
 if decide (x1 < (turns.length : Int)) then
  ck (in64 (i + x1)) <|
  ck (((turns.length : Int) : Int) ≠ 0) <|
  ck ((0 : Int) ≤ ((i + x1).tmod (turns.length : Int)) ∧ ((i + x1).tmod (turns.length : Int)) < (turns.length : Int)) <|
  ck (in64 (sum + (gi turns ((i + x1).tmod (turns.length : Int) : Int).toNat))) <|
  if decide (sum + (gi turns ((i + x1).tmod (turns.length : Int) : Int).toNat) = 1) then
   ck (in64 (((i + x1).tmod (turns.length : Int)) + 1)) <|
   some (.inr (.inr ((((i + x1).tmod (turns.length : Int)) + 1).tmod (turns.length : Int))))
  else
   ck (in64 (x1 + 1)) <|
   some (.inl (sum + (gi turns ((i + x1).tmod (turns.length : Int) : Int).toNat), x1 + 1))
 else
  some (.inr (.inl ()))

def Zai (turns : List Int) (i : Int) : Option (Int × Bool) :=
 (Zan turns).bind fun x =>
 (if ((!x) || (decide (i < 0))) || (decide ((turns.length : Int) ≤ i)) then
  some true
 else
  ck ((0 : Int) ≤ i ∧ i < (turns.length : Int)) <|
  some (decide (0 ≤ (gi turns (i : Int).toNat)))).bind fun t =>
 if t then
  some (0, false)
 else
  (
   loopF (Zai.s0 turns i) big (0, 0) : Option (Unit ⊕ Int)).bind fun o₁ => match o₁ with
  | .inl _ =>
   some (0, false)
  | .inr x2 =>
   some (x2, true)

/-! muntin/front.Open -/
def Zam.s0 (turns : List Int) : Int → Option (Int ⊕ (Unit ⊕ Int)) := fun x1 =>
 if decide (x1 < (turns.length : Int)) then
  ck ((0 : Int) ≤ x1 ∧ x1 < (turns.length : Int)) <|
  (Zai turns x1).bind fun (x3, x4) =>
  if (decide ((gi turns (x1 : Int).toNat) < 0)) && (!x4) then
   some (.inr (.inr x1))
  else
   ck (in64 (x1 + 1)) <|
   some (.inl (x1 + 1))
 else
  some (.inr (.inl ()))

def Zam (turns : List Int) : Option (Int × Bool) :=
 (Zan turns).bind fun x =>
 if !x then
  some (0, false)
 else
  (
   loopF (Zam.s0 turns) big 0 : Option (Unit ⊕ Int)).bind fun o₁ => match o₁ with
  | .inl _ =>
   some (0, false)
  | .inr x2 =>
   some (x2, true)

/-! muntin/muntinlaw20.wakes -/
def Zad : Option Bool :=
 (Zai ([1, 1, (-1), 1, 1, 1] : List Int) 2).bind fun (x, x1) =>
 (Zai ([1, 1, (-1), 1, 1, 1] : List Int) 0).bind fun (x2, x3) =>
 (Zam ([(-2), (-2)] : List Int)).bind fun (x4, x5) =>
 some (((((decide (x = 5)) && x1) && (!x3)) && (decide (x4 = 0))) && x5)

/-! muntin/muntinlaw20.FrontFirst -/
def zf.s0 (raw : List Zg) (x : List Zg) : Int → Option (Int ⊕ (Unit ⊕ Unit)) := fun x2 =>
 if decide (x2 < ([x, raw.take (min (raw.length : Int) 4 : Int).toNat].length : Int)) then
  ck ((0 : Int) ≤ x2 ∧ x2 < ([x, raw.take (min (raw.length : Int) 4 : Int).toNat].length : Int)) <|
  (zG (gi [x, raw.take (min (raw.length : Int) 4 : Int).toNat] (x2 : Int).toNat)).bind fun (x3, x4, x5) =>
  (ZQ (gi [x, raw.take (min (raw.length : Int) 4 : Int).toNat] (x2 : Int).toNat)).bind fun (x6, x7) =>
  if ((!(decide (x5 = (decide (0 ≤ x6))))) || (!(decide (x3 = max x6 0)))) || (!(decide (x4 = x7))) then
   some (.inr (.inr ()))
  else
   ck (in64 (x2 + 1)) <|
   some (.inl (x2 + 1))
 else
  some (.inr (.inl ()))

def zf (z : ZY) (raw : List Zg) : Option Bool :=
 (Z5 z 16).bind fun (x, x1) =>
 ck ((0 : Int) ≤ (min (raw.length : Int) 4) ∧ (min (raw.length : Int) 4) ≤ (raw.length : Int)) <|
 (
  loopF (zf.s0 raw x) big 0 : Option (Unit ⊕ Unit)).bind fun o₁ => match o₁ with
 | .inl _ =>
  (Zad ).bind fun x8 =>
  some x8
 | .inr _ =>
  some false

end Mu
