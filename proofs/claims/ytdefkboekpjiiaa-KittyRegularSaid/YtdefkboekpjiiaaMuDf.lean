/- What the functions work out. -/
import Derived.Test.YtdefkboekpjiiaaMuA
import Derived.Test.YtdefkboekpjiiaaMuR
set_option linter.unusedVariables false
set_option linter.unnecessarySimpa false
set_option linter.unusedSimpArgs false
set_option maxHeartbeats 2000000
set_option maxRecDepth 10000
namespace Mu
open Go (IntKind BinOp UnOp)
structure zn where
 At : List Int
 Bits : List Int
 Own : List Int
 deriving DecidableEq, Inhabited
structure Zk where
 Next : A4 Int
 Owner : A4 Int
 deriving DecidableEq, Inhabited
abbrev ZaJ : Enc Int := ⟨1, fun x => [.i .u8 x], fun _ => rfl⟩
theorem ZaJ.one (x : Int) : (ZaJ.c x).all V.one = true := rfl
abbrev ZaN : Enc Int := ⟨1, fun x => [.i .i8 x], fun _ => rfl⟩
theorem ZaN.one (x : Int) : (ZaN.c x).all V.one = true := rfl
abbrev Zf : Enc Zk := ⟨8, fun x => [.i .i64 x.Next.a, .i .i64 x.Next.b, .i .i64 x.Next.c, .i .i64 x.Next.d, .i .i64 x.Owner.a, .i .i64 x.Owner.b, .i .i64 x.Owner.c, .i .i64 x.Owner.d], fun _ => rfl⟩
theorem Zf.one (x : Zk) : (Zf.c x).all V.one = true := rfl
structure Zu where
 X : Int
 Y : Int
 deriving DecidableEq, Inhabited
abbrev Zj : Enc Zu := ⟨2, fun x => [.i .i64 x.X, .i .i64 x.Y], fun _ => rfl⟩
theorem Zj.one (x : Zu) : (Zj.c x).all V.one = true := rfl
theorem Zj.same (x y : Zu) : sameAll [.i, .i] (Zj.c x) (Zj.c y) = some (decide (x = y)) := by
 obtain ⟨x1, x2⟩ := x
 obtain ⟨y1, y2⟩ := y
 refine (sameAll_i (sameAll_i sameAll_nil)).trans ?_
 congr 1
 rw [Bool.eq_iff_iff]
 simp [and_assoc]
abbrev e_bool : Enc Bool := ⟨1, fun x => [.b x], fun _ => rfl⟩
theorem e_bool.one (x : Bool) : (e_bool.c x).all V.one = true := rfl
structure Zp where
 Cell : Int
 Dir : Int
 deriving DecidableEq, Inhabited
abbrev Zg : Enc Zp := ⟨2, fun x => [.i .i64 x.Cell, .i .i64 x.Dir], fun _ => rfl⟩
theorem Zg.one (x : Zp) : (Zg.c x).all V.one = true := rfl
theorem Zg.same (x y : Zp) : sameAll [.i, .i] (Zg.c x) (Zg.c y) = some (decide (x = y)) := by
 obtain ⟨x1, x2⟩ := x
 obtain ⟨y1, y2⟩ := y
 refine (sameAll_i (sameAll_i sameAll_nil)).trans ?_
 congr 1
 rw [Bool.eq_iff_iff]
 simp [and_assoc]
abbrev Za9 : Enc (A4 Int) := ⟨4, fun x => [.i .i64 x.a, .i .i64 x.b, .i .i64 x.c, .i .i64 x.d], fun _ => rfl⟩
theorem Za9.one (x : A4 Int) : (Za9.c x).all V.one = true := rfl
structure Zd where
 At : Int
 Part : Int
 deriving DecidableEq, Inhabited
abbrev Za : Enc Zd := ⟨2, fun x => [.i .i64 x.At, .i .i64 x.Part], fun _ => rfl⟩
theorem Za.one (x : Zd) : (Za.c x).all V.one = true := rfl
theorem Za.same (x y : Zd) : sameAll [.i, .i] (Za.c x) (Za.c y) = some (decide (x = y)) := by
 obtain ⟨x1, x2⟩ := x
 obtain ⟨y1, y2⟩ := y
 refine (sameAll_i (sameAll_i sameAll_nil)).trans ?_
 congr 1
 rw [Bool.eq_iff_iff]
 simp [and_assoc]
structure Zr where
 Cell : Int
 Dir : Int
 deriving DecidableEq, Inhabited
abbrev Zi : Enc Zr := ⟨2, fun x => [.i .i64 x.Cell, .i .i64 x.Dir], fun _ => rfl⟩
theorem Zi.one (x : Zr) : (Zi.c x).all V.one = true := rfl
structure Zl where
 At : Int
 Part : Int
 deriving DecidableEq, Inhabited
abbrev Zc : Enc Zl := ⟨2, fun x => [.i .i64 x.At, .i .i64 x.Part], fun _ => rfl⟩
theorem Zc.one (x : Zl) : (Zc.c x).all V.one = true := rfl
def ZaO (x : Int) : Prop := Wf .u8 x
def ZaS (x : Int) : Prop := Wf .i8 x
def ZaK (x : Zk) : Prop := Wf .i64 x.Next.a ∧ Wf .i64 x.Next.b ∧ Wf .i64 x.Next.c ∧ Wf .i64 x.Next.d ∧ Wf .i64 x.Owner.a ∧ Wf .i64 x.Owner.b ∧ Wf .i64 x.Owner.c ∧ Wf .i64 x.Owner.d
/-! muntin/muntinref10.New -/
def zx.s1 (v : Int) : (List Zk) × Int → Option (((List Zk) × Int) ⊕ (List Zk)) := fun (l2, d) =>
 if decide (d < 4) then
  ck ((0 : Int) ≤ v ∧ v < (l2.length : Int)) <|
  ck ((0 : Int) ≤ d ∧ d < 4) <|
  ck (in64 (d + 1)) <|
  some (.inl (l2.set (v : Int).toNat ({ gi l2 (v : Int).toNat with Next := ((gi l2 (v : Int).toNat).Next).set d (-1) }), d + 1))
 else
  some (.inr l2)

def zx.s0 (n : Int) : (List Zk) × Int → Option (((List Zk) × Int) ⊕ (List Zk)) := fun (l, v) =>
 if decide (v < n) then
  (loopF (zx.s1 v) big (l, 0)).bind fun l3 =>
  ck (in64 (v + 1)) <|
  some (.inl (l3, v + 1))
 else
  some (.inr l)

def zx (n : Int) : Option (List Zk) :=
 ck ((0 : Int) ≤ n ∧ n ≤ 1000000000) <|
 (loopF (zx.s0 n) big (List.replicate (n : Int).toNat (⟨⟨0, 0, 0, 0⟩, ⟨0, 0, 0, 0⟩⟩ : Zk), 0)).bind fun l1 =>
 some l1

/-! muntin/muntinref10.Nearest -/
def ZU.s0 (at_ : List Zu) (i : Int) (d : Int) : Int × Int → Option ((Int × Int) ⊕ Int) := fun (best, k_) =>
 if decide (k_ < (at_.length : Int)) then
  (if decide (d = 0) then
   ck ((0 : Int) ≤ k_ ∧ k_ < (at_.length : Int)) <|
   ck ((0 : Int) ≤ i ∧ i < (at_.length : Int)) <|
   some (decide ((gi at_ (k_ : Int).toNat).Y = (gi at_ (i : Int).toNat).Y))
  else
   some false).bind fun t =>
  (if t then
   ck ((0 : Int) ≤ k_ ∧ k_ < (at_.length : Int)) <|
   ck ((0 : Int) ≤ i ∧ i < (at_.length : Int)) <|
   some (decide (((gi at_ (i : Int).toNat).X) < ((gi at_ (k_ : Int).toNat).X)))
  else
   some false).bind fun t1 =>
  (if t1 then
   (if decide (best < 0) then
    some true
   else
    ck ((0 : Int) ≤ k_ ∧ k_ < (at_.length : Int)) <|
    ck ((0 : Int) ≤ best ∧ best < (at_.length : Int)) <|
    some (decide (((gi at_ (k_ : Int).toNat).X) < ((gi at_ (best : Int).toNat).X)))).bind fun t3 =>
   some t3
  else
   some false).bind fun t2 =>
  (
   if t2 then
    some k_
   else
    some best).bind fun best2 =>
  (if decide (d = 1) then
   ck ((0 : Int) ≤ k_ ∧ k_ < (at_.length : Int)) <|
   ck ((0 : Int) ≤ i ∧ i < (at_.length : Int)) <|
   some (decide ((gi at_ (k_ : Int).toNat).X = (gi at_ (i : Int).toNat).X))
  else
   some false).bind fun t4 =>
  (if t4 then
   ck ((0 : Int) ≤ k_ ∧ k_ < (at_.length : Int)) <|
   ck ((0 : Int) ≤ i ∧ i < (at_.length : Int)) <|
   some (decide (((gi at_ (i : Int).toNat).Y) < ((gi at_ (k_ : Int).toNat).Y)))
  else
   some false).bind fun t5 =>
  (if t5 then
   (if decide (best2 < 0) then
    some true
   else
    ck ((0 : Int) ≤ k_ ∧ k_ < (at_.length : Int)) <|
    ck ((0 : Int) ≤ best2 ∧ best2 < (at_.length : Int)) <|
    some (decide (((gi at_ (k_ : Int).toNat).Y) < ((gi at_ (best2 : Int).toNat).Y)))).bind fun t7 =>
   some t7
  else
   some false).bind fun t6 =>
  if t6 then
   ck (in64 (k_ + 1)) <|
   some (.inl (k_, k_ + 1))
  else
   ck (in64 (k_ + 1)) <|
   some (.inl (best2, k_ + 1))
 else
  some (.inr best)

def ZU (at_ : List Zu) (i : Int) (d : Int) : Option Int :=
 (loopF (ZU.s0 at_ i d) big ((-1), 0)).bind fun best1 =>
 some best1

/-! muntin/muntinref10.Crossed -/
def ZT.s1 (at_ : List Zu) (l : List Zk) (i : Int) (w : Int) (a : Int) : Int → Option (Int ⊕ (Unit ⊕ Unit)) := fun d =>
 if decide (d < 2) then
  ck ((0 : Int) ≤ a ∧ a < (l.length : Int)) <|
  ck ((0 : Int) ≤ d ∧ d < 4) <|
  if decide ((((gi l (a : Int).toNat).Next).get d) < 0) then
   ck (in64 (d + 1)) <|
   some (.inl (d + 1))
  else
   ck ((0 : Int) ≤ a ∧ a < (at_.length : Int)) <|
   ck ((0 : Int) ≤ (((gi l (a : Int).toNat).Next).get d) ∧ (((gi l (a : Int).toNat).Next).get d) < (at_.length : Int)) <|
   (if decide ((gi at_ (a : Int).toNat).Y = (gi at_ (((gi l (a : Int).toNat).Next).get d : Int).toNat).Y) then
    ck ((0 : Int) ≤ i ∧ i < (at_.length : Int)) <|
    ck ((0 : Int) ≤ w ∧ w < (at_.length : Int)) <|
    some (decide ((gi at_ (i : Int).toNat).X = (gi at_ (w : Int).toNat).X))
   else
    some false).bind fun t =>
   (if t then
    ck ((0 : Int) ≤ i ∧ i < (at_.length : Int)) <|
    some (decide (((gi at_ (a : Int).toNat).X) < ((gi at_ (i : Int).toNat).X)))
   else
    some false).bind fun t1 =>
   (if t1 then
    ck ((0 : Int) ≤ i ∧ i < (at_.length : Int)) <|
    some (decide (((gi at_ (i : Int).toNat).X) < ((gi at_ (((gi l (a : Int).toNat).Next).get d : Int).toNat).X)))
   else
    some false).bind fun t2 =>
   (if t2 then
    ck ((0 : Int) ≤ i ∧ i < (at_.length : Int)) <|
    some (decide (((gi at_ (i : Int).toNat).Y) < ((gi at_ (a : Int).toNat).Y)))
   else
    some false).bind fun t3 =>
   (if t3 then
    ck ((0 : Int) ≤ w ∧ w < (at_.length : Int)) <|
    some (decide (((gi at_ (a : Int).toNat).Y) < ((gi at_ (w : Int).toNat).Y)))
   else
    some false).bind fun t4 =>
   if t4 then
    some (.inr (.inr ()))
   else
    (if decide ((gi at_ (a : Int).toNat).X = (gi at_ (((gi l (a : Int).toNat).Next).get d : Int).toNat).X) then
     ck ((0 : Int) ≤ i ∧ i < (at_.length : Int)) <|
     ck ((0 : Int) ≤ w ∧ w < (at_.length : Int)) <|
     some (decide ((gi at_ (i : Int).toNat).Y = (gi at_ (w : Int).toNat).Y))
    else
     some false).bind fun t5 =>
    (if t5 then
     ck ((0 : Int) ≤ i ∧ i < (at_.length : Int)) <|
     some (decide (((gi at_ (i : Int).toNat).X) < ((gi at_ (a : Int).toNat).X)))
    else
     some false).bind fun t6 =>
    (if t6 then
     ck ((0 : Int) ≤ w ∧ w < (at_.length : Int)) <|
     some (decide (((gi at_ (a : Int).toNat).X) < ((gi at_ (w : Int).toNat).X)))
    else
     some false).bind fun t7 =>
    (if t7 then
     ck ((0 : Int) ≤ i ∧ i < (at_.length : Int)) <|
     some (decide (((gi at_ (a : Int).toNat).Y) < ((gi at_ (i : Int).toNat).Y)))
    else
     some false).bind fun t8 =>
    (if t8 then
     ck ((0 : Int) ≤ i ∧ i < (at_.length : Int)) <|
     some (decide (((gi at_ (i : Int).toNat).Y) < ((gi at_ (((gi l (a : Int).toNat).Next).get d : Int).toNat).Y)))
    else
     some false).bind fun t9 =>
    if t9 then
     some (.inr (.inr ()))
    else
     ck (in64 (d + 1)) <|
     some (.inl (d + 1))
 else
  some (.inr (.inl ()))

def ZT.s0 (at_ : List Zu) (l : List Zk) (i : Int) (w : Int) : Int → Option (Int ⊕ (Unit ⊕ Unit)) := fun a =>
 if decide (a < (l.length : Int)) then
  (
   loopF (ZT.s1 at_ l i w a) big 0 : Option (Unit ⊕ Unit)).bind fun o₃ => match o₃ with
  | .inl _ =>
   ck (in64 (a + 1)) <|
   some (.inl (a + 1))
  | .inr _ =>
   some (.inr (.inr ()))
 else
  some (.inr (.inl ()))

def ZT (at_ : List Zu) (l : List Zk) (i : Int) (w : Int) : Option Bool :=
 (
  loopF (ZT.s0 at_ l i w) big 0 : Option (Unit ⊕ Unit)).bind fun o₁ => match o₁ with
 | .inl _ =>
  some false
 | .inr _ =>
  some true

/-! muntin/muntinref10.with -/
def zO.s0 (l : List Zk) (v : Int) (d : Int) (w : Int) (o : Int) : (List Zk) × Int → Option (((List Zk) × Int) ⊕ (List Zk)) := fun (out, i) =>
 if decide (i < (l.length : Int)) then
  ck ((0 : Int) ≤ i ∧ i < (l.length : Int)) <|
  (
   if decide (i = v) then
    ck ((0 : Int) ≤ d ∧ d < 4) <|
    some ({ { gi l (i : Int).toNat with Next := ((gi l (i : Int).toNat).Next).set d w } with Owner := (({ gi l (i : Int).toNat with Next := ((gi l (i : Int).toNat).Next).set d w }).Owner).set d o })
   else
    some (gi l (i : Int).toNat)).bind fun c =>
  if decide (i = w) then
   ck (in64 (d + 2)) <|
   ck ((0 : Int) ≤ ((d + 2).tmod 4) ∧ ((d + 2).tmod 4) < 4) <|
   ck (out.length + [{ { c with Next := c.Next.set ((d + 2).tmod 4) v } with Owner := (({ c with Next := c.Next.set ((d + 2).tmod 4) v }).Owner).set ((d + 2).tmod 4) o }].length ≤ 1000000000) <|
   ck (in64 (i + 1)) <|
   some (.inl (out ++ [{ { c with Next := c.Next.set ((d + 2).tmod 4) v } with Owner := (({ c with Next := c.Next.set ((d + 2).tmod 4) v }).Owner).set ((d + 2).tmod 4) o }], i + 1))
  else
   ck (out.length + [c].length ≤ 1000000000) <|
   ck (in64 (i + 1)) <|
   some (.inl (out ++ [c], i + 1))
 else
  some (.inr out)

def zO (l : List Zk) (v : Int) (d : Int) (w : Int) (o : Int) : Option (List Zk) :=
 (loopF (zO.s0 l v d w o) big (([] : List Zk), 0)).bind fun out1 =>
 some out1

/-! muntin/muntinref10.Make -/
def ZF.s1 (z : zn) (at_ : List Zu) (i : Int) : Bool × Int → Option ((Bool × Int) ⊕ ((List Zu) × Bool)) := fun (met, k_) =>
 if decide (k_ < (at_.length : Int)) then
  (if met then
   some true
  else
   ck ((0 : Int) ≤ k_ ∧ k_ < (at_.length : Int)) <|
   some (decide (gi at_ (k_ : Int).toNat = (⟨(gi z.At (i : Int).toNat).tmod 8, ((gi z.At (i : Int).toNat).tdiv 8).tmod 8⟩ : Zu)))).bind fun t =>
  ck (in64 (k_ + 1)) <|
  some (.inl (t, k_ + 1))
 else
  some (.inr (at_, met))

def ZF.s0 (z : zn) (most : Int) : (List Zu) × Int → Option (((List Zu) × Int) ⊕ (List Zu)) := fun (at_, i) =>
 if (decide (i < (z.At.length : Int))) && (decide ((at_.length : Int) < most)) then
  ck ((0 : Int) ≤ i ∧ i < (z.At.length : Int)) <|
  ck (inK .i64 (gi z.At (i : Int).toNat)) <|
  ck ((8 : Int) ≠ 0 ∧ in64 ((gi z.At (i : Int).toNat).tdiv 8)) <|
  (loopF (ZF.s1 z at_ i) big (false, 0)).bind fun (at_2, met1) =>
  if !met1 then
   ck (at_2.length + [(⟨(gi z.At (i : Int).toNat).tmod 8, ((gi z.At (i : Int).toNat).tdiv 8).tmod 8⟩ : Zu)].length ≤ 1000000000) <|
   ck (in64 (i + 1)) <|
   some (.inl (at_2 ++ [(⟨(gi z.At (i : Int).toNat).tmod 8, ((gi z.At (i : Int).toNat).tdiv 8).tmod 8⟩ : Zu)], i + 1))
  else
   ck (in64 (i + 1)) <|
   some (.inl (at_2, i + 1))
 else
  some (.inr at_)

def ZF.s3 (i1 : Int) (bits : Int) (at_6 : List Zu) (own : Int) : (List Zk) × Int → Option (((List Zk) × Int) ⊕ (List Zk)) := fun (l4, d) =>
 if decide (d < 2) then
  (ZU at_6 i1 d).bind fun x1 =>
  ck ((0 : Int) ≤ d) <|
  if (decide (ari_and .u8 (sh_shr .u8 bits d) 1 = 0)) || (decide (x1 < 0)) then
   ck (in64 (d + 1)) <|
   some (.inl (l4, d + 1))
  else
   (ZT at_6 l4 i1 x1).bind fun x2 =>
   if !x2 then
    (zO l4 i1 d x1 own).bind fun x3 =>
    ck (in64 (d + 1)) <|
    some (.inl (x3, d + 1))
   else
    ck (in64 (d + 1)) <|
    some (.inl (l4, d + 1))
 else
  some (.inr l4)

def ZF.s2 (z : zn) : (List Zu) × (List Zk) × Int → Option (((List Zu) × (List Zk) × Int) ⊕ ((List Zu) × (List Zk))) := fun (at_3, l, i1) =>
 if decide (i1 < (at_3.length : Int)) then
  (
   if decide (i1 < (z.Bits.length : Int)) then
    ck ((0 : Int) ≤ i1 ∧ i1 < (z.Bits.length : Int)) <|
    some (at_3, l, gi z.Bits (i1 : Int).toNat)
   else
    some (at_3, l, 3)).bind fun (at_5, l2, bits) =>
  (
   if decide (i1 < (z.Own.length : Int)) then
    ck ((0 : Int) ≤ i1 ∧ i1 < (z.Own.length : Int)) <|
    ck (inK .i64 (gi z.Own (i1 : Int).toNat)) <|
    if decide ((gi z.Own (i1 : Int).toNat) < (-2)) then
     ck (in64 (-(gi z.Own (i1 : Int).toNat))) <|
     some (at_5, l2, -(gi z.Own (i1 : Int).toNat))
    else
     some (at_5, l2, gi z.Own (i1 : Int).toNat)
   else
    some (at_5, l2, i1)).bind fun (at_6, l3, own) =>
  (loopF (ZF.s3 i1 bits at_6 own) big (l3, 0)).bind fun l5 =>
  ck (in64 (i1 + 1)) <|
  some (.inl (at_6, l5, i1 + 1))
 else
  some (.inr (at_3, l))

def ZF (z : zn) (most : Int) : Option ((List Zk) × (List Zu)) :=
 (loopF (ZF.s0 z most) big (([] : List Zu), 0)).bind fun at_1 =>
 (zx (at_1.length : Int)).bind fun x =>
 (loopF (ZF.s2 z) big (at_1, x, 0)).bind fun (at_4, l1) =>
 some (l1, at_4)

/-! muntin/compass.Good -/
def Zad (d : Int) : Option Bool :=
 some ((decide (0 ≤ d)) && (decide (d ≤ 3)))

/-! muntin/compass.Left -/
def Zal (d : Int) (times : Int) : Option Int :=
 (Zad d).bind fun x =>
 if !x then
  some 0
 else
  ck (in64 (d + (times.tmod 4))) <|
  ck (in64 ((d + (times.tmod 4)) + 4)) <|
  some (((d + (times.tmod 4)) + 4).tmod 4)

/-! muntin/grid.side -/
def ZaB (cells : List Zk) (v : Int) (d : Int) : Option Int :=
 ck ((0 : Int) ≤ v ∧ v < (cells.length : Int)) <|
 ck ((0 : Int) ≤ d ∧ d < 4) <|
 if decide (((gi cells (v : Int).toNat).Next).get d = (-1)) then
  if !(decide (((gi cells (v : Int).toNat).Owner).get d = 0)) then
   some 9
  else
   some 0
 else
  if ((decide ((((gi cells (v : Int).toNat).Next).get d) < 0)) || (decide ((cells.length : Int) ≤ (((gi cells (v : Int).toNat).Next).get d)))) || (decide (((gi cells (v : Int).toNat).Next).get d = v)) then
   some 3
  else
   (Zal d 2).bind fun x =>
   ck ((0 : Int) ≤ (((gi cells (v : Int).toNat).Next).get d) ∧ (((gi cells (v : Int).toNat).Next).get d) < (cells.length : Int)) <|
   ck ((0 : Int) ≤ x ∧ x < 4) <|
   if ((!(decide (((gi cells (((gi cells (v : Int).toNat).Next).get d : Int).toNat).Next).get x = v))) || (!(decide (((gi cells (((gi cells (v : Int).toNat).Next).get d : Int).toNat).Owner).get x = ((gi cells (v : Int).toNat).Owner).get d)))) || (decide ((((gi cells (v : Int).toNat).Owner).get d) < (-2))) then
    some 9
   else
    some 0

/-! muntin/grid.Check -/
def z4.s1 (cells : List Zk) (x : Int) : Int → Option (Int ⊕ (Unit ⊕ Int)) := fun x2 =>
 if decide (x2 < 4) then
  (ZaB cells x x2).bind fun x4 =>
  if !(decide (x4 = 0)) then
   some (.inr (.inr x4))
  else
   ck (in64 (x2 + 1)) <|
   some (.inl (x2 + 1))
 else
  some (.inr (.inl ()))

def z4.s0 (cells : List Zk) : Int → Option (Int ⊕ (Unit ⊕ Int)) := fun x =>
 if decide (x < (cells.length : Int)) then
  (
   loopF (z4.s1 cells x) big 0 : Option (Unit ⊕ Int)).bind fun o₃ => match o₃ with
  | .inl _ =>
   ck (in64 (x + 1)) <|
   some (.inl (x + 1))
  | .inr x3 =>
   some (.inr (.inr x3))
 else
  some (.inr (.inl ()))

def z4 (cells : List Zk) : Option Int :=
 if decide (4096 < (cells.length : Int)) then
  some 6
 else
  (
   loopF (z4.s0 cells) big 0 : Option (Unit ⊕ Int)).bind fun o₁ => match o₁ with
  | .inl _ =>
   some 0
  | .inr x1 =>
   some x1

/-! math/bits.Mul64 -/
def ZaG (x : Int) (y : Int) : Option (Int × Int) :=
 some (ari_add .u64 (ari_add .u64 (ari_mul .u64 (sh_shr .u64 x 32) (sh_shr .u64 y 32)) (sh_shr .u64 (ari_add .u64 (ari_mul .u64 (sh_shr .u64 x 32) (ari_and .u64 y 4294967295)) (sh_shr .u64 (ari_mul .u64 (ari_and .u64 x 4294967295) (ari_and .u64 y 4294967295)) 32)) 32)) (sh_shr .u64 (ari_add .u64 (ari_and .u64 (ari_add .u64 (ari_mul .u64 (sh_shr .u64 x 32) (ari_and .u64 y 4294967295)) (sh_shr .u64 (ari_mul .u64 (ari_and .u64 x 4294967295) (ari_and .u64 y 4294967295)) 32)) 4294967295) (ari_mul .u64 (ari_and .u64 x 4294967295) (sh_shr .u64 y 32))) 32), ari_mul .u64 x y)

/-! math/bits.Mul -/
def ZaF (x : Int) (y : Int) : Option (Int × Int) :=
 (ZaG x y).bind fun (x1, x2) =>
 some (x1, x2)

/-! slices.Repeat[[]int,int] -/
def zB.s0 : (List Int) × Int → Option (((List Int) × Int) ⊕ (List Int)) := fun (newslice, n) =>
 if decide (n < (newslice.length : Int)) then
  ck ((0 : Int) ≤ n ∧ n ≤ (newslice.length : Int)) <|
  ck (in64 (n + ((min (newslice.take (n : Int).toNat).length (newslice.drop (n : Int).toNat).length : Nat) : Int))) <|
  some (.inl (newslice.take (n : Int).toNat ++ ((newslice.take (n : Int).toNat).take (newslice.drop (n : Int).toNat).length ++ (newslice.drop (n : Int).toNat).drop (newslice.take (n : Int).toNat).length), n + ((min (newslice.take (n : Int).toNat).length (newslice.drop (n : Int).toNat).length : Nat) : Int)))
 else
  some (.inr newslice)

def zB (x : List Int) (count : Int) : Option (List Int) :=
 (
  if decide (count < 0) then
   none
  else
   some ()).bind fun _ =>
 ck (inK .u64 (x.length : Int)) <|
 ck (inK .u64 count) <|
 (ZaF (x.length : Int) count).bind fun (x1, x2) =>
 (
  if (decide (0 < x1)) || (decide (9223372036854775807 < x2)) then
   none
  else
   some ()).bind fun _ =>
 ck (inK .i64 x2) <|
 ck ((0 : Int) ≤ x2 ∧ x2 ≤ 1000000000) <|
 (loopF zB.s0 big (x.take (List.replicate (x2 : Int).toNat (0 : Int)).length ++ (List.replicate (x2 : Int).toNat (0 : Int)).drop x.length, ((min x.length (List.replicate (x2 : Int).toNat (0 : Int)).length : Nat) : Int))).bind fun newslice1 =>
 some newslice1

/-! muntin/join.spread -/
def zN.s1 (cells : List Zk) (l : List Int) : (List Int) × (List Int) × (List Int) × (List Bool) × Int → Option (((List Int) × (List Int) × (List Int) × (List Bool) × Int) ⊕ ((List Int) × (List Int) × (List Int) × (List Bool))) := fun (from_2, dir2, l1, met1, x2) =>
 if decide (x2 < 4) then
  ck ((0 : Int) ≤ (gi l (0 : Int).toNat) ∧ (gi l (0 : Int).toNat) < (cells.length : Int)) <|
  ck ((0 : Int) ≤ x2 ∧ x2 < 4) <|
  (if decide (0 ≤ (((gi cells (gi l (0 : Int).toNat : Int).toNat).Next).get x2)) then
   ck ((0 : Int) ≤ (((gi cells (gi l (0 : Int).toNat : Int).toNat).Next).get x2) ∧ (((gi cells (gi l (0 : Int).toNat : Int).toNat).Next).get x2) < (met1.length : Int)) <|
   some (!(gi met1 (((gi cells (gi l (0 : Int).toNat : Int).toNat).Next).get x2 : Int).toNat))
  else
   some false).bind fun t =>
  if t then
   ck ((0 : Int) ≤ (((gi cells (gi l (0 : Int).toNat : Int).toNat).Next).get x2) ∧ (((gi cells (gi l (0 : Int).toNat : Int).toNat).Next).get x2) < (met1.length : Int)) <|
   ck ((0 : Int) ≤ (((gi cells (gi l (0 : Int).toNat : Int).toNat).Next).get x2) ∧ (((gi cells (gi l (0 : Int).toNat : Int).toNat).Next).get x2) < (from_2.length : Int)) <|
   ck ((0 : Int) ≤ (((gi cells (gi l (0 : Int).toNat : Int).toNat).Next).get x2) ∧ (((gi cells (gi l (0 : Int).toNat : Int).toNat).Next).get x2) < (dir2.length : Int)) <|
   ck (l1.length + [((gi cells (gi l (0 : Int).toNat : Int).toNat).Next).get x2].length ≤ 1000000000) <|
   ck (in64 (x2 + 1)) <|
   some (.inl (from_2.set (((gi cells (gi l (0 : Int).toNat : Int).toNat).Next).get x2 : Int).toNat (gi l (0 : Int).toNat), dir2.set (((gi cells (gi l (0 : Int).toNat : Int).toNat).Next).get x2 : Int).toNat x2, l1 ++ [((gi cells (gi l (0 : Int).toNat : Int).toNat).Next).get x2], met1.set (((gi cells (gi l (0 : Int).toNat : Int).toNat).Next).get x2 : Int).toNat true, x2 + 1))
  else
   ck (in64 (x2 + 1)) <|
   some (.inl (from_2, dir2, l1, met1, x2 + 1))
 else
  some (.inr (from_2, dir2, l1, met1))

def zN.s0 (cells : List Zk) : (List Int) × (List Int) × (List Int) × (List Bool) → Option (((List Int) × (List Int) × (List Int) × (List Bool)) ⊕ ((List Int) × (List Int))) := fun (from_, dir, l, met) =>
 if decide (0 < (l.length : Int)) then
  ck ((0 : Int) ≤ 0 ∧ 0 < (l.length : Int)) <|
  ck ((0 : Int) ≤ 1 ∧ 1 ≤ (l.length : Int)) <|
  (loopF (zN.s1 cells l) big (from_, dir, l.drop (1 : Int).toNat, met, 0)).bind fun (from_3, dir3, l2, met2) =>
  some (.inl (from_3, dir3, l2, met2))
 else
  some (.inr (from_, dir))

def zN (cells : List Zk) (v : Int) : Option ((List Int) × (List Int)) :=
 (zB ([(-1)] : List Int) (cells.length : Int)).bind fun x =>
 (zB ([(-1)] : List Int) (cells.length : Int)).bind fun x1 =>
 ck ((0 : Int) ≤ (cells.length : Int) ∧ (cells.length : Int) ≤ 1000000000) <|
 ck ((0 : Int) ≤ v ∧ v < ((List.replicate ((cells.length : Int) : Int).toNat false).length : Int)) <|
 (loopF (zN.s0 cells) big (x, x1, [v], (List.replicate ((cells.length : Int) : Int).toNat false).set (v : Int).toNat true)).bind fun (from_1, dir1) =>
 some (from_1, dir1)

/-! muntin/join.Parts -/
def zR.s1 (cells : List Zk) (x1 : Int) (x3 : List Int) : (List Bool) × (List Int) × Int → Option (((List Bool) × (List Int) × Int) ⊕ ((List Bool) × (List Int))) := fun (met1, part, x4) =>
 if decide (x4 < (cells.length : Int)) then
  (if decide (x4 = x1) then
   some true
  else
   ck ((0 : Int) ≤ x4 ∧ x4 < (x3.length : Int)) <|
   some (decide (0 ≤ (gi x3 (x4 : Int).toNat)))).bind fun t =>
  if t then
   ck ((0 : Int) ≤ x4 ∧ x4 < (met1.length : Int)) <|
   ck (part.length + [x4].length ≤ 1000000000) <|
   ck (in64 (x4 + 1)) <|
   some (.inl (met1.set (x4 : Int).toNat true, part ++ [x4], x4 + 1))
  else
   ck (in64 (x4 + 1)) <|
   some (.inl (met1, part, x4 + 1))
 else
  some (.inr (met1, part))

def zR.s0 (cells : List Zk) : (List (List Int)) × (List Bool) × Int → Option (((List (List Int)) × (List Bool) × Int) ⊕ (List (List Int))) := fun (l, met, x1) =>
 if decide (x1 < (cells.length : Int)) then
  ck ((0 : Int) ≤ x1 ∧ x1 < (met.length : Int)) <|
  if gi met (x1 : Int).toNat then
   ck (in64 (x1 + 1)) <|
   some (.inl (l, met, x1 + 1))
  else
   (zN cells x1).bind fun (x2, x3) =>
   (loopF (zR.s1 cells x1 x3) big (met, [], 0)).bind fun (met2, part1) =>
   ck (l.length + 1 ≤ 1000000000) <|
   ck (in64 (x1 + 1)) <|
   some (.inl (l ++ [part1], met2, x1 + 1))
 else
  some (.inr l)

def zR (cells : List Zk) : Option ((List (List Int)) × Int) :=
 (z4 cells).bind fun x =>
 if !(decide (x = 0)) then
  some (([] : List (List Int)), x)
 else
  ck ((0 : Int) ≤ (cells.length : Int) ∧ (cells.length : Int) ≤ 1000000000) <|
  (loopF (zR.s0 cells) big (([] : List (List Int)), List.replicate ((cells.length : Int) : Int).toNat false, 0)).bind fun l1 =>
  some (l1, 0)

/-! muntin/join.Whole -/
def Za8 (cells : List Zk) : Option Bool :=
 (zR cells).bind fun (x, x1) =>
 some ((decide (x1 = 0)) && (decide ((x.length : Int) = 1)))

/-! (muntin/face.Dart).is -/
def Zac (d : Zp) (cells : List Zk) : Option Bool :=
 if decide (0 ≤ d.Cell) then
  if decide (d.Cell < (cells.length : Int)) then
   (Zad d.Dir).bind fun x =>
   if x then
    ck ((0 : Int) ≤ d.Cell ∧ d.Cell < (cells.length : Int)) <|
    ck ((0 : Int) ≤ d.Dir ∧ d.Dir < 4) <|
    some (decide (0 ≤ (((gi cells (d.Cell : Int).toNat).Next).get d.Dir)))
   else
    some false
  else
   some false
 else
  some false

/-! (muntin/face.Dart).behind -/
def z9.s0 (d : Zp) (cells : List Zk) : Int → Option (Int ⊕ (Unit ⊕ Zp)) := fun x =>
 if decide (x < 4) then
  ck ((0 : Int) ≤ x ∧ x < 4) <|
  (Zal d.Dir ((⟨1, 0, (-1), 2⟩ : A4 Int).get x)).bind fun x2 =>
  (Zac (⟨((gi cells (d.Cell : Int).toNat).Next).get d.Dir, x2⟩ : Zp) cells).bind fun x3 =>
  if x3 then
   some (.inr (.inr (⟨((gi cells (d.Cell : Int).toNat).Next).get d.Dir, x2⟩ : Zp)))
  else
   ck (in64 (x + 1)) <|
   some (.inl (x + 1))
 else
  some (.inr (.inl ()))

def z9 (d : Zp) (cells : List Zk) : Option Zp :=
 ck ((0 : Int) ≤ d.Cell ∧ d.Cell < (cells.length : Int)) <|
 ck ((0 : Int) ≤ d.Dir ∧ d.Dir < 4) <|
 (
  loopF (z9.s0 d cells) big 0 : Option (Unit ⊕ Zp)).bind fun o₁ => match o₁ with
 | .inl _ =>
  some d
 | .inr x1 =>
  some x1

/-! muntin/face.Faces -/
def z5.s2 (cells : List Zk) : (List (Zp × Bool)) × (List Zp) × Zp → Option (((List (Zp × Bool)) × (List Zp) × Zp) ⊕ ((List (Zp × Bool)) × (List Zp))) := fun (met3, f, x4) =>
 if !(mpGet false x4 met3) then
  ck (f.length + [x4].length ≤ 1000000000) <|
  (z9 x4 cells).bind fun x5 =>
  some (.inl (mpSet x4 true met3, f ++ [x4], x5))
 else
  some (.inr (met3, f))

def z5.s1 (cells : List Zk) (x1 : Int) : (List (List Zp)) × (List (Zp × Bool)) × Int → Option (((List (List Zp)) × (List (Zp × Bool)) × Int) ⊕ ((List (List Zp)) × (List (Zp × Bool)))) := fun (l2, met1, x2) =>
 if decide (x2 < 4) then
  (Zac (⟨x1, x2⟩ : Zp) cells).bind fun x3 =>
  if (!x3) || (mpGet false (⟨x1, x2⟩ : Zp) met1) then
   ck (in64 (x2 + 1)) <|
   some (.inl (l2, met1, x2 + 1))
  else
   (loopF (z5.s2 cells) big (met1, ([] : List Zp), (⟨x1, x2⟩ : Zp))).bind fun (met4, f1) =>
   ck (l2.length + 1 ≤ 1000000000) <|
   ck (in64 (x2 + 1)) <|
   some (.inl (l2 ++ [f1], met4, x2 + 1))
 else
  some (.inr (l2, met1))

def z5.s0 (cells : List Zk) : (List (List Zp)) × (List (Zp × Bool)) × Int → Option (((List (List Zp)) × (List (Zp × Bool)) × Int) ⊕ (List (List Zp))) := fun (l, met, x1) =>
 if decide (x1 < (cells.length : Int)) then
  (loopF (z5.s1 cells x1) big (l, met, 0)).bind fun (l3, met2) =>
  ck (in64 (x1 + 1)) <|
  some (.inl (l3, met2, x1 + 1))
 else
  some (.inr l)

def z5 (cells : List Zk) : Option ((List (List Zp)) × Int) :=
 (z4 cells).bind fun x =>
 if !(decide (x = 0)) then
  some (([] : List (List Zp)), x)
 else
  (loopF (z5.s0 cells) big (([] : List (List Zp)), ([] : List (Zp × Bool)), 0)).bind fun l1 =>
  some (l1, 0)

/-! muntin/compass.Turn -/
def Za0 (d : Int) (e_ : Int) : Option Int :=
 (Zad d).bind fun x =>
 (if !x then
  some true
 else
  (Zad e_).bind fun x1 =>
  some (!x1)).bind fun t =>
 if t then
  some 0
 else
  ck (in64 (e_ - d)) <|
  ck (in64 ((e_ - d) + 4)) <|
  ck ((0 : Int) ≤ (((e_ - d) + 4).tmod 4) ∧ (((e_ - d) + 4).tmod 4) < 4) <|
  some ((⟨0, 1, (-2), (-1)⟩ : A4 Int).get (((e_ - d) + 4).tmod 4))

/-! muntin/face.Turns -/
def Zab.s0 (cells : List Zk) (f : List Zp) : (List Int) × Int → Option (((List Int) × Int) ⊕ (List Int)) := fun (l, x1) =>
 if decide (x1 < (f.length : Int)) then
  ck ((0 : Int) ≤ x1 ∧ x1 < (f.length : Int)) <|
  (Zac (gi f (x1 : Int).toNat) cells).bind fun x2 =>
  if x2 then
   (z9 (gi f (x1 : Int).toNat) cells).bind fun x3 =>
   (Za0 ((gi f (x1 : Int).toNat).Dir) x3.Dir).bind fun x4 =>
   ck ((0 : Int) ≤ x1 ∧ x1 < (l.length : Int)) <|
   ck (in64 (x1 + 1)) <|
   some (.inl (l.set (x1 : Int).toNat x4, x1 + 1))
  else
   ck (in64 (x1 + 1)) <|
   some (.inl (l, x1 + 1))
 else
  some (.inr l)

def Zab (cells : List Zk) (f : List Zp) : Option (List Int) :=
 ck ((0 : Int) ≤ (f.length : Int) ∧ (f.length : Int) ≤ 1000000000) <|
 (z4 cells).bind fun x =>
 if !(decide (x = 0)) then
  some (List.replicate ((f.length : Int) : Int).toNat (0 : Int))
 else
  (loopF (Zab.s0 cells f) big (List.replicate ((f.length : Int) : Int).toNat (0 : Int), 0)).bind fun l1 =>
  some l1

/-! muntin/face.Rotation -/
def zU.s0 (turns : List Int) : Int × Int → Option ((Int × Int) ⊕ Int) := fun (n, x) =>
 if decide (x < (turns.length : Int)) then
  ck ((0 : Int) ≤ x ∧ x < (turns.length : Int)) <|
  if (decide ((-2) ≤ (gi turns (x : Int).toNat))) && (decide ((gi turns (x : Int).toNat) ≤ 1)) then
   ck (in64 (n + (gi turns (x : Int).toNat))) <|
   ck (in64 (x + 1)) <|
   some (.inl (n + (gi turns (x : Int).toNat), x + 1))
  else
   ck (in64 (x + 1)) <|
   some (.inl (n, x + 1))
 else
  some (.inr n)

def zU (turns : List Int) : Option Int :=
 (loopF (zU.s0 turns) big (0, 0)).bind fun n1 =>
 some n1

/-! muntin/valid.outer -/
def Zae.s0 (cells : List Zk) (x : List (List Zp)) : Int × Int → Option ((Int × Int) ⊕ (Int ⊕ Unit)) := fun (at_, x2) =>
 if decide (x2 < (x.length : Int)) then
  ck ((0 : Int) ≤ x2 ∧ x2 < (x.length : Int)) <|
  (Zab cells (gi x (x2 : Int).toNat)).bind fun x3 =>
  (zU x3).bind fun x4 =>
  if decide (x4 = 4) then
   ck (in64 (x2 + 1)) <|
   some (.inl (at_, x2 + 1))
  else
   if decide (x4 = (-4)) then
    if decide (0 ≤ at_) then
     some (.inr (.inr ()))
    else
     ck (in64 (x2 + 1)) <|
     some (.inl (x2, x2 + 1))
   else
    some (.inr (.inr ()))
 else
  some (.inr (.inl at_))

def Zae (cells : List Zk) : Option (Int × Bool) :=
 (z5 cells).bind fun (x, x1) =>
 (
  loopF (Zae.s0 cells x) big ((-1), 0) : Option (Int ⊕ Unit)).bind fun o₁ => match o₁ with
 | .inl at_1 =>
  some (at_1, decide (0 ≤ at_1))
 | .inr _ =>
  some (0, false)

/-! muntin/valid.Check -/
def Za5 (cells : List Zk) : Option Int :=
 (z4 cells).bind fun x =>
 if !(decide (x = 0)) then
  some x
 else
  (Za8 cells).bind fun x1 =>
  if !x1 then
   some 13
  else
   (Zae cells).bind fun (x2, x3) =>
   if (!x3) && (decide (1 < (cells.length : Int))) then
    some 10
   else
    some 0

/-! slices.IndexFunc[[]int,int] -/
def zF.s0 (s : List Int) (f : Int → Option Bool) : Int → Option (Int ⊕ (Unit ⊕ Int)) := fun x =>
 if decide (x < (s.length : Int)) then
  ck ((0 : Int) ≤ x ∧ x < (s.length : Int)) <|
  (f (gi s (x : Int).toNat)).bind fun x2 =>
  if x2 then
   some (.inr (.inr x))
  else
   ck (in64 (x + 1)) <|
   some (.inl (x + 1))
 else
  some (.inr (.inl ()))

def zF (s : List Int) (f : Int → Option Bool) : Option Int :=
 (
  loopF (zF.s0 s f) big 0 : Option (Unit ⊕ Int)).bind fun o₁ => match o₁ with
 | .inl _ =>
  some (-1)
 | .inr x1 =>
  some x1

/-! slices.ContainsFunc[[]int,int] -/
def zY (s : List Int) (f : Int → Option Bool) : Option Bool :=
 (zF s f).bind fun x =>
 some (decide (0 ≤ x))

/-! muntin/kitty.right$1 -/
def Za1 (t : Int) : Option Bool :=
 some ((decide (t < (-2))) || (decide (1 < t)))

/-! muntin/kitty.right -/
def Zay (turns : List Int) : Option Bool :=
 (zY turns (fun y0 => Za1 y0)).bind fun x =>
 some (!x)

/-! muntin/kitty.Corners -/
def zt.s1 (turns : List Int) (x : Int) : (List Zd) × Int → Option (((List Zd) × Int) ⊕ (List Zd)) := fun (l2, x1) =>
 if decide (x1 < (-(gi turns (x : Int).toNat))) then
  ck (l2.length + [(⟨x, x1⟩ : Zd)].length ≤ 1000000000) <|
  ck (in64 (x1 + 1)) <|
  some (.inl (l2 ++ [(⟨x, x1⟩ : Zd)], x1 + 1))
 else
  some (.inr l2)

def zt.s0 (turns : List Int) : (List Zd) × Int → Option (((List Zd) × Int) ⊕ (List Zd)) := fun (l, x) =>
 if decide (x < (turns.length : Int)) then
  ck ((0 : Int) ≤ x ∧ x < (turns.length : Int)) <|
  if decide ((gi turns (x : Int).toNat) < (-2)) then
   ck (in64 (x + 1)) <|
   some (.inl (l, x + 1))
  else
   ck (in64 (-(gi turns (x : Int).toNat))) <|
   (loopF (zt.s1 turns x) big (l, 0)).bind fun l3 =>
   ck (in64 (x + 1)) <|
   some (.inl (l3, x + 1))
 else
  some (.inr l)

def zt (turns : List Int) : Option (List Zd) :=
 (loopF (zt.s0 turns) big (([] : List Zd), 0)).bind fun l1 =>
 some l1

/-! muntin/kitty.sums -/
def Zag.s0 (turns : List Int) : (List Int) × Int → Option (((List Int) × Int) ⊕ (List Int)) := fun (l, x) =>
 if decide (x < (turns.length : Int)) then
  ck ((0 : Int) ≤ x ∧ x < (turns.length : Int)) <|
  ck (in64 (x + 1)) <|
  ck ((0 : Int) ≤ x ∧ x < (l.length : Int)) <|
  ck (in64 ((gi l (x : Int).toNat) + (gi turns (x : Int).toNat))) <|
  ck ((0 : Int) ≤ (x + 1) ∧ (x + 1) < (l.length : Int)) <|
  some (.inl (l.set (x + 1 : Int).toNat ((gi l (x : Int).toNat) + (gi turns (x : Int).toNat)), x + 1))
 else
  some (.inr l)

def Zag (turns : List Int) : Option (List Int) :=
 ck (in64 ((turns.length : Int) + 1)) <|
 ck ((0 : Int) ≤ ((turns.length : Int) + 1) ∧ ((turns.length : Int) + 1) ≤ 1000000000) <|
 (loopF (Zag.s0 turns) big (List.replicate ((turns.length : Int) + 1 : Int).toNat (0 : Int), 0)).bind fun l1 =>
 some l1

/-! muntin/kitty.rot -/
def Za3 (l : List Int) (a : Zd) (b : Zd) : Option Int :=
 ck ((0 : Int) ≤ b.At ∧ b.At < (l.length : Int)) <|
 ck (in64 ((gi l (b.At : Int).toNat) - b.Part)) <|
 ck ((0 : Int) ≤ a.At ∧ a.At < (l.length : Int)) <|
 ck (in64 ((gi l (a.At : Int).toNat) - a.Part)) <|
 ck (in64 (((gi l (b.At : Int).toNat) - b.Part) - ((gi l (a.At : Int).toNat) - a.Part))) <|
 if (decide (b.At < a.At)) || ((decide (b.At = a.At)) && (decide (b.Part < a.Part))) then
  ck (in64 ((l.length : Int) - 1)) <|
  ck ((0 : Int) ≤ ((l.length : Int) - 1) ∧ ((l.length : Int) - 1) < (l.length : Int)) <|
  ck (in64 ((((gi l (b.At : Int).toNat) - b.Part) - ((gi l (a.At : Int).toNat) - a.Part)) + (gi l ((l.length : Int) - 1 : Int).toNat))) <|
  some ((((gi l (b.At : Int).toNat) - b.Part) - ((gi l (a.At : Int).toNat) - a.Part)) + (gi l ((l.length : Int) - 1 : Int).toNat))
 else
  some (((gi l (b.At : Int).toNat) - b.Part) - ((gi l (a.At : Int).toNat) - a.Part))

/-! muntin/kitty.Pair -/
def z8.s1 (x1 : List Zd) (x2 : List Int) (x3 : Int) : Int → Option (Int ⊕ (Unit ⊕ Zd)) := fun x6 =>
 if decide (x6 < (x1.length : Int)) then
  ck ((0 : Int) ≤ x6 ∧ x6 < (x1.length : Int)) <|
  (Za3 x2 (gi x1 (x3 : Int).toNat) (gi x1 (x6 : Int).toNat)).bind fun x8 =>
  if decide (x8 = 2) then
   some (.inr (.inr (gi x1 (x6 : Int).toNat)))
  else
   ck (in64 (x6 + 1)) <|
   some (.inl (x6 + 1))
 else
  some (.inr (.inl ()))

def z8.s0 (x1 : List Zd) (x2 : List Int) : Int → Option (Int ⊕ (Unit ⊕ (Zd × Zd))) := fun x3 =>
 if decide (x3 < (x1.length : Int)) then
  ck ((0 : Int) ≤ x3 ∧ x3 < (x1.length : Int)) <|
  (
   loopF (z8.s1 x1 x2 x3) big 0 : Option (Unit ⊕ Zd)).bind fun o₃ => match o₃ with
  | .inl _ =>
   ck (in64 (x3 + 1)) <|
   some (.inl (x3 + 1))
  | .inr x7 =>
   some (.inr (.inr (gi x1 (x3 : Int).toNat, x7)))
 else
  some (.inr (.inl ()))

def z8 (turns : List Int) : Option (Zd × Zd × Bool) :=
 (Zay turns).bind fun x =>
 if !x then
  some ((⟨(0 : Int), (0 : Int)⟩ : Zd), (⟨(0 : Int), (0 : Int)⟩ : Zd), false)
 else
  (zt turns).bind fun x1 =>
  (Zag turns).bind fun x2 =>
  (
   loopF (z8.s0 x1 x2) big 0 : Option (Unit ⊕ (Zd × Zd))).bind fun o₁ => match o₁ with
  | .inl _ =>
   some ((⟨(0 : Int), (0 : Int)⟩ : Zd), (⟨(0 : Int), (0 : Int)⟩ : Zd), false)
  | .inr (x4, x5) =>
   some (x4, x5, true)

/-! muntin/kitty.Regular -/
def zT.s0 (cells : List Zk) (x1 : List (List Zp)) : Int → Option (Int ⊕ (Unit ⊕ Unit)) := fun x3 =>
 if decide (x3 < (x1.length : Int)) then
  ck ((0 : Int) ≤ x3 ∧ x3 < (x1.length : Int)) <|
  (Zab cells (gi x1 (x3 : Int).toNat)).bind fun x4 =>
  (z8 x4).bind fun (x5, x6, x7) =>
  if x7 then
   some (.inr (.inr ()))
  else
   ck (in64 (x3 + 1)) <|
   some (.inl (x3 + 1))
 else
  some (.inr (.inl ()))

def zT (cells : List Zk) : Option (Bool × Int) :=
 (Za5 cells).bind fun x =>
 if !(decide (x = 0)) then
  some (false, x)
 else
  (z5 cells).bind fun (x1, x2) =>
  (
   loopF (zT.s0 cells x1) big 0 : Option (Unit ⊕ Unit)).bind fun o₁ => match o₁ with
  | .inl _ =>
   some (true, 0)
  | .inr _ =>
   some (false, 0)

/-! muntin/muntinref10.Check -/
def zd.s1 (l : List Zk) (v : Int) : Int → Option (Int ⊕ (Unit ⊕ Int)) := fun d =>
 if decide (d < 4) then
  ck ((0 : Int) ≤ v ∧ v < (l.length : Int)) <|
  ck ((0 : Int) ≤ d ∧ d < 4) <|
  if decide (((gi l (v : Int).toNat).Next).get d = (-1)) then
   if !(decide (((gi l (v : Int).toNat).Owner).get d = 0)) then
    some (.inr (.inr 9))
   else
    ck (in64 (d + 1)) <|
    some (.inl (d + 1))
  else
   if ((decide ((((gi l (v : Int).toNat).Next).get d) < 0)) || (decide ((l.length : Int) ≤ (((gi l (v : Int).toNat).Next).get d)))) || (decide (((gi l (v : Int).toNat).Next).get d = v)) then
    some (.inr (.inr 3))
   else
    ck (in64 (d + 2)) <|
    ck ((0 : Int) ≤ (((gi l (v : Int).toNat).Next).get d) ∧ (((gi l (v : Int).toNat).Next).get d) < (l.length : Int)) <|
    ck ((0 : Int) ≤ ((d + 2).tmod 4) ∧ ((d + 2).tmod 4) < 4) <|
    if ((!(decide (((gi l (((gi l (v : Int).toNat).Next).get d : Int).toNat).Next).get ((d + 2).tmod 4) = v))) || (!(decide (((gi l (((gi l (v : Int).toNat).Next).get d : Int).toNat).Owner).get ((d + 2).tmod 4) = ((gi l (v : Int).toNat).Owner).get d)))) || (decide ((((gi l (v : Int).toNat).Owner).get d) < (-2))) then
     some (.inr (.inr 9))
    else
     ck (in64 (d + 1)) <|
     some (.inl (d + 1))
 else
  some (.inr (.inl ()))

def zd.s0 (l : List Zk) : Int → Option (Int ⊕ (Unit ⊕ Int)) := fun v =>
 if decide (v < (l.length : Int)) then
  (
   loopF (zd.s1 l v) big 0 : Option (Unit ⊕ Int)).bind fun o₃ => match o₃ with
  | .inl _ =>
   ck (in64 (v + 1)) <|
   some (.inl (v + 1))
  | .inr x1 =>
   some (.inr (.inr x1))
 else
  some (.inr (.inl ()))

def zd (l : List Zk) : Option Int :=
 if decide (4096 < (l.length : Int)) then
  some 6
 else
  (
   loopF (zd.s0 l) big 0 : Option (Unit ⊕ Int)).bind fun o₁ => match o₁ with
  | .inl _ =>
   some 0
  | .inr x =>
   some x

/-! muntin/muntinref13.Far -/
def ZP.s0 (l : List Zk) : (List Int) × Int → Option (((List Int) × Int) ⊕ (List Int)) := fun (far, i) =>
 if decide (i < (l.length : Int)) then
  ck ((0 : Int) ≤ i ∧ i < (far.length : Int)) <|
  ck (in64 (i + 1)) <|
  some (.inl (far.set (i : Int).toNat (-1), i + 1))
 else
  some (.inr far)

def ZP.s3 (l : List Zk) (round : Int) (i1 : Int) : (List Int) × Int → Option (((List Int) × Int) ⊕ (List Int)) := fun (far6, d) =>
 if decide (d < 4) then
  ck ((0 : Int) ≤ i1 ∧ i1 < (l.length : Int)) <|
  ck ((0 : Int) ≤ d ∧ d < 4) <|
  ck ((0 : Int) ≤ i1 ∧ i1 < (far6.length : Int)) <|
  (if (decide (gi far6 (i1 : Int).toNat = round)) && (decide (0 ≤ (((gi l (i1 : Int).toNat).Next).get d))) then
   ck ((0 : Int) ≤ (max (((gi l (i1 : Int).toNat).Next).get d) 0) ∧ (max (((gi l (i1 : Int).toNat).Next).get d) 0) < (far6.length : Int)) <|
   some (decide ((gi far6 (max (((gi l (i1 : Int).toNat).Next).get d) 0 : Int).toNat) < 0))
  else
   some false).bind fun t =>
  if t then
   ck (in64 (round + 1)) <|
   ck ((0 : Int) ≤ (((gi l (i1 : Int).toNat).Next).get d) ∧ (((gi l (i1 : Int).toNat).Next).get d) < (far6.length : Int)) <|
   ck (in64 (d + 1)) <|
   some (.inl (far6.set (((gi l (i1 : Int).toNat).Next).get d : Int).toNat (round + 1), d + 1))
  else
   ck (in64 (d + 1)) <|
   some (.inl (far6, d + 1))
 else
  some (.inr far6)

def ZP.s2 (l : List Zk) (round : Int) : (List Int) × Int → Option (((List Int) × Int) ⊕ (List Int)) := fun (far4, i1) =>
 if decide (i1 < (l.length : Int)) then
  (loopF (ZP.s3 l round i1) big (far4, 0)).bind fun far7 =>
  ck (in64 (i1 + 1)) <|
  some (.inl (far7, i1 + 1))
 else
  some (.inr far4)

def ZP.s1 (l : List Zk) : (List Int) × Int → Option (((List Int) × Int) ⊕ (List Int)) := fun (far2, round) =>
 if decide (round < (l.length : Int)) then
  (loopF (ZP.s2 l round) big (far2, 0)).bind fun far5 =>
  ck (in64 (round + 1)) <|
  some (.inl (far5, round + 1))
 else
  some (.inr far2)

def ZP (l : List Zk) (v : Int) : Option (List Int) :=
 ck ((0 : Int) ≤ (l.length : Int) ∧ (l.length : Int) ≤ 1000000000) <|
 (loopF (ZP.s0 l) big (List.replicate ((l.length : Int) : Int).toNat (0 : Int), 0)).bind fun far1 =>
 ck ((0 : Int) ≤ v ∧ v < (far1.length : Int)) <|
 (loopF (ZP.s1 l) big (far1.set (v : Int).toNat 0, 0)).bind fun far3 =>
 some far3

/-! muntin/muntinref13.Parts -/
def zg.s1 (l : List Zk) (x : List Int) : (List Bool) × (List Int) × Int → Option (((List Bool) × (List Int) × Int) ⊕ ((List Bool) × (List Int))) := fun (in_1, p, w) =>
 if decide (w < (l.length : Int)) then
  ck ((0 : Int) ≤ w ∧ w < (x.length : Int)) <|
  if decide (0 ≤ (gi x (w : Int).toNat)) then
   ck ((0 : Int) ≤ w ∧ w < (in_1.length : Int)) <|
   ck (p.length + [w].length ≤ 1000000000) <|
   ck (in64 (w + 1)) <|
   some (.inl (in_1.set (w : Int).toNat true, p ++ [w], w + 1))
  else
   ck (in64 (w + 1)) <|
   some (.inl (in_1, p, w + 1))
 else
  some (.inr (in_1, p))

def zg.s0 (l : List Zk) : (List Bool) × (List (List Int)) × Int → Option (((List Bool) × (List (List Int)) × Int) ⊕ (List (List Int))) := fun (in_, out, v) =>
 if decide (v < (l.length : Int)) then
  ck ((0 : Int) ≤ v ∧ v < (in_.length : Int)) <|
  if gi in_ (v : Int).toNat then
   ck (in64 (v + 1)) <|
   some (.inl (in_, out, v + 1))
  else
   (ZP l v).bind fun x =>
   (loopF (zg.s1 l x) big (in_, ([] : List Int), 0)).bind fun (in_2, p1) =>
   ck (out.length + 1 ≤ 1000000000) <|
   ck (in64 (v + 1)) <|
   some (.inl (in_2, out ++ [p1], v + 1))
 else
  some (.inr out)

def zg (l : List Zk) : Option (List (List Int)) :=
 ck ((0 : Int) ≤ (l.length : Int) ∧ (l.length : Int) ≤ 1000000000) <|
 (loopF (zg.s0 l) big (List.replicate ((l.length : Int) : Int).toNat false, ([] : List (List Int)), 0)).bind fun out1 =>
 some out1

/-! muntin/muntinref12.Behind -/
def zr.s0 (l : List Zk) (d : Zr) : Int → Option (Int ⊕ (Unit ⊕ Zr)) := fun i =>
 if decide (i < 4) then
  ck ((0 : Int) ≤ i ∧ i < (([1, 0, 3, 2] : List Int).length : Int)) <|
  ck (in64 (d.Dir + (gi ([1, 0, 3, 2] : List Int) (i : Int).toNat))) <|
  ck ((0 : Int) ≤ (((gi l (d.Cell : Int).toNat).Next).get d.Dir) ∧ (((gi l (d.Cell : Int).toNat).Next).get d.Dir) < (l.length : Int)) <|
  ck ((0 : Int) ≤ ((d.Dir + (gi ([1, 0, 3, 2] : List Int) (i : Int).toNat)).tmod 4) ∧ ((d.Dir + (gi ([1, 0, 3, 2] : List Int) (i : Int).toNat)).tmod 4) < 4) <|
  if decide (0 ≤ (((gi l (((gi l (d.Cell : Int).toNat).Next).get d.Dir : Int).toNat).Next).get ((d.Dir + (gi ([1, 0, 3, 2] : List Int) (i : Int).toNat)).tmod 4))) then
   some (.inr (.inr (⟨((gi l (d.Cell : Int).toNat).Next).get d.Dir, (d.Dir + (gi ([1, 0, 3, 2] : List Int) (i : Int).toNat)).tmod 4⟩ : Zr)))
  else
   ck (in64 (i + 1)) <|
   some (.inl (i + 1))
 else
  some (.inr (.inl ()))

def zr (l : List Zk) (d : Zr) : Option Zr :=
 ck ((0 : Int) ≤ d.Cell ∧ d.Cell < (l.length : Int)) <|
 ck ((0 : Int) ≤ d.Dir ∧ d.Dir < 4) <|
 (
  loopF (zr.s0 l d) big 0 : Option (Unit ⊕ Zr)).bind fun o₁ => match o₁ with
 | .inl _ =>
  some d
 | .inr x =>
  some x

/-! muntin/muntinref12.Faces -/
def ZL.s2 (l : List Zk) : (List Bool) × (List Zr) × Zr → Option (((List Bool) × (List Zr) × Zr) ⊕ ((List Bool) × (List Zr))) := fun (met3, f, d) =>
 ck (in64 (4 * d.Cell)) <|
 ck (in64 ((4 * d.Cell) + d.Dir)) <|
 ck ((0 : Int) ≤ ((4 * d.Cell) + d.Dir) ∧ ((4 * d.Cell) + d.Dir) < (met3.length : Int)) <|
 if !(gi met3 ((4 * d.Cell) + d.Dir : Int).toNat) then
  ck (f.length + [d].length ≤ 1000000000) <|
  (zr l d).bind fun x =>
  some (.inl (met3.set ((4 * d.Cell) + d.Dir : Int).toNat true, f ++ [d], x))
 else
  some (.inr (met3, f))

def ZL.s1 (l : List Zk) (v : Int) : (List Bool) × (List (List Zr)) × Int → Option (((List Bool) × (List (List Zr)) × Int) ⊕ ((List Bool) × (List (List Zr)))) := fun (met1, out2, e_) =>
 if decide (e_ < 4) then
  ck ((0 : Int) ≤ v ∧ v < (l.length : Int)) <|
  ck ((0 : Int) ≤ e_ ∧ e_ < 4) <|
  (if decide ((((gi l (v : Int).toNat).Next).get e_) < 0) then
   some true
  else
   ck (in64 (4 * v)) <|
   ck (in64 ((4 * v) + e_)) <|
   ck ((0 : Int) ≤ ((4 * v) + e_) ∧ ((4 * v) + e_) < (met1.length : Int)) <|
   some (gi met1 ((4 * v) + e_ : Int).toNat)).bind fun t =>
  if t then
   ck (in64 (e_ + 1)) <|
   some (.inl (met1, out2, e_ + 1))
  else
   (loopF (ZL.s2 l) big (met1, ([] : List Zr), (⟨v, e_⟩ : Zr))).bind fun (met4, f1) =>
   ck (out2.length + 1 ≤ 1000000000) <|
   ck (in64 (e_ + 1)) <|
   some (.inl (met4, out2 ++ [f1], e_ + 1))
 else
  some (.inr (met1, out2))

def ZL.s0 (l : List Zk) : (List Bool) × (List (List Zr)) × Int → Option (((List Bool) × (List (List Zr)) × Int) ⊕ (List (List Zr))) := fun (met, out, v) =>
 if decide (v < (l.length : Int)) then
  (loopF (ZL.s1 l v) big (met, out, 0)).bind fun (met2, out3) =>
  ck (in64 (v + 1)) <|
  some (.inl (met2, out3, v + 1))
 else
  some (.inr out)

def ZL (l : List Zk) : Option (List (List Zr)) :=
 ck (in64 (4 * (l.length : Int))) <|
 ck ((0 : Int) ≤ (4 * (l.length : Int)) ∧ (4 * (l.length : Int)) ≤ 1000000000) <|
 (loopF (ZL.s0 l) big (List.replicate (4 * (l.length : Int) : Int).toNat false, ([] : List (List Zr)), 0)).bind fun out1 =>
 some out1

/-! muntin/muntinref01.Good -/
def Zaa (d : Int) : Option Bool :=
 some ((decide (0 ≤ d)) && (decide (d ≤ 3)))

/-! muntin/muntinref01.Left -/
def Zaq (d : Int) (times : Int) : Option Int :=
 (Zaa d).bind fun x =>
 if !x then
  some 0
 else
  if decide ((times.tmod 4) < 0) then
   ck (in64 ((times.tmod 4) + 4)) <|
   ck (in64 (d + ((times.tmod 4) + 4))) <|
   some ((d + ((times.tmod 4) + 4)).tmod 4)
  else
   ck (in64 (d + (times.tmod 4))) <|
   some ((d + (times.tmod 4)).tmod 4)

/-! muntin/muntinref01.Turn -/
def Zao (d : Int) (e_ : Int) : Option Int :=
 (Zaa d).bind fun x =>
 (Zaa e_).bind fun x1 =>
 if ((!x) || (!x1)) || (decide (d = e_)) then
  some 0
 else
  (Zaq d 1).bind fun x2 =>
  if decide (x2 = e_) then
   some 1
  else
   (Zaq d 3).bind fun x3 =>
   if decide (x3 = e_) then
    some (-1)
   else
    some (-2)

/-! muntin/muntinref12.Turns -/
def zA.s0 (l : List Zk) (f : List Zr) : (List Int) × Int → Option (((List Int) × Int) ⊕ (List Int)) := fun (out, i) =>
 if decide (i < (f.length : Int)) then
  ck ((0 : Int) ≤ i ∧ i < (f.length : Int)) <|
  (zr l (gi f (i : Int).toNat)).bind fun x =>
  (Zao ((gi f (i : Int).toNat).Dir) x.Dir).bind fun x1 =>
  ck (out.length + [x1].length ≤ 1000000000) <|
  ck (in64 (i + 1)) <|
  some (.inl (out ++ [x1], i + 1))
 else
  some (.inr out)

def zA (l : List Zk) (f : List Zr) : Option (List Int) :=
 (loopF (zA.s0 l f) big (([] : List Int), 0)).bind fun out1 =>
 some out1

/-! muntin/muntinref12.Rotation -/
def z7.s0 (t : List Int) : Int × Int → Option ((Int × Int) ⊕ Int) := fun (n, i) =>
 if decide (i < (t.length : Int)) then
  ck ((0 : Int) ≤ i ∧ i < (t.length : Int)) <|
  if (decide ((-2) ≤ (gi t (i : Int).toNat))) && (decide ((gi t (i : Int).toNat) ≤ 1)) then
   ck (in64 (n + (gi t (i : Int).toNat))) <|
   ck (in64 (i + 1)) <|
   some (.inl (n + (gi t (i : Int).toNat), i + 1))
  else
   ck (in64 (i + 1)) <|
   some (.inl (n, i + 1))
 else
  some (.inr n)

def z7 (t : List Int) : Option Int :=
 (loopF (z7.s0 t) big (0, 0)).bind fun n1 =>
 some n1

/-! muntin/muntinref14.Outer -/
def zG.s0 (l : List Zk) (x2 : List (List Zr)) : Int × Int → Option ((Int × Int) ⊕ (Int ⊕ Unit)) := fun (at_, i) =>
 if decide (i < (x2.length : Int)) then
  ck ((0 : Int) ≤ i ∧ i < (x2.length : Int)) <|
  (zA l (gi x2 (i : Int).toNat)).bind fun x3 =>
  (z7 x3).bind fun x4 =>
  if ((!(decide (x4 = 4))) && (!(decide (x4 = (-4))))) || ((decide (x4 = (-4))) && (decide (0 ≤ at_))) then
   some (.inr (.inr ()))
  else
   if decide (x4 = (-4)) then
    ck (in64 (i + 1)) <|
    some (.inl (i, i + 1))
   else
    ck (in64 (i + 1)) <|
    some (.inl (at_, i + 1))
 else
  some (.inr (.inl at_))

def zG (l : List Zk) : Option (Int × Int) :=
 (zd l).bind fun x =>
 if !(decide (x = 0)) then
  some ((-1), x)
 else
  (zg l).bind fun x1 =>
  if !(decide ((x1.length : Int) = 1)) then
   some ((-1), 13)
  else
   if decide ((l.length : Int) = 1) then
    some ((-1), 0)
   else
    (ZL l).bind fun x2 =>
    (
     loopF (zG.s0 l x2) big ((-1), 0) : Option (Int ⊕ Unit)).bind fun o₁ => match o₁ with
    | .inl at_1 =>
     if decide (at_1 < 0) then
      some ((-1), 10)
     else
      some (at_1, 0)
    | .inr _ =>
     some ((-1), 10)

/-! muntin/muntinref15.Corners -/
def zw.s0 (t : List Int) : (List Zl) × Int → Option (((List Zl) × Int) ⊕ (List Zl)) := fun (l, i) =>
 if decide (i < (t.length : Int)) then
  ck ((0 : Int) ≤ i ∧ i < (t.length : Int)) <|
  (
   if (decide (gi t (i : Int).toNat = (-1))) || (decide (gi t (i : Int).toNat = (-2))) then
    ck (l.length + [(⟨i, (0 : Int)⟩ : Zl)].length ≤ 1000000000) <|
    some (l ++ [(⟨i, (0 : Int)⟩ : Zl)])
   else
    some l).bind fun l2 =>
  if decide (gi t (i : Int).toNat = (-2)) then
   ck (l2.length + [(⟨i, 1⟩ : Zl)].length ≤ 1000000000) <|
   ck (in64 (i + 1)) <|
   some (.inl (l2 ++ [(⟨i, 1⟩ : Zl)], i + 1))
  else
   ck (in64 (i + 1)) <|
   some (.inl (l2, i + 1))
 else
  some (.inr l)

def zw (t : List Int) : Option (List Zl) :=
 (loopF (zw.s0 t) big (([] : List Zl), 0)).bind fun l1 =>
 some l1

/-! muntin/muntinref15.Rot -/
def zj.s0 (t : List Int) (a : Zl) (b : Zl) : (List Int) × Int × Int × Int → Option (((List Int) × Int × Int × Int) ⊕ ((List Int) × Int × Int)) := fun (single, from_, to_, i) =>
 if decide (i < (t.length : Int)) then
  (
   if decide (i = a.At) then
    ck (in64 ((single.length : Int) + a.Part)) <|
    some ((single.length : Int) + a.Part)
   else
    some from_).bind fun from_2 =>
  (
   if decide (i = b.At) then
    ck (in64 ((single.length : Int) + b.Part)) <|
    some ((single.length : Int) + b.Part)
   else
    some to_).bind fun to_2 =>
  ck ((0 : Int) ≤ i ∧ i < (t.length : Int)) <|
  if decide (gi t (i : Int).toNat = (-2)) then
   ck (single.length + ([(-1), (-1)] : List Int).length ≤ 1000000000) <|
   ck (in64 (i + 1)) <|
   some (.inl (single ++ ([(-1), (-1)] : List Int), from_2, to_2, i + 1))
  else
   ck (single.length + [gi t (i : Int).toNat].length ≤ 1000000000) <|
   ck (in64 (i + 1)) <|
   some (.inl (single ++ [gi t (i : Int).toNat], from_2, to_2, i + 1))
 else
  some (.inr (single, from_, to_))

def zj.s1 (single1 : List Int) (to_1 : Int) : Int × Int → Option ((Int × Int) ⊕ Int) := fun (sum, k_) =>
 if !(decide (k_ = to_1)) then
  ck ((0 : Int) ≤ k_ ∧ k_ < (single1.length : Int)) <|
  ck (in64 (sum + (gi single1 (k_ : Int).toNat))) <|
  ck (in64 (k_ + 1)) <|
  ck (((single1.length : Int) : Int) ≠ 0) <|
  some (.inl (sum + (gi single1 (k_ : Int).toNat), (k_ + 1).tmod (single1.length : Int)))
 else
  some (.inr sum)

def zj (t : List Int) (a : Zl) (b : Zl) : Option Int :=
 (loopF (zj.s0 t a b) big (([] : List Int), 0, 0, 0)).bind fun (single1, from_1, to_1) =>
 (loopF (zj.s1 single1 to_1) big (0, from_1)).bind fun sum1 =>
 some sum1

/-! muntin/muntinref15.Pair -/
def zf.s1 (t : List Int) (x : List Zl) (i : Int) : Int → Option (Int ⊕ (Unit ⊕ Zl)) := fun k_ =>
 if decide (k_ < (x.length : Int)) then
  ck ((0 : Int) ≤ i ∧ i < (x.length : Int)) <|
  ck ((0 : Int) ≤ k_ ∧ k_ < (x.length : Int)) <|
  (zj t (gi x (i : Int).toNat) (gi x (k_ : Int).toNat)).bind fun x4 =>
  if decide (x4 = 2) then
   some (.inr (.inr (gi x (k_ : Int).toNat)))
  else
   ck (in64 (k_ + 1)) <|
   some (.inl (k_ + 1))
 else
  some (.inr (.inl ()))

def zf.s0 (t : List Int) (x : List Zl) : Int → Option (Int ⊕ (Unit ⊕ (Zl × Zl))) := fun i =>
 if decide (i < (x.length : Int)) then
  (
   loopF (zf.s1 t x i) big 0 : Option (Unit ⊕ Zl)).bind fun o₃ => match o₃ with
  | .inl _ =>
   ck (in64 (i + 1)) <|
   some (.inl (i + 1))
  | .inr x3 =>
   some (.inr (.inr (gi x (i : Int).toNat, x3)))
 else
  some (.inr (.inl ()))

def zf (t : List Int) : Option (Zl × Zl × Bool) :=
 (zw t).bind fun x =>
 (
  loopF (zf.s0 t x) big 0 : Option (Unit ⊕ (Zl × Zl))).bind fun o₁ => match o₁ with
 | .inl _ =>
  some ((⟨(0 : Int), (0 : Int)⟩ : Zl), (⟨(0 : Int), (0 : Int)⟩ : Zl), false)
 | .inr (x1, x2) =>
  some (x1, x2, true)

/-! slices.Index[[]muntin/kitty.Corner,muntin/kitty.Corner] -/
def zJ.s0 (s : List Zd) (v : Zd) : Int → Option (Int ⊕ (Unit ⊕ Int)) := fun x =>
 if decide (x < (s.length : Int)) then
  ck ((0 : Int) ≤ x ∧ x < (s.length : Int)) <|
  if decide (v = gi s (x : Int).toNat) then
   some (.inr (.inr x))
  else
   ck (in64 (x + 1)) <|
   some (.inl (x + 1))
 else
  some (.inr (.inl ()))

def zJ (s : List Zd) (v : Zd) : Option Int :=
 (
  loopF (zJ.s0 s v) big 0 : Option (Unit ⊕ Int)).bind fun o₁ => match o₁ with
 | .inl _ =>
  some (-1)
 | .inr x1 =>
  some x1

/-! slices.Contains[[]muntin/kitty.Corner,muntin/kitty.Corner] -/
def zK (s : List Zd) (v : Zd) : Option Bool :=
 (zJ s v).bind fun x =>
 some (decide (0 ≤ x))

/-! muntin/kitty.Rot -/
def ZaC (turns : List Int) (a : Zd) (b : Zd) : Option (Int × Int) :=
 (zt turns).bind fun x =>
 (Zay turns).bind fun x1 =>
 (if !x1 then
  some true
 else
  (zK x a).bind fun x2 =>
  some (!x2)).bind fun t =>
 (if t then
  some true
 else
  (zK x b).bind fun x3 =>
  some (!x3)).bind fun t1 =>
 if t1 then
  some (0, 2)
 else
  (Zag turns).bind fun x4 =>
  (Za3 x4 a b).bind fun x5 =>
  some (x5, 0)

/-! muntin/muntinlaw15.wakes -/
def Zav : Option Bool :=
 (z8 ([(-1), 1, 1, (-1), 1, 1, (-1), 1, 1, (-1), 1, 1] : List Int)).bind fun (x, x1, x2) =>
 (ZaC ([(-2), (-2)] : List Int) (⟨(0 : Int), (0 : Int)⟩ : Zd) (⟨1, (0 : Int)⟩ : Zd)).bind fun (x3, x4) =>
 (ZaC ([1] : List Int) (⟨(0 : Int), (0 : Int)⟩ : Zd) (⟨(0 : Int), (0 : Int)⟩ : Zd)).bind fun (x5, x6) =>
 (z8 ([(-1), 1, 1, 1, 1, 1] : List Int)).bind fun (x7, x8, x9) =>
 some (((((((decide (x = (⟨(0 : Int), (0 : Int)⟩ : Zd))) && (decide (x1 = (⟨6, (0 : Int)⟩ : Zd)))) && x2) && (decide (x3 = (-2)))) && (decide (x4 = 0))) && (decide (x6 = 2))) && (!x9))

/-! muntin/muntinlaw15.KittyRegular -/
def ZK.s1 (raw : List Zk) (x : List Zk) (x2 : Int) (x7 : List (List Zr)) : Bool × Int → Option ((Bool × Int) ⊕ Bool) := fun (want, x8) =>
 if decide (x8 < (x7.length : Int)) then
  ck ((0 : Int) ≤ x8 ∧ x8 < (x7.length : Int)) <|
  (zA (gi [x, raw.take (min (raw.length : Int) 4 : Int).toNat] (x2 : Int).toNat) (gi x7 (x8 : Int).toNat)).bind fun x9 =>
  (zf x9).bind fun (x10, x11, x12) =>
  if x12 then
   ck (in64 (x8 + 1)) <|
   some (.inl (false, x8 + 1))
  else
   ck (in64 (x8 + 1)) <|
   some (.inl (want, x8 + 1))
 else
  some (.inr want)

def ZK.s0 (raw : List Zk) (x : List Zk) : Int → Option (Int ⊕ (Unit ⊕ Unit)) := fun x2 =>
 if decide (x2 < ([x, raw.take (min (raw.length : Int) 4 : Int).toNat].length : Int)) then
  ck ((0 : Int) ≤ x2 ∧ x2 < ([x, raw.take (min (raw.length : Int) 4 : Int).toNat].length : Int)) <|
  (zT (gi [x, raw.take (min (raw.length : Int) 4 : Int).toNat] (x2 : Int).toNat)).bind fun (x3, x4) =>
  (zG (gi [x, raw.take (min (raw.length : Int) 4 : Int).toNat] (x2 : Int).toNat)).bind fun (x5, x6) =>
  if !(decide (x4 = x6)) then
   some (.inr (.inr ()))
  else
   if decide (x6 = 0) then
    (ZL (gi [x, raw.take (min (raw.length : Int) 4 : Int).toNat] (x2 : Int).toNat)).bind fun x7 =>
    (loopF (ZK.s1 raw x x2 x7) big (decide (x6 = 0), 0)).bind fun want1 =>
    if !(decide (x3 = want1)) then
     some (.inr (.inr ()))
    else
     ck (in64 (x2 + 1)) <|
     some (.inl (x2 + 1))
   else
    if !(decide (x3 = (decide (x6 = 0)))) then
     some (.inr (.inr ()))
    else
     ck (in64 (x2 + 1)) <|
     some (.inl (x2 + 1))
 else
  some (.inr (.inl ()))

def ZK (z : zn) (raw : List Zk) : Option Bool :=
 (ZF z 16).bind fun (x, x1) =>
 ck ((0 : Int) ≤ (min (raw.length : Int) 4) ∧ (min (raw.length : Int) 4) ≤ (raw.length : Int)) <|
 (
  loopF (ZK.s0 raw x) big 0 : Option (Unit ⊕ Unit)).bind fun o₁ => match o₁ with
 | .inl _ =>
  (Zav ).bind fun x13 =>
  some x13
 | .inr _ =>
  some false

end Mu
