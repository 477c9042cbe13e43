/- What the functions work out. -/
import Derived.Test.YtofdeafffbkgbaaMuA
import Derived.Test.YtofdeafffbkgbaaMuR
set_option linter.unusedVariables false
set_option linter.unnecessarySimpa false
set_option linter.unusedSimpArgs false
set_option maxHeartbeats 2000000
set_option maxRecDepth 10000
namespace Mu
open Go (IntKind BinOp UnOp)
structure T_muntinref10_Places where
  At : List Int
  Bits : List Int
  Own : List Int
  deriving DecidableEq, Inhabited
abbrev e_u8 : Enc Int := ⟨1, fun x => [.i .u8 x], fun _ => rfl⟩
theorem e_u8.one (x : Int) : (e_u8.c x).all V.one = true := rfl
abbrev e_i8 : Enc Int := ⟨1, fun x => [.i .i8 x], fun _ => rfl⟩
theorem e_i8.one (x : Int) : (e_i8.c x).all V.one = true := rfl
abbrev e_A2_u8 : Enc (A2 Int) := ⟨2, fun x => [.i .u8 x.a, .i .u8 x.b], fun _ => rfl⟩
theorem e_A2_u8.one (x : A2 Int) : (e_A2_u8.c x).all V.one = true := rfl
structure T_api_Cell where
  Next : A4 Int
  Owner : A4 Int
  deriving DecidableEq, Inhabited
structure T_api_Point where
  X : Int
  Y : Int
  deriving DecidableEq, Inhabited
abbrev e_T_api_Point : Enc T_api_Point := ⟨2, fun x => [.i .i64 x.X, .i .i64 x.Y], fun _ => rfl⟩
theorem e_T_api_Point.one (x : T_api_Point) : (e_T_api_Point.c x).all V.one = true := rfl
theorem e_T_api_Point.same (x y : T_api_Point) : sameAll [.i, .i] (e_T_api_Point.c x) (e_T_api_Point.c y) = some (decide (x = y)) := by
  obtain ⟨x1, x2⟩ := x
  obtain ⟨y1, y2⟩ := y
  refine (sameAll_i (sameAll_i sameAll_nil)).trans ?_
  congr 1
  rw [Bool.eq_iff_iff]
  simp [and_assoc]
abbrev e_T_api_Cell : Enc T_api_Cell := ⟨8, fun x => [.i .i64 x.Next.a, .i .i64 x.Next.b, .i .i64 x.Next.c, .i .i64 x.Next.d, .i .i64 x.Owner.a, .i .i64 x.Owner.b, .i .i64 x.Owner.c, .i .i64 x.Owner.d], fun _ => rfl⟩
theorem e_T_api_Cell.one (x : T_api_Cell) : (e_T_api_Cell.c x).all V.one = true := rfl
abbrev e_bool : Enc Bool := ⟨1, fun x => [.b x], fun _ => rfl⟩
theorem e_bool.one (x : Bool) : (e_bool.c x).all V.one = true := rfl
def Ok_u8 (x : Int) : Prop := Wf .u8 x
def Ok_i8 (x : Int) : Prop := Wf .i8 x
def Ok_A2_u8 (x : A2 Int) : Prop := Wf .u8 x.a ∧ Wf .u8 x.b
/-! muntin/muntinref10.New -/
def p_muntinref10_New.s1 (v : Int) : (List T_api_Cell) × Int → Option (((List T_api_Cell) × Int) ⊕ (List T_api_Cell)) := fun (l2, d) =>
  if decide (d < 4) then
    ck ((0 : Int) ≤ v ∧ v < (l2.length : Int)) <|
    ck ((0 : Int) ≤ d ∧ d < 4) <|
    ck (in64 (d + 1)) <|
    some (.inl (l2.set (v : Int).toNat ({ gi l2 (v : Int).toNat with Next := ((gi l2 (v : Int).toNat).Next).set d (-1) }), d + 1))
  else
    some (.inr l2)

def p_muntinref10_New.s0 (n : Int) : (List T_api_Cell) × Int → Option (((List T_api_Cell) × Int) ⊕ (List T_api_Cell)) := fun (l, v) =>
  if decide (v < n) then
    (loopF (p_muntinref10_New.s1 v) big (l, 0)).bind fun l3 =>
    ck (in64 (v + 1)) <|
    some (.inl (l3, v + 1))
  else
    some (.inr l)

def p_muntinref10_New (n : Int) : Option (List T_api_Cell) :=
  ck ((0 : Int) ≤ n ∧ n ≤ 1000000000) <|
  (loopF (p_muntinref10_New.s0 n) big (List.replicate (n : Int).toNat (⟨⟨0, 0, 0, 0⟩, ⟨0, 0, 0, 0⟩⟩ : T_api_Cell), 0)).bind fun l1 =>
  some l1

/-! muntin/muntinref10.Nearest -/
def p_muntinref10_Nearest.s0 (at_ : List T_api_Point) (i : Int) (d : Int) : Int × Int → Option ((Int × Int) ⊕ Int) := fun (best, k_) =>
  if decide (k_ < (at_.length : Int)) then
    (if decide (d = 0) then
      ck ((0 : Int) ≤ k_ ∧ k_ < (at_.length : Int)) <|
      ck ((0 : Int) ≤ i ∧ i < (at_.length : Int)) <|
      some (decide ((gi at_ (k_ : Int).toNat).Y = (gi at_ (i : Int).toNat).Y))
    else
      some false).bind fun t =>
    (if t then
      ck ((0 : Int) ≤ k_ ∧ k_ < (at_.length : Int)) <|
      ck ((0 : Int) ≤ i ∧ i < (at_.length : Int)) <|
      some (decide (((gi at_ (i : Int).toNat).X) < ((gi at_ (k_ : Int).toNat).X)))
    else
      some false).bind fun t1 =>
    (if t1 then
      (if decide (best < 0) then
        some true
      else
        ck ((0 : Int) ≤ k_ ∧ k_ < (at_.length : Int)) <|
        ck ((0 : Int) ≤ best ∧ best < (at_.length : Int)) <|
        some (decide (((gi at_ (k_ : Int).toNat).X) < ((gi at_ (best : Int).toNat).X)))).bind fun t3 =>
      some t3
    else
      some false).bind fun t2 =>
    (
      if t2 then
        some k_
      else
        some best).bind fun best2 =>
    (if decide (d = 1) then
      ck ((0 : Int) ≤ k_ ∧ k_ < (at_.length : Int)) <|
      ck ((0 : Int) ≤ i ∧ i < (at_.length : Int)) <|
      some (decide ((gi at_ (k_ : Int).toNat).X = (gi at_ (i : Int).toNat).X))
    else
      some false).bind fun t4 =>
    (if t4 then
      ck ((0 : Int) ≤ k_ ∧ k_ < (at_.length : Int)) <|
      ck ((0 : Int) ≤ i ∧ i < (at_.length : Int)) <|
      some (decide (((gi at_ (i : Int).toNat).Y) < ((gi at_ (k_ : Int).toNat).Y)))
    else
      some false).bind fun t5 =>
    (if t5 then
      (if decide (best2 < 0) then
        some true
      else
        ck ((0 : Int) ≤ k_ ∧ k_ < (at_.length : Int)) <|
        ck ((0 : Int) ≤ best2 ∧ best2 < (at_.length : Int)) <|
        some (decide (((gi at_ (k_ : Int).toNat).Y) < ((gi at_ (best2 : Int).toNat).Y)))).bind fun t7 =>
      some t7
    else
      some false).bind fun t6 =>
    if t6 then
      ck (in64 (k_ + 1)) <|
      some (.inl (k_, k_ + 1))
    else
      ck (in64 (k_ + 1)) <|
      some (.inl (best2, k_ + 1))
  else
    some (.inr best)

def p_muntinref10_Nearest (at_ : List T_api_Point) (i : Int) (d : Int) : Option Int :=
  (loopF (p_muntinref10_Nearest.s0 at_ i d) big ((-1), 0)).bind fun best1 =>
  some best1

/-! muntin/muntinref10.Crossed -/
def p_muntinref10_Crossed.s1 (at_ : List T_api_Point) (l : List T_api_Cell) (i : Int) (w : Int) (a : Int) : Int → Option (Int ⊕ (Unit ⊕ Unit)) := fun d =>
  if decide (d < 2) then
    ck ((0 : Int) ≤ a ∧ a < (l.length : Int)) <|
    ck ((0 : Int) ≤ d ∧ d < 4) <|
    if decide ((((gi l (a : Int).toNat).Next).get d) < 0) then
      ck (in64 (d + 1)) <|
      some (.inl (d + 1))
    else
      ck ((0 : Int) ≤ a ∧ a < (at_.length : Int)) <|
      ck ((0 : Int) ≤ (((gi l (a : Int).toNat).Next).get d) ∧ (((gi l (a : Int).toNat).Next).get d) < (at_.length : Int)) <|
      (if decide ((gi at_ (a : Int).toNat).Y = (gi at_ (((gi l (a : Int).toNat).Next).get d : Int).toNat).Y) then
        ck ((0 : Int) ≤ i ∧ i < (at_.length : Int)) <|
        ck ((0 : Int) ≤ w ∧ w < (at_.length : Int)) <|
        some (decide ((gi at_ (i : Int).toNat).X = (gi at_ (w : Int).toNat).X))
      else
        some false).bind fun t =>
      (if t then
        ck ((0 : Int) ≤ i ∧ i < (at_.length : Int)) <|
        some (decide (((gi at_ (a : Int).toNat).X) < ((gi at_ (i : Int).toNat).X)))
      else
        some false).bind fun t1 =>
      (if t1 then
        ck ((0 : Int) ≤ i ∧ i < (at_.length : Int)) <|
        some (decide (((gi at_ (i : Int).toNat).X) < ((gi at_ (((gi l (a : Int).toNat).Next).get d : Int).toNat).X)))
      else
        some false).bind fun t2 =>
      (if t2 then
        ck ((0 : Int) ≤ i ∧ i < (at_.length : Int)) <|
        some (decide (((gi at_ (i : Int).toNat).Y) < ((gi at_ (a : Int).toNat).Y)))
      else
        some false).bind fun t3 =>
      (if t3 then
        ck ((0 : Int) ≤ w ∧ w < (at_.length : Int)) <|
        some (decide (((gi at_ (a : Int).toNat).Y) < ((gi at_ (w : Int).toNat).Y)))
      else
        some false).bind fun t4 =>
      if t4 then
        some (.inr (.inr ()))
      else
        (if decide ((gi at_ (a : Int).toNat).X = (gi at_ (((gi l (a : Int).toNat).Next).get d : Int).toNat).X) then
          ck ((0 : Int) ≤ i ∧ i < (at_.length : Int)) <|
          ck ((0 : Int) ≤ w ∧ w < (at_.length : Int)) <|
          some (decide ((gi at_ (i : Int).toNat).Y = (gi at_ (w : Int).toNat).Y))
        else
          some false).bind fun t5 =>
        (if t5 then
          ck ((0 : Int) ≤ i ∧ i < (at_.length : Int)) <|
          some (decide (((gi at_ (i : Int).toNat).X) < ((gi at_ (a : Int).toNat).X)))
        else
          some false).bind fun t6 =>
        (if t6 then
          ck ((0 : Int) ≤ w ∧ w < (at_.length : Int)) <|
          some (decide (((gi at_ (a : Int).toNat).X) < ((gi at_ (w : Int).toNat).X)))
        else
          some false).bind fun t7 =>
        (if t7 then
          ck ((0 : Int) ≤ i ∧ i < (at_.length : Int)) <|
          some (decide (((gi at_ (a : Int).toNat).Y) < ((gi at_ (i : Int).toNat).Y)))
        else
          some false).bind fun t8 =>
        (if t8 then
          ck ((0 : Int) ≤ i ∧ i < (at_.length : Int)) <|
          some (decide (((gi at_ (i : Int).toNat).Y) < ((gi at_ (((gi l (a : Int).toNat).Next).get d : Int).toNat).Y)))
        else
          some false).bind fun t9 =>
        if t9 then
          some (.inr (.inr ()))
        else
          ck (in64 (d + 1)) <|
          some (.inl (d + 1))
  else
    some (.inr (.inl ()))

def p_muntinref10_Crossed.s0 (at_ : List T_api_Point) (l : List T_api_Cell) (i : Int) (w : Int) : Int → Option (Int ⊕ (Unit ⊕ Unit)) := fun a =>
  if decide (a < (l.length : Int)) then
    (
      loopF (p_muntinref10_Crossed.s1 at_ l i w a) big 0 : Option (Unit ⊕ Unit)).bind fun o₃ => match o₃ with
    | .inl _ =>
      ck (in64 (a + 1)) <|
      some (.inl (a + 1))
    | .inr _ =>
      some (.inr (.inr ()))
  else
    some (.inr (.inl ()))

def p_muntinref10_Crossed (at_ : List T_api_Point) (l : List T_api_Cell) (i : Int) (w : Int) : Option Bool :=
  (
    loopF (p_muntinref10_Crossed.s0 at_ l i w) big 0 : Option (Unit ⊕ Unit)).bind fun o₁ => match o₁ with
  | .inl _ =>
    some false
  | .inr _ =>
    some true

/-! muntin/muntinref10.with -/
def p_muntinref10_with.s0 (l : List T_api_Cell) (v : Int) (d : Int) (w : Int) (o : Int) : (List T_api_Cell) × Int → Option (((List T_api_Cell) × Int) ⊕ (List T_api_Cell)) := fun (out, i) =>
  if decide (i < (l.length : Int)) then
    ck ((0 : Int) ≤ i ∧ i < (l.length : Int)) <|
    (
      if decide (i = v) then
        ck ((0 : Int) ≤ d ∧ d < 4) <|
        some ({ { gi l (i : Int).toNat with Next := ((gi l (i : Int).toNat).Next).set d w } with Owner := (({ gi l (i : Int).toNat with Next := ((gi l (i : Int).toNat).Next).set d w }).Owner).set d o })
      else
        some (gi l (i : Int).toNat)).bind fun c =>
    if decide (i = w) then
      ck (in64 (d + 2)) <|
      ck ((0 : Int) ≤ ((d + 2).tmod 4) ∧ ((d + 2).tmod 4) < 4) <|
      ck (out.length + [{ { c with Next := c.Next.set ((d + 2).tmod 4) v } with Owner := (({ c with Next := c.Next.set ((d + 2).tmod 4) v }).Owner).set ((d + 2).tmod 4) o }].length ≤ 1000000000) <|
      ck (in64 (i + 1)) <|
      some (.inl (out ++ [{ { c with Next := c.Next.set ((d + 2).tmod 4) v } with Owner := (({ c with Next := c.Next.set ((d + 2).tmod 4) v }).Owner).set ((d + 2).tmod 4) o }], i + 1))
    else
      ck (out.length + [c].length ≤ 1000000000) <|
      ck (in64 (i + 1)) <|
      some (.inl (out ++ [c], i + 1))
  else
    some (.inr out)

def p_muntinref10_with (l : List T_api_Cell) (v : Int) (d : Int) (w : Int) (o : Int) : Option (List T_api_Cell) :=
  (loopF (p_muntinref10_with.s0 l v d w o) big (([] : List T_api_Cell), 0)).bind fun out1 =>
  some out1

/-! muntin/muntinref10.Make -/
def p_muntinref10_Make.s1 (z : T_muntinref10_Places) (at_ : List T_api_Point) (i : Int) : Bool × Int → Option ((Bool × Int) ⊕ ((List T_api_Point) × Bool)) := fun (met, k_) =>
  if decide (k_ < (at_.length : Int)) then
    (if met then
      some true
    else
      ck ((0 : Int) ≤ k_ ∧ k_ < (at_.length : Int)) <|
      some (decide (gi at_ (k_ : Int).toNat = (⟨(gi z.At (i : Int).toNat).tmod 8, ((gi z.At (i : Int).toNat).tdiv 8).tmod 8⟩ : T_api_Point)))).bind fun t =>
    ck (in64 (k_ + 1)) <|
    some (.inl (t, k_ + 1))
  else
    some (.inr (at_, met))

def p_muntinref10_Make.s0 (z : T_muntinref10_Places) (most : Int) : (List T_api_Point) × Int → Option (((List T_api_Point) × Int) ⊕ (List T_api_Point)) := fun (at_, i) =>
  if (decide (i < (z.At.length : Int))) && (decide ((at_.length : Int) < most)) then
    ck ((0 : Int) ≤ i ∧ i < (z.At.length : Int)) <|
    ck (inK .i64 (gi z.At (i : Int).toNat)) <|
    ck ((8 : Int) ≠ 0 ∧ in64 ((gi z.At (i : Int).toNat).tdiv 8)) <|
    (loopF (p_muntinref10_Make.s1 z at_ i) big (false, 0)).bind fun (at_2, met1) =>
    if !met1 then
      ck (at_2.length + [(⟨(gi z.At (i : Int).toNat).tmod 8, ((gi z.At (i : Int).toNat).tdiv 8).tmod 8⟩ : T_api_Point)].length ≤ 1000000000) <|
      ck (in64 (i + 1)) <|
      some (.inl (at_2 ++ [(⟨(gi z.At (i : Int).toNat).tmod 8, ((gi z.At (i : Int).toNat).tdiv 8).tmod 8⟩ : T_api_Point)], i + 1))
    else
      ck (in64 (i + 1)) <|
      some (.inl (at_2, i + 1))
  else
    some (.inr at_)

def p_muntinref10_Make.s3 (i1 : Int) (bits : Int) (at_6 : List T_api_Point) (own : Int) : (List T_api_Cell) × Int → Option (((List T_api_Cell) × Int) ⊕ (List T_api_Cell)) := fun (l4, d) =>
  if decide (d < 2) then
    (p_muntinref10_Nearest at_6 i1 d).bind fun x1 =>
    ck ((0 : Int) ≤ d) <|
    if (decide (ari_and .u8 (sh_shr .u8 bits d) 1 = 0)) || (decide (x1 < 0)) then
      ck (in64 (d + 1)) <|
      some (.inl (l4, d + 1))
    else
      (p_muntinref10_Crossed at_6 l4 i1 x1).bind fun x2 =>
      if !x2 then
        (p_muntinref10_with l4 i1 d x1 own).bind fun x3 =>
        ck (in64 (d + 1)) <|
        some (.inl (x3, d + 1))
      else
        ck (in64 (d + 1)) <|
        some (.inl (l4, d + 1))
  else
    some (.inr l4)

def p_muntinref10_Make.s2 (z : T_muntinref10_Places) : (List T_api_Point) × (List T_api_Cell) × Int → Option (((List T_api_Point) × (List T_api_Cell) × Int) ⊕ ((List T_api_Point) × (List T_api_Cell))) := fun (at_3, l, i1) =>
  if decide (i1 < (at_3.length : Int)) then
    (
      if decide (i1 < (z.Bits.length : Int)) then
        ck ((0 : Int) ≤ i1 ∧ i1 < (z.Bits.length : Int)) <|
        some (at_3, l, gi z.Bits (i1 : Int).toNat)
      else
        some (at_3, l, 3)).bind fun (at_5, l2, bits) =>
    (
      if decide (i1 < (z.Own.length : Int)) then
        ck ((0 : Int) ≤ i1 ∧ i1 < (z.Own.length : Int)) <|
        ck (inK .i64 (gi z.Own (i1 : Int).toNat)) <|
        if decide ((gi z.Own (i1 : Int).toNat) < (-2)) then
          ck (in64 (-(gi z.Own (i1 : Int).toNat))) <|
          some (at_5, l2, -(gi z.Own (i1 : Int).toNat))
        else
          some (at_5, l2, gi z.Own (i1 : Int).toNat)
      else
        some (at_5, l2, i1)).bind fun (at_6, l3, own) =>
    (loopF (p_muntinref10_Make.s3 i1 bits at_6 own) big (l3, 0)).bind fun l5 =>
    ck (in64 (i1 + 1)) <|
    some (.inl (at_6, l5, i1 + 1))
  else
    some (.inr (at_3, l))

def p_muntinref10_Make (z : T_muntinref10_Places) (most : Int) : Option ((List T_api_Cell) × (List T_api_Point)) :=
  (loopF (p_muntinref10_Make.s0 z most) big (([] : List T_api_Point), 0)).bind fun at_1 =>
  (p_muntinref10_New (at_1.length : Int)).bind fun x =>
  (loopF (p_muntinref10_Make.s2 z) big (at_1, x, 0)).bind fun (at_4, l1) =>
  some (l1, at_4)

/-! muntin/compass.Good -/
def p_compass_Good (d : Int) : Option Bool :=
  some ((decide (0 ≤ d)) && (decide (d ≤ 3)))

/-! muntin/compass.Left -/
def p_compass_Left (d : Int) (times : Int) : Option Int :=
  (p_compass_Good d).bind fun x =>
  if !x then
    some 0
  else
    ck (in64 (d + (times.tmod 4))) <|
    ck (in64 ((d + (times.tmod 4)) + 4)) <|
    some (((d + (times.tmod 4)) + 4).tmod 4)

/-! muntin/grid.side -/
def p_grid_side (cells : List T_api_Cell) (v : Int) (d : Int) : Option Int :=
  ck ((0 : Int) ≤ v ∧ v < (cells.length : Int)) <|
  ck ((0 : Int) ≤ d ∧ d < 4) <|
  if decide (((gi cells (v : Int).toNat).Next).get d = (-1)) then
    if !(decide (((gi cells (v : Int).toNat).Owner).get d = 0)) then
      some 9
    else
      some 0
  else
    if ((decide ((((gi cells (v : Int).toNat).Next).get d) < 0)) || (decide ((cells.length : Int) ≤ (((gi cells (v : Int).toNat).Next).get d)))) || (decide (((gi cells (v : Int).toNat).Next).get d = v)) then
      some 3
    else
      (p_compass_Left d 2).bind fun x =>
      ck ((0 : Int) ≤ (((gi cells (v : Int).toNat).Next).get d) ∧ (((gi cells (v : Int).toNat).Next).get d) < (cells.length : Int)) <|
      ck ((0 : Int) ≤ x ∧ x < 4) <|
      if ((!(decide (((gi cells (((gi cells (v : Int).toNat).Next).get d : Int).toNat).Next).get x = v))) || (!(decide (((gi cells (((gi cells (v : Int).toNat).Next).get d : Int).toNat).Owner).get x = ((gi cells (v : Int).toNat).Owner).get d)))) || (decide ((((gi cells (v : Int).toNat).Owner).get d) < (-2))) then
        some 9
      else
        some 0

/-! muntin/grid.Check -/
def p_grid_Check.s1 (cells : List T_api_Cell) (x : Int) : Int → Option (Int ⊕ (Unit ⊕ Int)) := fun x2 =>
  if decide (x2 < 4) then
    (p_grid_side cells x x2).bind fun x4 =>
    if !(decide (x4 = 0)) then
      some (.inr (.inr x4))
    else
      ck (in64 (x2 + 1)) <|
      some (.inl (x2 + 1))
  else
    some (.inr (.inl ()))

def p_grid_Check.s0 (cells : List T_api_Cell) : Int → Option (Int ⊕ (Unit ⊕ Int)) := fun x =>
  if decide (x < (cells.length : Int)) then
    (
      loopF (p_grid_Check.s1 cells x) big 0 : Option (Unit ⊕ Int)).bind fun o₃ => match o₃ with
    | .inl _ =>
      ck (in64 (x + 1)) <|
      some (.inl (x + 1))
    | .inr x3 =>
      some (.inr (.inr x3))
  else
    some (.inr (.inl ()))

def p_grid_Check (cells : List T_api_Cell) : Option Int :=
  if decide (4096 < (cells.length : Int)) then
    some 6
  else
    (
      loopF (p_grid_Check.s0 cells) big 0 : Option (Unit ⊕ Int)).bind fun o₁ => match o₁ with
    | .inl _ =>
      some 0
    | .inr x1 =>
      some x1

/-! math/bits.Mul64 -/
def p_bits_Mul64 (x : Int) (y : Int) : Option (Int × Int) :=
  some (ari_add .u64 (ari_add .u64 (ari_mul .u64 (sh_shr .u64 x 32) (sh_shr .u64 y 32)) (sh_shr .u64 (ari_add .u64 (ari_mul .u64 (sh_shr .u64 x 32) (ari_and .u64 y 4294967295)) (sh_shr .u64 (ari_mul .u64 (ari_and .u64 x 4294967295) (ari_and .u64 y 4294967295)) 32)) 32)) (sh_shr .u64 (ari_add .u64 (ari_and .u64 (ari_add .u64 (ari_mul .u64 (sh_shr .u64 x 32) (ari_and .u64 y 4294967295)) (sh_shr .u64 (ari_mul .u64 (ari_and .u64 x 4294967295) (ari_and .u64 y 4294967295)) 32)) 4294967295) (ari_mul .u64 (ari_and .u64 x 4294967295) (sh_shr .u64 y 32))) 32), ari_mul .u64 x y)

/-! math/bits.Mul -/
def p_bits_Mul (x : Int) (y : Int) : Option (Int × Int) :=
  (p_bits_Mul64 x y).bind fun (x1, x2) =>
  some (x1, x2)

/-! slices.Repeat[[]int,int] -/
def p_slices_Repeat_int.s0 : (List Int) × Int → Option (((List Int) × Int) ⊕ (List Int)) := fun (newslice, n) =>
  if decide (n < (newslice.length : Int)) then
    ck ((0 : Int) ≤ n ∧ n ≤ (newslice.length : Int)) <|
    ck (in64 (n + ((min (newslice.take (n : Int).toNat).length (newslice.drop (n : Int).toNat).length : Nat) : Int))) <|
    some (.inl (newslice.take (n : Int).toNat ++ ((newslice.take (n : Int).toNat).take (newslice.drop (n : Int).toNat).length ++ (newslice.drop (n : Int).toNat).drop (newslice.take (n : Int).toNat).length), n + ((min (newslice.take (n : Int).toNat).length (newslice.drop (n : Int).toNat).length : Nat) : Int)))
  else
    some (.inr newslice)

def p_slices_Repeat_int (x : List Int) (count : Int) : Option (List Int) :=
  (
    if decide (count < 0) then
      none
    else
      some ()).bind fun _ =>
  ck (inK .u64 (x.length : Int)) <|
  ck (inK .u64 count) <|
  (p_bits_Mul (x.length : Int) count).bind fun (x1, x2) =>
  (
    if (decide (0 < x1)) || (decide (9223372036854775807 < x2)) then
      none
    else
      some ()).bind fun _ =>
  ck (inK .i64 x2) <|
  ck ((0 : Int) ≤ x2 ∧ x2 ≤ 1000000000) <|
  (loopF p_slices_Repeat_int.s0 big (x.take (List.replicate (x2 : Int).toNat (0 : Int)).length ++ (List.replicate (x2 : Int).toNat (0 : Int)).drop x.length, ((min x.length (List.replicate (x2 : Int).toNat (0 : Int)).length : Nat) : Int))).bind fun newslice1 =>
  some newslice1

/-! muntin/join.spread -/
def p_join_spread.s1 (cells : List T_api_Cell) (l : List Int) : (List Int) × (List Int) × (List Int) × (List Bool) × Int → Option (((List Int) × (List Int) × (List Int) × (List Bool) × Int) ⊕ ((List Int) × (List Int) × (List Int) × (List Bool))) := fun (from_2, dir2, l1, met1, x2) =>
  if decide (x2 < 4) then
    ck ((0 : Int) ≤ (gi l (0 : Int).toNat) ∧ (gi l (0 : Int).toNat) < (cells.length : Int)) <|
    ck ((0 : Int) ≤ x2 ∧ x2 < 4) <|
    (if decide (0 ≤ (((gi cells (gi l (0 : Int).toNat : Int).toNat).Next).get x2)) then
      ck ((0 : Int) ≤ (((gi cells (gi l (0 : Int).toNat : Int).toNat).Next).get x2) ∧ (((gi cells (gi l (0 : Int).toNat : Int).toNat).Next).get x2) < (met1.length : Int)) <|
      some (!(gi met1 (((gi cells (gi l (0 : Int).toNat : Int).toNat).Next).get x2 : Int).toNat))
    else
      some false).bind fun t =>
    if t then
      ck ((0 : Int) ≤ (((gi cells (gi l (0 : Int).toNat : Int).toNat).Next).get x2) ∧ (((gi cells (gi l (0 : Int).toNat : Int).toNat).Next).get x2) < (met1.length : Int)) <|
      ck ((0 : Int) ≤ (((gi cells (gi l (0 : Int).toNat : Int).toNat).Next).get x2) ∧ (((gi cells (gi l (0 : Int).toNat : Int).toNat).Next).get x2) < (from_2.length : Int)) <|
      ck ((0 : Int) ≤ (((gi cells (gi l (0 : Int).toNat : Int).toNat).Next).get x2) ∧ (((gi cells (gi l (0 : Int).toNat : Int).toNat).Next).get x2) < (dir2.length : Int)) <|
      ck (l1.length + [((gi cells (gi l (0 : Int).toNat : Int).toNat).Next).get x2].length ≤ 1000000000) <|
      ck (in64 (x2 + 1)) <|
      some (.inl (from_2.set (((gi cells (gi l (0 : Int).toNat : Int).toNat).Next).get x2 : Int).toNat (gi l (0 : Int).toNat), dir2.set (((gi cells (gi l (0 : Int).toNat : Int).toNat).Next).get x2 : Int).toNat x2, l1 ++ [((gi cells (gi l (0 : Int).toNat : Int).toNat).Next).get x2], met1.set (((gi cells (gi l (0 : Int).toNat : Int).toNat).Next).get x2 : Int).toNat true, x2 + 1))
    else
      ck (in64 (x2 + 1)) <|
      some (.inl (from_2, dir2, l1, met1, x2 + 1))
  else
    some (.inr (from_2, dir2, l1, met1))

def p_join_spread.s0 (cells : List T_api_Cell) : (List Int) × (List Int) × (List Int) × (List Bool) → Option (((List Int) × (List Int) × (List Int) × (List Bool)) ⊕ ((List Int) × (List Int))) := fun (from_, dir, l, met) =>
  if decide (0 < (l.length : Int)) then
    ck ((0 : Int) ≤ 0 ∧ 0 < (l.length : Int)) <|
    ck ((0 : Int) ≤ 1 ∧ 1 ≤ (l.length : Int)) <|
    (loopF (p_join_spread.s1 cells l) big (from_, dir, l.drop (1 : Int).toNat, met, 0)).bind fun (from_3, dir3, l2, met2) =>
    some (.inl (from_3, dir3, l2, met2))
  else
    some (.inr (from_, dir))

def p_join_spread (cells : List T_api_Cell) (v : Int) : Option ((List Int) × (List Int)) :=
  (p_slices_Repeat_int ([(-1)] : List Int) (cells.length : Int)).bind fun x =>
  (p_slices_Repeat_int ([(-1)] : List Int) (cells.length : Int)).bind fun x1 =>
  ck ((0 : Int) ≤ (cells.length : Int) ∧ (cells.length : Int) ≤ 1000000000) <|
  ck ((0 : Int) ≤ v ∧ v < ((List.replicate ((cells.length : Int) : Int).toNat false).length : Int)) <|
  (loopF (p_join_spread.s0 cells) big (x, x1, [v], (List.replicate ((cells.length : Int) : Int).toNat false).set (v : Int).toNat true)).bind fun (from_1, dir1) =>
  some (from_1, dir1)

/-! muntin/join.Parts -/
def p_join_Parts.s1 (cells : List T_api_Cell) (x1 : Int) (x3 : List Int) : (List Bool) × (List Int) × Int → Option (((List Bool) × (List Int) × Int) ⊕ ((List Bool) × (List Int))) := fun (met1, part, x4) =>
  if decide (x4 < (cells.length : Int)) then
    (if decide (x4 = x1) then
      some true
    else
      ck ((0 : Int) ≤ x4 ∧ x4 < (x3.length : Int)) <|
      some (decide (0 ≤ (gi x3 (x4 : Int).toNat)))).bind fun t =>
    if t then
      ck ((0 : Int) ≤ x4 ∧ x4 < (met1.length : Int)) <|
      ck (part.length + [x4].length ≤ 1000000000) <|
      ck (in64 (x4 + 1)) <|
      some (.inl (met1.set (x4 : Int).toNat true, part ++ [x4], x4 + 1))
    else
      ck (in64 (x4 + 1)) <|
      some (.inl (met1, part, x4 + 1))
  else
    some (.inr (met1, part))

def p_join_Parts.s0 (cells : List T_api_Cell) : (List (List Int)) × (List Bool) × Int → Option (((List (List Int)) × (List Bool) × Int) ⊕ (List (List Int))) := fun (l, met, x1) =>
  if decide (x1 < (cells.length : Int)) then
    ck ((0 : Int) ≤ x1 ∧ x1 < (met.length : Int)) <|
    if gi met (x1 : Int).toNat then
      ck (in64 (x1 + 1)) <|
      some (.inl (l, met, x1 + 1))
    else
      (p_join_spread cells x1).bind fun (x2, x3) =>
      (loopF (p_join_Parts.s1 cells x1 x3) big (met, [], 0)).bind fun (met2, part1) =>
      ck (l.length + 1 ≤ 1000000000) <|
      ck (in64 (x1 + 1)) <|
      some (.inl (l ++ [part1], met2, x1 + 1))
  else
    some (.inr l)

def p_join_Parts (cells : List T_api_Cell) : Option ((List (List Int)) × Int) :=
  (p_grid_Check cells).bind fun x =>
  if !(decide (x = 0)) then
    some (([] : List (List Int)), x)
  else
    ck ((0 : Int) ≤ (cells.length : Int) ∧ (cells.length : Int) ≤ 1000000000) <|
    (loopF (p_join_Parts.s0 cells) big (([] : List (List Int)), List.replicate ((cells.length : Int) : Int).toNat false, 0)).bind fun l1 =>
    some (l1, 0)

/-! muntin/muntinref10.Turned -/
def p_muntinref10_Turned.s1 (l : List T_api_Cell) (v : Int) : T_api_Cell × Int → Option ((T_api_Cell × Int) ⊕ T_api_Cell) := fun (c, d) =>
  if decide (d < 4) then
    ck (in64 (d + 1)) <|
    ck ((0 : Int) ≤ d ∧ d < 4) <|
    ck ((0 : Int) ≤ ((d + 1).tmod 4) ∧ ((d + 1).tmod 4) < 4) <|
    some (.inl ({ { c with Next := c.Next.set ((d + 1).tmod 4) (((gi l (v : Int).toNat).Next).get d) } with Owner := (({ c with Next := c.Next.set ((d + 1).tmod 4) (((gi l (v : Int).toNat).Next).get d) }).Owner).set ((d + 1).tmod 4) (((gi l (v : Int).toNat).Owner).get d) }, d + 1))
  else
    some (.inr c)

def p_muntinref10_Turned.s0 (l : List T_api_Cell) : (List T_api_Cell) × Int → Option (((List T_api_Cell) × Int) ⊕ (List T_api_Cell)) := fun (out, v) =>
  if decide (v < (l.length : Int)) then
    ck ((0 : Int) ≤ v ∧ v < (l.length : Int)) <|
    (loopF (p_muntinref10_Turned.s1 l v) big (gi l (v : Int).toNat, 0)).bind fun c1 =>
    ck (out.length + [c1].length ≤ 1000000000) <|
    ck (in64 (v + 1)) <|
    some (.inl (out ++ [c1], v + 1))
  else
    some (.inr out)

def p_muntinref10_Turned (l : List T_api_Cell) : Option (List T_api_Cell) :=
  (loopF (p_muntinref10_Turned.s0 l) big (([] : List T_api_Cell), 0)).bind fun out1 =>
  some out1

/-! muntin/muntinref10.Join -/
def p_muntinref10_Join (l : List T_api_Cell) (v : Int) (d : Int) (w : Int) (o : Int) : Option ((List T_api_Cell) × Int) :=
  if (((((((decide (v < 0)) || (decide ((l.length : Int) ≤ v))) || (decide (w < 0))) || (decide ((l.length : Int) ≤ w))) || (decide (v = w))) || (decide (d < 0))) || (decide (3 < d))) || (decide (o < (-2))) then
    some (l, 2)
  else
    ck ((0 : Int) ≤ v ∧ v < (l.length : Int)) <|
    ck ((0 : Int) ≤ d ∧ d < 4) <|
    (if !(decide (((gi l (v : Int).toNat).Next).get d = (-1))) then
      some true
    else
      ck (in64 (d + 2)) <|
      ck ((0 : Int) ≤ w ∧ w < (l.length : Int)) <|
      ck ((0 : Int) ≤ ((d + 2).tmod 4) ∧ ((d + 2).tmod 4) < 4) <|
      some (!(decide (((gi l (w : Int).toNat).Next).get ((d + 2).tmod 4) = (-1))))).bind fun t =>
    if t then
      some (l, 9)
    else
      (p_muntinref10_with l v d w o).bind fun x =>
      some (x, 0)

/-! slices.Reverse[[]int,int] -/
def p_slices_Reverse_int.s0 : (List Int) × Int × Int → Option (((List Int) × Int × Int) ⊕ (List Int)) := fun (s1, i, j) =>
  if decide (i < j) then
    ck ((0 : Int) ≤ j ∧ j < (s1.length : Int)) <|
    ck ((0 : Int) ≤ i ∧ i < (s1.length : Int)) <|
    ck ((0 : Int) ≤ j ∧ j < ((s1.set (i : Int).toNat (gi s1 (j : Int).toNat)).length : Int)) <|
    ck (in64 (i + 1)) <|
    ck (in64 (j - 1)) <|
    some (.inl ((s1.set (i : Int).toNat (gi s1 (j : Int).toNat)).set (j : Int).toNat (gi s1 (i : Int).toNat), i + 1, j - 1))
  else
    some (.inr s1)

def p_slices_Reverse_int (s : List Int) : Option (List Int) :=
  ck (in64 ((s.length : Int) - 1)) <|
  (loopF p_slices_Reverse_int.s0 big (s, 0, (s.length : Int) - 1)).bind fun p0 =>
  some p0

/-! muntin/join.Path -/
def p_join_Path.s0 (v : Int) (x1 : List Int) (x2 : List Int) : (List Int) × Int → Option (((List Int) × Int) ⊕ (List Int)) := fun (l, at_) =>
  if !(decide (at_ = v)) then
    ck ((0 : Int) ≤ at_ ∧ at_ < (x2.length : Int)) <|
    ck (l.length + [gi x2 (at_ : Int).toNat].length ≤ 1000000000) <|
    ck ((0 : Int) ≤ at_ ∧ at_ < (x1.length : Int)) <|
    some (.inl (l ++ [gi x2 (at_ : Int).toNat], gi x1 (at_ : Int).toNat))
  else
    some (.inr l)

def p_join_Path (cells : List T_api_Cell) (v : Int) (w : Int) : Option ((List Int) × Int) :=
  (p_grid_Check cells).bind fun x =>
  if !(decide (x = 0)) then
    some (([] : List Int), x)
  else
    if (decide ((min v w) < 0)) || (decide ((cells.length : Int) ≤ (max v w))) then
      some (([] : List Int), 2)
    else
      (p_join_spread cells v).bind fun (x1, x2) =>
      (if !(decide (w = v)) then
        ck ((0 : Int) ≤ w ∧ w < (x2.length : Int)) <|
        some (decide ((gi x2 (w : Int).toNat) < 0))
      else
        some false).bind fun t =>
      if t then
        some (([] : List Int), 13)
      else
        (loopF (p_join_Path.s0 v x1 x2) big (([] : List Int), w)).bind fun l1 =>
        (p_slices_Reverse_int l1).bind fun m =>
        some (m, 0)

/-! slices.Equal[[]int,int] -/
def p_slices_Equal_int.s0 (s1 : List Int) (s2 : List Int) : Int → Option (Int ⊕ (Unit ⊕ Unit)) := fun x =>
  if decide (x < (s1.length : Int)) then
    ck ((0 : Int) ≤ x ∧ x < (s1.length : Int)) <|
    ck ((0 : Int) ≤ x ∧ x < (s2.length : Int)) <|
    if !(decide (gi s1 (x : Int).toNat = gi s2 (x : Int).toNat)) then
      some (.inr (.inr ()))
    else
      ck (in64 (x + 1)) <|
      some (.inl (x + 1))
  else
    some (.inr (.inl ()))

def p_slices_Equal_int (s1 : List Int) (s2 : List Int) : Option Bool :=
  if !(decide ((s1.length : Int) = (s2.length : Int))) then
    some false
  else
    (
      loopF (p_slices_Equal_int.s0 s1 s2) big 0 : Option (Unit ⊕ Unit)).bind fun o₁ => match o₁ with
    | .inl _ =>
      some true
    | .inr _ =>
      some false

/-! muntin/join.Whole -/
def p_join_Whole (cells : List T_api_Cell) : Option Bool :=
  (p_join_Parts cells).bind fun (x, x1) =>
  some ((decide (x1 = 0)) && (decide ((x.length : Int) = 1)))

/-! muntin/muntinlaw13.wakes -/
def p_muntinlaw13_wakes : Option Bool :=
  (p_muntinref10_New 3).bind fun x =>
  (p_muntinref10_Join x 0 0 1 0).bind fun (x1, x2) =>
  (p_join_Parts x1).bind fun (x3, x4) =>
  (p_join_Path x1 1 0).bind fun (x5, x6) =>
  (p_join_Path x1 0 2).bind fun (x7, x8) =>
  (if (decide (x4 = 0)) && (decide ((x3.length : Int) = 2)) then
    ck ((0 : Int) ≤ 0 ∧ 0 < (x3.length : Int)) <|
    (p_slices_Equal_int (gi x3 (0 : Int).toNat) ([0, 1] : List Int)).bind fun x9 =>
    some x9
  else
    some false).bind fun t =>
  (if t then
    (p_slices_Equal_int x5 ([2] : List Int)).bind fun x10 =>
    some x10
  else
    some false).bind fun t1 =>
  (if (t1 && (decide (x6 = 0))) && (decide (x8 = 13)) then
    (p_join_Whole x1).bind fun x11 =>
    some (!x11)
  else
    some false).bind fun t2 =>
  (if t2 then
    ck ((0 : Int) ≤ 2 ∧ 2 ≤ (x1.length : Int)) <|
    (p_join_Whole (x1.drop (2 : Int).toNat)).bind fun x12 =>
    some x12
  else
    some false).bind fun t3 =>
  some t3

/-! muntin/muntinref10.Edge -/
def p_muntinref10_Edge.s0 (l : List T_api_Cell) (a : Int) (b : Int) : Int → Option (Int ⊕ (Unit ⊕ (Int × Int))) := fun i =>
  ck (in64 (4 * (l.length : Int))) <|
  if decide (i < (4 * (l.length : Int))) then
    ck (((max (l.length : Int) 1) : Int) ≠ 0) <|
    ck (in64 (4 * (a.tmod (max (l.length : Int) 1)))) <|
    ck (in64 ((4 * (a.tmod (max (l.length : Int) 1))) + (b.tmod 4))) <|
    ck (in64 (((4 * (a.tmod (max (l.length : Int) 1))) + (b.tmod 4)) + i)) <|
    ck (((4 * (l.length : Int)) : Int) ≠ 0) <|
    ck ((4 : Int) ≠ 0 ∧ in64 (((((4 * (a.tmod (max (l.length : Int) 1))) + (b.tmod 4)) + i).tmod (4 * (l.length : Int))).tdiv 4)) <|
    ck ((0 : Int) ≤ (((((4 * (a.tmod (max (l.length : Int) 1))) + (b.tmod 4)) + i).tmod (4 * (l.length : Int))).tdiv 4) ∧ (((((4 * (a.tmod (max (l.length : Int) 1))) + (b.tmod 4)) + i).tmod (4 * (l.length : Int))).tdiv 4) < (l.length : Int)) <|
    ck ((0 : Int) ≤ (((((4 * (a.tmod (max (l.length : Int) 1))) + (b.tmod 4)) + i).tmod (4 * (l.length : Int))).tmod 4) ∧ (((((4 * (a.tmod (max (l.length : Int) 1))) + (b.tmod 4)) + i).tmod (4 * (l.length : Int))).tmod 4) < 4) <|
    if decide (0 ≤ (((gi l (((((4 * (a.tmod (max (l.length : Int) 1))) + (b.tmod 4)) + i).tmod (4 * (l.length : Int))).tdiv 4 : Int).toNat).Next).get (((((4 * (a.tmod (max (l.length : Int) 1))) + (b.tmod 4)) + i).tmod (4 * (l.length : Int))).tmod 4))) then
      some (.inr (.inr (((((4 * (a.tmod (max (l.length : Int) 1))) + (b.tmod 4)) + i).tmod (4 * (l.length : Int))).tdiv 4, ((((4 * (a.tmod (max (l.length : Int) 1))) + (b.tmod 4)) + i).tmod (4 * (l.length : Int))).tmod 4)))
    else
      ck (in64 (i + 1)) <|
      some (.inl (i + 1))
  else
    some (.inr (.inl ()))

def p_muntinref10_Edge (l : List T_api_Cell) (a : Int) (b : Int) : Option (Int × Int × Bool) :=
  (
    loopF (p_muntinref10_Edge.s0 l a b) big 0 : Option (Unit ⊕ (Int × Int))).bind fun o₁ => match o₁ with
  | .inl _ =>
    some (0, 0, false)
  | .inr (x, x1) =>
    some (x, x1, true)

/-! muntin/muntinref10.Split -/
def p_muntinref10_Split (l : List T_api_Cell) (v : Int) (d : Int) : Option ((List T_api_Cell) × Int × Int) :=
  if (((decide (v < 0)) || (decide ((l.length : Int) ≤ v))) || (decide (d < 0))) || (decide (3 < d)) then
    some (l, 0, 2)
  else
    ck ((0 : Int) ≤ v ∧ v < (l.length : Int)) <|
    ck ((0 : Int) ≤ d ∧ d < 4) <|
    if decide (((gi l (v : Int).toNat).Next).get d = (-1)) then
      some (l, 0, 9)
    else
      if decide (4096 ≤ (l.length : Int)) then
        some (l, 0, 6)
      else
        (p_muntinref10_New 1).bind fun x =>
        (p_muntinref10_with l (-1) 0 (-1) 0).bind fun x1 =>
        ck ((0 : Int) ≤ 0 ∧ 0 < (x.length : Int)) <|
        ck (x1.length + [gi x (0 : Int).toNat].length ≤ 1000000000) <|
        (p_muntinref10_with (x1 ++ [gi x (0 : Int).toNat]) v d (l.length : Int) (((gi l (v : Int).toNat).Owner).get d)).bind fun x2 =>
        (p_muntinref10_with x2 (l.length : Int) d (((gi l (v : Int).toNat).Next).get d) (((gi l (v : Int).toNat).Owner).get d)).bind fun x3 =>
        some (x3, (l.length : Int), 0)

/-! slices.Index[[]int,int] -/
def p_slices_Index_int.s0 (s : List Int) (v : Int) : Int → Option (Int ⊕ (Unit ⊕ Int)) := fun x =>
  if decide (x < (s.length : Int)) then
    ck ((0 : Int) ≤ x ∧ x < (s.length : Int)) <|
    if decide (v = gi s (x : Int).toNat) then
      some (.inr (.inr x))
    else
      ck (in64 (x + 1)) <|
      some (.inl (x + 1))
  else
    some (.inr (.inl ()))

def p_slices_Index_int (s : List Int) (v : Int) : Option Int :=
  (
    loopF (p_slices_Index_int.s0 s v) big 0 : Option (Unit ⊕ Int)).bind fun o₁ => match o₁ with
  | .inl _ =>
    some (-1)
  | .inr x1 =>
    some x1

/-! slices.Contains[[]int,int] -/
def p_slices_Contains_int (s : List Int) (v : Int) : Option Bool :=
  (p_slices_Index_int s v).bind fun x =>
  some (decide (0 ≤ x))

/-! muntin/muntinlaw13.JoinTurns -/
def p_muntinlaw13_JoinTurns.s0 (x2 : List (List Int)) (x5 : List (List Int)) : Int → Option (Int ⊕ (Unit ⊕ Unit)) := fun x8 =>
  if decide (x8 < (x2.length : Int)) then
    ck ((0 : Int) ≤ x8 ∧ x8 < (x2.length : Int)) <|
    ck ((0 : Int) ≤ x8 ∧ x8 < (x5.length : Int)) <|
    (p_slices_Equal_int (gi x2 (x8 : Int).toNat) (gi x5 (x8 : Int).toNat)).bind fun x9 =>
    if !x9 then
      some (.inr (.inr ()))
    else
      ck (in64 (x8 + 1)) <|
      some (.inl (x8 + 1))
  else
    some (.inr (.inl ()))

def p_muntinlaw13_JoinTurns.s1 (x10 : Int) (x14 : Int) (x16 : List (List Int)) : (List (List Int)) × Int → Option (((List (List Int)) × Int) ⊕ (Unit ⊕ Unit)) := fun (p, x18) =>
  if decide (x18 < (x16.length : Int)) then
    ck ((0 : Int) ≤ x18 ∧ x18 < (p.length : Int)) <|
    (p_slices_Contains_int (gi p (x18 : Int).toNat) x10).bind fun x19 =>
    (
      if x19 then
        ck ((gi p (x18 : Int).toNat).length + [x14].length ≤ 1000000000) <|
        some (p.set (x18 : Int).toNat ((gi p (x18 : Int).toNat) ++ [x14]))
      else
        some p).bind fun p1 =>
    ck ((0 : Int) ≤ x18 ∧ x18 < (p1.length : Int)) <|
    ck ((0 : Int) ≤ x18 ∧ x18 < (x16.length : Int)) <|
    (p_slices_Equal_int (gi p1 (x18 : Int).toNat) (gi x16 (x18 : Int).toNat)).bind fun x20 =>
    if !x20 then
      some (.inr (.inr ()))
    else
      ck (in64 (x18 + 1)) <|
      some (.inl (p1, x18 + 1))
  else
    some (.inr (.inl ()))

def p_muntinlaw13_JoinTurns (z : T_muntinref10_Places) (at_ : A2 Int) : Option Bool :=
  (p_muntinref10_Make z 16).bind fun (x, x1) =>
  (p_join_Parts x).bind fun (x2, x3) =>
  (p_muntinref10_Turned x).bind fun x4 =>
  (p_join_Parts x4).bind fun (x5, x6) =>
  (p_muntinlaw13_wakes ).bind fun x7 =>
  if (((!x7) || (!(decide (x3 = 0)))) || (!(decide (x6 = 0)))) || (!(decide ((x2.length : Int) = (x5.length : Int)))) then
    some false
  else
    (
      loopF (p_muntinlaw13_JoinTurns.s0 x2 x5) big 0 : Option (Unit ⊕ Unit)).bind fun o₁ => match o₁ with
    | .inl _ =>
      ck (inK .i64 (at_.get 0)) <|
      ck (inK .i64 (at_.get 1)) <|
      (p_muntinref10_Edge x (at_.get 0) (at_.get 1)).bind fun (x10, x11, x12) =>
      if !x12 then
        some true
      else
        (p_muntinref10_Split x x10 x11).bind fun (x13, x14, x15) =>
        (p_join_Parts x13).bind fun (x16, x17) =>
        if (!(decide (x17 = 0))) || (!(decide ((x16.length : Int) = (x2.length : Int)))) then
          some false
        else
          (
            loopF (p_muntinlaw13_JoinTurns.s1 x10 x14 x16) big (x2, 0) : Option (Unit ⊕ Unit)).bind fun o₃ => match o₃ with
          | .inl _ =>
            some true
          | .inr _ =>
            some false
    | .inr _ =>
      some false

end Mu
