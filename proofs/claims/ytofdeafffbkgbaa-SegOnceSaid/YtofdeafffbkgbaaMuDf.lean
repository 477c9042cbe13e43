/- What the functions work out. -/
import Derived.Test.YtofdeafffbkgbaaMuA
import Derived.Test.YtofdeafffbkgbaaMuR
set_option linter.unusedVariables false
set_option linter.unnecessarySimpa false
set_option linter.unusedSimpArgs false
set_option maxHeartbeats 2000000
set_option maxRecDepth 10000
namespace Mu
open Go (IntKind BinOp UnOp)
structure T_muntinref10_Places where
  At : List Int
  Bits : List Int
  Own : List Int
  deriving DecidableEq, Inhabited
abbrev e_u8 : Enc Int := ⟨1, fun x => [.i .u8 x], fun _ => rfl⟩
theorem e_u8.one (x : Int) : (e_u8.c x).all V.one = true := rfl
abbrev e_i8 : Enc Int := ⟨1, fun x => [.i .i8 x], fun _ => rfl⟩
theorem e_i8.one (x : Int) : (e_i8.c x).all V.one = true := rfl
structure T_api_Cell where
  Next : A4 Int
  Owner : A4 Int
  deriving DecidableEq, Inhabited
structure T_api_Point where
  X : Int
  Y : Int
  deriving DecidableEq, Inhabited
abbrev e_T_api_Point : Enc T_api_Point := ⟨2, fun x => [.i .i64 x.X, .i .i64 x.Y], fun _ => rfl⟩
theorem e_T_api_Point.one (x : T_api_Point) : (e_T_api_Point.c x).all V.one = true := rfl
theorem e_T_api_Point.same (x y : T_api_Point) : sameAll [.i, .i] (e_T_api_Point.c x) (e_T_api_Point.c y) = some (decide (x = y)) := by
  obtain ⟨x1, x2⟩ := x
  obtain ⟨y1, y2⟩ := y
  refine (sameAll_i (sameAll_i sameAll_nil)).trans ?_
  congr 1
  rw [Bool.eq_iff_iff]
  simp [and_assoc]
abbrev e_T_api_Cell : Enc T_api_Cell := ⟨8, fun x => [.i .i64 x.Next.a, .i .i64 x.Next.b, .i .i64 x.Next.c, .i .i64 x.Next.d, .i .i64 x.Owner.a, .i .i64 x.Owner.b, .i .i64 x.Owner.c, .i .i64 x.Owner.d], fun _ => rfl⟩
theorem e_T_api_Cell.one (x : T_api_Cell) : (e_T_api_Cell.c x).all V.one = true := rfl
structure T_seg_Chains where
  X : List Int
  Y : List Int
  Vert : List (List Int)
  Horz : List (List Int)
  deriving DecidableEq, Inhabited
abbrev e_A2_i64 : Enc (A2 Int) := ⟨2, fun x => [.i .i64 x.a, .i .i64 x.b], fun _ => rfl⟩
theorem e_A2_i64.one (x : A2 Int) : (e_A2_i64.c x).all V.one = true := rfl
theorem e_A2_i64.same (x y : A2 Int) : sameAll [.i, .i] (e_A2_i64.c x) (e_A2_i64.c y) = some (decide (x = y)) := by
  obtain ⟨x1, x2⟩ := x
  obtain ⟨y1, y2⟩ := y
  refine (sameAll_i (sameAll_i sameAll_nil)).trans ?_
  congr 1
  rw [Bool.eq_iff_iff]
  simp [and_assoc]
def Ok_u8 (x : Int) : Prop := Wf .u8 x
def Ok_i8 (x : Int) : Prop := Wf .i8 x
/-! muntin/muntinref10.New -/
def p_muntinref10_New.s1 (v : Int) : (List T_api_Cell) × Int → Option (((List T_api_Cell) × Int) ⊕ (List T_api_Cell)) := fun (l2, d) =>
  if decide (d < 4) then
    ck ((0 : Int) ≤ v ∧ v < (l2.length : Int)) <|
    ck ((0 : Int) ≤ d ∧ d < 4) <|
    ck (in64 (d + 1)) <|
    some (.inl (l2.set (v : Int).toNat ({ gi l2 (v : Int).toNat with Next := ((gi l2 (v : Int).toNat).Next).set d (-1) }), d + 1))
  else
    some (.inr l2)

def p_muntinref10_New.s0 (n : Int) : (List T_api_Cell) × Int → Option (((List T_api_Cell) × Int) ⊕ (List T_api_Cell)) := fun (l, v) =>
  if decide (v < n) then
    (loopF (p_muntinref10_New.s1 v) big (l, 0)).bind fun l3 =>
    ck (in64 (v + 1)) <|
    some (.inl (l3, v + 1))
  else
    some (.inr l)

def p_muntinref10_New (n : Int) : Option (List T_api_Cell) :=
  ck ((0 : Int) ≤ n ∧ n ≤ 1000000000) <|
  (loopF (p_muntinref10_New.s0 n) big (List.replicate (n : Int).toNat (⟨⟨0, 0, 0, 0⟩, ⟨0, 0, 0, 0⟩⟩ : T_api_Cell), 0)).bind fun l1 =>
  some l1

/-! muntin/muntinref10.Nearest -/
def p_muntinref10_Nearest.s0 (at_ : List T_api_Point) (i : Int) (d : Int) : Int × Int → Option ((Int × Int) ⊕ Int) := fun (best, k_) =>
  if decide (k_ < (at_.length : Int)) then
    (if decide (d = 0) then
      ck ((0 : Int) ≤ k_ ∧ k_ < (at_.length : Int)) <|
      ck ((0 : Int) ≤ i ∧ i < (at_.length : Int)) <|
      some (decide ((gi at_ (k_ : Int).toNat).Y = (gi at_ (i : Int).toNat).Y))
    else
      some false).bind fun t =>
    (if t then
      ck ((0 : Int) ≤ k_ ∧ k_ < (at_.length : Int)) <|
      ck ((0 : Int) ≤ i ∧ i < (at_.length : Int)) <|
      some (decide (((gi at_ (i : Int).toNat).X) < ((gi at_ (k_ : Int).toNat).X)))
    else
      some false).bind fun t1 =>
    (if t1 then
      (if decide (best < 0) then
        some true
      else
        ck ((0 : Int) ≤ k_ ∧ k_ < (at_.length : Int)) <|
        ck ((0 : Int) ≤ best ∧ best < (at_.length : Int)) <|
        some (decide (((gi at_ (k_ : Int).toNat).X) < ((gi at_ (best : Int).toNat).X)))).bind fun t3 =>
      some t3
    else
      some false).bind fun t2 =>
    (
      if t2 then
        some k_
      else
        some best).bind fun best2 =>
    (if decide (d = 1) then
      ck ((0 : Int) ≤ k_ ∧ k_ < (at_.length : Int)) <|
      ck ((0 : Int) ≤ i ∧ i < (at_.length : Int)) <|
      some (decide ((gi at_ (k_ : Int).toNat).X = (gi at_ (i : Int).toNat).X))
    else
      some false).bind fun t4 =>
    (if t4 then
      ck ((0 : Int) ≤ k_ ∧ k_ < (at_.length : Int)) <|
      ck ((0 : Int) ≤ i ∧ i < (at_.length : Int)) <|
      some (decide (((gi at_ (i : Int).toNat).Y) < ((gi at_ (k_ : Int).toNat).Y)))
    else
      some false).bind fun t5 =>
    (if t5 then
      (if decide (best2 < 0) then
        some true
      else
        ck ((0 : Int) ≤ k_ ∧ k_ < (at_.length : Int)) <|
        ck ((0 : Int) ≤ best2 ∧ best2 < (at_.length : Int)) <|
        some (decide (((gi at_ (k_ : Int).toNat).Y) < ((gi at_ (best2 : Int).toNat).Y)))).bind fun t7 =>
      some t7
    else
      some false).bind fun t6 =>
    if t6 then
      ck (in64 (k_ + 1)) <|
      some (.inl (k_, k_ + 1))
    else
      ck (in64 (k_ + 1)) <|
      some (.inl (best2, k_ + 1))
  else
    some (.inr best)

def p_muntinref10_Nearest (at_ : List T_api_Point) (i : Int) (d : Int) : Option Int :=
  (loopF (p_muntinref10_Nearest.s0 at_ i d) big ((-1), 0)).bind fun best1 =>
  some best1

/-! muntin/muntinref10.Crossed -/
def p_muntinref10_Crossed.s1 (at_ : List T_api_Point) (l : List T_api_Cell) (i : Int) (w : Int) (a : Int) : Int → Option (Int ⊕ (Unit ⊕ Unit)) := fun d =>
  if decide (d < 2) then
    ck ((0 : Int) ≤ a ∧ a < (l.length : Int)) <|
    ck ((0 : Int) ≤ d ∧ d < 4) <|
    if decide ((((gi l (a : Int).toNat).Next).get d) < 0) then
      ck (in64 (d + 1)) <|
      some (.inl (d + 1))
    else
      ck ((0 : Int) ≤ a ∧ a < (at_.length : Int)) <|
      ck ((0 : Int) ≤ (((gi l (a : Int).toNat).Next).get d) ∧ (((gi l (a : Int).toNat).Next).get d) < (at_.length : Int)) <|
      (if decide ((gi at_ (a : Int).toNat).Y = (gi at_ (((gi l (a : Int).toNat).Next).get d : Int).toNat).Y) then
        ck ((0 : Int) ≤ i ∧ i < (at_.length : Int)) <|
        ck ((0 : Int) ≤ w ∧ w < (at_.length : Int)) <|
        some (decide ((gi at_ (i : Int).toNat).X = (gi at_ (w : Int).toNat).X))
      else
        some false).bind fun t =>
      (if t then
        ck ((0 : Int) ≤ i ∧ i < (at_.length : Int)) <|
        some (decide (((gi at_ (a : Int).toNat).X) < ((gi at_ (i : Int).toNat).X)))
      else
        some false).bind fun t1 =>
      (if t1 then
        ck ((0 : Int) ≤ i ∧ i < (at_.length : Int)) <|
        some (decide (((gi at_ (i : Int).toNat).X) < ((gi at_ (((gi l (a : Int).toNat).Next).get d : Int).toNat).X)))
      else
        some false).bind fun t2 =>
      (if t2 then
        ck ((0 : Int) ≤ i ∧ i < (at_.length : Int)) <|
        some (decide (((gi at_ (i : Int).toNat).Y) < ((gi at_ (a : Int).toNat).Y)))
      else
        some false).bind fun t3 =>
      (if t3 then
        ck ((0 : Int) ≤ w ∧ w < (at_.length : Int)) <|
        some (decide (((gi at_ (a : Int).toNat).Y) < ((gi at_ (w : Int).toNat).Y)))
      else
        some false).bind fun t4 =>
      if t4 then
        some (.inr (.inr ()))
      else
        (if decide ((gi at_ (a : Int).toNat).X = (gi at_ (((gi l (a : Int).toNat).Next).get d : Int).toNat).X) then
          ck ((0 : Int) ≤ i ∧ i < (at_.length : Int)) <|
          ck ((0 : Int) ≤ w ∧ w < (at_.length : Int)) <|
          some (decide ((gi at_ (i : Int).toNat).Y = (gi at_ (w : Int).toNat).Y))
        else
          some false).bind fun t5 =>
        (if t5 then
          ck ((0 : Int) ≤ i ∧ i < (at_.length : Int)) <|
          some (decide (((gi at_ (i : Int).toNat).X) < ((gi at_ (a : Int).toNat).X)))
        else
          some false).bind fun t6 =>
        (if t6 then
          ck ((0 : Int) ≤ w ∧ w < (at_.length : Int)) <|
          some (decide (((gi at_ (a : Int).toNat).X) < ((gi at_ (w : Int).toNat).X)))
        else
          some false).bind fun t7 =>
        (if t7 then
          ck ((0 : Int) ≤ i ∧ i < (at_.length : Int)) <|
          some (decide (((gi at_ (a : Int).toNat).Y) < ((gi at_ (i : Int).toNat).Y)))
        else
          some false).bind fun t8 =>
        (if t8 then
          ck ((0 : Int) ≤ i ∧ i < (at_.length : Int)) <|
          some (decide (((gi at_ (i : Int).toNat).Y) < ((gi at_ (((gi l (a : Int).toNat).Next).get d : Int).toNat).Y)))
        else
          some false).bind fun t9 =>
        if t9 then
          some (.inr (.inr ()))
        else
          ck (in64 (d + 1)) <|
          some (.inl (d + 1))
  else
    some (.inr (.inl ()))

def p_muntinref10_Crossed.s0 (at_ : List T_api_Point) (l : List T_api_Cell) (i : Int) (w : Int) : Int → Option (Int ⊕ (Unit ⊕ Unit)) := fun a =>
  if decide (a < (l.length : Int)) then
    (
      loopF (p_muntinref10_Crossed.s1 at_ l i w a) big 0 : Option (Unit ⊕ Unit)).bind fun o₃ => match o₃ with
    | .inl _ =>
      ck (in64 (a + 1)) <|
      some (.inl (a + 1))
    | .inr _ =>
      some (.inr (.inr ()))
  else
    some (.inr (.inl ()))

def p_muntinref10_Crossed (at_ : List T_api_Point) (l : List T_api_Cell) (i : Int) (w : Int) : Option Bool :=
  (
    loopF (p_muntinref10_Crossed.s0 at_ l i w) big 0 : Option (Unit ⊕ Unit)).bind fun o₁ => match o₁ with
  | .inl _ =>
    some false
  | .inr _ =>
    some true

/-! muntin/muntinref10.with -/
def p_muntinref10_with.s0 (l : List T_api_Cell) (v : Int) (d : Int) (w : Int) (o : Int) : (List T_api_Cell) × Int → Option (((List T_api_Cell) × Int) ⊕ (List T_api_Cell)) := fun (out, i) =>
  if decide (i < (l.length : Int)) then
    ck ((0 : Int) ≤ i ∧ i < (l.length : Int)) <|
    (
      if decide (i = v) then
        ck ((0 : Int) ≤ d ∧ d < 4) <|
        some ({ { gi l (i : Int).toNat with Next := ((gi l (i : Int).toNat).Next).set d w } with Owner := (({ gi l (i : Int).toNat with Next := ((gi l (i : Int).toNat).Next).set d w }).Owner).set d o })
      else
        some (gi l (i : Int).toNat)).bind fun c =>
    if decide (i = w) then
      ck (in64 (d + 2)) <|
      ck ((0 : Int) ≤ ((d + 2).tmod 4) ∧ ((d + 2).tmod 4) < 4) <|
      ck (out.length + [{ { c with Next := c.Next.set ((d + 2).tmod 4) v } with Owner := (({ c with Next := c.Next.set ((d + 2).tmod 4) v }).Owner).set ((d + 2).tmod 4) o }].length ≤ 1000000000) <|
      ck (in64 (i + 1)) <|
      some (.inl (out ++ [{ { c with Next := c.Next.set ((d + 2).tmod 4) v } with Owner := (({ c with Next := c.Next.set ((d + 2).tmod 4) v }).Owner).set ((d + 2).tmod 4) o }], i + 1))
    else
      ck (out.length + [c].length ≤ 1000000000) <|
      ck (in64 (i + 1)) <|
      some (.inl (out ++ [c], i + 1))
  else
    some (.inr out)

def p_muntinref10_with (l : List T_api_Cell) (v : Int) (d : Int) (w : Int) (o : Int) : Option (List T_api_Cell) :=
  (loopF (p_muntinref10_with.s0 l v d w o) big (([] : List T_api_Cell), 0)).bind fun out1 =>
  some out1

/-! muntin/muntinref10.Make -/
def p_muntinref10_Make.s1 (z : T_muntinref10_Places) (at_ : List T_api_Point) (i : Int) : Bool × Int → Option ((Bool × Int) ⊕ ((List T_api_Point) × Bool)) := fun (met, k_) =>
  if decide (k_ < (at_.length : Int)) then
    (if met then
      some true
    else
      ck ((0 : Int) ≤ k_ ∧ k_ < (at_.length : Int)) <|
      some (decide (gi at_ (k_ : Int).toNat = (⟨(gi z.At (i : Int).toNat).tmod 8, ((gi z.At (i : Int).toNat).tdiv 8).tmod 8⟩ : T_api_Point)))).bind fun t =>
    ck (in64 (k_ + 1)) <|
    some (.inl (t, k_ + 1))
  else
    some (.inr (at_, met))

def p_muntinref10_Make.s0 (z : T_muntinref10_Places) (most : Int) : (List T_api_Point) × Int → Option (((List T_api_Point) × Int) ⊕ (List T_api_Point)) := fun (at_, i) =>
  if (decide (i < (z.At.length : Int))) && (decide ((at_.length : Int) < most)) then
    ck ((0 : Int) ≤ i ∧ i < (z.At.length : Int)) <|
    ck (inK .i64 (gi z.At (i : Int).toNat)) <|
    ck ((8 : Int) ≠ 0 ∧ in64 ((gi z.At (i : Int).toNat).tdiv 8)) <|
    (loopF (p_muntinref10_Make.s1 z at_ i) big (false, 0)).bind fun (at_2, met1) =>
    if !met1 then
      ck (at_2.length + [(⟨(gi z.At (i : Int).toNat).tmod 8, ((gi z.At (i : Int).toNat).tdiv 8).tmod 8⟩ : T_api_Point)].length ≤ 1000000000) <|
      ck (in64 (i + 1)) <|
      some (.inl (at_2 ++ [(⟨(gi z.At (i : Int).toNat).tmod 8, ((gi z.At (i : Int).toNat).tdiv 8).tmod 8⟩ : T_api_Point)], i + 1))
    else
      ck (in64 (i + 1)) <|
      some (.inl (at_2, i + 1))
  else
    some (.inr at_)

def p_muntinref10_Make.s3 (i1 : Int) (bits : Int) (at_6 : List T_api_Point) (own : Int) : (List T_api_Cell) × Int → Option (((List T_api_Cell) × Int) ⊕ (List T_api_Cell)) := fun (l4, d) =>
  if decide (d < 2) then
    (p_muntinref10_Nearest at_6 i1 d).bind fun x1 =>
    ck ((0 : Int) ≤ d) <|
    if (decide (ari_and .u8 (sh_shr .u8 bits d) 1 = 0)) || (decide (x1 < 0)) then
      ck (in64 (d + 1)) <|
      some (.inl (l4, d + 1))
    else
      (p_muntinref10_Crossed at_6 l4 i1 x1).bind fun x2 =>
      if !x2 then
        (p_muntinref10_with l4 i1 d x1 own).bind fun x3 =>
        ck (in64 (d + 1)) <|
        some (.inl (x3, d + 1))
      else
        ck (in64 (d + 1)) <|
        some (.inl (l4, d + 1))
  else
    some (.inr l4)

def p_muntinref10_Make.s2 (z : T_muntinref10_Places) : (List T_api_Point) × (List T_api_Cell) × Int → Option (((List T_api_Point) × (List T_api_Cell) × Int) ⊕ ((List T_api_Point) × (List T_api_Cell))) := fun (at_3, l, i1) =>
  if decide (i1 < (at_3.length : Int)) then
    (
      if decide (i1 < (z.Bits.length : Int)) then
        ck ((0 : Int) ≤ i1 ∧ i1 < (z.Bits.length : Int)) <|
        some (at_3, l, gi z.Bits (i1 : Int).toNat)
      else
        some (at_3, l, 3)).bind fun (at_5, l2, bits) =>
    (
      if decide (i1 < (z.Own.length : Int)) then
        ck ((0 : Int) ≤ i1 ∧ i1 < (z.Own.length : Int)) <|
        ck (inK .i64 (gi z.Own (i1 : Int).toNat)) <|
        if decide ((gi z.Own (i1 : Int).toNat) < (-2)) then
          ck (in64 (-(gi z.Own (i1 : Int).toNat))) <|
          some (at_5, l2, -(gi z.Own (i1 : Int).toNat))
        else
          some (at_5, l2, gi z.Own (i1 : Int).toNat)
      else
        some (at_5, l2, i1)).bind fun (at_6, l3, own) =>
    (loopF (p_muntinref10_Make.s3 i1 bits at_6 own) big (l3, 0)).bind fun l5 =>
    ck (in64 (i1 + 1)) <|
    some (.inl (at_6, l5, i1 + 1))
  else
    some (.inr (at_3, l))

def p_muntinref10_Make (z : T_muntinref10_Places) (most : Int) : Option ((List T_api_Cell) × (List T_api_Point)) :=
  (loopF (p_muntinref10_Make.s0 z most) big (([] : List T_api_Point), 0)).bind fun at_1 =>
  (p_muntinref10_New (at_1.length : Int)).bind fun x =>
  (loopF (p_muntinref10_Make.s2 z) big (at_1, x, 0)).bind fun (at_4, l1) =>
  some (l1, at_4)

/-! muntin/compass.Good -/
def p_compass_Good (d : Int) : Option Bool :=
  some ((decide (0 ≤ d)) && (decide (d ≤ 3)))

/-! muntin/compass.Left -/
def p_compass_Left (d : Int) (times : Int) : Option Int :=
  (p_compass_Good d).bind fun x =>
  if !x then
    some 0
  else
    ck (in64 (d + (times.tmod 4))) <|
    ck (in64 ((d + (times.tmod 4)) + 4)) <|
    some (((d + (times.tmod 4)) + 4).tmod 4)

/-! muntin/grid.side -/
def p_grid_side (cells : List T_api_Cell) (v : Int) (d : Int) : Option Int :=
  ck ((0 : Int) ≤ v ∧ v < (cells.length : Int)) <|
  ck ((0 : Int) ≤ d ∧ d < 4) <|
  if decide (((gi cells (v : Int).toNat).Next).get d = (-1)) then
    if !(decide (((gi cells (v : Int).toNat).Owner).get d = 0)) then
      some 9
    else
      some 0
  else
    if ((decide ((((gi cells (v : Int).toNat).Next).get d) < 0)) || (decide ((cells.length : Int) ≤ (((gi cells (v : Int).toNat).Next).get d)))) || (decide (((gi cells (v : Int).toNat).Next).get d = v)) then
      some 3
    else
      (p_compass_Left d 2).bind fun x =>
      ck ((0 : Int) ≤ (((gi cells (v : Int).toNat).Next).get d) ∧ (((gi cells (v : Int).toNat).Next).get d) < (cells.length : Int)) <|
      ck ((0 : Int) ≤ x ∧ x < 4) <|
      if ((!(decide (((gi cells (((gi cells (v : Int).toNat).Next).get d : Int).toNat).Next).get x = v))) || (!(decide (((gi cells (((gi cells (v : Int).toNat).Next).get d : Int).toNat).Owner).get x = ((gi cells (v : Int).toNat).Owner).get d)))) || (decide ((((gi cells (v : Int).toNat).Owner).get d) < (-2))) then
        some 9
      else
        some 0

/-! muntin/grid.Check -/
def p_grid_Check.s1 (cells : List T_api_Cell) (x : Int) : Int → Option (Int ⊕ (Unit ⊕ Int)) := fun x2 =>
  if decide (x2 < 4) then
    (p_grid_side cells x x2).bind fun x4 =>
    if !(decide (x4 = 0)) then
      some (.inr (.inr x4))
    else
      ck (in64 (x2 + 1)) <|
      some (.inl (x2 + 1))
  else
    some (.inr (.inl ()))

def p_grid_Check.s0 (cells : List T_api_Cell) : Int → Option (Int ⊕ (Unit ⊕ Int)) := fun x =>
  if decide (x < (cells.length : Int)) then
    (
      loopF (p_grid_Check.s1 cells x) big 0 : Option (Unit ⊕ Int)).bind fun o₃ => match o₃ with
    | .inl _ =>
      ck (in64 (x + 1)) <|
      some (.inl (x + 1))
    | .inr x3 =>
      some (.inr (.inr x3))
  else
    some (.inr (.inl ()))

def p_grid_Check (cells : List T_api_Cell) : Option Int :=
  if decide (4096 < (cells.length : Int)) then
    some 6
  else
    (
      loopF (p_grid_Check.s0 cells) big 0 : Option (Unit ⊕ Int)).bind fun o₁ => match o₁ with
    | .inl _ =>
      some 0
    | .inr x1 =>
      some x1

/-! math/bits.Mul64 -/
def p_bits_Mul64 (x : Int) (y : Int) : Option (Int × Int) :=
  some (ari_add .u64 (ari_add .u64 (ari_mul .u64 (sh_shr .u64 x 32) (sh_shr .u64 y 32)) (sh_shr .u64 (ari_add .u64 (ari_mul .u64 (sh_shr .u64 x 32) (ari_and .u64 y 4294967295)) (sh_shr .u64 (ari_mul .u64 (ari_and .u64 x 4294967295) (ari_and .u64 y 4294967295)) 32)) 32)) (sh_shr .u64 (ari_add .u64 (ari_and .u64 (ari_add .u64 (ari_mul .u64 (sh_shr .u64 x 32) (ari_and .u64 y 4294967295)) (sh_shr .u64 (ari_mul .u64 (ari_and .u64 x 4294967295) (ari_and .u64 y 4294967295)) 32)) 4294967295) (ari_mul .u64 (ari_and .u64 x 4294967295) (sh_shr .u64 y 32))) 32), ari_mul .u64 x y)

/-! math/bits.Mul -/
def p_bits_Mul (x : Int) (y : Int) : Option (Int × Int) :=
  (p_bits_Mul64 x y).bind fun (x1, x2) =>
  some (x1, x2)

/-! slices.Repeat[[]int,int] -/
def p_slices_Repeat_int.s0 : (List Int) × Int → Option (((List Int) × Int) ⊕ (List Int)) := fun (newslice, n) =>
  if decide (n < (newslice.length : Int)) then
    ck ((0 : Int) ≤ n ∧ n ≤ (newslice.length : Int)) <|
    ck (in64 (n + ((min (newslice.take (n : Int).toNat).length (newslice.drop (n : Int).toNat).length : Nat) : Int))) <|
    some (.inl (newslice.take (n : Int).toNat ++ ((newslice.take (n : Int).toNat).take (newslice.drop (n : Int).toNat).length ++ (newslice.drop (n : Int).toNat).drop (newslice.take (n : Int).toNat).length), n + ((min (newslice.take (n : Int).toNat).length (newslice.drop (n : Int).toNat).length : Nat) : Int)))
  else
    some (.inr newslice)

def p_slices_Repeat_int (x : List Int) (count : Int) : Option (List Int) :=
  (
    if decide (count < 0) then
      none
    else
      some ()).bind fun _ =>
  ck (inK .u64 (x.length : Int)) <|
  ck (inK .u64 count) <|
  (p_bits_Mul (x.length : Int) count).bind fun (x1, x2) =>
  (
    if (decide (0 < x1)) || (decide (9223372036854775807 < x2)) then
      none
    else
      some ()).bind fun _ =>
  ck (inK .i64 x2) <|
  ck ((0 : Int) ≤ x2 ∧ x2 ≤ 1000000000) <|
  (loopF p_slices_Repeat_int.s0 big (x.take (List.replicate (x2 : Int).toNat (0 : Int)).length ++ (List.replicate (x2 : Int).toNat (0 : Int)).drop x.length, ((min x.length (List.replicate (x2 : Int).toNat (0 : Int)).length : Nat) : Int))).bind fun newslice1 =>
  some newslice1

/-! muntin/seg.chains -/
def p_seg_chains.s1 (cells : List T_api_Cell) (x1 : Int) : Int × Int → Option ((Int × Int) ⊕ (Int ⊕ Unit)) := fun (first, n) =>
  ck ((0 : Int) ≤ first ∧ first < (cells.length : Int)) <|
  ck ((0 : Int) ≤ x1 ∧ x1 < 4) <|
  if decide (0 ≤ (((gi cells (first : Int).toNat).Next).get x1)) then
    if decide (n = (cells.length : Int)) then
      some (.inr (.inr ()))
    else
      ck (in64 (n + 1)) <|
      some (.inl (((gi cells (first : Int).toNat).Next).get x1, n + 1))
  else
    some (.inr (.inl first))

def p_seg_chains.s2 (cells : List T_api_Cell) (d : Int) (l : List (List Int)) : (List Int) × (List Int) × Int → Option (((List Int) × (List Int) × Int) ⊕ ((List Int) × (List Int))) := fun (at_2, chain, w) =>
  if decide (0 ≤ w) then
    ck ((0 : Int) ≤ w ∧ w < (at_2.length : Int)) <|
    ck (chain.length + [w].length ≤ 1000000000) <|
    ck ((0 : Int) ≤ w ∧ w < (cells.length : Int)) <|
    ck ((0 : Int) ≤ d ∧ d < 4) <|
    some (.inl (at_2.set (w : Int).toNat (l.length : Int), chain ++ [w], ((gi cells (w : Int).toNat).Next).get d))
  else
    some (.inr (at_2, chain))

def p_seg_chains.s0 (cells : List T_api_Cell) (d : Int) (x1 : Int) : (List Int) × (List (List Int)) × Int → Option (((List Int) × (List (List Int)) × Int) ⊕ (((List Int) × (List (List Int))) ⊕ Unit)) := fun (at_, l, x2) =>
  if decide (x2 < (cells.length : Int)) then
    ck ((0 : Int) ≤ x2 ∧ x2 < (at_.length : Int)) <|
    if decide (0 ≤ (gi at_ (x2 : Int).toNat)) then
      ck (in64 (x2 + 1)) <|
      some (.inl (at_, l, x2 + 1))
    else
      (
        loopF (p_seg_chains.s1 cells x1) big (x2, 0) : Option (Int ⊕ Unit)).bind fun o₃ => match o₃ with
      | .inl first1 =>
        (loopF (p_seg_chains.s2 cells d l) big (at_, ([] : List Int), first1)).bind fun (at_3, chain1) =>
        ck (l.length + 1 ≤ 1000000000) <|
        ck (in64 (x2 + 1)) <|
        some (.inl (at_3, l ++ [chain1], x2 + 1))
      | .inr _ =>
        some (.inr (.inr ()))
  else
    some (.inr (.inl (at_, l)))

def p_seg_chains (cells : List T_api_Cell) (d : Int) : Option ((List Int) × (List (List Int)) × Bool) :=
  (p_slices_Repeat_int ([(-1)] : List Int) (cells.length : Int)).bind fun x =>
  (p_compass_Left d 2).bind fun x1 =>
  (
    loopF (p_seg_chains.s0 cells d x1) big (x, ([] : List (List Int)), 0) : Option (((List Int) × (List (List Int))) ⊕ Unit)).bind fun o₁ => match o₁ with
  | .inl (at_1, l1) =>
    some (at_1, l1, true)
  | .inr _ =>
    some (([] : List Int), ([] : List (List Int)), false)

/-! muntin/seg.Of -/
def p_seg_Of (cells : List T_api_Cell) : Option (T_seg_Chains × Int) :=
  (p_grid_Check cells).bind fun x =>
  if !(decide (x = 0)) then
    some ((⟨([] : List Int), ([] : List Int), ([] : List (List Int)), ([] : List (List Int))⟩ : T_seg_Chains), x)
  else
    (p_seg_chains cells 1).bind fun (x1, x2, x3) =>
    (p_seg_chains cells 0).bind fun (x4, x5, x6) =>
    if (!x3) || (!x6) then
      some ((⟨([] : List Int), ([] : List Int), ([] : List (List Int)), ([] : List (List Int))⟩ : T_seg_Chains), 10)
    else
      some ((⟨x1, x4, x2, x5⟩ : T_seg_Chains), 0)

/-! muntin/muntinref10.Join -/
def p_muntinref10_Join (l : List T_api_Cell) (v : Int) (d : Int) (w : Int) (o : Int) : Option ((List T_api_Cell) × Int) :=
  if (((((((decide (v < 0)) || (decide ((l.length : Int) ≤ v))) || (decide (w < 0))) || (decide ((l.length : Int) ≤ w))) || (decide (v = w))) || (decide (d < 0))) || (decide (3 < d))) || (decide (o < (-2))) then
    some (l, 2)
  else
    ck ((0 : Int) ≤ v ∧ v < (l.length : Int)) <|
    ck ((0 : Int) ≤ d ∧ d < 4) <|
    (if !(decide (((gi l (v : Int).toNat).Next).get d = (-1))) then
      some true
    else
      ck (in64 (d + 2)) <|
      ck ((0 : Int) ≤ w ∧ w < (l.length : Int)) <|
      ck ((0 : Int) ≤ ((d + 2).tmod 4) ∧ ((d + 2).tmod 4) < 4) <|
      some (!(decide (((gi l (w : Int).toNat).Next).get ((d + 2).tmod 4) = (-1))))).bind fun t =>
    if t then
      some (l, 9)
    else
      (p_muntinref10_with l v d w o).bind fun x =>
      some (x, 0)

/-! muntin/muntinlaw16.square -/
def p_muntinlaw16_square : Option (List T_api_Cell) :=
  (p_muntinref10_New 4).bind fun x =>
  (p_muntinref10_Join x 0 0 1 0).bind fun (x1, x2) =>
  (p_muntinref10_Join x1 1 1 2 0).bind fun (x3, x4) =>
  (p_muntinref10_Join x3 2 2 3 0).bind fun (x5, x6) =>
  (p_muntinref10_Join x5 3 3 0 0).bind fun (x7, x8) =>
  some x7

/-! (muntin/seg.Chains).chain -/
def p_seg_Chains_chain (c : T_seg_Chains) (vertical : Bool) (i : Int) : Option (List Int) :=
  (
    if vertical then
      some c.Vert
    else
      some c.Horz).bind fun l =>
  if (decide (i < 0)) || (decide ((l.length : Int) ≤ i)) then
    some ([] : List Int)
  else
    ck ((0 : Int) ≤ i ∧ i < (l.length : Int)) <|
    some (gi l (i : Int).toNat)

/-! (muntin/seg.Chains).Span -/
def p_seg_Chains_Span (c : T_seg_Chains) (vertical : Bool) (i : Int) : Option (Int × Int) :=
  (p_seg_Chains_chain c vertical i).bind fun x =>
  if decide ((x.length : Int) = 0) then
    some (0, 0)
  else
    (
      if vertical then
        some c.Y
      else
        some c.X).bind fun of =>
    ck ((0 : Int) ≤ 0 ∧ 0 < (x.length : Int)) <|
    ck ((0 : Int) ≤ (gi x (0 : Int).toNat) ∧ (gi x (0 : Int).toNat) < (of.length : Int)) <|
    ck (in64 ((x.length : Int) - 1)) <|
    ck ((0 : Int) ≤ ((x.length : Int) - 1) ∧ ((x.length : Int) - 1) < (x.length : Int)) <|
    ck ((0 : Int) ≤ (gi x ((x.length : Int) - 1 : Int).toNat) ∧ (gi x ((x.length : Int) - 1 : Int).toNat) < (of.length : Int)) <|
    some (gi of (gi x (0 : Int).toNat : Int).toNat, gi of (gi x ((x.length : Int) - 1 : Int).toNat : Int).toNat)

/-! slices.Equal[[]int,int] -/
def p_slices_Equal_int.s0 (s1 : List Int) (s2 : List Int) : Int → Option (Int ⊕ (Unit ⊕ Unit)) := fun x =>
  if decide (x < (s1.length : Int)) then
    ck ((0 : Int) ≤ x ∧ x < (s1.length : Int)) <|
    ck ((0 : Int) ≤ x ∧ x < (s2.length : Int)) <|
    if !(decide (gi s1 (x : Int).toNat = gi s2 (x : Int).toNat)) then
      some (.inr (.inr ()))
    else
      ck (in64 (x + 1)) <|
      some (.inl (x + 1))
  else
    some (.inr (.inl ()))

def p_slices_Equal_int (s1 : List Int) (s2 : List Int) : Option Bool :=
  if !(decide ((s1.length : Int) = (s2.length : Int))) then
    some false
  else
    (
      loopF (p_slices_Equal_int.s0 s1 s2) big 0 : Option (Unit ⊕ Unit)).bind fun o₁ => match o₁ with
    | .inl _ =>
      some true
    | .inr _ =>
      some false

/-! slices.IndexFunc[[]int,int] -/
def p_slices_IndexFunc_int.s0 (s : List Int) (f : Int → Option Bool) : Int → Option (Int ⊕ (Unit ⊕ Int)) := fun x =>
  if decide (x < (s.length : Int)) then
    ck ((0 : Int) ≤ x ∧ x < (s.length : Int)) <|
    (f (gi s (x : Int).toNat)).bind fun x2 =>
    if x2 then
      some (.inr (.inr x))
    else
      ck (in64 (x + 1)) <|
      some (.inl (x + 1))
  else
    some (.inr (.inl ()))

def p_slices_IndexFunc_int (s : List Int) (f : Int → Option Bool) : Option Int :=
  (
    loopF (p_slices_IndexFunc_int.s0 s f) big 0 : Option (Unit ⊕ Int)).bind fun o₁ => match o₁ with
  | .inl _ =>
    some (-1)
  | .inr x1 =>
    some x1

/-! slices.ContainsFunc[[]int,int] -/
def p_slices_ContainsFunc_int (s : List Int) (f : Int → Option Bool) : Option Bool :=
  (p_slices_IndexFunc_int s f).bind fun x =>
  some (decide (0 ≤ x))

/-! slices.Index[[]int,int] -/
def p_slices_Index_int.s0 (s : List Int) (v : Int) : Int → Option (Int ⊕ (Unit ⊕ Int)) := fun x =>
  if decide (x < (s.length : Int)) then
    ck ((0 : Int) ≤ x ∧ x < (s.length : Int)) <|
    if decide (v = gi s (x : Int).toNat) then
      some (.inr (.inr x))
    else
      ck (in64 (x + 1)) <|
      some (.inl (x + 1))
  else
    some (.inr (.inl ()))

def p_slices_Index_int (s : List Int) (v : Int) : Option Int :=
  (
    loopF (p_slices_Index_int.s0 s v) big 0 : Option (Unit ⊕ Int)).bind fun o₁ => match o₁ with
  | .inl _ =>
    some (-1)
  | .inr x1 =>
    some x1

/-! slices.Contains[[]int,int] -/
def p_slices_Contains_int (s : List Int) (v : Int) : Option Bool :=
  (p_slices_Index_int s v).bind fun x =>
  some (decide (0 ≤ x))

/-! (muntin/seg.Chains).Meet$1 -/
def p_seg_Chains_Meet_1 (v : Int) (c0 : List Int) : Option Bool :=
  (p_slices_Contains_int c0 v).bind fun x =>
  some x

/-! (muntin/seg.Chains).Meet -/
def p_seg_Chains_Meet (c : T_seg_Chains) (vertical : Bool) (i : Int) (other : Bool) (k_ : Int) : Option Bool :=
  (p_seg_Chains_chain c other k_).bind fun x =>
  (p_seg_Chains_chain c vertical i).bind fun x1 =>
  (p_slices_ContainsFunc_int x1 (fun y0 => p_seg_Chains_Meet_1 y0 x)).bind fun x2 =>
  some x2

/-! muntin/muntinlaw16.wakes -/
def p_muntinlaw16_wakes : Option Bool :=
  (p_muntinlaw16_square ).bind fun x =>
  (p_seg_Of x).bind fun (x1, x2) =>
  if ((!(decide (x2 = 0))) || (!(decide ((x1.Vert.length : Int) = 2)))) || (!(decide ((x1.Horz.length : Int) = 2))) then
    some false
  else
    (p_seg_Chains_Span x1 true 1).bind fun (x3, x4) =>
    ck ((0 : Int) ≤ 1 ∧ 1 < (x1.Vert.length : Int)) <|
    (p_slices_Equal_int (gi x1.Vert (1 : Int).toNat) ([1, 2] : List Int)).bind fun x5 =>
    (if x5 then
      ck ((0 : Int) ≤ 1 ∧ 1 < (x1.Horz.length : Int)) <|
      (p_slices_Equal_int (gi x1.Horz (1 : Int).toNat) ([3, 2] : List Int)).bind fun x6 =>
      some x6
    else
      some false).bind fun t =>
    (if (t && (decide (x3 = 0))) && (decide (x4 = 1)) then
      (p_seg_Chains_Meet x1 true 0 false 1).bind fun x7 =>
      some x7
    else
      some false).bind fun t1 =>
    (if t1 then
      (p_seg_Chains_Meet x1 true 0 true 1).bind fun x8 =>
      some (!x8)
    else
      some false).bind fun t2 =>
    some t2

/-! muntin/muntinlaw16.SegOnce -/
def p_muntinlaw16_SegOnce.s1 (x : List T_api_Cell) (x1 : List T_api_Point) (x2 : T_seg_Chains) (x5 : Int) : Int → Option (Int ⊕ (Unit ⊕ Unit)) := fun x6 =>
  if decide (x6 < ((gi x2.Vert (x5 : Int).toNat).length : Int)) then
    ck ((0 : Int) ≤ x6 ∧ x6 < ((gi x2.Vert (x5 : Int).toNat).length : Int)) <|
    ck ((0 : Int) ≤ (gi (gi x2.Vert (x5 : Int).toNat) (x6 : Int).toNat) ∧ (gi (gi x2.Vert (x5 : Int).toNat) (x6 : Int).toNat) < (x2.X.length : Int)) <|
    (if !(decide (gi x2.X (gi (gi x2.Vert (x5 : Int).toNat) (x6 : Int).toNat : Int).toNat = x5)) then
      some true
    else
      ck ((0 : Int) ≤ (gi (gi x2.Vert (x5 : Int).toNat) (x6 : Int).toNat) ∧ (gi (gi x2.Vert (x5 : Int).toNat) (x6 : Int).toNat) < (x1.length : Int)) <|
      ck ((0 : Int) ≤ 0 ∧ 0 < ((gi x2.Vert (x5 : Int).toNat).length : Int)) <|
      ck ((0 : Int) ≤ (gi (gi x2.Vert (x5 : Int).toNat) (0 : Int).toNat) ∧ (gi (gi x2.Vert (x5 : Int).toNat) (0 : Int).toNat) < (x1.length : Int)) <|
      some (!(decide ((gi x1 (gi (gi x2.Vert (x5 : Int).toNat) (x6 : Int).toNat : Int).toNat).X = (gi x1 (gi (gi x2.Vert (x5 : Int).toNat) (0 : Int).toNat : Int).toNat).X)))).bind fun t =>
    (if t then
      some true
    else
      (if decide (0 < x6) then
        ck (in64 (x6 - 1)) <|
        ck ((0 : Int) ≤ (x6 - 1) ∧ (x6 - 1) < ((gi x2.Vert (x5 : Int).toNat).length : Int)) <|
        ck ((0 : Int) ≤ (gi (gi x2.Vert (x5 : Int).toNat) (x6 - 1 : Int).toNat) ∧ (gi (gi x2.Vert (x5 : Int).toNat) (x6 - 1 : Int).toNat) < (x.length : Int)) <|
        some (!(decide (((gi x (gi (gi x2.Vert (x5 : Int).toNat) (x6 - 1 : Int).toNat : Int).toNat).Next).get 1 = gi (gi x2.Vert (x5 : Int).toNat) (x6 : Int).toNat)))
      else
        some false).bind fun t2 =>
      some t2).bind fun t1 =>
    if t1 then
      some (.inr (.inr ()))
    else
      ck (in64 (x6 + 1)) <|
      some (.inl (x6 + 1))
  else
    some (.inr (.inl ()))

def p_muntinlaw16_SegOnce.s0 (x : List T_api_Cell) (x1 : List T_api_Point) (x2 : T_seg_Chains) : Int × Int → Option ((Int × Int) ⊕ (Int ⊕ Unit)) := fun (n, x5) =>
  if decide (x5 < (x2.Vert.length : Int)) then
    ck ((0 : Int) ≤ x5 ∧ x5 < (x2.Vert.length : Int)) <|
    ck (in64 (n + ((gi x2.Vert (x5 : Int).toNat).length : Int))) <|
    (
      loopF (p_muntinlaw16_SegOnce.s1 x x1 x2 x5) big 0 : Option (Unit ⊕ Unit)).bind fun o₃ => match o₃ with
    | .inl _ =>
      ck (in64 (x5 + 1)) <|
      some (.inl (n + ((gi x2.Vert (x5 : Int).toNat).length : Int), x5 + 1))
    | .inr _ =>
      some (.inr (.inr ()))
  else
    some (.inr (.inl n))

def p_muntinlaw16_SegOnce.s3 (x : List T_api_Cell) (x1 : List T_api_Point) (x2 : T_seg_Chains) (x7 : Int) : Int → Option (Int ⊕ (Unit ⊕ Unit)) := fun x8 =>
  if decide (x8 < ((gi x2.Horz (x7 : Int).toNat).length : Int)) then
    ck ((0 : Int) ≤ x8 ∧ x8 < ((gi x2.Horz (x7 : Int).toNat).length : Int)) <|
    ck ((0 : Int) ≤ (gi (gi x2.Horz (x7 : Int).toNat) (x8 : Int).toNat) ∧ (gi (gi x2.Horz (x7 : Int).toNat) (x8 : Int).toNat) < (x2.Y.length : Int)) <|
    (if !(decide (gi x2.Y (gi (gi x2.Horz (x7 : Int).toNat) (x8 : Int).toNat : Int).toNat = x7)) then
      some true
    else
      ck ((0 : Int) ≤ (gi (gi x2.Horz (x7 : Int).toNat) (x8 : Int).toNat) ∧ (gi (gi x2.Horz (x7 : Int).toNat) (x8 : Int).toNat) < (x1.length : Int)) <|
      ck ((0 : Int) ≤ 0 ∧ 0 < ((gi x2.Horz (x7 : Int).toNat).length : Int)) <|
      ck ((0 : Int) ≤ (gi (gi x2.Horz (x7 : Int).toNat) (0 : Int).toNat) ∧ (gi (gi x2.Horz (x7 : Int).toNat) (0 : Int).toNat) < (x1.length : Int)) <|
      some (!(decide ((gi x1 (gi (gi x2.Horz (x7 : Int).toNat) (x8 : Int).toNat : Int).toNat).Y = (gi x1 (gi (gi x2.Horz (x7 : Int).toNat) (0 : Int).toNat : Int).toNat).Y)))).bind fun t3 =>
    (if t3 then
      some true
    else
      (if decide (0 < x8) then
        ck (in64 (x8 - 1)) <|
        ck ((0 : Int) ≤ (x8 - 1) ∧ (x8 - 1) < ((gi x2.Horz (x7 : Int).toNat).length : Int)) <|
        ck ((0 : Int) ≤ (gi (gi x2.Horz (x7 : Int).toNat) (x8 - 1 : Int).toNat) ∧ (gi (gi x2.Horz (x7 : Int).toNat) (x8 - 1 : Int).toNat) < (x.length : Int)) <|
        some (!(decide (((gi x (gi (gi x2.Horz (x7 : Int).toNat) (x8 - 1 : Int).toNat : Int).toNat).Next).get 0 = gi (gi x2.Horz (x7 : Int).toNat) (x8 : Int).toNat)))
      else
        some false).bind fun t5 =>
      some t5).bind fun t4 =>
    if t4 then
      some (.inr (.inr ()))
    else
      ck (in64 (x8 + 1)) <|
      some (.inl (x8 + 1))
  else
    some (.inr (.inl ()))

def p_muntinlaw16_SegOnce.s2 (x : List T_api_Cell) (x1 : List T_api_Point) (x2 : T_seg_Chains) : Int × Int → Option ((Int × Int) ⊕ (Int ⊕ Unit)) := fun (m, x7) =>
  if decide (x7 < (x2.Horz.length : Int)) then
    ck ((0 : Int) ≤ x7 ∧ x7 < (x2.Horz.length : Int)) <|
    ck (in64 (m + ((gi x2.Horz (x7 : Int).toNat).length : Int))) <|
    (
      loopF (p_muntinlaw16_SegOnce.s3 x x1 x2 x7) big 0 : Option (Unit ⊕ Unit)).bind fun o₇ => match o₇ with
    | .inl _ =>
      ck (in64 (x7 + 1)) <|
      some (.inl (m + ((gi x2.Horz (x7 : Int).toNat).length : Int), x7 + 1))
    | .inr _ =>
      some (.inr (.inr ()))
  else
    some (.inr (.inl m))

def p_muntinlaw16_SegOnce.s4 (x : List T_api_Cell) (x2 : T_seg_Chains) : (List (A2 Int × Bool)) × Int → Option (((List (A2 Int × Bool)) × Int) ⊕ (List (A2 Int × Bool))) := fun (met, x9) =>
  if decide (x9 < (x.length : Int)) then
    ck ((0 : Int) ≤ x9 ∧ x9 < (x2.X.length : Int)) <|
    ck ((0 : Int) ≤ x9 ∧ x9 < (x2.Y.length : Int)) <|
    ck (in64 (x9 + 1)) <|
    some (.inl (mpSet (⟨gi x2.X (x9 : Int).toNat, gi x2.Y (x9 : Int).toNat⟩ : A2 Int) true met, x9 + 1))
  else
    some (.inr met)

def p_muntinlaw16_SegOnce (z : T_muntinref10_Places) : Option Bool :=
  (p_muntinref10_Make z 24).bind fun (x, x1) =>
  (p_seg_Of x).bind fun (x2, x3) =>
  (p_muntinlaw16_wakes ).bind fun x4 =>
  if (((!x4) || (!(decide (x3 = 0)))) || (!(decide ((x2.X.length : Int) = (x.length : Int))))) || (!(decide ((x2.Y.length : Int) = (x.length : Int)))) then
    some false
  else
    (
      loopF (p_muntinlaw16_SegOnce.s0 x x1 x2) big (0, 0) : Option (Int ⊕ Unit)).bind fun o₁ => match o₁ with
    | .inl n1 =>
      (
        loopF (p_muntinlaw16_SegOnce.s2 x x1 x2) big (0, 0) : Option (Int ⊕ Unit)).bind fun o₅ => match o₅ with
      | .inl m1 =>
        (loopF (p_muntinlaw16_SegOnce.s4 x x2) big (([] : List (A2 Int × Bool)), 0)).bind fun met1 =>
        some (((decide (n1 = (x.length : Int))) && (decide (m1 = (x.length : Int)))) && (decide ((met1.length : Int) = (x.length : Int))))
      | .inr _ =>
        some false
    | .inr _ =>
      some false

end Mu
