/- What the functions work out. -/
import Derived.Test.YtdefkboekpjiiaaMuA
import Derived.Test.YtdefkboekpjiiaaMuR
set_option linter.unusedVariables false
set_option linter.unnecessarySimpa false
set_option linter.unusedSimpArgs false
set_option maxHeartbeats 2000000
set_option maxRecDepth 10000
namespace Mu
open Go (IntKind BinOp UnOp)
structure T_muntinref10_Places where
  At : List Int
  Bits : List Int
  Own : List Int
  deriving DecidableEq, Inhabited
abbrev e_u8 : Enc Int := ⟨1, fun x => [.i .u8 x], fun _ => rfl⟩
theorem e_u8.one (x : Int) : (e_u8.c x).all V.one = true := rfl
abbrev e_i8 : Enc Int := ⟨1, fun x => [.i .i8 x], fun _ => rfl⟩
theorem e_i8.one (x : Int) : (e_i8.c x).all V.one = true := rfl
structure T_api_Cell where
  Next : A4 Int
  Owner : A4 Int
  deriving DecidableEq, Inhabited
structure T_api_Point where
  X : Int
  Y : Int
  deriving DecidableEq, Inhabited
abbrev e_T_api_Point : Enc T_api_Point := ⟨2, fun x => [.i .i64 x.X, .i .i64 x.Y], fun _ => rfl⟩
theorem e_T_api_Point.one (x : T_api_Point) : (e_T_api_Point.c x).all V.one = true := rfl
theorem e_T_api_Point.same (x y : T_api_Point) : sameAll [.i, .i] (e_T_api_Point.c x) (e_T_api_Point.c y) = some (decide (x = y)) := by
  obtain ⟨x1, x2⟩ := x
  obtain ⟨y1, y2⟩ := y
  refine (sameAll_i (sameAll_i sameAll_nil)).trans ?_
  congr 1
  rw [Bool.eq_iff_iff]
  simp [and_assoc]
abbrev e_T_api_Cell : Enc T_api_Cell := ⟨8, fun x => [.i .i64 x.Next.a, .i .i64 x.Next.b, .i .i64 x.Next.c, .i .i64 x.Next.d, .i .i64 x.Owner.a, .i .i64 x.Owner.b, .i .i64 x.Owner.c, .i .i64 x.Owner.d], fun _ => rfl⟩
theorem e_T_api_Cell.one (x : T_api_Cell) : (e_T_api_Cell.c x).all V.one = true := rfl
structure T_api_Arc where
  From : Int
  To : Int
  Weight : Int
  deriving DecidableEq, Inhabited
structure T_seg_Chains where
  X : List Int
  Y : List Int
  Vert : List (List Int)
  Horz : List (List Int)
  deriving DecidableEq, Inhabited
abbrev e_T_api_Arc : Enc T_api_Arc := ⟨3, fun x => [.i .i64 x.From, .i .i64 x.To, .i .i64 x.Weight], fun _ => rfl⟩
theorem e_T_api_Arc.one (x : T_api_Arc) : (e_T_api_Arc.c x).all V.one = true := rfl
theorem e_T_api_Arc.same (x y : T_api_Arc) : sameAll [.i, .i, .i] (e_T_api_Arc.c x) (e_T_api_Arc.c y) = some (decide (x = y)) := by
  obtain ⟨x1, x2, x3⟩ := x
  obtain ⟨y1, y2, y3⟩ := y
  refine (sameAll_i (sameAll_i (sameAll_i sameAll_nil))).trans ?_
  congr 1
  rw [Bool.eq_iff_iff]
  simp [and_assoc]
structure T_arcs_Graphs where
  Chains : T_seg_Chains
  H : List T_api_Arc
  V : List T_api_Arc
  deriving DecidableEq, Inhabited
structure T_muntinref16_Chains where
  X : List Int
  Y : List Int
  Vert : List (List Int)
  Horz : List (List Int)
  deriving DecidableEq, Inhabited
def Ok_u8 (x : Int) : Prop := Wf .u8 x
def Ok_i8 (x : Int) : Prop := Wf .i8 x
def Ok_i64 (x : Int) : Prop := Wf .i64 x
/-! muntin/muntinref10.New -/
def p_muntinref10_New.s1 (v : Int) : (List T_api_Cell) × Int → Option (((List T_api_Cell) × Int) ⊕ (List T_api_Cell)) := fun (l2, d) =>
  if decide (d < 4) then
    ck ((0 : Int) ≤ v ∧ v < (l2.length : Int)) <|
    ck ((0 : Int) ≤ d ∧ d < 4) <|
    ck (in64 (d + 1)) <|
    some (.inl (l2.set (v : Int).toNat ({ gi l2 (v : Int).toNat with Next := ((gi l2 (v : Int).toNat).Next).set d (-1) }), d + 1))
  else
    some (.inr l2)

def p_muntinref10_New.s0 (n : Int) : (List T_api_Cell) × Int → Option (((List T_api_Cell) × Int) ⊕ (List T_api_Cell)) := fun (l, v) =>
  if decide (v < n) then
    (loopF (p_muntinref10_New.s1 v) big (l, 0)).bind fun l3 =>
    ck (in64 (v + 1)) <|
    some (.inl (l3, v + 1))
  else
    some (.inr l)

def p_muntinref10_New (n : Int) : Option (List T_api_Cell) :=
  ck ((0 : Int) ≤ n ∧ n ≤ 1000000000) <|
  (loopF (p_muntinref10_New.s0 n) big (List.replicate (n : Int).toNat (⟨⟨0, 0, 0, 0⟩, ⟨0, 0, 0, 0⟩⟩ : T_api_Cell), 0)).bind fun l1 =>
  some l1

/-! muntin/muntinref10.Nearest -/
def p_muntinref10_Nearest.s0 (at_ : List T_api_Point) (i : Int) (d : Int) : Int × Int → Option ((Int × Int) ⊕ Int) := fun (best, k_) =>
  if decide (k_ < (at_.length : Int)) then
    (if decide (d = 0) then
      ck ((0 : Int) ≤ k_ ∧ k_ < (at_.length : Int)) <|
      ck ((0 : Int) ≤ i ∧ i < (at_.length : Int)) <|
      some (decide ((gi at_ (k_ : Int).toNat).Y = (gi at_ (i : Int).toNat).Y))
    else
      some false).bind fun t =>
    (if t then
      ck ((0 : Int) ≤ k_ ∧ k_ < (at_.length : Int)) <|
      ck ((0 : Int) ≤ i ∧ i < (at_.length : Int)) <|
      some (decide (((gi at_ (i : Int).toNat).X) < ((gi at_ (k_ : Int).toNat).X)))
    else
      some false).bind fun t1 =>
    (if t1 then
      (if decide (best < 0) then
        some true
      else
        ck ((0 : Int) ≤ k_ ∧ k_ < (at_.length : Int)) <|
        ck ((0 : Int) ≤ best ∧ best < (at_.length : Int)) <|
        some (decide (((gi at_ (k_ : Int).toNat).X) < ((gi at_ (best : Int).toNat).X)))).bind fun t3 =>
      some t3
    else
      some false).bind fun t2 =>
    (
      if t2 then
        some k_
      else
        some best).bind fun best2 =>
    (if decide (d = 1) then
      ck ((0 : Int) ≤ k_ ∧ k_ < (at_.length : Int)) <|
      ck ((0 : Int) ≤ i ∧ i < (at_.length : Int)) <|
      some (decide ((gi at_ (k_ : Int).toNat).X = (gi at_ (i : Int).toNat).X))
    else
      some false).bind fun t4 =>
    (if t4 then
      ck ((0 : Int) ≤ k_ ∧ k_ < (at_.length : Int)) <|
      ck ((0 : Int) ≤ i ∧ i < (at_.length : Int)) <|
      some (decide (((gi at_ (i : Int).toNat).Y) < ((gi at_ (k_ : Int).toNat).Y)))
    else
      some false).bind fun t5 =>
    (if t5 then
      (if decide (best2 < 0) then
        some true
      else
        ck ((0 : Int) ≤ k_ ∧ k_ < (at_.length : Int)) <|
        ck ((0 : Int) ≤ best2 ∧ best2 < (at_.length : Int)) <|
        some (decide (((gi at_ (k_ : Int).toNat).Y) < ((gi at_ (best2 : Int).toNat).Y)))).bind fun t7 =>
      some t7
    else
      some false).bind fun t6 =>
    if t6 then
      ck (in64 (k_ + 1)) <|
      some (.inl (k_, k_ + 1))
    else
      ck (in64 (k_ + 1)) <|
      some (.inl (best2, k_ + 1))
  else
    some (.inr best)

def p_muntinref10_Nearest (at_ : List T_api_Point) (i : Int) (d : Int) : Option Int :=
  (loopF (p_muntinref10_Nearest.s0 at_ i d) big ((-1), 0)).bind fun best1 =>
  some best1

/-! muntin/muntinref10.Crossed -/
def p_muntinref10_Crossed.s1 (at_ : List T_api_Point) (l : List T_api_Cell) (i : Int) (w : Int) (a : Int) : Int → Option (Int ⊕ (Unit ⊕ Unit)) := fun d =>
  if decide (d < 2) then
    ck ((0 : Int) ≤ a ∧ a < (l.length : Int)) <|
    ck ((0 : Int) ≤ d ∧ d < 4) <|
    if decide ((((gi l (a : Int).toNat).Next).get d) < 0) then
      ck (in64 (d + 1)) <|
      some (.inl (d + 1))
    else
      ck ((0 : Int) ≤ a ∧ a < (at_.length : Int)) <|
      ck ((0 : Int) ≤ (((gi l (a : Int).toNat).Next).get d) ∧ (((gi l (a : Int).toNat).Next).get d) < (at_.length : Int)) <|
      (if decide ((gi at_ (a : Int).toNat).Y = (gi at_ (((gi l (a : Int).toNat).Next).get d : Int).toNat).Y) then
        ck ((0 : Int) ≤ i ∧ i < (at_.length : Int)) <|
        ck ((0 : Int) ≤ w ∧ w < (at_.length : Int)) <|
        some (decide ((gi at_ (i : Int).toNat).X = (gi at_ (w : Int).toNat).X))
      else
        some false).bind fun t =>
      (if t then
        ck ((0 : Int) ≤ i ∧ i < (at_.length : Int)) <|
        some (decide (((gi at_ (a : Int).toNat).X) < ((gi at_ (i : Int).toNat).X)))
      else
        some false).bind fun t1 =>
      (if t1 then
        ck ((0 : Int) ≤ i ∧ i < (at_.length : Int)) <|
        some (decide (((gi at_ (i : Int).toNat).X) < ((gi at_ (((gi l (a : Int).toNat).Next).get d : Int).toNat).X)))
      else
        some false).bind fun t2 =>
      (if t2 then
        ck ((0 : Int) ≤ i ∧ i < (at_.length : Int)) <|
        some (decide (((gi at_ (i : Int).toNat).Y) < ((gi at_ (a : Int).toNat).Y)))
      else
        some false).bind fun t3 =>
      (if t3 then
        ck ((0 : Int) ≤ w ∧ w < (at_.length : Int)) <|
        some (decide (((gi at_ (a : Int).toNat).Y) < ((gi at_ (w : Int).toNat).Y)))
      else
        some false).bind fun t4 =>
      if t4 then
        some (.inr (.inr ()))
      else
        (if decide ((gi at_ (a : Int).toNat).X = (gi at_ (((gi l (a : Int).toNat).Next).get d : Int).toNat).X) then
          ck ((0 : Int) ≤ i ∧ i < (at_.length : Int)) <|
          ck ((0 : Int) ≤ w ∧ w < (at_.length : Int)) <|
          some (decide ((gi at_ (i : Int).toNat).Y = (gi at_ (w : Int).toNat).Y))
        else
          some false).bind fun t5 =>
        (if t5 then
          ck ((0 : Int) ≤ i ∧ i < (at_.length : Int)) <|
          some (decide (((gi at_ (i : Int).toNat).X) < ((gi at_ (a : Int).toNat).X)))
        else
          some false).bind fun t6 =>
        (if t6 then
          ck ((0 : Int) ≤ w ∧ w < (at_.length : Int)) <|
          some (decide (((gi at_ (a : Int).toNat).X) < ((gi at_ (w : Int).toNat).X)))
        else
          some false).bind fun t7 =>
        (if t7 then
          ck ((0 : Int) ≤ i ∧ i < (at_.length : Int)) <|
          some (decide (((gi at_ (a : Int).toNat).Y) < ((gi at_ (i : Int).toNat).Y)))
        else
          some false).bind fun t8 =>
        (if t8 then
          ck ((0 : Int) ≤ i ∧ i < (at_.length : Int)) <|
          some (decide (((gi at_ (i : Int).toNat).Y) < ((gi at_ (((gi l (a : Int).toNat).Next).get d : Int).toNat).Y)))
        else
          some false).bind fun t9 =>
        if t9 then
          some (.inr (.inr ()))
        else
          ck (in64 (d + 1)) <|
          some (.inl (d + 1))
  else
    some (.inr (.inl ()))

def p_muntinref10_Crossed.s0 (at_ : List T_api_Point) (l : List T_api_Cell) (i : Int) (w : Int) : Int → Option (Int ⊕ (Unit ⊕ Unit)) := fun a =>
  if decide (a < (l.length : Int)) then
    (
      loopF (p_muntinref10_Crossed.s1 at_ l i w a) big 0 : Option (Unit ⊕ Unit)).bind fun o₃ => match o₃ with
    | .inl _ =>
      ck (in64 (a + 1)) <|
      some (.inl (a + 1))
    | .inr _ =>
      some (.inr (.inr ()))
  else
    some (.inr (.inl ()))

def p_muntinref10_Crossed (at_ : List T_api_Point) (l : List T_api_Cell) (i : Int) (w : Int) : Option Bool :=
  (
    loopF (p_muntinref10_Crossed.s0 at_ l i w) big 0 : Option (Unit ⊕ Unit)).bind fun o₁ => match o₁ with
  | .inl _ =>
    some false
  | .inr _ =>
    some true

/-! muntin/muntinref10.with -/
def p_muntinref10_with.s0 (l : List T_api_Cell) (v : Int) (d : Int) (w : Int) (o : Int) : (List T_api_Cell) × Int → Option (((List T_api_Cell) × Int) ⊕ (List T_api_Cell)) := fun (out, i) =>
  if decide (i < (l.length : Int)) then
    ck ((0 : Int) ≤ i ∧ i < (l.length : Int)) <|
    (
      if decide (i = v) then
        ck ((0 : Int) ≤ d ∧ d < 4) <|
        some ({ { gi l (i : Int).toNat with Next := ((gi l (i : Int).toNat).Next).set d w } with Owner := (({ gi l (i : Int).toNat with Next := ((gi l (i : Int).toNat).Next).set d w }).Owner).set d o })
      else
        some (gi l (i : Int).toNat)).bind fun c =>
    if decide (i = w) then
      ck (in64 (d + 2)) <|
      ck ((0 : Int) ≤ ((d + 2).tmod 4) ∧ ((d + 2).tmod 4) < 4) <|
      ck (out.length + [{ { c with Next := c.Next.set ((d + 2).tmod 4) v } with Owner := (({ c with Next := c.Next.set ((d + 2).tmod 4) v }).Owner).set ((d + 2).tmod 4) o }].length ≤ 1000000000) <|
      ck (in64 (i + 1)) <|
      some (.inl (out ++ [{ { c with Next := c.Next.set ((d + 2).tmod 4) v } with Owner := (({ c with Next := c.Next.set ((d + 2).tmod 4) v }).Owner).set ((d + 2).tmod 4) o }], i + 1))
    else
      ck (out.length + [c].length ≤ 1000000000) <|
      ck (in64 (i + 1)) <|
      some (.inl (out ++ [c], i + 1))
  else
    some (.inr out)

def p_muntinref10_with (l : List T_api_Cell) (v : Int) (d : Int) (w : Int) (o : Int) : Option (List T_api_Cell) :=
  (loopF (p_muntinref10_with.s0 l v d w o) big (([] : List T_api_Cell), 0)).bind fun out1 =>
  some out1

/-! muntin/muntinref10.Make -/
def p_muntinref10_Make.s1 (z : T_muntinref10_Places) (at_ : List T_api_Point) (i : Int) : Bool × Int → Option ((Bool × Int) ⊕ ((List T_api_Point) × Bool)) := fun (met, k_) =>
  if decide (k_ < (at_.length : Int)) then
    (if met then
      some true
    else
      ck ((0 : Int) ≤ k_ ∧ k_ < (at_.length : Int)) <|
      some (decide (gi at_ (k_ : Int).toNat = (⟨(gi z.At (i : Int).toNat).tmod 8, ((gi z.At (i : Int).toNat).tdiv 8).tmod 8⟩ : T_api_Point)))).bind fun t =>
    ck (in64 (k_ + 1)) <|
    some (.inl (t, k_ + 1))
  else
    some (.inr (at_, met))

def p_muntinref10_Make.s0 (z : T_muntinref10_Places) (most : Int) : (List T_api_Point) × Int → Option (((List T_api_Point) × Int) ⊕ (List T_api_Point)) := fun (at_, i) =>
  if (decide (i < (z.At.length : Int))) && (decide ((at_.length : Int) < most)) then
    ck ((0 : Int) ≤ i ∧ i < (z.At.length : Int)) <|
    ck (inK .i64 (gi z.At (i : Int).toNat)) <|
    ck ((8 : Int) ≠ 0 ∧ in64 ((gi z.At (i : Int).toNat).tdiv 8)) <|
    (loopF (p_muntinref10_Make.s1 z at_ i) big (false, 0)).bind fun (at_2, met1) =>
    if !met1 then
      ck (at_2.length + [(⟨(gi z.At (i : Int).toNat).tmod 8, ((gi z.At (i : Int).toNat).tdiv 8).tmod 8⟩ : T_api_Point)].length ≤ 1000000000) <|
      ck (in64 (i + 1)) <|
      some (.inl (at_2 ++ [(⟨(gi z.At (i : Int).toNat).tmod 8, ((gi z.At (i : Int).toNat).tdiv 8).tmod 8⟩ : T_api_Point)], i + 1))
    else
      ck (in64 (i + 1)) <|
      some (.inl (at_2, i + 1))
  else
    some (.inr at_)

def p_muntinref10_Make.s3 (i1 : Int) (bits : Int) (at_6 : List T_api_Point) (own : Int) : (List T_api_Cell) × Int → Option (((List T_api_Cell) × Int) ⊕ (List T_api_Cell)) := fun (l4, d) =>
  if decide (d < 2) then
    (p_muntinref10_Nearest at_6 i1 d).bind fun x1 =>
    ck ((0 : Int) ≤ d) <|
    if (decide (ari_and .u8 (sh_shr .u8 bits d) 1 = 0)) || (decide (x1 < 0)) then
      ck (in64 (d + 1)) <|
      some (.inl (l4, d + 1))
    else
      (p_muntinref10_Crossed at_6 l4 i1 x1).bind fun x2 =>
      if !x2 then
        (p_muntinref10_with l4 i1 d x1 own).bind fun x3 =>
        ck (in64 (d + 1)) <|
        some (.inl (x3, d + 1))
      else
        ck (in64 (d + 1)) <|
        some (.inl (l4, d + 1))
  else
    some (.inr l4)

def p_muntinref10_Make.s2 (z : T_muntinref10_Places) : (List T_api_Point) × (List T_api_Cell) × Int → Option (((List T_api_Point) × (List T_api_Cell) × Int) ⊕ ((List T_api_Point) × (List T_api_Cell))) := fun (at_3, l, i1) =>
  if decide (i1 < (at_3.length : Int)) then
    (
      if decide (i1 < (z.Bits.length : Int)) then
        ck ((0 : Int) ≤ i1 ∧ i1 < (z.Bits.length : Int)) <|
        some (at_3, l, gi z.Bits (i1 : Int).toNat)
      else
        some (at_3, l, 3)).bind fun (at_5, l2, bits) =>
    (
      if decide (i1 < (z.Own.length : Int)) then
        ck ((0 : Int) ≤ i1 ∧ i1 < (z.Own.length : Int)) <|
        ck (inK .i64 (gi z.Own (i1 : Int).toNat)) <|
        if decide ((gi z.Own (i1 : Int).toNat) < (-2)) then
          ck (in64 (-(gi z.Own (i1 : Int).toNat))) <|
          some (at_5, l2, -(gi z.Own (i1 : Int).toNat))
        else
          some (at_5, l2, gi z.Own (i1 : Int).toNat)
      else
        some (at_5, l2, i1)).bind fun (at_6, l3, own) =>
    (loopF (p_muntinref10_Make.s3 i1 bits at_6 own) big (l3, 0)).bind fun l5 =>
    ck (in64 (i1 + 1)) <|
    some (.inl (at_6, l5, i1 + 1))
  else
    some (.inr (at_3, l))

def p_muntinref10_Make (z : T_muntinref10_Places) (most : Int) : Option ((List T_api_Cell) × (List T_api_Point)) :=
  (loopF (p_muntinref10_Make.s0 z most) big (([] : List T_api_Point), 0)).bind fun at_1 =>
  (p_muntinref10_New (at_1.length : Int)).bind fun x =>
  (loopF (p_muntinref10_Make.s2 z) big (at_1, x, 0)).bind fun (at_4, l1) =>
  some (l1, at_4)

/-! muntin/compass.Good -/
def p_compass_Good (d : Int) : Option Bool :=
  some ((decide (0 ≤ d)) && (decide (d ≤ 3)))

/-! muntin/compass.Left -/
def p_compass_Left (d : Int) (times : Int) : Option Int :=
  (p_compass_Good d).bind fun x =>
  if !x then
    some 0
  else
    ck (in64 (d + (times.tmod 4))) <|
    ck (in64 ((d + (times.tmod 4)) + 4)) <|
    some (((d + (times.tmod 4)) + 4).tmod 4)

/-! muntin/grid.side -/
def p_grid_side (cells : List T_api_Cell) (v : Int) (d : Int) : Option Int :=
  ck ((0 : Int) ≤ v ∧ v < (cells.length : Int)) <|
  ck ((0 : Int) ≤ d ∧ d < 4) <|
  if decide (((gi cells (v : Int).toNat).Next).get d = (-1)) then
    if !(decide (((gi cells (v : Int).toNat).Owner).get d = 0)) then
      some 9
    else
      some 0
  else
    if ((decide ((((gi cells (v : Int).toNat).Next).get d) < 0)) || (decide ((cells.length : Int) ≤ (((gi cells (v : Int).toNat).Next).get d)))) || (decide (((gi cells (v : Int).toNat).Next).get d = v)) then
      some 3
    else
      (p_compass_Left d 2).bind fun x =>
      ck ((0 : Int) ≤ (((gi cells (v : Int).toNat).Next).get d) ∧ (((gi cells (v : Int).toNat).Next).get d) < (cells.length : Int)) <|
      ck ((0 : Int) ≤ x ∧ x < 4) <|
      if ((!(decide (((gi cells (((gi cells (v : Int).toNat).Next).get d : Int).toNat).Next).get x = v))) || (!(decide (((gi cells (((gi cells (v : Int).toNat).Next).get d : Int).toNat).Owner).get x = ((gi cells (v : Int).toNat).Owner).get d)))) || (decide ((((gi cells (v : Int).toNat).Owner).get d) < (-2))) then
        some 9
      else
        some 0

/-! muntin/grid.Check -/
def p_grid_Check.s1 (cells : List T_api_Cell) (x : Int) : Int → Option (Int ⊕ (Unit ⊕ Int)) := fun x2 =>
  if decide (x2 < 4) then
    (p_grid_side cells x x2).bind fun x4 =>
    if !(decide (x4 = 0)) then
      some (.inr (.inr x4))
    else
      ck (in64 (x2 + 1)) <|
      some (.inl (x2 + 1))
  else
    some (.inr (.inl ()))

def p_grid_Check.s0 (cells : List T_api_Cell) : Int → Option (Int ⊕ (Unit ⊕ Int)) := fun x =>
  if decide (x < (cells.length : Int)) then
    (
      loopF (p_grid_Check.s1 cells x) big 0 : Option (Unit ⊕ Int)).bind fun o₃ => match o₃ with
    | .inl _ =>
      ck (in64 (x + 1)) <|
      some (.inl (x + 1))
    | .inr x3 =>
      some (.inr (.inr x3))
  else
    some (.inr (.inl ()))

def p_grid_Check (cells : List T_api_Cell) : Option Int :=
  if decide (4096 < (cells.length : Int)) then
    some 6
  else
    (
      loopF (p_grid_Check.s0 cells) big 0 : Option (Unit ⊕ Int)).bind fun o₁ => match o₁ with
    | .inl _ =>
      some 0
    | .inr x1 =>
      some x1

/-! math/bits.Mul64 -/
def p_bits_Mul64 (x : Int) (y : Int) : Option (Int × Int) :=
  some (ari_add .u64 (ari_add .u64 (ari_mul .u64 (sh_shr .u64 x 32) (sh_shr .u64 y 32)) (sh_shr .u64 (ari_add .u64 (ari_mul .u64 (sh_shr .u64 x 32) (ari_and .u64 y 4294967295)) (sh_shr .u64 (ari_mul .u64 (ari_and .u64 x 4294967295) (ari_and .u64 y 4294967295)) 32)) 32)) (sh_shr .u64 (ari_add .u64 (ari_and .u64 (ari_add .u64 (ari_mul .u64 (sh_shr .u64 x 32) (ari_and .u64 y 4294967295)) (sh_shr .u64 (ari_mul .u64 (ari_and .u64 x 4294967295) (ari_and .u64 y 4294967295)) 32)) 4294967295) (ari_mul .u64 (ari_and .u64 x 4294967295) (sh_shr .u64 y 32))) 32), ari_mul .u64 x y)

/-! math/bits.Mul -/
def p_bits_Mul (x : Int) (y : Int) : Option (Int × Int) :=
  (p_bits_Mul64 x y).bind fun (x1, x2) =>
  some (x1, x2)

/-! slices.Repeat[[]int,int] -/
def p_slices_Repeat_int.s0 : (List Int) × Int → Option (((List Int) × Int) ⊕ (List Int)) := fun (newslice, n) =>
  if decide (n < (newslice.length : Int)) then
    ck ((0 : Int) ≤ n ∧ n ≤ (newslice.length : Int)) <|
    ck (in64 (n + ((min (newslice.take (n : Int).toNat).length (newslice.drop (n : Int).toNat).length : Nat) : Int))) <|
    some (.inl (newslice.take (n : Int).toNat ++ ((newslice.take (n : Int).toNat).take (newslice.drop (n : Int).toNat).length ++ (newslice.drop (n : Int).toNat).drop (newslice.take (n : Int).toNat).length), n + ((min (newslice.take (n : Int).toNat).length (newslice.drop (n : Int).toNat).length : Nat) : Int)))
  else
    some (.inr newslice)

def p_slices_Repeat_int (x : List Int) (count : Int) : Option (List Int) :=
  (
    if decide (count < 0) then
      none
    else
      some ()).bind fun _ =>
  ck (inK .u64 (x.length : Int)) <|
  ck (inK .u64 count) <|
  (p_bits_Mul (x.length : Int) count).bind fun (x1, x2) =>
  (
    if (decide (0 < x1)) || (decide (9223372036854775807 < x2)) then
      none
    else
      some ()).bind fun _ =>
  ck (inK .i64 x2) <|
  ck ((0 : Int) ≤ x2 ∧ x2 ≤ 1000000000) <|
  (loopF p_slices_Repeat_int.s0 big (x.take (List.replicate (x2 : Int).toNat (0 : Int)).length ++ (List.replicate (x2 : Int).toNat (0 : Int)).drop x.length, ((min x.length (List.replicate (x2 : Int).toNat (0 : Int)).length : Nat) : Int))).bind fun newslice1 =>
  some newslice1

/-! muntin/seg.chains -/
def p_seg_chains.s1 (cells : List T_api_Cell) (x1 : Int) : Int × Int → Option ((Int × Int) ⊕ (Int ⊕ Unit)) := fun (first, n) =>
  ck ((0 : Int) ≤ first ∧ first < (cells.length : Int)) <|
  ck ((0 : Int) ≤ x1 ∧ x1 < 4) <|
  if decide (0 ≤ (((gi cells (first : Int).toNat).Next).get x1)) then
    if decide (n = (cells.length : Int)) then
      some (.inr (.inr ()))
    else
      ck (in64 (n + 1)) <|
      some (.inl (((gi cells (first : Int).toNat).Next).get x1, n + 1))
  else
    some (.inr (.inl first))

def p_seg_chains.s2 (cells : List T_api_Cell) (d : Int) (l : List (List Int)) : (List Int) × (List Int) × Int → Option (((List Int) × (List Int) × Int) ⊕ ((List Int) × (List Int))) := fun (at_2, chain, w) =>
  if decide (0 ≤ w) then
    ck ((0 : Int) ≤ w ∧ w < (at_2.length : Int)) <|
    ck (chain.length + [w].length ≤ 1000000000) <|
    ck ((0 : Int) ≤ w ∧ w < (cells.length : Int)) <|
    ck ((0 : Int) ≤ d ∧ d < 4) <|
    some (.inl (at_2.set (w : Int).toNat (l.length : Int), chain ++ [w], ((gi cells (w : Int).toNat).Next).get d))
  else
    some (.inr (at_2, chain))

def p_seg_chains.s0 (cells : List T_api_Cell) (d : Int) (x1 : Int) : (List Int) × (List (List Int)) × Int → Option (((List Int) × (List (List Int)) × Int) ⊕ (((List Int) × (List (List Int))) ⊕ Unit)) := fun (at_, l, x2) =>
  if decide (x2 < (cells.length : Int)) then
    ck ((0 : Int) ≤ x2 ∧ x2 < (at_.length : Int)) <|
    if decide (0 ≤ (gi at_ (x2 : Int).toNat)) then
      ck (in64 (x2 + 1)) <|
      some (.inl (at_, l, x2 + 1))
    else
      (
        loopF (p_seg_chains.s1 cells x1) big (x2, 0) : Option (Int ⊕ Unit)).bind fun o₃ => match o₃ with
      | .inl first1 =>
        (loopF (p_seg_chains.s2 cells d l) big (at_, ([] : List Int), first1)).bind fun (at_3, chain1) =>
        ck (l.length + 1 ≤ 1000000000) <|
        ck (in64 (x2 + 1)) <|
        some (.inl (at_3, l ++ [chain1], x2 + 1))
      | .inr _ =>
        some (.inr (.inr ()))
  else
    some (.inr (.inl (at_, l)))

def p_seg_chains (cells : List T_api_Cell) (d : Int) : Option ((List Int) × (List (List Int)) × Bool) :=
  (p_slices_Repeat_int ([(-1)] : List Int) (cells.length : Int)).bind fun x =>
  (p_compass_Left d 2).bind fun x1 =>
  (
    loopF (p_seg_chains.s0 cells d x1) big (x, ([] : List (List Int)), 0) : Option (((List Int) × (List (List Int))) ⊕ Unit)).bind fun o₁ => match o₁ with
  | .inl (at_1, l1) =>
    some (at_1, l1, true)
  | .inr _ =>
    some (([] : List Int), ([] : List (List Int)), false)

/-! muntin/seg.Of -/
def p_seg_Of (cells : List T_api_Cell) : Option (T_seg_Chains × Int) :=
  (p_grid_Check cells).bind fun x =>
  if !(decide (x = 0)) then
    some ((⟨([] : List Int), ([] : List Int), ([] : List (List Int)), ([] : List (List Int))⟩ : T_seg_Chains), x)
  else
    (p_seg_chains cells 1).bind fun (x1, x2, x3) =>
    (p_seg_chains cells 0).bind fun (x4, x5, x6) =>
    if (!x3) || (!x6) then
      some ((⟨([] : List Int), ([] : List Int), ([] : List (List Int)), ([] : List (List Int))⟩ : T_seg_Chains), 10)
    else
      some ((⟨x1, x4, x2, x5⟩ : T_seg_Chains), 0)

/-! muntin/arcs.weight -/
def p_arcs_weight (owner : Int) : Option Int :=
  if decide (0 ≤ owner) then
    some 1
  else
    some 0

/-! muntin/arcs.graph -/
def p_arcs_graph.s0 (cells : List T_api_Cell) (d : Int) (of : List Int) : (List T_api_Arc) × Int → Option (((List T_api_Arc) × Int) ⊕ (List T_api_Arc)) := fun (l, x) =>
  if decide (x < (cells.length : Int)) then
    ck ((0 : Int) ≤ x ∧ x < (cells.length : Int)) <|
    ck ((0 : Int) ≤ d ∧ d < 4) <|
    if decide (0 ≤ (((gi cells (x : Int).toNat).Next).get d)) then
      ck ((0 : Int) ≤ x ∧ x < (of.length : Int)) <|
      ck ((0 : Int) ≤ (((gi cells (x : Int).toNat).Next).get d) ∧ (((gi cells (x : Int).toNat).Next).get d) < (of.length : Int)) <|
      (p_arcs_weight (((gi cells (x : Int).toNat).Owner).get d)).bind fun x1 =>
      ck (l.length + [(⟨gi of (x : Int).toNat, gi of (((gi cells (x : Int).toNat).Next).get d : Int).toNat, x1⟩ : T_api_Arc)].length ≤ 1000000000) <|
      ck (in64 (x + 1)) <|
      some (.inl (l ++ [(⟨gi of (x : Int).toNat, gi of (((gi cells (x : Int).toNat).Next).get d : Int).toNat, x1⟩ : T_api_Arc)], x + 1))
    else
      ck (in64 (x + 1)) <|
      some (.inl (l, x + 1))
  else
    some (.inr l)

def p_arcs_graph (cells : List T_api_Cell) (d : Int) (of : List Int) : Option (List T_api_Arc) :=
  (loopF (p_arcs_graph.s0 cells d of) big (([] : List T_api_Arc), 0)).bind fun l1 =>
  some l1

/-! muntin/arcs.Of -/
def p_arcs_Of (cells : List T_api_Cell) : Option (T_arcs_Graphs × Int) :=
  (p_seg_Of cells).bind fun (x, x1) =>
  if !(decide (x1 = 0)) then
    some ((⟨(⟨([] : List Int), ([] : List Int), ([] : List (List Int)), ([] : List (List Int))⟩ : T_seg_Chains), ([] : List T_api_Arc), ([] : List T_api_Arc)⟩ : T_arcs_Graphs), x1)
  else
    (p_arcs_graph cells 0 x.X).bind fun x2 =>
    (p_arcs_graph cells 1 x.Y).bind fun x3 =>
    some ((⟨x, x2, x3⟩ : T_arcs_Graphs), 0)

/-! muntin/muntinref16.First -/
def p_muntinref16_First.s0 (l : List T_api_Cell) (d : Int) : Int × Int → Option ((Int × Int) ⊕ (Unit ⊕ Int)) := fun (v1, n) =>
  if decide (n ≤ (l.length : Int)) then
    ck (in64 (d + 2)) <|
    ck ((0 : Int) ≤ v1 ∧ v1 < (l.length : Int)) <|
    ck ((0 : Int) ≤ ((d + 2).tmod 4) ∧ ((d + 2).tmod 4) < 4) <|
    if decide ((((gi l (v1 : Int).toNat).Next).get ((d + 2).tmod 4)) < 0) then
      some (.inr (.inr v1))
    else
      ck (in64 (n + 1)) <|
      some (.inl (((gi l (v1 : Int).toNat).Next).get ((d + 2).tmod 4), n + 1))
  else
    some (.inr (.inl ()))

def p_muntinref16_First (l : List T_api_Cell) (v : Int) (d : Int) : Option Int :=
  (
    loopF (p_muntinref16_First.s0 l d) big (v, 0) : Option (Unit ⊕ Int)).bind fun o₁ => match o₁ with
  | .inl _ =>
    some (-1)
  | .inr x =>
    some x

/-! muntin/muntinref16.chains -/
def p_muntinref16_chains.s1 (firsts : List Int) (x : Int) : Int → Option (Int ⊕ Int) := fun k_ =>
  (if decide (k_ < (firsts.length : Int)) then
    ck ((0 : Int) ≤ k_ ∧ k_ < (firsts.length : Int)) <|
    some (!(decide (gi firsts (k_ : Int).toNat = x)))
  else
    some false).bind fun t =>
  if t then
    ck (in64 (k_ + 1)) <|
    some (.inl (k_ + 1))
  else
    some (.inr k_)

def p_muntinref16_chains.s2 (l : List T_api_Cell) (d : Int) : (List Int) × Int → Option (((List Int) × Int) ⊕ (List Int)) := fun (c, w) =>
  if decide (0 ≤ w) then
    ck (c.length + [w].length ≤ 1000000000) <|
    ck ((0 : Int) ≤ w ∧ w < (l.length : Int)) <|
    ck ((0 : Int) ≤ d ∧ d < 4) <|
    some (.inl (c ++ [w], ((gi l (w : Int).toNat).Next).get d))
  else
    some (.inr c)

def p_muntinref16_chains.s0 (l : List T_api_Cell) (d : Int) : (List Int) × (List Int) × (List (List Int)) × Int → Option (((List Int) × (List Int) × (List (List Int)) × Int) ⊕ (((List Int) × (List (List Int))) ⊕ Unit)) := fun (at_, firsts, out, v) =>
  if decide (v < (l.length : Int)) then
    (p_muntinref16_First l v d).bind fun x =>
    if decide (x < 0) then
      some (.inr (.inr ()))
    else
      (loopF (p_muntinref16_chains.s1 firsts x) big 0).bind fun k_1 =>
      ck ((0 : Int) ≤ v ∧ v < (at_.length : Int)) <|
      if decide (k_1 = (firsts.length : Int)) then
        ck (firsts.length + [x].length ≤ 1000000000) <|
        (loopF (p_muntinref16_chains.s2 l d) big (([] : List Int), x)).bind fun c1 =>
        ck (out.length + 1 ≤ 1000000000) <|
        ck (in64 (v + 1)) <|
        some (.inl (at_.set (v : Int).toNat k_1, firsts ++ [x], out ++ [c1], v + 1))
      else
        ck (in64 (v + 1)) <|
        some (.inl (at_.set (v : Int).toNat k_1, firsts, out, v + 1))
  else
    some (.inr (.inl (at_, out)))

def p_muntinref16_chains (l : List T_api_Cell) (d : Int) : Option ((List Int) × (List (List Int)) × Bool) :=
  ck ((0 : Int) ≤ (l.length : Int) ∧ (l.length : Int) ≤ 1000000000) <|
  (
    loopF (p_muntinref16_chains.s0 l d) big (List.replicate ((l.length : Int) : Int).toNat (0 : Int), ([] : List Int), ([] : List (List Int)), 0) : Option (((List Int) × (List (List Int))) ⊕ Unit)).bind fun o₁ => match o₁ with
  | .inl (at_1, out1) =>
    some (at_1, out1, true)
  | .inr _ =>
    some (([] : List Int), ([] : List (List Int)), false)

/-! muntin/muntinref16.Of -/
def p_muntinref16_Of (l : List T_api_Cell) : Option (T_muntinref16_Chains × Bool) :=
  (p_muntinref16_chains l 1).bind fun (x, x1, x2) =>
  (p_muntinref16_chains l 0).bind fun (x3, x4, x5) =>
  if (!x2) || (!x5) then
    some ((⟨([] : List Int), ([] : List Int), ([] : List (List Int)), ([] : List (List Int))⟩ : T_muntinref16_Chains), false)
  else
    some ((⟨x, x3, x1, x4⟩ : T_muntinref16_Chains), true)

/-! muntin/muntinref10.Join -/
def p_muntinref10_Join (l : List T_api_Cell) (v : Int) (d : Int) (w : Int) (o : Int) : Option ((List T_api_Cell) × Int) :=
  if (((((((decide (v < 0)) || (decide ((l.length : Int) ≤ v))) || (decide (w < 0))) || (decide ((l.length : Int) ≤ w))) || (decide (v = w))) || (decide (d < 0))) || (decide (3 < d))) || (decide (o < (-2))) then
    some (l, 2)
  else
    ck ((0 : Int) ≤ v ∧ v < (l.length : Int)) <|
    ck ((0 : Int) ≤ d ∧ d < 4) <|
    (if !(decide (((gi l (v : Int).toNat).Next).get d = (-1))) then
      some true
    else
      ck (in64 (d + 2)) <|
      ck ((0 : Int) ≤ w ∧ w < (l.length : Int)) <|
      ck ((0 : Int) ≤ ((d + 2).tmod 4) ∧ ((d + 2).tmod 4) < 4) <|
      some (!(decide (((gi l (w : Int).toNat).Next).get ((d + 2).tmod 4) = (-1))))).bind fun t =>
    if t then
      some (l, 9)
    else
      (p_muntinref10_with l v d w o).bind fun x =>
      some (x, 0)

/-! muntin/muntinlaw17.square -/
def p_muntinlaw17_square : Option (List T_api_Cell) :=
  (p_muntinref10_New 4).bind fun x =>
  (p_muntinref10_Join x 0 0 1 0).bind fun (x1, x2) =>
  (p_muntinref10_Join x1 1 1 2 0).bind fun (x3, x4) =>
  (p_muntinref10_Join x3 2 2 3 0).bind fun (x5, x6) =>
  (p_muntinref10_Join x5 3 3 0 (-1)).bind fun (x7, x8) =>
  some x7

/-! muntin/arcs.Place -/
def p_arcs_Place.s0 (c : T_seg_Chains) (x : List Int) (y : List Int) : (List T_api_Point) × Int → Option (((List T_api_Point) × Int) ⊕ (List T_api_Point)) := fun (l, x1) =>
  if decide (x1 < (c.X.length : Int)) then
    ck ((0 : Int) ≤ x1 ∧ x1 < (c.X.length : Int)) <|
    ck ((0 : Int) ≤ (gi c.X (x1 : Int).toNat) ∧ (gi c.X (x1 : Int).toNat) < (x.length : Int)) <|
    ck ((0 : Int) ≤ x1 ∧ x1 < (c.Y.length : Int)) <|
    ck ((0 : Int) ≤ (gi c.Y (x1 : Int).toNat) ∧ (gi c.Y (x1 : Int).toNat) < (y.length : Int)) <|
    ck (l.length + [(⟨gi x (gi c.X (x1 : Int).toNat : Int).toNat, gi y (gi c.Y (x1 : Int).toNat : Int).toNat⟩ : T_api_Point)].length ≤ 1000000000) <|
    ck (in64 (x1 + 1)) <|
    some (.inl (l ++ [(⟨gi x (gi c.X (x1 : Int).toNat : Int).toNat, gi y (gi c.Y (x1 : Int).toNat : Int).toNat⟩ : T_api_Point)], x1 + 1))
  else
    some (.inr l)

def p_arcs_Place (c : T_seg_Chains) (x : List Int) (y : List Int) : Option ((List T_api_Point) × Int) :=
  if (!(decide ((x.length : Int) = (c.Vert.length : Int)))) || (!(decide ((y.length : Int) = (c.Horz.length : Int)))) then
    some (([] : List T_api_Point), 2)
  else
    (loopF (p_arcs_Place.s0 c x y) big (([] : List T_api_Point), 0)).bind fun l1 =>
    some (l1, 0)

/-! slices.IndexFunc[[]muntin/api.Point,muntin/api.Point] -/
def p_slices_IndexFunc_api_Point.s0 (s : List T_api_Point) (f : T_api_Point → Option Bool) : Int → Option (Int ⊕ (Unit ⊕ Int)) := fun x =>
  if decide (x < (s.length : Int)) then
    ck ((0 : Int) ≤ x ∧ x < (s.length : Int)) <|
    (f (gi s (x : Int).toNat)).bind fun x2 =>
    if x2 then
      some (.inr (.inr x))
    else
      ck (in64 (x + 1)) <|
      some (.inl (x + 1))
  else
    some (.inr (.inl ()))

def p_slices_IndexFunc_api_Point (s : List T_api_Point) (f : T_api_Point → Option Bool) : Option Int :=
  (
    loopF (p_slices_IndexFunc_api_Point.s0 s f) big 0 : Option (Unit ⊕ Int)).bind fun o₁ => match o₁ with
  | .inl _ =>
    some (-1)
  | .inr x1 =>
    some x1

/-! slices.ContainsFunc[[]muntin/api.Point,muntin/api.Point] -/
def p_slices_ContainsFunc_api_Point (s : List T_api_Point) (f : T_api_Point → Option Bool) : Option Bool :=
  (p_slices_IndexFunc_api_Point s f).bind fun x =>
  some (decide (0 ≤ x))

/-! muntin/arcs.far -/
def p_arcs_far (p : T_api_Point) : Option Bool :=
  some ((decide (1000000 < (max p.X p.Y))) || (decide ((min p.X p.Y) < (-1000000))))

/-! muntin/compass.Between -/
def p_compass_Between (a : T_api_Point) (b : T_api_Point) : Option (Int × Bool) :=
  if decide ((decide (a.X = b.X)) = (decide (a.Y = b.Y))) then
    some (0, false)
  else
    if decide (a.X < b.X) then
      some (0, true)
    else
      if decide (b.X < a.X) then
        some (2, true)
      else
        if decide (a.Y < b.Y) then
          some (1, true)
        else
          some (3, true)

/-! muntin/arcs.Length -/
def p_arcs_Length.s1 (cells : List T_api_Cell) (at_ : List T_api_Point) (x2 : Int) : Int × Int → Option ((Int × Int) ⊕ (Int ⊕ Unit)) := fun (sum2, x3) =>
  if decide (x3 < (([0, 1] : List Int).length : Int)) then
    ck ((0 : Int) ≤ x3 ∧ x3 < (([0, 1] : List Int).length : Int)) <|
    ck ((0 : Int) ≤ (gi ([0, 1] : List Int) (x3 : Int).toNat) ∧ (gi ([0, 1] : List Int) (x3 : Int).toNat) < 4) <|
    if decide ((((gi cells (x2 : Int).toNat).Next).get (gi ([0, 1] : List Int) (x3 : Int).toNat)) < 0) then
      ck (in64 (x3 + 1)) <|
      some (.inl (sum2, x3 + 1))
    else
      ck ((0 : Int) ≤ x2 ∧ x2 < (at_.length : Int)) <|
      ck ((0 : Int) ≤ (((gi cells (x2 : Int).toNat).Next).get (gi ([0, 1] : List Int) (x3 : Int).toNat)) ∧ (((gi cells (x2 : Int).toNat).Next).get (gi ([0, 1] : List Int) (x3 : Int).toNat)) < (at_.length : Int)) <|
      (p_compass_Between (gi at_ (x2 : Int).toNat) (gi at_ (((gi cells (x2 : Int).toNat).Next).get (gi ([0, 1] : List Int) (x3 : Int).toNat) : Int).toNat)).bind fun (x4, x5) =>
      if (!x5) || (!(decide (x4 = gi ([0, 1] : List Int) (x3 : Int).toNat))) then
        some (.inr (.inr ()))
      else
        (p_arcs_weight (((gi cells (x2 : Int).toNat).Owner).get (gi ([0, 1] : List Int) (x3 : Int).toNat))).bind fun x6 =>
        ck (in64 (((gi at_ (((gi cells (x2 : Int).toNat).Next).get (gi ([0, 1] : List Int) (x3 : Int).toNat) : Int).toNat).X) - ((gi at_ (x2 : Int).toNat).X))) <|
        ck (in64 ((((gi at_ (((gi cells (x2 : Int).toNat).Next).get (gi ([0, 1] : List Int) (x3 : Int).toNat) : Int).toNat).X) - ((gi at_ (x2 : Int).toNat).X)) + ((gi at_ (((gi cells (x2 : Int).toNat).Next).get (gi ([0, 1] : List Int) (x3 : Int).toNat) : Int).toNat).Y))) <|
        ck (in64 (((((gi at_ (((gi cells (x2 : Int).toNat).Next).get (gi ([0, 1] : List Int) (x3 : Int).toNat) : Int).toNat).X) - ((gi at_ (x2 : Int).toNat).X)) + ((gi at_ (((gi cells (x2 : Int).toNat).Next).get (gi ([0, 1] : List Int) (x3 : Int).toNat) : Int).toNat).Y)) - ((gi at_ (x2 : Int).toNat).Y))) <|
        ck (in64 (x6 * (((((gi at_ (((gi cells (x2 : Int).toNat).Next).get (gi ([0, 1] : List Int) (x3 : Int).toNat) : Int).toNat).X) - ((gi at_ (x2 : Int).toNat).X)) + ((gi at_ (((gi cells (x2 : Int).toNat).Next).get (gi ([0, 1] : List Int) (x3 : Int).toNat) : Int).toNat).Y)) - ((gi at_ (x2 : Int).toNat).Y)))) <|
        ck (in64 (sum2 + (x6 * (((((gi at_ (((gi cells (x2 : Int).toNat).Next).get (gi ([0, 1] : List Int) (x3 : Int).toNat) : Int).toNat).X) - ((gi at_ (x2 : Int).toNat).X)) + ((gi at_ (((gi cells (x2 : Int).toNat).Next).get (gi ([0, 1] : List Int) (x3 : Int).toNat) : Int).toNat).Y)) - ((gi at_ (x2 : Int).toNat).Y))))) <|
        ck (in64 (x3 + 1)) <|
        some (.inl (sum2 + (x6 * (((((gi at_ (((gi cells (x2 : Int).toNat).Next).get (gi ([0, 1] : List Int) (x3 : Int).toNat) : Int).toNat).X) - ((gi at_ (x2 : Int).toNat).X)) + ((gi at_ (((gi cells (x2 : Int).toNat).Next).get (gi ([0, 1] : List Int) (x3 : Int).toNat) : Int).toNat).Y)) - ((gi at_ (x2 : Int).toNat).Y))), x3 + 1))
  else
    some (.inr (.inl sum2))

def p_arcs_Length.s0 (cells : List T_api_Cell) (at_ : List T_api_Point) : Int × Int → Option ((Int × Int) ⊕ (Int ⊕ Unit)) := fun (sum, x2) =>
  if decide (x2 < (cells.length : Int)) then
    ck ((0 : Int) ≤ x2 ∧ x2 < (cells.length : Int)) <|
    (
      loopF (p_arcs_Length.s1 cells at_ x2) big (sum, 0) : Option (Int ⊕ Unit)).bind fun o₃ => match o₃ with
    | .inl sum3 =>
      ck (in64 (x2 + 1)) <|
      some (.inl (sum3, x2 + 1))
    | .inr _ =>
      some (.inr (.inr ()))
  else
    some (.inr (.inl sum))

def p_arcs_Length (cells : List T_api_Cell) (at_ : List T_api_Point) : Option (Int × Int) :=
  (p_grid_Check cells).bind fun x =>
  if !(decide (x = 0)) then
    some (0, x)
  else
    (if !(decide ((at_.length : Int) = (cells.length : Int))) then
      some true
    else
      (p_slices_ContainsFunc_api_Point at_ (fun y0 => p_arcs_far y0)).bind fun x1 =>
      some x1).bind fun t =>
    if t then
      some (0, 2)
    else
      (
        loopF (p_arcs_Length.s0 cells at_) big (0, 0) : Option (Int ⊕ Unit)).bind fun o₁ => match o₁ with
      | .inl sum1 =>
        some (sum1, 0)
      | .inr _ =>
        some (0, 15)

/-! muntin/muntinlaw17.wakes -/
def p_muntinlaw17_wakes : Option Bool :=
  (p_muntinlaw17_square ).bind fun x =>
  (p_arcs_Of x).bind fun (x1, x2) =>
  (if (!(decide (x2 = 0))) || (!(decide ((x1.H.length : Int) = 2))) then
    some true
  else
    ck ((0 : Int) ≤ 1 ∧ 1 < (x1.H.length : Int)) <|
    some (!(decide (gi x1.H (1 : Int).toNat = (⟨0, 1, 1⟩ : T_api_Arc))))).bind fun t =>
  (if t then
    some true
  else
    ck ((0 : Int) ≤ 0 ∧ 0 < (x1.V.length : Int)) <|
    some (!(decide (gi x1.V (0 : Int).toNat = (⟨0, 1, (0 : Int)⟩ : T_api_Arc))))).bind fun t1 =>
  if t1 then
    some false
  else
    (p_arcs_Place x1.Chains ([0, 5] : List Int) ([0, 2] : List Int)).bind fun (x3, x4) =>
    (p_muntinlaw17_square ).bind fun x5 =>
    (p_arcs_Length x5 x3).bind fun (x6, x7) =>
    (if (decide (x4 = 0)) && (decide ((x3.length : Int) = 4)) then
      ck ((0 : Int) ≤ 2 ∧ 2 < (x3.length : Int)) <|
      some (decide (gi x3 (2 : Int).toNat = (⟨5, 2⟩ : T_api_Point)))
    else
      some false).bind fun t2 =>
    some ((t2 && (decide (x6 = 12))) && (decide (x7 = 0)))

/-! muntin/muntinlaw17.numbers -/
def p_muntinlaw17_numbers.s0 (l : List Int) (n : Int) (wide : Int) : (List Int) × Int → Option (((List Int) × Int) ⊕ (List Int)) := fun (out, x) =>
  if decide (x < n) then
    if decide (x < (l.length : Int)) then
      ck ((0 : Int) ≤ x ∧ x < (l.length : Int)) <|
      if decide (0 < wide) then
        ck ((wide : Int) ≠ 0) <|
        ck (out.length + [(gi l (x : Int).toNat).tmod wide].length ≤ 1000000000) <|
        ck (in64 (x + 1)) <|
        some (.inl (out ++ [(gi l (x : Int).toNat).tmod wide], x + 1))
      else
        ck (out.length + [gi l (x : Int).toNat].length ≤ 1000000000) <|
        ck (in64 (x + 1)) <|
        some (.inl (out ++ [gi l (x : Int).toNat], x + 1))
    else
      ck (out.length + [x].length ≤ 1000000000) <|
      ck (in64 (x + 1)) <|
      some (.inl (out ++ [x], x + 1))
  else
    some (.inr out)

def p_muntinlaw17_numbers (l : List Int) (n : Int) (wide : Int) : Option (List Int) :=
  (loopF (p_muntinlaw17_numbers.s0 l n wide) big (([] : List Int), 0)).bind fun out1 =>
  some out1

/-! muntin/muntinref17.Place -/
def p_muntinref17_Place.s0 (c : T_muntinref16_Chains) (x : List Int) (y : List Int) : (List T_api_Point) × Int → Option (((List T_api_Point) × Int) ⊕ (List T_api_Point)) := fun (out, v) =>
  if decide (v < (c.X.length : Int)) then
    ck ((0 : Int) ≤ v ∧ v < (c.X.length : Int)) <|
    ck ((0 : Int) ≤ (gi c.X (v : Int).toNat) ∧ (gi c.X (v : Int).toNat) < (x.length : Int)) <|
    ck ((0 : Int) ≤ v ∧ v < (c.Y.length : Int)) <|
    ck ((0 : Int) ≤ (gi c.Y (v : Int).toNat) ∧ (gi c.Y (v : Int).toNat) < (y.length : Int)) <|
    ck (out.length + [(⟨gi x (gi c.X (v : Int).toNat : Int).toNat, gi y (gi c.Y (v : Int).toNat : Int).toNat⟩ : T_api_Point)].length ≤ 1000000000) <|
    ck (in64 (v + 1)) <|
    some (.inl (out ++ [(⟨gi x (gi c.X (v : Int).toNat : Int).toNat, gi y (gi c.Y (v : Int).toNat : Int).toNat⟩ : T_api_Point)], v + 1))
  else
    some (.inr out)

def p_muntinref17_Place (c : T_muntinref16_Chains) (x : List Int) (y : List Int) : Option (List T_api_Point) :=
  (loopF (p_muntinref17_Place.s0 c x y) big (([] : List T_api_Point), 0)).bind fun out1 =>
  some out1

/-! slices.Equal[[]muntin/api.Point,muntin/api.Point] -/
def p_slices_Equal_api_Point.s0 (s1 : List T_api_Point) (s2 : List T_api_Point) : Int → Option (Int ⊕ (Unit ⊕ Unit)) := fun x =>
  if decide (x < (s1.length : Int)) then
    ck ((0 : Int) ≤ x ∧ x < (s1.length : Int)) <|
    ck ((0 : Int) ≤ x ∧ x < (s2.length : Int)) <|
    if !(decide (gi s1 (x : Int).toNat = gi s2 (x : Int).toNat)) then
      some (.inr (.inr ()))
    else
      ck (in64 (x + 1)) <|
      some (.inl (x + 1))
  else
    some (.inr (.inl ()))

def p_slices_Equal_api_Point (s1 : List T_api_Point) (s2 : List T_api_Point) : Option Bool :=
  if !(decide ((s1.length : Int) = (s2.length : Int))) then
    some false
  else
    (
      loopF (p_slices_Equal_api_Point.s0 s1 s2) big 0 : Option (Unit ⊕ Unit)).bind fun o₁ => match o₁ with
    | .inl _ =>
      some true
    | .inr _ =>
      some false

/-! muntin/muntinlaw17.length$1 -/
def p_muntinlaw17_length_1 (q : T_api_Point) : Option Bool :=
  some ((((decide (1000000 < q.X)) || (decide (q.X < (-1000000)))) || (decide (1000000 < q.Y))) || (decide (q.Y < (-1000000))))

/-! muntin/muntinref17.Straight -/
def p_muntinref17_Straight.s0 (l : List T_api_Cell) (at_ : List T_api_Point) : Int → Option (Int ⊕ (Unit ⊕ Unit)) := fun v =>
  if decide (v < (l.length : Int)) then
    ck ((0 : Int) ≤ v ∧ v < (l.length : Int)) <|
    (if decide (0 ≤ (((gi l (v : Int).toNat).Next).get 0)) then
      ck ((0 : Int) ≤ (max (((gi l (v : Int).toNat).Next).get 0) 0) ∧ (max (((gi l (v : Int).toNat).Next).get 0) 0) < (at_.length : Int)) <|
      ck ((0 : Int) ≤ v ∧ v < (at_.length : Int)) <|
      some ((!(decide ((gi at_ (max (((gi l (v : Int).toNat).Next).get 0) 0 : Int).toNat).Y = (gi at_ (v : Int).toNat).Y))) || (decide (((gi at_ (max (((gi l (v : Int).toNat).Next).get 0) 0 : Int).toNat).X) ≤ ((gi at_ (v : Int).toNat).X))))
    else
      some false).bind fun t =>
    if t then
      some (.inr (.inr ()))
    else
      (if decide (0 ≤ (((gi l (v : Int).toNat).Next).get 1)) then
        ck ((0 : Int) ≤ (max (((gi l (v : Int).toNat).Next).get 1) 0) ∧ (max (((gi l (v : Int).toNat).Next).get 1) 0) < (at_.length : Int)) <|
        ck ((0 : Int) ≤ v ∧ v < (at_.length : Int)) <|
        some ((!(decide ((gi at_ (max (((gi l (v : Int).toNat).Next).get 1) 0 : Int).toNat).X = (gi at_ (v : Int).toNat).X))) || (decide (((gi at_ (max (((gi l (v : Int).toNat).Next).get 1) 0 : Int).toNat).Y) ≤ ((gi at_ (v : Int).toNat).Y))))
      else
        some false).bind fun t1 =>
      if t1 then
        some (.inr (.inr ()))
      else
        ck (in64 (v + 1)) <|
        some (.inl (v + 1))
  else
    some (.inr (.inl ()))

def p_muntinref17_Straight (l : List T_api_Cell) (at_ : List T_api_Point) : Option Bool :=
  (
    loopF (p_muntinref17_Straight.s0 l at_) big 0 : Option (Unit ⊕ Unit)).bind fun o₁ => match o₁ with
  | .inl _ =>
    some true
  | .inr _ =>
    some false

/-! muntin/muntinref17.Length -/
def p_muntinref17_Length.s0 (l : List T_api_Cell) (at_ : List T_api_Point) : Int × Int → Option ((Int × Int) ⊕ Int) := fun (sum, v) =>
  if decide (v < (l.length : Int)) then
    ck ((0 : Int) ≤ v ∧ v < (l.length : Int)) <|
    (
      if (decide (0 ≤ (((gi l (v : Int).toNat).Next).get 0))) && (decide (0 ≤ (((gi l (v : Int).toNat).Owner).get 0))) then
        ck ((0 : Int) ≤ (((gi l (v : Int).toNat).Next).get 0) ∧ (((gi l (v : Int).toNat).Next).get 0) < (at_.length : Int)) <|
        ck (in64 (sum + ((gi at_ (((gi l (v : Int).toNat).Next).get 0 : Int).toNat).X))) <|
        ck ((0 : Int) ≤ v ∧ v < (at_.length : Int)) <|
        ck (in64 ((sum + ((gi at_ (((gi l (v : Int).toNat).Next).get 0 : Int).toNat).X)) - ((gi at_ (v : Int).toNat).X))) <|
        some ((sum + ((gi at_ (((gi l (v : Int).toNat).Next).get 0 : Int).toNat).X)) - ((gi at_ (v : Int).toNat).X))
      else
        some sum).bind fun sum2 =>
    if (decide (0 ≤ (((gi l (v : Int).toNat).Next).get 1))) && (decide (0 ≤ (((gi l (v : Int).toNat).Owner).get 1))) then
      ck ((0 : Int) ≤ (((gi l (v : Int).toNat).Next).get 1) ∧ (((gi l (v : Int).toNat).Next).get 1) < (at_.length : Int)) <|
      ck (in64 (sum2 + ((gi at_ (((gi l (v : Int).toNat).Next).get 1 : Int).toNat).Y))) <|
      ck ((0 : Int) ≤ v ∧ v < (at_.length : Int)) <|
      ck (in64 ((sum2 + ((gi at_ (((gi l (v : Int).toNat).Next).get 1 : Int).toNat).Y)) - ((gi at_ (v : Int).toNat).Y))) <|
      ck (in64 (v + 1)) <|
      some (.inl ((sum2 + ((gi at_ (((gi l (v : Int).toNat).Next).get 1 : Int).toNat).Y)) - ((gi at_ (v : Int).toNat).Y), v + 1))
    else
      ck (in64 (v + 1)) <|
      some (.inl (sum2, v + 1))
  else
    some (.inr sum)

def p_muntinref17_Length (l : List T_api_Cell) (at_ : List T_api_Point) : Option Int :=
  (loopF (p_muntinref17_Length.s0 l at_) big (0, 0)).bind fun sum1 =>
  some sum1

/-! muntin/muntinlaw17.length -/
def p_muntinlaw17_length (l : List T_api_Cell) (p : List T_api_Point) : Option Bool :=
  (p_arcs_Length l p).bind fun (x, x1) =>
  (p_slices_ContainsFunc_api_Point p (fun y0 => p_muntinlaw17_length_1 y0)).bind fun x2 =>
  if x2 then
    some ((decide (x1 = 2)) && (decide (x = 0)))
  else
    (p_muntinref17_Straight l p).bind fun x3 =>
    if !x3 then
      some ((decide (x1 = 15)) && (decide (x = 0)))
    else
      (if decide (x1 = 0) then
        (p_muntinref17_Length l p).bind fun x4 =>
        some (decide (x = x4))
      else
        some false).bind fun t =>
      some t

/-! slices.Clone[[]muntin/api.Point,muntin/api.Point] -/
def p_slices_Clone_api_Point (s : List T_api_Point) : Option (List T_api_Point) :=
  ck (s.length ≤ 1000000000) <|
  some s
/-! muntin/muntinlaw17.ArcsPlace -/
def p_muntinlaw17_ArcsPlace.s0 (x : List Int) (y : List Int) (x1 : List T_api_Cell) (x3 : T_arcs_Graphs) (x5 : T_muntinref16_Chains) : Int → Option (Int ⊕ (Unit ⊕ Unit)) := fun x8 =>
  if decide (x8 < (([0, 9] : List Int).length : Int)) then
    ck ((0 : Int) ≤ x8 ∧ x8 < (([0, 9] : List Int).length : Int)) <|
    (p_muntinlaw17_numbers x (x5.Vert.length : Int) (gi ([0, 9] : List Int) (x8 : Int).toNat)).bind fun x9 =>
    (p_muntinlaw17_numbers y (x5.Horz.length : Int) (gi ([0, 9] : List Int) (x8 : Int).toNat)).bind fun x10 =>
    (p_arcs_Place x3.Chains x9 x10).bind fun (x11, x12) =>
    (if !(decide (x12 = 0)) then
      some true
    else
      (p_muntinref17_Place x5 x9 x10).bind fun x13 =>
      (p_slices_Equal_api_Point x11 x13).bind fun x14 =>
      some (!x14)).bind fun t =>
    if t then
      some (.inr (.inr ()))
    else
      (p_muntinlaw17_length x1 x11).bind fun x15 =>
      if !x15 then
        some (.inr (.inr ()))
      else
        ck (x9.length + ([1] : List Int).length ≤ 1000000000) <|
        (p_arcs_Place x3.Chains (x9 ++ ([1] : List Int)) x10).bind fun (x16, x17) =>
        if !(decide (x17 = 2)) then
          some (.inr (.inr ()))
        else
          ck (in64 (x8 + 1)) <|
          some (.inl (x8 + 1))
  else
    some (.inr (.inl ()))

def p_muntinlaw17_ArcsPlace (z : T_muntinref10_Places) (x : List Int) (y : List Int) : Option Bool :=
  (p_muntinref10_Make z 16).bind fun (x1, x2) =>
  (p_arcs_Of x1).bind fun (x3, x4) =>
  (p_muntinref16_Of x1).bind fun (x5, x6) =>
  (p_muntinlaw17_wakes ).bind fun x7 =>
  if (!x7) || (!(decide (x4 = 0))) then
    some false
  else
    (
      loopF (p_muntinlaw17_ArcsPlace.s0 x y x1 x3 x5) big 0 : Option (Unit ⊕ Unit)).bind fun o₁ => match o₁ with
    | .inl _ =>
      if decide (0 < (x2.length : Int)) then
        (p_slices_Clone_api_Point x2).bind fun x18 =>
        ck ((0 : Int) ≤ 0 ∧ 0 < (x18.length : Int)) <|
        ck (in64 (((gi x18 (0 : Int).toNat).X) + 1)) <|
        (p_muntinlaw17_length x1 (x18.set (0 : Int).toNat ({ gi x18 (0 : Int).toNat with X := ((gi x18 (0 : Int).toNat).X) + 1 }))).bind fun x19 =>
        if !x19 then
          some false
        else
          ck ((0 : Int) ≤ 1 ∧ 1 ≤ (x2.length : Int)) <|
          (p_arcs_Length x1 (x2.drop (1 : Int).toNat)).bind fun (x20, x21) =>
          if !(decide (x21 = 2)) then
            some false
          else
            (p_muntinlaw17_length x1 x2).bind fun x22 =>
            some x22
      else
        (p_muntinlaw17_length x1 x2).bind fun x23 =>
        some x23
    | .inr _ =>
      some false

end Mu
