/- What the functions work out. -/
import Derived.Test.YtofdeafffbkgbaaMuA
import Derived.Test.YtofdeafffbkgbaaMuR
set_option linter.unusedVariables false
set_option linter.unnecessarySimpa false
set_option linter.unusedSimpArgs false
set_option maxHeartbeats 2000000
set_option maxRecDepth 10000
namespace Mu
open Go (IntKind BinOp UnOp)
structure T_muntinref10_Places where
  At : List Int
  Bits : List Int
  Own : List Int
  deriving DecidableEq, Inhabited
structure T_api_Cell where
  Next : A4 Int
  Owner : A4 Int
  deriving DecidableEq, Inhabited
structure T_muntinlaw10_Case where
  Places : T_muntinref10_Places
  Raw : List T_api_Cell
  At : A2 Int
  V : Int
  deriving DecidableEq, Inhabited
abbrev e_u8 : Enc Int := ⟨1, fun x => [.i .u8 x], fun _ => rfl⟩
theorem e_u8.one (x : Int) : (e_u8.c x).all V.one = true := rfl
abbrev e_i8 : Enc Int := ⟨1, fun x => [.i .i8 x], fun _ => rfl⟩
theorem e_i8.one (x : Int) : (e_i8.c x).all V.one = true := rfl
abbrev e_T_api_Cell : Enc T_api_Cell := ⟨8, fun x => [.i .i64 x.Next.a, .i .i64 x.Next.b, .i .i64 x.Next.c, .i .i64 x.Next.d, .i .i64 x.Owner.a, .i .i64 x.Owner.b, .i .i64 x.Owner.c, .i .i64 x.Owner.d], fun _ => rfl⟩
theorem e_T_api_Cell.one (x : T_api_Cell) : (e_T_api_Cell.c x).all V.one = true := rfl
theorem e_T_api_Cell.same (x y : T_api_Cell) : sameAll [.i, .i, .i, .i, .i, .i, .i, .i] (e_T_api_Cell.c x) (e_T_api_Cell.c y) = some (decide (x = y)) := by
  obtain ⟨⟨x1, x2, x3, x4⟩, ⟨x5, x6, x7, x8⟩⟩ := x
  obtain ⟨⟨y1, y2, y3, y4⟩, ⟨y5, y6, y7, y8⟩⟩ := y
  refine (sameAll_i (sameAll_i (sameAll_i (sameAll_i (sameAll_i (sameAll_i (sameAll_i (sameAll_i sameAll_nil)))))))).trans ?_
  congr 1
  rw [Bool.eq_iff_iff]
  simp [and_assoc]
abbrev e_A2_u8 : Enc (A2 Int) := ⟨2, fun x => [.i .u8 x.a, .i .u8 x.b], fun _ => rfl⟩
theorem e_A2_u8.one (x : A2 Int) : (e_A2_u8.c x).all V.one = true := rfl
structure T_api_Point where
  X : Int
  Y : Int
  deriving DecidableEq, Inhabited
abbrev e_T_api_Point : Enc T_api_Point := ⟨2, fun x => [.i .i64 x.X, .i .i64 x.Y], fun _ => rfl⟩
theorem e_T_api_Point.one (x : T_api_Point) : (e_T_api_Point.c x).all V.one = true := rfl
theorem e_T_api_Point.same (x y : T_api_Point) : sameAll [.i, .i] (e_T_api_Point.c x) (e_T_api_Point.c y) = some (decide (x = y)) := by
  obtain ⟨x1, x2⟩ := x
  obtain ⟨y1, y2⟩ := y
  refine (sameAll_i (sameAll_i sameAll_nil)).trans ?_
  congr 1
  rw [Bool.eq_iff_iff]
  simp [and_assoc]
structure T_grid_Grid where
  cells : List T_api_Cell
  deriving DecidableEq, Inhabited
abbrev e_A4_i64 : Enc (A4 Int) := ⟨4, fun x => [.i .i64 x.a, .i .i64 x.b, .i .i64 x.c, .i .i64 x.d], fun _ => rfl⟩
theorem e_A4_i64.one (x : A4 Int) : (e_A4_i64.c x).all V.one = true := rfl
def Ok_u8 (x : Int) : Prop := Wf .u8 x
def Ok_i8 (x : Int) : Prop := Wf .i8 x
def Ok_T_api_Cell (x : T_api_Cell) : Prop := Wf .i64 x.Next.a ∧ Wf .i64 x.Next.b ∧ Wf .i64 x.Next.c ∧ Wf .i64 x.Next.d ∧ Wf .i64 x.Owner.a ∧ Wf .i64 x.Owner.b ∧ Wf .i64 x.Owner.c ∧ Wf .i64 x.Owner.d
def Ok_A2_u8 (x : A2 Int) : Prop := Wf .u8 x.a ∧ Wf .u8 x.b
def Ok_i64 (x : Int) : Prop := Wf .i64 x
/-! muntin/muntinref10.New -/
def p_muntinref10_New.s1 (v : Int) : (List T_api_Cell) × Int → Option (((List T_api_Cell) × Int) ⊕ (List T_api_Cell)) := fun (l2, d) =>
  if decide (d < 4) then
    ck ((0 : Int) ≤ v ∧ v < (l2.length : Int)) <|
    ck ((0 : Int) ≤ d ∧ d < 4) <|
    ck (in64 (d + 1)) <|
    some (.inl (l2.set (v : Int).toNat ({ gi l2 (v : Int).toNat with Next := ((gi l2 (v : Int).toNat).Next).set d (-1) }), d + 1))
  else
    some (.inr l2)

def p_muntinref10_New.s0 (n : Int) : (List T_api_Cell) × Int → Option (((List T_api_Cell) × Int) ⊕ (List T_api_Cell)) := fun (l, v) =>
  if decide (v < n) then
    (loopF (p_muntinref10_New.s1 v) big (l, 0)).bind fun l3 =>
    ck (in64 (v + 1)) <|
    some (.inl (l3, v + 1))
  else
    some (.inr l)

def p_muntinref10_New (n : Int) : Option (List T_api_Cell) :=
  ck ((0 : Int) ≤ n ∧ n ≤ 1000000000) <|
  (loopF (p_muntinref10_New.s0 n) big (List.replicate (n : Int).toNat (⟨⟨0, 0, 0, 0⟩, ⟨0, 0, 0, 0⟩⟩ : T_api_Cell), 0)).bind fun l1 =>
  some l1

/-! muntin/muntinref10.Nearest -/
def p_muntinref10_Nearest.s0 (at_ : List T_api_Point) (i : Int) (d : Int) : Int × Int → Option ((Int × Int) ⊕ Int) := fun (best, k_) =>
  if decide (k_ < (at_.length : Int)) then
    (if decide (d = 0) then
      ck ((0 : Int) ≤ k_ ∧ k_ < (at_.length : Int)) <|
      ck ((0 : Int) ≤ i ∧ i < (at_.length : Int)) <|
      some (decide ((gi at_ (k_ : Int).toNat).Y = (gi at_ (i : Int).toNat).Y))
    else
      some false).bind fun t =>
    (if t then
      ck ((0 : Int) ≤ k_ ∧ k_ < (at_.length : Int)) <|
      ck ((0 : Int) ≤ i ∧ i < (at_.length : Int)) <|
      some (decide (((gi at_ (i : Int).toNat).X) < ((gi at_ (k_ : Int).toNat).X)))
    else
      some false).bind fun t1 =>
    (if t1 then
      (if decide (best < 0) then
        some true
      else
        ck ((0 : Int) ≤ k_ ∧ k_ < (at_.length : Int)) <|
        ck ((0 : Int) ≤ best ∧ best < (at_.length : Int)) <|
        some (decide (((gi at_ (k_ : Int).toNat).X) < ((gi at_ (best : Int).toNat).X)))).bind fun t3 =>
      some t3
    else
      some false).bind fun t2 =>
    (
      if t2 then
        some k_
      else
        some best).bind fun best2 =>
    (if decide (d = 1) then
      ck ((0 : Int) ≤ k_ ∧ k_ < (at_.length : Int)) <|
      ck ((0 : Int) ≤ i ∧ i < (at_.length : Int)) <|
      some (decide ((gi at_ (k_ : Int).toNat).X = (gi at_ (i : Int).toNat).X))
    else
      some false).bind fun t4 =>
    (if t4 then
      ck ((0 : Int) ≤ k_ ∧ k_ < (at_.length : Int)) <|
      ck ((0 : Int) ≤ i ∧ i < (at_.length : Int)) <|
      some (decide (((gi at_ (i : Int).toNat).Y) < ((gi at_ (k_ : Int).toNat).Y)))
    else
      some false).bind fun t5 =>
    (if t5 then
      (if decide (best2 < 0) then
        some true
      else
        ck ((0 : Int) ≤ k_ ∧ k_ < (at_.length : Int)) <|
        ck ((0 : Int) ≤ best2 ∧ best2 < (at_.length : Int)) <|
        some (decide (((gi at_ (k_ : Int).toNat).Y) < ((gi at_ (best2 : Int).toNat).Y)))).bind fun t7 =>
      some t7
    else
      some false).bind fun t6 =>
    if t6 then
      ck (in64 (k_ + 1)) <|
      some (.inl (k_, k_ + 1))
    else
      ck (in64 (k_ + 1)) <|
      some (.inl (best2, k_ + 1))
  else
    some (.inr best)

def p_muntinref10_Nearest (at_ : List T_api_Point) (i : Int) (d : Int) : Option Int :=
  (loopF (p_muntinref10_Nearest.s0 at_ i d) big ((-1), 0)).bind fun best1 =>
  some best1

/-! muntin/muntinref10.Crossed -/
def p_muntinref10_Crossed.s1 (at_ : List T_api_Point) (l : List T_api_Cell) (i : Int) (w : Int) (a : Int) : Int → Option (Int ⊕ (Unit ⊕ Unit)) := fun d =>
  if decide (d < 2) then
    ck ((0 : Int) ≤ a ∧ a < (l.length : Int)) <|
    ck ((0 : Int) ≤ d ∧ d < 4) <|
    if decide ((((gi l (a : Int).toNat).Next).get d) < 0) then
      ck (in64 (d + 1)) <|
      some (.inl (d + 1))
    else
      ck ((0 : Int) ≤ a ∧ a < (at_.length : Int)) <|
      ck ((0 : Int) ≤ (((gi l (a : Int).toNat).Next).get d) ∧ (((gi l (a : Int).toNat).Next).get d) < (at_.length : Int)) <|
      (if decide ((gi at_ (a : Int).toNat).Y = (gi at_ (((gi l (a : Int).toNat).Next).get d : Int).toNat).Y) then
        ck ((0 : Int) ≤ i ∧ i < (at_.length : Int)) <|
        ck ((0 : Int) ≤ w ∧ w < (at_.length : Int)) <|
        some (decide ((gi at_ (i : Int).toNat).X = (gi at_ (w : Int).toNat).X))
      else
        some false).bind fun t =>
      (if t then
        ck ((0 : Int) ≤ i ∧ i < (at_.length : Int)) <|
        some (decide (((gi at_ (a : Int).toNat).X) < ((gi at_ (i : Int).toNat).X)))
      else
        some false).bind fun t1 =>
      (if t1 then
        ck ((0 : Int) ≤ i ∧ i < (at_.length : Int)) <|
        some (decide (((gi at_ (i : Int).toNat).X) < ((gi at_ (((gi l (a : Int).toNat).Next).get d : Int).toNat).X)))
      else
        some false).bind fun t2 =>
      (if t2 then
        ck ((0 : Int) ≤ i ∧ i < (at_.length : Int)) <|
        some (decide (((gi at_ (i : Int).toNat).Y) < ((gi at_ (a : Int).toNat).Y)))
      else
        some false).bind fun t3 =>
      (if t3 then
        ck ((0 : Int) ≤ w ∧ w < (at_.length : Int)) <|
        some (decide (((gi at_ (a : Int).toNat).Y) < ((gi at_ (w : Int).toNat).Y)))
      else
        some false).bind fun t4 =>
      if t4 then
        some (.inr (.inr ()))
      else
        (if decide ((gi at_ (a : Int).toNat).X = (gi at_ (((gi l (a : Int).toNat).Next).get d : Int).toNat).X) then
          ck ((0 : Int) ≤ i ∧ i < (at_.length : Int)) <|
          ck ((0 : Int) ≤ w ∧ w < (at_.length : Int)) <|
          some (decide ((gi at_ (i : Int).toNat).Y = (gi at_ (w : Int).toNat).Y))
        else
          some false).bind fun t5 =>
        (if t5 then
          ck ((0 : Int) ≤ i ∧ i < (at_.length : Int)) <|
          some (decide (((gi at_ (i : Int).toNat).X) < ((gi at_ (a : Int).toNat).X)))
        else
          some false).bind fun t6 =>
        (if t6 then
          ck ((0 : Int) ≤ w ∧ w < (at_.length : Int)) <|
          some (decide (((gi at_ (a : Int).toNat).X) < ((gi at_ (w : Int).toNat).X)))
        else
          some false).bind fun t7 =>
        (if t7 then
          ck ((0 : Int) ≤ i ∧ i < (at_.length : Int)) <|
          some (decide (((gi at_ (a : Int).toNat).Y) < ((gi at_ (i : Int).toNat).Y)))
        else
          some false).bind fun t8 =>
        (if t8 then
          ck ((0 : Int) ≤ i ∧ i < (at_.length : Int)) <|
          some (decide (((gi at_ (i : Int).toNat).Y) < ((gi at_ (((gi l (a : Int).toNat).Next).get d : Int).toNat).Y)))
        else
          some false).bind fun t9 =>
        if t9 then
          some (.inr (.inr ()))
        else
          ck (in64 (d + 1)) <|
          some (.inl (d + 1))
  else
    some (.inr (.inl ()))

def p_muntinref10_Crossed.s0 (at_ : List T_api_Point) (l : List T_api_Cell) (i : Int) (w : Int) : Int → Option (Int ⊕ (Unit ⊕ Unit)) := fun a =>
  if decide (a < (l.length : Int)) then
    (
      loopF (p_muntinref10_Crossed.s1 at_ l i w a) big 0 : Option (Unit ⊕ Unit)).bind fun o₃ => match o₃ with
    | .inl _ =>
      ck (in64 (a + 1)) <|
      some (.inl (a + 1))
    | .inr _ =>
      some (.inr (.inr ()))
  else
    some (.inr (.inl ()))

def p_muntinref10_Crossed (at_ : List T_api_Point) (l : List T_api_Cell) (i : Int) (w : Int) : Option Bool :=
  (
    loopF (p_muntinref10_Crossed.s0 at_ l i w) big 0 : Option (Unit ⊕ Unit)).bind fun o₁ => match o₁ with
  | .inl _ =>
    some false
  | .inr _ =>
    some true

/-! muntin/muntinref10.with -/
def p_muntinref10_with.s0 (l : List T_api_Cell) (v : Int) (d : Int) (w : Int) (o : Int) : (List T_api_Cell) × Int → Option (((List T_api_Cell) × Int) ⊕ (List T_api_Cell)) := fun (out, i) =>
  if decide (i < (l.length : Int)) then
    ck ((0 : Int) ≤ i ∧ i < (l.length : Int)) <|
    (
      if decide (i = v) then
        ck ((0 : Int) ≤ d ∧ d < 4) <|
        some ({ { gi l (i : Int).toNat with Next := ((gi l (i : Int).toNat).Next).set d w } with Owner := (({ gi l (i : Int).toNat with Next := ((gi l (i : Int).toNat).Next).set d w }).Owner).set d o })
      else
        some (gi l (i : Int).toNat)).bind fun c =>
    if decide (i = w) then
      ck (in64 (d + 2)) <|
      ck ((0 : Int) ≤ ((d + 2).tmod 4) ∧ ((d + 2).tmod 4) < 4) <|
      ck (out.length + [{ { c with Next := c.Next.set ((d + 2).tmod 4) v } with Owner := (({ c with Next := c.Next.set ((d + 2).tmod 4) v }).Owner).set ((d + 2).tmod 4) o }].length ≤ 1000000000) <|
      ck (in64 (i + 1)) <|
      some (.inl (out ++ [{ { c with Next := c.Next.set ((d + 2).tmod 4) v } with Owner := (({ c with Next := c.Next.set ((d + 2).tmod 4) v }).Owner).set ((d + 2).tmod 4) o }], i + 1))
    else
      ck (out.length + [c].length ≤ 1000000000) <|
      ck (in64 (i + 1)) <|
      some (.inl (out ++ [c], i + 1))
  else
    some (.inr out)

def p_muntinref10_with (l : List T_api_Cell) (v : Int) (d : Int) (w : Int) (o : Int) : Option (List T_api_Cell) :=
  (loopF (p_muntinref10_with.s0 l v d w o) big (([] : List T_api_Cell), 0)).bind fun out1 =>
  some out1

/-! muntin/muntinref10.Make -/
def p_muntinref10_Make.s1 (z : T_muntinref10_Places) (at_ : List T_api_Point) (i : Int) : Bool × Int → Option ((Bool × Int) ⊕ ((List T_api_Point) × Bool)) := fun (met, k_) =>
  if decide (k_ < (at_.length : Int)) then
    (if met then
      some true
    else
      ck ((0 : Int) ≤ k_ ∧ k_ < (at_.length : Int)) <|
      some (decide (gi at_ (k_ : Int).toNat = (⟨(gi z.At (i : Int).toNat).tmod 8, ((gi z.At (i : Int).toNat).tdiv 8).tmod 8⟩ : T_api_Point)))).bind fun t =>
    ck (in64 (k_ + 1)) <|
    some (.inl (t, k_ + 1))
  else
    some (.inr (at_, met))

def p_muntinref10_Make.s0 (z : T_muntinref10_Places) (most : Int) : (List T_api_Point) × Int → Option (((List T_api_Point) × Int) ⊕ (List T_api_Point)) := fun (at_, i) =>
  if (decide (i < (z.At.length : Int))) && (decide ((at_.length : Int) < most)) then
    ck ((0 : Int) ≤ i ∧ i < (z.At.length : Int)) <|
    ck (inK .i64 (gi z.At (i : Int).toNat)) <|
    ck ((8 : Int) ≠ 0 ∧ in64 ((gi z.At (i : Int).toNat).tdiv 8)) <|
    (loopF (p_muntinref10_Make.s1 z at_ i) big (false, 0)).bind fun (at_2, met1) =>
    if !met1 then
      ck (at_2.length + [(⟨(gi z.At (i : Int).toNat).tmod 8, ((gi z.At (i : Int).toNat).tdiv 8).tmod 8⟩ : T_api_Point)].length ≤ 1000000000) <|
      ck (in64 (i + 1)) <|
      some (.inl (at_2 ++ [(⟨(gi z.At (i : Int).toNat).tmod 8, ((gi z.At (i : Int).toNat).tdiv 8).tmod 8⟩ : T_api_Point)], i + 1))
    else
      ck (in64 (i + 1)) <|
      some (.inl (at_2, i + 1))
  else
    some (.inr at_)

def p_muntinref10_Make.s3 (i1 : Int) (bits : Int) (at_6 : List T_api_Point) (own : Int) : (List T_api_Cell) × Int → Option (((List T_api_Cell) × Int) ⊕ (List T_api_Cell)) := fun (l4, d) =>
  if decide (d < 2) then
    (p_muntinref10_Nearest at_6 i1 d).bind fun x1 =>
    ck ((0 : Int) ≤ d) <|
    if (decide (ari_and .u8 (sh_shr .u8 bits d) 1 = 0)) || (decide (x1 < 0)) then
      ck (in64 (d + 1)) <|
      some (.inl (l4, d + 1))
    else
      (p_muntinref10_Crossed at_6 l4 i1 x1).bind fun x2 =>
      if !x2 then
        (p_muntinref10_with l4 i1 d x1 own).bind fun x3 =>
        ck (in64 (d + 1)) <|
        some (.inl (x3, d + 1))
      else
        ck (in64 (d + 1)) <|
        some (.inl (l4, d + 1))
  else
    some (.inr l4)

def p_muntinref10_Make.s2 (z : T_muntinref10_Places) : (List T_api_Point) × (List T_api_Cell) × Int → Option (((List T_api_Point) × (List T_api_Cell) × Int) ⊕ ((List T_api_Point) × (List T_api_Cell))) := fun (at_3, l, i1) =>
  if decide (i1 < (at_3.length : Int)) then
    (
      if decide (i1 < (z.Bits.length : Int)) then
        ck ((0 : Int) ≤ i1 ∧ i1 < (z.Bits.length : Int)) <|
        some (at_3, l, gi z.Bits (i1 : Int).toNat)
      else
        some (at_3, l, 3)).bind fun (at_5, l2, bits) =>
    (
      if decide (i1 < (z.Own.length : Int)) then
        ck ((0 : Int) ≤ i1 ∧ i1 < (z.Own.length : Int)) <|
        ck (inK .i64 (gi z.Own (i1 : Int).toNat)) <|
        if decide ((gi z.Own (i1 : Int).toNat) < (-2)) then
          ck (in64 (-(gi z.Own (i1 : Int).toNat))) <|
          some (at_5, l2, -(gi z.Own (i1 : Int).toNat))
        else
          some (at_5, l2, gi z.Own (i1 : Int).toNat)
      else
        some (at_5, l2, i1)).bind fun (at_6, l3, own) =>
    (loopF (p_muntinref10_Make.s3 i1 bits at_6 own) big (l3, 0)).bind fun l5 =>
    ck (in64 (i1 + 1)) <|
    some (.inl (at_6, l5, i1 + 1))
  else
    some (.inr (at_3, l))

def p_muntinref10_Make (z : T_muntinref10_Places) (most : Int) : Option ((List T_api_Cell) × (List T_api_Point)) :=
  (loopF (p_muntinref10_Make.s0 z most) big (([] : List T_api_Point), 0)).bind fun at_1 =>
  (p_muntinref10_New (at_1.length : Int)).bind fun x =>
  (loopF (p_muntinref10_Make.s2 z) big (at_1, x, 0)).bind fun (at_4, l1) =>
  some (l1, at_4)

/-! slices.Clone[[]muntin/api.Cell,muntin/api.Cell] -/
def p_slices_Clone_api_Cell (s : List T_api_Cell) : Option (List T_api_Cell) :=
  ck (s.length ≤ 1000000000) <|
  some s
/-! muntin/muntinref10.Check -/
def p_muntinref10_Check.s1 (l : List T_api_Cell) (v : Int) : Int → Option (Int ⊕ (Unit ⊕ Int)) := fun d =>
  if decide (d < 4) then
    ck ((0 : Int) ≤ v ∧ v < (l.length : Int)) <|
    ck ((0 : Int) ≤ d ∧ d < 4) <|
    if decide (((gi l (v : Int).toNat).Next).get d = (-1)) then
      if !(decide (((gi l (v : Int).toNat).Owner).get d = 0)) then
        some (.inr (.inr 9))
      else
        ck (in64 (d + 1)) <|
        some (.inl (d + 1))
    else
      if ((decide ((((gi l (v : Int).toNat).Next).get d) < 0)) || (decide ((l.length : Int) ≤ (((gi l (v : Int).toNat).Next).get d)))) || (decide (((gi l (v : Int).toNat).Next).get d = v)) then
        some (.inr (.inr 3))
      else
        ck (in64 (d + 2)) <|
        ck ((0 : Int) ≤ (((gi l (v : Int).toNat).Next).get d) ∧ (((gi l (v : Int).toNat).Next).get d) < (l.length : Int)) <|
        ck ((0 : Int) ≤ ((d + 2).tmod 4) ∧ ((d + 2).tmod 4) < 4) <|
        if ((!(decide (((gi l (((gi l (v : Int).toNat).Next).get d : Int).toNat).Next).get ((d + 2).tmod 4) = v))) || (!(decide (((gi l (((gi l (v : Int).toNat).Next).get d : Int).toNat).Owner).get ((d + 2).tmod 4) = ((gi l (v : Int).toNat).Owner).get d)))) || (decide ((((gi l (v : Int).toNat).Owner).get d) < (-2))) then
          some (.inr (.inr 9))
        else
          ck (in64 (d + 1)) <|
          some (.inl (d + 1))
  else
    some (.inr (.inl ()))

def p_muntinref10_Check.s0 (l : List T_api_Cell) : Int → Option (Int ⊕ (Unit ⊕ Int)) := fun v =>
  if decide (v < (l.length : Int)) then
    (
      loopF (p_muntinref10_Check.s1 l v) big 0 : Option (Unit ⊕ Int)).bind fun o₃ => match o₃ with
    | .inl _ =>
      ck (in64 (v + 1)) <|
      some (.inl (v + 1))
    | .inr x1 =>
      some (.inr (.inr x1))
  else
    some (.inr (.inl ()))

def p_muntinref10_Check (l : List T_api_Cell) : Option Int :=
  if decide (4096 < (l.length : Int)) then
    some 6
  else
    (
      loopF (p_muntinref10_Check.s0 l) big 0 : Option (Unit ⊕ Int)).bind fun o₁ => match o₁ with
    | .inl _ =>
      some 0
    | .inr x =>
      some x

/-! muntin/compass.Good -/
def p_compass_Good (d : Int) : Option Bool :=
  some ((decide (0 ≤ d)) && (decide (d ≤ 3)))

/-! muntin/compass.Left -/
def p_compass_Left (d : Int) (times : Int) : Option Int :=
  (p_compass_Good d).bind fun x =>
  if !x then
    some 0
  else
    ck (in64 (d + (times.tmod 4))) <|
    ck (in64 ((d + (times.tmod 4)) + 4)) <|
    some (((d + (times.tmod 4)) + 4).tmod 4)

/-! muntin/grid.side -/
def p_grid_side (cells : List T_api_Cell) (v : Int) (d : Int) : Option Int :=
  ck ((0 : Int) ≤ v ∧ v < (cells.length : Int)) <|
  ck ((0 : Int) ≤ d ∧ d < 4) <|
  if decide (((gi cells (v : Int).toNat).Next).get d = (-1)) then
    if !(decide (((gi cells (v : Int).toNat).Owner).get d = 0)) then
      some 9
    else
      some 0
  else
    if ((decide ((((gi cells (v : Int).toNat).Next).get d) < 0)) || (decide ((cells.length : Int) ≤ (((gi cells (v : Int).toNat).Next).get d)))) || (decide (((gi cells (v : Int).toNat).Next).get d = v)) then
      some 3
    else
      (p_compass_Left d 2).bind fun x =>
      ck ((0 : Int) ≤ (((gi cells (v : Int).toNat).Next).get d) ∧ (((gi cells (v : Int).toNat).Next).get d) < (cells.length : Int)) <|
      ck ((0 : Int) ≤ x ∧ x < 4) <|
      if ((!(decide (((gi cells (((gi cells (v : Int).toNat).Next).get d : Int).toNat).Next).get x = v))) || (!(decide (((gi cells (((gi cells (v : Int).toNat).Next).get d : Int).toNat).Owner).get x = ((gi cells (v : Int).toNat).Owner).get d)))) || (decide ((((gi cells (v : Int).toNat).Owner).get d) < (-2))) then
        some 9
      else
        some 0

/-! muntin/grid.Check -/
def p_grid_Check.s1 (cells : List T_api_Cell) (x : Int) : Int → Option (Int ⊕ (Unit ⊕ Int)) := fun x2 =>
  if decide (x2 < 4) then
    (p_grid_side cells x x2).bind fun x4 =>
    if !(decide (x4 = 0)) then
      some (.inr (.inr x4))
    else
      ck (in64 (x2 + 1)) <|
      some (.inl (x2 + 1))
  else
    some (.inr (.inl ()))

def p_grid_Check.s0 (cells : List T_api_Cell) : Int → Option (Int ⊕ (Unit ⊕ Int)) := fun x =>
  if decide (x < (cells.length : Int)) then
    (
      loopF (p_grid_Check.s1 cells x) big 0 : Option (Unit ⊕ Int)).bind fun o₃ => match o₃ with
    | .inl _ =>
      ck (in64 (x + 1)) <|
      some (.inl (x + 1))
    | .inr x3 =>
      some (.inr (.inr x3))
  else
    some (.inr (.inl ()))

def p_grid_Check (cells : List T_api_Cell) : Option Int :=
  if decide (4096 < (cells.length : Int)) then
    some 6
  else
    (
      loopF (p_grid_Check.s0 cells) big 0 : Option (Unit ⊕ Int)).bind fun o₁ => match o₁ with
    | .inl _ =>
      some 0
    | .inr x1 =>
      some x1

/-! muntin/grid.Of -/
def p_grid_Of (cells : List T_api_Cell) : Option ((Option T_grid_Grid) × Int) :=
  (p_grid_Check cells).bind fun x =>
  if !(decide (x = 0)) then
    some (none, x)
  else
    (p_slices_Clone_api_Cell cells).bind fun x1 =>
    some (some (⟨x1⟩ : T_grid_Grid), 0)

/-! (*muntin/grid.Grid).Cells -/
def p_grid_Grid_Cells (g : T_grid_Grid) : Option (List T_api_Cell) :=
  (p_slices_Clone_api_Cell g.cells).bind fun x =>
  some x

/-! muntin/muntinref10.Same -/
def p_muntinref10_Same.s0 (a : List T_api_Cell) (b : List T_api_Cell) : Int → Option (Int ⊕ (Unit ⊕ Unit)) := fun i =>
  if decide (i < (a.length : Int)) then
    ck ((0 : Int) ≤ i ∧ i < (a.length : Int)) <|
    ck ((0 : Int) ≤ i ∧ i < (b.length : Int)) <|
    if !(decide (gi a (i : Int).toNat = gi b (i : Int).toNat)) then
      some (.inr (.inr ()))
    else
      ck (in64 (i + 1)) <|
      some (.inl (i + 1))
  else
    some (.inr (.inl ()))

def p_muntinref10_Same (a : List T_api_Cell) (b : List T_api_Cell) : Option Bool :=
  if !(decide ((a.length : Int) = (b.length : Int))) then
    some false
  else
    (
      loopF (p_muntinref10_Same.s0 a b) big 0 : Option (Unit ⊕ Unit)).bind fun o₁ => match o₁ with
    | .inl _ =>
      some true
    | .inr _ =>
      some false

/-! (*muntin/grid.Grid).Len -/
def p_grid_Grid_Len (g : T_grid_Grid) : Option Int :=
  some (g.cells.length : Int)

/-! muntin/grid.empty -/
def p_grid_empty : Option T_api_Cell :=
  some (⟨(⟨(-1), (-1), (-1), (-1)⟩ : A4 Int), (⟨0, 0, 0, 0⟩ : A4 Int)⟩ : T_api_Cell)

/-! math/bits.Mul64 -/
def p_bits_Mul64 (x : Int) (y : Int) : Option (Int × Int) :=
  some (ari_add .u64 (ari_add .u64 (ari_mul .u64 (sh_shr .u64 x 32) (sh_shr .u64 y 32)) (sh_shr .u64 (ari_add .u64 (ari_mul .u64 (sh_shr .u64 x 32) (ari_and .u64 y 4294967295)) (sh_shr .u64 (ari_mul .u64 (ari_and .u64 x 4294967295) (ari_and .u64 y 4294967295)) 32)) 32)) (sh_shr .u64 (ari_add .u64 (ari_and .u64 (ari_add .u64 (ari_mul .u64 (sh_shr .u64 x 32) (ari_and .u64 y 4294967295)) (sh_shr .u64 (ari_mul .u64 (ari_and .u64 x 4294967295) (ari_and .u64 y 4294967295)) 32)) 4294967295) (ari_mul .u64 (ari_and .u64 x 4294967295) (sh_shr .u64 y 32))) 32), ari_mul .u64 x y)

/-! math/bits.Mul -/
def p_bits_Mul (x : Int) (y : Int) : Option (Int × Int) :=
  (p_bits_Mul64 x y).bind fun (x1, x2) =>
  some (x1, x2)

/-! slices.Repeat[[]muntin/api.Cell,muntin/api.Cell] -/
def p_slices_Repeat_api_Cell.s0 : (List T_api_Cell) × Int → Option (((List T_api_Cell) × Int) ⊕ (List T_api_Cell)) := fun (newslice, n) =>
  if decide (n < (newslice.length : Int)) then
    ck ((0 : Int) ≤ n ∧ n ≤ (newslice.length : Int)) <|
    ck (in64 (n + ((min (newslice.take (n : Int).toNat).length (newslice.drop (n : Int).toNat).length : Nat) : Int))) <|
    some (.inl (newslice.take (n : Int).toNat ++ ((newslice.take (n : Int).toNat).take (newslice.drop (n : Int).toNat).length ++ (newslice.drop (n : Int).toNat).drop (newslice.take (n : Int).toNat).length), n + ((min (newslice.take (n : Int).toNat).length (newslice.drop (n : Int).toNat).length : Nat) : Int)))
  else
    some (.inr newslice)

def p_slices_Repeat_api_Cell (x : List T_api_Cell) (count : Int) : Option (List T_api_Cell) :=
  (
    if decide (count < 0) then
      none
    else
      some ()).bind fun _ =>
  ck (inK .u64 (x.length : Int)) <|
  ck (inK .u64 count) <|
  (p_bits_Mul (x.length : Int) count).bind fun (x1, x2) =>
  (
    if (decide (0 < x1)) || (decide (9223372036854775807 < x2)) then
      none
    else
      some ()).bind fun _ =>
  ck (inK .i64 x2) <|
  ck ((0 : Int) ≤ x2 ∧ x2 ≤ 1000000000) <|
  (loopF p_slices_Repeat_api_Cell.s0 big (x.take (List.replicate (x2 : Int).toNat (⟨⟨0, 0, 0, 0⟩, ⟨0, 0, 0, 0⟩⟩ : T_api_Cell)).length ++ (List.replicate (x2 : Int).toNat (⟨⟨0, 0, 0, 0⟩, ⟨0, 0, 0, 0⟩⟩ : T_api_Cell)).drop x.length, ((min x.length (List.replicate (x2 : Int).toNat (⟨⟨0, 0, 0, 0⟩, ⟨0, 0, 0, 0⟩⟩ : T_api_Cell)).length : Nat) : Int))).bind fun newslice1 =>
  some newslice1

/-! muntin/grid.New -/
def p_grid_New (n : Int) : Option ((Option T_grid_Grid) × Int) :=
  if decide (n < 0) then
    some (none, 2)
  else
    if decide (4096 < n) then
      some (none, 6)
    else
      (p_grid_empty ).bind fun x =>
      (p_slices_Repeat_api_Cell [x] n).bind fun x1 =>
      some (some (⟨x1⟩ : T_grid_Grid), 0)

/-! (*muntin/grid.Grid).is -/
def p_grid_Grid_is (g : T_grid_Grid) (v : Int) (d : Int) : Option Bool :=
  (if decide (0 ≤ v) then
    (p_grid_Grid_Len g).bind fun x =>
    some (decide (v < x))
  else
    some false).bind fun t =>
  (if t then
    (p_compass_Good d).bind fun x1 =>
    some x1
  else
    some false).bind fun t1 =>
  some t1

/-! (*muntin/grid.Grid).lay -/
def p_grid_Grid_lay (g : T_grid_Grid) (v : Int) (d : Int) (w : Int) (owner : Int) : Option T_grid_Grid :=
  (p_compass_Left d 2).bind fun x =>
  ck ((0 : Int) ≤ v ∧ v < (g.cells.length : Int)) <|
  ck ((0 : Int) ≤ d ∧ d < 4) <|
  ck ((0 : Int) ≤ v ∧ v < ((g.cells.set (v : Int).toNat ({ gi g.cells (v : Int).toNat with Next := ((gi g.cells (v : Int).toNat).Next).set d w })).length : Int)) <|
  ck ((0 : Int) ≤ w ∧ w < (((g.cells.set (v : Int).toNat ({ gi g.cells (v : Int).toNat with Next := ((gi g.cells (v : Int).toNat).Next).set d w })).set (v : Int).toNat ({ gi (g.cells.set (v : Int).toNat ({ gi g.cells (v : Int).toNat with Next := ((gi g.cells (v : Int).toNat).Next).set d w })) (v : Int).toNat with Owner := ((gi (g.cells.set (v : Int).toNat ({ gi g.cells (v : Int).toNat with Next := ((gi g.cells (v : Int).toNat).Next).set d w })) (v : Int).toNat).Owner).set d owner })).length : Int)) <|
  ck ((0 : Int) ≤ x ∧ x < 4) <|
  ck ((0 : Int) ≤ w ∧ w < ((((g.cells.set (v : Int).toNat ({ gi g.cells (v : Int).toNat with Next := ((gi g.cells (v : Int).toNat).Next).set d w })).set (v : Int).toNat ({ gi (g.cells.set (v : Int).toNat ({ gi g.cells (v : Int).toNat with Next := ((gi g.cells (v : Int).toNat).Next).set d w })) (v : Int).toNat with Owner := ((gi (g.cells.set (v : Int).toNat ({ gi g.cells (v : Int).toNat with Next := ((gi g.cells (v : Int).toNat).Next).set d w })) (v : Int).toNat).Owner).set d owner })).set (w : Int).toNat ({ gi ((g.cells.set (v : Int).toNat ({ gi g.cells (v : Int).toNat with Next := ((gi g.cells (v : Int).toNat).Next).set d w })).set (v : Int).toNat ({ gi (g.cells.set (v : Int).toNat ({ gi g.cells (v : Int).toNat with Next := ((gi g.cells (v : Int).toNat).Next).set d w })) (v : Int).toNat with Owner := ((gi (g.cells.set (v : Int).toNat ({ gi g.cells (v : Int).toNat with Next := ((gi g.cells (v : Int).toNat).Next).set d w })) (v : Int).toNat).Owner).set d owner })) (w : Int).toNat with Next := ((gi ((g.cells.set (v : Int).toNat ({ gi g.cells (v : Int).toNat with Next := ((gi g.cells (v : Int).toNat).Next).set d w })).set (v : Int).toNat ({ gi (g.cells.set (v : Int).toNat ({ gi g.cells (v : Int).toNat with Next := ((gi g.cells (v : Int).toNat).Next).set d w })) (v : Int).toNat with Owner := ((gi (g.cells.set (v : Int).toNat ({ gi g.cells (v : Int).toNat with Next := ((gi g.cells (v : Int).toNat).Next).set d w })) (v : Int).toNat).Owner).set d owner })) (w : Int).toNat).Next).set x v })).length : Int)) <|
  some (⟨(((g.cells.set (v : Int).toNat ({ gi g.cells (v : Int).toNat with Next := ((gi g.cells (v : Int).toNat).Next).set d w })).set (v : Int).toNat ({ gi (g.cells.set (v : Int).toNat ({ gi g.cells (v : Int).toNat with Next := ((gi g.cells (v : Int).toNat).Next).set d w })) (v : Int).toNat with Owner := ((gi (g.cells.set (v : Int).toNat ({ gi g.cells (v : Int).toNat with Next := ((gi g.cells (v : Int).toNat).Next).set d w })) (v : Int).toNat).Owner).set d owner })).set (w : Int).toNat ({ gi ((g.cells.set (v : Int).toNat ({ gi g.cells (v : Int).toNat with Next := ((gi g.cells (v : Int).toNat).Next).set d w })).set (v : Int).toNat ({ gi (g.cells.set (v : Int).toNat ({ gi g.cells (v : Int).toNat with Next := ((gi g.cells (v : Int).toNat).Next).set d w })) (v : Int).toNat with Owner := ((gi (g.cells.set (v : Int).toNat ({ gi g.cells (v : Int).toNat with Next := ((gi g.cells (v : Int).toNat).Next).set d w })) (v : Int).toNat).Owner).set d owner })) (w : Int).toNat with Next := ((gi ((g.cells.set (v : Int).toNat ({ gi g.cells (v : Int).toNat with Next := ((gi g.cells (v : Int).toNat).Next).set d w })).set (v : Int).toNat ({ gi (g.cells.set (v : Int).toNat ({ gi g.cells (v : Int).toNat with Next := ((gi g.cells (v : Int).toNat).Next).set d w })) (v : Int).toNat with Owner := ((gi (g.cells.set (v : Int).toNat ({ gi g.cells (v : Int).toNat with Next := ((gi g.cells (v : Int).toNat).Next).set d w })) (v : Int).toNat).Owner).set d owner })) (w : Int).toNat).Next).set x v })).set (w : Int).toNat ({ gi (((g.cells.set (v : Int).toNat ({ gi g.cells (v : Int).toNat with Next := ((gi g.cells (v : Int).toNat).Next).set d w })).set (v : Int).toNat ({ gi (g.cells.set (v : Int).toNat ({ gi g.cells (v : Int).toNat with Next := ((gi g.cells (v : Int).toNat).Next).set d w })) (v : Int).toNat with Owner := ((gi (g.cells.set (v : Int).toNat ({ gi g.cells (v : Int).toNat with Next := ((gi g.cells (v : Int).toNat).Next).set d w })) (v : Int).toNat).Owner).set d owner })).set (w : Int).toNat ({ gi ((g.cells.set (v : Int).toNat ({ gi g.cells (v : Int).toNat with Next := ((gi g.cells (v : Int).toNat).Next).set d w })).set (v : Int).toNat ({ gi (g.cells.set (v : Int).toNat ({ gi g.cells (v : Int).toNat with Next := ((gi g.cells (v : Int).toNat).Next).set d w })) (v : Int).toNat with Owner := ((gi (g.cells.set (v : Int).toNat ({ gi g.cells (v : Int).toNat with Next := ((gi g.cells (v : Int).toNat).Next).set d w })) (v : Int).toNat).Owner).set d owner })) (w : Int).toNat with Next := ((gi ((g.cells.set (v : Int).toNat ({ gi g.cells (v : Int).toNat with Next := ((gi g.cells (v : Int).toNat).Next).set d w })).set (v : Int).toNat ({ gi (g.cells.set (v : Int).toNat ({ gi g.cells (v : Int).toNat with Next := ((gi g.cells (v : Int).toNat).Next).set d w })) (v : Int).toNat with Owner := ((gi (g.cells.set (v : Int).toNat ({ gi g.cells (v : Int).toNat with Next := ((gi g.cells (v : Int).toNat).Next).set d w })) (v : Int).toNat).Owner).set d owner })) (w : Int).toNat).Next).set x v })) (w : Int).toNat with Owner := ((gi (((g.cells.set (v : Int).toNat ({ gi g.cells (v : Int).toNat with Next := ((gi g.cells (v : Int).toNat).Next).set d w })).set (v : Int).toNat ({ gi (g.cells.set (v : Int).toNat ({ gi g.cells (v : Int).toNat with Next := ((gi g.cells (v : Int).toNat).Next).set d w })) (v : Int).toNat with Owner := ((gi (g.cells.set (v : Int).toNat ({ gi g.cells (v : Int).toNat with Next := ((gi g.cells (v : Int).toNat).Next).set d w })) (v : Int).toNat).Owner).set d owner })).set (w : Int).toNat ({ gi ((g.cells.set (v : Int).toNat ({ gi g.cells (v : Int).toNat with Next := ((gi g.cells (v : Int).toNat).Next).set d w })).set (v : Int).toNat ({ gi (g.cells.set (v : Int).toNat ({ gi g.cells (v : Int).toNat with Next := ((gi g.cells (v : Int).toNat).Next).set d w })) (v : Int).toNat with Owner := ((gi (g.cells.set (v : Int).toNat ({ gi g.cells (v : Int).toNat with Next := ((gi g.cells (v : Int).toNat).Next).set d w })) (v : Int).toNat).Owner).set d owner })) (w : Int).toNat with Next := ((gi ((g.cells.set (v : Int).toNat ({ gi g.cells (v : Int).toNat with Next := ((gi g.cells (v : Int).toNat).Next).set d w })).set (v : Int).toNat ({ gi (g.cells.set (v : Int).toNat ({ gi g.cells (v : Int).toNat with Next := ((gi g.cells (v : Int).toNat).Next).set d w })) (v : Int).toNat with Owner := ((gi (g.cells.set (v : Int).toNat ({ gi g.cells (v : Int).toNat with Next := ((gi g.cells (v : Int).toNat).Next).set d w })) (v : Int).toNat).Owner).set d owner })) (w : Int).toNat).Next).set x v })) (w : Int).toNat).Owner).set x owner })⟩ : T_grid_Grid)

/-! (*muntin/grid.Grid).Join -/
def p_grid_Grid_Join (g : T_grid_Grid) (v : Int) (d : Int) (w : Int) (owner : Int) : Option (Int × T_grid_Grid) :=
  (p_grid_Grid_is g v d).bind fun x =>
  (if !x then
    some true
  else
    (p_grid_Grid_is g w d).bind fun x1 =>
    some (!x1)).bind fun t =>
  if (t || (decide (v = w))) || (decide (owner < (-2))) then
    some (2, g)
  else
    (
      ck ((0 : Int) ≤ v ∧ v < (g.cells.length : Int)) <|
      ck ((0 : Int) ≤ d ∧ d < 4) <|
      if !(decide (((gi g.cells (v : Int).toNat).Next).get d = (-1))) then
        some true
      else
        (p_compass_Left d 2).bind fun x3 =>
        ck ((0 : Int) ≤ w ∧ w < (g.cells.length : Int)) <|
        ck ((0 : Int) ≤ x3 ∧ x3 < 4) <|
        some (!(decide (((gi g.cells (w : Int).toNat).Next).get x3 = (-1))))).bind fun x2 =>
    if x2 then
      some (9, g)
    else
      (p_grid_Grid_lay g v d w owner).bind fun m =>
      some (0, m)

/-! (*muntin/grid.Grid).Next -/
def p_grid_Grid_Next (g : T_grid_Grid) (v : Int) (d : Int) : Option (Int × Int × Bool) :=
  (p_grid_Grid_is g v d).bind fun x =>
  (if !x then
    some true
  else
    ck ((0 : Int) ≤ v ∧ v < (g.cells.length : Int)) <|
    ck ((0 : Int) ≤ d ∧ d < 4) <|
    some (decide (((gi g.cells (v : Int).toNat).Next).get d = (-1)))).bind fun t =>
  if t then
    some (0, 0, false)
  else
    ck ((0 : Int) ≤ v ∧ v < (g.cells.length : Int)) <|
    ck ((0 : Int) ≤ d ∧ d < 4) <|
    some (((gi g.cells (v : Int).toNat).Next).get d, ((gi g.cells (v : Int).toNat).Owner).get d, true)

/-! (*muntin/grid.Grid).Add -/
def p_grid_Grid_Add (g : T_grid_Grid) : Option (Int × Int × T_grid_Grid) :=
  (p_grid_Grid_Len g).bind fun x =>
  if decide (x = 4096) then
    some (0, 6, g)
  else
    (p_grid_empty ).bind fun x1 =>
    ck (g.cells.length + [x1].length ≤ 1000000000) <|
    (p_grid_Grid_Len (⟨g.cells ++ [x1]⟩ : T_grid_Grid)).bind fun x2 =>
    ck (in64 (x2 - 1)) <|
    some (x2 - 1, 0, (⟨g.cells ++ [x1]⟩ : T_grid_Grid))

/-! (*muntin/grid.Grid).Split -/
def p_grid_Grid_Split (g : T_grid_Grid) (v : Int) (d : Int) : Option (Int × Int × T_grid_Grid) :=
  (p_grid_Grid_is g v d).bind fun x =>
  if !x then
    some (0, 2, g)
  else
    (p_grid_Grid_Next g v d).bind fun (x1, x2, x3) =>
    if !x3 then
      some (0, 9, g)
    else
      (p_grid_Grid_Add g).bind fun (x4, x5, m) =>
      if !(decide (x5 = 0)) then
        some (0, x5, m)
      else
        (p_grid_Grid_lay m v d x4 x2).bind fun m1 =>
        (p_grid_Grid_lay m1 x4 d x1 x2).bind fun m2 =>
        some (x4, 0, m2)

/-! muntin/muntinlaw10.wakes -/
def p_muntinlaw10_wakes : Option Bool :=
  (p_grid_New 2).bind fun (x, x1) =>
  (x).bind fun g =>
  (p_grid_Grid_Join g 0 0 1 0).bind fun (x2, m) =>
  (p_grid_Grid_Split m 0 0).bind fun (x3, x4, m1) =>
  (p_grid_Grid_Next m1 2 0).bind fun (x5, x6, x7) =>
  (p_grid_New (-1)).bind fun (x8, x9) =>
  (if (((((((decide (x1 = 0)) && (decide (x2 = 0))) && (decide (x3 = 2))) && (decide (x4 = 0))) && (decide (x5 = 1))) && (decide (x6 = 0))) && x7) && (decide (x9 = 2)) then
    (p_grid_Check [(⟨(⟨0, 0, 0, 0⟩ : A4 Int), (⟨0, 0, 0, 0⟩ : A4 Int)⟩ : T_api_Cell)]).bind fun x10 =>
    some (decide (x10 = 3))
  else
    some false).bind fun t =>
  some t

/-! muntin/muntinlaw10.GridChecks -/
def p_muntinlaw10_GridChecks.s1 (x8 : List T_api_Cell) : (List T_api_Cell) × Int → Option (((List T_api_Cell) × Int) ⊕ Unit) := fun (c, x11) =>
  if decide (x11 < (x8.length : Int)) then
    ck ((0 : Int) ≤ x11 ∧ x11 < (c.length : Int)) <|
    ck (in64 (x11 + 1)) <|
    some (.inl (c.set (x11 : Int).toNat (⟨(⟨0, 0, 0, 0⟩ : A4 Int), (⟨0, 0, 0, 0⟩ : A4 Int)⟩ : T_api_Cell), x11 + 1))
  else
    some (.inr ())

def p_muntinlaw10_GridChecks.s0 (z : T_muntinlaw10_Case) (x : List T_api_Cell) (m : List T_api_Cell) : Int → Option (Int ⊕ (Unit ⊕ Unit)) := fun x3 =>
  if decide (x3 < ([x, m, z.Raw.take (min (z.Raw.length : Int) 6 : Int).toNat].length : Int)) then
    ck ((0 : Int) ≤ x3 ∧ x3 < ([x, m, z.Raw.take (min (z.Raw.length : Int) 6 : Int).toNat].length : Int)) <|
    (p_muntinref10_Check (gi [x, m, z.Raw.take (min (z.Raw.length : Int) 6 : Int).toNat] (x3 : Int).toNat)).bind fun x4 =>
    (p_grid_Of (gi [x, m, z.Raw.take (min (z.Raw.length : Int) 6 : Int).toNat] (x3 : Int).toNat)).bind fun (x5, x6) =>
    (p_grid_Check (gi [x, m, z.Raw.take (min (z.Raw.length : Int) 6 : Int).toNat] (x3 : Int).toNat)).bind fun x7 =>
    if (!(decide (x7 = x4))) || (!(decide (x6 = x4))) then
      some (.inr (.inr ()))
    else
      if !(decide (x4 = 0)) then
        ck (in64 (x3 + 1)) <|
        some (.inl (x3 + 1))
      else
        (x5).bind fun g =>
        (p_grid_Grid_Cells g).bind fun x8 =>
        (p_muntinref10_Same x8 (gi [x, m, z.Raw.take (min (z.Raw.length : Int) 6 : Int).toNat] (x3 : Int).toNat)).bind fun x9 =>
        (if !x9 then
          some true
        else
          (p_grid_Grid_Len g).bind fun x10 =>
          some (!(decide (x10 = ((gi [x, m, z.Raw.take (min (z.Raw.length : Int) 6 : Int).toNat] (x3 : Int).toNat).length : Int))))).bind fun t =>
        if t then
          some (.inr (.inr ()))
        else
          (loopF (p_muntinlaw10_GridChecks.s1 x8) big (x8, 0)).bind fun _ =>
          (p_grid_Grid_Cells g).bind fun x12 =>
          (p_muntinref10_Same x12 (gi [x, m, z.Raw.take (min (z.Raw.length : Int) 6 : Int).toNat] (x3 : Int).toNat)).bind fun x13 =>
          if !x13 then
            some (.inr (.inr ()))
          else
            ck (in64 (x3 + 1)) <|
            some (.inl (x3 + 1))
  else
    some (.inr (.inl ()))

def p_muntinlaw10_GridChecks (z : T_muntinlaw10_Case) : Option Bool :=
  (p_muntinref10_Make z.Places 12).bind fun (x, x1) =>
  (p_slices_Clone_api_Cell x).bind fun x2 =>
  (
    if decide (0 < (x2.length : Int)) then
      ck (inK .i64 (z.At.get 0)) <|
      ck (((x2.length : Int) : Int) ≠ 0) <|
      ck ((0 : Int) ≤ ((z.At.get 0).tmod (x2.length : Int)) ∧ ((z.At.get 0).tmod (x2.length : Int)) < (x2.length : Int)) <|
      if decide (ari_and .u8 (z.At.get 1) 4 = 0) then
        ck ((0 : Int) ≤ ((z.At.get 1).tmod 4) ∧ ((z.At.get 1).tmod 4) < 4) <|
        some (x2.set ((z.At.get 0).tmod (x2.length : Int) : Int).toNat ({ gi x2 ((z.At.get 0).tmod (x2.length : Int) : Int).toNat with Next := ((gi x2 ((z.At.get 0).tmod (x2.length : Int) : Int).toNat).Next).set ((z.At.get 1).tmod 4) z.V }))
      else
        ck ((0 : Int) ≤ ((z.At.get 1).tmod 4) ∧ ((z.At.get 1).tmod 4) < 4) <|
        some (x2.set ((z.At.get 0).tmod (x2.length : Int) : Int).toNat ({ gi x2 ((z.At.get 0).tmod (x2.length : Int) : Int).toNat with Owner := ((gi x2 ((z.At.get 0).tmod (x2.length : Int) : Int).toNat).Owner).set ((z.At.get 1).tmod 4) z.V }))
    else
      some x2).bind fun m =>
  ck ((0 : Int) ≤ (min (z.Raw.length : Int) 6) ∧ (min (z.Raw.length : Int) 6) ≤ (z.Raw.length : Int)) <|
  (
    loopF (p_muntinlaw10_GridChecks.s0 z x m) big 0 : Option (Unit ⊕ Unit)).bind fun o₂ => match o₂ with
  | .inl _ =>
    (p_muntinlaw10_wakes ).bind fun x14 =>
    (if x14 then
      (p_muntinref10_Check x).bind fun x15 =>
      some (decide (x15 = 0))
    else
      some false).bind fun t1 =>
    some t1
  | .inr _ =>
    some false

end Mu
