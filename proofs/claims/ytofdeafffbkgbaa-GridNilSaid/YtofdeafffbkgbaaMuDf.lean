/- What the functions work out. -/
import Derived.Test.YtofdeafffbkgbaaMuA
import Derived.Test.YtofdeafffbkgbaaMuR
set_option linter.unusedVariables false
set_option linter.unnecessarySimpa false
set_option linter.unusedSimpArgs false
set_option maxHeartbeats 2000000
set_option maxRecDepth 10000
namespace Mu
open Go (IntKind BinOp UnOp)
structure T_api_Cell where
  Next : A4 Int
  Owner : A4 Int
  deriving DecidableEq, Inhabited
abbrev e_T_api_Cell : Enc T_api_Cell := ⟨8, fun x => [.i .i64 x.Next.a, .i .i64 x.Next.b, .i .i64 x.Next.c, .i .i64 x.Next.d, .i .i64 x.Owner.a, .i .i64 x.Owner.b, .i .i64 x.Owner.c, .i .i64 x.Owner.d], fun _ => rfl⟩
theorem e_T_api_Cell.one (x : T_api_Cell) : (e_T_api_Cell.c x).all V.one = true := rfl
abbrev e_A4_i64 : Enc (A4 Int) := ⟨4, fun x => [.i .i64 x.a, .i .i64 x.b, .i .i64 x.c, .i .i64 x.d], fun _ => rfl⟩
theorem e_A4_i64.one (x : A4 Int) : (e_A4_i64.c x).all V.one = true := rfl
structure T_grid_Grid where
  cells : List T_api_Cell
  deriving DecidableEq, Inhabited
/-! (*muntin/grid.Grid).Len -/
def p_grid_Grid_Len_nil0 : Option Int :=
  some 0

/-! muntin/compass.Good -/
def p_compass_Good (d : Int) : Option Bool :=
  some ((decide (0 ≤ d)) && (decide (d ≤ 3)))

/-! (*muntin/grid.Grid).is -/
def p_grid_Grid_is_nil0 (v : Int) (d : Int) : Option Bool :=
  (if decide (0 ≤ v) then
    (p_grid_Grid_Len_nil0 ).bind fun x =>
    some (decide (v < x))
  else
    some false).bind fun t =>
  (if t then
    (p_compass_Good d).bind fun x1 =>
    some x1
  else
    some false).bind fun t1 =>
  some t1

/-! (*muntin/grid.Grid).Next -/
def p_grid_Grid_Next_nil0 (v : Int) (d : Int) : Option (Int × Int × Bool) :=
  (p_grid_Grid_is_nil0 v d).bind fun x =>
  (if !x then
    some true
  else
    none).bind fun t =>
  if t then
    some (0, 0, false)
  else
    none

/-! (*muntin/grid.Grid).Add -/
def p_grid_Grid_Add_nil0 : Option (Int × Int) :=
  some (0, 1)

/-! (*muntin/grid.Grid).Split -/
def p_grid_Grid_Split_nil0 (v : Int) (d : Int) : Option (Int × Int) :=
  some (0, 1)

/-! muntin/grid.empty -/
def p_grid_empty : Option T_api_Cell :=
  some (⟨(⟨(-1), (-1), (-1), (-1)⟩ : A4 Int), (⟨0, 0, 0, 0⟩ : A4 Int)⟩ : T_api_Cell)

/-! math/bits.Mul64 -/
def p_bits_Mul64 (x : Int) (y : Int) : Option (Int × Int) :=
  some (ari_add .u64 (ari_add .u64 (ari_mul .u64 (sh_shr .u64 x 32) (sh_shr .u64 y 32)) (sh_shr .u64 (ari_add .u64 (ari_mul .u64 (sh_shr .u64 x 32) (ari_and .u64 y 4294967295)) (sh_shr .u64 (ari_mul .u64 (ari_and .u64 x 4294967295) (ari_and .u64 y 4294967295)) 32)) 32)) (sh_shr .u64 (ari_add .u64 (ari_and .u64 (ari_add .u64 (ari_mul .u64 (sh_shr .u64 x 32) (ari_and .u64 y 4294967295)) (sh_shr .u64 (ari_mul .u64 (ari_and .u64 x 4294967295) (ari_and .u64 y 4294967295)) 32)) 4294967295) (ari_mul .u64 (ari_and .u64 x 4294967295) (sh_shr .u64 y 32))) 32), ari_mul .u64 x y)

/-! math/bits.Mul -/
def p_bits_Mul (x : Int) (y : Int) : Option (Int × Int) :=
  (p_bits_Mul64 x y).bind fun (x1, x2) =>
  some (x1, x2)

/-! slices.Repeat[[]muntin/api.Cell,muntin/api.Cell] -/
def p_slices_Repeat_api_Cell.s0 : (List T_api_Cell) × Int → Option (((List T_api_Cell) × Int) ⊕ (List T_api_Cell)) := fun (newslice, n) =>
  if decide (n < (newslice.length : Int)) then
    ck ((0 : Int) ≤ n ∧ n ≤ (newslice.length : Int)) <|
    ck (in64 (n + ((min (newslice.take (n : Int).toNat).length (newslice.drop (n : Int).toNat).length : Nat) : Int))) <|
    some (.inl (newslice.take (n : Int).toNat ++ ((newslice.take (n : Int).toNat).take (newslice.drop (n : Int).toNat).length ++ (newslice.drop (n : Int).toNat).drop (newslice.take (n : Int).toNat).length), n + ((min (newslice.take (n : Int).toNat).length (newslice.drop (n : Int).toNat).length : Nat) : Int)))
  else
    some (.inr newslice)

def p_slices_Repeat_api_Cell (x : List T_api_Cell) (count : Int) : Option (List T_api_Cell) :=
  (
    if decide (count < 0) then
      none
    else
      some ()).bind fun _ =>
  ck (inK .u64 (x.length : Int)) <|
  ck (inK .u64 count) <|
  (p_bits_Mul (x.length : Int) count).bind fun (x1, x2) =>
  (
    if (decide (0 < x1)) || (decide (9223372036854775807 < x2)) then
      none
    else
      some ()).bind fun _ =>
  ck (inK .i64 x2) <|
  ck ((0 : Int) ≤ x2 ∧ x2 ≤ 1000000000) <|
  (loopF p_slices_Repeat_api_Cell.s0 big (x.take (List.replicate (x2 : Int).toNat (⟨⟨0, 0, 0, 0⟩, ⟨0, 0, 0, 0⟩⟩ : T_api_Cell)).length ++ (List.replicate (x2 : Int).toNat (⟨⟨0, 0, 0, 0⟩, ⟨0, 0, 0, 0⟩⟩ : T_api_Cell)).drop x.length, ((min x.length (List.replicate (x2 : Int).toNat (⟨⟨0, 0, 0, 0⟩, ⟨0, 0, 0, 0⟩⟩ : T_api_Cell)).length : Nat) : Int))).bind fun newslice1 =>
  some newslice1

/-! muntin/grid.New -/
def p_grid_New (n : Int) : Option ((Option T_grid_Grid) × Int) :=
  if decide (n < 0) then
    some (none, 2)
  else
    if decide (4096 < n) then
      some (none, 6)
    else
      (p_grid_empty ).bind fun x =>
      (p_slices_Repeat_api_Cell [x] n).bind fun x1 =>
      some (some (⟨x1⟩ : T_grid_Grid), 0)

/-! (*muntin/grid.Grid).Len -/
def p_grid_Grid_Len (g : T_grid_Grid) : Option Int :=
  some (g.cells.length : Int)

/-! (*muntin/grid.Grid).Add -/
def p_grid_Grid_Add (g : T_grid_Grid) : Option (Int × Int × T_grid_Grid) :=
  (p_grid_Grid_Len g).bind fun x =>
  if decide (x = 4096) then
    some (0, 6, g)
  else
    (p_grid_empty ).bind fun x1 =>
    ck (g.cells.length + [x1].length ≤ 1000000000) <|
    (p_grid_Grid_Len (⟨g.cells ++ [x1]⟩ : T_grid_Grid)).bind fun x2 =>
    ck (in64 (x2 - 1)) <|
    some (x2 - 1, 0, (⟨g.cells ++ [x1]⟩ : T_grid_Grid))

/-! (*muntin/grid.Grid).is -/
def p_grid_Grid_is (g : T_grid_Grid) (v : Int) (d : Int) : Option Bool :=
  (if decide (0 ≤ v) then
    (p_grid_Grid_Len g).bind fun x =>
    some (decide (v < x))
  else
    some false).bind fun t =>
  (if t then
    (p_compass_Good d).bind fun x1 =>
    some x1
  else
    some false).bind fun t1 =>
  some t1

/-! muntin/compass.Left -/
def p_compass_Left (d : Int) (times : Int) : Option Int :=
  (p_compass_Good d).bind fun x =>
  if !x then
    some 0
  else
    ck (in64 (d + (times.tmod 4))) <|
    ck (in64 ((d + (times.tmod 4)) + 4)) <|
    some (((d + (times.tmod 4)) + 4).tmod 4)

/-! (*muntin/grid.Grid).lay -/
def p_grid_Grid_lay (g : T_grid_Grid) (v : Int) (d : Int) (w : Int) (owner : Int) : Option T_grid_Grid :=
  (p_compass_Left d 2).bind fun x =>
  ck ((0 : Int) ≤ v ∧ v < (g.cells.length : Int)) <|
  ck ((0 : Int) ≤ d ∧ d < 4) <|
  ck ((0 : Int) ≤ v ∧ v < ((g.cells.set (v : Int).toNat ({ gi g.cells (v : Int).toNat with Next := ((gi g.cells (v : Int).toNat).Next).set d w })).length : Int)) <|
  ck ((0 : Int) ≤ w ∧ w < (((g.cells.set (v : Int).toNat ({ gi g.cells (v : Int).toNat with Next := ((gi g.cells (v : Int).toNat).Next).set d w })).set (v : Int).toNat ({ gi (g.cells.set (v : Int).toNat ({ gi g.cells (v : Int).toNat with Next := ((gi g.cells (v : Int).toNat).Next).set d w })) (v : Int).toNat with Owner := ((gi (g.cells.set (v : Int).toNat ({ gi g.cells (v : Int).toNat with Next := ((gi g.cells (v : Int).toNat).Next).set d w })) (v : Int).toNat).Owner).set d owner })).length : Int)) <|
  ck ((0 : Int) ≤ x ∧ x < 4) <|
  ck ((0 : Int) ≤ w ∧ w < ((((g.cells.set (v : Int).toNat ({ gi g.cells (v : Int).toNat with Next := ((gi g.cells (v : Int).toNat).Next).set d w })).set (v : Int).toNat ({ gi (g.cells.set (v : Int).toNat ({ gi g.cells (v : Int).toNat with Next := ((gi g.cells (v : Int).toNat).Next).set d w })) (v : Int).toNat with Owner := ((gi (g.cells.set (v : Int).toNat ({ gi g.cells (v : Int).toNat with Next := ((gi g.cells (v : Int).toNat).Next).set d w })) (v : Int).toNat).Owner).set d owner })).set (w : Int).toNat ({ gi ((g.cells.set (v : Int).toNat ({ gi g.cells (v : Int).toNat with Next := ((gi g.cells (v : Int).toNat).Next).set d w })).set (v : Int).toNat ({ gi (g.cells.set (v : Int).toNat ({ gi g.cells (v : Int).toNat with Next := ((gi g.cells (v : Int).toNat).Next).set d w })) (v : Int).toNat with Owner := ((gi (g.cells.set (v : Int).toNat ({ gi g.cells (v : Int).toNat with Next := ((gi g.cells (v : Int).toNat).Next).set d w })) (v : Int).toNat).Owner).set d owner })) (w : Int).toNat with Next := ((gi ((g.cells.set (v : Int).toNat ({ gi g.cells (v : Int).toNat with Next := ((gi g.cells (v : Int).toNat).Next).set d w })).set (v : Int).toNat ({ gi (g.cells.set (v : Int).toNat ({ gi g.cells (v : Int).toNat with Next := ((gi g.cells (v : Int).toNat).Next).set d w })) (v : Int).toNat with Owner := ((gi (g.cells.set (v : Int).toNat ({ gi g.cells (v : Int).toNat with Next := ((gi g.cells (v : Int).toNat).Next).set d w })) (v : Int).toNat).Owner).set d owner })) (w : Int).toNat).Next).set x v })).length : Int)) <|
  some (⟨(((g.cells.set (v : Int).toNat ({ gi g.cells (v : Int).toNat with Next := ((gi g.cells (v : Int).toNat).Next).set d w })).set (v : Int).toNat ({ gi (g.cells.set (v : Int).toNat ({ gi g.cells (v : Int).toNat with Next := ((gi g.cells (v : Int).toNat).Next).set d w })) (v : Int).toNat with Owner := ((gi (g.cells.set (v : Int).toNat ({ gi g.cells (v : Int).toNat with Next := ((gi g.cells (v : Int).toNat).Next).set d w })) (v : Int).toNat).Owner).set d owner })).set (w : Int).toNat ({ gi ((g.cells.set (v : Int).toNat ({ gi g.cells (v : Int).toNat with Next := ((gi g.cells (v : Int).toNat).Next).set d w })).set (v : Int).toNat ({ gi (g.cells.set (v : Int).toNat ({ gi g.cells (v : Int).toNat with Next := ((gi g.cells (v : Int).toNat).Next).set d w })) (v : Int).toNat with Owner := ((gi (g.cells.set (v : Int).toNat ({ gi g.cells (v : Int).toNat with Next := ((gi g.cells (v : Int).toNat).Next).set d w })) (v : Int).toNat).Owner).set d owner })) (w : Int).toNat with Next := ((gi ((g.cells.set (v : Int).toNat ({ gi g.cells (v : Int).toNat with Next := ((gi g.cells (v : Int).toNat).Next).set d w })).set (v : Int).toNat ({ gi (g.cells.set (v : Int).toNat ({ gi g.cells (v : Int).toNat with Next := ((gi g.cells (v : Int).toNat).Next).set d w })) (v : Int).toNat with Owner := ((gi (g.cells.set (v : Int).toNat ({ gi g.cells (v : Int).toNat with Next := ((gi g.cells (v : Int).toNat).Next).set d w })) (v : Int).toNat).Owner).set d owner })) (w : Int).toNat).Next).set x v })).set (w : Int).toNat ({ gi (((g.cells.set (v : Int).toNat ({ gi g.cells (v : Int).toNat with Next := ((gi g.cells (v : Int).toNat).Next).set d w })).set (v : Int).toNat ({ gi (g.cells.set (v : Int).toNat ({ gi g.cells (v : Int).toNat with Next := ((gi g.cells (v : Int).toNat).Next).set d w })) (v : Int).toNat with Owner := ((gi (g.cells.set (v : Int).toNat ({ gi g.cells (v : Int).toNat with Next := ((gi g.cells (v : Int).toNat).Next).set d w })) (v : Int).toNat).Owner).set d owner })).set (w : Int).toNat ({ gi ((g.cells.set (v : Int).toNat ({ gi g.cells (v : Int).toNat with Next := ((gi g.cells (v : Int).toNat).Next).set d w })).set (v : Int).toNat ({ gi (g.cells.set (v : Int).toNat ({ gi g.cells (v : Int).toNat with Next := ((gi g.cells (v : Int).toNat).Next).set d w })) (v : Int).toNat with Owner := ((gi (g.cells.set (v : Int).toNat ({ gi g.cells (v : Int).toNat with Next := ((gi g.cells (v : Int).toNat).Next).set d w })) (v : Int).toNat).Owner).set d owner })) (w : Int).toNat with Next := ((gi ((g.cells.set (v : Int).toNat ({ gi g.cells (v : Int).toNat with Next := ((gi g.cells (v : Int).toNat).Next).set d w })).set (v : Int).toNat ({ gi (g.cells.set (v : Int).toNat ({ gi g.cells (v : Int).toNat with Next := ((gi g.cells (v : Int).toNat).Next).set d w })) (v : Int).toNat with Owner := ((gi (g.cells.set (v : Int).toNat ({ gi g.cells (v : Int).toNat with Next := ((gi g.cells (v : Int).toNat).Next).set d w })) (v : Int).toNat).Owner).set d owner })) (w : Int).toNat).Next).set x v })) (w : Int).toNat with Owner := ((gi (((g.cells.set (v : Int).toNat ({ gi g.cells (v : Int).toNat with Next := ((gi g.cells (v : Int).toNat).Next).set d w })).set (v : Int).toNat ({ gi (g.cells.set (v : Int).toNat ({ gi g.cells (v : Int).toNat with Next := ((gi g.cells (v : Int).toNat).Next).set d w })) (v : Int).toNat with Owner := ((gi (g.cells.set (v : Int).toNat ({ gi g.cells (v : Int).toNat with Next := ((gi g.cells (v : Int).toNat).Next).set d w })) (v : Int).toNat).Owner).set d owner })).set (w : Int).toNat ({ gi ((g.cells.set (v : Int).toNat ({ gi g.cells (v : Int).toNat with Next := ((gi g.cells (v : Int).toNat).Next).set d w })).set (v : Int).toNat ({ gi (g.cells.set (v : Int).toNat ({ gi g.cells (v : Int).toNat with Next := ((gi g.cells (v : Int).toNat).Next).set d w })) (v : Int).toNat with Owner := ((gi (g.cells.set (v : Int).toNat ({ gi g.cells (v : Int).toNat with Next := ((gi g.cells (v : Int).toNat).Next).set d w })) (v : Int).toNat).Owner).set d owner })) (w : Int).toNat with Next := ((gi ((g.cells.set (v : Int).toNat ({ gi g.cells (v : Int).toNat with Next := ((gi g.cells (v : Int).toNat).Next).set d w })).set (v : Int).toNat ({ gi (g.cells.set (v : Int).toNat ({ gi g.cells (v : Int).toNat with Next := ((gi g.cells (v : Int).toNat).Next).set d w })) (v : Int).toNat with Owner := ((gi (g.cells.set (v : Int).toNat ({ gi g.cells (v : Int).toNat with Next := ((gi g.cells (v : Int).toNat).Next).set d w })) (v : Int).toNat).Owner).set d owner })) (w : Int).toNat).Next).set x v })) (w : Int).toNat).Owner).set x owner })⟩ : T_grid_Grid)

/-! (*muntin/grid.Grid).Join -/
def p_grid_Grid_Join (g : T_grid_Grid) (v : Int) (d : Int) (w : Int) (owner : Int) : Option (Int × T_grid_Grid) :=
  (p_grid_Grid_is g v d).bind fun x =>
  (if !x then
    some true
  else
    (p_grid_Grid_is g w d).bind fun x1 =>
    some (!x1)).bind fun t =>
  if (t || (decide (v = w))) || (decide (owner < (-2))) then
    some (2, g)
  else
    (
      ck ((0 : Int) ≤ v ∧ v < (g.cells.length : Int)) <|
      ck ((0 : Int) ≤ d ∧ d < 4) <|
      if !(decide (((gi g.cells (v : Int).toNat).Next).get d = (-1))) then
        some true
      else
        (p_compass_Left d 2).bind fun x3 =>
        ck ((0 : Int) ≤ w ∧ w < (g.cells.length : Int)) <|
        ck ((0 : Int) ≤ x3 ∧ x3 < 4) <|
        some (!(decide (((gi g.cells (w : Int).toNat).Next).get x3 = (-1))))).bind fun x2 =>
    if x2 then
      some (9, g)
    else
      (p_grid_Grid_lay g v d w owner).bind fun m =>
      some (0, m)

/-! (*muntin/grid.Grid).Next -/
def p_grid_Grid_Next (g : T_grid_Grid) (v : Int) (d : Int) : Option (Int × Int × Bool) :=
  (p_grid_Grid_is g v d).bind fun x =>
  (if !x then
    some true
  else
    ck ((0 : Int) ≤ v ∧ v < (g.cells.length : Int)) <|
    ck ((0 : Int) ≤ d ∧ d < 4) <|
    some (decide (((gi g.cells (v : Int).toNat).Next).get d = (-1)))).bind fun t =>
  if t then
    some (0, 0, false)
  else
    ck ((0 : Int) ≤ v ∧ v < (g.cells.length : Int)) <|
    ck ((0 : Int) ≤ d ∧ d < 4) <|
    some (((gi g.cells (v : Int).toNat).Next).get d, ((gi g.cells (v : Int).toNat).Owner).get d, true)

/-! (*muntin/grid.Grid).Split -/
def p_grid_Grid_Split (g : T_grid_Grid) (v : Int) (d : Int) : Option (Int × Int × T_grid_Grid) :=
  (p_grid_Grid_is g v d).bind fun x =>
  if !x then
    some (0, 2, g)
  else
    (p_grid_Grid_Next g v d).bind fun (x1, x2, x3) =>
    if !x3 then
      some (0, 9, g)
    else
      (p_grid_Grid_Add g).bind fun (x4, x5, m) =>
      if !(decide (x5 = 0)) then
        some (0, x5, m)
      else
        (p_grid_Grid_lay m v d x4 x2).bind fun m1 =>
        (p_grid_Grid_lay m1 x4 d x1 x2).bind fun m2 =>
        some (x4, 0, m2)

/-! muntin/grid.side -/
def p_grid_side (cells : List T_api_Cell) (v : Int) (d : Int) : Option Int :=
  ck ((0 : Int) ≤ v ∧ v < (cells.length : Int)) <|
  ck ((0 : Int) ≤ d ∧ d < 4) <|
  if decide (((gi cells (v : Int).toNat).Next).get d = (-1)) then
    if !(decide (((gi cells (v : Int).toNat).Owner).get d = 0)) then
      some 9
    else
      some 0
  else
    if ((decide ((((gi cells (v : Int).toNat).Next).get d) < 0)) || (decide ((cells.length : Int) ≤ (((gi cells (v : Int).toNat).Next).get d)))) || (decide (((gi cells (v : Int).toNat).Next).get d = v)) then
      some 3
    else
      (p_compass_Left d 2).bind fun x =>
      ck ((0 : Int) ≤ (((gi cells (v : Int).toNat).Next).get d) ∧ (((gi cells (v : Int).toNat).Next).get d) < (cells.length : Int)) <|
      ck ((0 : Int) ≤ x ∧ x < 4) <|
      if ((!(decide (((gi cells (((gi cells (v : Int).toNat).Next).get d : Int).toNat).Next).get x = v))) || (!(decide (((gi cells (((gi cells (v : Int).toNat).Next).get d : Int).toNat).Owner).get x = ((gi cells (v : Int).toNat).Owner).get d)))) || (decide ((((gi cells (v : Int).toNat).Owner).get d) < (-2))) then
        some 9
      else
        some 0

/-! muntin/grid.Check -/
def p_grid_Check.s1 (cells : List T_api_Cell) (x : Int) : Int → Option (Int ⊕ (Unit ⊕ Int)) := fun x2 =>
  if decide (x2 < 4) then
    (p_grid_side cells x x2).bind fun x4 =>
    if !(decide (x4 = 0)) then
      some (.inr (.inr x4))
    else
      ck (in64 (x2 + 1)) <|
      some (.inl (x2 + 1))
  else
    some (.inr (.inl ()))

def p_grid_Check.s0 (cells : List T_api_Cell) : Int → Option (Int ⊕ (Unit ⊕ Int)) := fun x =>
  if decide (x < (cells.length : Int)) then
    (
      loopF (p_grid_Check.s1 cells x) big 0 : Option (Unit ⊕ Int)).bind fun o₃ => match o₃ with
    | .inl _ =>
      ck (in64 (x + 1)) <|
      some (.inl (x + 1))
    | .inr x3 =>
      some (.inr (.inr x3))
  else
    some (.inr (.inl ()))

def p_grid_Check (cells : List T_api_Cell) : Option Int :=
  if decide (4096 < (cells.length : Int)) then
    some 6
  else
    (
      loopF (p_grid_Check.s0 cells) big 0 : Option (Unit ⊕ Int)).bind fun o₁ => match o₁ with
    | .inl _ =>
      some 0
    | .inr x1 =>
      some x1

/-! muntin/muntinlaw10.wakes -/
def p_muntinlaw10_wakes : Option Bool :=
  (p_grid_New 2).bind fun (x, x1) =>
  (x).bind fun g =>
  (p_grid_Grid_Join g 0 0 1 0).bind fun (x2, m) =>
  (p_grid_Grid_Split m 0 0).bind fun (x3, x4, m1) =>
  (p_grid_Grid_Next m1 2 0).bind fun (x5, x6, x7) =>
  (p_grid_New (-1)).bind fun (x8, x9) =>
  (if (((((((decide (x1 = 0)) && (decide (x2 = 0))) && (decide (x3 = 2))) && (decide (x4 = 0))) && (decide (x5 = 1))) && (decide (x6 = 0))) && x7) && (decide (x9 = 2)) then
    (p_grid_Check [(⟨(⟨0, 0, 0, 0⟩ : A4 Int), (⟨0, 0, 0, 0⟩ : A4 Int)⟩ : T_api_Cell)]).bind fun x10 =>
    some (decide (x10 = 3))
  else
    some false).bind fun t =>
  some t

/-! (*muntin/grid.Grid).Join -/
def p_grid_Grid_Join_nil0 (v : Int) (d : Int) (w : Int) (owner : Int) : Option Int :=
  some 1

/-! (*muntin/grid.Grid).Cells -/
def p_grid_Grid_Cells_nil0 : Option (List T_api_Cell) :=
  some ([] : List T_api_Cell)

/-! muntin/muntinlaw10.GridNil -/
def p_muntinlaw10_GridNil.s0 (n : Int) : (List T_api_Cell) × Int → Option (((List T_api_Cell) × Int) ⊕ (List T_api_Cell)) := fun (full, x9) =>
  if decide (x9 < ((max 0 n).tmod 4)) then
    (p_grid_Grid_Add (⟨full⟩ : T_grid_Grid)).bind fun (x10, x11, m) =>
    ck (in64 (x9 + 1)) <|
    some (.inl (m.cells, x9 + 1))
  else
    some (.inr full)

def p_muntinlaw10_GridNil (v : Int) (d : Int) (n : Int) : Option Bool :=
  (p_grid_Grid_Next_nil0 v d).bind fun (x, x1, x2) =>
  (p_grid_Grid_Add_nil0 ).bind fun (x3, x4) =>
  (p_grid_Grid_Split_nil0 v d).bind fun (x5, x6) =>
  ck (in64 (4096 - ((max 0 n).tmod 4))) <|
  (p_grid_New (4096 - ((max 0 n).tmod 4))).bind fun (x7, x8) =>
  (x7).bind fun g =>
  (loopF (p_muntinlaw10_GridNil.s0 n) big (g.cells, 0)).bind fun full1 =>
  (p_grid_Grid_Add (⟨full1⟩ : T_grid_Grid)).bind fun (x12, x13, m1) =>
  ck (in64 (4097 + ((max 0 n).tmod 9))) <|
  (p_grid_New (4097 + ((max 0 n).tmod 9))).bind fun (x14, x15) =>
  (p_grid_Grid_Join m1 0 0 1 3).bind fun (x16, m2) =>
  (p_grid_Grid_Split m2 0 0).bind fun (x17, x18, m3) =>
  (p_muntinlaw10_wakes ).bind fun x19 =>
  (if ((x19 && (!x2)) && (decide (x4 = 1))) && (decide (x6 = 1)) then
    (p_grid_Grid_Join_nil0 v d n 0).bind fun x20 =>
    some (decide (x20 = 1))
  else
    some false).bind fun t =>
  (if t then
    (p_grid_Grid_Len_nil0 ).bind fun x21 =>
    some (decide (x21 = 0))
  else
    some false).bind fun t1 =>
  (if t1 then
    (p_grid_Grid_Cells_nil0 ).bind fun x22 =>
    some (decide ((x22.length : Int) = 0))
  else
    some false).bind fun t2 =>
  (if ((((t2 && (decide (x8 = 0))) && (decide (x13 = 6))) && (decide (x15 = 6))) && (decide (x16 = 0))) && (decide (x18 = 6)) then
    ck ((0 : Int) ≤ 4097 ∧ (4097 : Int) ≤ 1000000000) <|
    (p_grid_Check (List.replicate (4097 : Int).toNat (⟨⟨0, 0, 0, 0⟩, ⟨0, 0, 0, 0⟩⟩ : T_api_Cell))).bind fun x23 =>
    some (decide (x23 = 6))
  else
    some false).bind fun t3 =>
  some t3

end Mu
