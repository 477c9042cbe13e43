/- What the functions work out. -/
import Derived.Test.YteedifiifkghkaaMuA
import Derived.Test.YteedifiifkghkaaMuR
set_option linter.unusedVariables false
set_option linter.unnecessarySimpa false
set_option linter.unusedSimpArgs false
set_option maxHeartbeats 2000000
set_option maxRecDepth 10000
namespace Mu
open Go (IntKind BinOp UnOp)
structure T_muntinlaw10_Act where
  Do : Int
  V : Int
  D : Int
  W : Int
  Owner : Int
  deriving DecidableEq, Inhabited
abbrev e_T_muntinlaw10_Act : Enc T_muntinlaw10_Act := ⟨5, fun x => [.i .u8 x.Do, .i .i64 x.V, .i .i64 x.D, .i .i64 x.W, .i .i64 x.Owner], fun _ => rfl⟩
theorem e_T_muntinlaw10_Act.one (x : T_muntinlaw10_Act) : (e_T_muntinlaw10_Act.c x).all V.one = true := rfl
structure T_api_Cell where
  Next : A4 Int
  Owner : A4 Int
  deriving DecidableEq, Inhabited
abbrev e_T_api_Cell : Enc T_api_Cell := ⟨8, fun x => [.i .i64 x.Next.a, .i .i64 x.Next.b, .i .i64 x.Next.c, .i .i64 x.Next.d, .i .i64 x.Owner.a, .i .i64 x.Owner.b, .i .i64 x.Owner.c, .i .i64 x.Owner.d], fun _ => rfl⟩
theorem e_T_api_Cell.one (x : T_api_Cell) : (e_T_api_Cell.c x).all V.one = true := rfl
theorem e_T_api_Cell.same (x y : T_api_Cell) : sameAll [.i, .i, .i, .i, .i, .i, .i, .i] (e_T_api_Cell.c x) (e_T_api_Cell.c y) = some (decide (x = y)) := by
  obtain ⟨⟨x1, x2, x3, x4⟩, ⟨x5, x6, x7, x8⟩⟩ := x
  obtain ⟨⟨y1, y2, y3, y4⟩, ⟨y5, y6, y7, y8⟩⟩ := y
  refine (sameAll_i (sameAll_i (sameAll_i (sameAll_i (sameAll_i (sameAll_i (sameAll_i (sameAll_i sameAll_nil)))))))).trans ?_
  congr 1
  rw [Bool.eq_iff_iff]
  simp [and_assoc]
abbrev e_A4_i64 : Enc (A4 Int) := ⟨4, fun x => [.i .i64 x.a, .i .i64 x.b, .i .i64 x.c, .i .i64 x.d], fun _ => rfl⟩
theorem e_A4_i64.one (x : A4 Int) : (e_A4_i64.c x).all V.one = true := rfl
structure T_grid_Grid where
  cells : List T_api_Cell
  deriving DecidableEq, Inhabited
def Ok_T_muntinlaw10_Act (x : T_muntinlaw10_Act) : Prop := Wf .u8 x.Do ∧ Wf .i64 x.V ∧ Wf .i64 x.D ∧ Wf .i64 x.W ∧ Wf .i64 x.Owner
/-! muntin/grid.empty -/
def p_grid_empty : Option T_api_Cell :=
  some (⟨(⟨(-1), (-1), (-1), (-1)⟩ : A4 Int), (⟨0, 0, 0, 0⟩ : A4 Int)⟩ : T_api_Cell)

/-! math/bits.Mul64 -/
def p_bits_Mul64 (x : Int) (y : Int) : Option (Int × Int) :=
  some (ari_add .u64 (ari_add .u64 (ari_mul .u64 (sh_shr .u64 x 32) (sh_shr .u64 y 32)) (sh_shr .u64 (ari_add .u64 (ari_mul .u64 (sh_shr .u64 x 32) (ari_and .u64 y 4294967295)) (sh_shr .u64 (ari_mul .u64 (ari_and .u64 x 4294967295) (ari_and .u64 y 4294967295)) 32)) 32)) (sh_shr .u64 (ari_add .u64 (ari_and .u64 (ari_add .u64 (ari_mul .u64 (sh_shr .u64 x 32) (ari_and .u64 y 4294967295)) (sh_shr .u64 (ari_mul .u64 (ari_and .u64 x 4294967295) (ari_and .u64 y 4294967295)) 32)) 4294967295) (ari_mul .u64 (ari_and .u64 x 4294967295) (sh_shr .u64 y 32))) 32), ari_mul .u64 x y)

/-! math/bits.Mul -/
def p_bits_Mul (x : Int) (y : Int) : Option (Int × Int) :=
  (p_bits_Mul64 x y).bind fun (x1, x2) =>
  some (x1, x2)

/-! slices.Repeat[[]muntin/api.Cell,muntin/api.Cell] -/
def p_slices_Repeat_api_Cell.s0 : (List T_api_Cell) × Int → Option (((List T_api_Cell) × Int) ⊕ (List T_api_Cell)) := fun (newslice, n) =>
  if decide (n < (newslice.length : Int)) then
    ck ((0 : Int) ≤ n ∧ n ≤ (newslice.length : Int)) <|
    ck (in64 (n + ((min (newslice.take (n : Int).toNat).length (newslice.drop (n : Int).toNat).length : Nat) : Int))) <|
    some (.inl (newslice.take (n : Int).toNat ++ ((newslice.take (n : Int).toNat).take (newslice.drop (n : Int).toNat).length ++ (newslice.drop (n : Int).toNat).drop (newslice.take (n : Int).toNat).length), n + ((min (newslice.take (n : Int).toNat).length (newslice.drop (n : Int).toNat).length : Nat) : Int)))
  else
    some (.inr newslice)

def p_slices_Repeat_api_Cell (x : List T_api_Cell) (count : Int) : Option (List T_api_Cell) :=
  (
    if decide (count < 0) then
      none
    else
      some ()).bind fun _ =>
  ck (inK .u64 (x.length : Int)) <|
  ck (inK .u64 count) <|
  (p_bits_Mul (x.length : Int) count).bind fun (x1, x2) =>
  (
    if (decide (0 < x1)) || (decide (9223372036854775807 < x2)) then
      none
    else
      some ()).bind fun _ =>
  ck (inK .i64 x2) <|
  ck ((0 : Int) ≤ x2 ∧ x2 ≤ 1000000000) <|
  (loopF p_slices_Repeat_api_Cell.s0 big (x.take (List.replicate (x2 : Int).toNat (⟨⟨0, 0, 0, 0⟩, ⟨0, 0, 0, 0⟩⟩ : T_api_Cell)).length ++ (List.replicate (x2 : Int).toNat (⟨⟨0, 0, 0, 0⟩, ⟨0, 0, 0, 0⟩⟩ : T_api_Cell)).drop x.length, ((min x.length (List.replicate (x2 : Int).toNat (⟨⟨0, 0, 0, 0⟩, ⟨0, 0, 0, 0⟩⟩ : T_api_Cell)).length : Nat) : Int))).bind fun newslice1 =>
  some newslice1

/-! muntin/grid.New -/
def p_grid_New (n : Int) : Option ((Option T_grid_Grid) × Int) :=
  if decide (n < 0) then
    some (none, 2)
  else
    if decide (4096 < n) then
      some (none, 6)
    else
      (p_grid_empty ).bind fun x =>
      (p_slices_Repeat_api_Cell [x] n).bind fun x1 =>
      some (some (⟨x1⟩ : T_grid_Grid), 0)

/-! muntin/muntinref10.New -/
def p_muntinref10_New.s1 (v : Int) : (List T_api_Cell) × Int → Option (((List T_api_Cell) × Int) ⊕ (List T_api_Cell)) := fun (l2, d) =>
  if decide (d < 4) then
    ck ((0 : Int) ≤ v ∧ v < (l2.length : Int)) <|
    ck ((0 : Int) ≤ d ∧ d < 4) <|
    ck (in64 (d + 1)) <|
    some (.inl (l2.set (v : Int).toNat ({ gi l2 (v : Int).toNat with Next := ((gi l2 (v : Int).toNat).Next).set d (-1) }), d + 1))
  else
    some (.inr l2)

def p_muntinref10_New.s0 (n : Int) : (List T_api_Cell) × Int → Option (((List T_api_Cell) × Int) ⊕ (List T_api_Cell)) := fun (l, v) =>
  if decide (v < n) then
    (loopF (p_muntinref10_New.s1 v) big (l, 0)).bind fun l3 =>
    ck (in64 (v + 1)) <|
    some (.inl (l3, v + 1))
  else
    some (.inr l)

def p_muntinref10_New (n : Int) : Option (List T_api_Cell) :=
  ck ((0 : Int) ≤ n ∧ n ≤ 1000000000) <|
  (loopF (p_muntinref10_New.s0 n) big (List.replicate (n : Int).toNat (⟨⟨0, 0, 0, 0⟩, ⟨0, 0, 0, 0⟩⟩ : T_api_Cell), 0)).bind fun l1 =>
  some l1

/-! (*muntin/grid.Grid).Len -/
def p_grid_Grid_Len (g : T_grid_Grid) : Option Int :=
  some (g.cells.length : Int)

/-! muntin/compass.Good -/
def p_compass_Good (d : Int) : Option Bool :=
  some ((decide (0 ≤ d)) && (decide (d ≤ 3)))

/-! (*muntin/grid.Grid).is -/
def p_grid_Grid_is (g : T_grid_Grid) (v : Int) (d : Int) : Option Bool :=
  (if decide (0 ≤ v) then
    (p_grid_Grid_Len g).bind fun x =>
    some (decide (v < x))
  else
    some false).bind fun t =>
  (if t then
    (p_compass_Good d).bind fun x1 =>
    some x1
  else
    some false).bind fun t1 =>
  some t1

/-! muntin/compass.Left -/
def p_compass_Left (d : Int) (times : Int) : Option Int :=
  (p_compass_Good d).bind fun x =>
  if !x then
    some 0
  else
    ck (in64 (d + (times.tmod 4))) <|
    ck (in64 ((d + (times.tmod 4)) + 4)) <|
    some (((d + (times.tmod 4)) + 4).tmod 4)

/-! (*muntin/grid.Grid).lay -/
def p_grid_Grid_lay (g : T_grid_Grid) (v : Int) (d : Int) (w : Int) (owner : Int) : Option T_grid_Grid :=
  (p_compass_Left d 2).bind fun x =>
  ck ((0 : Int) ≤ v ∧ v < (g.cells.length : Int)) <|
  ck ((0 : Int) ≤ d ∧ d < 4) <|
  ck ((0 : Int) ≤ v ∧ v < ((g.cells.set (v : Int).toNat ({ gi g.cells (v : Int).toNat with Next := ((gi g.cells (v : Int).toNat).Next).set d w })).length : Int)) <|
  ck ((0 : Int) ≤ w ∧ w < (((g.cells.set (v : Int).toNat ({ gi g.cells (v : Int).toNat with Next := ((gi g.cells (v : Int).toNat).Next).set d w })).set (v : Int).toNat ({ gi (g.cells.set (v : Int).toNat ({ gi g.cells (v : Int).toNat with Next := ((gi g.cells (v : Int).toNat).Next).set d w })) (v : Int).toNat with Owner := ((gi (g.cells.set (v : Int).toNat ({ gi g.cells (v : Int).toNat with Next := ((gi g.cells (v : Int).toNat).Next).set d w })) (v : Int).toNat).Owner).set d owner })).length : Int)) <|
  ck ((0 : Int) ≤ x ∧ x < 4) <|
  ck ((0 : Int) ≤ w ∧ w < ((((g.cells.set (v : Int).toNat ({ gi g.cells (v : Int).toNat with Next := ((gi g.cells (v : Int).toNat).Next).set d w })).set (v : Int).toNat ({ gi (g.cells.set (v : Int).toNat ({ gi g.cells (v : Int).toNat with Next := ((gi g.cells (v : Int).toNat).Next).set d w })) (v : Int).toNat with Owner := ((gi (g.cells.set (v : Int).toNat ({ gi g.cells (v : Int).toNat with Next := ((gi g.cells (v : Int).toNat).Next).set d w })) (v : Int).toNat).Owner).set d owner })).set (w : Int).toNat ({ gi ((g.cells.set (v : Int).toNat ({ gi g.cells (v : Int).toNat with Next := ((gi g.cells (v : Int).toNat).Next).set d w })).set (v : Int).toNat ({ gi (g.cells.set (v : Int).toNat ({ gi g.cells (v : Int).toNat with Next := ((gi g.cells (v : Int).toNat).Next).set d w })) (v : Int).toNat with Owner := ((gi (g.cells.set (v : Int).toNat ({ gi g.cells (v : Int).toNat with Next := ((gi g.cells (v : Int).toNat).Next).set d w })) (v : Int).toNat).Owner).set d owner })) (w : Int).toNat with Next := ((gi ((g.cells.set (v : Int).toNat ({ gi g.cells (v : Int).toNat with Next := ((gi g.cells (v : Int).toNat).Next).set d w })).set (v : Int).toNat ({ gi (g.cells.set (v : Int).toNat ({ gi g.cells (v : Int).toNat with Next := ((gi g.cells (v : Int).toNat).Next).set d w })) (v : Int).toNat with Owner := ((gi (g.cells.set (v : Int).toNat ({ gi g.cells (v : Int).toNat with Next := ((gi g.cells (v : Int).toNat).Next).set d w })) (v : Int).toNat).Owner).set d owner })) (w : Int).toNat).Next).set x v })).length : Int)) <|
  some (⟨(((g.cells.set (v : Int).toNat ({ gi g.cells (v : Int).toNat with Next := ((gi g.cells (v : Int).toNat).Next).set d w })).set (v : Int).toNat ({ gi (g.cells.set (v : Int).toNat ({ gi g.cells (v : Int).toNat with Next := ((gi g.cells (v : Int).toNat).Next).set d w })) (v : Int).toNat with Owner := ((gi (g.cells.set (v : Int).toNat ({ gi g.cells (v : Int).toNat with Next := ((gi g.cells (v : Int).toNat).Next).set d w })) (v : Int).toNat).Owner).set d owner })).set (w : Int).toNat ({ gi ((g.cells.set (v : Int).toNat ({ gi g.cells (v : Int).toNat with Next := ((gi g.cells (v : Int).toNat).Next).set d w })).set (v : Int).toNat ({ gi (g.cells.set (v : Int).toNat ({ gi g.cells (v : Int).toNat with Next := ((gi g.cells (v : Int).toNat).Next).set d w })) (v : Int).toNat with Owner := ((gi (g.cells.set (v : Int).toNat ({ gi g.cells (v : Int).toNat with Next := ((gi g.cells (v : Int).toNat).Next).set d w })) (v : Int).toNat).Owner).set d owner })) (w : Int).toNat with Next := ((gi ((g.cells.set (v : Int).toNat ({ gi g.cells (v : Int).toNat with Next := ((gi g.cells (v : Int).toNat).Next).set d w })).set (v : Int).toNat ({ gi (g.cells.set (v : Int).toNat ({ gi g.cells (v : Int).toNat with Next := ((gi g.cells (v : Int).toNat).Next).set d w })) (v : Int).toNat with Owner := ((gi (g.cells.set (v : Int).toNat ({ gi g.cells (v : Int).toNat with Next := ((gi g.cells (v : Int).toNat).Next).set d w })) (v : Int).toNat).Owner).set d owner })) (w : Int).toNat).Next).set x v })).set (w : Int).toNat ({ gi (((g.cells.set (v : Int).toNat ({ gi g.cells (v : Int).toNat with Next := ((gi g.cells (v : Int).toNat).Next).set d w })).set (v : Int).toNat ({ gi (g.cells.set (v : Int).toNat ({ gi g.cells (v : Int).toNat with Next := ((gi g.cells (v : Int).toNat).Next).set d w })) (v : Int).toNat with Owner := ((gi (g.cells.set (v : Int).toNat ({ gi g.cells (v : Int).toNat with Next := ((gi g.cells (v : Int).toNat).Next).set d w })) (v : Int).toNat).Owner).set d owner })).set (w : Int).toNat ({ gi ((g.cells.set (v : Int).toNat ({ gi g.cells (v : Int).toNat with Next := ((gi g.cells (v : Int).toNat).Next).set d w })).set (v : Int).toNat ({ gi (g.cells.set (v : Int).toNat ({ gi g.cells (v : Int).toNat with Next := ((gi g.cells (v : Int).toNat).Next).set d w })) (v : Int).toNat with Owner := ((gi (g.cells.set (v : Int).toNat ({ gi g.cells (v : Int).toNat with Next := ((gi g.cells (v : Int).toNat).Next).set d w })) (v : Int).toNat).Owner).set d owner })) (w : Int).toNat with Next := ((gi ((g.cells.set (v : Int).toNat ({ gi g.cells (v : Int).toNat with Next := ((gi g.cells (v : Int).toNat).Next).set d w })).set (v : Int).toNat ({ gi (g.cells.set (v : Int).toNat ({ gi g.cells (v : Int).toNat with Next := ((gi g.cells (v : Int).toNat).Next).set d w })) (v : Int).toNat with Owner := ((gi (g.cells.set (v : Int).toNat ({ gi g.cells (v : Int).toNat with Next := ((gi g.cells (v : Int).toNat).Next).set d w })) (v : Int).toNat).Owner).set d owner })) (w : Int).toNat).Next).set x v })) (w : Int).toNat with Owner := ((gi (((g.cells.set (v : Int).toNat ({ gi g.cells (v : Int).toNat with Next := ((gi g.cells (v : Int).toNat).Next).set d w })).set (v : Int).toNat ({ gi (g.cells.set (v : Int).toNat ({ gi g.cells (v : Int).toNat with Next := ((gi g.cells (v : Int).toNat).Next).set d w })) (v : Int).toNat with Owner := ((gi (g.cells.set (v : Int).toNat ({ gi g.cells (v : Int).toNat with Next := ((gi g.cells (v : Int).toNat).Next).set d w })) (v : Int).toNat).Owner).set d owner })).set (w : Int).toNat ({ gi ((g.cells.set (v : Int).toNat ({ gi g.cells (v : Int).toNat with Next := ((gi g.cells (v : Int).toNat).Next).set d w })).set (v : Int).toNat ({ gi (g.cells.set (v : Int).toNat ({ gi g.cells (v : Int).toNat with Next := ((gi g.cells (v : Int).toNat).Next).set d w })) (v : Int).toNat with Owner := ((gi (g.cells.set (v : Int).toNat ({ gi g.cells (v : Int).toNat with Next := ((gi g.cells (v : Int).toNat).Next).set d w })) (v : Int).toNat).Owner).set d owner })) (w : Int).toNat with Next := ((gi ((g.cells.set (v : Int).toNat ({ gi g.cells (v : Int).toNat with Next := ((gi g.cells (v : Int).toNat).Next).set d w })).set (v : Int).toNat ({ gi (g.cells.set (v : Int).toNat ({ gi g.cells (v : Int).toNat with Next := ((gi g.cells (v : Int).toNat).Next).set d w })) (v : Int).toNat with Owner := ((gi (g.cells.set (v : Int).toNat ({ gi g.cells (v : Int).toNat with Next := ((gi g.cells (v : Int).toNat).Next).set d w })) (v : Int).toNat).Owner).set d owner })) (w : Int).toNat).Next).set x v })) (w : Int).toNat).Owner).set x owner })⟩ : T_grid_Grid)

/-! (*muntin/grid.Grid).Join -/
def p_grid_Grid_Join (g : T_grid_Grid) (v : Int) (d : Int) (w : Int) (owner : Int) : Option (Int × T_grid_Grid) :=
  (p_grid_Grid_is g v d).bind fun x =>
  (if !x then
    some true
  else
    (p_grid_Grid_is g w d).bind fun x1 =>
    some (!x1)).bind fun t =>
  if (t || (decide (v = w))) || (decide (owner < (-2))) then
    some (2, g)
  else
    (
      ck ((0 : Int) ≤ v ∧ v < (g.cells.length : Int)) <|
      ck ((0 : Int) ≤ d ∧ d < 4) <|
      if !(decide (((gi g.cells (v : Int).toNat).Next).get d = (-1))) then
        some true
      else
        (p_compass_Left d 2).bind fun x3 =>
        ck ((0 : Int) ≤ w ∧ w < (g.cells.length : Int)) <|
        ck ((0 : Int) ≤ x3 ∧ x3 < 4) <|
        some (!(decide (((gi g.cells (w : Int).toNat).Next).get x3 = (-1))))).bind fun x2 =>
    if x2 then
      some (9, g)
    else
      (p_grid_Grid_lay g v d w owner).bind fun m =>
      some (0, m)

/-! (*muntin/grid.Grid).Next -/
def p_grid_Grid_Next (g : T_grid_Grid) (v : Int) (d : Int) : Option (Int × Int × Bool) :=
  (p_grid_Grid_is g v d).bind fun x =>
  (if !x then
    some true
  else
    ck ((0 : Int) ≤ v ∧ v < (g.cells.length : Int)) <|
    ck ((0 : Int) ≤ d ∧ d < 4) <|
    some (decide (((gi g.cells (v : Int).toNat).Next).get d = (-1)))).bind fun t =>
  if t then
    some (0, 0, false)
  else
    ck ((0 : Int) ≤ v ∧ v < (g.cells.length : Int)) <|
    ck ((0 : Int) ≤ d ∧ d < 4) <|
    some (((gi g.cells (v : Int).toNat).Next).get d, ((gi g.cells (v : Int).toNat).Owner).get d, true)

/-! (*muntin/grid.Grid).Add -/
def p_grid_Grid_Add (g : T_grid_Grid) : Option (Int × Int × T_grid_Grid) :=
  (p_grid_Grid_Len g).bind fun x =>
  if decide (x = 4096) then
    some (0, 6, g)
  else
    (p_grid_empty ).bind fun x1 =>
    ck (g.cells.length + [x1].length ≤ 1000000000) <|
    (p_grid_Grid_Len (⟨g.cells ++ [x1]⟩ : T_grid_Grid)).bind fun x2 =>
    ck (in64 (x2 - 1)) <|
    some (x2 - 1, 0, (⟨g.cells ++ [x1]⟩ : T_grid_Grid))

/-! (*muntin/grid.Grid).Split -/
def p_grid_Grid_Split (g : T_grid_Grid) (v : Int) (d : Int) : Option (Int × Int × T_grid_Grid) :=
  (p_grid_Grid_is g v d).bind fun x =>
  if !x then
    some (0, 2, g)
  else
    (p_grid_Grid_Next g v d).bind fun (x1, x2, x3) =>
    if !x3 then
      some (0, 9, g)
    else
      (p_grid_Grid_Add g).bind fun (x4, x5, m) =>
      if !(decide (x5 = 0)) then
        some (0, x5, m)
      else
        (p_grid_Grid_lay m v d x4 x2).bind fun m1 =>
        (p_grid_Grid_lay m1 x4 d x1 x2).bind fun m2 =>
        some (x4, 0, m2)

/-! muntin/grid.side -/
def p_grid_side (cells : List T_api_Cell) (v : Int) (d : Int) : Option Int :=
  ck ((0 : Int) ≤ v ∧ v < (cells.length : Int)) <|
  ck ((0 : Int) ≤ d ∧ d < 4) <|
  if decide (((gi cells (v : Int).toNat).Next).get d = (-1)) then
    if !(decide (((gi cells (v : Int).toNat).Owner).get d = 0)) then
      some 9
    else
      some 0
  else
    if ((decide ((((gi cells (v : Int).toNat).Next).get d) < 0)) || (decide ((cells.length : Int) ≤ (((gi cells (v : Int).toNat).Next).get d)))) || (decide (((gi cells (v : Int).toNat).Next).get d = v)) then
      some 3
    else
      (p_compass_Left d 2).bind fun x =>
      ck ((0 : Int) ≤ (((gi cells (v : Int).toNat).Next).get d) ∧ (((gi cells (v : Int).toNat).Next).get d) < (cells.length : Int)) <|
      ck ((0 : Int) ≤ x ∧ x < 4) <|
      if ((!(decide (((gi cells (((gi cells (v : Int).toNat).Next).get d : Int).toNat).Next).get x = v))) || (!(decide (((gi cells (((gi cells (v : Int).toNat).Next).get d : Int).toNat).Owner).get x = ((gi cells (v : Int).toNat).Owner).get d)))) || (decide ((((gi cells (v : Int).toNat).Owner).get d) < (-2))) then
        some 9
      else
        some 0

/-! muntin/grid.Check -/
def p_grid_Check.s1 (cells : List T_api_Cell) (x : Int) : Int → Option (Int ⊕ (Unit ⊕ Int)) := fun x2 =>
  if decide (x2 < 4) then
    (p_grid_side cells x x2).bind fun x4 =>
    if !(decide (x4 = 0)) then
      some (.inr (.inr x4))
    else
      ck (in64 (x2 + 1)) <|
      some (.inl (x2 + 1))
  else
    some (.inr (.inl ()))

def p_grid_Check.s0 (cells : List T_api_Cell) : Int → Option (Int ⊕ (Unit ⊕ Int)) := fun x =>
  if decide (x < (cells.length : Int)) then
    (
      loopF (p_grid_Check.s1 cells x) big 0 : Option (Unit ⊕ Int)).bind fun o₃ => match o₃ with
    | .inl _ =>
      ck (in64 (x + 1)) <|
      some (.inl (x + 1))
    | .inr x3 =>
      some (.inr (.inr x3))
  else
    some (.inr (.inl ()))

def p_grid_Check (cells : List T_api_Cell) : Option Int :=
  if decide (4096 < (cells.length : Int)) then
    some 6
  else
    (
      loopF (p_grid_Check.s0 cells) big 0 : Option (Unit ⊕ Int)).bind fun o₁ => match o₁ with
    | .inl _ =>
      some 0
    | .inr x1 =>
      some x1

/-! muntin/muntinlaw10.wakes -/
def p_muntinlaw10_wakes : Option Bool :=
  (p_grid_New 2).bind fun (x, x1) =>
  (x).bind fun g =>
  (p_grid_Grid_Join g 0 0 1 0).bind fun (x2, m) =>
  (p_grid_Grid_Split m 0 0).bind fun (x3, x4, m1) =>
  (p_grid_Grid_Next m1 2 0).bind fun (x5, x6, x7) =>
  (p_grid_New (-1)).bind fun (x8, x9) =>
  (if (((((((decide (x1 = 0)) && (decide (x2 = 0))) && (decide (x3 = 2))) && (decide (x4 = 0))) && (decide (x5 = 1))) && (decide (x6 = 0))) && x7) && (decide (x9 = 2)) then
    (p_grid_Check [(⟨(⟨0, 0, 0, 0⟩ : A4 Int), (⟨0, 0, 0, 0⟩ : A4 Int)⟩ : T_api_Cell)]).bind fun x10 =>
    some (decide (x10 = 3))
  else
    some false).bind fun t =>
  some t

/-! muntin/muntinref10.with -/
def p_muntinref10_with.s0 (l : List T_api_Cell) (v : Int) (d : Int) (w : Int) (o : Int) : (List T_api_Cell) × Int → Option (((List T_api_Cell) × Int) ⊕ (List T_api_Cell)) := fun (out, i) =>
  if decide (i < (l.length : Int)) then
    ck ((0 : Int) ≤ i ∧ i < (l.length : Int)) <|
    (
      if decide (i = v) then
        ck ((0 : Int) ≤ d ∧ d < 4) <|
        some ({ { gi l (i : Int).toNat with Next := ((gi l (i : Int).toNat).Next).set d w } with Owner := (({ gi l (i : Int).toNat with Next := ((gi l (i : Int).toNat).Next).set d w }).Owner).set d o })
      else
        some (gi l (i : Int).toNat)).bind fun c =>
    if decide (i = w) then
      ck (in64 (d + 2)) <|
      ck ((0 : Int) ≤ ((d + 2).tmod 4) ∧ ((d + 2).tmod 4) < 4) <|
      ck (out.length + [{ { c with Next := c.Next.set ((d + 2).tmod 4) v } with Owner := (({ c with Next := c.Next.set ((d + 2).tmod 4) v }).Owner).set ((d + 2).tmod 4) o }].length ≤ 1000000000) <|
      ck (in64 (i + 1)) <|
      some (.inl (out ++ [{ { c with Next := c.Next.set ((d + 2).tmod 4) v } with Owner := (({ c with Next := c.Next.set ((d + 2).tmod 4) v }).Owner).set ((d + 2).tmod 4) o }], i + 1))
    else
      ck (out.length + [c].length ≤ 1000000000) <|
      ck (in64 (i + 1)) <|
      some (.inl (out ++ [c], i + 1))
  else
    some (.inr out)

def p_muntinref10_with (l : List T_api_Cell) (v : Int) (d : Int) (w : Int) (o : Int) : Option (List T_api_Cell) :=
  (loopF (p_muntinref10_with.s0 l v d w o) big (([] : List T_api_Cell), 0)).bind fun out1 =>
  some out1

/-! muntin/muntinref10.Split -/
def p_muntinref10_Split (l : List T_api_Cell) (v : Int) (d : Int) : Option ((List T_api_Cell) × Int × Int) :=
  if (((decide (v < 0)) || (decide ((l.length : Int) ≤ v))) || (decide (d < 0))) || (decide (3 < d)) then
    some (l, 0, 2)
  else
    ck ((0 : Int) ≤ v ∧ v < (l.length : Int)) <|
    ck ((0 : Int) ≤ d ∧ d < 4) <|
    if decide (((gi l (v : Int).toNat).Next).get d = (-1)) then
      some (l, 0, 9)
    else
      if decide (4096 ≤ (l.length : Int)) then
        some (l, 0, 6)
      else
        (p_muntinref10_New 1).bind fun x =>
        (p_muntinref10_with l (-1) 0 (-1) 0).bind fun x1 =>
        ck ((0 : Int) ≤ 0 ∧ 0 < (x.length : Int)) <|
        ck (x1.length + [gi x (0 : Int).toNat].length ≤ 1000000000) <|
        (p_muntinref10_with (x1 ++ [gi x (0 : Int).toNat]) v d (l.length : Int) (((gi l (v : Int).toNat).Owner).get d)).bind fun x2 =>
        (p_muntinref10_with x2 (l.length : Int) d (((gi l (v : Int).toNat).Next).get d) (((gi l (v : Int).toNat).Owner).get d)).bind fun x3 =>
        some (x3, (l.length : Int), 0)

/-! slices.Clone[[]muntin/api.Cell,muntin/api.Cell] -/
def p_slices_Clone_api_Cell (s : List T_api_Cell) : Option (List T_api_Cell) :=
  ck (s.length ≤ 1000000000) <|
  some s
/-! muntin/muntinref10.Join -/
def p_muntinref10_Join (l : List T_api_Cell) (v : Int) (d : Int) (w : Int) (o : Int) : Option ((List T_api_Cell) × Int) :=
  if (((((((decide (v < 0)) || (decide ((l.length : Int) ≤ v))) || (decide (w < 0))) || (decide ((l.length : Int) ≤ w))) || (decide (v = w))) || (decide (d < 0))) || (decide (3 < d))) || (decide (o < (-2))) then
    some (l, 2)
  else
    ck ((0 : Int) ≤ v ∧ v < (l.length : Int)) <|
    ck ((0 : Int) ≤ d ∧ d < 4) <|
    (if !(decide (((gi l (v : Int).toNat).Next).get d = (-1))) then
      some true
    else
      ck (in64 (d + 2)) <|
      ck ((0 : Int) ≤ w ∧ w < (l.length : Int)) <|
      ck ((0 : Int) ≤ ((d + 2).tmod 4) ∧ ((d + 2).tmod 4) < 4) <|
      some (!(decide (((gi l (w : Int).toNat).Next).get ((d + 2).tmod 4) = (-1))))).bind fun t =>
    if t then
      some (l, 9)
    else
      (p_muntinref10_with l v d w o).bind fun x =>
      some (x, 0)

/-! (*muntin/grid.Grid).Cells -/
def p_grid_Grid_Cells (g : T_grid_Grid) : Option (List T_api_Cell) :=
  (p_slices_Clone_api_Cell g.cells).bind fun x =>
  some x

/-! muntin/muntinref10.Same -/
def p_muntinref10_Same.s0 (a : List T_api_Cell) (b : List T_api_Cell) : Int → Option (Int ⊕ (Unit ⊕ Unit)) := fun i =>
  if decide (i < (a.length : Int)) then
    ck ((0 : Int) ≤ i ∧ i < (a.length : Int)) <|
    ck ((0 : Int) ≤ i ∧ i < (b.length : Int)) <|
    if !(decide (gi a (i : Int).toNat = gi b (i : Int).toNat)) then
      some (.inr (.inr ()))
    else
      ck (in64 (i + 1)) <|
      some (.inl (i + 1))
  else
    some (.inr (.inl ()))

def p_muntinref10_Same (a : List T_api_Cell) (b : List T_api_Cell) : Option Bool :=
  if !(decide ((a.length : Int) = (b.length : Int))) then
    some false
  else
    (
      loopF (p_muntinref10_Same.s0 a b) big 0 : Option (Unit ⊕ Unit)).bind fun o₁ => match o₁ with
    | .inl _ =>
      some true
    | .inr _ =>
      some false

/-! muntin/muntinlaw10.GridPlays -/
def p_muntinlaw10_GridPlays.s1 (acts : List T_muntinlaw10_Act) (x4 : Int) : (List T_api_Cell) × (List T_api_Cell) × Int → Option (((List T_api_Cell) × (List T_api_Cell) × Int) ⊕ (((List T_api_Cell) × (List T_api_Cell)) ⊕ Unit)) := fun (g2, l1, x5) =>
  if decide (x5 < ([gi (acts.take (min (acts.length : Int) 40 : Int).toNat) (x4 : Int).toNat, (⟨(gi (acts.take (min (acts.length : Int) 40 : Int).toNat) (x4 : Int).toNat).Do, (max 0 ((gi (acts.take (min (acts.length : Int) 40 : Int).toNat) (x4 : Int).toNat).V)).tmod 10, (max 0 ((gi (acts.take (min (acts.length : Int) 40 : Int).toNat) (x4 : Int).toNat).D)).tmod 4, (max 0 ((gi (acts.take (min (acts.length : Int) 40 : Int).toNat) (x4 : Int).toNat).W)).tmod 10, max (-2) (((gi (acts.take (min (acts.length : Int) 40 : Int).toNat) (x4 : Int).toNat).Owner).tmod 5)⟩ : T_muntinlaw10_Act)].length : Int)) then
    ck ((0 : Int) ≤ x5 ∧ x5 < ([gi (acts.take (min (acts.length : Int) 40 : Int).toNat) (x4 : Int).toNat, (⟨(gi (acts.take (min (acts.length : Int) 40 : Int).toNat) (x4 : Int).toNat).Do, (max 0 ((gi (acts.take (min (acts.length : Int) 40 : Int).toNat) (x4 : Int).toNat).V)).tmod 10, (max 0 ((gi (acts.take (min (acts.length : Int) 40 : Int).toNat) (x4 : Int).toNat).D)).tmod 4, (max 0 ((gi (acts.take (min (acts.length : Int) 40 : Int).toNat) (x4 : Int).toNat).W)).tmod 10, max (-2) (((gi (acts.take (min (acts.length : Int) 40 : Int).toNat) (x4 : Int).toNat).Owner).tmod 5)⟩ : T_muntinlaw10_Act)].length : Int)) <|
    (
      if decide (((gi [gi (acts.take (min (acts.length : Int) 40 : Int).toNat) (x4 : Int).toNat, (⟨(gi (acts.take (min (acts.length : Int) 40 : Int).toNat) (x4 : Int).toNat).Do, (max 0 ((gi (acts.take (min (acts.length : Int) 40 : Int).toNat) (x4 : Int).toNat).V)).tmod 10, (max 0 ((gi (acts.take (min (acts.length : Int) 40 : Int).toNat) (x4 : Int).toNat).D)).tmod 4, (max 0 ((gi (acts.take (min (acts.length : Int) 40 : Int).toNat) (x4 : Int).toNat).W)).tmod 10, max (-2) (((gi (acts.take (min (acts.length : Int) 40 : Int).toNat) (x4 : Int).toNat).Owner).tmod 5)⟩ : T_muntinlaw10_Act)] (x5 : Int).toNat).Do).tmod 4 = 2) then
        (p_grid_Grid_Split (⟨g2⟩ : T_grid_Grid) ((gi [gi (acts.take (min (acts.length : Int) 40 : Int).toNat) (x4 : Int).toNat, (⟨(gi (acts.take (min (acts.length : Int) 40 : Int).toNat) (x4 : Int).toNat).Do, (max 0 ((gi (acts.take (min (acts.length : Int) 40 : Int).toNat) (x4 : Int).toNat).V)).tmod 10, (max 0 ((gi (acts.take (min (acts.length : Int) 40 : Int).toNat) (x4 : Int).toNat).D)).tmod 4, (max 0 ((gi (acts.take (min (acts.length : Int) 40 : Int).toNat) (x4 : Int).toNat).W)).tmod 10, max (-2) (((gi (acts.take (min (acts.length : Int) 40 : Int).toNat) (x4 : Int).toNat).Owner).tmod 5)⟩ : T_muntinlaw10_Act)] (x5 : Int).toNat).V) ((gi [gi (acts.take (min (acts.length : Int) 40 : Int).toNat) (x4 : Int).toNat, (⟨(gi (acts.take (min (acts.length : Int) 40 : Int).toNat) (x4 : Int).toNat).Do, (max 0 ((gi (acts.take (min (acts.length : Int) 40 : Int).toNat) (x4 : Int).toNat).V)).tmod 10, (max 0 ((gi (acts.take (min (acts.length : Int) 40 : Int).toNat) (x4 : Int).toNat).D)).tmod 4, (max 0 ((gi (acts.take (min (acts.length : Int) 40 : Int).toNat) (x4 : Int).toNat).W)).tmod 10, max (-2) (((gi (acts.take (min (acts.length : Int) 40 : Int).toNat) (x4 : Int).toNat).Owner).tmod 5)⟩ : T_muntinlaw10_Act)] (x5 : Int).toNat).D)).bind fun (x6, x7, m) =>
        (p_muntinref10_Split l1 ((gi [gi (acts.take (min (acts.length : Int) 40 : Int).toNat) (x4 : Int).toNat, (⟨(gi (acts.take (min (acts.length : Int) 40 : Int).toNat) (x4 : Int).toNat).Do, (max 0 ((gi (acts.take (min (acts.length : Int) 40 : Int).toNat) (x4 : Int).toNat).V)).tmod 10, (max 0 ((gi (acts.take (min (acts.length : Int) 40 : Int).toNat) (x4 : Int).toNat).D)).tmod 4, (max 0 ((gi (acts.take (min (acts.length : Int) 40 : Int).toNat) (x4 : Int).toNat).W)).tmod 10, max (-2) (((gi (acts.take (min (acts.length : Int) 40 : Int).toNat) (x4 : Int).toNat).Owner).tmod 5)⟩ : T_muntinlaw10_Act)] (x5 : Int).toNat).V) ((gi [gi (acts.take (min (acts.length : Int) 40 : Int).toNat) (x4 : Int).toNat, (⟨(gi (acts.take (min (acts.length : Int) 40 : Int).toNat) (x4 : Int).toNat).Do, (max 0 ((gi (acts.take (min (acts.length : Int) 40 : Int).toNat) (x4 : Int).toNat).V)).tmod 10, (max 0 ((gi (acts.take (min (acts.length : Int) 40 : Int).toNat) (x4 : Int).toNat).D)).tmod 4, (max 0 ((gi (acts.take (min (acts.length : Int) 40 : Int).toNat) (x4 : Int).toNat).W)).tmod 10, max (-2) (((gi (acts.take (min (acts.length : Int) 40 : Int).toNat) (x4 : Int).toNat).Owner).tmod 5)⟩ : T_muntinlaw10_Act)] (x5 : Int).toNat).D)).bind fun (x8, x9, x10) =>
        if (!(decide (x6 = x9))) || (!(decide (x7 = x10))) then
          some (.inr (.inr ()))
        else
          some (.inl (m.cells, x8))
      else
        if decide (((gi [gi (acts.take (min (acts.length : Int) 40 : Int).toNat) (x4 : Int).toNat, (⟨(gi (acts.take (min (acts.length : Int) 40 : Int).toNat) (x4 : Int).toNat).Do, (max 0 ((gi (acts.take (min (acts.length : Int) 40 : Int).toNat) (x4 : Int).toNat).V)).tmod 10, (max 0 ((gi (acts.take (min (acts.length : Int) 40 : Int).toNat) (x4 : Int).toNat).D)).tmod 4, (max 0 ((gi (acts.take (min (acts.length : Int) 40 : Int).toNat) (x4 : Int).toNat).W)).tmod 10, max (-2) (((gi (acts.take (min (acts.length : Int) 40 : Int).toNat) (x4 : Int).toNat).Owner).tmod 5)⟩ : T_muntinlaw10_Act)] (x5 : Int).toNat).Do).tmod 4 = 3) then
          if decide (30 < (l1.length : Int)) then
            some (.inr (.inl ()))
          else
            (p_grid_Grid_Add (⟨g2⟩ : T_grid_Grid)).bind fun (x11, x12, m1) =>
            if (!(decide (x11 = (l1.length : Int)))) || (!(decide (x12 = 0))) then
              some (.inr (.inr ()))
            else
              (p_slices_Clone_api_Cell l1).bind fun x13 =>
              (p_muntinref10_New 1).bind fun x14 =>
              ck (x13.length + x14.length ≤ 1000000000) <|
              some (.inl (m1.cells, x13 ++ x14))
        else
          (p_grid_Grid_Join (⟨g2⟩ : T_grid_Grid) ((gi [gi (acts.take (min (acts.length : Int) 40 : Int).toNat) (x4 : Int).toNat, (⟨(gi (acts.take (min (acts.length : Int) 40 : Int).toNat) (x4 : Int).toNat).Do, (max 0 ((gi (acts.take (min (acts.length : Int) 40 : Int).toNat) (x4 : Int).toNat).V)).tmod 10, (max 0 ((gi (acts.take (min (acts.length : Int) 40 : Int).toNat) (x4 : Int).toNat).D)).tmod 4, (max 0 ((gi (acts.take (min (acts.length : Int) 40 : Int).toNat) (x4 : Int).toNat).W)).tmod 10, max (-2) (((gi (acts.take (min (acts.length : Int) 40 : Int).toNat) (x4 : Int).toNat).Owner).tmod 5)⟩ : T_muntinlaw10_Act)] (x5 : Int).toNat).V) ((gi [gi (acts.take (min (acts.length : Int) 40 : Int).toNat) (x4 : Int).toNat, (⟨(gi (acts.take (min (acts.length : Int) 40 : Int).toNat) (x4 : Int).toNat).Do, (max 0 ((gi (acts.take (min (acts.length : Int) 40 : Int).toNat) (x4 : Int).toNat).V)).tmod 10, (max 0 ((gi (acts.take (min (acts.length : Int) 40 : Int).toNat) (x4 : Int).toNat).D)).tmod 4, (max 0 ((gi (acts.take (min (acts.length : Int) 40 : Int).toNat) (x4 : Int).toNat).W)).tmod 10, max (-2) (((gi (acts.take (min (acts.length : Int) 40 : Int).toNat) (x4 : Int).toNat).Owner).tmod 5)⟩ : T_muntinlaw10_Act)] (x5 : Int).toNat).D) ((gi [gi (acts.take (min (acts.length : Int) 40 : Int).toNat) (x4 : Int).toNat, (⟨(gi (acts.take (min (acts.length : Int) 40 : Int).toNat) (x4 : Int).toNat).Do, (max 0 ((gi (acts.take (min (acts.length : Int) 40 : Int).toNat) (x4 : Int).toNat).V)).tmod 10, (max 0 ((gi (acts.take (min (acts.length : Int) 40 : Int).toNat) (x4 : Int).toNat).D)).tmod 4, (max 0 ((gi (acts.take (min (acts.length : Int) 40 : Int).toNat) (x4 : Int).toNat).W)).tmod 10, max (-2) (((gi (acts.take (min (acts.length : Int) 40 : Int).toNat) (x4 : Int).toNat).Owner).tmod 5)⟩ : T_muntinlaw10_Act)] (x5 : Int).toNat).W) ((gi [gi (acts.take (min (acts.length : Int) 40 : Int).toNat) (x4 : Int).toNat, (⟨(gi (acts.take (min (acts.length : Int) 40 : Int).toNat) (x4 : Int).toNat).Do, (max 0 ((gi (acts.take (min (acts.length : Int) 40 : Int).toNat) (x4 : Int).toNat).V)).tmod 10, (max 0 ((gi (acts.take (min (acts.length : Int) 40 : Int).toNat) (x4 : Int).toNat).D)).tmod 4, (max 0 ((gi (acts.take (min (acts.length : Int) 40 : Int).toNat) (x4 : Int).toNat).W)).tmod 10, max (-2) (((gi (acts.take (min (acts.length : Int) 40 : Int).toNat) (x4 : Int).toNat).Owner).tmod 5)⟩ : T_muntinlaw10_Act)] (x5 : Int).toNat).Owner)).bind fun (x15, m2) =>
          (p_muntinref10_Join l1 ((gi [gi (acts.take (min (acts.length : Int) 40 : Int).toNat) (x4 : Int).toNat, (⟨(gi (acts.take (min (acts.length : Int) 40 : Int).toNat) (x4 : Int).toNat).Do, (max 0 ((gi (acts.take (min (acts.length : Int) 40 : Int).toNat) (x4 : Int).toNat).V)).tmod 10, (max 0 ((gi (acts.take (min (acts.length : Int) 40 : Int).toNat) (x4 : Int).toNat).D)).tmod 4, (max 0 ((gi (acts.take (min (acts.length : Int) 40 : Int).toNat) (x4 : Int).toNat).W)).tmod 10, max (-2) (((gi (acts.take (min (acts.length : Int) 40 : Int).toNat) (x4 : Int).toNat).Owner).tmod 5)⟩ : T_muntinlaw10_Act)] (x5 : Int).toNat).V) ((gi [gi (acts.take (min (acts.length : Int) 40 : Int).toNat) (x4 : Int).toNat, (⟨(gi (acts.take (min (acts.length : Int) 40 : Int).toNat) (x4 : Int).toNat).Do, (max 0 ((gi (acts.take (min (acts.length : Int) 40 : Int).toNat) (x4 : Int).toNat).V)).tmod 10, (max 0 ((gi (acts.take (min (acts.length : Int) 40 : Int).toNat) (x4 : Int).toNat).D)).tmod 4, (max 0 ((gi (acts.take (min (acts.length : Int) 40 : Int).toNat) (x4 : Int).toNat).W)).tmod 10, max (-2) (((gi (acts.take (min (acts.length : Int) 40 : Int).toNat) (x4 : Int).toNat).Owner).tmod 5)⟩ : T_muntinlaw10_Act)] (x5 : Int).toNat).D) ((gi [gi (acts.take (min (acts.length : Int) 40 : Int).toNat) (x4 : Int).toNat, (⟨(gi (acts.take (min (acts.length : Int) 40 : Int).toNat) (x4 : Int).toNat).Do, (max 0 ((gi (acts.take (min (acts.length : Int) 40 : Int).toNat) (x4 : Int).toNat).V)).tmod 10, (max 0 ((gi (acts.take (min (acts.length : Int) 40 : Int).toNat) (x4 : Int).toNat).D)).tmod 4, (max 0 ((gi (acts.take (min (acts.length : Int) 40 : Int).toNat) (x4 : Int).toNat).W)).tmod 10, max (-2) (((gi (acts.take (min (acts.length : Int) 40 : Int).toNat) (x4 : Int).toNat).Owner).tmod 5)⟩ : T_muntinlaw10_Act)] (x5 : Int).toNat).W) ((gi [gi (acts.take (min (acts.length : Int) 40 : Int).toNat) (x4 : Int).toNat, (⟨(gi (acts.take (min (acts.length : Int) 40 : Int).toNat) (x4 : Int).toNat).Do, (max 0 ((gi (acts.take (min (acts.length : Int) 40 : Int).toNat) (x4 : Int).toNat).V)).tmod 10, (max 0 ((gi (acts.take (min (acts.length : Int) 40 : Int).toNat) (x4 : Int).toNat).D)).tmod 4, (max 0 ((gi (acts.take (min (acts.length : Int) 40 : Int).toNat) (x4 : Int).toNat).W)).tmod 10, max (-2) (((gi (acts.take (min (acts.length : Int) 40 : Int).toNat) (x4 : Int).toNat).Owner).tmod 5)⟩ : T_muntinlaw10_Act)] (x5 : Int).toNat).Owner)).bind fun (x16, x17) =>
          if !(decide (x15 = x17)) then
            some (.inr (.inr ()))
          else
            some (.inl (m2.cells, x16)) : Option (((List T_api_Cell) × (List T_api_Cell)) ⊕ Unit ⊕ Unit)).bind fun o₅ => match o₅ with
    | .inl (g4, l3) =>
      (p_grid_Grid_Next (⟨g4⟩ : T_grid_Grid) ((gi [gi (acts.take (min (acts.length : Int) 40 : Int).toNat) (x4 : Int).toNat, (⟨(gi (acts.take (min (acts.length : Int) 40 : Int).toNat) (x4 : Int).toNat).Do, (max 0 ((gi (acts.take (min (acts.length : Int) 40 : Int).toNat) (x4 : Int).toNat).V)).tmod 10, (max 0 ((gi (acts.take (min (acts.length : Int) 40 : Int).toNat) (x4 : Int).toNat).D)).tmod 4, (max 0 ((gi (acts.take (min (acts.length : Int) 40 : Int).toNat) (x4 : Int).toNat).W)).tmod 10, max (-2) (((gi (acts.take (min (acts.length : Int) 40 : Int).toNat) (x4 : Int).toNat).Owner).tmod 5)⟩ : T_muntinlaw10_Act)] (x5 : Int).toNat).V) ((gi [gi (acts.take (min (acts.length : Int) 40 : Int).toNat) (x4 : Int).toNat, (⟨(gi (acts.take (min (acts.length : Int) 40 : Int).toNat) (x4 : Int).toNat).Do, (max 0 ((gi (acts.take (min (acts.length : Int) 40 : Int).toNat) (x4 : Int).toNat).V)).tmod 10, (max 0 ((gi (acts.take (min (acts.length : Int) 40 : Int).toNat) (x4 : Int).toNat).D)).tmod 4, (max 0 ((gi (acts.take (min (acts.length : Int) 40 : Int).toNat) (x4 : Int).toNat).W)).tmod 10, max (-2) (((gi (acts.take (min (acts.length : Int) 40 : Int).toNat) (x4 : Int).toNat).Owner).tmod 5)⟩ : T_muntinlaw10_Act)] (x5 : Int).toNat).D)).bind fun (x18, x19, x20) =>
      (if (((decide (0 ≤ ((gi [gi (acts.take (min (acts.length : Int) 40 : Int).toNat) (x4 : Int).toNat, (⟨(gi (acts.take (min (acts.length : Int) 40 : Int).toNat) (x4 : Int).toNat).Do, (max 0 ((gi (acts.take (min (acts.length : Int) 40 : Int).toNat) (x4 : Int).toNat).V)).tmod 10, (max 0 ((gi (acts.take (min (acts.length : Int) 40 : Int).toNat) (x4 : Int).toNat).D)).tmod 4, (max 0 ((gi (acts.take (min (acts.length : Int) 40 : Int).toNat) (x4 : Int).toNat).W)).tmod 10, max (-2) (((gi (acts.take (min (acts.length : Int) 40 : Int).toNat) (x4 : Int).toNat).Owner).tmod 5)⟩ : T_muntinlaw10_Act)] (x5 : Int).toNat).V))) && (decide (((gi [gi (acts.take (min (acts.length : Int) 40 : Int).toNat) (x4 : Int).toNat, (⟨(gi (acts.take (min (acts.length : Int) 40 : Int).toNat) (x4 : Int).toNat).Do, (max 0 ((gi (acts.take (min (acts.length : Int) 40 : Int).toNat) (x4 : Int).toNat).V)).tmod 10, (max 0 ((gi (acts.take (min (acts.length : Int) 40 : Int).toNat) (x4 : Int).toNat).D)).tmod 4, (max 0 ((gi (acts.take (min (acts.length : Int) 40 : Int).toNat) (x4 : Int).toNat).W)).tmod 10, max (-2) (((gi (acts.take (min (acts.length : Int) 40 : Int).toNat) (x4 : Int).toNat).Owner).tmod 5)⟩ : T_muntinlaw10_Act)] (x5 : Int).toNat).V) < (l3.length : Int)))) && (decide (0 ≤ ((gi [gi (acts.take (min (acts.length : Int) 40 : Int).toNat) (x4 : Int).toNat, (⟨(gi (acts.take (min (acts.length : Int) 40 : Int).toNat) (x4 : Int).toNat).Do, (max 0 ((gi (acts.take (min (acts.length : Int) 40 : Int).toNat) (x4 : Int).toNat).V)).tmod 10, (max 0 ((gi (acts.take (min (acts.length : Int) 40 : Int).toNat) (x4 : Int).toNat).D)).tmod 4, (max 0 ((gi (acts.take (min (acts.length : Int) 40 : Int).toNat) (x4 : Int).toNat).W)).tmod 10, max (-2) (((gi (acts.take (min (acts.length : Int) 40 : Int).toNat) (x4 : Int).toNat).Owner).tmod 5)⟩ : T_muntinlaw10_Act)] (x5 : Int).toNat).D)))) && (decide (((gi [gi (acts.take (min (acts.length : Int) 40 : Int).toNat) (x4 : Int).toNat, (⟨(gi (acts.take (min (acts.length : Int) 40 : Int).toNat) (x4 : Int).toNat).Do, (max 0 ((gi (acts.take (min (acts.length : Int) 40 : Int).toNat) (x4 : Int).toNat).V)).tmod 10, (max 0 ((gi (acts.take (min (acts.length : Int) 40 : Int).toNat) (x4 : Int).toNat).D)).tmod 4, (max 0 ((gi (acts.take (min (acts.length : Int) 40 : Int).toNat) (x4 : Int).toNat).W)).tmod 10, max (-2) (((gi (acts.take (min (acts.length : Int) 40 : Int).toNat) (x4 : Int).toNat).Owner).tmod 5)⟩ : T_muntinlaw10_Act)] (x5 : Int).toNat).D) < 4)) then
        ck ((0 : Int) ≤ (max 0 ((gi [gi (acts.take (min (acts.length : Int) 40 : Int).toNat) (x4 : Int).toNat, (⟨(gi (acts.take (min (acts.length : Int) 40 : Int).toNat) (x4 : Int).toNat).Do, (max 0 ((gi (acts.take (min (acts.length : Int) 40 : Int).toNat) (x4 : Int).toNat).V)).tmod 10, (max 0 ((gi (acts.take (min (acts.length : Int) 40 : Int).toNat) (x4 : Int).toNat).D)).tmod 4, (max 0 ((gi (acts.take (min (acts.length : Int) 40 : Int).toNat) (x4 : Int).toNat).W)).tmod 10, max (-2) (((gi (acts.take (min (acts.length : Int) 40 : Int).toNat) (x4 : Int).toNat).Owner).tmod 5)⟩ : T_muntinlaw10_Act)] (x5 : Int).toNat).V)) ∧ (max 0 ((gi [gi (acts.take (min (acts.length : Int) 40 : Int).toNat) (x4 : Int).toNat, (⟨(gi (acts.take (min (acts.length : Int) 40 : Int).toNat) (x4 : Int).toNat).Do, (max 0 ((gi (acts.take (min (acts.length : Int) 40 : Int).toNat) (x4 : Int).toNat).V)).tmod 10, (max 0 ((gi (acts.take (min (acts.length : Int) 40 : Int).toNat) (x4 : Int).toNat).D)).tmod 4, (max 0 ((gi (acts.take (min (acts.length : Int) 40 : Int).toNat) (x4 : Int).toNat).W)).tmod 10, max (-2) (((gi (acts.take (min (acts.length : Int) 40 : Int).toNat) (x4 : Int).toNat).Owner).tmod 5)⟩ : T_muntinlaw10_Act)] (x5 : Int).toNat).V)) < (l3.length : Int)) <|
        ck ((0 : Int) ≤ ((max 0 ((gi [gi (acts.take (min (acts.length : Int) 40 : Int).toNat) (x4 : Int).toNat, (⟨(gi (acts.take (min (acts.length : Int) 40 : Int).toNat) (x4 : Int).toNat).Do, (max 0 ((gi (acts.take (min (acts.length : Int) 40 : Int).toNat) (x4 : Int).toNat).V)).tmod 10, (max 0 ((gi (acts.take (min (acts.length : Int) 40 : Int).toNat) (x4 : Int).toNat).D)).tmod 4, (max 0 ((gi (acts.take (min (acts.length : Int) 40 : Int).toNat) (x4 : Int).toNat).W)).tmod 10, max (-2) (((gi (acts.take (min (acts.length : Int) 40 : Int).toNat) (x4 : Int).toNat).Owner).tmod 5)⟩ : T_muntinlaw10_Act)] (x5 : Int).toNat).D)).tmod 4) ∧ ((max 0 ((gi [gi (acts.take (min (acts.length : Int) 40 : Int).toNat) (x4 : Int).toNat, (⟨(gi (acts.take (min (acts.length : Int) 40 : Int).toNat) (x4 : Int).toNat).Do, (max 0 ((gi (acts.take (min (acts.length : Int) 40 : Int).toNat) (x4 : Int).toNat).V)).tmod 10, (max 0 ((gi (acts.take (min (acts.length : Int) 40 : Int).toNat) (x4 : Int).toNat).D)).tmod 4, (max 0 ((gi (acts.take (min (acts.length : Int) 40 : Int).toNat) (x4 : Int).toNat).W)).tmod 10, max (-2) (((gi (acts.take (min (acts.length : Int) 40 : Int).toNat) (x4 : Int).toNat).Owner).tmod 5)⟩ : T_muntinlaw10_Act)] (x5 : Int).toNat).D)).tmod 4) < 4) <|
        some (decide (0 ≤ (((gi l3 (max 0 ((gi [gi (acts.take (min (acts.length : Int) 40 : Int).toNat) (x4 : Int).toNat, (⟨(gi (acts.take (min (acts.length : Int) 40 : Int).toNat) (x4 : Int).toNat).Do, (max 0 ((gi (acts.take (min (acts.length : Int) 40 : Int).toNat) (x4 : Int).toNat).V)).tmod 10, (max 0 ((gi (acts.take (min (acts.length : Int) 40 : Int).toNat) (x4 : Int).toNat).D)).tmod 4, (max 0 ((gi (acts.take (min (acts.length : Int) 40 : Int).toNat) (x4 : Int).toNat).W)).tmod 10, max (-2) (((gi (acts.take (min (acts.length : Int) 40 : Int).toNat) (x4 : Int).toNat).Owner).tmod 5)⟩ : T_muntinlaw10_Act)] (x5 : Int).toNat).V) : Int).toNat).Next).get ((max 0 ((gi [gi (acts.take (min (acts.length : Int) 40 : Int).toNat) (x4 : Int).toNat, (⟨(gi (acts.take (min (acts.length : Int) 40 : Int).toNat) (x4 : Int).toNat).Do, (max 0 ((gi (acts.take (min (acts.length : Int) 40 : Int).toNat) (x4 : Int).toNat).V)).tmod 10, (max 0 ((gi (acts.take (min (acts.length : Int) 40 : Int).toNat) (x4 : Int).toNat).D)).tmod 4, (max 0 ((gi (acts.take (min (acts.length : Int) 40 : Int).toNat) (x4 : Int).toNat).W)).tmod 10, max (-2) (((gi (acts.take (min (acts.length : Int) 40 : Int).toNat) (x4 : Int).toNat).Owner).tmod 5)⟩ : T_muntinlaw10_Act)] (x5 : Int).toNat).D)).tmod 4))))
      else
        some false).bind fun t =>
      (if !(decide (x20 = t)) then
        some true
      else
        (if x20 then
          ck ((0 : Int) ≤ ((gi [gi (acts.take (min (acts.length : Int) 40 : Int).toNat) (x4 : Int).toNat, (⟨(gi (acts.take (min (acts.length : Int) 40 : Int).toNat) (x4 : Int).toNat).Do, (max 0 ((gi (acts.take (min (acts.length : Int) 40 : Int).toNat) (x4 : Int).toNat).V)).tmod 10, (max 0 ((gi (acts.take (min (acts.length : Int) 40 : Int).toNat) (x4 : Int).toNat).D)).tmod 4, (max 0 ((gi (acts.take (min (acts.length : Int) 40 : Int).toNat) (x4 : Int).toNat).W)).tmod 10, max (-2) (((gi (acts.take (min (acts.length : Int) 40 : Int).toNat) (x4 : Int).toNat).Owner).tmod 5)⟩ : T_muntinlaw10_Act)] (x5 : Int).toNat).V) ∧ ((gi [gi (acts.take (min (acts.length : Int) 40 : Int).toNat) (x4 : Int).toNat, (⟨(gi (acts.take (min (acts.length : Int) 40 : Int).toNat) (x4 : Int).toNat).Do, (max 0 ((gi (acts.take (min (acts.length : Int) 40 : Int).toNat) (x4 : Int).toNat).V)).tmod 10, (max 0 ((gi (acts.take (min (acts.length : Int) 40 : Int).toNat) (x4 : Int).toNat).D)).tmod 4, (max 0 ((gi (acts.take (min (acts.length : Int) 40 : Int).toNat) (x4 : Int).toNat).W)).tmod 10, max (-2) (((gi (acts.take (min (acts.length : Int) 40 : Int).toNat) (x4 : Int).toNat).Owner).tmod 5)⟩ : T_muntinlaw10_Act)] (x5 : Int).toNat).V) < (l3.length : Int)) <|
          ck ((0 : Int) ≤ ((gi [gi (acts.take (min (acts.length : Int) 40 : Int).toNat) (x4 : Int).toNat, (⟨(gi (acts.take (min (acts.length : Int) 40 : Int).toNat) (x4 : Int).toNat).Do, (max 0 ((gi (acts.take (min (acts.length : Int) 40 : Int).toNat) (x4 : Int).toNat).V)).tmod 10, (max 0 ((gi (acts.take (min (acts.length : Int) 40 : Int).toNat) (x4 : Int).toNat).D)).tmod 4, (max 0 ((gi (acts.take (min (acts.length : Int) 40 : Int).toNat) (x4 : Int).toNat).W)).tmod 10, max (-2) (((gi (acts.take (min (acts.length : Int) 40 : Int).toNat) (x4 : Int).toNat).Owner).tmod 5)⟩ : T_muntinlaw10_Act)] (x5 : Int).toNat).D) ∧ ((gi [gi (acts.take (min (acts.length : Int) 40 : Int).toNat) (x4 : Int).toNat, (⟨(gi (acts.take (min (acts.length : Int) 40 : Int).toNat) (x4 : Int).toNat).Do, (max 0 ((gi (acts.take (min (acts.length : Int) 40 : Int).toNat) (x4 : Int).toNat).V)).tmod 10, (max 0 ((gi (acts.take (min (acts.length : Int) 40 : Int).toNat) (x4 : Int).toNat).D)).tmod 4, (max 0 ((gi (acts.take (min (acts.length : Int) 40 : Int).toNat) (x4 : Int).toNat).W)).tmod 10, max (-2) (((gi (acts.take (min (acts.length : Int) 40 : Int).toNat) (x4 : Int).toNat).Owner).tmod 5)⟩ : T_muntinlaw10_Act)] (x5 : Int).toNat).D) < 4) <|
          some ((!(decide (x18 = ((gi l3 ((gi [gi (acts.take (min (acts.length : Int) 40 : Int).toNat) (x4 : Int).toNat, (⟨(gi (acts.take (min (acts.length : Int) 40 : Int).toNat) (x4 : Int).toNat).Do, (max 0 ((gi (acts.take (min (acts.length : Int) 40 : Int).toNat) (x4 : Int).toNat).V)).tmod 10, (max 0 ((gi (acts.take (min (acts.length : Int) 40 : Int).toNat) (x4 : Int).toNat).D)).tmod 4, (max 0 ((gi (acts.take (min (acts.length : Int) 40 : Int).toNat) (x4 : Int).toNat).W)).tmod 10, max (-2) (((gi (acts.take (min (acts.length : Int) 40 : Int).toNat) (x4 : Int).toNat).Owner).tmod 5)⟩ : T_muntinlaw10_Act)] (x5 : Int).toNat).V : Int).toNat).Next).get ((gi [gi (acts.take (min (acts.length : Int) 40 : Int).toNat) (x4 : Int).toNat, (⟨(gi (acts.take (min (acts.length : Int) 40 : Int).toNat) (x4 : Int).toNat).Do, (max 0 ((gi (acts.take (min (acts.length : Int) 40 : Int).toNat) (x4 : Int).toNat).V)).tmod 10, (max 0 ((gi (acts.take (min (acts.length : Int) 40 : Int).toNat) (x4 : Int).toNat).D)).tmod 4, (max 0 ((gi (acts.take (min (acts.length : Int) 40 : Int).toNat) (x4 : Int).toNat).W)).tmod 10, max (-2) (((gi (acts.take (min (acts.length : Int) 40 : Int).toNat) (x4 : Int).toNat).Owner).tmod 5)⟩ : T_muntinlaw10_Act)] (x5 : Int).toNat).D)))) || (!(decide (x19 = ((gi l3 ((gi [gi (acts.take (min (acts.length : Int) 40 : Int).toNat) (x4 : Int).toNat, (⟨(gi (acts.take (min (acts.length : Int) 40 : Int).toNat) (x4 : Int).toNat).Do, (max 0 ((gi (acts.take (min (acts.length : Int) 40 : Int).toNat) (x4 : Int).toNat).V)).tmod 10, (max 0 ((gi (acts.take (min (acts.length : Int) 40 : Int).toNat) (x4 : Int).toNat).D)).tmod 4, (max 0 ((gi (acts.take (min (acts.length : Int) 40 : Int).toNat) (x4 : Int).toNat).W)).tmod 10, max (-2) (((gi (acts.take (min (acts.length : Int) 40 : Int).toNat) (x4 : Int).toNat).Owner).tmod 5)⟩ : T_muntinlaw10_Act)] (x5 : Int).toNat).V : Int).toNat).Owner).get ((gi [gi (acts.take (min (acts.length : Int) 40 : Int).toNat) (x4 : Int).toNat, (⟨(gi (acts.take (min (acts.length : Int) 40 : Int).toNat) (x4 : Int).toNat).Do, (max 0 ((gi (acts.take (min (acts.length : Int) 40 : Int).toNat) (x4 : Int).toNat).V)).tmod 10, (max 0 ((gi (acts.take (min (acts.length : Int) 40 : Int).toNat) (x4 : Int).toNat).D)).tmod 4, (max 0 ((gi (acts.take (min (acts.length : Int) 40 : Int).toNat) (x4 : Int).toNat).W)).tmod 10, max (-2) (((gi (acts.take (min (acts.length : Int) 40 : Int).toNat) (x4 : Int).toNat).Owner).tmod 5)⟩ : T_muntinlaw10_Act)] (x5 : Int).toNat).D)))))
        else
          some false).bind fun t2 =>
        some t2).bind fun t1 =>
      if t1 || ((!x20) && ((!(decide (x18 = 0))) || (!(decide (x19 = 0))))) then
        some (.inr (.inr ()))
      else
        ck (in64 (x5 + 1)) <|
        some (.inl (g4, l3, x5 + 1))
    | .inr (.inl _) =>
      ck (in64 (x5 + 1)) <|
      some (.inl (g2, l1, x5 + 1))
    | .inr (.inr _) =>
      some (.inr (.inr ()))
  else
    some (.inr (.inl (g2, l1)))

def p_muntinlaw10_GridPlays.s0 (acts : List T_muntinlaw10_Act) : (List T_api_Cell) × (List T_api_Cell) × Int → Option (((List T_api_Cell) × (List T_api_Cell) × Int) ⊕ (Unit ⊕ Unit)) := fun (g1, l, x4) =>
  if decide (x4 < ((acts.take (min (acts.length : Int) 40 : Int).toNat).length : Int)) then
    ck ((0 : Int) ≤ x4 ∧ x4 < ((acts.take (min (acts.length : Int) 40 : Int).toNat).length : Int)) <|
    (
      loopF (p_muntinlaw10_GridPlays.s1 acts x4) big (g1, l, 0) : Option (((List T_api_Cell) × (List T_api_Cell)) ⊕ Unit)).bind fun o₃ => match o₃ with
    | .inl (g3, l2) =>
      (p_grid_Grid_Len (⟨g3⟩ : T_grid_Grid)).bind fun x21 =>
      (if !(decide (x21 = (l2.length : Int))) then
        some true
      else
        (p_grid_Grid_Cells (⟨g3⟩ : T_grid_Grid)).bind fun x22 =>
        (p_muntinref10_Same x22 l2).bind fun x23 =>
        some (!x23)).bind fun t3 =>
      if t3 then
        some (.inr (.inr ()))
      else
        ck (in64 (x4 + 1)) <|
        some (.inl (g3, l2, x4 + 1))
    | .inr _ =>
      some (.inr (.inr ()))
  else
    some (.inr (.inl ()))

def p_muntinlaw10_GridPlays (n : Int) (acts : List T_muntinlaw10_Act) : Option Bool :=
  ck (inK .i64 (n.tmod 8)) <|
  (p_grid_New (n.tmod 8)).bind fun (x, x1) =>
  (p_muntinref10_New (n.tmod 8)).bind fun x2 =>
  (p_muntinlaw10_wakes ).bind fun x3 =>
  if (!x3) || (!(decide (x1 = 0))) then
    some false
  else
    ck ((0 : Int) ≤ (min (acts.length : Int) 40) ∧ (min (acts.length : Int) 40) ≤ (acts.length : Int)) <|
    (x).bind fun g =>
    (
      loopF (p_muntinlaw10_GridPlays.s0 acts) big (g.cells, x2, 0) : Option (Unit ⊕ Unit)).bind fun o₁ => match o₁ with
    | .inl _ =>
      some true
    | .inr _ =>
      some false

end Mu
