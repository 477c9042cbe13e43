/- What the functions work out. -/
import Derived.Test.YteedifiifkghkaaMuA
import Derived.Test.YteedifiifkghkaaMuR
set_option linter.unusedVariables false
set_option linter.unnecessarySimpa false
set_option linter.unusedSimpArgs false
set_option maxHeartbeats 2000000
set_option maxRecDepth 10000
namespace Mu
open Go (IntKind BinOp UnOp)
abbrev e_i8 : Enc Int := ⟨1, fun x => [.i .i8 x], fun _ => rfl⟩
theorem e_i8.one (x : Int) : (e_i8.c x).all V.one = true := rfl
structure T_kitty_Corner where
  At : Int
  Part : Int
  deriving DecidableEq, Inhabited
abbrev e_T_kitty_Corner : Enc T_kitty_Corner := ⟨2, fun x => [.i .i64 x.At, .i .i64 x.Part], fun _ => rfl⟩
theorem e_T_kitty_Corner.one (x : T_kitty_Corner) : (e_T_kitty_Corner.c x).all V.one = true := rfl
theorem e_T_kitty_Corner.same (x y : T_kitty_Corner) : sameAll [.i, .i] (e_T_kitty_Corner.c x) (e_T_kitty_Corner.c y) = some (decide (x = y)) := by
  obtain ⟨x1, x2⟩ := x
  obtain ⟨y1, y2⟩ := y
  refine (sameAll_i (sameAll_i sameAll_nil)).trans ?_
  congr 1
  rw [Bool.eq_iff_iff]
  simp [and_assoc]
def Ok_i8 (x : Int) : Prop := Wf .i8 x
/-! muntin/muntinlaw15.turns -/
def p_muntinlaw15_turns.s0 (l : List Int) (odd : Bool) : (List Int) × Int → Option (((List Int) × Int) ⊕ (List Int)) := fun (out, x) =>
  if decide (x < ((l.take (min (l.length : Int) 30 : Int).toNat).length : Int)) then
    ck ((0 : Int) ≤ x ∧ x < ((l.take (min (l.length : Int) 30 : Int).toNat).length : Int)) <|
    ck (inK .i64 (gi (l.take (min (l.length : Int) 30 : Int).toNat) (x : Int).toNat)) <|
    if !odd then
      ck (out.length + [max (-2) (min 1 ((gi (l.take (min (l.length : Int) 30 : Int).toNat) (x : Int).toNat).tmod 3))].length ≤ 1000000000) <|
      ck (in64 (x + 1)) <|
      some (.inl (out ++ [max (-2) (min 1 ((gi (l.take (min (l.length : Int) 30 : Int).toNat) (x : Int).toNat).tmod 3))], x + 1))
    else
      ck (out.length + [gi (l.take (min (l.length : Int) 30 : Int).toNat) (x : Int).toNat].length ≤ 1000000000) <|
      ck (in64 (x + 1)) <|
      some (.inl (out ++ [gi (l.take (min (l.length : Int) 30 : Int).toNat) (x : Int).toNat], x + 1))
  else
    some (.inr out)

def p_muntinlaw15_turns (l : List Int) (odd : Bool) : Option (List Int) :=
  ck ((0 : Int) ≤ (min (l.length : Int) 30) ∧ (min (l.length : Int) 30) ≤ (l.length : Int)) <|
  (loopF (p_muntinlaw15_turns.s0 l odd) big (([] : List Int), 0)).bind fun out1 =>
  some out1

/-! slices.IndexFunc[[]int,int] -/
def p_slices_IndexFunc_int.s0 (s : List Int) (f : Int → Option Bool) : Int → Option (Int ⊕ (Unit ⊕ Int)) := fun x =>
  if decide (x < (s.length : Int)) then
    ck ((0 : Int) ≤ x ∧ x < (s.length : Int)) <|
    (f (gi s (x : Int).toNat)).bind fun x2 =>
    if x2 then
      some (.inr (.inr x))
    else
      ck (in64 (x + 1)) <|
      some (.inl (x + 1))
  else
    some (.inr (.inl ()))

def p_slices_IndexFunc_int (s : List Int) (f : Int → Option Bool) : Option Int :=
  (
    loopF (p_slices_IndexFunc_int.s0 s f) big 0 : Option (Unit ⊕ Int)).bind fun o₁ => match o₁ with
  | .inl _ =>
    some (-1)
  | .inr x1 =>
    some x1

/-! slices.ContainsFunc[[]int,int] -/
def p_slices_ContainsFunc_int (s : List Int) (f : Int → Option Bool) : Option Bool :=
  (p_slices_IndexFunc_int s f).bind fun x =>
  some (decide (0 ≤ x))

/-! muntin/kitty.right$1 -/
def p_kitty_right_1 (t : Int) : Option Bool :=
  some ((decide (t < (-2))) || (decide (1 < t)))

/-! muntin/kitty.right -/
def p_kitty_right (turns : List Int) : Option Bool :=
  (p_slices_ContainsFunc_int turns (fun y0 => p_kitty_right_1 y0)).bind fun x =>
  some (!x)

/-! muntin/kitty.Corners -/
def p_kitty_Corners.s1 (turns : List Int) (x : Int) : (List T_kitty_Corner) × Int → Option (((List T_kitty_Corner) × Int) ⊕ (List T_kitty_Corner)) := fun (l2, x1) =>
  if decide (x1 < (-(gi turns (x : Int).toNat))) then
    ck (l2.length + [(⟨x, x1⟩ : T_kitty_Corner)].length ≤ 1000000000) <|
    ck (in64 (x1 + 1)) <|
    some (.inl (l2 ++ [(⟨x, x1⟩ : T_kitty_Corner)], x1 + 1))
  else
    some (.inr l2)

def p_kitty_Corners.s0 (turns : List Int) : (List T_kitty_Corner) × Int → Option (((List T_kitty_Corner) × Int) ⊕ (List T_kitty_Corner)) := fun (l, x) =>
  if decide (x < (turns.length : Int)) then
    ck ((0 : Int) ≤ x ∧ x < (turns.length : Int)) <|
    if decide ((gi turns (x : Int).toNat) < (-2)) then
      ck (in64 (x + 1)) <|
      some (.inl (l, x + 1))
    else
      ck (in64 (-(gi turns (x : Int).toNat))) <|
      (loopF (p_kitty_Corners.s1 turns x) big (l, 0)).bind fun l3 =>
      ck (in64 (x + 1)) <|
      some (.inl (l3, x + 1))
  else
    some (.inr l)

def p_kitty_Corners (turns : List Int) : Option (List T_kitty_Corner) :=
  (loopF (p_kitty_Corners.s0 turns) big (([] : List T_kitty_Corner), 0)).bind fun l1 =>
  some l1

/-! muntin/kitty.sums -/
def p_kitty_sums.s0 (turns : List Int) : (List Int) × Int → Option (((List Int) × Int) ⊕ (List Int)) := fun (l, x) =>
  if decide (x < (turns.length : Int)) then
    ck ((0 : Int) ≤ x ∧ x < (turns.length : Int)) <|
    ck (in64 (x + 1)) <|
    ck ((0 : Int) ≤ x ∧ x < (l.length : Int)) <|
    ck (in64 ((gi l (x : Int).toNat) + (gi turns (x : Int).toNat))) <|
    ck ((0 : Int) ≤ (x + 1) ∧ (x + 1) < (l.length : Int)) <|
    some (.inl (l.set (x + 1 : Int).toNat ((gi l (x : Int).toNat) + (gi turns (x : Int).toNat)), x + 1))
  else
    some (.inr l)

def p_kitty_sums (turns : List Int) : Option (List Int) :=
  ck (in64 ((turns.length : Int) + 1)) <|
  ck ((0 : Int) ≤ ((turns.length : Int) + 1) ∧ ((turns.length : Int) + 1) ≤ 1000000000) <|
  (loopF (p_kitty_sums.s0 turns) big (List.replicate ((turns.length : Int) + 1 : Int).toNat (0 : Int), 0)).bind fun l1 =>
  some l1

/-! muntin/kitty.rot -/
def p_kitty_rot (l : List Int) (a : T_kitty_Corner) (b : T_kitty_Corner) : Option Int :=
  ck ((0 : Int) ≤ b.At ∧ b.At < (l.length : Int)) <|
  ck (in64 ((gi l (b.At : Int).toNat) - b.Part)) <|
  ck ((0 : Int) ≤ a.At ∧ a.At < (l.length : Int)) <|
  ck (in64 ((gi l (a.At : Int).toNat) - a.Part)) <|
  ck (in64 (((gi l (b.At : Int).toNat) - b.Part) - ((gi l (a.At : Int).toNat) - a.Part))) <|
  if (decide (b.At < a.At)) || ((decide (b.At = a.At)) && (decide (b.Part < a.Part))) then
    ck (in64 ((l.length : Int) - 1)) <|
    ck ((0 : Int) ≤ ((l.length : Int) - 1) ∧ ((l.length : Int) - 1) < (l.length : Int)) <|
    ck (in64 ((((gi l (b.At : Int).toNat) - b.Part) - ((gi l (a.At : Int).toNat) - a.Part)) + (gi l ((l.length : Int) - 1 : Int).toNat))) <|
    some ((((gi l (b.At : Int).toNat) - b.Part) - ((gi l (a.At : Int).toNat) - a.Part)) + (gi l ((l.length : Int) - 1 : Int).toNat))
  else
    some (((gi l (b.At : Int).toNat) - b.Part) - ((gi l (a.At : Int).toNat) - a.Part))

/-! muntin/kitty.Pair -/
def p_kitty_Pair.s1 (x1 : List T_kitty_Corner) (x2 : List Int) (x3 : Int) : Int → Option (Int ⊕ (Unit ⊕ T_kitty_Corner)) := fun x6 =>
  if decide (x6 < (x1.length : Int)) then
    ck ((0 : Int) ≤ x6 ∧ x6 < (x1.length : Int)) <|
    (p_kitty_rot x2 (gi x1 (x3 : Int).toNat) (gi x1 (x6 : Int).toNat)).bind fun x8 =>
    if decide (x8 = 2) then
      some (.inr (.inr (gi x1 (x6 : Int).toNat)))
    else
      ck (in64 (x6 + 1)) <|
      some (.inl (x6 + 1))
  else
    some (.inr (.inl ()))

def p_kitty_Pair.s0 (x1 : List T_kitty_Corner) (x2 : List Int) : Int → Option (Int ⊕ (Unit ⊕ (T_kitty_Corner × T_kitty_Corner))) := fun x3 =>
  if decide (x3 < (x1.length : Int)) then
    ck ((0 : Int) ≤ x3 ∧ x3 < (x1.length : Int)) <|
    (
      loopF (p_kitty_Pair.s1 x1 x2 x3) big 0 : Option (Unit ⊕ T_kitty_Corner)).bind fun o₃ => match o₃ with
    | .inl _ =>
      ck (in64 (x3 + 1)) <|
      some (.inl (x3 + 1))
    | .inr x7 =>
      some (.inr (.inr (gi x1 (x3 : Int).toNat, x7)))
  else
    some (.inr (.inl ()))

def p_kitty_Pair (turns : List Int) : Option (T_kitty_Corner × T_kitty_Corner × Bool) :=
  (p_kitty_right turns).bind fun x =>
  if !x then
    some ((⟨(0 : Int), (0 : Int)⟩ : T_kitty_Corner), (⟨(0 : Int), (0 : Int)⟩ : T_kitty_Corner), false)
  else
    (p_kitty_Corners turns).bind fun x1 =>
    (p_kitty_sums turns).bind fun x2 =>
    (
      loopF (p_kitty_Pair.s0 x1 x2) big 0 : Option (Unit ⊕ (T_kitty_Corner × T_kitty_Corner))).bind fun o₁ => match o₁ with
    | .inl _ =>
      some ((⟨(0 : Int), (0 : Int)⟩ : T_kitty_Corner), (⟨(0 : Int), (0 : Int)⟩ : T_kitty_Corner), false)
    | .inr (x4, x5) =>
      some (x4, x5, true)

/-! slices.Index[[]muntin/kitty.Corner,muntin/kitty.Corner] -/
def p_slices_Index_kitty_Corner.s0 (s : List T_kitty_Corner) (v : T_kitty_Corner) : Int → Option (Int ⊕ (Unit ⊕ Int)) := fun x =>
  if decide (x < (s.length : Int)) then
    ck ((0 : Int) ≤ x ∧ x < (s.length : Int)) <|
    if decide (v = gi s (x : Int).toNat) then
      some (.inr (.inr x))
    else
      ck (in64 (x + 1)) <|
      some (.inl (x + 1))
  else
    some (.inr (.inl ()))

def p_slices_Index_kitty_Corner (s : List T_kitty_Corner) (v : T_kitty_Corner) : Option Int :=
  (
    loopF (p_slices_Index_kitty_Corner.s0 s v) big 0 : Option (Unit ⊕ Int)).bind fun o₁ => match o₁ with
  | .inl _ =>
    some (-1)
  | .inr x1 =>
    some x1

/-! slices.Contains[[]muntin/kitty.Corner,muntin/kitty.Corner] -/
def p_slices_Contains_kitty_Corner (s : List T_kitty_Corner) (v : T_kitty_Corner) : Option Bool :=
  (p_slices_Index_kitty_Corner s v).bind fun x =>
  some (decide (0 ≤ x))

/-! muntin/kitty.Rot -/
def p_kitty_Rot (turns : List Int) (a : T_kitty_Corner) (b : T_kitty_Corner) : Option (Int × Int) :=
  (p_kitty_Corners turns).bind fun x =>
  (p_kitty_right turns).bind fun x1 =>
  (if !x1 then
    some true
  else
    (p_slices_Contains_kitty_Corner x a).bind fun x2 =>
    some (!x2)).bind fun t =>
  (if t then
    some true
  else
    (p_slices_Contains_kitty_Corner x b).bind fun x3 =>
    some (!x3)).bind fun t1 =>
  if t1 then
    some (0, 2)
  else
    (p_kitty_sums turns).bind fun x4 =>
    (p_kitty_rot x4 a b).bind fun x5 =>
    some (x5, 0)

/-! muntin/muntinlaw15.wakes -/
def p_muntinlaw15_wakes : Option Bool :=
  (p_kitty_Pair [(-1), 1, 1, (-1), 1, 1, (-1), 1, 1, (-1), 1, 1]).bind fun (x, x1, x2) =>
  (p_kitty_Rot [(-2), (-2)] (⟨(0 : Int), (0 : Int)⟩ : T_kitty_Corner) (⟨1, (0 : Int)⟩ : T_kitty_Corner)).bind fun (x3, x4) =>
  (p_kitty_Rot [1] (⟨(0 : Int), (0 : Int)⟩ : T_kitty_Corner) (⟨(0 : Int), (0 : Int)⟩ : T_kitty_Corner)).bind fun (x5, x6) =>
  (p_kitty_Pair [(-1), 1, 1, 1, 1, 1]).bind fun (x7, x8, x9) =>
  some (((((((decide (x = (⟨(0 : Int), (0 : Int)⟩ : T_kitty_Corner))) && (decide (x1 = (⟨6, (0 : Int)⟩ : T_kitty_Corner)))) && x2) && (decide (x3 = (-2)))) && (decide (x4 = 0))) && (decide (x6 = 2))) && (!x9))

/-! muntin/muntinlaw15.KittyTurns -/
def p_muntinlaw15_KittyTurns (l : List Int) (at_ : Int) (from_ : Int) : Option Bool :=
  (p_muntinlaw15_turns l false).bind fun x =>
  (p_kitty_Pair x).bind fun (x1, x2, x3) =>
  ck (inK .i64 at_) <|
  ck (in64 ((x.length : Int) + 1)) <|
  ck ((((x.length : Int) + 1) : Int) ≠ 0) <|
  ck ((0 : Int) ≤ (at_.tmod ((x.length : Int) + 1)) ∧ (at_.tmod ((x.length : Int) + 1)) ≤ (x.length : Int)) <|
  ck (([] : List Int).length + (x.take (at_.tmod ((x.length : Int) + 1) : Int).toNat).length ≤ 1000000000) <|
  ck ((([] : List Int) ++ (x.take (at_.tmod ((x.length : Int) + 1) : Int).toNat)).length + [0, 0].length ≤ 1000000000) <|
  ck (((([] : List Int) ++ (x.take (at_.tmod ((x.length : Int) + 1) : Int).toNat)) ++ [0, 0]).length + (x.drop (at_.tmod ((x.length : Int) + 1) : Int).toNat).length ≤ 1000000000) <|
  ck (inK .i64 from_) <|
  ck ((0 : Int) ≤ (from_.tmod ((x.length : Int) + 1)) ∧ (from_.tmod ((x.length : Int) + 1)) ≤ (x.length : Int)) <|
  ck (([] : List Int).length + (x.drop (from_.tmod ((x.length : Int) + 1) : Int).toNat).length ≤ 1000000000) <|
  ck ((([] : List Int) ++ (x.drop (from_.tmod ((x.length : Int) + 1) : Int).toNat)).length + (x.take (from_.tmod ((x.length : Int) + 1) : Int).toNat).length ≤ 1000000000) <|
  (p_kitty_Pair (((([] : List Int) ++ (x.take (at_.tmod ((x.length : Int) + 1) : Int).toNat)) ++ [0, 0]) ++ (x.drop (at_.tmod ((x.length : Int) + 1) : Int).toNat))).bind fun (x4, x5, x6) =>
  (p_kitty_Pair ((([] : List Int) ++ (x.drop (from_.tmod ((x.length : Int) + 1) : Int).toNat)) ++ (x.take (from_.tmod ((x.length : Int) + 1) : Int).toNat))).bind fun (x7, x8, x9) =>
  (p_muntinlaw15_wakes ).bind fun x10 =>
  (if (x10 && (decide (x6 = x3))) && (decide (x9 = x3)) then
    (p_kitty_Corners (((([] : List Int) ++ (x.take (at_.tmod ((x.length : Int) + 1) : Int).toNat)) ++ [0, 0]) ++ (x.drop (at_.tmod ((x.length : Int) + 1) : Int).toNat))).bind fun x11 =>
    (p_kitty_Corners x).bind fun x12 =>
    some (decide ((x11.length : Int) = (x12.length : Int)))
  else
    some false).bind fun t =>
  some t

end Mu
