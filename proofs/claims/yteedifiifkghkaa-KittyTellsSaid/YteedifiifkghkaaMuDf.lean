/- What the functions work out. -/
import Derived.Test.YteedifiifkghkaaMuA
import Derived.Test.YteedifiifkghkaaMuR
set_option linter.unusedVariables false
set_option linter.unnecessarySimpa false
set_option linter.unusedSimpArgs false
set_option maxHeartbeats 2000000
set_option maxRecDepth 10000
namespace Mu
open Go (IntKind BinOp UnOp)
structure T_kitty_Corner where
  At : Int
  Part : Int
  deriving DecidableEq, Inhabited
abbrev e_i8 : Enc Int := ⟨1, fun x => [.i .i8 x], fun _ => rfl⟩
theorem e_i8.one (x : Int) : (e_i8.c x).all V.one = true := rfl
abbrev e_T_kitty_Corner : Enc T_kitty_Corner := ⟨2, fun x => [.i .i64 x.At, .i .i64 x.Part], fun _ => rfl⟩
theorem e_T_kitty_Corner.one (x : T_kitty_Corner) : (e_T_kitty_Corner.c x).all V.one = true := rfl
theorem e_T_kitty_Corner.same (x y : T_kitty_Corner) : sameAll [.i, .i] (e_T_kitty_Corner.c x) (e_T_kitty_Corner.c y) = some (decide (x = y)) := by
  obtain ⟨x1, x2⟩ := x
  obtain ⟨y1, y2⟩ := y
  refine (sameAll_i (sameAll_i sameAll_nil)).trans ?_
  congr 1
  rw [Bool.eq_iff_iff]
  simp [and_assoc]
structure T_muntinref15_Corner where
  At : Int
  Part : Int
  deriving DecidableEq, Inhabited
abbrev e_T_muntinref15_Corner : Enc T_muntinref15_Corner := ⟨2, fun x => [.i .i64 x.At, .i .i64 x.Part], fun _ => rfl⟩
theorem e_T_muntinref15_Corner.one (x : T_muntinref15_Corner) : (e_T_muntinref15_Corner.c x).all V.one = true := rfl
theorem e_T_muntinref15_Corner.same (x y : T_muntinref15_Corner) : sameAll [.i, .i] (e_T_muntinref15_Corner.c x) (e_T_muntinref15_Corner.c y) = some (decide (x = y)) := by
  obtain ⟨x1, x2⟩ := x
  obtain ⟨y1, y2⟩ := y
  refine (sameAll_i (sameAll_i sameAll_nil)).trans ?_
  congr 1
  rw [Bool.eq_iff_iff]
  simp [and_assoc]
def Ok_i8 (x : Int) : Prop := Wf .i8 x
def Ok_T_kitty_Corner (x : T_kitty_Corner) : Prop := Wf .i64 x.At ∧ Wf .i64 x.Part
/-! muntin/muntinlaw15.turns -/
def p_muntinlaw15_turns.s0 (l : List Int) (odd : Bool) : (List Int) × Int → Option (((List Int) × Int) ⊕ (List Int)) := fun (out, x) =>
  if decide (x < ((l.take (min (l.length : Int) 30 : Int).toNat).length : Int)) then
    ck ((0 : Int) ≤ x ∧ x < ((l.take (min (l.length : Int) 30 : Int).toNat).length : Int)) <|
    ck (inK .i64 (gi (l.take (min (l.length : Int) 30 : Int).toNat) (x : Int).toNat)) <|
    if !odd then
      ck (out.length + [max (-2) (min 1 ((gi (l.take (min (l.length : Int) 30 : Int).toNat) (x : Int).toNat).tmod 3))].length ≤ 1000000000) <|
      ck (in64 (x + 1)) <|
      some (.inl (out ++ [max (-2) (min 1 ((gi (l.take (min (l.length : Int) 30 : Int).toNat) (x : Int).toNat).tmod 3))], x + 1))
    else
      ck (out.length + [gi (l.take (min (l.length : Int) 30 : Int).toNat) (x : Int).toNat].length ≤ 1000000000) <|
      ck (in64 (x + 1)) <|
      some (.inl (out ++ [gi (l.take (min (l.length : Int) 30 : Int).toNat) (x : Int).toNat], x + 1))
  else
    some (.inr out)

def p_muntinlaw15_turns (l : List Int) (odd : Bool) : Option (List Int) :=
  ck ((0 : Int) ≤ (min (l.length : Int) 30) ∧ (min (l.length : Int) 30) ≤ (l.length : Int)) <|
  (loopF (p_muntinlaw15_turns.s0 l odd) big (([] : List Int), 0)).bind fun out1 =>
  some out1

/-! muntin/kitty.Corners -/
def p_kitty_Corners.s1 (turns : List Int) (x : Int) : (List T_kitty_Corner) × Int → Option (((List T_kitty_Corner) × Int) ⊕ (List T_kitty_Corner)) := fun (l2, x1) =>
  if decide (x1 < (-(gi turns (x : Int).toNat))) then
    ck (l2.length + [(⟨x, x1⟩ : T_kitty_Corner)].length ≤ 1000000000) <|
    ck (in64 (x1 + 1)) <|
    some (.inl (l2 ++ [(⟨x, x1⟩ : T_kitty_Corner)], x1 + 1))
  else
    some (.inr l2)

def p_kitty_Corners.s0 (turns : List Int) : (List T_kitty_Corner) × Int → Option (((List T_kitty_Corner) × Int) ⊕ (List T_kitty_Corner)) := fun (l, x) =>
  if decide (x < (turns.length : Int)) then
    ck ((0 : Int) ≤ x ∧ x < (turns.length : Int)) <|
    if decide ((gi turns (x : Int).toNat) < (-2)) then
      ck (in64 (x + 1)) <|
      some (.inl (l, x + 1))
    else
      ck (in64 (-(gi turns (x : Int).toNat))) <|
      (loopF (p_kitty_Corners.s1 turns x) big (l, 0)).bind fun l3 =>
      ck (in64 (x + 1)) <|
      some (.inl (l3, x + 1))
  else
    some (.inr l)

def p_kitty_Corners (turns : List Int) : Option (List T_kitty_Corner) :=
  (loopF (p_kitty_Corners.s0 turns) big (([] : List T_kitty_Corner), 0)).bind fun l1 =>
  some l1

/-! muntin/muntinref15.Corners -/
def p_muntinref15_Corners.s0 (t : List Int) : (List T_muntinref15_Corner) × Int → Option (((List T_muntinref15_Corner) × Int) ⊕ (List T_muntinref15_Corner)) := fun (l, i) =>
  if decide (i < (t.length : Int)) then
    ck ((0 : Int) ≤ i ∧ i < (t.length : Int)) <|
    (
      if (decide (gi t (i : Int).toNat = (-1))) || (decide (gi t (i : Int).toNat = (-2))) then
        ck (l.length + [(⟨i, (0 : Int)⟩ : T_muntinref15_Corner)].length ≤ 1000000000) <|
        some (l ++ [(⟨i, (0 : Int)⟩ : T_muntinref15_Corner)])
      else
        some l).bind fun l2 =>
    if decide (gi t (i : Int).toNat = (-2)) then
      ck (l2.length + [(⟨i, 1⟩ : T_muntinref15_Corner)].length ≤ 1000000000) <|
      ck (in64 (i + 1)) <|
      some (.inl (l2 ++ [(⟨i, 1⟩ : T_muntinref15_Corner)], i + 1))
    else
      ck (in64 (i + 1)) <|
      some (.inl (l2, i + 1))
  else
    some (.inr l)

def p_muntinref15_Corners (t : List Int) : Option (List T_muntinref15_Corner) :=
  (loopF (p_muntinref15_Corners.s0 t) big (([] : List T_muntinref15_Corner), 0)).bind fun l1 =>
  some l1

/-! muntin/muntinref15.Good -/
def p_muntinref15_Good.s0 (t : List Int) : Int → Option (Int ⊕ (Unit ⊕ Unit)) := fun i =>
  if decide (i < (t.length : Int)) then
    ck ((0 : Int) ≤ i ∧ i < (t.length : Int)) <|
    if (decide ((gi t (i : Int).toNat) < (-2))) || (decide (1 < (gi t (i : Int).toNat))) then
      some (.inr (.inr ()))
    else
      ck (in64 (i + 1)) <|
      some (.inl (i + 1))
  else
    some (.inr (.inl ()))

def p_muntinref15_Good (t : List Int) : Option Bool :=
  (
    loopF (p_muntinref15_Good.s0 t) big 0 : Option (Unit ⊕ Unit)).bind fun o₁ => match o₁ with
  | .inl _ =>
    some true
  | .inr _ =>
    some false

/-! slices.IndexFunc[[]int,int] -/
def p_slices_IndexFunc_int.s0 (s : List Int) (f : Int → Option Bool) : Int → Option (Int ⊕ (Unit ⊕ Int)) := fun x =>
  if decide (x < (s.length : Int)) then
    ck ((0 : Int) ≤ x ∧ x < (s.length : Int)) <|
    (f (gi s (x : Int).toNat)).bind fun x2 =>
    if x2 then
      some (.inr (.inr x))
    else
      ck (in64 (x + 1)) <|
      some (.inl (x + 1))
  else
    some (.inr (.inl ()))

def p_slices_IndexFunc_int (s : List Int) (f : Int → Option Bool) : Option Int :=
  (
    loopF (p_slices_IndexFunc_int.s0 s f) big 0 : Option (Unit ⊕ Int)).bind fun o₁ => match o₁ with
  | .inl _ =>
    some (-1)
  | .inr x1 =>
    some x1

/-! slices.ContainsFunc[[]int,int] -/
def p_slices_ContainsFunc_int (s : List Int) (f : Int → Option Bool) : Option Bool :=
  (p_slices_IndexFunc_int s f).bind fun x =>
  some (decide (0 ≤ x))

/-! muntin/kitty.right$1 -/
def p_kitty_right_1 (t : Int) : Option Bool :=
  some ((decide (t < (-2))) || (decide (1 < t)))

/-! muntin/kitty.right -/
def p_kitty_right (turns : List Int) : Option Bool :=
  (p_slices_ContainsFunc_int turns (fun y0 => p_kitty_right_1 y0)).bind fun x =>
  some (!x)

/-! slices.Index[[]muntin/kitty.Corner,muntin/kitty.Corner] -/
def p_slices_Index_kitty_Corner.s0 (s : List T_kitty_Corner) (v : T_kitty_Corner) : Int → Option (Int ⊕ (Unit ⊕ Int)) := fun x =>
  if decide (x < (s.length : Int)) then
    ck ((0 : Int) ≤ x ∧ x < (s.length : Int)) <|
    if decide (v = gi s (x : Int).toNat) then
      some (.inr (.inr x))
    else
      ck (in64 (x + 1)) <|
      some (.inl (x + 1))
  else
    some (.inr (.inl ()))

def p_slices_Index_kitty_Corner (s : List T_kitty_Corner) (v : T_kitty_Corner) : Option Int :=
  (
    loopF (p_slices_Index_kitty_Corner.s0 s v) big 0 : Option (Unit ⊕ Int)).bind fun o₁ => match o₁ with
  | .inl _ =>
    some (-1)
  | .inr x1 =>
    some x1

/-! slices.Contains[[]muntin/kitty.Corner,muntin/kitty.Corner] -/
def p_slices_Contains_kitty_Corner (s : List T_kitty_Corner) (v : T_kitty_Corner) : Option Bool :=
  (p_slices_Index_kitty_Corner s v).bind fun x =>
  some (decide (0 ≤ x))

/-! muntin/kitty.sums -/
def p_kitty_sums.s0 (turns : List Int) : (List Int) × Int → Option (((List Int) × Int) ⊕ (List Int)) := fun (l, x) =>
  if decide (x < (turns.length : Int)) then
    ck ((0 : Int) ≤ x ∧ x < (turns.length : Int)) <|
    ck (in64 (x + 1)) <|
    ck ((0 : Int) ≤ x ∧ x < (l.length : Int)) <|
    ck (in64 ((gi l (x : Int).toNat) + (gi turns (x : Int).toNat))) <|
    ck ((0 : Int) ≤ (x + 1) ∧ (x + 1) < (l.length : Int)) <|
    some (.inl (l.set (x + 1 : Int).toNat ((gi l (x : Int).toNat) + (gi turns (x : Int).toNat)), x + 1))
  else
    some (.inr l)

def p_kitty_sums (turns : List Int) : Option (List Int) :=
  ck (in64 ((turns.length : Int) + 1)) <|
  ck ((0 : Int) ≤ ((turns.length : Int) + 1) ∧ ((turns.length : Int) + 1) ≤ 1000000000) <|
  (loopF (p_kitty_sums.s0 turns) big (List.replicate ((turns.length : Int) + 1 : Int).toNat (0 : Int), 0)).bind fun l1 =>
  some l1

/-! muntin/kitty.rot -/
def p_kitty_rot (l : List Int) (a : T_kitty_Corner) (b : T_kitty_Corner) : Option Int :=
  ck ((0 : Int) ≤ b.At ∧ b.At < (l.length : Int)) <|
  ck (in64 ((gi l (b.At : Int).toNat) - b.Part)) <|
  ck ((0 : Int) ≤ a.At ∧ a.At < (l.length : Int)) <|
  ck (in64 ((gi l (a.At : Int).toNat) - a.Part)) <|
  ck (in64 (((gi l (b.At : Int).toNat) - b.Part) - ((gi l (a.At : Int).toNat) - a.Part))) <|
  if (decide (b.At < a.At)) || ((decide (b.At = a.At)) && (decide (b.Part < a.Part))) then
    ck (in64 ((l.length : Int) - 1)) <|
    ck ((0 : Int) ≤ ((l.length : Int) - 1) ∧ ((l.length : Int) - 1) < (l.length : Int)) <|
    ck (in64 ((((gi l (b.At : Int).toNat) - b.Part) - ((gi l (a.At : Int).toNat) - a.Part)) + (gi l ((l.length : Int) - 1 : Int).toNat))) <|
    some ((((gi l (b.At : Int).toNat) - b.Part) - ((gi l (a.At : Int).toNat) - a.Part)) + (gi l ((l.length : Int) - 1 : Int).toNat))
  else
    some (((gi l (b.At : Int).toNat) - b.Part) - ((gi l (a.At : Int).toNat) - a.Part))

/-! muntin/kitty.Rot -/
def p_kitty_Rot (turns : List Int) (a : T_kitty_Corner) (b : T_kitty_Corner) : Option (Int × Int) :=
  (p_kitty_Corners turns).bind fun x =>
  (p_kitty_right turns).bind fun x1 =>
  (if !x1 then
    some true
  else
    (p_slices_Contains_kitty_Corner x a).bind fun x2 =>
    some (!x2)).bind fun t =>
  (if t then
    some true
  else
    (p_slices_Contains_kitty_Corner x b).bind fun x3 =>
    some (!x3)).bind fun t1 =>
  if t1 then
    some (0, 2)
  else
    (p_kitty_sums turns).bind fun x4 =>
    (p_kitty_rot x4 a b).bind fun x5 =>
    some (x5, 0)

/-! muntin/muntinref15.Rot -/
def p_muntinref15_Rot.s0 (t : List Int) (a : T_muntinref15_Corner) (b : T_muntinref15_Corner) : (List Int) × Int × Int × Int → Option (((List Int) × Int × Int × Int) ⊕ ((List Int) × Int × Int)) := fun (single, from_, to_, i) =>
  if decide (i < (t.length : Int)) then
    (
      if decide (i = a.At) then
        ck (in64 ((single.length : Int) + a.Part)) <|
        some ((single.length : Int) + a.Part)
      else
        some from_).bind fun from_2 =>
    (
      if decide (i = b.At) then
        ck (in64 ((single.length : Int) + b.Part)) <|
        some ((single.length : Int) + b.Part)
      else
        some to_).bind fun to_2 =>
    ck ((0 : Int) ≤ i ∧ i < (t.length : Int)) <|
    if decide (gi t (i : Int).toNat = (-2)) then
      ck (single.length + [(-1), (-1)].length ≤ 1000000000) <|
      ck (in64 (i + 1)) <|
      some (.inl (single ++ [(-1), (-1)], from_2, to_2, i + 1))
    else
      ck (single.length + [gi t (i : Int).toNat].length ≤ 1000000000) <|
      ck (in64 (i + 1)) <|
      some (.inl (single ++ [gi t (i : Int).toNat], from_2, to_2, i + 1))
  else
    some (.inr (single, from_, to_))

def p_muntinref15_Rot.s1 (single1 : List Int) (to_1 : Int) : Int × Int → Option ((Int × Int) ⊕ Int) := fun (sum, k_) =>
  if !(decide (k_ = to_1)) then
    ck ((0 : Int) ≤ k_ ∧ k_ < (single1.length : Int)) <|
    ck (in64 (sum + (gi single1 (k_ : Int).toNat))) <|
    ck (in64 (k_ + 1)) <|
    ck (((single1.length : Int) : Int) ≠ 0) <|
    some (.inl (sum + (gi single1 (k_ : Int).toNat), (k_ + 1).tmod (single1.length : Int)))
  else
    some (.inr sum)

def p_muntinref15_Rot (t : List Int) (a : T_muntinref15_Corner) (b : T_muntinref15_Corner) : Option Int :=
  (loopF (p_muntinref15_Rot.s0 t a b) big (([] : List Int), 0, 0, 0)).bind fun (single1, from_1, to_1) =>
  (loopF (p_muntinref15_Rot.s1 single1 to_1) big (0, from_1)).bind fun sum1 =>
  some sum1

/-! muntin/kitty.Pair -/
def p_kitty_Pair.s1 (x1 : List T_kitty_Corner) (x2 : List Int) (x3 : Int) : Int → Option (Int ⊕ (Unit ⊕ T_kitty_Corner)) := fun x6 =>
  if decide (x6 < (x1.length : Int)) then
    ck ((0 : Int) ≤ x6 ∧ x6 < (x1.length : Int)) <|
    (p_kitty_rot x2 (gi x1 (x3 : Int).toNat) (gi x1 (x6 : Int).toNat)).bind fun x8 =>
    if decide (x8 = 2) then
      some (.inr (.inr (gi x1 (x6 : Int).toNat)))
    else
      ck (in64 (x6 + 1)) <|
      some (.inl (x6 + 1))
  else
    some (.inr (.inl ()))

def p_kitty_Pair.s0 (x1 : List T_kitty_Corner) (x2 : List Int) : Int → Option (Int ⊕ (Unit ⊕ (T_kitty_Corner × T_kitty_Corner))) := fun x3 =>
  if decide (x3 < (x1.length : Int)) then
    ck ((0 : Int) ≤ x3 ∧ x3 < (x1.length : Int)) <|
    (
      loopF (p_kitty_Pair.s1 x1 x2 x3) big 0 : Option (Unit ⊕ T_kitty_Corner)).bind fun o₃ => match o₃ with
    | .inl _ =>
      ck (in64 (x3 + 1)) <|
      some (.inl (x3 + 1))
    | .inr x7 =>
      some (.inr (.inr (gi x1 (x3 : Int).toNat, x7)))
  else
    some (.inr (.inl ()))

def p_kitty_Pair (turns : List Int) : Option (T_kitty_Corner × T_kitty_Corner × Bool) :=
  (p_kitty_right turns).bind fun x =>
  if !x then
    some ((⟨(0 : Int), (0 : Int)⟩ : T_kitty_Corner), (⟨(0 : Int), (0 : Int)⟩ : T_kitty_Corner), false)
  else
    (p_kitty_Corners turns).bind fun x1 =>
    (p_kitty_sums turns).bind fun x2 =>
    (
      loopF (p_kitty_Pair.s0 x1 x2) big 0 : Option (Unit ⊕ (T_kitty_Corner × T_kitty_Corner))).bind fun o₁ => match o₁ with
    | .inl _ =>
      some ((⟨(0 : Int), (0 : Int)⟩ : T_kitty_Corner), (⟨(0 : Int), (0 : Int)⟩ : T_kitty_Corner), false)
    | .inr (x4, x5) =>
      some (x4, x5, true)

/-! muntin/muntinref15.Pair -/
def p_muntinref15_Pair.s1 (t : List Int) (x : List T_muntinref15_Corner) (i : Int) : Int → Option (Int ⊕ (Unit ⊕ T_muntinref15_Corner)) := fun k_ =>
  if decide (k_ < (x.length : Int)) then
    ck ((0 : Int) ≤ i ∧ i < (x.length : Int)) <|
    ck ((0 : Int) ≤ k_ ∧ k_ < (x.length : Int)) <|
    (p_muntinref15_Rot t (gi x (i : Int).toNat) (gi x (k_ : Int).toNat)).bind fun x4 =>
    if decide (x4 = 2) then
      some (.inr (.inr (gi x (k_ : Int).toNat)))
    else
      ck (in64 (k_ + 1)) <|
      some (.inl (k_ + 1))
  else
    some (.inr (.inl ()))

def p_muntinref15_Pair.s0 (t : List Int) (x : List T_muntinref15_Corner) : Int → Option (Int ⊕ (Unit ⊕ (T_muntinref15_Corner × T_muntinref15_Corner))) := fun i =>
  if decide (i < (x.length : Int)) then
    (
      loopF (p_muntinref15_Pair.s1 t x i) big 0 : Option (Unit ⊕ T_muntinref15_Corner)).bind fun o₃ => match o₃ with
    | .inl _ =>
      ck (in64 (i + 1)) <|
      some (.inl (i + 1))
    | .inr x3 =>
      some (.inr (.inr (gi x (i : Int).toNat, x3)))
  else
    some (.inr (.inl ()))

def p_muntinref15_Pair (t : List Int) : Option (T_muntinref15_Corner × T_muntinref15_Corner × Bool) :=
  (p_muntinref15_Corners t).bind fun x =>
  (
    loopF (p_muntinref15_Pair.s0 t x) big 0 : Option (Unit ⊕ (T_muntinref15_Corner × T_muntinref15_Corner))).bind fun o₁ => match o₁ with
  | .inl _ =>
    some ((⟨(0 : Int), (0 : Int)⟩ : T_muntinref15_Corner), (⟨(0 : Int), (0 : Int)⟩ : T_muntinref15_Corner), false)
  | .inr (x1, x2) =>
    some (x1, x2, true)

/-! muntin/muntinref15.In -/
def p_muntinref15_In.s0 (c : T_muntinref15_Corner) (x : List T_muntinref15_Corner) : Int → Option (Int ⊕ (Unit ⊕ Unit)) := fun i =>
  if decide (i < (x.length : Int)) then
    ck ((0 : Int) ≤ i ∧ i < (x.length : Int)) <|
    if decide (gi x (i : Int).toNat = c) then
      some (.inr (.inr ()))
    else
      ck (in64 (i + 1)) <|
      some (.inl (i + 1))
  else
    some (.inr (.inl ()))

def p_muntinref15_In (t : List Int) (c : T_muntinref15_Corner) : Option Bool :=
  (p_muntinref15_Corners t).bind fun x =>
  (
    loopF (p_muntinref15_In.s0 c x) big 0 : Option (Unit ⊕ Unit)).bind fun o₁ => match o₁ with
  | .inl _ =>
    some false
  | .inr _ =>
    some true

/-! muntin/muntinlaw15.wakes -/
def p_muntinlaw15_wakes : Option Bool :=
  (p_kitty_Pair [(-1), 1, 1, (-1), 1, 1, (-1), 1, 1, (-1), 1, 1]).bind fun (x, x1, x2) =>
  (p_kitty_Rot [(-2), (-2)] (⟨(0 : Int), (0 : Int)⟩ : T_kitty_Corner) (⟨1, (0 : Int)⟩ : T_kitty_Corner)).bind fun (x3, x4) =>
  (p_kitty_Rot [1] (⟨(0 : Int), (0 : Int)⟩ : T_kitty_Corner) (⟨(0 : Int), (0 : Int)⟩ : T_kitty_Corner)).bind fun (x5, x6) =>
  (p_kitty_Pair [(-1), 1, 1, 1, 1, 1]).bind fun (x7, x8, x9) =>
  some (((((((decide (x = (⟨(0 : Int), (0 : Int)⟩ : T_kitty_Corner))) && (decide (x1 = (⟨6, (0 : Int)⟩ : T_kitty_Corner)))) && x2) && (decide (x3 = (-2)))) && (decide (x4 = 0))) && (decide (x6 = 2))) && (!x9))

/-! muntin/muntinlaw15.KittyTells -/
def p_muntinlaw15_KittyTells.s2 (x : List Int) (x1 : List Int) (x2 : Int) (x3 : List T_kitty_Corner) (x4 : List T_muntinref15_Corner) (x5 : Bool) (x6 : Int) : Int → Option (Int ⊕ (Unit ⊕ Unit)) := fun x7 =>
  if decide (x7 < (x3.length : Int)) then
    ck ((0 : Int) ≤ x7 ∧ x7 < (x3.length : Int)) <|
    (p_kitty_Rot (gi [x, x1] (x2 : Int).toNat) (gi x3 (x6 : Int).toNat) (gi x3 (x7 : Int).toNat)).bind fun (x8, x9) =>
    if !(decide ((decide (x9 = 0)) = x5)) then
      some (.inr (.inr ()))
    else
      if x5 then
        ck ((0 : Int) ≤ x7 ∧ x7 < (x4.length : Int)) <|
        (p_muntinref15_Rot (gi [x, x1] (x2 : Int).toNat) (gi x4 (x6 : Int).toNat) (gi x4 (x7 : Int).toNat)).bind fun x10 =>
        if !(decide (x8 = x10)) then
          some (.inr (.inr ()))
        else
          if !x5 then
            if !(decide (x9 = 2)) then
              some (.inr (.inr ()))
            else
              if !(decide (x8 = 0)) then
                some (.inr (.inr ()))
              else
                ck (in64 (x7 + 1)) <|
                some (.inl (x7 + 1))
          else
            ck (in64 (x7 + 1)) <|
            some (.inl (x7 + 1))
      else
        if !x5 then
          if !(decide (x9 = 2)) then
            some (.inr (.inr ()))
          else
            if !(decide (x8 = 0)) then
              some (.inr (.inr ()))
            else
              ck (in64 (x7 + 1)) <|
              some (.inl (x7 + 1))
        else
          ck (in64 (x7 + 1)) <|
          some (.inl (x7 + 1))
  else
    some (.inr (.inl ()))

def p_muntinlaw15_KittyTells.s1 (x : List Int) (x1 : List Int) (x2 : Int) (x3 : List T_kitty_Corner) (x4 : List T_muntinref15_Corner) (x5 : Bool) : Int → Option (Int ⊕ (Unit ⊕ Unit)) := fun x6 =>
  if decide (x6 < (x3.length : Int)) then
    ck ((0 : Int) ≤ x6 ∧ x6 < (x3.length : Int)) <|
    ck ((0 : Int) ≤ x6 ∧ x6 < (x4.length : Int)) <|
    if (!(decide ((gi x3 (x6 : Int).toNat).At = (gi x4 (x6 : Int).toNat).At))) || (!(decide ((gi x3 (x6 : Int).toNat).Part = (gi x4 (x6 : Int).toNat).Part))) then
      some (.inr (.inr ()))
    else
      (
        loopF (p_muntinlaw15_KittyTells.s2 x x1 x2 x3 x4 x5 x6) big 0 : Option (Unit ⊕ Unit)).bind fun o₅ => match o₅ with
      | .inl _ =>
        ck (in64 (x6 + 1)) <|
        some (.inl (x6 + 1))
      | .inr _ =>
        some (.inr (.inr ()))
  else
    some (.inr (.inl ()))

def p_muntinlaw15_KittyTells.s0 (a : T_kitty_Corner) (b : T_kitty_Corner) (x : List Int) (x1 : List Int) : Int → Option (Int ⊕ (Unit ⊕ Unit)) := fun x2 =>
  if decide (x2 < ([x, x1].length : Int)) then
    ck ((0 : Int) ≤ x2 ∧ x2 < ([x, x1].length : Int)) <|
    (p_kitty_Corners (gi [x, x1] (x2 : Int).toNat)).bind fun x3 =>
    (p_muntinref15_Corners (gi [x, x1] (x2 : Int).toNat)).bind fun x4 =>
    if !(decide ((x3.length : Int) = (x4.length : Int))) then
      some (.inr (.inr ()))
    else
      (p_muntinref15_Good (gi [x, x1] (x2 : Int).toNat)).bind fun x5 =>
      (
        loopF (p_muntinlaw15_KittyTells.s1 x x1 x2 x3 x4 x5) big 0 : Option (Unit ⊕ Unit)).bind fun o₃ => match o₃ with
      | .inl _ =>
        (p_kitty_Pair (gi [x, x1] (x2 : Int).toNat)).bind fun (x11, x12, x13) =>
        (p_muntinref15_Pair (gi [x, x1] (x2 : Int).toNat)).bind fun (x14, x15, x16) =>
        (
          if !x5 then
            some ((⟨(0 : Int), (0 : Int)⟩ : T_muntinref15_Corner), (⟨(0 : Int), (0 : Int)⟩ : T_muntinref15_Corner), false)
          else
            some (x14, x15, x16)).bind fun (p, q, is) =>
        if ((((!(decide (x13 = is))) || (!(decide (x11.At = p.At)))) || (!(decide (x11.Part = p.Part)))) || (!(decide (x12.At = q.At)))) || (!(decide (x12.Part = q.Part))) then
          some (.inr (.inr ()))
        else
          (p_kitty_Rot (gi [x, x1] (x2 : Int).toNat) a b).bind fun (x17, x18) =>
          (if x5 then
            (p_muntinref15_In (gi [x, x1] (x2 : Int).toNat) (⟨a.At, a.Part⟩ : T_muntinref15_Corner)).bind fun x19 =>
            some x19
          else
            some false).bind fun t =>
          (if t then
            (p_muntinref15_In (gi [x, x1] (x2 : Int).toNat) (⟨b.At, b.Part⟩ : T_muntinref15_Corner)).bind fun x20 =>
            some x20
          else
            some false).bind fun t1 =>
          if (!(decide ((decide (x18 = 0)) = t1))) || ((!t1) && (!(decide (x18 = 2)))) then
            some (.inr (.inr ()))
          else
            ck (in64 (x2 + 1)) <|
            some (.inl (x2 + 1))
      | .inr _ =>
        some (.inr (.inr ()))
  else
    some (.inr (.inl ()))

def p_muntinlaw15_KittyTells (l : List Int) (a : T_kitty_Corner) (b : T_kitty_Corner) : Option Bool :=
  (p_muntinlaw15_turns l false).bind fun x =>
  (p_muntinlaw15_turns l true).bind fun x1 =>
  (
    loopF (p_muntinlaw15_KittyTells.s0 a b x x1) big 0 : Option (Unit ⊕ Unit)).bind fun o₁ => match o₁ with
  | .inl _ =>
    (p_muntinlaw15_wakes ).bind fun x21 =>
    some x21
  | .inr _ =>
    some false

end Mu
