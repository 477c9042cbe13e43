/- What the functions work out. -/
import Derived.Test.YtofdeafffbkgbaaMuA
import Derived.Test.YtofdeafffbkgbaaMuR
set_option linter.unusedVariables false
set_option linter.unnecessarySimpa false
set_option linter.unusedSimpArgs false
set_option maxHeartbeats 2000000
set_option maxRecDepth 10000
namespace Mu
open Go (IntKind BinOp UnOp)
structure T_muntinref03_Raw where
  N : Int
  Arcs : List (A3 Int)
  deriving DecidableEq, Inhabited
abbrev e_A3_u8 : Enc (A3 Int) := ⟨3, fun x => [.i .u8 x.a, .i .u8 x.b, .i .u8 x.c], fun _ => rfl⟩
theorem e_A3_u8.one (x : A3 Int) : (e_A3_u8.c x).all V.one = true := rfl
abbrev e_A2_u8 : Enc (A2 Int) := ⟨2, fun x => [.i .u8 x.a, .i .u8 x.b], fun _ => rfl⟩
theorem e_A2_u8.one (x : A2 Int) : (e_A2_u8.c x).all V.one = true := rfl
structure T_api_Arc where
  From : Int
  To : Int
  Weight : Int
  deriving DecidableEq, Inhabited
abbrev e_T_api_Arc : Enc T_api_Arc := ⟨3, fun x => [.i .i64 x.From, .i .i64 x.To, .i .i64 x.Weight], fun _ => rfl⟩
theorem e_T_api_Arc.one (x : T_api_Arc) : (e_T_api_Arc.c x).all V.one = true := rfl
structure T_heap_item_int where
  x : Int
  time : Int
  deriving DecidableEq, Inhabited
abbrev e_T_heap_item_int : Enc T_heap_item_int := ⟨2, fun x => [.i .i64 x.x, .i .i64 x.time], fun _ => rfl⟩
theorem e_T_heap_item_int.one (x : T_heap_item_int) : (e_T_heap_item_int.c x).all V.one = true := rfl
structure T_heap_Heap_int where
  items : List T_heap_item_int
  time : Int
  deriving DecidableEq, Inhabited
abbrev e_u8 : Enc Int := ⟨1, fun x => [.i .u8 x], fun _ => rfl⟩
theorem e_u8.one (x : Int) : (e_u8.c x).all V.one = true := rfl
def Ok_u8 (x : Int) : Prop := Wf .u8 x
def Ok_A3_u8 (x : A3 Int) : Prop := Wf .u8 x.a ∧ Wf .u8 x.b ∧ Wf .u8 x.c
def Ok_A2_u8 (x : A2 Int) : Prop := Wf .u8 x.a ∧ Wf .u8 x.b
/-! muntin/muntinref03.Make -/
def p_muntinref03_Make.s0 (z : T_muntinref03_Raw) (most : Int) : (List T_api_Arc) × Int → Option (((List T_api_Arc) × Int) ⊕ (List T_api_Arc)) := fun (l, i) =>
  if (decide (i < (z.Arcs.length : Int))) && (decide (i < 40)) then
    ck ((0 : Int) ≤ i ∧ i < (z.Arcs.length : Int)) <|
    ck (inK .i64 ((gi z.Arcs (i : Int).toNat).get 0)) <|
    ck (((1 + (z.N.tmod most)) : Int) ≠ 0) <|
    ck (inK .i64 ((gi z.Arcs (i : Int).toNat).get 1)) <|
    (
      if decide ((((gi z.Arcs (i : Int).toNat).get 1).tmod (1 + (z.N.tmod most))) < (((gi z.Arcs (i : Int).toNat).get 0).tmod (1 + (z.N.tmod most)))) then
        some (((gi z.Arcs (i : Int).toNat).get 1).tmod (1 + (z.N.tmod most)), ((gi z.Arcs (i : Int).toNat).get 0).tmod (1 + (z.N.tmod most)))
      else
        some (((gi z.Arcs (i : Int).toNat).get 0).tmod (1 + (z.N.tmod most)), ((gi z.Arcs (i : Int).toNat).get 1).tmod (1 + (z.N.tmod most)))).bind fun (a, b) =>
    if decide (a < b) then
      ck (inK .i64 ((gi z.Arcs (i : Int).toNat).get 2)) <|
      ck (l.length + [(⟨a, b, ((gi z.Arcs (i : Int).toNat).get 2).tmod 8⟩ : T_api_Arc)].length ≤ 1000000000) <|
      ck (in64 (i + 1)) <|
      some (.inl (l ++ [(⟨a, b, ((gi z.Arcs (i : Int).toNat).get 2).tmod 8⟩ : T_api_Arc)], i + 1))
    else
      ck (in64 (i + 1)) <|
      some (.inl (l, i + 1))
  else
    some (.inr l)

def p_muntinref03_Make (z : T_muntinref03_Raw) (most : Int) : Option (Int × (List T_api_Arc)) :=
  ck (inK .i64 z.N) <|
  ck ((most : Int) ≠ 0) <|
  ck (in64 (1 + (z.N.tmod most))) <|
  (loopF (p_muntinref03_Make.s0 z most) big (([] : List T_api_Arc), 0)).bind fun l1 =>
  some (1 + (z.N.tmod most), l1)

/-! slices.IndexFunc[[]muntin/api.Arc,muntin/api.Arc] -/
def p_slices_IndexFunc_api_Arc.s0 (s : List T_api_Arc) (f : T_api_Arc → Option Bool) : Int → Option (Int ⊕ (Unit ⊕ Int)) := fun x =>
  if decide (x < (s.length : Int)) then
    ck ((0 : Int) ≤ x ∧ x < (s.length : Int)) <|
    (f (gi s (x : Int).toNat)).bind fun x2 =>
    if x2 then
      some (.inr (.inr x))
    else
      ck (in64 (x + 1)) <|
      some (.inl (x + 1))
  else
    some (.inr (.inl ()))

def p_slices_IndexFunc_api_Arc (s : List T_api_Arc) (f : T_api_Arc → Option Bool) : Option Int :=
  (
    loopF (p_slices_IndexFunc_api_Arc.s0 s f) big 0 : Option (Unit ⊕ Int)).bind fun o₁ => match o₁ with
  | .inl _ =>
    some (-1)
  | .inr x1 =>
    some x1

/-! slices.ContainsFunc[[]muntin/api.Arc,muntin/api.Arc] -/
def p_slices_ContainsFunc_api_Arc (s : List T_api_Arc) (f : T_api_Arc → Option Bool) : Option Bool :=
  (p_slices_IndexFunc_api_Arc s f).bind fun x =>
  some (decide (0 ≤ x))

/-! muntin/dag.right$1 -/
def p_dag_right_1 (a : T_api_Arc) (c0 : Int) : Option Bool :=
  some ((((((decide (a.From < 0)) || (decide (c0 ≤ a.From))) || (decide (a.To < 0))) || (decide (c0 ≤ a.To))) || (decide (a.Weight < 0))) || (decide (1000000 < a.Weight)))

/-! muntin/dag.right -/
def p_dag_right (n : Int) (arcs : List T_api_Arc) : Option Bool :=
  if ((decide (n < 0)) || (decide (4096 < n))) || (decide (16384 < (arcs.length : Int))) then
    some false
  else
    (p_slices_ContainsFunc_api_Arc arcs (fun y0 => p_dag_right_1 y0 n)).bind fun x =>
    some (!x)

/-! muntin/heap.New[int] -/
def p_heap_New_int (less : Int → Int → Option Bool) : Option T_heap_Heap_int :=
  some (⟨([] : List T_heap_item_int), (0 : Int)⟩ : T_heap_Heap_int)

/-! muntin/dag.Order$1 -/
def p_dag_Order_1 (a : Int) (b : Int) : Option Bool :=
  some (decide (a < b))

/-! (*muntin/heap.Heap[int]).ahead -/
def p_heap_Heap_int_ahead (h_ : T_heap_Heap_int) (i : Int) (k_ : Int) (h__less : Int → Int → Option Bool) : Option Bool :=
  ck ((0 : Int) ≤ i ∧ i < (h_.items.length : Int)) <|
  ck ((0 : Int) ≤ k_ ∧ k_ < (h_.items.length : Int)) <|
  (h__less ((gi h_.items (i : Int).toNat).x) ((gi h_.items (k_ : Int).toNat).x)).bind fun x =>
  if x then
    some true
  else
    (h__less ((gi h_.items (k_ : Int).toNat).x) ((gi h_.items (i : Int).toNat).x)).bind fun x1 =>
    if !x1 then
      some (decide (((gi h_.items (i : Int).toNat).time) < ((gi h_.items (k_ : Int).toNat).time)))
    else
      some false

/-! (*muntin/heap.Heap[int]).swap -/
def p_heap_Heap_int_swap (h_ : T_heap_Heap_int) (i : Int) (k_ : Int) (h__less : Int → Int → Option Bool) : Option T_heap_Heap_int :=
  ck ((0 : Int) ≤ k_ ∧ k_ < (h_.items.length : Int)) <|
  ck ((0 : Int) ≤ i ∧ i < (h_.items.length : Int)) <|
  ck ((0 : Int) ≤ k_ ∧ k_ < ((h_.items.set (i : Int).toNat (gi h_.items (k_ : Int).toNat)).length : Int)) <|
  some (⟨(h_.items.set (i : Int).toNat (gi h_.items (k_ : Int).toNat)).set (k_ : Int).toNat (gi h_.items (i : Int).toNat), h_.time⟩ : T_heap_Heap_int)

/-! (*muntin/heap.Heap[int]).Push -/
def p_heap_Heap_int_Push.s0 (h__less : Int → Int → Option Bool) : (List T_heap_item_int) × Int × Int → Option (((List T_heap_item_int) × Int × Int) ⊕ ((List T_heap_item_int) × Int)) := fun (h_1, h_2, i) =>
  (if decide (0 < i) then
    ck (in64 (i - 1)) <|
    ck ((2 : Int) ≠ 0 ∧ in64 ((i - 1).tdiv 2)) <|
    (p_heap_Heap_int_ahead (⟨h_1, h_2⟩ : T_heap_Heap_int) i ((i - 1).tdiv 2) h__less).bind fun x1 =>
    some x1
  else
    some false).bind fun t =>
  if t then
    ck (in64 (i - 1)) <|
    ck ((2 : Int) ≠ 0 ∧ in64 ((i - 1).tdiv 2)) <|
    (p_heap_Heap_int_swap (⟨h_1, h_2⟩ : T_heap_Heap_int) i ((i - 1).tdiv 2) h__less).bind fun m =>
    some (.inl (m.items, m.time, (i - 1).tdiv 2))
  else
    some (.inr (h_1, h_2))

def p_heap_Heap_int_Push (h_ : T_heap_Heap_int) (x : Int) (h__less : Int → Int → Option Bool) : Option T_heap_Heap_int :=
  ck (in64 (h_.time + 1)) <|
  ck (h_.items.length + [(⟨x, h_.time + 1⟩ : T_heap_item_int)].length ≤ 1000000000) <|
  ck (in64 (((h_.items ++ [(⟨x, h_.time + 1⟩ : T_heap_item_int)]).length : Int) - 1)) <|
  (loopF (p_heap_Heap_int_Push.s0 h__less) big (h_.items ++ [(⟨x, h_.time + 1⟩ : T_heap_item_int)], h_.time + 1, ((h_.items ++ [(⟨x, h_.time + 1⟩ : T_heap_item_int)]).length : Int) - 1)).bind fun (p0, p01) =>
  some (⟨p0, p01⟩ : T_heap_Heap_int)

/-! (*muntin/heap.Heap[int]).Len -/
def p_heap_Heap_int_Len (h_ : T_heap_Heap_int) (h__less : Int → Int → Option Bool) : Option Int :=
  some (h_.items.length : Int)

/-! (*muntin/heap.Heap[int]).Top -/
def p_heap_Heap_int_Top (h_ : T_heap_Heap_int) (h__less : Int → Int → Option Bool) : Option (Int × Bool) :=
  (p_heap_Heap_int_Len h_ h__less).bind fun x =>
  if decide (x = 0) then
    some (0, false)
  else
    ck ((0 : Int) ≤ 0 ∧ 0 < (h_.items.length : Int)) <|
    some ((gi h_.items (0 : Int).toNat).x, true)

/-! (*muntin/heap.Heap[int]).sink -/
def p_heap_Heap_int_sink.s0 (h__less : Int → Int → Option Bool) : (List T_heap_item_int) × Int × Int → Option (((List T_heap_item_int) × Int × Int) ⊕ ((List T_heap_item_int) × Int)) := fun (h_1, h_2, i) =>
  ck (in64 (2 * i)) <|
  ck (in64 ((2 * i) + 1)) <|
  if decide ((h_1.length : Int) ≤ ((2 * i) + 1)) then
    some (.inr (h_1, h_2))
  else
    ck (in64 (((2 * i) + 1) + 1)) <|
    (if decide ((((2 * i) + 1) + 1) < (h_1.length : Int)) then
      (p_heap_Heap_int_ahead (⟨h_1, h_2⟩ : T_heap_Heap_int) (((2 * i) + 1) + 1) ((2 * i) + 1) h__less).bind fun x =>
      some x
    else
      some false).bind fun t =>
    (
      if t then
        some (((2 * i) + 1) + 1)
      else
        some ((2 * i) + 1)).bind fun k_ =>
    (p_heap_Heap_int_ahead (⟨h_1, h_2⟩ : T_heap_Heap_int) k_ i h__less).bind fun x1 =>
    if !x1 then
      some (.inr (h_1, h_2))
    else
      (p_heap_Heap_int_swap (⟨h_1, h_2⟩ : T_heap_Heap_int) i k_ h__less).bind fun m =>
      some (.inl (m.items, m.time, k_))

def p_heap_Heap_int_sink (h_ : T_heap_Heap_int) (h__less : Int → Int → Option Bool) : Option T_heap_Heap_int :=
  (loopF (p_heap_Heap_int_sink.s0 h__less) big (h_.items, h_.time, 0)).bind fun (p0, p01) =>
  some (⟨p0, p01⟩ : T_heap_Heap_int)

/-! (*muntin/heap.Heap[int]).Pop -/
def p_heap_Heap_int_Pop (h_ : T_heap_Heap_int) (h__less : Int → Int → Option Bool) : Option (Int × Bool × T_heap_Heap_int) :=
  (p_heap_Heap_int_Top h_ h__less).bind fun (x, x1) =>
  if !x1 then
    some (x, false, h_)
  else
    ck (in64 ((h_.items.length : Int) - 1)) <|
    (p_heap_Heap_int_swap h_ 0 ((h_.items.length : Int) - 1) h__less).bind fun m =>
    ck ((0 : Int) ≤ ((h_.items.length : Int) - 1) ∧ ((h_.items.length : Int) - 1) ≤ (m.items.length : Int)) <|
    (p_heap_Heap_int_sink (⟨m.items.take ((h_.items.length : Int) - 1 : Int).toNat, m.time⟩ : T_heap_Heap_int) h__less).bind fun m1 =>
    some (x, true, m1)

/-! muntin/dag.Order -/
def p_dag_Order.s0 (arcs : List T_api_Arc) : (List (List Int)) × (List Int) × Int → Option (((List (List Int)) × (List Int) × Int) ⊕ ((List (List Int)) × (List Int))) := fun (next_, open_, x1) =>
  if decide (x1 < (arcs.length : Int)) then
    ck ((0 : Int) ≤ x1 ∧ x1 < (arcs.length : Int)) <|
    ck ((0 : Int) ≤ ((gi arcs (x1 : Int).toNat).From) ∧ ((gi arcs (x1 : Int).toNat).From) < (next_.length : Int)) <|
    ck ((gi next_ ((gi arcs (x1 : Int).toNat).From : Int).toNat).length + [(gi arcs (x1 : Int).toNat).To].length ≤ 1000000000) <|
    ck ((0 : Int) ≤ ((gi arcs (x1 : Int).toNat).To) ∧ ((gi arcs (x1 : Int).toNat).To) < (open_.length : Int)) <|
    ck (in64 ((gi open_ ((gi arcs (x1 : Int).toNat).To : Int).toNat) + 1)) <|
    ck (in64 (x1 + 1)) <|
    some (.inl ((next_.set ((gi arcs (x1 : Int).toNat).From : Int).toNat ((gi next_ ((gi arcs (x1 : Int).toNat).From : Int).toNat) ++ [(gi arcs (x1 : Int).toNat).To])), open_.set ((gi arcs (x1 : Int).toNat).To : Int).toNat ((gi open_ ((gi arcs (x1 : Int).toNat).To : Int).toNat) + 1), x1 + 1))
  else
    some (.inr (next_, open_))

def p_dag_Order.s1 (open_1 : List Int) : (List T_heap_item_int) × Int × Int → Option (((List T_heap_item_int) × Int × Int) ⊕ ((List T_heap_item_int) × Int)) := fun (h_, h_1, x3) =>
  if decide (x3 < (open_1.length : Int)) then
    ck ((0 : Int) ≤ x3 ∧ x3 < (open_1.length : Int)) <|
    if decide (gi open_1 (x3 : Int).toNat = 0) then
      (p_heap_Heap_int_Push (⟨h_, h_1⟩ : T_heap_Heap_int) x3 (fun y0 y1 => p_dag_Order_1 y0 y1)).bind fun m =>
      ck (in64 (x3 + 1)) <|
      some (.inl (m.items, m.time, x3 + 1))
    else
      ck (in64 (x3 + 1)) <|
      some (.inl (h_, h_1, x3 + 1))
  else
    some (.inr (h_, h_1))

def p_dag_Order.s3 (next_1 : List (List Int)) (v : Int) : (List Int) × (List T_heap_item_int) × Int × Int → Option (((List Int) × (List T_heap_item_int) × Int × Int) ⊕ ((List Int) × (List T_heap_item_int) × Int)) := fun (open_3, h_6, h_7, x6) =>
  if decide (x6 < ((gi next_1 (v : Int).toNat).length : Int)) then
    ck ((0 : Int) ≤ x6 ∧ x6 < ((gi next_1 (v : Int).toNat).length : Int)) <|
    ck ((0 : Int) ≤ (gi (gi next_1 (v : Int).toNat) (x6 : Int).toNat) ∧ (gi (gi next_1 (v : Int).toNat) (x6 : Int).toNat) < (open_3.length : Int)) <|
    ck (in64 ((gi open_3 (gi (gi next_1 (v : Int).toNat) (x6 : Int).toNat : Int).toNat) - 1)) <|
    ck ((0 : Int) ≤ (gi (gi next_1 (v : Int).toNat) (x6 : Int).toNat) ∧ (gi (gi next_1 (v : Int).toNat) (x6 : Int).toNat) < ((open_3.set (gi (gi next_1 (v : Int).toNat) (x6 : Int).toNat : Int).toNat ((gi open_3 (gi (gi next_1 (v : Int).toNat) (x6 : Int).toNat : Int).toNat) - 1)).length : Int)) <|
    if decide (gi (open_3.set (gi (gi next_1 (v : Int).toNat) (x6 : Int).toNat : Int).toNat ((gi open_3 (gi (gi next_1 (v : Int).toNat) (x6 : Int).toNat : Int).toNat) - 1)) (gi (gi next_1 (v : Int).toNat) (x6 : Int).toNat : Int).toNat = 0) then
      (p_heap_Heap_int_Push (⟨h_6, h_7⟩ : T_heap_Heap_int) (gi (gi next_1 (v : Int).toNat) (x6 : Int).toNat) (fun y0 y1 => p_dag_Order_1 y0 y1)).bind fun m2 =>
      ck (in64 (x6 + 1)) <|
      some (.inl (open_3.set (gi (gi next_1 (v : Int).toNat) (x6 : Int).toNat : Int).toNat ((gi open_3 (gi (gi next_1 (v : Int).toNat) (x6 : Int).toNat : Int).toNat) - 1), m2.items, m2.time, x6 + 1))
    else
      ck (in64 (x6 + 1)) <|
      some (.inl (open_3.set (gi (gi next_1 (v : Int).toNat) (x6 : Int).toNat : Int).toNat ((gi open_3 (gi (gi next_1 (v : Int).toNat) (x6 : Int).toNat : Int).toNat) - 1), h_6, h_7, x6 + 1))
  else
    some (.inr (open_3, h_6, h_7))

def p_dag_Order.s2 (next_1 : List (List Int)) : (List Int) × (List T_heap_item_int) × Int × (List Int) × Int × Bool → Option (((List Int) × (List T_heap_item_int) × Int × (List Int) × Int × Bool) ⊕ (List Int)) := fun (open_2, h_4, h_5, l, v, ok) =>
  if ok then
    ck (l.length + [v].length ≤ 1000000000) <|
    ck ((0 : Int) ≤ v ∧ v < (next_1.length : Int)) <|
    (loopF (p_dag_Order.s3 next_1 v) big (open_2, h_4, h_5, 0)).bind fun (open_4, h_8, h_9) =>
    (p_heap_Heap_int_Pop (⟨h_8, h_9⟩ : T_heap_Heap_int) (fun y0 y1 => p_dag_Order_1 y0 y1)).bind fun (x7, x8, m3) =>
    some (.inl (open_4, m3.items, m3.time, l ++ [v], x7, x8))
  else
    some (.inr l)

def p_dag_Order (n : Int) (arcs : List T_api_Arc) : Option ((List Int) × Int) :=
  (p_dag_right n arcs).bind fun x =>
  if !x then
    some (([] : List Int), 2)
  else
    ck ((0 : Int) ≤ n ∧ n ≤ 1000000000) <|
    (loopF (p_dag_Order.s0 arcs) big ((List.replicate (n : Int).toNat [] : List (List Int)), List.replicate (n : Int).toNat (0 : Int), 0)).bind fun (next_1, open_1) =>
    (p_heap_New_int (fun y0 y1 => p_dag_Order_1 y0 y1)).bind fun x2 =>
    (loopF (p_dag_Order.s1 open_1) big (x2.items, x2.time, 0)).bind fun (h_2, h_3) =>
    (p_heap_Heap_int_Pop (⟨h_2, h_3⟩ : T_heap_Heap_int) (fun y0 y1 => p_dag_Order_1 y0 y1)).bind fun (x4, x5, m1) =>
    (loopF (p_dag_Order.s2 next_1) big (open_1, m1.items, m1.time, ([] : List Int), x4, x5)).bind fun l1 =>
    if decide ((l1.length : Int) < n) then
      some (([] : List Int), 11)
    else
      some (l1, 0)

/-! muntin/layer.Layers -/
def p_layer_Layers.s0 (arcs : List T_api_Arc) : (List (List Int)) × Int → Option (((List (List Int)) × Int) ⊕ (List (List Int))) := fun (next_, x2) =>
  if decide (x2 < (arcs.length : Int)) then
    ck ((0 : Int) ≤ x2 ∧ x2 < (arcs.length : Int)) <|
    ck ((0 : Int) ≤ ((gi arcs (x2 : Int).toNat).From) ∧ ((gi arcs (x2 : Int).toNat).From) < (next_.length : Int)) <|
    ck ((gi next_ ((gi arcs (x2 : Int).toNat).From : Int).toNat).length + [(gi arcs (x2 : Int).toNat).To].length ≤ 1000000000) <|
    ck (in64 (x2 + 1)) <|
    some (.inl ((next_.set ((gi arcs (x2 : Int).toNat).From : Int).toNat ((gi next_ ((gi arcs (x2 : Int).toNat).From : Int).toNat) ++ [(gi arcs (x2 : Int).toNat).To])), x2 + 1))
  else
    some (.inr next_)

def p_layer_Layers.s2 (x : List Int) (next_1 : List (List Int)) (x4 : Int) : (List Int) × Int → Option (((List Int) × Int) ⊕ (List Int)) := fun (x6, x7) =>
  if decide (x7 < ((gi next_1 (gi x (x4 : Int).toNat : Int).toNat).length : Int)) then
    ck ((0 : Int) ≤ x7 ∧ x7 < ((gi next_1 (gi x (x4 : Int).toNat : Int).toNat).length : Int)) <|
    ck ((0 : Int) ≤ (gi (gi next_1 (gi x (x4 : Int).toNat : Int).toNat) (x7 : Int).toNat) ∧ (gi (gi next_1 (gi x (x4 : Int).toNat : Int).toNat) (x7 : Int).toNat) < (x6.length : Int)) <|
    ck ((0 : Int) ≤ (gi x (x4 : Int).toNat) ∧ (gi x (x4 : Int).toNat) < (x6.length : Int)) <|
    ck (in64 ((gi x6 (gi x (x4 : Int).toNat : Int).toNat) + 1)) <|
    ck (in64 (x7 + 1)) <|
    some (.inl (x6.set (gi (gi next_1 (gi x (x4 : Int).toNat : Int).toNat) (x7 : Int).toNat : Int).toNat (max (gi x6 (gi (gi next_1 (gi x (x4 : Int).toNat : Int).toNat) (x7 : Int).toNat : Int).toNat) ((gi x6 (gi x (x4 : Int).toNat : Int).toNat) + 1)), x7 + 1))
  else
    some (.inr x6)

def p_layer_Layers.s1 (x : List Int) (next_1 : List (List Int)) : (List Int) × Int → Option (((List Int) × Int) ⊕ (List Int)) := fun (x3, x4) =>
  if decide (x4 < (x.length : Int)) then
    ck ((0 : Int) ≤ x4 ∧ x4 < (x.length : Int)) <|
    ck ((0 : Int) ≤ (gi x (x4 : Int).toNat) ∧ (gi x (x4 : Int).toNat) < (next_1.length : Int)) <|
    (loopF (p_layer_Layers.s2 x next_1 x4) big (x3, 0)).bind fun x8 =>
    ck (in64 (x4 + 1)) <|
    some (.inl (x8, x4 + 1))
  else
    some (.inr x3)

def p_layer_Layers (n : Int) (arcs : List T_api_Arc) : Option ((List Int) × Int) :=
  (p_dag_Order n arcs).bind fun (x, x1) =>
  if !(decide (x1 = 0)) then
    some (([] : List Int), x1)
  else
    ck ((0 : Int) ≤ n ∧ n ≤ 1000000000) <|
    (loopF (p_layer_Layers.s0 arcs) big ((List.replicate (n : Int).toNat [] : List (List Int)), 0)).bind fun next_1 =>
    (loopF (p_layer_Layers.s1 x next_1) big (List.replicate (n : Int).toNat (0 : Int), 0)).bind fun x5 =>
    some (x5, 0)

/-! slices.Clone[[]muntin/api.Arc,muntin/api.Arc] -/
def p_slices_Clone_api_Arc (s : List T_api_Arc) : Option (List T_api_Arc) :=
  ck (s.length ≤ 1000000000) <|
  some s
/-! slices.Equal[[]int,int] -/
def p_slices_Equal_int.s0 (s1 : List Int) (s2 : List Int) : Int → Option (Int ⊕ (Unit ⊕ Unit)) := fun x =>
  if decide (x < (s1.length : Int)) then
    ck ((0 : Int) ≤ x ∧ x < (s1.length : Int)) <|
    ck ((0 : Int) ≤ x ∧ x < (s2.length : Int)) <|
    if !(decide (gi s1 (x : Int).toNat = gi s2 (x : Int).toNat)) then
      some (.inr (.inr ()))
    else
      ck (in64 (x + 1)) <|
      some (.inl (x + 1))
  else
    some (.inr (.inl ()))

def p_slices_Equal_int (s1 : List Int) (s2 : List Int) : Option Bool :=
  if !(decide ((s1.length : Int) = (s2.length : Int))) then
    some false
  else
    (
      loopF (p_slices_Equal_int.s0 s1 s2) big 0 : Option (Unit ⊕ Unit)).bind fun o₁ => match o₁ with
    | .inl _ =>
      some true
    | .inr _ =>
      some false

/-! slices.Max[[]int,int] -/
def p_slices_Max_int.s0 (x : List Int) : Int × Int → Option ((Int × Int) ⊕ Int) := fun (m, i) =>
  if decide (i < (x.length : Int)) then
    ck ((0 : Int) ≤ i ∧ i < (x.length : Int)) <|
    ck (in64 (i + 1)) <|
    some (.inl (max m (gi x (i : Int).toNat), i + 1))
  else
    some (.inr m)

def p_slices_Max_int (x : List Int) : Option Int :=
  (
    if decide ((x.length : Int) < 1) then
      none
    else
      some ()).bind fun _ =>
  ck ((0 : Int) ≤ 0 ∧ 0 < (x.length : Int)) <|
  (loopF (p_slices_Max_int.s0 x) big (gi x (0 : Int).toNat, 1)).bind fun m1 =>
  some m1

/-! slices.Min[[]int,int] -/
def p_slices_Min_int.s0 (x : List Int) : Int × Int → Option ((Int × Int) ⊕ Int) := fun (m, i) =>
  if decide (i < (x.length : Int)) then
    ck ((0 : Int) ≤ i ∧ i < (x.length : Int)) <|
    ck (in64 (i + 1)) <|
    some (.inl (min m (gi x (i : Int).toNat), i + 1))
  else
    some (.inr m)

def p_slices_Min_int (x : List Int) : Option Int :=
  (
    if decide ((x.length : Int) < 1) then
      none
    else
      some ()).bind fun _ =>
  ck ((0 : Int) ≤ 0 ∧ 0 < (x.length : Int)) <|
  (loopF (p_slices_Min_int.s0 x) big (gi x (0 : Int).toNat, 1)).bind fun m1 =>
  some m1

/-! muntin/layer.Span -/
def p_layer_Span (x : List Int) : Option Int :=
  if decide ((x.length : Int) = 0) then
    some 0
  else
    (p_slices_Max_int x).bind fun x1 =>
    (p_slices_Min_int x).bind fun x2 =>
    ck (in64 (x1 - x2)) <|
    some (x1 - x2)

/-! muntin/muntinlaw04.wakes -/
def p_muntinlaw04_wakes : Option Bool :=
  (p_layer_Layers 3 [(⟨0, 1, (0 : Int)⟩ : T_api_Arc), (⟨1, 2, (0 : Int)⟩ : T_api_Arc), (⟨0, 2, (0 : Int)⟩ : T_api_Arc)]).bind fun (x, x1) =>
  (p_layer_Layers 1 [(⟨(0 : Int), (0 : Int), (0 : Int)⟩ : T_api_Arc)]).bind fun (x2, x3) =>
  (if decide (x1 = 0) then
    (p_slices_Equal_int x ([0, 1, 2] : List Int)).bind fun x4 =>
    some x4
  else
    some false).bind fun t =>
  (if t && (decide (x3 = 11)) then
    (p_layer_Span x).bind fun x5 =>
    some (decide (x5 = 2))
  else
    some false).bind fun t1 =>
  some t1

/-! muntin/muntinlaw04.LayerMore -/
def p_muntinlaw04_LayerMore.s0 (more : A2 Int) (x : Int) (x2 : List Int) (x9 : List Int) : Int → Option (Int ⊕ (Unit ⊕ Unit)) := fun x11 =>
  if decide (x11 < (x9.length : Int)) then
    ck ((0 : Int) ≤ x11 ∧ x11 < (x9.length : Int)) <|
    ck ((0 : Int) ≤ x11 ∧ x11 < (x2.length : Int)) <|
    if (decide ((gi x9 (x11 : Int).toNat) < (gi x2 (x11 : Int).toNat))) || ((decide (x11 < ((more.get 1).tmod x))) && (!(decide (gi x9 (x11 : Int).toNat = gi x2 (x11 : Int).toNat)))) then
      some (.inr (.inr ()))
    else
      ck (in64 (x11 + 1)) <|
      some (.inl (x11 + 1))
  else
    some (.inr (.inl ()))

def p_muntinlaw04_LayerMore (z : T_muntinref03_Raw) (more : A2 Int) : Option Bool :=
  (p_muntinref03_Make z 20).bind fun (x, x1) =>
  (p_layer_Layers x x1).bind fun (x2, x3) =>
  ck (inK .i64 (more.get 0)) <|
  ck ((x : Int) ≠ 0) <|
  ck (inK .i64 (more.get 1)) <|
  (p_slices_Clone_api_Arc x1).bind fun x4 =>
  ck (x4.length + x1.length ≤ 1000000000) <|
  (p_layer_Layers x (x4 ++ x1)).bind fun (x5, x6) =>
  (p_muntinlaw04_wakes ).bind fun x7 =>
  (if ((!x7) || (!(decide (x3 = 0)))) || (!(decide (x6 = 0))) then
    some true
  else
    (p_slices_Equal_int x5 x2).bind fun x8 =>
    some (!x8)).bind fun t =>
  if t then
    some false
  else
    if decide (((more.get 1).tmod x) ≤ ((more.get 0).tmod x)) then
      some true
    else
      ck ((x4 ++ x1).length + [(⟨(more.get 0).tmod x, (more.get 1).tmod x, (0 : Int)⟩ : T_api_Arc)].length ≤ 1000000000) <|
      (p_layer_Layers x ((x4 ++ x1) ++ [(⟨(more.get 0).tmod x, (more.get 1).tmod x, (0 : Int)⟩ : T_api_Arc)])).bind fun (x9, x10) =>
      if (!(decide (x10 = 0))) || (!(decide ((x9.length : Int) = x))) then
        some false
      else
        (
          loopF (p_muntinlaw04_LayerMore.s0 more x x2 x9) big 0 : Option (Unit ⊕ Unit)).bind fun o₁ => match o₁ with
        | .inl _ =>
          ck ((0 : Int) ≤ ((more.get 1).tmod x) ∧ ((more.get 1).tmod x) < (x9.length : Int)) <|
          ck ((0 : Int) ≤ ((more.get 1).tmod x) ∧ ((more.get 1).tmod x) < (x2.length : Int)) <|
          ck ((0 : Int) ≤ ((more.get 0).tmod x) ∧ ((more.get 0).tmod x) < (x2.length : Int)) <|
          ck (in64 ((gi x2 ((more.get 0).tmod x : Int).toNat) + 1)) <|
          some (decide (gi x9 ((more.get 1).tmod x : Int).toNat = max (gi x2 ((more.get 1).tmod x : Int).toNat) ((gi x2 ((more.get 0).tmod x : Int).toNat) + 1)))
        | .inr _ =>
          some false

end Mu
