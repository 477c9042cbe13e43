/- The evaluator's functions are the model's. -/
import Derived.Test.YteedifiifkghkaaProg
import Derived.KernelRfl
import Derived.Test.YteedifiifkghkaaMuG
import Derived.Test.YteedifiifkghkaaMuPa
namespace Mu
open Go.Proofs
def Kl : List (Nat × Nat) := [(12, 9), (36, 33), (40, 37), (41, 38), (42, 39), (43, 40), (44, 41), (45, 42), (72, 69), (73, 70), (74, 71), (75, 72), (87, 84), (88, 85), (89, 86), (90, 87), (91, 88), (95, 92), (96, 93), (97, 94), (98, 95), (99, 96), (102, 99)]
def Kf : Fid := fun f => Kl.lookup f
theorem m12 : nFunc Try.prog Kf Try.f12 = some F_muntinlaw04_LayerLeast := by kernel_rfl
theorem m36 : nFunc Try.prog Kf Try.f36 = some F_slices_Equal_int := by kernel_rfl
theorem m40 : nFunc Try.prog Kf Try.f40 = some F_muntinref03_Make := by kernel_rfl
theorem m41 : nFunc Try.prog Kf Try.f41 = some F_layer_Layers := by kernel_rfl
theorem m42 : nFunc Try.prog Kf Try.f42 = some F_muntinlaw04_wakes := by kernel_rfl
theorem m43 : nFunc Try.prog Kf Try.f43 = some F_muntinref03_Fit := by kernel_rfl
theorem m44 : nFunc Try.prog Kf Try.f44 = some F_layer_Span := by kernel_rfl
theorem m45 : nFunc Try.prog Kf Try.f45 = some F_slices_ContainsFunc_api_Arc := by kernel_rfl
theorem m72 : nFunc Try.prog Kf Try.f72 = some F_dag_Order := by kernel_rfl
theorem m73 : nFunc Try.prog Kf Try.f73 = some F_slices_Max_int := by kernel_rfl
theorem m74 : nFunc Try.prog Kf Try.f74 = some F_slices_Min_int := by kernel_rfl
theorem m75 : nFunc Try.prog Kf Try.f75 = some F_slices_IndexFunc_api_Arc := by kernel_rfl
theorem m87 : nFunc Try.prog Kf Try.f87 = some F_dag_right := by kernel_rfl
theorem m88 : nFunc Try.prog Kf Try.f88 = some F_heap_New_int := by kernel_rfl
theorem m89 : nFunc Try.prog Kf Try.f89 = some F_dag_Order_1 := by kernel_rfl
theorem m90 : nFunc Try.prog Kf Try.f90 = some F_heap_Heap_int_Push := by kernel_rfl
theorem m91 : nFunc Try.prog Kf Try.f91 = some F_heap_Heap_int_Pop := by kernel_rfl
theorem m95 : nFunc Try.prog Kf Try.f95 = some F_dag_right_1 := by kernel_rfl
theorem m96 : nFunc Try.prog Kf Try.f96 = some F_heap_Heap_int_ahead := by kernel_rfl
theorem m97 : nFunc Try.prog Kf Try.f97 = some F_heap_Heap_int_swap := by kernel_rfl
theorem m98 : nFunc Try.prog Kf Try.f98 = some F_heap_Heap_int_Top := by kernel_rfl
theorem m99 : nFunc Try.prog Kf Try.f99 = some F_heap_Heap_int_sink := by kernel_rfl
theorem m102 : nFunc Try.prog Kf Try.f102 = some F_heap_Heap_int_Len := by kernel_rfl
theorem match_all : Match Try.prog Kf G := Match.of (l := Kl) rfl ⟨⟨_, _, Try.func12, G_F_muntinlaw04_LayerLeast, m12⟩, ⟨⟨_, _, Try.func36, G_F_slices_Equal_int, m36⟩, ⟨⟨_, _, Try.func40, G_F_muntinref03_Make, m40⟩, ⟨⟨_, _, Try.func41, G_F_layer_Layers, m41⟩, ⟨⟨_, _, Try.func42, G_F_muntinlaw04_wakes, m42⟩, ⟨⟨_, _, Try.func43, G_F_muntinref03_Fit, m43⟩, ⟨⟨_, _, Try.func44, G_F_layer_Span, m44⟩, ⟨⟨_, _, Try.func45, G_F_slices_ContainsFunc_api_Arc, m45⟩, ⟨⟨_, _, Try.func72, G_F_dag_Order, m72⟩, ⟨⟨_, _, Try.func73, G_F_slices_Max_int, m73⟩, ⟨⟨_, _, Try.func74, G_F_slices_Min_int, m74⟩, ⟨⟨_, _, Try.func75, G_F_slices_IndexFunc_api_Arc, m75⟩, ⟨⟨_, _, Try.func87, G_F_dag_right, m87⟩, ⟨⟨_, _, Try.func88, G_F_heap_New_int, m88⟩, ⟨⟨_, _, Try.func89, G_F_dag_Order_1, m89⟩, ⟨⟨_, _, Try.func90, G_F_heap_Heap_int_Push, m90⟩, ⟨⟨_, _, Try.func91, G_F_heap_Heap_int_Pop, m91⟩, ⟨⟨_, _, Try.func95, G_F_dag_right_1, m95⟩, ⟨⟨_, _, Try.func96, G_F_heap_Heap_int_ahead, m96⟩, ⟨⟨_, _, Try.func97, G_F_heap_Heap_int_swap, m97⟩, ⟨⟨_, _, Try.func98, G_F_heap_Heap_int_Top, m98⟩, ⟨⟨_, _, Try.func99, G_F_heap_Heap_int_sink, m99⟩, ⟨⟨_, _, Try.func102, G_F_heap_Heap_int_Len, m102⟩, trivial⟩⟩⟩⟩⟩⟩⟩⟩⟩⟩⟩⟩⟩⟩⟩⟩⟩⟩⟩⟩⟩⟩⟩
theorem mixed : Try.prog.follows .mixedOrders = true := by kernel_rfl
end Mu
