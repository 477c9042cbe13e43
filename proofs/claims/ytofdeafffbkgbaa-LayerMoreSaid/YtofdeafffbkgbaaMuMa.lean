/- The evaluator's functions are the model's. -/
import Derived.Test.YtofdeafffbkgbaaProg
import Derived.KernelRfl
import Derived.Test.YtofdeafffbkgbaaMuG
import Derived.Test.YtofdeafffbkgbaaMuPa
namespace Mu
open Go.Proofs
def Kl : List (Nat × Nat) := [(5, 102), (24, 37), (25, 38), (26, 33), (28, 41), (30, 114), (32, 39), (67, 69), (68, 70), (69, 71), (96, 84), (97, 85), (98, 86), (99, 87), (100, 88), (107, 42), (108, 92), (109, 93), (110, 94), (111, 95), (112, 96), (113, 72), (114, 99)]
def Kf : Fid := fun f => Kl.lookup f
theorem m5 : nFunc Try.prog Kf Try.f5 = some F_muntinlaw04_LayerMore := by kernel_rfl
theorem m24 : nFunc Try.prog Kf Try.f24 = some F_muntinref03_Make := by kernel_rfl
theorem m25 : nFunc Try.prog Kf Try.f25 = some F_layer_Layers := by kernel_rfl
theorem m26 : nFunc Try.prog Kf Try.f26 = some F_slices_Equal_int := by kernel_rfl
theorem m28 : nFunc Try.prog Kf Try.f28 = some F_layer_Span := by kernel_rfl
theorem m30 : nFunc Try.prog Kf Try.f30 = some F_slices_Clone_api_Arc := by kernel_rfl
theorem m32 : nFunc Try.prog Kf Try.f32 = some F_muntinlaw04_wakes := by kernel_rfl
theorem m67 : nFunc Try.prog Kf Try.f67 = some F_dag_Order := by kernel_rfl
theorem m68 : nFunc Try.prog Kf Try.f68 = some F_slices_Max_int := by kernel_rfl
theorem m69 : nFunc Try.prog Kf Try.f69 = some F_slices_Min_int := by kernel_rfl
theorem m96 : nFunc Try.prog Kf Try.f96 = some F_dag_right := by kernel_rfl
theorem m97 : nFunc Try.prog Kf Try.f97 = some F_heap_New_int := by kernel_rfl
theorem m98 : nFunc Try.prog Kf Try.f98 = some F_dag_Order_1 := by kernel_rfl
theorem m99 : nFunc Try.prog Kf Try.f99 = some F_heap_Heap_int_Push := by kernel_rfl
theorem m100 : nFunc Try.prog Kf Try.f100 = some F_heap_Heap_int_Pop := by kernel_rfl
theorem m107 : nFunc Try.prog Kf Try.f107 = some F_slices_ContainsFunc_api_Arc := by kernel_rfl
theorem m108 : nFunc Try.prog Kf Try.f108 = some F_dag_right_1 := by kernel_rfl
theorem m109 : nFunc Try.prog Kf Try.f109 = some F_heap_Heap_int_ahead := by kernel_rfl
theorem m110 : nFunc Try.prog Kf Try.f110 = some F_heap_Heap_int_swap := by kernel_rfl
theorem m111 : nFunc Try.prog Kf Try.f111 = some F_heap_Heap_int_Top := by kernel_rfl
theorem m112 : nFunc Try.prog Kf Try.f112 = some F_heap_Heap_int_sink := by kernel_rfl
theorem m113 : nFunc Try.prog Kf Try.f113 = some F_slices_IndexFunc_api_Arc := by kernel_rfl
theorem m114 : nFunc Try.prog Kf Try.f114 = some F_heap_Heap_int_Len := by kernel_rfl
theorem match_all : Match Try.prog Kf G := Match.of (l := Kl) rfl ⟨⟨_, _, Try.func5, G_F_muntinlaw04_LayerMore, m5⟩, ⟨⟨_, _, Try.func24, G_F_muntinref03_Make, m24⟩, ⟨⟨_, _, Try.func25, G_F_layer_Layers, m25⟩, ⟨⟨_, _, Try.func26, G_F_slices_Equal_int, m26⟩, ⟨⟨_, _, Try.func28, G_F_layer_Span, m28⟩, ⟨⟨_, _, Try.func30, G_F_slices_Clone_api_Arc, m30⟩, ⟨⟨_, _, Try.func32, G_F_muntinlaw04_wakes, m32⟩, ⟨⟨_, _, Try.func67, G_F_dag_Order, m67⟩, ⟨⟨_, _, Try.func68, G_F_slices_Max_int, m68⟩, ⟨⟨_, _, Try.func69, G_F_slices_Min_int, m69⟩, ⟨⟨_, _, Try.func96, G_F_dag_right, m96⟩, ⟨⟨_, _, Try.func97, G_F_heap_New_int, m97⟩, ⟨⟨_, _, Try.func98, G_F_dag_Order_1, m98⟩, ⟨⟨_, _, Try.func99, G_F_heap_Heap_int_Push, m99⟩, ⟨⟨_, _, Try.func100, G_F_heap_Heap_int_Pop, m100⟩, ⟨⟨_, _, Try.func107, G_F_slices_ContainsFunc_api_Arc, m107⟩, ⟨⟨_, _, Try.func108, G_F_dag_right_1, m108⟩, ⟨⟨_, _, Try.func109, G_F_heap_Heap_int_ahead, m109⟩, ⟨⟨_, _, Try.func110, G_F_heap_Heap_int_swap, m110⟩, ⟨⟨_, _, Try.func111, G_F_heap_Heap_int_Top, m111⟩, ⟨⟨_, _, Try.func112, G_F_heap_Heap_int_sink, m112⟩, ⟨⟨_, _, Try.func113, G_F_slices_IndexFunc_api_Arc, m113⟩, ⟨⟨_, _, Try.func114, G_F_heap_Heap_int_Len, m114⟩, trivial⟩⟩⟩⟩⟩⟩⟩⟩⟩⟩⟩⟩⟩⟩⟩⟩⟩⟩⟩⟩⟩⟩⟩
theorem mixed : Try.prog.follows .mixedOrders = true := by kernel_rfl
end Mu
