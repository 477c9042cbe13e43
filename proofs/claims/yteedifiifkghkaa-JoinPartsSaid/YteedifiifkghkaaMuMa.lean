/- The evaluator's functions are the model's. -/
import Derived.Test.YteedifiifkghkaaProg
import Derived.KernelRfl
import Derived.Test.YteedifiifkghkaaMuG
import Derived.Test.YteedifiifkghkaaMuPa
namespace Mu
open Go.Proofs
def Kl : List (Nat × Nat) := [(9, 6), (31, 28), (32, 29), (33, 30), (34, 31), (35, 32), (36, 33), (37, 34), (38, 35), (39, 36), (49, 46), (56, 53), (66, 63), (67, 64), (68, 65), (69, 66), (70, 67), (71, 68), (80, 77), (85, 82), (86, 83), (92, 89), (93, 90), (100, 97), (101, 98)]
def Kf : Fid := fun f => Kl.lookup f
theorem m9 : nFunc Try.prog Kf Try.f9 = some F_muntinlaw13_JoinParts := by kernel_rfl
theorem m31 : nFunc Try.prog Kf Try.f31 = some F_muntinref10_Make := by kernel_rfl
theorem m32 : nFunc Try.prog Kf Try.f32 = some F_join_Parts := by kernel_rfl
theorem m33 : nFunc Try.prog Kf Try.f33 = some F_muntinref13_Parts := by kernel_rfl
theorem m34 : nFunc Try.prog Kf Try.f34 = some F_muntinlaw13_wakes := by kernel_rfl
theorem m35 : nFunc Try.prog Kf Try.f35 = some F_join_Whole := by kernel_rfl
theorem m36 : nFunc Try.prog Kf Try.f36 = some F_slices_Equal_int := by kernel_rfl
theorem m37 : nFunc Try.prog Kf Try.f37 = some F_muntinref10_Check := by kernel_rfl
theorem m38 : nFunc Try.prog Kf Try.f38 = some F_join_Path := by kernel_rfl
theorem m39 : nFunc Try.prog Kf Try.f39 = some F_muntinref13_Far := by kernel_rfl
theorem m49 : nFunc Try.prog Kf Try.f49 = some F_muntinref10_New := by kernel_rfl
theorem m56 : nFunc Try.prog Kf Try.f56 = some F_muntinref10_Join := by kernel_rfl
theorem m66 : nFunc Try.prog Kf Try.f66 = some F_muntinref10_Nearest := by kernel_rfl
theorem m67 : nFunc Try.prog Kf Try.f67 = some F_muntinref10_Crossed := by kernel_rfl
theorem m68 : nFunc Try.prog Kf Try.f68 = some F_muntinref10_with := by kernel_rfl
theorem m69 : nFunc Try.prog Kf Try.f69 = some F_grid_Check := by kernel_rfl
theorem m70 : nFunc Try.prog Kf Try.f70 = some F_join_spread := by kernel_rfl
theorem m71 : nFunc Try.prog Kf Try.f71 = some F_slices_Reverse_int := by kernel_rfl
theorem m80 : nFunc Try.prog Kf Try.f80 = some F_compass_Left := by kernel_rfl
theorem m85 : nFunc Try.prog Kf Try.f85 = some F_grid_side := by kernel_rfl
theorem m86 : nFunc Try.prog Kf Try.f86 = some F_slices_Repeat_int := by kernel_rfl
theorem m92 : nFunc Try.prog Kf Try.f92 = some F_bits_Mul := by kernel_rfl
theorem m93 : nFunc Try.prog Kf Try.f93 = some F_compass_Good := by kernel_rfl
theorem m100 : nFunc Try.prog Kf Try.f100 = some F_bits_Mul32 := by kernel_rfl
theorem m101 : nFunc Try.prog Kf Try.f101 = some F_bits_Mul64 := by kernel_rfl
theorem match_all : Match Try.prog Kf G := Match.of (l := Kl) rfl ⟨⟨_, _, Try.func9, G_F_muntinlaw13_JoinParts, m9⟩, ⟨⟨_, _, Try.func31, G_F_muntinref10_Make, m31⟩, ⟨⟨_, _, Try.func32, G_F_join_Parts, m32⟩, ⟨⟨_, _, Try.func33, G_F_muntinref13_Parts, m33⟩, ⟨⟨_, _, Try.func34, G_F_muntinlaw13_wakes, m34⟩, ⟨⟨_, _, Try.func35, G_F_join_Whole, m35⟩, ⟨⟨_, _, Try.func36, G_F_slices_Equal_int, m36⟩, ⟨⟨_, _, Try.func37, G_F_muntinref10_Check, m37⟩, ⟨⟨_, _, Try.func38, G_F_join_Path, m38⟩, ⟨⟨_, _, Try.func39, G_F_muntinref13_Far, m39⟩, ⟨⟨_, _, Try.func49, G_F_muntinref10_New, m49⟩, ⟨⟨_, _, Try.func56, G_F_muntinref10_Join, m56⟩, ⟨⟨_, _, Try.func66, G_F_muntinref10_Nearest, m66⟩, ⟨⟨_, _, Try.func67, G_F_muntinref10_Crossed, m67⟩, ⟨⟨_, _, Try.func68, G_F_muntinref10_with, m68⟩, ⟨⟨_, _, Try.func69, G_F_grid_Check, m69⟩, ⟨⟨_, _, Try.func70, G_F_join_spread, m70⟩, ⟨⟨_, _, Try.func71, G_F_slices_Reverse_int, m71⟩, ⟨⟨_, _, Try.func80, G_F_compass_Left, m80⟩, ⟨⟨_, _, Try.func85, G_F_grid_side, m85⟩, ⟨⟨_, _, Try.func86, G_F_slices_Repeat_int, m86⟩, ⟨⟨_, _, Try.func92, G_F_bits_Mul, m92⟩, ⟨⟨_, _, Try.func93, G_F_compass_Good, m93⟩, ⟨⟨_, _, Try.func100, G_F_bits_Mul32, m100⟩, ⟨⟨_, _, Try.func101, G_F_bits_Mul64, m101⟩, trivial⟩⟩⟩⟩⟩⟩⟩⟩⟩⟩⟩⟩⟩⟩⟩⟩⟩⟩⟩⟩⟩⟩⟩⟩⟩
theorem mixed : Try.prog.follows .mixedOrders = true := by kernel_rfl
end Mu
