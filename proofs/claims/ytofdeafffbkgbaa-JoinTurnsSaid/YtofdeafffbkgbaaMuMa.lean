/- The evaluator's functions are the model's. -/
import Derived.Test.YtofdeafffbkgbaaProg
import Derived.KernelRfl
import Derived.Test.YtofdeafffbkgbaaMuG
import Derived.Test.YtofdeafffbkgbaaMuPa
namespace Mu
open Go.Proofs
def Kl : List (Nat × Nat) := [(6, 103), (23, 66), (26, 33), (33, 28), (34, 29), (35, 116), (36, 31), (37, 117), (38, 49), (39, 118), (53, 68), (65, 77), (66, 82), (71, 46), (72, 63), (73, 64), (74, 65), (75, 67), (76, 53), (77, 35), (78, 32), (79, 136), (94, 90), (95, 89), (101, 83), (105, 97), (106, 98)]
def Kf : Fid := fun f => Kl.lookup f
theorem m6 : nFunc Try.prog Kf Try.f6 = some F_muntinlaw13_JoinTurns := by kernel_rfl
theorem m23 : nFunc Try.prog Kf Try.f23 = some F_grid_Check := by kernel_rfl
theorem m26 : nFunc Try.prog Kf Try.f26 = some F_slices_Equal_int := by kernel_rfl
theorem m33 : nFunc Try.prog Kf Try.f33 = some F_muntinref10_Make := by kernel_rfl
theorem m34 : nFunc Try.prog Kf Try.f34 = some F_join_Parts := by kernel_rfl
theorem m35 : nFunc Try.prog Kf Try.f35 = some F_muntinref10_Turned := by kernel_rfl
theorem m36 : nFunc Try.prog Kf Try.f36 = some F_muntinlaw13_wakes := by kernel_rfl
theorem m37 : nFunc Try.prog Kf Try.f37 = some F_muntinref10_Edge := by kernel_rfl
theorem m38 : nFunc Try.prog Kf Try.f38 = some F_muntinref10_Split := by kernel_rfl
theorem m39 : nFunc Try.prog Kf Try.f39 = some F_slices_Contains_int := by kernel_rfl
theorem m53 : nFunc Try.prog Kf Try.f53 = some F_slices_Reverse_int := by kernel_rfl
theorem m65 : nFunc Try.prog Kf Try.f65 = some F_compass_Left := by kernel_rfl
theorem m66 : nFunc Try.prog Kf Try.f66 = some F_grid_side := by kernel_rfl
theorem m71 : nFunc Try.prog Kf Try.f71 = some F_muntinref10_New := by kernel_rfl
theorem m72 : nFunc Try.prog Kf Try.f72 = some F_muntinref10_Nearest := by kernel_rfl
theorem m73 : nFunc Try.prog Kf Try.f73 = some F_muntinref10_Crossed := by kernel_rfl
theorem m74 : nFunc Try.prog Kf Try.f74 = some F_muntinref10_with := by kernel_rfl
theorem m75 : nFunc Try.prog Kf Try.f75 = some F_join_spread := by kernel_rfl
theorem m76 : nFunc Try.prog Kf Try.f76 = some F_muntinref10_Join := by kernel_rfl
theorem m77 : nFunc Try.prog Kf Try.f77 = some F_join_Path := by kernel_rfl
theorem m78 : nFunc Try.prog Kf Try.f78 = some F_join_Whole := by kernel_rfl
theorem m79 : nFunc Try.prog Kf Try.f79 = some F_slices_Index_int := by kernel_rfl
theorem m94 : nFunc Try.prog Kf Try.f94 = some F_compass_Good := by kernel_rfl
theorem m95 : nFunc Try.prog Kf Try.f95 = some F_bits_Mul := by kernel_rfl
theorem m101 : nFunc Try.prog Kf Try.f101 = some F_slices_Repeat_int := by kernel_rfl
theorem m105 : nFunc Try.prog Kf Try.f105 = some F_bits_Mul32 := by kernel_rfl
theorem m106 : nFunc Try.prog Kf Try.f106 = some F_bits_Mul64 := by kernel_rfl
theorem match_all : Match Try.prog Kf G := Match.of (l := Kl) rfl ⟨⟨_, _, Try.func6, G_F_muntinlaw13_JoinTurns, m6⟩, ⟨⟨_, _, Try.func23, G_F_grid_Check, m23⟩, ⟨⟨_, _, Try.func26, G_F_slices_Equal_int, m26⟩, ⟨⟨_, _, Try.func33, G_F_muntinref10_Make, m33⟩, ⟨⟨_, _, Try.func34, G_F_join_Parts, m34⟩, ⟨⟨_, _, Try.func35, G_F_muntinref10_Turned, m35⟩, ⟨⟨_, _, Try.func36, G_F_muntinlaw13_wakes, m36⟩, ⟨⟨_, _, Try.func37, G_F_muntinref10_Edge, m37⟩, ⟨⟨_, _, Try.func38, G_F_muntinref10_Split, m38⟩, ⟨⟨_, _, Try.func39, G_F_slices_Contains_int, m39⟩, ⟨⟨_, _, Try.func53, G_F_slices_Reverse_int, m53⟩, ⟨⟨_, _, Try.func65, G_F_compass_Left, m65⟩, ⟨⟨_, _, Try.func66, G_F_grid_side, m66⟩, ⟨⟨_, _, Try.func71, G_F_muntinref10_New, m71⟩, ⟨⟨_, _, Try.func72, G_F_muntinref10_Nearest, m72⟩, ⟨⟨_, _, Try.func73, G_F_muntinref10_Crossed, m73⟩, ⟨⟨_, _, Try.func74, G_F_muntinref10_with, m74⟩, ⟨⟨_, _, Try.func75, G_F_join_spread, m75⟩, ⟨⟨_, _, Try.func76, G_F_muntinref10_Join, m76⟩, ⟨⟨_, _, Try.func77, G_F_join_Path, m77⟩, ⟨⟨_, _, Try.func78, G_F_join_Whole, m78⟩, ⟨⟨_, _, Try.func79, G_F_slices_Index_int, m79⟩, ⟨⟨_, _, Try.func94, G_F_compass_Good, m94⟩, ⟨⟨_, _, Try.func95, G_F_bits_Mul, m95⟩, ⟨⟨_, _, Try.func101, G_F_slices_Repeat_int, m101⟩, ⟨⟨_, _, Try.func105, G_F_bits_Mul32, m105⟩, ⟨⟨_, _, Try.func106, G_F_bits_Mul64, m106⟩, trivial⟩⟩⟩⟩⟩⟩⟩⟩⟩⟩⟩⟩⟩⟩⟩⟩⟩⟩⟩⟩⟩⟩⟩⟩⟩⟩⟩
theorem mixed : Try.prog.follows .mixedOrders = true := by kernel_rfl
end Mu
