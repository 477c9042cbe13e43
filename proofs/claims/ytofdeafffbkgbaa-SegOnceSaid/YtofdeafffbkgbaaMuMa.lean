/- The evaluator's functions are the model's. -/
import Derived.Test.YtofdeafffbkgbaaProg
import Derived.KernelRfl
import Derived.Test.YtofdeafffbkgbaaMuG
import Derived.Test.YtofdeafffbkgbaaMuPa
namespace Mu
open Go.Proofs
def Kl : List (Nat × Nat) := [(11, 108), (23, 66), (26, 33), (33, 28), (39, 118), (44, 120), (46, 122), (47, 123), (50, 126), (65, 77), (66, 82), (71, 46), (72, 63), (73, 64), (74, 65), (76, 53), (79, 136), (80, 137), (82, 139), (83, 140), (84, 78), (85, 141), (94, 90), (95, 89), (101, 83), (103, 91), (105, 97), (106, 98)]
def Kf : Fid := fun f => Kl.lookup f
theorem m11 : nFunc Try.prog Kf Try.f11 = some F_muntinlaw16_SegOnce := by kernel_rfl
theorem m23 : nFunc Try.prog Kf Try.f23 = some F_grid_Check := by kernel_rfl
theorem m26 : nFunc Try.prog Kf Try.f26 = some F_slices_Equal_int := by kernel_rfl
theorem m33 : nFunc Try.prog Kf Try.f33 = some F_muntinref10_Make := by kernel_rfl
theorem m39 : nFunc Try.prog Kf Try.f39 = some F_slices_Contains_int := by kernel_rfl
theorem m44 : nFunc Try.prog Kf Try.f44 = some F_seg_Of := by kernel_rfl
theorem m46 : nFunc Try.prog Kf Try.f46 = some F_muntinlaw16_wakes := by kernel_rfl
theorem m47 : nFunc Try.prog Kf Try.f47 = some F_seg_Chains_Meet := by kernel_rfl
theorem m50 : nFunc Try.prog Kf Try.f50 = some F_seg_Chains_Span := by kernel_rfl
theorem m65 : nFunc Try.prog Kf Try.f65 = some F_compass_Left := by kernel_rfl
theorem m66 : nFunc Try.prog Kf Try.f66 = some F_grid_side := by kernel_rfl
theorem m71 : nFunc Try.prog Kf Try.f71 = some F_muntinref10_New := by kernel_rfl
theorem m72 : nFunc Try.prog Kf Try.f72 = some F_muntinref10_Nearest := by kernel_rfl
theorem m73 : nFunc Try.prog Kf Try.f73 = some F_muntinref10_Crossed := by kernel_rfl
theorem m74 : nFunc Try.prog Kf Try.f74 = some F_muntinref10_with := by kernel_rfl
theorem m76 : nFunc Try.prog Kf Try.f76 = some F_muntinref10_Join := by kernel_rfl
theorem m79 : nFunc Try.prog Kf Try.f79 = some F_slices_Index_int := by kernel_rfl
theorem m80 : nFunc Try.prog Kf Try.f80 = some F_seg_chains := by kernel_rfl
theorem m82 : nFunc Try.prog Kf Try.f82 = some F_muntinlaw16_square := by kernel_rfl
theorem m83 : nFunc Try.prog Kf Try.f83 = some F_seg_Chains_chain := by kernel_rfl
theorem m84 : nFunc Try.prog Kf Try.f84 = some F_slices_ContainsFunc_int := by kernel_rfl
theorem m85 : nFunc Try.prog Kf Try.f85 = some F_seg_Chains_Meet_1 := by kernel_rfl
theorem m94 : nFunc Try.prog Kf Try.f94 = some F_compass_Good := by kernel_rfl
theorem m95 : nFunc Try.prog Kf Try.f95 = some F_bits_Mul := by kernel_rfl
theorem m101 : nFunc Try.prog Kf Try.f101 = some F_slices_Repeat_int := by kernel_rfl
theorem m103 : nFunc Try.prog Kf Try.f103 = some F_slices_IndexFunc_int := by kernel_rfl
theorem m105 : nFunc Try.prog Kf Try.f105 = some F_bits_Mul32 := by kernel_rfl
theorem m106 : nFunc Try.prog Kf Try.f106 = some F_bits_Mul64 := by kernel_rfl
theorem match_all : Match Try.prog Kf G := Match.of (l := Kl) rfl ⟨⟨_, _, Try.func11, G_F_muntinlaw16_SegOnce, m11⟩, ⟨⟨_, _, Try.func23, G_F_grid_Check, m23⟩, ⟨⟨_, _, Try.func26, G_F_slices_Equal_int, m26⟩, ⟨⟨_, _, Try.func33, G_F_muntinref10_Make, m33⟩, ⟨⟨_, _, Try.func39, G_F_slices_Contains_int, m39⟩, ⟨⟨_, _, Try.func44, G_F_seg_Of, m44⟩, ⟨⟨_, _, Try.func46, G_F_muntinlaw16_wakes, m46⟩, ⟨⟨_, _, Try.func47, G_F_seg_Chains_Meet, m47⟩, ⟨⟨_, _, Try.func50, G_F_seg_Chains_Span, m50⟩, ⟨⟨_, _, Try.func65, G_F_compass_Left, m65⟩, ⟨⟨_, _, Try.func66, G_F_grid_side, m66⟩, ⟨⟨_, _, Try.func71, G_F_muntinref10_New, m71⟩, ⟨⟨_, _, Try.func72, G_F_muntinref10_Nearest, m72⟩, ⟨⟨_, _, Try.func73, G_F_muntinref10_Crossed, m73⟩, ⟨⟨_, _, Try.func74, G_F_muntinref10_with, m74⟩, ⟨⟨_, _, Try.func76, G_F_muntinref10_Join, m76⟩, ⟨⟨_, _, Try.func79, G_F_slices_Index_int, m79⟩, ⟨⟨_, _, Try.func80, G_F_seg_chains, m80⟩, ⟨⟨_, _, Try.func82, G_F_muntinlaw16_square, m82⟩, ⟨⟨_, _, Try.func83, G_F_seg_Chains_chain, m83⟩, ⟨⟨_, _, Try.func84, G_F_slices_ContainsFunc_int, m84⟩, ⟨⟨_, _, Try.func85, G_F_seg_Chains_Meet_1, m85⟩, ⟨⟨_, _, Try.func94, G_F_compass_Good, m94⟩, ⟨⟨_, _, Try.func95, G_F_bits_Mul, m95⟩, ⟨⟨_, _, Try.func101, G_F_slices_Repeat_int, m101⟩, ⟨⟨_, _, Try.func103, G_F_slices_IndexFunc_int, m103⟩, ⟨⟨_, _, Try.func105, G_F_bits_Mul32, m105⟩, ⟨⟨_, _, Try.func106, G_F_bits_Mul64, m106⟩, trivial⟩⟩⟩⟩⟩⟩⟩⟩⟩⟩⟩⟩⟩⟩⟩⟩⟩⟩⟩⟩⟩⟩⟩⟩⟩⟩⟩⟩
theorem mixed : Try.prog.follows .mixedOrders = true := by kernel_rfl
end Mu
