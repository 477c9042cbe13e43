/- The evaluator's functions are the model's. -/
import Derived.Test.YtofdeafffbkgbaaProg
import Derived.KernelRfl
import Derived.Test.YtofdeafffbkgbaaMuG
import Derived.Test.YtofdeafffbkgbaaMuPa
namespace Mu
open Go.Proofs
def Kl : List (Nat × Nat) := [(14, 111), (23, 66), (33, 28), (44, 120), (54, 129), (55, 130), (56, 131), (57, 132), (58, 133), (59, 40), (60, 134), (65, 77), (66, 82), (71, 46), (72, 63), (73, 64), (74, 65), (76, 53), (80, 137), (88, 144), (89, 145), (90, 146), (91, 147), (92, 148), (93, 149), (94, 90), (95, 89), (101, 83), (104, 151), (105, 97), (106, 98)]
def Kf : Fid := fun f => Kl.lookup f
theorem m14 : nFunc Try.prog Kf Try.f14 = some F_muntinlaw17_ArcsFit := by kernel_rfl
theorem m23 : nFunc Try.prog Kf Try.f23 = some F_grid_Check := by kernel_rfl
theorem m33 : nFunc Try.prog Kf Try.f33 = some F_muntinref10_Make := by kernel_rfl
theorem m44 : nFunc Try.prog Kf Try.f44 = some F_seg_Of := by kernel_rfl
theorem m54 : nFunc Try.prog Kf Try.f54 = some F_arcs_Of := by kernel_rfl
theorem m55 : nFunc Try.prog Kf Try.f55 = some F_muntinlaw17_wakes := by kernel_rfl
theorem m56 : nFunc Try.prog Kf Try.f56 = some F_muntinlaw17_numbers := by kernel_rfl
theorem m57 : nFunc Try.prog Kf Try.f57 = some F_arcs_Place := by kernel_rfl
theorem m58 : nFunc Try.prog Kf Try.f58 = some F_arcs_Length := by kernel_rfl
theorem m59 : nFunc Try.prog Kf Try.f59 = some F_muntinref03_Fit := by kernel_rfl
theorem m60 : nFunc Try.prog Kf Try.f60 = some F_muntinref03_Cost := by kernel_rfl
theorem m65 : nFunc Try.prog Kf Try.f65 = some F_compass_Left := by kernel_rfl
theorem m66 : nFunc Try.prog Kf Try.f66 = some F_grid_side := by kernel_rfl
theorem m71 : nFunc Try.prog Kf Try.f71 = some F_muntinref10_New := by kernel_rfl
theorem m72 : nFunc Try.prog Kf Try.f72 = some F_muntinref10_Nearest := by kernel_rfl
theorem m73 : nFunc Try.prog Kf Try.f73 = some F_muntinref10_Crossed := by kernel_rfl
theorem m74 : nFunc Try.prog Kf Try.f74 = some F_muntinref10_with := by kernel_rfl
theorem m76 : nFunc Try.prog Kf Try.f76 = some F_muntinref10_Join := by kernel_rfl
theorem m80 : nFunc Try.prog Kf Try.f80 = some F_seg_chains := by kernel_rfl
theorem m88 : nFunc Try.prog Kf Try.f88 = some F_arcs_graph := by kernel_rfl
theorem m89 : nFunc Try.prog Kf Try.f89 = some F_muntinlaw17_square := by kernel_rfl
theorem m90 : nFunc Try.prog Kf Try.f90 = some F_slices_ContainsFunc_api_Point := by kernel_rfl
theorem m91 : nFunc Try.prog Kf Try.f91 = some F_arcs_far := by kernel_rfl
theorem m92 : nFunc Try.prog Kf Try.f92 = some F_compass_Between := by kernel_rfl
theorem m93 : nFunc Try.prog Kf Try.f93 = some F_arcs_weight := by kernel_rfl
theorem m94 : nFunc Try.prog Kf Try.f94 = some F_compass_Good := by kernel_rfl
theorem m95 : nFunc Try.prog Kf Try.f95 = some F_bits_Mul := by kernel_rfl
theorem m101 : nFunc Try.prog Kf Try.f101 = some F_slices_Repeat_int := by kernel_rfl
theorem m104 : nFunc Try.prog Kf Try.f104 = some F_slices_IndexFunc_api_Point := by kernel_rfl
theorem m105 : nFunc Try.prog Kf Try.f105 = some F_bits_Mul32 := by kernel_rfl
theorem m106 : nFunc Try.prog Kf Try.f106 = some F_bits_Mul64 := by kernel_rfl
theorem match_all : Match Try.prog Kf G := Match.of (l := Kl) rfl ⟨⟨_, _, Try.func14, G_F_muntinlaw17_ArcsFit, m14⟩, ⟨⟨_, _, Try.func23, G_F_grid_Check, m23⟩, ⟨⟨_, _, Try.func33, G_F_muntinref10_Make, m33⟩, ⟨⟨_, _, Try.func44, G_F_seg_Of, m44⟩, ⟨⟨_, _, Try.func54, G_F_arcs_Of, m54⟩, ⟨⟨_, _, Try.func55, G_F_muntinlaw17_wakes, m55⟩, ⟨⟨_, _, Try.func56, G_F_muntinlaw17_numbers, m56⟩, ⟨⟨_, _, Try.func57, G_F_arcs_Place, m57⟩, ⟨⟨_, _, Try.func58, G_F_arcs_Length, m58⟩, ⟨⟨_, _, Try.func59, G_F_muntinref03_Fit, m59⟩, ⟨⟨_, _, Try.func60, G_F_muntinref03_Cost, m60⟩, ⟨⟨_, _, Try.func65, G_F_compass_Left, m65⟩, ⟨⟨_, _, Try.func66, G_F_grid_side, m66⟩, ⟨⟨_, _, Try.func71, G_F_muntinref10_New, m71⟩, ⟨⟨_, _, Try.func72, G_F_muntinref10_Nearest, m72⟩, ⟨⟨_, _, Try.func73, G_F_muntinref10_Crossed, m73⟩, ⟨⟨_, _, Try.func74, G_F_muntinref10_with, m74⟩, ⟨⟨_, _, Try.func76, G_F_muntinref10_Join, m76⟩, ⟨⟨_, _, Try.func80, G_F_seg_chains, m80⟩, ⟨⟨_, _, Try.func88, G_F_arcs_graph, m88⟩, ⟨⟨_, _, Try.func89, G_F_muntinlaw17_square, m89⟩, ⟨⟨_, _, Try.func90, G_F_slices_ContainsFunc_api_Point, m90⟩, ⟨⟨_, _, Try.func91, G_F_arcs_far, m91⟩, ⟨⟨_, _, Try.func92, G_F_compass_Between, m92⟩, ⟨⟨_, _, Try.func93, G_F_arcs_weight, m93⟩, ⟨⟨_, _, Try.func94, G_F_compass_Good, m94⟩, ⟨⟨_, _, Try.func95, G_F_bits_Mul, m95⟩, ⟨⟨_, _, Try.func101, G_F_slices_Repeat_int, m101⟩, ⟨⟨_, _, Try.func104, G_F_slices_IndexFunc_api_Point, m104⟩, ⟨⟨_, _, Try.func105, G_F_bits_Mul32, m105⟩, ⟨⟨_, _, Try.func106, G_F_bits_Mul64, m106⟩, trivial⟩⟩⟩⟩⟩⟩⟩⟩⟩⟩⟩⟩⟩⟩⟩⟩⟩⟩⟩⟩⟩⟩⟩⟩⟩⟩⟩⟩⟩⟩⟩
theorem mixed : Try.prog.follows .mixedOrders = true := by kernel_rfl
end Mu
