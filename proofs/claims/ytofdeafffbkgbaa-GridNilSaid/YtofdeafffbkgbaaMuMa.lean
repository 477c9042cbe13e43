/- The evaluator's functions are the model's. -/
import Derived.Test.YtofdeafffbkgbaaProg
import Derived.KernelRfl
import Derived.Test.YtofdeafffbkgbaaMuG
import Derived.Test.YtofdeafffbkgbaaMuPa
namespace Mu
open Go.Proofs
def Kl : List (Nat × Nat) := [(3, 100), (15, 54), (16, 50), (17, 48), (18, 45), (19, 52), (20, 47), (21, 55), (22, 57), (23, 66), (40, 51), (61, 75), (62, 74), (63, 76), (64, 73), (65, 77), (66, 82), (94, 90), (95, 89), (105, 97), (106, 98)]
def Kf : Fid := fun f => Kl.lookup f
theorem m3 : nFunc Try.prog Kf Try.f3 = some F_muntinlaw10_GridNil := by kernel_rfl
theorem m15 : nFunc Try.prog Kf Try.f15 = some F_grid_Grid_Next := by kernel_rfl
theorem m16 : nFunc Try.prog Kf Try.f16 = some F_grid_Grid_Add := by kernel_rfl
theorem m17 : nFunc Try.prog Kf Try.f17 = some F_grid_Grid_Split := by kernel_rfl
theorem m18 : nFunc Try.prog Kf Try.f18 = some F_grid_New := by kernel_rfl
theorem m19 : nFunc Try.prog Kf Try.f19 = some F_grid_Grid_Join := by kernel_rfl
theorem m20 : nFunc Try.prog Kf Try.f20 = some F_muntinlaw10_wakes := by kernel_rfl
theorem m21 : nFunc Try.prog Kf Try.f21 = some F_grid_Grid_Len := by kernel_rfl
theorem m22 : nFunc Try.prog Kf Try.f22 = some F_grid_Grid_Cells := by kernel_rfl
theorem m23 : nFunc Try.prog Kf Try.f23 = some F_grid_Check := by kernel_rfl
theorem m40 : nFunc Try.prog Kf Try.f40 = some F_slices_Clone_api_Cell := by kernel_rfl
theorem m61 : nFunc Try.prog Kf Try.f61 = some F_grid_Grid_is := by kernel_rfl
theorem m62 : nFunc Try.prog Kf Try.f62 = some F_grid_empty := by kernel_rfl
theorem m63 : nFunc Try.prog Kf Try.f63 = some F_grid_Grid_lay := by kernel_rfl
theorem m64 : nFunc Try.prog Kf Try.f64 = some F_slices_Repeat_api_Cell := by kernel_rfl
theorem m65 : nFunc Try.prog Kf Try.f65 = some F_compass_Left := by kernel_rfl
theorem m66 : nFunc Try.prog Kf Try.f66 = some F_grid_side := by kernel_rfl
theorem m94 : nFunc Try.prog Kf Try.f94 = some F_compass_Good := by kernel_rfl
theorem m95 : nFunc Try.prog Kf Try.f95 = some F_bits_Mul := by kernel_rfl
theorem m105 : nFunc Try.prog Kf Try.f105 = some F_bits_Mul32 := by kernel_rfl
theorem m106 : nFunc Try.prog Kf Try.f106 = some F_bits_Mul64 := by kernel_rfl
theorem match_all : Match Try.prog Kf G := Match.of (l := Kl) rfl ⟨⟨_, _, Try.func3, G_F_muntinlaw10_GridNil, m3⟩, ⟨⟨_, _, Try.func15, G_F_grid_Grid_Next, m15⟩, ⟨⟨_, _, Try.func16, G_F_grid_Grid_Add, m16⟩, ⟨⟨_, _, Try.func17, G_F_grid_Grid_Split, m17⟩, ⟨⟨_, _, Try.func18, G_F_grid_New, m18⟩, ⟨⟨_, _, Try.func19, G_F_grid_Grid_Join, m19⟩, ⟨⟨_, _, Try.func20, G_F_muntinlaw10_wakes, m20⟩, ⟨⟨_, _, Try.func21, G_F_grid_Grid_Len, m21⟩, ⟨⟨_, _, Try.func22, G_F_grid_Grid_Cells, m22⟩, ⟨⟨_, _, Try.func23, G_F_grid_Check, m23⟩, ⟨⟨_, _, Try.func40, G_F_slices_Clone_api_Cell, m40⟩, ⟨⟨_, _, Try.func61, G_F_grid_Grid_is, m61⟩, ⟨⟨_, _, Try.func62, G_F_grid_empty, m62⟩, ⟨⟨_, _, Try.func63, G_F_grid_Grid_lay, m63⟩, ⟨⟨_, _, Try.func64, G_F_slices_Repeat_api_Cell, m64⟩, ⟨⟨_, _, Try.func65, G_F_compass_Left, m65⟩, ⟨⟨_, _, Try.func66, G_F_grid_side, m66⟩, ⟨⟨_, _, Try.func94, G_F_compass_Good, m94⟩, ⟨⟨_, _, Try.func95, G_F_bits_Mul, m95⟩, ⟨⟨_, _, Try.func105, G_F_bits_Mul32, m105⟩, ⟨⟨_, _, Try.func106, G_F_bits_Mul64, m106⟩, trivial⟩⟩⟩⟩⟩⟩⟩⟩⟩⟩⟩⟩⟩⟩⟩⟩⟩⟩⟩⟩⟩
theorem mixed : Try.prog.follows .mixedOrders = true := by kernel_rfl
end Mu
