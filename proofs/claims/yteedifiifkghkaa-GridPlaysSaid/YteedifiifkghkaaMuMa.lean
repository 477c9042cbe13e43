/- The evaluator's functions are the model's. -/
import Derived.Test.YteedifiifkghkaaProg
import Derived.KernelRfl
import Derived.Test.YteedifiifkghkaaMuG
import Derived.Test.YteedifiifkghkaaMuPa
namespace Mu
open Go.Proofs
def Kl : List (Nat × Nat) := [(14, 11), (48, 45), (49, 46), (50, 47), (51, 48), (52, 49), (53, 50), (54, 51), (55, 52), (56, 53), (57, 54), (58, 55), (59, 56), (60, 57), (68, 65), (69, 66), (76, 73), (77, 74), (78, 75), (79, 76), (80, 77), (85, 82), (92, 89), (93, 90), (100, 97), (101, 98)]
def Kf : Fid := fun f => Kl.lookup f
theorem m14 : nFunc Try.prog Kf Try.f14 = some F_muntinlaw10_GridPlays := by kernel_rfl
theorem m48 : nFunc Try.prog Kf Try.f48 = some F_grid_New := by kernel_rfl
theorem m49 : nFunc Try.prog Kf Try.f49 = some F_muntinref10_New := by kernel_rfl
theorem m50 : nFunc Try.prog Kf Try.f50 = some F_muntinlaw10_wakes := by kernel_rfl
theorem m51 : nFunc Try.prog Kf Try.f51 = some F_grid_Grid_Split := by kernel_rfl
theorem m52 : nFunc Try.prog Kf Try.f52 = some F_muntinref10_Split := by kernel_rfl
theorem m53 : nFunc Try.prog Kf Try.f53 = some F_grid_Grid_Add := by kernel_rfl
theorem m54 : nFunc Try.prog Kf Try.f54 = some F_slices_Clone_api_Cell := by kernel_rfl
theorem m55 : nFunc Try.prog Kf Try.f55 = some F_grid_Grid_Join := by kernel_rfl
theorem m56 : nFunc Try.prog Kf Try.f56 = some F_muntinref10_Join := by kernel_rfl
theorem m57 : nFunc Try.prog Kf Try.f57 = some F_grid_Grid_Next := by kernel_rfl
theorem m58 : nFunc Try.prog Kf Try.f58 = some F_grid_Grid_Len := by kernel_rfl
theorem m59 : nFunc Try.prog Kf Try.f59 = some F_muntinref10_Same := by kernel_rfl
theorem m60 : nFunc Try.prog Kf Try.f60 = some F_grid_Grid_Cells := by kernel_rfl
theorem m68 : nFunc Try.prog Kf Try.f68 = some F_muntinref10_with := by kernel_rfl
theorem m69 : nFunc Try.prog Kf Try.f69 = some F_grid_Check := by kernel_rfl
theorem m76 : nFunc Try.prog Kf Try.f76 = some F_slices_Repeat_api_Cell := by kernel_rfl
theorem m77 : nFunc Try.prog Kf Try.f77 = some F_grid_empty := by kernel_rfl
theorem m78 : nFunc Try.prog Kf Try.f78 = some F_grid_Grid_is := by kernel_rfl
theorem m79 : nFunc Try.prog Kf Try.f79 = some F_grid_Grid_lay := by kernel_rfl
theorem m80 : nFunc Try.prog Kf Try.f80 = some F_compass_Left := by kernel_rfl
theorem m85 : nFunc Try.prog Kf Try.f85 = some F_grid_side := by kernel_rfl
theorem m92 : nFunc Try.prog Kf Try.f92 = some F_bits_Mul := by kernel_rfl
theorem m93 : nFunc Try.prog Kf Try.f93 = some F_compass_Good := by kernel_rfl
theorem m100 : nFunc Try.prog Kf Try.f100 = some F_bits_Mul32 := by kernel_rfl
theorem m101 : nFunc Try.prog Kf Try.f101 = some F_bits_Mul64 := by kernel_rfl
theorem match_all : Match Try.prog Kf G := Match.of (l := Kl) rfl ⟨⟨_, _, Try.func14, G_F_muntinlaw10_GridPlays, m14⟩, ⟨⟨_, _, Try.func48, G_F_grid_New, m48⟩, ⟨⟨_, _, Try.func49, G_F_muntinref10_New, m49⟩, ⟨⟨_, _, Try.func50, G_F_muntinlaw10_wakes, m50⟩, ⟨⟨_, _, Try.func51, G_F_grid_Grid_Split, m51⟩, ⟨⟨_, _, Try.func52, G_F_muntinref10_Split, m52⟩, ⟨⟨_, _, Try.func53, G_F_grid_Grid_Add, m53⟩, ⟨⟨_, _, Try.func54, G_F_slices_Clone_api_Cell, m54⟩, ⟨⟨_, _, Try.func55, G_F_grid_Grid_Join, m55⟩, ⟨⟨_, _, Try.func56, G_F_muntinref10_Join, m56⟩, ⟨⟨_, _, Try.func57, G_F_grid_Grid_Next, m57⟩, ⟨⟨_, _, Try.func58, G_F_grid_Grid_Len, m58⟩, ⟨⟨_, _, Try.func59, G_F_muntinref10_Same, m59⟩, ⟨⟨_, _, Try.func60, G_F_grid_Grid_Cells, m60⟩, ⟨⟨_, _, Try.func68, G_F_muntinref10_with, m68⟩, ⟨⟨_, _, Try.func69, G_F_grid_Check, m69⟩, ⟨⟨_, _, Try.func76, G_F_slices_Repeat_api_Cell, m76⟩, ⟨⟨_, _, Try.func77, G_F_grid_empty, m77⟩, ⟨⟨_, _, Try.func78, G_F_grid_Grid_is, m78⟩, ⟨⟨_, _, Try.func79, G_F_grid_Grid_lay, m79⟩, ⟨⟨_, _, Try.func80, G_F_compass_Left, m80⟩, ⟨⟨_, _, Try.func85, G_F_grid_side, m85⟩, ⟨⟨_, _, Try.func92, G_F_bits_Mul, m92⟩, ⟨⟨_, _, Try.func93, G_F_compass_Good, m93⟩, ⟨⟨_, _, Try.func100, G_F_bits_Mul32, m100⟩, ⟨⟨_, _, Try.func101, G_F_bits_Mul64, m101⟩, trivial⟩⟩⟩⟩⟩⟩⟩⟩⟩⟩⟩⟩⟩⟩⟩⟩⟩⟩⟩⟩⟩⟩⟩⟩⟩⟩
theorem mixed : Try.prog.follows .mixedOrders = true := by kernel_rfl
end Mu
