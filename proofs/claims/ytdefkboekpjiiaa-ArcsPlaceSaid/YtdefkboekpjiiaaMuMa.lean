/- The evaluator's functions are the model's. -/
import Derived.Test.YtdefkboekpjiiaaProg
import Derived.KernelRfl
import Derived.Test.YtdefkboekpjiiaaMuG
import Derived.Test.YtdefkboekpjiiaaMuPa
namespace Mu
open Go.Proofs
def Kl : List (Nat × Nat) := [(5, 154), (15, 28), (16, 133), (19, 165), (20, 130), (21, 129), (22, 121), (27, 131), (28, 132), (29, 168), (30, 169), (31, 170), (59, 46), (60, 63), (61, 64), (62, 65), (63, 66), (64, 146), (65, 147), (66, 148), (67, 149), (68, 145), (69, 120), (70, 144), (71, 138), (72, 192), (73, 193), (74, 194), (81, 53), (108, 82), (109, 151), (110, 137), (111, 150), (134, 77), (136, 83), (139, 90), (159, 89), (170, 97), (171, 98)]
def Kf : Fid := fun f => Kl.lookup f
theorem m5 : nFunc Try.prog Kf Try.f5 = some F_muntinlaw17_ArcsPlace := by kernel_rfl
theorem m15 : nFunc Try.prog Kf Try.f15 = some F_muntinref10_Make := by kernel_rfl
theorem m16 : nFunc Try.prog Kf Try.f16 = some F_arcs_Length := by kernel_rfl
theorem m19 : nFunc Try.prog Kf Try.f19 = some F_slices_Clone_api_Point := by kernel_rfl
theorem m20 : nFunc Try.prog Kf Try.f20 = some F_muntinlaw17_wakes := by kernel_rfl
theorem m21 : nFunc Try.prog Kf Try.f21 = some F_arcs_Of := by kernel_rfl
theorem m22 : nFunc Try.prog Kf Try.f22 = some F_muntinref16_Of := by kernel_rfl
theorem m27 : nFunc Try.prog Kf Try.f27 = some F_muntinlaw17_numbers := by kernel_rfl
theorem m28 : nFunc Try.prog Kf Try.f28 = some F_arcs_Place := by kernel_rfl
theorem m29 : nFunc Try.prog Kf Try.f29 = some F_slices_Equal_api_Point := by kernel_rfl
theorem m30 : nFunc Try.prog Kf Try.f30 = some F_muntinref17_Place := by kernel_rfl
theorem m31 : nFunc Try.prog Kf Try.f31 = some F_muntinlaw17_length := by kernel_rfl
theorem m59 : nFunc Try.prog Kf Try.f59 = some F_muntinref10_New := by kernel_rfl
theorem m60 : nFunc Try.prog Kf Try.f60 = some F_muntinref10_Nearest := by kernel_rfl
theorem m61 : nFunc Try.prog Kf Try.f61 = some F_muntinref10_Crossed := by kernel_rfl
theorem m62 : nFunc Try.prog Kf Try.f62 = some F_muntinref10_with := by kernel_rfl
theorem m63 : nFunc Try.prog Kf Try.f63 = some F_grid_Check := by kernel_rfl
theorem m64 : nFunc Try.prog Kf Try.f64 = some F_slices_ContainsFunc_api_Point := by kernel_rfl
theorem m65 : nFunc Try.prog Kf Try.f65 = some F_arcs_far := by kernel_rfl
theorem m66 : nFunc Try.prog Kf Try.f66 = some F_compass_Between := by kernel_rfl
theorem m67 : nFunc Try.prog Kf Try.f67 = some F_arcs_weight := by kernel_rfl
theorem m68 : nFunc Try.prog Kf Try.f68 = some F_muntinlaw17_square := by kernel_rfl
theorem m69 : nFunc Try.prog Kf Try.f69 = some F_seg_Of := by kernel_rfl
theorem m70 : nFunc Try.prog Kf Try.f70 = some F_arcs_graph := by kernel_rfl
theorem m71 : nFunc Try.prog Kf Try.f71 = some F_muntinref16_chains := by kernel_rfl
theorem m72 : nFunc Try.prog Kf Try.f72 = some F_muntinlaw17_length_1 := by kernel_rfl
theorem m73 : nFunc Try.prog Kf Try.f73 = some F_muntinref17_Straight := by kernel_rfl
theorem m74 : nFunc Try.prog Kf Try.f74 = some F_muntinref17_Length := by kernel_rfl
theorem m81 : nFunc Try.prog Kf Try.f81 = some F_muntinref10_Join := by kernel_rfl
theorem m108 : nFunc Try.prog Kf Try.f108 = some F_grid_side := by kernel_rfl
theorem m109 : nFunc Try.prog Kf Try.f109 = some F_slices_IndexFunc_api_Point := by kernel_rfl
theorem m110 : nFunc Try.prog Kf Try.f110 = some F_seg_chains := by kernel_rfl
theorem m111 : nFunc Try.prog Kf Try.f111 = some F_muntinref16_First := by kernel_rfl
theorem m134 : nFunc Try.prog Kf Try.f134 = some F_compass_Left := by kernel_rfl
theorem m136 : nFunc Try.prog Kf Try.f136 = some F_slices_Repeat_int := by kernel_rfl
theorem m139 : nFunc Try.prog Kf Try.f139 = some F_compass_Good := by kernel_rfl
theorem m159 : nFunc Try.prog Kf Try.f159 = some F_bits_Mul := by kernel_rfl
theorem m170 : nFunc Try.prog Kf Try.f170 = some F_bits_Mul32 := by kernel_rfl
theorem m171 : nFunc Try.prog Kf Try.f171 = some F_bits_Mul64 := by kernel_rfl
theorem match_all : Match Try.prog Kf G := Match.of (l := Kl) rfl ⟨⟨_, _, Try.func5, G_F_muntinlaw17_ArcsPlace, m5⟩, ⟨⟨_, _, Try.func15, G_F_muntinref10_Make, m15⟩, ⟨⟨_, _, Try.func16, G_F_arcs_Length, m16⟩, ⟨⟨_, _, Try.func19, G_F_slices_Clone_api_Point, m19⟩, ⟨⟨_, _, Try.func20, G_F_muntinlaw17_wakes, m20⟩, ⟨⟨_, _, Try.func21, G_F_arcs_Of, m21⟩, ⟨⟨_, _, Try.func22, G_F_muntinref16_Of, m22⟩, ⟨⟨_, _, Try.func27, G_F_muntinlaw17_numbers, m27⟩, ⟨⟨_, _, Try.func28, G_F_arcs_Place, m28⟩, ⟨⟨_, _, Try.func29, G_F_slices_Equal_api_Point, m29⟩, ⟨⟨_, _, Try.func30, G_F_muntinref17_Place, m30⟩, ⟨⟨_, _, Try.func31, G_F_muntinlaw17_length, m31⟩, ⟨⟨_, _, Try.func59, G_F_muntinref10_New, m59⟩, ⟨⟨_, _, Try.func60, G_F_muntinref10_Nearest, m60⟩, ⟨⟨_, _, Try.func61, G_F_muntinref10_Crossed, m61⟩, ⟨⟨_, _, Try.func62, G_F_muntinref10_with, m62⟩, ⟨⟨_, _, Try.func63, G_F_grid_Check, m63⟩, ⟨⟨_, _, Try.func64, G_F_slices_ContainsFunc_api_Point, m64⟩, ⟨⟨_, _, Try.func65, G_F_arcs_far, m65⟩, ⟨⟨_, _, Try.func66, G_F_compass_Between, m66⟩, ⟨⟨_, _, Try.func67, G_F_arcs_weight, m67⟩, ⟨⟨_, _, Try.func68, G_F_muntinlaw17_square, m68⟩, ⟨⟨_, _, Try.func69, G_F_seg_Of, m69⟩, ⟨⟨_, _, Try.func70, G_F_arcs_graph, m70⟩, ⟨⟨_, _, Try.func71, G_F_muntinref16_chains, m71⟩, ⟨⟨_, _, Try.func72, G_F_muntinlaw17_length_1, m72⟩, ⟨⟨_, _, Try.func73, G_F_muntinref17_Straight, m73⟩, ⟨⟨_, _, Try.func74, G_F_muntinref17_Length, m74⟩, ⟨⟨_, _, Try.func81, G_F_muntinref10_Join, m81⟩, ⟨⟨_, _, Try.func108, G_F_grid_side, m108⟩, ⟨⟨_, _, Try.func109, G_F_slices_IndexFunc_api_Point, m109⟩, ⟨⟨_, _, Try.func110, G_F_seg_chains, m110⟩, ⟨⟨_, _, Try.func111, G_F_muntinref16_First, m111⟩, ⟨⟨_, _, Try.func134, G_F_compass_Left, m134⟩, ⟨⟨_, _, Try.func136, G_F_slices_Repeat_int, m136⟩, ⟨⟨_, _, Try.func139, G_F_compass_Good, m139⟩, ⟨⟨_, _, Try.func159, G_F_bits_Mul, m159⟩, ⟨⟨_, _, Try.func170, G_F_bits_Mul32, m170⟩, ⟨⟨_, _, Try.func171, G_F_bits_Mul64, m171⟩, trivial⟩⟩⟩⟩⟩⟩⟩⟩⟩⟩⟩⟩⟩⟩⟩⟩⟩⟩⟩⟩⟩⟩⟩⟩⟩⟩⟩⟩⟩⟩⟩⟩⟩⟩⟩⟩⟩⟩⟩
theorem mixed : Try.prog.follows .mixedOrders = true := by kernel_rfl
end Mu
