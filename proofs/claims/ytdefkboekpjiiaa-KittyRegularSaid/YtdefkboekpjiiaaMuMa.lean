/- The evaluator's functions are the model's. -/
import Derived.Test.YtdefkboekpjiiaaProg
import Derived.KernelRfl
import Derived.Test.YtdefkboekpjiiaaMuG
import Derived.Test.YtdefkboekpjiiaaMuPa
namespace Mu
open Go.Proofs
def Kl : List (Nat × Nat) := [(11, 160), (15, 28), (26, 34), (37, 30), (38, 176), (39, 177), (45, 180), (46, 181), (47, 25), (48, 182), (49, 27), (59, 46), (60, 63), (61, 64), (62, 65), (63, 66), (82, 36), (83, 32), (84, 201), (85, 202), (86, 203), (87, 91), (88, 204), (92, 24), (93, 206), (94, 20), (95, 23), (96, 207), (97, 22), (108, 82), (114, 29), (115, 219), (116, 220), (117, 221), (118, 222), (120, 59), (121, 19), (122, 62), (123, 61), (124, 223), (125, 224), (126, 60), (134, 77), (136, 83), (138, 67), (139, 90), (140, 78), (142, 80), (143, 81), (159, 89), (170, 97), (171, 98)]
def Kf : Fid := fun f => Kl.lookup f
theorem m11 : nFunc Try.prog Kf Try.f11 = some Zn := by kernel_rfl
theorem m15 : nFunc Try.prog Kf Try.f15 = some Zm := by kernel_rfl
theorem m26 : nFunc Try.prog Kf Try.f26 = some Zw := by kernel_rfl
theorem m37 : nFunc Try.prog Kf Try.f37 = some Z4 := by kernel_rfl
theorem m38 : nFunc Try.prog Kf Try.f38 = some zu := by kernel_rfl
theorem m39 : nFunc Try.prog Kf Try.f39 = some Zx := by kernel_rfl
theorem m45 : nFunc Try.prog Kf Try.f45 = some ZY := by kernel_rfl
theorem m46 : nFunc Try.prog Kf Try.f46 = some Zs := by kernel_rfl
theorem m47 : nFunc Try.prog Kf Try.f47 = some ZB := by kernel_rfl
theorem m48 : nFunc Try.prog Kf Try.f48 = some ZX := by kernel_rfl
theorem m49 : nFunc Try.prog Kf Try.f49 = some zm := by kernel_rfl
theorem m59 : nFunc Try.prog Kf Try.f59 = some ZV := by kernel_rfl
theorem m60 : nFunc Try.prog Kf Try.f60 = some ZD := by kernel_rfl
theorem m61 : nFunc Try.prog Kf Try.f61 = some Zz := by kernel_rfl
theorem m62 : nFunc Try.prog Kf Try.f62 = some ZA := by kernel_rfl
theorem m63 : nFunc Try.prog Kf Try.f63 = some za := by kernel_rfl
theorem m82 : nFunc Try.prog Kf Try.f82 = some Zy := by kernel_rfl
theorem m83 : nFunc Try.prog Kf Try.f83 = some Zas := by kernel_rfl
theorem m84 : nFunc Try.prog Kf Try.f84 = some ZZ := by kernel_rfl
theorem m85 : nFunc Try.prog Kf Try.f85 = some ZJ := by kernel_rfl
theorem m86 : nFunc Try.prog Kf Try.f86 = some Z6 := by kernel_rfl
theorem m87 : nFunc Try.prog Kf Try.f87 = some ZQ := by kernel_rfl
theorem m88 : nFunc Try.prog Kf Try.f88 = some zp := by kernel_rfl
theorem m92 : nFunc Try.prog Kf Try.f92 = some zb := by kernel_rfl
theorem m93 : nFunc Try.prog Kf Try.f93 = some ZN := by kernel_rfl
theorem m94 : nFunc Try.prog Kf Try.f94 = some ZE := by kernel_rfl
theorem m95 : nFunc Try.prog Kf Try.f95 = some Z3 := by kernel_rfl
theorem m96 : nFunc Try.prog Kf Try.f96 = some ZO := by kernel_rfl
theorem m97 : nFunc Try.prog Kf Try.f97 = some Zai := by kernel_rfl
theorem m108 : nFunc Try.prog Kf Try.f108 = some z6 := by kernel_rfl
theorem m114 : nFunc Try.prog Kf Try.f114 = some ZC := by kernel_rfl
theorem m115 : nFunc Try.prog Kf Try.f115 = some zh := by kernel_rfl
theorem m116 : nFunc Try.prog Kf Try.f116 = some Zar := by kernel_rfl
theorem m117 : nFunc Try.prog Kf Try.f117 = some ZW := by kernel_rfl
theorem m118 : nFunc Try.prog Kf Try.f118 = some zV := by kernel_rfl
theorem m120 : nFunc Try.prog Kf Try.f120 = some Zaz := by kernel_rfl
theorem m121 : nFunc Try.prog Kf Try.f121 = some ZS := by kernel_rfl
theorem m122 : nFunc Try.prog Kf Try.f122 = some zD := by kernel_rfl
theorem m123 : nFunc Try.prog Kf Try.f123 = some Zah := by kernel_rfl
theorem m124 : nFunc Try.prog Kf Try.f124 = some zZ := by kernel_rfl
theorem m125 : nFunc Try.prog Kf Try.f125 = some ze := by kernel_rfl
theorem m126 : nFunc Try.prog Kf Try.f126 = some zz := by kernel_rfl
theorem m134 : nFunc Try.prog Kf Try.f134 = some zW := by kernel_rfl
theorem m136 : nFunc Try.prog Kf Try.f136 = some ZH := by kernel_rfl
theorem m138 : nFunc Try.prog Kf Try.f138 = some ZM := by kernel_rfl
theorem m139 : nFunc Try.prog Kf Try.f139 = some Zau := by kernel_rfl
theorem m140 : nFunc Try.prog Kf Try.f140 = some zI := by kernel_rfl
theorem m142 : nFunc Try.prog Kf Try.f142 = some Zam := by kernel_rfl
theorem m143 : nFunc Try.prog Kf Try.f143 = some Z9 := by kernel_rfl
theorem m159 : nFunc Try.prog Kf Try.f159 = some Zap := by kernel_rfl
theorem m170 : nFunc Try.prog Kf Try.f170 = some Zat := by kernel_rfl
theorem m171 : nFunc Try.prog Kf Try.f171 = some zo := by kernel_rfl
theorem match_all : Match Try.prog Kf G := Match.of (l := Kl) rfl ⟨⟨_, _, Try.func11, G_F_muntinlaw15_KittyRegular, m11⟩, ⟨⟨_, _, Try.func15, G_F_muntinref10_Make, m15⟩, ⟨⟨_, _, Try.func26, G_F_muntinref10_Check, m26⟩, ⟨⟨_, _, Try.func37, G_F_muntinref13_Parts, m37⟩, ⟨⟨_, _, Try.func38, G_F_valid_Check, m38⟩, ⟨⟨_, _, Try.func39, G_F_muntinref12_Faces, m39⟩, ⟨⟨_, _, Try.func45, G_F_kitty_Regular, m45⟩, ⟨⟨_, _, Try.func46, G_F_muntinref14_Outer, m46⟩, ⟨⟨_, _, Try.func47, G_F_muntinref15_Pair, m47⟩, ⟨⟨_, _, Try.func48, G_F_muntinref12_Turns, m48⟩, ⟨⟨_, _, Try.func49, G_F_muntinlaw15_wakes, m49⟩, ⟨⟨_, _, Try.func59, G_F_muntinref10_New, m59⟩, ⟨⟨_, _, Try.func60, G_F_muntinref10_Nearest, m60⟩, ⟨⟨_, _, Try.func61, G_F_muntinref10_Crossed, m61⟩, ⟨⟨_, _, Try.func62, G_F_muntinref10_with, m62⟩, ⟨⟨_, _, Try.func63, G_F_grid_Check, m63⟩, ⟨⟨_, _, Try.func82, G_F_muntinref13_Far, m82⟩, ⟨⟨_, _, Try.func83, G_F_join_Whole, m83⟩, ⟨⟨_, _, Try.func84, G_F_valid_outer, m84⟩, ⟨⟨_, _, Try.func85, G_F_muntinref12_Behind, m85⟩, ⟨⟨_, _, Try.func86, G_F_face_Faces, m86⟩, ⟨⟨_, _, Try.func87, G_F_slices_IndexFunc_int, m87⟩, ⟨⟨_, _, Try.func88, G_F_face_Turns, m88⟩, ⟨⟨_, _, Try.func92, G_F_kitty_Pair, m92⟩, ⟨⟨_, _, Try.func93, G_F_muntinref12_Rotation, m93⟩, ⟨⟨_, _, Try.func94, G_F_muntinref15_Corners, m94⟩, ⟨⟨_, _, Try.func95, G_F_muntinref15_Rot, m95⟩, ⟨⟨_, _, Try.func96, G_F_muntinref01_Turn, m96⟩, ⟨⟨_, _, Try.func97, G_F_kitty_Rot, m97⟩, ⟨⟨_, _, Try.func108, G_F_grid_side, m108⟩, ⟨⟨_, _, Try.func114, G_F_join_Parts, m114⟩, ⟨⟨_, _, Try.func115, G_F_face_Rotation, m115⟩, ⟨⟨_, _, Try.func116, G_F_face_Dart_is, m116⟩, ⟨⟨_, _, Try.func117, G_F_face_Dart_behind, m117⟩, ⟨⟨_, _, Try.func118, G_F_compass_Turn, m118⟩, ⟨⟨_, _, Try.func120, G_F_kitty_right, m120⟩, ⟨⟨_, _, Try.func121, G_F_kitty_Corners, m121⟩, ⟨⟨_, _, Try.func122, G_F_kitty_sums, m122⟩, ⟨⟨_, _, Try.func123, G_F_kitty_rot, m123⟩, ⟨⟨_, _, Try.func124, G_F_muntinref01_Good, m124⟩, ⟨⟨_, _, Try.func125, G_F_muntinref01_Left, m125⟩, ⟨⟨_, _, Try.func126, G_F_slices_Contains_kitty_Corner, m126⟩, ⟨⟨_, _, Try.func134, G_F_compass_Left, m134⟩, ⟨⟨_, _, Try.func136, G_F_slices_Repeat_int, m136⟩, ⟨⟨_, _, Try.func138, G_F_join_spread, m138⟩, ⟨⟨_, _, Try.func139, G_F_compass_Good, m139⟩, ⟨⟨_, _, Try.func140, G_F_slices_ContainsFunc_int, m140⟩, ⟨⟨_, _, Try.func142, G_F_kitty_right_1, m142⟩, ⟨⟨_, _, Try.func143, G_F_slices_Index_kitty_Corner, m143⟩, ⟨⟨_, _, Try.func159, G_F_bits_Mul, m159⟩, ⟨⟨_, _, Try.func170, G_F_bits_Mul32, m170⟩, ⟨⟨_, _, Try.func171, G_F_bits_Mul64, m171⟩, trivial⟩⟩⟩⟩⟩⟩⟩⟩⟩⟩⟩⟩⟩⟩⟩⟩⟩⟩⟩⟩⟩⟩⟩⟩⟩⟩⟩⟩⟩⟩⟩⟩⟩⟩⟩⟩⟩⟩⟩⟩⟩⟩⟩⟩⟩⟩⟩⟩⟩⟩⟩⟩
theorem mixed : Try.prog.follows .mixedOrders = true := by kernel_rfl
end Mu
