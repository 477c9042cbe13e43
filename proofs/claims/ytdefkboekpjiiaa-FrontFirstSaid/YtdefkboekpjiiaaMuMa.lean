/- The evaluator's functions are the model's. -/
import Derived.Test.YtdefkboekpjiiaaProg
import Derived.KernelRfl
import Derived.Test.YtdefkboekpjiiaaMuG
import Derived.Test.YtdefkboekpjiiaaMuPa
namespace Mu
open Go.Proofs
def Kl : List (Nat × Nat) := [(10, 159), (15, 28), (26, 34), (37, 30), (38, 176), (39, 177), (42, 178), (43, 179), (44, 17), (46, 181), (48, 182), (59, 46), (60, 63), (61, 64), (62, 65), (63, 66), (75, 195), (82, 36), (83, 32), (84, 201), (85, 202), (86, 203), (87, 91), (88, 204), (89, 205), (90, 13), (91, 15), (93, 206), (96, 207), (108, 82), (114, 29), (115, 219), (116, 220), (117, 221), (118, 222), (119, 58), (124, 223), (125, 224), (134, 77), (136, 83), (138, 67), (139, 90), (140, 78), (141, 79), (159, 89), (170, 97), (171, 98)]
def Kf : Fid := fun f => Kl.lookup f
theorem m10 : nFunc Try.prog Kf Try.f10 = some Zy := by kernel_rfl
theorem m15 : nFunc Try.prog Kf Try.f15 = some Zi := by kernel_rfl
theorem m26 : nFunc Try.prog Kf Try.f26 = some Zp := by kernel_rfl
theorem m37 : nFunc Try.prog Kf Try.f37 = some Zt := by kernel_rfl
theorem m38 : nFunc Try.prog Kf Try.f38 = some ze := by kernel_rfl
theorem m39 : nFunc Try.prog Kf Try.f39 = some Zq := by kernel_rfl
theorem m42 : nFunc Try.prog Kf Try.f42 = some ZP := by kernel_rfl
theorem m43 : nFunc Try.prog Kf Try.f43 = some Zw := by kernel_rfl
theorem m44 : nFunc Try.prog Kf Try.f44 = some ZZ := by kernel_rfl
theorem m46 : nFunc Try.prog Kf Try.f46 = some Zn := by kernel_rfl
theorem m48 : nFunc Try.prog Kf Try.f48 = some ZK := by kernel_rfl
theorem m59 : nFunc Try.prog Kf Try.f59 = some ZI := by kernel_rfl
theorem m60 : nFunc Try.prog Kf Try.f60 = some Z4 := by kernel_rfl
theorem m61 : nFunc Try.prog Kf Try.f61 = some Zs := by kernel_rfl
theorem m62 : nFunc Try.prog Kf Try.f62 = some Z0 := by kernel_rfl
theorem m63 : nFunc Try.prog Kf Try.f63 = some ZO := by kernel_rfl
theorem m75 : nFunc Try.prog Kf Try.f75 = some zr := by kernel_rfl
theorem m82 : nFunc Try.prog Kf Try.f82 = some Zr := by kernel_rfl
theorem m83 : nFunc Try.prog Kf Try.f83 = some Zaa := by kernel_rfl
theorem m84 : nFunc Try.prog Kf Try.f84 = some ZM := by kernel_rfl
theorem m85 : nFunc Try.prog Kf Try.f85 = some Z8 := by kernel_rfl
theorem m86 : nFunc Try.prog Kf Try.f86 = some Zz := by kernel_rfl
theorem m87 : nFunc Try.prog Kf Try.f87 = some ZD := by kernel_rfl
theorem m88 : nFunc Try.prog Kf Try.f88 = some za := by kernel_rfl
theorem m89 : nFunc Try.prog Kf Try.f89 = some zR := by kernel_rfl
theorem m90 : nFunc Try.prog Kf Try.f90 = some zj := by kernel_rfl
theorem m91 : nFunc Try.prog Kf Try.f91 = some zb := by kernel_rfl
theorem m93 : nFunc Try.prog Kf Try.f93 = some ZE := by kernel_rfl
theorem m96 : nFunc Try.prog Kf Try.f96 = some ZC := by kernel_rfl
theorem m108 : nFunc Try.prog Kf Try.f108 = some zl := by kernel_rfl
theorem m114 : nFunc Try.prog Kf Try.f114 = some Z3 := by kernel_rfl
theorem m115 : nFunc Try.prog Kf Try.f115 = some ZV := by kernel_rfl
theorem m116 : nFunc Try.prog Kf Try.f116 = some Zac := by kernel_rfl
theorem m117 : nFunc Try.prog Kf Try.f117 = some ZJ := by kernel_rfl
theorem m118 : nFunc Try.prog Kf Try.f118 = some zE := by kernel_rfl
theorem m119 : nFunc Try.prog Kf Try.f119 = some Zag := by kernel_rfl
theorem m124 : nFunc Try.prog Kf Try.f124 = some zJ := by kernel_rfl
theorem m125 : nFunc Try.prog Kf Try.f125 = some ZS := by kernel_rfl
theorem m134 : nFunc Try.prog Kf Try.f134 = some zF := by kernel_rfl
theorem m136 : nFunc Try.prog Kf Try.f136 = some Z6 := by kernel_rfl
theorem m138 : nFunc Try.prog Kf Try.f138 = some ZB := by kernel_rfl
theorem m139 : nFunc Try.prog Kf Try.f139 = some Zab := by kernel_rfl
theorem m140 : nFunc Try.prog Kf Try.f140 = some zw := by kernel_rfl
theorem m141 : nFunc Try.prog Kf Try.f141 = some zT := by kernel_rfl
theorem m159 : nFunc Try.prog Kf Try.f159 = some zX := by kernel_rfl
theorem m170 : nFunc Try.prog Kf Try.f170 = some zZ := by kernel_rfl
theorem m171 : nFunc Try.prog Kf Try.f171 = some zc := by kernel_rfl
theorem match_all : Match Try.prog Kf G := Match.of (l := Kl) rfl ⟨⟨_, _, Try.func10, G_F_muntinlaw20_FrontFirst, m10⟩, ⟨⟨_, _, Try.func15, G_F_muntinref10_Make, m15⟩, ⟨⟨_, _, Try.func26, G_F_muntinref10_Check, m26⟩, ⟨⟨_, _, Try.func37, G_F_muntinref13_Parts, m37⟩, ⟨⟨_, _, Try.func38, G_F_valid_Check, m38⟩, ⟨⟨_, _, Try.func39, G_F_muntinref12_Faces, m39⟩, ⟨⟨_, _, Try.func42, G_F_front_First, m42⟩, ⟨⟨_, _, Try.func43, G_F_muntinref20_First, m43⟩, ⟨⟨_, _, Try.func44, G_F_muntinlaw20_wakes, m44⟩, ⟨⟨_, _, Try.func46, G_F_muntinref14_Outer, m46⟩, ⟨⟨_, _, Try.func48, G_F_muntinref12_Turns, m48⟩, ⟨⟨_, _, Try.func59, G_F_muntinref10_New, m59⟩, ⟨⟨_, _, Try.func60, G_F_muntinref10_Nearest, m60⟩, ⟨⟨_, _, Try.func61, G_F_muntinref10_Crossed, m61⟩, ⟨⟨_, _, Try.func62, G_F_muntinref10_with, m62⟩, ⟨⟨_, _, Try.func63, G_F_grid_Check, m63⟩, ⟨⟨_, _, Try.func75, G_F_valid_Outer, m75⟩, ⟨⟨_, _, Try.func82, G_F_muntinref13_Far, m82⟩, ⟨⟨_, _, Try.func83, G_F_join_Whole, m83⟩, ⟨⟨_, _, Try.func84, G_F_valid_outer, m84⟩, ⟨⟨_, _, Try.func85, G_F_muntinref12_Behind, m85⟩, ⟨⟨_, _, Try.func86, G_F_face_Faces, m86⟩, ⟨⟨_, _, Try.func87, G_F_slices_IndexFunc_int, m87⟩, ⟨⟨_, _, Try.func88, G_F_face_Turns, m88⟩, ⟨⟨_, _, Try.func89, G_F_front_First_1, m89⟩, ⟨⟨_, _, Try.func90, G_F_front_Of, m90⟩, ⟨⟨_, _, Try.func91, G_F_front_Open, m91⟩, ⟨⟨_, _, Try.func93, G_F_muntinref12_Rotation, m93⟩, ⟨⟨_, _, Try.func96, G_F_muntinref01_Turn, m96⟩, ⟨⟨_, _, Try.func108, G_F_grid_side, m108⟩, ⟨⟨_, _, Try.func114, G_F_join_Parts, m114⟩, ⟨⟨_, _, Try.func115, G_F_face_Rotation, m115⟩, ⟨⟨_, _, Try.func116, G_F_face_Dart_is, m116⟩, ⟨⟨_, _, Try.func117, G_F_face_Dart_behind, m117⟩, ⟨⟨_, _, Try.func118, G_F_compass_Turn, m118⟩, ⟨⟨_, _, Try.func119, G_F_front_right, m119⟩, ⟨⟨_, _, Try.func124, G_F_muntinref01_Good, m124⟩, ⟨⟨_, _, Try.func125, G_F_muntinref01_Left, m125⟩, ⟨⟨_, _, Try.func134, G_F_compass_Left, m134⟩, ⟨⟨_, _, Try.func136, G_F_slices_Repeat_int, m136⟩, ⟨⟨_, _, Try.func138, G_F_join_spread, m138⟩, ⟨⟨_, _, Try.func139, G_F_compass_Good, m139⟩, ⟨⟨_, _, Try.func140, G_F_slices_ContainsFunc_int, m140⟩, ⟨⟨_, _, Try.func141, G_F_front_right_1, m141⟩, ⟨⟨_, _, Try.func159, G_F_bits_Mul, m159⟩, ⟨⟨_, _, Try.func170, G_F_bits_Mul32, m170⟩, ⟨⟨_, _, Try.func171, G_F_bits_Mul64, m171⟩, trivial⟩⟩⟩⟩⟩⟩⟩⟩⟩⟩⟩⟩⟩⟩⟩⟩⟩⟩⟩⟩⟩⟩⟩⟩⟩⟩⟩⟩⟩⟩⟩⟩⟩⟩⟩⟩⟩⟩⟩⟩⟩⟩⟩⟩⟩⟩⟩
theorem mixed : Try.prog.follows .mixedOrders = true := by kernel_rfl
end Mu
