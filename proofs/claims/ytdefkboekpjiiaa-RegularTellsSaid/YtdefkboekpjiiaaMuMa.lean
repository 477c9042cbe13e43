/- The evaluator's functions are the model's. -/
import Derived.Test.YtdefkboekpjiiaaProg
import Derived.KernelRfl
import Derived.Test.YtdefkboekpjiiaaMuG
import Derived.Test.YtdefkboekpjiiaaMuPa
namespace Mu
open Go.Proofs
def Kl : List (Nat × Nat) := [(14, 163), (15, 28), (26, 34), (32, 171), (35, 174), (36, 175), (37, 30), (38, 176), (39, 177), (46, 181), (47, 25), (48, 182), (57, 190), (58, 191), (59, 46), (60, 63), (61, 64), (62, 65), (63, 66), (77, 197), (78, 198), (79, 199), (80, 200), (81, 53), (82, 36), (83, 32), (84, 201), (85, 202), (86, 203), (87, 91), (88, 204), (92, 24), (93, 206), (94, 20), (95, 23), (96, 207), (102, 212), (103, 213), (104, 214), (105, 56), (106, 215), (107, 216), (108, 82), (112, 217), (113, 218), (114, 29), (115, 219), (116, 220), (117, 221), (118, 222), (120, 59), (121, 19), (122, 62), (123, 61), (124, 223), (125, 224), (130, 119), (131, 228), (132, 57), (133, 229), (134, 77), (135, 52), (136, 83), (137, 230), (138, 67), (139, 90), (140, 78), (142, 80), (156, 51), (157, 75), (158, 76), (159, 89), (169, 55), (170, 97), (171, 98)]
def Kf : Fid := fun f => Kl.lookup f
theorem m14 : ZaG Try.prog Kf Try.f14 = some ZG := by kernel_rfl
theorem m15 : ZaG Try.prog Kf Try.f15 = some Zk := by kernel_rfl
theorem m26 : ZaG Try.prog Kf Try.f26 = some Zw := by kernel_rfl
theorem m32 : ZaG Try.prog Kf Try.f32 = some Z3 := by kernel_rfl
theorem m35 : ZaG Try.prog Kf Try.f35 = some Zr := by kernel_rfl
theorem m36 : ZaG Try.prog Kf Try.f36 = some Zj := by kernel_rfl
theorem m37 : ZaG Try.prog Kf Try.f37 = some Z9 := by kernel_rfl
theorem m38 : ZaG Try.prog Kf Try.f38 = some Zau := by kernel_rfl
theorem m39 : ZaG Try.prog Kf Try.f39 = some Zy := by kernel_rfl
theorem m46 : ZaG Try.prog Kf Try.f46 = some Zv := by kernel_rfl
theorem m47 : ZaG Try.prog Kf Try.f47 = some ZN := by kernel_rfl
theorem m48 : ZaG Try.prog Kf Try.f48 = some zu := by kernel_rfl
theorem m57 : ZaG Try.prog Kf Try.f57 = some Zay := by kernel_rfl
theorem m58 : ZaG Try.prog Kf Try.f58 = some zr := by kernel_rfl
theorem m59 : ZaG Try.prog Kf Try.f59 = some zo := by kernel_rfl
theorem m60 : ZaG Try.prog Kf Try.f60 = some ZQ := by kernel_rfl
theorem m61 : ZaG Try.prog Kf Try.f61 = some Z5 := by kernel_rfl
theorem m62 : ZaG Try.prog Kf Try.f62 = some ZJ := by kernel_rfl
theorem m63 : ZaG Try.prog Kf Try.f63 = some zB := by kernel_rfl
theorem m77 : ZaG Try.prog Kf Try.f77 = some Z7 := by kernel_rfl
theorem m78 : ZaG Try.prog Kf Try.f78 = some Zx := by kernel_rfl
theorem m79 : ZaG Try.prog Kf Try.f79 = some zt := by kernel_rfl
theorem m80 : ZaG Try.prog Kf Try.f80 = some Z0 := by kernel_rfl
theorem m81 : ZaG Try.prog Kf Try.f81 = some Zai := by kernel_rfl
theorem m82 : ZaG Try.prog Kf Try.f82 = some Z1 := by kernel_rfl
theorem m83 : ZaG Try.prog Kf Try.f83 = some Zcp := by kernel_rfl
theorem m84 : ZaG Try.prog Kf Try.f84 = some z5 := by kernel_rfl
theorem m85 : ZaG Try.prog Kf Try.f85 = some za := by kernel_rfl
theorem m86 : ZaG Try.prog Kf Try.f86 = some ZE := by kernel_rfl
theorem m87 : ZaG Try.prog Kf Try.f87 = some zh := by kernel_rfl
theorem m88 : ZaG Try.prog Kf Try.f88 = some Zap := by kernel_rfl
theorem m92 : ZaG Try.prog Kf Try.f92 = some zC := by kernel_rfl
theorem m93 : ZaG Try.prog Kf Try.f93 = some zf := by kernel_rfl
theorem m94 : ZaG Try.prog Kf Try.f94 = some ZR := by kernel_rfl
theorem m95 : ZaG Try.prog Kf Try.f95 = some Z8 := by kernel_rfl
theorem m96 : ZaG Try.prog Kf Try.f96 = some ze := by kernel_rfl
theorem m102 : ZaG Try.prog Kf Try.f102 = some zg := by kernel_rfl
theorem m103 : ZaG Try.prog Kf Try.f103 = some zJ := by kernel_rfl
theorem m104 : ZaG Try.prog Kf Try.f104 = some ZS := by kernel_rfl
theorem m105 : ZaG Try.prog Kf Try.f105 = some z8 := by kernel_rfl
theorem m106 : ZaG Try.prog Kf Try.f106 = some ZI := by kernel_rfl
theorem m107 : ZaG Try.prog Kf Try.f107 = some Zs := by kernel_rfl
theorem m108 : ZaG Try.prog Kf Try.f108 = some Za0 := by kernel_rfl
theorem m112 : ZaG Try.prog Kf Try.f112 = some zO := by kernel_rfl
theorem m113 : ZaG Try.prog Kf Try.f113 = some Zbn := by kernel_rfl
theorem m114 : ZaG Try.prog Kf Try.f114 = some ZO := by kernel_rfl
theorem m115 : ZaG Try.prog Kf Try.f115 = some zZ := by kernel_rfl
theorem m116 : ZaG Try.prog Kf Try.f116 = some Zcn := by kernel_rfl
theorem m117 : ZaG Try.prog Kf Try.f117 = some zq := by kernel_rfl
theorem m118 : ZaG Try.prog Kf Try.f118 = some Zb6 := by kernel_rfl
theorem m120 : ZaG Try.prog Kf Try.f120 = some Zcz := by kernel_rfl
theorem m121 : ZaG Try.prog Kf Try.f121 = some zj := by kernel_rfl
theorem m122 : ZaG Try.prog Kf Try.f122 = some ZaJ := by kernel_rfl
theorem m123 : ZaG Try.prog Kf Try.f123 = some ZbT := by kernel_rfl
theorem m124 : ZaG Try.prog Kf Try.f124 = some ZbD := by kernel_rfl
theorem m125 : ZaG Try.prog Kf Try.f125 = some zW := by kernel_rfl
theorem m130 : ZaG Try.prog Kf Try.f130 = some Zcx := by kernel_rfl
theorem m131 : ZaG Try.prog Kf Try.f131 = some zV := by kernel_rfl
theorem m132 : ZaG Try.prog Kf Try.f132 = some ZaY := by kernel_rfl
theorem m133 : ZaG Try.prog Kf Try.f133 = some Zby := by kernel_rfl
theorem m134 : ZaG Try.prog Kf Try.f134 = some Zb5 := by kernel_rfl
theorem m135 : ZaG Try.prog Kf Try.f135 = some Zab := by kernel_rfl
theorem m136 : ZaG Try.prog Kf Try.f136 = some ZW := by kernel_rfl
theorem m137 : ZaG Try.prog Kf Try.f137 = some z7 := by kernel_rfl
theorem m138 : ZaG Try.prog Kf Try.f138 = some zd := by kernel_rfl
theorem m139 : ZaG Try.prog Kf Try.f139 = some Zcm := by kernel_rfl
theorem m140 : ZaG Try.prog Kf Try.f140 = some ZaQ := by kernel_rfl
theorem m142 : ZaG Try.prog Kf Try.f142 = some ZbX := by kernel_rfl
theorem m156 : ZaG Try.prog Kf Try.f156 = some Zaq := by kernel_rfl
theorem m157 : ZaG Try.prog Kf Try.f157 = some Zco := by kernel_rfl
theorem m158 : ZaG Try.prog Kf Try.f158 = some ZbI := by kernel_rfl
theorem m159 : ZaG Try.prog Kf Try.f159 = some Zcf := by kernel_rfl
theorem m169 : ZaG Try.prog Kf Try.f169 = some Zbx := by kernel_rfl
theorem m170 : ZaG Try.prog Kf Try.f170 = some Zcl := by kernel_rfl
theorem m171 : ZaG Try.prog Kf Try.f171 = some Zao := by kernel_rfl
theorem match_all : Match Try.prog Kf G := Match.of (l := Kl) rfl ⟨⟨_, _, Try.func14, Zda, m14⟩, ⟨⟨_, _, Try.func15, Zey, m15⟩, ⟨⟨_, _, Try.func26, ZdZ, m26⟩, ⟨⟨_, _, Try.func32, Zew, m32⟩, ⟨⟨_, _, Try.func35, Zeb, m35⟩, ⟨⟨_, _, Try.func36, ZeO, m36⟩, ⟨⟨_, _, Try.func37, Zee, m37⟩, ⟨⟨_, _, Try.func38, ZfO, m38⟩, ⟨⟨_, _, Try.func39, Zec, m39⟩, ⟨⟨_, _, Try.func46, Zef, m46⟩, ⟨⟨_, _, Try.func47, Ze2, m47⟩, ⟨⟨_, _, Try.func48, Zed, m48⟩, ⟨⟨_, _, Try.func57, ZdW, m57⟩, ⟨⟨_, _, Try.func58, Zes, m58⟩, ⟨⟨_, _, Try.func59, ZeC, m59⟩, ⟨⟨_, _, Try.func60, ZdD, m60⟩, ⟨⟨_, _, Try.func61, ZdC, m61⟩, ⟨⟨_, _, Try.func62, Ze0, m62⟩, ⟨⟨_, _, Try.func63, ZfY, m63⟩, ⟨⟨_, _, Try.func77, ZdX, m77⟩, ⟨⟨_, _, Try.func78, Zea, m78⟩, ⟨⟨_, _, Try.func79, ZeP, m79⟩, ⟨⟨_, _, Try.func80, ZeD, m80⟩, ⟨⟨_, _, Try.func81, Zdg, m81⟩, ⟨⟨_, _, Try.func82, ZeE, m82⟩, ⟨⟨_, _, Try.func83, Zga, m83⟩, ⟨⟨_, _, Try.func84, ZfP, m84⟩, ⟨⟨_, _, Try.func85, ZdM, m85⟩, ⟨⟨_, _, Try.func86, ZfW, m86⟩, ⟨⟨_, _, Try.func87, Zd0, m87⟩, ⟨⟨_, _, Try.func88, ZfX, m88⟩, ⟨⟨_, _, Try.func92, Zgb, m92⟩, ⟨⟨_, _, Try.func93, Zdz, m93⟩, ⟨⟨_, _, Try.func94, ZdE, m94⟩, ⟨⟨_, _, Try.func95, ZeF, m95⟩, ⟨⟨_, _, Try.func96, Zev, m96⟩, ⟨⟨_, _, Try.func102, Zf0, m102⟩, ⟨⟨_, _, Try.func103, Zer, m103⟩, ⟨⟨_, _, Try.func104, Zfz, m104⟩, ⟨⟨_, _, Try.func105, Zez, m105⟩, ⟨⟨_, _, Try.func106, Ze3, m106⟩, ⟨⟨_, _, Try.func107, Zdh, m107⟩, ⟨⟨_, _, Try.func108, Zgy, m108⟩, ⟨⟨_, _, Try.func112, ZdY, m112⟩, ⟨⟨_, _, Try.func113, Ze1, m113⟩, ⟨⟨_, _, Try.func114, ZfZ, m114⟩, ⟨⟨_, _, Try.func115, Zfe, m115⟩, ⟨⟨_, _, Try.func116, Zfx, m116⟩, ⟨⟨_, _, Try.func117, Zeq, m117⟩, ⟨⟨_, _, Try.func118, Zfw, m118⟩, ⟨⟨_, _, Try.func120, ZfN, m120⟩, ⟨⟨_, _, Try.func121, Zfh, m121⟩, ⟨⟨_, _, Try.func122, Zgc, m122⟩, ⟨⟨_, _, Try.func123, Zgz, m123⟩, ⟨⟨_, _, Try.func124, Zet, m124⟩, ⟨⟨_, _, Try.func125, Zeu, m125⟩, ⟨⟨_, _, Try.func130, Zhw, m130⟩, ⟨⟨_, _, Try.func131, Zf1, m131⟩, ⟨⟨_, _, Try.func132, ZeB, m132⟩, ⟨⟨_, _, Try.func133, ZdN, m133⟩, ⟨⟨_, _, Try.func134, Zfv, m134⟩, ⟨⟨_, _, Try.func135, ZeN, m135⟩, ⟨⟨_, _, Try.func136, Zeg, m136⟩, ⟨⟨_, _, Try.func137, Zex, m137⟩, ⟨⟨_, _, Try.func138, ZfM, m138⟩, ⟨⟨_, _, Try.func139, Zfu, m139⟩, ⟨⟨_, _, Try.func140, Zdf, m140⟩, ⟨⟨_, _, Try.func142, Zfi, m142⟩, ⟨⟨_, _, Try.func156, Zdv, m156⟩, ⟨⟨_, _, Try.func157, Zfy, m157⟩, ⟨⟨_, _, Try.func158, Zfg, m158⟩, ⟨⟨_, _, Try.func159, ZgG, m159⟩, ⟨⟨_, _, Try.func169, Zff, m169⟩, ⟨⟨_, _, Try.func170, ZhJ, m170⟩, ⟨⟨_, _, Try.func171, ZfV, m171⟩, trivial⟩⟩⟩⟩⟩⟩⟩⟩⟩⟩⟩⟩⟩⟩⟩⟩⟩⟩⟩⟩⟩⟩⟩⟩⟩⟩⟩⟩⟩⟩⟩⟩⟩⟩⟩⟩⟩⟩⟩⟩⟩⟩⟩⟩⟩⟩⟩⟩⟩⟩⟩⟩⟩⟩⟩⟩⟩⟩⟩⟩⟩⟩⟩⟩⟩⟩⟩⟩⟩⟩⟩⟩⟩⟩⟩
theorem mixed : Try.prog.follows .mixedOrders = true := by kernel_rfl
end Mu
