/- The evaluator's functions are the model's. -/
import Derived.Test.YtdefkboekpjiiaaProg
import Derived.KernelRfl
import Derived.Test.YtdefkboekpjiiaaMuG
import Derived.Test.YtdefkboekpjiiaaMuPa
namespace Mu
open Go.Proofs
def Kl : List (Nat × Nat) := [(9, 158), (15, 28), (17, 116), (32, 171), (33, 172), (35, 174), (36, 175), (38, 176), (40, 117), (41, 49), (59, 46), (60, 63), (61, 64), (62, 65), (63, 66), (75, 195), (76, 196), (77, 197), (78, 198), (79, 199), (80, 200), (81, 53), (83, 32), (84, 201), (86, 203), (88, 204), (108, 82), (112, 217), (113, 218), (114, 29), (115, 219), (116, 220), (117, 221), (118, 222), (134, 77), (136, 83), (137, 230), (138, 67), (139, 90), (159, 89), (170, 97), (171, 98)]
def Kf : Fid := fun f => Kl.lookup f
theorem m9 : Za8 Try.prog Kf Try.f9 = some Zi := by kernel_rfl
theorem m15 : Za8 Try.prog Kf Try.f15 = some Zf := by kernel_rfl
theorem m17 : Za8 Try.prog Kf Try.f17 = some Zw := by kernel_rfl
theorem m32 : Za8 Try.prog Kf Try.f32 = some Zo := by kernel_rfl
theorem m33 : Za8 Try.prog Kf Try.f33 = some zC := by kernel_rfl
theorem m35 : Za8 Try.prog Kf Try.f35 = some Zk := by kernel_rfl
theorem m36 : Za8 Try.prog Kf Try.f36 = some Ze := by kernel_rfl
theorem m38 : Za8 Try.prog Kf Try.f38 = some zo := by kernel_rfl
theorem m40 : Za8 Try.prog Kf Try.f40 = some ZR := by kernel_rfl
theorem m41 : Za8 Try.prog Kf Try.f41 = some Zy := by kernel_rfl
theorem m59 : Za8 Try.prog Kf Try.f59 = some ZF := by kernel_rfl
theorem m60 : Za8 Try.prog Kf Try.f60 = some Z7 := by kernel_rfl
theorem m61 : Za8 Try.prog Kf Try.f61 = some Zp := by kernel_rfl
theorem m62 : Za8 Try.prog Kf Try.f62 = some Z2 := by kernel_rfl
theorem m63 : Za8 Try.prog Kf Try.f63 = some ZO := by kernel_rfl
theorem m75 : Za8 Try.prog Kf Try.f75 = some z8 := by kernel_rfl
theorem m76 : Za8 Try.prog Kf Try.f76 = some ZX := by kernel_rfl
theorem m77 : Za8 Try.prog Kf Try.f77 = some Zq := by kernel_rfl
theorem m78 : Za8 Try.prog Kf Try.f78 = some Zm := by kernel_rfl
theorem m79 : Za8 Try.prog Kf Try.f79 = some ZI := by kernel_rfl
theorem m80 : Za8 Try.prog Kf Try.f80 = some Zn := by kernel_rfl
theorem m81 : Za8 Try.prog Kf Try.f81 = some zg := by kernel_rfl
theorem m83 : Za8 Try.prog Kf Try.f83 = some ZaS := by kernel_rfl
theorem m84 : Za8 Try.prog Kf Try.f84 = some ZL := by kernel_rfl
theorem m86 : Za8 Try.prog Kf Try.f86 = some Zx := by kernel_rfl
theorem m88 : Za8 Try.prog Kf Try.f88 = some zl := by kernel_rfl
theorem m108 : Za8 Try.prog Kf Try.f108 = some zt := by kernel_rfl
theorem m112 : Za8 Try.prog Kf Try.f112 = some ZU := by kernel_rfl
theorem m113 : Za8 Try.prog Kf Try.f113 = some Zad := by kernel_rfl
theorem m114 : Za8 Try.prog Kf Try.f114 = some Z6 := by kernel_rfl
theorem m115 : Za8 Try.prog Kf Try.f115 = some zb := by kernel_rfl
theorem m116 : Za8 Try.prog Kf Try.f116 = some ZaR := by kernel_rfl
theorem m117 : Za8 Try.prog Kf Try.f117 = some ZH := by kernel_rfl
theorem m118 : Za8 Try.prog Kf Try.f118 = some Zaq := by kernel_rfl
theorem m134 : Za8 Try.prog Kf Try.f134 = some Zap := by kernel_rfl
theorem m136 : Za8 Try.prog Kf Try.f136 = some Z9 := by kernel_rfl
theorem m137 : Za8 Try.prog Kf Try.f137 = some ZM := by kernel_rfl
theorem m138 : Za8 Try.prog Kf Try.f138 = some ZB := by kernel_rfl
theorem m139 : Za8 Try.prog Kf Try.f139 = some ZaQ := by kernel_rfl
theorem m159 : Za8 Try.prog Kf Try.f159 = some ZaL := by kernel_rfl
theorem m170 : Za8 Try.prog Kf Try.f170 = some ZaP := by kernel_rfl
theorem m171 : Za8 Try.prog Kf Try.f171 = some zk := by kernel_rfl
theorem match_all : Match Try.prog Kf G := Match.of (l := Kl) rfl ⟨⟨_, _, Try.func9, Zb7, m9⟩, ⟨⟨_, _, Try.func15, Zc3, m15⟩, ⟨⟨_, _, Try.func17, Zcb, m17⟩, ⟨⟨_, _, Try.func32, Zcz, m32⟩, ⟨⟨_, _, Try.func33, Zck, m33⟩, ⟨⟨_, _, Try.func35, Zco, m35⟩, ⟨⟨_, _, Try.func36, ZcL, m36⟩, ⟨⟨_, _, Try.func38, ZdB, m38⟩, ⟨⟨_, _, Try.func40, Zc1, m40⟩, ⟨⟨_, _, Try.func41, Zb5, m41⟩, ⟨⟨_, _, Try.func59, ZcF, m59⟩, ⟨⟨_, _, Try.func60, ZbT, m60⟩, ⟨⟨_, _, Try.func61, ZbS, m61⟩, ⟨⟨_, _, Try.func62, Zc4, m62⟩, ⟨⟨_, _, Try.func63, ZdM, m63⟩, ⟨⟨_, _, Try.func75, ZdC, m75⟩, ⟨⟨_, _, Try.func76, Zca, m76⟩, ⟨⟨_, _, Try.func77, Zcl, m77⟩, ⟨⟨_, _, Try.func78, Zcn, m78⟩, ⟨⟨_, _, Try.func79, ZcM, m79⟩, ⟨⟨_, _, Try.func80, ZcG, m80⟩, ⟨⟨_, _, Try.func81, Zc2, m81⟩, ⟨⟨_, _, Try.func83, ZdO, m83⟩, ⟨⟨_, _, Try.func84, ZdD, m84⟩, ⟨⟨_, _, Try.func86, ZdK, m86⟩, ⟨⟨_, _, Try.func88, ZdL, m88⟩, ⟨⟨_, _, Try.func108, Zej, m108⟩, ⟨⟨_, _, Try.func112, Zcm, m112⟩, ⟨⟨_, _, Try.func113, Zc5, m113⟩, ⟨⟨_, _, Try.func114, ZdN, m114⟩, ⟨⟨_, _, Try.func115, ZcY, m115⟩, ⟨⟨_, _, Try.func116, Zdn, m116⟩, ⟨⟨_, _, Try.func117, Zcy, m117⟩, ⟨⟨_, _, Try.func118, Zdm, m118⟩, ⟨⟨_, _, Try.func134, Zdl, m134⟩, ⟨⟨_, _, Try.func136, Zcp, m136⟩, ⟨⟨_, _, Try.func137, Zc0, m137⟩, ⟨⟨_, _, Try.func138, ZdA, m138⟩, ⟨⟨_, _, Try.func139, Zdk, m139⟩, ⟨⟨_, _, Try.func159, Zex, m159⟩, ⟨⟨_, _, Try.func170, Zft, m170⟩, ⟨⟨_, _, Try.func171, ZdJ, m171⟩, trivial⟩⟩⟩⟩⟩⟩⟩⟩⟩⟩⟩⟩⟩⟩⟩⟩⟩⟩⟩⟩⟩⟩⟩⟩⟩⟩⟩⟩⟩⟩⟩⟩⟩⟩⟩⟩⟩⟩⟩⟩⟩⟩
theorem mixed : Try.prog.follows .mixedOrders = true := by kernel_rfl
end Mu
