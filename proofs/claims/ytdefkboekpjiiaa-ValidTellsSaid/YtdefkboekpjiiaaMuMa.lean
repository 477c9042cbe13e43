/- The evaluator's functions are the model's. -/
import Derived.Test.YtdefkboekpjiiaaProg
import Derived.KernelRfl
import Derived.Test.YtdefkboekpjiiaaMuG
import Derived.Test.YtdefkboekpjiiaaMuPa
namespace Mu
open Go.Proofs
def Kl : List (Nat × Nat) := [(6, 155), (15, 28), (26, 34), (32, 171), (33, 172), (34, 173), (35, 174), (36, 175), (37, 30), (38, 176), (39, 177), (46, 181), (48, 182), (59, 46), (60, 63), (61, 64), (62, 65), (63, 66), (75, 195), (76, 196), (77, 197), (78, 198), (79, 199), (80, 200), (81, 53), (82, 36), (83, 32), (84, 201), (85, 202), (86, 203), (88, 204), (93, 206), (96, 207), (108, 82), (112, 217), (113, 218), (114, 29), (115, 219), (116, 220), (117, 221), (118, 222), (124, 223), (125, 224), (134, 77), (136, 83), (137, 230), (138, 67), (139, 90), (159, 89), (170, 97), (171, 98)]
def Kf : Fid := fun f => Kl.lookup f
theorem m6 : ZaA Try.prog Kf Try.f6 = some zj := by kernel_rfl
theorem m15 : ZaA Try.prog Kf Try.f15 = some Zk := by kernel_rfl
theorem m26 : ZaA Try.prog Kf Try.f26 = some Zy := by kernel_rfl
theorem m32 : ZaA Try.prog Kf Try.f32 = some Z4 := by kernel_rfl
theorem m33 : ZaA Try.prog Kf Try.f33 = some Zal := by kernel_rfl
theorem m34 : ZaA Try.prog Kf Try.f34 = some zg := by kernel_rfl
theorem m35 : ZaA Try.prog Kf Try.f35 = some Zq := by kernel_rfl
theorem m36 : ZaA Try.prog Kf Try.f36 = some Zj := by kernel_rfl
theorem m37 : ZaA Try.prog Kf Try.f37 = some Z7 := by kernel_rfl
theorem m38 : ZaA Try.prog Kf Try.f38 = some zL := by kernel_rfl
theorem m39 : ZaA Try.prog Kf Try.f39 = some Z0 := by kernel_rfl
theorem m46 : ZaA Try.prog Kf Try.f46 = some Zu := by kernel_rfl
theorem m48 : ZaA Try.prog Kf Try.f48 = some zc := by kernel_rfl
theorem m59 : ZaA Try.prog Kf Try.f59 = some ZY := by kernel_rfl
theorem m60 : ZaA Try.prog Kf Try.f60 = some ZG := by kernel_rfl
theorem m61 : ZaA Try.prog Kf Try.f61 = some Z5 := by kernel_rfl
theorem m62 : ZaA Try.prog Kf Try.f62 = some ZE := by kernel_rfl
theorem m63 : ZaA Try.prog Kf Try.f63 = some zi := by kernel_rfl
theorem m75 : ZaA Try.prog Kf Try.f75 = some Zag := by kernel_rfl
theorem m76 : ZaA Try.prog Kf Try.f76 = some zt := by kernel_rfl
theorem m77 : ZaA Try.prog Kf Try.f77 = some Z6 := by kernel_rfl
theorem m78 : ZaA Try.prog Kf Try.f78 = some Zz := by kernel_rfl
theorem m79 : ZaA Try.prog Kf Try.f79 = some za := by kernel_rfl
theorem m80 : ZaA Try.prog Kf Try.f80 = some Z1 := by kernel_rfl
theorem m81 : ZaA Try.prog Kf Try.f81 = some z8 := by kernel_rfl
theorem m82 : ZaA Try.prog Kf Try.f82 = some Z2 := by kernel_rfl
theorem m83 : ZaA Try.prog Kf Try.f83 = some Zbr := by kernel_rfl
theorem m84 : ZaA Try.prog Kf Try.f84 = some zf := by kernel_rfl
theorem m85 : ZaA Try.prog Kf Try.f85 = some ZN := by kernel_rfl
theorem m86 : ZaA Try.prog Kf Try.f86 = some ZC := by kernel_rfl
theorem m88 : ZaA Try.prog Kf Try.f88 = some zE := by kernel_rfl
theorem m93 : ZaA Try.prog Kf Try.f93 = some ZQ := by kernel_rfl
theorem m96 : ZaA Try.prog Kf Try.f96 = some ZP := by kernel_rfl
theorem m108 : ZaA Try.prog Kf Try.f108 = some zP := by kernel_rfl
theorem m112 : ZaA Try.prog Kf Try.f112 = some zp := by kernel_rfl
theorem m113 : ZaA Try.prog Kf Try.f113 = some Za3 := by kernel_rfl
theorem m114 : ZaA Try.prog Kf Try.f114 = some ZF := by kernel_rfl
theorem m115 : ZaA Try.prog Kf Try.f115 = some z5 := by kernel_rfl
theorem m116 : ZaA Try.prog Kf Try.f116 = some Zbq := by kernel_rfl
theorem m117 : ZaA Try.prog Kf Try.f117 = some ZZ := by kernel_rfl
theorem m118 : ZaA Try.prog Kf Try.f118 = some ZaE := by kernel_rfl
theorem m124 : ZaA Try.prog Kf Try.f124 = some ZaJ := by kernel_rfl
theorem m125 : ZaA Try.prog Kf Try.f125 = some zw := by kernel_rfl
theorem m134 : ZaA Try.prog Kf Try.f134 = some ZaD := by kernel_rfl
theorem m136 : ZaA Try.prog Kf Try.f136 = some ZL := by kernel_rfl
theorem m137 : ZaA Try.prog Kf Try.f137 = some zh := by kernel_rfl
theorem m138 : ZaA Try.prog Kf Try.f138 = some ZO := by kernel_rfl
theorem m139 : ZaA Try.prog Kf Try.f139 = some Zbp := by kernel_rfl
theorem m159 : ZaA Try.prog Kf Try.f159 = some Zbi := by kernel_rfl
theorem m170 : ZaA Try.prog Kf Try.f170 = some Zbo := by kernel_rfl
theorem m171 : ZaA Try.prog Kf Try.f171 = some zD := by kernel_rfl
theorem match_all : Match Try.prog Kf G := Match.of (l := Kl) rfl ⟨⟨_, _, Try.func6, ZbM, m6⟩, ⟨⟨_, _, Try.func15, ZcQ, m15⟩, ⟨⟨_, _, Try.func26, Zc3, m26⟩, ⟨⟨_, _, Try.func32, ZcN, m32⟩, ⟨⟨_, _, Try.func33, Zc0, m33⟩, ⟨⟨_, _, Try.func34, ZcJ, m34⟩, ⟨⟨_, _, Try.func35, Zc5, m35⟩, ⟨⟨_, _, Try.func36, Zdk, m36⟩, ⟨⟨_, _, Try.func37, Zc8, m37⟩, ⟨⟨_, _, Try.func38, ZdQ, m38⟩, ⟨⟨_, _, Try.func39, Zc6, m39⟩, ⟨⟨_, _, Try.func46, Zc9, m46⟩, ⟨⟨_, _, Try.func48, Zc7, m48⟩, ⟨⟨_, _, Try.func59, Zda, m59⟩, ⟨⟨_, _, Try.func60, Zck, m60⟩, ⟨⟨_, _, Try.func61, Zcj, m61⟩, ⟨⟨_, _, Try.func62, ZcR, m62⟩, ⟨⟨_, _, Try.func63, ZdY, m63⟩, ⟨⟨_, _, Try.func75, ZdR, m75⟩, ⟨⟨_, _, Try.func76, Zcq, m76⟩, ⟨⟨_, _, Try.func77, Zc1, m77⟩, ⟨⟨_, _, Try.func78, Zc4, m78⟩, ⟨⟨_, _, Try.func79, Zdl, m79⟩, ⟨⟨_, _, Try.func80, Zdb, m80⟩, ⟨⟨_, _, Try.func81, ZcP, m81⟩, ⟨⟨_, _, Try.func82, Zdc, m82⟩, ⟨⟨_, _, Try.func83, Zea, m83⟩, ⟨⟨_, _, Try.func84, ZdS, m84⟩, ⟨⟨_, _, Try.func85, Zcr, m85⟩, ⟨⟨_, _, Try.func86, ZdW, m86⟩, ⟨⟨_, _, Try.func88, ZdX, m88⟩, ⟨⟨_, _, Try.func93, Zca, m93⟩, ⟨⟨_, _, Try.func96, ZcM, m96⟩, ⟨⟨_, _, Try.func108, Zep, m108⟩, ⟨⟨_, _, Try.func112, Zc2, m112⟩, ⟨⟨_, _, Try.func113, ZcS, m113⟩, ⟨⟨_, _, Try.func114, ZdZ, m114⟩, ⟨⟨_, _, Try.func115, Zdv, m115⟩, ⟨⟨_, _, Try.func116, Zd8, m116⟩, ⟨⟨_, _, Try.func117, ZcI, m117⟩, ⟨⟨_, _, Try.func118, Zd7, m118⟩, ⟨⟨_, _, Try.func124, ZcK, m124⟩, ⟨⟨_, _, Try.func125, ZcL, m125⟩, ⟨⟨_, _, Try.func134, Zd6, m134⟩, ⟨⟨_, _, Try.func136, ZcA, m136⟩, ⟨⟨_, _, Try.func137, ZcO, m137⟩, ⟨⟨_, _, Try.func138, ZdP, m138⟩, ⟨⟨_, _, Try.func139, Zd5, m139⟩, ⟨⟨_, _, Try.func159, Ze2, m159⟩, ⟨⟨_, _, Try.func170, Zfl, m170⟩, ⟨⟨_, _, Try.func171, ZdV, m171⟩, trivial⟩⟩⟩⟩⟩⟩⟩⟩⟩⟩⟩⟩⟩⟩⟩⟩⟩⟩⟩⟩⟩⟩⟩⟩⟩⟩⟩⟩⟩⟩⟩⟩⟩⟩⟩⟩⟩⟩⟩⟩⟩⟩⟩⟩⟩⟩⟩⟩⟩⟩⟩
theorem mixed : Try.prog.follows .mixedOrders = true := by kernel_rfl
end Mu
