/- The evaluator's functions are the model's. -/
import Derived.Test.YtdefkboekpjiiaaProg
import Derived.KernelRfl
import Derived.Test.YtdefkboekpjiiaaMuG
import Derived.Test.YtdefkboekpjiiaaMuPa
namespace Mu
open Go.Proofs
def Kl : List (Nat × Nat) := [(8, 157), (15, 28), (32, 171), (33, 172), (35, 174), (36, 175), (38, 176), (39, 177), (59, 46), (60, 63), (61, 64), (62, 65), (63, 66), (75, 195), (76, 196), (77, 197), (78, 198), (79, 199), (80, 200), (81, 53), (83, 32), (84, 201), (85, 202), (86, 203), (88, 204), (108, 82), (112, 217), (113, 218), (114, 29), (115, 219), (116, 220), (117, 221), (118, 222), (134, 77), (136, 83), (137, 230), (138, 67), (139, 90), (159, 89), (170, 97), (171, 98)]
def Kf : Fid := fun f => Kl.lookup f
theorem m8 : Za9 Try.prog Kf Try.f8 = some Zm := by kernel_rfl
theorem m15 : Za9 Try.prog Kf Try.f15 = some Zi := by kernel_rfl
theorem m32 : Za9 Try.prog Kf Try.f32 = some Zy := by kernel_rfl
theorem m33 : Za9 Try.prog Kf Try.f33 = some zL := by kernel_rfl
theorem m35 : Za9 Try.prog Kf Try.f35 = some Zq := by kernel_rfl
theorem m36 : Za9 Try.prog Kf Try.f36 = some Zh := by kernel_rfl
theorem m38 : Za9 Try.prog Kf Try.f38 = some z2 := by kernel_rfl
theorem m39 : Za9 Try.prog Kf Try.f39 = some Zv := by kernel_rfl
theorem m59 : Za9 Try.prog Kf Try.f59 = some ZR := by kernel_rfl
theorem m60 : Za9 Try.prog Kf Try.f60 = some ZD := by kernel_rfl
theorem m61 : Za9 Try.prog Kf Try.f61 = some Zz := by kernel_rfl
theorem m62 : Za9 Try.prog Kf Try.f62 = some ZA := by kernel_rfl
theorem m63 : Za9 Try.prog Kf Try.f63 = some ZY := by kernel_rfl
theorem m75 : Za9 Try.prog Kf Try.f75 = some zI := by kernel_rfl
theorem m76 : Za9 Try.prog Kf Try.f76 = some zf := by kernel_rfl
theorem m77 : Za9 Try.prog Kf Try.f77 = some Z1 := by kernel_rfl
theorem m78 : Za9 Try.prog Kf Try.f78 = some Zu := by kernel_rfl
theorem m79 : Za9 Try.prog Kf Try.f79 = some ZT := by kernel_rfl
theorem m80 : Za9 Try.prog Kf Try.f80 = some Zw := by kernel_rfl
theorem m81 : Za9 Try.prog Kf Try.f81 = some zm := by kernel_rfl
theorem m83 : Za9 Try.prog Kf Try.f83 = some ZaQ := by kernel_rfl
theorem m84 : Za9 Try.prog Kf Try.f84 = some ZW := by kernel_rfl
theorem m85 : Za9 Try.prog Kf Try.f85 = some ZI := by kernel_rfl
theorem m86 : Za9 Try.prog Kf Try.f86 = some Z7 := by kernel_rfl
theorem m88 : Za9 Try.prog Kf Try.f88 = some zu := by kernel_rfl
theorem m108 : Za9 Try.prog Kf Try.f108 = some z3 := by kernel_rfl
theorem m112 : Za9 Try.prog Kf Try.f112 = some zd := by kernel_rfl
theorem m113 : Za9 Try.prog Kf Try.f113 = some Zaj := by kernel_rfl
theorem m114 : Za9 Try.prog Kf Try.f114 = some ZC := by kernel_rfl
theorem m115 : Za9 Try.prog Kf Try.f115 = some zj := by kernel_rfl
theorem m116 : Za9 Try.prog Kf Try.f116 = some ZaP := by kernel_rfl
theorem m117 : Za9 Try.prog Kf Try.f117 = some ZS := by kernel_rfl
theorem m118 : Za9 Try.prog Kf Try.f118 = some Zau := by kernel_rfl
theorem m134 : Za9 Try.prog Kf Try.f134 = some Zat := by kernel_rfl
theorem m136 : Za9 Try.prog Kf Try.f136 = some ZG := by kernel_rfl
theorem m137 : Za9 Try.prog Kf Try.f137 = some ZX := by kernel_rfl
theorem m138 : Za9 Try.prog Kf Try.f138 = some ZJ := by kernel_rfl
theorem m139 : Za9 Try.prog Kf Try.f139 = some ZaO := by kernel_rfl
theorem m159 : Za9 Try.prog Kf Try.f159 = some ZaJ := by kernel_rfl
theorem m170 : Za9 Try.prog Kf Try.f170 = some ZaN := by kernel_rfl
theorem m171 : Za9 Try.prog Kf Try.f171 = some zt := by kernel_rfl
theorem match_all : Match Try.prog Kf G := Match.of (l := Kl) rfl ⟨⟨_, _, Try.func8, Zbx, m8⟩, ⟨⟨_, _, Try.func15, Zcr, m15⟩, ⟨⟨_, _, Try.func32, Zco, m32⟩, ⟨⟨_, _, Try.func33, ZbY, m33⟩, ⟨⟨_, _, Try.func35, Zcc, m35⟩, ⟨⟨_, _, Try.func36, ZcA, m36⟩, ⟨⟨_, _, Try.func38, Zds, m38⟩, ⟨⟨_, _, Try.func39, Zcd, m39⟩, ⟨⟨_, _, Try.func59, Zc4, m59⟩, ⟨⟨_, _, Try.func60, ZbI, m60⟩, ⟨⟨_, _, Try.func61, ZbH, m61⟩, ⟨⟨_, _, Try.func62, Zcs, m62⟩, ⟨⟨_, _, Try.func63, Zd2, m63⟩, ⟨⟨_, _, Try.func75, Zdt, m75⟩, ⟨⟨_, _, Try.func76, ZbO, m76⟩, ⟨⟨_, _, Try.func77, ZbZ, m77⟩, ⟨⟨_, _, Try.func78, Zcb, m78⟩, ⟨⟨_, _, Try.func79, ZcB, m79⟩, ⟨⟨_, _, Try.func80, Zc5, m80⟩, ⟨⟨_, _, Try.func81, Zcq, m81⟩, ⟨⟨_, _, Try.func83, Zd4, m83⟩, ⟨⟨_, _, Try.func84, Zdu, m84⟩, ⟨⟨_, _, Try.func85, ZbP, m85⟩, ⟨⟨_, _, Try.func86, Zd0, m86⟩, ⟨⟨_, _, Try.func88, Zd1, m88⟩, ⟨⟨_, _, Try.func108, ZdL, m108⟩, ⟨⟨_, _, Try.func112, Zca, m112⟩, ⟨⟨_, _, Try.func113, Zct, m113⟩, ⟨⟨_, _, Try.func114, Zd3, m114⟩, ⟨⟨_, _, Try.func115, ZcO, m115⟩, ⟨⟨_, _, Try.func116, Zda, m116⟩, ⟨⟨_, _, Try.func117, Zcn, m117⟩, ⟨⟨_, _, Try.func118, ZcZ, m118⟩, ⟨⟨_, _, Try.func134, ZcY, m134⟩, ⟨⟨_, _, Try.func136, Zce, m136⟩, ⟨⟨_, _, Try.func137, Zcp, m137⟩, ⟨⟨_, _, Try.func138, Zdr, m138⟩, ⟨⟨_, _, Try.func139, ZcX, m139⟩, ⟨⟨_, _, Try.func159, ZdV, m159⟩, ⟨⟨_, _, Try.func170, ZeH, m170⟩, ⟨⟨_, _, Try.func171, Zdz, m171⟩, trivial⟩⟩⟩⟩⟩⟩⟩⟩⟩⟩⟩⟩⟩⟩⟩⟩⟩⟩⟩⟩⟩⟩⟩⟩⟩⟩⟩⟩⟩⟩⟩⟩⟩⟩⟩⟩⟩⟩⟩⟩⟩
theorem mixed : Try.prog.follows .mixedOrders = true := by kernel_rfl
end Mu
