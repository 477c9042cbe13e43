/- The evaluator's functions are the model's. -/
import Derived.Test.YtdefkboekpjiiaaProg
import Derived.KernelRfl
import Derived.Test.YtdefkboekpjiiaaMuG
import Derived.Test.YtdefkboekpjiiaaMuPa
namespace Mu
open Go.Proofs
def Kl : List (Nat × Nat) := [(7, 156), (15, 28), (33, 172), (37, 30), (38, 176), (59, 46), (60, 63), (61, 64), (62, 65), (63, 66), (75, 195), (76, 196), (81, 53), (82, 36), (83, 32), (84, 201), (86, 203), (88, 204), (108, 82), (114, 29), (115, 219), (116, 220), (117, 221), (118, 222), (134, 77), (136, 83), (138, 67), (139, 90), (159, 89), (170, 97), (171, 98)]
def Kf : Fid := fun f => Kl.lookup f
theorem m7 : Zaq Try.prog Kf Try.f7 = some ZH := by kernel_rfl
theorem m15 : Zaq Try.prog Kf Try.f15 = some Zf := by kernel_rfl
theorem m33 : Zaq Try.prog Kf Try.f33 = some zg := by kernel_rfl
theorem m37 : Zaq Try.prog Kf Try.f37 = some Zq := by kernel_rfl
theorem m38 : Zaq Try.prog Kf Try.f38 = some ZU := by kernel_rfl
theorem m59 : Zaq Try.prog Kf Try.f59 = some ZA := by kernel_rfl
theorem m60 : Zaq Try.prog Kf Try.f60 = some Z0 := by kernel_rfl
theorem m61 : Zaq Try.prog Kf Try.f61 = some Zn := by kernel_rfl
theorem m62 : Zaq Try.prog Kf Try.f62 = some Zw := by kernel_rfl
theorem m63 : Zaq Try.prog Kf Try.f63 = some ZG := by kernel_rfl
theorem m75 : Zaq Try.prog Kf Try.f75 = some ze := by kernel_rfl
theorem m76 : Zaq Try.prog Kf Try.f76 = some ZI := by kernel_rfl
theorem m81 : Zaq Try.prog Kf Try.f81 = some ZP := by kernel_rfl
theorem m82 : Zaq Try.prog Kf Try.f82 = some Zl := by kernel_rfl
theorem m83 : Zaq Try.prog Kf Try.f83 = some Zaj := by kernel_rfl
theorem m84 : Zaq Try.prog Kf Try.f84 = some ZD := by kernel_rfl
theorem m86 : Zaq Try.prog Kf Try.f86 = some Zu := by kernel_rfl
theorem m88 : Zaq Try.prog Kf Try.f88 = some ZS := by kernel_rfl
theorem m108 : Zaq Try.prog Kf Try.f108 = some ZW := by kernel_rfl
theorem m114 : Zaq Try.prog Kf Try.f114 = some Zz := by kernel_rfl
theorem m115 : Zaq Try.prog Kf Try.f115 = some ZL := by kernel_rfl
theorem m116 : Zaq Try.prog Kf Try.f116 = some Zai := by kernel_rfl
theorem m117 : Zaq Try.prog Kf Try.f117 = some ZB := by kernel_rfl
theorem m118 : Zaq Try.prog Kf Try.f118 = some z2 := by kernel_rfl
theorem m134 : Zaq Try.prog Kf Try.f134 = some z1 := by kernel_rfl
theorem m136 : Zaq Try.prog Kf Try.f136 = some Z2 := by kernel_rfl
theorem m138 : Zaq Try.prog Kf Try.f138 = some Z5 := by kernel_rfl
theorem m139 : Zaq Try.prog Kf Try.f139 = some Zah := by kernel_rfl
theorem m159 : Zaq Try.prog Kf Try.f159 = some Zac := by kernel_rfl
theorem m170 : Zaq Try.prog Kf Try.f170 = some Zag := by kernel_rfl
theorem m171 : Zaq Try.prog Kf Try.f171 = some ZR := by kernel_rfl
theorem match_all : Match Try.prog Kf G := Match.of (l := Kl) rfl ⟨⟨_, _, Try.func7, ZaK, m7⟩, ⟨⟨_, _, Try.func15, ZbE, m15⟩, ⟨⟨_, _, Try.func33, Zb4, m33⟩, ⟨⟨_, _, Try.func37, Zb5, m37⟩, ⟨⟨_, _, Try.func38, ZcI, m38⟩, ⟨⟨_, _, Try.func59, ZbO, m59⟩, ⟨⟨_, _, Try.func60, Zbj, m60⟩, ⟨⟨_, _, Try.func61, Zbi, m61⟩, ⟨⟨_, _, Try.func62, ZbF, m62⟩, ⟨⟨_, _, Try.func63, ZcR, m63⟩, ⟨⟨_, _, Try.func75, ZcJ, m75⟩, ⟨⟨_, _, Try.func76, Zbp, m76⟩, ⟨⟨_, _, Try.func81, ZbD, m81⟩, ⟨⟨_, _, Try.func82, ZbP, m82⟩, ⟨⟨_, _, Try.func83, ZcT, m83⟩, ⟨⟨_, _, Try.func84, ZcK, m84⟩, ⟨⟨_, _, Try.func86, ZcP, m86⟩, ⟨⟨_, _, Try.func88, ZcQ, m88⟩, ⟨⟨_, _, Try.func108, Zds, m108⟩, ⟨⟨_, _, Try.func114, ZcS, m114⟩, ⟨⟨_, _, Try.func115, Zci, m115⟩, ⟨⟨_, _, Try.func116, Zcv, m116⟩, ⟨⟨_, _, Try.func117, ZbC, m117⟩, ⟨⟨_, _, Try.func118, Zcu, m118⟩, ⟨⟨_, _, Try.func134, Zct, m134⟩, ⟨⟨_, _, Try.func136, Zb6, m136⟩, ⟨⟨_, _, Try.func138, ZcH, m138⟩, ⟨⟨_, _, Try.func139, Zcs, m139⟩, ⟨⟨_, _, Try.func159, Zd6, m159⟩, ⟨⟨_, _, Try.func170, Zey, m170⟩, ⟨⟨_, _, Try.func171, ZcO, m171⟩, trivial⟩⟩⟩⟩⟩⟩⟩⟩⟩⟩⟩⟩⟩⟩⟩⟩⟩⟩⟩⟩⟩⟩⟩⟩⟩⟩⟩⟩⟩⟩⟩
theorem mixed : Try.prog.follows .mixedOrders = true := by kernel_rfl
end Mu
