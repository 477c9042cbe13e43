/- The evaluator's functions are the model's. -/
import Derived.Test.YtdefkboekpjiiaaProg
import Derived.KernelRfl
import Derived.Test.YtdefkboekpjiiaaMuG
import Derived.Test.YtdefkboekpjiiaaMuPa
namespace Mu
open Go.Proofs
def Kl : List (Nat × Nat) := [(12, 161), (16, 133), (38, 176), (50, 183), (51, 184), (52, 185), (53, 186), (54, 187), (59, 46), (62, 65), (63, 66), (64, 146), (65, 147), (66, 148), (67, 149), (69, 120), (81, 53), (83, 32), (84, 201), (86, 203), (87, 91), (88, 204), (98, 208), (99, 209), (108, 82), (109, 151), (110, 137), (114, 29), (115, 219), (116, 220), (117, 221), (118, 222), (127, 225), (134, 77), (136, 83), (138, 67), (139, 90), (140, 78), (144, 231), (145, 123), (159, 89), (160, 140), (161, 141), (162, 118), (170, 97), (171, 98), (172, 136)]
def Kf : Fid := fun f => Kl.lookup f
theorem m12 : zE Try.prog Kf Try.f12 = some Zz := by kernel_rfl
theorem m16 : zE Try.prog Kf Try.f16 = some Zn := by kernel_rfl
theorem m38 : zE Try.prog Kf Try.f38 = some ZQ := by kernel_rfl
theorem m50 : zE Try.prog Kf Try.f50 = some ZX := by kernel_rfl
theorem m51 : zE Try.prog Kf Try.f51 = some Zo := by kernel_rfl
theorem m52 : zE Try.prog Kf Try.f52 = some za := by kernel_rfl
theorem m53 : zE Try.prog Kf Try.f53 = some Za3 := by kernel_rfl
theorem m54 : zE Try.prog Kf Try.f54 = some zP := by kernel_rfl
theorem m59 : zE Try.prog Kf Try.f59 = some Z1 := by kernel_rfl
theorem m62 : zE Try.prog Kf Try.f62 = some Zp := by kernel_rfl
theorem m63 : zE Try.prog Kf Try.f63 = some Z6 := by kernel_rfl
theorem m64 : zE Try.prog Kf Try.f64 = some ZP := by kernel_rfl
theorem m65 : zE Try.prog Kf Try.f65 = some ZaT := by kernel_rfl
theorem m66 : zE Try.prog Kf Try.f66 = some Z8 := by kernel_rfl
theorem m67 : zE Try.prog Kf Try.f67 = some zI := by kernel_rfl
theorem m69 : zE Try.prog Kf Try.f69 = some zO := by kernel_rfl
theorem m81 : zE Try.prog Kf Try.f81 = some ZH := by kernel_rfl
theorem m83 : zE Try.prog Kf Try.f83 = some Zar := by kernel_rfl
theorem m84 : zE Try.prog Kf Try.f84 = some Z4 := by kernel_rfl
theorem m86 : zE Try.prog Kf Try.f86 = some Zj := by kernel_rfl
theorem m87 : zE Try.prog Kf Try.f87 = some Z0 := by kernel_rfl
theorem m88 : zE Try.prog Kf Try.f88 = some ZO := by kernel_rfl
theorem m98 : zE Try.prog Kf Try.f98 = some ZV := by kernel_rfl
theorem m99 : zE Try.prog Kf Try.f99 = some ZB := by kernel_rfl
theorem m108 : zE Try.prog Kf Try.f108 = some ZU := by kernel_rfl
theorem m109 : zE Try.prog Kf Try.f109 = some Zk := by kernel_rfl
theorem m110 : zE Try.prog Kf Try.f110 = some Zm := by kernel_rfl
theorem m114 : zE Try.prog Kf Try.f114 = some Zs := by kernel_rfl
theorem m115 : zE Try.prog Kf Try.f115 = some ZF := by kernel_rfl
theorem m116 : zE Try.prog Kf Try.f116 = some Zaq := by kernel_rfl
theorem m117 : zE Try.prog Kf Try.f117 = some Z2 := by kernel_rfl
theorem m118 : zE Try.prog Kf Try.f118 = some z9 := by kernel_rfl
theorem m127 : zE Try.prog Kf Try.f127 = some Zv := by kernel_rfl
theorem m134 : zE Try.prog Kf Try.f134 = some z8 := by kernel_rfl
theorem m136 : zE Try.prog Kf Try.f136 = some Zw := by kernel_rfl
theorem m138 : zE Try.prog Kf Try.f138 = some Zy := by kernel_rfl
theorem m139 : zE Try.prog Kf Try.f139 = some Zap := by kernel_rfl
theorem m140 : zE Try.prog Kf Try.f140 = some zd := by kernel_rfl
theorem m144 : zE Try.prog Kf Try.f144 = some zr := by kernel_rfl
theorem m145 : zE Try.prog Kf Try.f145 = some zt := by kernel_rfl
theorem m159 : zE Try.prog Kf Try.f159 = some Zai := by kernel_rfl
theorem m160 : zE Try.prog Kf Try.f160 = some ZI := by kernel_rfl
theorem m161 : zE Try.prog Kf Try.f161 = some z6 := by kernel_rfl
theorem m162 : zE Try.prog Kf Try.f162 = some zn := by kernel_rfl
theorem m170 : zE Try.prog Kf Try.f170 = some Zao := by kernel_rfl
theorem m171 : zE Try.prog Kf Try.f171 = some ZN := by kernel_rfl
theorem m172 : zE Try.prog Kf Try.f172 = some Z9 := by kernel_rfl
theorem match_all : Match Try.prog Kf G := Match.of (l := Kl) rfl ⟨⟨_, _, Try.func12, Zba, m12⟩, ⟨⟨_, _, Try.func16, ZcD, m16⟩, ⟨⟨_, _, Try.func38, ZcH, m38⟩, ⟨⟨_, _, Try.func50, ZaW, m50⟩, ⟨⟨_, _, Try.func51, ZaX, m51⟩, ⟨⟨_, _, Try.func52, ZbC, m52⟩, ⟨⟨_, _, Try.func53, ZcF, m53⟩, ⟨⟨_, _, Try.func54, Zdl, m54⟩, ⟨⟨_, _, Try.func59, ZbW, m59⟩, ⟨⟨_, _, Try.func62, ZbK, m62⟩, ⟨⟨_, _, Try.func63, ZcS, m63⟩, ⟨⟨_, _, Try.func64, ZaJ, m64⟩, ⟨⟨_, _, Try.func65, Zdy, m65⟩, ⟨⟨_, _, Try.func66, ZbV, m66⟩, ⟨⟨_, _, Try.func67, ZcE, m67⟩, ⟨⟨_, _, Try.func69, Zed, m69⟩, ⟨⟨_, _, Try.func81, ZbJ, m81⟩, ⟨⟨_, _, Try.func83, ZcU, m83⟩, ⟨⟨_, _, Try.func84, ZcI, m84⟩, ⟨⟨_, _, Try.func86, ZcQ, m86⟩, ⟨⟨_, _, Try.func87, Zbn, m87⟩, ⟨⟨_, _, Try.func88, ZcR, m88⟩, ⟨⟨_, _, Try.func98, ZcO, m98⟩, ⟨⟨_, _, Try.func99, Zdm, m99⟩, ⟨⟨_, _, Try.func108, Zdk, m108⟩, ⟨⟨_, _, Try.func109, ZaQ, m109⟩, ⟨⟨_, _, Try.func110, ZcV, m110⟩, ⟨⟨_, _, Try.func114, ZcT, m114⟩, ⟨⟨_, _, Try.func115, Zcp, m115⟩, ⟨⟨_, _, Try.func116, Zcy, m116⟩, ⟨⟨_, _, Try.func117, ZbI, m117⟩, ⟨⟨_, _, Try.func118, Zcx, m118⟩, ⟨⟨_, _, Try.func127, Zco, m127⟩, ⟨⟨_, _, Try.func134, Zcw, m134⟩, ⟨⟨_, _, Try.func136, ZbE, m136⟩, ⟨⟨_, _, Try.func138, ZcG, m138⟩, ⟨⟨_, _, Try.func139, Zcv, m139⟩, ⟨⟨_, _, Try.func140, ZaZ, m140⟩, ⟨⟨_, _, Try.func144, ZcP, m144⟩, ⟨⟨_, _, Try.func145, ZbX, m145⟩, ⟨⟨_, _, Try.func159, Zdz, m159⟩, ⟨⟨_, _, Try.func160, ZbL, m160⟩, ⟨⟨_, _, Try.func161, ZbD, m161⟩, ⟨⟨_, _, Try.func162, Zby, m162⟩, ⟨⟨_, _, Try.func170, Zec, m170⟩, ⟨⟨_, _, Try.func171, ZcN, m171⟩, ⟨⟨_, _, Try.func172, ZbM, m172⟩, trivial⟩⟩⟩⟩⟩⟩⟩⟩⟩⟩⟩⟩⟩⟩⟩⟩⟩⟩⟩⟩⟩⟩⟩⟩⟩⟩⟩⟩⟩⟩⟩⟩⟩⟩⟩⟩⟩⟩⟩⟩⟩⟩⟩⟩⟩⟩⟩
theorem mixed : Try.prog.follows .mixedOrders = true := by kernel_rfl
end Mu
