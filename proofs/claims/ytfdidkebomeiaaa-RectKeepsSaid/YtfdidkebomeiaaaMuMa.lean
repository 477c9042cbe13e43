/- The evaluator's functions are the model's. -/
import Derived.Test.YtfdidkebomeiaaaProg
import Derived.KernelRfl
import Derived.Test.YtfdidkebomeiaaaMuG
import Derived.Test.YtfdidkebomeiaaaMuPa
namespace Mu
open Go.Proofs
def Kl : List (Nat × Nat) := [(10, 255), (15, 28), (21, 181), (24, 177), (26, 182), (40, 264), (42, 266), (44, 268), (45, 269), (52, 46), (53, 63), (54, 64), (55, 65), (60, 53), (63, 176), (64, 119), (66, 57), (68, 77), (69, 52), (70, 34), (71, 30), (72, 206), (73, 202), (76, 207), (89, 275), (90, 51), (91, 276), (92, 178), (100, 66), (101, 32), (102, 201), (103, 203), (105, 204), (106, 90), (107, 75), (108, 76), (109, 36), (110, 223), (111, 224), (122, 278), (123, 279), (124, 13), (125, 54), (126, 48), (127, 195), (128, 91), (129, 205), (143, 82), (144, 29), (145, 219), (146, 220), (147, 221), (152, 222), (153, 55), (157, 78), (160, 15), (161, 50), (162, 58), (170, 67), (172, 83), (174, 74), (175, 79), (176, 89), (177, 97), (178, 98)]
def Kf : Fid := fun f => Kl.lookup f
theorem m10 : Zau Try.prog Kf Try.f10 = some Zh := by kernel_rfl
theorem m15 : Zau Try.prog Kf Try.f15 = some Zk := by kernel_rfl
theorem m21 : Zau Try.prog Kf Try.f21 = some Zs := by kernel_rfl
theorem m24 : Zau Try.prog Kf Try.f24 = some Zy := by kernel_rfl
theorem m26 : Zau Try.prog Kf Try.f26 = some zb := by kernel_rfl
theorem m40 : Zau Try.prog Kf Try.f40 = some zj := by kernel_rfl
theorem m42 : Zau Try.prog Kf Try.f42 = some zn := by kernel_rfl
theorem m44 : Zau Try.prog Kf Try.f44 = some ZaY := by kernel_rfl
theorem m45 : Zau Try.prog Kf Try.f45 = some zF := by kernel_rfl
theorem m52 : Zau Try.prog Kf Try.f52 = some ZY := by kernel_rfl
theorem m53 : Zau Try.prog Kf Try.f53 = some ZC := by kernel_rfl
theorem m54 : Zau Try.prog Kf Try.f54 = some Z0 := by kernel_rfl
theorem m55 : Zau Try.prog Kf Try.f55 = some Z9 := by kernel_rfl
theorem m60 : Zau Try.prog Kf Try.f60 = some zu := by kernel_rfl
theorem m63 : Zau Try.prog Kf Try.f63 = some zH := by kernel_rfl
theorem m64 : Zau Try.prog Kf Try.f64 = some ZbO := by kernel_rfl
theorem m66 : Zau Try.prog Kf Try.f66 = some Zaz := by kernel_rfl
theorem m68 : Zau Try.prog Kf Try.f68 = some ZaR := by kernel_rfl
theorem m69 : Zau Try.prog Kf Try.f69 = some zq := by kernel_rfl
theorem m70 : Zau Try.prog Kf Try.f70 = some Zx := by kernel_rfl
theorem m71 : Zau Try.prog Kf Try.f71 = some Z4 := by kernel_rfl
theorem m72 : Zau Try.prog Kf Try.f72 = some ZN := by kernel_rfl
theorem m73 : Zau Try.prog Kf Try.f73 = some ZH := by kernel_rfl
theorem m76 : Zau Try.prog Kf Try.f76 = some ZM := by kernel_rfl
theorem m89 : Zau Try.prog Kf Try.f89 = some zN := by kernel_rfl
theorem m90 : Zau Try.prog Kf Try.f90 = some zA := by kernel_rfl
theorem m91 : Zau Try.prog Kf Try.f91 = some zS := by kernel_rfl
theorem m92 : Zau Try.prog Kf Try.f92 = some zi := by kernel_rfl
theorem m100 : Zau Try.prog Kf Try.f100 = some zd := by kernel_rfl
theorem m101 : Zau Try.prog Kf Try.f101 = some ZbC := by kernel_rfl
theorem m102 : Zau Try.prog Kf Try.f102 = some zc := by kernel_rfl
theorem m103 : Zau Try.prog Kf Try.f103 = some Z6 := by kernel_rfl
theorem m105 : Zau Try.prog Kf Try.f105 = some z8 := by kernel_rfl
theorem m106 : Zau Try.prog Kf Try.f106 = some Zb9 := by kernel_rfl
theorem m107 : Zau Try.prog Kf Try.f107 = some ZbB := by kernel_rfl
theorem m108 : Zau Try.prog Kf Try.f108 = some Zbc := by kernel_rfl
theorem m109 : Zau Try.prog Kf Try.f109 = some Zz := by kernel_rfl
theorem m110 : Zau Try.prog Kf Try.f110 = some ZaX := by kernel_rfl
theorem m111 : Zau Try.prog Kf Try.f111 = some zm := by kernel_rfl
theorem m122 : Zau Try.prog Kf Try.f122 = some Zac := by kernel_rfl
theorem m123 : Zau Try.prog Kf Try.f123 = some ZT := by kernel_rfl
theorem m124 : Zau Try.prog Kf Try.f124 = some zJ := by kernel_rfl
theorem m125 : Zau Try.prog Kf Try.f125 = some Za5 := by kernel_rfl
theorem m126 : Zau Try.prog Kf Try.f126 = some ZF := by kernel_rfl
theorem m127 : Zau Try.prog Kf Try.f127 = some Zab := by kernel_rfl
theorem m128 : Zau Try.prog Kf Try.f128 = some ZO := by kernel_rfl
theorem m129 : Zau Try.prog Kf Try.f129 = some Zbt := by kernel_rfl
theorem m143 : Zau Try.prog Kf Try.f143 = some zK := by kernel_rfl
theorem m144 : Zau Try.prog Kf Try.f144 = some ZB := by kernel_rfl
theorem m145 : Zau Try.prog Kf Try.f145 = some zp := by kernel_rfl
theorem m146 : Zau Try.prog Kf Try.f146 = some ZbA := by kernel_rfl
theorem m147 : Zau Try.prog Kf Try.f147 = some ZZ := by kernel_rfl
theorem m152 : Zau Try.prog Kf Try.f152 = some ZaS := by kernel_rfl
theorem m153 : Zau Try.prog Kf Try.f153 = some ZaF := by kernel_rfl
theorem m157 : Zau Try.prog Kf Try.f157 = some Zan := by kernel_rfl
theorem m160 : Zau Try.prog Kf Try.f160 = some z9 := by kernel_rfl
theorem m161 : Zau Try.prog Kf Try.f161 = some zP := by kernel_rfl
theorem m162 : Zau Try.prog Kf Try.f162 = some ZbQ := by kernel_rfl
theorem m170 : Zau Try.prog Kf Try.f170 = some ZL := by kernel_rfl
theorem m172 : Zau Try.prog Kf Try.f172 = some ZG := by kernel_rfl
theorem m174 : Zau Try.prog Kf Try.f174 = some ZbY := by kernel_rfl
theorem m175 : Zau Try.prog Kf Try.f175 = some Zbu := by kernel_rfl
theorem m176 : Zau Try.prog Kf Try.f176 = some Zb2 := by kernel_rfl
theorem m177 : Zau Try.prog Kf Try.f177 = some Zb8 := by kernel_rfl
theorem m178 : Zau Try.prog Kf Try.f178 = some z7 := by kernel_rfl
theorem match_all : Match Try.prog Kf G := Match.of (l := Kl) rfl ⟨⟨_, _, Try.func10, ZcQ, m10⟩, ⟨⟨_, _, Try.func15, ZdN, m15⟩, ⟨⟨_, _, Try.func21, Zd4, m21⟩, ⟨⟨_, _, Try.func24, Zd1, m24⟩, ⟨⟨_, _, Try.func26, Zd2, m26⟩, ⟨⟨_, _, Try.func40, Zdz, m40⟩, ⟨⟨_, _, Try.func42, Zfd, m42⟩, ⟨⟨_, _, Try.func44, Zfs, m44⟩, ⟨⟨_, _, Try.func45, ZdP, m45⟩, ⟨⟨_, _, Try.func52, ZdY, m52⟩, ⟨⟨_, _, Try.func53, Zde, m53⟩, ⟨⟨_, _, Try.func54, Zdd, m54⟩, ⟨⟨_, _, Try.func55, ZdO, m55⟩, ⟨⟨_, _, Try.func60, ZdM, m60⟩, ⟨⟨_, _, Try.func63, Zff, m63⟩, ⟨⟨_, _, Try.func64, Zg6, m64⟩, ⟨⟨_, _, Try.func66, ZdW, m66⟩, ⟨⟨_, _, Try.func68, Ze9, m68⟩, ⟨⟨_, _, Try.func69, Zeh, m69⟩, ⟨⟨_, _, Try.func70, Zd0, m70⟩, ⟨⟨_, _, Try.func71, Zd3, m71⟩, ⟨⟨_, _, Try.func72, ZcT, m72⟩, ⟨⟨_, _, Try.func73, Zdl, m73⟩, ⟨⟨_, _, Try.func76, ZdL, m76⟩, ⟨⟨_, _, Try.func89, Zfe, m89⟩, ⟨⟨_, _, Try.func90, ZcR, m90⟩, ⟨⟨_, _, Try.func91, Zga, m91⟩, ⟨⟨_, _, Try.func92, Zfa, m92⟩, ⟨⟨_, _, Try.func100, Zfo, m100⟩, ⟨⟨_, _, Try.func101, Zfr, m101⟩, ⟨⟨_, _, Try.func102, Zfh, m102⟩, ⟨⟨_, _, Try.func103, Zfl, m103⟩, ⟨⟨_, _, Try.func105, Zfm, m105⟩, ⟨⟨_, _, Try.func106, Ze8, m106⟩, ⟨⟨_, _, Try.func107, ZeC, m107⟩, ⟨⟨_, _, Try.func108, Zez, m108⟩, ⟨⟨_, _, Try.func109, ZdZ, m109⟩, ⟨⟨_, _, Try.func110, ZdJ, m110⟩, ⟨⟨_, _, Try.func111, ZdK, m111⟩, ⟨⟨_, _, Try.func122, ZeD, m122⟩, ⟨⟨_, _, Try.func123, Zft, m123⟩, ⟨⟨_, _, Try.func124, ZfZ, m124⟩, ⟨⟨_, _, Try.func125, Zei, m125⟩, ⟨⟨_, _, Try.func126, ZdX, m126⟩, ⟨⟨_, _, Try.func127, Zfg, m127⟩, ⟨⟨_, _, Try.func128, ZcU, m128⟩, ⟨⟨_, _, Try.func129, Zev, m129⟩, ⟨⟨_, _, Try.func143, ZfH, m143⟩, ⟨⟨_, _, Try.func144, Zfq, m144⟩, ⟨⟨_, _, Try.func145, Zeu, m145⟩, ⟨⟨_, _, Try.func146, ZeB, m146⟩, ⟨⟨_, _, Try.func147, ZdI, m147⟩, ⟨⟨_, _, Try.func152, ZeA, m152⟩, ⟨⟨_, _, Try.func153, Zey, m153⟩, ⟨⟨_, _, Try.func157, Zc9, m157⟩, ⟨⟨_, _, Try.func160, Zfn, m160⟩, ⟨⟨_, _, Try.func161, Zex, m161⟩, ⟨⟨_, _, Try.func162, Zfb, m162⟩, ⟨⟨_, _, Try.func170, Zfc, m170⟩, ⟨⟨_, _, Try.func172, Zd5, m172⟩, ⟨⟨_, _, Try.func174, Zfp, m174⟩, ⟨⟨_, _, Try.func175, Zew, m175⟩, ⟨⟨_, _, Try.func176, ZfY, m176⟩, ⟨⟨_, _, Try.func177, ZgU, m177⟩, ⟨⟨_, _, Try.func178, Zfk, m178⟩, trivial⟩⟩⟩⟩⟩⟩⟩⟩⟩⟩⟩⟩⟩⟩⟩⟩⟩⟩⟩⟩⟩⟩⟩⟩⟩⟩⟩⟩⟩⟩⟩⟩⟩⟩⟩⟩⟩⟩⟩⟩⟩⟩⟩⟩⟩⟩⟩⟩⟩⟩⟩⟩⟩⟩⟩⟩⟩⟩⟩⟩⟩⟩⟩⟩⟩
theorem mixed : Try.prog.follows .mixedOrders = true := by kernel_rfl
end Mu
