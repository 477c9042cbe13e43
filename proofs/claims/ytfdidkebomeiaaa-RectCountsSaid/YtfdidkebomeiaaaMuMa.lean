/- The evaluator's functions are the model's. -/
import Derived.Test.YtfdidkebomeiaaaProg
import Derived.KernelRfl
import Derived.Test.YtfdidkebomeiaaaMuG
import Derived.Test.YtfdidkebomeiaaaMuPa
namespace Mu
open Go.Proofs
def Kl : List (Nat × Nat) := [(11, 256), (15, 28), (21, 181), (24, 177), (26, 182), (40, 264), (42, 266), (44, 268), (45, 269), (52, 46), (53, 63), (54, 64), (55, 65), (60, 53), (63, 176), (64, 119), (66, 57), (68, 77), (69, 52), (70, 34), (71, 30), (72, 206), (73, 202), (76, 207), (89, 275), (90, 51), (91, 276), (92, 178), (100, 66), (101, 32), (102, 201), (103, 203), (105, 204), (106, 90), (107, 75), (108, 76), (109, 36), (110, 223), (111, 224), (122, 278), (123, 279), (124, 13), (125, 54), (126, 48), (127, 195), (128, 91), (129, 205), (143, 82), (144, 29), (145, 219), (146, 220), (147, 221), (152, 222), (153, 55), (157, 78), (160, 15), (161, 50), (162, 58), (170, 67), (172, 83), (174, 74), (175, 79), (176, 89), (177, 97), (178, 98)]
def Kf : Fid := fun f => Kl.lookup f
theorem m11 : Zap Try.prog Kf Try.f11 = some Zo := by kernel_rfl
theorem m15 : Zap Try.prog Kf Try.f15 = some Zj := by kernel_rfl
theorem m21 : Zap Try.prog Kf Try.f21 = some Zs := by kernel_rfl
theorem m24 : Zap Try.prog Kf Try.f24 = some Zy := by kernel_rfl
theorem m26 : Zap Try.prog Kf Try.f26 = some ZX := by kernel_rfl
theorem m40 : Zap Try.prog Kf Try.f40 = some zh := by kernel_rfl
theorem m42 : Zap Try.prog Kf Try.f42 = some zm := by kernel_rfl
theorem m44 : Zap Try.prog Kf Try.f44 = some ZaV := by kernel_rfl
theorem m45 : Zap Try.prog Kf Try.f45 = some zA := by kernel_rfl
theorem m52 : Zap Try.prog Kf Try.f52 = some ZV := by kernel_rfl
theorem m53 : Zap Try.prog Kf Try.f53 = some ZA := by kernel_rfl
theorem m54 : Zap Try.prog Kf Try.f54 = some Z0 := by kernel_rfl
theorem m55 : Zap Try.prog Kf Try.f55 = some Z7 := by kernel_rfl
theorem m60 : Zap Try.prog Kf Try.f60 = some zt := by kernel_rfl
theorem m63 : Zap Try.prog Kf Try.f63 = some zF := by kernel_rfl
theorem m64 : Zap Try.prog Kf Try.f64 = some ZbH := by kernel_rfl
theorem m66 : Zap Try.prog Kf Try.f66 = some Zas := by kernel_rfl
theorem m68 : Zap Try.prog Kf Try.f68 = some ZaM := by kernel_rfl
theorem m69 : Zap Try.prog Kf Try.f69 = some zq := by kernel_rfl
theorem m70 : Zap Try.prog Kf Try.f70 = some Zx := by kernel_rfl
theorem m71 : Zap Try.prog Kf Try.f71 = some Z2 := by kernel_rfl
theorem m72 : Zap Try.prog Kf Try.f72 = some ZN := by kernel_rfl
theorem m73 : Zap Try.prog Kf Try.f73 = some ZG := by kernel_rfl
theorem m76 : Zap Try.prog Kf Try.f76 = some ZM := by kernel_rfl
theorem m89 : Zap Try.prog Kf Try.f89 = some zK := by kernel_rfl
theorem m90 : Zap Try.prog Kf Try.f90 = some z8 := by kernel_rfl
theorem m91 : Zap Try.prog Kf Try.f91 = some zO := by kernel_rfl
theorem m92 : Zap Try.prog Kf Try.f92 = some zg := by kernel_rfl
theorem m100 : Zap Try.prog Kf Try.f100 = some zd := by kernel_rfl
theorem m101 : Zap Try.prog Kf Try.f101 = some Zb7 := by kernel_rfl
theorem m102 : Zap Try.prog Kf Try.f102 = some za := by kernel_rfl
theorem m103 : Zap Try.prog Kf Try.f103 = some Z5 := by kernel_rfl
theorem m105 : Zap Try.prog Kf Try.f105 = some z4 := by kernel_rfl
theorem m106 : Zap Try.prog Kf Try.f106 = some Zb4 := by kernel_rfl
theorem m107 : Zap Try.prog Kf Try.f107 = some Zb6 := by kernel_rfl
theorem m108 : Zap Try.prog Kf Try.f108 = some ZaX := by kernel_rfl
theorem m109 : Zap Try.prog Kf Try.f109 = some Zz := by kernel_rfl
theorem m110 : Zap Try.prog Kf Try.f110 = some ZaU := by kernel_rfl
theorem m111 : Zap Try.prog Kf Try.f111 = some zl := by kernel_rfl
theorem m122 : Zap Try.prog Kf Try.f122 = some Zaa := by kernel_rfl
theorem m123 : Zap Try.prog Kf Try.f123 = some ZS := by kernel_rfl
theorem m124 : Zap Try.prog Kf Try.f124 = some zG := by kernel_rfl
theorem m125 : Zap Try.prog Kf Try.f125 = some Za1 := by kernel_rfl
theorem m126 : Zap Try.prog Kf Try.f126 = some ZD := by kernel_rfl
theorem m127 : Zap Try.prog Kf Try.f127 = some zZ := by kernel_rfl
theorem m128 : Zap Try.prog Kf Try.f128 = some ZO := by kernel_rfl
theorem m129 : Zap Try.prog Kf Try.f129 = some Zbk := by kernel_rfl
theorem m143 : Zap Try.prog Kf Try.f143 = some zH := by kernel_rfl
theorem m144 : Zap Try.prog Kf Try.f144 = some Z9 := by kernel_rfl
theorem m145 : Zap Try.prog Kf Try.f145 = some zp := by kernel_rfl
theorem m146 : Zap Try.prog Kf Try.f146 = some Zb5 := by kernel_rfl
theorem m147 : Zap Try.prog Kf Try.f147 = some ZW := by kernel_rfl
theorem m152 : Zap Try.prog Kf Try.f152 = some ZaN := by kernel_rfl
theorem m153 : Zap Try.prog Kf Try.f153 = some ZaC := by kernel_rfl
theorem m157 : Zap Try.prog Kf Try.f157 = some Zah := by kernel_rfl
theorem m160 : Zap Try.prog Kf Try.f160 = some z5 := by kernel_rfl
theorem m161 : Zap Try.prog Kf Try.f161 = some zM := by kernel_rfl
theorem m162 : Zap Try.prog Kf Try.f162 = some ZbK := by kernel_rfl
theorem m170 : Zap Try.prog Kf Try.f170 = some ZL := by kernel_rfl
theorem m172 : Zap Try.prog Kf Try.f172 = some ZE := by kernel_rfl
theorem m174 : Zap Try.prog Kf Try.f174 = some ZbV := by kernel_rfl
theorem m175 : Zap Try.prog Kf Try.f175 = some Zbl := by kernel_rfl
theorem m176 : Zap Try.prog Kf Try.f176 = some Zbv := by kernel_rfl
theorem m177 : Zap Try.prog Kf Try.f177 = some Zb3 := by kernel_rfl
theorem m178 : Zap Try.prog Kf Try.f178 = some zz := by kernel_rfl
theorem match_all : Match Try.prog Kf G := Match.of (l := Kl) rfl ⟨⟨_, _, Try.func11, Zc8, m11⟩, ⟨⟨_, _, Try.func15, ZdK, m15⟩, ⟨⟨_, _, Try.func21, Zd1, m21⟩, ⟨⟨_, _, Try.func24, Zdy, m24⟩, ⟨⟨_, _, Try.func26, Zdz, m26⟩, ⟨⟨_, _, Try.func40, Zdw, m40⟩, ⟨⟨_, _, Try.func42, Zfb, m42⟩, ⟨⟨_, _, Try.func44, Zfr, m44⟩, ⟨⟨_, _, Try.func45, ZdM, m45⟩, ⟨⟨_, _, Try.func52, ZdY, m52⟩, ⟨⟨_, _, Try.func53, Zdc, m53⟩, ⟨⟨_, _, Try.func54, Zdb, m54⟩, ⟨⟨_, _, Try.func55, ZdL, m55⟩, ⟨⟨_, _, Try.func60, ZdJ, m60⟩, ⟨⟨_, _, Try.func63, Zfd, m63⟩, ⟨⟨_, _, Try.func64, Zg9, m64⟩, ⟨⟨_, _, Try.func66, ZdW, m66⟩, ⟨⟨_, _, Try.func68, ZeC, m68⟩, ⟨⟨_, _, Try.func69, Zei, m69⟩, ⟨⟨_, _, Try.func70, Zdx, m70⟩, ⟨⟨_, _, Try.func71, Zd0, m71⟩, ⟨⟨_, _, Try.func72, ZcS, m72⟩, ⟨⟨_, _, Try.func73, Zdj, m73⟩, ⟨⟨_, _, Try.func76, ZdI, m76⟩, ⟨⟨_, _, Try.func89, Zfc, m89⟩, ⟨⟨_, _, Try.func90, ZcP, m90⟩, ⟨⟨_, _, Try.func91, Zga, m91⟩, ⟨⟨_, _, Try.func92, ZeY, m92⟩, ⟨⟨_, _, Try.func100, Zfn, m100⟩, ⟨⟨_, _, Try.func101, Zfq, m101⟩, ⟨⟨_, _, Try.func102, Zff, m102⟩, ⟨⟨_, _, Try.func103, Zfk, m103⟩, ⟨⟨_, _, Try.func105, Zfl, m105⟩, ⟨⟨_, _, Try.func106, ZeB, m106⟩, ⟨⟨_, _, Try.func107, ZeF, m107⟩, ⟨⟨_, _, Try.func108, Ze2, m108⟩, ⟨⟨_, _, Try.func109, ZdZ, m109⟩, ⟨⟨_, _, Try.func110, ZdG, m110⟩, ⟨⟨_, _, Try.func111, ZdH, m111⟩, ⟨⟨_, _, Try.func122, ZeG, m122⟩, ⟨⟨_, _, Try.func123, Zfs, m123⟩, ⟨⟨_, _, Try.func124, ZfZ, m124⟩, ⟨⟨_, _, Try.func125, Zej, m125⟩, ⟨⟨_, _, Try.func126, ZdX, m126⟩, ⟨⟨_, _, Try.func127, Zfe, m127⟩, ⟨⟨_, _, Try.func128, ZcT, m128⟩, ⟨⟨_, _, Try.func129, Zey, m129⟩, ⟨⟨_, _, Try.func143, ZfH, m143⟩, ⟨⟨_, _, Try.func144, Zfp, m144⟩, ⟨⟨_, _, Try.func145, Zex, m145⟩, ⟨⟨_, _, Try.func146, ZeE, m146⟩, ⟨⟨_, _, Try.func147, ZdF, m147⟩, ⟨⟨_, _, Try.func152, ZeD, m152⟩, ⟨⟨_, _, Try.func153, Ze1, m153⟩, ⟨⟨_, _, Try.func157, Zc6, m157⟩, ⟨⟨_, _, Try.func160, Zfm, m160⟩, ⟨⟨_, _, Try.func161, Ze0, m161⟩, ⟨⟨_, _, Try.func162, ZeZ, m162⟩, ⟨⟨_, _, Try.func170, Zfa, m170⟩, ⟨⟨_, _, Try.func172, Zd2, m172⟩, ⟨⟨_, _, Try.func174, Zfo, m174⟩, ⟨⟨_, _, Try.func175, Zez, m175⟩, ⟨⟨_, _, Try.func176, ZfY, m176⟩, ⟨⟨_, _, Try.func177, Zha, m177⟩, ⟨⟨_, _, Try.func178, Zfj, m178⟩, trivial⟩⟩⟩⟩⟩⟩⟩⟩⟩⟩⟩⟩⟩⟩⟩⟩⟩⟩⟩⟩⟩⟩⟩⟩⟩⟩⟩⟩⟩⟩⟩⟩⟩⟩⟩⟩⟩⟩⟩⟩⟩⟩⟩⟩⟩⟩⟩⟩⟩⟩⟩⟩⟩⟩⟩⟩⟩⟩⟩⟩⟩⟩⟩⟩⟩
theorem mixed : Try.prog.follows .mixedOrders = true := by kernel_rfl
end Mu
