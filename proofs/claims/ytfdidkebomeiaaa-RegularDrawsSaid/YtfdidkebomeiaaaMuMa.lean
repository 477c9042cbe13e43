/- The evaluator's functions are the model's. -/
import Derived.Test.YtfdidkebomeiaaaProg
import Derived.KernelRfl
import Derived.Test.YtfdidkebomeiaaaMuG
import Derived.Test.YtfdidkebomeiaaaMuPa
namespace Mu
open Go.Proofs
def Kl : List (Nat × Nat) := [(4, 249), (15, 28), (19, 190), (20, 212), (21, 181), (22, 56), (24, 177), (26, 182), (27, 260), (28, 121), (29, 112), (30, 167), (31, 169), (32, 261), (52, 46), (53, 63), (54, 64), (55, 65), (60, 53), (61, 213), (62, 214), (63, 176), (64, 119), (65, 228), (66, 57), (67, 229), (68, 77), (69, 52), (70, 34), (71, 30), (72, 206), (73, 202), (76, 207), (77, 273), (78, 179), (79, 14), (80, 49), (81, 138), (82, 193), (83, 188), (84, 124), (85, 274), (90, 51), (100, 66), (101, 32), (102, 201), (103, 203), (104, 24), (105, 204), (106, 90), (107, 75), (108, 76), (109, 36), (110, 223), (111, 224), (112, 16), (113, 21), (114, 150), (128, 91), (143, 82), (144, 29), (145, 219), (146, 220), (147, 221), (148, 59), (149, 19), (150, 62), (151, 61), (152, 222), (153, 55), (157, 78), (170, 67), (171, 80), (172, 83), (176, 89), (177, 97), (178, 98)]
def Kf : Fid := fun f => Kl.lookup f
theorem m4 : ZaI Try.prog Kf Try.f4 = some Zu := by kernel_rfl
theorem m15 : ZaI Try.prog Kf Try.f15 = some Zi := by kernel_rfl
theorem m19 : ZaI Try.prog Kf Try.f19 = some Za0 := by kernel_rfl
theorem m20 : ZaI Try.prog Kf Try.f20 = some zf := by kernel_rfl
theorem m21 : ZaI Try.prog Kf Try.f21 = some Zq := by kernel_rfl
theorem m22 : ZaI Try.prog Kf Try.f22 = some z7 := by kernel_rfl
theorem m24 : ZaI Try.prog Kf Try.f24 = some Zw := by kernel_rfl
theorem m26 : ZaI Try.prog Kf Try.f26 = some zq := by kernel_rfl
theorem m27 : ZaI Try.prog Kf Try.f27 = some Zo := by kernel_rfl
theorem m28 : ZaI Try.prog Kf Try.f28 = some ZaE := by kernel_rfl
theorem m29 : ZaI Try.prog Kf Try.f29 = some ZK := by kernel_rfl
theorem m30 : ZaI Try.prog Kf Try.f30 = some ZO := by kernel_rfl
theorem m31 : ZaI Try.prog Kf Try.f31 = some zH := by kernel_rfl
theorem m32 : ZaI Try.prog Kf Try.f32 = some Zt := by kernel_rfl
theorem m52 : ZaI Try.prog Kf Try.f52 = some zn := by kernel_rfl
theorem m53 : ZaI Try.prog Kf Try.f53 = some ZQ := by kernel_rfl
theorem m54 : ZaI Try.prog Kf Try.f54 = some Z0 := by kernel_rfl
theorem m55 : ZaI Try.prog Kf Try.f55 = some ZL := by kernel_rfl
theorem m60 : ZaI Try.prog Kf Try.f60 = some Zad := by kernel_rfl
theorem m61 : ZaI Try.prog Kf Try.f61 = some zE := by kernel_rfl
theorem m62 : ZaI Try.prog Kf Try.f62 = some ZT := by kernel_rfl
theorem m63 : ZaI Try.prog Kf Try.f63 = some Zau := by kernel_rfl
theorem m64 : ZaI Try.prog Kf Try.f64 = some Zc1 := by kernel_rfl
theorem m65 : ZaI Try.prog Kf Try.f65 = some zL := by kernel_rfl
theorem m66 : ZaI Try.prog Kf Try.f66 = some Zbe := by kernel_rfl
theorem m67 : ZaI Try.prog Kf Try.f67 = some Zbr := by kernel_rfl
theorem m68 : ZaI Try.prog Kf Try.f68 = some Zbw := by kernel_rfl
theorem m69 : ZaI Try.prog Kf Try.f69 = some zW := by kernel_rfl
theorem m70 : ZaI Try.prog Kf Try.f70 = some Zv := by kernel_rfl
theorem m71 : ZaI Try.prog Kf Try.f71 = some Z3 := by kernel_rfl
theorem m72 : ZaI Try.prog Kf Try.f72 = some zd := by kernel_rfl
theorem m73 : ZaI Try.prog Kf Try.f73 = some ZZ := by kernel_rfl
theorem m76 : ZaI Try.prog Kf Try.f76 = some zc := by kernel_rfl
theorem m77 : ZaI Try.prog Kf Try.f77 = some Zj := by kernel_rfl
theorem m78 : ZaI Try.prog Kf Try.f78 = some Z7 := by kernel_rfl
theorem m79 : ZaI Try.prog Kf Try.f79 = some ZA := by kernel_rfl
theorem m80 : ZaI Try.prog Kf Try.f80 = some ZE := by kernel_rfl
theorem m81 : ZaI Try.prog Kf Try.f81 = some Zn := by kernel_rfl
theorem m82 : ZaI Try.prog Kf Try.f82 = some ZG := by kernel_rfl
theorem m83 : ZaI Try.prog Kf Try.f83 = some ZF := by kernel_rfl
theorem m84 : ZaI Try.prog Kf Try.f84 = some ZN := by kernel_rfl
theorem m85 : ZaI Try.prog Kf Try.f85 = some Zar := by kernel_rfl
theorem m90 : ZaI Try.prog Kf Try.f90 = some Zao := by kernel_rfl
theorem m100 : ZaI Try.prog Kf Try.f100 = some z9 := by kernel_rfl
theorem m101 : ZaI Try.prog Kf Try.f101 = some Zct := by kernel_rfl
theorem m102 : ZaI Try.prog Kf Try.f102 = some z6 := by kernel_rfl
theorem m103 : ZaI Try.prog Kf Try.f103 = some ZB := by kernel_rfl
theorem m104 : ZaI Try.prog Kf Try.f104 = some zA := by kernel_rfl
theorem m105 : ZaI Try.prog Kf Try.f105 = some Zal := by kernel_rfl
theorem m106 : ZaI Try.prog Kf Try.f106 = some Zcq := by kernel_rfl
theorem m107 : ZaI Try.prog Kf Try.f107 = some Zcs := by kernel_rfl
theorem m108 : ZaI Try.prog Kf Try.f108 = some ZbA := by kernel_rfl
theorem m109 : ZaI Try.prog Kf Try.f109 = some Zx := by kernel_rfl
theorem m110 : ZaI Try.prog Kf Try.f110 = some Zb6 := by kernel_rfl
theorem m111 : ZaI Try.prog Kf Try.f111 = some zM := by kernel_rfl
theorem m112 : ZaI Try.prog Kf Try.f112 = some ze := by kernel_rfl
theorem m113 : ZaI Try.prog Kf Try.f113 = some zN := by kernel_rfl
theorem m114 : ZaI Try.prog Kf Try.f114 = some zr := by kernel_rfl
theorem m128 : ZaI Try.prog Kf Try.f128 = some zg := by kernel_rfl
theorem m143 : ZaI Try.prog Kf Try.f143 = some Za1 := by kernel_rfl
theorem m144 : ZaI Try.prog Kf Try.f144 = some ZP := by kernel_rfl
theorem m145 : ZaI Try.prog Kf Try.f145 = some zV := by kernel_rfl
theorem m146 : ZaI Try.prog Kf Try.f146 = some Zcr := by kernel_rfl
theorem m147 : ZaI Try.prog Kf Try.f147 = some zo := by kernel_rfl
theorem m148 : ZaI Try.prog Kf Try.f148 = some Zc4 := by kernel_rfl
theorem m149 : ZaI Try.prog Kf Try.f149 = some zi := by kernel_rfl
theorem m150 : ZaI Try.prog Kf Try.f150 = some ZaM := by kernel_rfl
theorem m151 : ZaI Try.prog Kf Try.f151 = some ZbN := by kernel_rfl
theorem m152 : ZaI Try.prog Kf Try.f152 = some Zbx := by kernel_rfl
theorem m153 : ZaI Try.prog Kf Try.f153 = some Zbq := by kernel_rfl
theorem m157 : ZaI Try.prog Kf Try.f157 = some ZaV := by kernel_rfl
theorem m170 : ZaI Try.prog Kf Try.f170 = some zb := by kernel_rfl
theorem m171 : ZaI Try.prog Kf Try.f171 = some ZbY := by kernel_rfl
theorem m172 : ZaI Try.prog Kf Try.f172 = some ZY := by kernel_rfl
theorem m176 : ZaI Try.prog Kf Try.f176 = some Zcf := by kernel_rfl
theorem m177 : ZaI Try.prog Kf Try.f177 = some Zcp := by kernel_rfl
theorem m178 : ZaI Try.prog Kf Try.f178 = some Zak := by kernel_rfl
theorem match_all : Match Try.prog Kf G := Match.of (l := Kl) rfl ⟨⟨_, _, Try.func4, Zdn, m4⟩, ⟨⟨_, _, Try.func15, ZeG, m15⟩, ⟨⟨_, _, Try.func19, Zel, m19⟩, ⟨⟨_, _, Try.func20, ZfB, m20⟩, ⟨⟨_, _, Try.func21, Zer, m21⟩, ⟨⟨_, _, Try.func22, ZeH, m22⟩, ⟨⟨_, _, Try.func24, Zeo, m24⟩, ⟨⟨_, _, Try.func26, Zep, m26⟩, ⟨⟨_, _, Try.func27, Zdh, m27⟩, ⟨⟨_, _, Try.func28, Zff, m28⟩, ⟨⟨_, _, Try.func29, ZdZ, m29⟩, ⟨⟨_, _, Try.func30, Zet, m30⟩, ⟨⟨_, _, Try.func31, Zeu, m31⟩, ⟨⟨_, _, Try.func32, ZeL, m32⟩, ⟨⟨_, _, Try.func52, ZeV, m52⟩, ⟨⟨_, _, Try.func53, ZdR, m53⟩, ⟨⟨_, _, Try.func54, ZdQ, m54⟩, ⟨⟨_, _, Try.func55, ZeI, m55⟩, ⟨⟨_, _, Try.func60, ZeF, m60⟩, ⟨⟨_, _, Try.func61, ZeB, m61⟩, ⟨⟨_, _, Try.func62, ZfA, m62⟩, ⟨⟨_, _, Try.func63, Zgg, m63⟩, ⟨⟨_, _, Try.func64, ZhM, m64⟩, ⟨⟨_, _, Try.func65, ZfC, m65⟩, ⟨⟨_, _, Try.func66, ZeU, m66⟩, ⟨⟨_, _, Try.func67, Zec, m67⟩, ⟨⟨_, _, Try.func68, Zf6, m68⟩, ⟨⟨_, _, Try.func69, Zfe, m69⟩, ⟨⟨_, _, Try.func70, Zem, m70⟩, ⟨⟨_, _, Try.func71, Zeq, m71⟩, ⟨⟨_, _, Try.func72, Zd9, m72⟩, ⟨⟨_, _, Try.func73, Zea, m73⟩, ⟨⟨_, _, Try.func76, ZeE, m76⟩, ⟨⟨_, _, Try.func77, Zex, m77⟩, ⟨⟨_, _, Try.func78, Zew, m78⟩, ⟨⟨_, _, Try.func79, Zfg, m79⟩, ⟨⟨_, _, Try.func80, Zen, m80⟩, ⟨⟨_, _, Try.func81, Zeb, m81⟩, ⟨⟨_, _, Try.func82, ZdA, m82⟩, ⟨⟨_, _, Try.func83, Zev, m83⟩, ⟨⟨_, _, Try.func84, ZeK, m84⟩, ⟨⟨_, _, Try.func85, ZeM, m85⟩, ⟨⟨_, _, Try.func90, Zd6, m90⟩, ⟨⟨_, _, Try.func100, Zgo, m100⟩, ⟨⟨_, _, Try.func101, Zgq, m101⟩, ⟨⟨_, _, Try.func102, Zgh, m102⟩, ⟨⟨_, _, Try.func103, Zgm, m103⟩, ⟨⟨_, _, Try.func104, Zgr, m104⟩, ⟨⟨_, _, Try.func105, Zgn, m105⟩, ⟨⟨_, _, Try.func106, Zf5, m106⟩, ⟨⟨_, _, Try.func107, Zf9, m107⟩, ⟨⟨_, _, Try.func108, Zfw, m108⟩, ⟨⟨_, _, Try.func109, ZeW, m109⟩, ⟨⟨_, _, Try.func110, ZeC, m110⟩, ⟨⟨_, _, Try.func111, ZeD, m111⟩, ⟨⟨_, _, Try.func112, ZeN, m112⟩, ⟨⟨_, _, Try.func113, ZeJ, m113⟩, ⟨⟨_, _, Try.func114, Zes, m114⟩, ⟨⟨_, _, Try.func128, ZdB, m128⟩, ⟨⟨_, _, Try.func143, ZgO, m143⟩, ⟨⟨_, _, Try.func144, Zgp, m144⟩, ⟨⟨_, _, Try.func145, Zfu, m145⟩, ⟨⟨_, _, Try.func146, Zf8, m146⟩, ⟨⟨_, _, Try.func147, ZeA, m147⟩, ⟨⟨_, _, Try.func148, Zgf, m148⟩, ⟨⟨_, _, Try.func149, Zfx, m149⟩, ⟨⟨_, _, Try.func150, Zgs, m150⟩, ⟨⟨_, _, Try.func151, ZgP, m151⟩, ⟨⟨_, _, Try.func152, Zf7, m152⟩, ⟨⟨_, _, Try.func153, Zfv, m153⟩, ⟨⟨_, _, Try.func157, Zds, m157⟩, ⟨⟨_, _, Try.func170, Zge, m170⟩, ⟨⟨_, _, Try.func171, Zfy, m171⟩, ⟨⟨_, _, Try.func172, Zey, m172⟩, ⟨⟨_, _, Try.func176, Zhi, m176⟩, ⟨⟨_, _, Try.func177, Zim, m177⟩, ⟨⟨_, _, Try.func178, Zgl, m178⟩, trivial⟩⟩⟩⟩⟩⟩⟩⟩⟩⟩⟩⟩⟩⟩⟩⟩⟩⟩⟩⟩⟩⟩⟩⟩⟩⟩⟩⟩⟩⟩⟩⟩⟩⟩⟩⟩⟩⟩⟩⟩⟩⟩⟩⟩⟩⟩⟩⟩⟩⟩⟩⟩⟩⟩⟩⟩⟩⟩⟩⟩⟩⟩⟩⟩⟩⟩⟩⟩⟩⟩⟩⟩⟩⟩⟩⟩⟩
theorem mixed : Try.prog.follows .mixedOrders = true := by kernel_rfl
end Mu
