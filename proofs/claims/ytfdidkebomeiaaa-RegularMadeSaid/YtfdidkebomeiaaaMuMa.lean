/- The evaluator's functions are the model's. -/
import Derived.Test.YtfdidkebomeiaaaProg
import Derived.KernelRfl
import Derived.Test.YtfdidkebomeiaaaMuG
import Derived.Test.YtfdidkebomeiaaaMuPa
namespace Mu
open Go.Proofs
def Kl : List (Nat × Nat) := [(3, 248), (15, 28), (16, 171), (17, 174), (18, 175), (19, 190), (20, 212), (21, 181), (22, 56), (23, 215), (24, 177), (25, 25), (26, 182), (52, 46), (53, 63), (54, 64), (55, 65), (56, 197), (57, 198), (58, 199), (59, 200), (60, 53), (61, 213), (62, 214), (63, 176), (64, 119), (65, 228), (66, 57), (67, 229), (68, 77), (69, 52), (70, 34), (71, 30), (72, 206), (73, 202), (74, 20), (75, 23), (76, 207), (90, 51), (98, 217), (99, 218), (100, 66), (101, 32), (102, 201), (103, 203), (104, 24), (105, 204), (106, 90), (107, 75), (108, 76), (109, 36), (110, 223), (111, 224), (128, 91), (142, 230), (143, 82), (144, 29), (145, 219), (146, 220), (147, 221), (148, 59), (149, 19), (150, 62), (151, 61), (152, 222), (153, 55), (157, 78), (170, 67), (171, 80), (172, 83), (176, 89), (177, 97), (178, 98)]
def Kf : Fid := fun f => Kl.lookup f
theorem m3 : ZaB Try.prog Kf Try.f3 = some Zf := by kernel_rfl
theorem m15 : ZaB Try.prog Kf Try.f15 = some Zj := by kernel_rfl
theorem m16 : ZaB Try.prog Kf Try.f16 = some Z1 := by kernel_rfl
theorem m17 : ZaB Try.prog Kf Try.f17 = some Zq := by kernel_rfl
theorem m18 : ZaB Try.prog Kf Try.f18 = some Zi := by kernel_rfl
theorem m19 : ZaB Try.prog Kf Try.f19 = some Zax := by kernel_rfl
theorem m20 : ZaB Try.prog Kf Try.f20 = some zc := by kernel_rfl
theorem m21 : ZaB Try.prog Kf Try.f21 = some Zr := by kernel_rfl
theorem m22 : ZaB Try.prog Kf Try.f22 = some zz := by kernel_rfl
theorem m23 : ZaB Try.prog Kf Try.f23 = some ZG := by kernel_rfl
theorem m24 : ZaB Try.prog Kf Try.f24 = some Zx := by kernel_rfl
theorem m25 : ZaB Try.prog Kf Try.f25 = some ZL := by kernel_rfl
theorem m26 : ZaB Try.prog Kf Try.f26 = some zr := by kernel_rfl
theorem m52 : ZaB Try.prog Kf Try.f52 = some zm := by kernel_rfl
theorem m53 : ZaB Try.prog Kf Try.f53 = some ZO := by kernel_rfl
theorem m54 : ZaB Try.prog Kf Try.f54 = some Z2 := by kernel_rfl
theorem m55 : ZaB Try.prog Kf Try.f55 = some ZI := by kernel_rfl
theorem m56 : ZaB Try.prog Kf Try.f56 = some Z5 := by kernel_rfl
theorem m57 : ZaB Try.prog Kf Try.f57 = some Zw := by kernel_rfl
theorem m58 : ZaB Try.prog Kf Try.f58 = some zq := by kernel_rfl
theorem m59 : ZaB Try.prog Kf Try.f59 = some Zy := by kernel_rfl
theorem m60 : ZaB Try.prog Kf Try.f60 = some Zac := by kernel_rfl
theorem m61 : ZaB Try.prog Kf Try.f61 = some zA := by kernel_rfl
theorem m62 : ZaB Try.prog Kf Try.f62 = some ZR := by kernel_rfl
theorem m63 : ZaB Try.prog Kf Try.f63 = some Zar := by kernel_rfl
theorem m64 : ZaB Try.prog Kf Try.f64 = some Zcq := by kernel_rfl
theorem m65 : ZaB Try.prog Kf Try.f65 = some zL := by kernel_rfl
theorem m66 : ZaB Try.prog Kf Try.f66 = some ZaR := by kernel_rfl
theorem m67 : ZaB Try.prog Kf Try.f67 = some Zbs := by kernel_rfl
theorem m68 : ZaB Try.prog Kf Try.f68 = some Zb3 := by kernel_rfl
theorem m69 : ZaB Try.prog Kf Try.f69 = some zW := by kernel_rfl
theorem m70 : ZaB Try.prog Kf Try.f70 = some Zv := by kernel_rfl
theorem m71 : ZaB Try.prog Kf Try.f71 = some Z8 := by kernel_rfl
theorem m72 : ZaB Try.prog Kf Try.f72 = some zb := by kernel_rfl
theorem m73 : ZaB Try.prog Kf Try.f73 = some ZW := by kernel_rfl
theorem m74 : ZaB Try.prog Kf Try.f74 = some ZP := by kernel_rfl
theorem m75 : ZaB Try.prog Kf Try.f75 = some Z7 := by kernel_rfl
theorem m76 : ZaB Try.prog Kf Try.f76 = some za := by kernel_rfl
theorem m90 : ZaB Try.prog Kf Try.f90 = some Zan := by kernel_rfl
theorem m98 : ZaB Try.prog Kf Try.f98 = some zF := by kernel_rfl
theorem m99 : ZaB Try.prog Kf Try.f99 = some Zbh := by kernel_rfl
theorem m100 : ZaB Try.prog Kf Try.f100 = some z5 := by kernel_rfl
theorem m101 : ZaB Try.prog Kf Try.f101 = some Zcj := by kernel_rfl
theorem m102 : ZaB Try.prog Kf Try.f102 = some zx := by kernel_rfl
theorem m103 : ZaB Try.prog Kf Try.f103 = some ZE := by kernel_rfl
theorem m104 : ZaB Try.prog Kf Try.f104 = some z6 := by kernel_rfl
theorem m105 : ZaB Try.prog Kf Try.f105 = some Zam := by kernel_rfl
theorem m106 : ZaB Try.prog Kf Try.f106 = some Zcg := by kernel_rfl
theorem m107 : ZaB Try.prog Kf Try.f107 = some Zci := by kernel_rfl
theorem m108 : ZaB Try.prog Kf Try.f108 = some ZbE := by kernel_rfl
theorem m109 : ZaB Try.prog Kf Try.f109 = some Zz := by kernel_rfl
theorem m110 : ZaB Try.prog Kf Try.f110 = some Zb9 := by kernel_rfl
theorem m111 : ZaB Try.prog Kf Try.f111 = some zO := by kernel_rfl
theorem m128 : ZaB Try.prog Kf Try.f128 = some zd := by kernel_rfl
theorem m142 : ZaB Try.prog Kf Try.f142 = some zy := by kernel_rfl
theorem m143 : ZaB Try.prog Kf Try.f143 = some Zay := by kernel_rfl
theorem m144 : ZaB Try.prog Kf Try.f144 = some ZN := by kernel_rfl
theorem m145 : ZaB Try.prog Kf Try.f145 = some zU := by kernel_rfl
theorem m146 : ZaB Try.prog Kf Try.f146 = some Zch := by kernel_rfl
theorem m147 : ZaB Try.prog Kf Try.f147 = some zp := by kernel_rfl
theorem m148 : ZaB Try.prog Kf Try.f148 = some Zcu := by kernel_rfl
theorem m149 : ZaB Try.prog Kf Try.f149 = some zg := by kernel_rfl
theorem m150 : ZaB Try.prog Kf Try.f150 = some ZaA := by kernel_rfl
theorem m151 : ZaB Try.prog Kf Try.f151 = some ZbO := by kernel_rfl
theorem m152 : ZaB Try.prog Kf Try.f152 = some Zb4 := by kernel_rfl
theorem m153 : ZaB Try.prog Kf Try.f153 = some Zbq := by kernel_rfl
theorem m157 : ZaB Try.prog Kf Try.f157 = some ZaJ := by kernel_rfl
theorem m170 : ZaB Try.prog Kf Try.f170 = some ZZ := by kernel_rfl
theorem m171 : ZaB Try.prog Kf Try.f171 = some ZbS := by kernel_rfl
theorem m172 : ZaB Try.prog Kf Try.f172 = some ZU := by kernel_rfl
theorem m176 : ZaB Try.prog Kf Try.f176 = some ZbY := by kernel_rfl
theorem m177 : ZaB Try.prog Kf Try.f177 = some Zcf := by kernel_rfl
theorem m178 : ZaB Try.prog Kf Try.f178 = some Zal := by kernel_rfl
theorem match_all : Match Try.prog Kf G := Match.of (l := Kl) rfl ⟨⟨_, _, Try.func3, ZcV, m3⟩, ⟨⟨_, _, Try.func15, Zeo, m15⟩, ⟨⟨_, _, Try.func16, Zel, m16⟩, ⟨⟨_, _, Try.func17, ZdQ, m17⟩, ⟨⟨_, _, Try.func18, ZeF, m18⟩, ⟨⟨_, _, Try.func19, ZdL, m19⟩, ⟨⟨_, _, Try.func20, Zfq, m20⟩, ⟨⟨_, _, Try.func21, ZdU, m21⟩, ⟨⟨_, _, Try.func22, Zep, m22⟩, ⟨⟨_, _, Try.func23, Zet, m23⟩, ⟨⟨_, _, Try.func24, ZdR, m24⟩, ⟨⟨_, _, Try.func25, Zes, m25⟩, ⟨⟨_, _, Try.func26, ZdS, m26⟩, ⟨⟨_, _, Try.func52, Ze2, m52⟩, ⟨⟨_, _, Try.func53, Zd1, m53⟩, ⟨⟨_, _, Try.func54, Zd0, m54⟩, ⟨⟨_, _, Try.func55, Zeq, m55⟩, ⟨⟨_, _, Try.func56, ZdM, m56⟩, ⟨⟨_, _, Try.func57, ZdP, m57⟩, ⟨⟨_, _, Try.func58, ZeG, m58⟩, ⟨⟨_, _, Try.func59, Ze3, m59⟩, ⟨⟨_, _, Try.func60, Zen, m60⟩, ⟨⟨_, _, Try.func61, Zeh, m61⟩, ⟨⟨_, _, Try.func62, Zfp, m62⟩, ⟨⟨_, _, Try.func63, ZfB, m63⟩, ⟨⟨_, _, Try.func64, Zhj, m64⟩, ⟨⟨_, _, Try.func65, Zfr, m65⟩, ⟨⟨_, _, Try.func66, Ze1, m66⟩, ⟨⟨_, _, Try.func67, ZdA, m67⟩, ⟨⟨_, _, Try.func68, Zfl, m68⟩, ⟨⟨_, _, Try.func69, ZeE, m69⟩, ⟨⟨_, _, Try.func70, ZdO, m70⟩, ⟨⟨_, _, Try.func71, ZdT, m71⟩, ⟨⟨_, _, Try.func72, Zds, m72⟩, ⟨⟨_, _, Try.func73, Zd9, m73⟩, ⟨⟨_, _, Try.func74, Zd2, m74⟩, ⟨⟨_, _, Try.func75, Ze5, m75⟩, ⟨⟨_, _, Try.func76, Zek, m76⟩, ⟨⟨_, _, Try.func90, Zdp, m90⟩, ⟨⟨_, _, Try.func98, ZdN, m98⟩, ⟨⟨_, _, Try.func99, Zer, m99⟩, ⟨⟨_, _, Try.func100, ZfL, m100⟩, ⟨⟨_, _, Try.func101, ZfN, m101⟩, ⟨⟨_, _, Try.func102, ZfC, m102⟩, ⟨⟨_, _, Try.func103, ZfJ, m103⟩, ⟨⟨_, _, Try.func104, ZfO, m104⟩, ⟨⟨_, _, Try.func105, ZfK, m105⟩, ⟨⟨_, _, Try.func106, Zfk, m106⟩, ⟨⟨_, _, Try.func107, Zfo, m107⟩, ⟨⟨_, _, Try.func108, ZeW, m108⟩, ⟨⟨_, _, Try.func109, Ze4, m109⟩, ⟨⟨_, _, Try.func110, Zei, m110⟩, ⟨⟨_, _, Try.func111, Zej, m111⟩, ⟨⟨_, _, Try.func128, Zdt, m128⟩, ⟨⟨_, _, Try.func142, Zem, m142⟩, ⟨⟨_, _, Try.func143, Zgi, m143⟩, ⟨⟨_, _, Try.func144, ZfM, m144⟩, ⟨⟨_, _, Try.func145, ZeU, m145⟩, ⟨⟨_, _, Try.func146, Zfn, m146⟩, ⟨⟨_, _, Try.func147, Zeg, m147⟩, ⟨⟨_, _, Try.func148, ZfA, m148⟩, ⟨⟨_, _, Try.func149, ZeX, m149⟩, ⟨⟨_, _, Try.func150, ZfP, m150⟩, ⟨⟨_, _, Try.func151, Zgj, m151⟩, ⟨⟨_, _, Try.func152, Zfm, m152⟩, ⟨⟨_, _, Try.func153, ZeV, m153⟩, ⟨⟨_, _, Try.func157, ZcW, m157⟩, ⟨⟨_, _, Try.func170, Zf9, m170⟩, ⟨⟨_, _, Try.func171, ZeY, m171⟩, ⟨⟨_, _, Try.func172, ZdV, m172⟩, ⟨⟨_, _, Try.func176, Zg1, m176⟩, ⟨⟨_, _, Try.func177, Zh8, m177⟩, ⟨⟨_, _, Try.func178, ZfI, m178⟩, trivial⟩⟩⟩⟩⟩⟩⟩⟩⟩⟩⟩⟩⟩⟩⟩⟩⟩⟩⟩⟩⟩⟩⟩⟩⟩⟩⟩⟩⟩⟩⟩⟩⟩⟩⟩⟩⟩⟩⟩⟩⟩⟩⟩⟩⟩⟩⟩⟩⟩⟩⟩⟩⟩⟩⟩⟩⟩⟩⟩⟩⟩⟩⟩⟩⟩⟩⟩⟩⟩⟩⟩⟩⟩
theorem mixed : Try.prog.follows .mixedOrders = true := by kernel_rfl
end Mu
