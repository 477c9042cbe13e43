/- The evaluator's functions are the model's. -/
import Derived.Test.YtfdidkebomeiaaaProg
import Derived.KernelRfl
import Derived.Test.YtfdidkebomeiaaaMuG
import Derived.Test.YtfdidkebomeiaaaMuPa
namespace Mu
open Go.Proofs
def Kl : List (Nat × Nat) := [(8, 253), (15, 28), (16, 171), (17, 174), (18, 175), (21, 181), (22, 56), (24, 177), (26, 182), (27, 260), (40, 264), (41, 265), (42, 266), (44, 268), (45, 269), (52, 46), (53, 63), (54, 64), (55, 65), (56, 197), (57, 198), (58, 199), (59, 200), (60, 53), (63, 176), (64, 119), (66, 57), (68, 77), (69, 52), (70, 34), (71, 30), (72, 206), (73, 202), (76, 207), (77, 273), (78, 179), (79, 14), (80, 49), (89, 275), (90, 51), (91, 276), (92, 178), (98, 217), (99, 218), (100, 66), (101, 32), (102, 201), (103, 203), (105, 204), (106, 90), (107, 75), (108, 76), (109, 36), (110, 223), (111, 224), (112, 16), (113, 21), (122, 278), (123, 279), (124, 13), (125, 54), (126, 48), (127, 195), (128, 91), (129, 205), (142, 230), (143, 82), (144, 29), (145, 219), (146, 220), (147, 221), (152, 222), (153, 55), (157, 78), (160, 15), (161, 50), (162, 58), (170, 67), (172, 83), (174, 74), (175, 79), (176, 89), (177, 97), (178, 98)]
def Kf : Fid := fun f => Kl.lookup f
theorem m8 : Zay Try.prog Kf Try.f8 = some ZW := by kernel_rfl
theorem m15 : Zay Try.prog Kf Try.f15 = some Zk := by kernel_rfl
theorem m16 : Zay Try.prog Kf Try.f16 = some Zz := by kernel_rfl
theorem m17 : Zay Try.prog Kf Try.f17 = some Zp := by kernel_rfl
theorem m18 : Zay Try.prog Kf Try.f18 = some Zi := by kernel_rfl
theorem m21 : Zay Try.prog Kf Try.f21 = some Zs := by kernel_rfl
theorem m22 : Zay Try.prog Kf Try.f22 = some z4 := by kernel_rfl
theorem m24 : Zay Try.prog Kf Try.f24 = some Zw := by kernel_rfl
theorem m26 : Zay Try.prog Kf Try.f26 = some zq := by kernel_rfl
theorem m27 : Zay Try.prog Kf Try.f27 = some Zo := by kernel_rfl
theorem m40 : Zay Try.prog Kf Try.f40 = some zG := by kernel_rfl
theorem m41 : Zay Try.prog Kf Try.f41 = some zB := by kernel_rfl
theorem m42 : Zay Try.prog Kf Try.f42 = some zT := by kernel_rfl
theorem m44 : Zay Try.prog Kf Try.f44 = some ZbH := by kernel_rfl
theorem m45 : Zay Try.prog Kf Try.f45 = some Zav := by kernel_rfl
theorem m52 : Zay Try.prog Kf Try.f52 = some zn := by kernel_rfl
theorem m53 : Zay Try.prog Kf Try.f53 = some ZM := by kernel_rfl
theorem m54 : Zay Try.prog Kf Try.f54 = some Z0 := by kernel_rfl
theorem m55 : Zay Try.prog Kf Try.f55 = some ZH := by kernel_rfl
theorem m56 : Zay Try.prog Kf Try.f56 = some Z1 := by kernel_rfl
theorem m57 : Zay Try.prog Kf Try.f57 = some Zv := by kernel_rfl
theorem m58 : Zay Try.prog Kf Try.f58 = some zp := by kernel_rfl
theorem m59 : Zay Try.prog Kf Try.f59 = some Zx := by kernel_rfl
theorem m60 : Zay Try.prog Kf Try.f60 = some Zah := by kernel_rfl
theorem m63 : Zay Try.prog Kf Try.f63 = some Zax := by kernel_rfl
theorem m64 : Zay Try.prog Kf Try.f64 = some Zc8 := by kernel_rfl
theorem m66 : Zay Try.prog Kf Try.f66 = some Zbc := by kernel_rfl
theorem m68 : Zay Try.prog Kf Try.f68 = some ZbB := by kernel_rfl
theorem m69 : Zay Try.prog Kf Try.f69 = some Zac := by kernel_rfl
theorem m70 : Zay Try.prog Kf Try.f70 = some Zu := by kernel_rfl
theorem m71 : Zay Try.prog Kf Try.f71 = some Z4 := by kernel_rfl
theorem m72 : Zay Try.prog Kf Try.f72 = some zc := by kernel_rfl
theorem m73 : Zay Try.prog Kf Try.f73 = some ZX := by kernel_rfl
theorem m76 : Zay Try.prog Kf Try.f76 = some zb := by kernel_rfl
theorem m77 : Zay Try.prog Kf Try.f77 = some Zm := by kernel_rfl
theorem m78 : Zay Try.prog Kf Try.f78 = some ZA := by kernel_rfl
theorem m79 : Zay Try.prog Kf Try.f79 = some ZC := by kernel_rfl
theorem m80 : Zay Try.prog Kf Try.f80 = some ZF := by kernel_rfl
theorem m89 : Zay Try.prog Kf Try.f89 = some Za4 := by kernel_rfl
theorem m90 : Zay Try.prog Kf Try.f90 = some Zat := by kernel_rfl
theorem m91 : Zay Try.prog Kf Try.f91 = some ZaA := by kernel_rfl
theorem m92 : Zay Try.prog Kf Try.f92 = some zF := by kernel_rfl
theorem m98 : Zay Try.prog Kf Try.f98 = some zH := by kernel_rfl
theorem m99 : Zay Try.prog Kf Try.f99 = some Zbu := by kernel_rfl
theorem m100 : Zay Try.prog Kf Try.f100 = some z6 := by kernel_rfl
theorem m101 : Zay Try.prog Kf Try.f101 = some Zcz := by kernel_rfl
theorem m102 : Zay Try.prog Kf Try.f102 = some zx := by kernel_rfl
theorem m103 : Zay Try.prog Kf Try.f103 = some ZD := by kernel_rfl
theorem m105 : Zay Try.prog Kf Try.f105 = some Zar := by kernel_rfl
theorem m106 : Zay Try.prog Kf Try.f106 = some Zcw := by kernel_rfl
theorem m107 : Zay Try.prog Kf Try.f107 = some Zcy := by kernel_rfl
theorem m108 : Zay Try.prog Kf Try.f108 = some ZbL := by kernel_rfl
theorem m109 : Zay Try.prog Kf Try.f109 = some Zy := by kernel_rfl
theorem m110 : Zay Try.prog Kf Try.f110 = some ZbG := by kernel_rfl
theorem m111 : Zay Try.prog Kf Try.f111 = some zR := by kernel_rfl
theorem m112 : Zay Try.prog Kf Try.f112 = some zd := by kernel_rfl
theorem m113 : Zay Try.prog Kf Try.f113 = some zS := by kernel_rfl
theorem m122 : Zay Try.prog Kf Try.f122 = some ZaM := by kernel_rfl
theorem m123 : Zay Try.prog Kf Try.f123 = some zk := by kernel_rfl
theorem m124 : Zay Try.prog Kf Try.f124 = some Zaz := by kernel_rfl
theorem m125 : Zay Try.prog Kf Try.f125 = some Zbp := by kernel_rfl
theorem m126 : Zay Try.prog Kf Try.f126 = some ZS := by kernel_rfl
theorem m127 : Zay Try.prog Kf Try.f127 = some ZaL := by kernel_rfl
theorem m128 : Zay Try.prog Kf Try.f128 = some ze := by kernel_rfl
theorem m129 : Zay Try.prog Kf Try.f129 = some Zcg := by kernel_rfl
theorem m142 : Zay Try.prog Kf Try.f142 = some zz := by kernel_rfl
theorem m143 : Zay Try.prog Kf Try.f143 = some Za0 := by kernel_rfl
theorem m144 : Zay Try.prog Kf Try.f144 = some ZL := by kernel_rfl
theorem m145 : Zay Try.prog Kf Try.f145 = some Zab := by kernel_rfl
theorem m146 : Zay Try.prog Kf Try.f146 = some Zcx := by kernel_rfl
theorem m147 : Zay Try.prog Kf Try.f147 = some zo := by kernel_rfl
theorem m152 : Zay Try.prog Kf Try.f152 = some ZbC := by kernel_rfl
theorem m153 : Zay Try.prog Kf Try.f153 = some Zbz := by kernel_rfl
theorem m157 : Zay Try.prog Kf Try.f157 = some ZaS := by kernel_rfl
theorem m160 : Zay Try.prog Kf Try.f160 = some Zas := by kernel_rfl
theorem m161 : Zay Try.prog Kf Try.f161 = some Za6 := by kernel_rfl
theorem m162 : Zay Try.prog Kf Try.f162 = some ZcA := by kernel_rfl
theorem m170 : Zay Try.prog Kf Try.f170 = some ZZ := by kernel_rfl
theorem m172 : Zay Try.prog Kf Try.f172 = some ZT := by kernel_rfl
theorem m174 : Zay Try.prog Kf Try.f174 = some ZcL := by kernel_rfl
theorem m175 : Zay Try.prog Kf Try.f175 = some Zch := by kernel_rfl
theorem m176 : Zay Try.prog Kf Try.f176 = some Zco := by kernel_rfl
theorem m177 : Zay Try.prog Kf Try.f177 = some Zcv := by kernel_rfl
theorem m178 : Zay Try.prog Kf Try.f178 = some Zaq := by kernel_rfl
theorem match_all : Match Try.prog Kf G := Match.of (l := Kl) rfl ⟨⟨_, _, Try.func8, ZdH, m8⟩, ⟨⟨_, _, Try.func15, ZeH, m15⟩, ⟨⟨_, _, Try.func16, ZeE, m16⟩, ⟨⟨_, _, Try.func17, Zeq, m17⟩, ⟨⟨_, _, Try.func18, Zfj, m18⟩, ⟨⟨_, _, Try.func21, Zeu, m21⟩, ⟨⟨_, _, Try.func22, ZeI, m22⟩, ⟨⟨_, _, Try.func24, Zer, m24⟩, ⟨⟨_, _, Try.func26, Zes, m26⟩, ⟨⟨_, _, Try.func27, Zdl, m27⟩, ⟨⟨_, _, Try.func40, Zek, m40⟩, ⟨⟨_, _, Try.func41, ZeA, m41⟩, ⟨⟨_, _, Try.func42, Zgi, m42⟩, ⟨⟨_, _, Try.func44, Zgz, m44⟩, ⟨⟨_, _, Try.func45, ZeN, m45⟩, ⟨⟨_, _, Try.func52, ZeZ, m52⟩, ⟨⟨_, _, Try.func53, ZdT, m53⟩, ⟨⟨_, _, Try.func54, ZdS, m54⟩, ⟨⟨_, _, Try.func55, ZeJ, m55⟩, ⟨⟨_, _, Try.func56, Zel, m56⟩, ⟨⟨_, _, Try.func57, Zep, m57⟩, ⟨⟨_, _, Try.func58, Zfk, m58⟩, ⟨⟨_, _, Try.func59, Zfa, m59⟩, ⟨⟨_, _, Try.func60, ZeG, m60⟩, ⟨⟨_, _, Try.func63, Zgk, m63⟩, ⟨⟨_, _, Try.func64, ZhH, m64⟩, ⟨⟨_, _, Try.func66, ZeX, m66⟩, ⟨⟨_, _, Try.func68, ZfE, m68⟩, ⟨⟨_, _, Try.func69, Zfh, m69⟩, ⟨⟨_, _, Try.func70, Zen, m70⟩, ⟨⟨_, _, Try.func71, Zet, m71⟩, ⟨⟨_, _, Try.func72, ZdL, m72⟩, ⟨⟨_, _, Try.func73, ZdY, m73⟩, ⟨⟨_, _, Try.func76, ZeD, m76⟩, ⟨⟨_, _, Try.func77, Zew, m77⟩, ⟨⟨_, _, Try.func78, Zev, m78⟩, ⟨⟨_, _, Try.func79, Zfl, m79⟩, ⟨⟨_, _, Try.func80, Zeo, m80⟩, ⟨⟨_, _, Try.func89, Zgj, m89⟩, ⟨⟨_, _, Try.func90, ZdI, m90⟩, ⟨⟨_, _, Try.func91, Zhj, m91⟩, ⟨⟨_, _, Try.func92, Zgf, m92⟩, ⟨⟨_, _, Try.func98, Zem, m98⟩, ⟨⟨_, _, Try.func99, ZeK, m99⟩, ⟨⟨_, _, Try.func100, Zgv, m100⟩, ⟨⟨_, _, Try.func101, Zgy, m101⟩, ⟨⟨_, _, Try.func102, Zgm, m102⟩, ⟨⟨_, _, Try.func103, Zgs, m103⟩, ⟨⟨_, _, Try.func105, Zgt, m105⟩, ⟨⟨_, _, Try.func106, ZfD, m106⟩, ⟨⟨_, _, Try.func107, ZfH, m107⟩, ⟨⟨_, _, Try.func108, Zf2, m108⟩, ⟨⟨_, _, Try.func109, Zfb, m109⟩, ⟨⟨_, _, Try.func110, ZeB, m110⟩, ⟨⟨_, _, Try.func111, ZeC, m111⟩, ⟨⟨_, _, Try.func112, ZeM, m112⟩, ⟨⟨_, _, Try.func113, ZeL, m113⟩, ⟨⟨_, _, Try.func122, ZfI, m122⟩, ⟨⟨_, _, Try.func123, Zg0, m123⟩, ⟨⟨_, _, Try.func124, Zhi, m124⟩, ⟨⟨_, _, Try.func125, Zfi, m125⟩, ⟨⟨_, _, Try.func126, ZeY, m126⟩, ⟨⟨_, _, Try.func127, Zgl, m127⟩, ⟨⟨_, _, Try.func128, ZdM, m128⟩, ⟨⟨_, _, Try.func129, Zfy, m129⟩, ⟨⟨_, _, Try.func142, ZeF, m142⟩, ⟨⟨_, _, Try.func143, ZgS, m143⟩, ⟨⟨_, _, Try.func144, Zgx, m144⟩, ⟨⟨_, _, Try.func145, Zfx, m145⟩, ⟨⟨_, _, Try.func146, ZfG, m146⟩, ⟨⟨_, _, Try.func147, Ze9, m147⟩, ⟨⟨_, _, Try.func152, ZfF, m152⟩, ⟨⟨_, _, Try.func153, Zf1, m153⟩, ⟨⟨_, _, Try.func157, Zdx, m157⟩, ⟨⟨_, _, Try.func160, Zgu, m160⟩, ⟨⟨_, _, Try.func161, Zf0, m161⟩, ⟨⟨_, _, Try.func162, Zgg, m162⟩, ⟨⟨_, _, Try.func170, Zgh, m170⟩, ⟨⟨_, _, Try.func172, Zex, m172⟩, ⟨⟨_, _, Try.func174, Zgw, m174⟩, ⟨⟨_, _, Try.func175, Zfz, m175⟩, ⟨⟨_, _, Try.func176, Zhh, m176⟩, ⟨⟨_, _, Try.func177, Zid, m177⟩, ⟨⟨_, _, Try.func178, Zgr, m178⟩, trivial⟩⟩⟩⟩⟩⟩⟩⟩⟩⟩⟩⟩⟩⟩⟩⟩⟩⟩⟩⟩⟩⟩⟩⟩⟩⟩⟩⟩⟩⟩⟩⟩⟩⟩⟩⟩⟩⟩⟩⟩⟩⟩⟩⟩⟩⟩⟩⟩⟩⟩⟩⟩⟩⟩⟩⟩⟩⟩⟩⟩⟩⟩⟩⟩⟩⟩⟩⟩⟩⟩⟩⟩⟩⟩⟩⟩⟩⟩⟩⟩⟩⟩⟩⟩
theorem mixed : Try.prog.follows .mixedOrders = true := by kernel_rfl
end Mu
