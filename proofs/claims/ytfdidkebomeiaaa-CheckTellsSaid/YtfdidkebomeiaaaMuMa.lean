/- The evaluator's functions are the model's. -/
import Derived.Test.YtfdidkebomeiaaaProg
import Derived.KernelRfl
import Derived.Test.YtfdidkebomeiaaaMuG
import Derived.Test.YtfdidkebomeiaaaMuPa
namespace Mu
open Go.Proofs
def Kl : List (Nat × Nat) := [(6, 251), (15, 28), (21, 181), (24, 177), (26, 182), (28, 121), (32, 261), (33, 165), (34, 262), (35, 208), (36, 263), (37, 185), (52, 46), (53, 63), (54, 64), (55, 65), (60, 53), (63, 176), (68, 77), (70, 34), (71, 30), (72, 206), (73, 202), (76, 207), (81, 138), (82, 193), (83, 188), (84, 124), (85, 274), (86, 133), (87, 225), (88, 186), (96, 187), (100, 66), (101, 32), (102, 201), (103, 203), (105, 204), (106, 90), (109, 36), (110, 223), (111, 224), (114, 150), (115, 146), (116, 147), (117, 148), (118, 149), (119, 120), (120, 231), (121, 123), (128, 91), (131, 209), (143, 82), (144, 29), (145, 219), (146, 220), (147, 221), (152, 222), (154, 151), (155, 137), (156, 140), (157, 78), (158, 141), (159, 118), (170, 67), (172, 83), (173, 136), (176, 89), (177, 97), (178, 98)]
def Kf : Fid := fun f => Kl.lookup f
theorem m6 : ZaB Try.prog Kf Try.f6 = some Zt := by kernel_rfl
theorem m15 : ZaB Try.prog Kf Try.f15 = some Zm := by kernel_rfl
theorem m21 : ZaB Try.prog Kf Try.f21 = some Zw := by kernel_rfl
theorem m24 : ZaB Try.prog Kf Try.f24 = some Z2 := by kernel_rfl
theorem m26 : ZaB Try.prog Kf Try.f26 = some zo := by kernel_rfl
theorem m28 : ZaB Try.prog Kf Try.f28 = some Zax := by kernel_rfl
theorem m32 : ZaB Try.prog Kf Try.f32 = some Z0 := by kernel_rfl
theorem m33 : ZaB Try.prog Kf Try.f33 = some zW := by kernel_rfl
theorem m34 : ZaB Try.prog Kf Try.f34 = some Zs := by kernel_rfl
theorem m35 : ZaB Try.prog Kf Try.f35 = some Zar := by kernel_rfl
theorem m36 : ZaB Try.prog Kf Try.f36 = some Z9 := by kernel_rfl
theorem m37 : ZaB Try.prog Kf Try.f37 = some Za6 := by kernel_rfl
theorem m52 : ZaB Try.prog Kf Try.f52 = some zl := by kernel_rfl
theorem m53 : ZaB Try.prog Kf Try.f53 = some ZS := by kernel_rfl
theorem m54 : ZaB Try.prog Kf Try.f54 = some Z5 := by kernel_rfl
theorem m55 : ZaB Try.prog Kf Try.f55 = some ZL := by kernel_rfl
theorem m60 : ZaB Try.prog Kf Try.f60 = some zR := by kernel_rfl
theorem m63 : ZaB Try.prog Kf Try.f63 = some Zak := by kernel_rfl
theorem m68 : ZaB Try.prog Kf Try.f68 = some Zbj := by kernel_rfl
theorem m70 : ZaB Try.prog Kf Try.f70 = some Z1 := by kernel_rfl
theorem m71 : ZaB Try.prog Kf Try.f71 = some Z7 := by kernel_rfl
theorem m72 : ZaB Try.prog Kf Try.f72 = some zb := by kernel_rfl
theorem m73 : ZaB Try.prog Kf Try.f73 = some ZX := by kernel_rfl
theorem m76 : ZaB Try.prog Kf Try.f76 = some za := by kernel_rfl
theorem m81 : ZaB Try.prog Kf Try.f81 = some Zr := by kernel_rfl
theorem m82 : ZaB Try.prog Kf Try.f82 = some ZI := by kernel_rfl
theorem m83 : ZaB Try.prog Kf Try.f83 = some ZG := by kernel_rfl
theorem m84 : ZaB Try.prog Kf Try.f84 = some ZQ := by kernel_rfl
theorem m85 : ZaB Try.prog Kf Try.f85 = some Zag := by kernel_rfl
theorem m86 : ZaB Try.prog Kf Try.f86 = some ZK := by kernel_rfl
theorem m87 : ZaB Try.prog Kf Try.f87 = some ZU := by kernel_rfl
theorem m88 : ZaB Try.prog Kf Try.f88 = some Zcb := by kernel_rfl
theorem m96 : ZaB Try.prog Kf Try.f96 = some Zb3 := by kernel_rfl
theorem m100 : ZaB Try.prog Kf Try.f100 = some zy := by kernel_rfl
theorem m101 : ZaB Try.prog Kf Try.f101 = some ZbU := by kernel_rfl
theorem m102 : ZaB Try.prog Kf Try.f102 = some zw := by kernel_rfl
theorem m103 : ZaB Try.prog Kf Try.f103 = some ZE := by kernel_rfl
theorem m105 : ZaB Try.prog Kf Try.f105 = some Zaa := by kernel_rfl
theorem m106 : ZaB Try.prog Kf Try.f106 = some ZbS := by kernel_rfl
theorem m109 : ZaB Try.prog Kf Try.f109 = some Z3 := by kernel_rfl
theorem m110 : ZaB Try.prog Kf Try.f110 = some Zbm := by kernel_rfl
theorem m111 : ZaB Try.prog Kf Try.f111 = some zF := by kernel_rfl
theorem m114 : ZaB Try.prog Kf Try.f114 = some zp := by kernel_rfl
theorem m115 : ZaB Try.prog Kf Try.f115 = some Zae := by kernel_rfl
theorem m116 : ZaB Try.prog Kf Try.f116 = some Zc4 := by kernel_rfl
theorem m117 : ZaB Try.prog Kf Try.f117 = some z3 := by kernel_rfl
theorem m118 : ZaB Try.prog Kf Try.f118 = some Zbt := by kernel_rfl
theorem m119 : ZaB Try.prog Kf Try.f119 = some Zb2 := by kernel_rfl
theorem m120 : ZaB Try.prog Kf Try.f120 = some ZaX := by kernel_rfl
theorem m121 : ZaB Try.prog Kf Try.f121 = some ZaY := by kernel_rfl
theorem m128 : ZaB Try.prog Kf Try.f128 = some zc := by kernel_rfl
theorem m131 : ZaB Try.prog Kf Try.f131 = some zC := by kernel_rfl
theorem m143 : ZaB Try.prog Kf Try.f143 = some Zap := by kernel_rfl
theorem m144 : ZaB Try.prog Kf Try.f144 = some ZR := by kernel_rfl
theorem m145 : ZaB Try.prog Kf Try.f145 = some zL := by kernel_rfl
theorem m146 : ZaB Try.prog Kf Try.f146 = some ZbT := by kernel_rfl
theorem m147 : ZaB Try.prog Kf Try.f147 = some zn := by kernel_rfl
theorem m152 : ZaB Try.prog Kf Try.f152 = some Zbk := by kernel_rfl
theorem m154 : ZaB Try.prog Kf Try.f154 = some ZF := by kernel_rfl
theorem m155 : ZaB Try.prog Kf Try.f155 = some ZJ := by kernel_rfl
theorem m156 : ZaB Try.prog Kf Try.f156 = some zS := by kernel_rfl
theorem m157 : ZaB Try.prog Kf Try.f157 = some ZaC := by kernel_rfl
theorem m158 : ZaB Try.prog Kf Try.f158 = some Zbh := by kernel_rfl
theorem m159 : ZaB Try.prog Kf Try.f159 = some ZaT := by kernel_rfl
theorem m170 : ZaB Try.prog Kf Try.f170 = some ZZ := by kernel_rfl
theorem m172 : ZaB Try.prog Kf Try.f172 = some ZW := by kernel_rfl
theorem m173 : ZaB Try.prog Kf Try.f173 = some z4 := by kernel_rfl
theorem m176 : ZaB Try.prog Kf Try.f176 = some ZbN := by kernel_rfl
theorem m177 : ZaB Try.prog Kf Try.f177 = some ZbR := by kernel_rfl
theorem m178 : ZaB Try.prog Kf Try.f178 = some zZ := by kernel_rfl
theorem match_all : Match Try.prog Kf G := Match.of (l := Kl) rfl ⟨⟨_, _, Try.func6, ZcC, m6⟩, ⟨⟨_, _, Try.func15, ZdH, m15⟩, ⟨⟨_, _, Try.func21, Zd0, m21⟩, ⟨⟨_, _, Try.func24, Zdx, m24⟩, ⟨⟨_, _, Try.func26, Zdy, m26⟩, ⟨⟨_, _, Try.func28, Zeh, m28⟩, ⟨⟨_, _, Try.func32, ZdK, m32⟩, ⟨⟨_, _, Try.func33, ZcD, m33⟩, ⟨⟨_, _, Try.func34, ZcQ, m34⟩, ⟨⟨_, _, Try.func35, Zfa, m35⟩, ⟨⟨_, _, Try.func36, ZdM, m36⟩, ⟨⟨_, _, Try.func37, Zdv, m37⟩, ⟨⟨_, _, Try.func52, ZdY, m52⟩, ⟨⟨_, _, Try.func53, Zdf, m53⟩, ⟨⟨_, _, Try.func54, Zde, m54⟩, ⟨⟨_, _, Try.func55, ZdI, m55⟩, ⟨⟨_, _, Try.func60, ZdG, m60⟩, ⟨⟨_, _, Try.func63, ZeT, m63⟩, ⟨⟨_, _, Try.func68, Ze2, m68⟩, ⟨⟨_, _, Try.func70, Zdw, m70⟩, ⟨⟨_, _, Try.func71, Zdz, m71⟩, ⟨⟨_, _, Try.func72, ZcR, m72⟩, ⟨⟨_, _, Try.func73, Zdm, m73⟩, ⟨⟨_, _, Try.func76, ZdF, m76⟩, ⟨⟨_, _, Try.func81, Zdn, m81⟩, ⟨⟨_, _, Try.func82, ZcS, m82⟩, ⟨⟨_, _, Try.func83, Zd2, m83⟩, ⟨⟨_, _, Try.func84, ZdJ, m84⟩, ⟨⟨_, _, Try.func85, ZdL, m85⟩, ⟨⟨_, _, Try.func86, ZeP, m86⟩, ⟨⟨_, _, Try.func87, Zet, m87⟩, ⟨⟨_, _, Try.func88, ZeR, m88⟩, ⟨⟨_, _, Try.func96, Zf0, m96⟩, ⟨⟨_, _, Try.func100, Zfe, m100⟩, ⟨⟨_, _, Try.func101, Zfg, m101⟩, ⟨⟨_, _, Try.func102, ZeU, m102⟩, ⟨⟨_, _, Try.func103, Zfc, m103⟩, ⟨⟨_, _, Try.func105, Zfd, m105⟩, ⟨⟨_, _, Try.func106, Ze1, m106⟩, ⟨⟨_, _, Try.func109, ZdZ, m109⟩, ⟨⟨_, _, Try.func110, ZdD, m110⟩, ⟨⟨_, _, Try.func111, ZdE, m111⟩, ⟨⟨_, _, Try.func114, Zd1, m114⟩, ⟨⟨_, _, Try.func115, Zco, m115⟩, ⟨⟨_, _, Try.func116, ZfE, m116⟩, ⟨⟨_, _, Try.func117, ZdX, m117⟩, ⟨⟨_, _, Try.func118, ZeQ, m118⟩, ⟨⟨_, _, Try.func119, ZgB, m119⟩, ⟨⟨_, _, Try.func120, Zfb, m120⟩, ⟨⟨_, _, Try.func121, Zea, m121⟩, ⟨⟨_, _, Try.func128, ZcT, m128⟩, ⟨⟨_, _, Try.func131, Zf1, m131⟩, ⟨⟨_, _, Try.func143, Zfz, m143⟩, ⟨⟨_, _, Try.func144, Zff, m144⟩, ⟨⟨_, _, Try.func145, Zeu, m145⟩, ⟨⟨_, _, Try.func146, Ze4, m146⟩, ⟨⟨_, _, Try.func147, ZdC, m147⟩, ⟨⟨_, _, Try.func152, Ze3, m152⟩, ⟨⟨_, _, Try.func154, Zcz, m154⟩, ⟨⟨_, _, Try.func155, Zfh, m155⟩, ⟨⟨_, _, Try.func156, ZdN, m156⟩, ⟨⟨_, _, Try.func157, ZcA, m157⟩, ⟨⟨_, _, Try.func158, Zd3, m158⟩, ⟨⟨_, _, Try.func159, Zdg, m159⟩, ⟨⟨_, _, Try.func170, ZeS, m170⟩, ⟨⟨_, _, Try.func172, Zd4, m172⟩, ⟨⟨_, _, Try.func173, ZdO, m173⟩, ⟨⟨_, _, Try.func176, ZfF, m176⟩, ⟨⟨_, _, Try.func177, ZgA, m177⟩, ⟨⟨_, _, Try.func178, ZeZ, m178⟩, trivial⟩⟩⟩⟩⟩⟩⟩⟩⟩⟩⟩⟩⟩⟩⟩⟩⟩⟩⟩⟩⟩⟩⟩⟩⟩⟩⟩⟩⟩⟩⟩⟩⟩⟩⟩⟩⟩⟩⟩⟩⟩⟩⟩⟩⟩⟩⟩⟩⟩⟩⟩⟩⟩⟩⟩⟩⟩⟩⟩⟩⟩⟩⟩⟩⟩⟩⟩⟩⟩⟩
theorem mixed : Try.prog.follows .mixedOrders = true := by kernel_rfl
end Mu
