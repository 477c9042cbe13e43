/- The evaluator's functions are the model's. -/
import Derived.Test.YtfdidkebomeiaaaProg
import Derived.KernelRfl
import Derived.Test.YtfdidkebomeiaaaMuG
import Derived.Test.YtfdidkebomeiaaaMuPa
namespace Mu
open Go.Proofs
def Kl : List (Nat × Nat) := [(7, 252), (15, 28), (33, 165), (35, 208), (37, 185), (38, 116), (39, 164), (52, 46), (53, 63), (54, 64), (55, 65), (60, 53), (63, 176), (68, 77), (86, 133), (87, 225), (88, 186), (96, 187), (100, 66), (101, 32), (102, 201), (103, 203), (105, 204), (106, 90), (115, 146), (116, 147), (117, 148), (118, 149), (119, 120), (120, 231), (121, 123), (128, 91), (131, 209), (143, 82), (144, 29), (145, 219), (146, 220), (147, 221), (152, 222), (154, 151), (155, 137), (156, 140), (157, 78), (158, 141), (159, 118), (170, 67), (172, 83), (173, 136), (176, 89), (177, 97), (178, 98)]
def Kf : Fid := fun f => Kl.lookup f
theorem m7 : Zao Try.prog Kf Try.f7 = some Zn := by kernel_rfl
theorem m15 : Zao Try.prog Kf Try.f15 = some Zh := by kernel_rfl
theorem m33 : Zao Try.prog Kf Try.f33 = some zh := by kernel_rfl
theorem m35 : Zao Try.prog Kf Try.f35 = some zz := by kernel_rfl
theorem m37 : Zao Try.prog Kf Try.f37 = some zB := by kernel_rfl
theorem m38 : Zao Try.prog Kf Try.f38 = some Zw := by kernel_rfl
theorem m39 : Zao Try.prog Kf Try.f39 = some ZL := by kernel_rfl
theorem m52 : Zao Try.prog Kf Try.f52 = some ZJ := by kernel_rfl
theorem m53 : Zao Try.prog Kf Try.f53 = some Z6 := by kernel_rfl
theorem m54 : Zao Try.prog Kf Try.f54 = some Zr := by kernel_rfl
theorem m55 : Zao Try.prog Kf Try.f55 = some Z2 := by kernel_rfl
theorem m60 : Zao Try.prog Kf Try.f60 = some zb := by kernel_rfl
theorem m63 : Zao Try.prog Kf Try.f63 = some zw := by kernel_rfl
theorem m68 : Zao Try.prog Kf Try.f68 = some Zau := by kernel_rfl
theorem m86 : Zao Try.prog Kf Try.f86 = some Z0 := by kernel_rfl
theorem m87 : Zao Try.prog Kf Try.f87 = some Z7 := by kernel_rfl
theorem m88 : Zao Try.prog Kf Try.f88 = some Zbg := by kernel_rfl
theorem m96 : Zao Try.prog Kf Try.f96 = some ZaH := by kernel_rfl
theorem m100 : Zao Try.prog Kf Try.f100 = some ZP := by kernel_rfl
theorem m101 : Zao Try.prog Kf Try.f101 = some ZaZ := by kernel_rfl
theorem m102 : Zao Try.prog Kf Try.f102 = some ZN := by kernel_rfl
theorem m103 : Zao Try.prog Kf Try.f103 = some Zx := by kernel_rfl
theorem m105 : Zao Try.prog Kf Try.f105 = some zl := by kernel_rfl
theorem m106 : Zao Try.prog Kf Try.f106 = some ZaX := by kernel_rfl
theorem m115 : Zao Try.prog Kf Try.f115 = some zr := by kernel_rfl
theorem m116 : Zao Try.prog Kf Try.f116 = some ZbB := by kernel_rfl
theorem m117 : Zao Try.prog Kf Try.f117 = some ZQ := by kernel_rfl
theorem m118 : Zao Try.prog Kf Try.f118 = some Za5 := by kernel_rfl
theorem m119 : Zao Try.prog Kf Try.f119 = some ZaG := by kernel_rfl
theorem m120 : Zao Try.prog Kf Try.f120 = some Zae := by kernel_rfl
theorem m121 : Zao Try.prog Kf Try.f121 = some Zaf := by kernel_rfl
theorem m128 : Zao Try.prog Kf Try.f128 = some ZD := by kernel_rfl
theorem m131 : Zao Try.prog Kf Try.f131 = some ZT := by kernel_rfl
theorem m143 : Zao Try.prog Kf Try.f143 = some zy := by kernel_rfl
theorem m144 : Zao Try.prog Kf Try.f144 = some Z5 := by kernel_rfl
theorem m145 : Zao Try.prog Kf Try.f145 = some ZY := by kernel_rfl
theorem m146 : Zao Try.prog Kf Try.f146 = some ZaY := by kernel_rfl
theorem m147 : Zao Try.prog Kf Try.f147 = some ZK := by kernel_rfl
theorem m152 : Zao Try.prog Kf Try.f152 = some Zav := by kernel_rfl
theorem m154 : Zao Try.prog Kf Try.f154 = some Zy := by kernel_rfl
theorem m155 : Zao Try.prog Kf Try.f155 = some Zz := by kernel_rfl
theorem m156 : Zao Try.prog Kf Try.f156 = some zc := by kernel_rfl
theorem m157 : Zao Try.prog Kf Try.f157 = some zE := by kernel_rfl
theorem m158 : Zao Try.prog Kf Try.f158 = some Zar := by kernel_rfl
theorem m159 : Zao Try.prog Kf Try.f159 = some Zaa := by kernel_rfl
theorem m170 : Zao Try.prog Kf Try.f170 = some ZC := by kernel_rfl
theorem m172 : Zao Try.prog Kf Try.f172 = some ZA := by kernel_rfl
theorem m173 : Zao Try.prog Kf Try.f173 = some ZR := by kernel_rfl
theorem m176 : Zao Try.prog Kf Try.f176 = some ZaT := by kernel_rfl
theorem m177 : Zao Try.prog Kf Try.f177 = some ZaW := by kernel_rfl
theorem m178 : Zao Try.prog Kf Try.f178 = some zk := by kernel_rfl
theorem match_all : Match Try.prog Kf G := Match.of (l := Kl) rfl ⟨⟨_, _, Try.func7, ZbL, m7⟩, ⟨⟨_, _, Try.func15, ZcI, m15⟩, ⟨⟨_, _, Try.func33, ZbM, m33⟩, ⟨⟨_, _, Try.func35, ZdV, m35⟩, ⟨⟨_, _, Try.func37, Zc8, m37⟩, ⟨⟨_, _, Try.func38, Zcw, m38⟩, ⟨⟨_, _, Try.func39, Zcb, m39⟩, ⟨⟨_, _, Try.func52, ZcU, m52⟩, ⟨⟨_, _, Try.func53, Zcp, m53⟩, ⟨⟨_, _, Try.func54, Zco, m54⟩, ⟨⟨_, _, Try.func55, ZcJ, m55⟩, ⟨⟨_, _, Try.func60, ZcH, m60⟩, ⟨⟨_, _, Try.func63, ZdO, m63⟩, ⟨⟨_, _, Try.func68, Zdy, m68⟩, ⟨⟨_, _, Try.func86, ZdK, m86⟩, ⟨⟨_, _, Try.func87, Zdm, m87⟩, ⟨⟨_, _, Try.func88, ZdM, m88⟩, ⟨⟨_, _, Try.func96, Zev, m96⟩, ⟨⟨_, _, Try.func100, ZdZ, m100⟩, ⟨⟨_, _, Try.func101, Zeb, m101⟩, ⟨⟨_, _, Try.func102, ZdP, m102⟩, ⟨⟨_, _, Try.func103, ZdX, m103⟩, ⟨⟨_, _, Try.func105, ZdY, m105⟩, ⟨⟨_, _, Try.func106, Zdx, m106⟩, ⟨⟨_, _, Try.func115, Zbt, m115⟩, ⟨⟨_, _, Try.func116, Ze7, m116⟩, ⟨⟨_, _, Try.func117, ZcT, m117⟩, ⟨⟨_, _, Try.func118, ZdL, m118⟩, ⟨⟨_, _, Try.func119, Zfy, m119⟩, ⟨⟨_, _, Try.func120, ZdW, m120⟩, ⟨⟨_, _, Try.func121, ZcV, m121⟩, ⟨⟨_, _, Try.func128, Zcc, m128⟩, ⟨⟨_, _, Try.func131, Zew, m131⟩, ⟨⟨_, _, Try.func143, Zeu, m143⟩, ⟨⟨_, _, Try.func144, Zea, m144⟩, ⟨⟨_, _, Try.func145, Zdn, m145⟩, ⟨⟨_, _, Try.func146, Zd0, m146⟩, ⟨⟨_, _, Try.func147, ZcG, m147⟩, ⟨⟨_, _, Try.func152, Zdz, m152⟩, ⟨⟨_, _, Try.func154, Zb6, m154⟩, ⟨⟨_, _, Try.func155, Zec, m155⟩, ⟨⟨_, _, Try.func156, ZcK, m156⟩, ⟨⟨_, _, Try.func157, ZbK, m157⟩, ⟨⟨_, _, Try.func158, Zc9, m158⟩, ⟨⟨_, _, Try.func159, Zcq, m159⟩, ⟨⟨_, _, Try.func170, ZdN, m170⟩, ⟨⟨_, _, Try.func172, ZcA, m172⟩, ⟨⟨_, _, Try.func173, ZcL, m173⟩, ⟨⟨_, _, Try.func176, Ze8, m176⟩, ⟨⟨_, _, Try.func177, Zfx, m177⟩, ⟨⟨_, _, Try.func178, ZdU, m178⟩, trivial⟩⟩⟩⟩⟩⟩⟩⟩⟩⟩⟩⟩⟩⟩⟩⟩⟩⟩⟩⟩⟩⟩⟩⟩⟩⟩⟩⟩⟩⟩⟩⟩⟩⟩⟩⟩⟩⟩⟩⟩⟩⟩⟩⟩⟩⟩⟩⟩⟩⟩⟩
theorem mixed : Try.prog.follows .mixedOrders = true := by kernel_rfl
end Mu
