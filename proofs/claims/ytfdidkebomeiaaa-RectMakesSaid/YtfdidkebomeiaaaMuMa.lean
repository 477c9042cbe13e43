/- The evaluator's functions are the model's. -/
import Derived.Test.YtfdidkebomeiaaaProg
import Derived.KernelRfl
import Derived.Test.YtfdidkebomeiaaaMuG
import Derived.Test.YtfdidkebomeiaaaMuPa
namespace Mu
open Go.Proofs
def Kl : List (Nat × Nat) := [(9, 254), (15, 28), (28, 121), (29, 112), (30, 167), (31, 169), (32, 261), (40, 264), (42, 266), (43, 267), (44, 268), (45, 269), (52, 46), (53, 63), (54, 64), (55, 65), (60, 53), (63, 176), (64, 119), (66, 57), (68, 77), (69, 52), (81, 138), (82, 193), (83, 188), (84, 124), (85, 274), (89, 275), (90, 51), (91, 276), (92, 178), (100, 66), (101, 32), (102, 201), (103, 203), (105, 204), (106, 90), (107, 75), (108, 76), (114, 150), (122, 278), (123, 279), (124, 13), (125, 54), (126, 48), (127, 195), (128, 91), (129, 205), (143, 82), (144, 29), (145, 219), (146, 220), (147, 221), (152, 222), (153, 55), (157, 78), (160, 15), (161, 50), (162, 58), (170, 67), (172, 83), (174, 74), (175, 79), (176, 89), (177, 97), (178, 98)]
def Kf : Fid := fun f => Kl.lookup f
theorem m9 : Zau Try.prog Kf Try.f9 = some Zm := by kernel_rfl
theorem m15 : Zau Try.prog Kf Try.f15 = some Zg := by kernel_rfl
theorem m28 : Zau Try.prog Kf Try.f28 = some zY := by kernel_rfl
theorem m29 : Zau Try.prog Kf Try.f29 = some Z1 := by kernel_rfl
theorem m30 : Zau Try.prog Kf Try.f30 = some Z4 := by kernel_rfl
theorem m31 : Zau Try.prog Kf Try.f31 = some ze := by kernel_rfl
theorem m32 : Zau Try.prog Kf Try.f32 = some Zp := by kernel_rfl
theorem m40 : Zau Try.prog Kf Try.f40 = some zd := by kernel_rfl
theorem m42 : Zau Try.prog Kf Try.f42 = some zk := by kernel_rfl
theorem m43 : Zau Try.prog Kf Try.f43 = some Zu := by kernel_rfl
theorem m44 : Zau Try.prog Kf Try.f44 = some Zbh := by kernel_rfl
theorem m45 : Zau Try.prog Kf Try.f45 = some zB := by kernel_rfl
theorem m52 : Zau Try.prog Kf Try.f52 = some ZP := by kernel_rfl
theorem m53 : Zau Try.prog Kf Try.f53 = some Z7 := by kernel_rfl
theorem m54 : Zau Try.prog Kf Try.f54 = some Zq := by kernel_rfl
theorem m55 : Zau Try.prog Kf Try.f55 = some Z2 := by kernel_rfl
theorem m60 : Zau Try.prog Kf Try.f60 = some zq := by kernel_rfl
theorem m63 : Zau Try.prog Kf Try.f63 = some zC := by kernel_rfl
theorem m64 : Zau Try.prog Kf Try.f64 = some ZbR := by kernel_rfl
theorem m66 : Zau Try.prog Kf Try.f66 = some Zaz := by kernel_rfl
theorem m68 : Zau Try.prog Kf Try.f68 = some ZaY := by kernel_rfl
theorem m69 : Zau Try.prog Kf Try.f69 = some zp := by kernel_rfl
theorem m81 : Zau Try.prog Kf Try.f81 = some Zk := by kernel_rfl
theorem m82 : Zau Try.prog Kf Try.f82 = some Zz := by kernel_rfl
theorem m83 : Zau Try.prog Kf Try.f83 = some Zy := by kernel_rfl
theorem m84 : Zau Try.prog Kf Try.f84 = some Z3 := by kernel_rfl
theorem m85 : Zau Try.prog Kf Try.f85 = some zA := by kernel_rfl
theorem m89 : Zau Try.prog Kf Try.f89 = some zL := by kernel_rfl
theorem m90 : Zau Try.prog Kf Try.f90 = some z8 := by kernel_rfl
theorem m91 : Zau Try.prog Kf Try.f91 = some zQ := by kernel_rfl
theorem m92 : Zau Try.prog Kf Try.f92 = some zc := by kernel_rfl
theorem m100 : Zau Try.prog Kf Try.f100 = some ZV := by kernel_rfl
theorem m101 : Zau Try.prog Kf Try.f101 = some ZbH := by kernel_rfl
theorem m102 : Zau Try.prog Kf Try.f102 = some ZU := by kernel_rfl
theorem m103 : Zau Try.prog Kf Try.f103 = some Zw := by kernel_rfl
theorem m105 : Zau Try.prog Kf Try.f105 = some zz := by kernel_rfl
theorem m106 : Zau Try.prog Kf Try.f106 = some ZbE := by kernel_rfl
theorem m107 : Zau Try.prog Kf Try.f107 = some ZbG := by kernel_rfl
theorem m108 : Zau Try.prog Kf Try.f108 = some Zbk := by kernel_rfl
theorem m114 : Zau Try.prog Kf Try.f114 = some ZS := by kernel_rfl
theorem m122 : Zau Try.prog Kf Try.f122 = some Zag := by kernel_rfl
theorem m123 : Zau Try.prog Kf Try.f123 = some ZL := by kernel_rfl
theorem m124 : Zau Try.prog Kf Try.f124 = some zI := by kernel_rfl
theorem m125 : Zau Try.prog Kf Try.f125 = some ZaE := by kernel_rfl
theorem m126 : Zau Try.prog Kf Try.f126 = some ZD := by kernel_rfl
theorem m127 : Zau Try.prog Kf Try.f127 = some Zae := by kernel_rfl
theorem m128 : Zau Try.prog Kf Try.f128 = some ZI := by kernel_rfl
theorem m129 : Zau Try.prog Kf Try.f129 = some Zb1 := by kernel_rfl
theorem m143 : Zau Try.prog Kf Try.f143 = some zJ := by kernel_rfl
theorem m144 : Zau Try.prog Kf Try.f144 = some Z5 := by kernel_rfl
theorem m145 : Zau Try.prog Kf Try.f145 = some zn := by kernel_rfl
theorem m146 : Zau Try.prog Kf Try.f146 = some ZbF := by kernel_rfl
theorem m147 : Zau Try.prog Kf Try.f147 = some ZQ := by kernel_rfl
theorem m152 : Zau Try.prog Kf Try.f152 = some ZaZ := by kernel_rfl
theorem m153 : Zau Try.prog Kf Try.f153 = some ZaP := by kernel_rfl
theorem m157 : Zau Try.prog Kf Try.f157 = some Zam := by kernel_rfl
theorem m160 : Zau Try.prog Kf Try.f160 = some z7 := by kernel_rfl
theorem m161 : Zau Try.prog Kf Try.f161 = some zO := by kernel_rfl
theorem m162 : Zau Try.prog Kf Try.f162 = some ZbT := by kernel_rfl
theorem m170 : Zau Try.prog Kf Try.f170 = some ZH := by kernel_rfl
theorem m172 : Zau Try.prog Kf Try.f172 = some ZE := by kernel_rfl
theorem m174 : Zau Try.prog Kf Try.f174 = some Zcg := by kernel_rfl
theorem m175 : Zau Try.prog Kf Try.f175 = some Zb2 := by kernel_rfl
theorem m176 : Zau Try.prog Kf Try.f176 = some Zb9 := by kernel_rfl
theorem m177 : Zau Try.prog Kf Try.f177 = some ZbD := by kernel_rfl
theorem m178 : Zau Try.prog Kf Try.f178 = some zy := by kernel_rfl
theorem match_all : Match Try.prog Kf G := Match.of (l := Kl) rfl ⟨⟨_, _, Try.func9, ZcY, m9⟩, ⟨⟨_, _, Try.func15, ZdU, m15⟩, ⟨⟨_, _, Try.func28, Zew, m28⟩, ⟨⟨_, _, Try.func29, Zdz, m29⟩, ⟨⟨_, _, Try.func30, ZdD, m30⟩, ⟨⟨_, _, Try.func31, ZdE, m31⟩, ⟨⟨_, _, Try.func32, ZdX, m32⟩, ⟨⟨_, _, Try.func40, ZdB, m40⟩, ⟨⟨_, _, Try.func42, Zfu, m42⟩, ⟨⟨_, _, Try.func43, ZdA, m43⟩, ⟨⟨_, _, Try.func44, ZfA, m44⟩, ⟨⟨_, _, Try.func45, ZdZ, m45⟩, ⟨⟨_, _, Try.func52, Zej, m52⟩, ⟨⟨_, _, Try.func53, Zdr, m53⟩, ⟨⟨_, _, Try.func54, Zdq, m54⟩, ⟨⟨_, _, Try.func55, ZdV, m55⟩, ⟨⟨_, _, Try.func60, ZdT, m60⟩, ⟨⟨_, _, Try.func63, Zfw, m63⟩, ⟨⟨_, _, Try.func64, ZgV, m64⟩, ⟨⟨_, _, Try.func66, Zeh, m66⟩, ⟨⟨_, _, Try.func68, ZeN, m68⟩, ⟨⟨_, _, Try.func69, Zeu, m69⟩, ⟨⟨_, _, Try.func81, Zd0, m81⟩, ⟨⟨_, _, Try.func82, Zdd, m82⟩, ⟨⟨_, _, Try.func83, ZdF, m83⟩, ⟨⟨_, _, Try.func84, ZdW, m84⟩, ⟨⟨_, _, Try.func85, ZdY, m85⟩, ⟨⟨_, _, Try.func89, Zfv, m89⟩, ⟨⟨_, _, Try.func90, ZcZ, m90⟩, ⟨⟨_, _, Try.func91, Zgv, m91⟩, ⟨⟨_, _, Try.func92, Zfr, m92⟩, ⟨⟨_, _, Try.func100, Zf6, m100⟩, ⟨⟨_, _, Try.func101, Zf9, m101⟩, ⟨⟨_, _, Try.func102, Zfy, m102⟩, ⟨⟨_, _, Try.func103, Zf3, m103⟩, ⟨⟨_, _, Try.func105, Zf4, m105⟩, ⟨⟨_, _, Try.func106, ZeM, m106⟩, ⟨⟨_, _, Try.func107, ZeQ, m107⟩, ⟨⟨_, _, Try.func108, ZeE, m108⟩, ⟨⟨_, _, Try.func114, ZdC, m114⟩, ⟨⟨_, _, Try.func122, ZeR, m122⟩, ⟨⟨_, _, Try.func123, ZfB, m123⟩, ⟨⟨_, _, Try.func124, Zgu, m124⟩, ⟨⟨_, _, Try.func125, Zev, m125⟩, ⟨⟨_, _, Try.func126, Zei, m126⟩, ⟨⟨_, _, Try.func127, Zfx, m127⟩, ⟨⟨_, _, Try.func128, Zde, m128⟩, ⟨⟨_, _, Try.func129, ZeA, m129⟩, ⟨⟨_, _, Try.func143, Zgg, m143⟩, ⟨⟨_, _, Try.func144, Zf8, m144⟩, ⟨⟨_, _, Try.func145, Ze9, m145⟩, ⟨⟨_, _, Try.func146, ZeP, m146⟩, ⟨⟨_, _, Try.func147, ZdS, m147⟩, ⟨⟨_, _, Try.func152, ZeO, m152⟩, ⟨⟨_, _, Try.func153, ZeD, m153⟩, ⟨⟨_, _, Try.func157, ZcL, m157⟩, ⟨⟨_, _, Try.func160, Zf5, m160⟩, ⟨⟨_, _, Try.func161, ZeC, m161⟩, ⟨⟨_, _, Try.func162, Zfs, m162⟩, ⟨⟨_, _, Try.func170, Zft, m170⟩, ⟨⟨_, _, Try.func172, ZdG, m172⟩, ⟨⟨_, _, Try.func174, Zf7, m174⟩, ⟨⟨_, _, Try.func175, ZeB, m175⟩, ⟨⟨_, _, Try.func176, Zgt, m176⟩, ⟨⟨_, _, Try.func177, Zhx, m177⟩, ⟨⟨_, _, Try.func178, Zf2, m178⟩, trivial⟩⟩⟩⟩⟩⟩⟩⟩⟩⟩⟩⟩⟩⟩⟩⟩⟩⟩⟩⟩⟩⟩⟩⟩⟩⟩⟩⟩⟩⟩⟩⟩⟩⟩⟩⟩⟩⟩⟩⟩⟩⟩⟩⟩⟩⟩⟩⟩⟩⟩⟩⟩⟩⟩⟩⟩⟩⟩⟩⟩⟩⟩⟩⟩⟩⟩
theorem mixed : Try.prog.follows .mixedOrders = true := by kernel_rfl
end Mu
