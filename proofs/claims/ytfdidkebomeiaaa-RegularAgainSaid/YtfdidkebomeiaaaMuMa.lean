/- The evaluator's functions are the model's. -/
import Derived.Test.YtfdidkebomeiaaaProg
import Derived.KernelRfl
import Derived.Test.YtfdidkebomeiaaaMuG
import Derived.Test.YtfdidkebomeiaaaMuPa
namespace Mu
open Go.Proofs
def Kl : List (Nat × Nat) := [(5, 250), (15, 28), (19, 190), (20, 212), (22, 56), (52, 46), (53, 63), (54, 64), (55, 65), (60, 53), (61, 213), (62, 214), (63, 176), (64, 119), (65, 228), (66, 57), (67, 229), (68, 77), (69, 52), (90, 51), (100, 66), (101, 32), (102, 201), (103, 203), (104, 24), (105, 204), (106, 90), (107, 75), (108, 76), (128, 91), (143, 82), (144, 29), (145, 219), (146, 220), (147, 221), (148, 59), (149, 19), (150, 62), (151, 61), (152, 222), (153, 55), (157, 78), (170, 67), (171, 80), (172, 83), (176, 89), (177, 97), (178, 98)]
def Kf : Fid := fun f => Kl.lookup f
theorem m5 : Zag Try.prog Kf Try.f5 = some Zm := by kernel_rfl
theorem m15 : Zag Try.prog Kf Try.f15 = some Zd := by kernel_rfl
theorem m19 : Zag Try.prog Kf Try.f19 = some zc := by kernel_rfl
theorem m20 : Zag Try.prog Kf Try.f20 = some Z3 := by kernel_rfl
theorem m22 : Zag Try.prog Kf Try.f22 = some ZE := by kernel_rfl
theorem m52 : Zag Try.prog Kf Try.f52 = some ZA := by kernel_rfl
theorem m53 : Zag Try.prog Kf Try.f53 = some Zw := by kernel_rfl
theorem m54 : Zag Try.prog Kf Try.f54 = some Zi := by kernel_rfl
theorem m55 : Zag Try.prog Kf Try.f55 = some Zu := by kernel_rfl
theorem m60 : Zag Try.prog Kf Try.f60 = some ZR := by kernel_rfl
theorem m61 : Zag Try.prog Kf Try.f61 = some ZI := by kernel_rfl
theorem m62 : Zag Try.prog Kf Try.f62 = some Zy := by kernel_rfl
theorem m63 : Zag Try.prog Kf Try.f63 = some ZZ := by kernel_rfl
theorem m64 : Zag Try.prog Kf Try.f64 = some ZaX := by kernel_rfl
theorem m65 : Zag Try.prog Kf Try.f65 = some ZL := by kernel_rfl
theorem m66 : Zag Try.prog Kf Try.f66 = some z7 := by kernel_rfl
theorem m67 : Zag Try.prog Kf Try.f67 = some zQ := by kernel_rfl
theorem m68 : Zag Try.prog Kf Try.f68 = some Zaa := by kernel_rfl
theorem m69 : Zag Try.prog Kf Try.f69 = some ZP := by kernel_rfl
theorem m90 : Zag Try.prog Kf Try.f90 = some ZX := by kernel_rfl
theorem m100 : Zag Try.prog Kf Try.f100 = some ZF := by kernel_rfl
theorem m101 : Zag Try.prog Kf Try.f101 = some ZaQ := by kernel_rfl
theorem m102 : Zag Try.prog Kf Try.f102 = some ZD := by kernel_rfl
theorem m103 : Zag Try.prog Kf Try.f103 = some Zq := by kernel_rfl
theorem m104 : Zag Try.prog Kf Try.f104 = some ZG := by kernel_rfl
theorem m105 : Zag Try.prog Kf Try.f105 = some ZW := by kernel_rfl
theorem m106 : Zag Try.prog Kf Try.f106 = some ZaN := by kernel_rfl
theorem m107 : Zag Try.prog Kf Try.f107 = some ZaP := by kernel_rfl
theorem m108 : Zag Try.prog Kf Try.f108 = some Zal := by kernel_rfl
theorem m128 : Zag Try.prog Kf Try.f128 = some Z5 := by kernel_rfl
theorem m143 : Zag Try.prog Kf Try.f143 = some zd := by kernel_rfl
theorem m144 : Zag Try.prog Kf Try.f144 = some Zv := by kernel_rfl
theorem m145 : Zag Try.prog Kf Try.f145 = some ZO := by kernel_rfl
theorem m146 : Zag Try.prog Kf Try.f146 = some ZaO := by kernel_rfl
theorem m147 : Zag Try.prog Kf Try.f147 = some ZB := by kernel_rfl
theorem m148 : Zag Try.prog Kf Try.f148 = some Zba := by kernel_rfl
theorem m149 : Zag Try.prog Kf Try.f149 = some Z6 := by kernel_rfl
theorem m150 : Zag Try.prog Kf Try.f150 = some zo := by kernel_rfl
theorem m151 : Zag Try.prog Kf Try.f151 = some Za0 := by kernel_rfl
theorem m152 : Zag Try.prog Kf Try.f152 = some Zab := by kernel_rfl
theorem m153 : Zag Try.prog Kf Try.f153 = some zP := by kernel_rfl
theorem m157 : Zag Try.prog Kf Try.f157 = some zt := by kernel_rfl
theorem m170 : Zag Try.prog Kf Try.f170 = some Z2 := by kernel_rfl
theorem m171 : Zag Try.prog Kf Try.f171 = some Za8 := by kernel_rfl
theorem m172 : Zag Try.prog Kf Try.f172 = some Z0 := by kernel_rfl
theorem m176 : Zag Try.prog Kf Try.f176 = some ZaF := by kernel_rfl
theorem m177 : Zag Try.prog Kf Try.f177 = some ZaM := by kernel_rfl
theorem m178 : Zag Try.prog Kf Try.f178 = some ZV := by kernel_rfl
theorem match_all : Match Try.prog Kf G := Match.of (l := Kl) rfl ⟨⟨_, _, Try.func5, Zb7, m5⟩, ⟨⟨_, _, Try.func15, ZcC, m15⟩, ⟨⟨_, _, Try.func19, Zc1, m19⟩, ⟨⟨_, _, Try.func20, ZdA, m20⟩, ⟨⟨_, _, Try.func22, ZcD, m22⟩, ⟨⟨_, _, Try.func52, ZcN, m52⟩, ⟨⟨_, _, Try.func53, Zch, m53⟩, ⟨⟨_, _, Try.func54, Zcg, m54⟩, ⟨⟨_, _, Try.func55, ZcE, m55⟩, ⟨⟨_, _, Try.func60, ZcB, m60⟩, ⟨⟨_, _, Try.func61, ZcA, m61⟩, ⟨⟨_, _, Try.func62, Zd9, m62⟩, ⟨⟨_, _, Try.func63, Zec, m63⟩, ⟨⟨_, _, Try.func64, Zf7, m64⟩, ⟨⟨_, _, Try.func65, ZdB, m65⟩, ⟨⟨_, _, Try.func66, ZcM, m66⟩, ⟨⟨_, _, Try.func67, Zco, m67⟩, ⟨⟨_, _, Try.func68, Zd5, m68⟩, ⟨⟨_, _, Try.func69, ZcZ, m69⟩, ⟨⟨_, _, Try.func90, ZbS, m90⟩, ⟨⟨_, _, Try.func100, Zep, m100⟩, ⟨⟨_, _, Try.func101, Zer, m101⟩, ⟨⟨_, _, Try.func102, Zed, m102⟩, ⟨⟨_, _, Try.func103, Zen, m103⟩, ⟨⟨_, _, Try.func104, Zes, m104⟩, ⟨⟨_, _, Try.func105, Zeo, m105⟩, ⟨⟨_, _, Try.func106, Zd4, m106⟩, ⟨⟨_, _, Try.func107, Zd8, m107⟩, ⟨⟨_, _, Try.func108, Zdr, m108⟩, ⟨⟨_, _, Try.func128, ZbX, m128⟩, ⟨⟨_, _, Try.func143, ZeF, m143⟩, ⟨⟨_, _, Try.func144, Zeq, m144⟩, ⟨⟨_, _, Try.func145, Zdp, m145⟩, ⟨⟨_, _, Try.func146, Zd7, m146⟩, ⟨⟨_, _, Try.func147, Zc9, m147⟩, ⟨⟨_, _, Try.func148, Zeb, m148⟩, ⟨⟨_, _, Try.func149, Zds, m149⟩, ⟨⟨_, _, Try.func150, Zet, m150⟩, ⟨⟨_, _, Try.func151, ZeG, m151⟩, ⟨⟨_, _, Try.func152, Zd6, m152⟩, ⟨⟨_, _, Try.func153, Zdq, m153⟩, ⟨⟨_, _, Try.func157, ZbB, m157⟩, ⟨⟨_, _, Try.func170, Zea, m170⟩, ⟨⟨_, _, Try.func171, Zdt, m171⟩, ⟨⟨_, _, Try.func172, Zc2, m172⟩, ⟨⟨_, _, Try.func176, ZeT, m176⟩, ⟨⟨_, _, Try.func177, ZfU, m177⟩, ⟨⟨_, _, Try.func178, Zem, m178⟩, trivial⟩⟩⟩⟩⟩⟩⟩⟩⟩⟩⟩⟩⟩⟩⟩⟩⟩⟩⟩⟩⟩⟩⟩⟩⟩⟩⟩⟩⟩⟩⟩⟩⟩⟩⟩⟩⟩⟩⟩⟩⟩⟩⟩⟩⟩⟩⟩⟩
theorem mixed : Try.prog.follows .mixedOrders = true := by kernel_rfl
end Mu
