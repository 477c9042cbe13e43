/- The evaluator's functions are the model's. -/
import Derived.Test.YtjhlegefgllihaaProg
import Derived.KernelRfl
import Derived.Test.YtjhlegefgllihaaMuG
import Derived.Test.YtjhlegefgllihaaMuPa
namespace Mu
open Go.Proofs
def Kl : List (Nat × Nat) := [(3, 257), (6, 28), (7, 210), (8, 189), (9, 165), (10, 262), (11, 261), (12, 40), (13, 121), (20, 46), (21, 63), (22, 64), (23, 65), (24, 176), (25, 226), (26, 227), (27, 211), (28, 187), (29, 193), (30, 188), (31, 124), (32, 274), (33, 138), (35, 66), (36, 32), (37, 201), (38, 129), (39, 209), (40, 232), (41, 233), (42, 234), (43, 123), (44, 235), (45, 236), (46, 237), (47, 238), (48, 239), (49, 240), (50, 241), (51, 53), (52, 120), (53, 150), (54, 82), (55, 29), (56, 203), (57, 219), (58, 204), (59, 144), (60, 242), (61, 243), (62, 244), (63, 126), (64, 140), (65, 78), (66, 141), (67, 118), (68, 245), (69, 246), (70, 137), (71, 77), (72, 67), (73, 220), (74, 221), (75, 222), (76, 149), (77, 91), (78, 136), (79, 83), (80, 90), (81, 89), (82, 97), (83, 98)]
def Kf : Fid := fun f => Kl.lookup f
theorem m3 : ZaE Try.prog Kf Try.f3 = some Zh := by kernel_rfl
theorem m6 : ZaE Try.prog Kf Try.f6 = some Zi := by kernel_rfl
theorem m7 : ZaE Try.prog Kf Try.f7 = some ZB := by kernel_rfl
theorem m8 : ZaE Try.prog Kf Try.f8 = some Zai := by kernel_rfl
theorem m9 : ZaE Try.prog Kf Try.f9 = some zR := by kernel_rfl
theorem m10 : ZaE Try.prog Kf Try.f10 = some Zm := by kernel_rfl
theorem m11 : ZaE Try.prog Kf Try.f11 = some Zr := by kernel_rfl
theorem m12 : ZaE Try.prog Kf Try.f12 = some zG := by kernel_rfl
theorem m13 : ZaE Try.prog Kf Try.f13 = some Zau := by kernel_rfl
theorem m20 : ZaE Try.prog Kf Try.f20 = some zc := by kernel_rfl
theorem m21 : ZaE Try.prog Kf Try.f21 = some ZM := by kernel_rfl
theorem m22 : ZaE Try.prog Kf Try.f22 = some Zu := by kernel_rfl
theorem m23 : ZaE Try.prog Kf Try.f23 = some ZF := by kernel_rfl
theorem m24 : ZaE Try.prog Kf Try.f24 = some Zad := by kernel_rfl
theorem m25 : ZaE Try.prog Kf Try.f25 = some Z0 := by kernel_rfl
theorem m26 : ZaE Try.prog Kf Try.f26 = some zw := by kernel_rfl
theorem m27 : ZaE Try.prog Kf Try.f27 = some zl := by kernel_rfl
theorem m28 : ZaE Try.prog Kf Try.f28 = some ZbG := by kernel_rfl
theorem m29 : ZaE Try.prog Kf Try.f29 = some Z9 := by kernel_rfl
theorem m30 : ZaE Try.prog Kf Try.f30 = some Z7 := by kernel_rfl
theorem m31 : ZaE Try.prog Kf Try.f31 = some ZK := by kernel_rfl
theorem m32 : ZaE Try.prog Kf Try.f32 = some Zab := by kernel_rfl
theorem m33 : ZaE Try.prog Kf Try.f33 = some Zl := by kernel_rfl
theorem m35 : ZaE Try.prog Kf Try.f35 = some zn := by kernel_rfl
theorem m36 : ZaE Try.prog Kf Try.f36 = some Zch := by kernel_rfl
theorem m37 : ZaE Try.prog Kf Try.f37 = some zj := by kernel_rfl
theorem m38 : ZaE Try.prog Kf Try.f38 = some Zcq := by kernel_rfl
theorem m39 : ZaE Try.prog Kf Try.f39 = some z8 := by kernel_rfl
theorem m40 : ZaE Try.prog Kf Try.f40 = some Zav := by kernel_rfl
theorem m41 : ZaE Try.prog Kf Try.f41 = some Zy := by kernel_rfl
theorem m42 : ZaE Try.prog Kf Try.f42 = some Zcy := by kernel_rfl
theorem m43 : ZaE Try.prog Kf Try.f43 = some Zbh := by kernel_rfl
theorem m44 : ZaE Try.prog Kf Try.f44 = some Zba := by kernel_rfl
theorem m45 : ZaE Try.prog Kf Try.f45 = some Zal := by kernel_rfl
theorem m46 : ZaE Try.prog Kf Try.f46 = some ZbL := by kernel_rfl
theorem m47 : ZaE Try.prog Kf Try.f47 = some Zq := by kernel_rfl
theorem m48 : ZaE Try.prog Kf Try.f48 = some Zbi := by kernel_rfl
theorem m49 : ZaE Try.prog Kf Try.f49 = some Zb8 := by kernel_rfl
theorem m50 : ZaE Try.prog Kf Try.f50 = some zT := by kernel_rfl
theorem m51 : ZaE Try.prog Kf Try.f51 = some zL := by kernel_rfl
theorem m52 : ZaE Try.prog Kf Try.f52 = some ZbF := by kernel_rfl
theorem m53 : ZaE Try.prog Kf Try.f53 = some zg := by kernel_rfl
theorem m54 : ZaE Try.prog Kf Try.f54 = some Zak := by kernel_rfl
theorem m55 : ZaE Try.prog Kf Try.f55 = some ZL := by kernel_rfl
theorem m56 : ZaE Try.prog Kf Try.f56 = some Z5 := by kernel_rfl
theorem m57 : ZaE Try.prog Kf Try.f57 = some zE := by kernel_rfl
theorem m58 : ZaE Try.prog Kf Try.f58 = some zX := by kernel_rfl
theorem m59 : ZaE Try.prog Kf Try.f59 = some Zaf := by kernel_rfl
theorem m60 : ZaE Try.prog Kf Try.f60 = some ZbK := by kernel_rfl
theorem m61 : ZaE Try.prog Kf Try.f61 = some Zb7 := by kernel_rfl
theorem m62 : ZaE Try.prog Kf Try.f62 = some Zan := by kernel_rfl
theorem m63 : ZaE Try.prog Kf Try.f63 = some zH := by kernel_rfl
theorem m64 : ZaE Try.prog Kf Try.f64 = some zM := by kernel_rfl
theorem m65 : ZaE Try.prog Kf Try.f65 = some ZaC := by kernel_rfl
theorem m66 : ZaE Try.prog Kf Try.f66 = some Zbn := by kernel_rfl
theorem m67 : ZaE Try.prog Kf Try.f67 = some Zbc := by kernel_rfl
theorem m68 : ZaE Try.prog Kf Try.f68 = some ZG := by kernel_rfl
theorem m69 : ZaE Try.prog Kf Try.f69 = some Za6 := by kernel_rfl
theorem m70 : ZaE Try.prog Kf Try.f70 = some ZA := by kernel_rfl
theorem m71 : ZaE Try.prog Kf Try.f71 = some Zbq := by kernel_rfl
theorem m72 : ZaE Try.prog Kf Try.f72 = some ZV := by kernel_rfl
theorem m73 : ZaE Try.prog Kf Try.f73 = some Zcg := by kernel_rfl
theorem m74 : ZaE Try.prog Kf Try.f74 = some zd := by kernel_rfl
theorem m75 : ZaE Try.prog Kf Try.f75 = some Zbr := by kernel_rfl
theorem m76 : ZaE Try.prog Kf Try.f76 = some Zb1 := by kernel_rfl
theorem m77 : ZaE Try.prog Kf Try.f77 = some ZX := by kernel_rfl
theorem m78 : ZaE Try.prog Kf Try.f78 = some zx := by kernel_rfl
theorem m79 : ZaE Try.prog Kf Try.f79 = some ZQ := by kernel_rfl
theorem m80 : ZaE Try.prog Kf Try.f80 = some Zcf := by kernel_rfl
theorem m81 : ZaE Try.prog Kf Try.f81 = some ZbW := by kernel_rfl
theorem m82 : ZaE Try.prog Kf Try.f82 = some Zce := by kernel_rfl
theorem m83 : ZaE Try.prog Kf Try.f83 = some zW := by kernel_rfl
theorem match_all : Match Try.prog Kf G := Match.of (l := Kl) rfl ⟨⟨_, _, Try.func3, Zdv, .inl m3⟩, ⟨⟨_, _, Try.func6, Zem, .inl m6⟩, ⟨⟨_, _, Try.func7, ZfU, .inl m7⟩, ⟨⟨_, _, Try.func8, ZdX, .inl m8⟩, ⟨⟨_, _, Try.func9, ZcZ, .inl m9⟩, ⟨⟨_, _, Try.func10, Zdo, .inl m10⟩, ⟨⟨_, _, Try.func11, Zep, .inl m11⟩, ⟨⟨_, _, Try.func12, Ze6, .inl m12⟩, ⟨⟨_, _, Try.func13, ZeK, .inl m13⟩, ⟨⟨_, _, Try.func20, Ze7, .inl m20⟩, ⟨⟨_, _, Try.func21, Zd8, .inl m21⟩, ⟨⟨_, _, Try.func22, Zd7, .inl m22⟩, ⟨⟨_, _, Try.func23, Zen, .inl m23⟩, ⟨⟨_, _, Try.func24, ZfG, .inl m24⟩, ⟨⟨_, _, Try.func25, Zgu, .inl m25⟩, ⟨⟨_, _, Try.func26, Zes, .inl m26⟩, ⟨⟨_, _, Try.func27, ZdW, .inl m27⟩, ⟨⟨_, _, Try.func28, Zgs, .inl m28⟩, ⟨⟨_, _, Try.func29, Zdw, .inl m29⟩, ⟨⟨_, _, Try.func30, ZdZ, .inl m30⟩, ⟨⟨_, _, Try.func31, Zeo, .inl m31⟩, ⟨⟨_, _, Try.func32, Zeq, .inl m32⟩, ⟨⟨_, _, Try.func33, ZdG, .inl m33⟩, ⟨⟨_, _, Try.func35, ZfQ, .inl m35⟩, ⟨⟨_, _, Try.func36, ZfS, .inl m36⟩, ⟨⟨_, _, Try.func37, ZfH, .inl m37⟩, ⟨⟨_, _, Try.func38, Zhj, .inl m38⟩, ⟨⟨_, _, Try.func39, Zgt, .inl m39⟩, ⟨⟨_, _, Try.func40, Zgr, .inl m40⟩, ⟨⟨_, _, Try.func41, Ze8, .inl m41⟩, ⟨⟨_, _, Try.func42, ZhF, .inl m42⟩, ⟨⟨_, _, Try.func43, ZeA, .inl m43⟩, ⟨⟨_, _, Try.func44, Zet, .inl m44⟩, ⟨⟨_, _, Try.func45, ZcJ, .inl m45⟩, ⟨⟨_, _, Try.func46, ZeM, .inl m46⟩, ⟨⟨_, _, Try.func47, ZcL, .inl m47⟩, ⟨⟨_, _, Try.func48, ZdH, .inl m48⟩, ⟨⟨_, _, Try.func49, ZeC, .inl m49⟩, ⟨⟨_, _, Try.func50, Zeb, .inl m50⟩, ⟨⟨_, _, Try.func51, Zel, .inl m51⟩, ⟨⟨_, _, Try.func52, ZhE, .inl m52⟩, ⟨⟨_, _, Try.func53, ZdY, .inl m53⟩, ⟨⟨_, _, Try.func54, Zgq, .inl m54⟩, ⟨⟨_, _, Try.func55, ZfR, .inl m55⟩, ⟨⟨_, _, Try.func56, ZfO, .inl m56⟩, ⟨⟨_, _, Try.func57, ZeZ, .inl m57⟩, ⟨⟨_, _, Try.func58, ZfP, .inl m58⟩, ⟨⟨_, _, Try.func59, ZfM, .inl m59⟩, ⟨⟨_, _, Try.func60, ZeL, .inl m60⟩, ⟨⟨_, _, Try.func61, Ze9, .inl m61⟩, ⟨⟨_, _, Try.func62, Zd9, .inl m62⟩, ⟨⟨_, _, Try.func63, ZeB, .inl m63⟩, ⟨⟨_, _, Try.func64, Zer, .inl m64⟩, ⟨⟨_, _, Try.func65, ZcW, .inl m65⟩, ⟨⟨_, _, Try.func66, Zea, .inl m66⟩, ⟨⟨_, _, Try.func67, ZdA, .inl m67⟩, ⟨⟨_, _, Try.func68, ZcR, .inl m68⟩, ⟨⟨_, _, Try.func69, Zec, .inl m69⟩, ⟨⟨_, _, Try.func70, ZfT, .inl m70⟩, ⟨⟨_, _, Try.func71, Zfo, .inl m71⟩, ⟨⟨_, _, Try.func72, ZfF, .inl m72⟩, ⟨⟨_, _, Try.func73, Zfq, .inl m73⟩, ⟨⟨_, _, Try.func74, Zek, .inl m74⟩, ⟨⟨_, _, Try.func75, Zfp, .inl m75⟩, ⟨⟨_, _, Try.func76, ZfE, .inl m76⟩, ⟨⟨_, _, Try.func77, Zdx, .inl m77⟩, ⟨⟨_, _, Try.func78, Zeu, .inl m78⟩, ⟨⟨_, _, Try.func79, Zed, .inl m79⟩, ⟨⟨_, _, Try.func80, Zfn, .inl m80⟩, ⟨⟨_, _, Try.func81, Zg5, .inl m81⟩, ⟨⟨_, _, Try.func82, ZhD, .inl m82⟩, ⟨⟨_, _, Try.func83, ZfN, .inl m83⟩, trivial⟩⟩⟩⟩⟩⟩⟩⟩⟩⟩⟩⟩⟩⟩⟩⟩⟩⟩⟩⟩⟩⟩⟩⟩⟩⟩⟩⟩⟩⟩⟩⟩⟩⟩⟩⟩⟩⟩⟩⟩⟩⟩⟩⟩⟩⟩⟩⟩⟩⟩⟩⟩⟩⟩⟩⟩⟩⟩⟩⟩⟩⟩⟩⟩⟩⟩⟩⟩⟩⟩⟩⟩
theorem mixed : Try.prog.follows .mixedOrders = true := by kernel_rfl
end Mu
