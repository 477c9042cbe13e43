/- The evaluator's functions are the model's. -/
import Derived.Test.YtjhlegefgllihaaProg
import Derived.KernelRfl
import Derived.Test.YtjhlegefgllihaaMuG
import Derived.Test.YtjhlegefgllihaaMuPa
namespace Mu
open Go.Proofs
def Kl : List (Nat × Nat) := [(4, 258), (6, 28), (7, 210), (8, 189), (11, 261), (13, 121), (14, 112), (15, 169), (16, 270), (20, 46), (21, 63), (22, 64), (23, 65), (24, 176), (25, 226), (26, 227), (27, 211), (28, 187), (29, 193), (30, 188), (31, 124), (32, 274), (33, 138), (35, 66), (36, 32), (37, 201), (38, 129), (39, 209), (40, 232), (41, 233), (42, 234), (43, 123), (44, 235), (45, 236), (46, 237), (47, 238), (48, 239), (49, 240), (50, 241), (51, 53), (52, 120), (53, 150), (54, 82), (55, 29), (56, 203), (57, 219), (58, 204), (59, 144), (60, 242), (61, 243), (62, 244), (63, 126), (64, 140), (65, 78), (66, 141), (67, 118), (68, 245), (69, 246), (70, 137), (71, 77), (72, 67), (73, 220), (74, 221), (75, 222), (76, 149), (77, 91), (78, 136), (79, 83), (80, 90), (81, 89), (82, 97), (83, 98)]
def Kf : Fid := fun f => Kl.lookup f
theorem m4 : ZaE Try.prog Kf Try.f4 = some Z5 := by kernel_rfl
theorem m6 : ZaE Try.prog Kf Try.f6 = some Zf := by kernel_rfl
theorem m7 : ZaE Try.prog Kf Try.f7 = some ZC := by kernel_rfl
theorem m8 : ZaE Try.prog Kf Try.f8 = some Zai := by kernel_rfl
theorem m11 : ZaE Try.prog Kf Try.f11 = some Zq := by kernel_rfl
theorem m13 : ZaE Try.prog Kf Try.f13 = some Zav := by kernel_rfl
theorem m14 : ZaE Try.prog Kf Try.f14 = some ZE := by kernel_rfl
theorem m15 : ZaE Try.prog Kf Try.f15 = some z7 := by kernel_rfl
theorem m16 : ZaE Try.prog Kf Try.f16 = some Zn := by kernel_rfl
theorem m20 : ZaE Try.prog Kf Try.f20 = some ze := by kernel_rfl
theorem m21 : ZaE Try.prog Kf Try.f21 = some ZM := by kernel_rfl
theorem m22 : ZaE Try.prog Kf Try.f22 = some Zs := by kernel_rfl
theorem m23 : ZaE Try.prog Kf Try.f23 = some ZF := by kernel_rfl
theorem m24 : ZaE Try.prog Kf Try.f24 = some Zad := by kernel_rfl
theorem m25 : ZaE Try.prog Kf Try.f25 = some Zy := by kernel_rfl
theorem m26 : ZaE Try.prog Kf Try.f26 = some zu := by kernel_rfl
theorem m27 : ZaE Try.prog Kf Try.f27 = some zl := by kernel_rfl
theorem m28 : ZaE Try.prog Kf Try.f28 = some ZbE := by kernel_rfl
theorem m29 : ZaE Try.prog Kf Try.f29 = some ZA := by kernel_rfl
theorem m30 : ZaE Try.prog Kf Try.f30 = some Z8 := by kernel_rfl
theorem m31 : ZaE Try.prog Kf Try.f31 = some ZJ := by kernel_rfl
theorem m32 : ZaE Try.prog Kf Try.f32 = some Zac := by kernel_rfl
theorem m33 : ZaE Try.prog Kf Try.f33 = some Zl := by kernel_rfl
theorem m35 : ZaE Try.prog Kf Try.f35 = some zo := by kernel_rfl
theorem m36 : ZaE Try.prog Kf Try.f36 = some Zcf := by kernel_rfl
theorem m37 : ZaE Try.prog Kf Try.f37 = some zj := by kernel_rfl
theorem m38 : ZaE Try.prog Kf Try.f38 = some Zcp := by kernel_rfl
theorem m39 : ZaE Try.prog Kf Try.f39 = some z9 := by kernel_rfl
theorem m40 : ZaE Try.prog Kf Try.f40 = some Zaw := by kernel_rfl
theorem m41 : ZaE Try.prog Kf Try.f41 = some Zv := by kernel_rfl
theorem m42 : ZaE Try.prog Kf Try.f42 = some Zcy := by kernel_rfl
theorem m43 : ZaE Try.prog Kf Try.f43 = some Zbi := by kernel_rfl
theorem m44 : ZaE Try.prog Kf Try.f44 = some ZaZ := by kernel_rfl
theorem m45 : ZaE Try.prog Kf Try.f45 = some Zal := by kernel_rfl
theorem m46 : ZaE Try.prog Kf Try.f46 = some ZbI := by kernel_rfl
theorem m47 : ZaE Try.prog Kf Try.f47 = some Zp := by kernel_rfl
theorem m48 : ZaE Try.prog Kf Try.f48 = some Zbj := by kernel_rfl
theorem m49 : ZaE Try.prog Kf Try.f49 = some Zb8 := by kernel_rfl
theorem m50 : ZaE Try.prog Kf Try.f50 = some zS := by kernel_rfl
theorem m51 : ZaE Try.prog Kf Try.f51 = some zM := by kernel_rfl
theorem m52 : ZaE Try.prog Kf Try.f52 = some ZbD := by kernel_rfl
theorem m53 : ZaE Try.prog Kf Try.f53 = some zh := by kernel_rfl
theorem m54 : ZaE Try.prog Kf Try.f54 = some Zak := by kernel_rfl
theorem m55 : ZaE Try.prog Kf Try.f55 = some ZL := by kernel_rfl
theorem m56 : ZaE Try.prog Kf Try.f56 = some Z4 := by kernel_rfl
theorem m57 : ZaE Try.prog Kf Try.f57 = some zH := by kernel_rfl
theorem m58 : ZaE Try.prog Kf Try.f58 = some zX := by kernel_rfl
theorem m59 : ZaE Try.prog Kf Try.f59 = some Zae := by kernel_rfl
theorem m60 : ZaE Try.prog Kf Try.f60 = some ZbH := by kernel_rfl
theorem m61 : ZaE Try.prog Kf Try.f61 = some Zb7 := by kernel_rfl
theorem m62 : ZaE Try.prog Kf Try.f62 = some Zan := by kernel_rfl
theorem m63 : ZaE Try.prog Kf Try.f63 = some zI := by kernel_rfl
theorem m64 : ZaE Try.prog Kf Try.f64 = some zN := by kernel_rfl
theorem m65 : ZaE Try.prog Kf Try.f65 = some ZaC := by kernel_rfl
theorem m66 : ZaE Try.prog Kf Try.f66 = some Zbn := by kernel_rfl
theorem m67 : ZaE Try.prog Kf Try.f67 = some Zbc := by kernel_rfl
theorem m68 : ZaE Try.prog Kf Try.f68 = some ZG := by kernel_rfl
theorem m69 : ZaE Try.prog Kf Try.f69 = some Za5 := by kernel_rfl
theorem m70 : ZaE Try.prog Kf Try.f70 = some ZB := by kernel_rfl
theorem m71 : ZaE Try.prog Kf Try.f71 = some Zbp := by kernel_rfl
theorem m72 : ZaE Try.prog Kf Try.f72 = some ZV := by kernel_rfl
theorem m73 : ZaE Try.prog Kf Try.f73 = some Zce := by kernel_rfl
theorem m74 : ZaE Try.prog Kf Try.f74 = some zf := by kernel_rfl
theorem m75 : ZaE Try.prog Kf Try.f75 = some Zbq := by kernel_rfl
theorem m76 : ZaE Try.prog Kf Try.f76 = some Zb1 := by kernel_rfl
theorem m77 : ZaE Try.prog Kf Try.f77 = some ZX := by kernel_rfl
theorem m78 : ZaE Try.prog Kf Try.f78 = some zw := by kernel_rfl
theorem m79 : ZaE Try.prog Kf Try.f79 = some ZS := by kernel_rfl
theorem m80 : ZaE Try.prog Kf Try.f80 = some Zcd := by kernel_rfl
theorem m81 : ZaE Try.prog Kf Try.f81 = some ZbX := by kernel_rfl
theorem m82 : ZaE Try.prog Kf Try.f82 = some Zcc := by kernel_rfl
theorem m83 : ZaE Try.prog Kf Try.f83 = some zW := by kernel_rfl
theorem match_all : Match Try.prog Kf G := Match.of (l := Kl) rfl ⟨⟨_, _, Try.func4, Zdq, .inl m4⟩, ⟨⟨_, _, Try.func6, Zep, .inl m6⟩, ⟨⟨_, _, Try.func7, ZfW, .inl m7⟩, ⟨⟨_, _, Try.func8, ZdX, .inl m8⟩, ⟨⟨_, _, Try.func11, Zes, .inl m11⟩, ⟨⟨_, _, Try.func13, ZeM, .inl m13⟩, ⟨⟨_, _, Try.func14, ZdE, .inl m14⟩, ⟨⟨_, _, Try.func15, ZdZ, .inl m15⟩, ⟨⟨_, _, Try.func16, ZcX, .inl m16⟩, ⟨⟨_, _, Try.func20, Ze9, .inl m20⟩, ⟨⟨_, _, Try.func21, Zd5, .inl m21⟩, ⟨⟨_, _, Try.func22, Zd4, .inl m22⟩, ⟨⟨_, _, Try.func23, Zeq, .inl m23⟩, ⟨⟨_, _, Try.func24, ZfG, .inl m24⟩, ⟨⟨_, _, Try.func25, Zgv, .inl m25⟩, ⟨⟨_, _, Try.func26, Zev, .inl m26⟩, ⟨⟨_, _, Try.func27, ZdW, .inl m27⟩, ⟨⟨_, _, Try.func28, Zgt, .inl m28⟩, ⟨⟨_, _, Try.func29, Zdr, .inl m29⟩, ⟨⟨_, _, Try.func30, Zea, .inl m30⟩, ⟨⟨_, _, Try.func31, Zer, .inl m31⟩, ⟨⟨_, _, Try.func32, Zet, .inl m32⟩, ⟨⟨_, _, Try.func33, ZdF, .inl m33⟩, ⟨⟨_, _, Try.func35, ZfS, .inl m35⟩, ⟨⟨_, _, Try.func36, ZfU, .inl m36⟩, ⟨⟨_, _, Try.func37, ZfH, .inl m37⟩, ⟨⟨_, _, Try.func38, Zhj, .inl m38⟩, ⟨⟨_, _, Try.func39, Zgu, .inl m39⟩, ⟨⟨_, _, Try.func40, Zgs, .inl m40⟩, ⟨⟨_, _, Try.func41, ZeA, .inl m41⟩, ⟨⟨_, _, Try.func42, ZhD, .inl m42⟩, ⟨⟨_, _, Try.func43, ZeC, .inl m43⟩, ⟨⟨_, _, Try.func44, Zew, .inl m44⟩, ⟨⟨_, _, Try.func45, ZcG, .inl m45⟩, ⟨⟨_, _, Try.func46, ZeO, .inl m46⟩, ⟨⟨_, _, Try.func47, ZcL, .inl m47⟩, ⟨⟨_, _, Try.func48, ZdG, .inl m48⟩, ⟨⟨_, _, Try.func49, ZeE, .inl m49⟩, ⟨⟨_, _, Try.func50, Zec, .inl m50⟩, ⟨⟨_, _, Try.func51, Zeo, .inl m51⟩, ⟨⟨_, _, Try.func52, ZhC, .inl m52⟩, ⟨⟨_, _, Try.func53, ZdY, .inl m53⟩, ⟨⟨_, _, Try.func54, Zgr, .inl m54⟩, ⟨⟨_, _, Try.func55, ZfT, .inl m55⟩, ⟨⟨_, _, Try.func56, ZfQ, .inl m56⟩, ⟨⟨_, _, Try.func57, Zfa, .inl m57⟩, ⟨⟨_, _, Try.func58, ZfR, .inl m58⟩, ⟨⟨_, _, Try.func59, ZfO, .inl m59⟩, ⟨⟨_, _, Try.func60, ZeN, .inl m60⟩, ⟨⟨_, _, Try.func61, ZeB, .inl m61⟩, ⟨⟨_, _, Try.func62, Zd6, .inl m62⟩, ⟨⟨_, _, Try.func63, ZeD, .inl m63⟩, ⟨⟨_, _, Try.func64, Zeu, .inl m64⟩, ⟨⟨_, _, Try.func65, ZcU, .inl m65⟩, ⟨⟨_, _, Try.func66, Zeb, .inl m66⟩, ⟨⟨_, _, Try.func67, Zd7, .inl m67⟩, ⟨⟨_, _, Try.func68, ZcR, .inl m68⟩, ⟨⟨_, _, Try.func69, Zed, .inl m69⟩, ⟨⟨_, _, Try.func70, ZfV, .inl m70⟩, ⟨⟨_, _, Try.func71, Zfn, .inl m71⟩, ⟨⟨_, _, Try.func72, ZfF, .inl m72⟩, ⟨⟨_, _, Try.func73, Zfp, .inl m73⟩, ⟨⟨_, _, Try.func74, Zen, .inl m74⟩, ⟨⟨_, _, Try.func75, Zfo, .inl m75⟩, ⟨⟨_, _, Try.func76, ZfE, .inl m76⟩, ⟨⟨_, _, Try.func77, Zds, .inl m77⟩, ⟨⟨_, _, Try.func78, Zex, .inl m78⟩, ⟨⟨_, _, Try.func79, Zee, .inl m79⟩, ⟨⟨_, _, Try.func80, Zfm, .inl m80⟩, ⟨⟨_, _, Try.func81, Zg7, .inl m81⟩, ⟨⟨_, _, Try.func82, ZhB, .inl m82⟩, ⟨⟨_, _, Try.func83, ZfP, .inl m83⟩, trivial⟩⟩⟩⟩⟩⟩⟩⟩⟩⟩⟩⟩⟩⟩⟩⟩⟩⟩⟩⟩⟩⟩⟩⟩⟩⟩⟩⟩⟩⟩⟩⟩⟩⟩⟩⟩⟩⟩⟩⟩⟩⟩⟩⟩⟩⟩⟩⟩⟩⟩⟩⟩⟩⟩⟩⟩⟩⟩⟩⟩⟩⟩⟩⟩⟩⟩⟩⟩⟩⟩⟩⟩
theorem mixed : Try.prog.follows .mixedOrders = true := by kernel_rfl
end Mu
