/- The evaluator's functions are the model's. -/
import Derived.Test.YtjhlegefgllihaaProg
import Derived.KernelRfl
import Derived.Test.YtjhlegefgllihaaMuG
import Derived.Test.YtjhlegefgllihaaMuPa
namespace Mu
open Go.Proofs
def Kl : List (Nat × Nat) := [(5, 259), (6, 28), (7, 210), (8, 189), (17, 116), (18, 271), (19, 272), (20, 46), (21, 63), (22, 64), (23, 65), (24, 176), (25, 226), (26, 227), (27, 211), (28, 187), (34, 277), (35, 66), (36, 32), (37, 201), (38, 129), (39, 209), (40, 232), (41, 233), (42, 234), (43, 123), (44, 235), (45, 236), (46, 237), (47, 238), (48, 239), (49, 240), (50, 241), (51, 53), (52, 120), (54, 82), (55, 29), (56, 203), (57, 219), (58, 204), (59, 144), (60, 242), (61, 243), (62, 244), (63, 126), (64, 140), (65, 78), (66, 141), (67, 118), (68, 245), (69, 246), (70, 137), (71, 77), (72, 67), (73, 220), (74, 221), (75, 222), (76, 149), (77, 91), (78, 136), (79, 83), (80, 90), (81, 89), (82, 97), (83, 98)]
def Kf : Fid := fun f => Kl.lookup f
theorem m5 : Za3 Try.prog Kf Try.f5 = some Ze := by kernel_rfl
theorem m6 : Za3 Try.prog Kf Try.f6 = some Zg := by kernel_rfl
theorem m7 : Za3 Try.prog Kf Try.f7 = some Z7 := by kernel_rfl
theorem m8 : Za3 Try.prog Kf Try.f8 = some zU := by kernel_rfl
theorem m17 : Za3 Try.prog Kf Try.f17 = some Z0 := by kernel_rfl
theorem m18 : Za3 Try.prog Kf Try.f18 = some zn := by kernel_rfl
theorem m19 : Za3 Try.prog Kf Try.f19 = some zc := by kernel_rfl
theorem m20 : Za3 Try.prog Kf Try.f20 = some ZS := by kernel_rfl
theorem m21 : Za3 Try.prog Kf Try.f21 = some ZE := by kernel_rfl
theorem m22 : Za3 Try.prog Kf Try.f22 = some Zs := by kernel_rfl
theorem m23 : Za3 Try.prog Kf Try.f23 = some Z9 := by kernel_rfl
theorem m24 : Za3 Try.prog Kf Try.f24 = some zN := by kernel_rfl
theorem m25 : Za3 Try.prog Kf Try.f25 = some Zu := by kernel_rfl
theorem m26 : Za3 Try.prog Kf Try.f26 = some zk := by kernel_rfl
theorem m27 : Za3 Try.prog Kf Try.f27 = some zd := by kernel_rfl
theorem m28 : Za3 Try.prog Kf Try.f28 = some Zbx := by kernel_rfl
theorem m34 : Za3 Try.prog Kf Try.f34 = some ZG := by kernel_rfl
theorem m35 : Za3 Try.prog Kf Try.f35 = some zf := by kernel_rfl
theorem m36 : Za3 Try.prog Kf Try.f36 = some ZbL := by kernel_rfl
theorem m37 : Za3 Try.prog Kf Try.f37 = some ZY := by kernel_rfl
theorem m38 : Za3 Try.prog Kf Try.f38 = some ZbV := by kernel_rfl
theorem m39 : Za3 Try.prog Kf Try.f39 = some zo := by kernel_rfl
theorem m40 : Za3 Try.prog Kf Try.f40 = some Zac := by kernel_rfl
theorem m41 : Za3 Try.prog Kf Try.f41 = some Zt := by kernel_rfl
theorem m42 : Za3 Try.prog Kf Try.f42 = some Zci := by kernel_rfl
theorem m43 : Za3 Try.prog Kf Try.f43 = some ZaP := by kernel_rfl
theorem m44 : Za3 Try.prog Kf Try.f44 = some ZaE := by kernel_rfl
theorem m45 : Za3 Try.prog Kf Try.f45 = some zW := by kernel_rfl
theorem m46 : Za3 Try.prog Kf Try.f46 = some Zb1 := by kernel_rfl
theorem m47 : Za3 Try.prog Kf Try.f47 = some Zp := by kernel_rfl
theorem m48 : Za3 Try.prog Kf Try.f48 = some ZaQ := by kernel_rfl
theorem m49 : Za3 Try.prog Kf Try.f49 = some Zbq := by kernel_rfl
theorem m50 : Za3 Try.prog Kf Try.f50 = some zG := by kernel_rfl
theorem m51 : Za3 Try.prog Kf Try.f51 = some zC := by kernel_rfl
theorem m52 : Za3 Try.prog Kf Try.f52 = some Zbw := by kernel_rfl
theorem m54 : Za3 Try.prog Kf Try.f54 = some zV := by kernel_rfl
theorem m55 : Za3 Try.prog Kf Try.f55 = some ZD := by kernel_rfl
theorem m56 : Za3 Try.prog Kf Try.f56 = some Z1 := by kernel_rfl
theorem m57 : Za3 Try.prog Kf Try.f57 = some z6 := by kernel_rfl
theorem m58 : Za3 Try.prog Kf Try.f58 = some zJ := by kernel_rfl
theorem m59 : Za3 Try.prog Kf Try.f59 = some zO := by kernel_rfl
theorem m60 : Za3 Try.prog Kf Try.f60 = some Zb0 := by kernel_rfl
theorem m61 : Za3 Try.prog Kf Try.f61 = some Zbp := by kernel_rfl
theorem m62 : Za3 Try.prog Kf Try.f62 = some zX := by kernel_rfl
theorem m63 : Za3 Try.prog Kf Try.f63 = some z9 := by kernel_rfl
theorem m64 : Za3 Try.prog Kf Try.f64 = some zD := by kernel_rfl
theorem m65 : Za3 Try.prog Kf Try.f65 = some Zas := by kernel_rfl
theorem m66 : Za3 Try.prog Kf Try.f66 = some ZaV := by kernel_rfl
theorem m67 : Za3 Try.prog Kf Try.f67 = some ZaG := by kernel_rfl
theorem m68 : Za3 Try.prog Kf Try.f68 = some ZA := by kernel_rfl
theorem m69 : Za3 Try.prog Kf Try.f69 = some Zan := by kernel_rfl
theorem m70 : Za3 Try.prog Kf Try.f70 = some Z6 := by kernel_rfl
theorem m71 : Za3 Try.prog Kf Try.f71 = some ZaX := by kernel_rfl
theorem m72 : Za3 Try.prog Kf Try.f72 = some ZL := by kernel_rfl
theorem m73 : Za3 Try.prog Kf Try.f73 = some ZbK := by kernel_rfl
theorem m74 : Za3 Try.prog Kf Try.f74 = some ZT := by kernel_rfl
theorem m75 : Za3 Try.prog Kf Try.f75 = some ZaY := by kernel_rfl
theorem m76 : Za3 Try.prog Kf Try.f76 = some Zbl := by kernel_rfl
theorem m77 : Za3 Try.prog Kf Try.f77 = some ZM := by kernel_rfl
theorem m78 : Za3 Try.prog Kf Try.f78 = some zl := by kernel_rfl
theorem m79 : Za3 Try.prog Kf Try.f79 = some ZI := by kernel_rfl
theorem m80 : Za3 Try.prog Kf Try.f80 = some ZbJ := by kernel_rfl
theorem m81 : Za3 Try.prog Kf Try.f81 = some ZbC := by kernel_rfl
theorem m82 : Za3 Try.prog Kf Try.f82 = some ZbI := by kernel_rfl
theorem m83 : Za3 Try.prog Kf Try.f83 = some zI := by kernel_rfl
theorem match_all : Match Try.prog Kf G := Match.of (l := Kl) rfl ⟨⟨_, _, Try.func5, Zda, .inl m5⟩, ⟨⟨_, _, Try.func6, ZdO, .inl m6⟩, ⟨⟨_, _, Try.func7, Zf9, .inl m7⟩, ⟨⟨_, _, Try.func8, ZdA, .inl m8⟩, ⟨⟨_, _, Try.func17, Zdx, .inl m17⟩, ⟨⟨_, _, Try.func18, Zei, .inl m18⟩, ⟨⟨_, _, Try.func19, Zd8, .inl m19⟩, ⟨⟨_, _, Try.func20, Zeh, .inl m20⟩, ⟨⟨_, _, Try.func21, Zdo, .inl m21⟩, ⟨⟨_, _, Try.func22, Zdn, .inl m22⟩, ⟨⟨_, _, Try.func23, ZdP, .inl m23⟩, ⟨⟨_, _, Try.func24, Zft, .inl m24⟩, ⟨⟨_, _, Try.func25, Zgc, .inl m25⟩, ⟨⟨_, _, Try.func26, ZdS, .inl m26⟩, ⟨⟨_, _, Try.func27, Zd9, .inl m27⟩, ⟨⟨_, _, Try.func28, Zga, .inl m28⟩, ⟨⟨_, _, Try.func34, ZdQ, .inl m34⟩, ⟨⟨_, _, Try.func35, Zf5, .inl m35⟩, ⟨⟨_, _, Try.func36, Zf7, .inl m36⟩, ⟨⟨_, _, Try.func37, Zfu, .inl m37⟩, ⟨⟨_, _, Try.func38, ZgS, .inl m38⟩, ⟨⟨_, _, Try.func39, Zgb, .inl m39⟩, ⟨⟨_, _, Try.func40, ZfZ, .inl m40⟩, ⟨⟨_, _, Try.func41, Zej, .inl m41⟩, ⟨⟨_, _, Try.func42, Zhx, .inl m42⟩, ⟨⟨_, _, Try.func43, Zel, .inl m43⟩, ⟨⟨_, _, Try.func44, ZdT, .inl m44⟩, ⟨⟨_, _, Try.func45, Zcx, .inl m45⟩, ⟨⟨_, _, Try.func46, Ze1, .inl m46⟩, ⟨⟨_, _, Try.func47, Zc2, .inl m47⟩, ⟨⟨_, _, Try.func48, Zdy, .inl m48⟩, ⟨⟨_, _, Try.func49, Zen, .inl m49⟩, ⟨⟨_, _, Try.func50, ZdC, .inl m50⟩, ⟨⟨_, _, Try.func51, ZdN, .inl m51⟩, ⟨⟨_, _, Try.func52, Zhw, .inl m52⟩, ⟨⟨_, _, Try.func54, ZfY, .inl m54⟩, ⟨⟨_, _, Try.func55, Zf6, .inl m55⟩, ⟨⟨_, _, Try.func56, Zf3, .inl m56⟩, ⟨⟨_, _, Try.func57, ZeC, .inl m57⟩, ⟨⟨_, _, Try.func58, Zf4, .inl m58⟩, ⟨⟨_, _, Try.func59, Zf1, .inl m59⟩, ⟨⟨_, _, Try.func60, Ze0, .inl m60⟩, ⟨⟨_, _, Try.func61, Zek, .inl m61⟩, ⟨⟨_, _, Try.func62, Zdp, .inl m62⟩, ⟨⟨_, _, Try.func63, Zem, .inl m63⟩, ⟨⟨_, _, Try.func64, ZdR, .inl m64⟩, ⟨⟨_, _, Try.func65, ZcB, .inl m65⟩, ⟨⟨_, _, Try.func66, ZdB, .inl m66⟩, ⟨⟨_, _, Try.func67, Zdq, .inl m67⟩, ⟨⟨_, _, Try.func68, Zc7, .inl m68⟩, ⟨⟨_, _, Try.func69, ZdD, .inl m69⟩, ⟨⟨_, _, Try.func70, Zf8, .inl m70⟩, ⟨⟨_, _, Try.func71, ZeM, .inl m71⟩, ⟨⟨_, _, Try.func72, Zfs, .inl m72⟩, ⟨⟨_, _, Try.func73, ZeO, .inl m73⟩, ⟨⟨_, _, Try.func74, ZdM, .inl m74⟩, ⟨⟨_, _, Try.func75, ZeN, .inl m75⟩, ⟨⟨_, _, Try.func76, Zfr, .inl m76⟩, ⟨⟨_, _, Try.func77, Zdb, .inl m77⟩, ⟨⟨_, _, Try.func78, ZdU, .inl m78⟩, ⟨⟨_, _, Try.func79, ZdE, .inl m79⟩, ⟨⟨_, _, Try.func80, ZeL, .inl m80⟩, ⟨⟨_, _, Try.func81, Zgs, .inl m81⟩, ⟨⟨_, _, Try.func82, Zhv, .inl m82⟩, ⟨⟨_, _, Try.func83, Zf2, .inl m83⟩, trivial⟩⟩⟩⟩⟩⟩⟩⟩⟩⟩⟩⟩⟩⟩⟩⟩⟩⟩⟩⟩⟩⟩⟩⟩⟩⟩⟩⟩⟩⟩⟩⟩⟩⟩⟩⟩⟩⟩⟩⟩⟩⟩⟩⟩⟩⟩⟩⟩⟩⟩⟩⟩⟩⟩⟩⟩⟩⟩⟩⟩⟩⟩⟩⟩⟩
theorem mixed : Try.prog.follows .mixedOrders = true := by kernel_rfl
end Mu
