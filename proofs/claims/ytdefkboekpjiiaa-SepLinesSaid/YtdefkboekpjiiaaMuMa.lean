/- The evaluator's functions are the model's. -/
import Derived.Test.YtdefkboekpjiiaaProg
import Derived.KernelRfl
import Derived.Test.YtdefkboekpjiiaaMuFt
import Derived.Test.YtdefkboekpjiiaaMuPa
namespace Mu
open Go.Proofs
def Kl : List (Nat × Nat) := [(13, 162), (15, 28), (21, 129), (22, 121), (26, 34), (38, 176), (54, 187), (55, 188), (56, 189), (59, 46), (60, 63), (61, 64), (62, 65), (63, 66), (67, 149), (69, 120), (70, 144), (71, 138), (81, 53), (83, 32), (84, 201), (86, 203), (87, 91), (88, 204), (99, 209), (100, 210), (101, 211), (108, 82), (110, 137), (111, 150), (114, 29), (115, 219), (116, 220), (117, 221), (118, 222), (128, 226), (129, 227), (134, 77), (136, 83), (138, 67), (139, 90), (140, 78), (145, 123), (146, 232), (147, 233), (148, 234), (149, 235), (150, 236), (151, 237), (152, 238), (153, 239), (154, 240), (155, 241), (159, 89), (160, 140), (161, 141), (162, 118), (163, 242), (164, 243), (165, 244), (166, 126), (167, 245), (168, 246), (170, 97), (171, 98), (172, 136)]
def Kf : Fid := fun f => Kl.lookup f
theorem m13 : z5 Try.prog Kf Try.f13 = some Zc := by kernel_rfl
theorem m15 : z5 Try.prog Kf Try.f15 = some Zb := by kernel_rfl
theorem m21 : z5 Try.prog Kf Try.f21 = some Zaz := by kernel_rfl
theorem m22 : z5 Try.prog Kf Try.f22 = some zl := by kernel_rfl
theorem m26 : z5 Try.prog Kf Try.f26 = some Zg := by kernel_rfl
theorem m38 : z5 Try.prog Kf Try.f38 = some zd := by kernel_rfl
theorem m54 : z5 Try.prog Kf Try.f54 = some Zab := by kernel_rfl
theorem m55 : z5 Try.prog Kf Try.f55 = some Zs := by kernel_rfl
theorem m56 : z5 Try.prog Kf Try.f56 = some zk := by kernel_rfl
theorem m59 : z5 Try.prog Kf Try.f59 = some Z7 := by kernel_rfl
theorem m60 : z5 Try.prog Kf Try.f60 = some Zz := by kernel_rfl
theorem m61 : z5 Try.prog Kf Try.f61 = some Zh := by kernel_rfl
theorem m62 : z5 Try.prog Kf Try.f62 = some Zx := by kernel_rfl
theorem m63 : z5 Try.prog Kf Try.f63 = some ZG := by kernel_rfl
theorem m67 : z5 Try.prog Kf Try.f67 = some zT := by kernel_rfl
theorem m69 : z5 Try.prog Kf Try.f69 = some Zad := by kernel_rfl
theorem m70 : z5 Try.prog Kf Try.f70 = some ze := by kernel_rfl
theorem m71 : z5 Try.prog Kf Try.f71 = some Ze := by kernel_rfl
theorem m81 : z5 Try.prog Kf Try.f81 = some ZU := by kernel_rfl
theorem m83 : z5 Try.prog Kf Try.f83 = some Zav := by kernel_rfl
theorem m84 : z5 Try.prog Kf Try.f84 = some ZD := by kernel_rfl
theorem m86 : z5 Try.prog Kf Try.f86 = some Zq := by kernel_rfl
theorem m87 : z5 Try.prog Kf Try.f87 = some Z5 := by kernel_rfl
theorem m88 : z5 Try.prog Kf Try.f88 = some za := by kernel_rfl
theorem m99 : z5 Try.prog Kf Try.f99 = some ZM := by kernel_rfl
theorem m100 : z5 Try.prog Kf Try.f100 = some Zv := by kernel_rfl
theorem m101 : z5 Try.prog Kf Try.f101 = some ZE := by kernel_rfl
theorem m108 : z5 Try.prog Kf Try.f108 = some zj := by kernel_rfl
theorem m110 : z5 Try.prog Kf Try.f110 = some Zu := by kernel_rfl
theorem m111 : z5 Try.prog Kf Try.f111 = some ZA := by kernel_rfl
theorem m114 : z5 Try.prog Kf Try.f114 = some Z0 := by kernel_rfl
theorem m115 : z5 Try.prog Kf Try.f115 = some ZP := by kernel_rfl
theorem m116 : z5 Try.prog Kf Try.f116 = some Zas := by kernel_rfl
theorem m117 : z5 Try.prog Kf Try.f117 = some Z8 := by kernel_rfl
theorem m118 : z5 Try.prog Kf Try.f118 = some zL := by kernel_rfl
theorem m128 : z5 Try.prog Kf Try.f128 = some Zm := by kernel_rfl
theorem m129 : z5 Try.prog Kf Try.f129 = some ZH := by kernel_rfl
theorem m134 : z5 Try.prog Kf Try.f134 = some zK := by kernel_rfl
theorem m136 : z5 Try.prog Kf Try.f136 = some Z3 := by kernel_rfl
theorem m138 : z5 Try.prog Kf Try.f138 = some Z6 := by kernel_rfl
theorem m139 : z5 Try.prog Kf Try.f139 = some Zar := by kernel_rfl
theorem m140 : z5 Try.prog Kf Try.f140 = some zr := by kernel_rfl
theorem m145 : z5 Try.prog Kf Try.f145 = some zE := by kernel_rfl
theorem m146 : z5 Try.prog Kf Try.f146 = some zo := by kernel_rfl
theorem m147 : z5 Try.prog Kf Try.f147 = some Zk := by kernel_rfl
theorem m148 : z5 Try.prog Kf Try.f148 = some ZaI := by kernel_rfl
theorem m149 : z5 Try.prog Kf Try.f149 = some z8 := by kernel_rfl
theorem m150 : z5 Try.prog Kf Try.f150 = some zc := by kernel_rfl
theorem m151 : z5 Try.prog Kf Try.f151 = some Zaa := by kernel_rfl
theorem m152 : z5 Try.prog Kf Try.f152 = some Zf := by kernel_rfl
theorem m153 : z5 Try.prog Kf Try.f153 = some zD := by kernel_rfl
theorem m154 : z5 Try.prog Kf Try.f154 = some zV := by kernel_rfl
theorem m155 : z5 Try.prog Kf Try.f155 = some ZW := by kernel_rfl
theorem m159 : z5 Try.prog Kf Try.f159 = some Zam := by kernel_rfl
theorem m160 : z5 Try.prog Kf Try.f160 = some ZV := by kernel_rfl
theorem m161 : z5 Try.prog Kf Try.f161 = some zG := by kernel_rfl
theorem m162 : z5 Try.prog Kf Try.f162 = some z7 := by kernel_rfl
theorem m163 : z5 Try.prog Kf Try.f163 = some zZ := by kernel_rfl
theorem m164 : z5 Try.prog Kf Try.f164 = some zU := by kernel_rfl
theorem m165 : z5 Try.prog Kf Try.f165 = some zg := by kernel_rfl
theorem m166 : z5 Try.prog Kf Try.f166 = some ZQ := by kernel_rfl
theorem m167 : z5 Try.prog Kf Try.f167 = some Zw := by kernel_rfl
theorem m168 : z5 Try.prog Kf Try.f168 = some zq := by kernel_rfl
theorem m170 : z5 Try.prog Kf Try.f170 = some Zau := by kernel_rfl
theorem m171 : z5 Try.prog Kf Try.f171 = some ZZ := by kernel_rfl
theorem m172 : z5 Try.prog Kf Try.f172 = some ZI := by kernel_rfl
theorem match0 : Match Try.prog Kf (Tt.get none Gt) := Match.of (l := Kl) rfl ⟨⟨_, _, Try.func13, (rfl : Tt.get none Gt 162 = some Zc), .inl m13⟩, ⟨⟨_, _, Try.func15, (rfl : Tt.get none Gt 28 = some Zb), .inl m15⟩, ⟨⟨_, _, Try.func21, (rfl : Tt.get none Gt 129 = some Zaz), .inl m21⟩, ⟨⟨_, _, Try.func22, (rfl : Tt.get none Gt 121 = some zl), .inl m22⟩, ⟨⟨_, _, Try.func26, (rfl : Tt.get none Gt 34 = some Zg), .inl m26⟩, ⟨⟨_, _, Try.func38, (rfl : Tt.get none Gt 176 = some zd), .inl m38⟩, ⟨⟨_, _, Try.func54, (rfl : Tt.get none Gt 187 = some Zab), .inl m54⟩, ⟨⟨_, _, Try.func55, (rfl : Tt.get none Gt 188 = some Zs), .inl m55⟩, ⟨⟨_, _, Try.func56, (rfl : Tt.get none Gt 189 = some zk), .inl m56⟩, ⟨⟨_, _, Try.func59, (rfl : Tt.get none Gt 46 = some Z7), .inl m59⟩, ⟨⟨_, _, Try.func60, (rfl : Tt.get none Gt 63 = some Zz), .inl m60⟩, ⟨⟨_, _, Try.func61, (rfl : Tt.get none Gt 64 = some Zh), .inl m61⟩, ⟨⟨_, _, Try.func62, (rfl : Tt.get none Gt 65 = some Zx), .inl m62⟩, ⟨⟨_, _, Try.func63, (rfl : Tt.get none Gt 66 = some ZG), .inl m63⟩, ⟨⟨_, _, Try.func67, (rfl : Tt.get none Gt 149 = some zT), .inl m67⟩, ⟨⟨_, _, Try.func69, (rfl : Tt.get none Gt 120 = some Zad), .inl m69⟩, ⟨⟨_, _, Try.func70, (rfl : Tt.get none Gt 144 = some ze), .inl m70⟩, ⟨⟨_, _, Try.func71, (rfl : Tt.get none Gt 138 = some Ze), .inl m71⟩, ⟨⟨_, _, Try.func81, (rfl : Tt.get none Gt 53 = some ZU), .inl m81⟩, ⟨⟨_, _, Try.func83, (rfl : Tt.get none Gt 32 = some Zav), .inl m83⟩, ⟨⟨_, _, Try.func84, (rfl : Tt.get none Gt 201 = some ZD), .inl m84⟩, ⟨⟨_, _, Try.func86, (rfl : Tt.get none Gt 203 = some Zq), .inl m86⟩, ⟨⟨_, _, Try.func87, (rfl : Tt.get none Gt 91 = some Z5), .inl m87⟩, ⟨⟨_, _, Try.func88, (rfl : Tt.get none Gt 204 = some za), .inl m88⟩, ⟨⟨_, _, Try.func99, (rfl : Tt.get none Gt 209 = some ZM), .inl m99⟩, ⟨⟨_, _, Try.func100, (rfl : Tt.get none Gt 210 = some Zv), .inl m100⟩, ⟨⟨_, _, Try.func101, (rfl : Tt.get none Gt 211 = some ZE), .inl m101⟩, ⟨⟨_, _, Try.func108, (rfl : Tt.get none Gt 82 = some zj), .inl m108⟩, ⟨⟨_, _, Try.func110, (rfl : Tt.get none Gt 137 = some Zu), .inl m110⟩, ⟨⟨_, _, Try.func111, (rfl : Tt.get none Gt 150 = some ZA), .inl m111⟩, ⟨⟨_, _, Try.func114, (rfl : Tt.get none Gt 29 = some Z0), .inl m114⟩, ⟨⟨_, _, Try.func115, (rfl : Tt.get none Gt 219 = some ZP), .inl m115⟩, ⟨⟨_, _, Try.func116, (rfl : Tt.get none Gt 220 = some Zas), .inl m116⟩, ⟨⟨_, _, Try.func117, (rfl : Tt.get none Gt 221 = some Z8), .inl m117⟩, ⟨⟨_, _, Try.func118, (rfl : Tt.get none Gt 222 = some zL), .inl m118⟩, ⟨⟨_, _, Try.func128, (rfl : Tt.get none Gt 226 = some Zm), .inl m128⟩, ⟨⟨_, _, Try.func129, (rfl : Tt.get none Gt 227 = some ZH), .inl m129⟩, ⟨⟨_, _, Try.func134, (rfl : Tt.get none Gt 77 = some zK), .inl m134⟩, ⟨⟨_, _, Try.func136, (rfl : Tt.get none Gt 83 = some Z3), .inl m136⟩, ⟨⟨_, _, Try.func138, (rfl : Tt.get none Gt 67 = some Z6), .inl m138⟩, ⟨⟨_, _, Try.func139, (rfl : Tt.get none Gt 90 = some Zar), .inl m139⟩, ⟨⟨_, _, Try.func140, (rfl : Tt.get none Gt 78 = some zr), .inl m140⟩, ⟨⟨_, _, Try.func145, (rfl : Tt.get none Gt 123 = some zE), .inl m145⟩, ⟨⟨_, _, Try.func146, (rfl : Tt.get none Gt 232 = some zo), .inl m146⟩, ⟨⟨_, _, Try.func147, (rfl : Tt.get none Gt 233 = some Zk), .inl m147⟩, ⟨⟨_, _, Try.func148, (rfl : Tt.get none Gt 234 = some ZaI), .inl m148⟩, ⟨⟨_, _, Try.func149, (rfl : Tt.get none Gt 235 = some z8), .inl m149⟩, ⟨⟨_, _, Try.func150, (rfl : Tt.get none Gt 236 = some zc), .inl m150⟩, ⟨⟨_, _, Try.func151, (rfl : Tt.get none Gt 237 = some Zaa), .inl m151⟩, ⟨⟨_, _, Try.func152, (rfl : Tt.get none Gt 238 = some Zf), .inl m152⟩, ⟨⟨_, _, Try.func153, (rfl : Tt.get none Gt 239 = some zD), .inl m153⟩, ⟨⟨_, _, Try.func154, (rfl : Tt.get none Gt 240 = some zV), .inl m154⟩, ⟨⟨_, _, Try.func155, (rfl : Tt.get none Gt 241 = some ZW), .inl m155⟩, ⟨⟨_, _, Try.func159, (rfl : Tt.get none Gt 89 = some Zam), .inl m159⟩, ⟨⟨_, _, Try.func160, (rfl : Tt.get none Gt 140 = some ZV), .inl m160⟩, ⟨⟨_, _, Try.func161, (rfl : Tt.get none Gt 141 = some zG), .inl m161⟩, ⟨⟨_, _, Try.func162, (rfl : Tt.get none Gt 118 = some z7), .inl m162⟩, ⟨⟨_, _, Try.func163, (rfl : Tt.get none Gt 242 = some zZ), .inl m163⟩, ⟨⟨_, _, Try.func164, (rfl : Tt.get none Gt 243 = some zU), .inl m164⟩, ⟨⟨_, _, Try.func165, (rfl : Tt.get none Gt 244 = some zg), .inl m165⟩, ⟨⟨_, _, Try.func166, (rfl : Tt.get none Gt 126 = some ZQ), .inl m166⟩, ⟨⟨_, _, Try.func167, (rfl : Tt.get none Gt 245 = some Zw), .inl m167⟩, ⟨⟨_, _, Try.func168, (rfl : Tt.get none Gt 246 = some zq), .inl m168⟩, ⟨⟨_, _, Try.func170, (rfl : Tt.get none Gt 97 = some Zau), .inl m170⟩, ⟨⟨_, _, Try.func171, (rfl : Tt.get none Gt 98 = some ZZ), .inl m171⟩, ⟨⟨_, _, Try.func172, (rfl : Tt.get none Gt 136 = some ZI), .inl m172⟩, trivial⟩⟩⟩⟩⟩⟩⟩⟩⟩⟩⟩⟩⟩⟩⟩⟩⟩⟩⟩⟩⟩⟩⟩⟩⟩⟩⟩⟩⟩⟩⟩⟩⟩⟩⟩⟩⟩⟩⟩⟩⟩⟩⟩⟩⟩⟩⟩⟩⟩⟩⟩⟩⟩⟩⟩⟩⟩⟩⟩⟩⟩⟩⟩⟩⟩⟩
theorem mixed : Try.prog.follows .mixedOrders = true := by kernel_rfl
theorem woke : ZiV Gt 300 189 = true := by decide +kernel
theorem match_all : Match Try.prog Kf G := match0.told mixed (l := Kl) (f := 56) (id := 189) rfl rfl (by decide) rfl woke (fun i hi => if_neg hi) (if_pos rfl)
end Mu
