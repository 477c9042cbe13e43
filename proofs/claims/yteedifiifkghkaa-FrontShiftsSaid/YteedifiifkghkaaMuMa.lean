/- The evaluator's functions are the model's. -/
import Derived.Test.YteedifiifkghkaaProg
import Derived.KernelRfl
import Derived.Test.YteedifiifkghkaaMuG
import Derived.Test.YteedifiifkghkaaMuPa
namespace Mu
open Go.Proofs
def Kl : List (Nat × Nat) := [(3, 0), (4, 1), (5, 2), (15, 12), (16, 13), (17, 14), (18, 15), (19, 16), (20, 17), (24, 21), (61, 58), (81, 78), (82, 79), (94, 91)]
def Kf : Fid := fun f => Kl.lookup f
theorem m3 : nFunc Try.prog Kf Try.f3 = some F_muntinlaw20_FrontTells := by kernel_rfl
theorem m4 : nFunc Try.prog Kf Try.f4 = some F_muntinlaw20_FrontAlways := by kernel_rfl
theorem m5 : nFunc Try.prog Kf Try.f5 = some F_muntinlaw20_FrontShifts := by kernel_rfl
theorem m15 : nFunc Try.prog Kf Try.f15 = some F_muntinlaw20_turns := by kernel_rfl
theorem m16 : nFunc Try.prog Kf Try.f16 = some F_front_Of := by kernel_rfl
theorem m17 : nFunc Try.prog Kf Try.f17 = some F_muntinref20_Of := by kernel_rfl
theorem m18 : nFunc Try.prog Kf Try.f18 = some F_front_Open := by kernel_rfl
theorem m19 : nFunc Try.prog Kf Try.f19 = some F_muntinref20_Open := by kernel_rfl
theorem m20 : nFunc Try.prog Kf Try.f20 = some F_muntinlaw20_wakes := by kernel_rfl
theorem m24 : nFunc Try.prog Kf Try.f24 = some F_muntinref15_Good := by kernel_rfl
theorem m61 : nFunc Try.prog Kf Try.f61 = some F_front_right := by kernel_rfl
theorem m81 : nFunc Try.prog Kf Try.f81 = some F_slices_ContainsFunc_int := by kernel_rfl
theorem m82 : nFunc Try.prog Kf Try.f82 = some F_front_right_1 := by kernel_rfl
theorem m94 : nFunc Try.prog Kf Try.f94 = some F_slices_IndexFunc_int := by kernel_rfl
theorem match_all : Match Try.prog Kf G := Match.of (l := Kl) rfl ⟨⟨_, _, Try.func3, G_F_muntinlaw20_FrontTells, m3⟩, ⟨⟨_, _, Try.func4, G_F_muntinlaw20_FrontAlways, m4⟩, ⟨⟨_, _, Try.func5, G_F_muntinlaw20_FrontShifts, m5⟩, ⟨⟨_, _, Try.func15, G_F_muntinlaw20_turns, m15⟩, ⟨⟨_, _, Try.func16, G_F_front_Of, m16⟩, ⟨⟨_, _, Try.func17, G_F_muntinref20_Of, m17⟩, ⟨⟨_, _, Try.func18, G_F_front_Open, m18⟩, ⟨⟨_, _, Try.func19, G_F_muntinref20_Open, m19⟩, ⟨⟨_, _, Try.func20, G_F_muntinlaw20_wakes, m20⟩, ⟨⟨_, _, Try.func24, G_F_muntinref15_Good, m24⟩, ⟨⟨_, _, Try.func61, G_F_front_right, m61⟩, ⟨⟨_, _, Try.func81, G_F_slices_ContainsFunc_int, m81⟩, ⟨⟨_, _, Try.func82, G_F_front_right_1, m82⟩, ⟨⟨_, _, Try.func94, G_F_slices_IndexFunc_int, m94⟩, trivial⟩⟩⟩⟩⟩⟩⟩⟩⟩⟩⟩⟩⟩⟩
theorem mixed : Try.prog.follows .mixedOrders = true := by kernel_rfl
end Mu
