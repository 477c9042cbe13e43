/- The evaluator's functions are the model's. -/
import Derived.Test.YteedifiifkghkaaProg
import Derived.KernelRfl
import Derived.Test.YteedifiifkghkaaMuG
import Derived.Test.YteedifiifkghkaaMuPa
namespace Mu
open Go.Proofs
def Kl : List (Nat × Nat) := [(6, 3), (21, 18), (22, 19), (23, 20), (24, 21), (25, 22), (26, 23), (27, 24), (28, 25), (29, 26), (30, 27), (62, 59), (63, 60), (64, 61), (65, 62), (81, 78), (83, 80), (84, 81), (94, 91)]
def Kf : Fid := fun f => Kl.lookup f
theorem m6 : nFunc Try.prog Kf Try.f6 = some F_muntinlaw15_KittyTells := by kernel_rfl
theorem m21 : nFunc Try.prog Kf Try.f21 = some F_muntinlaw15_turns := by kernel_rfl
theorem m22 : nFunc Try.prog Kf Try.f22 = some F_kitty_Corners := by kernel_rfl
theorem m23 : nFunc Try.prog Kf Try.f23 = some F_muntinref15_Corners := by kernel_rfl
theorem m24 : nFunc Try.prog Kf Try.f24 = some F_muntinref15_Good := by kernel_rfl
theorem m25 : nFunc Try.prog Kf Try.f25 = some F_kitty_Rot := by kernel_rfl
theorem m26 : nFunc Try.prog Kf Try.f26 = some F_muntinref15_Rot := by kernel_rfl
theorem m27 : nFunc Try.prog Kf Try.f27 = some F_kitty_Pair := by kernel_rfl
theorem m28 : nFunc Try.prog Kf Try.f28 = some F_muntinref15_Pair := by kernel_rfl
theorem m29 : nFunc Try.prog Kf Try.f29 = some F_muntinref15_In := by kernel_rfl
theorem m30 : nFunc Try.prog Kf Try.f30 = some F_muntinlaw15_wakes := by kernel_rfl
theorem m62 : nFunc Try.prog Kf Try.f62 = some F_kitty_right := by kernel_rfl
theorem m63 : nFunc Try.prog Kf Try.f63 = some F_slices_Contains_kitty_Corner := by kernel_rfl
theorem m64 : nFunc Try.prog Kf Try.f64 = some F_kitty_rot := by kernel_rfl
theorem m65 : nFunc Try.prog Kf Try.f65 = some F_kitty_sums := by kernel_rfl
theorem m81 : nFunc Try.prog Kf Try.f81 = some F_slices_ContainsFunc_int := by kernel_rfl
theorem m83 : nFunc Try.prog Kf Try.f83 = some F_kitty_right_1 := by kernel_rfl
theorem m84 : nFunc Try.prog Kf Try.f84 = some F_slices_Index_kitty_Corner := by kernel_rfl
theorem m94 : nFunc Try.prog Kf Try.f94 = some F_slices_IndexFunc_int := by kernel_rfl
theorem match_all : Match Try.prog Kf G := Match.of (l := Kl) rfl ⟨⟨_, _, Try.func6, G_F_muntinlaw15_KittyTells, m6⟩, ⟨⟨_, _, Try.func21, G_F_muntinlaw15_turns, m21⟩, ⟨⟨_, _, Try.func22, G_F_kitty_Corners, m22⟩, ⟨⟨_, _, Try.func23, G_F_muntinref15_Corners, m23⟩, ⟨⟨_, _, Try.func24, G_F_muntinref15_Good, m24⟩, ⟨⟨_, _, Try.func25, G_F_kitty_Rot, m25⟩, ⟨⟨_, _, Try.func26, G_F_muntinref15_Rot, m26⟩, ⟨⟨_, _, Try.func27, G_F_kitty_Pair, m27⟩, ⟨⟨_, _, Try.func28, G_F_muntinref15_Pair, m28⟩, ⟨⟨_, _, Try.func29, G_F_muntinref15_In, m29⟩, ⟨⟨_, _, Try.func30, G_F_muntinlaw15_wakes, m30⟩, ⟨⟨_, _, Try.func62, G_F_kitty_right, m62⟩, ⟨⟨_, _, Try.func63, G_F_slices_Contains_kitty_Corner, m63⟩, ⟨⟨_, _, Try.func64, G_F_kitty_rot, m64⟩, ⟨⟨_, _, Try.func65, G_F_kitty_sums, m65⟩, ⟨⟨_, _, Try.func81, G_F_slices_ContainsFunc_int, m81⟩, ⟨⟨_, _, Try.func83, G_F_kitty_right_1, m83⟩, ⟨⟨_, _, Try.func84, G_F_slices_Index_kitty_Corner, m84⟩, ⟨⟨_, _, Try.func94, G_F_slices_IndexFunc_int, m94⟩, trivial⟩⟩⟩⟩⟩⟩⟩⟩⟩⟩⟩⟩⟩⟩⟩⟩⟩⟩⟩
theorem mixed : Try.prog.follows .mixedOrders = true := by kernel_rfl
end Mu
