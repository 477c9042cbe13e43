/- The functions of the program, as the evaluator has them: printed by a program; checked against the model's. -/
import Derived.Test.YteedifiifkghkaaMuE0
namespace Mu
/-! muntin/muntinlaw15.KittyTurns -/
def F_muntinlaw15_KittyTurns.r0 : List Oper := [
  ⟨(some 6), .mv (.c (.b false)), none⟩]
def F_muntinlaw15_KittyTurns.r1 : List Oper := [
  ⟨(some 21), .mv (.t 0), none⟩,
  ⟨(some 22), .call (.c (.f 18 [])) [.t 21, .c (.b false)], none⟩,
  ⟨(some 7), .mv (.t 22), none⟩]
def F_muntinlaw15_KittyTurns.r2 : List Oper := [
  ⟨(some 24), .mv (.t 7), none⟩,
  ⟨(some 25), .call (.c (.f 24 [])) [.t 24], none⟩,
  ⟨(some 23), .mv (.t 25), none⟩,
  ⟨(some 26), .ext (.t 23) 0, none⟩,
  ⟨(some 27), .ext (.t 23) 1, none⟩,
  ⟨(some 28), .ext (.t 23) 2, none⟩,
  ⟨(some 8), .alloc [.i .i64 0, .i .i64 0], none⟩,
  ⟨(some 9), .alloc [.i .i64 0, .i .i64 0], none⟩,
  ⟨none, .st 2 (.t 8) (.t 26), none⟩,
  ⟨none, .st 2 (.t 9) (.t 27), none⟩,
  ⟨(some 10), .mv (.t 28), none⟩]
def F_muntinlaw15_KittyTurns.r3 : List Oper := [
  ⟨(some 29), .mv (.t 1), none⟩,
  ⟨(some 30), .conv .i64 (.t 29), none⟩,
  ⟨(some 31), .mv (.t 7), none⟩,
  ⟨(some 32), .len (.t 31), none⟩,
  ⟨(some 33), .bin .add (.t 32) (.c (.i .i64 1)), none⟩,
  ⟨(some 34), .bin .rem (.t 30) (.t 33), none⟩,
  ⟨(some 11), .mv (.t 34), none⟩]
def F_muntinlaw15_KittyTurns.r4 : List Oper := [
  ⟨(some 35), .mv (.t 7), none⟩,
  ⟨(some 36), .mv (.t 11), none⟩,
  ⟨(some 37), .slc 1 (.t 35) none (some (.t 36)) none, none⟩,
  ⟨(some 38), .app 1 8 (.c (.sn)) (.t 37), none⟩,
  ⟨(some 39), .bsl 1 2 [.i .i64 0] [(0, 1, .c (.i .i64 0)), (1, 1, .c (.i .i64 0))], none⟩,
  ⟨(some 40), .app 1 8 (.t 38) (.t 39), none⟩,
  ⟨(some 41), .mv (.t 7), none⟩,
  ⟨(some 42), .mv (.t 11), none⟩,
  ⟨(some 43), .slc 1 (.t 41) (some (.t 42)) none none, none⟩,
  ⟨(some 44), .app 1 8 (.t 40) (.t 43), none⟩,
  ⟨(some 12), .mv (.t 44), none⟩]
def F_muntinlaw15_KittyTurns.r5 : List Oper := [
  ⟨(some 45), .mv (.t 2), none⟩,
  ⟨(some 46), .conv .i64 (.t 45), none⟩,
  ⟨(some 47), .mv (.t 7), none⟩,
  ⟨(some 48), .len (.t 47), none⟩,
  ⟨(some 49), .bin .add (.t 48) (.c (.i .i64 1)), none⟩,
  ⟨(some 50), .bin .rem (.t 46) (.t 49), none⟩,
  ⟨(some 13), .mv (.t 50), none⟩]
def F_muntinlaw15_KittyTurns.r6 : List Oper := [
  ⟨(some 51), .mv (.t 7), none⟩,
  ⟨(some 52), .mv (.t 13), none⟩,
  ⟨(some 53), .slc 1 (.t 51) (some (.t 52)) none none, none⟩,
  ⟨(some 54), .app 1 8 (.c (.sn)) (.t 53), none⟩,
  ⟨(some 55), .mv (.t 7), none⟩,
  ⟨(some 56), .mv (.t 13), none⟩,
  ⟨(some 57), .slc 1 (.t 55) none (some (.t 56)) none, none⟩,
  ⟨(some 58), .app 1 8 (.t 54) (.t 57), none⟩,
  ⟨(some 14), .mv (.t 58), none⟩]
def F_muntinlaw15_KittyTurns.r7 : List Oper := [
  ⟨(some 60), .mv (.t 12), none⟩,
  ⟨(some 61), .call (.c (.f 24 [])) [.t 60], none⟩,
  ⟨(some 59), .mv (.t 61), none⟩,
  ⟨(some 62), .ext (.t 59) 0, none⟩,
  ⟨(some 63), .ext (.t 59) 1, none⟩,
  ⟨(some 64), .ext (.t 59) 2, none⟩,
  ⟨(some 15), .alloc [.i .i64 0, .i .i64 0], none⟩,
  ⟨(some 16), .alloc [.i .i64 0, .i .i64 0], none⟩,
  ⟨none, .st 2 (.t 15) (.t 62), none⟩,
  ⟨none, .st 2 (.t 16) (.t 63), none⟩,
  ⟨(some 17), .mv (.t 64), none⟩]
def F_muntinlaw15_KittyTurns.r8 : List Oper := [
  ⟨(some 66), .mv (.t 14), none⟩,
  ⟨(some 67), .call (.c (.f 24 [])) [.t 66], none⟩,
  ⟨(some 65), .mv (.t 67), none⟩,
  ⟨(some 68), .ext (.t 65) 0, none⟩,
  ⟨(some 69), .ext (.t 65) 1, none⟩,
  ⟨(some 70), .ext (.t 65) 2, none⟩,
  ⟨(some 18), .alloc [.i .i64 0, .i .i64 0], none⟩,
  ⟨(some 19), .alloc [.i .i64 0, .i .i64 0], none⟩,
  ⟨none, .st 2 (.t 18) (.t 68), none⟩,
  ⟨none, .st 2 (.t 19) (.t 69), none⟩,
  ⟨(some 20), .mv (.t 70), none⟩]
def F_muntinlaw15_KittyTurns.r9 : List Oper := [
  ⟨(some 71), .call (.c (.f 27 [])) [], none⟩,
  ⟨(some 72), .mv (.t 71), none⟩,
  ⟨(some 73), .mv (.t 17), (some (72, true))⟩,
  ⟨(some 74), .mv (.t 10), (some (72, true))⟩,
  ⟨(some 75), .eq false .bl (.t 73) (.t 74), (some (72, true))⟩,
  ⟨(some 76), .pick (.t 72) (.t 75) (.c (.b false)), none⟩,
  ⟨(some 77), .mv (.t 76), none⟩,
  ⟨(some 78), .mv (.t 20), (some (77, true))⟩,
  ⟨(some 79), .mv (.t 10), (some (77, true))⟩,
  ⟨(some 80), .eq false .bl (.t 78) (.t 79), (some (77, true))⟩,
  ⟨(some 81), .pick (.t 77) (.t 80) (.c (.b false)), none⟩,
  ⟨(some 82), .mv (.t 81), none⟩,
  ⟨(some 83), .mv (.t 12), (some (82, true))⟩,
  ⟨(some 84), .call (.c (.f 19 [])) [.t 83], (some (82, true))⟩,
  ⟨(some 85), .len (.t 84), (some (82, true))⟩,
  ⟨(some 86), .mv (.t 7), (some (82, true))⟩,
  ⟨(some 87), .call (.c (.f 19 [])) [.t 86], (some (82, true))⟩,
  ⟨(some 88), .len (.t 87), (some (82, true))⟩,
  ⟨(some 89), .eq false .sc (.t 85) (.t 88), (some (82, true))⟩,
  ⟨(some 90), .pick (.t 82) (.t 89) (.c (.b false)), none⟩,
  ⟨(some 6), .mv (.t 90), none⟩]
def F_muntinlaw15_KittyTurns.code : Code := .seq (.region F_muntinlaw15_KittyTurns.r0) (.seq (.region F_muntinlaw15_KittyTurns.r1) (.seq (.region F_muntinlaw15_KittyTurns.r2) (.seq (.region F_muntinlaw15_KittyTurns.r3) (.seq (.draw F_muntinlaw15_KittyTurns.r4 [(3, 4)]) (.seq (.region F_muntinlaw15_KittyTurns.r5) (.seq (.draw F_muntinlaw15_KittyTurns.r6 []) (.seq (.region F_muntinlaw15_KittyTurns.r7) (.seq (.region F_muntinlaw15_KittyTurns.r8) (.seq (.region F_muntinlaw15_KittyTurns.r9) (.ret))))))))))
def F_muntinlaw15_KittyTurns : Func := ⟨91, [.t 6], F_muntinlaw15_KittyTurns.code⟩
/-! muntin/muntinlaw15.turns -/
def F_muntinlaw15_turns.r0 : List Oper := [
  ⟨(some 4), .mv (.c (.sn)), none⟩]
def F_muntinlaw15_turns.r1 : List Oper := [
  ⟨(some 5), .mv (.c (.sn)), none⟩]
def F_muntinlaw15_turns.r2 : List Oper := [
  ⟨(some 9), .mv (.t 0), none⟩,
  ⟨(some 10), .mv (.t 0), none⟩,
  ⟨(some 11), .len (.t 10), none⟩,
  ⟨(some 12), .mn [.t 11, .c (.i .i64 30)], none⟩,
  ⟨(some 13), .slc 1 (.t 9) none (some (.t 12)) none, none⟩,
  ⟨(some 14), .len (.t 13), none⟩,
  ⟨(some 15), .mv (.c (.i .i64 0)), none⟩]
def F_muntinlaw15_turns.r3 : List Oper := [
  ⟨(some 16), .bin .lss (.t 15) (.t 14), none⟩]
def F_muntinlaw15_turns.r4 : List Oper := [
  ⟨(some 17), .ixa 1 (.t 13) (.t 15), none⟩,
  ⟨(some 18), .ld false 1 (.t 17), none⟩,
  ⟨(some 7), .mv (.t 18), none⟩]
def F_muntinlaw15_turns.r5 : List Oper := [
  ⟨(some 19), .mv (.t 7), none⟩,
  ⟨(some 20), .conv .i64 (.t 19), none⟩,
  ⟨(some 8), .mv (.t 20), none⟩]
def F_muntinlaw15_turns.r6 : List Oper := [
  ⟨(some 21), .mv (.t 1), none⟩,
  ⟨(some 22), .un .not (.t 21), none⟩]
def F_muntinlaw15_turns.r7 : List Oper := [
  ⟨(some 23), .mv (.t 8), none⟩,
  ⟨(some 24), .bin .rem (.t 23) (.c (.i .i64 3)), none⟩,
  ⟨(some 25), .mn [.c (.i .i64 1), .t 24], none⟩,
  ⟨(some 26), .mx [.c (.i .i64 (-2)), .t 25], none⟩,
  ⟨(some 8), .mv (.t 26), none⟩]
def F_muntinlaw15_turns.r8 : List Oper := [
  ⟨(some 27), .mv (.t 5), none⟩,
  ⟨(some 28), .mv (.t 8), none⟩,
  ⟨(some 29), .bsl 1 1 [.i .i64 0] [(0, 1, .t 28)], none⟩,
  ⟨(some 30), .app 1 8 (.t 27) (.t 29), none⟩,
  ⟨(some 5), .mv (.t 30), none⟩]
def F_muntinlaw15_turns.r9 : List Oper := [
  ⟨(some 31), .bin .add (.t 15) (.c (.i .i64 1)), none⟩,
  ⟨(some 15), .mv (.t 31), none⟩]
def F_muntinlaw15_turns.l0 : Code := .seq (.region F_muntinlaw15_turns.r3) (.seq (.cond (.t 16) (.skip) (.exit 0)) (.seq (.block 1 (.seq (.region F_muntinlaw15_turns.r4) (.seq (.region F_muntinlaw15_turns.r5) (.seq (.seq (.region F_muntinlaw15_turns.r6) (.cond (.t 22) (.region F_muntinlaw15_turns.r7) (.skip))) (.region F_muntinlaw15_turns.r8))))) (.region F_muntinlaw15_turns.r9)))
def F_muntinlaw15_turns.r10 : List Oper := [
  ⟨(some 32), .mv (.t 5), none⟩,
  ⟨(some 4), .mv (.t 32), none⟩]
def F_muntinlaw15_turns.code : Code := .seq (.region F_muntinlaw15_turns.r0) (.seq (.region F_muntinlaw15_turns.r1) (.seq (.seq (.region F_muntinlaw15_turns.r2) (.block 0 (.loop F_muntinlaw15_turns.l0))) (.seq (.region F_muntinlaw15_turns.r10) (.ret))))
def F_muntinlaw15_turns : Func := ⟨33, [.t 4], F_muntinlaw15_turns.code⟩
/-! muntin/kitty.Corners -/
def F_kitty_Corners.r0 : List Oper := [
  ⟨(some 2), .mv (.c (.sn)), none⟩]
def F_kitty_Corners.r1 : List Oper := [
  ⟨(some 3), .mv (.c (.sn)), none⟩]
def F_kitty_Corners.r2 : List Oper := [
  ⟨(some 7), .mv (.t 0), none⟩,
  ⟨(some 8), .len (.t 7), none⟩,
  ⟨(some 9), .mv (.c (.i .i64 0)), none⟩]
def F_kitty_Corners.r3 : List Oper := [
  ⟨(some 10), .bin .lss (.t 9) (.t 8), none⟩]
def F_kitty_Corners.r4 : List Oper := [
  ⟨(some 11), .mv (.t 9), none⟩,
  ⟨(some 12), .ixa 1 (.t 7) (.t 9), none⟩,
  ⟨(some 13), .ld false 1 (.t 12), none⟩,
  ⟨(some 4), .mv (.t 11), none⟩,
  ⟨(some 5), .mv (.t 13), none⟩]
def F_kitty_Corners.r5 : List Oper := [
  ⟨(some 14), .mv (.t 5), none⟩,
  ⟨(some 15), .bin .lss (.t 14) (.c (.i .i64 (-2))), none⟩]
def F_kitty_Corners.r6 : List Oper := [
  ⟨(some 16), .mv (.t 5), none⟩,
  ⟨(some 17), .un .neg (.t 16), none⟩,
  ⟨(some 18), .mv (.c (.i .i64 0)), none⟩]
def F_kitty_Corners.r7 : List Oper := [
  ⟨(some 19), .bin .lss (.t 18) (.t 17), none⟩]
def F_kitty_Corners.r8 : List Oper := [
  ⟨(some 20), .mv (.t 18), none⟩,
  ⟨(some 6), .mv (.t 20), none⟩]
def F_kitty_Corners.r9 : List Oper := [
  ⟨(some 21), .mv (.t 3), none⟩,
  ⟨(some 22), .mv (.t 4), none⟩,
  ⟨(some 23), .mv (.t 6), none⟩,
  ⟨(some 24), .build [.i .i64 0, .i .i64 0] [(0, 1, .t 22), (1, 1, .t 23)], none⟩,
  ⟨(some 25), .bsl 2 1 [.i .i64 0, .i .i64 0] [(0, 2, .t 24)], none⟩,
  ⟨(some 26), .app 2 16 (.t 21) (.t 25), none⟩,
  ⟨(some 3), .mv (.t 26), none⟩]
def F_kitty_Corners.r10 : List Oper := [
  ⟨(some 27), .bin .add (.t 18) (.c (.i .i64 1)), none⟩,
  ⟨(some 18), .mv (.t 27), none⟩]
def F_kitty_Corners.l0 : Code := .seq (.region F_kitty_Corners.r7) (.seq (.cond (.t 19) (.skip) (.exit 2)) (.seq (.block 3 (.seq (.region F_kitty_Corners.r8) (.region F_kitty_Corners.r9))) (.region F_kitty_Corners.r10)))
def F_kitty_Corners.r11 : List Oper := [
  ⟨(some 28), .bin .add (.t 9) (.c (.i .i64 1)), none⟩,
  ⟨(some 9), .mv (.t 28), none⟩]
def F_kitty_Corners.l1 : Code := .seq (.region F_kitty_Corners.r3) (.seq (.cond (.t 10) (.skip) (.exit 0)) (.seq (.block 1 (.seq (.region F_kitty_Corners.r4) (.seq (.seq (.region F_kitty_Corners.r5) (.cond (.t 15) (.exit 1) (.skip))) (.seq (.region F_kitty_Corners.r6) (.block 2 (.loop F_kitty_Corners.l0)))))) (.region F_kitty_Corners.r11)))
def F_kitty_Corners.r12 : List Oper := [
  ⟨(some 29), .mv (.t 3), none⟩,
  ⟨(some 2), .mv (.t 29), none⟩]
def F_kitty_Corners.code : Code := .seq (.region F_kitty_Corners.r0) (.seq (.region F_kitty_Corners.r1) (.seq (.seq (.region F_kitty_Corners.r2) (.block 0 (.loop F_kitty_Corners.l1))) (.seq (.region F_kitty_Corners.r12) (.ret))))
def F_kitty_Corners : Func := ⟨30, [.t 2], F_kitty_Corners.code⟩
/-! muntin/kitty.Rot -/
def F_kitty_Rot.r0 : List Oper := [
  ⟨(some 4), .box (.t 1), none⟩,
  ⟨(some 5), .box (.t 2), none⟩,
  ⟨(some 6), .mv (.c (.i .i64 0)), none⟩,
  ⟨(some 7), .mv (.c (.i .i64 0)), none⟩]
def F_kitty_Rot.r1 : List Oper := [
  ⟨(some 9), .mv (.t 0), none⟩,
  ⟨(some 10), .call (.c (.f 19 [])) [.t 9], none⟩,
  ⟨(some 8), .mv (.t 10), none⟩]
def F_kitty_Rot.r2 : List Oper := [
  ⟨(some 11), .mv (.t 0), none⟩,
  ⟨(some 12), .call (.c (.f 59 [])) [.t 11], none⟩,
  ⟨(some 13), .un .not (.t 12), none⟩,
  ⟨(some 14), .mv (.t 13), none⟩,
  ⟨(some 15), .mv (.t 8), (some (14, false))⟩,
  ⟨(some 16), .ld true 2 (.t 4), (some (14, false))⟩,
  ⟨(some 17), .call (.c (.f 60 [])) [.t 15, .t 16], (some (14, false))⟩,
  ⟨(some 18), .un .not (.t 17), (some (14, false))⟩,
  ⟨(some 19), .pick (.t 14) (.c (.b true)) (.t 18), none⟩,
  ⟨(some 20), .mv (.t 19), none⟩,
  ⟨(some 21), .mv (.t 8), (some (20, false))⟩,
  ⟨(some 22), .ld true 2 (.t 5), (some (20, false))⟩,
  ⟨(some 23), .call (.c (.f 60 [])) [.t 21, .t 22], (some (20, false))⟩,
  ⟨(some 24), .un .not (.t 23), (some (20, false))⟩,
  ⟨(some 25), .pick (.t 20) (.c (.b true)) (.t 24), none⟩]
def F_kitty_Rot.r3 : List Oper := [
  ⟨(some 6), .mv (.c (.i .i64 0)), none⟩,
  ⟨(some 7), .mv (.c (.i .i64 2)), none⟩]
def F_kitty_Rot.r4 : List Oper := [
  ⟨(some 26), .mv (.t 0), none⟩,
  ⟨(some 27), .call (.c (.f 62 [])) [.t 26], none⟩,
  ⟨(some 28), .ld true 2 (.t 4), none⟩,
  ⟨(some 29), .ld true 2 (.t 5), none⟩,
  ⟨(some 30), .call (.c (.f 61 [])) [.t 27, .t 28, .t 29], none⟩,
  ⟨(some 6), .mv (.t 30), none⟩,
  ⟨(some 7), .mv (.c (.i .i64 0)), none⟩]
def F_kitty_Rot.code : Code := .seq (.region F_kitty_Rot.r0) (.seq (.region F_kitty_Rot.r1) (.seq (.seq (.region F_kitty_Rot.r2) (.cond (.t 25) (.seq (.region F_kitty_Rot.r3) (.ret)) (.skip))) (.seq (.draw F_kitty_Rot.r4 [(1, 2), (1, 3), (2, 3)]) (.ret))))
def F_kitty_Rot : Func := ⟨31, [.t 6, .t 7], F_kitty_Rot.code⟩
/-! muntin/kitty.Pair -/
def F_kitty_Pair.r0 : List Oper := [
  ⟨(some 2), .alloc [.i .i64 0, .i .i64 0], none⟩,
  ⟨(some 3), .alloc [.i .i64 0, .i .i64 0], none⟩,
  ⟨(some 4), .mv (.c (.b false)), none⟩]
def F_kitty_Pair.r1 : List Oper := [
  ⟨(some 11), .mv (.t 0), none⟩,
  ⟨(some 12), .call (.c (.f 59 [])) [.t 11], none⟩,
  ⟨(some 13), .un .not (.t 12), none⟩]
def F_kitty_Pair.r2 : List Oper := [
  ⟨(some 14), .build [.i .i64 0, .i .i64 0] [], none⟩,
  ⟨(some 15), .build [.i .i64 0, .i .i64 0] [], none⟩,
  ⟨none, .st 2 (.t 2) (.t 14), none⟩,
  ⟨none, .st 2 (.t 3) (.t 15), none⟩,
  ⟨(some 4), .mv (.c (.b false)), none⟩]
def F_kitty_Pair.r3 : List Oper := [
  ⟨(some 16), .mv (.t 0), none⟩,
  ⟨(some 17), .call (.c (.f 19 [])) [.t 16], none⟩,
  ⟨(some 18), .mv (.t 0), none⟩,
  ⟨(some 19), .call (.c (.f 62 [])) [.t 18], none⟩,
  ⟨(some 5), .mv (.t 17), none⟩,
  ⟨(some 6), .mv (.t 19), none⟩]
def F_kitty_Pair.r4 : List Oper := [
  ⟨(some 20), .mv (.t 5), none⟩,
  ⟨(some 21), .len (.t 20), none⟩,
  ⟨(some 22), .mv (.c (.i .i64 0)), none⟩]
def F_kitty_Pair.r5 : List Oper := [
  ⟨(some 23), .bin .lss (.t 22) (.t 21), none⟩]
def F_kitty_Pair.r6 : List Oper := [
  ⟨(some 24), .ixa 2 (.t 20) (.t 22), none⟩,
  ⟨(some 25), .ld true 2 (.t 24), none⟩,
  ⟨(some 8), .alloc [.i .i64 0, .i .i64 0], none⟩,
  ⟨none, .st 2 (.t 8) (.t 25), none⟩]
def F_kitty_Pair.r7 : List Oper := [
  ⟨(some 26), .mv (.t 5), none⟩,
  ⟨(some 27), .len (.t 26), none⟩,
  ⟨(some 28), .mv (.c (.i .i64 0)), none⟩]
def F_kitty_Pair.r8 : List Oper := [
  ⟨(some 29), .bin .lss (.t 28) (.t 27), none⟩]
def F_kitty_Pair.r9 : List Oper := [
  ⟨(some 30), .ixa 2 (.t 26) (.t 28), none⟩,
  ⟨(some 31), .ld true 2 (.t 30), none⟩,
  ⟨(some 10), .alloc [.i .i64 0, .i .i64 0], none⟩,
  ⟨none, .st 2 (.t 10) (.t 31), none⟩]
def F_kitty_Pair.r10 : List Oper := [
  ⟨(some 32), .mv (.t 6), none⟩,
  ⟨(some 33), .ld true 2 (.t 8), none⟩,
  ⟨(some 34), .ld true 2 (.t 10), none⟩,
  ⟨(some 35), .call (.c (.f 61 [])) [.t 32, .t 33, .t 34], none⟩,
  ⟨(some 36), .eq false .sc (.t 35) (.c (.i .i64 2)), none⟩]
def F_kitty_Pair.r11 : List Oper := [
  ⟨(some 37), .ld true 2 (.t 8), none⟩,
  ⟨(some 38), .ld true 2 (.t 10), none⟩,
  ⟨none, .st 2 (.t 2) (.t 37), none⟩,
  ⟨none, .st 2 (.t 3) (.t 38), none⟩,
  ⟨(some 4), .mv (.c (.b true)), none⟩]
def F_kitty_Pair.r12 : List Oper := [
  ⟨(some 39), .bin .add (.t 28) (.c (.i .i64 1)), none⟩,
  ⟨(some 28), .mv (.t 39), none⟩]
def F_kitty_Pair.l0 : Code := .seq (.region F_kitty_Pair.r8) (.seq (.cond (.t 29) (.skip) (.exit 2)) (.seq (.block 3 (.seq (.region F_kitty_Pair.r9) (.seq (.region F_kitty_Pair.r10) (.cond (.t 36) (.seq (.draw F_kitty_Pair.r11 [(0, 1), (1, 2)]) (.ret)) (.skip))))) (.region F_kitty_Pair.r12)))
def F_kitty_Pair.r13 : List Oper := [
  ⟨(some 40), .bin .add (.t 22) (.c (.i .i64 1)), none⟩,
  ⟨(some 22), .mv (.t 40), none⟩]
def F_kitty_Pair.l1 : Code := .seq (.region F_kitty_Pair.r5) (.seq (.cond (.t 23) (.skip) (.exit 0)) (.seq (.block 1 (.seq (.region F_kitty_Pair.r6) (.seq (.region F_kitty_Pair.r7) (.block 2 (.loop F_kitty_Pair.l0))))) (.region F_kitty_Pair.r13)))
def F_kitty_Pair.r14 : List Oper := [
  ⟨(some 41), .build [.i .i64 0, .i .i64 0] [], none⟩,
  ⟨(some 42), .build [.i .i64 0, .i .i64 0] [], none⟩,
  ⟨none, .st 2 (.t 2) (.t 41), none⟩,
  ⟨none, .st 2 (.t 3) (.t 42), none⟩,
  ⟨(some 4), .mv (.c (.b false)), none⟩]
def F_kitty_Pair.code : Code := .seq (.region F_kitty_Pair.r0) (.seq (.seq (.region F_kitty_Pair.r1) (.cond (.t 13) (.seq (.region F_kitty_Pair.r2) (.ret)) (.skip))) (.seq (.region F_kitty_Pair.r3) (.seq (.seq (.region F_kitty_Pair.r4) (.block 0 (.loop F_kitty_Pair.l1))) (.seq (.region F_kitty_Pair.r14) (.ret)))))
def F_kitty_Pair : Func := ⟨43, [.cell 2 true 2, .cell 3 true 2, .t 4], F_kitty_Pair.code⟩
/-! muntin/muntinlaw15.wakes -/
def F_muntinlaw15_wakes.r0 : List Oper := [
  ⟨(some 0), .mv (.c (.b false)), none⟩]
def F_muntinlaw15_wakes.r1 : List Oper := [
  ⟨(some 12), .bsl 1 12 [.i .i64 0] [(0, 1, .c (.i .i64 (-1))), (1, 1, .c (.i .i64 1)), (2, 1, .c (.i .i64 1)), (3, 1, .c (.i .i64 (-1))), (4, 1, .c (.i .i64 1)), (5, 1, .c (.i .i64 1)), (6, 1, .c (.i .i64 (-1))), (7, 1, .c (.i .i64 1)), (8, 1, .c (.i .i64 1)), (9, 1, .c (.i .i64 (-1))), (10, 1, .c (.i .i64 1)), (11, 1, .c (.i .i64 1))], none⟩,
  ⟨(some 13), .call (.c (.f 24 [])) [.t 12], none⟩,
  ⟨(some 11), .mv (.t 13), none⟩,
  ⟨(some 14), .ext (.t 11) 0, none⟩,
  ⟨(some 15), .ext (.t 11) 1, none⟩,
  ⟨(some 16), .ext (.t 11) 2, none⟩,
  ⟨(some 1), .alloc [.i .i64 0, .i .i64 0], none⟩,
  ⟨(some 2), .alloc [.i .i64 0, .i .i64 0], none⟩,
  ⟨none, .st 2 (.t 1) (.t 14), none⟩,
  ⟨none, .st 2 (.t 2) (.t 15), none⟩,
  ⟨(some 3), .mv (.t 16), none⟩]
def F_muntinlaw15_wakes.r2 : List Oper := [
  ⟨(some 18), .bsl 1 2 [.i .i64 0] [(0, 1, .c (.i .i64 (-2))), (1, 1, .c (.i .i64 (-2)))], none⟩,
  ⟨(some 19), .build [.i .i64 0, .i .i64 0] [], none⟩,
  ⟨(some 20), .build [.i .i64 0, .i .i64 0] [(0, 1, .c (.i .i64 1))], none⟩,
  ⟨(some 21), .call (.c (.f 22 [])) [.t 18, .t 19, .t 20], none⟩,
  ⟨(some 17), .mv (.t 21), none⟩,
  ⟨(some 22), .ext (.t 17) 0, none⟩,
  ⟨(some 23), .ext (.t 17) 1, none⟩,
  ⟨(some 4), .mv (.t 22), none⟩,
  ⟨(some 5), .mv (.t 23), none⟩]
def F_muntinlaw15_wakes.r3 : List Oper := [
  ⟨(some 25), .bsl 1 1 [.i .i64 0] [(0, 1, .c (.i .i64 1))], none⟩,
  ⟨(some 26), .build [.i .i64 0, .i .i64 0] [], none⟩,
  ⟨(some 27), .build [.i .i64 0, .i .i64 0] [], none⟩,
  ⟨(some 28), .call (.c (.f 22 [])) [.t 25, .t 26, .t 27], none⟩,
  ⟨(some 24), .mv (.t 28), none⟩,
  ⟨(some 29), .ext (.t 24) 0, none⟩,
  ⟨(some 30), .ext (.t 24) 1, none⟩,
  ⟨(some 6), .mv (.t 29), none⟩,
  ⟨(some 7), .mv (.t 30), none⟩]
def F_muntinlaw15_wakes.r4 : List Oper := [
  ⟨(some 32), .bsl 1 6 [.i .i64 0] [(0, 1, .c (.i .i64 (-1))), (1, 1, .c (.i .i64 1)), (2, 1, .c (.i .i64 1)), (3, 1, .c (.i .i64 1)), (4, 1, .c (.i .i64 1)), (5, 1, .c (.i .i64 1))], none⟩,
  ⟨(some 33), .call (.c (.f 24 [])) [.t 32], none⟩,
  ⟨(some 31), .mv (.t 33), none⟩,
  ⟨(some 34), .ext (.t 31) 0, none⟩,
  ⟨(some 35), .ext (.t 31) 1, none⟩,
  ⟨(some 36), .ext (.t 31) 2, none⟩,
  ⟨(some 8), .alloc [.i .i64 0, .i .i64 0], none⟩,
  ⟨(some 9), .alloc [.i .i64 0, .i .i64 0], none⟩,
  ⟨none, .st 2 (.t 8) (.t 34), none⟩,
  ⟨none, .st 2 (.t 9) (.t 35), none⟩,
  ⟨(some 10), .mv (.t 36), none⟩]
def F_muntinlaw15_wakes.r5 : List Oper := [
  ⟨(some 37), .ld true 2 (.t 1), none⟩,
  ⟨(some 38), .build [.i .i64 0, .i .i64 0] [], none⟩,
  ⟨(some 39), .eq false (.fl [.i, .i]) (.t 37) (.t 38), none⟩,
  ⟨(some 40), .mv (.t 39), none⟩,
  ⟨(some 41), .ld true 2 (.t 2), (some (40, true))⟩,
  ⟨(some 42), .build [.i .i64 0, .i .i64 0] [(0, 1, .c (.i .i64 6))], (some (40, true))⟩,
  ⟨(some 43), .eq false (.fl [.i, .i]) (.t 41) (.t 42), (some (40, true))⟩,
  ⟨(some 44), .pick (.t 40) (.t 43) (.c (.b false)), none⟩,
  ⟨(some 45), .mv (.t 44), none⟩,
  ⟨(some 46), .mv (.t 3), (some (45, true))⟩,
  ⟨(some 47), .pick (.t 45) (.t 46) (.c (.b false)), none⟩,
  ⟨(some 48), .mv (.t 47), none⟩,
  ⟨(some 49), .mv (.t 4), (some (48, true))⟩,
  ⟨(some 50), .eq false .sc (.t 49) (.c (.i .i64 (-2))), (some (48, true))⟩,
  ⟨(some 51), .pick (.t 48) (.t 50) (.c (.b false)), none⟩,
  ⟨(some 52), .mv (.t 51), none⟩,
  ⟨(some 53), .mv (.t 5), (some (52, true))⟩,
  ⟨(some 54), .eq false .sc (.t 53) (.c (.i .i64 0)), (some (52, true))⟩,
  ⟨(some 55), .pick (.t 52) (.t 54) (.c (.b false)), none⟩,
  ⟨(some 56), .mv (.t 55), none⟩,
  ⟨(some 57), .mv (.t 7), (some (56, true))⟩,
  ⟨(some 58), .eq false .sc (.t 57) (.c (.i .i64 2)), (some (56, true))⟩,
  ⟨(some 59), .pick (.t 56) (.t 58) (.c (.b false)), none⟩,
  ⟨(some 60), .mv (.t 59), none⟩,
  ⟨(some 61), .mv (.t 10), (some (60, true))⟩,
  ⟨(some 62), .un .not (.t 61), (some (60, true))⟩,
  ⟨(some 63), .pick (.t 60) (.t 62) (.c (.b false)), none⟩,
  ⟨(some 0), .mv (.t 63), none⟩]
def F_muntinlaw15_wakes.code : Code := .seq (.region F_muntinlaw15_wakes.r0) (.seq (.region F_muntinlaw15_wakes.r1) (.seq (.region F_muntinlaw15_wakes.r2) (.seq (.region F_muntinlaw15_wakes.r3) (.seq (.region F_muntinlaw15_wakes.r4) (.seq (.region F_muntinlaw15_wakes.r5) (.ret))))))
def F_muntinlaw15_wakes : Func := ⟨64, [.t 0], F_muntinlaw15_wakes.code⟩
/-! muntin/kitty.right -/
def F_kitty_right.r0 : List Oper := [
  ⟨(some 2), .mv (.c (.b false)), none⟩]
def F_kitty_right.r1 : List Oper := [
  ⟨(some 3), .mv (.t 0), none⟩,
  ⟨(some 4), .call (.c (.f 78 [])) [.t 3, .c (.f 80 [])], none⟩,
  ⟨(some 5), .un .not (.t 4), none⟩,
  ⟨(some 2), .mv (.t 5), none⟩]
def F_kitty_right.code : Code := .seq (.region F_kitty_right.r0) (.seq (.region F_kitty_right.r1) (.ret))
def F_kitty_right : Func := ⟨6, [.t 2], F_kitty_right.code⟩
/-! slices.Contains[[]muntin/kitty.Corner,muntin/kitty.Corner] -/
def F_slices_Contains_kitty_Corner.r0 : List Oper := [
  ⟨(some 3), .box (.t 1), none⟩,
  ⟨(some 4), .mv (.c (.b false)), none⟩]
def F_slices_Contains_kitty_Corner.r1 : List Oper := [
  ⟨(some 5), .mv (.t 0), none⟩,
  ⟨(some 6), .ld true 2 (.t 3), none⟩,
  ⟨(some 7), .call (.c (.f 81 [])) [.t 5, .t 6], none⟩,
  ⟨(some 8), .bin .geq (.t 7) (.c (.i .i64 0)), none⟩,
  ⟨(some 4), .mv (.t 8), none⟩]
def F_slices_Contains_kitty_Corner.code : Code := .seq (.region F_slices_Contains_kitty_Corner.r0) (.seq (.region F_slices_Contains_kitty_Corner.r1) (.ret))
def F_slices_Contains_kitty_Corner : Func := ⟨9, [.t 4], F_slices_Contains_kitty_Corner.code⟩
/-! muntin/kitty.rot -/
def F_kitty_rot.r0 : List Oper := [
  ⟨(some 4), .box (.t 1), none⟩,
  ⟨(some 5), .box (.t 2), none⟩,
  ⟨(some 6), .mv (.c (.i .i64 0)), none⟩]
def F_kitty_rot.r1 : List Oper := [
  ⟨(some 8), .mv (.t 0), none⟩,
  ⟨(some 9), .fa 0 (.t 5), none⟩,
  ⟨(some 10), .ld false 1 (.t 9), none⟩,
  ⟨(some 11), .ixa 1 (.t 8) (.t 10), none⟩,
  ⟨(some 12), .ld false 1 (.t 11), none⟩,
  ⟨(some 13), .fa 1 (.t 5), none⟩,
  ⟨(some 14), .ld false 1 (.t 13), none⟩,
  ⟨(some 15), .bin .sub (.t 12) (.t 14), none⟩,
  ⟨(some 16), .mv (.t 0), none⟩,
  ⟨(some 17), .fa 0 (.t 4), none⟩,
  ⟨(some 18), .ld false 1 (.t 17), none⟩,
  ⟨(some 19), .ixa 1 (.t 16) (.t 18), none⟩,
  ⟨(some 20), .ld false 1 (.t 19), none⟩,
  ⟨(some 21), .fa 1 (.t 4), none⟩,
  ⟨(some 22), .ld false 1 (.t 21), none⟩,
  ⟨(some 23), .bin .sub (.t 20) (.t 22), none⟩,
  ⟨(some 24), .bin .sub (.t 15) (.t 23), none⟩,
  ⟨(some 7), .mv (.t 24), none⟩]
def F_kitty_rot.r2 : List Oper := [
  ⟨(some 25), .fa 0 (.t 5), none⟩,
  ⟨(some 26), .ld false 1 (.t 25), none⟩,
  ⟨(some 27), .fa 0 (.t 4), none⟩,
  ⟨(some 28), .ld false 1 (.t 27), none⟩,
  ⟨(some 29), .bin .lss (.t 26) (.t 28), none⟩,
  ⟨(some 30), .mv (.t 29), none⟩,
  ⟨(some 31), .fa 0 (.t 5), (some (30, false))⟩,
  ⟨(some 32), .ld false 1 (.t 31), (some (30, false))⟩,
  ⟨(some 33), .fa 0 (.t 4), (some (30, false))⟩,
  ⟨(some 34), .ld false 1 (.t 33), (some (30, false))⟩,
  ⟨(some 35), .eq false .sc (.t 32) (.t 34), (some (30, false))⟩,
  ⟨(some 36), .mv (.t 35), (some (30, false))⟩,
  ⟨(some 37), .fa 1 (.t 5), (some (36, true))⟩,
  ⟨(some 38), .ld false 1 (.t 37), (some (36, true))⟩,
  ⟨(some 39), .fa 1 (.t 4), (some (36, true))⟩,
  ⟨(some 40), .ld false 1 (.t 39), (some (36, true))⟩,
  ⟨(some 41), .bin .lss (.t 38) (.t 40), (some (36, true))⟩,
  ⟨(some 42), .pick (.t 36) (.t 41) (.c (.b false)), (some (30, false))⟩,
  ⟨(some 43), .pick (.t 30) (.c (.b true)) (.t 42), none⟩]
def F_kitty_rot.r3 : List Oper := [
  ⟨(some 44), .mv (.t 7), none⟩,
  ⟨(some 45), .mv (.t 0), none⟩,
  ⟨(some 46), .mv (.t 0), none⟩,
  ⟨(some 47), .len (.t 46), none⟩,
  ⟨(some 48), .bin .sub (.t 47) (.c (.i .i64 1)), none⟩,
  ⟨(some 49), .ixa 1 (.t 45) (.t 48), none⟩,
  ⟨(some 50), .ld false 1 (.t 49), none⟩,
  ⟨(some 51), .bin .add (.t 44) (.t 50), none⟩,
  ⟨(some 7), .mv (.t 51), none⟩]
def F_kitty_rot.r4 : List Oper := [
  ⟨(some 52), .mv (.t 7), none⟩,
  ⟨(some 6), .mv (.t 52), none⟩]
def F_kitty_rot.code : Code := .seq (.region F_kitty_rot.r0) (.seq (.draw F_kitty_rot.r1 [(2, 6), (4, 6), (2, 10), (4, 10), (6, 10), (2, 12), (4, 12), (6, 12), (2, 14), (4, 14), (6, 14), (10, 14), (12, 14)]) (.seq (.seq (.region F_kitty_rot.r2) (.cond (.t 43) (.region F_kitty_rot.r3) (.skip))) (.seq (.region F_kitty_rot.r4) (.ret))))
def F_kitty_rot : Func := ⟨53, [.t 6], F_kitty_rot.code⟩
/-! muntin/kitty.sums -/
def F_kitty_sums.r0 : List Oper := [
  ⟨(some 2), .mv (.c (.sn)), none⟩]
def F_kitty_sums.r1 : List Oper := [
  ⟨(some 6), .mv (.t 0), none⟩,
  ⟨(some 7), .len (.t 6), none⟩,
  ⟨(some 8), .bin .add (.t 7) (.c (.i .i64 1)), none⟩,
  ⟨(some 9), .mks 1 8 [.i .i64 0] (.t 8) (.t 8), none⟩,
  ⟨(some 3), .mv (.t 9), none⟩]
def F_kitty_sums.r2 : List Oper := [
  ⟨(some 10), .mv (.t 0), none⟩,
  ⟨(some 11), .len (.t 10), none⟩,
  ⟨(some 12), .mv (.c (.i .i64 0)), none⟩]
def F_kitty_sums.r3 : List Oper := [
  ⟨(some 13), .bin .lss (.t 12) (.t 11), none⟩]
def F_kitty_sums.r4 : List Oper := [
  ⟨(some 14), .mv (.t 12), none⟩,
  ⟨(some 15), .ixa 1 (.t 10) (.t 12), none⟩,
  ⟨(some 16), .ld false 1 (.t 15), none⟩,
  ⟨(some 4), .mv (.t 14), none⟩,
  ⟨(some 5), .mv (.t 16), none⟩]
def F_kitty_sums.r5 : List Oper := [
  ⟨(some 17), .mv (.t 3), none⟩,
  ⟨(some 18), .mv (.t 4), none⟩,
  ⟨(some 19), .bin .add (.t 18) (.c (.i .i64 1)), none⟩,
  ⟨(some 20), .mv (.t 3), none⟩,
  ⟨(some 21), .mv (.t 4), none⟩,
  ⟨(some 22), .ixa 1 (.t 20) (.t 21), none⟩,
  ⟨(some 23), .ld false 1 (.t 22), none⟩,
  ⟨(some 24), .mv (.t 5), none⟩,
  ⟨(some 25), .bin .add (.t 23) (.t 24), none⟩,
  ⟨(some 26), .ixa 1 (.t 17) (.t 19), none⟩,
  ⟨none, .st 1 (.t 26) (.t 25), none⟩]
def F_kitty_sums.r6 : List Oper := [
  ⟨(some 27), .bin .add (.t 12) (.c (.i .i64 1)), none⟩,
  ⟨(some 12), .mv (.t 27), none⟩]
def F_kitty_sums.l0 : Code := .seq (.region F_kitty_sums.r3) (.seq (.cond (.t 13) (.skip) (.exit 0)) (.seq (.block 1 (.seq (.region F_kitty_sums.r4) (.region F_kitty_sums.r5))) (.region F_kitty_sums.r6)))
def F_kitty_sums.r7 : List Oper := [
  ⟨(some 28), .mv (.t 3), none⟩,
  ⟨(some 2), .mv (.t 28), none⟩]
def F_kitty_sums.code : Code := .seq (.region F_kitty_sums.r0) (.seq (.region F_kitty_sums.r1) (.seq (.seq (.region F_kitty_sums.r2) (.block 0 (.loop F_kitty_sums.l0))) (.seq (.region F_kitty_sums.r7) (.ret))))
def F_kitty_sums : Func := ⟨29, [.t 2], F_kitty_sums.code⟩
/-! slices.ContainsFunc[[]int,int] -/
def F_slices_ContainsFunc_int.r0 : List Oper := [
  ⟨(some 4), .mv (.c (.b false)), none⟩]
def F_slices_ContainsFunc_int.r1 : List Oper := [
  ⟨(some 5), .mv (.t 0), none⟩,
  ⟨(some 6), .mv (.t 1), none⟩,
  ⟨(some 7), .call (.c (.f 91 [])) [.t 5, .t 6], none⟩,
  ⟨(some 8), .bin .geq (.t 7) (.c (.i .i64 0)), none⟩,
  ⟨(some 4), .mv (.t 8), none⟩]
def F_slices_ContainsFunc_int.code : Code := .seq (.region F_slices_ContainsFunc_int.r0) (.seq (.region F_slices_ContainsFunc_int.r1) (.ret))
def F_slices_ContainsFunc_int : Func := ⟨9, [.t 4], F_slices_ContainsFunc_int.code⟩
/-! muntin/kitty.right$1 -/
def F_kitty_right_1.r0 : List Oper := [
  ⟨(some 2), .mv (.c (.b false)), none⟩]
def F_kitty_right_1.r1 : List Oper := [
  ⟨(some 3), .mv (.t 0), none⟩,
  ⟨(some 4), .bin .lss (.t 3) (.c (.i .i64 (-2))), none⟩,
  ⟨(some 5), .mv (.t 4), none⟩,
  ⟨(some 6), .mv (.t 0), (some (5, false))⟩,
  ⟨(some 7), .bin .gtr (.t 6) (.c (.i .i64 1)), (some (5, false))⟩,
  ⟨(some 8), .pick (.t 5) (.c (.b true)) (.t 7), none⟩,
  ⟨(some 2), .mv (.t 8), none⟩]
def F_kitty_right_1.code : Code := .seq (.region F_kitty_right_1.r0) (.seq (.region F_kitty_right_1.r1) (.ret))
def F_kitty_right_1 : Func := ⟨9, [.t 2], F_kitty_right_1.code⟩
/-! slices.Index[[]muntin/kitty.Corner,muntin/kitty.Corner] -/
def F_slices_Index_kitty_Corner.r0 : List Oper := [
  ⟨(some 3), .box (.t 1), none⟩,
  ⟨(some 4), .mv (.c (.i .i64 0)), none⟩]
def F_slices_Index_kitty_Corner.r1 : List Oper := [
  ⟨(some 6), .mv (.t 0), none⟩,
  ⟨(some 7), .len (.t 6), none⟩,
  ⟨(some 8), .mv (.c (.i .i64 0)), none⟩]
def F_slices_Index_kitty_Corner.r2 : List Oper := [
  ⟨(some 9), .bin .lss (.t 8) (.t 7), none⟩]
def F_slices_Index_kitty_Corner.r3 : List Oper := [
  ⟨(some 10), .mv (.t 8), none⟩,
  ⟨(some 5), .mv (.t 10), none⟩]
def F_slices_Index_kitty_Corner.r4 : List Oper := [
  ⟨(some 11), .ld true 2 (.t 3), none⟩,
  ⟨(some 12), .mv (.t 0), none⟩,
  ⟨(some 13), .mv (.t 5), none⟩,
  ⟨(some 14), .ixa 2 (.t 12) (.t 13), none⟩,
  ⟨(some 15), .ld true 2 (.t 14), none⟩,
  ⟨(some 16), .eq false (.fl [.i, .i]) (.t 11) (.t 15), none⟩]
def F_slices_Index_kitty_Corner.r5 : List Oper := [
  ⟨(some 17), .mv (.t 5), none⟩,
  ⟨(some 4), .mv (.t 17), none⟩]
def F_slices_Index_kitty_Corner.r6 : List Oper := [
  ⟨(some 18), .bin .add (.t 8) (.c (.i .i64 1)), none⟩,
  ⟨(some 8), .mv (.t 18), none⟩]
def F_slices_Index_kitty_Corner.l0 : Code := .seq (.region F_slices_Index_kitty_Corner.r2) (.seq (.cond (.t 9) (.skip) (.exit 0)) (.seq (.block 1 (.seq (.region F_slices_Index_kitty_Corner.r3) (.seq (.draw F_slices_Index_kitty_Corner.r4 [(0, 4)]) (.cond (.t 16) (.seq (.region F_slices_Index_kitty_Corner.r5) (.ret)) (.skip))))) (.region F_slices_Index_kitty_Corner.r6)))
def F_slices_Index_kitty_Corner.r7 : List Oper := [
  ⟨(some 4), .mv (.c (.i .i64 (-1))), none⟩]
def F_slices_Index_kitty_Corner.code : Code := .seq (.region F_slices_Index_kitty_Corner.r0) (.seq (.seq (.region F_slices_Index_kitty_Corner.r1) (.block 0 (.loop F_slices_Index_kitty_Corner.l0))) (.seq (.region F_slices_Index_kitty_Corner.r7) (.ret)))
def F_slices_Index_kitty_Corner : Func := ⟨19, [.t 4], F_slices_Index_kitty_Corner.code⟩
/-! slices.IndexFunc[[]int,int] -/
def F_slices_IndexFunc_int.r0 : List Oper := [
  ⟨(some 4), .mv (.c (.i .i64 0)), none⟩]
def F_slices_IndexFunc_int.r1 : List Oper := [
  ⟨(some 6), .mv (.t 0), none⟩,
  ⟨(some 7), .len (.t 6), none⟩,
  ⟨(some 8), .mv (.c (.i .i64 0)), none⟩]
def F_slices_IndexFunc_int.r2 : List Oper := [
  ⟨(some 9), .bin .lss (.t 8) (.t 7), none⟩]
def F_slices_IndexFunc_int.r3 : List Oper := [
  ⟨(some 10), .mv (.t 8), none⟩,
  ⟨(some 5), .mv (.t 10), none⟩]
def F_slices_IndexFunc_int.r4 : List Oper := [
  ⟨(some 11), .mv (.t 1), none⟩,
  ⟨(some 12), .mv (.t 0), none⟩,
  ⟨(some 13), .mv (.t 5), none⟩,
  ⟨(some 14), .ixa 1 (.t 12) (.t 13), none⟩,
  ⟨(some 15), .ld false 1 (.t 14), none⟩,
  ⟨(some 16), .call (.t 11) [.t 15], none⟩]
def F_slices_IndexFunc_int.r5 : List Oper := [
  ⟨(some 17), .mv (.t 5), none⟩,
  ⟨(some 4), .mv (.t 17), none⟩]
def F_slices_IndexFunc_int.r6 : List Oper := [
  ⟨(some 18), .bin .add (.t 8) (.c (.i .i64 1)), none⟩,
  ⟨(some 8), .mv (.t 18), none⟩]
def F_slices_IndexFunc_int.l0 : Code := .seq (.region F_slices_IndexFunc_int.r2) (.seq (.cond (.t 9) (.skip) (.exit 0)) (.seq (.block 1 (.seq (.region F_slices_IndexFunc_int.r3) (.seq (.region F_slices_IndexFunc_int.r4) (.cond (.t 16) (.seq (.region F_slices_IndexFunc_int.r5) (.ret)) (.skip))))) (.region F_slices_IndexFunc_int.r6)))
def F_slices_IndexFunc_int.r7 : List Oper := [
  ⟨(some 4), .mv (.c (.i .i64 (-1))), none⟩]
def F_slices_IndexFunc_int.code : Code := .seq (.region F_slices_IndexFunc_int.r0) (.seq (.seq (.region F_slices_IndexFunc_int.r1) (.block 0 (.loop F_slices_IndexFunc_int.l0))) (.seq (.region F_slices_IndexFunc_int.r7) (.ret)))
def F_slices_IndexFunc_int : Func := ⟨19, [.t 4], F_slices_IndexFunc_int.code⟩
def G : Prog := fun i => match i with
  | 5 => some F_muntinlaw15_KittyTurns
  | 18 => some F_muntinlaw15_turns
  | 19 => some F_kitty_Corners
  | 22 => some F_kitty_Rot
  | 24 => some F_kitty_Pair
  | 27 => some F_muntinlaw15_wakes
  | 59 => some F_kitty_right
  | 60 => some F_slices_Contains_kitty_Corner
  | 61 => some F_kitty_rot
  | 62 => some F_kitty_sums
  | 78 => some F_slices_ContainsFunc_int
  | 80 => some F_kitty_right_1
  | 81 => some F_slices_Index_kitty_Corner
  | 91 => some F_slices_IndexFunc_int
  | _ => none
theorem G_F_muntinlaw15_KittyTurns : G 5 = some F_muntinlaw15_KittyTurns := rfl
theorem G_F_muntinlaw15_turns : G 18 = some F_muntinlaw15_turns := rfl
theorem G_F_kitty_Corners : G 19 = some F_kitty_Corners := rfl
theorem G_F_kitty_Rot : G 22 = some F_kitty_Rot := rfl
theorem G_F_kitty_Pair : G 24 = some F_kitty_Pair := rfl
theorem G_F_muntinlaw15_wakes : G 27 = some F_muntinlaw15_wakes := rfl
theorem G_F_kitty_right : G 59 = some F_kitty_right := rfl
theorem G_F_slices_Contains_kitty_Corner : G 60 = some F_slices_Contains_kitty_Corner := rfl
theorem G_F_kitty_rot : G 61 = some F_kitty_rot := rfl
theorem G_F_kitty_sums : G 62 = some F_kitty_sums := rfl
theorem G_F_slices_ContainsFunc_int : G 78 = some F_slices_ContainsFunc_int := rfl
theorem G_F_kitty_right_1 : G 80 = some F_kitty_right_1 := rfl
theorem G_F_slices_Index_kitty_Corner : G 81 = some F_slices_Index_kitty_Corner := rfl
theorem G_F_slices_IndexFunc_int : G 91 = some F_slices_IndexFunc_int := rfl
end Mu
