/- The functions of the program, as the evaluator has them: printed by a program; checked against the model's. -/
import Derived.Test.YteedifiifkghkaaMuE0
namespace Mu
/-! muntin/muntinlaw20.FrontTells -/
def F_muntinlaw20_FrontTells.r0 : List Oper := [
  ⟨(some 4), .mv (.c (.b false)), none⟩]
def F_muntinlaw20_FrontTells.r1 : List Oper := [
  ⟨(some 17), .mv (.t 0), none⟩,
  ⟨(some 18), .call (.c (.f 12 [])) [.t 17, .c (.b false)], none⟩,
  ⟨(some 19), .mv (.t 0), none⟩,
  ⟨(some 20), .call (.c (.f 12 [])) [.t 19, .c (.b true)], none⟩,
  ⟨(some 21), .bsl 1 2 [.sn] [(0, 1, .t 18), (1, 1, .t 20)], none⟩,
  ⟨(some 22), .len (.t 21), none⟩,
  ⟨(some 23), .mv (.c (.i .i64 0)), none⟩]
def F_muntinlaw20_FrontTells.r2 : List Oper := [
  ⟨(some 24), .bin .lss (.t 23) (.t 22), none⟩]
def F_muntinlaw20_FrontTells.r3 : List Oper := [
  ⟨(some 25), .ixa 1 (.t 21) (.t 23), none⟩,
  ⟨(some 26), .ld false 1 (.t 25), none⟩,
  ⟨(some 6), .mv (.t 26), none⟩]
def F_muntinlaw20_FrontTells.r4 : List Oper := [
  ⟨(some 7), .mv (.c (.i .i64 (-1))), none⟩]
def F_muntinlaw20_FrontTells.r5 : List Oper := [
  ⟨(some 27), .mv (.t 7), none⟩,
  ⟨(some 28), .mv (.t 6), none⟩,
  ⟨(some 29), .len (.t 28), none⟩,
  ⟨(some 30), .bin .leq (.t 27) (.t 29), none⟩]
def F_muntinlaw20_FrontTells.r7 : List Oper := [
  ⟨(some 34), .mv (.t 6), none⟩,
  ⟨(some 35), .mv (.t 7), none⟩,
  ⟨(some 36), .call (.c (.f 13 [])) [.t 34, .t 35], none⟩,
  ⟨(some 33), .mv (.t 36), none⟩,
  ⟨(some 37), .ext (.t 33) 0, none⟩,
  ⟨(some 38), .ext (.t 33) 1, none⟩,
  ⟨(some 8), .mv (.t 37), none⟩,
  ⟨(some 9), .mv (.t 38), none⟩]
def F_muntinlaw20_FrontTells.r8 : List Oper := [
  ⟨(some 39), .mv (.t 6), none⟩,
  ⟨(some 40), .mv (.t 7), none⟩,
  ⟨(some 41), .call (.c (.f 14 [])) [.t 39, .t 40], none⟩,
  ⟨(some 10), .mv (.t 41), none⟩]
def F_muntinlaw20_FrontTells.r9 : List Oper := [
  ⟨(some 42), .mv (.t 9), none⟩,
  ⟨(some 43), .mv (.t 10), none⟩,
  ⟨(some 44), .bin .geq (.t 43) (.c (.i .i64 0)), none⟩,
  ⟨(some 45), .eq true .bl (.t 42) (.t 44), none⟩,
  ⟨(some 46), .mv (.t 45), none⟩,
  ⟨(some 47), .mv (.t 8), (some (46, false))⟩,
  ⟨(some 48), .mv (.t 10), (some (46, false))⟩,
  ⟨(some 49), .mx [.t 48, .c (.i .i64 0)], (some (46, false))⟩,
  ⟨(some 50), .eq true .sc (.t 47) (.t 49), (some (46, false))⟩,
  ⟨(some 51), .pick (.t 46) (.c (.b true)) (.t 50), none⟩]
def F_muntinlaw20_FrontTells.r10 : List Oper := [
  ⟨(some 4), .mv (.c (.b false)), none⟩]
def F_muntinlaw20_FrontTells.r6 : List Oper := [
  ⟨(some 31), .mv (.t 7), none⟩,
  ⟨(some 32), .bin .add (.t 31) (.c (.i .i64 1)), none⟩,
  ⟨(some 7), .mv (.t 32), none⟩]
def F_muntinlaw20_FrontTells.l0 : Code := .seq (.seq (.region F_muntinlaw20_FrontTells.r5) (.cond (.t 30) (.skip) (.exit 2))) (.seq (.block 3 (.seq (.region F_muntinlaw20_FrontTells.r7) (.seq (.region F_muntinlaw20_FrontTells.r8) (.seq (.region F_muntinlaw20_FrontTells.r9) (.cond (.t 51) (.seq (.region F_muntinlaw20_FrontTells.r10) (.ret)) (.skip)))))) (.region F_muntinlaw20_FrontTells.r6))
def F_muntinlaw20_FrontTells.r11 : List Oper := [
  ⟨(some 53), .mv (.t 6), none⟩,
  ⟨(some 54), .mv (.t 1), none⟩,
  ⟨(some 55), .call (.c (.f 13 [])) [.t 53, .t 54], none⟩,
  ⟨(some 52), .mv (.t 55), none⟩,
  ⟨(some 56), .ext (.t 52) 0, none⟩,
  ⟨(some 57), .ext (.t 52) 1, none⟩,
  ⟨(some 11), .mv (.t 56), none⟩,
  ⟨(some 12), .mv (.t 57), none⟩]
def F_muntinlaw20_FrontTells.r12 : List Oper := [
  ⟨(some 58), .mv (.t 6), none⟩,
  ⟨(some 59), .mv (.t 1), none⟩,
  ⟨(some 60), .call (.c (.f 14 [])) [.t 58, .t 59], none⟩,
  ⟨(some 13), .mv (.t 60), none⟩]
def F_muntinlaw20_FrontTells.r13 : List Oper := [
  ⟨(some 62), .mv (.t 6), none⟩,
  ⟨(some 63), .call (.c (.f 15 [])) [.t 62], none⟩,
  ⟨(some 61), .mv (.t 63), none⟩,
  ⟨(some 64), .ext (.t 61) 0, none⟩,
  ⟨(some 65), .ext (.t 61) 1, none⟩,
  ⟨(some 14), .mv (.t 64), none⟩,
  ⟨(some 15), .mv (.t 65), none⟩]
def F_muntinlaw20_FrontTells.r14 : List Oper := [
  ⟨(some 66), .mv (.t 6), none⟩,
  ⟨(some 67), .call (.c (.f 16 [])) [.t 66], none⟩,
  ⟨(some 16), .mv (.t 67), none⟩]
def F_muntinlaw20_FrontTells.r15 : List Oper := [
  ⟨(some 68), .mv (.t 12), none⟩,
  ⟨(some 69), .mv (.t 13), none⟩,
  ⟨(some 70), .bin .geq (.t 69) (.c (.i .i64 0)), none⟩,
  ⟨(some 71), .eq true .bl (.t 68) (.t 70), none⟩,
  ⟨(some 72), .mv (.t 71), none⟩,
  ⟨(some 73), .mv (.t 11), (some (72, false))⟩,
  ⟨(some 74), .mv (.t 13), (some (72, false))⟩,
  ⟨(some 75), .mx [.t 74, .c (.i .i64 0)], (some (72, false))⟩,
  ⟨(some 76), .eq true .sc (.t 73) (.t 75), (some (72, false))⟩,
  ⟨(some 77), .pick (.t 72) (.c (.b true)) (.t 76), none⟩,
  ⟨(some 78), .mv (.t 77), none⟩,
  ⟨(some 79), .mv (.t 15), (some (78, false))⟩,
  ⟨(some 80), .mv (.t 16), (some (78, false))⟩,
  ⟨(some 81), .bin .geq (.t 80) (.c (.i .i64 0)), (some (78, false))⟩,
  ⟨(some 82), .eq true .bl (.t 79) (.t 81), (some (78, false))⟩,
  ⟨(some 83), .pick (.t 78) (.c (.b true)) (.t 82), none⟩,
  ⟨(some 84), .mv (.t 83), none⟩,
  ⟨(some 85), .mv (.t 14), (some (84, false))⟩,
  ⟨(some 86), .mv (.t 16), (some (84, false))⟩,
  ⟨(some 87), .mx [.t 86, .c (.i .i64 0)], (some (84, false))⟩,
  ⟨(some 88), .eq true .sc (.t 85) (.t 87), (some (84, false))⟩,
  ⟨(some 89), .pick (.t 84) (.c (.b true)) (.t 88), none⟩]
def F_muntinlaw20_FrontTells.r16 : List Oper := [
  ⟨(some 4), .mv (.c (.b false)), none⟩]
def F_muntinlaw20_FrontTells.r17 : List Oper := [
  ⟨(some 90), .bin .add (.t 23) (.c (.i .i64 1)), none⟩,
  ⟨(some 23), .mv (.t 90), none⟩]
def F_muntinlaw20_FrontTells.l1 : Code := .seq (.region F_muntinlaw20_FrontTells.r2) (.seq (.cond (.t 24) (.skip) (.exit 0)) (.seq (.block 1 (.seq (.region F_muntinlaw20_FrontTells.r3) (.seq (.seq (.region F_muntinlaw20_FrontTells.r4) (.block 2 (.loop F_muntinlaw20_FrontTells.l0))) (.seq (.region F_muntinlaw20_FrontTells.r11) (.seq (.region F_muntinlaw20_FrontTells.r12) (.seq (.region F_muntinlaw20_FrontTells.r13) (.seq (.region F_muntinlaw20_FrontTells.r14) (.seq (.region F_muntinlaw20_FrontTells.r15) (.cond (.t 89) (.seq (.region F_muntinlaw20_FrontTells.r16) (.ret)) (.skip)))))))))) (.region F_muntinlaw20_FrontTells.r17)))
def F_muntinlaw20_FrontTells.r18 : List Oper := [
  ⟨(some 91), .call (.c (.f 17 [])) [], none⟩,
  ⟨(some 4), .mv (.t 91), none⟩]
def F_muntinlaw20_FrontTells.code : Code := .seq (.region F_muntinlaw20_FrontTells.r0) (.seq (.seq (.region F_muntinlaw20_FrontTells.r1) (.block 0 (.loop F_muntinlaw20_FrontTells.l1))) (.seq (.region F_muntinlaw20_FrontTells.r18) (.ret)))
def F_muntinlaw20_FrontTells : Func := ⟨92, [.t 4], F_muntinlaw20_FrontTells.code⟩
/-! muntin/muntinlaw20.FrontAlways -/
def F_muntinlaw20_FrontAlways.r0 : List Oper := [
  ⟨(some 2), .mv (.c (.b false)), none⟩]
def F_muntinlaw20_FrontAlways.r1 : List Oper := [
  ⟨(some 15), .mv (.t 0), none⟩,
  ⟨(some 16), .call (.c (.f 12 [])) [.t 15, .c (.b false)], none⟩,
  ⟨(some 3), .mv (.t 16), none⟩]
def F_muntinlaw20_FrontAlways.r2 : List Oper := [
  ⟨(some 4), .mv (.c (.i .i64 0)), none⟩]
def F_muntinlaw20_FrontAlways.r3 : List Oper := [
  ⟨(some 17), .mv (.t 3), none⟩,
  ⟨(some 18), .len (.t 17), none⟩,
  ⟨(some 19), .mv (.c (.i .i64 0)), none⟩]
def F_muntinlaw20_FrontAlways.r4 : List Oper := [
  ⟨(some 20), .bin .lss (.t 19) (.t 18), none⟩]
def F_muntinlaw20_FrontAlways.r5 : List Oper := [
  ⟨(some 21), .ixa 1 (.t 17) (.t 19), none⟩,
  ⟨(some 22), .ld false 1 (.t 21), none⟩,
  ⟨(some 6), .mv (.t 22), none⟩]
def F_muntinlaw20_FrontAlways.r6 : List Oper := [
  ⟨(some 23), .mv (.t 4), none⟩,
  ⟨(some 24), .mv (.t 6), none⟩,
  ⟨(some 25), .bin .add (.t 23) (.t 24), none⟩,
  ⟨(some 4), .mv (.t 25), none⟩]
def F_muntinlaw20_FrontAlways.r7 : List Oper := [
  ⟨(some 26), .bin .add (.t 19) (.c (.i .i64 1)), none⟩,
  ⟨(some 19), .mv (.t 26), none⟩]
def F_muntinlaw20_FrontAlways.l0 : Code := .seq (.region F_muntinlaw20_FrontAlways.r4) (.seq (.cond (.t 20) (.skip) (.exit 0)) (.seq (.block 1 (.seq (.region F_muntinlaw20_FrontAlways.r5) (.region F_muntinlaw20_FrontAlways.r6))) (.region F_muntinlaw20_FrontAlways.r7)))
def F_muntinlaw20_FrontAlways.r8 : List Oper := [
  ⟨(some 27), .mv (.t 4), none⟩,
  ⟨(some 28), .bin .lss (.t 27) (.c (.i .i64 4)), none⟩]
def F_muntinlaw20_FrontAlways.r10 : List Oper := [
  ⟨(some 31), .mv (.t 3), none⟩,
  ⟨(some 32), .bsl 1 1 [.i .i64 0] [(0, 1, .c (.i .i64 1))], none⟩,
  ⟨(some 33), .app 1 8 (.t 31) (.t 32), none⟩,
  ⟨(some 3), .mv (.t 33), none⟩]
def F_muntinlaw20_FrontAlways.r9 : List Oper := [
  ⟨(some 29), .mv (.t 4), none⟩,
  ⟨(some 30), .bin .add (.t 29) (.c (.i .i64 1)), none⟩,
  ⟨(some 4), .mv (.t 30), none⟩]
def F_muntinlaw20_FrontAlways.l1 : Code := .seq (.seq (.region F_muntinlaw20_FrontAlways.r8) (.cond (.t 28) (.skip) (.exit 2))) (.seq (.block 3 (.region F_muntinlaw20_FrontAlways.r10)) (.region F_muntinlaw20_FrontAlways.r9))
def F_muntinlaw20_FrontAlways.r11 : List Oper := [
  ⟨(some 34), .mv (.t 4), none⟩,
  ⟨(some 35), .bin .gtr (.t 34) (.c (.i .i64 4)), none⟩]
def F_muntinlaw20_FrontAlways.r13 : List Oper := [
  ⟨(some 38), .mv (.t 3), none⟩,
  ⟨(some 39), .bsl 1 1 [.i .i64 0] [(0, 1, .c (.i .i64 (-1)))], none⟩,
  ⟨(some 40), .app 1 8 (.t 38) (.t 39), none⟩,
  ⟨(some 3), .mv (.t 40), none⟩]
def F_muntinlaw20_FrontAlways.r12 : List Oper := [
  ⟨(some 36), .mv (.t 4), none⟩,
  ⟨(some 37), .bin .sub (.t 36) (.c (.i .i64 1)), none⟩,
  ⟨(some 4), .mv (.t 37), none⟩]
def F_muntinlaw20_FrontAlways.l2 : Code := .seq (.seq (.region F_muntinlaw20_FrontAlways.r11) (.cond (.t 35) (.skip) (.exit 4))) (.seq (.block 5 (.region F_muntinlaw20_FrontAlways.r13)) (.region F_muntinlaw20_FrontAlways.r12))
def F_muntinlaw20_FrontAlways.r14 : List Oper := [
  ⟨(some 41), .mv (.t 3), none⟩,
  ⟨(some 42), .len (.t 41), none⟩,
  ⟨(some 43), .mv (.c (.i .i64 0)), none⟩]
def F_muntinlaw20_FrontAlways.r15 : List Oper := [
  ⟨(some 44), .bin .lss (.t 43) (.t 42), none⟩]
def F_muntinlaw20_FrontAlways.r16 : List Oper := [
  ⟨(some 45), .mv (.t 43), none⟩,
  ⟨(some 46), .ixa 1 (.t 41) (.t 43), none⟩,
  ⟨(some 47), .ld false 1 (.t 46), none⟩,
  ⟨(some 7), .mv (.t 45), none⟩,
  ⟨(some 8), .mv (.t 47), none⟩]
def F_muntinlaw20_FrontAlways.r17 : List Oper := [
  ⟨(some 49), .mv (.t 3), none⟩,
  ⟨(some 50), .mv (.t 7), none⟩,
  ⟨(some 51), .call (.c (.f 13 [])) [.t 49, .t 50], none⟩,
  ⟨(some 48), .mv (.t 51), none⟩,
  ⟨(some 52), .ext (.t 48) 0, none⟩,
  ⟨(some 53), .ext (.t 48) 1, none⟩,
  ⟨(some 9), .mv (.t 52), none⟩,
  ⟨(some 10), .mv (.t 53), none⟩]
def F_muntinlaw20_FrontAlways.r18 : List Oper := [
  ⟨(some 54), .mv (.t 10), none⟩,
  ⟨(some 55), .mv (.t 8), none⟩,
  ⟨(some 56), .bin .lss (.t 55) (.c (.i .i64 0)), none⟩,
  ⟨(some 57), .eq true .bl (.t 54) (.t 56), none⟩,
  ⟨(some 58), .mv (.t 57), none⟩,
  ⟨(some 59), .mv (.t 9), (some (58, false))⟩,
  ⟨(some 60), .bin .lss (.t 59) (.c (.i .i64 0)), (some (58, false))⟩,
  ⟨(some 61), .pick (.t 58) (.c (.b true)) (.t 60), none⟩,
  ⟨(some 62), .mv (.t 61), none⟩,
  ⟨(some 63), .mv (.t 9), (some (62, false))⟩,
  ⟨(some 64), .mv (.t 3), (some (62, false))⟩,
  ⟨(some 65), .len (.t 64), (some (62, false))⟩,
  ⟨(some 66), .bin .geq (.t 63) (.t 65), (some (62, false))⟩,
  ⟨(some 67), .pick (.t 62) (.c (.b true)) (.t 66), none⟩]
def F_muntinlaw20_FrontAlways.r19 : List Oper := [
  ⟨(some 2), .mv (.c (.b false)), none⟩]
def F_muntinlaw20_FrontAlways.r20 : List Oper := [
  ⟨(some 68), .bin .add (.t 43) (.c (.i .i64 1)), none⟩,
  ⟨(some 43), .mv (.t 68), none⟩]
def F_muntinlaw20_FrontAlways.l3 : Code := .seq (.region F_muntinlaw20_FrontAlways.r15) (.seq (.cond (.t 44) (.skip) (.exit 6)) (.seq (.block 7 (.seq (.region F_muntinlaw20_FrontAlways.r16) (.seq (.region F_muntinlaw20_FrontAlways.r17) (.seq (.region F_muntinlaw20_FrontAlways.r18) (.cond (.t 67) (.seq (.region F_muntinlaw20_FrontAlways.r19) (.ret)) (.skip)))))) (.region F_muntinlaw20_FrontAlways.r20)))
def F_muntinlaw20_FrontAlways.r21 : List Oper := [
  ⟨(some 69), .mv (.t 4), none⟩,
  ⟨(some 70), .bin .gtr (.t 69) (.c (.i .i64 (-4))), none⟩]
def F_muntinlaw20_FrontAlways.r23 : List Oper := [
  ⟨(some 73), .mv (.t 3), none⟩,
  ⟨(some 74), .bsl 1 1 [.i .i64 0] [(0, 1, .c (.i .i64 (-2)))], none⟩,
  ⟨(some 75), .app 1 8 (.t 73) (.t 74), none⟩,
  ⟨(some 3), .mv (.t 75), none⟩]
def F_muntinlaw20_FrontAlways.r22 : List Oper := [
  ⟨(some 71), .mv (.t 4), none⟩,
  ⟨(some 72), .bin .sub (.t 71) (.c (.i .i64 2)), none⟩,
  ⟨(some 4), .mv (.t 72), none⟩]
def F_muntinlaw20_FrontAlways.l4 : Code := .seq (.seq (.region F_muntinlaw20_FrontAlways.r21) (.cond (.t 70) (.skip) (.exit 8))) (.seq (.block 9 (.region F_muntinlaw20_FrontAlways.r23)) (.region F_muntinlaw20_FrontAlways.r22))
def F_muntinlaw20_FrontAlways.r24 : List Oper := [
  ⟨(some 77), .mv (.t 3), none⟩,
  ⟨(some 78), .call (.c (.f 15 [])) [.t 77], none⟩,
  ⟨(some 76), .mv (.t 78), none⟩,
  ⟨(some 79), .ext (.t 76) 0, none⟩,
  ⟨(some 80), .ext (.t 76) 1, none⟩,
  ⟨(some 11), .mv (.t 79), none⟩,
  ⟨(some 12), .mv (.t 80), none⟩]
def F_muntinlaw20_FrontAlways.r25 : List Oper := [
  ⟨(some 81), .mv (.t 12), none⟩,
  ⟨(some 82), .un .not (.t 81), none⟩,
  ⟨(some 83), .mv (.t 82), none⟩,
  ⟨(some 84), .mv (.t 11), (some (83, false))⟩,
  ⟨(some 85), .bin .lss (.t 84) (.c (.i .i64 0)), (some (83, false))⟩,
  ⟨(some 86), .pick (.t 83) (.c (.b true)) (.t 85), none⟩,
  ⟨(some 87), .mv (.t 86), none⟩,
  ⟨(some 88), .mv (.t 11), (some (87, false))⟩,
  ⟨(some 89), .mv (.t 3), (some (87, false))⟩,
  ⟨(some 90), .len (.t 89), (some (87, false))⟩,
  ⟨(some 91), .bin .geq (.t 88) (.t 90), (some (87, false))⟩,
  ⟨(some 92), .pick (.t 87) (.c (.b true)) (.t 91), none⟩,
  ⟨(some 93), .mv (.t 92), none⟩,
  ⟨(some 94), .mv (.t 3), (some (93, false))⟩,
  ⟨(some 95), .mv (.t 11), (some (93, false))⟩,
  ⟨(some 96), .ixa 1 (.t 94) (.t 95), (some (93, false))⟩,
  ⟨(some 97), .ld false 1 (.t 96), (some (93, false))⟩,
  ⟨(some 98), .bin .geq (.t 97) (.c (.i .i64 0)), (some (93, false))⟩,
  ⟨(some 99), .pick (.t 93) (.c (.b true)) (.t 98), none⟩]
def F_muntinlaw20_FrontAlways.r26 : List Oper := [
  ⟨(some 2), .mv (.c (.b false)), none⟩]
def F_muntinlaw20_FrontAlways.r27 : List Oper := [
  ⟨(some 101), .mv (.t 3), none⟩,
  ⟨(some 102), .mv (.t 11), none⟩,
  ⟨(some 103), .call (.c (.f 13 [])) [.t 101, .t 102], none⟩,
  ⟨(some 100), .mv (.t 103), none⟩,
  ⟨(some 104), .ext (.t 100) 0, none⟩,
  ⟨(some 105), .ext (.t 100) 1, none⟩,
  ⟨(some 13), .mv (.t 104), none⟩,
  ⟨(some 14), .mv (.t 105), none⟩]
def F_muntinlaw20_FrontAlways.r28 : List Oper := [
  ⟨(some 106), .call (.c (.f 17 [])) [], none⟩,
  ⟨(some 107), .mv (.t 106), none⟩,
  ⟨(some 108), .mv (.t 14), (some (107, true))⟩,
  ⟨(some 109), .un .not (.t 108), (some (107, true))⟩,
  ⟨(some 110), .pick (.t 107) (.t 109) (.c (.b false)), none⟩,
  ⟨(some 2), .mv (.t 110), none⟩]
def F_muntinlaw20_FrontAlways.code : Code := .seq (.region F_muntinlaw20_FrontAlways.r0) (.seq (.region F_muntinlaw20_FrontAlways.r1) (.seq (.region F_muntinlaw20_FrontAlways.r2) (.seq (.seq (.region F_muntinlaw20_FrontAlways.r3) (.block 0 (.loop F_muntinlaw20_FrontAlways.l0))) (.seq (.block 2 (.loop F_muntinlaw20_FrontAlways.l1)) (.seq (.block 4 (.loop F_muntinlaw20_FrontAlways.l2)) (.seq (.seq (.region F_muntinlaw20_FrontAlways.r14) (.block 6 (.loop F_muntinlaw20_FrontAlways.l3))) (.seq (.block 8 (.loop F_muntinlaw20_FrontAlways.l4)) (.seq (.region F_muntinlaw20_FrontAlways.r24) (.seq (.seq (.region F_muntinlaw20_FrontAlways.r25) (.cond (.t 99) (.seq (.region F_muntinlaw20_FrontAlways.r26) (.ret)) (.skip))) (.seq (.region F_muntinlaw20_FrontAlways.r27) (.seq (.region F_muntinlaw20_FrontAlways.r28) (.ret))))))))))))
def F_muntinlaw20_FrontAlways : Func := ⟨111, [.t 2], F_muntinlaw20_FrontAlways.code⟩
/-! muntin/muntinlaw20.FrontShifts -/
def F_muntinlaw20_FrontShifts.r0 : List Oper := [
  ⟨(some 6), .mv (.c (.b false)), none⟩]
def F_muntinlaw20_FrontShifts.r1 : List Oper := [
  ⟨(some 19), .mv (.t 0), none⟩,
  ⟨(some 20), .call (.c (.f 12 [])) [.t 19, .c (.b false)], none⟩,
  ⟨(some 7), .mv (.t 20), none⟩]
def F_muntinlaw20_FrontShifts.r2 : List Oper := [
  ⟨(some 21), .mv (.t 7), none⟩,
  ⟨(some 22), .len (.t 21), none⟩,
  ⟨(some 23), .eq false .sc (.t 22) (.c (.i .i64 0)), none⟩]
def F_muntinlaw20_FrontShifts.r3 : List Oper := [
  ⟨(some 24), .call (.c (.f 17 [])) [], none⟩,
  ⟨(some 6), .mv (.t 24), none⟩]
def F_muntinlaw20_FrontShifts.r4 : List Oper := [
  ⟨(some 25), .mv (.t 1), none⟩,
  ⟨(some 26), .conv .i64 (.t 25), none⟩,
  ⟨(some 27), .mv (.t 7), none⟩,
  ⟨(some 28), .len (.t 27), none⟩,
  ⟨(some 29), .bin .rem (.t 26) (.t 28), none⟩,
  ⟨(some 30), .mv (.t 2), none⟩,
  ⟨(some 31), .conv .i64 (.t 30), none⟩,
  ⟨(some 32), .mv (.t 7), none⟩,
  ⟨(some 33), .len (.t 32), none⟩,
  ⟨(some 34), .bin .rem (.t 31) (.t 33), none⟩,
  ⟨(some 8), .mv (.t 29), none⟩,
  ⟨(some 9), .mv (.t 34), none⟩]
def F_muntinlaw20_FrontShifts.r5 : List Oper := [
  ⟨(some 36), .mv (.t 7), none⟩,
  ⟨(some 37), .mv (.t 8), none⟩,
  ⟨(some 38), .call (.c (.f 13 [])) [.t 36, .t 37], none⟩,
  ⟨(some 35), .mv (.t 38), none⟩,
  ⟨(some 39), .ext (.t 35) 0, none⟩,
  ⟨(some 40), .ext (.t 35) 1, none⟩,
  ⟨(some 10), .mv (.t 39), none⟩,
  ⟨(some 11), .mv (.t 40), none⟩]
def F_muntinlaw20_FrontShifts.r6 : List Oper := [
  ⟨(some 41), .mv (.t 7), none⟩,
  ⟨(some 42), .mv (.t 9), none⟩,
  ⟨(some 43), .slc 1 (.t 41) (some (.t 42)) none none, none⟩,
  ⟨(some 44), .app 1 8 (.c (.sn)) (.t 43), none⟩,
  ⟨(some 45), .mv (.t 7), none⟩,
  ⟨(some 46), .mv (.t 9), none⟩,
  ⟨(some 47), .slc 1 (.t 45) none (some (.t 46)) none, none⟩,
  ⟨(some 48), .app 1 8 (.t 44) (.t 47), none⟩,
  ⟨(some 12), .mv (.t 48), none⟩]
def F_muntinlaw20_FrontShifts.r7 : List Oper := [
  ⟨(some 50), .mv (.t 12), none⟩,
  ⟨(some 51), .mv (.t 8), none⟩,
  ⟨(some 52), .mv (.t 9), none⟩,
  ⟨(some 53), .bin .sub (.t 51) (.t 52), none⟩,
  ⟨(some 54), .mv (.t 7), none⟩,
  ⟨(some 55), .len (.t 54), none⟩,
  ⟨(some 56), .bin .add (.t 53) (.t 55), none⟩,
  ⟨(some 57), .mv (.t 7), none⟩,
  ⟨(some 58), .len (.t 57), none⟩,
  ⟨(some 59), .bin .rem (.t 56) (.t 58), none⟩,
  ⟨(some 60), .call (.c (.f 13 [])) [.t 50, .t 59], none⟩,
  ⟨(some 49), .mv (.t 60), none⟩,
  ⟨(some 61), .ext (.t 49) 0, none⟩,
  ⟨(some 62), .ext (.t 49) 1, none⟩,
  ⟨(some 13), .mv (.t 61), none⟩,
  ⟨(some 14), .mv (.t 62), none⟩]
def F_muntinlaw20_FrontShifts.r8 : List Oper := [
  ⟨(some 63), .mv (.t 11), none⟩,
  ⟨(some 64), .mv (.t 14), none⟩,
  ⟨(some 65), .eq true .bl (.t 63) (.t 64), none⟩,
  ⟨(some 66), .mv (.t 65), none⟩,
  ⟨(some 67), .mv (.t 11), (some (66, false))⟩,
  ⟨(some 68), .mv (.t 67), (some (66, false))⟩,
  ⟨(some 69), .mv (.t 13), (some (68, true))⟩,
  ⟨(some 70), .mv (.t 9), (some (68, true))⟩,
  ⟨(some 71), .bin .add (.t 69) (.t 70), (some (68, true))⟩,
  ⟨(some 72), .mv (.t 7), (some (68, true))⟩,
  ⟨(some 73), .len (.t 72), (some (68, true))⟩,
  ⟨(some 74), .bin .rem (.t 71) (.t 73), (some (68, true))⟩,
  ⟨(some 75), .mv (.t 10), (some (68, true))⟩,
  ⟨(some 76), .eq true .sc (.t 74) (.t 75), (some (68, true))⟩,
  ⟨(some 77), .pick (.t 68) (.t 76) (.c (.b false)), (some (66, false))⟩,
  ⟨(some 78), .pick (.t 66) (.c (.b true)) (.t 77), none⟩]
def F_muntinlaw20_FrontShifts.r9 : List Oper := [
  ⟨(some 6), .mv (.c (.b false)), none⟩]
def F_muntinlaw20_FrontShifts.r10 : List Oper := [
  ⟨(some 79), .mv (.t 7), none⟩,
  ⟨(some 80), .mv (.t 8), none⟩,
  ⟨(some 81), .bin .add (.t 80) (.c (.i .i64 1)), none⟩,
  ⟨(some 82), .slc 1 (.t 79) none (some (.t 81)) none, none⟩,
  ⟨(some 83), .app 1 8 (.c (.sn)) (.t 82), none⟩,
  ⟨(some 84), .bsl 1 1 [.i .i64 0] [(0, 1, .c (.i .i64 0))], none⟩,
  ⟨(some 85), .app 1 8 (.t 83) (.t 84), none⟩,
  ⟨(some 86), .mv (.t 7), none⟩,
  ⟨(some 87), .mv (.t 8), none⟩,
  ⟨(some 88), .bin .add (.t 87) (.c (.i .i64 1)), none⟩,
  ⟨(some 89), .slc 1 (.t 86) (some (.t 88)) none none, none⟩,
  ⟨(some 90), .app 1 8 (.t 85) (.t 89), none⟩,
  ⟨(some 15), .mv (.t 90), none⟩]
def F_muntinlaw20_FrontShifts.r11 : List Oper := [
  ⟨(some 92), .mv (.t 15), none⟩,
  ⟨(some 93), .mv (.t 8), none⟩,
  ⟨(some 94), .call (.c (.f 13 [])) [.t 92, .t 93], none⟩,
  ⟨(some 91), .mv (.t 94), none⟩,
  ⟨(some 95), .ext (.t 91) 0, none⟩,
  ⟨(some 96), .ext (.t 91) 1, none⟩,
  ⟨(some 16), .mv (.t 95), none⟩,
  ⟨(some 17), .mv (.t 96), none⟩]
def F_muntinlaw20_FrontShifts.r12 : List Oper := [
  ⟨(some 97), .mv (.t 11), none⟩,
  ⟨(some 98), .un .not (.t 97), none⟩,
  ⟨(some 99), .mv (.t 98), none⟩,
  ⟨(some 100), .mv (.t 7), (some (99, false))⟩,
  ⟨(some 101), .mv (.t 8), (some (99, false))⟩,
  ⟨(some 102), .ixa 1 (.t 100) (.t 101), (some (99, false))⟩,
  ⟨(some 103), .ld false 1 (.t 102), (some (99, false))⟩,
  ⟨(some 104), .bin .geq (.t 103) (.c (.i .i64 0)), (some (99, false))⟩,
  ⟨(some 105), .pick (.t 99) (.c (.b true)) (.t 104), none⟩]
def F_muntinlaw20_FrontShifts.r13 : List Oper := [
  ⟨(some 106), .call (.c (.f 17 [])) [], none⟩,
  ⟨(some 107), .mv (.t 106), none⟩,
  ⟨(some 108), .mv (.t 17), (some (107, true))⟩,
  ⟨(some 109), .mv (.t 11), (some (107, true))⟩,
  ⟨(some 110), .eq false .bl (.t 108) (.t 109), (some (107, true))⟩,
  ⟨(some 111), .pick (.t 107) (.t 110) (.c (.b false)), none⟩,
  ⟨(some 6), .mv (.t 111), none⟩]
def F_muntinlaw20_FrontShifts.r14 : List Oper := [
  ⟨(some 112), .mv (.t 10), none⟩,
  ⟨(some 18), .mv (.t 112), none⟩]
def F_muntinlaw20_FrontShifts.r15 : List Oper := [
  ⟨(some 113), .mv (.t 10), none⟩,
  ⟨(some 114), .mv (.t 8), none⟩,
  ⟨(some 115), .bin .gtr (.t 113) (.t 114), none⟩]
def F_muntinlaw20_FrontShifts.r16 : List Oper := [
  ⟨(some 116), .mv (.t 18), none⟩,
  ⟨(some 117), .bin .add (.t 116) (.c (.i .i64 1)), none⟩,
  ⟨(some 18), .mv (.t 117), none⟩]
def F_muntinlaw20_FrontShifts.r17 : List Oper := [
  ⟨(some 118), .call (.c (.f 17 [])) [], none⟩,
  ⟨(some 119), .mv (.t 118), none⟩,
  ⟨(some 120), .mv (.t 17), (some (119, true))⟩,
  ⟨(some 121), .pick (.t 119) (.t 120) (.c (.b false)), none⟩,
  ⟨(some 122), .mv (.t 121), none⟩,
  ⟨(some 123), .mv (.t 16), (some (122, true))⟩,
  ⟨(some 124), .mv (.t 18), (some (122, true))⟩,
  ⟨(some 125), .eq false .sc (.t 123) (.t 124), (some (122, true))⟩,
  ⟨(some 126), .pick (.t 122) (.t 125) (.c (.b false)), none⟩,
  ⟨(some 6), .mv (.t 126), none⟩]
def F_muntinlaw20_FrontShifts.code : Code := .seq (.region F_muntinlaw20_FrontShifts.r0) (.seq (.region F_muntinlaw20_FrontShifts.r1) (.seq (.seq (.region F_muntinlaw20_FrontShifts.r2) (.cond (.t 23) (.seq (.region F_muntinlaw20_FrontShifts.r3) (.ret)) (.skip))) (.seq (.draw F_muntinlaw20_FrontShifts.r4 []) (.seq (.region F_muntinlaw20_FrontShifts.r5) (.seq (.draw F_muntinlaw20_FrontShifts.r6 []) (.seq (.region F_muntinlaw20_FrontShifts.r7) (.seq (.seq (.region F_muntinlaw20_FrontShifts.r8) (.cond (.t 78) (.seq (.region F_muntinlaw20_FrontShifts.r9) (.ret)) (.skip))) (.seq (.draw F_muntinlaw20_FrontShifts.r10 [(4, 5)]) (.seq (.region F_muntinlaw20_FrontShifts.r11) (.seq (.seq (.region F_muntinlaw20_FrontShifts.r12) (.cond (.t 105) (.seq (.region F_muntinlaw20_FrontShifts.r13) (.ret)) (.skip))) (.seq (.region F_muntinlaw20_FrontShifts.r14) (.seq (.seq (.region F_muntinlaw20_FrontShifts.r15) (.cond (.t 115) (.region F_muntinlaw20_FrontShifts.r16) (.skip))) (.seq (.region F_muntinlaw20_FrontShifts.r17) (.ret))))))))))))))
def F_muntinlaw20_FrontShifts : Func := ⟨127, [.t 6], F_muntinlaw20_FrontShifts.code⟩
/-! muntin/muntinlaw20.turns -/
def F_muntinlaw20_turns.r0 : List Oper := [
  ⟨(some 4), .mv (.c (.sn)), none⟩]
def F_muntinlaw20_turns.r1 : List Oper := [
  ⟨(some 5), .mv (.c (.sn)), none⟩]
def F_muntinlaw20_turns.r2 : List Oper := [
  ⟨(some 9), .mv (.t 0), none⟩,
  ⟨(some 10), .mv (.t 0), none⟩,
  ⟨(some 11), .len (.t 10), none⟩,
  ⟨(some 12), .mn [.t 11, .c (.i .i64 30)], none⟩,
  ⟨(some 13), .slc 1 (.t 9) none (some (.t 12)) none, none⟩,
  ⟨(some 14), .len (.t 13), none⟩,
  ⟨(some 15), .mv (.c (.i .i64 0)), none⟩]
def F_muntinlaw20_turns.r3 : List Oper := [
  ⟨(some 16), .bin .lss (.t 15) (.t 14), none⟩]
def F_muntinlaw20_turns.r4 : List Oper := [
  ⟨(some 17), .ixa 1 (.t 13) (.t 15), none⟩,
  ⟨(some 18), .ld false 1 (.t 17), none⟩,
  ⟨(some 7), .mv (.t 18), none⟩]
def F_muntinlaw20_turns.r5 : List Oper := [
  ⟨(some 19), .mv (.t 7), none⟩,
  ⟨(some 20), .conv .i64 (.t 19), none⟩,
  ⟨(some 8), .mv (.t 20), none⟩]
def F_muntinlaw20_turns.r6 : List Oper := [
  ⟨(some 21), .mv (.t 1), none⟩,
  ⟨(some 22), .un .not (.t 21), none⟩]
def F_muntinlaw20_turns.r7 : List Oper := [
  ⟨(some 23), .mv (.t 8), none⟩,
  ⟨(some 24), .bin .rem (.t 23) (.c (.i .i64 3)), none⟩,
  ⟨(some 25), .mn [.c (.i .i64 1), .t 24], none⟩,
  ⟨(some 26), .mx [.c (.i .i64 (-2)), .t 25], none⟩,
  ⟨(some 8), .mv (.t 26), none⟩]
def F_muntinlaw20_turns.r8 : List Oper := [
  ⟨(some 27), .mv (.t 5), none⟩,
  ⟨(some 28), .mv (.t 8), none⟩,
  ⟨(some 29), .bsl 1 1 [.i .i64 0] [(0, 1, .t 28)], none⟩,
  ⟨(some 30), .app 1 8 (.t 27) (.t 29), none⟩,
  ⟨(some 5), .mv (.t 30), none⟩]
def F_muntinlaw20_turns.r9 : List Oper := [
  ⟨(some 31), .bin .add (.t 15) (.c (.i .i64 1)), none⟩,
  ⟨(some 15), .mv (.t 31), none⟩]
def F_muntinlaw20_turns.l0 : Code := .seq (.region F_muntinlaw20_turns.r3) (.seq (.cond (.t 16) (.skip) (.exit 0)) (.seq (.block 1 (.seq (.region F_muntinlaw20_turns.r4) (.seq (.region F_muntinlaw20_turns.r5) (.seq (.seq (.region F_muntinlaw20_turns.r6) (.cond (.t 22) (.region F_muntinlaw20_turns.r7) (.skip))) (.region F_muntinlaw20_turns.r8))))) (.region F_muntinlaw20_turns.r9)))
def F_muntinlaw20_turns.r10 : List Oper := [
  ⟨(some 32), .mv (.t 5), none⟩,
  ⟨(some 4), .mv (.t 32), none⟩]
def F_muntinlaw20_turns.code : Code := .seq (.region F_muntinlaw20_turns.r0) (.seq (.region F_muntinlaw20_turns.r1) (.seq (.seq (.region F_muntinlaw20_turns.r2) (.block 0 (.loop F_muntinlaw20_turns.l0))) (.seq (.region F_muntinlaw20_turns.r10) (.ret))))
def F_muntinlaw20_turns : Func := ⟨33, [.t 4], F_muntinlaw20_turns.code⟩
/-! muntin/front.Of -/
def F_front_Of.r0 : List Oper := [
  ⟨(some 4), .mv (.c (.i .i64 0)), none⟩,
  ⟨(some 5), .mv (.c (.b false)), none⟩]
def F_front_Of.r1 : List Oper := [
  ⟨(some 9), .mv (.t 0), none⟩,
  ⟨(some 10), .call (.c (.f 58 [])) [.t 9], none⟩,
  ⟨(some 11), .un .not (.t 10), none⟩,
  ⟨(some 12), .mv (.t 11), none⟩,
  ⟨(some 13), .mv (.t 1), (some (12, false))⟩,
  ⟨(some 14), .bin .lss (.t 13) (.c (.i .i64 0)), (some (12, false))⟩,
  ⟨(some 15), .pick (.t 12) (.c (.b true)) (.t 14), none⟩,
  ⟨(some 16), .mv (.t 15), none⟩,
  ⟨(some 17), .mv (.t 1), (some (16, false))⟩,
  ⟨(some 18), .mv (.t 0), (some (16, false))⟩,
  ⟨(some 19), .len (.t 18), (some (16, false))⟩,
  ⟨(some 20), .bin .geq (.t 17) (.t 19), (some (16, false))⟩,
  ⟨(some 21), .pick (.t 16) (.c (.b true)) (.t 20), none⟩,
  ⟨(some 22), .mv (.t 21), none⟩,
  ⟨(some 23), .mv (.t 0), (some (22, false))⟩,
  ⟨(some 24), .mv (.t 1), (some (22, false))⟩,
  ⟨(some 25), .ixa 1 (.t 23) (.t 24), (some (22, false))⟩,
  ⟨(some 26), .ld false 1 (.t 25), (some (22, false))⟩,
  ⟨(some 27), .bin .geq (.t 26) (.c (.i .i64 0)), (some (22, false))⟩,
  ⟨(some 28), .pick (.t 22) (.c (.b true)) (.t 27), none⟩]
def F_front_Of.r2 : List Oper := [
  ⟨(some 4), .mv (.c (.i .i64 0)), none⟩,
  ⟨(some 5), .mv (.c (.b false)), none⟩]
def F_front_Of.r3 : List Oper := [
  ⟨(some 6), .mv (.c (.i .i64 0)), none⟩]
def F_front_Of.r4 : List Oper := [
  ⟨(some 29), .mv (.t 0), none⟩,
  ⟨(some 30), .len (.t 29), none⟩,
  ⟨(some 31), .mv (.c (.i .i64 0)), none⟩]
def F_front_Of.r5 : List Oper := [
  ⟨(some 32), .bin .lss (.t 31) (.t 30), none⟩]
def F_front_Of.r6 : List Oper := [
  ⟨(some 33), .mv (.t 31), none⟩,
  ⟨(some 7), .mv (.t 33), none⟩]
def F_front_Of.r7 : List Oper := [
  ⟨(some 34), .mv (.t 1), none⟩,
  ⟨(some 35), .mv (.t 7), none⟩,
  ⟨(some 36), .bin .add (.t 34) (.t 35), none⟩,
  ⟨(some 37), .mv (.t 0), none⟩,
  ⟨(some 38), .len (.t 37), none⟩,
  ⟨(some 39), .bin .rem (.t 36) (.t 38), none⟩,
  ⟨(some 8), .mv (.t 39), none⟩]
def F_front_Of.r8 : List Oper := [
  ⟨(some 40), .mv (.t 6), none⟩,
  ⟨(some 41), .mv (.t 0), none⟩,
  ⟨(some 42), .mv (.t 8), none⟩,
  ⟨(some 43), .ixa 1 (.t 41) (.t 42), none⟩,
  ⟨(some 44), .ld false 1 (.t 43), none⟩,
  ⟨(some 45), .bin .add (.t 40) (.t 44), none⟩,
  ⟨(some 6), .mv (.t 45), none⟩]
def F_front_Of.r9 : List Oper := [
  ⟨(some 46), .mv (.t 6), none⟩,
  ⟨(some 47), .eq false .sc (.t 46) (.c (.i .i64 1)), none⟩]
def F_front_Of.r10 : List Oper := [
  ⟨(some 48), .mv (.t 8), none⟩,
  ⟨(some 49), .bin .add (.t 48) (.c (.i .i64 1)), none⟩,
  ⟨(some 50), .mv (.t 0), none⟩,
  ⟨(some 51), .len (.t 50), none⟩,
  ⟨(some 52), .bin .rem (.t 49) (.t 51), none⟩,
  ⟨(some 4), .mv (.t 52), none⟩,
  ⟨(some 5), .mv (.c (.b true)), none⟩]
def F_front_Of.r11 : List Oper := [
  ⟨(some 53), .bin .add (.t 31) (.c (.i .i64 1)), none⟩,
  ⟨(some 31), .mv (.t 53), none⟩]
def F_front_Of.l0 : Code := .seq (.region F_front_Of.r5) (.seq (.cond (.t 32) (.skip) (.exit 0)) (.seq (.block 1 (.seq (.region F_front_Of.r6) (.seq (.region F_front_Of.r7) (.seq (.region F_front_Of.r8) (.seq (.region F_front_Of.r9) (.cond (.t 47) (.seq (.region F_front_Of.r10) (.ret)) (.skip))))))) (.region F_front_Of.r11)))
def F_front_Of.r12 : List Oper := [
  ⟨(some 4), .mv (.c (.i .i64 0)), none⟩,
  ⟨(some 5), .mv (.c (.b false)), none⟩]
def F_front_Of.code : Code := .seq (.region F_front_Of.r0) (.seq (.seq (.region F_front_Of.r1) (.cond (.t 28) (.seq (.region F_front_Of.r2) (.ret)) (.skip))) (.seq (.region F_front_Of.r3) (.seq (.seq (.region F_front_Of.r4) (.block 0 (.loop F_front_Of.l0))) (.seq (.region F_front_Of.r12) (.ret)))))
def F_front_Of : Func := ⟨54, [.t 4, .t 5], F_front_Of.code⟩
/-! muntin/muntinref20.Of -/
def F_muntinref20_Of.r0 : List Oper := [
  ⟨(some 4), .mv (.c (.i .i64 0)), none⟩]
def F_muntinref20_Of.r1 : List Oper := [
  ⟨(some 10), .mv (.t 0), none⟩,
  ⟨(some 11), .call (.c (.f 21 [])) [.t 10], none⟩,
  ⟨(some 5), .mv (.t 11), none⟩]
def F_muntinref20_Of.r2 : List Oper := [
  ⟨(some 12), .mv (.t 5), none⟩,
  ⟨(some 13), .un .not (.t 12), none⟩,
  ⟨(some 14), .mv (.t 13), none⟩,
  ⟨(some 15), .mv (.t 1), (some (14, false))⟩,
  ⟨(some 16), .bin .lss (.t 15) (.c (.i .i64 0)), (some (14, false))⟩,
  ⟨(some 17), .pick (.t 14) (.c (.b true)) (.t 16), none⟩,
  ⟨(some 18), .mv (.t 17), none⟩,
  ⟨(some 19), .mv (.t 1), (some (18, false))⟩,
  ⟨(some 20), .mv (.t 0), (some (18, false))⟩,
  ⟨(some 21), .len (.t 20), (some (18, false))⟩,
  ⟨(some 22), .bin .geq (.t 19) (.t 21), (some (18, false))⟩,
  ⟨(some 23), .pick (.t 18) (.c (.b true)) (.t 22), none⟩]
def F_muntinref20_Of.r3 : List Oper := [
  ⟨(some 4), .mv (.c (.i .i64 (-1))), none⟩]
def F_muntinref20_Of.r4 : List Oper := [
  ⟨(some 24), .mv (.t 0), none⟩,
  ⟨(some 25), .mv (.t 1), none⟩,
  ⟨(some 26), .ixa 1 (.t 24) (.t 25), none⟩,
  ⟨(some 27), .ld false 1 (.t 26), none⟩,
  ⟨(some 28), .bin .geq (.t 27) (.c (.i .i64 0)), none⟩]
def F_muntinref20_Of.r5 : List Oper := [
  ⟨(some 4), .mv (.c (.i .i64 (-1))), none⟩]
def F_muntinref20_Of.r6 : List Oper := [
  ⟨(some 29), .mv (.t 0), none⟩,
  ⟨(some 30), .len (.t 29), none⟩,
  ⟨(some 6), .mv (.t 30), none⟩]
def F_muntinref20_Of.r7 : List Oper := [
  ⟨(some 31), .mv (.t 1), none⟩,
  ⟨(some 32), .bin .add (.t 31) (.c (.i .i64 1)), none⟩,
  ⟨(some 7), .mv (.t 32), none⟩]
def F_muntinref20_Of.r8 : List Oper := [
  ⟨(some 33), .mv (.t 7), none⟩,
  ⟨(some 34), .mv (.t 1), none⟩,
  ⟨(some 35), .mv (.t 6), none⟩,
  ⟨(some 36), .bin .add (.t 34) (.t 35), none⟩,
  ⟨(some 37), .bin .leq (.t 33) (.t 36), none⟩]
def F_muntinref20_Of.r10 : List Oper := [
  ⟨(some 8), .mv (.c (.i .i64 0)), none⟩]
def F_muntinref20_Of.r11 : List Oper := [
  ⟨(some 40), .mv (.t 1), none⟩,
  ⟨(some 9), .mv (.t 40), none⟩]
def F_muntinref20_Of.r12 : List Oper := [
  ⟨(some 41), .mv (.t 9), none⟩,
  ⟨(some 42), .mv (.t 7), none⟩,
  ⟨(some 43), .bin .lss (.t 41) (.t 42), none⟩]
def F_muntinref20_Of.r14 : List Oper := [
  ⟨(some 46), .mv (.t 8), none⟩,
  ⟨(some 47), .mv (.t 0), none⟩,
  ⟨(some 48), .mv (.t 9), none⟩,
  ⟨(some 49), .mv (.t 6), none⟩,
  ⟨(some 50), .bin .rem (.t 48) (.t 49), none⟩,
  ⟨(some 51), .ixa 1 (.t 47) (.t 50), none⟩,
  ⟨(some 52), .ld false 1 (.t 51), none⟩,
  ⟨(some 53), .bin .add (.t 46) (.t 52), none⟩,
  ⟨(some 8), .mv (.t 53), none⟩]
def F_muntinref20_Of.r13 : List Oper := [
  ⟨(some 44), .mv (.t 9), none⟩,
  ⟨(some 45), .bin .add (.t 44) (.c (.i .i64 1)), none⟩,
  ⟨(some 9), .mv (.t 45), none⟩]
def F_muntinref20_Of.l0 : Code := .seq (.seq (.region F_muntinref20_Of.r12) (.cond (.t 43) (.skip) (.exit 2))) (.seq (.block 3 (.region F_muntinref20_Of.r14)) (.region F_muntinref20_Of.r13))
def F_muntinref20_Of.r15 : List Oper := [
  ⟨(some 54), .mv (.t 8), none⟩,
  ⟨(some 55), .eq false .sc (.t 54) (.c (.i .i64 1)), none⟩]
def F_muntinref20_Of.r16 : List Oper := [
  ⟨(some 56), .mv (.t 7), none⟩,
  ⟨(some 57), .mv (.t 6), none⟩,
  ⟨(some 58), .bin .rem (.t 56) (.t 57), none⟩,
  ⟨(some 4), .mv (.t 58), none⟩]
def F_muntinref20_Of.r9 : List Oper := [
  ⟨(some 38), .mv (.t 7), none⟩,
  ⟨(some 39), .bin .add (.t 38) (.c (.i .i64 1)), none⟩,
  ⟨(some 7), .mv (.t 39), none⟩]
def F_muntinref20_Of.l1 : Code := .seq (.seq (.region F_muntinref20_Of.r8) (.cond (.t 37) (.skip) (.exit 0))) (.seq (.block 1 (.seq (.region F_muntinref20_Of.r10) (.seq (.seq (.region F_muntinref20_Of.r11) (.block 2 (.loop F_muntinref20_Of.l0))) (.seq (.region F_muntinref20_Of.r15) (.cond (.t 55) (.seq (.region F_muntinref20_Of.r16) (.ret)) (.skip)))))) (.region F_muntinref20_Of.r9))
def F_muntinref20_Of.r17 : List Oper := [
  ⟨(some 4), .mv (.c (.i .i64 (-1))), none⟩]
def F_muntinref20_Of.code : Code := .seq (.region F_muntinref20_Of.r0) (.seq (.region F_muntinref20_Of.r1) (.seq (.seq (.region F_muntinref20_Of.r2) (.cond (.t 23) (.seq (.region F_muntinref20_Of.r3) (.ret)) (.skip))) (.seq (.seq (.region F_muntinref20_Of.r4) (.cond (.t 28) (.seq (.region F_muntinref20_Of.r5) (.ret)) (.skip))) (.seq (.region F_muntinref20_Of.r6) (.seq (.seq (.region F_muntinref20_Of.r7) (.block 0 (.loop F_muntinref20_Of.l1))) (.seq (.region F_muntinref20_Of.r17) (.ret)))))))
def F_muntinref20_Of : Func := ⟨59, [.t 4], F_muntinref20_Of.code⟩
/-! muntin/front.Open -/
def F_front_Open.r0 : List Oper := [
  ⟨(some 2), .mv (.c (.i .i64 0)), none⟩,
  ⟨(some 3), .mv (.c (.b false)), none⟩]
def F_front_Open.r1 : List Oper := [
  ⟨(some 8), .mv (.t 0), none⟩,
  ⟨(some 9), .call (.c (.f 58 [])) [.t 8], none⟩,
  ⟨(some 10), .un .not (.t 9), none⟩]
def F_front_Open.r2 : List Oper := [
  ⟨(some 2), .mv (.c (.i .i64 0)), none⟩,
  ⟨(some 3), .mv (.c (.b false)), none⟩]
def F_front_Open.r3 : List Oper := [
  ⟨(some 11), .mv (.t 0), none⟩,
  ⟨(some 12), .len (.t 11), none⟩,
  ⟨(some 13), .mv (.c (.i .i64 0)), none⟩]
def F_front_Open.r4 : List Oper := [
  ⟨(some 14), .bin .lss (.t 13) (.t 12), none⟩]
def F_front_Open.r5 : List Oper := [
  ⟨(some 15), .mv (.t 13), none⟩,
  ⟨(some 16), .ixa 1 (.t 11) (.t 13), none⟩,
  ⟨(some 17), .ld false 1 (.t 16), none⟩,
  ⟨(some 4), .mv (.t 15), none⟩,
  ⟨(some 5), .mv (.t 17), none⟩]
def F_front_Open.r6 : List Oper := [
  ⟨(some 19), .mv (.t 0), none⟩,
  ⟨(some 20), .mv (.t 4), none⟩,
  ⟨(some 21), .call (.c (.f 13 [])) [.t 19, .t 20], none⟩,
  ⟨(some 18), .mv (.t 21), none⟩,
  ⟨(some 22), .ext (.t 18) 0, none⟩,
  ⟨(some 23), .ext (.t 18) 1, none⟩,
  ⟨(some 6), .mv (.t 22), none⟩,
  ⟨(some 7), .mv (.t 23), none⟩]
def F_front_Open.r7 : List Oper := [
  ⟨(some 24), .mv (.t 5), none⟩,
  ⟨(some 25), .bin .lss (.t 24) (.c (.i .i64 0)), none⟩,
  ⟨(some 26), .mv (.t 25), none⟩,
  ⟨(some 27), .mv (.t 7), (some (26, true))⟩,
  ⟨(some 28), .un .not (.t 27), (some (26, true))⟩,
  ⟨(some 29), .pick (.t 26) (.t 28) (.c (.b false)), none⟩]
def F_front_Open.r8 : List Oper := [
  ⟨(some 30), .mv (.t 4), none⟩,
  ⟨(some 2), .mv (.t 30), none⟩,
  ⟨(some 3), .mv (.c (.b true)), none⟩]
def F_front_Open.r9 : List Oper := [
  ⟨(some 31), .bin .add (.t 13) (.c (.i .i64 1)), none⟩,
  ⟨(some 13), .mv (.t 31), none⟩]
def F_front_Open.l0 : Code := .seq (.region F_front_Open.r4) (.seq (.cond (.t 14) (.skip) (.exit 0)) (.seq (.block 1 (.seq (.region F_front_Open.r5) (.seq (.region F_front_Open.r6) (.seq (.region F_front_Open.r7) (.cond (.t 29) (.seq (.region F_front_Open.r8) (.ret)) (.skip)))))) (.region F_front_Open.r9)))
def F_front_Open.r10 : List Oper := [
  ⟨(some 2), .mv (.c (.i .i64 0)), none⟩,
  ⟨(some 3), .mv (.c (.b false)), none⟩]
def F_front_Open.code : Code := .seq (.region F_front_Open.r0) (.seq (.seq (.region F_front_Open.r1) (.cond (.t 10) (.seq (.region F_front_Open.r2) (.ret)) (.skip))) (.seq (.seq (.region F_front_Open.r3) (.block 0 (.loop F_front_Open.l0))) (.seq (.region F_front_Open.r10) (.ret))))
def F_front_Open : Func := ⟨32, [.t 2, .t 3], F_front_Open.code⟩
/-! muntin/muntinref20.Open -/
def F_muntinref20_Open.r0 : List Oper := [
  ⟨(some 2), .mv (.c (.i .i64 0)), none⟩]
def F_muntinref20_Open.r1 : List Oper := [
  ⟨(some 6), .mv (.t 0), none⟩,
  ⟨(some 7), .call (.c (.f 21 [])) [.t 6], none⟩,
  ⟨(some 3), .mv (.t 7), none⟩]
def F_muntinref20_Open.r2 : List Oper := [
  ⟨(some 8), .mv (.t 3), none⟩,
  ⟨(some 9), .un .not (.t 8), none⟩]
def F_muntinref20_Open.r3 : List Oper := [
  ⟨(some 2), .mv (.c (.i .i64 (-1))), none⟩]
def F_muntinref20_Open.r4 : List Oper := [
  ⟨(some 4), .mv (.c (.i .i64 0)), none⟩]
def F_muntinref20_Open.r5 : List Oper := [
  ⟨(some 10), .mv (.t 4), none⟩,
  ⟨(some 11), .mv (.t 0), none⟩,
  ⟨(some 12), .len (.t 11), none⟩,
  ⟨(some 13), .bin .lss (.t 10) (.t 12), none⟩]
def F_muntinref20_Open.r7 : List Oper := [
  ⟨(some 16), .mv (.t 0), none⟩,
  ⟨(some 17), .mv (.t 4), none⟩,
  ⟨(some 18), .call (.c (.f 14 [])) [.t 16, .t 17], none⟩,
  ⟨(some 5), .mv (.t 18), none⟩]
def F_muntinref20_Open.r8 : List Oper := [
  ⟨(some 19), .mv (.t 0), none⟩,
  ⟨(some 20), .mv (.t 4), none⟩,
  ⟨(some 21), .ixa 1 (.t 19) (.t 20), none⟩,
  ⟨(some 22), .ld false 1 (.t 21), none⟩,
  ⟨(some 23), .bin .lss (.t 22) (.c (.i .i64 0)), none⟩,
  ⟨(some 24), .mv (.t 23), none⟩,
  ⟨(some 25), .mv (.t 5), (some (24, true))⟩,
  ⟨(some 26), .bin .lss (.t 25) (.c (.i .i64 0)), (some (24, true))⟩,
  ⟨(some 27), .pick (.t 24) (.t 26) (.c (.b false)), none⟩]
def F_muntinref20_Open.r9 : List Oper := [
  ⟨(some 28), .mv (.t 4), none⟩,
  ⟨(some 2), .mv (.t 28), none⟩]
def F_muntinref20_Open.r6 : List Oper := [
  ⟨(some 14), .mv (.t 4), none⟩,
  ⟨(some 15), .bin .add (.t 14) (.c (.i .i64 1)), none⟩,
  ⟨(some 4), .mv (.t 15), none⟩]
def F_muntinref20_Open.l0 : Code := .seq (.seq (.region F_muntinref20_Open.r5) (.cond (.t 13) (.skip) (.exit 0))) (.seq (.block 1 (.seq (.region F_muntinref20_Open.r7) (.seq (.region F_muntinref20_Open.r8) (.cond (.t 27) (.seq (.region F_muntinref20_Open.r9) (.ret)) (.skip))))) (.region F_muntinref20_Open.r6))
def F_muntinref20_Open.r10 : List Oper := [
  ⟨(some 2), .mv (.c (.i .i64 (-1))), none⟩]
def F_muntinref20_Open.code : Code := .seq (.region F_muntinref20_Open.r0) (.seq (.region F_muntinref20_Open.r1) (.seq (.seq (.region F_muntinref20_Open.r2) (.cond (.t 9) (.seq (.region F_muntinref20_Open.r3) (.ret)) (.skip))) (.seq (.seq (.region F_muntinref20_Open.r4) (.block 0 (.loop F_muntinref20_Open.l0))) (.seq (.region F_muntinref20_Open.r10) (.ret)))))
def F_muntinref20_Open : Func := ⟨29, [.t 2], F_muntinref20_Open.code⟩
/-! muntin/muntinlaw20.wakes -/
def F_muntinlaw20_wakes.r0 : List Oper := [
  ⟨(some 0), .mv (.c (.b false)), none⟩]
def F_muntinlaw20_wakes.r1 : List Oper := [
  ⟨(some 8), .bsl 1 6 [.i .i64 0] [(0, 1, .c (.i .i64 1)), (1, 1, .c (.i .i64 1)), (2, 1, .c (.i .i64 (-1))), (3, 1, .c (.i .i64 1)), (4, 1, .c (.i .i64 1)), (5, 1, .c (.i .i64 1))], none⟩,
  ⟨(some 1), .mv (.t 8), none⟩]
def F_muntinlaw20_wakes.r2 : List Oper := [
  ⟨(some 10), .mv (.t 1), none⟩,
  ⟨(some 11), .call (.c (.f 13 [])) [.t 10, .c (.i .i64 2)], none⟩,
  ⟨(some 9), .mv (.t 11), none⟩,
  ⟨(some 12), .ext (.t 9) 0, none⟩,
  ⟨(some 13), .ext (.t 9) 1, none⟩,
  ⟨(some 2), .mv (.t 12), none⟩,
  ⟨(some 3), .mv (.t 13), none⟩]
def F_muntinlaw20_wakes.r3 : List Oper := [
  ⟨(some 15), .mv (.t 1), none⟩,
  ⟨(some 16), .call (.c (.f 13 [])) [.t 15, .c (.i .i64 0)], none⟩,
  ⟨(some 14), .mv (.t 16), none⟩,
  ⟨(some 17), .ext (.t 14) 0, none⟩,
  ⟨(some 18), .ext (.t 14) 1, none⟩,
  ⟨(some 4), .mv (.t 17), none⟩,
  ⟨(some 5), .mv (.t 18), none⟩]
def F_muntinlaw20_wakes.r4 : List Oper := [
  ⟨(some 20), .bsl 1 2 [.i .i64 0] [(0, 1, .c (.i .i64 (-2))), (1, 1, .c (.i .i64 (-2)))], none⟩,
  ⟨(some 21), .call (.c (.f 15 [])) [.t 20], none⟩,
  ⟨(some 19), .mv (.t 21), none⟩,
  ⟨(some 22), .ext (.t 19) 0, none⟩,
  ⟨(some 23), .ext (.t 19) 1, none⟩,
  ⟨(some 6), .mv (.t 22), none⟩,
  ⟨(some 7), .mv (.t 23), none⟩]
def F_muntinlaw20_wakes.r5 : List Oper := [
  ⟨(some 24), .mv (.t 2), none⟩,
  ⟨(some 25), .eq false .sc (.t 24) (.c (.i .i64 5)), none⟩,
  ⟨(some 26), .mv (.t 25), none⟩,
  ⟨(some 27), .mv (.t 3), (some (26, true))⟩,
  ⟨(some 28), .pick (.t 26) (.t 27) (.c (.b false)), none⟩,
  ⟨(some 29), .mv (.t 28), none⟩,
  ⟨(some 30), .mv (.t 5), (some (29, true))⟩,
  ⟨(some 31), .un .not (.t 30), (some (29, true))⟩,
  ⟨(some 32), .pick (.t 29) (.t 31) (.c (.b false)), none⟩,
  ⟨(some 33), .mv (.t 32), none⟩,
  ⟨(some 34), .mv (.t 6), (some (33, true))⟩,
  ⟨(some 35), .eq false .sc (.t 34) (.c (.i .i64 0)), (some (33, true))⟩,
  ⟨(some 36), .pick (.t 33) (.t 35) (.c (.b false)), none⟩,
  ⟨(some 37), .mv (.t 36), none⟩,
  ⟨(some 38), .mv (.t 7), (some (37, true))⟩,
  ⟨(some 39), .pick (.t 37) (.t 38) (.c (.b false)), none⟩,
  ⟨(some 0), .mv (.t 39), none⟩]
def F_muntinlaw20_wakes.code : Code := .seq (.region F_muntinlaw20_wakes.r0) (.seq (.region F_muntinlaw20_wakes.r1) (.seq (.region F_muntinlaw20_wakes.r2) (.seq (.region F_muntinlaw20_wakes.r3) (.seq (.region F_muntinlaw20_wakes.r4) (.seq (.region F_muntinlaw20_wakes.r5) (.ret))))))
def F_muntinlaw20_wakes : Func := ⟨40, [.t 0], F_muntinlaw20_wakes.code⟩
/-! muntin/muntinref15.Good -/
def F_muntinref15_Good.r0 : List Oper := [
  ⟨(some 2), .mv (.c (.b false)), none⟩]
def F_muntinref15_Good.r1 : List Oper := [
  ⟨(some 3), .mv (.c (.i .i64 0)), none⟩]
def F_muntinref15_Good.r2 : List Oper := [
  ⟨(some 4), .mv (.t 3), none⟩,
  ⟨(some 5), .mv (.t 0), none⟩,
  ⟨(some 6), .len (.t 5), none⟩,
  ⟨(some 7), .bin .lss (.t 4) (.t 6), none⟩]
def F_muntinref15_Good.r4 : List Oper := [
  ⟨(some 10), .mv (.t 0), none⟩,
  ⟨(some 11), .mv (.t 3), none⟩,
  ⟨(some 12), .ixa 1 (.t 10) (.t 11), none⟩,
  ⟨(some 13), .ld false 1 (.t 12), none⟩,
  ⟨(some 14), .bin .lss (.t 13) (.c (.i .i64 (-2))), none⟩,
  ⟨(some 15), .mv (.t 14), none⟩,
  ⟨(some 16), .mv (.t 0), (some (15, false))⟩,
  ⟨(some 17), .mv (.t 3), (some (15, false))⟩,
  ⟨(some 18), .ixa 1 (.t 16) (.t 17), (some (15, false))⟩,
  ⟨(some 19), .ld false 1 (.t 18), (some (15, false))⟩,
  ⟨(some 20), .bin .gtr (.t 19) (.c (.i .i64 1)), (some (15, false))⟩,
  ⟨(some 21), .pick (.t 15) (.c (.b true)) (.t 20), none⟩]
def F_muntinref15_Good.r5 : List Oper := [
  ⟨(some 2), .mv (.c (.b false)), none⟩]
def F_muntinref15_Good.r3 : List Oper := [
  ⟨(some 8), .mv (.t 3), none⟩,
  ⟨(some 9), .bin .add (.t 8) (.c (.i .i64 1)), none⟩,
  ⟨(some 3), .mv (.t 9), none⟩]
def F_muntinref15_Good.l0 : Code := .seq (.seq (.region F_muntinref15_Good.r2) (.cond (.t 7) (.skip) (.exit 0))) (.seq (.block 1 (.seq (.region F_muntinref15_Good.r4) (.cond (.t 21) (.seq (.region F_muntinref15_Good.r5) (.ret)) (.skip)))) (.region F_muntinref15_Good.r3))
def F_muntinref15_Good.r6 : List Oper := [
  ⟨(some 2), .mv (.c (.b true)), none⟩]
def F_muntinref15_Good.code : Code := .seq (.region F_muntinref15_Good.r0) (.seq (.seq (.region F_muntinref15_Good.r1) (.block 0 (.loop F_muntinref15_Good.l0))) (.seq (.region F_muntinref15_Good.r6) (.ret)))
def F_muntinref15_Good : Func := ⟨22, [.t 2], F_muntinref15_Good.code⟩
/-! muntin/front.right -/
def F_front_right.r0 : List Oper := [
  ⟨(some 2), .mv (.c (.b false)), none⟩]
def F_front_right.r1 : List Oper := [
  ⟨(some 3), .mv (.t 0), none⟩,
  ⟨(some 4), .call (.c (.f 78 [])) [.t 3, .c (.f 79 [])], none⟩,
  ⟨(some 5), .un .not (.t 4), none⟩,
  ⟨(some 2), .mv (.t 5), none⟩]
def F_front_right.code : Code := .seq (.region F_front_right.r0) (.seq (.region F_front_right.r1) (.ret))
def F_front_right : Func := ⟨6, [.t 2], F_front_right.code⟩
/-! slices.ContainsFunc[[]int,int] -/
def F_slices_ContainsFunc_int.r0 : List Oper := [
  ⟨(some 4), .mv (.c (.b false)), none⟩]
def F_slices_ContainsFunc_int.r1 : List Oper := [
  ⟨(some 5), .mv (.t 0), none⟩,
  ⟨(some 6), .mv (.t 1), none⟩,
  ⟨(some 7), .call (.c (.f 91 [])) [.t 5, .t 6], none⟩,
  ⟨(some 8), .bin .geq (.t 7) (.c (.i .i64 0)), none⟩,
  ⟨(some 4), .mv (.t 8), none⟩]
def F_slices_ContainsFunc_int.code : Code := .seq (.region F_slices_ContainsFunc_int.r0) (.seq (.region F_slices_ContainsFunc_int.r1) (.ret))
def F_slices_ContainsFunc_int : Func := ⟨9, [.t 4], F_slices_ContainsFunc_int.code⟩
/-! muntin/front.right$1 -/
def F_front_right_1.r0 : List Oper := [
  ⟨(some 2), .mv (.c (.b false)), none⟩]
def F_front_right_1.r1 : List Oper := [
  ⟨(some 3), .mv (.t 0), none⟩,
  ⟨(some 4), .bin .lss (.t 3) (.c (.i .i64 (-2))), none⟩,
  ⟨(some 5), .mv (.t 4), none⟩,
  ⟨(some 6), .mv (.t 0), (some (5, false))⟩,
  ⟨(some 7), .bin .gtr (.t 6) (.c (.i .i64 1)), (some (5, false))⟩,
  ⟨(some 8), .pick (.t 5) (.c (.b true)) (.t 7), none⟩,
  ⟨(some 2), .mv (.t 8), none⟩]
def F_front_right_1.code : Code := .seq (.region F_front_right_1.r0) (.seq (.region F_front_right_1.r1) (.ret))
def F_front_right_1 : Func := ⟨9, [.t 2], F_front_right_1.code⟩
/-! slices.IndexFunc[[]int,int] -/
def F_slices_IndexFunc_int.r0 : List Oper := [
  ⟨(some 4), .mv (.c (.i .i64 0)), none⟩]
def F_slices_IndexFunc_int.r1 : List Oper := [
  ⟨(some 6), .mv (.t 0), none⟩,
  ⟨(some 7), .len (.t 6), none⟩,
  ⟨(some 8), .mv (.c (.i .i64 0)), none⟩]
def F_slices_IndexFunc_int.r2 : List Oper := [
  ⟨(some 9), .bin .lss (.t 8) (.t 7), none⟩]
def F_slices_IndexFunc_int.r3 : List Oper := [
  ⟨(some 10), .mv (.t 8), none⟩,
  ⟨(some 5), .mv (.t 10), none⟩]
def F_slices_IndexFunc_int.r4 : List Oper := [
  ⟨(some 11), .mv (.t 1), none⟩,
  ⟨(some 12), .mv (.t 0), none⟩,
  ⟨(some 13), .mv (.t 5), none⟩,
  ⟨(some 14), .ixa 1 (.t 12) (.t 13), none⟩,
  ⟨(some 15), .ld false 1 (.t 14), none⟩,
  ⟨(some 16), .call (.t 11) [.t 15], none⟩]
def F_slices_IndexFunc_int.r5 : List Oper := [
  ⟨(some 17), .mv (.t 5), none⟩,
  ⟨(some 4), .mv (.t 17), none⟩]
def F_slices_IndexFunc_int.r6 : List Oper := [
  ⟨(some 18), .bin .add (.t 8) (.c (.i .i64 1)), none⟩,
  ⟨(some 8), .mv (.t 18), none⟩]
def F_slices_IndexFunc_int.l0 : Code := .seq (.region F_slices_IndexFunc_int.r2) (.seq (.cond (.t 9) (.skip) (.exit 0)) (.seq (.block 1 (.seq (.region F_slices_IndexFunc_int.r3) (.seq (.region F_slices_IndexFunc_int.r4) (.cond (.t 16) (.seq (.region F_slices_IndexFunc_int.r5) (.ret)) (.skip))))) (.region F_slices_IndexFunc_int.r6)))
def F_slices_IndexFunc_int.r7 : List Oper := [
  ⟨(some 4), .mv (.c (.i .i64 (-1))), none⟩]
def F_slices_IndexFunc_int.code : Code := .seq (.region F_slices_IndexFunc_int.r0) (.seq (.seq (.region F_slices_IndexFunc_int.r1) (.block 0 (.loop F_slices_IndexFunc_int.l0))) (.seq (.region F_slices_IndexFunc_int.r7) (.ret)))
def F_slices_IndexFunc_int : Func := ⟨19, [.t 4], F_slices_IndexFunc_int.code⟩
def G : Prog := fun i => match i with
  | 0 => some F_muntinlaw20_FrontTells
  | 1 => some F_muntinlaw20_FrontAlways
  | 2 => some F_muntinlaw20_FrontShifts
  | 12 => some F_muntinlaw20_turns
  | 13 => some F_front_Of
  | 14 => some F_muntinref20_Of
  | 15 => some F_front_Open
  | 16 => some F_muntinref20_Open
  | 17 => some F_muntinlaw20_wakes
  | 21 => some F_muntinref15_Good
  | 58 => some F_front_right
  | 78 => some F_slices_ContainsFunc_int
  | 79 => some F_front_right_1
  | 91 => some F_slices_IndexFunc_int
  | _ => none
theorem G_F_muntinlaw20_FrontTells : G 0 = some F_muntinlaw20_FrontTells := rfl
theorem G_F_muntinlaw20_FrontAlways : G 1 = some F_muntinlaw20_FrontAlways := rfl
theorem G_F_muntinlaw20_FrontShifts : G 2 = some F_muntinlaw20_FrontShifts := rfl
theorem G_F_muntinlaw20_turns : G 12 = some F_muntinlaw20_turns := rfl
theorem G_F_front_Of : G 13 = some F_front_Of := rfl
theorem G_F_muntinref20_Of : G 14 = some F_muntinref20_Of := rfl
theorem G_F_front_Open : G 15 = some F_front_Open := rfl
theorem G_F_muntinref20_Open : G 16 = some F_muntinref20_Open := rfl
theorem G_F_muntinlaw20_wakes : G 17 = some F_muntinlaw20_wakes := rfl
theorem G_F_muntinref15_Good : G 21 = some F_muntinref15_Good := rfl
theorem G_F_front_right : G 58 = some F_front_right := rfl
theorem G_F_slices_ContainsFunc_int : G 78 = some F_slices_ContainsFunc_int := rfl
theorem G_F_front_right_1 : G 79 = some F_front_right_1 := rfl
theorem G_F_slices_IndexFunc_int : G 91 = some F_slices_IndexFunc_int := rfl
end Mu
