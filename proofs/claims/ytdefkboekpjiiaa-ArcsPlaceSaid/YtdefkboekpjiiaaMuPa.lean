/- The functions of the program, as the evaluator has them: printed by a program; checked against the model's. -/
import Derived.Test.YtdefkboekpjiiaaMuE0
namespace Mu
/-! muntin/muntinref10.Make -/
def F_muntinref10_Make.r0 : List Oper := [
  ⟨(some 2), .box (.t 0), none⟩,
  ⟨(some 4), .mv (.c (.sn)), none⟩,
  ⟨(some 5), .mv (.c (.sn)), none⟩]
def F_muntinref10_Make.r1 : List Oper := [
  ⟨(some 6), .mv (.c (.sn)), none⟩]
def F_muntinref10_Make.r2 : List Oper := [
  ⟨(some 7), .mv (.c (.i .i64 0)), none⟩]
def F_muntinref10_Make.r3 : List Oper := [
  ⟨(some 18), .mv (.t 7), none⟩,
  ⟨(some 19), .fa 0 (.t 2), none⟩,
  ⟨(some 20), .ld false 1 (.t 19), none⟩,
  ⟨(some 21), .len (.t 20), none⟩,
  ⟨(some 22), .bin .lss (.t 18) (.t 21), none⟩,
  ⟨(some 23), .mv (.t 22), none⟩,
  ⟨(some 24), .mv (.t 6), (some (23, true))⟩,
  ⟨(some 25), .len (.t 24), (some (23, true))⟩,
  ⟨(some 26), .mv (.t 1), (some (23, true))⟩,
  ⟨(some 27), .bin .lss (.t 25) (.t 26), (some (23, true))⟩,
  ⟨(some 28), .pick (.t 23) (.t 27) (.c (.b false)), none⟩]
def F_muntinref10_Make.r5 : List Oper := [
  ⟨(some 31), .fa 0 (.t 2), none⟩,
  ⟨(some 32), .ld false 1 (.t 31), none⟩,
  ⟨(some 33), .mv (.t 7), none⟩,
  ⟨(some 34), .ixa 1 (.t 32) (.t 33), none⟩,
  ⟨(some 35), .ld false 1 (.t 34), none⟩,
  ⟨(some 36), .conv .i64 (.t 35), none⟩,
  ⟨(some 37), .bin .rem (.t 36) (.c (.i .i64 8)), none⟩,
  ⟨(some 38), .fa 0 (.t 2), none⟩,
  ⟨(some 39), .ld false 1 (.t 38), none⟩,
  ⟨(some 40), .mv (.t 7), none⟩,
  ⟨(some 41), .ixa 1 (.t 39) (.t 40), none⟩,
  ⟨(some 42), .ld false 1 (.t 41), none⟩,
  ⟨(some 43), .conv .i64 (.t 42), none⟩,
  ⟨(some 44), .bin .quo (.t 43) (.c (.i .i64 8)), none⟩,
  ⟨(some 45), .bin .rem (.t 44) (.c (.i .i64 8)), none⟩,
  ⟨(some 46), .build [.i .i64 0, .i .i64 0] [(0, 1, .t 37), (1, 1, .t 45)], none⟩,
  ⟨(some 8), .alloc [.i .i64 0, .i .i64 0], none⟩,
  ⟨none, .st 2 (.t 8) (.t 46), none⟩]
def F_muntinref10_Make.r6 : List Oper := [
  ⟨(some 9), .mv (.c (.b false)), none⟩]
def F_muntinref10_Make.r7 : List Oper := [
  ⟨(some 10), .mv (.c (.i .i64 0)), none⟩]
def F_muntinref10_Make.r8 : List Oper := [
  ⟨(some 47), .mv (.t 10), none⟩,
  ⟨(some 48), .mv (.t 6), none⟩,
  ⟨(some 49), .len (.t 48), none⟩,
  ⟨(some 50), .bin .lss (.t 47) (.t 49), none⟩]
def F_muntinref10_Make.r10 : List Oper := [
  ⟨(some 53), .mv (.t 9), none⟩,
  ⟨(some 54), .mv (.t 53), none⟩,
  ⟨(some 55), .mv (.t 6), (some (54, false))⟩,
  ⟨(some 56), .mv (.t 10), (some (54, false))⟩,
  ⟨(some 57), .ixa 2 (.t 55) (.t 56), (some (54, false))⟩,
  ⟨(some 58), .ld true 2 (.t 57), (some (54, false))⟩,
  ⟨(some 59), .ld true 2 (.t 8), (some (54, false))⟩,
  ⟨(some 60), .eq false (.fl [.i, .i]) (.t 58) (.t 59), (some (54, false))⟩,
  ⟨(some 61), .pick (.t 54) (.c (.b true)) (.t 60), none⟩,
  ⟨(some 9), .mv (.t 61), none⟩]
def F_muntinref10_Make.r9 : List Oper := [
  ⟨(some 51), .mv (.t 10), none⟩,
  ⟨(some 52), .bin .add (.t 51) (.c (.i .i64 1)), none⟩,
  ⟨(some 10), .mv (.t 52), none⟩]
def F_muntinref10_Make.l0 : Code := .seq (.seq (.region F_muntinref10_Make.r8) (.cond (.t 50) (.skip) (.exit 2))) (.seq (.block 3 (.draw F_muntinref10_Make.r10 [(5, 6)])) (.region F_muntinref10_Make.r9))
def F_muntinref10_Make.r11 : List Oper := [
  ⟨(some 62), .mv (.t 9), none⟩,
  ⟨(some 63), .un .not (.t 62), none⟩]
def F_muntinref10_Make.r12 : List Oper := [
  ⟨(some 64), .mv (.t 6), none⟩,
  ⟨(some 65), .ld true 2 (.t 8), none⟩,
  ⟨(some 66), .bsl 2 1 [.i .i64 0, .i .i64 0] [(0, 2, .t 65)], none⟩,
  ⟨(some 67), .app 2 16 (.t 64) (.t 66), none⟩,
  ⟨(some 6), .mv (.t 67), none⟩]
def F_muntinref10_Make.r4 : List Oper := [
  ⟨(some 29), .mv (.t 7), none⟩,
  ⟨(some 30), .bin .add (.t 29) (.c (.i .i64 1)), none⟩,
  ⟨(some 7), .mv (.t 30), none⟩]
def F_muntinref10_Make.l1 : Code := .seq (.seq (.region F_muntinref10_Make.r3) (.cond (.t 28) (.skip) (.exit 0))) (.seq (.block 1 (.seq (.draw F_muntinref10_Make.r5 [(1, 8), (4, 8), (1, 11), (4, 11), (1, 16), (4, 16), (8, 16), (11, 16)]) (.seq (.region F_muntinref10_Make.r6) (.seq (.seq (.region F_muntinref10_Make.r7) (.block 2 (.loop F_muntinref10_Make.l0))) (.seq (.region F_muntinref10_Make.r11) (.cond (.t 63) (.region F_muntinref10_Make.r12) (.skip))))))) (.region F_muntinref10_Make.r4))
def F_muntinref10_Make.r13 : List Oper := [
  ⟨(some 68), .mv (.t 6), none⟩,
  ⟨(some 69), .len (.t 68), none⟩,
  ⟨(some 70), .call (.c (.f 46 [])) [.t 69], none⟩,
  ⟨(some 11), .mv (.t 70), none⟩]
def F_muntinref10_Make.r14 : List Oper := [
  ⟨(some 12), .mv (.c (.i .i64 0)), none⟩]
def F_muntinref10_Make.r15 : List Oper := [
  ⟨(some 71), .mv (.t 12), none⟩,
  ⟨(some 72), .mv (.t 6), none⟩,
  ⟨(some 73), .len (.t 72), none⟩,
  ⟨(some 74), .bin .lss (.t 71) (.t 73), none⟩]
def F_muntinref10_Make.r17 : List Oper := [
  ⟨(some 13), .mv (.c (.i .u8 3)), none⟩]
def F_muntinref10_Make.r18 : List Oper := [
  ⟨(some 77), .mv (.t 12), none⟩,
  ⟨(some 78), .fa 1 (.t 2), none⟩,
  ⟨(some 79), .ld false 1 (.t 78), none⟩,
  ⟨(some 80), .len (.t 79), none⟩,
  ⟨(some 81), .bin .lss (.t 77) (.t 80), none⟩]
def F_muntinref10_Make.r19 : List Oper := [
  ⟨(some 82), .fa 1 (.t 2), none⟩,
  ⟨(some 83), .ld false 1 (.t 82), none⟩,
  ⟨(some 84), .mv (.t 12), none⟩,
  ⟨(some 85), .ixa 1 (.t 83) (.t 84), none⟩,
  ⟨(some 86), .ld false 1 (.t 85), none⟩,
  ⟨(some 13), .mv (.t 86), none⟩]
def F_muntinref10_Make.r20 : List Oper := [
  ⟨(some 87), .mv (.t 12), none⟩,
  ⟨(some 14), .mv (.t 87), none⟩]
def F_muntinref10_Make.r21 : List Oper := [
  ⟨(some 88), .mv (.t 12), none⟩,
  ⟨(some 89), .fa 2 (.t 2), none⟩,
  ⟨(some 90), .ld false 1 (.t 89), none⟩,
  ⟨(some 91), .len (.t 90), none⟩,
  ⟨(some 92), .bin .lss (.t 88) (.t 91), none⟩]
def F_muntinref10_Make.r22 : List Oper := [
  ⟨(some 93), .fa 2 (.t 2), none⟩,
  ⟨(some 94), .ld false 1 (.t 93), none⟩,
  ⟨(some 95), .mv (.t 12), none⟩,
  ⟨(some 96), .ixa 1 (.t 94) (.t 95), none⟩,
  ⟨(some 97), .ld false 1 (.t 96), none⟩,
  ⟨(some 98), .conv .i64 (.t 97), none⟩,
  ⟨(some 14), .mv (.t 98), none⟩]
def F_muntinref10_Make.r23 : List Oper := [
  ⟨(some 99), .mv (.t 14), none⟩,
  ⟨(some 100), .bin .lss (.t 99) (.c (.i .i64 (-2))), none⟩]
def F_muntinref10_Make.r24 : List Oper := [
  ⟨(some 101), .mv (.t 14), none⟩,
  ⟨(some 102), .un .neg (.t 101), none⟩,
  ⟨(some 14), .mv (.t 102), none⟩]
def F_muntinref10_Make.r25 : List Oper := [
  ⟨(some 15), .mv (.c (.i .i64 0)), none⟩]
def F_muntinref10_Make.r26 : List Oper := [
  ⟨(some 103), .mv (.t 15), none⟩,
  ⟨(some 104), .bin .lss (.t 103) (.c (.i .i64 2)), none⟩]
def F_muntinref10_Make.r28 : List Oper := [
  ⟨(some 107), .mv (.t 6), none⟩,
  ⟨(some 108), .mv (.t 12), none⟩,
  ⟨(some 109), .mv (.t 15), none⟩,
  ⟨(some 110), .call (.c (.f 63 [])) [.t 107, .t 108, .t 109], none⟩,
  ⟨(some 16), .mv (.t 110), none⟩]
def F_muntinref10_Make.r29 : List Oper := [
  ⟨(some 111), .mv (.t 13), none⟩,
  ⟨(some 112), .mv (.t 15), none⟩,
  ⟨(some 113), .bin .shr (.t 111) (.t 112), none⟩,
  ⟨(some 114), .bin .and (.t 113) (.c (.i .u8 1)), none⟩,
  ⟨(some 115), .eq false .sc (.t 114) (.c (.i .u8 0)), none⟩,
  ⟨(some 116), .mv (.t 115), none⟩,
  ⟨(some 117), .mv (.t 16), (some (116, false))⟩,
  ⟨(some 118), .bin .lss (.t 117) (.c (.i .i64 0)), (some (116, false))⟩,
  ⟨(some 119), .pick (.t 116) (.c (.b true)) (.t 118), none⟩]
def F_muntinref10_Make.r30 : List Oper := [
  ⟨(some 120), .mv (.t 6), none⟩,
  ⟨(some 121), .mv (.t 11), none⟩,
  ⟨(some 122), .mv (.t 12), none⟩,
  ⟨(some 123), .mv (.t 16), none⟩,
  ⟨(some 124), .call (.c (.f 64 [])) [.t 120, .t 121, .t 122, .t 123], none⟩,
  ⟨(some 17), .mv (.t 124), none⟩]
def F_muntinref10_Make.r31 : List Oper := [
  ⟨(some 125), .mv (.t 17), none⟩,
  ⟨(some 126), .un .not (.t 125), none⟩]
def F_muntinref10_Make.r32 : List Oper := [
  ⟨(some 127), .mv (.t 11), none⟩,
  ⟨(some 128), .mv (.t 12), none⟩,
  ⟨(some 129), .mv (.t 15), none⟩,
  ⟨(some 130), .mv (.t 16), none⟩,
  ⟨(some 131), .mv (.t 14), none⟩,
  ⟨(some 132), .call (.c (.f 65 [])) [.t 127, .t 128, .t 129, .t 130, .t 131], none⟩,
  ⟨(some 11), .mv (.t 132), none⟩]
def F_muntinref10_Make.r27 : List Oper := [
  ⟨(some 105), .mv (.t 15), none⟩,
  ⟨(some 106), .bin .add (.t 105) (.c (.i .i64 1)), none⟩,
  ⟨(some 15), .mv (.t 106), none⟩]
def F_muntinref10_Make.l2 : Code := .seq (.seq (.region F_muntinref10_Make.r26) (.cond (.t 104) (.skip) (.exit 6))) (.seq (.block 7 (.seq (.region F_muntinref10_Make.r28) (.seq (.seq (.region F_muntinref10_Make.r29) (.cond (.t 119) (.exit 7) (.skip))) (.seq (.region F_muntinref10_Make.r30) (.seq (.region F_muntinref10_Make.r31) (.cond (.t 126) (.region F_muntinref10_Make.r32) (.skip))))))) (.region F_muntinref10_Make.r27))
def F_muntinref10_Make.r16 : List Oper := [
  ⟨(some 75), .mv (.t 12), none⟩,
  ⟨(some 76), .bin .add (.t 75) (.c (.i .i64 1)), none⟩,
  ⟨(some 12), .mv (.t 76), none⟩]
def F_muntinref10_Make.l3 : Code := .seq (.seq (.region F_muntinref10_Make.r15) (.cond (.t 74) (.skip) (.exit 4))) (.seq (.block 5 (.seq (.region F_muntinref10_Make.r17) (.seq (.seq (.region F_muntinref10_Make.r18) (.cond (.t 81) (.region F_muntinref10_Make.r19) (.skip))) (.seq (.region F_muntinref10_Make.r20) (.seq (.seq (.region F_muntinref10_Make.r21) (.cond (.t 92) (.seq (.region F_muntinref10_Make.r22) (.seq (.region F_muntinref10_Make.r23) (.cond (.t 100) (.region F_muntinref10_Make.r24) (.skip)))) (.skip))) (.seq (.region F_muntinref10_Make.r25) (.block 6 (.loop F_muntinref10_Make.l2)))))))) (.region F_muntinref10_Make.r16))
def F_muntinref10_Make.r33 : List Oper := [
  ⟨(some 133), .mv (.t 11), none⟩,
  ⟨(some 134), .mv (.t 6), none⟩,
  ⟨(some 4), .mv (.t 133), none⟩,
  ⟨(some 5), .mv (.t 134), none⟩]
def F_muntinref10_Make.code : Code := .seq (.region F_muntinref10_Make.r0) (.seq (.region F_muntinref10_Make.r1) (.seq (.seq (.region F_muntinref10_Make.r2) (.block 0 (.loop F_muntinref10_Make.l1))) (.seq (.region F_muntinref10_Make.r13) (.seq (.seq (.region F_muntinref10_Make.r14) (.block 4 (.loop F_muntinref10_Make.l3))) (.seq (.region F_muntinref10_Make.r33) (.ret))))))
def F_muntinref10_Make : Func := ⟨135, [.t 4, .t 5], F_muntinref10_Make.code⟩
/-! muntin/muntinref10.New -/
def F_muntinref10_New.r0 : List Oper := [
  ⟨(some 2), .mv (.c (.sn)), none⟩]
def F_muntinref10_New.r1 : List Oper := [
  ⟨(some 6), .mv (.t 0), none⟩,
  ⟨(some 7), .mks 8 64 [.i .i64 0, .i .i64 0, .i .i64 0, .i .i64 0, .i .i64 0, .i .i64 0, .i .i64 0, .i .i64 0] (.t 6) (.t 6), none⟩,
  ⟨(some 3), .mv (.t 7), none⟩]
def F_muntinref10_New.r2 : List Oper := [
  ⟨(some 4), .mv (.c (.i .i64 0)), none⟩]
def F_muntinref10_New.r3 : List Oper := [
  ⟨(some 8), .mv (.t 4), none⟩,
  ⟨(some 9), .mv (.t 0), none⟩,
  ⟨(some 10), .bin .lss (.t 8) (.t 9), none⟩]
def F_muntinref10_New.r5 : List Oper := [
  ⟨(some 5), .mv (.c (.i .i64 0)), none⟩]
def F_muntinref10_New.r6 : List Oper := [
  ⟨(some 13), .mv (.t 5), none⟩,
  ⟨(some 14), .bin .lss (.t 13) (.c (.i .i64 4)), none⟩]
def F_muntinref10_New.r8 : List Oper := [
  ⟨(some 17), .mv (.t 3), none⟩,
  ⟨(some 18), .mv (.t 4), none⟩,
  ⟨(some 19), .mv (.t 5), none⟩,
  ⟨(some 20), .ixa 8 (.t 17) (.t 18), none⟩,
  ⟨(some 21), .fa 0 (.t 20), none⟩,
  ⟨(some 22), .ixaa 1 4 (.t 21) (.t 19), none⟩,
  ⟨none, .st 1 (.t 22) (.c (.i .i64 (-1))), none⟩]
def F_muntinref10_New.r7 : List Oper := [
  ⟨(some 15), .mv (.t 5), none⟩,
  ⟨(some 16), .bin .add (.t 15) (.c (.i .i64 1)), none⟩,
  ⟨(some 5), .mv (.t 16), none⟩]
def F_muntinref10_New.l0 : Code := .seq (.seq (.region F_muntinref10_New.r6) (.cond (.t 14) (.skip) (.exit 2))) (.seq (.block 3 (.region F_muntinref10_New.r8)) (.region F_muntinref10_New.r7))
def F_muntinref10_New.r4 : List Oper := [
  ⟨(some 11), .mv (.t 4), none⟩,
  ⟨(some 12), .bin .add (.t 11) (.c (.i .i64 1)), none⟩,
  ⟨(some 4), .mv (.t 12), none⟩]
def F_muntinref10_New.l1 : Code := .seq (.seq (.region F_muntinref10_New.r3) (.cond (.t 10) (.skip) (.exit 0))) (.seq (.block 1 (.seq (.region F_muntinref10_New.r5) (.block 2 (.loop F_muntinref10_New.l0)))) (.region F_muntinref10_New.r4))
def F_muntinref10_New.r9 : List Oper := [
  ⟨(some 23), .mv (.t 3), none⟩,
  ⟨(some 2), .mv (.t 23), none⟩]
def F_muntinref10_New.code : Code := .seq (.region F_muntinref10_New.r0) (.seq (.region F_muntinref10_New.r1) (.seq (.seq (.region F_muntinref10_New.r2) (.block 0 (.loop F_muntinref10_New.l1))) (.seq (.region F_muntinref10_New.r9) (.ret))))
def F_muntinref10_New : Func := ⟨24, [.t 2], F_muntinref10_New.code⟩
/-! muntin/muntinref10.Join -/
def F_muntinref10_Join.r0 : List Oper := [
  ⟨(some 10), .mv (.c (.sn)), none⟩,
  ⟨(some 11), .mv (.c (.i .i64 0)), none⟩]
def F_muntinref10_Join.r1 : List Oper := [
  ⟨(some 13), .mv (.t 1), none⟩,
  ⟨(some 14), .bin .lss (.t 13) (.c (.i .i64 0)), none⟩,
  ⟨(some 15), .mv (.t 14), none⟩,
  ⟨(some 16), .mv (.t 1), (some (15, false))⟩,
  ⟨(some 17), .mv (.t 0), (some (15, false))⟩,
  ⟨(some 18), .len (.t 17), (some (15, false))⟩,
  ⟨(some 19), .bin .geq (.t 16) (.t 18), (some (15, false))⟩,
  ⟨(some 20), .pick (.t 15) (.c (.b true)) (.t 19), none⟩,
  ⟨(some 21), .mv (.t 20), none⟩,
  ⟨(some 22), .mv (.t 3), (some (21, false))⟩,
  ⟨(some 23), .bin .lss (.t 22) (.c (.i .i64 0)), (some (21, false))⟩,
  ⟨(some 24), .pick (.t 21) (.c (.b true)) (.t 23), none⟩,
  ⟨(some 25), .mv (.t 24), none⟩,
  ⟨(some 26), .mv (.t 3), (some (25, false))⟩,
  ⟨(some 27), .mv (.t 0), (some (25, false))⟩,
  ⟨(some 28), .len (.t 27), (some (25, false))⟩,
  ⟨(some 29), .bin .geq (.t 26) (.t 28), (some (25, false))⟩,
  ⟨(some 30), .pick (.t 25) (.c (.b true)) (.t 29), none⟩,
  ⟨(some 31), .mv (.t 30), none⟩,
  ⟨(some 32), .mv (.t 1), (some (31, false))⟩,
  ⟨(some 33), .mv (.t 3), (some (31, false))⟩,
  ⟨(some 34), .eq false .sc (.t 32) (.t 33), (some (31, false))⟩,
  ⟨(some 35), .pick (.t 31) (.c (.b true)) (.t 34), none⟩,
  ⟨(some 36), .mv (.t 35), none⟩,
  ⟨(some 37), .mv (.t 2), (some (36, false))⟩,
  ⟨(some 38), .bin .lss (.t 37) (.c (.i .i64 0)), (some (36, false))⟩,
  ⟨(some 39), .pick (.t 36) (.c (.b true)) (.t 38), none⟩,
  ⟨(some 40), .mv (.t 39), none⟩,
  ⟨(some 41), .mv (.t 2), (some (40, false))⟩,
  ⟨(some 42), .bin .gtr (.t 41) (.c (.i .i64 3)), (some (40, false))⟩,
  ⟨(some 43), .pick (.t 40) (.c (.b true)) (.t 42), none⟩,
  ⟨(some 44), .mv (.t 43), none⟩,
  ⟨(some 45), .mv (.t 4), (some (44, false))⟩,
  ⟨(some 46), .bin .lss (.t 45) (.c (.i .i64 (-2))), (some (44, false))⟩,
  ⟨(some 47), .pick (.t 44) (.c (.b true)) (.t 46), none⟩]
def F_muntinref10_Join.r2 : List Oper := [
  ⟨(some 48), .mv (.t 0), none⟩,
  ⟨(some 10), .mv (.t 48), none⟩,
  ⟨(some 11), .mv (.c (.i .i64 2)), none⟩]
def F_muntinref10_Join.r3 : List Oper := [
  ⟨(some 49), .mv (.t 0), none⟩,
  ⟨(some 50), .mv (.t 1), none⟩,
  ⟨(some 51), .mv (.t 2), none⟩,
  ⟨(some 52), .ixa 8 (.t 49) (.t 50), none⟩,
  ⟨(some 53), .fa 0 (.t 52), none⟩,
  ⟨(some 54), .ixaa 1 4 (.t 53) (.t 51), none⟩,
  ⟨(some 55), .ld false 1 (.t 54), none⟩,
  ⟨(some 56), .eq true .sc (.t 55) (.c (.i .i64 (-1))), none⟩,
  ⟨(some 57), .mv (.t 56), none⟩,
  ⟨(some 58), .mv (.t 0), (some (57, false))⟩,
  ⟨(some 59), .mv (.t 3), (some (57, false))⟩,
  ⟨(some 60), .mv (.t 2), (some (57, false))⟩,
  ⟨(some 61), .bin .add (.t 60) (.c (.i .i64 2)), (some (57, false))⟩,
  ⟨(some 62), .bin .rem (.t 61) (.c (.i .i64 4)), (some (57, false))⟩,
  ⟨(some 63), .ixa 8 (.t 58) (.t 59), (some (57, false))⟩,
  ⟨(some 64), .fa 0 (.t 63), (some (57, false))⟩,
  ⟨(some 65), .ixaa 1 4 (.t 64) (.t 62), (some (57, false))⟩,
  ⟨(some 66), .ld false 1 (.t 65), (some (57, false))⟩,
  ⟨(some 67), .eq true .sc (.t 66) (.c (.i .i64 (-1))), (some (57, false))⟩,
  ⟨(some 68), .pick (.t 57) (.c (.b true)) (.t 67), none⟩]
def F_muntinref10_Join.r4 : List Oper := [
  ⟨(some 69), .mv (.t 0), none⟩,
  ⟨(some 10), .mv (.t 69), none⟩,
  ⟨(some 11), .mv (.c (.i .i64 9)), none⟩]
def F_muntinref10_Join.r5 : List Oper := [
  ⟨(some 70), .mv (.t 0), none⟩,
  ⟨(some 71), .mv (.t 1), none⟩,
  ⟨(some 72), .mv (.t 2), none⟩,
  ⟨(some 73), .mv (.t 3), none⟩,
  ⟨(some 74), .mv (.t 4), none⟩,
  ⟨(some 75), .call (.c (.f 65 [])) [.t 70, .t 71, .t 72, .t 73, .t 74], none⟩,
  ⟨(some 12), .mv (.t 75), none⟩]
def F_muntinref10_Join.r6 : List Oper := [
  ⟨(some 76), .mv (.t 12), none⟩,
  ⟨(some 10), .mv (.t 76), none⟩,
  ⟨(some 11), .mv (.c (.i .i64 0)), none⟩]
def F_muntinref10_Join.code : Code := .seq (.region F_muntinref10_Join.r0) (.seq (.seq (.region F_muntinref10_Join.r1) (.cond (.t 47) (.seq (.region F_muntinref10_Join.r2) (.ret)) (.skip))) (.seq (.seq (.region F_muntinref10_Join.r3) (.cond (.t 68) (.seq (.region F_muntinref10_Join.r4) (.ret)) (.skip))) (.seq (.region F_muntinref10_Join.r5) (.seq (.region F_muntinref10_Join.r6) (.ret)))))
def F_muntinref10_Join : Func := ⟨77, [.t 10, .t 11], F_muntinref10_Join.code⟩
/-! muntin/muntinref10.Nearest -/
def F_muntinref10_Nearest.r0 : List Oper := [
  ⟨(some 6), .mv (.c (.i .i64 0)), none⟩]
def F_muntinref10_Nearest.r1 : List Oper := [
  ⟨(some 7), .mv (.c (.i .i64 (-1))), none⟩]
def F_muntinref10_Nearest.r2 : List Oper := [
  ⟨(some 8), .mv (.c (.i .i64 0)), none⟩]
def F_muntinref10_Nearest.r3 : List Oper := [
  ⟨(some 9), .mv (.t 8), none⟩,
  ⟨(some 10), .mv (.t 0), none⟩,
  ⟨(some 11), .len (.t 10), none⟩,
  ⟨(some 12), .bin .lss (.t 9) (.t 11), none⟩]
def F_muntinref10_Nearest.r5 : List Oper := [
  ⟨(some 15), .mv (.t 2), none⟩,
  ⟨(some 16), .eq false .sc (.t 15) (.c (.i .i64 0)), none⟩,
  ⟨(some 17), .mv (.t 16), none⟩,
  ⟨(some 18), .mv (.t 0), (some (17, true))⟩,
  ⟨(some 19), .mv (.t 8), (some (17, true))⟩,
  ⟨(some 20), .ixa 2 (.t 18) (.t 19), (some (17, true))⟩,
  ⟨(some 21), .fa 1 (.t 20), (some (17, true))⟩,
  ⟨(some 22), .ld false 1 (.t 21), (some (17, true))⟩,
  ⟨(some 23), .mv (.t 0), (some (17, true))⟩,
  ⟨(some 24), .mv (.t 1), (some (17, true))⟩,
  ⟨(some 25), .ixa 2 (.t 23) (.t 24), (some (17, true))⟩,
  ⟨(some 26), .fa 1 (.t 25), (some (17, true))⟩,
  ⟨(some 27), .ld false 1 (.t 26), (some (17, true))⟩,
  ⟨(some 28), .eq false .sc (.t 22) (.t 27), (some (17, true))⟩,
  ⟨(some 29), .pick (.t 17) (.t 28) (.c (.b false)), none⟩,
  ⟨(some 30), .mv (.t 29), none⟩,
  ⟨(some 31), .mv (.t 0), (some (30, true))⟩,
  ⟨(some 32), .mv (.t 8), (some (30, true))⟩,
  ⟨(some 33), .ixa 2 (.t 31) (.t 32), (some (30, true))⟩,
  ⟨(some 34), .fa 0 (.t 33), (some (30, true))⟩,
  ⟨(some 35), .ld false 1 (.t 34), (some (30, true))⟩,
  ⟨(some 36), .mv (.t 0), (some (30, true))⟩,
  ⟨(some 37), .mv (.t 1), (some (30, true))⟩,
  ⟨(some 38), .ixa 2 (.t 36) (.t 37), (some (30, true))⟩,
  ⟨(some 39), .fa 0 (.t 38), (some (30, true))⟩,
  ⟨(some 40), .ld false 1 (.t 39), (some (30, true))⟩,
  ⟨(some 41), .bin .gtr (.t 35) (.t 40), (some (30, true))⟩,
  ⟨(some 42), .pick (.t 30) (.t 41) (.c (.b false)), none⟩,
  ⟨(some 43), .mv (.t 42), none⟩,
  ⟨(some 44), .mv (.t 7), (some (43, true))⟩,
  ⟨(some 45), .bin .lss (.t 44) (.c (.i .i64 0)), (some (43, true))⟩,
  ⟨(some 46), .mv (.t 45), (some (43, true))⟩,
  ⟨(some 47), .mv (.t 0), (some (46, false))⟩,
  ⟨(some 48), .mv (.t 8), (some (46, false))⟩,
  ⟨(some 49), .ixa 2 (.t 47) (.t 48), (some (46, false))⟩,
  ⟨(some 50), .fa 0 (.t 49), (some (46, false))⟩,
  ⟨(some 51), .ld false 1 (.t 50), (some (46, false))⟩,
  ⟨(some 52), .mv (.t 0), (some (46, false))⟩,
  ⟨(some 53), .mv (.t 7), (some (46, false))⟩,
  ⟨(some 54), .ixa 2 (.t 52) (.t 53), (some (46, false))⟩,
  ⟨(some 55), .fa 0 (.t 54), (some (46, false))⟩,
  ⟨(some 56), .ld false 1 (.t 55), (some (46, false))⟩,
  ⟨(some 57), .bin .lss (.t 51) (.t 56), (some (46, false))⟩,
  ⟨(some 58), .pick (.t 46) (.c (.b true)) (.t 57), (some (43, true))⟩,
  ⟨(some 59), .pick (.t 43) (.t 58) (.c (.b false)), none⟩]
def F_muntinref10_Nearest.r6 : List Oper := [
  ⟨(some 60), .mv (.t 8), none⟩,
  ⟨(some 7), .mv (.t 60), none⟩]
def F_muntinref10_Nearest.r7 : List Oper := [
  ⟨(some 61), .mv (.t 2), none⟩,
  ⟨(some 62), .eq false .sc (.t 61) (.c (.i .i64 1)), none⟩,
  ⟨(some 63), .mv (.t 62), none⟩,
  ⟨(some 64), .mv (.t 0), (some (63, true))⟩,
  ⟨(some 65), .mv (.t 8), (some (63, true))⟩,
  ⟨(some 66), .ixa 2 (.t 64) (.t 65), (some (63, true))⟩,
  ⟨(some 67), .fa 0 (.t 66), (some (63, true))⟩,
  ⟨(some 68), .ld false 1 (.t 67), (some (63, true))⟩,
  ⟨(some 69), .mv (.t 0), (some (63, true))⟩,
  ⟨(some 70), .mv (.t 1), (some (63, true))⟩,
  ⟨(some 71), .ixa 2 (.t 69) (.t 70), (some (63, true))⟩,
  ⟨(some 72), .fa 0 (.t 71), (some (63, true))⟩,
  ⟨(some 73), .ld false 1 (.t 72), (some (63, true))⟩,
  ⟨(some 74), .eq false .sc (.t 68) (.t 73), (some (63, true))⟩,
  ⟨(some 75), .pick (.t 63) (.t 74) (.c (.b false)), none⟩,
  ⟨(some 76), .mv (.t 75), none⟩,
  ⟨(some 77), .mv (.t 0), (some (76, true))⟩,
  ⟨(some 78), .mv (.t 8), (some (76, true))⟩,
  ⟨(some 79), .ixa 2 (.t 77) (.t 78), (some (76, true))⟩,
  ⟨(some 80), .fa 1 (.t 79), (some (76, true))⟩,
  ⟨(some 81), .ld false 1 (.t 80), (some (76, true))⟩,
  ⟨(some 82), .mv (.t 0), (some (76, true))⟩,
  ⟨(some 83), .mv (.t 1), (some (76, true))⟩,
  ⟨(some 84), .ixa 2 (.t 82) (.t 83), (some (76, true))⟩,
  ⟨(some 85), .fa 1 (.t 84), (some (76, true))⟩,
  ⟨(some 86), .ld false 1 (.t 85), (some (76, true))⟩,
  ⟨(some 87), .bin .gtr (.t 81) (.t 86), (some (76, true))⟩,
  ⟨(some 88), .pick (.t 76) (.t 87) (.c (.b false)), none⟩,
  ⟨(some 89), .mv (.t 88), none⟩,
  ⟨(some 90), .mv (.t 7), (some (89, true))⟩,
  ⟨(some 91), .bin .lss (.t 90) (.c (.i .i64 0)), (some (89, true))⟩,
  ⟨(some 92), .mv (.t 91), (some (89, true))⟩,
  ⟨(some 93), .mv (.t 0), (some (92, false))⟩,
  ⟨(some 94), .mv (.t 8), (some (92, false))⟩,
  ⟨(some 95), .ixa 2 (.t 93) (.t 94), (some (92, false))⟩,
  ⟨(some 96), .fa 1 (.t 95), (some (92, false))⟩,
  ⟨(some 97), .ld false 1 (.t 96), (some (92, false))⟩,
  ⟨(some 98), .mv (.t 0), (some (92, false))⟩,
  ⟨(some 99), .mv (.t 7), (some (92, false))⟩,
  ⟨(some 100), .ixa 2 (.t 98) (.t 99), (some (92, false))⟩,
  ⟨(some 101), .fa 1 (.t 100), (some (92, false))⟩,
  ⟨(some 102), .ld false 1 (.t 101), (some (92, false))⟩,
  ⟨(some 103), .bin .lss (.t 97) (.t 102), (some (92, false))⟩,
  ⟨(some 104), .pick (.t 92) (.c (.b true)) (.t 103), (some (89, true))⟩,
  ⟨(some 105), .pick (.t 89) (.t 104) (.c (.b false)), none⟩]
def F_muntinref10_Nearest.r8 : List Oper := [
  ⟨(some 106), .mv (.t 8), none⟩,
  ⟨(some 7), .mv (.t 106), none⟩]
def F_muntinref10_Nearest.r4 : List Oper := [
  ⟨(some 13), .mv (.t 8), none⟩,
  ⟨(some 14), .bin .add (.t 13) (.c (.i .i64 1)), none⟩,
  ⟨(some 8), .mv (.t 14), none⟩]
def F_muntinref10_Nearest.l0 : Code := .seq (.seq (.region F_muntinref10_Nearest.r3) (.cond (.t 12) (.skip) (.exit 0))) (.seq (.block 1 (.seq (.seq (.draw F_muntinref10_Nearest.r5 [(7, 12), (20, 25), (36, 41)]) (.cond (.t 59) (.region F_muntinref10_Nearest.r6) (.skip))) (.seq (.draw F_muntinref10_Nearest.r7 [(7, 12), (20, 25), (36, 41)]) (.cond (.t 105) (.region F_muntinref10_Nearest.r8) (.skip))))) (.region F_muntinref10_Nearest.r4))
def F_muntinref10_Nearest.r9 : List Oper := [
  ⟨(some 107), .mv (.t 7), none⟩,
  ⟨(some 6), .mv (.t 107), none⟩]
def F_muntinref10_Nearest.code : Code := .seq (.region F_muntinref10_Nearest.r0) (.seq (.region F_muntinref10_Nearest.r1) (.seq (.seq (.region F_muntinref10_Nearest.r2) (.block 0 (.loop F_muntinref10_Nearest.l0))) (.seq (.region F_muntinref10_Nearest.r9) (.ret))))
def F_muntinref10_Nearest : Func := ⟨108, [.t 6], F_muntinref10_Nearest.code⟩
/-! muntin/muntinref10.Crossed -/
def F_muntinref10_Crossed.r0 : List Oper := [
  ⟨(some 8), .mv (.c (.b false)), none⟩]
def F_muntinref10_Crossed.r1 : List Oper := [
  ⟨(some 9), .mv (.c (.i .i64 0)), none⟩]
def F_muntinref10_Crossed.r2 : List Oper := [
  ⟨(some 14), .mv (.t 9), none⟩,
  ⟨(some 15), .mv (.t 1), none⟩,
  ⟨(some 16), .len (.t 15), none⟩,
  ⟨(some 17), .bin .lss (.t 14) (.t 16), none⟩]
def F_muntinref10_Crossed.r4 : List Oper := [
  ⟨(some 10), .mv (.c (.i .i64 0)), none⟩]
def F_muntinref10_Crossed.r5 : List Oper := [
  ⟨(some 20), .mv (.t 10), none⟩,
  ⟨(some 21), .bin .lss (.t 20) (.c (.i .i64 2)), none⟩]
def F_muntinref10_Crossed.r7 : List Oper := [
  ⟨(some 24), .mv (.t 1), none⟩,
  ⟨(some 25), .mv (.t 9), none⟩,
  ⟨(some 26), .mv (.t 10), none⟩,
  ⟨(some 27), .ixa 8 (.t 24) (.t 25), none⟩,
  ⟨(some 28), .fa 0 (.t 27), none⟩,
  ⟨(some 29), .ixaa 1 4 (.t 28) (.t 26), none⟩,
  ⟨(some 30), .ld false 1 (.t 29), none⟩,
  ⟨(some 11), .mv (.t 30), none⟩]
def F_muntinref10_Crossed.r8 : List Oper := [
  ⟨(some 31), .mv (.t 11), none⟩,
  ⟨(some 32), .bin .lss (.t 31) (.c (.i .i64 0)), none⟩]
def F_muntinref10_Crossed.r9 : List Oper := [
  ⟨(some 33), .mv (.t 0), none⟩,
  ⟨(some 34), .mv (.t 9), none⟩,
  ⟨(some 35), .ixa 2 (.t 33) (.t 34), none⟩,
  ⟨(some 36), .ld true 2 (.t 35), none⟩,
  ⟨(some 12), .alloc [.i .i64 0, .i .i64 0], none⟩,
  ⟨none, .st 2 (.t 12) (.t 36), none⟩]
def F_muntinref10_Crossed.r10 : List Oper := [
  ⟨(some 37), .mv (.t 0), none⟩,
  ⟨(some 38), .mv (.t 11), none⟩,
  ⟨(some 39), .ixa 2 (.t 37) (.t 38), none⟩,
  ⟨(some 40), .ld true 2 (.t 39), none⟩,
  ⟨(some 13), .alloc [.i .i64 0, .i .i64 0], none⟩,
  ⟨none, .st 2 (.t 13) (.t 40), none⟩]
def F_muntinref10_Crossed.r11 : List Oper := [
  ⟨(some 41), .fa 1 (.t 12), none⟩,
  ⟨(some 42), .ld false 1 (.t 41), none⟩,
  ⟨(some 43), .fa 1 (.t 13), none⟩,
  ⟨(some 44), .ld false 1 (.t 43), none⟩,
  ⟨(some 45), .eq false .sc (.t 42) (.t 44), none⟩,
  ⟨(some 46), .mv (.t 45), none⟩,
  ⟨(some 47), .mv (.t 0), (some (46, true))⟩,
  ⟨(some 48), .mv (.t 2), (some (46, true))⟩,
  ⟨(some 49), .ixa 2 (.t 47) (.t 48), (some (46, true))⟩,
  ⟨(some 50), .fa 0 (.t 49), (some (46, true))⟩,
  ⟨(some 51), .ld false 1 (.t 50), (some (46, true))⟩,
  ⟨(some 52), .mv (.t 0), (some (46, true))⟩,
  ⟨(some 53), .mv (.t 3), (some (46, true))⟩,
  ⟨(some 54), .ixa 2 (.t 52) (.t 53), (some (46, true))⟩,
  ⟨(some 55), .fa 0 (.t 54), (some (46, true))⟩,
  ⟨(some 56), .ld false 1 (.t 55), (some (46, true))⟩,
  ⟨(some 57), .eq false .sc (.t 51) (.t 56), (some (46, true))⟩,
  ⟨(some 58), .pick (.t 46) (.t 57) (.c (.b false)), none⟩,
  ⟨(some 59), .mv (.t 58), none⟩,
  ⟨(some 60), .fa 0 (.t 12), (some (59, true))⟩,
  ⟨(some 61), .ld false 1 (.t 60), (some (59, true))⟩,
  ⟨(some 62), .mv (.t 0), (some (59, true))⟩,
  ⟨(some 63), .mv (.t 2), (some (59, true))⟩,
  ⟨(some 64), .ixa 2 (.t 62) (.t 63), (some (59, true))⟩,
  ⟨(some 65), .fa 0 (.t 64), (some (59, true))⟩,
  ⟨(some 66), .ld false 1 (.t 65), (some (59, true))⟩,
  ⟨(some 67), .bin .lss (.t 61) (.t 66), (some (59, true))⟩,
  ⟨(some 68), .pick (.t 59) (.t 67) (.c (.b false)), none⟩,
  ⟨(some 69), .mv (.t 68), none⟩,
  ⟨(some 70), .mv (.t 0), (some (69, true))⟩,
  ⟨(some 71), .mv (.t 2), (some (69, true))⟩,
  ⟨(some 72), .ixa 2 (.t 70) (.t 71), (some (69, true))⟩,
  ⟨(some 73), .fa 0 (.t 72), (some (69, true))⟩,
  ⟨(some 74), .ld false 1 (.t 73), (some (69, true))⟩,
  ⟨(some 75), .fa 0 (.t 13), (some (69, true))⟩,
  ⟨(some 76), .ld false 1 (.t 75), (some (69, true))⟩,
  ⟨(some 77), .bin .lss (.t 74) (.t 76), (some (69, true))⟩,
  ⟨(some 78), .pick (.t 69) (.t 77) (.c (.b false)), none⟩,
  ⟨(some 79), .mv (.t 78), none⟩,
  ⟨(some 80), .mv (.t 0), (some (79, true))⟩,
  ⟨(some 81), .mv (.t 2), (some (79, true))⟩,
  ⟨(some 82), .ixa 2 (.t 80) (.t 81), (some (79, true))⟩,
  ⟨(some 83), .fa 1 (.t 82), (some (79, true))⟩,
  ⟨(some 84), .ld false 1 (.t 83), (some (79, true))⟩,
  ⟨(some 85), .fa 1 (.t 12), (some (79, true))⟩,
  ⟨(some 86), .ld false 1 (.t 85), (some (79, true))⟩,
  ⟨(some 87), .bin .lss (.t 84) (.t 86), (some (79, true))⟩,
  ⟨(some 88), .pick (.t 79) (.t 87) (.c (.b false)), none⟩,
  ⟨(some 89), .mv (.t 88), none⟩,
  ⟨(some 90), .fa 1 (.t 12), (some (89, true))⟩,
  ⟨(some 91), .ld false 1 (.t 90), (some (89, true))⟩,
  ⟨(some 92), .mv (.t 0), (some (89, true))⟩,
  ⟨(some 93), .mv (.t 3), (some (89, true))⟩,
  ⟨(some 94), .ixa 2 (.t 92) (.t 93), (some (89, true))⟩,
  ⟨(some 95), .fa 1 (.t 94), (some (89, true))⟩,
  ⟨(some 96), .ld false 1 (.t 95), (some (89, true))⟩,
  ⟨(some 97), .bin .lss (.t 91) (.t 96), (some (89, true))⟩,
  ⟨(some 98), .pick (.t 89) (.t 97) (.c (.b false)), none⟩]
def F_muntinref10_Crossed.r12 : List Oper := [
  ⟨(some 8), .mv (.c (.b true)), none⟩]
def F_muntinref10_Crossed.r13 : List Oper := [
  ⟨(some 99), .fa 0 (.t 12), none⟩,
  ⟨(some 100), .ld false 1 (.t 99), none⟩,
  ⟨(some 101), .fa 0 (.t 13), none⟩,
  ⟨(some 102), .ld false 1 (.t 101), none⟩,
  ⟨(some 103), .eq false .sc (.t 100) (.t 102), none⟩,
  ⟨(some 104), .mv (.t 103), none⟩,
  ⟨(some 105), .mv (.t 0), (some (104, true))⟩,
  ⟨(some 106), .mv (.t 2), (some (104, true))⟩,
  ⟨(some 107), .ixa 2 (.t 105) (.t 106), (some (104, true))⟩,
  ⟨(some 108), .fa 1 (.t 107), (some (104, true))⟩,
  ⟨(some 109), .ld false 1 (.t 108), (some (104, true))⟩,
  ⟨(some 110), .mv (.t 0), (some (104, true))⟩,
  ⟨(some 111), .mv (.t 3), (some (104, true))⟩,
  ⟨(some 112), .ixa 2 (.t 110) (.t 111), (some (104, true))⟩,
  ⟨(some 113), .fa 1 (.t 112), (some (104, true))⟩,
  ⟨(some 114), .ld false 1 (.t 113), (some (104, true))⟩,
  ⟨(some 115), .eq false .sc (.t 109) (.t 114), (some (104, true))⟩,
  ⟨(some 116), .pick (.t 104) (.t 115) (.c (.b false)), none⟩,
  ⟨(some 117), .mv (.t 116), none⟩,
  ⟨(some 118), .mv (.t 0), (some (117, true))⟩,
  ⟨(some 119), .mv (.t 2), (some (117, true))⟩,
  ⟨(some 120), .ixa 2 (.t 118) (.t 119), (some (117, true))⟩,
  ⟨(some 121), .fa 0 (.t 120), (some (117, true))⟩,
  ⟨(some 122), .ld false 1 (.t 121), (some (117, true))⟩,
  ⟨(some 123), .fa 0 (.t 12), (some (117, true))⟩,
  ⟨(some 124), .ld false 1 (.t 123), (some (117, true))⟩,
  ⟨(some 125), .bin .lss (.t 122) (.t 124), (some (117, true))⟩,
  ⟨(some 126), .pick (.t 117) (.t 125) (.c (.b false)), none⟩,
  ⟨(some 127), .mv (.t 126), none⟩,
  ⟨(some 128), .fa 0 (.t 12), (some (127, true))⟩,
  ⟨(some 129), .ld false 1 (.t 128), (some (127, true))⟩,
  ⟨(some 130), .mv (.t 0), (some (127, true))⟩,
  ⟨(some 131), .mv (.t 3), (some (127, true))⟩,
  ⟨(some 132), .ixa 2 (.t 130) (.t 131), (some (127, true))⟩,
  ⟨(some 133), .fa 0 (.t 132), (some (127, true))⟩,
  ⟨(some 134), .ld false 1 (.t 133), (some (127, true))⟩,
  ⟨(some 135), .bin .lss (.t 129) (.t 134), (some (127, true))⟩,
  ⟨(some 136), .pick (.t 127) (.t 135) (.c (.b false)), none⟩,
  ⟨(some 137), .mv (.t 136), none⟩,
  ⟨(some 138), .fa 1 (.t 12), (some (137, true))⟩,
  ⟨(some 139), .ld false 1 (.t 138), (some (137, true))⟩,
  ⟨(some 140), .mv (.t 0), (some (137, true))⟩,
  ⟨(some 141), .mv (.t 2), (some (137, true))⟩,
  ⟨(some 142), .ixa 2 (.t 140) (.t 141), (some (137, true))⟩,
  ⟨(some 143), .fa 1 (.t 142), (some (137, true))⟩,
  ⟨(some 144), .ld false 1 (.t 143), (some (137, true))⟩,
  ⟨(some 145), .bin .lss (.t 139) (.t 144), (some (137, true))⟩,
  ⟨(some 146), .pick (.t 137) (.t 145) (.c (.b false)), none⟩,
  ⟨(some 147), .mv (.t 146), none⟩,
  ⟨(some 148), .mv (.t 0), (some (147, true))⟩,
  ⟨(some 149), .mv (.t 2), (some (147, true))⟩,
  ⟨(some 150), .ixa 2 (.t 148) (.t 149), (some (147, true))⟩,
  ⟨(some 151), .fa 1 (.t 150), (some (147, true))⟩,
  ⟨(some 152), .ld false 1 (.t 151), (some (147, true))⟩,
  ⟨(some 153), .fa 1 (.t 13), (some (147, true))⟩,
  ⟨(some 154), .ld false 1 (.t 153), (some (147, true))⟩,
  ⟨(some 155), .bin .lss (.t 152) (.t 154), (some (147, true))⟩,
  ⟨(some 156), .pick (.t 147) (.t 155) (.c (.b false)), none⟩]
def F_muntinref10_Crossed.r14 : List Oper := [
  ⟨(some 8), .mv (.c (.b true)), none⟩]
def F_muntinref10_Crossed.r6 : List Oper := [
  ⟨(some 22), .mv (.t 10), none⟩,
  ⟨(some 23), .bin .add (.t 22) (.c (.i .i64 1)), none⟩,
  ⟨(some 10), .mv (.t 23), none⟩]
def F_muntinref10_Crossed.l0 : Code := .seq (.seq (.region F_muntinref10_Crossed.r5) (.cond (.t 21) (.skip) (.exit 2))) (.seq (.block 3 (.seq (.region F_muntinref10_Crossed.r7) (.seq (.seq (.region F_muntinref10_Crossed.r8) (.cond (.t 32) (.exit 3) (.skip))) (.seq (.region F_muntinref10_Crossed.r9) (.seq (.region F_muntinref10_Crossed.r10) (.seq (.seq (.draw F_muntinref10_Crossed.r11 [(1, 3), (10, 15), (20, 25), (33, 35), (43, 45), (50, 55)]) (.cond (.t 98) (.seq (.region F_muntinref10_Crossed.r12) (.ret)) (.skip))) (.seq (.draw F_muntinref10_Crossed.r13 [(1, 3), (10, 15), (23, 25), (30, 35), (40, 45), (53, 55)]) (.cond (.t 156) (.seq (.region F_muntinref10_Crossed.r14) (.ret)) (.skip))))))))) (.region F_muntinref10_Crossed.r6))
def F_muntinref10_Crossed.r3 : List Oper := [
  ⟨(some 18), .mv (.t 9), none⟩,
  ⟨(some 19), .bin .add (.t 18) (.c (.i .i64 1)), none⟩,
  ⟨(some 9), .mv (.t 19), none⟩]
def F_muntinref10_Crossed.l1 : Code := .seq (.seq (.region F_muntinref10_Crossed.r2) (.cond (.t 17) (.skip) (.exit 0))) (.seq (.block 1 (.seq (.region F_muntinref10_Crossed.r4) (.block 2 (.loop F_muntinref10_Crossed.l0)))) (.region F_muntinref10_Crossed.r3))
def F_muntinref10_Crossed.r15 : List Oper := [
  ⟨(some 8), .mv (.c (.b false)), none⟩]
def F_muntinref10_Crossed.code : Code := .seq (.region F_muntinref10_Crossed.r0) (.seq (.seq (.region F_muntinref10_Crossed.r1) (.block 0 (.loop F_muntinref10_Crossed.l1))) (.seq (.region F_muntinref10_Crossed.r15) (.ret)))
def F_muntinref10_Crossed : Func := ⟨157, [.t 8], F_muntinref10_Crossed.code⟩
/-! muntin/muntinref10.with -/
def F_muntinref10_with.r0 : List Oper := [
  ⟨(some 10), .mv (.c (.sn)), none⟩]
def F_muntinref10_with.r1 : List Oper := [
  ⟨(some 11), .mv (.c (.sn)), none⟩]
def F_muntinref10_with.r2 : List Oper := [
  ⟨(some 12), .mv (.c (.i .i64 0)), none⟩]
def F_muntinref10_with.r3 : List Oper := [
  ⟨(some 14), .mv (.t 12), none⟩,
  ⟨(some 15), .mv (.t 0), none⟩,
  ⟨(some 16), .len (.t 15), none⟩,
  ⟨(some 17), .bin .lss (.t 14) (.t 16), none⟩]
def F_muntinref10_with.r5 : List Oper := [
  ⟨(some 20), .mv (.t 0), none⟩,
  ⟨(some 21), .mv (.t 12), none⟩,
  ⟨(some 22), .ixa 8 (.t 20) (.t 21), none⟩,
  ⟨(some 23), .ld true 8 (.t 22), none⟩,
  ⟨(some 13), .alloc [.i .i64 0, .i .i64 0, .i .i64 0, .i .i64 0, .i .i64 0, .i .i64 0, .i .i64 0, .i .i64 0], none⟩,
  ⟨none, .st 8 (.t 13) (.t 23), none⟩]
def F_muntinref10_with.r6 : List Oper := [
  ⟨(some 24), .mv (.t 12), none⟩,
  ⟨(some 25), .mv (.t 1), none⟩,
  ⟨(some 26), .eq false .sc (.t 24) (.t 25), none⟩]
def F_muntinref10_with.r7 : List Oper := [
  ⟨(some 27), .mv (.t 2), none⟩,
  ⟨(some 28), .mv (.t 3), none⟩,
  ⟨(some 29), .fa 0 (.t 13), none⟩,
  ⟨(some 30), .ixaa 1 4 (.t 29) (.t 27), none⟩,
  ⟨none, .st 1 (.t 30) (.t 28), none⟩]
def F_muntinref10_with.r8 : List Oper := [
  ⟨(some 31), .mv (.t 2), none⟩,
  ⟨(some 32), .mv (.t 4), none⟩,
  ⟨(some 33), .fa 4 (.t 13), none⟩,
  ⟨(some 34), .ixaa 1 4 (.t 33) (.t 31), none⟩,
  ⟨none, .st 1 (.t 34) (.t 32), none⟩]
def F_muntinref10_with.r9 : List Oper := [
  ⟨(some 35), .mv (.t 12), none⟩,
  ⟨(some 36), .mv (.t 3), none⟩,
  ⟨(some 37), .eq false .sc (.t 35) (.t 36), none⟩]
def F_muntinref10_with.r10 : List Oper := [
  ⟨(some 38), .mv (.t 2), none⟩,
  ⟨(some 39), .bin .add (.t 38) (.c (.i .i64 2)), none⟩,
  ⟨(some 40), .bin .rem (.t 39) (.c (.i .i64 4)), none⟩,
  ⟨(some 41), .mv (.t 1), none⟩,
  ⟨(some 42), .fa 0 (.t 13), none⟩,
  ⟨(some 43), .ixaa 1 4 (.t 42) (.t 40), none⟩,
  ⟨none, .st 1 (.t 43) (.t 41), none⟩]
def F_muntinref10_with.r11 : List Oper := [
  ⟨(some 44), .mv (.t 2), none⟩,
  ⟨(some 45), .bin .add (.t 44) (.c (.i .i64 2)), none⟩,
  ⟨(some 46), .bin .rem (.t 45) (.c (.i .i64 4)), none⟩,
  ⟨(some 47), .mv (.t 4), none⟩,
  ⟨(some 48), .fa 4 (.t 13), none⟩,
  ⟨(some 49), .ixaa 1 4 (.t 48) (.t 46), none⟩,
  ⟨none, .st 1 (.t 49) (.t 47), none⟩]
def F_muntinref10_with.r12 : List Oper := [
  ⟨(some 50), .mv (.t 11), none⟩,
  ⟨(some 51), .ld true 8 (.t 13), none⟩,
  ⟨(some 52), .bsl 8 1 [.i .i64 0, .i .i64 0, .i .i64 0, .i .i64 0, .i .i64 0, .i .i64 0, .i .i64 0, .i .i64 0] [(0, 8, .t 51)], none⟩,
  ⟨(some 53), .app 8 64 (.t 50) (.t 52), none⟩,
  ⟨(some 11), .mv (.t 53), none⟩]
def F_muntinref10_with.r4 : List Oper := [
  ⟨(some 18), .mv (.t 12), none⟩,
  ⟨(some 19), .bin .add (.t 18) (.c (.i .i64 1)), none⟩,
  ⟨(some 12), .mv (.t 19), none⟩]
def F_muntinref10_with.l0 : Code := .seq (.seq (.region F_muntinref10_with.r3) (.cond (.t 17) (.skip) (.exit 0))) (.seq (.block 1 (.seq (.region F_muntinref10_with.r5) (.seq (.seq (.region F_muntinref10_with.r6) (.cond (.t 26) (.seq (.region F_muntinref10_with.r7) (.region F_muntinref10_with.r8)) (.skip))) (.seq (.seq (.region F_muntinref10_with.r9) (.cond (.t 37) (.seq (.region F_muntinref10_with.r10) (.region F_muntinref10_with.r11)) (.skip))) (.region F_muntinref10_with.r12))))) (.region F_muntinref10_with.r4))
def F_muntinref10_with.r13 : List Oper := [
  ⟨(some 54), .mv (.t 11), none⟩,
  ⟨(some 10), .mv (.t 54), none⟩]
def F_muntinref10_with.code : Code := .seq (.region F_muntinref10_with.r0) (.seq (.region F_muntinref10_with.r1) (.seq (.seq (.region F_muntinref10_with.r2) (.block 0 (.loop F_muntinref10_with.l0))) (.seq (.region F_muntinref10_with.r13) (.ret))))
def F_muntinref10_with : Func := ⟨55, [.t 10], F_muntinref10_with.code⟩
/-! muntin/grid.Check -/
def F_grid_Check.r0 : List Oper := [
  ⟨(some 2), .mv (.c (.i .i64 0)), none⟩]
def F_grid_Check.r1 : List Oper := [
  ⟨(some 6), .mv (.t 0), none⟩,
  ⟨(some 7), .len (.t 6), none⟩,
  ⟨(some 8), .bin .gtr (.t 7) (.c (.i .i64 4096)), none⟩]
def F_grid_Check.r2 : List Oper := [
  ⟨(some 2), .mv (.c (.i .i64 6)), none⟩]
def F_grid_Check.r3 : List Oper := [
  ⟨(some 9), .mv (.t 0), none⟩,
  ⟨(some 10), .len (.t 9), none⟩,
  ⟨(some 11), .mv (.c (.i .i64 0)), none⟩]
def F_grid_Check.r4 : List Oper := [
  ⟨(some 12), .bin .lss (.t 11) (.t 10), none⟩]
def F_grid_Check.r5 : List Oper := [
  ⟨(some 13), .mv (.t 11), none⟩,
  ⟨(some 3), .mv (.t 13), none⟩]
def F_grid_Check.r6 : List Oper := [
  ⟨(some 14), .mv (.c (.i .i64 0)), none⟩]
def F_grid_Check.r7 : List Oper := [
  ⟨(some 15), .bin .lss (.t 14) (.c (.i .i64 4)), none⟩]
def F_grid_Check.r8 : List Oper := [
  ⟨(some 16), .mv (.t 14), none⟩,
  ⟨(some 4), .mv (.t 16), none⟩]
def F_grid_Check.r9 : List Oper := [
  ⟨(some 17), .mv (.t 0), none⟩,
  ⟨(some 18), .mv (.t 3), none⟩,
  ⟨(some 19), .mv (.t 4), none⟩,
  ⟨(some 20), .call (.c (.f 82 [])) [.t 17, .t 18, .t 19], none⟩,
  ⟨(some 5), .mv (.t 20), none⟩]
def F_grid_Check.r10 : List Oper := [
  ⟨(some 21), .mv (.t 5), none⟩,
  ⟨(some 22), .eq true .sc (.t 21) (.c (.i .i64 0)), none⟩]
def F_grid_Check.r11 : List Oper := [
  ⟨(some 23), .mv (.t 5), none⟩,
  ⟨(some 2), .mv (.t 23), none⟩]
def F_grid_Check.r12 : List Oper := [
  ⟨(some 24), .bin .add (.t 14) (.c (.i .i64 1)), none⟩,
  ⟨(some 14), .mv (.t 24), none⟩]
def F_grid_Check.l0 : Code := .seq (.region F_grid_Check.r7) (.seq (.cond (.t 15) (.skip) (.exit 2)) (.seq (.block 3 (.seq (.region F_grid_Check.r8) (.seq (.region F_grid_Check.r9) (.seq (.region F_grid_Check.r10) (.cond (.t 22) (.seq (.region F_grid_Check.r11) (.ret)) (.skip)))))) (.region F_grid_Check.r12)))
def F_grid_Check.r13 : List Oper := [
  ⟨(some 25), .bin .add (.t 11) (.c (.i .i64 1)), none⟩,
  ⟨(some 11), .mv (.t 25), none⟩]
def F_grid_Check.l1 : Code := .seq (.region F_grid_Check.r4) (.seq (.cond (.t 12) (.skip) (.exit 0)) (.seq (.block 1 (.seq (.region F_grid_Check.r5) (.seq (.region F_grid_Check.r6) (.block 2 (.loop F_grid_Check.l0))))) (.region F_grid_Check.r13)))
def F_grid_Check.r14 : List Oper := [
  ⟨(some 2), .mv (.c (.i .i64 0)), none⟩]
def F_grid_Check.code : Code := .seq (.region F_grid_Check.r0) (.seq (.seq (.region F_grid_Check.r1) (.cond (.t 8) (.seq (.region F_grid_Check.r2) (.ret)) (.skip))) (.seq (.seq (.region F_grid_Check.r3) (.block 0 (.loop F_grid_Check.l1))) (.seq (.region F_grid_Check.r14) (.ret))))
def F_grid_Check : Func := ⟨26, [.t 2], F_grid_Check.code⟩
/-! muntin/compass.Left -/
def F_compass_Left.r0 : List Oper := [
  ⟨(some 4), .mv (.c (.i .i64 0)), none⟩]
def F_compass_Left.r1 : List Oper := [
  ⟨(some 5), .mv (.t 0), none⟩,
  ⟨(some 6), .call (.c (.f 90 [])) [.t 5], none⟩,
  ⟨(some 7), .un .not (.t 6), none⟩]
def F_compass_Left.r2 : List Oper := [
  ⟨(some 4), .mv (.c (.i .i64 0)), none⟩]
def F_compass_Left.r3 : List Oper := [
  ⟨(some 8), .mv (.t 0), none⟩,
  ⟨(some 9), .mv (.t 1), none⟩,
  ⟨(some 10), .bin .rem (.t 9) (.c (.i .i64 4)), none⟩,
  ⟨(some 11), .bin .add (.t 8) (.t 10), none⟩,
  ⟨(some 12), .bin .add (.t 11) (.c (.i .i64 4)), none⟩,
  ⟨(some 13), .bin .rem (.t 12) (.c (.i .i64 4)), none⟩,
  ⟨(some 4), .mv (.t 13), none⟩]
def F_compass_Left.code : Code := .seq (.region F_compass_Left.r0) (.seq (.seq (.region F_compass_Left.r1) (.cond (.t 7) (.seq (.region F_compass_Left.r2) (.ret)) (.skip))) (.seq (.region F_compass_Left.r3) (.ret)))
def F_compass_Left : Func := ⟨14, [.t 4], F_compass_Left.code⟩
/-! muntin/grid.side -/
def F_grid_side.r0 : List Oper := [
  ⟨(some 6), .mv (.c (.i .i64 0)), none⟩]
def F_grid_side.r1 : List Oper := [
  ⟨(some 10), .mv (.t 0), none⟩,
  ⟨(some 11), .mv (.t 1), none⟩,
  ⟨(some 12), .mv (.t 2), none⟩,
  ⟨(some 13), .ixa 8 (.t 10) (.t 11), none⟩,
  ⟨(some 14), .fa 0 (.t 13), none⟩,
  ⟨(some 15), .ixaa 1 4 (.t 14) (.t 12), none⟩,
  ⟨(some 16), .ld false 1 (.t 15), none⟩,
  ⟨(some 17), .mv (.t 0), none⟩,
  ⟨(some 18), .mv (.t 1), none⟩,
  ⟨(some 19), .mv (.t 2), none⟩,
  ⟨(some 20), .ixa 8 (.t 17) (.t 18), none⟩,
  ⟨(some 21), .fa 4 (.t 20), none⟩,
  ⟨(some 22), .ixaa 1 4 (.t 21) (.t 19), none⟩,
  ⟨(some 23), .ld false 1 (.t 22), none⟩,
  ⟨(some 7), .mv (.t 16), none⟩,
  ⟨(some 8), .mv (.t 23), none⟩]
def F_grid_side.r2 : List Oper := [
  ⟨(some 24), .mv (.t 7), none⟩,
  ⟨(some 25), .eq false .sc (.t 24) (.c (.i .i64 (-1))), none⟩]
def F_grid_side.r3 : List Oper := [
  ⟨(some 26), .mv (.t 8), none⟩,
  ⟨(some 27), .eq true .sc (.t 26) (.c (.i .i64 0)), none⟩]
def F_grid_side.r4 : List Oper := [
  ⟨(some 6), .mv (.c (.i .i64 9)), none⟩]
def F_grid_side.r5 : List Oper := [
  ⟨(some 6), .mv (.c (.i .i64 0)), none⟩]
def F_grid_side.r6 : List Oper := [
  ⟨(some 28), .mv (.t 7), none⟩,
  ⟨(some 29), .bin .lss (.t 28) (.c (.i .i64 0)), none⟩,
  ⟨(some 30), .mv (.t 29), none⟩,
  ⟨(some 31), .mv (.t 7), (some (30, false))⟩,
  ⟨(some 32), .mv (.t 0), (some (30, false))⟩,
  ⟨(some 33), .len (.t 32), (some (30, false))⟩,
  ⟨(some 34), .bin .geq (.t 31) (.t 33), (some (30, false))⟩,
  ⟨(some 35), .pick (.t 30) (.c (.b true)) (.t 34), none⟩,
  ⟨(some 36), .mv (.t 35), none⟩,
  ⟨(some 37), .mv (.t 7), (some (36, false))⟩,
  ⟨(some 38), .mv (.t 1), (some (36, false))⟩,
  ⟨(some 39), .eq false .sc (.t 37) (.t 38), (some (36, false))⟩,
  ⟨(some 40), .pick (.t 36) (.c (.b true)) (.t 39), none⟩]
def F_grid_side.r7 : List Oper := [
  ⟨(some 6), .mv (.c (.i .i64 3)), none⟩]
def F_grid_side.r8 : List Oper := [
  ⟨(some 41), .mv (.t 2), none⟩,
  ⟨(some 42), .call (.c (.f 77 [])) [.t 41, .c (.i .i64 2)], none⟩,
  ⟨(some 9), .mv (.t 42), none⟩]
def F_grid_side.r9 : List Oper := [
  ⟨(some 43), .mv (.t 0), none⟩,
  ⟨(some 44), .mv (.t 7), none⟩,
  ⟨(some 45), .mv (.t 9), none⟩,
  ⟨(some 46), .ixa 8 (.t 43) (.t 44), none⟩,
  ⟨(some 47), .fa 0 (.t 46), none⟩,
  ⟨(some 48), .ixaa 1 4 (.t 47) (.t 45), none⟩,
  ⟨(some 49), .ld false 1 (.t 48), none⟩,
  ⟨(some 50), .mv (.t 1), none⟩,
  ⟨(some 51), .eq true .sc (.t 49) (.t 50), none⟩,
  ⟨(some 52), .mv (.t 51), none⟩,
  ⟨(some 53), .mv (.t 0), (some (52, false))⟩,
  ⟨(some 54), .mv (.t 7), (some (52, false))⟩,
  ⟨(some 55), .mv (.t 9), (some (52, false))⟩,
  ⟨(some 56), .ixa 8 (.t 53) (.t 54), (some (52, false))⟩,
  ⟨(some 57), .fa 4 (.t 56), (some (52, false))⟩,
  ⟨(some 58), .ixaa 1 4 (.t 57) (.t 55), (some (52, false))⟩,
  ⟨(some 59), .ld false 1 (.t 58), (some (52, false))⟩,
  ⟨(some 60), .mv (.t 8), (some (52, false))⟩,
  ⟨(some 61), .eq true .sc (.t 59) (.t 60), (some (52, false))⟩,
  ⟨(some 62), .pick (.t 52) (.c (.b true)) (.t 61), none⟩,
  ⟨(some 63), .mv (.t 62), none⟩,
  ⟨(some 64), .mv (.t 8), (some (63, false))⟩,
  ⟨(some 65), .bin .lss (.t 64) (.c (.i .i64 (-2))), (some (63, false))⟩,
  ⟨(some 66), .pick (.t 63) (.c (.b true)) (.t 65), none⟩]
def F_grid_side.r10 : List Oper := [
  ⟨(some 6), .mv (.c (.i .i64 9)), none⟩]
def F_grid_side.r11 : List Oper := [
  ⟨(some 6), .mv (.c (.i .i64 0)), none⟩]
def F_grid_side.code : Code := .seq (.region F_grid_side.r0) (.seq (.draw F_grid_side.r1 [(6, 13)]) (.seq (.seq (.region F_grid_side.r2) (.cond (.t 25) (.seq (.seq (.region F_grid_side.r3) (.cond (.t 27) (.seq (.region F_grid_side.r4) (.ret)) (.skip))) (.seq (.region F_grid_side.r5) (.ret))) (.skip))) (.seq (.seq (.region F_grid_side.r6) (.cond (.t 40) (.seq (.region F_grid_side.r7) (.ret)) (.skip))) (.seq (.region F_grid_side.r8) (.seq (.seq (.region F_grid_side.r9) (.cond (.t 66) (.seq (.region F_grid_side.r10) (.ret)) (.skip))) (.seq (.region F_grid_side.r11) (.ret)))))))
def F_grid_side : Func := ⟨67, [.t 6], F_grid_side.code⟩
/-! slices.Repeat[[]int,int] -/
def F_slices_Repeat_int.r0 : List Oper := [
  ⟨(some 4), .mv (.c (.sn)), none⟩]
def F_slices_Repeat_int.r1 : List Oper := [
  ⟨(some 9), .mv (.t 1), none⟩,
  ⟨(some 10), .bin .lss (.t 9) (.c (.i .i64 0)), none⟩]
def F_slices_Repeat_int.r2 : List Oper := [
  ⟨(some 11), .bad, none⟩,
  ⟨none, .bad, none⟩]
def F_slices_Repeat_int.r3 : List Oper := [
  ⟨(some 13), .mv (.t 0), none⟩,
  ⟨(some 14), .len (.t 13), none⟩,
  ⟨(some 15), .conv .u64 (.t 14), none⟩,
  ⟨(some 16), .mv (.t 1), none⟩,
  ⟨(some 17), .conv .u64 (.t 16), none⟩,
  ⟨(some 18), .call (.c (.f 89 [])) [.t 15, .t 17], none⟩,
  ⟨(some 12), .mv (.t 18), none⟩,
  ⟨(some 19), .ext (.t 12) 0, none⟩,
  ⟨(some 20), .ext (.t 12) 1, none⟩,
  ⟨(some 5), .mv (.t 19), none⟩,
  ⟨(some 6), .mv (.t 20), none⟩]
def F_slices_Repeat_int.r4 : List Oper := [
  ⟨(some 21), .mv (.t 5), none⟩,
  ⟨(some 22), .bin .gtr (.t 21) (.c (.i .u64 0)), none⟩,
  ⟨(some 23), .mv (.t 22), none⟩,
  ⟨(some 24), .mv (.t 6), (some (23, false))⟩,
  ⟨(some 25), .bin .gtr (.t 24) (.c (.i .u64 9223372036854775807)), (some (23, false))⟩,
  ⟨(some 26), .pick (.t 23) (.c (.b true)) (.t 25), none⟩]
def F_slices_Repeat_int.r5 : List Oper := [
  ⟨(some 27), .bad, none⟩,
  ⟨none, .bad, none⟩]
def F_slices_Repeat_int.r6 : List Oper := [
  ⟨(some 28), .mv (.t 6), none⟩,
  ⟨(some 29), .conv .i64 (.t 28), none⟩,
  ⟨(some 30), .mks 1 8 [.i .i64 0] (.t 29) (.t 29), none⟩,
  ⟨(some 7), .mv (.t 30), none⟩]
def F_slices_Repeat_int.r7 : List Oper := [
  ⟨(some 31), .mv (.t 7), none⟩,
  ⟨(some 32), .mv (.t 0), none⟩,
  ⟨(some 33), .cpy 1 (.t 31) (.t 32), none⟩,
  ⟨(some 8), .mv (.t 33), none⟩]
def F_slices_Repeat_int.r8 : List Oper := [
  ⟨(some 34), .mv (.t 8), none⟩,
  ⟨(some 35), .mv (.t 7), none⟩,
  ⟨(some 36), .len (.t 35), none⟩,
  ⟨(some 37), .bin .lss (.t 34) (.t 36), none⟩]
def F_slices_Repeat_int.r9 : List Oper := [
  ⟨(some 38), .mv (.t 8), none⟩,
  ⟨(some 39), .mv (.t 7), none⟩,
  ⟨(some 40), .mv (.t 8), none⟩,
  ⟨(some 41), .slc 1 (.t 39) (some (.t 40)) none none, none⟩,
  ⟨(some 42), .mv (.t 7), none⟩,
  ⟨(some 43), .mv (.t 8), none⟩,
  ⟨(some 44), .slc 1 (.t 42) none (some (.t 43)) none, none⟩,
  ⟨(some 45), .cpy 1 (.t 41) (.t 44), none⟩,
  ⟨(some 46), .bin .add (.t 38) (.t 45), none⟩,
  ⟨(some 8), .mv (.t 46), none⟩]
def F_slices_Repeat_int.l0 : Code := .seq (.seq (.region F_slices_Repeat_int.r8) (.cond (.t 37) (.skip) (.exit 0))) (.block 1 (.draw F_slices_Repeat_int.r9 []))
def F_slices_Repeat_int.r10 : List Oper := [
  ⟨(some 47), .mv (.t 7), none⟩,
  ⟨(some 4), .mv (.t 47), none⟩]
def F_slices_Repeat_int.code : Code := .seq (.region F_slices_Repeat_int.r0) (.seq (.seq (.region F_slices_Repeat_int.r1) (.cond (.t 10) (.region F_slices_Repeat_int.r2) (.skip))) (.seq (.region F_slices_Repeat_int.r3) (.seq (.seq (.region F_slices_Repeat_int.r4) (.cond (.t 26) (.region F_slices_Repeat_int.r5) (.skip))) (.seq (.region F_slices_Repeat_int.r6) (.seq (.region F_slices_Repeat_int.r7) (.seq (.block 0 (.loop F_slices_Repeat_int.l0)) (.seq (.region F_slices_Repeat_int.r10) (.ret))))))))
def F_slices_Repeat_int : Func := ⟨48, [.t 4], F_slices_Repeat_int.code⟩
/-! math/bits.Mul -/
def F_bits_Mul.r0 : List Oper := [
  ⟨(some 4), .mv (.c (.i .u64 0)), none⟩,
  ⟨(some 5), .mv (.c (.i .u64 0)), none⟩]
def F_bits_Mul.r1 : List Oper := [
  ⟨(some 11), .mv (.t 0), none⟩,
  ⟨(some 12), .conv .u32 (.t 11), none⟩,
  ⟨(some 13), .mv (.t 1), none⟩,
  ⟨(some 14), .conv .u32 (.t 13), none⟩,
  ⟨(some 15), .call (.c (.f 97 [])) [.t 12, .t 14], none⟩,
  ⟨(some 10), .mv (.t 15), none⟩,
  ⟨(some 16), .ext (.t 10) 0, none⟩,
  ⟨(some 17), .ext (.t 10) 1, none⟩,
  ⟨(some 6), .mv (.t 16), none⟩,
  ⟨(some 7), .mv (.t 17), none⟩]
def F_bits_Mul.r2 : List Oper := [
  ⟨(some 18), .mv (.t 6), none⟩,
  ⟨(some 19), .conv .u64 (.t 18), none⟩,
  ⟨(some 20), .mv (.t 7), none⟩,
  ⟨(some 21), .conv .u64 (.t 20), none⟩,
  ⟨(some 4), .mv (.t 19), none⟩,
  ⟨(some 5), .mv (.t 21), none⟩]
def F_bits_Mul.r3 : List Oper := [
  ⟨(some 23), .mv (.t 0), none⟩,
  ⟨(some 24), .mv (.t 1), none⟩,
  ⟨(some 25), .call (.c (.f 98 [])) [.t 23, .t 24], none⟩,
  ⟨(some 22), .mv (.t 25), none⟩,
  ⟨(some 26), .ext (.t 22) 0, none⟩,
  ⟨(some 27), .ext (.t 22) 1, none⟩,
  ⟨(some 8), .mv (.t 26), none⟩,
  ⟨(some 9), .mv (.t 27), none⟩]
def F_bits_Mul.r4 : List Oper := [
  ⟨(some 28), .mv (.t 8), none⟩,
  ⟨(some 29), .mv (.t 9), none⟩,
  ⟨(some 4), .mv (.t 28), none⟩,
  ⟨(some 5), .mv (.t 29), none⟩]
def F_bits_Mul.code : Code := .seq (.region F_bits_Mul.r0) (.seq (.cond (.c (.b false)) (.seq (.region F_bits_Mul.r1) (.seq (.region F_bits_Mul.r2) (.ret))) (.skip)) (.seq (.region F_bits_Mul.r3) (.seq (.region F_bits_Mul.r4) (.ret))))
def F_bits_Mul : Func := ⟨30, [.t 4, .t 5], F_bits_Mul.code⟩
/-! muntin/compass.Good -/
def F_compass_Good.r0 : List Oper := [
  ⟨(some 2), .mv (.c (.b false)), none⟩]
def F_compass_Good.r1 : List Oper := [
  ⟨(some 3), .mv (.t 0), none⟩,
  ⟨(some 4), .bin .geq (.t 3) (.c (.i .i64 0)), none⟩,
  ⟨(some 5), .mv (.t 4), none⟩,
  ⟨(some 6), .mv (.t 0), (some (5, true))⟩,
  ⟨(some 7), .bin .leq (.t 6) (.c (.i .i64 3)), (some (5, true))⟩,
  ⟨(some 8), .pick (.t 5) (.t 7) (.c (.b false)), none⟩,
  ⟨(some 2), .mv (.t 8), none⟩]
def F_compass_Good.code : Code := .seq (.region F_compass_Good.r0) (.seq (.region F_compass_Good.r1) (.ret))
def F_compass_Good : Func := ⟨9, [.t 2], F_compass_Good.code⟩
/-! math/bits.Mul32 -/
def F_bits_Mul32.r0 : List Oper := [
  ⟨(some 4), .mv (.c (.i .u32 0)), none⟩,
  ⟨(some 5), .mv (.c (.i .u32 0)), none⟩]
def F_bits_Mul32.r1 : List Oper := [
  ⟨(some 7), .mv (.t 0), none⟩,
  ⟨(some 8), .conv .u64 (.t 7), none⟩,
  ⟨(some 9), .mv (.t 1), none⟩,
  ⟨(some 10), .conv .u64 (.t 9), none⟩,
  ⟨(some 11), .bin .mul (.t 8) (.t 10), none⟩,
  ⟨(some 6), .mv (.t 11), none⟩]
def F_bits_Mul32.r2 : List Oper := [
  ⟨(some 12), .mv (.t 6), none⟩,
  ⟨(some 13), .bin .shr (.t 12) (.c (.i .u64 32)), none⟩,
  ⟨(some 14), .conv .u32 (.t 13), none⟩,
  ⟨(some 15), .mv (.t 6), none⟩,
  ⟨(some 16), .conv .u32 (.t 15), none⟩,
  ⟨(some 4), .mv (.t 14), none⟩,
  ⟨(some 5), .mv (.t 16), none⟩]
def F_bits_Mul32.code : Code := .seq (.region F_bits_Mul32.r0) (.seq (.region F_bits_Mul32.r1) (.seq (.region F_bits_Mul32.r2) (.ret)))
def F_bits_Mul32 : Func := ⟨17, [.t 4, .t 5], F_bits_Mul32.code⟩
/-! math/bits.Mul64 -/
def F_bits_Mul64.r0 : List Oper := [
  ⟨(some 4), .mv (.c (.i .u64 0)), none⟩,
  ⟨(some 5), .mv (.c (.i .u64 0)), none⟩]
def F_bits_Mul64.r1 : List Oper := [
  ⟨(some 14), .mv (.t 0), none⟩,
  ⟨(some 15), .bin .and (.t 14) (.c (.i .u64 4294967295)), none⟩,
  ⟨(some 6), .mv (.t 15), none⟩]
def F_bits_Mul64.r2 : List Oper := [
  ⟨(some 16), .mv (.t 0), none⟩,
  ⟨(some 17), .bin .shr (.t 16) (.c (.i .u64 32)), none⟩,
  ⟨(some 7), .mv (.t 17), none⟩]
def F_bits_Mul64.r3 : List Oper := [
  ⟨(some 18), .mv (.t 1), none⟩,
  ⟨(some 19), .bin .and (.t 18) (.c (.i .u64 4294967295)), none⟩,
  ⟨(some 8), .mv (.t 19), none⟩]
def F_bits_Mul64.r4 : List Oper := [
  ⟨(some 20), .mv (.t 1), none⟩,
  ⟨(some 21), .bin .shr (.t 20) (.c (.i .u64 32)), none⟩,
  ⟨(some 9), .mv (.t 21), none⟩]
def F_bits_Mul64.r5 : List Oper := [
  ⟨(some 22), .mv (.t 6), none⟩,
  ⟨(some 23), .mv (.t 8), none⟩,
  ⟨(some 24), .bin .mul (.t 22) (.t 23), none⟩,
  ⟨(some 10), .mv (.t 24), none⟩]
def F_bits_Mul64.r6 : List Oper := [
  ⟨(some 25), .mv (.t 7), none⟩,
  ⟨(some 26), .mv (.t 8), none⟩,
  ⟨(some 27), .bin .mul (.t 25) (.t 26), none⟩,
  ⟨(some 28), .mv (.t 10), none⟩,
  ⟨(some 29), .bin .shr (.t 28) (.c (.i .u64 32)), none⟩,
  ⟨(some 30), .bin .add (.t 27) (.t 29), none⟩,
  ⟨(some 11), .mv (.t 30), none⟩]
def F_bits_Mul64.r7 : List Oper := [
  ⟨(some 31), .mv (.t 11), none⟩,
  ⟨(some 32), .bin .and (.t 31) (.c (.i .u64 4294967295)), none⟩,
  ⟨(some 12), .mv (.t 32), none⟩]
def F_bits_Mul64.r8 : List Oper := [
  ⟨(some 33), .mv (.t 11), none⟩,
  ⟨(some 34), .bin .shr (.t 33) (.c (.i .u64 32)), none⟩,
  ⟨(some 13), .mv (.t 34), none⟩]
def F_bits_Mul64.r9 : List Oper := [
  ⟨(some 35), .mv (.t 12), none⟩,
  ⟨(some 36), .mv (.t 6), none⟩,
  ⟨(some 37), .mv (.t 9), none⟩,
  ⟨(some 38), .bin .mul (.t 36) (.t 37), none⟩,
  ⟨(some 39), .bin .add (.t 35) (.t 38), none⟩,
  ⟨(some 12), .mv (.t 39), none⟩]
def F_bits_Mul64.r10 : List Oper := [
  ⟨(some 40), .mv (.t 7), none⟩,
  ⟨(some 41), .mv (.t 9), none⟩,
  ⟨(some 42), .bin .mul (.t 40) (.t 41), none⟩,
  ⟨(some 43), .mv (.t 13), none⟩,
  ⟨(some 44), .bin .add (.t 42) (.t 43), none⟩,
  ⟨(some 45), .mv (.t 12), none⟩,
  ⟨(some 46), .bin .shr (.t 45) (.c (.i .u64 32)), none⟩,
  ⟨(some 47), .bin .add (.t 44) (.t 46), none⟩,
  ⟨(some 4), .mv (.t 47), none⟩]
def F_bits_Mul64.r11 : List Oper := [
  ⟨(some 48), .mv (.t 0), none⟩,
  ⟨(some 49), .mv (.t 1), none⟩,
  ⟨(some 50), .bin .mul (.t 48) (.t 49), none⟩,
  ⟨(some 5), .mv (.t 50), none⟩]
def F_bits_Mul64.code : Code := .seq (.region F_bits_Mul64.r0) (.seq (.region F_bits_Mul64.r1) (.seq (.region F_bits_Mul64.r2) (.seq (.region F_bits_Mul64.r3) (.seq (.region F_bits_Mul64.r4) (.seq (.region F_bits_Mul64.r5) (.seq (.region F_bits_Mul64.r6) (.seq (.region F_bits_Mul64.r7) (.seq (.region F_bits_Mul64.r8) (.seq (.region F_bits_Mul64.r9) (.seq (.region F_bits_Mul64.r10) (.seq (.region F_bits_Mul64.r11) (.ret))))))))))))
def F_bits_Mul64 : Func := ⟨51, [.t 4, .t 5], F_bits_Mul64.code⟩
/-! muntin/seg.Of -/
def F_seg_Of.r0 : List Oper := [
  ⟨(some 2), .alloc [.sn, .sn, .sn, .sn], none⟩,
  ⟨(some 3), .mv (.c (.i .i64 0)), none⟩]
def F_seg_Of.r1 : List Oper := [
  ⟨(some 11), .mv (.t 0), none⟩,
  ⟨(some 12), .call (.c (.f 66 [])) [.t 11], none⟩,
  ⟨(some 4), .mv (.t 12), none⟩]
def F_seg_Of.r2 : List Oper := [
  ⟨(some 13), .mv (.t 4), none⟩,
  ⟨(some 14), .eq true .sc (.t 13) (.c (.i .i64 0)), none⟩]
def F_seg_Of.r3 : List Oper := [
  ⟨(some 15), .build [.sn, .sn, .sn, .sn] [], none⟩,
  ⟨(some 16), .mv (.t 4), none⟩,
  ⟨none, .st 4 (.t 2) (.t 15), none⟩,
  ⟨(some 3), .mv (.t 16), none⟩]
def F_seg_Of.r4 : List Oper := [
  ⟨(some 18), .mv (.t 0), none⟩,
  ⟨(some 19), .call (.c (.f 137 [])) [.t 18, .c (.i .i64 1)], none⟩,
  ⟨(some 17), .mv (.t 19), none⟩,
  ⟨(some 20), .ext (.t 17) 0, none⟩,
  ⟨(some 21), .ext (.t 17) 1, none⟩,
  ⟨(some 22), .ext (.t 17) 2, none⟩,
  ⟨(some 5), .mv (.t 20), none⟩,
  ⟨(some 6), .mv (.t 21), none⟩,
  ⟨(some 7), .mv (.t 22), none⟩]
def F_seg_Of.r5 : List Oper := [
  ⟨(some 24), .mv (.t 0), none⟩,
  ⟨(some 25), .call (.c (.f 137 [])) [.t 24, .c (.i .i64 0)], none⟩,
  ⟨(some 23), .mv (.t 25), none⟩,
  ⟨(some 26), .ext (.t 23) 0, none⟩,
  ⟨(some 27), .ext (.t 23) 1, none⟩,
  ⟨(some 28), .ext (.t 23) 2, none⟩,
  ⟨(some 8), .mv (.t 26), none⟩,
  ⟨(some 9), .mv (.t 27), none⟩,
  ⟨(some 10), .mv (.t 28), none⟩]
def F_seg_Of.r6 : List Oper := [
  ⟨(some 29), .mv (.t 7), none⟩,
  ⟨(some 30), .un .not (.t 29), none⟩,
  ⟨(some 31), .mv (.t 30), none⟩,
  ⟨(some 32), .mv (.t 10), (some (31, false))⟩,
  ⟨(some 33), .un .not (.t 32), (some (31, false))⟩,
  ⟨(some 34), .pick (.t 31) (.c (.b true)) (.t 33), none⟩]
def F_seg_Of.r7 : List Oper := [
  ⟨(some 35), .build [.sn, .sn, .sn, .sn] [], none⟩,
  ⟨none, .st 4 (.t 2) (.t 35), none⟩,
  ⟨(some 3), .mv (.c (.i .i64 10)), none⟩]
def F_seg_Of.r8 : List Oper := [
  ⟨(some 36), .mv (.t 5), none⟩,
  ⟨(some 37), .mv (.t 8), none⟩,
  ⟨(some 38), .mv (.t 6), none⟩,
  ⟨(some 39), .mv (.t 9), none⟩,
  ⟨(some 40), .build [.sn, .sn, .sn, .sn] [(0, 1, .t 36), (1, 1, .t 37), (2, 1, .t 38), (3, 1, .t 39)], none⟩,
  ⟨none, .st 4 (.t 2) (.t 40), none⟩,
  ⟨(some 3), .mv (.c (.i .i64 0)), none⟩]
def F_seg_Of.code : Code := .seq (.region F_seg_Of.r0) (.seq (.seq (.region F_seg_Of.r1) (.seq (.region F_seg_Of.r2) (.cond (.t 14) (.seq (.region F_seg_Of.r3) (.ret)) (.skip)))) (.seq (.region F_seg_Of.r4) (.seq (.region F_seg_Of.r5) (.seq (.seq (.region F_seg_Of.r6) (.cond (.t 34) (.seq (.region F_seg_Of.r7) (.ret)) (.skip))) (.seq (.region F_seg_Of.r8) (.ret))))))
def F_seg_Of : Func := ⟨41, [.cell 2 true 4, .t 3], F_seg_Of.code⟩
/-! muntin/muntinref16.Of -/
def F_muntinref16_Of.r0 : List Oper := [
  ⟨(some 2), .alloc [.sn, .sn, .sn, .sn], none⟩,
  ⟨(some 3), .mv (.c (.b false)), none⟩]
def F_muntinref16_Of.r1 : List Oper := [
  ⟨(some 11), .mv (.t 0), none⟩,
  ⟨(some 12), .call (.c (.f 138 [])) [.t 11, .c (.i .i64 1)], none⟩,
  ⟨(some 10), .mv (.t 12), none⟩,
  ⟨(some 13), .ext (.t 10) 0, none⟩,
  ⟨(some 14), .ext (.t 10) 1, none⟩,
  ⟨(some 15), .ext (.t 10) 2, none⟩,
  ⟨(some 4), .mv (.t 13), none⟩,
  ⟨(some 5), .mv (.t 14), none⟩,
  ⟨(some 6), .mv (.t 15), none⟩]
def F_muntinref16_Of.r2 : List Oper := [
  ⟨(some 17), .mv (.t 0), none⟩,
  ⟨(some 18), .call (.c (.f 138 [])) [.t 17, .c (.i .i64 0)], none⟩,
  ⟨(some 16), .mv (.t 18), none⟩,
  ⟨(some 19), .ext (.t 16) 0, none⟩,
  ⟨(some 20), .ext (.t 16) 1, none⟩,
  ⟨(some 21), .ext (.t 16) 2, none⟩,
  ⟨(some 7), .mv (.t 19), none⟩,
  ⟨(some 8), .mv (.t 20), none⟩,
  ⟨(some 9), .mv (.t 21), none⟩]
def F_muntinref16_Of.r3 : List Oper := [
  ⟨(some 22), .mv (.t 6), none⟩,
  ⟨(some 23), .un .not (.t 22), none⟩,
  ⟨(some 24), .mv (.t 23), none⟩,
  ⟨(some 25), .mv (.t 9), (some (24, false))⟩,
  ⟨(some 26), .un .not (.t 25), (some (24, false))⟩,
  ⟨(some 27), .pick (.t 24) (.c (.b true)) (.t 26), none⟩]
def F_muntinref16_Of.r4 : List Oper := [
  ⟨(some 28), .build [.sn, .sn, .sn, .sn] [], none⟩,
  ⟨none, .st 4 (.t 2) (.t 28), none⟩,
  ⟨(some 3), .mv (.c (.b false)), none⟩]
def F_muntinref16_Of.r5 : List Oper := [
  ⟨(some 29), .mv (.t 4), none⟩,
  ⟨(some 30), .mv (.t 7), none⟩,
  ⟨(some 31), .mv (.t 5), none⟩,
  ⟨(some 32), .mv (.t 8), none⟩,
  ⟨(some 33), .build [.sn, .sn, .sn, .sn] [(0, 1, .t 29), (1, 1, .t 30), (2, 1, .t 31), (3, 1, .t 32)], none⟩,
  ⟨none, .st 4 (.t 2) (.t 33), none⟩,
  ⟨(some 3), .mv (.c (.b true)), none⟩]
def F_muntinref16_Of.code : Code := .seq (.region F_muntinref16_Of.r0) (.seq (.region F_muntinref16_Of.r1) (.seq (.region F_muntinref16_Of.r2) (.seq (.seq (.region F_muntinref16_Of.r3) (.cond (.t 27) (.seq (.region F_muntinref16_Of.r4) (.ret)) (.skip))) (.seq (.region F_muntinref16_Of.r5) (.ret)))))
def F_muntinref16_Of : Func := ⟨34, [.cell 2 true 4, .t 3], F_muntinref16_Of.code⟩
/-! muntin/arcs.Of -/
def F_arcs_Of.r0 : List Oper := [
  ⟨(some 2), .alloc [.sn, .sn, .sn, .sn, .sn, .sn], none⟩,
  ⟨(some 3), .mv (.c (.i .i64 0)), none⟩]
def F_arcs_Of.r1 : List Oper := [
  ⟨(some 7), .mv (.t 0), none⟩,
  ⟨(some 8), .call (.c (.f 120 [])) [.t 7], none⟩,
  ⟨(some 6), .mv (.t 8), none⟩,
  ⟨(some 9), .ext (.t 6) 0, none⟩,
  ⟨(some 10), .ext (.t 6) 1, none⟩,
  ⟨(some 4), .alloc [.sn, .sn, .sn, .sn], none⟩,
  ⟨none, .st 4 (.t 4) (.t 9), none⟩,
  ⟨(some 5), .mv (.t 10), none⟩]
def F_arcs_Of.r2 : List Oper := [
  ⟨(some 11), .mv (.t 5), none⟩,
  ⟨(some 12), .eq true .sc (.t 11) (.c (.i .i64 0)), none⟩]
def F_arcs_Of.r3 : List Oper := [
  ⟨(some 13), .build [.sn, .sn, .sn, .sn, .sn, .sn] [], none⟩,
  ⟨(some 14), .mv (.t 5), none⟩,
  ⟨none, .st 6 (.t 2) (.t 13), none⟩,
  ⟨(some 3), .mv (.t 14), none⟩]
def F_arcs_Of.r4 : List Oper := [
  ⟨(some 15), .ld true 4 (.t 4), none⟩,
  ⟨(some 16), .mv (.t 0), none⟩,
  ⟨(some 17), .fa 0 (.t 4), none⟩,
  ⟨(some 18), .ld false 1 (.t 17), none⟩,
  ⟨(some 19), .call (.c (.f 144 [])) [.t 16, .c (.i .i64 0), .t 18], none⟩,
  ⟨(some 20), .mv (.t 0), none⟩,
  ⟨(some 21), .fa 1 (.t 4), none⟩,
  ⟨(some 22), .ld false 1 (.t 21), none⟩,
  ⟨(some 23), .call (.c (.f 144 [])) [.t 20, .c (.i .i64 1), .t 22], none⟩,
  ⟨(some 24), .build [.sn, .sn, .sn, .sn, .sn, .sn] [(0, 4, .t 15), (4, 1, .t 19), (5, 1, .t 23)], none⟩,
  ⟨none, .st 6 (.t 2) (.t 24), none⟩,
  ⟨(some 3), .mv (.c (.i .i64 0)), none⟩]
def F_arcs_Of.code : Code := .seq (.region F_arcs_Of.r0) (.seq (.region F_arcs_Of.r1) (.seq (.seq (.region F_arcs_Of.r2) (.cond (.t 12) (.seq (.region F_arcs_Of.r3) (.ret)) (.skip))) (.seq (.draw F_arcs_Of.r4 [(0, 3), (0, 4), (0, 7), (3, 7), (4, 7), (0, 8)]) (.ret))))
def F_arcs_Of : Func := ⟨25, [.cell 2 true 6, .t 3], F_arcs_Of.code⟩
/-! muntin/muntinlaw17.wakes -/
def F_muntinlaw17_wakes.r0 : List Oper := [
  ⟨(some 0), .mv (.c (.b false)), none⟩]
def F_muntinlaw17_wakes.r1 : List Oper := [
  ⟨(some 8), .call (.c (.f 145 [])) [], none⟩,
  ⟨(some 9), .call (.c (.f 129 [])) [.t 8], none⟩,
  ⟨(some 7), .mv (.t 9), none⟩,
  ⟨(some 10), .ext (.t 7) 0, none⟩,
  ⟨(some 11), .ext (.t 7) 1, none⟩,
  ⟨(some 1), .alloc [.sn, .sn, .sn, .sn, .sn, .sn], none⟩,
  ⟨none, .st 6 (.t 1) (.t 10), none⟩,
  ⟨(some 2), .mv (.t 11), none⟩]
def F_muntinlaw17_wakes.r2 : List Oper := [
  ⟨(some 12), .mv (.t 2), none⟩,
  ⟨(some 13), .eq true .sc (.t 12) (.c (.i .i64 0)), none⟩,
  ⟨(some 14), .mv (.t 13), none⟩,
  ⟨(some 15), .fa 4 (.t 1), (some (14, false))⟩,
  ⟨(some 16), .ld false 1 (.t 15), (some (14, false))⟩,
  ⟨(some 17), .len (.t 16), (some (14, false))⟩,
  ⟨(some 18), .eq true .sc (.t 17) (.c (.i .i64 2)), (some (14, false))⟩,
  ⟨(some 19), .pick (.t 14) (.c (.b true)) (.t 18), none⟩,
  ⟨(some 20), .mv (.t 19), none⟩,
  ⟨(some 21), .fa 4 (.t 1), (some (20, false))⟩,
  ⟨(some 22), .ld false 1 (.t 21), (some (20, false))⟩,
  ⟨(some 23), .ixa 3 (.t 22) (.c (.i .i64 1)), (some (20, false))⟩,
  ⟨(some 24), .ld true 3 (.t 23), (some (20, false))⟩,
  ⟨(some 25), .build [.i .i64 0, .i .i64 0, .i .i64 0] [(0, 1, .c (.i .i64 0)), (1, 1, .c (.i .i64 1)), (2, 1, .c (.i .i64 1))], (some (20, false))⟩,
  ⟨(some 26), .eq true (.fl [.i, .i, .i]) (.t 24) (.t 25), (some (20, false))⟩,
  ⟨(some 27), .pick (.t 20) (.c (.b true)) (.t 26), none⟩,
  ⟨(some 28), .mv (.t 27), none⟩,
  ⟨(some 29), .fa 5 (.t 1), (some (28, false))⟩,
  ⟨(some 30), .ld false 1 (.t 29), (some (28, false))⟩,
  ⟨(some 31), .ixa 3 (.t 30) (.c (.i .i64 0)), (some (28, false))⟩,
  ⟨(some 32), .ld true 3 (.t 31), (some (28, false))⟩,
  ⟨(some 33), .build [.i .i64 0, .i .i64 0, .i .i64 0] [(0, 1, .c (.i .i64 0)), (1, 1, .c (.i .i64 1))], (some (28, false))⟩,
  ⟨(some 34), .eq true (.fl [.i, .i, .i]) (.t 32) (.t 33), (some (28, false))⟩,
  ⟨(some 35), .pick (.t 28) (.c (.b true)) (.t 34), none⟩]
def F_muntinlaw17_wakes.r3 : List Oper := [
  ⟨(some 0), .mv (.c (.b false)), none⟩]
def F_muntinlaw17_wakes.r4 : List Oper := [
  ⟨(some 37), .fa 0 (.t 1), none⟩,
  ⟨(some 38), .ld true 4 (.t 37), none⟩,
  ⟨(some 39), .bsl 1 2 [.i .i64 0] [(0, 1, .c (.i .i64 0)), (1, 1, .c (.i .i64 5))], none⟩,
  ⟨(some 40), .bsl 1 2 [.i .i64 0] [(0, 1, .c (.i .i64 0)), (1, 1, .c (.i .i64 2))], none⟩,
  ⟨(some 41), .call (.c (.f 132 [])) [.t 38, .t 39, .t 40], none⟩,
  ⟨(some 36), .mv (.t 41), none⟩,
  ⟨(some 42), .ext (.t 36) 0, none⟩,
  ⟨(some 43), .ext (.t 36) 1, none⟩,
  ⟨(some 3), .mv (.t 42), none⟩,
  ⟨(some 4), .mv (.t 43), none⟩]
def F_muntinlaw17_wakes.r5 : List Oper := [
  ⟨(some 45), .call (.c (.f 145 [])) [], none⟩,
  ⟨(some 46), .mv (.t 3), none⟩,
  ⟨(some 47), .call (.c (.f 133 [])) [.t 45, .t 46], none⟩,
  ⟨(some 44), .mv (.t 47), none⟩,
  ⟨(some 48), .ext (.t 44) 0, none⟩,
  ⟨(some 49), .ext (.t 44) 1, none⟩,
  ⟨(some 5), .mv (.t 48), none⟩,
  ⟨(some 6), .mv (.t 49), none⟩]
def F_muntinlaw17_wakes.r6 : List Oper := [
  ⟨(some 50), .mv (.t 4), none⟩,
  ⟨(some 51), .eq false .sc (.t 50) (.c (.i .i64 0)), none⟩,
  ⟨(some 52), .mv (.t 51), none⟩,
  ⟨(some 53), .mv (.t 3), (some (52, true))⟩,
  ⟨(some 54), .len (.t 53), (some (52, true))⟩,
  ⟨(some 55), .eq false .sc (.t 54) (.c (.i .i64 4)), (some (52, true))⟩,
  ⟨(some 56), .pick (.t 52) (.t 55) (.c (.b false)), none⟩,
  ⟨(some 57), .mv (.t 56), none⟩,
  ⟨(some 58), .mv (.t 3), (some (57, true))⟩,
  ⟨(some 59), .ixa 2 (.t 58) (.c (.i .i64 2)), (some (57, true))⟩,
  ⟨(some 60), .ld true 2 (.t 59), (some (57, true))⟩,
  ⟨(some 61), .build [.i .i64 0, .i .i64 0] [(0, 1, .c (.i .i64 5)), (1, 1, .c (.i .i64 2))], (some (57, true))⟩,
  ⟨(some 62), .eq false (.fl [.i, .i]) (.t 60) (.t 61), (some (57, true))⟩,
  ⟨(some 63), .pick (.t 57) (.t 62) (.c (.b false)), none⟩,
  ⟨(some 64), .mv (.t 63), none⟩,
  ⟨(some 65), .mv (.t 5), (some (64, true))⟩,
  ⟨(some 66), .eq false .sc (.t 65) (.c (.i .i64 12)), (some (64, true))⟩,
  ⟨(some 67), .pick (.t 64) (.t 66) (.c (.b false)), none⟩,
  ⟨(some 68), .mv (.t 67), none⟩,
  ⟨(some 69), .mv (.t 6), (some (68, true))⟩,
  ⟨(some 70), .eq false .sc (.t 69) (.c (.i .i64 0)), (some (68, true))⟩,
  ⟨(some 71), .pick (.t 68) (.t 70) (.c (.b false)), none⟩,
  ⟨(some 0), .mv (.t 71), none⟩]
def F_muntinlaw17_wakes.code : Code := .seq (.region F_muntinlaw17_wakes.r0) (.seq (.region F_muntinlaw17_wakes.r1) (.seq (.seq (.region F_muntinlaw17_wakes.r2) (.cond (.t 35) (.seq (.region F_muntinlaw17_wakes.r3) (.ret)) (.skip))) (.seq (.region F_muntinlaw17_wakes.r4) (.seq (.region F_muntinlaw17_wakes.r5) (.seq (.region F_muntinlaw17_wakes.r6) (.ret))))))
def F_muntinlaw17_wakes : Func := ⟨72, [.t 0], F_muntinlaw17_wakes.code⟩
/-! muntin/muntinlaw17.numbers -/
def F_muntinlaw17_numbers.r0 : List Oper := [
  ⟨(some 6), .mv (.c (.sn)), none⟩]
def F_muntinlaw17_numbers.r1 : List Oper := [
  ⟨(some 7), .mv (.c (.sn)), none⟩]
def F_muntinlaw17_numbers.r2 : List Oper := [
  ⟨(some 10), .mv (.t 1), none⟩,
  ⟨(some 11), .mv (.c (.i .i64 0)), none⟩]
def F_muntinlaw17_numbers.r3 : List Oper := [
  ⟨(some 12), .bin .lss (.t 11) (.t 10), none⟩]
def F_muntinlaw17_numbers.r4 : List Oper := [
  ⟨(some 13), .mv (.t 11), none⟩,
  ⟨(some 8), .mv (.t 13), none⟩]
def F_muntinlaw17_numbers.r5 : List Oper := [
  ⟨(some 14), .mv (.t 8), none⟩,
  ⟨(some 9), .mv (.t 14), none⟩]
def F_muntinlaw17_numbers.r6 : List Oper := [
  ⟨(some 15), .mv (.t 8), none⟩,
  ⟨(some 16), .mv (.t 0), none⟩,
  ⟨(some 17), .len (.t 16), none⟩,
  ⟨(some 18), .bin .lss (.t 15) (.t 17), none⟩]
def F_muntinlaw17_numbers.r7 : List Oper := [
  ⟨(some 19), .mv (.t 0), none⟩,
  ⟨(some 20), .mv (.t 8), none⟩,
  ⟨(some 21), .ixa 1 (.t 19) (.t 20), none⟩,
  ⟨(some 22), .ld false 1 (.t 21), none⟩,
  ⟨(some 9), .mv (.t 22), none⟩]
def F_muntinlaw17_numbers.r8 : List Oper := [
  ⟨(some 23), .mv (.t 2), none⟩,
  ⟨(some 24), .bin .gtr (.t 23) (.c (.i .i64 0)), none⟩]
def F_muntinlaw17_numbers.r9 : List Oper := [
  ⟨(some 25), .mv (.t 9), none⟩,
  ⟨(some 26), .mv (.t 2), none⟩,
  ⟨(some 27), .bin .rem (.t 25) (.t 26), none⟩,
  ⟨(some 9), .mv (.t 27), none⟩]
def F_muntinlaw17_numbers.r10 : List Oper := [
  ⟨(some 28), .mv (.t 7), none⟩,
  ⟨(some 29), .mv (.t 9), none⟩,
  ⟨(some 30), .bsl 1 1 [.i .i64 0] [(0, 1, .t 29)], none⟩,
  ⟨(some 31), .app 1 8 (.t 28) (.t 30), none⟩,
  ⟨(some 7), .mv (.t 31), none⟩]
def F_muntinlaw17_numbers.r11 : List Oper := [
  ⟨(some 32), .bin .add (.t 11) (.c (.i .i64 1)), none⟩,
  ⟨(some 11), .mv (.t 32), none⟩]
def F_muntinlaw17_numbers.l0 : Code := .seq (.region F_muntinlaw17_numbers.r3) (.seq (.cond (.t 12) (.skip) (.exit 0)) (.seq (.block 1 (.seq (.region F_muntinlaw17_numbers.r4) (.seq (.region F_muntinlaw17_numbers.r5) (.seq (.seq (.region F_muntinlaw17_numbers.r6) (.cond (.t 18) (.seq (.region F_muntinlaw17_numbers.r7) (.seq (.region F_muntinlaw17_numbers.r8) (.cond (.t 24) (.region F_muntinlaw17_numbers.r9) (.skip)))) (.skip))) (.region F_muntinlaw17_numbers.r10))))) (.region F_muntinlaw17_numbers.r11)))
def F_muntinlaw17_numbers.r12 : List Oper := [
  ⟨(some 33), .mv (.t 7), none⟩,
  ⟨(some 6), .mv (.t 33), none⟩]
def F_muntinlaw17_numbers.code : Code := .seq (.region F_muntinlaw17_numbers.r0) (.seq (.region F_muntinlaw17_numbers.r1) (.seq (.seq (.region F_muntinlaw17_numbers.r2) (.block 0 (.loop F_muntinlaw17_numbers.l0))) (.seq (.region F_muntinlaw17_numbers.r12) (.ret))))
def F_muntinlaw17_numbers : Func := ⟨34, [.t 6], F_muntinlaw17_numbers.code⟩
/-! muntin/arcs.Place -/
def F_arcs_Place.r0 : List Oper := [
  ⟨(some 3), .box (.t 0), none⟩,
  ⟨(some 6), .mv (.c (.sn)), none⟩,
  ⟨(some 7), .mv (.c (.i .i64 0)), none⟩]
def F_arcs_Place.r1 : List Oper := [
  ⟨(some 10), .mv (.t 1), none⟩,
  ⟨(some 11), .len (.t 10), none⟩,
  ⟨(some 12), .fa 2 (.t 3), none⟩,
  ⟨(some 13), .ld false 1 (.t 12), none⟩,
  ⟨(some 14), .len (.t 13), none⟩,
  ⟨(some 15), .eq true .sc (.t 11) (.t 14), none⟩,
  ⟨(some 16), .mv (.t 15), none⟩,
  ⟨(some 17), .mv (.t 2), (some (16, false))⟩,
  ⟨(some 18), .len (.t 17), (some (16, false))⟩,
  ⟨(some 19), .fa 3 (.t 3), (some (16, false))⟩,
  ⟨(some 20), .ld false 1 (.t 19), (some (16, false))⟩,
  ⟨(some 21), .len (.t 20), (some (16, false))⟩,
  ⟨(some 22), .eq true .sc (.t 18) (.t 21), (some (16, false))⟩,
  ⟨(some 23), .pick (.t 16) (.c (.b true)) (.t 22), none⟩]
def F_arcs_Place.r2 : List Oper := [
  ⟨(some 6), .mv (.c (.sn)), none⟩,
  ⟨(some 7), .mv (.c (.i .i64 2)), none⟩]
def F_arcs_Place.r3 : List Oper := [
  ⟨(some 8), .mv (.c (.sn)), none⟩]
def F_arcs_Place.r4 : List Oper := [
  ⟨(some 24), .fa 0 (.t 3), none⟩,
  ⟨(some 25), .ld false 1 (.t 24), none⟩,
  ⟨(some 26), .len (.t 25), none⟩,
  ⟨(some 27), .mv (.c (.i .i64 0)), none⟩]
def F_arcs_Place.r5 : List Oper := [
  ⟨(some 28), .bin .lss (.t 27) (.t 26), none⟩]
def F_arcs_Place.r6 : List Oper := [
  ⟨(some 29), .mv (.t 27), none⟩,
  ⟨(some 9), .mv (.t 29), none⟩]
def F_arcs_Place.r7 : List Oper := [
  ⟨(some 30), .mv (.t 8), none⟩,
  ⟨(some 31), .mv (.t 1), none⟩,
  ⟨(some 32), .fa 0 (.t 3), none⟩,
  ⟨(some 33), .ld false 1 (.t 32), none⟩,
  ⟨(some 34), .mv (.t 9), none⟩,
  ⟨(some 35), .ixa 1 (.t 33) (.t 34), none⟩,
  ⟨(some 36), .ld false 1 (.t 35), none⟩,
  ⟨(some 37), .ixa 1 (.t 31) (.t 36), none⟩,
  ⟨(some 38), .ld false 1 (.t 37), none⟩,
  ⟨(some 39), .mv (.t 2), none⟩,
  ⟨(some 40), .fa 1 (.t 3), none⟩,
  ⟨(some 41), .ld false 1 (.t 40), none⟩,
  ⟨(some 42), .mv (.t 9), none⟩,
  ⟨(some 43), .ixa 1 (.t 41) (.t 42), none⟩,
  ⟨(some 44), .ld false 1 (.t 43), none⟩,
  ⟨(some 45), .ixa 1 (.t 39) (.t 44), none⟩,
  ⟨(some 46), .ld false 1 (.t 45), none⟩,
  ⟨(some 47), .build [.i .i64 0, .i .i64 0] [(0, 1, .t 38), (1, 1, .t 46)], none⟩,
  ⟨(some 48), .bsl 2 1 [.i .i64 0, .i .i64 0] [(0, 2, .t 47)], none⟩,
  ⟨(some 49), .app 2 16 (.t 30) (.t 48), none⟩,
  ⟨(some 8), .mv (.t 49), none⟩]
def F_arcs_Place.r8 : List Oper := [
  ⟨(some 50), .bin .add (.t 27) (.c (.i .i64 1)), none⟩,
  ⟨(some 27), .mv (.t 50), none⟩]
def F_arcs_Place.l0 : Code := .seq (.region F_arcs_Place.r5) (.seq (.cond (.t 28) (.skip) (.exit 0)) (.seq (.block 1 (.seq (.region F_arcs_Place.r6) (.draw F_arcs_Place.r7 [(3, 11), (6, 11), (8, 11), (3, 14), (6, 14), (8, 14), (3, 16), (6, 16), (8, 16)]))) (.region F_arcs_Place.r8)))
def F_arcs_Place.r9 : List Oper := [
  ⟨(some 51), .mv (.t 8), none⟩,
  ⟨(some 6), .mv (.t 51), none⟩,
  ⟨(some 7), .mv (.c (.i .i64 0)), none⟩]
def F_arcs_Place.code : Code := .seq (.region F_arcs_Place.r0) (.seq (.seq (.region F_arcs_Place.r1) (.cond (.t 23) (.seq (.region F_arcs_Place.r2) (.ret)) (.skip))) (.seq (.region F_arcs_Place.r3) (.seq (.seq (.region F_arcs_Place.r4) (.block 0 (.loop F_arcs_Place.l0))) (.seq (.region F_arcs_Place.r9) (.ret)))))
def F_arcs_Place : Func := ⟨52, [.t 6, .t 7], F_arcs_Place.code⟩
/-! muntin/arcs.Length -/
def F_arcs_Length.r0 : List Oper := [
  ⟨(some 4), .mv (.c (.i .i64 0)), none⟩,
  ⟨(some 5), .mv (.c (.i .i64 0)), none⟩]
def F_arcs_Length.r1 : List Oper := [
  ⟨(some 15), .mv (.t 0), none⟩,
  ⟨(some 16), .call (.c (.f 66 [])) [.t 15], none⟩,
  ⟨(some 6), .mv (.t 16), none⟩]
def F_arcs_Length.r2 : List Oper := [
  ⟨(some 17), .mv (.t 6), none⟩,
  ⟨(some 18), .eq true .sc (.t 17) (.c (.i .i64 0)), none⟩]
def F_arcs_Length.r3 : List Oper := [
  ⟨(some 19), .mv (.t 6), none⟩,
  ⟨(some 4), .mv (.c (.i .i64 0)), none⟩,
  ⟨(some 5), .mv (.t 19), none⟩]
def F_arcs_Length.r4 : List Oper := [
  ⟨(some 20), .mv (.t 1), none⟩,
  ⟨(some 21), .len (.t 20), none⟩,
  ⟨(some 22), .mv (.t 0), none⟩,
  ⟨(some 23), .len (.t 22), none⟩,
  ⟨(some 24), .eq true .sc (.t 21) (.t 23), none⟩,
  ⟨(some 25), .mv (.t 24), none⟩,
  ⟨(some 26), .mv (.t 1), (some (25, false))⟩,
  ⟨(some 27), .call (.c (.f 146 [])) [.t 26, .c (.f 147 [])], (some (25, false))⟩,
  ⟨(some 28), .pick (.t 25) (.c (.b true)) (.t 27), none⟩]
def F_arcs_Length.r5 : List Oper := [
  ⟨(some 4), .mv (.c (.i .i64 0)), none⟩,
  ⟨(some 5), .mv (.c (.i .i64 2)), none⟩]
def F_arcs_Length.r6 : List Oper := [
  ⟨(some 7), .mv (.c (.i .i64 0)), none⟩]
def F_arcs_Length.r7 : List Oper := [
  ⟨(some 29), .mv (.t 0), none⟩,
  ⟨(some 30), .len (.t 29), none⟩,
  ⟨(some 31), .mv (.c (.i .i64 0)), none⟩]
def F_arcs_Length.r8 : List Oper := [
  ⟨(some 32), .bin .lss (.t 31) (.t 30), none⟩]
def F_arcs_Length.r9 : List Oper := [
  ⟨(some 33), .mv (.t 31), none⟩,
  ⟨(some 34), .ixa 8 (.t 29) (.t 31), none⟩,
  ⟨(some 35), .ld true 8 (.t 34), none⟩,
  ⟨(some 9), .alloc [.i .i64 0, .i .i64 0, .i .i64 0, .i .i64 0, .i .i64 0, .i .i64 0, .i .i64 0, .i .i64 0], none⟩,
  ⟨(some 8), .mv (.t 33), none⟩,
  ⟨none, .st 8 (.t 9) (.t 35), none⟩]
def F_arcs_Length.r10 : List Oper := [
  ⟨(some 36), .bsl 1 2 [.i .i64 0] [(0, 1, .c (.i .i64 0)), (1, 1, .c (.i .i64 1))], none⟩,
  ⟨(some 37), .len (.t 36), none⟩,
  ⟨(some 38), .mv (.c (.i .i64 0)), none⟩]
def F_arcs_Length.r11 : List Oper := [
  ⟨(some 39), .bin .lss (.t 38) (.t 37), none⟩]
def F_arcs_Length.r12 : List Oper := [
  ⟨(some 40), .ixa 1 (.t 36) (.t 38), none⟩,
  ⟨(some 41), .ld false 1 (.t 40), none⟩,
  ⟨(some 11), .mv (.t 41), none⟩]
def F_arcs_Length.r13 : List Oper := [
  ⟨(some 42), .mv (.t 11), none⟩,
  ⟨(some 43), .fa 0 (.t 9), none⟩,
  ⟨(some 44), .ixaa 1 4 (.t 43) (.t 42), none⟩,
  ⟨(some 45), .ld false 1 (.t 44), none⟩,
  ⟨(some 12), .mv (.t 45), none⟩]
def F_arcs_Length.r14 : List Oper := [
  ⟨(some 46), .mv (.t 12), none⟩,
  ⟨(some 47), .bin .lss (.t 46) (.c (.i .i64 0)), none⟩]
def F_arcs_Length.r15 : List Oper := [
  ⟨(some 49), .mv (.t 1), none⟩,
  ⟨(some 50), .mv (.t 8), none⟩,
  ⟨(some 51), .ixa 2 (.t 49) (.t 50), none⟩,
  ⟨(some 52), .ld true 2 (.t 51), none⟩,
  ⟨(some 53), .mv (.t 1), none⟩,
  ⟨(some 54), .mv (.t 12), none⟩,
  ⟨(some 55), .ixa 2 (.t 53) (.t 54), none⟩,
  ⟨(some 56), .ld true 2 (.t 55), none⟩,
  ⟨(some 57), .call (.c (.f 148 [])) [.t 52, .t 56], none⟩,
  ⟨(some 48), .mv (.t 57), none⟩,
  ⟨(some 58), .ext (.t 48) 0, none⟩,
  ⟨(some 59), .ext (.t 48) 1, none⟩,
  ⟨(some 13), .mv (.t 58), none⟩,
  ⟨(some 14), .mv (.t 59), none⟩]
def F_arcs_Length.r16 : List Oper := [
  ⟨(some 60), .mv (.t 14), none⟩,
  ⟨(some 61), .un .not (.t 60), none⟩,
  ⟨(some 62), .mv (.t 61), none⟩,
  ⟨(some 63), .mv (.t 13), (some (62, false))⟩,
  ⟨(some 64), .mv (.t 11), (some (62, false))⟩,
  ⟨(some 65), .eq true .sc (.t 63) (.t 64), (some (62, false))⟩,
  ⟨(some 66), .pick (.t 62) (.c (.b true)) (.t 65), none⟩]
def F_arcs_Length.r17 : List Oper := [
  ⟨(some 4), .mv (.c (.i .i64 0)), none⟩,
  ⟨(some 5), .mv (.c (.i .i64 15)), none⟩]
def F_arcs_Length.r18 : List Oper := [
  ⟨(some 67), .mv (.t 7), none⟩,
  ⟨(some 68), .mv (.t 11), none⟩,
  ⟨(some 69), .fa 4 (.t 9), none⟩,
  ⟨(some 70), .ixaa 1 4 (.t 69) (.t 68), none⟩,
  ⟨(some 71), .ld false 1 (.t 70), none⟩,
  ⟨(some 72), .call (.c (.f 149 [])) [.t 71], none⟩,
  ⟨(some 73), .mv (.t 1), none⟩,
  ⟨(some 74), .mv (.t 12), none⟩,
  ⟨(some 75), .ixa 2 (.t 73) (.t 74), none⟩,
  ⟨(some 76), .fa 0 (.t 75), none⟩,
  ⟨(some 77), .ld false 1 (.t 76), none⟩,
  ⟨(some 78), .mv (.t 1), none⟩,
  ⟨(some 79), .mv (.t 8), none⟩,
  ⟨(some 80), .ixa 2 (.t 78) (.t 79), none⟩,
  ⟨(some 81), .fa 0 (.t 80), none⟩,
  ⟨(some 82), .ld false 1 (.t 81), none⟩,
  ⟨(some 83), .bin .sub (.t 77) (.t 82), none⟩,
  ⟨(some 84), .mv (.t 1), none⟩,
  ⟨(some 85), .mv (.t 12), none⟩,
  ⟨(some 86), .ixa 2 (.t 84) (.t 85), none⟩,
  ⟨(some 87), .fa 1 (.t 86), none⟩,
  ⟨(some 88), .ld false 1 (.t 87), none⟩,
  ⟨(some 89), .bin .add (.t 83) (.t 88), none⟩,
  ⟨(some 90), .mv (.t 1), none⟩,
  ⟨(some 91), .mv (.t 8), none⟩,
  ⟨(some 92), .ixa 2 (.t 90) (.t 91), none⟩,
  ⟨(some 93), .fa 1 (.t 92), none⟩,
  ⟨(some 94), .ld false 1 (.t 93), none⟩,
  ⟨(some 95), .bin .sub (.t 89) (.t 94), none⟩,
  ⟨(some 96), .bin .mul (.t 72) (.t 95), none⟩,
  ⟨(some 97), .bin .add (.t 67) (.t 96), none⟩,
  ⟨(some 7), .mv (.t 97), none⟩]
def F_arcs_Length.r19 : List Oper := [
  ⟨(some 98), .bin .add (.t 38) (.c (.i .i64 1)), none⟩,
  ⟨(some 38), .mv (.t 98), none⟩]
def F_arcs_Length.l0 : Code := .seq (.region F_arcs_Length.r11) (.seq (.cond (.t 39) (.skip) (.exit 2)) (.seq (.block 3 (.seq (.region F_arcs_Length.r12) (.seq (.region F_arcs_Length.r13) (.seq (.seq (.region F_arcs_Length.r14) (.cond (.t 47) (.exit 3) (.skip))) (.seq (.seq (.draw F_arcs_Length.r15 [(3, 7)]) (.seq (.region F_arcs_Length.r16) (.cond (.t 66) (.seq (.region F_arcs_Length.r17) (.ret)) (.skip)))) (.draw F_arcs_Length.r18 [(4, 10), (5, 10), (4, 15), (5, 15), (10, 15), (4, 21), (5, 21), (10, 21), (15, 21), (4, 27), (5, 27), (10, 27), (15, 27), (21, 27)])))))) (.region F_arcs_Length.r19)))
def F_arcs_Length.r20 : List Oper := [
  ⟨(some 99), .bin .add (.t 31) (.c (.i .i64 1)), none⟩,
  ⟨(some 31), .mv (.t 99), none⟩]
def F_arcs_Length.l1 : Code := .seq (.region F_arcs_Length.r8) (.seq (.cond (.t 32) (.skip) (.exit 0)) (.seq (.block 1 (.seq (.region F_arcs_Length.r9) (.seq (.region F_arcs_Length.r10) (.block 2 (.loop F_arcs_Length.l0))))) (.region F_arcs_Length.r20)))
def F_arcs_Length.r21 : List Oper := [
  ⟨(some 100), .mv (.t 7), none⟩,
  ⟨(some 4), .mv (.t 100), none⟩,
  ⟨(some 5), .mv (.c (.i .i64 0)), none⟩]
def F_arcs_Length.code : Code := .seq (.region F_arcs_Length.r0) (.seq (.seq (.region F_arcs_Length.r1) (.seq (.region F_arcs_Length.r2) (.cond (.t 18) (.seq (.region F_arcs_Length.r3) (.ret)) (.skip)))) (.seq (.seq (.region F_arcs_Length.r4) (.cond (.t 28) (.seq (.region F_arcs_Length.r5) (.ret)) (.skip))) (.seq (.region F_arcs_Length.r6) (.seq (.seq (.region F_arcs_Length.r7) (.block 0 (.loop F_arcs_Length.l1))) (.seq (.region F_arcs_Length.r21) (.ret))))))
def F_arcs_Length : Func := ⟨101, [.t 4, .t 5], F_arcs_Length.code⟩
/-! muntin/seg.chains -/
def F_seg_chains.r0 : List Oper := [
  ⟨(some 4), .mv (.c (.sn)), none⟩,
  ⟨(some 5), .mv (.c (.sn)), none⟩,
  ⟨(some 6), .mv (.c (.b false)), none⟩]
def F_seg_chains.r1 : List Oper := [
  ⟨(some 15), .bsl 1 1 [.i .i64 0] [(0, 1, .c (.i .i64 (-1)))], none⟩,
  ⟨(some 16), .mv (.t 0), none⟩,
  ⟨(some 17), .len (.t 16), none⟩,
  ⟨(some 18), .call (.c (.f 83 [])) [.t 15, .t 17], none⟩,
  ⟨(some 7), .mv (.t 18), none⟩]
def F_seg_chains.r2 : List Oper := [
  ⟨(some 19), .mv (.t 1), none⟩,
  ⟨(some 20), .call (.c (.f 77 [])) [.t 19, .c (.i .i64 2)], none⟩,
  ⟨(some 8), .mv (.t 20), none⟩]
def F_seg_chains.r3 : List Oper := [
  ⟨(some 9), .mv (.c (.sn)), none⟩]
def F_seg_chains.r4 : List Oper := [
  ⟨(some 21), .mv (.t 0), none⟩,
  ⟨(some 22), .len (.t 21), none⟩,
  ⟨(some 23), .mv (.c (.i .i64 0)), none⟩]
def F_seg_chains.r5 : List Oper := [
  ⟨(some 24), .bin .lss (.t 23) (.t 22), none⟩]
def F_seg_chains.r6 : List Oper := [
  ⟨(some 25), .mv (.t 23), none⟩,
  ⟨(some 10), .mv (.t 25), none⟩]
def F_seg_chains.r7 : List Oper := [
  ⟨(some 26), .mv (.t 7), none⟩,
  ⟨(some 27), .mv (.t 10), none⟩,
  ⟨(some 28), .ixa 1 (.t 26) (.t 27), none⟩,
  ⟨(some 29), .ld false 1 (.t 28), none⟩,
  ⟨(some 30), .bin .geq (.t 29) (.c (.i .i64 0)), none⟩]
def F_seg_chains.r8 : List Oper := [
  ⟨(some 31), .mv (.t 10), none⟩,
  ⟨(some 11), .mv (.t 31), none⟩]
def F_seg_chains.r9 : List Oper := [
  ⟨(some 12), .mv (.c (.i .i64 0)), none⟩]
def F_seg_chains.r10 : List Oper := [
  ⟨(some 32), .mv (.t 0), none⟩,
  ⟨(some 33), .mv (.t 11), none⟩,
  ⟨(some 34), .mv (.t 8), none⟩,
  ⟨(some 35), .ixa 8 (.t 32) (.t 33), none⟩,
  ⟨(some 36), .fa 0 (.t 35), none⟩,
  ⟨(some 37), .ixaa 1 4 (.t 36) (.t 34), none⟩,
  ⟨(some 38), .ld false 1 (.t 37), none⟩,
  ⟨(some 39), .bin .geq (.t 38) (.c (.i .i64 0)), none⟩]
def F_seg_chains.r12 : List Oper := [
  ⟨(some 42), .mv (.t 12), none⟩,
  ⟨(some 43), .mv (.t 0), none⟩,
  ⟨(some 44), .len (.t 43), none⟩,
  ⟨(some 45), .eq false .sc (.t 42) (.t 44), none⟩]
def F_seg_chains.r13 : List Oper := [
  ⟨(some 4), .mv (.c (.sn)), none⟩,
  ⟨(some 5), .mv (.c (.sn)), none⟩,
  ⟨(some 6), .mv (.c (.b false)), none⟩]
def F_seg_chains.r14 : List Oper := [
  ⟨(some 46), .mv (.t 0), none⟩,
  ⟨(some 47), .mv (.t 11), none⟩,
  ⟨(some 48), .mv (.t 8), none⟩,
  ⟨(some 49), .ixa 8 (.t 46) (.t 47), none⟩,
  ⟨(some 50), .fa 0 (.t 49), none⟩,
  ⟨(some 51), .ixaa 1 4 (.t 50) (.t 48), none⟩,
  ⟨(some 52), .ld false 1 (.t 51), none⟩,
  ⟨(some 11), .mv (.t 52), none⟩]
def F_seg_chains.r11 : List Oper := [
  ⟨(some 40), .mv (.t 12), none⟩,
  ⟨(some 41), .bin .add (.t 40) (.c (.i .i64 1)), none⟩,
  ⟨(some 12), .mv (.t 41), none⟩]
def F_seg_chains.l0 : Code := .seq (.seq (.region F_seg_chains.r10) (.cond (.t 39) (.skip) (.exit 2))) (.seq (.block 3 (.seq (.seq (.region F_seg_chains.r12) (.cond (.t 45) (.seq (.region F_seg_chains.r13) (.ret)) (.skip))) (.region F_seg_chains.r14))) (.region F_seg_chains.r11))
def F_seg_chains.r15 : List Oper := [
  ⟨(some 13), .mv (.c (.sn)), none⟩]
def F_seg_chains.r16 : List Oper := [
  ⟨(some 53), .mv (.t 11), none⟩,
  ⟨(some 14), .mv (.t 53), none⟩]
def F_seg_chains.r17 : List Oper := [
  ⟨(some 54), .mv (.t 14), none⟩,
  ⟨(some 55), .bin .geq (.t 54) (.c (.i .i64 0)), none⟩]
def F_seg_chains.r19 : List Oper := [
  ⟨(some 63), .mv (.t 7), none⟩,
  ⟨(some 64), .mv (.t 14), none⟩,
  ⟨(some 65), .mv (.t 9), none⟩,
  ⟨(some 66), .len (.t 65), none⟩,
  ⟨(some 67), .ixa 1 (.t 63) (.t 64), none⟩,
  ⟨none, .st 1 (.t 67) (.t 66), none⟩]
def F_seg_chains.r20 : List Oper := [
  ⟨(some 68), .mv (.t 13), none⟩,
  ⟨(some 69), .mv (.t 14), none⟩,
  ⟨(some 70), .bsl 1 1 [.i .i64 0] [(0, 1, .t 69)], none⟩,
  ⟨(some 71), .app 1 8 (.t 68) (.t 70), none⟩,
  ⟨(some 13), .mv (.t 71), none⟩]
def F_seg_chains.r18 : List Oper := [
  ⟨(some 56), .mv (.t 0), none⟩,
  ⟨(some 57), .mv (.t 14), none⟩,
  ⟨(some 58), .mv (.t 1), none⟩,
  ⟨(some 59), .ixa 8 (.t 56) (.t 57), none⟩,
  ⟨(some 60), .fa 0 (.t 59), none⟩,
  ⟨(some 61), .ixaa 1 4 (.t 60) (.t 58), none⟩,
  ⟨(some 62), .ld false 1 (.t 61), none⟩,
  ⟨(some 14), .mv (.t 62), none⟩]
def F_seg_chains.l1 : Code := .seq (.seq (.region F_seg_chains.r17) (.cond (.t 55) (.skip) (.exit 4))) (.seq (.block 5 (.seq (.region F_seg_chains.r19) (.region F_seg_chains.r20))) (.region F_seg_chains.r18))
def F_seg_chains.r21 : List Oper := [
  ⟨(some 72), .mv (.t 9), none⟩,
  ⟨(some 73), .mv (.t 13), none⟩,
  ⟨(some 74), .bsl 1 1 [.sn] [(0, 1, .t 73)], none⟩,
  ⟨(some 75), .app 1 24 (.t 72) (.t 74), none⟩,
  ⟨(some 9), .mv (.t 75), none⟩]
def F_seg_chains.r22 : List Oper := [
  ⟨(some 76), .bin .add (.t 23) (.c (.i .i64 1)), none⟩,
  ⟨(some 23), .mv (.t 76), none⟩]
def F_seg_chains.l2 : Code := .seq (.region F_seg_chains.r5) (.seq (.cond (.t 24) (.skip) (.exit 0)) (.seq (.block 1 (.seq (.region F_seg_chains.r6) (.seq (.seq (.region F_seg_chains.r7) (.cond (.t 30) (.exit 1) (.skip))) (.seq (.region F_seg_chains.r8) (.seq (.seq (.region F_seg_chains.r9) (.block 2 (.loop F_seg_chains.l0))) (.seq (.region F_seg_chains.r15) (.seq (.seq (.region F_seg_chains.r16) (.block 4 (.loop F_seg_chains.l1))) (.region F_seg_chains.r21)))))))) (.region F_seg_chains.r22)))
def F_seg_chains.r23 : List Oper := [
  ⟨(some 77), .mv (.t 7), none⟩,
  ⟨(some 78), .mv (.t 9), none⟩,
  ⟨(some 4), .mv (.t 77), none⟩,
  ⟨(some 5), .mv (.t 78), none⟩,
  ⟨(some 6), .mv (.c (.b true)), none⟩]
def F_seg_chains.code : Code := .seq (.region F_seg_chains.r0) (.seq (.region F_seg_chains.r1) (.seq (.region F_seg_chains.r2) (.seq (.region F_seg_chains.r3) (.seq (.seq (.region F_seg_chains.r4) (.block 0 (.loop F_seg_chains.l2))) (.seq (.region F_seg_chains.r23) (.ret))))))
def F_seg_chains : Func := ⟨79, [.t 4, .t 5, .t 6], F_seg_chains.code⟩
/-! muntin/muntinref16.chains -/
def F_muntinref16_chains.r0 : List Oper := [
  ⟨(some 4), .mv (.c (.sn)), none⟩,
  ⟨(some 5), .mv (.c (.sn)), none⟩,
  ⟨(some 6), .mv (.c (.b false)), none⟩]
def F_muntinref16_chains.r1 : List Oper := [
  ⟨(some 15), .mv (.t 0), none⟩,
  ⟨(some 16), .len (.t 15), none⟩,
  ⟨(some 17), .mks 1 8 [.i .i64 0] (.t 16) (.t 16), none⟩,
  ⟨(some 7), .mv (.t 17), none⟩]
def F_muntinref16_chains.r2 : List Oper := [
  ⟨(some 8), .mv (.c (.sn)), none⟩]
def F_muntinref16_chains.r3 : List Oper := [
  ⟨(some 9), .mv (.c (.sn)), none⟩]
def F_muntinref16_chains.r4 : List Oper := [
  ⟨(some 10), .mv (.c (.i .i64 0)), none⟩]
def F_muntinref16_chains.r5 : List Oper := [
  ⟨(some 18), .mv (.t 10), none⟩,
  ⟨(some 19), .mv (.t 0), none⟩,
  ⟨(some 20), .len (.t 19), none⟩,
  ⟨(some 21), .bin .lss (.t 18) (.t 20), none⟩]
def F_muntinref16_chains.r7 : List Oper := [
  ⟨(some 24), .mv (.t 0), none⟩,
  ⟨(some 25), .mv (.t 10), none⟩,
  ⟨(some 26), .mv (.t 1), none⟩,
  ⟨(some 27), .call (.c (.f 150 [])) [.t 24, .t 25, .t 26], none⟩,
  ⟨(some 11), .mv (.t 27), none⟩]
def F_muntinref16_chains.r8 : List Oper := [
  ⟨(some 28), .mv (.t 11), none⟩,
  ⟨(some 29), .bin .lss (.t 28) (.c (.i .i64 0)), none⟩]
def F_muntinref16_chains.r9 : List Oper := [
  ⟨(some 4), .mv (.c (.sn)), none⟩,
  ⟨(some 5), .mv (.c (.sn)), none⟩,
  ⟨(some 6), .mv (.c (.b false)), none⟩]
def F_muntinref16_chains.r10 : List Oper := [
  ⟨(some 12), .mv (.c (.i .i64 0)), none⟩]
def F_muntinref16_chains.r11 : List Oper := [
  ⟨(some 30), .mv (.t 12), none⟩,
  ⟨(some 31), .mv (.t 8), none⟩,
  ⟨(some 32), .len (.t 31), none⟩,
  ⟨(some 33), .bin .lss (.t 30) (.t 32), none⟩,
  ⟨(some 34), .mv (.t 33), none⟩,
  ⟨(some 35), .mv (.t 8), (some (34, true))⟩,
  ⟨(some 36), .mv (.t 12), (some (34, true))⟩,
  ⟨(some 37), .ixa 1 (.t 35) (.t 36), (some (34, true))⟩,
  ⟨(some 38), .ld false 1 (.t 37), (some (34, true))⟩,
  ⟨(some 39), .mv (.t 11), (some (34, true))⟩,
  ⟨(some 40), .eq true .sc (.t 38) (.t 39), (some (34, true))⟩,
  ⟨(some 41), .pick (.t 34) (.t 40) (.c (.b false)), none⟩]
def F_muntinref16_chains.r12 : List Oper := [
  ⟨(some 42), .mv (.t 12), none⟩,
  ⟨(some 43), .bin .add (.t 42) (.c (.i .i64 1)), none⟩,
  ⟨(some 12), .mv (.t 43), none⟩]
def F_muntinref16_chains.l0 : Code := .seq (.seq (.region F_muntinref16_chains.r11) (.cond (.t 41) (.skip) (.exit 2))) (.block 3 (.region F_muntinref16_chains.r12))
def F_muntinref16_chains.r13 : List Oper := [
  ⟨(some 44), .mv (.t 7), none⟩,
  ⟨(some 45), .mv (.t 10), none⟩,
  ⟨(some 46), .mv (.t 12), none⟩,
  ⟨(some 47), .ixa 1 (.t 44) (.t 45), none⟩,
  ⟨none, .st 1 (.t 47) (.t 46), none⟩]
def F_muntinref16_chains.r14 : List Oper := [
  ⟨(some 48), .mv (.t 12), none⟩,
  ⟨(some 49), .mv (.t 8), none⟩,
  ⟨(some 50), .len (.t 49), none⟩,
  ⟨(some 51), .eq false .sc (.t 48) (.t 50), none⟩]
def F_muntinref16_chains.r15 : List Oper := [
  ⟨(some 52), .mv (.t 8), none⟩,
  ⟨(some 53), .mv (.t 11), none⟩,
  ⟨(some 54), .bsl 1 1 [.i .i64 0] [(0, 1, .t 53)], none⟩,
  ⟨(some 55), .app 1 8 (.t 52) (.t 54), none⟩,
  ⟨(some 8), .mv (.t 55), none⟩]
def F_muntinref16_chains.r16 : List Oper := [
  ⟨(some 13), .mv (.c (.sn)), none⟩]
def F_muntinref16_chains.r17 : List Oper := [
  ⟨(some 56), .mv (.t 11), none⟩,
  ⟨(some 14), .mv (.t 56), none⟩]
def F_muntinref16_chains.r18 : List Oper := [
  ⟨(some 57), .mv (.t 14), none⟩,
  ⟨(some 58), .bin .geq (.t 57) (.c (.i .i64 0)), none⟩]
def F_muntinref16_chains.r20 : List Oper := [
  ⟨(some 66), .mv (.t 13), none⟩,
  ⟨(some 67), .mv (.t 14), none⟩,
  ⟨(some 68), .bsl 1 1 [.i .i64 0] [(0, 1, .t 67)], none⟩,
  ⟨(some 69), .app 1 8 (.t 66) (.t 68), none⟩,
  ⟨(some 13), .mv (.t 69), none⟩]
def F_muntinref16_chains.r19 : List Oper := [
  ⟨(some 59), .mv (.t 0), none⟩,
  ⟨(some 60), .mv (.t 14), none⟩,
  ⟨(some 61), .mv (.t 1), none⟩,
  ⟨(some 62), .ixa 8 (.t 59) (.t 60), none⟩,
  ⟨(some 63), .fa 0 (.t 62), none⟩,
  ⟨(some 64), .ixaa 1 4 (.t 63) (.t 61), none⟩,
  ⟨(some 65), .ld false 1 (.t 64), none⟩,
  ⟨(some 14), .mv (.t 65), none⟩]
def F_muntinref16_chains.l1 : Code := .seq (.seq (.region F_muntinref16_chains.r18) (.cond (.t 58) (.skip) (.exit 4))) (.seq (.block 5 (.region F_muntinref16_chains.r20)) (.region F_muntinref16_chains.r19))
def F_muntinref16_chains.r21 : List Oper := [
  ⟨(some 70), .mv (.t 9), none⟩,
  ⟨(some 71), .mv (.t 13), none⟩,
  ⟨(some 72), .bsl 1 1 [.sn] [(0, 1, .t 71)], none⟩,
  ⟨(some 73), .app 1 24 (.t 70) (.t 72), none⟩,
  ⟨(some 9), .mv (.t 73), none⟩]
def F_muntinref16_chains.r6 : List Oper := [
  ⟨(some 22), .mv (.t 10), none⟩,
  ⟨(some 23), .bin .add (.t 22) (.c (.i .i64 1)), none⟩,
  ⟨(some 10), .mv (.t 23), none⟩]
def F_muntinref16_chains.l2 : Code := .seq (.seq (.region F_muntinref16_chains.r5) (.cond (.t 21) (.skip) (.exit 0))) (.seq (.block 1 (.seq (.region F_muntinref16_chains.r7) (.seq (.seq (.region F_muntinref16_chains.r8) (.cond (.t 29) (.seq (.region F_muntinref16_chains.r9) (.ret)) (.skip))) (.seq (.region F_muntinref16_chains.r10) (.seq (.block 2 (.loop F_muntinref16_chains.l0)) (.seq (.region F_muntinref16_chains.r13) (.seq (.region F_muntinref16_chains.r14) (.cond (.t 51) (.seq (.region F_muntinref16_chains.r15) (.seq (.region F_muntinref16_chains.r16) (.seq (.seq (.region F_muntinref16_chains.r17) (.block 4 (.loop F_muntinref16_chains.l1))) (.region F_muntinref16_chains.r21)))) (.skip))))))))) (.region F_muntinref16_chains.r6))
def F_muntinref16_chains.r22 : List Oper := [
  ⟨(some 74), .mv (.t 7), none⟩,
  ⟨(some 75), .mv (.t 9), none⟩,
  ⟨(some 4), .mv (.t 74), none⟩,
  ⟨(some 5), .mv (.t 75), none⟩,
  ⟨(some 6), .mv (.c (.b true)), none⟩]
def F_muntinref16_chains.code : Code := .seq (.region F_muntinref16_chains.r0) (.seq (.region F_muntinref16_chains.r1) (.seq (.region F_muntinref16_chains.r2) (.seq (.region F_muntinref16_chains.r3) (.seq (.seq (.region F_muntinref16_chains.r4) (.block 0 (.loop F_muntinref16_chains.l2))) (.seq (.region F_muntinref16_chains.r22) (.ret))))))
def F_muntinref16_chains : Func := ⟨76, [.t 4, .t 5, .t 6], F_muntinref16_chains.code⟩
/-! muntin/arcs.graph -/
def F_arcs_graph.r0 : List Oper := [
  ⟨(some 6), .mv (.c (.sn)), none⟩]
def F_arcs_graph.r1 : List Oper := [
  ⟨(some 7), .mv (.c (.sn)), none⟩]
def F_arcs_graph.r2 : List Oper := [
  ⟨(some 11), .mv (.t 0), none⟩,
  ⟨(some 12), .len (.t 11), none⟩,
  ⟨(some 13), .mv (.c (.i .i64 0)), none⟩]
def F_arcs_graph.r3 : List Oper := [
  ⟨(some 14), .bin .lss (.t 13) (.t 12), none⟩]
def F_arcs_graph.r4 : List Oper := [
  ⟨(some 15), .mv (.t 13), none⟩,
  ⟨(some 16), .ixa 8 (.t 11) (.t 13), none⟩,
  ⟨(some 17), .ld true 8 (.t 16), none⟩,
  ⟨(some 9), .alloc [.i .i64 0, .i .i64 0, .i .i64 0, .i .i64 0, .i .i64 0, .i .i64 0, .i .i64 0, .i .i64 0], none⟩,
  ⟨(some 8), .mv (.t 15), none⟩,
  ⟨none, .st 8 (.t 9) (.t 17), none⟩]
def F_arcs_graph.r5 : List Oper := [
  ⟨(some 18), .mv (.t 1), none⟩,
  ⟨(some 19), .fa 0 (.t 9), none⟩,
  ⟨(some 20), .ixaa 1 4 (.t 19) (.t 18), none⟩,
  ⟨(some 21), .ld false 1 (.t 20), none⟩,
  ⟨(some 10), .mv (.t 21), none⟩]
def F_arcs_graph.r6 : List Oper := [
  ⟨(some 22), .mv (.t 10), none⟩,
  ⟨(some 23), .bin .geq (.t 22) (.c (.i .i64 0)), none⟩]
def F_arcs_graph.r7 : List Oper := [
  ⟨(some 24), .mv (.t 7), none⟩,
  ⟨(some 25), .mv (.t 2), none⟩,
  ⟨(some 26), .mv (.t 8), none⟩,
  ⟨(some 27), .ixa 1 (.t 25) (.t 26), none⟩,
  ⟨(some 28), .ld false 1 (.t 27), none⟩,
  ⟨(some 29), .mv (.t 2), none⟩,
  ⟨(some 30), .mv (.t 10), none⟩,
  ⟨(some 31), .ixa 1 (.t 29) (.t 30), none⟩,
  ⟨(some 32), .ld false 1 (.t 31), none⟩,
  ⟨(some 33), .mv (.t 1), none⟩,
  ⟨(some 34), .fa 4 (.t 9), none⟩,
  ⟨(some 35), .ixaa 1 4 (.t 34) (.t 33), none⟩,
  ⟨(some 36), .ld false 1 (.t 35), none⟩,
  ⟨(some 37), .call (.c (.f 149 [])) [.t 36], none⟩,
  ⟨(some 38), .build [.i .i64 0, .i .i64 0, .i .i64 0] [(0, 1, .t 28), (1, 1, .t 32), (2, 1, .t 37)], none⟩,
  ⟨(some 39), .bsl 3 1 [.i .i64 0, .i .i64 0, .i .i64 0] [(0, 3, .t 38)], none⟩,
  ⟨(some 40), .app 3 24 (.t 24) (.t 39), none⟩,
  ⟨(some 7), .mv (.t 40), none⟩]
def F_arcs_graph.r8 : List Oper := [
  ⟨(some 41), .bin .add (.t 13) (.c (.i .i64 1)), none⟩,
  ⟨(some 13), .mv (.t 41), none⟩]
def F_arcs_graph.l0 : Code := .seq (.region F_arcs_graph.r3) (.seq (.cond (.t 14) (.skip) (.exit 0)) (.seq (.block 1 (.seq (.region F_arcs_graph.r4) (.seq (.region F_arcs_graph.r5) (.seq (.region F_arcs_graph.r6) (.cond (.t 23) (.draw F_arcs_graph.r7 [(4, 8), (4, 12), (8, 12), (4, 13), (8, 13)]) (.skip)))))) (.region F_arcs_graph.r8)))
def F_arcs_graph.r9 : List Oper := [
  ⟨(some 42), .mv (.t 7), none⟩,
  ⟨(some 6), .mv (.t 42), none⟩]
def F_arcs_graph.code : Code := .seq (.region F_arcs_graph.r0) (.seq (.region F_arcs_graph.r1) (.seq (.seq (.region F_arcs_graph.r2) (.block 0 (.loop F_arcs_graph.l0))) (.seq (.region F_arcs_graph.r9) (.ret))))
def F_arcs_graph : Func := ⟨43, [.t 6], F_arcs_graph.code⟩
/-! muntin/muntinlaw17.square -/
def F_muntinlaw17_square.r0 : List Oper := [
  ⟨(some 0), .mv (.c (.sn)), none⟩]
def F_muntinlaw17_square.r1 : List Oper := [
  ⟨(some 2), .call (.c (.f 46 [])) [.c (.i .i64 4)], none⟩,
  ⟨(some 1), .mv (.t 2), none⟩]
def F_muntinlaw17_square.r2 : List Oper := [
  ⟨(some 4), .mv (.t 1), none⟩,
  ⟨(some 5), .call (.c (.f 53 [])) [.t 4, .c (.i .i64 0), .c (.i .i64 0), .c (.i .i64 1), .c (.i .i64 0)], none⟩,
  ⟨(some 3), .mv (.t 5), none⟩,
  ⟨(some 6), .ext (.t 3) 0, none⟩,
  ⟨(some 7), .ext (.t 3) 1, none⟩,
  ⟨(some 1), .mv (.t 6), none⟩]
def F_muntinlaw17_square.r3 : List Oper := [
  ⟨(some 9), .mv (.t 1), none⟩,
  ⟨(some 10), .call (.c (.f 53 [])) [.t 9, .c (.i .i64 1), .c (.i .i64 1), .c (.i .i64 2), .c (.i .i64 0)], none⟩,
  ⟨(some 8), .mv (.t 10), none⟩,
  ⟨(some 11), .ext (.t 8) 0, none⟩,
  ⟨(some 12), .ext (.t 8) 1, none⟩,
  ⟨(some 1), .mv (.t 11), none⟩]
def F_muntinlaw17_square.r4 : List Oper := [
  ⟨(some 14), .mv (.t 1), none⟩,
  ⟨(some 15), .call (.c (.f 53 [])) [.t 14, .c (.i .i64 2), .c (.i .i64 2), .c (.i .i64 3), .c (.i .i64 0)], none⟩,
  ⟨(some 13), .mv (.t 15), none⟩,
  ⟨(some 16), .ext (.t 13) 0, none⟩,
  ⟨(some 17), .ext (.t 13) 1, none⟩,
  ⟨(some 1), .mv (.t 16), none⟩]
def F_muntinlaw17_square.r5 : List Oper := [
  ⟨(some 19), .mv (.t 1), none⟩,
  ⟨(some 20), .call (.c (.f 53 [])) [.t 19, .c (.i .i64 3), .c (.i .i64 3), .c (.i .i64 0), .c (.i .i64 (-1))], none⟩,
  ⟨(some 18), .mv (.t 20), none⟩,
  ⟨(some 21), .ext (.t 18) 0, none⟩,
  ⟨(some 22), .ext (.t 18) 1, none⟩,
  ⟨(some 1), .mv (.t 21), none⟩]
def F_muntinlaw17_square.r6 : List Oper := [
  ⟨(some 23), .mv (.t 1), none⟩,
  ⟨(some 0), .mv (.t 23), none⟩]
def F_muntinlaw17_square.code : Code := .seq (.region F_muntinlaw17_square.r0) (.seq (.region F_muntinlaw17_square.r1) (.seq (.region F_muntinlaw17_square.r2) (.seq (.region F_muntinlaw17_square.r3) (.seq (.region F_muntinlaw17_square.r4) (.seq (.region F_muntinlaw17_square.r5) (.seq (.region F_muntinlaw17_square.r6) (.ret)))))))
def F_muntinlaw17_square : Func := ⟨24, [.t 0], F_muntinlaw17_square.code⟩
/-! slices.ContainsFunc[[]muntin/api.Point,muntin/api.Point] -/
def F_slices_ContainsFunc_api_Point.r0 : List Oper := [
  ⟨(some 4), .mv (.c (.b false)), none⟩]
def F_slices_ContainsFunc_api_Point.r1 : List Oper := [
  ⟨(some 5), .mv (.t 0), none⟩,
  ⟨(some 6), .mv (.t 1), none⟩,
  ⟨(some 7), .call (.c (.f 151 [])) [.t 5, .t 6], none⟩,
  ⟨(some 8), .bin .geq (.t 7) (.c (.i .i64 0)), none⟩,
  ⟨(some 4), .mv (.t 8), none⟩]
def F_slices_ContainsFunc_api_Point.code : Code := .seq (.region F_slices_ContainsFunc_api_Point.r0) (.seq (.region F_slices_ContainsFunc_api_Point.r1) (.ret))
def F_slices_ContainsFunc_api_Point : Func := ⟨9, [.t 4], F_slices_ContainsFunc_api_Point.code⟩
/-! muntin/arcs.far -/
def F_arcs_far.r0 : List Oper := [
  ⟨(some 1), .box (.t 0), none⟩,
  ⟨(some 2), .mv (.c (.b false)), none⟩]
def F_arcs_far.r1 : List Oper := [
  ⟨(some 3), .fa 0 (.t 1), none⟩,
  ⟨(some 4), .ld false 1 (.t 3), none⟩,
  ⟨(some 5), .fa 1 (.t 1), none⟩,
  ⟨(some 6), .ld false 1 (.t 5), none⟩,
  ⟨(some 7), .mx [.t 4, .t 6], none⟩,
  ⟨(some 8), .bin .gtr (.t 7) (.c (.i .i64 1000000)), none⟩,
  ⟨(some 9), .mv (.t 8), none⟩,
  ⟨(some 10), .fa 0 (.t 1), (some (9, false))⟩,
  ⟨(some 11), .ld false 1 (.t 10), (some (9, false))⟩,
  ⟨(some 12), .fa 1 (.t 1), (some (9, false))⟩,
  ⟨(some 13), .ld false 1 (.t 12), (some (9, false))⟩,
  ⟨(some 14), .mn [.t 11, .t 13], (some (9, false))⟩,
  ⟨(some 15), .bin .lss (.t 14) (.c (.i .i64 (-1000000))), (some (9, false))⟩,
  ⟨(some 16), .pick (.t 9) (.c (.b true)) (.t 15), none⟩,
  ⟨(some 2), .mv (.t 16), none⟩]
def F_arcs_far.code : Code := .seq (.region F_arcs_far.r0) (.seq (.region F_arcs_far.r1) (.ret))
def F_arcs_far : Func := ⟨17, [.t 2], F_arcs_far.code⟩
/-! muntin/compass.Between -/
def F_compass_Between.r0 : List Oper := [
  ⟨(some 2), .box (.t 0), none⟩,
  ⟨(some 3), .box (.t 1), none⟩,
  ⟨(some 4), .mv (.c (.i .i64 0)), none⟩,
  ⟨(some 5), .mv (.c (.b false)), none⟩]
def F_compass_Between.r1 : List Oper := [
  ⟨(some 7), .fa 0 (.t 2), none⟩,
  ⟨(some 8), .ld false 1 (.t 7), none⟩,
  ⟨(some 9), .fa 0 (.t 3), none⟩,
  ⟨(some 10), .ld false 1 (.t 9), none⟩,
  ⟨(some 11), .eq false .sc (.t 8) (.t 10), none⟩,
  ⟨(some 12), .fa 1 (.t 2), none⟩,
  ⟨(some 13), .ld false 1 (.t 12), none⟩,
  ⟨(some 14), .fa 1 (.t 3), none⟩,
  ⟨(some 15), .ld false 1 (.t 14), none⟩,
  ⟨(some 16), .eq false .sc (.t 13) (.t 15), none⟩,
  ⟨(some 17), .eq false .bl (.t 11) (.t 16), none⟩,
  ⟨(some 6), .mv (.t 17), none⟩]
def F_compass_Between.r2 : List Oper := [
  ⟨(some 4), .mv (.c (.i .i64 0)), none⟩,
  ⟨(some 5), .mv (.c (.b false)), none⟩]
def F_compass_Between.r3 : List Oper := [
  ⟨(some 19), .fa 0 (.t 2), none⟩,
  ⟨(some 20), .ld false 1 (.t 19), none⟩,
  ⟨(some 21), .fa 0 (.t 3), none⟩,
  ⟨(some 22), .ld false 1 (.t 21), none⟩,
  ⟨(some 23), .bin .lss (.t 20) (.t 22), none⟩,
  ⟨(some 18), .mv (.t 23), none⟩]
def F_compass_Between.r4 : List Oper := [
  ⟨(some 4), .mv (.c (.i .i64 0)), none⟩,
  ⟨(some 5), .mv (.c (.b true)), none⟩]
def F_compass_Between.r5 : List Oper := [
  ⟨(some 25), .fa 0 (.t 2), none⟩,
  ⟨(some 26), .ld false 1 (.t 25), none⟩,
  ⟨(some 27), .fa 0 (.t 3), none⟩,
  ⟨(some 28), .ld false 1 (.t 27), none⟩,
  ⟨(some 29), .bin .gtr (.t 26) (.t 28), none⟩,
  ⟨(some 24), .mv (.t 29), none⟩]
def F_compass_Between.r6 : List Oper := [
  ⟨(some 4), .mv (.c (.i .i64 2)), none⟩,
  ⟨(some 5), .mv (.c (.b true)), none⟩]
def F_compass_Between.r7 : List Oper := [
  ⟨(some 31), .fa 1 (.t 2), none⟩,
  ⟨(some 32), .ld false 1 (.t 31), none⟩,
  ⟨(some 33), .fa 1 (.t 3), none⟩,
  ⟨(some 34), .ld false 1 (.t 33), none⟩,
  ⟨(some 35), .bin .lss (.t 32) (.t 34), none⟩,
  ⟨(some 30), .mv (.t 35), none⟩]
def F_compass_Between.r8 : List Oper := [
  ⟨(some 4), .mv (.c (.i .i64 1)), none⟩,
  ⟨(some 5), .mv (.c (.b true)), none⟩]
def F_compass_Between.r9 : List Oper := [
  ⟨(some 4), .mv (.c (.i .i64 3)), none⟩,
  ⟨(some 5), .mv (.c (.b true)), none⟩]
def F_compass_Between.code : Code := .seq (.region F_compass_Between.r0) (.seq (.block 0 (.seq (.region F_compass_Between.r1) (.cond (.t 6) (.seq (.region F_compass_Between.r2) (.ret)) (.seq (.region F_compass_Between.r3) (.cond (.t 18) (.seq (.region F_compass_Between.r4) (.ret)) (.seq (.region F_compass_Between.r5) (.cond (.t 24) (.seq (.region F_compass_Between.r6) (.ret)) (.seq (.region F_compass_Between.r7) (.cond (.t 30) (.seq (.region F_compass_Between.r8) (.ret)) (.skip)))))))))) (.seq (.region F_compass_Between.r9) (.ret)))
def F_compass_Between : Func := ⟨36, [.t 4, .t 5], F_compass_Between.code⟩
/-! muntin/arcs.weight -/
def F_arcs_weight.r0 : List Oper := [
  ⟨(some 2), .mv (.c (.i .i64 0)), none⟩]
def F_arcs_weight.r1 : List Oper := [
  ⟨(some 3), .mv (.t 0), none⟩,
  ⟨(some 4), .bin .geq (.t 3) (.c (.i .i64 0)), none⟩]
def F_arcs_weight.r2 : List Oper := [
  ⟨(some 2), .mv (.c (.i .i64 1)), none⟩]
def F_arcs_weight.r3 : List Oper := [
  ⟨(some 2), .mv (.c (.i .i64 0)), none⟩]
def F_arcs_weight.code : Code := .seq (.region F_arcs_weight.r0) (.seq (.seq (.region F_arcs_weight.r1) (.cond (.t 4) (.seq (.region F_arcs_weight.r2) (.ret)) (.skip))) (.seq (.region F_arcs_weight.r3) (.ret)))
def F_arcs_weight : Func := ⟨5, [.t 2], F_arcs_weight.code⟩
/-! muntin/muntinref16.First -/
def F_muntinref16_First.r0 : List Oper := [
  ⟨(some 6), .mv (.c (.i .i64 0)), none⟩]
def F_muntinref16_First.r1 : List Oper := [
  ⟨(some 7), .mv (.c (.i .i64 0)), none⟩]
def F_muntinref16_First.r2 : List Oper := [
  ⟨(some 9), .mv (.t 7), none⟩,
  ⟨(some 10), .mv (.t 0), none⟩,
  ⟨(some 11), .len (.t 10), none⟩,
  ⟨(some 12), .bin .leq (.t 9) (.t 11), none⟩]
def F_muntinref16_First.r4 : List Oper := [
  ⟨(some 15), .mv (.t 0), none⟩,
  ⟨(some 16), .mv (.t 1), none⟩,
  ⟨(some 17), .mv (.t 2), none⟩,
  ⟨(some 18), .bin .add (.t 17) (.c (.i .i64 2)), none⟩,
  ⟨(some 19), .bin .rem (.t 18) (.c (.i .i64 4)), none⟩,
  ⟨(some 20), .ixa 8 (.t 15) (.t 16), none⟩,
  ⟨(some 21), .fa 0 (.t 20), none⟩,
  ⟨(some 22), .ixaa 1 4 (.t 21) (.t 19), none⟩,
  ⟨(some 23), .ld false 1 (.t 22), none⟩,
  ⟨(some 8), .mv (.t 23), none⟩]
def F_muntinref16_First.r5 : List Oper := [
  ⟨(some 24), .mv (.t 8), none⟩,
  ⟨(some 25), .bin .lss (.t 24) (.c (.i .i64 0)), none⟩]
def F_muntinref16_First.r6 : List Oper := [
  ⟨(some 26), .mv (.t 1), none⟩,
  ⟨(some 6), .mv (.t 26), none⟩]
def F_muntinref16_First.r7 : List Oper := [
  ⟨(some 27), .mv (.t 8), none⟩,
  ⟨(some 1), .mv (.t 27), none⟩]
def F_muntinref16_First.r3 : List Oper := [
  ⟨(some 13), .mv (.t 7), none⟩,
  ⟨(some 14), .bin .add (.t 13) (.c (.i .i64 1)), none⟩,
  ⟨(some 7), .mv (.t 14), none⟩]
def F_muntinref16_First.l0 : Code := .seq (.seq (.region F_muntinref16_First.r2) (.cond (.t 12) (.skip) (.exit 0))) (.seq (.block 1 (.seq (.region F_muntinref16_First.r4) (.seq (.seq (.region F_muntinref16_First.r5) (.cond (.t 25) (.seq (.region F_muntinref16_First.r6) (.ret)) (.skip))) (.region F_muntinref16_First.r7)))) (.region F_muntinref16_First.r3))
def F_muntinref16_First.r8 : List Oper := [
  ⟨(some 6), .mv (.c (.i .i64 (-1))), none⟩]
def F_muntinref16_First.code : Code := .seq (.region F_muntinref16_First.r0) (.seq (.seq (.region F_muntinref16_First.r1) (.block 0 (.loop F_muntinref16_First.l0))) (.seq (.region F_muntinref16_First.r8) (.ret)))
def F_muntinref16_First : Func := ⟨28, [.t 6], F_muntinref16_First.code⟩
/-! slices.IndexFunc[[]muntin/api.Point,muntin/api.Point] -/
def F_slices_IndexFunc_api_Point.r0 : List Oper := [
  ⟨(some 4), .mv (.c (.i .i64 0)), none⟩]
def F_slices_IndexFunc_api_Point.r1 : List Oper := [
  ⟨(some 6), .mv (.t 0), none⟩,
  ⟨(some 7), .len (.t 6), none⟩,
  ⟨(some 8), .mv (.c (.i .i64 0)), none⟩]
def F_slices_IndexFunc_api_Point.r2 : List Oper := [
  ⟨(some 9), .bin .lss (.t 8) (.t 7), none⟩]
def F_slices_IndexFunc_api_Point.r3 : List Oper := [
  ⟨(some 10), .mv (.t 8), none⟩,
  ⟨(some 5), .mv (.t 10), none⟩]
def F_slices_IndexFunc_api_Point.r4 : List Oper := [
  ⟨(some 11), .mv (.t 1), none⟩,
  ⟨(some 12), .mv (.t 0), none⟩,
  ⟨(some 13), .mv (.t 5), none⟩,
  ⟨(some 14), .ixa 2 (.t 12) (.t 13), none⟩,
  ⟨(some 15), .ld true 2 (.t 14), none⟩,
  ⟨(some 16), .call (.t 11) [.t 15], none⟩]
def F_slices_IndexFunc_api_Point.r5 : List Oper := [
  ⟨(some 17), .mv (.t 5), none⟩,
  ⟨(some 4), .mv (.t 17), none⟩]
def F_slices_IndexFunc_api_Point.r6 : List Oper := [
  ⟨(some 18), .bin .add (.t 8) (.c (.i .i64 1)), none⟩,
  ⟨(some 8), .mv (.t 18), none⟩]
def F_slices_IndexFunc_api_Point.l0 : Code := .seq (.region F_slices_IndexFunc_api_Point.r2) (.seq (.cond (.t 9) (.skip) (.exit 0)) (.seq (.block 1 (.seq (.region F_slices_IndexFunc_api_Point.r3) (.seq (.region F_slices_IndexFunc_api_Point.r4) (.cond (.t 16) (.seq (.region F_slices_IndexFunc_api_Point.r5) (.ret)) (.skip))))) (.region F_slices_IndexFunc_api_Point.r6)))
def F_slices_IndexFunc_api_Point.r7 : List Oper := [
  ⟨(some 4), .mv (.c (.i .i64 (-1))), none⟩]
def F_slices_IndexFunc_api_Point.code : Code := .seq (.region F_slices_IndexFunc_api_Point.r0) (.seq (.seq (.region F_slices_IndexFunc_api_Point.r1) (.block 0 (.loop F_slices_IndexFunc_api_Point.l0))) (.seq (.region F_slices_IndexFunc_api_Point.r7) (.ret)))
def F_slices_IndexFunc_api_Point : Func := ⟨19, [.t 4], F_slices_IndexFunc_api_Point.code⟩
/-! muntin/muntinlaw17.ArcsPlace -/
def F_muntinlaw17_ArcsPlace.r0 : List Oper := [
  ⟨(some 3), .box (.t 0), none⟩,
  ⟨(some 6), .mv (.c (.b false)), none⟩]
def F_muntinlaw17_ArcsPlace.r1 : List Oper := [
  ⟨(some 25), .ld true 3 (.t 3), none⟩,
  ⟨(some 26), .call (.c (.f 28 [])) [.t 25, .c (.i .i64 16)], none⟩,
  ⟨(some 24), .mv (.t 26), none⟩,
  ⟨(some 27), .ext (.t 24) 0, none⟩,
  ⟨(some 28), .ext (.t 24) 1, none⟩,
  ⟨(some 7), .mv (.t 27), none⟩,
  ⟨(some 8), .mv (.t 28), none⟩]
def F_muntinlaw17_ArcsPlace.r2 : List Oper := [
  ⟨(some 30), .mv (.t 7), none⟩,
  ⟨(some 31), .call (.c (.f 129 [])) [.t 30], none⟩,
  ⟨(some 29), .mv (.t 31), none⟩,
  ⟨(some 32), .ext (.t 29) 0, none⟩,
  ⟨(some 33), .ext (.t 29) 1, none⟩,
  ⟨(some 9), .alloc [.sn, .sn, .sn, .sn, .sn, .sn], none⟩,
  ⟨none, .st 6 (.t 9) (.t 32), none⟩,
  ⟨(some 10), .mv (.t 33), none⟩]
def F_muntinlaw17_ArcsPlace.r3 : List Oper := [
  ⟨(some 35), .mv (.t 7), none⟩,
  ⟨(some 36), .call (.c (.f 121 [])) [.t 35], none⟩,
  ⟨(some 34), .mv (.t 36), none⟩,
  ⟨(some 37), .ext (.t 34) 0, none⟩,
  ⟨(some 38), .ext (.t 34) 1, none⟩,
  ⟨(some 11), .alloc [.sn, .sn, .sn, .sn], none⟩,
  ⟨none, .st 4 (.t 11) (.t 37), none⟩,
  ⟨(some 12), .mv (.t 38), none⟩]
def F_muntinlaw17_ArcsPlace.r4 : List Oper := [
  ⟨(some 39), .call (.c (.f 130 [])) [], none⟩,
  ⟨(some 40), .un .not (.t 39), none⟩,
  ⟨(some 41), .mv (.t 40), none⟩,
  ⟨(some 42), .mv (.t 10), (some (41, false))⟩,
  ⟨(some 43), .eq true .sc (.t 42) (.c (.i .i64 0)), (some (41, false))⟩,
  ⟨(some 44), .pick (.t 41) (.c (.b true)) (.t 43), none⟩]
def F_muntinlaw17_ArcsPlace.r5 : List Oper := [
  ⟨(some 6), .mv (.c (.b false)), none⟩]
def F_muntinlaw17_ArcsPlace.r6 : List Oper := [
  ⟨(some 45), .bsl 1 2 [.i .i64 0] [(0, 1, .c (.i .i64 0)), (1, 1, .c (.i .i64 9))], none⟩,
  ⟨(some 46), .len (.t 45), none⟩,
  ⟨(some 47), .mv (.c (.i .i64 0)), none⟩]
def F_muntinlaw17_ArcsPlace.r7 : List Oper := [
  ⟨(some 48), .bin .lss (.t 47) (.t 46), none⟩]
def F_muntinlaw17_ArcsPlace.r8 : List Oper := [
  ⟨(some 49), .ixa 1 (.t 45) (.t 47), none⟩,
  ⟨(some 50), .ld false 1 (.t 49), none⟩,
  ⟨(some 14), .mv (.t 50), none⟩]
def F_muntinlaw17_ArcsPlace.r9 : List Oper := [
  ⟨(some 51), .mv (.t 1), none⟩,
  ⟨(some 52), .fa 2 (.t 11), none⟩,
  ⟨(some 53), .ld false 1 (.t 52), none⟩,
  ⟨(some 54), .len (.t 53), none⟩,
  ⟨(some 55), .mv (.t 14), none⟩,
  ⟨(some 56), .call (.c (.f 131 [])) [.t 51, .t 54, .t 55], none⟩,
  ⟨(some 57), .mv (.t 2), none⟩,
  ⟨(some 58), .fa 3 (.t 11), none⟩,
  ⟨(some 59), .ld false 1 (.t 58), none⟩,
  ⟨(some 60), .len (.t 59), none⟩,
  ⟨(some 61), .mv (.t 14), none⟩,
  ⟨(some 62), .call (.c (.f 131 [])) [.t 57, .t 60, .t 61], none⟩,
  ⟨(some 15), .mv (.t 56), none⟩,
  ⟨(some 16), .mv (.t 62), none⟩]
def F_muntinlaw17_ArcsPlace.r10 : List Oper := [
  ⟨(some 64), .fa 0 (.t 9), none⟩,
  ⟨(some 65), .ld true 4 (.t 64), none⟩,
  ⟨(some 66), .mv (.t 15), none⟩,
  ⟨(some 67), .mv (.t 16), none⟩,
  ⟨(some 68), .call (.c (.f 132 [])) [.t 65, .t 66, .t 67], none⟩,
  ⟨(some 63), .mv (.t 68), none⟩,
  ⟨(some 69), .ext (.t 63) 0, none⟩,
  ⟨(some 70), .ext (.t 63) 1, none⟩,
  ⟨(some 17), .mv (.t 69), none⟩,
  ⟨(some 18), .mv (.t 70), none⟩]
def F_muntinlaw17_ArcsPlace.r11 : List Oper := [
  ⟨(some 71), .mv (.t 18), none⟩,
  ⟨(some 72), .eq true .sc (.t 71) (.c (.i .i64 0)), none⟩,
  ⟨(some 73), .mv (.t 72), none⟩,
  ⟨(some 74), .mv (.t 17), (some (73, false))⟩,
  ⟨(some 75), .ld true 4 (.t 11), (some (73, false))⟩,
  ⟨(some 76), .mv (.t 15), (some (73, false))⟩,
  ⟨(some 77), .mv (.t 16), (some (73, false))⟩,
  ⟨(some 78), .call (.c (.f 169 [])) [.t 75, .t 76, .t 77], (some (73, false))⟩,
  ⟨(some 79), .call (.c (.f 168 [])) [.t 74, .t 78], (some (73, false))⟩,
  ⟨(some 80), .un .not (.t 79), (some (73, false))⟩,
  ⟨(some 81), .pick (.t 73) (.c (.b true)) (.t 80), none⟩]
def F_muntinlaw17_ArcsPlace.r12 : List Oper := [
  ⟨(some 6), .mv (.c (.b false)), none⟩]
def F_muntinlaw17_ArcsPlace.r13 : List Oper := [
  ⟨(some 82), .mv (.t 7), none⟩,
  ⟨(some 83), .mv (.t 17), none⟩,
  ⟨(some 84), .call (.c (.f 170 [])) [.t 82, .t 83], none⟩,
  ⟨(some 85), .un .not (.t 84), none⟩]
def F_muntinlaw17_ArcsPlace.r14 : List Oper := [
  ⟨(some 6), .mv (.c (.b false)), none⟩]
def F_muntinlaw17_ArcsPlace.r15 : List Oper := [
  ⟨(some 87), .fa 0 (.t 9), none⟩,
  ⟨(some 88), .ld true 4 (.t 87), none⟩,
  ⟨(some 89), .mv (.t 15), none⟩,
  ⟨(some 90), .bsl 1 1 [.i .i64 0] [(0, 1, .c (.i .i64 1))], none⟩,
  ⟨(some 91), .app 1 8 (.t 89) (.t 90), none⟩,
  ⟨(some 92), .mv (.t 16), none⟩,
  ⟨(some 93), .call (.c (.f 132 [])) [.t 88, .t 91, .t 92], none⟩,
  ⟨(some 86), .mv (.t 93), none⟩,
  ⟨(some 94), .ext (.t 86) 0, none⟩,
  ⟨(some 95), .ext (.t 86) 1, none⟩,
  ⟨(some 19), .mv (.t 94), none⟩,
  ⟨(some 20), .mv (.t 95), none⟩]
def F_muntinlaw17_ArcsPlace.r16 : List Oper := [
  ⟨(some 96), .mv (.t 20), none⟩,
  ⟨(some 97), .eq true .sc (.t 96) (.c (.i .i64 2)), none⟩]
def F_muntinlaw17_ArcsPlace.r17 : List Oper := [
  ⟨(some 6), .mv (.c (.b false)), none⟩]
def F_muntinlaw17_ArcsPlace.r18 : List Oper := [
  ⟨(some 98), .bin .add (.t 47) (.c (.i .i64 1)), none⟩,
  ⟨(some 47), .mv (.t 98), none⟩]
def F_muntinlaw17_ArcsPlace.l0 : Code := .seq (.region F_muntinlaw17_ArcsPlace.r7) (.seq (.cond (.t 48) (.skip) (.exit 0)) (.seq (.block 1 (.seq (.region F_muntinlaw17_ArcsPlace.r8) (.seq (.draw F_muntinlaw17_ArcsPlace.r9 [(2, 8), (5, 8)]) (.seq (.region F_muntinlaw17_ArcsPlace.r10) (.seq (.seq (.region F_muntinlaw17_ArcsPlace.r11) (.cond (.t 81) (.seq (.region F_muntinlaw17_ArcsPlace.r12) (.ret)) (.skip))) (.seq (.seq (.region F_muntinlaw17_ArcsPlace.r13) (.cond (.t 85) (.seq (.region F_muntinlaw17_ArcsPlace.r14) (.ret)) (.skip))) (.seq (.draw F_muntinlaw17_ArcsPlace.r15 [(1, 3), (1, 4)]) (.seq (.region F_muntinlaw17_ArcsPlace.r16) (.cond (.t 97) (.seq (.region F_muntinlaw17_ArcsPlace.r17) (.ret)) (.skip)))))))))) (.region F_muntinlaw17_ArcsPlace.r18)))
def F_muntinlaw17_ArcsPlace.r19 : List Oper := [
  ⟨(some 99), .mv (.t 8), none⟩,
  ⟨(some 100), .len (.t 99), none⟩,
  ⟨(some 101), .bin .gtr (.t 100) (.c (.i .i64 0)), none⟩]
def F_muntinlaw17_ArcsPlace.r20 : List Oper := [
  ⟨(some 102), .mv (.t 8), none⟩,
  ⟨(some 103), .call (.c (.f 165 [])) [.t 102], none⟩,
  ⟨(some 21), .mv (.t 103), none⟩]
def F_muntinlaw17_ArcsPlace.r21 : List Oper := [
  ⟨(some 104), .mv (.t 21), none⟩,
  ⟨(some 105), .ixa 2 (.t 104) (.c (.i .i64 0)), none⟩,
  ⟨(some 106), .fa 0 (.t 105), none⟩,
  ⟨(some 107), .ld false 1 (.t 106), none⟩,
  ⟨(some 108), .bin .add (.t 107) (.c (.i .i64 1)), none⟩,
  ⟨(some 109), .ixa 2 (.t 104) (.c (.i .i64 0)), none⟩,
  ⟨(some 110), .fa 0 (.t 109), none⟩,
  ⟨none, .st 1 (.t 110) (.t 108), none⟩]
def F_muntinlaw17_ArcsPlace.r22 : List Oper := [
  ⟨(some 111), .mv (.t 7), none⟩,
  ⟨(some 112), .mv (.t 21), none⟩,
  ⟨(some 113), .call (.c (.f 170 [])) [.t 111, .t 112], none⟩,
  ⟨(some 114), .un .not (.t 113), none⟩]
def F_muntinlaw17_ArcsPlace.r23 : List Oper := [
  ⟨(some 6), .mv (.c (.b false)), none⟩]
def F_muntinlaw17_ArcsPlace.r24 : List Oper := [
  ⟨(some 116), .mv (.t 7), none⟩,
  ⟨(some 117), .mv (.t 8), none⟩,
  ⟨(some 118), .slc 2 (.t 117) (some (.c (.i .i64 1))) none none, none⟩,
  ⟨(some 119), .call (.c (.f 133 [])) [.t 116, .t 118], none⟩,
  ⟨(some 115), .mv (.t 119), none⟩,
  ⟨(some 120), .ext (.t 115) 0, none⟩,
  ⟨(some 121), .ext (.t 115) 1, none⟩,
  ⟨(some 22), .mv (.t 120), none⟩,
  ⟨(some 23), .mv (.t 121), none⟩]
def F_muntinlaw17_ArcsPlace.r25 : List Oper := [
  ⟨(some 122), .mv (.t 23), none⟩,
  ⟨(some 123), .eq true .sc (.t 122) (.c (.i .i64 2)), none⟩]
def F_muntinlaw17_ArcsPlace.r26 : List Oper := [
  ⟨(some 6), .mv (.c (.b false)), none⟩]
def F_muntinlaw17_ArcsPlace.r27 : List Oper := [
  ⟨(some 124), .mv (.t 7), none⟩,
  ⟨(some 125), .mv (.t 8), none⟩,
  ⟨(some 126), .call (.c (.f 170 [])) [.t 124, .t 125], none⟩,
  ⟨(some 6), .mv (.t 126), none⟩]
def F_muntinlaw17_ArcsPlace.code : Code := .seq (.region F_muntinlaw17_ArcsPlace.r0) (.seq (.region F_muntinlaw17_ArcsPlace.r1) (.seq (.region F_muntinlaw17_ArcsPlace.r2) (.seq (.region F_muntinlaw17_ArcsPlace.r3) (.seq (.seq (.region F_muntinlaw17_ArcsPlace.r4) (.cond (.t 44) (.seq (.region F_muntinlaw17_ArcsPlace.r5) (.ret)) (.skip))) (.seq (.seq (.region F_muntinlaw17_ArcsPlace.r6) (.block 0 (.loop F_muntinlaw17_ArcsPlace.l0))) (.seq (.seq (.region F_muntinlaw17_ArcsPlace.r19) (.cond (.t 101) (.seq (.region F_muntinlaw17_ArcsPlace.r20) (.seq (.region F_muntinlaw17_ArcsPlace.r21) (.seq (.seq (.region F_muntinlaw17_ArcsPlace.r22) (.cond (.t 114) (.seq (.region F_muntinlaw17_ArcsPlace.r23) (.ret)) (.skip))) (.seq (.region F_muntinlaw17_ArcsPlace.r24) (.seq (.region F_muntinlaw17_ArcsPlace.r25) (.cond (.t 123) (.seq (.region F_muntinlaw17_ArcsPlace.r26) (.ret)) (.skip))))))) (.skip))) (.seq (.region F_muntinlaw17_ArcsPlace.r27) (.ret))))))))
def F_muntinlaw17_ArcsPlace : Func := ⟨127, [.t 6], F_muntinlaw17_ArcsPlace.code⟩
/-! slices.Clone[[]muntin/api.Point,muntin/api.Point] -/
def F_slices_Clone_api_Point.r0 : List Oper := [
  ⟨(some 2), .mv (.c (.sn)), none⟩]
def F_slices_Clone_api_Point.r1 : List Oper := [
  ⟨(some 3), .mv (.t 0), none⟩,
  ⟨(some 4), .eq false .sl (.t 3) (.c (.sn)), none⟩]
def F_slices_Clone_api_Point.r2 : List Oper := [
  ⟨(some 2), .mv (.c (.sn)), none⟩]
def F_slices_Clone_api_Point.r3 : List Oper := [
  ⟨(some 5), .bsl 2 0 [.i .i64 0, .i .i64 0] [], none⟩,
  ⟨(some 6), .mv (.t 0), none⟩,
  ⟨(some 7), .app 2 16 (.t 5) (.t 6), none⟩,
  ⟨(some 2), .mv (.t 7), none⟩]
def F_slices_Clone_api_Point.code : Code := .seq (.region F_slices_Clone_api_Point.r0) (.seq (.seq (.region F_slices_Clone_api_Point.r1) (.cond (.t 4) (.seq (.region F_slices_Clone_api_Point.r2) (.ret)) (.skip))) (.seq (.region F_slices_Clone_api_Point.r3) (.ret)))
def F_slices_Clone_api_Point : Func := ⟨8, [.t 2], F_slices_Clone_api_Point.code⟩
/-! slices.Equal[[]muntin/api.Point,muntin/api.Point] -/
def F_slices_Equal_api_Point.r0 : List Oper := [
  ⟨(some 4), .mv (.c (.b false)), none⟩]
def F_slices_Equal_api_Point.r1 : List Oper := [
  ⟨(some 6), .mv (.t 0), none⟩,
  ⟨(some 7), .len (.t 6), none⟩,
  ⟨(some 8), .mv (.t 1), none⟩,
  ⟨(some 9), .len (.t 8), none⟩,
  ⟨(some 10), .eq true .sc (.t 7) (.t 9), none⟩]
def F_slices_Equal_api_Point.r2 : List Oper := [
  ⟨(some 4), .mv (.c (.b false)), none⟩]
def F_slices_Equal_api_Point.r3 : List Oper := [
  ⟨(some 11), .mv (.t 0), none⟩,
  ⟨(some 12), .len (.t 11), none⟩,
  ⟨(some 13), .mv (.c (.i .i64 0)), none⟩]
def F_slices_Equal_api_Point.r4 : List Oper := [
  ⟨(some 14), .bin .lss (.t 13) (.t 12), none⟩]
def F_slices_Equal_api_Point.r5 : List Oper := [
  ⟨(some 15), .mv (.t 13), none⟩,
  ⟨(some 5), .mv (.t 15), none⟩]
def F_slices_Equal_api_Point.r6 : List Oper := [
  ⟨(some 16), .mv (.t 0), none⟩,
  ⟨(some 17), .mv (.t 5), none⟩,
  ⟨(some 18), .ixa 2 (.t 16) (.t 17), none⟩,
  ⟨(some 19), .ld true 2 (.t 18), none⟩,
  ⟨(some 20), .mv (.t 1), none⟩,
  ⟨(some 21), .mv (.t 5), none⟩,
  ⟨(some 22), .ixa 2 (.t 20) (.t 21), none⟩,
  ⟨(some 23), .ld true 2 (.t 22), none⟩,
  ⟨(some 24), .eq true (.fl [.i, .i]) (.t 19) (.t 23), none⟩]
def F_slices_Equal_api_Point.r7 : List Oper := [
  ⟨(some 4), .mv (.c (.b false)), none⟩]
def F_slices_Equal_api_Point.r8 : List Oper := [
  ⟨(some 25), .bin .add (.t 13) (.c (.i .i64 1)), none⟩,
  ⟨(some 13), .mv (.t 25), none⟩]
def F_slices_Equal_api_Point.l0 : Code := .seq (.region F_slices_Equal_api_Point.r4) (.seq (.cond (.t 14) (.skip) (.exit 0)) (.seq (.block 1 (.seq (.region F_slices_Equal_api_Point.r5) (.seq (.draw F_slices_Equal_api_Point.r6 [(3, 7)]) (.cond (.t 24) (.seq (.region F_slices_Equal_api_Point.r7) (.ret)) (.skip))))) (.region F_slices_Equal_api_Point.r8)))
def F_slices_Equal_api_Point.r9 : List Oper := [
  ⟨(some 4), .mv (.c (.b true)), none⟩]
def F_slices_Equal_api_Point.code : Code := .seq (.region F_slices_Equal_api_Point.r0) (.seq (.seq (.region F_slices_Equal_api_Point.r1) (.cond (.t 10) (.seq (.region F_slices_Equal_api_Point.r2) (.ret)) (.skip))) (.seq (.seq (.region F_slices_Equal_api_Point.r3) (.block 0 (.loop F_slices_Equal_api_Point.l0))) (.seq (.region F_slices_Equal_api_Point.r9) (.ret))))
def F_slices_Equal_api_Point : Func := ⟨26, [.t 4], F_slices_Equal_api_Point.code⟩
/-! muntin/muntinref17.Place -/
def F_muntinref17_Place.r0 : List Oper := [
  ⟨(some 3), .box (.t 0), none⟩,
  ⟨(some 6), .mv (.c (.sn)), none⟩]
def F_muntinref17_Place.r1 : List Oper := [
  ⟨(some 7), .mv (.c (.sn)), none⟩]
def F_muntinref17_Place.r2 : List Oper := [
  ⟨(some 8), .mv (.c (.i .i64 0)), none⟩]
def F_muntinref17_Place.r3 : List Oper := [
  ⟨(some 9), .mv (.t 8), none⟩,
  ⟨(some 10), .fa 0 (.t 3), none⟩,
  ⟨(some 11), .ld false 1 (.t 10), none⟩,
  ⟨(some 12), .len (.t 11), none⟩,
  ⟨(some 13), .bin .lss (.t 9) (.t 12), none⟩]
def F_muntinref17_Place.r5 : List Oper := [
  ⟨(some 16), .mv (.t 7), none⟩,
  ⟨(some 17), .mv (.t 1), none⟩,
  ⟨(some 18), .fa 0 (.t 3), none⟩,
  ⟨(some 19), .ld false 1 (.t 18), none⟩,
  ⟨(some 20), .mv (.t 8), none⟩,
  ⟨(some 21), .ixa 1 (.t 19) (.t 20), none⟩,
  ⟨(some 22), .ld false 1 (.t 21), none⟩,
  ⟨(some 23), .ixa 1 (.t 17) (.t 22), none⟩,
  ⟨(some 24), .ld false 1 (.t 23), none⟩,
  ⟨(some 25), .mv (.t 2), none⟩,
  ⟨(some 26), .fa 1 (.t 3), none⟩,
  ⟨(some 27), .ld false 1 (.t 26), none⟩,
  ⟨(some 28), .mv (.t 8), none⟩,
  ⟨(some 29), .ixa 1 (.t 27) (.t 28), none⟩,
  ⟨(some 30), .ld false 1 (.t 29), none⟩,
  ⟨(some 31), .ixa 1 (.t 25) (.t 30), none⟩,
  ⟨(some 32), .ld false 1 (.t 31), none⟩,
  ⟨(some 33), .build [.i .i64 0, .i .i64 0] [(0, 1, .t 24), (1, 1, .t 32)], none⟩,
  ⟨(some 34), .bsl 2 1 [.i .i64 0, .i .i64 0] [(0, 2, .t 33)], none⟩,
  ⟨(some 35), .app 2 16 (.t 16) (.t 34), none⟩,
  ⟨(some 7), .mv (.t 35), none⟩]
def F_muntinref17_Place.r4 : List Oper := [
  ⟨(some 14), .mv (.t 8), none⟩,
  ⟨(some 15), .bin .add (.t 14) (.c (.i .i64 1)), none⟩,
  ⟨(some 8), .mv (.t 15), none⟩]
def F_muntinref17_Place.l0 : Code := .seq (.seq (.region F_muntinref17_Place.r3) (.cond (.t 13) (.skip) (.exit 0))) (.seq (.block 1 (.draw F_muntinref17_Place.r5 [(3, 11), (6, 11), (8, 11), (3, 14), (6, 14), (8, 14), (3, 16), (6, 16), (8, 16)])) (.region F_muntinref17_Place.r4))
def F_muntinref17_Place.r6 : List Oper := [
  ⟨(some 36), .mv (.t 7), none⟩,
  ⟨(some 6), .mv (.t 36), none⟩]
def F_muntinref17_Place.code : Code := .seq (.region F_muntinref17_Place.r0) (.seq (.region F_muntinref17_Place.r1) (.seq (.seq (.region F_muntinref17_Place.r2) (.block 0 (.loop F_muntinref17_Place.l0))) (.seq (.region F_muntinref17_Place.r6) (.ret))))
def F_muntinref17_Place : Func := ⟨37, [.t 6], F_muntinref17_Place.code⟩
/-! muntin/muntinlaw17.length -/
def F_muntinlaw17_length.r0 : List Oper := [
  ⟨(some 4), .mv (.c (.b false)), none⟩]
def F_muntinlaw17_length.r1 : List Oper := [
  ⟨(some 9), .mv (.t 0), none⟩,
  ⟨(some 10), .mv (.t 1), none⟩,
  ⟨(some 11), .call (.c (.f 133 [])) [.t 9, .t 10], none⟩,
  ⟨(some 8), .mv (.t 11), none⟩,
  ⟨(some 12), .ext (.t 8) 0, none⟩,
  ⟨(some 13), .ext (.t 8) 1, none⟩,
  ⟨(some 5), .mv (.t 12), none⟩,
  ⟨(some 6), .mv (.t 13), none⟩]
def F_muntinlaw17_length.r2 : List Oper := [
  ⟨(some 14), .mv (.t 1), none⟩,
  ⟨(some 15), .call (.c (.f 146 [])) [.t 14, .c (.f 192 [])], none⟩,
  ⟨(some 7), .mv (.t 15), none⟩]
def F_muntinlaw17_length.r3 : List Oper := [
  ⟨(some 17), .mv (.t 7), none⟩,
  ⟨(some 16), .mv (.t 17), none⟩]
def F_muntinlaw17_length.r4 : List Oper := [
  ⟨(some 18), .mv (.t 6), none⟩,
  ⟨(some 19), .eq false .sc (.t 18) (.c (.i .i64 2)), none⟩,
  ⟨(some 20), .mv (.t 19), none⟩,
  ⟨(some 21), .mv (.t 5), (some (20, true))⟩,
  ⟨(some 22), .eq false .sc (.t 21) (.c (.i .i64 0)), (some (20, true))⟩,
  ⟨(some 23), .pick (.t 20) (.t 22) (.c (.b false)), none⟩,
  ⟨(some 4), .mv (.t 23), none⟩]
def F_muntinlaw17_length.r5 : List Oper := [
  ⟨(some 25), .mv (.t 0), none⟩,
  ⟨(some 26), .mv (.t 1), none⟩,
  ⟨(some 27), .call (.c (.f 193 [])) [.t 25, .t 26], none⟩,
  ⟨(some 28), .un .not (.t 27), none⟩,
  ⟨(some 24), .mv (.t 28), none⟩]
def F_muntinlaw17_length.r6 : List Oper := [
  ⟨(some 29), .mv (.t 6), none⟩,
  ⟨(some 30), .eq false .sc (.t 29) (.c (.i .i64 15)), none⟩,
  ⟨(some 31), .mv (.t 30), none⟩,
  ⟨(some 32), .mv (.t 5), (some (31, true))⟩,
  ⟨(some 33), .eq false .sc (.t 32) (.c (.i .i64 0)), (some (31, true))⟩,
  ⟨(some 34), .pick (.t 31) (.t 33) (.c (.b false)), none⟩,
  ⟨(some 4), .mv (.t 34), none⟩]
def F_muntinlaw17_length.r7 : List Oper := [
  ⟨(some 35), .mv (.t 6), none⟩,
  ⟨(some 36), .eq false .sc (.t 35) (.c (.i .i64 0)), none⟩,
  ⟨(some 37), .mv (.t 36), none⟩,
  ⟨(some 38), .mv (.t 5), (some (37, true))⟩,
  ⟨(some 39), .mv (.t 0), (some (37, true))⟩,
  ⟨(some 40), .mv (.t 1), (some (37, true))⟩,
  ⟨(some 41), .call (.c (.f 194 [])) [.t 39, .t 40], (some (37, true))⟩,
  ⟨(some 42), .eq false .sc (.t 38) (.t 41), (some (37, true))⟩,
  ⟨(some 43), .pick (.t 37) (.t 42) (.c (.b false)), none⟩,
  ⟨(some 4), .mv (.t 43), none⟩]
def F_muntinlaw17_length.code : Code := .seq (.region F_muntinlaw17_length.r0) (.seq (.region F_muntinlaw17_length.r1) (.seq (.region F_muntinlaw17_length.r2) (.seq (.block 0 (.seq (.region F_muntinlaw17_length.r3) (.cond (.t 16) (.seq (.region F_muntinlaw17_length.r4) (.ret)) (.seq (.region F_muntinlaw17_length.r5) (.cond (.t 24) (.seq (.region F_muntinlaw17_length.r6) (.ret)) (.skip)))))) (.seq (.region F_muntinlaw17_length.r7) (.ret)))))
def F_muntinlaw17_length : Func := ⟨44, [.t 4], F_muntinlaw17_length.code⟩
/-! muntin/muntinlaw17.length$1 -/
def F_muntinlaw17_length_1.r0 : List Oper := [
  ⟨(some 1), .box (.t 0), none⟩,
  ⟨(some 2), .mv (.c (.b false)), none⟩]
def F_muntinlaw17_length_1.r1 : List Oper := [
  ⟨(some 3), .fa 0 (.t 1), none⟩,
  ⟨(some 4), .ld false 1 (.t 3), none⟩,
  ⟨(some 5), .bin .gtr (.t 4) (.c (.i .i64 1000000)), none⟩,
  ⟨(some 6), .mv (.t 5), none⟩,
  ⟨(some 7), .fa 0 (.t 1), (some (6, false))⟩,
  ⟨(some 8), .ld false 1 (.t 7), (some (6, false))⟩,
  ⟨(some 9), .bin .lss (.t 8) (.c (.i .i64 (-1000000))), (some (6, false))⟩,
  ⟨(some 10), .pick (.t 6) (.c (.b true)) (.t 9), none⟩,
  ⟨(some 11), .mv (.t 10), none⟩,
  ⟨(some 12), .fa 1 (.t 1), (some (11, false))⟩,
  ⟨(some 13), .ld false 1 (.t 12), (some (11, false))⟩,
  ⟨(some 14), .bin .gtr (.t 13) (.c (.i .i64 1000000)), (some (11, false))⟩,
  ⟨(some 15), .pick (.t 11) (.c (.b true)) (.t 14), none⟩,
  ⟨(some 16), .mv (.t 15), none⟩,
  ⟨(some 17), .fa 1 (.t 1), (some (16, false))⟩,
  ⟨(some 18), .ld false 1 (.t 17), (some (16, false))⟩,
  ⟨(some 19), .bin .lss (.t 18) (.c (.i .i64 (-1000000))), (some (16, false))⟩,
  ⟨(some 20), .pick (.t 16) (.c (.b true)) (.t 19), none⟩,
  ⟨(some 2), .mv (.t 20), none⟩]
def F_muntinlaw17_length_1.code : Code := .seq (.region F_muntinlaw17_length_1.r0) (.seq (.region F_muntinlaw17_length_1.r1) (.ret))
def F_muntinlaw17_length_1 : Func := ⟨21, [.t 2], F_muntinlaw17_length_1.code⟩
/-! muntin/muntinref17.Straight -/
def F_muntinref17_Straight.r0 : List Oper := [
  ⟨(some 4), .mv (.c (.b false)), none⟩]
def F_muntinref17_Straight.r1 : List Oper := [
  ⟨(some 5), .mv (.c (.i .i64 0)), none⟩]
def F_muntinref17_Straight.r2 : List Oper := [
  ⟨(some 8), .mv (.t 5), none⟩,
  ⟨(some 9), .mv (.t 0), none⟩,
  ⟨(some 10), .len (.t 9), none⟩,
  ⟨(some 11), .bin .lss (.t 8) (.t 10), none⟩]
def F_muntinref17_Straight.r4 : List Oper := [
  ⟨(some 14), .mv (.t 0), none⟩,
  ⟨(some 15), .mv (.t 5), none⟩,
  ⟨(some 16), .ixa 8 (.t 14) (.t 15), none⟩,
  ⟨(some 17), .fa 0 (.t 16), none⟩,
  ⟨(some 18), .ixaa 1 4 (.t 17) (.c (.i .i64 0)), none⟩,
  ⟨(some 19), .ld false 1 (.t 18), none⟩,
  ⟨(some 6), .mv (.t 19), none⟩]
def F_muntinref17_Straight.r5 : List Oper := [
  ⟨(some 20), .mv (.t 6), none⟩,
  ⟨(some 21), .bin .geq (.t 20) (.c (.i .i64 0)), none⟩,
  ⟨(some 22), .mv (.t 21), none⟩,
  ⟨(some 23), .mv (.t 1), (some (22, true))⟩,
  ⟨(some 24), .mv (.t 6), (some (22, true))⟩,
  ⟨(some 25), .mx [.t 24, .c (.i .i64 0)], (some (22, true))⟩,
  ⟨(some 26), .ixa 2 (.t 23) (.t 25), (some (22, true))⟩,
  ⟨(some 27), .fa 1 (.t 26), (some (22, true))⟩,
  ⟨(some 28), .ld false 1 (.t 27), (some (22, true))⟩,
  ⟨(some 29), .mv (.t 1), (some (22, true))⟩,
  ⟨(some 30), .mv (.t 5), (some (22, true))⟩,
  ⟨(some 31), .ixa 2 (.t 29) (.t 30), (some (22, true))⟩,
  ⟨(some 32), .fa 1 (.t 31), (some (22, true))⟩,
  ⟨(some 33), .ld false 1 (.t 32), (some (22, true))⟩,
  ⟨(some 34), .eq true .sc (.t 28) (.t 33), (some (22, true))⟩,
  ⟨(some 35), .mv (.t 34), (some (22, true))⟩,
  ⟨(some 36), .mv (.t 1), (some (35, false))⟩,
  ⟨(some 37), .mv (.t 6), (some (35, false))⟩,
  ⟨(some 38), .mx [.t 37, .c (.i .i64 0)], (some (35, false))⟩,
  ⟨(some 39), .ixa 2 (.t 36) (.t 38), (some (35, false))⟩,
  ⟨(some 40), .fa 0 (.t 39), (some (35, false))⟩,
  ⟨(some 41), .ld false 1 (.t 40), (some (35, false))⟩,
  ⟨(some 42), .mv (.t 1), (some (35, false))⟩,
  ⟨(some 43), .mv (.t 5), (some (35, false))⟩,
  ⟨(some 44), .ixa 2 (.t 42) (.t 43), (some (35, false))⟩,
  ⟨(some 45), .fa 0 (.t 44), (some (35, false))⟩,
  ⟨(some 46), .ld false 1 (.t 45), (some (35, false))⟩,
  ⟨(some 47), .bin .leq (.t 41) (.t 46), (some (35, false))⟩,
  ⟨(some 48), .pick (.t 35) (.c (.b true)) (.t 47), (some (22, true))⟩,
  ⟨(some 49), .pick (.t 22) (.t 48) (.c (.b false)), none⟩]
def F_muntinref17_Straight.r6 : List Oper := [
  ⟨(some 4), .mv (.c (.b false)), none⟩]
def F_muntinref17_Straight.r7 : List Oper := [
  ⟨(some 50), .mv (.t 0), none⟩,
  ⟨(some 51), .mv (.t 5), none⟩,
  ⟨(some 52), .ixa 8 (.t 50) (.t 51), none⟩,
  ⟨(some 53), .fa 0 (.t 52), none⟩,
  ⟨(some 54), .ixaa 1 4 (.t 53) (.c (.i .i64 1)), none⟩,
  ⟨(some 55), .ld false 1 (.t 54), none⟩,
  ⟨(some 7), .mv (.t 55), none⟩]
def F_muntinref17_Straight.r8 : List Oper := [
  ⟨(some 56), .mv (.t 7), none⟩,
  ⟨(some 57), .bin .geq (.t 56) (.c (.i .i64 0)), none⟩,
  ⟨(some 58), .mv (.t 57), none⟩,
  ⟨(some 59), .mv (.t 1), (some (58, true))⟩,
  ⟨(some 60), .mv (.t 7), (some (58, true))⟩,
  ⟨(some 61), .mx [.t 60, .c (.i .i64 0)], (some (58, true))⟩,
  ⟨(some 62), .ixa 2 (.t 59) (.t 61), (some (58, true))⟩,
  ⟨(some 63), .fa 0 (.t 62), (some (58, true))⟩,
  ⟨(some 64), .ld false 1 (.t 63), (some (58, true))⟩,
  ⟨(some 65), .mv (.t 1), (some (58, true))⟩,
  ⟨(some 66), .mv (.t 5), (some (58, true))⟩,
  ⟨(some 67), .ixa 2 (.t 65) (.t 66), (some (58, true))⟩,
  ⟨(some 68), .fa 0 (.t 67), (some (58, true))⟩,
  ⟨(some 69), .ld false 1 (.t 68), (some (58, true))⟩,
  ⟨(some 70), .eq true .sc (.t 64) (.t 69), (some (58, true))⟩,
  ⟨(some 71), .mv (.t 70), (some (58, true))⟩,
  ⟨(some 72), .mv (.t 1), (some (71, false))⟩,
  ⟨(some 73), .mv (.t 7), (some (71, false))⟩,
  ⟨(some 74), .mx [.t 73, .c (.i .i64 0)], (some (71, false))⟩,
  ⟨(some 75), .ixa 2 (.t 72) (.t 74), (some (71, false))⟩,
  ⟨(some 76), .fa 1 (.t 75), (some (71, false))⟩,
  ⟨(some 77), .ld false 1 (.t 76), (some (71, false))⟩,
  ⟨(some 78), .mv (.t 1), (some (71, false))⟩,
  ⟨(some 79), .mv (.t 5), (some (71, false))⟩,
  ⟨(some 80), .ixa 2 (.t 78) (.t 79), (some (71, false))⟩,
  ⟨(some 81), .fa 1 (.t 80), (some (71, false))⟩,
  ⟨(some 82), .ld false 1 (.t 81), (some (71, false))⟩,
  ⟨(some 83), .bin .leq (.t 77) (.t 82), (some (71, false))⟩,
  ⟨(some 84), .pick (.t 71) (.c (.b true)) (.t 83), (some (58, true))⟩,
  ⟨(some 85), .pick (.t 58) (.t 84) (.c (.b false)), none⟩]
def F_muntinref17_Straight.r9 : List Oper := [
  ⟨(some 4), .mv (.c (.b false)), none⟩]
def F_muntinref17_Straight.r3 : List Oper := [
  ⟨(some 12), .mv (.t 5), none⟩,
  ⟨(some 13), .bin .add (.t 12) (.c (.i .i64 1)), none⟩,
  ⟨(some 5), .mv (.t 13), none⟩]
def F_muntinref17_Straight.l0 : Code := .seq (.seq (.region F_muntinref17_Straight.r2) (.cond (.t 11) (.skip) (.exit 0))) (.seq (.block 1 (.seq (.region F_muntinref17_Straight.r4) (.seq (.seq (.draw F_muntinref17_Straight.r5 [(8, 13), (21, 26)]) (.cond (.t 49) (.seq (.region F_muntinref17_Straight.r6) (.ret)) (.skip))) (.seq (.region F_muntinref17_Straight.r7) (.seq (.draw F_muntinref17_Straight.r8 [(8, 13), (21, 26)]) (.cond (.t 85) (.seq (.region F_muntinref17_Straight.r9) (.ret)) (.skip))))))) (.region F_muntinref17_Straight.r3))
def F_muntinref17_Straight.r10 : List Oper := [
  ⟨(some 4), .mv (.c (.b true)), none⟩]
def F_muntinref17_Straight.code : Code := .seq (.region F_muntinref17_Straight.r0) (.seq (.seq (.region F_muntinref17_Straight.r1) (.block 0 (.loop F_muntinref17_Straight.l0))) (.seq (.region F_muntinref17_Straight.r10) (.ret)))
def F_muntinref17_Straight : Func := ⟨86, [.t 4], F_muntinref17_Straight.code⟩
/-! muntin/muntinref17.Length -/
def F_muntinref17_Length.r0 : List Oper := [
  ⟨(some 4), .mv (.c (.i .i64 0)), none⟩]
def F_muntinref17_Length.r1 : List Oper := [
  ⟨(some 5), .mv (.c (.i .i64 0)), none⟩]
def F_muntinref17_Length.r2 : List Oper := [
  ⟨(some 6), .mv (.c (.i .i64 0)), none⟩]
def F_muntinref17_Length.r3 : List Oper := [
  ⟨(some 9), .mv (.t 6), none⟩,
  ⟨(some 10), .mv (.t 0), none⟩,
  ⟨(some 11), .len (.t 10), none⟩,
  ⟨(some 12), .bin .lss (.t 9) (.t 11), none⟩]
def F_muntinref17_Length.r5 : List Oper := [
  ⟨(some 15), .mv (.t 0), none⟩,
  ⟨(some 16), .mv (.t 6), none⟩,
  ⟨(some 17), .ixa 8 (.t 15) (.t 16), none⟩,
  ⟨(some 18), .fa 0 (.t 17), none⟩,
  ⟨(some 19), .ixaa 1 4 (.t 18) (.c (.i .i64 0)), none⟩,
  ⟨(some 20), .ld false 1 (.t 19), none⟩,
  ⟨(some 7), .mv (.t 20), none⟩]
def F_muntinref17_Length.r6 : List Oper := [
  ⟨(some 21), .mv (.t 7), none⟩,
  ⟨(some 22), .bin .geq (.t 21) (.c (.i .i64 0)), none⟩,
  ⟨(some 23), .mv (.t 22), none⟩,
  ⟨(some 24), .mv (.t 0), (some (23, true))⟩,
  ⟨(some 25), .mv (.t 6), (some (23, true))⟩,
  ⟨(some 26), .ixa 8 (.t 24) (.t 25), (some (23, true))⟩,
  ⟨(some 27), .fa 4 (.t 26), (some (23, true))⟩,
  ⟨(some 28), .ixaa 1 4 (.t 27) (.c (.i .i64 0)), (some (23, true))⟩,
  ⟨(some 29), .ld false 1 (.t 28), (some (23, true))⟩,
  ⟨(some 30), .bin .geq (.t 29) (.c (.i .i64 0)), (some (23, true))⟩,
  ⟨(some 31), .pick (.t 23) (.t 30) (.c (.b false)), none⟩]
def F_muntinref17_Length.r7 : List Oper := [
  ⟨(some 32), .mv (.t 5), none⟩,
  ⟨(some 33), .mv (.t 1), none⟩,
  ⟨(some 34), .mv (.t 7), none⟩,
  ⟨(some 35), .ixa 2 (.t 33) (.t 34), none⟩,
  ⟨(some 36), .fa 0 (.t 35), none⟩,
  ⟨(some 37), .ld false 1 (.t 36), none⟩,
  ⟨(some 38), .bin .add (.t 32) (.t 37), none⟩,
  ⟨(some 39), .mv (.t 1), none⟩,
  ⟨(some 40), .mv (.t 6), none⟩,
  ⟨(some 41), .ixa 2 (.t 39) (.t 40), none⟩,
  ⟨(some 42), .fa 0 (.t 41), none⟩,
  ⟨(some 43), .ld false 1 (.t 42), none⟩,
  ⟨(some 44), .bin .sub (.t 38) (.t 43), none⟩,
  ⟨(some 5), .mv (.t 44), none⟩]
def F_muntinref17_Length.r8 : List Oper := [
  ⟨(some 45), .mv (.t 0), none⟩,
  ⟨(some 46), .mv (.t 6), none⟩,
  ⟨(some 47), .ixa 8 (.t 45) (.t 46), none⟩,
  ⟨(some 48), .fa 0 (.t 47), none⟩,
  ⟨(some 49), .ixaa 1 4 (.t 48) (.c (.i .i64 1)), none⟩,
  ⟨(some 50), .ld false 1 (.t 49), none⟩,
  ⟨(some 8), .mv (.t 50), none⟩]
def F_muntinref17_Length.r9 : List Oper := [
  ⟨(some 51), .mv (.t 8), none⟩,
  ⟨(some 52), .bin .geq (.t 51) (.c (.i .i64 0)), none⟩,
  ⟨(some 53), .mv (.t 52), none⟩,
  ⟨(some 54), .mv (.t 0), (some (53, true))⟩,
  ⟨(some 55), .mv (.t 6), (some (53, true))⟩,
  ⟨(some 56), .ixa 8 (.t 54) (.t 55), (some (53, true))⟩,
  ⟨(some 57), .fa 4 (.t 56), (some (53, true))⟩,
  ⟨(some 58), .ixaa 1 4 (.t 57) (.c (.i .i64 1)), (some (53, true))⟩,
  ⟨(some 59), .ld false 1 (.t 58), (some (53, true))⟩,
  ⟨(some 60), .bin .geq (.t 59) (.c (.i .i64 0)), (some (53, true))⟩,
  ⟨(some 61), .pick (.t 53) (.t 60) (.c (.b false)), none⟩]
def F_muntinref17_Length.r10 : List Oper := [
  ⟨(some 62), .mv (.t 5), none⟩,
  ⟨(some 63), .mv (.t 1), none⟩,
  ⟨(some 64), .mv (.t 8), none⟩,
  ⟨(some 65), .ixa 2 (.t 63) (.t 64), none⟩,
  ⟨(some 66), .fa 1 (.t 65), none⟩,
  ⟨(some 67), .ld false 1 (.t 66), none⟩,
  ⟨(some 68), .bin .add (.t 62) (.t 67), none⟩,
  ⟨(some 69), .mv (.t 1), none⟩,
  ⟨(some 70), .mv (.t 6), none⟩,
  ⟨(some 71), .ixa 2 (.t 69) (.t 70), none⟩,
  ⟨(some 72), .fa 1 (.t 71), none⟩,
  ⟨(some 73), .ld false 1 (.t 72), none⟩,
  ⟨(some 74), .bin .sub (.t 68) (.t 73), none⟩,
  ⟨(some 5), .mv (.t 74), none⟩]
def F_muntinref17_Length.r4 : List Oper := [
  ⟨(some 13), .mv (.t 6), none⟩,
  ⟨(some 14), .bin .add (.t 13) (.c (.i .i64 1)), none⟩,
  ⟨(some 6), .mv (.t 14), none⟩]
def F_muntinref17_Length.l0 : Code := .seq (.seq (.region F_muntinref17_Length.r3) (.cond (.t 12) (.skip) (.exit 0))) (.seq (.block 1 (.seq (.region F_muntinref17_Length.r5) (.seq (.seq (.region F_muntinref17_Length.r6) (.cond (.t 31) (.draw F_muntinref17_Length.r7 [(5, 11)]) (.skip))) (.seq (.region F_muntinref17_Length.r8) (.seq (.region F_muntinref17_Length.r9) (.cond (.t 61) (.draw F_muntinref17_Length.r10 [(5, 11)]) (.skip))))))) (.region F_muntinref17_Length.r4))
def F_muntinref17_Length.r11 : List Oper := [
  ⟨(some 75), .mv (.t 5), none⟩,
  ⟨(some 4), .mv (.t 75), none⟩]
def F_muntinref17_Length.code : Code := .seq (.region F_muntinref17_Length.r0) (.seq (.region F_muntinref17_Length.r1) (.seq (.seq (.region F_muntinref17_Length.r2) (.block 0 (.loop F_muntinref17_Length.l0))) (.seq (.region F_muntinref17_Length.r11) (.ret))))
def F_muntinref17_Length : Func := ⟨76, [.t 4], F_muntinref17_Length.code⟩
def G : Prog := fun i => match i with
  | 28 => some F_muntinref10_Make
  | 46 => some F_muntinref10_New
  | 53 => some F_muntinref10_Join
  | 63 => some F_muntinref10_Nearest
  | 64 => some F_muntinref10_Crossed
  | 65 => some F_muntinref10_with
  | 66 => some F_grid_Check
  | 77 => some F_compass_Left
  | 82 => some F_grid_side
  | 83 => some F_slices_Repeat_int
  | 89 => some F_bits_Mul
  | 90 => some F_compass_Good
  | 97 => some F_bits_Mul32
  | 98 => some F_bits_Mul64
  | 120 => some F_seg_Of
  | 121 => some F_muntinref16_Of
  | 129 => some F_arcs_Of
  | 130 => some F_muntinlaw17_wakes
  | 131 => some F_muntinlaw17_numbers
  | 132 => some F_arcs_Place
  | 133 => some F_arcs_Length
  | 137 => some F_seg_chains
  | 138 => some F_muntinref16_chains
  | 144 => some F_arcs_graph
  | 145 => some F_muntinlaw17_square
  | 146 => some F_slices_ContainsFunc_api_Point
  | 147 => some F_arcs_far
  | 148 => some F_compass_Between
  | 149 => some F_arcs_weight
  | 150 => some F_muntinref16_First
  | 151 => some F_slices_IndexFunc_api_Point
  | 154 => some F_muntinlaw17_ArcsPlace
  | 165 => some F_slices_Clone_api_Point
  | 168 => some F_slices_Equal_api_Point
  | 169 => some F_muntinref17_Place
  | 170 => some F_muntinlaw17_length
  | 192 => some F_muntinlaw17_length_1
  | 193 => some F_muntinref17_Straight
  | 194 => some F_muntinref17_Length
  | _ => none
theorem G_F_muntinref10_Make : G 28 = some F_muntinref10_Make := rfl
theorem G_F_muntinref10_New : G 46 = some F_muntinref10_New := rfl
theorem G_F_muntinref10_Join : G 53 = some F_muntinref10_Join := rfl
theorem G_F_muntinref10_Nearest : G 63 = some F_muntinref10_Nearest := rfl
theorem G_F_muntinref10_Crossed : G 64 = some F_muntinref10_Crossed := rfl
theorem G_F_muntinref10_with : G 65 = some F_muntinref10_with := rfl
theorem G_F_grid_Check : G 66 = some F_grid_Check := rfl
theorem G_F_compass_Left : G 77 = some F_compass_Left := rfl
theorem G_F_grid_side : G 82 = some F_grid_side := rfl
theorem G_F_slices_Repeat_int : G 83 = some F_slices_Repeat_int := rfl
theorem G_F_bits_Mul : G 89 = some F_bits_Mul := rfl
theorem G_F_compass_Good : G 90 = some F_compass_Good := rfl
theorem G_F_bits_Mul32 : G 97 = some F_bits_Mul32 := rfl
theorem G_F_bits_Mul64 : G 98 = some F_bits_Mul64 := rfl
theorem G_F_seg_Of : G 120 = some F_seg_Of := rfl
theorem G_F_muntinref16_Of : G 121 = some F_muntinref16_Of := rfl
theorem G_F_arcs_Of : G 129 = some F_arcs_Of := rfl
theorem G_F_muntinlaw17_wakes : G 130 = some F_muntinlaw17_wakes := rfl
theorem G_F_muntinlaw17_numbers : G 131 = some F_muntinlaw17_numbers := rfl
theorem G_F_arcs_Place : G 132 = some F_arcs_Place := rfl
theorem G_F_arcs_Length : G 133 = some F_arcs_Length := rfl
theorem G_F_seg_chains : G 137 = some F_seg_chains := rfl
theorem G_F_muntinref16_chains : G 138 = some F_muntinref16_chains := rfl
theorem G_F_arcs_graph : G 144 = some F_arcs_graph := rfl
theorem G_F_muntinlaw17_square : G 145 = some F_muntinlaw17_square := rfl
theorem G_F_slices_ContainsFunc_api_Point : G 146 = some F_slices_ContainsFunc_api_Point := rfl
theorem G_F_arcs_far : G 147 = some F_arcs_far := rfl
theorem G_F_compass_Between : G 148 = some F_compass_Between := rfl
theorem G_F_arcs_weight : G 149 = some F_arcs_weight := rfl
theorem G_F_muntinref16_First : G 150 = some F_muntinref16_First := rfl
theorem G_F_slices_IndexFunc_api_Point : G 151 = some F_slices_IndexFunc_api_Point := rfl
theorem G_F_muntinlaw17_ArcsPlace : G 154 = some F_muntinlaw17_ArcsPlace := rfl
theorem G_F_slices_Clone_api_Point : G 165 = some F_slices_Clone_api_Point := rfl
theorem G_F_slices_Equal_api_Point : G 168 = some F_slices_Equal_api_Point := rfl
theorem G_F_muntinref17_Place : G 169 = some F_muntinref17_Place := rfl
theorem G_F_muntinlaw17_length : G 170 = some F_muntinlaw17_length := rfl
theorem G_F_muntinlaw17_length_1 : G 192 = some F_muntinlaw17_length_1 := rfl
theorem G_F_muntinref17_Straight : G 193 = some F_muntinref17_Straight := rfl
theorem G_F_muntinref17_Length : G 194 = some F_muntinref17_Length := rfl
end Mu
