/- The functions of the program, as the evaluator has them: printed by a program; checked against the model's. -/
import Derived.Test.YtofdeafffbkgbaaMuE0
namespace Mu
/-! slices.Equal[[]int,int] -/
def F_slices_Equal_int.r0 : List Oper := [
  ⟨(some 4), .mv (.c (.b false)), none⟩]
def F_slices_Equal_int.r1 : List Oper := [
  ⟨(some 6), .mv (.t 0), none⟩,
  ⟨(some 7), .len (.t 6), none⟩,
  ⟨(some 8), .mv (.t 1), none⟩,
  ⟨(some 9), .len (.t 8), none⟩,
  ⟨(some 10), .eq true .sc (.t 7) (.t 9), none⟩]
def F_slices_Equal_int.r2 : List Oper := [
  ⟨(some 4), .mv (.c (.b false)), none⟩]
def F_slices_Equal_int.r3 : List Oper := [
  ⟨(some 11), .mv (.t 0), none⟩,
  ⟨(some 12), .len (.t 11), none⟩,
  ⟨(some 13), .mv (.c (.i .i64 0)), none⟩]
def F_slices_Equal_int.r4 : List Oper := [
  ⟨(some 14), .bin .lss (.t 13) (.t 12), none⟩]
def F_slices_Equal_int.r5 : List Oper := [
  ⟨(some 15), .mv (.t 13), none⟩,
  ⟨(some 5), .mv (.t 15), none⟩]
def F_slices_Equal_int.r6 : List Oper := [
  ⟨(some 16), .mv (.t 0), none⟩,
  ⟨(some 17), .mv (.t 5), none⟩,
  ⟨(some 18), .ixa 1 (.t 16) (.t 17), none⟩,
  ⟨(some 19), .ld false 1 (.t 18), none⟩,
  ⟨(some 20), .mv (.t 1), none⟩,
  ⟨(some 21), .mv (.t 5), none⟩,
  ⟨(some 22), .ixa 1 (.t 20) (.t 21), none⟩,
  ⟨(some 23), .ld false 1 (.t 22), none⟩,
  ⟨(some 24), .eq true .sc (.t 19) (.t 23), none⟩]
def F_slices_Equal_int.r7 : List Oper := [
  ⟨(some 4), .mv (.c (.b false)), none⟩]
def F_slices_Equal_int.r8 : List Oper := [
  ⟨(some 25), .bin .add (.t 13) (.c (.i .i64 1)), none⟩,
  ⟨(some 13), .mv (.t 25), none⟩]
def F_slices_Equal_int.l0 : Code := .seq (.region F_slices_Equal_int.r4) (.seq (.cond (.t 14) (.skip) (.exit 0)) (.seq (.block 1 (.seq (.region F_slices_Equal_int.r5) (.seq (.draw F_slices_Equal_int.r6 [(3, 7)]) (.cond (.t 24) (.seq (.region F_slices_Equal_int.r7) (.ret)) (.skip))))) (.region F_slices_Equal_int.r8)))
def F_slices_Equal_int.r9 : List Oper := [
  ⟨(some 4), .mv (.c (.b true)), none⟩]
def F_slices_Equal_int.code : Code := .seq (.region F_slices_Equal_int.r0) (.seq (.seq (.region F_slices_Equal_int.r1) (.cond (.t 10) (.seq (.region F_slices_Equal_int.r2) (.ret)) (.skip))) (.seq (.seq (.region F_slices_Equal_int.r3) (.block 0 (.loop F_slices_Equal_int.l0))) (.seq (.region F_slices_Equal_int.r9) (.ret))))
def F_slices_Equal_int : Func := ⟨26, [.t 4], F_slices_Equal_int.code⟩
/-! muntin/muntinref03.Make -/
def F_muntinref03_Make.r0 : List Oper := [
  ⟨(some 2), .box (.t 0), none⟩,
  ⟨(some 4), .mv (.c (.i .i64 0)), none⟩,
  ⟨(some 5), .mv (.c (.sn)), none⟩]
def F_muntinref03_Make.r1 : List Oper := [
  ⟨(some 12), .fa 0 (.t 2), none⟩,
  ⟨(some 13), .ld false 1 (.t 12), none⟩,
  ⟨(some 14), .conv .i64 (.t 13), none⟩,
  ⟨(some 15), .mv (.t 1), none⟩,
  ⟨(some 16), .bin .rem (.t 14) (.t 15), none⟩,
  ⟨(some 17), .bin .add (.c (.i .i64 1)) (.t 16), none⟩,
  ⟨(some 6), .mv (.t 17), none⟩]
def F_muntinref03_Make.r2 : List Oper := [
  ⟨(some 7), .mv (.c (.sn)), none⟩]
def F_muntinref03_Make.r3 : List Oper := [
  ⟨(some 8), .mv (.c (.i .i64 0)), none⟩]
def F_muntinref03_Make.r4 : List Oper := [
  ⟨(some 18), .mv (.t 8), none⟩,
  ⟨(some 19), .fa 1 (.t 2), none⟩,
  ⟨(some 20), .ld false 1 (.t 19), none⟩,
  ⟨(some 21), .len (.t 20), none⟩,
  ⟨(some 22), .bin .lss (.t 18) (.t 21), none⟩,
  ⟨(some 23), .mv (.t 22), none⟩,
  ⟨(some 24), .mv (.t 8), (some (23, true))⟩,
  ⟨(some 25), .bin .lss (.t 24) (.c (.i .i64 40)), (some (23, true))⟩,
  ⟨(some 26), .pick (.t 23) (.t 25) (.c (.b false)), none⟩]
def F_muntinref03_Make.r6 : List Oper := [
  ⟨(some 29), .fa 1 (.t 2), none⟩,
  ⟨(some 30), .ld false 1 (.t 29), none⟩,
  ⟨(some 31), .mv (.t 8), none⟩,
  ⟨(some 32), .ixa 3 (.t 30) (.t 31), none⟩,
  ⟨(some 33), .ixaa 1 3 (.t 32) (.c (.i .i64 0)), none⟩,
  ⟨(some 34), .ld false 1 (.t 33), none⟩,
  ⟨(some 35), .conv .i64 (.t 34), none⟩,
  ⟨(some 36), .mv (.t 6), none⟩,
  ⟨(some 37), .bin .rem (.t 35) (.t 36), none⟩,
  ⟨(some 9), .mv (.t 37), none⟩]
def F_muntinref03_Make.r7 : List Oper := [
  ⟨(some 38), .fa 1 (.t 2), none⟩,
  ⟨(some 39), .ld false 1 (.t 38), none⟩,
  ⟨(some 40), .mv (.t 8), none⟩,
  ⟨(some 41), .ixa 3 (.t 39) (.t 40), none⟩,
  ⟨(some 42), .ixaa 1 3 (.t 41) (.c (.i .i64 1)), none⟩,
  ⟨(some 43), .ld false 1 (.t 42), none⟩,
  ⟨(some 44), .conv .i64 (.t 43), none⟩,
  ⟨(some 45), .mv (.t 6), none⟩,
  ⟨(some 46), .bin .rem (.t 44) (.t 45), none⟩,
  ⟨(some 10), .mv (.t 46), none⟩]
def F_muntinref03_Make.r8 : List Oper := [
  ⟨(some 47), .mv (.t 9), none⟩,
  ⟨(some 48), .mv (.t 10), none⟩,
  ⟨(some 49), .bin .gtr (.t 47) (.t 48), none⟩]
def F_muntinref03_Make.r9 : List Oper := [
  ⟨(some 50), .mv (.t 9), none⟩,
  ⟨(some 11), .mv (.t 50), none⟩]
def F_muntinref03_Make.r10 : List Oper := [
  ⟨(some 51), .mv (.t 10), none⟩,
  ⟨(some 9), .mv (.t 51), none⟩]
def F_muntinref03_Make.r11 : List Oper := [
  ⟨(some 52), .mv (.t 11), none⟩,
  ⟨(some 10), .mv (.t 52), none⟩]
def F_muntinref03_Make.r12 : List Oper := [
  ⟨(some 53), .mv (.t 9), none⟩,
  ⟨(some 54), .mv (.t 10), none⟩,
  ⟨(some 55), .bin .lss (.t 53) (.t 54), none⟩]
def F_muntinref03_Make.r13 : List Oper := [
  ⟨(some 56), .mv (.t 7), none⟩,
  ⟨(some 57), .mv (.t 9), none⟩,
  ⟨(some 58), .mv (.t 10), none⟩,
  ⟨(some 59), .fa 1 (.t 2), none⟩,
  ⟨(some 60), .ld false 1 (.t 59), none⟩,
  ⟨(some 61), .mv (.t 8), none⟩,
  ⟨(some 62), .ixa 3 (.t 60) (.t 61), none⟩,
  ⟨(some 63), .ixaa 1 3 (.t 62) (.c (.i .i64 2)), none⟩,
  ⟨(some 64), .ld false 1 (.t 63), none⟩,
  ⟨(some 65), .conv .i64 (.t 64), none⟩,
  ⟨(some 66), .bin .rem (.t 65) (.c (.i .i64 8)), none⟩,
  ⟨(some 67), .build [.i .i64 0, .i .i64 0, .i .i64 0] [(0, 1, .t 57), (1, 1, .t 58), (2, 1, .t 66)], none⟩,
  ⟨(some 68), .bsl 3 1 [.i .i64 0, .i .i64 0, .i .i64 0] [(0, 3, .t 67)], none⟩,
  ⟨(some 69), .app 3 24 (.t 56) (.t 68), none⟩,
  ⟨(some 7), .mv (.t 69), none⟩]
def F_muntinref03_Make.r5 : List Oper := [
  ⟨(some 27), .mv (.t 8), none⟩,
  ⟨(some 28), .bin .add (.t 27) (.c (.i .i64 1)), none⟩,
  ⟨(some 8), .mv (.t 28), none⟩]
def F_muntinref03_Make.l0 : Code := .seq (.seq (.region F_muntinref03_Make.r4) (.cond (.t 26) (.skip) (.exit 0))) (.seq (.block 1 (.seq (.region F_muntinref03_Make.r6) (.seq (.region F_muntinref03_Make.r7) (.seq (.seq (.region F_muntinref03_Make.r8) (.cond (.t 49) (.seq (.region F_muntinref03_Make.r9) (.seq (.region F_muntinref03_Make.r10) (.region F_muntinref03_Make.r11))) (.skip))) (.seq (.region F_muntinref03_Make.r12) (.cond (.t 55) (.region F_muntinref03_Make.r13) (.skip))))))) (.region F_muntinref03_Make.r5))
def F_muntinref03_Make.r14 : List Oper := [
  ⟨(some 70), .mv (.t 6), none⟩,
  ⟨(some 71), .mv (.t 7), none⟩,
  ⟨(some 4), .mv (.t 70), none⟩,
  ⟨(some 5), .mv (.t 71), none⟩]
def F_muntinref03_Make.code : Code := .seq (.region F_muntinref03_Make.r0) (.seq (.region F_muntinref03_Make.r1) (.seq (.region F_muntinref03_Make.r2) (.seq (.seq (.region F_muntinref03_Make.r3) (.block 0 (.loop F_muntinref03_Make.l0))) (.seq (.region F_muntinref03_Make.r14) (.ret)))))
def F_muntinref03_Make : Func := ⟨72, [.t 4, .t 5], F_muntinref03_Make.code⟩
/-! muntin/layer.Layers -/
def F_layer_Layers.r0 : List Oper := [
  ⟨(some 4), .mv (.c (.sn)), none⟩,
  ⟨(some 5), .mv (.c (.i .i64 0)), none⟩]
def F_layer_Layers.r1 : List Oper := [
  ⟨(some 17), .mv (.t 0), none⟩,
  ⟨(some 18), .mv (.t 1), none⟩,
  ⟨(some 19), .call (.c (.f 69 [])) [.t 17, .t 18], none⟩,
  ⟨(some 16), .mv (.t 19), none⟩,
  ⟨(some 20), .ext (.t 16) 0, none⟩,
  ⟨(some 21), .ext (.t 16) 1, none⟩,
  ⟨(some 6), .mv (.t 20), none⟩,
  ⟨(some 7), .mv (.t 21), none⟩]
def F_layer_Layers.r2 : List Oper := [
  ⟨(some 22), .mv (.t 7), none⟩,
  ⟨(some 23), .eq true .sc (.t 22) (.c (.i .i64 0)), none⟩]
def F_layer_Layers.r3 : List Oper := [
  ⟨(some 24), .mv (.t 7), none⟩,
  ⟨(some 4), .mv (.c (.sn)), none⟩,
  ⟨(some 5), .mv (.t 24), none⟩]
def F_layer_Layers.r4 : List Oper := [
  ⟨(some 25), .mv (.t 0), none⟩,
  ⟨(some 26), .mks 1 24 [.sn] (.t 25) (.t 25), none⟩,
  ⟨(some 8), .mv (.t 26), none⟩]
def F_layer_Layers.r5 : List Oper := [
  ⟨(some 27), .mv (.t 1), none⟩,
  ⟨(some 28), .len (.t 27), none⟩,
  ⟨(some 29), .mv (.c (.i .i64 0)), none⟩]
def F_layer_Layers.r6 : List Oper := [
  ⟨(some 30), .bin .lss (.t 29) (.t 28), none⟩]
def F_layer_Layers.r7 : List Oper := [
  ⟨(some 31), .ixa 3 (.t 27) (.t 29), none⟩,
  ⟨(some 32), .ld true 3 (.t 31), none⟩,
  ⟨(some 10), .alloc [.i .i64 0, .i .i64 0, .i .i64 0], none⟩,
  ⟨none, .st 3 (.t 10) (.t 32), none⟩]
def F_layer_Layers.r8 : List Oper := [
  ⟨(some 33), .mv (.t 8), none⟩,
  ⟨(some 34), .fa 0 (.t 10), none⟩,
  ⟨(some 35), .ld false 1 (.t 34), none⟩,
  ⟨(some 36), .mv (.t 8), none⟩,
  ⟨(some 37), .fa 0 (.t 10), none⟩,
  ⟨(some 38), .ld false 1 (.t 37), none⟩,
  ⟨(some 39), .ixa 1 (.t 36) (.t 38), none⟩,
  ⟨(some 40), .ld false 1 (.t 39), none⟩,
  ⟨(some 41), .fa 1 (.t 10), none⟩,
  ⟨(some 42), .ld false 1 (.t 41), none⟩,
  ⟨(some 43), .bsl 1 1 [.i .i64 0] [(0, 1, .t 42)], none⟩,
  ⟨(some 44), .app 1 8 (.t 40) (.t 43), none⟩,
  ⟨(some 45), .ixa 1 (.t 33) (.t 35), none⟩,
  ⟨none, .st 1 (.t 45) (.t 44), none⟩]
def F_layer_Layers.r9 : List Oper := [
  ⟨(some 46), .bin .add (.t 29) (.c (.i .i64 1)), none⟩,
  ⟨(some 29), .mv (.t 46), none⟩]
def F_layer_Layers.l0 : Code := .seq (.region F_layer_Layers.r6) (.seq (.cond (.t 30) (.skip) (.exit 0)) (.seq (.block 1 (.seq (.region F_layer_Layers.r7) (.draw F_layer_Layers.r8 [(2, 5), (2, 7), (2, 9), (5, 9), (7, 9), (2, 10), (5, 10), (7, 10), (2, 11)]))) (.region F_layer_Layers.r9)))
def F_layer_Layers.r10 : List Oper := [
  ⟨(some 47), .mv (.t 0), none⟩,
  ⟨(some 48), .mks 1 8 [.i .i64 0] (.t 47) (.t 47), none⟩,
  ⟨(some 11), .mv (.t 48), none⟩]
def F_layer_Layers.r11 : List Oper := [
  ⟨(some 49), .mv (.t 6), none⟩,
  ⟨(some 50), .len (.t 49), none⟩,
  ⟨(some 51), .mv (.c (.i .i64 0)), none⟩]
def F_layer_Layers.r12 : List Oper := [
  ⟨(some 52), .bin .lss (.t 51) (.t 50), none⟩]
def F_layer_Layers.r13 : List Oper := [
  ⟨(some 53), .ixa 1 (.t 49) (.t 51), none⟩,
  ⟨(some 54), .ld false 1 (.t 53), none⟩,
  ⟨(some 13), .mv (.t 54), none⟩]
def F_layer_Layers.r14 : List Oper := [
  ⟨(some 55), .mv (.t 8), none⟩,
  ⟨(some 56), .mv (.t 13), none⟩,
  ⟨(some 57), .ixa 1 (.t 55) (.t 56), none⟩,
  ⟨(some 58), .ld false 1 (.t 57), none⟩,
  ⟨(some 59), .len (.t 58), none⟩,
  ⟨(some 60), .mv (.c (.i .i64 0)), none⟩]
def F_layer_Layers.r15 : List Oper := [
  ⟨(some 61), .bin .lss (.t 60) (.t 59), none⟩]
def F_layer_Layers.r16 : List Oper := [
  ⟨(some 62), .ixa 1 (.t 58) (.t 60), none⟩,
  ⟨(some 63), .ld false 1 (.t 62), none⟩,
  ⟨(some 15), .mv (.t 63), none⟩]
def F_layer_Layers.r17 : List Oper := [
  ⟨(some 64), .mv (.t 11), none⟩,
  ⟨(some 65), .mv (.t 15), none⟩,
  ⟨(some 66), .mv (.t 11), none⟩,
  ⟨(some 67), .mv (.t 15), none⟩,
  ⟨(some 68), .ixa 1 (.t 66) (.t 67), none⟩,
  ⟨(some 69), .ld false 1 (.t 68), none⟩,
  ⟨(some 70), .mv (.t 11), none⟩,
  ⟨(some 71), .mv (.t 13), none⟩,
  ⟨(some 72), .ixa 1 (.t 70) (.t 71), none⟩,
  ⟨(some 73), .ld false 1 (.t 72), none⟩,
  ⟨(some 74), .bin .add (.t 73) (.c (.i .i64 1)), none⟩,
  ⟨(some 75), .mx [.t 69, .t 74], none⟩,
  ⟨(some 76), .ixa 1 (.t 64) (.t 65), none⟩,
  ⟨none, .st 1 (.t 76) (.t 75), none⟩]
def F_layer_Layers.r18 : List Oper := [
  ⟨(some 77), .bin .add (.t 60) (.c (.i .i64 1)), none⟩,
  ⟨(some 60), .mv (.t 77), none⟩]
def F_layer_Layers.l1 : Code := .seq (.region F_layer_Layers.r15) (.seq (.cond (.t 61) (.skip) (.exit 4)) (.seq (.block 5 (.seq (.region F_layer_Layers.r16) (.draw F_layer_Layers.r17 [(5, 9)]))) (.region F_layer_Layers.r18)))
def F_layer_Layers.r19 : List Oper := [
  ⟨(some 78), .bin .add (.t 51) (.c (.i .i64 1)), none⟩,
  ⟨(some 51), .mv (.t 78), none⟩]
def F_layer_Layers.l2 : Code := .seq (.region F_layer_Layers.r12) (.seq (.cond (.t 52) (.skip) (.exit 2)) (.seq (.block 3 (.seq (.region F_layer_Layers.r13) (.seq (.region F_layer_Layers.r14) (.block 4 (.loop F_layer_Layers.l1))))) (.region F_layer_Layers.r19)))
def F_layer_Layers.r20 : List Oper := [
  ⟨(some 79), .mv (.t 11), none⟩,
  ⟨(some 4), .mv (.t 79), none⟩,
  ⟨(some 5), .mv (.c (.i .i64 0)), none⟩]
def F_layer_Layers.code : Code := .seq (.region F_layer_Layers.r0) (.seq (.region F_layer_Layers.r1) (.seq (.seq (.region F_layer_Layers.r2) (.cond (.t 23) (.seq (.region F_layer_Layers.r3) (.ret)) (.skip))) (.seq (.region F_layer_Layers.r4) (.seq (.seq (.region F_layer_Layers.r5) (.block 0 (.loop F_layer_Layers.l0))) (.seq (.region F_layer_Layers.r10) (.seq (.seq (.region F_layer_Layers.r11) (.block 2 (.loop F_layer_Layers.l2))) (.seq (.region F_layer_Layers.r20) (.ret))))))))
def F_layer_Layers : Func := ⟨80, [.t 4, .t 5], F_layer_Layers.code⟩
/-! muntin/muntinlaw04.wakes -/
def F_muntinlaw04_wakes.r0 : List Oper := [
  ⟨(some 0), .mv (.c (.b false)), none⟩]
def F_muntinlaw04_wakes.r1 : List Oper := [
  ⟨(some 6), .build [.i .i64 0, .i .i64 0, .i .i64 0] [(0, 1, .c (.i .i64 0)), (1, 1, .c (.i .i64 1))], none⟩,
  ⟨(some 7), .build [.i .i64 0, .i .i64 0, .i .i64 0] [(0, 1, .c (.i .i64 1)), (1, 1, .c (.i .i64 2))], none⟩,
  ⟨(some 8), .build [.i .i64 0, .i .i64 0, .i .i64 0] [(0, 1, .c (.i .i64 0)), (1, 1, .c (.i .i64 2))], none⟩,
  ⟨(some 9), .bsl 3 3 [.i .i64 0, .i .i64 0, .i .i64 0] [(0, 3, .t 6), (3, 3, .t 7), (6, 3, .t 8)], none⟩,
  ⟨(some 10), .call (.c (.f 38 [])) [.c (.i .i64 3), .t 9], none⟩,
  ⟨(some 5), .mv (.t 10), none⟩,
  ⟨(some 11), .ext (.t 5) 0, none⟩,
  ⟨(some 12), .ext (.t 5) 1, none⟩,
  ⟨(some 1), .mv (.t 11), none⟩,
  ⟨(some 2), .mv (.t 12), none⟩]
def F_muntinlaw04_wakes.r2 : List Oper := [
  ⟨(some 14), .build [.i .i64 0, .i .i64 0, .i .i64 0] [], none⟩,
  ⟨(some 15), .bsl 3 1 [.i .i64 0, .i .i64 0, .i .i64 0] [(0, 3, .t 14)], none⟩,
  ⟨(some 16), .call (.c (.f 38 [])) [.c (.i .i64 1), .t 15], none⟩,
  ⟨(some 13), .mv (.t 16), none⟩,
  ⟨(some 17), .ext (.t 13) 0, none⟩,
  ⟨(some 18), .ext (.t 13) 1, none⟩,
  ⟨(some 3), .mv (.t 17), none⟩,
  ⟨(some 4), .mv (.t 18), none⟩]
def F_muntinlaw04_wakes.r3 : List Oper := [
  ⟨(some 19), .mv (.t 2), none⟩,
  ⟨(some 20), .eq false .sc (.t 19) (.c (.i .i64 0)), none⟩,
  ⟨(some 21), .mv (.t 20), none⟩,
  ⟨(some 22), .mv (.t 1), (some (21, true))⟩,
  ⟨(some 23), .bsl 1 3 [.i .i64 0] [(0, 1, .c (.i .i64 0)), (1, 1, .c (.i .i64 1)), (2, 1, .c (.i .i64 2))], (some (21, true))⟩,
  ⟨(some 24), .call (.c (.f 33 [])) [.t 22, .t 23], (some (21, true))⟩,
  ⟨(some 25), .pick (.t 21) (.t 24) (.c (.b false)), none⟩,
  ⟨(some 26), .mv (.t 25), none⟩,
  ⟨(some 27), .mv (.t 4), (some (26, true))⟩,
  ⟨(some 28), .eq false .sc (.t 27) (.c (.i .i64 11)), (some (26, true))⟩,
  ⟨(some 29), .pick (.t 26) (.t 28) (.c (.b false)), none⟩,
  ⟨(some 30), .mv (.t 29), none⟩,
  ⟨(some 31), .mv (.t 1), (some (30, true))⟩,
  ⟨(some 32), .call (.c (.f 41 [])) [.t 31], (some (30, true))⟩,
  ⟨(some 33), .eq false .sc (.t 32) (.c (.i .i64 2)), (some (30, true))⟩,
  ⟨(some 34), .pick (.t 30) (.t 33) (.c (.b false)), none⟩,
  ⟨(some 0), .mv (.t 34), none⟩]
def F_muntinlaw04_wakes.code : Code := .seq (.region F_muntinlaw04_wakes.r0) (.seq (.region F_muntinlaw04_wakes.r1) (.seq (.region F_muntinlaw04_wakes.r2) (.seq (.region F_muntinlaw04_wakes.r3) (.ret))))
def F_muntinlaw04_wakes : Func := ⟨35, [.t 0], F_muntinlaw04_wakes.code⟩
/-! muntin/layer.Span -/
def F_layer_Span.r0 : List Oper := [
  ⟨(some 2), .mv (.c (.i .i64 0)), none⟩]
def F_layer_Span.r1 : List Oper := [
  ⟨(some 3), .mv (.t 0), none⟩,
  ⟨(some 4), .len (.t 3), none⟩,
  ⟨(some 5), .eq false .sc (.t 4) (.c (.i .i64 0)), none⟩]
def F_layer_Span.r2 : List Oper := [
  ⟨(some 2), .mv (.c (.i .i64 0)), none⟩]
def F_layer_Span.r3 : List Oper := [
  ⟨(some 6), .mv (.t 0), none⟩,
  ⟨(some 7), .call (.c (.f 70 [])) [.t 6], none⟩,
  ⟨(some 8), .mv (.t 0), none⟩,
  ⟨(some 9), .call (.c (.f 71 [])) [.t 8], none⟩,
  ⟨(some 10), .bin .sub (.t 7) (.t 9), none⟩,
  ⟨(some 2), .mv (.t 10), none⟩]
def F_layer_Span.code : Code := .seq (.region F_layer_Span.r0) (.seq (.seq (.region F_layer_Span.r1) (.cond (.t 5) (.seq (.region F_layer_Span.r2) (.ret)) (.skip))) (.seq (.region F_layer_Span.r3) (.ret)))
def F_layer_Span : Func := ⟨11, [.t 2], F_layer_Span.code⟩
/-! slices.ContainsFunc[[]muntin/api.Arc,muntin/api.Arc] -/
def F_slices_ContainsFunc_api_Arc.r0 : List Oper := [
  ⟨(some 4), .mv (.c (.b false)), none⟩]
def F_slices_ContainsFunc_api_Arc.r1 : List Oper := [
  ⟨(some 5), .mv (.t 0), none⟩,
  ⟨(some 6), .mv (.t 1), none⟩,
  ⟨(some 7), .call (.c (.f 72 [])) [.t 5, .t 6], none⟩,
  ⟨(some 8), .bin .geq (.t 7) (.c (.i .i64 0)), none⟩,
  ⟨(some 4), .mv (.t 8), none⟩]
def F_slices_ContainsFunc_api_Arc.code : Code := .seq (.region F_slices_ContainsFunc_api_Arc.r0) (.seq (.region F_slices_ContainsFunc_api_Arc.r1) (.ret))
def F_slices_ContainsFunc_api_Arc : Func := ⟨9, [.t 4], F_slices_ContainsFunc_api_Arc.code⟩
/-! muntin/dag.Order -/
def F_dag_Order.r0 : List Oper := [
  ⟨(some 4), .mv (.c (.sn)), none⟩,
  ⟨(some 5), .mv (.c (.i .i64 0)), none⟩]
def F_dag_Order.r1 : List Oper := [
  ⟨(some 18), .mv (.t 0), none⟩,
  ⟨(some 19), .mv (.t 1), none⟩,
  ⟨(some 20), .call (.c (.f 84 [])) [.t 18, .t 19], none⟩,
  ⟨(some 21), .un .not (.t 20), none⟩]
def F_dag_Order.r2 : List Oper := [
  ⟨(some 4), .mv (.c (.sn)), none⟩,
  ⟨(some 5), .mv (.c (.i .i64 2)), none⟩]
def F_dag_Order.r3 : List Oper := [
  ⟨(some 22), .mv (.t 0), none⟩,
  ⟨(some 23), .mks 1 24 [.sn] (.t 22) (.t 22), none⟩,
  ⟨(some 6), .mv (.t 23), none⟩]
def F_dag_Order.r4 : List Oper := [
  ⟨(some 24), .mv (.t 0), none⟩,
  ⟨(some 25), .mks 1 8 [.i .i64 0] (.t 24) (.t 24), none⟩,
  ⟨(some 7), .mv (.t 25), none⟩]
def F_dag_Order.r5 : List Oper := [
  ⟨(some 26), .mv (.t 1), none⟩,
  ⟨(some 27), .len (.t 26), none⟩,
  ⟨(some 28), .mv (.c (.i .i64 0)), none⟩]
def F_dag_Order.r6 : List Oper := [
  ⟨(some 29), .bin .lss (.t 28) (.t 27), none⟩]
def F_dag_Order.r7 : List Oper := [
  ⟨(some 30), .ixa 3 (.t 26) (.t 28), none⟩,
  ⟨(some 31), .ld true 3 (.t 30), none⟩,
  ⟨(some 9), .alloc [.i .i64 0, .i .i64 0, .i .i64 0], none⟩,
  ⟨none, .st 3 (.t 9) (.t 31), none⟩]
def F_dag_Order.r8 : List Oper := [
  ⟨(some 32), .mv (.t 6), none⟩,
  ⟨(some 33), .fa 0 (.t 9), none⟩,
  ⟨(some 34), .ld false 1 (.t 33), none⟩,
  ⟨(some 35), .mv (.t 6), none⟩,
  ⟨(some 36), .fa 0 (.t 9), none⟩,
  ⟨(some 37), .ld false 1 (.t 36), none⟩,
  ⟨(some 38), .ixa 1 (.t 35) (.t 37), none⟩,
  ⟨(some 39), .ld false 1 (.t 38), none⟩,
  ⟨(some 40), .fa 1 (.t 9), none⟩,
  ⟨(some 41), .ld false 1 (.t 40), none⟩,
  ⟨(some 42), .bsl 1 1 [.i .i64 0] [(0, 1, .t 41)], none⟩,
  ⟨(some 43), .app 1 8 (.t 39) (.t 42), none⟩,
  ⟨(some 44), .ixa 1 (.t 32) (.t 34), none⟩,
  ⟨none, .st 1 (.t 44) (.t 43), none⟩]
def F_dag_Order.r9 : List Oper := [
  ⟨(some 45), .mv (.t 7), none⟩,
  ⟨(some 46), .fa 1 (.t 9), none⟩,
  ⟨(some 47), .ld false 1 (.t 46), none⟩,
  ⟨(some 48), .ixa 1 (.t 45) (.t 47), none⟩,
  ⟨(some 49), .ld false 1 (.t 48), none⟩,
  ⟨(some 50), .bin .add (.t 49) (.c (.i .i64 1)), none⟩,
  ⟨(some 51), .ixa 1 (.t 45) (.t 47), none⟩,
  ⟨none, .st 1 (.t 51) (.t 50), none⟩]
def F_dag_Order.r10 : List Oper := [
  ⟨(some 52), .bin .add (.t 28) (.c (.i .i64 1)), none⟩,
  ⟨(some 28), .mv (.t 52), none⟩]
def F_dag_Order.l0 : Code := .seq (.region F_dag_Order.r6) (.seq (.cond (.t 29) (.skip) (.exit 0)) (.seq (.block 1 (.seq (.region F_dag_Order.r7) (.seq (.draw F_dag_Order.r8 [(2, 5), (2, 7), (2, 9), (5, 9), (7, 9), (2, 10), (5, 10), (7, 10), (2, 11)]) (.region F_dag_Order.r9)))) (.region F_dag_Order.r10)))
def F_dag_Order.r11 : List Oper := [
  ⟨(some 53), .call (.c (.f 85 [])) [.c (.f 86 [])], none⟩,
  ⟨(some 10), .mv (.t 53), none⟩]
def F_dag_Order.r12 : List Oper := [
  ⟨(some 54), .mv (.t 7), none⟩,
  ⟨(some 55), .len (.t 54), none⟩,
  ⟨(some 56), .mv (.c (.i .i64 0)), none⟩]
def F_dag_Order.r13 : List Oper := [
  ⟨(some 57), .bin .lss (.t 56) (.t 55), none⟩]
def F_dag_Order.r14 : List Oper := [
  ⟨(some 58), .mv (.t 56), none⟩,
  ⟨(some 59), .ixa 1 (.t 54) (.t 56), none⟩,
  ⟨(some 60), .ld false 1 (.t 59), none⟩,
  ⟨(some 11), .mv (.t 58), none⟩,
  ⟨(some 12), .mv (.t 60), none⟩]
def F_dag_Order.r15 : List Oper := [
  ⟨(some 61), .mv (.t 12), none⟩,
  ⟨(some 62), .eq false .sc (.t 61) (.c (.i .i64 0)), none⟩]
def F_dag_Order.r16 : List Oper := [
  ⟨(some 63), .mv (.t 10), none⟩,
  ⟨(some 64), .mv (.t 11), none⟩,
  ⟨(some 65), .call (.c (.f 87 [])) [.t 63, .t 64], none⟩]
def F_dag_Order.r17 : List Oper := [
  ⟨(some 66), .bin .add (.t 56) (.c (.i .i64 1)), none⟩,
  ⟨(some 56), .mv (.t 66), none⟩]
def F_dag_Order.l1 : Code := .seq (.region F_dag_Order.r13) (.seq (.cond (.t 57) (.skip) (.exit 2)) (.seq (.block 3 (.seq (.region F_dag_Order.r14) (.seq (.region F_dag_Order.r15) (.cond (.t 62) (.region F_dag_Order.r16) (.skip))))) (.region F_dag_Order.r17)))
def F_dag_Order.r18 : List Oper := [
  ⟨(some 13), .mv (.c (.sn)), none⟩]
def F_dag_Order.r19 : List Oper := [
  ⟨(some 68), .mv (.t 10), none⟩,
  ⟨(some 69), .call (.c (.f 88 [])) [.t 68], none⟩,
  ⟨(some 67), .mv (.t 69), none⟩,
  ⟨(some 70), .ext (.t 67) 0, none⟩,
  ⟨(some 71), .ext (.t 67) 1, none⟩,
  ⟨(some 14), .mv (.t 70), none⟩,
  ⟨(some 15), .mv (.t 71), none⟩]
def F_dag_Order.r20 : List Oper := [
  ⟨(some 72), .mv (.t 15), none⟩]
def F_dag_Order.r22 : List Oper := [
  ⟨(some 78), .mv (.t 13), none⟩,
  ⟨(some 79), .mv (.t 14), none⟩,
  ⟨(some 80), .bsl 1 1 [.i .i64 0] [(0, 1, .t 79)], none⟩,
  ⟨(some 81), .app 1 8 (.t 78) (.t 80), none⟩,
  ⟨(some 13), .mv (.t 81), none⟩]
def F_dag_Order.r23 : List Oper := [
  ⟨(some 82), .mv (.t 6), none⟩,
  ⟨(some 83), .mv (.t 14), none⟩,
  ⟨(some 84), .ixa 1 (.t 82) (.t 83), none⟩,
  ⟨(some 85), .ld false 1 (.t 84), none⟩,
  ⟨(some 86), .len (.t 85), none⟩,
  ⟨(some 87), .mv (.c (.i .i64 0)), none⟩]
def F_dag_Order.r24 : List Oper := [
  ⟨(some 88), .bin .lss (.t 87) (.t 86), none⟩]
def F_dag_Order.r25 : List Oper := [
  ⟨(some 89), .ixa 1 (.t 85) (.t 87), none⟩,
  ⟨(some 90), .ld false 1 (.t 89), none⟩,
  ⟨(some 17), .mv (.t 90), none⟩]
def F_dag_Order.r26 : List Oper := [
  ⟨(some 91), .mv (.t 7), none⟩,
  ⟨(some 92), .mv (.t 17), none⟩,
  ⟨(some 93), .ixa 1 (.t 91) (.t 92), none⟩,
  ⟨(some 94), .ld false 1 (.t 93), none⟩,
  ⟨(some 95), .bin .sub (.t 94) (.c (.i .i64 1)), none⟩,
  ⟨(some 96), .ixa 1 (.t 91) (.t 92), none⟩,
  ⟨none, .st 1 (.t 96) (.t 95), none⟩]
def F_dag_Order.r27 : List Oper := [
  ⟨(some 97), .mv (.t 7), none⟩,
  ⟨(some 98), .mv (.t 17), none⟩,
  ⟨(some 99), .ixa 1 (.t 97) (.t 98), none⟩,
  ⟨(some 100), .ld false 1 (.t 99), none⟩,
  ⟨(some 101), .eq false .sc (.t 100) (.c (.i .i64 0)), none⟩]
def F_dag_Order.r28 : List Oper := [
  ⟨(some 102), .mv (.t 10), none⟩,
  ⟨(some 103), .mv (.t 17), none⟩,
  ⟨(some 104), .call (.c (.f 87 [])) [.t 102, .t 103], none⟩]
def F_dag_Order.r29 : List Oper := [
  ⟨(some 105), .bin .add (.t 87) (.c (.i .i64 1)), none⟩,
  ⟨(some 87), .mv (.t 105), none⟩]
def F_dag_Order.l2 : Code := .seq (.region F_dag_Order.r24) (.seq (.cond (.t 88) (.skip) (.exit 6)) (.seq (.block 7 (.seq (.region F_dag_Order.r25) (.seq (.region F_dag_Order.r26) (.seq (.region F_dag_Order.r27) (.cond (.t 101) (.region F_dag_Order.r28) (.skip)))))) (.region F_dag_Order.r29)))
def F_dag_Order.r21 : List Oper := [
  ⟨(some 74), .mv (.t 10), none⟩,
  ⟨(some 75), .call (.c (.f 88 [])) [.t 74], none⟩,
  ⟨(some 73), .mv (.t 75), none⟩,
  ⟨(some 76), .ext (.t 73) 0, none⟩,
  ⟨(some 77), .ext (.t 73) 1, none⟩,
  ⟨(some 14), .mv (.t 76), none⟩,
  ⟨(some 15), .mv (.t 77), none⟩]
def F_dag_Order.l3 : Code := .seq (.seq (.region F_dag_Order.r20) (.cond (.t 72) (.skip) (.exit 4))) (.seq (.block 5 (.seq (.region F_dag_Order.r22) (.seq (.region F_dag_Order.r23) (.block 6 (.loop F_dag_Order.l2))))) (.region F_dag_Order.r21))
def F_dag_Order.r30 : List Oper := [
  ⟨(some 106), .mv (.t 13), none⟩,
  ⟨(some 107), .len (.t 106), none⟩,
  ⟨(some 108), .mv (.t 0), none⟩,
  ⟨(some 109), .bin .lss (.t 107) (.t 108), none⟩]
def F_dag_Order.r31 : List Oper := [
  ⟨(some 4), .mv (.c (.sn)), none⟩,
  ⟨(some 5), .mv (.c (.i .i64 11)), none⟩]
def F_dag_Order.r32 : List Oper := [
  ⟨(some 110), .mv (.t 13), none⟩,
  ⟨(some 4), .mv (.t 110), none⟩,
  ⟨(some 5), .mv (.c (.i .i64 0)), none⟩]
def F_dag_Order.code : Code := .seq (.region F_dag_Order.r0) (.seq (.seq (.region F_dag_Order.r1) (.cond (.t 21) (.seq (.region F_dag_Order.r2) (.ret)) (.skip))) (.seq (.region F_dag_Order.r3) (.seq (.region F_dag_Order.r4) (.seq (.seq (.region F_dag_Order.r5) (.block 0 (.loop F_dag_Order.l0))) (.seq (.region F_dag_Order.r11) (.seq (.seq (.region F_dag_Order.r12) (.block 2 (.loop F_dag_Order.l1))) (.seq (.region F_dag_Order.r18) (.seq (.seq (.region F_dag_Order.r19) (.block 4 (.loop F_dag_Order.l3))) (.seq (.seq (.region F_dag_Order.r30) (.cond (.t 109) (.seq (.region F_dag_Order.r31) (.ret)) (.skip))) (.seq (.region F_dag_Order.r32) (.ret)))))))))))
def F_dag_Order : Func := ⟨111, [.t 4, .t 5], F_dag_Order.code⟩
/-! slices.Max[[]int,int] -/
def F_slices_Max_int.r0 : List Oper := [
  ⟨(some 2), .mv (.c (.i .i64 0)), none⟩]
def F_slices_Max_int.r1 : List Oper := [
  ⟨(some 5), .mv (.t 0), none⟩,
  ⟨(some 6), .len (.t 5), none⟩,
  ⟨(some 7), .bin .lss (.t 6) (.c (.i .i64 1)), none⟩]
def F_slices_Max_int.r2 : List Oper := [
  ⟨(some 8), .bad, none⟩,
  ⟨none, .bad, none⟩]
def F_slices_Max_int.r3 : List Oper := [
  ⟨(some 9), .mv (.t 0), none⟩,
  ⟨(some 10), .ixa 1 (.t 9) (.c (.i .i64 0)), none⟩,
  ⟨(some 11), .ld false 1 (.t 10), none⟩,
  ⟨(some 3), .mv (.t 11), none⟩]
def F_slices_Max_int.r4 : List Oper := [
  ⟨(some 4), .mv (.c (.i .i64 1)), none⟩]
def F_slices_Max_int.r5 : List Oper := [
  ⟨(some 12), .mv (.t 4), none⟩,
  ⟨(some 13), .mv (.t 0), none⟩,
  ⟨(some 14), .len (.t 13), none⟩,
  ⟨(some 15), .bin .lss (.t 12) (.t 14), none⟩]
def F_slices_Max_int.r7 : List Oper := [
  ⟨(some 18), .mv (.t 3), none⟩,
  ⟨(some 19), .mv (.t 0), none⟩,
  ⟨(some 20), .mv (.t 4), none⟩,
  ⟨(some 21), .ixa 1 (.t 19) (.t 20), none⟩,
  ⟨(some 22), .ld false 1 (.t 21), none⟩,
  ⟨(some 23), .mx [.t 18, .t 22], none⟩,
  ⟨(some 3), .mv (.t 23), none⟩]
def F_slices_Max_int.r6 : List Oper := [
  ⟨(some 16), .mv (.t 4), none⟩,
  ⟨(some 17), .bin .add (.t 16) (.c (.i .i64 1)), none⟩,
  ⟨(some 4), .mv (.t 17), none⟩]
def F_slices_Max_int.l0 : Code := .seq (.seq (.region F_slices_Max_int.r5) (.cond (.t 15) (.skip) (.exit 0))) (.seq (.block 1 (.region F_slices_Max_int.r7)) (.region F_slices_Max_int.r6))
def F_slices_Max_int.r8 : List Oper := [
  ⟨(some 24), .mv (.t 3), none⟩,
  ⟨(some 2), .mv (.t 24), none⟩]
def F_slices_Max_int.code : Code := .seq (.region F_slices_Max_int.r0) (.seq (.seq (.region F_slices_Max_int.r1) (.cond (.t 7) (.region F_slices_Max_int.r2) (.skip))) (.seq (.region F_slices_Max_int.r3) (.seq (.seq (.region F_slices_Max_int.r4) (.block 0 (.loop F_slices_Max_int.l0))) (.seq (.region F_slices_Max_int.r8) (.ret)))))
def F_slices_Max_int : Func := ⟨25, [.t 2], F_slices_Max_int.code⟩
/-! slices.Min[[]int,int] -/
def F_slices_Min_int.r0 : List Oper := [
  ⟨(some 2), .mv (.c (.i .i64 0)), none⟩]
def F_slices_Min_int.r1 : List Oper := [
  ⟨(some 5), .mv (.t 0), none⟩,
  ⟨(some 6), .len (.t 5), none⟩,
  ⟨(some 7), .bin .lss (.t 6) (.c (.i .i64 1)), none⟩]
def F_slices_Min_int.r2 : List Oper := [
  ⟨(some 8), .bad, none⟩,
  ⟨none, .bad, none⟩]
def F_slices_Min_int.r3 : List Oper := [
  ⟨(some 9), .mv (.t 0), none⟩,
  ⟨(some 10), .ixa 1 (.t 9) (.c (.i .i64 0)), none⟩,
  ⟨(some 11), .ld false 1 (.t 10), none⟩,
  ⟨(some 3), .mv (.t 11), none⟩]
def F_slices_Min_int.r4 : List Oper := [
  ⟨(some 4), .mv (.c (.i .i64 1)), none⟩]
def F_slices_Min_int.r5 : List Oper := [
  ⟨(some 12), .mv (.t 4), none⟩,
  ⟨(some 13), .mv (.t 0), none⟩,
  ⟨(some 14), .len (.t 13), none⟩,
  ⟨(some 15), .bin .lss (.t 12) (.t 14), none⟩]
def F_slices_Min_int.r7 : List Oper := [
  ⟨(some 18), .mv (.t 3), none⟩,
  ⟨(some 19), .mv (.t 0), none⟩,
  ⟨(some 20), .mv (.t 4), none⟩,
  ⟨(some 21), .ixa 1 (.t 19) (.t 20), none⟩,
  ⟨(some 22), .ld false 1 (.t 21), none⟩,
  ⟨(some 23), .mn [.t 18, .t 22], none⟩,
  ⟨(some 3), .mv (.t 23), none⟩]
def F_slices_Min_int.r6 : List Oper := [
  ⟨(some 16), .mv (.t 4), none⟩,
  ⟨(some 17), .bin .add (.t 16) (.c (.i .i64 1)), none⟩,
  ⟨(some 4), .mv (.t 17), none⟩]
def F_slices_Min_int.l0 : Code := .seq (.seq (.region F_slices_Min_int.r5) (.cond (.t 15) (.skip) (.exit 0))) (.seq (.block 1 (.region F_slices_Min_int.r7)) (.region F_slices_Min_int.r6))
def F_slices_Min_int.r8 : List Oper := [
  ⟨(some 24), .mv (.t 3), none⟩,
  ⟨(some 2), .mv (.t 24), none⟩]
def F_slices_Min_int.code : Code := .seq (.region F_slices_Min_int.r0) (.seq (.seq (.region F_slices_Min_int.r1) (.cond (.t 7) (.region F_slices_Min_int.r2) (.skip))) (.seq (.region F_slices_Min_int.r3) (.seq (.seq (.region F_slices_Min_int.r4) (.block 0 (.loop F_slices_Min_int.l0))) (.seq (.region F_slices_Min_int.r8) (.ret)))))
def F_slices_Min_int : Func := ⟨25, [.t 2], F_slices_Min_int.code⟩
/-! slices.IndexFunc[[]muntin/api.Arc,muntin/api.Arc] -/
def F_slices_IndexFunc_api_Arc.r0 : List Oper := [
  ⟨(some 4), .mv (.c (.i .i64 0)), none⟩]
def F_slices_IndexFunc_api_Arc.r1 : List Oper := [
  ⟨(some 6), .mv (.t 0), none⟩,
  ⟨(some 7), .len (.t 6), none⟩,
  ⟨(some 8), .mv (.c (.i .i64 0)), none⟩]
def F_slices_IndexFunc_api_Arc.r2 : List Oper := [
  ⟨(some 9), .bin .lss (.t 8) (.t 7), none⟩]
def F_slices_IndexFunc_api_Arc.r3 : List Oper := [
  ⟨(some 10), .mv (.t 8), none⟩,
  ⟨(some 5), .mv (.t 10), none⟩]
def F_slices_IndexFunc_api_Arc.r4 : List Oper := [
  ⟨(some 11), .mv (.t 1), none⟩,
  ⟨(some 12), .mv (.t 0), none⟩,
  ⟨(some 13), .mv (.t 5), none⟩,
  ⟨(some 14), .ixa 3 (.t 12) (.t 13), none⟩,
  ⟨(some 15), .ld true 3 (.t 14), none⟩,
  ⟨(some 16), .call (.t 11) [.t 15], none⟩]
def F_slices_IndexFunc_api_Arc.r5 : List Oper := [
  ⟨(some 17), .mv (.t 5), none⟩,
  ⟨(some 4), .mv (.t 17), none⟩]
def F_slices_IndexFunc_api_Arc.r6 : List Oper := [
  ⟨(some 18), .bin .add (.t 8) (.c (.i .i64 1)), none⟩,
  ⟨(some 8), .mv (.t 18), none⟩]
def F_slices_IndexFunc_api_Arc.l0 : Code := .seq (.region F_slices_IndexFunc_api_Arc.r2) (.seq (.cond (.t 9) (.skip) (.exit 0)) (.seq (.block 1 (.seq (.region F_slices_IndexFunc_api_Arc.r3) (.seq (.region F_slices_IndexFunc_api_Arc.r4) (.cond (.t 16) (.seq (.region F_slices_IndexFunc_api_Arc.r5) (.ret)) (.skip))))) (.region F_slices_IndexFunc_api_Arc.r6)))
def F_slices_IndexFunc_api_Arc.r7 : List Oper := [
  ⟨(some 4), .mv (.c (.i .i64 (-1))), none⟩]
def F_slices_IndexFunc_api_Arc.code : Code := .seq (.region F_slices_IndexFunc_api_Arc.r0) (.seq (.seq (.region F_slices_IndexFunc_api_Arc.r1) (.block 0 (.loop F_slices_IndexFunc_api_Arc.l0))) (.seq (.region F_slices_IndexFunc_api_Arc.r7) (.ret)))
def F_slices_IndexFunc_api_Arc : Func := ⟨19, [.t 4], F_slices_IndexFunc_api_Arc.code⟩
/-! muntin/dag.right -/
def F_dag_right.r0 : List Oper := [
  ⟨(some 2), .box (.t 0), none⟩,
  ⟨(some 4), .mv (.c (.b false)), none⟩]
def F_dag_right.r1 : List Oper := [
  ⟨(some 5), .ld false 1 (.t 2), none⟩,
  ⟨(some 6), .bin .lss (.t 5) (.c (.i .i64 0)), none⟩,
  ⟨(some 7), .mv (.t 6), none⟩,
  ⟨(some 8), .ld false 1 (.t 2), (some (7, false))⟩,
  ⟨(some 9), .bin .gtr (.t 8) (.c (.i .i64 4096)), (some (7, false))⟩,
  ⟨(some 10), .pick (.t 7) (.c (.b true)) (.t 9), none⟩,
  ⟨(some 11), .mv (.t 10), none⟩,
  ⟨(some 12), .mv (.t 1), (some (11, false))⟩,
  ⟨(some 13), .len (.t 12), (some (11, false))⟩,
  ⟨(some 14), .bin .gtr (.t 13) (.c (.i .i64 16384)), (some (11, false))⟩,
  ⟨(some 15), .pick (.t 11) (.c (.b true)) (.t 14), none⟩]
def F_dag_right.r2 : List Oper := [
  ⟨(some 4), .mv (.c (.b false)), none⟩]
def F_dag_right.r3 : List Oper := [
  ⟨(some 16), .mv (.t 1), none⟩,
  ⟨(some 17), .clo 92 [.t 2], none⟩,
  ⟨(some 18), .call (.c (.f 42 [])) [.t 16, .t 17], none⟩,
  ⟨(some 19), .un .not (.t 18), none⟩,
  ⟨(some 4), .mv (.t 19), none⟩]
def F_dag_right.code : Code := .seq (.region F_dag_right.r0) (.seq (.seq (.region F_dag_right.r1) (.cond (.t 15) (.seq (.region F_dag_right.r2) (.ret)) (.skip))) (.seq (.region F_dag_right.r3) (.ret)))
def F_dag_right : Func := ⟨20, [.t 4], F_dag_right.code⟩
/-! muntin/heap.New[int] -/
def F_heap_New_int.r0 : List Oper := [
  ⟨(some 2), .mv (.c (.pn)), none⟩]
def F_heap_New_int.r1 : List Oper := [
  ⟨(some 3), .mv (.t 0), none⟩,
  ⟨(some 4), .build [.nf, .sn, .i .i64 0] [(0, 1, .t 3)], none⟩,
  ⟨(some 5), .box (.t 4), none⟩,
  ⟨(some 2), .mv (.t 5), none⟩]
def F_heap_New_int.code : Code := .seq (.region F_heap_New_int.r0) (.seq (.region F_heap_New_int.r1) (.ret))
def F_heap_New_int : Func := ⟨6, [.t 2], F_heap_New_int.code⟩
/-! muntin/dag.Order$1 -/
def F_dag_Order_1.r0 : List Oper := [
  ⟨(some 4), .mv (.c (.b false)), none⟩]
def F_dag_Order_1.r1 : List Oper := [
  ⟨(some 5), .mv (.t 0), none⟩,
  ⟨(some 6), .mv (.t 1), none⟩,
  ⟨(some 7), .bin .lss (.t 5) (.t 6), none⟩,
  ⟨(some 4), .mv (.t 7), none⟩]
def F_dag_Order_1.code : Code := .seq (.region F_dag_Order_1.r0) (.seq (.region F_dag_Order_1.r1) (.ret))
def F_dag_Order_1 : Func := ⟨8, [.t 4], F_dag_Order_1.code⟩
/-! (*muntin/heap.Heap[int]).Push -/
def F_heap_Heap_int_Push.r0 : List Oper := [
  ⟨(some 5), .mv (.t 0), none⟩,
  ⟨(some 6), .eq false .pt (.t 5) (.c (.pn)), none⟩]
def F_heap_Heap_int_Push.r1 : List Oper := [
  ⟨(some 7), .mv (.t 0), none⟩,
  ⟨(some 8), .nilck (.t 7), none⟩,
  ⟨(some 9), .fa 2 (.t 8), none⟩,
  ⟨(some 10), .ld false 1 (.t 9), none⟩,
  ⟨(some 11), .bin .add (.t 10) (.c (.i .i64 1)), none⟩,
  ⟨(some 12), .nilck (.t 7), none⟩,
  ⟨(some 13), .fa 2 (.t 12), none⟩,
  ⟨none, .st 1 (.t 13) (.t 11), none⟩]
def F_heap_Heap_int_Push.r2 : List Oper := [
  ⟨(some 14), .mv (.t 0), none⟩,
  ⟨(some 15), .mv (.t 0), none⟩,
  ⟨(some 16), .nilck (.t 15), none⟩,
  ⟨(some 17), .fa 1 (.t 16), none⟩,
  ⟨(some 18), .ld false 1 (.t 17), none⟩,
  ⟨(some 19), .mv (.t 1), none⟩,
  ⟨(some 20), .mv (.t 0), none⟩,
  ⟨(some 21), .nilck (.t 20), none⟩,
  ⟨(some 22), .fa 2 (.t 21), none⟩,
  ⟨(some 23), .ld false 1 (.t 22), none⟩,
  ⟨(some 24), .build [.i .i64 0, .i .i64 0] [(0, 1, .t 19), (1, 1, .t 23)], none⟩,
  ⟨(some 25), .bsl 2 1 [.i .i64 0, .i .i64 0] [(0, 2, .t 24)], none⟩,
  ⟨(some 26), .app 2 16 (.t 18) (.t 25), none⟩,
  ⟨(some 27), .nilck (.t 14), none⟩,
  ⟨(some 28), .fa 1 (.t 27), none⟩,
  ⟨none, .st 1 (.t 28) (.t 26), none⟩]
def F_heap_Heap_int_Push.r3 : List Oper := [
  ⟨(some 29), .mv (.t 0), none⟩,
  ⟨(some 30), .nilck (.t 29), none⟩,
  ⟨(some 31), .fa 1 (.t 30), none⟩,
  ⟨(some 32), .ld false 1 (.t 31), none⟩,
  ⟨(some 33), .len (.t 32), none⟩,
  ⟨(some 34), .bin .sub (.t 33) (.c (.i .i64 1)), none⟩,
  ⟨(some 4), .mv (.t 34), none⟩]
def F_heap_Heap_int_Push.r4 : List Oper := [
  ⟨(some 35), .mv (.t 4), none⟩,
  ⟨(some 36), .bin .gtr (.t 35) (.c (.i .i64 0)), none⟩,
  ⟨(some 37), .mv (.t 36), none⟩,
  ⟨(some 38), .mv (.t 0), (some (37, true))⟩,
  ⟨(some 39), .mv (.t 4), (some (37, true))⟩,
  ⟨(some 40), .mv (.t 4), (some (37, true))⟩,
  ⟨(some 41), .bin .sub (.t 40) (.c (.i .i64 1)), (some (37, true))⟩,
  ⟨(some 42), .bin .quo (.t 41) (.c (.i .i64 2)), (some (37, true))⟩,
  ⟨(some 43), .call (.c (.f 93 [])) [.t 38, .t 39, .t 42], (some (37, true))⟩,
  ⟨(some 44), .pick (.t 37) (.t 43) (.c (.b false)), none⟩]
def F_heap_Heap_int_Push.r6 : List Oper := [
  ⟨(some 48), .mv (.t 0), none⟩,
  ⟨(some 49), .mv (.t 4), none⟩,
  ⟨(some 50), .mv (.t 4), none⟩,
  ⟨(some 51), .bin .sub (.t 50) (.c (.i .i64 1)), none⟩,
  ⟨(some 52), .bin .quo (.t 51) (.c (.i .i64 2)), none⟩,
  ⟨(some 53), .call (.c (.f 94 [])) [.t 48, .t 49, .t 52], none⟩]
def F_heap_Heap_int_Push.r5 : List Oper := [
  ⟨(some 45), .mv (.t 4), none⟩,
  ⟨(some 46), .bin .sub (.t 45) (.c (.i .i64 1)), none⟩,
  ⟨(some 47), .bin .quo (.t 46) (.c (.i .i64 2)), none⟩,
  ⟨(some 4), .mv (.t 47), none⟩]
def F_heap_Heap_int_Push.l0 : Code := .seq (.seq (.region F_heap_Heap_int_Push.r4) (.cond (.t 44) (.skip) (.exit 0))) (.seq (.block 1 (.region F_heap_Heap_int_Push.r6)) (.region F_heap_Heap_int_Push.r5))
def F_heap_Heap_int_Push.code : Code := .seq (.seq (.region F_heap_Heap_int_Push.r0) (.cond (.t 6) (.ret) (.skip))) (.seq (.region F_heap_Heap_int_Push.r1) (.seq (.draw F_heap_Heap_int_Push.r2 [(4, 9), (4, 11)]) (.seq (.region F_heap_Heap_int_Push.r3) (.block 0 (.loop F_heap_Heap_int_Push.l0)))))
def F_heap_Heap_int_Push : Func := ⟨54, [], F_heap_Heap_int_Push.code⟩
/-! (*muntin/heap.Heap[int]).Pop -/
def F_heap_Heap_int_Pop.r0 : List Oper := [
  ⟨(some 2), .mv (.c (.i .i64 0)), none⟩,
  ⟨(some 3), .mv (.c (.b false)), none⟩]
def F_heap_Heap_int_Pop.r1 : List Oper := [
  ⟨(some 8), .mv (.t 0), none⟩,
  ⟨(some 9), .call (.c (.f 95 [])) [.t 8], none⟩,
  ⟨(some 7), .mv (.t 9), none⟩,
  ⟨(some 10), .ext (.t 7) 0, none⟩,
  ⟨(some 11), .ext (.t 7) 1, none⟩,
  ⟨(some 4), .mv (.t 10), none⟩,
  ⟨(some 5), .mv (.t 11), none⟩]
def F_heap_Heap_int_Pop.r2 : List Oper := [
  ⟨(some 12), .mv (.t 5), none⟩,
  ⟨(some 13), .un .not (.t 12), none⟩]
def F_heap_Heap_int_Pop.r3 : List Oper := [
  ⟨(some 14), .mv (.t 4), none⟩,
  ⟨(some 2), .mv (.t 14), none⟩,
  ⟨(some 3), .mv (.c (.b false)), none⟩]
def F_heap_Heap_int_Pop.r4 : List Oper := [
  ⟨(some 15), .mv (.t 0), none⟩,
  ⟨(some 16), .nilck (.t 15), none⟩,
  ⟨(some 17), .fa 1 (.t 16), none⟩,
  ⟨(some 18), .ld false 1 (.t 17), none⟩,
  ⟨(some 19), .len (.t 18), none⟩,
  ⟨(some 20), .bin .sub (.t 19) (.c (.i .i64 1)), none⟩,
  ⟨(some 6), .mv (.t 20), none⟩]
def F_heap_Heap_int_Pop.r5 : List Oper := [
  ⟨(some 21), .mv (.t 0), none⟩,
  ⟨(some 22), .mv (.t 6), none⟩,
  ⟨(some 23), .call (.c (.f 94 [])) [.t 21, .c (.i .i64 0), .t 22], none⟩]
def F_heap_Heap_int_Pop.r6 : List Oper := [
  ⟨(some 24), .mv (.t 0), none⟩,
  ⟨(some 25), .mv (.t 0), none⟩,
  ⟨(some 26), .nilck (.t 25), none⟩,
  ⟨(some 27), .fa 1 (.t 26), none⟩,
  ⟨(some 28), .ld false 1 (.t 27), none⟩,
  ⟨(some 29), .mv (.t 6), none⟩,
  ⟨(some 30), .slc 2 (.t 28) none (some (.t 29)) none, none⟩,
  ⟨(some 31), .nilck (.t 24), none⟩,
  ⟨(some 32), .fa 1 (.t 31), none⟩,
  ⟨none, .st 1 (.t 32) (.t 30), none⟩]
def F_heap_Heap_int_Pop.r7 : List Oper := [
  ⟨(some 33), .mv (.t 0), none⟩,
  ⟨(some 34), .call (.c (.f 96 [])) [.t 33], none⟩]
def F_heap_Heap_int_Pop.r8 : List Oper := [
  ⟨(some 35), .mv (.t 4), none⟩,
  ⟨(some 2), .mv (.t 35), none⟩,
  ⟨(some 3), .mv (.c (.b true)), none⟩]
def F_heap_Heap_int_Pop.code : Code := .seq (.region F_heap_Heap_int_Pop.r0) (.seq (.region F_heap_Heap_int_Pop.r1) (.seq (.seq (.region F_heap_Heap_int_Pop.r2) (.cond (.t 13) (.seq (.region F_heap_Heap_int_Pop.r3) (.ret)) (.skip))) (.seq (.region F_heap_Heap_int_Pop.r4) (.seq (.region F_heap_Heap_int_Pop.r5) (.seq (.region F_heap_Heap_int_Pop.r6) (.seq (.region F_heap_Heap_int_Pop.r7) (.seq (.region F_heap_Heap_int_Pop.r8) (.ret))))))))
def F_heap_Heap_int_Pop : Func := ⟨36, [.t 2, .t 3], F_heap_Heap_int_Pop.code⟩
/-! muntin/dag.right$1 -/
def F_dag_right_1.r0 : List Oper := [
  ⟨(some 2), .box (.t 0), none⟩,
  ⟨(some 3), .mv (.c (.b false)), none⟩]
def F_dag_right_1.r1 : List Oper := [
  ⟨(some 4), .fa 0 (.t 2), none⟩,
  ⟨(some 5), .ld false 1 (.t 4), none⟩,
  ⟨(some 6), .bin .lss (.t 5) (.c (.i .i64 0)), none⟩,
  ⟨(some 7), .mv (.t 6), none⟩,
  ⟨(some 8), .fa 0 (.t 2), (some (7, false))⟩,
  ⟨(some 9), .ld false 1 (.t 8), (some (7, false))⟩,
  ⟨(some 10), .ld false 1 (.t 1), (some (7, false))⟩,
  ⟨(some 11), .bin .geq (.t 9) (.t 10), (some (7, false))⟩,
  ⟨(some 12), .pick (.t 7) (.c (.b true)) (.t 11), none⟩,
  ⟨(some 13), .mv (.t 12), none⟩,
  ⟨(some 14), .fa 1 (.t 2), (some (13, false))⟩,
  ⟨(some 15), .ld false 1 (.t 14), (some (13, false))⟩,
  ⟨(some 16), .bin .lss (.t 15) (.c (.i .i64 0)), (some (13, false))⟩,
  ⟨(some 17), .pick (.t 13) (.c (.b true)) (.t 16), none⟩,
  ⟨(some 18), .mv (.t 17), none⟩,
  ⟨(some 19), .fa 1 (.t 2), (some (18, false))⟩,
  ⟨(some 20), .ld false 1 (.t 19), (some (18, false))⟩,
  ⟨(some 21), .ld false 1 (.t 1), (some (18, false))⟩,
  ⟨(some 22), .bin .geq (.t 20) (.t 21), (some (18, false))⟩,
  ⟨(some 23), .pick (.t 18) (.c (.b true)) (.t 22), none⟩,
  ⟨(some 24), .mv (.t 23), none⟩,
  ⟨(some 25), .fa 2 (.t 2), (some (24, false))⟩,
  ⟨(some 26), .ld false 1 (.t 25), (some (24, false))⟩,
  ⟨(some 27), .bin .lss (.t 26) (.c (.i .i64 0)), (some (24, false))⟩,
  ⟨(some 28), .pick (.t 24) (.c (.b true)) (.t 27), none⟩,
  ⟨(some 29), .mv (.t 28), none⟩,
  ⟨(some 30), .fa 2 (.t 2), (some (29, false))⟩,
  ⟨(some 31), .ld false 1 (.t 30), (some (29, false))⟩,
  ⟨(some 32), .bin .gtr (.t 31) (.c (.i .i64 1000000)), (some (29, false))⟩,
  ⟨(some 33), .pick (.t 29) (.c (.b true)) (.t 32), none⟩,
  ⟨(some 3), .mv (.t 33), none⟩]
def F_dag_right_1.code : Code := .seq (.region F_dag_right_1.r0) (.seq (.region F_dag_right_1.r1) (.ret))
def F_dag_right_1 : Func := ⟨34, [.t 3], F_dag_right_1.code⟩
/-! (*muntin/heap.Heap[int]).ahead -/
def F_heap_Heap_int_ahead.r0 : List Oper := [
  ⟨(some 6), .mv (.c (.b false)), none⟩]
def F_heap_Heap_int_ahead.r1 : List Oper := [
  ⟨(some 9), .mv (.t 0), none⟩,
  ⟨(some 10), .nilck (.t 9), none⟩,
  ⟨(some 11), .fa 1 (.t 10), none⟩,
  ⟨(some 12), .ld false 1 (.t 11), none⟩,
  ⟨(some 13), .mv (.t 1), none⟩,
  ⟨(some 14), .ixa 2 (.t 12) (.t 13), none⟩,
  ⟨(some 15), .ld true 2 (.t 14), none⟩,
  ⟨(some 16), .mv (.t 0), none⟩,
  ⟨(some 17), .nilck (.t 16), none⟩,
  ⟨(some 18), .fa 1 (.t 17), none⟩,
  ⟨(some 19), .ld false 1 (.t 18), none⟩,
  ⟨(some 20), .mv (.t 2), none⟩,
  ⟨(some 21), .ixa 2 (.t 19) (.t 20), none⟩,
  ⟨(some 22), .ld true 2 (.t 21), none⟩,
  ⟨(some 7), .alloc [.i .i64 0, .i .i64 0], none⟩,
  ⟨(some 8), .alloc [.i .i64 0, .i .i64 0], none⟩,
  ⟨none, .st 2 (.t 7) (.t 15), none⟩,
  ⟨none, .st 2 (.t 8) (.t 22), none⟩]
def F_heap_Heap_int_ahead.r2 : List Oper := [
  ⟨(some 23), .mv (.t 0), none⟩,
  ⟨(some 24), .nilck (.t 23), none⟩,
  ⟨(some 25), .fa 0 (.t 24), none⟩,
  ⟨(some 26), .ld false 1 (.t 25), none⟩,
  ⟨(some 27), .fa 0 (.t 7), none⟩,
  ⟨(some 28), .ld false 1 (.t 27), none⟩,
  ⟨(some 29), .fa 0 (.t 8), none⟩,
  ⟨(some 30), .ld false 1 (.t 29), none⟩,
  ⟨(some 31), .call (.t 26) [.t 28, .t 30], none⟩]
def F_heap_Heap_int_ahead.r3 : List Oper := [
  ⟨(some 6), .mv (.c (.b true)), none⟩]
def F_heap_Heap_int_ahead.r4 : List Oper := [
  ⟨(some 32), .mv (.t 0), none⟩,
  ⟨(some 33), .nilck (.t 32), none⟩,
  ⟨(some 34), .fa 0 (.t 33), none⟩,
  ⟨(some 35), .ld false 1 (.t 34), none⟩,
  ⟨(some 36), .fa 0 (.t 8), none⟩,
  ⟨(some 37), .ld false 1 (.t 36), none⟩,
  ⟨(some 38), .fa 0 (.t 7), none⟩,
  ⟨(some 39), .ld false 1 (.t 38), none⟩,
  ⟨(some 40), .call (.t 35) [.t 37, .t 39], none⟩,
  ⟨(some 41), .un .not (.t 40), none⟩,
  ⟨(some 42), .mv (.t 41), none⟩,
  ⟨(some 43), .fa 1 (.t 7), (some (42, true))⟩,
  ⟨(some 44), .ld false 1 (.t 43), (some (42, true))⟩,
  ⟨(some 45), .fa 1 (.t 8), (some (42, true))⟩,
  ⟨(some 46), .ld false 1 (.t 45), (some (42, true))⟩,
  ⟨(some 47), .bin .lss (.t 44) (.t 46), (some (42, true))⟩,
  ⟨(some 48), .pick (.t 42) (.t 47) (.c (.b false)), none⟩,
  ⟨(some 6), .mv (.t 48), none⟩]
def F_heap_Heap_int_ahead.code : Code := .seq (.region F_heap_Heap_int_ahead.r0) (.seq (.draw F_heap_Heap_int_ahead.r1 [(3, 10), (6, 10), (3, 13), (6, 13), (3, 14), (6, 14), (10, 14), (13, 14), (3, 15), (6, 15), (10, 15), (13, 15), (14, 15), (10, 16), (13, 16)]) (.seq (.seq (.draw F_heap_Heap_int_ahead.r2 [(3, 5), (3, 7), (5, 7)]) (.cond (.t 31) (.seq (.region F_heap_Heap_int_ahead.r3) (.ret)) (.skip))) (.seq (.draw F_heap_Heap_int_ahead.r4 [(3, 5), (3, 7), (5, 7), (12, 14)]) (.ret))))
def F_heap_Heap_int_ahead : Func := ⟨49, [.t 6], F_heap_Heap_int_ahead.code⟩
/-! (*muntin/heap.Heap[int]).swap -/
def F_heap_Heap_int_swap.r0 : List Oper := [
  ⟨(some 6), .mv (.t 0), none⟩,
  ⟨(some 7), .nilck (.t 6), none⟩,
  ⟨(some 8), .fa 1 (.t 7), none⟩,
  ⟨(some 9), .ld false 1 (.t 8), none⟩,
  ⟨(some 10), .mv (.t 1), none⟩,
  ⟨(some 11), .mv (.t 0), none⟩,
  ⟨(some 12), .nilck (.t 11), none⟩,
  ⟨(some 13), .fa 1 (.t 12), none⟩,
  ⟨(some 14), .ld false 1 (.t 13), none⟩,
  ⟨(some 15), .mv (.t 2), none⟩,
  ⟨(some 16), .mv (.t 0), none⟩,
  ⟨(some 17), .nilck (.t 16), none⟩,
  ⟨(some 18), .fa 1 (.t 17), none⟩,
  ⟨(some 19), .ld false 1 (.t 18), none⟩,
  ⟨(some 20), .mv (.t 2), none⟩,
  ⟨(some 21), .ixa 2 (.t 19) (.t 20), none⟩,
  ⟨(some 22), .ld true 2 (.t 21), none⟩,
  ⟨(some 23), .mv (.t 0), none⟩,
  ⟨(some 24), .nilck (.t 23), none⟩,
  ⟨(some 25), .fa 1 (.t 24), none⟩,
  ⟨(some 26), .ld false 1 (.t 25), none⟩,
  ⟨(some 27), .mv (.t 1), none⟩,
  ⟨(some 28), .ixa 2 (.t 26) (.t 27), none⟩,
  ⟨(some 29), .ld true 2 (.t 28), none⟩,
  ⟨(some 30), .ixa 2 (.t 9) (.t 10), none⟩,
  ⟨none, .st 2 (.t 30) (.t 22), none⟩,
  ⟨(some 31), .ixa 2 (.t 14) (.t 15), none⟩,
  ⟨none, .st 2 (.t 31) (.t 29), none⟩]
def F_heap_Heap_int_swap.code : Code := .draw F_heap_Heap_int_swap.r0 [(3, 8), (3, 13), (8, 13), (3, 16), (8, 16), (3, 20), (8, 20), (13, 20), (16, 20), (3, 23), (8, 23), (13, 23), (16, 23)]
def F_heap_Heap_int_swap : Func := ⟨32, [], F_heap_Heap_int_swap.code⟩
/-! (*muntin/heap.Heap[int]).Top -/
def F_heap_Heap_int_Top.r0 : List Oper := [
  ⟨(some 2), .mv (.c (.i .i64 0)), none⟩,
  ⟨(some 3), .mv (.c (.b false)), none⟩]
def F_heap_Heap_int_Top.r1 : List Oper := [
  ⟨(some 5), .mv (.t 0), none⟩,
  ⟨(some 6), .call (.c (.f 99 [])) [.t 5], none⟩,
  ⟨(some 7), .eq false .sc (.t 6) (.c (.i .i64 0)), none⟩]
def F_heap_Heap_int_Top.r2 : List Oper := [
  ⟨(some 4), .mv (.c (.i .i64 0)), none⟩]
def F_heap_Heap_int_Top.r3 : List Oper := [
  ⟨(some 8), .mv (.t 4), none⟩,
  ⟨(some 2), .mv (.t 8), none⟩,
  ⟨(some 3), .mv (.c (.b false)), none⟩]
def F_heap_Heap_int_Top.r4 : List Oper := [
  ⟨(some 9), .mv (.t 0), none⟩,
  ⟨(some 10), .nilck (.t 9), none⟩,
  ⟨(some 11), .fa 1 (.t 10), none⟩,
  ⟨(some 12), .ld false 1 (.t 11), none⟩,
  ⟨(some 13), .ixa 2 (.t 12) (.c (.i .i64 0)), none⟩,
  ⟨(some 14), .fa 0 (.t 13), none⟩,
  ⟨(some 15), .ld false 1 (.t 14), none⟩,
  ⟨(some 2), .mv (.t 15), none⟩,
  ⟨(some 3), .mv (.c (.b true)), none⟩]
def F_heap_Heap_int_Top.code : Code := .seq (.region F_heap_Heap_int_Top.r0) (.seq (.seq (.region F_heap_Heap_int_Top.r1) (.cond (.t 7) (.seq (.region F_heap_Heap_int_Top.r2) (.seq (.region F_heap_Heap_int_Top.r3) (.ret))) (.skip))) (.seq (.region F_heap_Heap_int_Top.r4) (.ret)))
def F_heap_Heap_int_Top : Func := ⟨16, [.t 2, .t 3], F_heap_Heap_int_Top.code⟩
/-! (*muntin/heap.Heap[int]).sink -/
def F_heap_Heap_int_sink.r0 : List Oper := [
  ⟨(some 2), .mv (.c (.i .i64 0)), none⟩]
def F_heap_Heap_int_sink.r1 : List Oper := [
  ⟨(some 4), .mv (.t 2), none⟩,
  ⟨(some 5), .bin .mul (.c (.i .i64 2)) (.t 4), none⟩,
  ⟨(some 6), .bin .add (.t 5) (.c (.i .i64 1)), none⟩,
  ⟨(some 3), .mv (.t 6), none⟩]
def F_heap_Heap_int_sink.r2 : List Oper := [
  ⟨(some 7), .mv (.t 3), none⟩,
  ⟨(some 8), .mv (.t 0), none⟩,
  ⟨(some 9), .nilck (.t 8), none⟩,
  ⟨(some 10), .fa 1 (.t 9), none⟩,
  ⟨(some 11), .ld false 1 (.t 10), none⟩,
  ⟨(some 12), .len (.t 11), none⟩,
  ⟨(some 13), .bin .geq (.t 7) (.t 12), none⟩]
def F_heap_Heap_int_sink.r3 : List Oper := [
  ⟨(some 14), .mv (.t 3), none⟩,
  ⟨(some 15), .bin .add (.t 14) (.c (.i .i64 1)), none⟩,
  ⟨(some 16), .mv (.t 0), none⟩,
  ⟨(some 17), .nilck (.t 16), none⟩,
  ⟨(some 18), .fa 1 (.t 17), none⟩,
  ⟨(some 19), .ld false 1 (.t 18), none⟩,
  ⟨(some 20), .len (.t 19), none⟩,
  ⟨(some 21), .bin .lss (.t 15) (.t 20), none⟩,
  ⟨(some 22), .mv (.t 21), none⟩,
  ⟨(some 23), .mv (.t 0), (some (22, true))⟩,
  ⟨(some 24), .mv (.t 3), (some (22, true))⟩,
  ⟨(some 25), .bin .add (.t 24) (.c (.i .i64 1)), (some (22, true))⟩,
  ⟨(some 26), .mv (.t 3), (some (22, true))⟩,
  ⟨(some 27), .call (.c (.f 93 [])) [.t 23, .t 25, .t 26], (some (22, true))⟩,
  ⟨(some 28), .pick (.t 22) (.t 27) (.c (.b false)), none⟩]
def F_heap_Heap_int_sink.r4 : List Oper := [
  ⟨(some 29), .mv (.t 3), none⟩,
  ⟨(some 30), .bin .add (.t 29) (.c (.i .i64 1)), none⟩,
  ⟨(some 3), .mv (.t 30), none⟩]
def F_heap_Heap_int_sink.r5 : List Oper := [
  ⟨(some 31), .mv (.t 0), none⟩,
  ⟨(some 32), .mv (.t 3), none⟩,
  ⟨(some 33), .mv (.t 2), none⟩,
  ⟨(some 34), .call (.c (.f 93 [])) [.t 31, .t 32, .t 33], none⟩,
  ⟨(some 35), .un .not (.t 34), none⟩]
def F_heap_Heap_int_sink.r6 : List Oper := [
  ⟨(some 36), .mv (.t 0), none⟩,
  ⟨(some 37), .mv (.t 2), none⟩,
  ⟨(some 38), .mv (.t 3), none⟩,
  ⟨(some 39), .call (.c (.f 94 [])) [.t 36, .t 37, .t 38], none⟩]
def F_heap_Heap_int_sink.r7 : List Oper := [
  ⟨(some 40), .mv (.t 3), none⟩,
  ⟨(some 2), .mv (.t 40), none⟩]
def F_heap_Heap_int_sink.l0 : Code := .block 1 (.seq (.region F_heap_Heap_int_sink.r1) (.seq (.seq (.region F_heap_Heap_int_sink.r2) (.cond (.t 13) (.ret) (.skip))) (.seq (.seq (.region F_heap_Heap_int_sink.r3) (.cond (.t 28) (.region F_heap_Heap_int_sink.r4) (.skip))) (.seq (.seq (.region F_heap_Heap_int_sink.r5) (.cond (.t 35) (.ret) (.skip))) (.seq (.region F_heap_Heap_int_sink.r6) (.region F_heap_Heap_int_sink.r7))))))
def F_heap_Heap_int_sink.code : Code := .seq (.region F_heap_Heap_int_sink.r0) (.block 0 (.loop F_heap_Heap_int_sink.l0))
def F_heap_Heap_int_sink : Func := ⟨41, [], F_heap_Heap_int_sink.code⟩
/-! (*muntin/heap.Heap[int]).Len -/
def F_heap_Heap_int_Len.r0 : List Oper := [
  ⟨(some 2), .mv (.c (.i .i64 0)), none⟩]
def F_heap_Heap_int_Len.r1 : List Oper := [
  ⟨(some 3), .mv (.t 0), none⟩,
  ⟨(some 4), .eq false .pt (.t 3) (.c (.pn)), none⟩]
def F_heap_Heap_int_Len.r2 : List Oper := [
  ⟨(some 2), .mv (.c (.i .i64 0)), none⟩]
def F_heap_Heap_int_Len.r3 : List Oper := [
  ⟨(some 5), .mv (.t 0), none⟩,
  ⟨(some 6), .nilck (.t 5), none⟩,
  ⟨(some 7), .fa 1 (.t 6), none⟩,
  ⟨(some 8), .ld false 1 (.t 7), none⟩,
  ⟨(some 9), .len (.t 8), none⟩,
  ⟨(some 2), .mv (.t 9), none⟩]
def F_heap_Heap_int_Len.code : Code := .seq (.region F_heap_Heap_int_Len.r0) (.seq (.seq (.region F_heap_Heap_int_Len.r1) (.cond (.t 4) (.seq (.region F_heap_Heap_int_Len.r2) (.ret)) (.skip))) (.seq (.region F_heap_Heap_int_Len.r3) (.ret)))
def F_heap_Heap_int_Len : Func := ⟨10, [.t 2], F_heap_Heap_int_Len.code⟩
/-! muntin/muntinlaw04.LayerMore -/
def F_muntinlaw04_LayerMore.r0 : List Oper := [
  ⟨(some 2), .box (.t 0), none⟩,
  ⟨(some 3), .box (.t 1), none⟩,
  ⟨(some 4), .mv (.c (.b false)), none⟩]
def F_muntinlaw04_LayerMore.r1 : List Oper := [
  ⟨(some 18), .ld true 2 (.t 2), none⟩,
  ⟨(some 19), .call (.c (.f 37 [])) [.t 18, .c (.i .i64 20)], none⟩,
  ⟨(some 17), .mv (.t 19), none⟩,
  ⟨(some 20), .ext (.t 17) 0, none⟩,
  ⟨(some 21), .ext (.t 17) 1, none⟩,
  ⟨(some 5), .mv (.t 20), none⟩,
  ⟨(some 6), .mv (.t 21), none⟩]
def F_muntinlaw04_LayerMore.r2 : List Oper := [
  ⟨(some 23), .mv (.t 5), none⟩,
  ⟨(some 24), .mv (.t 6), none⟩,
  ⟨(some 25), .call (.c (.f 38 [])) [.t 23, .t 24], none⟩,
  ⟨(some 22), .mv (.t 25), none⟩,
  ⟨(some 26), .ext (.t 22) 0, none⟩,
  ⟨(some 27), .ext (.t 22) 1, none⟩,
  ⟨(some 7), .mv (.t 26), none⟩,
  ⟨(some 8), .mv (.t 27), none⟩]
def F_muntinlaw04_LayerMore.r3 : List Oper := [
  ⟨(some 28), .ixaa 1 2 (.t 3) (.c (.i .i64 0)), none⟩,
  ⟨(some 29), .ld false 1 (.t 28), none⟩,
  ⟨(some 30), .conv .i64 (.t 29), none⟩,
  ⟨(some 31), .mv (.t 5), none⟩,
  ⟨(some 32), .bin .rem (.t 30) (.t 31), none⟩,
  ⟨(some 33), .ixaa 1 2 (.t 3) (.c (.i .i64 1)), none⟩,
  ⟨(some 34), .ld false 1 (.t 33), none⟩,
  ⟨(some 35), .conv .i64 (.t 34), none⟩,
  ⟨(some 36), .mv (.t 5), none⟩,
  ⟨(some 37), .bin .rem (.t 35) (.t 36), none⟩,
  ⟨(some 9), .mv (.t 32), none⟩,
  ⟨(some 10), .mv (.t 37), none⟩]
def F_muntinlaw04_LayerMore.r4 : List Oper := [
  ⟨(some 38), .mv (.t 6), none⟩,
  ⟨(some 39), .call (.c (.f 114 [])) [.t 38], none⟩,
  ⟨(some 40), .mv (.t 6), none⟩,
  ⟨(some 41), .app 3 24 (.t 39) (.t 40), none⟩,
  ⟨(some 11), .mv (.t 41), none⟩]
def F_muntinlaw04_LayerMore.r5 : List Oper := [
  ⟨(some 43), .mv (.t 5), none⟩,
  ⟨(some 44), .mv (.t 11), none⟩,
  ⟨(some 45), .call (.c (.f 38 [])) [.t 43, .t 44], none⟩,
  ⟨(some 42), .mv (.t 45), none⟩,
  ⟨(some 46), .ext (.t 42) 0, none⟩,
  ⟨(some 47), .ext (.t 42) 1, none⟩,
  ⟨(some 12), .mv (.t 46), none⟩,
  ⟨(some 13), .mv (.t 47), none⟩]
def F_muntinlaw04_LayerMore.r6 : List Oper := [
  ⟨(some 48), .call (.c (.f 39 [])) [], none⟩,
  ⟨(some 49), .un .not (.t 48), none⟩,
  ⟨(some 50), .mv (.t 49), none⟩,
  ⟨(some 51), .mv (.t 8), (some (50, false))⟩,
  ⟨(some 52), .eq true .sc (.t 51) (.c (.i .i64 0)), (some (50, false))⟩,
  ⟨(some 53), .pick (.t 50) (.c (.b true)) (.t 52), none⟩,
  ⟨(some 54), .mv (.t 53), none⟩,
  ⟨(some 55), .mv (.t 13), (some (54, false))⟩,
  ⟨(some 56), .eq true .sc (.t 55) (.c (.i .i64 0)), (some (54, false))⟩,
  ⟨(some 57), .pick (.t 54) (.c (.b true)) (.t 56), none⟩,
  ⟨(some 58), .mv (.t 57), none⟩,
  ⟨(some 59), .mv (.t 12), (some (58, false))⟩,
  ⟨(some 60), .mv (.t 7), (some (58, false))⟩,
  ⟨(some 61), .call (.c (.f 33 [])) [.t 59, .t 60], (some (58, false))⟩,
  ⟨(some 62), .un .not (.t 61), (some (58, false))⟩,
  ⟨(some 63), .pick (.t 58) (.c (.b true)) (.t 62), none⟩]
def F_muntinlaw04_LayerMore.r7 : List Oper := [
  ⟨(some 4), .mv (.c (.b false)), none⟩]
def F_muntinlaw04_LayerMore.r8 : List Oper := [
  ⟨(some 64), .mv (.t 9), none⟩,
  ⟨(some 65), .mv (.t 10), none⟩,
  ⟨(some 66), .bin .geq (.t 64) (.t 65), none⟩]
def F_muntinlaw04_LayerMore.r9 : List Oper := [
  ⟨(some 4), .mv (.c (.b true)), none⟩]
def F_muntinlaw04_LayerMore.r10 : List Oper := [
  ⟨(some 68), .mv (.t 5), none⟩,
  ⟨(some 69), .mv (.t 11), none⟩,
  ⟨(some 70), .mv (.t 9), none⟩,
  ⟨(some 71), .mv (.t 10), none⟩,
  ⟨(some 72), .build [.i .i64 0, .i .i64 0, .i .i64 0] [(0, 1, .t 70), (1, 1, .t 71)], none⟩,
  ⟨(some 73), .bsl 3 1 [.i .i64 0, .i .i64 0, .i .i64 0] [(0, 3, .t 72)], none⟩,
  ⟨(some 74), .app 3 24 (.t 69) (.t 73), none⟩,
  ⟨(some 75), .call (.c (.f 38 [])) [.t 68, .t 74], none⟩,
  ⟨(some 67), .mv (.t 75), none⟩,
  ⟨(some 76), .ext (.t 67) 0, none⟩,
  ⟨(some 77), .ext (.t 67) 1, none⟩,
  ⟨(some 14), .mv (.t 76), none⟩,
  ⟨(some 15), .mv (.t 77), none⟩]
def F_muntinlaw04_LayerMore.r11 : List Oper := [
  ⟨(some 78), .mv (.t 15), none⟩,
  ⟨(some 79), .eq true .sc (.t 78) (.c (.i .i64 0)), none⟩,
  ⟨(some 80), .mv (.t 79), none⟩,
  ⟨(some 81), .mv (.t 14), (some (80, false))⟩,
  ⟨(some 82), .len (.t 81), (some (80, false))⟩,
  ⟨(some 83), .mv (.t 5), (some (80, false))⟩,
  ⟨(some 84), .eq true .sc (.t 82) (.t 83), (some (80, false))⟩,
  ⟨(some 85), .pick (.t 80) (.c (.b true)) (.t 84), none⟩]
def F_muntinlaw04_LayerMore.r12 : List Oper := [
  ⟨(some 4), .mv (.c (.b false)), none⟩]
def F_muntinlaw04_LayerMore.r13 : List Oper := [
  ⟨(some 86), .mv (.t 14), none⟩,
  ⟨(some 87), .len (.t 86), none⟩,
  ⟨(some 88), .mv (.c (.i .i64 0)), none⟩]
def F_muntinlaw04_LayerMore.r14 : List Oper := [
  ⟨(some 89), .bin .lss (.t 88) (.t 87), none⟩]
def F_muntinlaw04_LayerMore.r15 : List Oper := [
  ⟨(some 90), .mv (.t 88), none⟩,
  ⟨(some 16), .mv (.t 90), none⟩]
def F_muntinlaw04_LayerMore.r16 : List Oper := [
  ⟨(some 91), .mv (.t 14), none⟩,
  ⟨(some 92), .mv (.t 16), none⟩,
  ⟨(some 93), .ixa 1 (.t 91) (.t 92), none⟩,
  ⟨(some 94), .ld false 1 (.t 93), none⟩,
  ⟨(some 95), .mv (.t 7), none⟩,
  ⟨(some 96), .mv (.t 16), none⟩,
  ⟨(some 97), .ixa 1 (.t 95) (.t 96), none⟩,
  ⟨(some 98), .ld false 1 (.t 97), none⟩,
  ⟨(some 99), .bin .lss (.t 94) (.t 98), none⟩,
  ⟨(some 100), .mv (.t 99), none⟩,
  ⟨(some 101), .mv (.t 16), (some (100, false))⟩,
  ⟨(some 102), .mv (.t 10), (some (100, false))⟩,
  ⟨(some 103), .bin .lss (.t 101) (.t 102), (some (100, false))⟩,
  ⟨(some 104), .mv (.t 103), (some (100, false))⟩,
  ⟨(some 105), .mv (.t 14), (some (104, true))⟩,
  ⟨(some 106), .mv (.t 16), (some (104, true))⟩,
  ⟨(some 107), .ixa 1 (.t 105) (.t 106), (some (104, true))⟩,
  ⟨(some 108), .ld false 1 (.t 107), (some (104, true))⟩,
  ⟨(some 109), .mv (.t 7), (some (104, true))⟩,
  ⟨(some 110), .mv (.t 16), (some (104, true))⟩,
  ⟨(some 111), .ixa 1 (.t 109) (.t 110), (some (104, true))⟩,
  ⟨(some 112), .ld false 1 (.t 111), (some (104, true))⟩,
  ⟨(some 113), .eq true .sc (.t 108) (.t 112), (some (104, true))⟩,
  ⟨(some 114), .pick (.t 104) (.t 113) (.c (.b false)), (some (100, false))⟩,
  ⟨(some 115), .pick (.t 100) (.c (.b true)) (.t 114), none⟩]
def F_muntinlaw04_LayerMore.r17 : List Oper := [
  ⟨(some 4), .mv (.c (.b false)), none⟩]
def F_muntinlaw04_LayerMore.r18 : List Oper := [
  ⟨(some 116), .bin .add (.t 88) (.c (.i .i64 1)), none⟩,
  ⟨(some 88), .mv (.t 116), none⟩]
def F_muntinlaw04_LayerMore.l0 : Code := .seq (.region F_muntinlaw04_LayerMore.r14) (.seq (.cond (.t 89) (.skip) (.exit 0)) (.seq (.block 1 (.seq (.region F_muntinlaw04_LayerMore.r15) (.seq (.draw F_muntinlaw04_LayerMore.r16 [(3, 7), (17, 21)]) (.cond (.t 115) (.seq (.region F_muntinlaw04_LayerMore.r17) (.ret)) (.skip))))) (.region F_muntinlaw04_LayerMore.r18)))
def F_muntinlaw04_LayerMore.r19 : List Oper := [
  ⟨(some 117), .mv (.t 14), none⟩,
  ⟨(some 118), .mv (.t 10), none⟩,
  ⟨(some 119), .ixa 1 (.t 117) (.t 118), none⟩,
  ⟨(some 120), .ld false 1 (.t 119), none⟩,
  ⟨(some 121), .mv (.t 7), none⟩,
  ⟨(some 122), .mv (.t 10), none⟩,
  ⟨(some 123), .ixa 1 (.t 121) (.t 122), none⟩,
  ⟨(some 124), .ld false 1 (.t 123), none⟩,
  ⟨(some 125), .mv (.t 7), none⟩,
  ⟨(some 126), .mv (.t 9), none⟩,
  ⟨(some 127), .ixa 1 (.t 125) (.t 126), none⟩,
  ⟨(some 128), .ld false 1 (.t 127), none⟩,
  ⟨(some 129), .bin .add (.t 128) (.c (.i .i64 1)), none⟩,
  ⟨(some 130), .mx [.t 124, .t 129], none⟩,
  ⟨(some 131), .eq false .sc (.t 120) (.t 130), none⟩,
  ⟨(some 4), .mv (.t 131), none⟩]
def F_muntinlaw04_LayerMore.code : Code := .seq (.region F_muntinlaw04_LayerMore.r0) (.seq (.region F_muntinlaw04_LayerMore.r1) (.seq (.region F_muntinlaw04_LayerMore.r2) (.seq (.draw F_muntinlaw04_LayerMore.r3 [(1, 6)]) (.seq (.region F_muntinlaw04_LayerMore.r4) (.seq (.region F_muntinlaw04_LayerMore.r5) (.seq (.seq (.region F_muntinlaw04_LayerMore.r6) (.cond (.t 63) (.seq (.region F_muntinlaw04_LayerMore.r7) (.ret)) (.skip))) (.seq (.seq (.region F_muntinlaw04_LayerMore.r8) (.cond (.t 66) (.seq (.region F_muntinlaw04_LayerMore.r9) (.ret)) (.skip))) (.seq (.region F_muntinlaw04_LayerMore.r10) (.seq (.seq (.region F_muntinlaw04_LayerMore.r11) (.cond (.t 85) (.seq (.region F_muntinlaw04_LayerMore.r12) (.ret)) (.skip))) (.seq (.seq (.region F_muntinlaw04_LayerMore.r13) (.block 0 (.loop F_muntinlaw04_LayerMore.l0))) (.seq (.draw F_muntinlaw04_LayerMore.r19 [(3, 7), (3, 11), (7, 11)]) (.ret))))))))))))
def F_muntinlaw04_LayerMore : Func := ⟨132, [.t 4], F_muntinlaw04_LayerMore.code⟩
/-! slices.Clone[[]muntin/api.Arc,muntin/api.Arc] -/
def F_slices_Clone_api_Arc.r0 : List Oper := [
  ⟨(some 2), .mv (.c (.sn)), none⟩]
def F_slices_Clone_api_Arc.r1 : List Oper := [
  ⟨(some 3), .mv (.t 0), none⟩,
  ⟨(some 4), .eq false .sl (.t 3) (.c (.sn)), none⟩]
def F_slices_Clone_api_Arc.r2 : List Oper := [
  ⟨(some 2), .mv (.c (.sn)), none⟩]
def F_slices_Clone_api_Arc.r3 : List Oper := [
  ⟨(some 5), .bsl 3 0 [.i .i64 0, .i .i64 0, .i .i64 0] [], none⟩,
  ⟨(some 6), .mv (.t 0), none⟩,
  ⟨(some 7), .app 3 24 (.t 5) (.t 6), none⟩,
  ⟨(some 2), .mv (.t 7), none⟩]
def F_slices_Clone_api_Arc.code : Code := .seq (.region F_slices_Clone_api_Arc.r0) (.seq (.seq (.region F_slices_Clone_api_Arc.r1) (.cond (.t 4) (.seq (.region F_slices_Clone_api_Arc.r2) (.ret)) (.skip))) (.seq (.region F_slices_Clone_api_Arc.r3) (.ret)))
def F_slices_Clone_api_Arc : Func := ⟨8, [.t 2], F_slices_Clone_api_Arc.code⟩
def G : Prog := fun i => match i with
  | 33 => some F_slices_Equal_int
  | 37 => some F_muntinref03_Make
  | 38 => some F_layer_Layers
  | 39 => some F_muntinlaw04_wakes
  | 41 => some F_layer_Span
  | 42 => some F_slices_ContainsFunc_api_Arc
  | 69 => some F_dag_Order
  | 70 => some F_slices_Max_int
  | 71 => some F_slices_Min_int
  | 72 => some F_slices_IndexFunc_api_Arc
  | 84 => some F_dag_right
  | 85 => some F_heap_New_int
  | 86 => some F_dag_Order_1
  | 87 => some F_heap_Heap_int_Push
  | 88 => some F_heap_Heap_int_Pop
  | 92 => some F_dag_right_1
  | 93 => some F_heap_Heap_int_ahead
  | 94 => some F_heap_Heap_int_swap
  | 95 => some F_heap_Heap_int_Top
  | 96 => some F_heap_Heap_int_sink
  | 99 => some F_heap_Heap_int_Len
  | 102 => some F_muntinlaw04_LayerMore
  | 114 => some F_slices_Clone_api_Arc
  | _ => none
theorem G_F_slices_Equal_int : G 33 = some F_slices_Equal_int := rfl
theorem G_F_muntinref03_Make : G 37 = some F_muntinref03_Make := rfl
theorem G_F_layer_Layers : G 38 = some F_layer_Layers := rfl
theorem G_F_muntinlaw04_wakes : G 39 = some F_muntinlaw04_wakes := rfl
theorem G_F_layer_Span : G 41 = some F_layer_Span := rfl
theorem G_F_slices_ContainsFunc_api_Arc : G 42 = some F_slices_ContainsFunc_api_Arc := rfl
theorem G_F_dag_Order : G 69 = some F_dag_Order := rfl
theorem G_F_slices_Max_int : G 70 = some F_slices_Max_int := rfl
theorem G_F_slices_Min_int : G 71 = some F_slices_Min_int := rfl
theorem G_F_slices_IndexFunc_api_Arc : G 72 = some F_slices_IndexFunc_api_Arc := rfl
theorem G_F_dag_right : G 84 = some F_dag_right := rfl
theorem G_F_heap_New_int : G 85 = some F_heap_New_int := rfl
theorem G_F_dag_Order_1 : G 86 = some F_dag_Order_1 := rfl
theorem G_F_heap_Heap_int_Push : G 87 = some F_heap_Heap_int_Push := rfl
theorem G_F_heap_Heap_int_Pop : G 88 = some F_heap_Heap_int_Pop := rfl
theorem G_F_dag_right_1 : G 92 = some F_dag_right_1 := rfl
theorem G_F_heap_Heap_int_ahead : G 93 = some F_heap_Heap_int_ahead := rfl
theorem G_F_heap_Heap_int_swap : G 94 = some F_heap_Heap_int_swap := rfl
theorem G_F_heap_Heap_int_Top : G 95 = some F_heap_Heap_int_Top := rfl
theorem G_F_heap_Heap_int_sink : G 96 = some F_heap_Heap_int_sink := rfl
theorem G_F_heap_Heap_int_Len : G 99 = some F_heap_Heap_int_Len := rfl
theorem G_F_muntinlaw04_LayerMore : G 102 = some F_muntinlaw04_LayerMore := rfl
theorem G_F_slices_Clone_api_Arc : G 114 = some F_slices_Clone_api_Arc := rfl
end Mu
