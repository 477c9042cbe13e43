/- The functions of the program, as the evaluator has them: printed by a program; checked against the model's. -/
import Derived.Test.YtofdeafffbkgbaaMuE0
namespace Mu
/-! muntin/grid.New -/
def F_grid_New.r0 : List Oper := [
  ⟨(some 2), .mv (.c (.pn)), none⟩,
  ⟨(some 3), .mv (.c (.i .i64 0)), none⟩]
def F_grid_New.r1 : List Oper := [
  ⟨(some 5), .mv (.t 0), none⟩,
  ⟨(some 6), .bin .lss (.t 5) (.c (.i .i64 0)), none⟩,
  ⟨(some 4), .mv (.t 6), none⟩]
def F_grid_New.r2 : List Oper := [
  ⟨(some 2), .mv (.c (.pn)), none⟩,
  ⟨(some 3), .mv (.c (.i .i64 2)), none⟩]
def F_grid_New.r3 : List Oper := [
  ⟨(some 8), .mv (.t 0), none⟩,
  ⟨(some 9), .bin .gtr (.t 8) (.c (.i .i64 4096)), none⟩,
  ⟨(some 7), .mv (.t 9), none⟩]
def F_grid_New.r4 : List Oper := [
  ⟨(some 2), .mv (.c (.pn)), none⟩,
  ⟨(some 3), .mv (.c (.i .i64 6)), none⟩]
def F_grid_New.r5 : List Oper := [
  ⟨(some 10), .call (.c (.f 74 [])) [], none⟩,
  ⟨(some 11), .bsl 8 1 [.i .i64 0, .i .i64 0, .i .i64 0, .i .i64 0, .i .i64 0, .i .i64 0, .i .i64 0, .i .i64 0] [(0, 8, .t 10)], none⟩,
  ⟨(some 12), .mv (.t 0), none⟩,
  ⟨(some 13), .call (.c (.f 73 [])) [.t 11, .t 12], none⟩,
  ⟨(some 14), .build [.sn] [(0, 1, .t 13)], none⟩,
  ⟨(some 15), .box (.t 14), none⟩,
  ⟨(some 2), .mv (.t 15), none⟩,
  ⟨(some 3), .mv (.c (.i .i64 0)), none⟩]
def F_grid_New.code : Code := .seq (.region F_grid_New.r0) (.seq (.block 0 (.seq (.region F_grid_New.r1) (.cond (.t 4) (.seq (.region F_grid_New.r2) (.ret)) (.seq (.region F_grid_New.r3) (.cond (.t 7) (.seq (.region F_grid_New.r4) (.ret)) (.skip)))))) (.seq (.region F_grid_New.r5) (.ret)))
def F_grid_New : Func := ⟨16, [.t 2, .t 3], F_grid_New.code⟩
/-! muntin/muntinlaw10.wakes -/
def F_muntinlaw10_wakes.r0 : List Oper := [
  ⟨(some 0), .mv (.c (.b false)), none⟩]
def F_muntinlaw10_wakes.r1 : List Oper := [
  ⟨(some 12), .call (.c (.f 45 [])) [.c (.i .i64 2)], none⟩,
  ⟨(some 11), .mv (.t 12), none⟩,
  ⟨(some 13), .ext (.t 11) 0, none⟩,
  ⟨(some 14), .ext (.t 11) 1, none⟩,
  ⟨(some 1), .mv (.t 13), none⟩,
  ⟨(some 2), .mv (.t 14), none⟩]
def F_muntinlaw10_wakes.r2 : List Oper := [
  ⟨(some 15), .mv (.t 1), none⟩,
  ⟨(some 16), .call (.c (.f 52 [])) [.t 15, .c (.i .i64 0), .c (.i .i64 0), .c (.i .i64 1), .c (.i .i64 0)], none⟩,
  ⟨(some 3), .mv (.t 16), none⟩]
def F_muntinlaw10_wakes.r3 : List Oper := [
  ⟨(some 18), .mv (.t 1), none⟩,
  ⟨(some 19), .call (.c (.f 48 [])) [.t 18, .c (.i .i64 0), .c (.i .i64 0)], none⟩,
  ⟨(some 17), .mv (.t 19), none⟩,
  ⟨(some 20), .ext (.t 17) 0, none⟩,
  ⟨(some 21), .ext (.t 17) 1, none⟩,
  ⟨(some 4), .mv (.t 20), none⟩,
  ⟨(some 5), .mv (.t 21), none⟩]
def F_muntinlaw10_wakes.r4 : List Oper := [
  ⟨(some 23), .mv (.t 1), none⟩,
  ⟨(some 24), .call (.c (.f 54 [])) [.t 23, .c (.i .i64 2), .c (.i .i64 0)], none⟩,
  ⟨(some 22), .mv (.t 24), none⟩,
  ⟨(some 25), .ext (.t 22) 0, none⟩,
  ⟨(some 26), .ext (.t 22) 1, none⟩,
  ⟨(some 27), .ext (.t 22) 2, none⟩,
  ⟨(some 6), .mv (.t 25), none⟩,
  ⟨(some 7), .mv (.t 26), none⟩,
  ⟨(some 8), .mv (.t 27), none⟩]
def F_muntinlaw10_wakes.r5 : List Oper := [
  ⟨(some 29), .call (.c (.f 45 [])) [.c (.i .i64 (-1))], none⟩,
  ⟨(some 28), .mv (.t 29), none⟩,
  ⟨(some 30), .ext (.t 28) 0, none⟩,
  ⟨(some 31), .ext (.t 28) 1, none⟩,
  ⟨(some 9), .mv (.t 30), none⟩,
  ⟨(some 10), .mv (.t 31), none⟩]
def F_muntinlaw10_wakes.r6 : List Oper := [
  ⟨(some 32), .mv (.t 2), none⟩,
  ⟨(some 33), .eq false .sc (.t 32) (.c (.i .i64 0)), none⟩,
  ⟨(some 34), .mv (.t 33), none⟩,
  ⟨(some 35), .mv (.t 3), (some (34, true))⟩,
  ⟨(some 36), .eq false .sc (.t 35) (.c (.i .i64 0)), (some (34, true))⟩,
  ⟨(some 37), .pick (.t 34) (.t 36) (.c (.b false)), none⟩,
  ⟨(some 38), .mv (.t 37), none⟩,
  ⟨(some 39), .mv (.t 4), (some (38, true))⟩,
  ⟨(some 40), .eq false .sc (.t 39) (.c (.i .i64 2)), (some (38, true))⟩,
  ⟨(some 41), .pick (.t 38) (.t 40) (.c (.b false)), none⟩,
  ⟨(some 42), .mv (.t 41), none⟩,
  ⟨(some 43), .mv (.t 5), (some (42, true))⟩,
  ⟨(some 44), .eq false .sc (.t 43) (.c (.i .i64 0)), (some (42, true))⟩,
  ⟨(some 45), .pick (.t 42) (.t 44) (.c (.b false)), none⟩,
  ⟨(some 46), .mv (.t 45), none⟩,
  ⟨(some 47), .mv (.t 6), (some (46, true))⟩,
  ⟨(some 48), .eq false .sc (.t 47) (.c (.i .i64 1)), (some (46, true))⟩,
  ⟨(some 49), .pick (.t 46) (.t 48) (.c (.b false)), none⟩,
  ⟨(some 50), .mv (.t 49), none⟩,
  ⟨(some 51), .mv (.t 7), (some (50, true))⟩,
  ⟨(some 52), .eq false .sc (.t 51) (.c (.i .i64 0)), (some (50, true))⟩,
  ⟨(some 53), .pick (.t 50) (.t 52) (.c (.b false)), none⟩,
  ⟨(some 54), .mv (.t 53), none⟩,
  ⟨(some 55), .mv (.t 8), (some (54, true))⟩,
  ⟨(some 56), .pick (.t 54) (.t 55) (.c (.b false)), none⟩,
  ⟨(some 57), .mv (.t 56), none⟩,
  ⟨(some 58), .mv (.t 10), (some (57, true))⟩,
  ⟨(some 59), .eq false .sc (.t 58) (.c (.i .i64 2)), (some (57, true))⟩,
  ⟨(some 60), .pick (.t 57) (.t 59) (.c (.b false)), none⟩,
  ⟨(some 61), .mv (.t 60), none⟩,
  ⟨(some 62), .build [.i .i64 0, .i .i64 0, .i .i64 0, .i .i64 0, .i .i64 0, .i .i64 0, .i .i64 0, .i .i64 0] [], (some (61, true))⟩,
  ⟨(some 63), .bsl 8 1 [.i .i64 0, .i .i64 0, .i .i64 0, .i .i64 0, .i .i64 0, .i .i64 0, .i .i64 0, .i .i64 0] [(0, 8, .t 62)], (some (61, true))⟩,
  ⟨(some 64), .call (.c (.f 66 [])) [.t 63], (some (61, true))⟩,
  ⟨(some 65), .eq false .sc (.t 64) (.c (.i .i64 3)), (some (61, true))⟩,
  ⟨(some 66), .pick (.t 61) (.t 65) (.c (.b false)), none⟩,
  ⟨(some 0), .mv (.t 66), none⟩]
def F_muntinlaw10_wakes.code : Code := .seq (.region F_muntinlaw10_wakes.r0) (.seq (.region F_muntinlaw10_wakes.r1) (.seq (.region F_muntinlaw10_wakes.r2) (.seq (.region F_muntinlaw10_wakes.r3) (.seq (.region F_muntinlaw10_wakes.r4) (.seq (.region F_muntinlaw10_wakes.r5) (.seq (.region F_muntinlaw10_wakes.r6) (.ret)))))))
def F_muntinlaw10_wakes : Func := ⟨67, [.t 0], F_muntinlaw10_wakes.code⟩
/-! (*muntin/grid.Grid).Split -/
def F_grid_Grid_Split.r0 : List Oper := [
  ⟨(some 6), .mv (.c (.i .i64 0)), none⟩,
  ⟨(some 7), .mv (.c (.i .i64 0)), none⟩]
def F_grid_Grid_Split.r1 : List Oper := [
  ⟨(some 14), .mv (.t 0), none⟩,
  ⟨(some 15), .eq false .pt (.t 14) (.c (.pn)), none⟩,
  ⟨(some 13), .mv (.t 15), none⟩]
def F_grid_Grid_Split.r2 : List Oper := [
  ⟨(some 6), .mv (.c (.i .i64 0)), none⟩,
  ⟨(some 7), .mv (.c (.i .i64 1)), none⟩]
def F_grid_Grid_Split.r3 : List Oper := [
  ⟨(some 17), .mv (.t 0), none⟩,
  ⟨(some 18), .mv (.t 1), none⟩,
  ⟨(some 19), .mv (.t 2), none⟩,
  ⟨(some 20), .call (.c (.f 75 [])) [.t 17, .t 18, .t 19], none⟩,
  ⟨(some 21), .un .not (.t 20), none⟩,
  ⟨(some 16), .mv (.t 21), none⟩]
def F_grid_Grid_Split.r4 : List Oper := [
  ⟨(some 6), .mv (.c (.i .i64 0)), none⟩,
  ⟨(some 7), .mv (.c (.i .i64 2)), none⟩]
def F_grid_Grid_Split.r5 : List Oper := [
  ⟨(some 23), .mv (.t 0), none⟩,
  ⟨(some 24), .mv (.t 1), none⟩,
  ⟨(some 25), .mv (.t 2), none⟩,
  ⟨(some 26), .call (.c (.f 54 [])) [.t 23, .t 24, .t 25], none⟩,
  ⟨(some 22), .mv (.t 26), none⟩,
  ⟨(some 27), .ext (.t 22) 0, none⟩,
  ⟨(some 28), .ext (.t 22) 1, none⟩,
  ⟨(some 29), .ext (.t 22) 2, none⟩,
  ⟨(some 8), .mv (.t 27), none⟩,
  ⟨(some 9), .mv (.t 28), none⟩,
  ⟨(some 10), .mv (.t 29), none⟩]
def F_grid_Grid_Split.r6 : List Oper := [
  ⟨(some 30), .mv (.t 10), none⟩,
  ⟨(some 31), .un .not (.t 30), none⟩]
def F_grid_Grid_Split.r7 : List Oper := [
  ⟨(some 6), .mv (.c (.i .i64 0)), none⟩,
  ⟨(some 7), .mv (.c (.i .i64 9)), none⟩]
def F_grid_Grid_Split.r8 : List Oper := [
  ⟨(some 33), .mv (.t 0), none⟩,
  ⟨(some 34), .call (.c (.f 50 [])) [.t 33], none⟩,
  ⟨(some 32), .mv (.t 34), none⟩,
  ⟨(some 35), .ext (.t 32) 0, none⟩,
  ⟨(some 36), .ext (.t 32) 1, none⟩,
  ⟨(some 11), .mv (.t 35), none⟩,
  ⟨(some 12), .mv (.t 36), none⟩]
def F_grid_Grid_Split.r9 : List Oper := [
  ⟨(some 37), .mv (.t 12), none⟩,
  ⟨(some 38), .eq true .sc (.t 37) (.c (.i .i64 0)), none⟩]
def F_grid_Grid_Split.r10 : List Oper := [
  ⟨(some 39), .mv (.t 12), none⟩,
  ⟨(some 6), .mv (.c (.i .i64 0)), none⟩,
  ⟨(some 7), .mv (.t 39), none⟩]
def F_grid_Grid_Split.r11 : List Oper := [
  ⟨(some 40), .mv (.t 0), none⟩,
  ⟨(some 41), .mv (.t 1), none⟩,
  ⟨(some 42), .mv (.t 2), none⟩,
  ⟨(some 43), .mv (.t 11), none⟩,
  ⟨(some 44), .mv (.t 9), none⟩,
  ⟨(some 45), .call (.c (.f 76 [])) [.t 40, .t 41, .t 42, .t 43, .t 44], none⟩]
def F_grid_Grid_Split.r12 : List Oper := [
  ⟨(some 46), .mv (.t 0), none⟩,
  ⟨(some 47), .mv (.t 11), none⟩,
  ⟨(some 48), .mv (.t 2), none⟩,
  ⟨(some 49), .mv (.t 8), none⟩,
  ⟨(some 50), .mv (.t 9), none⟩,
  ⟨(some 51), .call (.c (.f 76 [])) [.t 46, .t 47, .t 48, .t 49, .t 50], none⟩]
def F_grid_Grid_Split.r13 : List Oper := [
  ⟨(some 52), .mv (.t 11), none⟩,
  ⟨(some 6), .mv (.t 52), none⟩,
  ⟨(some 7), .mv (.c (.i .i64 0)), none⟩]
def F_grid_Grid_Split.code : Code := .seq (.region F_grid_Grid_Split.r0) (.seq (.block 0 (.seq (.region F_grid_Grid_Split.r1) (.cond (.t 13) (.seq (.region F_grid_Grid_Split.r2) (.ret)) (.seq (.region F_grid_Grid_Split.r3) (.cond (.t 16) (.seq (.region F_grid_Grid_Split.r4) (.ret)) (.skip)))))) (.seq (.region F_grid_Grid_Split.r5) (.seq (.seq (.region F_grid_Grid_Split.r6) (.cond (.t 31) (.seq (.region F_grid_Grid_Split.r7) (.ret)) (.skip))) (.seq (.region F_grid_Grid_Split.r8) (.seq (.seq (.region F_grid_Grid_Split.r9) (.cond (.t 38) (.seq (.region F_grid_Grid_Split.r10) (.ret)) (.skip))) (.seq (.region F_grid_Grid_Split.r11) (.seq (.region F_grid_Grid_Split.r12) (.seq (.region F_grid_Grid_Split.r13) (.ret)))))))))
def F_grid_Grid_Split : Func := ⟨53, [.t 6, .t 7], F_grid_Grid_Split.code⟩
/-! (*muntin/grid.Grid).Add -/
def F_grid_Grid_Add.r0 : List Oper := [
  ⟨(some 2), .mv (.c (.i .i64 0)), none⟩,
  ⟨(some 3), .mv (.c (.i .i64 0)), none⟩]
def F_grid_Grid_Add.r1 : List Oper := [
  ⟨(some 5), .mv (.t 0), none⟩,
  ⟨(some 6), .eq false .pt (.t 5) (.c (.pn)), none⟩,
  ⟨(some 4), .mv (.t 6), none⟩]
def F_grid_Grid_Add.r2 : List Oper := [
  ⟨(some 2), .mv (.c (.i .i64 0)), none⟩,
  ⟨(some 3), .mv (.c (.i .i64 1)), none⟩]
def F_grid_Grid_Add.r3 : List Oper := [
  ⟨(some 8), .mv (.t 0), none⟩,
  ⟨(some 9), .call (.c (.f 55 [])) [.t 8], none⟩,
  ⟨(some 10), .eq false .sc (.t 9) (.c (.i .i64 4096)), none⟩,
  ⟨(some 7), .mv (.t 10), none⟩]
def F_grid_Grid_Add.r4 : List Oper := [
  ⟨(some 2), .mv (.c (.i .i64 0)), none⟩,
  ⟨(some 3), .mv (.c (.i .i64 6)), none⟩]
def F_grid_Grid_Add.r5 : List Oper := [
  ⟨(some 11), .mv (.t 0), none⟩,
  ⟨(some 12), .mv (.t 0), none⟩,
  ⟨(some 13), .nilck (.t 12), none⟩,
  ⟨(some 14), .fa 0 (.t 13), none⟩,
  ⟨(some 15), .ld false 1 (.t 14), none⟩,
  ⟨(some 16), .call (.c (.f 74 [])) [], none⟩,
  ⟨(some 17), .bsl 8 1 [.i .i64 0, .i .i64 0, .i .i64 0, .i .i64 0, .i .i64 0, .i .i64 0, .i .i64 0, .i .i64 0] [(0, 8, .t 16)], none⟩,
  ⟨(some 18), .app 8 64 (.t 15) (.t 17), none⟩,
  ⟨(some 19), .nilck (.t 11), none⟩,
  ⟨(some 20), .fa 0 (.t 19), none⟩,
  ⟨none, .st 1 (.t 20) (.t 18), none⟩]
def F_grid_Grid_Add.r6 : List Oper := [
  ⟨(some 21), .mv (.t 0), none⟩,
  ⟨(some 22), .call (.c (.f 55 [])) [.t 21], none⟩,
  ⟨(some 23), .bin .sub (.t 22) (.c (.i .i64 1)), none⟩,
  ⟨(some 2), .mv (.t 23), none⟩,
  ⟨(some 3), .mv (.c (.i .i64 0)), none⟩]
def F_grid_Grid_Add.code : Code := .seq (.region F_grid_Grid_Add.r0) (.seq (.block 0 (.seq (.region F_grid_Grid_Add.r1) (.cond (.t 4) (.seq (.region F_grid_Grid_Add.r2) (.ret)) (.seq (.region F_grid_Grid_Add.r3) (.cond (.t 7) (.seq (.region F_grid_Grid_Add.r4) (.ret)) (.skip)))))) (.seq (.draw F_grid_Grid_Add.r5 [(4, 5), (4, 6)]) (.seq (.region F_grid_Grid_Add.r6) (.ret))))
def F_grid_Grid_Add : Func := ⟨24, [.t 2, .t 3], F_grid_Grid_Add.code⟩
/-! slices.Clone[[]muntin/api.Cell,muntin/api.Cell] -/
def F_slices_Clone_api_Cell.r0 : List Oper := [
  ⟨(some 2), .mv (.c (.sn)), none⟩]
def F_slices_Clone_api_Cell.r1 : List Oper := [
  ⟨(some 3), .mv (.t 0), none⟩,
  ⟨(some 4), .eq false .sl (.t 3) (.c (.sn)), none⟩]
def F_slices_Clone_api_Cell.r2 : List Oper := [
  ⟨(some 2), .mv (.c (.sn)), none⟩]
def F_slices_Clone_api_Cell.r3 : List Oper := [
  ⟨(some 5), .bsl 8 0 [.i .i64 0, .i .i64 0, .i .i64 0, .i .i64 0, .i .i64 0, .i .i64 0, .i .i64 0, .i .i64 0] [], none⟩,
  ⟨(some 6), .mv (.t 0), none⟩,
  ⟨(some 7), .app 8 64 (.t 5) (.t 6), none⟩,
  ⟨(some 2), .mv (.t 7), none⟩]
def F_slices_Clone_api_Cell.code : Code := .seq (.region F_slices_Clone_api_Cell.r0) (.seq (.seq (.region F_slices_Clone_api_Cell.r1) (.cond (.t 4) (.seq (.region F_slices_Clone_api_Cell.r2) (.ret)) (.skip))) (.seq (.region F_slices_Clone_api_Cell.r3) (.ret)))
def F_slices_Clone_api_Cell : Func := ⟨8, [.t 2], F_slices_Clone_api_Cell.code⟩
/-! (*muntin/grid.Grid).Join -/
def F_grid_Grid_Join.r0 : List Oper := [
  ⟨(some 10), .mv (.c (.i .i64 0)), none⟩]
def F_grid_Grid_Join.r1 : List Oper := [
  ⟨(some 12), .mv (.t 0), none⟩,
  ⟨(some 13), .eq false .pt (.t 12) (.c (.pn)), none⟩,
  ⟨(some 11), .mv (.t 13), none⟩]
def F_grid_Grid_Join.r2 : List Oper := [
  ⟨(some 10), .mv (.c (.i .i64 1)), none⟩]
def F_grid_Grid_Join.r3 : List Oper := [
  ⟨(some 15), .mv (.t 0), none⟩,
  ⟨(some 16), .mv (.t 1), none⟩,
  ⟨(some 17), .mv (.t 2), none⟩,
  ⟨(some 18), .call (.c (.f 75 [])) [.t 15, .t 16, .t 17], none⟩,
  ⟨(some 19), .un .not (.t 18), none⟩,
  ⟨(some 20), .mv (.t 19), none⟩,
  ⟨(some 21), .mv (.t 0), (some (20, false))⟩,
  ⟨(some 22), .mv (.t 3), (some (20, false))⟩,
  ⟨(some 23), .mv (.t 2), (some (20, false))⟩,
  ⟨(some 24), .call (.c (.f 75 [])) [.t 21, .t 22, .t 23], (some (20, false))⟩,
  ⟨(some 25), .un .not (.t 24), (some (20, false))⟩,
  ⟨(some 26), .pick (.t 20) (.c (.b true)) (.t 25), none⟩,
  ⟨(some 27), .mv (.t 26), none⟩,
  ⟨(some 28), .mv (.t 1), (some (27, false))⟩,
  ⟨(some 29), .mv (.t 3), (some (27, false))⟩,
  ⟨(some 30), .eq false .sc (.t 28) (.t 29), (some (27, false))⟩,
  ⟨(some 31), .pick (.t 27) (.c (.b true)) (.t 30), none⟩,
  ⟨(some 32), .mv (.t 31), none⟩,
  ⟨(some 33), .mv (.t 4), (some (32, false))⟩,
  ⟨(some 34), .bin .lss (.t 33) (.c (.i .i64 (-2))), (some (32, false))⟩,
  ⟨(some 35), .pick (.t 32) (.c (.b true)) (.t 34), none⟩,
  ⟨(some 14), .mv (.t 35), none⟩]
def F_grid_Grid_Join.r4 : List Oper := [
  ⟨(some 10), .mv (.c (.i .i64 2)), none⟩]
def F_grid_Grid_Join.r5 : List Oper := [
  ⟨(some 37), .mv (.t 0), none⟩,
  ⟨(some 38), .nilck (.t 37), none⟩,
  ⟨(some 39), .fa 0 (.t 38), none⟩,
  ⟨(some 40), .ld false 1 (.t 39), none⟩,
  ⟨(some 41), .mv (.t 1), none⟩,
  ⟨(some 42), .mv (.t 2), none⟩,
  ⟨(some 43), .ixa 8 (.t 40) (.t 41), none⟩,
  ⟨(some 44), .fa 0 (.t 43), none⟩,
  ⟨(some 45), .ixaa 1 4 (.t 44) (.t 42), none⟩,
  ⟨(some 46), .ld false 1 (.t 45), none⟩,
  ⟨(some 47), .eq true .sc (.t 46) (.c (.i .i64 (-1))), none⟩,
  ⟨(some 48), .mv (.t 47), none⟩,
  ⟨(some 49), .mv (.t 0), (some (48, false))⟩,
  ⟨(some 50), .nilck (.t 49), (some (48, false))⟩,
  ⟨(some 51), .fa 0 (.t 50), (some (48, false))⟩,
  ⟨(some 52), .ld false 1 (.t 51), (some (48, false))⟩,
  ⟨(some 53), .mv (.t 3), (some (48, false))⟩,
  ⟨(some 54), .mv (.t 2), (some (48, false))⟩,
  ⟨(some 55), .call (.c (.f 77 [])) [.t 54, .c (.i .i64 2)], (some (48, false))⟩,
  ⟨(some 56), .ixa 8 (.t 52) (.t 53), (some (48, false))⟩,
  ⟨(some 57), .fa 0 (.t 56), (some (48, false))⟩,
  ⟨(some 58), .ixaa 1 4 (.t 57) (.t 55), (some (48, false))⟩,
  ⟨(some 59), .ld false 1 (.t 58), (some (48, false))⟩,
  ⟨(some 60), .eq true .sc (.t 59) (.c (.i .i64 (-1))), (some (48, false))⟩,
  ⟨(some 61), .pick (.t 48) (.c (.b true)) (.t 60), none⟩,
  ⟨(some 36), .mv (.t 61), none⟩]
def F_grid_Grid_Join.r6 : List Oper := [
  ⟨(some 10), .mv (.c (.i .i64 9)), none⟩]
def F_grid_Grid_Join.r7 : List Oper := [
  ⟨(some 62), .mv (.t 0), none⟩,
  ⟨(some 63), .mv (.t 1), none⟩,
  ⟨(some 64), .mv (.t 2), none⟩,
  ⟨(some 65), .mv (.t 3), none⟩,
  ⟨(some 66), .mv (.t 4), none⟩,
  ⟨(some 67), .call (.c (.f 76 [])) [.t 62, .t 63, .t 64, .t 65, .t 66], none⟩]
def F_grid_Grid_Join.r8 : List Oper := [
  ⟨(some 10), .mv (.c (.i .i64 0)), none⟩]
def F_grid_Grid_Join.code : Code := .seq (.region F_grid_Grid_Join.r0) (.seq (.block 0 (.seq (.region F_grid_Grid_Join.r1) (.cond (.t 11) (.seq (.region F_grid_Grid_Join.r2) (.ret)) (.seq (.region F_grid_Grid_Join.r3) (.cond (.t 14) (.seq (.region F_grid_Grid_Join.r4) (.ret)) (.seq (.draw F_grid_Grid_Join.r5 [(15, 18)]) (.cond (.t 36) (.seq (.region F_grid_Grid_Join.r6) (.ret)) (.skip)))))))) (.seq (.region F_grid_Grid_Join.r7) (.seq (.region F_grid_Grid_Join.r8) (.ret))))
def F_grid_Grid_Join : Func := ⟨68, [.t 10], F_grid_Grid_Join.code⟩
/-! (*muntin/grid.Grid).Next -/
def F_grid_Grid_Next.r0 : List Oper := [
  ⟨(some 6), .mv (.c (.i .i64 0)), none⟩,
  ⟨(some 7), .mv (.c (.i .i64 0)), none⟩,
  ⟨(some 8), .mv (.c (.b false)), none⟩]
def F_grid_Grid_Next.r1 : List Oper := [
  ⟨(some 9), .mv (.t 0), none⟩,
  ⟨(some 10), .mv (.t 1), none⟩,
  ⟨(some 11), .mv (.t 2), none⟩,
  ⟨(some 12), .call (.c (.f 75 [])) [.t 9, .t 10, .t 11], none⟩,
  ⟨(some 13), .un .not (.t 12), none⟩,
  ⟨(some 14), .mv (.t 13), none⟩,
  ⟨(some 15), .mv (.t 0), (some (14, false))⟩,
  ⟨(some 16), .nilck (.t 15), (some (14, false))⟩,
  ⟨(some 17), .fa 0 (.t 16), (some (14, false))⟩,
  ⟨(some 18), .ld false 1 (.t 17), (some (14, false))⟩,
  ⟨(some 19), .mv (.t 1), (some (14, false))⟩,
  ⟨(some 20), .mv (.t 2), (some (14, false))⟩,
  ⟨(some 21), .ixa 8 (.t 18) (.t 19), (some (14, false))⟩,
  ⟨(some 22), .fa 0 (.t 21), (some (14, false))⟩,
  ⟨(some 23), .ixaa 1 4 (.t 22) (.t 20), (some (14, false))⟩,
  ⟨(some 24), .ld false 1 (.t 23), (some (14, false))⟩,
  ⟨(some 25), .eq false .sc (.t 24) (.c (.i .i64 (-1))), (some (14, false))⟩,
  ⟨(some 26), .pick (.t 14) (.c (.b true)) (.t 25), none⟩]
def F_grid_Grid_Next.r2 : List Oper := [
  ⟨(some 6), .mv (.c (.i .i64 0)), none⟩,
  ⟨(some 7), .mv (.c (.i .i64 0)), none⟩,
  ⟨(some 8), .mv (.c (.b false)), none⟩]
def F_grid_Grid_Next.r3 : List Oper := [
  ⟨(some 27), .mv (.t 0), none⟩,
  ⟨(some 28), .nilck (.t 27), none⟩,
  ⟨(some 29), .fa 0 (.t 28), none⟩,
  ⟨(some 30), .ld false 1 (.t 29), none⟩,
  ⟨(some 31), .mv (.t 1), none⟩,
  ⟨(some 32), .mv (.t 2), none⟩,
  ⟨(some 33), .ixa 8 (.t 30) (.t 31), none⟩,
  ⟨(some 34), .fa 0 (.t 33), none⟩,
  ⟨(some 35), .ixaa 1 4 (.t 34) (.t 32), none⟩,
  ⟨(some 36), .ld false 1 (.t 35), none⟩,
  ⟨(some 37), .mv (.t 0), none⟩,
  ⟨(some 38), .nilck (.t 37), none⟩,
  ⟨(some 39), .fa 0 (.t 38), none⟩,
  ⟨(some 40), .ld false 1 (.t 39), none⟩,
  ⟨(some 41), .mv (.t 1), none⟩,
  ⟨(some 42), .mv (.t 2), none⟩,
  ⟨(some 43), .ixa 8 (.t 40) (.t 41), none⟩,
  ⟨(some 44), .fa 4 (.t 43), none⟩,
  ⟨(some 45), .ixaa 1 4 (.t 44) (.t 42), none⟩,
  ⟨(some 46), .ld false 1 (.t 45), none⟩,
  ⟨(some 6), .mv (.t 36), none⟩,
  ⟨(some 7), .mv (.t 46), none⟩,
  ⟨(some 8), .mv (.c (.b true)), none⟩]
def F_grid_Grid_Next.code : Code := .seq (.region F_grid_Grid_Next.r0) (.seq (.seq (.region F_grid_Grid_Next.r1) (.cond (.t 26) (.seq (.region F_grid_Grid_Next.r2) (.ret)) (.skip))) (.seq (.draw F_grid_Grid_Next.r3 [(3, 13), (9, 13), (3, 19), (9, 19)]) (.ret)))
def F_grid_Grid_Next : Func := ⟨47, [.t 6, .t 7, .t 8], F_grid_Grid_Next.code⟩
/-! (*muntin/grid.Grid).Len -/
def F_grid_Grid_Len.r0 : List Oper := [
  ⟨(some 2), .mv (.c (.i .i64 0)), none⟩]
def F_grid_Grid_Len.r1 : List Oper := [
  ⟨(some 3), .mv (.t 0), none⟩,
  ⟨(some 4), .eq false .pt (.t 3) (.c (.pn)), none⟩]
def F_grid_Grid_Len.r2 : List Oper := [
  ⟨(some 2), .mv (.c (.i .i64 0)), none⟩]
def F_grid_Grid_Len.r3 : List Oper := [
  ⟨(some 5), .mv (.t 0), none⟩,
  ⟨(some 6), .nilck (.t 5), none⟩,
  ⟨(some 7), .fa 0 (.t 6), none⟩,
  ⟨(some 8), .ld false 1 (.t 7), none⟩,
  ⟨(some 9), .len (.t 8), none⟩,
  ⟨(some 2), .mv (.t 9), none⟩]
def F_grid_Grid_Len.code : Code := .seq (.region F_grid_Grid_Len.r0) (.seq (.seq (.region F_grid_Grid_Len.r1) (.cond (.t 4) (.seq (.region F_grid_Grid_Len.r2) (.ret)) (.skip))) (.seq (.region F_grid_Grid_Len.r3) (.ret)))
def F_grid_Grid_Len : Func := ⟨10, [.t 2], F_grid_Grid_Len.code⟩
/-! (*muntin/grid.Grid).Cells -/
def F_grid_Grid_Cells.r0 : List Oper := [
  ⟨(some 2), .mv (.c (.sn)), none⟩]
def F_grid_Grid_Cells.r1 : List Oper := [
  ⟨(some 3), .mv (.t 0), none⟩,
  ⟨(some 4), .eq false .pt (.t 3) (.c (.pn)), none⟩]
def F_grid_Grid_Cells.r2 : List Oper := [
  ⟨(some 2), .mv (.c (.sn)), none⟩]
def F_grid_Grid_Cells.r3 : List Oper := [
  ⟨(some 5), .mv (.t 0), none⟩,
  ⟨(some 6), .nilck (.t 5), none⟩,
  ⟨(some 7), .fa 0 (.t 6), none⟩,
  ⟨(some 8), .ld false 1 (.t 7), none⟩,
  ⟨(some 9), .call (.c (.f 51 [])) [.t 8], none⟩,
  ⟨(some 2), .mv (.t 9), none⟩]
def F_grid_Grid_Cells.code : Code := .seq (.region F_grid_Grid_Cells.r0) (.seq (.seq (.region F_grid_Grid_Cells.r1) (.cond (.t 4) (.seq (.region F_grid_Grid_Cells.r2) (.ret)) (.skip))) (.seq (.region F_grid_Grid_Cells.r3) (.ret)))
def F_grid_Grid_Cells : Func := ⟨10, [.t 2], F_grid_Grid_Cells.code⟩
/-! muntin/grid.Check -/
def F_grid_Check.r0 : List Oper := [
  ⟨(some 2), .mv (.c (.i .i64 0)), none⟩]
def F_grid_Check.r1 : List Oper := [
  ⟨(some 6), .mv (.t 0), none⟩,
  ⟨(some 7), .len (.t 6), none⟩,
  ⟨(some 8), .bin .gtr (.t 7) (.c (.i .i64 4096)), none⟩]
def F_grid_Check.r2 : List Oper := [
  ⟨(some 2), .mv (.c (.i .i64 6)), none⟩]
def F_grid_Check.r3 : List Oper := [
  ⟨(some 9), .mv (.t 0), none⟩,
  ⟨(some 10), .len (.t 9), none⟩,
  ⟨(some 11), .mv (.c (.i .i64 0)), none⟩]
def F_grid_Check.r4 : List Oper := [
  ⟨(some 12), .bin .lss (.t 11) (.t 10), none⟩]
def F_grid_Check.r5 : List Oper := [
  ⟨(some 13), .mv (.t 11), none⟩,
  ⟨(some 3), .mv (.t 13), none⟩]
def F_grid_Check.r6 : List Oper := [
  ⟨(some 14), .mv (.c (.i .i64 0)), none⟩]
def F_grid_Check.r7 : List Oper := [
  ⟨(some 15), .bin .lss (.t 14) (.c (.i .i64 4)), none⟩]
def F_grid_Check.r8 : List Oper := [
  ⟨(some 16), .mv (.t 14), none⟩,
  ⟨(some 4), .mv (.t 16), none⟩]
def F_grid_Check.r9 : List Oper := [
  ⟨(some 17), .mv (.t 0), none⟩,
  ⟨(some 18), .mv (.t 3), none⟩,
  ⟨(some 19), .mv (.t 4), none⟩,
  ⟨(some 20), .call (.c (.f 82 [])) [.t 17, .t 18, .t 19], none⟩,
  ⟨(some 5), .mv (.t 20), none⟩]
def F_grid_Check.r10 : List Oper := [
  ⟨(some 21), .mv (.t 5), none⟩,
  ⟨(some 22), .eq true .sc (.t 21) (.c (.i .i64 0)), none⟩]
def F_grid_Check.r11 : List Oper := [
  ⟨(some 23), .mv (.t 5), none⟩,
  ⟨(some 2), .mv (.t 23), none⟩]
def F_grid_Check.r12 : List Oper := [
  ⟨(some 24), .bin .add (.t 14) (.c (.i .i64 1)), none⟩,
  ⟨(some 14), .mv (.t 24), none⟩]
def F_grid_Check.l0 : Code := .seq (.region F_grid_Check.r7) (.seq (.cond (.t 15) (.skip) (.exit 2)) (.seq (.block 3 (.seq (.region F_grid_Check.r8) (.seq (.region F_grid_Check.r9) (.seq (.region F_grid_Check.r10) (.cond (.t 22) (.seq (.region F_grid_Check.r11) (.ret)) (.skip)))))) (.region F_grid_Check.r12)))
def F_grid_Check.r13 : List Oper := [
  ⟨(some 25), .bin .add (.t 11) (.c (.i .i64 1)), none⟩,
  ⟨(some 11), .mv (.t 25), none⟩]
def F_grid_Check.l1 : Code := .seq (.region F_grid_Check.r4) (.seq (.cond (.t 12) (.skip) (.exit 0)) (.seq (.block 1 (.seq (.region F_grid_Check.r5) (.seq (.region F_grid_Check.r6) (.block 2 (.loop F_grid_Check.l0))))) (.region F_grid_Check.r13)))
def F_grid_Check.r14 : List Oper := [
  ⟨(some 2), .mv (.c (.i .i64 0)), none⟩]
def F_grid_Check.code : Code := .seq (.region F_grid_Check.r0) (.seq (.seq (.region F_grid_Check.r1) (.cond (.t 8) (.seq (.region F_grid_Check.r2) (.ret)) (.skip))) (.seq (.seq (.region F_grid_Check.r3) (.block 0 (.loop F_grid_Check.l1))) (.seq (.region F_grid_Check.r14) (.ret))))
def F_grid_Check : Func := ⟨26, [.t 2], F_grid_Check.code⟩
/-! slices.Repeat[[]muntin/api.Cell,muntin/api.Cell] -/
def F_slices_Repeat_api_Cell.r0 : List Oper := [
  ⟨(some 4), .mv (.c (.sn)), none⟩]
def F_slices_Repeat_api_Cell.r1 : List Oper := [
  ⟨(some 9), .mv (.t 1), none⟩,
  ⟨(some 10), .bin .lss (.t 9) (.c (.i .i64 0)), none⟩]
def F_slices_Repeat_api_Cell.r2 : List Oper := [
  ⟨(some 11), .bad, none⟩,
  ⟨none, .bad, none⟩]
def F_slices_Repeat_api_Cell.r3 : List Oper := [
  ⟨(some 13), .mv (.t 0), none⟩,
  ⟨(some 14), .len (.t 13), none⟩,
  ⟨(some 15), .conv .u64 (.t 14), none⟩,
  ⟨(some 16), .mv (.t 1), none⟩,
  ⟨(some 17), .conv .u64 (.t 16), none⟩,
  ⟨(some 18), .call (.c (.f 89 [])) [.t 15, .t 17], none⟩,
  ⟨(some 12), .mv (.t 18), none⟩,
  ⟨(some 19), .ext (.t 12) 0, none⟩,
  ⟨(some 20), .ext (.t 12) 1, none⟩,
  ⟨(some 5), .mv (.t 19), none⟩,
  ⟨(some 6), .mv (.t 20), none⟩]
def F_slices_Repeat_api_Cell.r4 : List Oper := [
  ⟨(some 21), .mv (.t 5), none⟩,
  ⟨(some 22), .bin .gtr (.t 21) (.c (.i .u64 0)), none⟩,
  ⟨(some 23), .mv (.t 22), none⟩,
  ⟨(some 24), .mv (.t 6), (some (23, false))⟩,
  ⟨(some 25), .bin .gtr (.t 24) (.c (.i .u64 9223372036854775807)), (some (23, false))⟩,
  ⟨(some 26), .pick (.t 23) (.c (.b true)) (.t 25), none⟩]
def F_slices_Repeat_api_Cell.r5 : List Oper := [
  ⟨(some 27), .bad, none⟩,
  ⟨none, .bad, none⟩]
def F_slices_Repeat_api_Cell.r6 : List Oper := [
  ⟨(some 28), .mv (.t 6), none⟩,
  ⟨(some 29), .conv .i64 (.t 28), none⟩,
  ⟨(some 30), .mks 8 64 [.i .i64 0, .i .i64 0, .i .i64 0, .i .i64 0, .i .i64 0, .i .i64 0, .i .i64 0, .i .i64 0] (.t 29) (.t 29), none⟩,
  ⟨(some 7), .mv (.t 30), none⟩]
def F_slices_Repeat_api_Cell.r7 : List Oper := [
  ⟨(some 31), .mv (.t 7), none⟩,
  ⟨(some 32), .mv (.t 0), none⟩,
  ⟨(some 33), .cpy 8 (.t 31) (.t 32), none⟩,
  ⟨(some 8), .mv (.t 33), none⟩]
def F_slices_Repeat_api_Cell.r8 : List Oper := [
  ⟨(some 34), .mv (.t 8), none⟩,
  ⟨(some 35), .mv (.t 7), none⟩,
  ⟨(some 36), .len (.t 35), none⟩,
  ⟨(some 37), .bin .lss (.t 34) (.t 36), none⟩]
def F_slices_Repeat_api_Cell.r9 : List Oper := [
  ⟨(some 38), .mv (.t 8), none⟩,
  ⟨(some 39), .mv (.t 7), none⟩,
  ⟨(some 40), .mv (.t 8), none⟩,
  ⟨(some 41), .slc 8 (.t 39) (some (.t 40)) none none, none⟩,
  ⟨(some 42), .mv (.t 7), none⟩,
  ⟨(some 43), .mv (.t 8), none⟩,
  ⟨(some 44), .slc 8 (.t 42) none (some (.t 43)) none, none⟩,
  ⟨(some 45), .cpy 8 (.t 41) (.t 44), none⟩,
  ⟨(some 46), .bin .add (.t 38) (.t 45), none⟩,
  ⟨(some 8), .mv (.t 46), none⟩]
def F_slices_Repeat_api_Cell.l0 : Code := .seq (.seq (.region F_slices_Repeat_api_Cell.r8) (.cond (.t 37) (.skip) (.exit 0))) (.block 1 (.draw F_slices_Repeat_api_Cell.r9 []))
def F_slices_Repeat_api_Cell.r10 : List Oper := [
  ⟨(some 47), .mv (.t 7), none⟩,
  ⟨(some 4), .mv (.t 47), none⟩]
def F_slices_Repeat_api_Cell.code : Code := .seq (.region F_slices_Repeat_api_Cell.r0) (.seq (.seq (.region F_slices_Repeat_api_Cell.r1) (.cond (.t 10) (.region F_slices_Repeat_api_Cell.r2) (.skip))) (.seq (.region F_slices_Repeat_api_Cell.r3) (.seq (.seq (.region F_slices_Repeat_api_Cell.r4) (.cond (.t 26) (.region F_slices_Repeat_api_Cell.r5) (.skip))) (.seq (.region F_slices_Repeat_api_Cell.r6) (.seq (.region F_slices_Repeat_api_Cell.r7) (.seq (.block 0 (.loop F_slices_Repeat_api_Cell.l0)) (.seq (.region F_slices_Repeat_api_Cell.r10) (.ret))))))))
def F_slices_Repeat_api_Cell : Func := ⟨48, [.t 4], F_slices_Repeat_api_Cell.code⟩
/-! muntin/grid.empty -/
def F_grid_empty.r0 : List Oper := [
  ⟨(some 0), .alloc [.i .i64 0, .i .i64 0, .i .i64 0, .i .i64 0, .i .i64 0, .i .i64 0, .i .i64 0, .i .i64 0], none⟩]
def F_grid_empty.r1 : List Oper := [
  ⟨(some 1), .build [.i .i64 0, .i .i64 0, .i .i64 0, .i .i64 0] [(0, 1, .c (.i .i64 (-1))), (1, 1, .c (.i .i64 (-1))), (2, 1, .c (.i .i64 (-1))), (3, 1, .c (.i .i64 (-1)))], none⟩,
  ⟨(some 2), .build [.i .i64 0, .i .i64 0, .i .i64 0, .i .i64 0, .i .i64 0, .i .i64 0, .i .i64 0, .i .i64 0] [(0, 4, .t 1)], none⟩,
  ⟨none, .st 8 (.t 0) (.t 2), none⟩]
def F_grid_empty.code : Code := .seq (.region F_grid_empty.r0) (.seq (.region F_grid_empty.r1) (.ret))
def F_grid_empty : Func := ⟨3, [.cell 0 true 8], F_grid_empty.code⟩
/-! (*muntin/grid.Grid).is -/
def F_grid_Grid_is.r0 : List Oper := [
  ⟨(some 6), .mv (.c (.b false)), none⟩]
def F_grid_Grid_is.r1 : List Oper := [
  ⟨(some 7), .mv (.t 1), none⟩,
  ⟨(some 8), .bin .geq (.t 7) (.c (.i .i64 0)), none⟩,
  ⟨(some 9), .mv (.t 8), none⟩,
  ⟨(some 10), .mv (.t 1), (some (9, true))⟩,
  ⟨(some 11), .mv (.t 0), (some (9, true))⟩,
  ⟨(some 12), .call (.c (.f 55 [])) [.t 11], (some (9, true))⟩,
  ⟨(some 13), .bin .lss (.t 10) (.t 12), (some (9, true))⟩,
  ⟨(some 14), .pick (.t 9) (.t 13) (.c (.b false)), none⟩,
  ⟨(some 15), .mv (.t 14), none⟩,
  ⟨(some 16), .mv (.t 2), (some (15, true))⟩,
  ⟨(some 17), .call (.c (.f 90 [])) [.t 16], (some (15, true))⟩,
  ⟨(some 18), .pick (.t 15) (.t 17) (.c (.b false)), none⟩,
  ⟨(some 6), .mv (.t 18), none⟩]
def F_grid_Grid_is.code : Code := .seq (.region F_grid_Grid_is.r0) (.seq (.region F_grid_Grid_is.r1) (.ret))
def F_grid_Grid_is : Func := ⟨19, [.t 6], F_grid_Grid_is.code⟩
/-! (*muntin/grid.Grid).lay -/
def F_grid_Grid_lay.r0 : List Oper := [
  ⟨(some 11), .mv (.t 2), none⟩,
  ⟨(some 12), .call (.c (.f 77 [])) [.t 11, .c (.i .i64 2)], none⟩,
  ⟨(some 10), .mv (.t 12), none⟩]
def F_grid_Grid_lay.r1 : List Oper := [
  ⟨(some 13), .mv (.t 0), none⟩,
  ⟨(some 14), .nilck (.t 13), none⟩,
  ⟨(some 15), .fa 0 (.t 14), none⟩,
  ⟨(some 16), .ld false 1 (.t 15), none⟩,
  ⟨(some 17), .mv (.t 1), none⟩,
  ⟨(some 18), .mv (.t 2), none⟩,
  ⟨(some 19), .mv (.t 0), none⟩,
  ⟨(some 20), .nilck (.t 19), none⟩,
  ⟨(some 21), .fa 0 (.t 20), none⟩,
  ⟨(some 22), .ld false 1 (.t 21), none⟩,
  ⟨(some 23), .mv (.t 1), none⟩,
  ⟨(some 24), .mv (.t 2), none⟩,
  ⟨(some 25), .mv (.t 3), none⟩,
  ⟨(some 26), .mv (.t 4), none⟩,
  ⟨(some 27), .ixa 8 (.t 16) (.t 17), none⟩,
  ⟨(some 28), .fa 0 (.t 27), none⟩,
  ⟨(some 29), .ixaa 1 4 (.t 28) (.t 18), none⟩,
  ⟨none, .st 1 (.t 29) (.t 25), none⟩,
  ⟨(some 30), .ixa 8 (.t 22) (.t 23), none⟩,
  ⟨(some 31), .fa 4 (.t 30), none⟩,
  ⟨(some 32), .ixaa 1 4 (.t 31) (.t 24), none⟩,
  ⟨none, .st 1 (.t 32) (.t 26), none⟩]
def F_grid_Grid_lay.r2 : List Oper := [
  ⟨(some 33), .mv (.t 0), none⟩,
  ⟨(some 34), .nilck (.t 33), none⟩,
  ⟨(some 35), .fa 0 (.t 34), none⟩,
  ⟨(some 36), .ld false 1 (.t 35), none⟩,
  ⟨(some 37), .mv (.t 3), none⟩,
  ⟨(some 38), .mv (.t 10), none⟩,
  ⟨(some 39), .mv (.t 0), none⟩,
  ⟨(some 40), .nilck (.t 39), none⟩,
  ⟨(some 41), .fa 0 (.t 40), none⟩,
  ⟨(some 42), .ld false 1 (.t 41), none⟩,
  ⟨(some 43), .mv (.t 3), none⟩,
  ⟨(some 44), .mv (.t 10), none⟩,
  ⟨(some 45), .mv (.t 1), none⟩,
  ⟨(some 46), .mv (.t 4), none⟩,
  ⟨(some 47), .ixa 8 (.t 36) (.t 37), none⟩,
  ⟨(some 48), .fa 0 (.t 47), none⟩,
  ⟨(some 49), .ixaa 1 4 (.t 48) (.t 38), none⟩,
  ⟨none, .st 1 (.t 49) (.t 45), none⟩,
  ⟨(some 50), .ixa 8 (.t 42) (.t 43), none⟩,
  ⟨(some 51), .fa 4 (.t 50), none⟩,
  ⟨(some 52), .ixaa 1 4 (.t 51) (.t 44), none⟩,
  ⟨none, .st 1 (.t 52) (.t 46), none⟩]
def F_grid_Grid_lay.code : Code := .seq (.region F_grid_Grid_lay.r0) (.seq (.draw F_grid_Grid_lay.r1 [(3, 9)]) (.draw F_grid_Grid_lay.r2 [(3, 9)]))
def F_grid_Grid_lay : Func := ⟨53, [], F_grid_Grid_lay.code⟩
/-! muntin/compass.Left -/
def F_compass_Left.r0 : List Oper := [
  ⟨(some 4), .mv (.c (.i .i64 0)), none⟩]
def F_compass_Left.r1 : List Oper := [
  ⟨(some 5), .mv (.t 0), none⟩,
  ⟨(some 6), .call (.c (.f 90 [])) [.t 5], none⟩,
  ⟨(some 7), .un .not (.t 6), none⟩]
def F_compass_Left.r2 : List Oper := [
  ⟨(some 4), .mv (.c (.i .i64 0)), none⟩]
def F_compass_Left.r3 : List Oper := [
  ⟨(some 8), .mv (.t 0), none⟩,
  ⟨(some 9), .mv (.t 1), none⟩,
  ⟨(some 10), .bin .rem (.t 9) (.c (.i .i64 4)), none⟩,
  ⟨(some 11), .bin .add (.t 8) (.t 10), none⟩,
  ⟨(some 12), .bin .add (.t 11) (.c (.i .i64 4)), none⟩,
  ⟨(some 13), .bin .rem (.t 12) (.c (.i .i64 4)), none⟩,
  ⟨(some 4), .mv (.t 13), none⟩]
def F_compass_Left.code : Code := .seq (.region F_compass_Left.r0) (.seq (.seq (.region F_compass_Left.r1) (.cond (.t 7) (.seq (.region F_compass_Left.r2) (.ret)) (.skip))) (.seq (.region F_compass_Left.r3) (.ret)))
def F_compass_Left : Func := ⟨14, [.t 4], F_compass_Left.code⟩
/-! muntin/grid.side -/
def F_grid_side.r0 : List Oper := [
  ⟨(some 6), .mv (.c (.i .i64 0)), none⟩]
def F_grid_side.r1 : List Oper := [
  ⟨(some 10), .mv (.t 0), none⟩,
  ⟨(some 11), .mv (.t 1), none⟩,
  ⟨(some 12), .mv (.t 2), none⟩,
  ⟨(some 13), .ixa 8 (.t 10) (.t 11), none⟩,
  ⟨(some 14), .fa 0 (.t 13), none⟩,
  ⟨(some 15), .ixaa 1 4 (.t 14) (.t 12), none⟩,
  ⟨(some 16), .ld false 1 (.t 15), none⟩,
  ⟨(some 17), .mv (.t 0), none⟩,
  ⟨(some 18), .mv (.t 1), none⟩,
  ⟨(some 19), .mv (.t 2), none⟩,
  ⟨(some 20), .ixa 8 (.t 17) (.t 18), none⟩,
  ⟨(some 21), .fa 4 (.t 20), none⟩,
  ⟨(some 22), .ixaa 1 4 (.t 21) (.t 19), none⟩,
  ⟨(some 23), .ld false 1 (.t 22), none⟩,
  ⟨(some 7), .mv (.t 16), none⟩,
  ⟨(some 8), .mv (.t 23), none⟩]
def F_grid_side.r2 : List Oper := [
  ⟨(some 24), .mv (.t 7), none⟩,
  ⟨(some 25), .eq false .sc (.t 24) (.c (.i .i64 (-1))), none⟩]
def F_grid_side.r3 : List Oper := [
  ⟨(some 26), .mv (.t 8), none⟩,
  ⟨(some 27), .eq true .sc (.t 26) (.c (.i .i64 0)), none⟩]
def F_grid_side.r4 : List Oper := [
  ⟨(some 6), .mv (.c (.i .i64 9)), none⟩]
def F_grid_side.r5 : List Oper := [
  ⟨(some 6), .mv (.c (.i .i64 0)), none⟩]
def F_grid_side.r6 : List Oper := [
  ⟨(some 28), .mv (.t 7), none⟩,
  ⟨(some 29), .bin .lss (.t 28) (.c (.i .i64 0)), none⟩,
  ⟨(some 30), .mv (.t 29), none⟩,
  ⟨(some 31), .mv (.t 7), (some (30, false))⟩,
  ⟨(some 32), .mv (.t 0), (some (30, false))⟩,
  ⟨(some 33), .len (.t 32), (some (30, false))⟩,
  ⟨(some 34), .bin .geq (.t 31) (.t 33), (some (30, false))⟩,
  ⟨(some 35), .pick (.t 30) (.c (.b true)) (.t 34), none⟩,
  ⟨(some 36), .mv (.t 35), none⟩,
  ⟨(some 37), .mv (.t 7), (some (36, false))⟩,
  ⟨(some 38), .mv (.t 1), (some (36, false))⟩,
  ⟨(some 39), .eq false .sc (.t 37) (.t 38), (some (36, false))⟩,
  ⟨(some 40), .pick (.t 36) (.c (.b true)) (.t 39), none⟩]
def F_grid_side.r7 : List Oper := [
  ⟨(some 6), .mv (.c (.i .i64 3)), none⟩]
def F_grid_side.r8 : List Oper := [
  ⟨(some 41), .mv (.t 2), none⟩,
  ⟨(some 42), .call (.c (.f 77 [])) [.t 41, .c (.i .i64 2)], none⟩,
  ⟨(some 9), .mv (.t 42), none⟩]
def F_grid_side.r9 : List Oper := [
  ⟨(some 43), .mv (.t 0), none⟩,
  ⟨(some 44), .mv (.t 7), none⟩,
  ⟨(some 45), .mv (.t 9), none⟩,
  ⟨(some 46), .ixa 8 (.t 43) (.t 44), none⟩,
  ⟨(some 47), .fa 0 (.t 46), none⟩,
  ⟨(some 48), .ixaa 1 4 (.t 47) (.t 45), none⟩,
  ⟨(some 49), .ld false 1 (.t 48), none⟩,
  ⟨(some 50), .mv (.t 1), none⟩,
  ⟨(some 51), .eq true .sc (.t 49) (.t 50), none⟩,
  ⟨(some 52), .mv (.t 51), none⟩,
  ⟨(some 53), .mv (.t 0), (some (52, false))⟩,
  ⟨(some 54), .mv (.t 7), (some (52, false))⟩,
  ⟨(some 55), .mv (.t 9), (some (52, false))⟩,
  ⟨(some 56), .ixa 8 (.t 53) (.t 54), (some (52, false))⟩,
  ⟨(some 57), .fa 4 (.t 56), (some (52, false))⟩,
  ⟨(some 58), .ixaa 1 4 (.t 57) (.t 55), (some (52, false))⟩,
  ⟨(some 59), .ld false 1 (.t 58), (some (52, false))⟩,
  ⟨(some 60), .mv (.t 8), (some (52, false))⟩,
  ⟨(some 61), .eq true .sc (.t 59) (.t 60), (some (52, false))⟩,
  ⟨(some 62), .pick (.t 52) (.c (.b true)) (.t 61), none⟩,
  ⟨(some 63), .mv (.t 62), none⟩,
  ⟨(some 64), .mv (.t 8), (some (63, false))⟩,
  ⟨(some 65), .bin .lss (.t 64) (.c (.i .i64 (-2))), (some (63, false))⟩,
  ⟨(some 66), .pick (.t 63) (.c (.b true)) (.t 65), none⟩]
def F_grid_side.r10 : List Oper := [
  ⟨(some 6), .mv (.c (.i .i64 9)), none⟩]
def F_grid_side.r11 : List Oper := [
  ⟨(some 6), .mv (.c (.i .i64 0)), none⟩]
def F_grid_side.code : Code := .seq (.region F_grid_side.r0) (.seq (.draw F_grid_side.r1 [(6, 13)]) (.seq (.seq (.region F_grid_side.r2) (.cond (.t 25) (.seq (.seq (.region F_grid_side.r3) (.cond (.t 27) (.seq (.region F_grid_side.r4) (.ret)) (.skip))) (.seq (.region F_grid_side.r5) (.ret))) (.skip))) (.seq (.seq (.region F_grid_side.r6) (.cond (.t 40) (.seq (.region F_grid_side.r7) (.ret)) (.skip))) (.seq (.region F_grid_side.r8) (.seq (.seq (.region F_grid_side.r9) (.cond (.t 66) (.seq (.region F_grid_side.r10) (.ret)) (.skip))) (.seq (.region F_grid_side.r11) (.ret)))))))
def F_grid_side : Func := ⟨67, [.t 6], F_grid_side.code⟩
/-! math/bits.Mul -/
def F_bits_Mul.r0 : List Oper := [
  ⟨(some 4), .mv (.c (.i .u64 0)), none⟩,
  ⟨(some 5), .mv (.c (.i .u64 0)), none⟩]
def F_bits_Mul.r1 : List Oper := [
  ⟨(some 11), .mv (.t 0), none⟩,
  ⟨(some 12), .conv .u32 (.t 11), none⟩,
  ⟨(some 13), .mv (.t 1), none⟩,
  ⟨(some 14), .conv .u32 (.t 13), none⟩,
  ⟨(some 15), .call (.c (.f 97 [])) [.t 12, .t 14], none⟩,
  ⟨(some 10), .mv (.t 15), none⟩,
  ⟨(some 16), .ext (.t 10) 0, none⟩,
  ⟨(some 17), .ext (.t 10) 1, none⟩,
  ⟨(some 6), .mv (.t 16), none⟩,
  ⟨(some 7), .mv (.t 17), none⟩]
def F_bits_Mul.r2 : List Oper := [
  ⟨(some 18), .mv (.t 6), none⟩,
  ⟨(some 19), .conv .u64 (.t 18), none⟩,
  ⟨(some 20), .mv (.t 7), none⟩,
  ⟨(some 21), .conv .u64 (.t 20), none⟩,
  ⟨(some 4), .mv (.t 19), none⟩,
  ⟨(some 5), .mv (.t 21), none⟩]
def F_bits_Mul.r3 : List Oper := [
  ⟨(some 23), .mv (.t 0), none⟩,
  ⟨(some 24), .mv (.t 1), none⟩,
  ⟨(some 25), .call (.c (.f 98 [])) [.t 23, .t 24], none⟩,
  ⟨(some 22), .mv (.t 25), none⟩,
  ⟨(some 26), .ext (.t 22) 0, none⟩,
  ⟨(some 27), .ext (.t 22) 1, none⟩,
  ⟨(some 8), .mv (.t 26), none⟩,
  ⟨(some 9), .mv (.t 27), none⟩]
def F_bits_Mul.r4 : List Oper := [
  ⟨(some 28), .mv (.t 8), none⟩,
  ⟨(some 29), .mv (.t 9), none⟩,
  ⟨(some 4), .mv (.t 28), none⟩,
  ⟨(some 5), .mv (.t 29), none⟩]
def F_bits_Mul.code : Code := .seq (.region F_bits_Mul.r0) (.seq (.cond (.c (.b false)) (.seq (.region F_bits_Mul.r1) (.seq (.region F_bits_Mul.r2) (.ret))) (.skip)) (.seq (.region F_bits_Mul.r3) (.seq (.region F_bits_Mul.r4) (.ret))))
def F_bits_Mul : Func := ⟨30, [.t 4, .t 5], F_bits_Mul.code⟩
/-! muntin/compass.Good -/
def F_compass_Good.r0 : List Oper := [
  ⟨(some 2), .mv (.c (.b false)), none⟩]
def F_compass_Good.r1 : List Oper := [
  ⟨(some 3), .mv (.t 0), none⟩,
  ⟨(some 4), .bin .geq (.t 3) (.c (.i .i64 0)), none⟩,
  ⟨(some 5), .mv (.t 4), none⟩,
  ⟨(some 6), .mv (.t 0), (some (5, true))⟩,
  ⟨(some 7), .bin .leq (.t 6) (.c (.i .i64 3)), (some (5, true))⟩,
  ⟨(some 8), .pick (.t 5) (.t 7) (.c (.b false)), none⟩,
  ⟨(some 2), .mv (.t 8), none⟩]
def F_compass_Good.code : Code := .seq (.region F_compass_Good.r0) (.seq (.region F_compass_Good.r1) (.ret))
def F_compass_Good : Func := ⟨9, [.t 2], F_compass_Good.code⟩
/-! math/bits.Mul32 -/
def F_bits_Mul32.r0 : List Oper := [
  ⟨(some 4), .mv (.c (.i .u32 0)), none⟩,
  ⟨(some 5), .mv (.c (.i .u32 0)), none⟩]
def F_bits_Mul32.r1 : List Oper := [
  ⟨(some 7), .mv (.t 0), none⟩,
  ⟨(some 8), .conv .u64 (.t 7), none⟩,
  ⟨(some 9), .mv (.t 1), none⟩,
  ⟨(some 10), .conv .u64 (.t 9), none⟩,
  ⟨(some 11), .bin .mul (.t 8) (.t 10), none⟩,
  ⟨(some 6), .mv (.t 11), none⟩]
def F_bits_Mul32.r2 : List Oper := [
  ⟨(some 12), .mv (.t 6), none⟩,
  ⟨(some 13), .bin .shr (.t 12) (.c (.i .u64 32)), none⟩,
  ⟨(some 14), .conv .u32 (.t 13), none⟩,
  ⟨(some 15), .mv (.t 6), none⟩,
  ⟨(some 16), .conv .u32 (.t 15), none⟩,
  ⟨(some 4), .mv (.t 14), none⟩,
  ⟨(some 5), .mv (.t 16), none⟩]
def F_bits_Mul32.code : Code := .seq (.region F_bits_Mul32.r0) (.seq (.region F_bits_Mul32.r1) (.seq (.region F_bits_Mul32.r2) (.ret)))
def F_bits_Mul32 : Func := ⟨17, [.t 4, .t 5], F_bits_Mul32.code⟩
/-! math/bits.Mul64 -/
def F_bits_Mul64.r0 : List Oper := [
  ⟨(some 4), .mv (.c (.i .u64 0)), none⟩,
  ⟨(some 5), .mv (.c (.i .u64 0)), none⟩]
def F_bits_Mul64.r1 : List Oper := [
  ⟨(some 14), .mv (.t 0), none⟩,
  ⟨(some 15), .bin .and (.t 14) (.c (.i .u64 4294967295)), none⟩,
  ⟨(some 6), .mv (.t 15), none⟩]
def F_bits_Mul64.r2 : List Oper := [
  ⟨(some 16), .mv (.t 0), none⟩,
  ⟨(some 17), .bin .shr (.t 16) (.c (.i .u64 32)), none⟩,
  ⟨(some 7), .mv (.t 17), none⟩]
def F_bits_Mul64.r3 : List Oper := [
  ⟨(some 18), .mv (.t 1), none⟩,
  ⟨(some 19), .bin .and (.t 18) (.c (.i .u64 4294967295)), none⟩,
  ⟨(some 8), .mv (.t 19), none⟩]
def F_bits_Mul64.r4 : List Oper := [
  ⟨(some 20), .mv (.t 1), none⟩,
  ⟨(some 21), .bin .shr (.t 20) (.c (.i .u64 32)), none⟩,
  ⟨(some 9), .mv (.t 21), none⟩]
def F_bits_Mul64.r5 : List Oper := [
  ⟨(some 22), .mv (.t 6), none⟩,
  ⟨(some 23), .mv (.t 8), none⟩,
  ⟨(some 24), .bin .mul (.t 22) (.t 23), none⟩,
  ⟨(some 10), .mv (.t 24), none⟩]
def F_bits_Mul64.r6 : List Oper := [
  ⟨(some 25), .mv (.t 7), none⟩,
  ⟨(some 26), .mv (.t 8), none⟩,
  ⟨(some 27), .bin .mul (.t 25) (.t 26), none⟩,
  ⟨(some 28), .mv (.t 10), none⟩,
  ⟨(some 29), .bin .shr (.t 28) (.c (.i .u64 32)), none⟩,
  ⟨(some 30), .bin .add (.t 27) (.t 29), none⟩,
  ⟨(some 11), .mv (.t 30), none⟩]
def F_bits_Mul64.r7 : List Oper := [
  ⟨(some 31), .mv (.t 11), none⟩,
  ⟨(some 32), .bin .and (.t 31) (.c (.i .u64 4294967295)), none⟩,
  ⟨(some 12), .mv (.t 32), none⟩]
def F_bits_Mul64.r8 : List Oper := [
  ⟨(some 33), .mv (.t 11), none⟩,
  ⟨(some 34), .bin .shr (.t 33) (.c (.i .u64 32)), none⟩,
  ⟨(some 13), .mv (.t 34), none⟩]
def F_bits_Mul64.r9 : List Oper := [
  ⟨(some 35), .mv (.t 12), none⟩,
  ⟨(some 36), .mv (.t 6), none⟩,
  ⟨(some 37), .mv (.t 9), none⟩,
  ⟨(some 38), .bin .mul (.t 36) (.t 37), none⟩,
  ⟨(some 39), .bin .add (.t 35) (.t 38), none⟩,
  ⟨(some 12), .mv (.t 39), none⟩]
def F_bits_Mul64.r10 : List Oper := [
  ⟨(some 40), .mv (.t 7), none⟩,
  ⟨(some 41), .mv (.t 9), none⟩,
  ⟨(some 42), .bin .mul (.t 40) (.t 41), none⟩,
  ⟨(some 43), .mv (.t 13), none⟩,
  ⟨(some 44), .bin .add (.t 42) (.t 43), none⟩,
  ⟨(some 45), .mv (.t 12), none⟩,
  ⟨(some 46), .bin .shr (.t 45) (.c (.i .u64 32)), none⟩,
  ⟨(some 47), .bin .add (.t 44) (.t 46), none⟩,
  ⟨(some 4), .mv (.t 47), none⟩]
def F_bits_Mul64.r11 : List Oper := [
  ⟨(some 48), .mv (.t 0), none⟩,
  ⟨(some 49), .mv (.t 1), none⟩,
  ⟨(some 50), .bin .mul (.t 48) (.t 49), none⟩,
  ⟨(some 5), .mv (.t 50), none⟩]
def F_bits_Mul64.code : Code := .seq (.region F_bits_Mul64.r0) (.seq (.region F_bits_Mul64.r1) (.seq (.region F_bits_Mul64.r2) (.seq (.region F_bits_Mul64.r3) (.seq (.region F_bits_Mul64.r4) (.seq (.region F_bits_Mul64.r5) (.seq (.region F_bits_Mul64.r6) (.seq (.region F_bits_Mul64.r7) (.seq (.region F_bits_Mul64.r8) (.seq (.region F_bits_Mul64.r9) (.seq (.region F_bits_Mul64.r10) (.seq (.region F_bits_Mul64.r11) (.ret))))))))))))
def F_bits_Mul64 : Func := ⟨51, [.t 4, .t 5], F_bits_Mul64.code⟩
/-! muntin/muntinlaw10.GridNil -/
def F_muntinlaw10_GridNil.r0 : List Oper := [
  ⟨(some 6), .mv (.c (.b false)), none⟩]
def F_muntinlaw10_GridNil.r1 : List Oper := [
  ⟨(some 7), .mv (.c (.pn)), none⟩]
def F_muntinlaw10_GridNil.r2 : List Oper := [
  ⟨(some 26), .mv (.t 7), none⟩,
  ⟨(some 27), .mv (.t 0), none⟩,
  ⟨(some 28), .mv (.t 1), none⟩,
  ⟨(some 29), .call (.c (.f 54 [])) [.t 26, .t 27, .t 28], none⟩,
  ⟨(some 25), .mv (.t 29), none⟩,
  ⟨(some 30), .ext (.t 25) 0, none⟩,
  ⟨(some 31), .ext (.t 25) 1, none⟩,
  ⟨(some 32), .ext (.t 25) 2, none⟩,
  ⟨(some 8), .mv (.t 30), none⟩,
  ⟨(some 9), .mv (.t 31), none⟩,
  ⟨(some 10), .mv (.t 32), none⟩]
def F_muntinlaw10_GridNil.r3 : List Oper := [
  ⟨(some 34), .mv (.t 7), none⟩,
  ⟨(some 35), .call (.c (.f 50 [])) [.t 34], none⟩,
  ⟨(some 33), .mv (.t 35), none⟩,
  ⟨(some 36), .ext (.t 33) 0, none⟩,
  ⟨(some 37), .ext (.t 33) 1, none⟩,
  ⟨(some 11), .mv (.t 36), none⟩,
  ⟨(some 12), .mv (.t 37), none⟩]
def F_muntinlaw10_GridNil.r4 : List Oper := [
  ⟨(some 39), .mv (.t 7), none⟩,
  ⟨(some 40), .mv (.t 0), none⟩,
  ⟨(some 41), .mv (.t 1), none⟩,
  ⟨(some 42), .call (.c (.f 48 [])) [.t 39, .t 40, .t 41], none⟩,
  ⟨(some 38), .mv (.t 42), none⟩,
  ⟨(some 43), .ext (.t 38) 0, none⟩,
  ⟨(some 44), .ext (.t 38) 1, none⟩,
  ⟨(some 13), .mv (.t 43), none⟩,
  ⟨(some 14), .mv (.t 44), none⟩]
def F_muntinlaw10_GridNil.r5 : List Oper := [
  ⟨(some 45), .mv (.t 2), none⟩,
  ⟨(some 46), .mx [.c (.i .i64 0), .t 45], none⟩,
  ⟨(some 47), .bin .rem (.t 46) (.c (.i .i64 4)), none⟩,
  ⟨(some 15), .mv (.t 47), none⟩]
def F_muntinlaw10_GridNil.r6 : List Oper := [
  ⟨(some 49), .mv (.t 15), none⟩,
  ⟨(some 50), .bin .sub (.c (.i .i64 4096)) (.t 49), none⟩,
  ⟨(some 51), .call (.c (.f 45 [])) [.t 50], none⟩,
  ⟨(some 48), .mv (.t 51), none⟩,
  ⟨(some 52), .ext (.t 48) 0, none⟩,
  ⟨(some 53), .ext (.t 48) 1, none⟩,
  ⟨(some 16), .mv (.t 52), none⟩,
  ⟨(some 17), .mv (.t 53), none⟩]
def F_muntinlaw10_GridNil.r7 : List Oper := [
  ⟨(some 54), .mv (.t 15), none⟩,
  ⟨(some 55), .mv (.c (.i .i64 0)), none⟩]
def F_muntinlaw10_GridNil.r8 : List Oper := [
  ⟨(some 56), .bin .lss (.t 55) (.t 54), none⟩]
def F_muntinlaw10_GridNil.r9 : List Oper := [
  ⟨(some 57), .mv (.t 16), none⟩,
  ⟨(some 58), .call (.c (.f 50 [])) [.t 57], none⟩]
def F_muntinlaw10_GridNil.r10 : List Oper := [
  ⟨(some 59), .bin .add (.t 55) (.c (.i .i64 1)), none⟩,
  ⟨(some 55), .mv (.t 59), none⟩]
def F_muntinlaw10_GridNil.l0 : Code := .seq (.region F_muntinlaw10_GridNil.r8) (.seq (.cond (.t 56) (.skip) (.exit 0)) (.seq (.block 1 (.region F_muntinlaw10_GridNil.r9)) (.region F_muntinlaw10_GridNil.r10)))
def F_muntinlaw10_GridNil.r11 : List Oper := [
  ⟨(some 61), .mv (.t 16), none⟩,
  ⟨(some 62), .call (.c (.f 50 [])) [.t 61], none⟩,
  ⟨(some 60), .mv (.t 62), none⟩,
  ⟨(some 63), .ext (.t 60) 0, none⟩,
  ⟨(some 64), .ext (.t 60) 1, none⟩,
  ⟨(some 18), .mv (.t 63), none⟩,
  ⟨(some 19), .mv (.t 64), none⟩]
def F_muntinlaw10_GridNil.r12 : List Oper := [
  ⟨(some 66), .mv (.t 2), none⟩,
  ⟨(some 67), .mx [.c (.i .i64 0), .t 66], none⟩,
  ⟨(some 68), .bin .rem (.t 67) (.c (.i .i64 9)), none⟩,
  ⟨(some 69), .bin .add (.c (.i .i64 4097)) (.t 68), none⟩,
  ⟨(some 70), .call (.c (.f 45 [])) [.t 69], none⟩,
  ⟨(some 65), .mv (.t 70), none⟩,
  ⟨(some 71), .ext (.t 65) 0, none⟩,
  ⟨(some 72), .ext (.t 65) 1, none⟩,
  ⟨(some 20), .mv (.t 71), none⟩,
  ⟨(some 21), .mv (.t 72), none⟩]
def F_muntinlaw10_GridNil.r13 : List Oper := [
  ⟨(some 73), .mv (.t 16), none⟩,
  ⟨(some 74), .call (.c (.f 52 [])) [.t 73, .c (.i .i64 0), .c (.i .i64 0), .c (.i .i64 1), .c (.i .i64 3)], none⟩,
  ⟨(some 22), .mv (.t 74), none⟩]
def F_muntinlaw10_GridNil.r14 : List Oper := [
  ⟨(some 76), .mv (.t 16), none⟩,
  ⟨(some 77), .call (.c (.f 48 [])) [.t 76, .c (.i .i64 0), .c (.i .i64 0)], none⟩,
  ⟨(some 75), .mv (.t 77), none⟩,
  ⟨(some 78), .ext (.t 75) 0, none⟩,
  ⟨(some 79), .ext (.t 75) 1, none⟩,
  ⟨(some 23), .mv (.t 78), none⟩,
  ⟨(some 24), .mv (.t 79), none⟩]
def F_muntinlaw10_GridNil.r15 : List Oper := [
  ⟨(some 80), .call (.c (.f 47 [])) [], none⟩,
  ⟨(some 81), .mv (.t 80), none⟩,
  ⟨(some 82), .mv (.t 10), (some (81, true))⟩,
  ⟨(some 83), .un .not (.t 82), (some (81, true))⟩,
  ⟨(some 84), .pick (.t 81) (.t 83) (.c (.b false)), none⟩,
  ⟨(some 85), .mv (.t 84), none⟩,
  ⟨(some 86), .mv (.t 12), (some (85, true))⟩,
  ⟨(some 87), .eq false .sc (.t 86) (.c (.i .i64 1)), (some (85, true))⟩,
  ⟨(some 88), .pick (.t 85) (.t 87) (.c (.b false)), none⟩,
  ⟨(some 89), .mv (.t 88), none⟩,
  ⟨(some 90), .mv (.t 14), (some (89, true))⟩,
  ⟨(some 91), .eq false .sc (.t 90) (.c (.i .i64 1)), (some (89, true))⟩,
  ⟨(some 92), .pick (.t 89) (.t 91) (.c (.b false)), none⟩,
  ⟨(some 93), .mv (.t 92), none⟩,
  ⟨(some 94), .mv (.t 7), (some (93, true))⟩,
  ⟨(some 95), .mv (.t 0), (some (93, true))⟩,
  ⟨(some 96), .mv (.t 1), (some (93, true))⟩,
  ⟨(some 97), .mv (.t 2), (some (93, true))⟩,
  ⟨(some 98), .call (.c (.f 52 [])) [.t 94, .t 95, .t 96, .t 97, .c (.i .i64 0)], (some (93, true))⟩,
  ⟨(some 99), .eq false .sc (.t 98) (.c (.i .i64 1)), (some (93, true))⟩,
  ⟨(some 100), .pick (.t 93) (.t 99) (.c (.b false)), none⟩,
  ⟨(some 101), .mv (.t 100), none⟩,
  ⟨(some 102), .mv (.t 7), (some (101, true))⟩,
  ⟨(some 103), .call (.c (.f 55 [])) [.t 102], (some (101, true))⟩,
  ⟨(some 104), .eq false .sc (.t 103) (.c (.i .i64 0)), (some (101, true))⟩,
  ⟨(some 105), .pick (.t 101) (.t 104) (.c (.b false)), none⟩,
  ⟨(some 106), .mv (.t 105), none⟩,
  ⟨(some 107), .mv (.t 7), (some (106, true))⟩,
  ⟨(some 108), .call (.c (.f 57 [])) [.t 107], (some (106, true))⟩,
  ⟨(some 109), .len (.t 108), (some (106, true))⟩,
  ⟨(some 110), .eq false .sc (.t 109) (.c (.i .i64 0)), (some (106, true))⟩,
  ⟨(some 111), .pick (.t 106) (.t 110) (.c (.b false)), none⟩,
  ⟨(some 112), .mv (.t 111), none⟩,
  ⟨(some 113), .mv (.t 17), (some (112, true))⟩,
  ⟨(some 114), .eq false .sc (.t 113) (.c (.i .i64 0)), (some (112, true))⟩,
  ⟨(some 115), .pick (.t 112) (.t 114) (.c (.b false)), none⟩,
  ⟨(some 116), .mv (.t 115), none⟩,
  ⟨(some 117), .mv (.t 19), (some (116, true))⟩,
  ⟨(some 118), .eq false .sc (.t 117) (.c (.i .i64 6)), (some (116, true))⟩,
  ⟨(some 119), .pick (.t 116) (.t 118) (.c (.b false)), none⟩,
  ⟨(some 120), .mv (.t 119), none⟩,
  ⟨(some 121), .mv (.t 21), (some (120, true))⟩,
  ⟨(some 122), .eq false .sc (.t 121) (.c (.i .i64 6)), (some (120, true))⟩,
  ⟨(some 123), .pick (.t 120) (.t 122) (.c (.b false)), none⟩,
  ⟨(some 124), .mv (.t 123), none⟩,
  ⟨(some 125), .mv (.t 22), (some (124, true))⟩,
  ⟨(some 126), .eq false .sc (.t 125) (.c (.i .i64 0)), (some (124, true))⟩,
  ⟨(some 127), .pick (.t 124) (.t 126) (.c (.b false)), none⟩,
  ⟨(some 128), .mv (.t 127), none⟩,
  ⟨(some 129), .mv (.t 24), (some (128, true))⟩,
  ⟨(some 130), .eq false .sc (.t 129) (.c (.i .i64 6)), (some (128, true))⟩,
  ⟨(some 131), .pick (.t 128) (.t 130) (.c (.b false)), none⟩,
  ⟨(some 132), .mv (.t 131), none⟩,
  ⟨(some 133), .mks 8 64 [.i .i64 0, .i .i64 0, .i .i64 0, .i .i64 0, .i .i64 0, .i .i64 0, .i .i64 0, .i .i64 0] (.c (.i .i64 4097)) (.c (.i .i64 4097)), (some (132, true))⟩,
  ⟨(some 134), .call (.c (.f 66 [])) [.t 133], (some (132, true))⟩,
  ⟨(some 135), .eq false .sc (.t 134) (.c (.i .i64 6)), (some (132, true))⟩,
  ⟨(some 136), .pick (.t 132) (.t 135) (.c (.b false)), none⟩,
  ⟨(some 6), .mv (.t 136), none⟩]
def F_muntinlaw10_GridNil.code : Code := .seq (.region F_muntinlaw10_GridNil.r0) (.seq (.region F_muntinlaw10_GridNil.r1) (.seq (.region F_muntinlaw10_GridNil.r2) (.seq (.region F_muntinlaw10_GridNil.r3) (.seq (.region F_muntinlaw10_GridNil.r4) (.seq (.region F_muntinlaw10_GridNil.r5) (.seq (.region F_muntinlaw10_GridNil.r6) (.seq (.seq (.region F_muntinlaw10_GridNil.r7) (.block 0 (.loop F_muntinlaw10_GridNil.l0))) (.seq (.region F_muntinlaw10_GridNil.r11) (.seq (.region F_muntinlaw10_GridNil.r12) (.seq (.region F_muntinlaw10_GridNil.r13) (.seq (.region F_muntinlaw10_GridNil.r14) (.seq (.region F_muntinlaw10_GridNil.r15) (.ret)))))))))))))
def F_muntinlaw10_GridNil : Func := ⟨137, [.t 6], F_muntinlaw10_GridNil.code⟩
def G : Prog := fun i => match i with
  | 45 => some F_grid_New
  | 47 => some F_muntinlaw10_wakes
  | 48 => some F_grid_Grid_Split
  | 50 => some F_grid_Grid_Add
  | 51 => some F_slices_Clone_api_Cell
  | 52 => some F_grid_Grid_Join
  | 54 => some F_grid_Grid_Next
  | 55 => some F_grid_Grid_Len
  | 57 => some F_grid_Grid_Cells
  | 66 => some F_grid_Check
  | 73 => some F_slices_Repeat_api_Cell
  | 74 => some F_grid_empty
  | 75 => some F_grid_Grid_is
  | 76 => some F_grid_Grid_lay
  | 77 => some F_compass_Left
  | 82 => some F_grid_side
  | 89 => some F_bits_Mul
  | 90 => some F_compass_Good
  | 97 => some F_bits_Mul32
  | 98 => some F_bits_Mul64
  | 100 => some F_muntinlaw10_GridNil
  | _ => none
theorem G_F_grid_New : G 45 = some F_grid_New := rfl
theorem G_F_muntinlaw10_wakes : G 47 = some F_muntinlaw10_wakes := rfl
theorem G_F_grid_Grid_Split : G 48 = some F_grid_Grid_Split := rfl
theorem G_F_grid_Grid_Add : G 50 = some F_grid_Grid_Add := rfl
theorem G_F_slices_Clone_api_Cell : G 51 = some F_slices_Clone_api_Cell := rfl
theorem G_F_grid_Grid_Join : G 52 = some F_grid_Grid_Join := rfl
theorem G_F_grid_Grid_Next : G 54 = some F_grid_Grid_Next := rfl
theorem G_F_grid_Grid_Len : G 55 = some F_grid_Grid_Len := rfl
theorem G_F_grid_Grid_Cells : G 57 = some F_grid_Grid_Cells := rfl
theorem G_F_grid_Check : G 66 = some F_grid_Check := rfl
theorem G_F_slices_Repeat_api_Cell : G 73 = some F_slices_Repeat_api_Cell := rfl
theorem G_F_grid_empty : G 74 = some F_grid_empty := rfl
theorem G_F_grid_Grid_is : G 75 = some F_grid_Grid_is := rfl
theorem G_F_grid_Grid_lay : G 76 = some F_grid_Grid_lay := rfl
theorem G_F_compass_Left : G 77 = some F_compass_Left := rfl
theorem G_F_grid_side : G 82 = some F_grid_side := rfl
theorem G_F_bits_Mul : G 89 = some F_bits_Mul := rfl
theorem G_F_compass_Good : G 90 = some F_compass_Good := rfl
theorem G_F_bits_Mul32 : G 97 = some F_bits_Mul32 := rfl
theorem G_F_bits_Mul64 : G 98 = some F_bits_Mul64 := rfl
theorem G_F_muntinlaw10_GridNil : G 100 = some F_muntinlaw10_GridNil := rfl
end Mu
