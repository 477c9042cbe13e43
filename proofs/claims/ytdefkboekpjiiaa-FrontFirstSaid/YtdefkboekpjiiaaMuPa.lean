/- The functions of the program, as the evaluator has them: printed by a program; checked against the model's. -/
import Derived.Test.YtdefkboekpjiiaaMuE0
namespace Mu
abbrev oD (d : Nat) (op : Op) : Oper := ⟨some d, op, none⟩
abbrev oN (op : Op) : Oper := ⟨none, op, none⟩
/-! muntin/front.Of -/
def zj.r0 : List Oper := [
 oD 4 (.mv (.c (.i .i64 0))),
 oD 5 (.mv (.c (.b false)))]
def zj.r1 : List Oper := [
 oD 9 (.mv (.t 0)),
 oD 10 (.call (.c (.f 58 [])) [.t 9]),
 oD 11 (.un .not (.t 10)),
 oD 12 (.mv (.t 11)),
 ⟨(some 13), .mv (.t 1), (some (12, false))⟩,
 ⟨(some 14), .bin .lss (.t 13) (.c (.i .i64 0)), (some (12, false))⟩,
 oD 15 (.pick (.t 12) (.c (.b true)) (.t 14)),
 oD 16 (.mv (.t 15)),
 ⟨(some 17), .mv (.t 1), (some (16, false))⟩,
 ⟨(some 18), .mv (.t 0), (some (16, false))⟩,
 ⟨(some 19), .len (.t 18), (some (16, false))⟩,
 ⟨(some 20), .bin .geq (.t 17) (.t 19), (some (16, false))⟩,
 oD 21 (.pick (.t 16) (.c (.b true)) (.t 20)),
 oD 22 (.mv (.t 21)),
 ⟨(some 23), .mv (.t 0), (some (22, false))⟩,
 ⟨(some 24), .mv (.t 1), (some (22, false))⟩,
 ⟨(some 25), .ixa 1 (.t 23) (.t 24), (some (22, false))⟩,
 ⟨(some 26), .ld false 1 (.t 25), (some (22, false))⟩,
 ⟨(some 27), .bin .geq (.t 26) (.c (.i .i64 0)), (some (22, false))⟩,
 oD 28 (.pick (.t 22) (.c (.b true)) (.t 27))]
def zj.r2 : List Oper := [
 oD 4 (.mv (.c (.i .i64 0))),
 oD 5 (.mv (.c (.b false)))]
def zj.r3 : List Oper := [
 oD 6 (.mv (.c (.i .i64 0)))]
def zj.r4 : List Oper := [
 oD 29 (.mv (.t 0)),
 oD 30 (.len (.t 29)),
 oD 31 (.mv (.c (.i .i64 0)))]
def zj.r5 : List Oper := [
 oD 32 (.bin .lss (.t 31) (.t 30))]
def zj.r6 : List Oper := [
 oD 33 (.mv (.t 31)),
 oD 7 (.mv (.t 33))]
def zj.r7 : List Oper := [
 oD 34 (.mv (.t 1)),
 oD 35 (.mv (.t 7)),
 oD 36 (.bin .add (.t 34) (.t 35)),
 oD 37 (.mv (.t 0)),
 oD 38 (.len (.t 37)),
 oD 39 (.bin .rem (.t 36) (.t 38)),
 oD 8 (.mv (.t 39))]
def zj.r8 : List Oper := [
 oD 40 (.mv (.t 6)),
 oD 41 (.mv (.t 0)),
 oD 42 (.mv (.t 8)),
 oD 43 (.ixa 1 (.t 41) (.t 42)),
 oD 44 (.ld false 1 (.t 43)),
 oD 45 (.bin .add (.t 40) (.t 44)),
 oD 6 (.mv (.t 45))]
def zj.r9 : List Oper := [
 oD 46 (.mv (.t 6)),
 oD 47 (.eq false .sc (.t 46) (.c (.i .i64 1)))]
def zj.r10 : List Oper := [
 oD 48 (.mv (.t 8)),
 oD 49 (.bin .add (.t 48) (.c (.i .i64 1))),
 oD 50 (.mv (.t 0)),
 oD 51 (.len (.t 50)),
 oD 52 (.bin .rem (.t 49) (.t 51)),
 oD 4 (.mv (.t 52)),
 oD 5 (.mv (.c (.b true)))]
def zj.r11 : List Oper := [
 oD 53 (.bin .add (.t 31) (.c (.i .i64 1))),
 oD 31 (.mv (.t 53))]
def zj.l0 : Code := .seq (.region zj.r5) (.seq (.cond (.t 32) (.skip) (.exit 0)) (.seq (.block 1 (.seq (.region zj.r6) (.seq (.region zj.r7) (.seq (.region zj.r8) (.seq (.region zj.r9) (.cond (.t 47) (.seq (.region zj.r10) (.ret)) (.skip))))))) (.region zj.r11)))
def zj.r12 : List Oper := [
 oD 4 (.mv (.c (.i .i64 0))),
 oD 5 (.mv (.c (.b false)))]
def zj.code : Code := .seq (.region zj.r0) (.seq (.seq (.region zj.r1) (.cond (.t 28) (.seq (.region zj.r2) (.ret)) (.skip))) (.seq (.region zj.r3) (.seq (.seq (.region zj.r4) (.block 0 (.loop zj.l0))) (.seq (.region zj.r12) (.ret)))))
def zj : Func := ⟨54, [.t 4, .t 5], zj.code⟩
/-! muntin/front.Open -/
def zb.r0 : List Oper := [
 oD 2 (.mv (.c (.i .i64 0))),
 oD 3 (.mv (.c (.b false)))]
def zb.r1 : List Oper := [
 oD 8 (.mv (.t 0)),
 oD 9 (.call (.c (.f 58 [])) [.t 8]),
 oD 10 (.un .not (.t 9))]
def zb.r2 : List Oper := [
 oD 2 (.mv (.c (.i .i64 0))),
 oD 3 (.mv (.c (.b false)))]
def zb.r3 : List Oper := [
 oD 11 (.mv (.t 0)),
 oD 12 (.len (.t 11)),
 oD 13 (.mv (.c (.i .i64 0)))]
def zb.r4 : List Oper := [
 oD 14 (.bin .lss (.t 13) (.t 12))]
def zb.r5 : List Oper := [
 oD 15 (.mv (.t 13)),
 oD 16 (.ixa 1 (.t 11) (.t 13)),
 oD 17 (.ld false 1 (.t 16)),
 oD 4 (.mv (.t 15)),
 oD 5 (.mv (.t 17))]
def zb.r6 : List Oper := [
 oD 19 (.mv (.t 0)),
 oD 20 (.mv (.t 4)),
 oD 21 (.call (.c (.f 13 [])) [.t 19, .t 20]),
 oD 18 (.mv (.t 21)),
 oD 22 (.ext (.t 18) 0),
 oD 23 (.ext (.t 18) 1),
 oD 6 (.mv (.t 22)),
 oD 7 (.mv (.t 23))]
def zb.r7 : List Oper := [
 oD 24 (.mv (.t 5)),
 oD 25 (.bin .lss (.t 24) (.c (.i .i64 0))),
 oD 26 (.mv (.t 25)),
 ⟨(some 27), .mv (.t 7), (some (26, true))⟩,
 ⟨(some 28), .un .not (.t 27), (some (26, true))⟩,
 oD 29 (.pick (.t 26) (.t 28) (.c (.b false)))]
def zb.r8 : List Oper := [
 oD 30 (.mv (.t 4)),
 oD 2 (.mv (.t 30)),
 oD 3 (.mv (.c (.b true)))]
def zb.r9 : List Oper := [
 oD 31 (.bin .add (.t 13) (.c (.i .i64 1))),
 oD 13 (.mv (.t 31))]
def zb.l0 : Code := .seq (.region zb.r4) (.seq (.cond (.t 14) (.skip) (.exit 0)) (.seq (.block 1 (.seq (.region zb.r5) (.seq (.region zb.r6) (.seq (.region zb.r7) (.cond (.t 29) (.seq (.region zb.r8) (.ret)) (.skip)))))) (.region zb.r9)))
def zb.r10 : List Oper := [
 oD 2 (.mv (.c (.i .i64 0))),
 oD 3 (.mv (.c (.b false)))]
def zb.code : Code := .seq (.region zb.r0) (.seq (.seq (.region zb.r1) (.cond (.t 10) (.seq (.region zb.r2) (.ret)) (.skip))) (.seq (.seq (.region zb.r3) (.block 0 (.loop zb.l0))) (.seq (.region zb.r10) (.ret))))
def zb : Func := ⟨32, [.t 2, .t 3], zb.code⟩
/-! muntin/muntinlaw20.wakes -/
def ZZ.r0 : List Oper := [
 oD 0 (.mv (.c (.b false)))]
def ZZ.r1 : List Oper := [
 oD 8 (.bsl 1 6 [.i .i64 0] [(0, 1, .c (.i .i64 1)), (1, 1, .c (.i .i64 1)), (2, 1, .c (.i .i64 (-1))), (3, 1, .c (.i .i64 1)), (4, 1, .c (.i .i64 1)), (5, 1, .c (.i .i64 1))]),
 oD 1 (.mv (.t 8))]
def ZZ.r2 : List Oper := [
 oD 10 (.mv (.t 1)),
 oD 11 (.call (.c (.f 13 [])) [.t 10, .c (.i .i64 2)]),
 oD 9 (.mv (.t 11)),
 oD 12 (.ext (.t 9) 0),
 oD 13 (.ext (.t 9) 1),
 oD 2 (.mv (.t 12)),
 oD 3 (.mv (.t 13))]
def ZZ.r3 : List Oper := [
 oD 15 (.mv (.t 1)),
 oD 16 (.call (.c (.f 13 [])) [.t 15, .c (.i .i64 0)]),
 oD 14 (.mv (.t 16)),
 oD 17 (.ext (.t 14) 0),
 oD 18 (.ext (.t 14) 1),
 oD 4 (.mv (.t 17)),
 oD 5 (.mv (.t 18))]
def ZZ.r4 : List Oper := [
 oD 20 (.bsl 1 2 [.i .i64 0] [(0, 1, .c (.i .i64 (-2))), (1, 1, .c (.i .i64 (-2)))]),
 oD 21 (.call (.c (.f 15 [])) [.t 20]),
 oD 19 (.mv (.t 21)),
 oD 22 (.ext (.t 19) 0),
 oD 23 (.ext (.t 19) 1),
 oD 6 (.mv (.t 22)),
 oD 7 (.mv (.t 23))]
def ZZ.r5 : List Oper := [
 oD 24 (.mv (.t 2)),
 oD 25 (.eq false .sc (.t 24) (.c (.i .i64 5))),
 oD 26 (.mv (.t 25)),
 ⟨(some 27), .mv (.t 3), (some (26, true))⟩,
 oD 28 (.pick (.t 26) (.t 27) (.c (.b false))),
 oD 29 (.mv (.t 28)),
 ⟨(some 30), .mv (.t 5), (some (29, true))⟩,
 ⟨(some 31), .un .not (.t 30), (some (29, true))⟩,
 oD 32 (.pick (.t 29) (.t 31) (.c (.b false))),
 oD 33 (.mv (.t 32)),
 ⟨(some 34), .mv (.t 6), (some (33, true))⟩,
 ⟨(some 35), .eq false .sc (.t 34) (.c (.i .i64 0)), (some (33, true))⟩,
 oD 36 (.pick (.t 33) (.t 35) (.c (.b false))),
 oD 37 (.mv (.t 36)),
 ⟨(some 38), .mv (.t 7), (some (37, true))⟩,
 oD 39 (.pick (.t 37) (.t 38) (.c (.b false))),
 oD 0 (.mv (.t 39))]
def ZZ.code : Code := .seq (.region ZZ.r0) (.seq (.region ZZ.r1) (.seq (.region ZZ.r2) (.seq (.region ZZ.r3) (.seq (.region ZZ.r4) (.seq (.region ZZ.r5) (.ret))))))
def ZZ : Func := ⟨40, [.t 0], ZZ.code⟩
/-! muntin/muntinref10.Make -/
def Zi.r0 : List Oper := [
 oD 2 (.box (.t 0)),
 oD 4 (.mv (.c (.sn))),
 oD 5 (.mv (.c (.sn)))]
def Zi.r1 : List Oper := [
 oD 6 (.mv (.c (.sn)))]
def Zi.r2 : List Oper := [
 oD 7 (.mv (.c (.i .i64 0)))]
def Zi.r3 : List Oper := [
 oD 18 (.mv (.t 7)),
 oD 19 (.fa 0 (.t 2)),
 oD 20 (.ld false 1 (.t 19)),
 oD 21 (.len (.t 20)),
 oD 22 (.bin .lss (.t 18) (.t 21)),
 oD 23 (.mv (.t 22)),
 ⟨(some 24), .mv (.t 6), (some (23, true))⟩,
 ⟨(some 25), .len (.t 24), (some (23, true))⟩,
 ⟨(some 26), .mv (.t 1), (some (23, true))⟩,
 ⟨(some 27), .bin .lss (.t 25) (.t 26), (some (23, true))⟩,
 oD 28 (.pick (.t 23) (.t 27) (.c (.b false)))]
def Zi.r5 : List Oper := [
 oD 31 (.fa 0 (.t 2)),
 oD 32 (.ld false 1 (.t 31)),
 oD 33 (.mv (.t 7)),
 oD 34 (.ixa 1 (.t 32) (.t 33)),
 oD 35 (.ld false 1 (.t 34)),
 oD 36 (.conv .i64 (.t 35)),
 oD 37 (.bin .rem (.t 36) (.c (.i .i64 8))),
 oD 38 (.fa 0 (.t 2)),
 oD 39 (.ld false 1 (.t 38)),
 oD 40 (.mv (.t 7)),
 oD 41 (.ixa 1 (.t 39) (.t 40)),
 oD 42 (.ld false 1 (.t 41)),
 oD 43 (.conv .i64 (.t 42)),
 oD 44 (.bin .quo (.t 43) (.c (.i .i64 8))),
 oD 45 (.bin .rem (.t 44) (.c (.i .i64 8))),
 oD 46 (.build [.i .i64 0, .i .i64 0] [(0, 1, .t 37), (1, 1, .t 45)]),
 oD 8 (.alloc [.i .i64 0, .i .i64 0]),
 oN (.st 2 (.t 8) (.t 46))]
def Zi.r6 : List Oper := [
 oD 9 (.mv (.c (.b false)))]
def Zi.r7 : List Oper := [
 oD 10 (.mv (.c (.i .i64 0)))]
def Zi.r8 : List Oper := [
 oD 47 (.mv (.t 10)),
 oD 48 (.mv (.t 6)),
 oD 49 (.len (.t 48)),
 oD 50 (.bin .lss (.t 47) (.t 49))]
def Zi.r10 : List Oper := [
 oD 53 (.mv (.t 9)),
 oD 54 (.mv (.t 53)),
 ⟨(some 55), .mv (.t 6), (some (54, false))⟩,
 ⟨(some 56), .mv (.t 10), (some (54, false))⟩,
 ⟨(some 57), .ixa 2 (.t 55) (.t 56), (some (54, false))⟩,
 ⟨(some 58), .ld true 2 (.t 57), (some (54, false))⟩,
 ⟨(some 59), .ld true 2 (.t 8), (some (54, false))⟩,
 ⟨(some 60), .eq false (.fl [.i, .i]) (.t 58) (.t 59), (some (54, false))⟩,
 oD 61 (.pick (.t 54) (.c (.b true)) (.t 60)),
 oD 9 (.mv (.t 61))]
def Zi.r9 : List Oper := [
 oD 51 (.mv (.t 10)),
 oD 52 (.bin .add (.t 51) (.c (.i .i64 1))),
 oD 10 (.mv (.t 52))]
def Zi.l0 : Code := .seq (.seq (.region Zi.r8) (.cond (.t 50) (.skip) (.exit 2))) (.seq (.block 3 (.draw Zi.r10 [(5, 6)])) (.region Zi.r9))
def Zi.r11 : List Oper := [
 oD 62 (.mv (.t 9)),
 oD 63 (.un .not (.t 62))]
def Zi.r12 : List Oper := [
 oD 64 (.mv (.t 6)),
 oD 65 (.ld true 2 (.t 8)),
 oD 66 (.bsl 2 1 [.i .i64 0, .i .i64 0] [(0, 2, .t 65)]),
 oD 67 (.app 2 16 (.t 64) (.t 66)),
 oD 6 (.mv (.t 67))]
def Zi.r4 : List Oper := [
 oD 29 (.mv (.t 7)),
 oD 30 (.bin .add (.t 29) (.c (.i .i64 1))),
 oD 7 (.mv (.t 30))]
def Zi.l1 : Code := .seq (.seq (.region Zi.r3) (.cond (.t 28) (.skip) (.exit 0))) (.seq (.block 1 (.seq (.draw Zi.r5 [(1, 8), (4, 8), (1, 11), (4, 11), (1, 16), (4, 16), (8, 16), (11, 16)]) (.seq (.region Zi.r6) (.seq (.seq (.region Zi.r7) (.block 2 (.loop Zi.l0))) (.seq (.region Zi.r11) (.cond (.t 63) (.region Zi.r12) (.skip))))))) (.region Zi.r4))
def Zi.r13 : List Oper := [
 oD 68 (.mv (.t 6)),
 oD 69 (.len (.t 68)),
 oD 70 (.call (.c (.f 46 [])) [.t 69]),
 oD 11 (.mv (.t 70))]
def Zi.r14 : List Oper := [
 oD 12 (.mv (.c (.i .i64 0)))]
def Zi.r15 : List Oper := [
 oD 71 (.mv (.t 12)),
 oD 72 (.mv (.t 6)),
 oD 73 (.len (.t 72)),
 oD 74 (.bin .lss (.t 71) (.t 73))]
def Zi.r17 : List Oper := [
 oD 13 (.mv (.c (.i .u8 3)))]
def Zi.r18 : List Oper := [
 oD 77 (.mv (.t 12)),
 oD 78 (.fa 1 (.t 2)),
 oD 79 (.ld false 1 (.t 78)),
 oD 80 (.len (.t 79)),
 oD 81 (.bin .lss (.t 77) (.t 80))]
def Zi.r19 : List Oper := [
 oD 82 (.fa 1 (.t 2)),
 oD 83 (.ld false 1 (.t 82)),
 oD 84 (.mv (.t 12)),
 oD 85 (.ixa 1 (.t 83) (.t 84)),
 oD 86 (.ld false 1 (.t 85)),
 oD 13 (.mv (.t 86))]
def Zi.r20 : List Oper := [
 oD 87 (.mv (.t 12)),
 oD 14 (.mv (.t 87))]
def Zi.r21 : List Oper := [
 oD 88 (.mv (.t 12)),
 oD 89 (.fa 2 (.t 2)),
 oD 90 (.ld false 1 (.t 89)),
 oD 91 (.len (.t 90)),
 oD 92 (.bin .lss (.t 88) (.t 91))]
def Zi.r22 : List Oper := [
 oD 93 (.fa 2 (.t 2)),
 oD 94 (.ld false 1 (.t 93)),
 oD 95 (.mv (.t 12)),
 oD 96 (.ixa 1 (.t 94) (.t 95)),
 oD 97 (.ld false 1 (.t 96)),
 oD 98 (.conv .i64 (.t 97)),
 oD 14 (.mv (.t 98))]
def Zi.r23 : List Oper := [
 oD 99 (.mv (.t 14)),
 oD 100 (.bin .lss (.t 99) (.c (.i .i64 (-2))))]
def Zi.r24 : List Oper := [
 oD 101 (.mv (.t 14)),
 oD 102 (.un .neg (.t 101)),
 oD 14 (.mv (.t 102))]
def Zi.r25 : List Oper := [
 oD 15 (.mv (.c (.i .i64 0)))]
def Zi.r26 : List Oper := [
 oD 103 (.mv (.t 15)),
 oD 104 (.bin .lss (.t 103) (.c (.i .i64 2)))]
def Zi.r28 : List Oper := [
 oD 107 (.mv (.t 6)),
 oD 108 (.mv (.t 12)),
 oD 109 (.mv (.t 15)),
 oD 110 (.call (.c (.f 63 [])) [.t 107, .t 108, .t 109]),
 oD 16 (.mv (.t 110))]
def Zi.r29 : List Oper := [
 oD 111 (.mv (.t 13)),
 oD 112 (.mv (.t 15)),
 oD 113 (.bin .shr (.t 111) (.t 112)),
 oD 114 (.bin .and (.t 113) (.c (.i .u8 1))),
 oD 115 (.eq false .sc (.t 114) (.c (.i .u8 0))),
 oD 116 (.mv (.t 115)),
 ⟨(some 117), .mv (.t 16), (some (116, false))⟩,
 ⟨(some 118), .bin .lss (.t 117) (.c (.i .i64 0)), (some (116, false))⟩,
 oD 119 (.pick (.t 116) (.c (.b true)) (.t 118))]
def Zi.r30 : List Oper := [
 oD 120 (.mv (.t 6)),
 oD 121 (.mv (.t 11)),
 oD 122 (.mv (.t 12)),
 oD 123 (.mv (.t 16)),
 oD 124 (.call (.c (.f 64 [])) [.t 120, .t 121, .t 122, .t 123]),
 oD 17 (.mv (.t 124))]
def Zi.r31 : List Oper := [
 oD 125 (.mv (.t 17)),
 oD 126 (.un .not (.t 125))]
def Zi.r32 : List Oper := [
 oD 127 (.mv (.t 11)),
 oD 128 (.mv (.t 12)),
 oD 129 (.mv (.t 15)),
 oD 130 (.mv (.t 16)),
 oD 131 (.mv (.t 14)),
 oD 132 (.call (.c (.f 65 [])) [.t 127, .t 128, .t 129, .t 130, .t 131]),
 oD 11 (.mv (.t 132))]
def Zi.r27 : List Oper := [
 oD 105 (.mv (.t 15)),
 oD 106 (.bin .add (.t 105) (.c (.i .i64 1))),
 oD 15 (.mv (.t 106))]
def Zi.l2 : Code := .seq (.seq (.region Zi.r26) (.cond (.t 104) (.skip) (.exit 6))) (.seq (.block 7 (.seq (.region Zi.r28) (.seq (.seq (.region Zi.r29) (.cond (.t 119) (.exit 7) (.skip))) (.seq (.region Zi.r30) (.seq (.region Zi.r31) (.cond (.t 126) (.region Zi.r32) (.skip))))))) (.region Zi.r27))
def Zi.r16 : List Oper := [
 oD 75 (.mv (.t 12)),
 oD 76 (.bin .add (.t 75) (.c (.i .i64 1))),
 oD 12 (.mv (.t 76))]
def Zi.l3 : Code := .seq (.seq (.region Zi.r15) (.cond (.t 74) (.skip) (.exit 4))) (.seq (.block 5 (.seq (.region Zi.r17) (.seq (.seq (.region Zi.r18) (.cond (.t 81) (.region Zi.r19) (.skip))) (.seq (.region Zi.r20) (.seq (.seq (.region Zi.r21) (.cond (.t 92) (.seq (.region Zi.r22) (.seq (.region Zi.r23) (.cond (.t 100) (.region Zi.r24) (.skip)))) (.skip))) (.seq (.region Zi.r25) (.block 6 (.loop Zi.l2)))))))) (.region Zi.r16))
def Zi.r33 : List Oper := [
 oD 133 (.mv (.t 11)),
 oD 134 (.mv (.t 6)),
 oD 4 (.mv (.t 133)),
 oD 5 (.mv (.t 134))]
def Zi.code : Code := .seq (.region Zi.r0) (.seq (.region Zi.r1) (.seq (.seq (.region Zi.r2) (.block 0 (.loop Zi.l1))) (.seq (.region Zi.r13) (.seq (.seq (.region Zi.r14) (.block 4 (.loop Zi.l3))) (.seq (.region Zi.r33) (.ret))))))
def Zi : Func := ⟨135, [.t 4, .t 5], Zi.code⟩
/-! muntin/join.Parts -/
def Z3.r0 : List Oper := [
 oD 2 (.mv (.c (.sn))),
 oD 3 (.mv (.c (.i .i64 0)))]
def Z3.r1 : List Oper := [
 oD 12 (.mv (.t 0)),
 oD 13 (.call (.c (.f 66 [])) [.t 12]),
 oD 4 (.mv (.t 13))]
def Z3.r2 : List Oper := [
 oD 14 (.mv (.t 4)),
 oD 15 (.eq true .sc (.t 14) (.c (.i .i64 0)))]
def Z3.r3 : List Oper := [
 oD 16 (.mv (.t 4)),
 oD 2 (.mv (.c (.sn))),
 oD 3 (.mv (.t 16))]
def Z3.r4 : List Oper := [
 oD 5 (.mv (.c (.sn)))]
def Z3.r5 : List Oper := [
 oD 17 (.mv (.t 0)),
 oD 18 (.len (.t 17)),
 oD 19 (.mks 1 1 [.b false] (.t 18) (.t 18)),
 oD 6 (.mv (.t 19))]
def Z3.r6 : List Oper := [
 oD 20 (.mv (.t 0)),
 oD 21 (.len (.t 20)),
 oD 22 (.mv (.c (.i .i64 0)))]
def Z3.r7 : List Oper := [
 oD 23 (.bin .lss (.t 22) (.t 21))]
def Z3.r8 : List Oper := [
 oD 24 (.mv (.t 22)),
 oD 7 (.mv (.t 24))]
def Z3.r9 : List Oper := [
 oD 25 (.mv (.t 6)),
 oD 26 (.mv (.t 7)),
 oD 27 (.ixa 1 (.t 25) (.t 26)),
 oD 28 (.ld false 1 (.t 27))]
def Z3.r10 : List Oper := [
 oD 30 (.mv (.t 0)),
 oD 31 (.mv (.t 7)),
 oD 32 (.call (.c (.f 67 [])) [.t 30, .t 31]),
 oD 29 (.mv (.t 32)),
 oD 33 (.ext (.t 29) 0),
 oD 34 (.ext (.t 29) 1),
 oD 8 (.mv (.t 33)),
 oD 9 (.mv (.t 34))]
def Z3.r11 : List Oper := [
 oD 35 (.bsl 1 0 [.i .i64 0] []),
 oD 10 (.mv (.t 35))]
def Z3.r12 : List Oper := [
 oD 36 (.mv (.t 0)),
 oD 37 (.len (.t 36)),
 oD 38 (.mv (.c (.i .i64 0)))]
def Z3.r13 : List Oper := [
 oD 39 (.bin .lss (.t 38) (.t 37))]
def Z3.r14 : List Oper := [
 oD 40 (.mv (.t 38)),
 oD 11 (.mv (.t 40))]
def Z3.r15 : List Oper := [
 oD 41 (.mv (.t 11)),
 oD 42 (.mv (.t 7)),
 oD 43 (.eq false .sc (.t 41) (.t 42)),
 oD 44 (.mv (.t 43)),
 ⟨(some 45), .mv (.t 9), (some (44, false))⟩,
 ⟨(some 46), .mv (.t 11), (some (44, false))⟩,
 ⟨(some 47), .ixa 1 (.t 45) (.t 46), (some (44, false))⟩,
 ⟨(some 48), .ld false 1 (.t 47), (some (44, false))⟩,
 ⟨(some 49), .bin .geq (.t 48) (.c (.i .i64 0)), (some (44, false))⟩,
 oD 50 (.pick (.t 44) (.c (.b true)) (.t 49))]
def Z3.r16 : List Oper := [
 oD 51 (.mv (.t 6)),
 oD 52 (.mv (.t 11)),
 oD 53 (.ixa 1 (.t 51) (.t 52)),
 oN (.st 1 (.t 53) (.c (.b true)))]
def Z3.r17 : List Oper := [
 oD 54 (.mv (.t 10)),
 oD 55 (.mv (.t 11)),
 oD 56 (.bsl 1 1 [.i .i64 0] [(0, 1, .t 55)]),
 oD 57 (.app 1 8 (.t 54) (.t 56)),
 oD 10 (.mv (.t 57))]
def Z3.r18 : List Oper := [
 oD 58 (.bin .add (.t 38) (.c (.i .i64 1))),
 oD 38 (.mv (.t 58))]
def Z3.l0 : Code := .seq (.region Z3.r13) (.seq (.cond (.t 39) (.skip) (.exit 2)) (.seq (.block 3 (.seq (.region Z3.r14) (.seq (.region Z3.r15) (.cond (.t 50) (.seq (.region Z3.r16) (.region Z3.r17)) (.skip))))) (.region Z3.r18)))
def Z3.r19 : List Oper := [
 oD 59 (.mv (.t 5)),
 oD 60 (.mv (.t 10)),
 oD 61 (.bsl 1 1 [.sn] [(0, 1, .t 60)]),
 oD 62 (.app 1 24 (.t 59) (.t 61)),
 oD 5 (.mv (.t 62))]
def Z3.r20 : List Oper := [
 oD 63 (.bin .add (.t 22) (.c (.i .i64 1))),
 oD 22 (.mv (.t 63))]
def Z3.l1 : Code := .seq (.region Z3.r7) (.seq (.cond (.t 23) (.skip) (.exit 0)) (.seq (.block 1 (.seq (.region Z3.r8) (.seq (.seq (.region Z3.r9) (.cond (.t 28) (.exit 1) (.skip))) (.seq (.region Z3.r10) (.seq (.region Z3.r11) (.seq (.seq (.region Z3.r12) (.block 2 (.loop Z3.l0))) (.region Z3.r19))))))) (.region Z3.r20)))
def Z3.r21 : List Oper := [
 oD 64 (.mv (.t 5)),
 oD 2 (.mv (.t 64)),
 oD 3 (.mv (.c (.i .i64 0)))]
def Z3.code : Code := .seq (.region Z3.r0) (.seq (.seq (.region Z3.r1) (.seq (.region Z3.r2) (.cond (.t 15) (.seq (.region Z3.r3) (.ret)) (.skip)))) (.seq (.region Z3.r4) (.seq (.region Z3.r5) (.seq (.seq (.region Z3.r6) (.block 0 (.loop Z3.l1))) (.seq (.region Z3.r21) (.ret))))))
def Z3 : Func := ⟨65, [.t 2, .t 3], Z3.code⟩
/-! muntin/muntinref13.Parts -/
def Zt.r0 : List Oper := [
 oD 2 (.mv (.c (.sn)))]
def Zt.r1 : List Oper := [
 oD 9 (.mv (.t 0)),
 oD 10 (.len (.t 9)),
 oD 11 (.mks 1 1 [.b false] (.t 10) (.t 10)),
 oD 3 (.mv (.t 11))]
def Zt.r2 : List Oper := [
 oD 4 (.mv (.c (.sn)))]
def Zt.r3 : List Oper := [
 oD 5 (.mv (.c (.i .i64 0)))]
def Zt.r4 : List Oper := [
 oD 12 (.mv (.t 5)),
 oD 13 (.mv (.t 0)),
 oD 14 (.len (.t 13)),
 oD 15 (.bin .lss (.t 12) (.t 14))]
def Zt.r6 : List Oper := [
 oD 18 (.mv (.t 3)),
 oD 19 (.mv (.t 5)),
 oD 20 (.ixa 1 (.t 18) (.t 19)),
 oD 21 (.ld false 1 (.t 20))]
def Zt.r7 : List Oper := [
 oD 22 (.mv (.t 0)),
 oD 23 (.mv (.t 5)),
 oD 24 (.call (.c (.f 36 [])) [.t 22, .t 23]),
 oD 6 (.mv (.t 24))]
def Zt.r8 : List Oper := [
 oD 7 (.mv (.c (.sn)))]
def Zt.r9 : List Oper := [
 oD 8 (.mv (.c (.i .i64 0)))]
def Zt.r10 : List Oper := [
 oD 25 (.mv (.t 8)),
 oD 26 (.mv (.t 0)),
 oD 27 (.len (.t 26)),
 oD 28 (.bin .lss (.t 25) (.t 27))]
def Zt.r12 : List Oper := [
 oD 31 (.mv (.t 6)),
 oD 32 (.mv (.t 8)),
 oD 33 (.ixa 1 (.t 31) (.t 32)),
 oD 34 (.ld false 1 (.t 33)),
 oD 35 (.bin .geq (.t 34) (.c (.i .i64 0)))]
def Zt.r13 : List Oper := [
 oD 36 (.mv (.t 3)),
 oD 37 (.mv (.t 8)),
 oD 38 (.ixa 1 (.t 36) (.t 37)),
 oN (.st 1 (.t 38) (.c (.b true)))]
def Zt.r14 : List Oper := [
 oD 39 (.mv (.t 7)),
 oD 40 (.mv (.t 8)),
 oD 41 (.bsl 1 1 [.i .i64 0] [(0, 1, .t 40)]),
 oD 42 (.app 1 8 (.t 39) (.t 41)),
 oD 7 (.mv (.t 42))]
def Zt.r11 : List Oper := [
 oD 29 (.mv (.t 8)),
 oD 30 (.bin .add (.t 29) (.c (.i .i64 1))),
 oD 8 (.mv (.t 30))]
def Zt.l0 : Code := .seq (.seq (.region Zt.r10) (.cond (.t 28) (.skip) (.exit 2))) (.seq (.block 3 (.seq (.region Zt.r12) (.cond (.t 35) (.seq (.region Zt.r13) (.region Zt.r14)) (.skip)))) (.region Zt.r11))
def Zt.r15 : List Oper := [
 oD 43 (.mv (.t 4)),
 oD 44 (.mv (.t 7)),
 oD 45 (.bsl 1 1 [.sn] [(0, 1, .t 44)]),
 oD 46 (.app 1 24 (.t 43) (.t 45)),
 oD 4 (.mv (.t 46))]
def Zt.r5 : List Oper := [
 oD 16 (.mv (.t 5)),
 oD 17 (.bin .add (.t 16) (.c (.i .i64 1))),
 oD 5 (.mv (.t 17))]
def Zt.l1 : Code := .seq (.seq (.region Zt.r4) (.cond (.t 15) (.skip) (.exit 0))) (.seq (.block 1 (.seq (.seq (.region Zt.r6) (.cond (.t 21) (.exit 1) (.skip))) (.seq (.region Zt.r7) (.seq (.region Zt.r8) (.seq (.seq (.region Zt.r9) (.block 2 (.loop Zt.l0))) (.region Zt.r15)))))) (.region Zt.r5))
def Zt.r16 : List Oper := [
 oD 47 (.mv (.t 4)),
 oD 2 (.mv (.t 47))]
def Zt.code : Code := .seq (.region Zt.r0) (.seq (.region Zt.r1) (.seq (.region Zt.r2) (.seq (.seq (.region Zt.r3) (.block 0 (.loop Zt.l1))) (.seq (.region Zt.r16) (.ret)))))
def Zt : Func := ⟨48, [.t 2], Zt.code⟩
/-! muntin/join.Whole -/
def Zaa.r0 : List Oper := [
 oD 2 (.mv (.c (.b false)))]
def Zaa.r1 : List Oper := [
 oD 6 (.mv (.t 0)),
 oD 7 (.call (.c (.f 29 [])) [.t 6]),
 oD 5 (.mv (.t 7)),
 oD 8 (.ext (.t 5) 0),
 oD 9 (.ext (.t 5) 1),
 oD 3 (.mv (.t 8)),
 oD 4 (.mv (.t 9))]
def Zaa.r2 : List Oper := [
 oD 10 (.mv (.t 4)),
 oD 11 (.eq false .sc (.t 10) (.c (.i .i64 0))),
 oD 12 (.mv (.t 11)),
 ⟨(some 13), .mv (.t 3), (some (12, true))⟩,
 ⟨(some 14), .len (.t 13), (some (12, true))⟩,
 ⟨(some 15), .eq false .sc (.t 14) (.c (.i .i64 1)), (some (12, true))⟩,
 oD 16 (.pick (.t 12) (.t 15) (.c (.b false))),
 oD 2 (.mv (.t 16))]
def Zaa.code : Code := .seq (.region Zaa.r0) (.seq (.region Zaa.r1) (.seq (.region Zaa.r2) (.ret)))
def Zaa : Func := ⟨17, [.t 2], Zaa.code⟩
/-! muntin/muntinref10.Check -/
def Zp.r0 : List Oper := [
 oD 2 (.mv (.c (.i .i64 0)))]
def Zp.r1 : List Oper := [
 oD 7 (.mv (.t 0)),
 oD 8 (.len (.t 7)),
 oD 9 (.bin .gtr (.t 8) (.c (.i .i64 4096)))]
def Zp.r2 : List Oper := [
 oD 2 (.mv (.c (.i .i64 6)))]
def Zp.r3 : List Oper := [
 oD 3 (.mv (.c (.i .i64 0)))]
def Zp.r4 : List Oper := [
 oD 10 (.mv (.t 3)),
 oD 11 (.mv (.t 0)),
 oD 12 (.len (.t 11)),
 oD 13 (.bin .lss (.t 10) (.t 12))]
def Zp.r6 : List Oper := [
 oD 4 (.mv (.c (.i .i64 0)))]
def Zp.r7 : List Oper := [
 oD 16 (.mv (.t 4)),
 oD 17 (.bin .lss (.t 16) (.c (.i .i64 4)))]
def Zp.r9 : List Oper := [
 oD 20 (.mv (.t 0)),
 oD 21 (.mv (.t 3)),
 oD 22 (.mv (.t 4)),
 oD 23 (.ixa 8 (.t 20) (.t 21)),
 oD 24 (.fa 0 (.t 23)),
 oD 25 (.ixaa 1 4 (.t 24) (.t 22)),
 oD 26 (.ld false 1 (.t 25)),
 oD 5 (.mv (.t 26))]
def Zp.r10 : List Oper := [
 oD 27 (.mv (.t 0)),
 oD 28 (.mv (.t 3)),
 oD 29 (.mv (.t 4)),
 oD 30 (.ixa 8 (.t 27) (.t 28)),
 oD 31 (.fa 4 (.t 30)),
 oD 32 (.ixaa 1 4 (.t 31) (.t 29)),
 oD 33 (.ld false 1 (.t 32)),
 oD 6 (.mv (.t 33))]
def Zp.r11 : List Oper := [
 oD 34 (.mv (.t 5)),
 oD 35 (.eq false .sc (.t 34) (.c (.i .i64 (-1))))]
def Zp.r12 : List Oper := [
 oD 36 (.mv (.t 6)),
 oD 37 (.eq true .sc (.t 36) (.c (.i .i64 0)))]
def Zp.r13 : List Oper := [
 oD 2 (.mv (.c (.i .i64 9)))]
def Zp.r14 : List Oper := [
 oD 38 (.mv (.t 5)),
 oD 39 (.bin .lss (.t 38) (.c (.i .i64 0))),
 oD 40 (.mv (.t 39)),
 ⟨(some 41), .mv (.t 5), (some (40, false))⟩,
 ⟨(some 42), .mv (.t 0), (some (40, false))⟩,
 ⟨(some 43), .len (.t 42), (some (40, false))⟩,
 ⟨(some 44), .bin .geq (.t 41) (.t 43), (some (40, false))⟩,
 oD 45 (.pick (.t 40) (.c (.b true)) (.t 44)),
 oD 46 (.mv (.t 45)),
 ⟨(some 47), .mv (.t 5), (some (46, false))⟩,
 ⟨(some 48), .mv (.t 3), (some (46, false))⟩,
 ⟨(some 49), .eq false .sc (.t 47) (.t 48), (some (46, false))⟩,
 oD 50 (.pick (.t 46) (.c (.b true)) (.t 49))]
def Zp.r15 : List Oper := [
 oD 2 (.mv (.c (.i .i64 3)))]
def Zp.r16 : List Oper := [
 oD 51 (.mv (.t 0)),
 oD 52 (.mv (.t 5)),
 oD 53 (.mv (.t 4)),
 oD 54 (.bin .add (.t 53) (.c (.i .i64 2))),
 oD 55 (.bin .rem (.t 54) (.c (.i .i64 4))),
 oD 56 (.ixa 8 (.t 51) (.t 52)),
 oD 57 (.fa 0 (.t 56)),
 oD 58 (.ixaa 1 4 (.t 57) (.t 55)),
 oD 59 (.ld false 1 (.t 58)),
 oD 60 (.mv (.t 3)),
 oD 61 (.eq true .sc (.t 59) (.t 60)),
 oD 62 (.mv (.t 61)),
 ⟨(some 63), .mv (.t 0), (some (62, false))⟩,
 ⟨(some 64), .mv (.t 5), (some (62, false))⟩,
 ⟨(some 65), .mv (.t 4), (some (62, false))⟩,
 ⟨(some 66), .bin .add (.t 65) (.c (.i .i64 2)), (some (62, false))⟩,
 ⟨(some 67), .bin .rem (.t 66) (.c (.i .i64 4)), (some (62, false))⟩,
 ⟨(some 68), .ixa 8 (.t 63) (.t 64), (some (62, false))⟩,
 ⟨(some 69), .fa 4 (.t 68), (some (62, false))⟩,
 ⟨(some 70), .ixaa 1 4 (.t 69) (.t 67), (some (62, false))⟩,
 ⟨(some 71), .ld false 1 (.t 70), (some (62, false))⟩,
 ⟨(some 72), .mv (.t 6), (some (62, false))⟩,
 ⟨(some 73), .eq true .sc (.t 71) (.t 72), (some (62, false))⟩,
 oD 74 (.pick (.t 62) (.c (.b true)) (.t 73)),
 oD 75 (.mv (.t 74)),
 ⟨(some 76), .mv (.t 6), (some (75, false))⟩,
 ⟨(some 77), .bin .lss (.t 76) (.c (.i .i64 (-2))), (some (75, false))⟩,
 oD 78 (.pick (.t 75) (.c (.b true)) (.t 77))]
def Zp.r17 : List Oper := [
 oD 2 (.mv (.c (.i .i64 9)))]
def Zp.r8 : List Oper := [
 oD 18 (.mv (.t 4)),
 oD 19 (.bin .add (.t 18) (.c (.i .i64 1))),
 oD 4 (.mv (.t 19))]
def Zp.l0 : Code := .seq (.seq (.region Zp.r7) (.cond (.t 17) (.skip) (.exit 2))) (.seq (.block 3 (.seq (.region Zp.r9) (.seq (.region Zp.r10) (.seq (.seq (.region Zp.r11) (.cond (.t 35) (.seq (.seq (.region Zp.r12) (.cond (.t 37) (.seq (.region Zp.r13) (.ret)) (.skip))) (.exit 3)) (.skip))) (.seq (.seq (.region Zp.r14) (.cond (.t 50) (.seq (.region Zp.r15) (.ret)) (.skip))) (.seq (.region Zp.r16) (.cond (.t 78) (.seq (.region Zp.r17) (.ret)) (.skip)))))))) (.region Zp.r8))
def Zp.r5 : List Oper := [
 oD 14 (.mv (.t 3)),
 oD 15 (.bin .add (.t 14) (.c (.i .i64 1))),
 oD 3 (.mv (.t 15))]
def Zp.l1 : Code := .seq (.seq (.region Zp.r4) (.cond (.t 13) (.skip) (.exit 0))) (.seq (.block 1 (.seq (.region Zp.r6) (.block 2 (.loop Zp.l0)))) (.region Zp.r5))
def Zp.r18 : List Oper := [
 oD 2 (.mv (.c (.i .i64 0)))]
def Zp.code : Code := .seq (.region Zp.r0) (.seq (.seq (.region Zp.r1) (.cond (.t 9) (.seq (.region Zp.r2) (.ret)) (.skip))) (.seq (.seq (.region Zp.r3) (.block 0 (.loop Zp.l1))) (.seq (.region Zp.r18) (.ret))))
def Zp : Func := ⟨79, [.t 2], Zp.code⟩
/-! muntin/muntinref13.Far -/
def Zr.r0 : List Oper := [
 oD 4 (.mv (.c (.sn)))]
def Zr.r1 : List Oper := [
 oD 11 (.mv (.t 0)),
 oD 12 (.len (.t 11)),
 oD 13 (.mks 1 8 [.i .i64 0] (.t 12) (.t 12)),
 oD 5 (.mv (.t 13))]
def Zr.r2 : List Oper := [
 oD 6 (.mv (.c (.i .i64 0)))]
def Zr.r3 : List Oper := [
 oD 14 (.mv (.t 6)),
 oD 15 (.mv (.t 0)),
 oD 16 (.len (.t 15)),
 oD 17 (.bin .lss (.t 14) (.t 16))]
def Zr.r5 : List Oper := [
 oD 20 (.mv (.t 5)),
 oD 21 (.mv (.t 6)),
 oD 22 (.ixa 1 (.t 20) (.t 21)),
 oN (.st 1 (.t 22) (.c (.i .i64 (-1))))]
def Zr.r4 : List Oper := [
 oD 18 (.mv (.t 6)),
 oD 19 (.bin .add (.t 18) (.c (.i .i64 1))),
 oD 6 (.mv (.t 19))]
def Zr.l0 : Code := .seq (.seq (.region Zr.r3) (.cond (.t 17) (.skip) (.exit 0))) (.seq (.block 1 (.region Zr.r5)) (.region Zr.r4))
def Zr.r6 : List Oper := [
 oD 23 (.mv (.t 5)),
 oD 24 (.mv (.t 1)),
 oD 25 (.ixa 1 (.t 23) (.t 24)),
 oN (.st 1 (.t 25) (.c (.i .i64 0)))]
def Zr.r7 : List Oper := [
 oD 7 (.mv (.c (.i .i64 0)))]
def Zr.r8 : List Oper := [
 oD 26 (.mv (.t 7)),
 oD 27 (.mv (.t 0)),
 oD 28 (.len (.t 27)),
 oD 29 (.bin .lss (.t 26) (.t 28))]
def Zr.r10 : List Oper := [
 oD 8 (.mv (.c (.i .i64 0)))]
def Zr.r11 : List Oper := [
 oD 32 (.mv (.t 8)),
 oD 33 (.mv (.t 0)),
 oD 34 (.len (.t 33)),
 oD 35 (.bin .lss (.t 32) (.t 34))]
def Zr.r13 : List Oper := [
 oD 9 (.mv (.c (.i .i64 0)))]
def Zr.r14 : List Oper := [
 oD 38 (.mv (.t 9)),
 oD 39 (.bin .lss (.t 38) (.c (.i .i64 4)))]
def Zr.r16 : List Oper := [
 oD 42 (.mv (.t 0)),
 oD 43 (.mv (.t 8)),
 oD 44 (.mv (.t 9)),
 oD 45 (.ixa 8 (.t 42) (.t 43)),
 oD 46 (.fa 0 (.t 45)),
 oD 47 (.ixaa 1 4 (.t 46) (.t 44)),
 oD 48 (.ld false 1 (.t 47)),
 oD 10 (.mv (.t 48))]
def Zr.r17 : List Oper := [
 oD 49 (.mv (.t 5)),
 oD 50 (.mv (.t 8)),
 oD 51 (.ixa 1 (.t 49) (.t 50)),
 oD 52 (.ld false 1 (.t 51)),
 oD 53 (.mv (.t 7)),
 oD 54 (.eq false .sc (.t 52) (.t 53)),
 oD 55 (.mv (.t 54)),
 ⟨(some 56), .mv (.t 10), (some (55, true))⟩,
 ⟨(some 57), .bin .geq (.t 56) (.c (.i .i64 0)), (some (55, true))⟩,
 oD 58 (.pick (.t 55) (.t 57) (.c (.b false))),
 oD 59 (.mv (.t 58)),
 ⟨(some 60), .mv (.t 5), (some (59, true))⟩,
 ⟨(some 61), .mv (.t 10), (some (59, true))⟩,
 ⟨(some 62), .mx [.t 61, .c (.i .i64 0)], (some (59, true))⟩,
 ⟨(some 63), .ixa 1 (.t 60) (.t 62), (some (59, true))⟩,
 ⟨(some 64), .ld false 1 (.t 63), (some (59, true))⟩,
 ⟨(some 65), .bin .lss (.t 64) (.c (.i .i64 0)), (some (59, true))⟩,
 oD 66 (.pick (.t 59) (.t 65) (.c (.b false)))]
def Zr.r18 : List Oper := [
 oD 67 (.mv (.t 5)),
 oD 68 (.mv (.t 10)),
 oD 69 (.mv (.t 7)),
 oD 70 (.bin .add (.t 69) (.c (.i .i64 1))),
 oD 71 (.ixa 1 (.t 67) (.t 68)),
 oN (.st 1 (.t 71) (.t 70))]
def Zr.r15 : List Oper := [
 oD 40 (.mv (.t 9)),
 oD 41 (.bin .add (.t 40) (.c (.i .i64 1))),
 oD 9 (.mv (.t 41))]
def Zr.l1 : Code := .seq (.seq (.region Zr.r14) (.cond (.t 39) (.skip) (.exit 6))) (.seq (.block 7 (.seq (.region Zr.r16) (.seq (.region Zr.r17) (.cond (.t 66) (.region Zr.r18) (.skip))))) (.region Zr.r15))
def Zr.r12 : List Oper := [
 oD 36 (.mv (.t 8)),
 oD 37 (.bin .add (.t 36) (.c (.i .i64 1))),
 oD 8 (.mv (.t 37))]
def Zr.l2 : Code := .seq (.seq (.region Zr.r11) (.cond (.t 35) (.skip) (.exit 4))) (.seq (.block 5 (.seq (.region Zr.r13) (.block 6 (.loop Zr.l1)))) (.region Zr.r12))
def Zr.r9 : List Oper := [
 oD 30 (.mv (.t 7)),
 oD 31 (.bin .add (.t 30) (.c (.i .i64 1))),
 oD 7 (.mv (.t 31))]
def Zr.l3 : Code := .seq (.seq (.region Zr.r8) (.cond (.t 29) (.skip) (.exit 2))) (.seq (.block 3 (.seq (.region Zr.r10) (.block 4 (.loop Zr.l2)))) (.region Zr.r9))
def Zr.r19 : List Oper := [
 oD 72 (.mv (.t 5)),
 oD 4 (.mv (.t 72))]
def Zr.code : Code := .seq (.region Zr.r0) (.seq (.region Zr.r1) (.seq (.seq (.region Zr.r2) (.block 0 (.loop Zr.l0))) (.seq (.region Zr.r6) (.seq (.seq (.region Zr.r7) (.block 2 (.loop Zr.l3))) (.seq (.region Zr.r19) (.ret))))))
def Zr : Func := ⟨73, [.t 4], Zr.code⟩
/-! muntin/muntinref10.New -/
def ZI.r0 : List Oper := [
 oD 2 (.mv (.c (.sn)))]
def ZI.r1 : List Oper := [
 oD 6 (.mv (.t 0)),
 oD 7 (.mks 8 64 [.i .i64 0, .i .i64 0, .i .i64 0, .i .i64 0, .i .i64 0, .i .i64 0, .i .i64 0, .i .i64 0] (.t 6) (.t 6)),
 oD 3 (.mv (.t 7))]
def ZI.r2 : List Oper := [
 oD 4 (.mv (.c (.i .i64 0)))]
def ZI.r3 : List Oper := [
 oD 8 (.mv (.t 4)),
 oD 9 (.mv (.t 0)),
 oD 10 (.bin .lss (.t 8) (.t 9))]
def ZI.r5 : List Oper := [
 oD 5 (.mv (.c (.i .i64 0)))]
def ZI.r6 : List Oper := [
 oD 13 (.mv (.t 5)),
 oD 14 (.bin .lss (.t 13) (.c (.i .i64 4)))]
def ZI.r8 : List Oper := [
 oD 17 (.mv (.t 3)),
 oD 18 (.mv (.t 4)),
 oD 19 (.mv (.t 5)),
 oD 20 (.ixa 8 (.t 17) (.t 18)),
 oD 21 (.fa 0 (.t 20)),
 oD 22 (.ixaa 1 4 (.t 21) (.t 19)),
 oN (.st 1 (.t 22) (.c (.i .i64 (-1))))]
def ZI.r7 : List Oper := [
 oD 15 (.mv (.t 5)),
 oD 16 (.bin .add (.t 15) (.c (.i .i64 1))),
 oD 5 (.mv (.t 16))]
def ZI.l0 : Code := .seq (.seq (.region ZI.r6) (.cond (.t 14) (.skip) (.exit 2))) (.seq (.block 3 (.region ZI.r8)) (.region ZI.r7))
def ZI.r4 : List Oper := [
 oD 11 (.mv (.t 4)),
 oD 12 (.bin .add (.t 11) (.c (.i .i64 1))),
 oD 4 (.mv (.t 12))]
def ZI.l1 : Code := .seq (.seq (.region ZI.r3) (.cond (.t 10) (.skip) (.exit 0))) (.seq (.block 1 (.seq (.region ZI.r5) (.block 2 (.loop ZI.l0)))) (.region ZI.r4))
def ZI.r9 : List Oper := [
 oD 23 (.mv (.t 3)),
 oD 2 (.mv (.t 23))]
def ZI.code : Code := .seq (.region ZI.r0) (.seq (.region ZI.r1) (.seq (.seq (.region ZI.r2) (.block 0 (.loop ZI.l1))) (.seq (.region ZI.r9) (.ret))))
def ZI : Func := ⟨24, [.t 2], ZI.code⟩
/-! muntin/front.right -/
def Zag.r0 : List Oper := [
 oD 2 (.mv (.c (.b false)))]
def Zag.r1 : List Oper := [
 oD 3 (.mv (.t 0)),
 oD 4 (.call (.c (.f 78 [])) [.t 3, .c (.f 79 [])]),
 oD 5 (.un .not (.t 4)),
 oD 2 (.mv (.t 5))]
def Zag.code : Code := .seq (.region Zag.r0) (.seq (.region Zag.r1) (.ret))
def Zag : Func := ⟨6, [.t 2], Zag.code⟩
/-! muntin/muntinref10.Nearest -/
def Z4.r0 : List Oper := [
 oD 6 (.mv (.c (.i .i64 0)))]
def Z4.r1 : List Oper := [
 oD 7 (.mv (.c (.i .i64 (-1))))]
def Z4.r2 : List Oper := [
 oD 8 (.mv (.c (.i .i64 0)))]
def Z4.r3 : List Oper := [
 oD 9 (.mv (.t 8)),
 oD 10 (.mv (.t 0)),
 oD 11 (.len (.t 10)),
 oD 12 (.bin .lss (.t 9) (.t 11))]
def Z4.r5 : List Oper := [
 oD 15 (.mv (.t 2)),
 oD 16 (.eq false .sc (.t 15) (.c (.i .i64 0))),
 oD 17 (.mv (.t 16)),
 ⟨(some 18), .mv (.t 0), (some (17, true))⟩,
 ⟨(some 19), .mv (.t 8), (some (17, true))⟩,
 ⟨(some 20), .ixa 2 (.t 18) (.t 19), (some (17, true))⟩,
 ⟨(some 21), .fa 1 (.t 20), (some (17, true))⟩,
 ⟨(some 22), .ld false 1 (.t 21), (some (17, true))⟩,
 ⟨(some 23), .mv (.t 0), (some (17, true))⟩,
 ⟨(some 24), .mv (.t 1), (some (17, true))⟩,
 ⟨(some 25), .ixa 2 (.t 23) (.t 24), (some (17, true))⟩,
 ⟨(some 26), .fa 1 (.t 25), (some (17, true))⟩,
 ⟨(some 27), .ld false 1 (.t 26), (some (17, true))⟩,
 ⟨(some 28), .eq false .sc (.t 22) (.t 27), (some (17, true))⟩,
 oD 29 (.pick (.t 17) (.t 28) (.c (.b false))),
 oD 30 (.mv (.t 29)),
 ⟨(some 31), .mv (.t 0), (some (30, true))⟩,
 ⟨(some 32), .mv (.t 8), (some (30, true))⟩,
 ⟨(some 33), .ixa 2 (.t 31) (.t 32), (some (30, true))⟩,
 ⟨(some 34), .fa 0 (.t 33), (some (30, true))⟩,
 ⟨(some 35), .ld false 1 (.t 34), (some (30, true))⟩,
 ⟨(some 36), .mv (.t 0), (some (30, true))⟩,
 ⟨(some 37), .mv (.t 1), (some (30, true))⟩,
 ⟨(some 38), .ixa 2 (.t 36) (.t 37), (some (30, true))⟩,
 ⟨(some 39), .fa 0 (.t 38), (some (30, true))⟩,
 ⟨(some 40), .ld false 1 (.t 39), (some (30, true))⟩,
 ⟨(some 41), .bin .gtr (.t 35) (.t 40), (some (30, true))⟩,
 oD 42 (.pick (.t 30) (.t 41) (.c (.b false))),
 oD 43 (.mv (.t 42)),
 ⟨(some 44), .mv (.t 7), (some (43, true))⟩,
 ⟨(some 45), .bin .lss (.t 44) (.c (.i .i64 0)), (some (43, true))⟩,
 ⟨(some 46), .mv (.t 45), (some (43, true))⟩,
 ⟨(some 47), .mv (.t 0), (some (46, false))⟩,
 ⟨(some 48), .mv (.t 8), (some (46, false))⟩,
 ⟨(some 49), .ixa 2 (.t 47) (.t 48), (some (46, false))⟩,
 ⟨(some 50), .fa 0 (.t 49), (some (46, false))⟩,
 ⟨(some 51), .ld false 1 (.t 50), (some (46, false))⟩,
 ⟨(some 52), .mv (.t 0), (some (46, false))⟩,
 ⟨(some 53), .mv (.t 7), (some (46, false))⟩,
 ⟨(some 54), .ixa 2 (.t 52) (.t 53), (some (46, false))⟩,
 ⟨(some 55), .fa 0 (.t 54), (some (46, false))⟩,
 ⟨(some 56), .ld false 1 (.t 55), (some (46, false))⟩,
 ⟨(some 57), .bin .lss (.t 51) (.t 56), (some (46, false))⟩,
 ⟨(some 58), .pick (.t 46) (.c (.b true)) (.t 57), (some (43, true))⟩,
 oD 59 (.pick (.t 43) (.t 58) (.c (.b false)))]
def Z4.r6 : List Oper := [
 oD 60 (.mv (.t 8)),
 oD 7 (.mv (.t 60))]
def Z4.r7 : List Oper := [
 oD 61 (.mv (.t 2)),
 oD 62 (.eq false .sc (.t 61) (.c (.i .i64 1))),
 oD 63 (.mv (.t 62)),
 ⟨(some 64), .mv (.t 0), (some (63, true))⟩,
 ⟨(some 65), .mv (.t 8), (some (63, true))⟩,
 ⟨(some 66), .ixa 2 (.t 64) (.t 65), (some (63, true))⟩,
 ⟨(some 67), .fa 0 (.t 66), (some (63, true))⟩,
 ⟨(some 68), .ld false 1 (.t 67), (some (63, true))⟩,
 ⟨(some 69), .mv (.t 0), (some (63, true))⟩,
 ⟨(some 70), .mv (.t 1), (some (63, true))⟩,
 ⟨(some 71), .ixa 2 (.t 69) (.t 70), (some (63, true))⟩,
 ⟨(some 72), .fa 0 (.t 71), (some (63, true))⟩,
 ⟨(some 73), .ld false 1 (.t 72), (some (63, true))⟩,
 ⟨(some 74), .eq false .sc (.t 68) (.t 73), (some (63, true))⟩,
 oD 75 (.pick (.t 63) (.t 74) (.c (.b false))),
 oD 76 (.mv (.t 75)),
 ⟨(some 77), .mv (.t 0), (some (76, true))⟩,
 ⟨(some 78), .mv (.t 8), (some (76, true))⟩,
 ⟨(some 79), .ixa 2 (.t 77) (.t 78), (some (76, true))⟩,
 ⟨(some 80), .fa 1 (.t 79), (some (76, true))⟩,
 ⟨(some 81), .ld false 1 (.t 80), (some (76, true))⟩,
 ⟨(some 82), .mv (.t 0), (some (76, true))⟩,
 ⟨(some 83), .mv (.t 1), (some (76, true))⟩,
 ⟨(some 84), .ixa 2 (.t 82) (.t 83), (some (76, true))⟩,
 ⟨(some 85), .fa 1 (.t 84), (some (76, true))⟩,
 ⟨(some 86), .ld false 1 (.t 85), (some (76, true))⟩,
 ⟨(some 87), .bin .gtr (.t 81) (.t 86), (some (76, true))⟩,
 oD 88 (.pick (.t 76) (.t 87) (.c (.b false))),
 oD 89 (.mv (.t 88)),
 ⟨(some 90), .mv (.t 7), (some (89, true))⟩,
 ⟨(some 91), .bin .lss (.t 90) (.c (.i .i64 0)), (some (89, true))⟩,
 ⟨(some 92), .mv (.t 91), (some (89, true))⟩,
 ⟨(some 93), .mv (.t 0), (some (92, false))⟩,
 ⟨(some 94), .mv (.t 8), (some (92, false))⟩,
 ⟨(some 95), .ixa 2 (.t 93) (.t 94), (some (92, false))⟩,
 ⟨(some 96), .fa 1 (.t 95), (some (92, false))⟩,
 ⟨(some 97), .ld false 1 (.t 96), (some (92, false))⟩,
 ⟨(some 98), .mv (.t 0), (some (92, false))⟩,
 ⟨(some 99), .mv (.t 7), (some (92, false))⟩,
 ⟨(some 100), .ixa 2 (.t 98) (.t 99), (some (92, false))⟩,
 ⟨(some 101), .fa 1 (.t 100), (some (92, false))⟩,
 ⟨(some 102), .ld false 1 (.t 101), (some (92, false))⟩,
 ⟨(some 103), .bin .lss (.t 97) (.t 102), (some (92, false))⟩,
 ⟨(some 104), .pick (.t 92) (.c (.b true)) (.t 103), (some (89, true))⟩,
 oD 105 (.pick (.t 89) (.t 104) (.c (.b false)))]
def Z4.r8 : List Oper := [
 oD 106 (.mv (.t 8)),
 oD 7 (.mv (.t 106))]
def Z4.r4 : List Oper := [
 oD 13 (.mv (.t 8)),
 oD 14 (.bin .add (.t 13) (.c (.i .i64 1))),
 oD 8 (.mv (.t 14))]
def Z4.l0 : Code := .seq (.seq (.region Z4.r3) (.cond (.t 12) (.skip) (.exit 0))) (.seq (.block 1 (.seq (.seq (.draw Z4.r5 [(7, 12), (20, 25), (36, 41)]) (.cond (.t 59) (.region Z4.r6) (.skip))) (.seq (.draw Z4.r7 [(7, 12), (20, 25), (36, 41)]) (.cond (.t 105) (.region Z4.r8) (.skip))))) (.region Z4.r4))
def Z4.r9 : List Oper := [
 oD 107 (.mv (.t 7)),
 oD 6 (.mv (.t 107))]
def Z4.code : Code := .seq (.region Z4.r0) (.seq (.region Z4.r1) (.seq (.seq (.region Z4.r2) (.block 0 (.loop Z4.l0))) (.seq (.region Z4.r9) (.ret))))
def Z4 : Func := ⟨108, [.t 6], Z4.code⟩
/-! muntin/muntinref10.Crossed -/
def Zs.r0 : List Oper := [
 oD 8 (.mv (.c (.b false)))]
def Zs.r1 : List Oper := [
 oD 9 (.mv (.c (.i .i64 0)))]
def Zs.r2 : List Oper := [
 oD 14 (.mv (.t 9)),
 oD 15 (.mv (.t 1)),
 oD 16 (.len (.t 15)),
 oD 17 (.bin .lss (.t 14) (.t 16))]
def Zs.r4 : List Oper := [
 oD 10 (.mv (.c (.i .i64 0)))]
def Zs.r5 : List Oper := [
 oD 20 (.mv (.t 10)),
 oD 21 (.bin .lss (.t 20) (.c (.i .i64 2)))]
def Zs.r7 : List Oper := [
 oD 24 (.mv (.t 1)),
 oD 25 (.mv (.t 9)),
 oD 26 (.mv (.t 10)),
 oD 27 (.ixa 8 (.t 24) (.t 25)),
 oD 28 (.fa 0 (.t 27)),
 oD 29 (.ixaa 1 4 (.t 28) (.t 26)),
 oD 30 (.ld false 1 (.t 29)),
 oD 11 (.mv (.t 30))]
def Zs.r8 : List Oper := [
 oD 31 (.mv (.t 11)),
 oD 32 (.bin .lss (.t 31) (.c (.i .i64 0)))]
def Zs.r9 : List Oper := [
 oD 33 (.mv (.t 0)),
 oD 34 (.mv (.t 9)),
 oD 35 (.ixa 2 (.t 33) (.t 34)),
 oD 36 (.ld true 2 (.t 35)),
 oD 12 (.alloc [.i .i64 0, .i .i64 0]),
 oN (.st 2 (.t 12) (.t 36))]
def Zs.r10 : List Oper := [
 oD 37 (.mv (.t 0)),
 oD 38 (.mv (.t 11)),
 oD 39 (.ixa 2 (.t 37) (.t 38)),
 oD 40 (.ld true 2 (.t 39)),
 oD 13 (.alloc [.i .i64 0, .i .i64 0]),
 oN (.st 2 (.t 13) (.t 40))]
def Zs.r11 : List Oper := [
 oD 41 (.fa 1 (.t 12)),
 oD 42 (.ld false 1 (.t 41)),
 oD 43 (.fa 1 (.t 13)),
 oD 44 (.ld false 1 (.t 43)),
 oD 45 (.eq false .sc (.t 42) (.t 44)),
 oD 46 (.mv (.t 45)),
 ⟨(some 47), .mv (.t 0), (some (46, true))⟩,
 ⟨(some 48), .mv (.t 2), (some (46, true))⟩,
 ⟨(some 49), .ixa 2 (.t 47) (.t 48), (some (46, true))⟩,
 ⟨(some 50), .fa 0 (.t 49), (some (46, true))⟩,
 ⟨(some 51), .ld false 1 (.t 50), (some (46, true))⟩,
 ⟨(some 52), .mv (.t 0), (some (46, true))⟩,
 ⟨(some 53), .mv (.t 3), (some (46, true))⟩,
 ⟨(some 54), .ixa 2 (.t 52) (.t 53), (some (46, true))⟩,
 ⟨(some 55), .fa 0 (.t 54), (some (46, true))⟩,
 ⟨(some 56), .ld false 1 (.t 55), (some (46, true))⟩,
 ⟨(some 57), .eq false .sc (.t 51) (.t 56), (some (46, true))⟩,
 oD 58 (.pick (.t 46) (.t 57) (.c (.b false))),
 oD 59 (.mv (.t 58)),
 ⟨(some 60), .fa 0 (.t 12), (some (59, true))⟩,
 ⟨(some 61), .ld false 1 (.t 60), (some (59, true))⟩,
 ⟨(some 62), .mv (.t 0), (some (59, true))⟩,
 ⟨(some 63), .mv (.t 2), (some (59, true))⟩,
 ⟨(some 64), .ixa 2 (.t 62) (.t 63), (some (59, true))⟩,
 ⟨(some 65), .fa 0 (.t 64), (some (59, true))⟩,
 ⟨(some 66), .ld false 1 (.t 65), (some (59, true))⟩,
 ⟨(some 67), .bin .lss (.t 61) (.t 66), (some (59, true))⟩,
 oD 68 (.pick (.t 59) (.t 67) (.c (.b false))),
 oD 69 (.mv (.t 68)),
 ⟨(some 70), .mv (.t 0), (some (69, true))⟩,
 ⟨(some 71), .mv (.t 2), (some (69, true))⟩,
 ⟨(some 72), .ixa 2 (.t 70) (.t 71), (some (69, true))⟩,
 ⟨(some 73), .fa 0 (.t 72), (some (69, true))⟩,
 ⟨(some 74), .ld false 1 (.t 73), (some (69, true))⟩,
 ⟨(some 75), .fa 0 (.t 13), (some (69, true))⟩,
 ⟨(some 76), .ld false 1 (.t 75), (some (69, true))⟩,
 ⟨(some 77), .bin .lss (.t 74) (.t 76), (some (69, true))⟩,
 oD 78 (.pick (.t 69) (.t 77) (.c (.b false))),
 oD 79 (.mv (.t 78)),
 ⟨(some 80), .mv (.t 0), (some (79, true))⟩,
 ⟨(some 81), .mv (.t 2), (some (79, true))⟩,
 ⟨(some 82), .ixa 2 (.t 80) (.t 81), (some (79, true))⟩,
 ⟨(some 83), .fa 1 (.t 82), (some (79, true))⟩,
 ⟨(some 84), .ld false 1 (.t 83), (some (79, true))⟩,
 ⟨(some 85), .fa 1 (.t 12), (some (79, true))⟩,
 ⟨(some 86), .ld false 1 (.t 85), (some (79, true))⟩,
 ⟨(some 87), .bin .lss (.t 84) (.t 86), (some (79, true))⟩,
 oD 88 (.pick (.t 79) (.t 87) (.c (.b false))),
 oD 89 (.mv (.t 88)),
 ⟨(some 90), .fa 1 (.t 12), (some (89, true))⟩,
 ⟨(some 91), .ld false 1 (.t 90), (some (89, true))⟩,
 ⟨(some 92), .mv (.t 0), (some (89, true))⟩,
 ⟨(some 93), .mv (.t 3), (some (89, true))⟩,
 ⟨(some 94), .ixa 2 (.t 92) (.t 93), (some (89, true))⟩,
 ⟨(some 95), .fa 1 (.t 94), (some (89, true))⟩,
 ⟨(some 96), .ld false 1 (.t 95), (some (89, true))⟩,
 ⟨(some 97), .bin .lss (.t 91) (.t 96), (some (89, true))⟩,
 oD 98 (.pick (.t 89) (.t 97) (.c (.b false)))]
def Zs.r12 : List Oper := [
 oD 8 (.mv (.c (.b true)))]
def Zs.r13 : List Oper := [
 oD 99 (.fa 0 (.t 12)),
 oD 100 (.ld false 1 (.t 99)),
 oD 101 (.fa 0 (.t 13)),
 oD 102 (.ld false 1 (.t 101)),
 oD 103 (.eq false .sc (.t 100) (.t 102)),
 oD 104 (.mv (.t 103)),
 ⟨(some 105), .mv (.t 0), (some (104, true))⟩,
 ⟨(some 106), .mv (.t 2), (some (104, true))⟩,
 ⟨(some 107), .ixa 2 (.t 105) (.t 106), (some (104, true))⟩,
 ⟨(some 108), .fa 1 (.t 107), (some (104, true))⟩,
 ⟨(some 109), .ld false 1 (.t 108), (some (104, true))⟩,
 ⟨(some 110), .mv (.t 0), (some (104, true))⟩,
 ⟨(some 111), .mv (.t 3), (some (104, true))⟩,
 ⟨(some 112), .ixa 2 (.t 110) (.t 111), (some (104, true))⟩,
 ⟨(some 113), .fa 1 (.t 112), (some (104, true))⟩,
 ⟨(some 114), .ld false 1 (.t 113), (some (104, true))⟩,
 ⟨(some 115), .eq false .sc (.t 109) (.t 114), (some (104, true))⟩,
 oD 116 (.pick (.t 104) (.t 115) (.c (.b false))),
 oD 117 (.mv (.t 116)),
 ⟨(some 118), .mv (.t 0), (some (117, true))⟩,
 ⟨(some 119), .mv (.t 2), (some (117, true))⟩,
 ⟨(some 120), .ixa 2 (.t 118) (.t 119), (some (117, true))⟩,
 ⟨(some 121), .fa 0 (.t 120), (some (117, true))⟩,
 ⟨(some 122), .ld false 1 (.t 121), (some (117, true))⟩,
 ⟨(some 123), .fa 0 (.t 12), (some (117, true))⟩,
 ⟨(some 124), .ld false 1 (.t 123), (some (117, true))⟩,
 ⟨(some 125), .bin .lss (.t 122) (.t 124), (some (117, true))⟩,
 oD 126 (.pick (.t 117) (.t 125) (.c (.b false))),
 oD 127 (.mv (.t 126)),
 ⟨(some 128), .fa 0 (.t 12), (some (127, true))⟩,
 ⟨(some 129), .ld false 1 (.t 128), (some (127, true))⟩,
 ⟨(some 130), .mv (.t 0), (some (127, true))⟩,
 ⟨(some 131), .mv (.t 3), (some (127, true))⟩,
 ⟨(some 132), .ixa 2 (.t 130) (.t 131), (some (127, true))⟩,
 ⟨(some 133), .fa 0 (.t 132), (some (127, true))⟩,
 ⟨(some 134), .ld false 1 (.t 133), (some (127, true))⟩,
 ⟨(some 135), .bin .lss (.t 129) (.t 134), (some (127, true))⟩,
 oD 136 (.pick (.t 127) (.t 135) (.c (.b false))),
 oD 137 (.mv (.t 136)),
 ⟨(some 138), .fa 1 (.t 12), (some (137, true))⟩,
 ⟨(some 139), .ld false 1 (.t 138), (some (137, true))⟩,
 ⟨(some 140), .mv (.t 0), (some (137, true))⟩,
 ⟨(some 141), .mv (.t 2), (some (137, true))⟩,
 ⟨(some 142), .ixa 2 (.t 140) (.t 141), (some (137, true))⟩,
 ⟨(some 143), .fa 1 (.t 142), (some (137, true))⟩,
 ⟨(some 144), .ld false 1 (.t 143), (some (137, true))⟩,
 ⟨(some 145), .bin .lss (.t 139) (.t 144), (some (137, true))⟩,
 oD 146 (.pick (.t 137) (.t 145) (.c (.b false))),
 oD 147 (.mv (.t 146)),
 ⟨(some 148), .mv (.t 0), (some (147, true))⟩,
 ⟨(some 149), .mv (.t 2), (some (147, true))⟩,
 ⟨(some 150), .ixa 2 (.t 148) (.t 149), (some (147, true))⟩,
 ⟨(some 151), .fa 1 (.t 150), (some (147, true))⟩,
 ⟨(some 152), .ld false 1 (.t 151), (some (147, true))⟩,
 ⟨(some 153), .fa 1 (.t 13), (some (147, true))⟩,
 ⟨(some 154), .ld false 1 (.t 153), (some (147, true))⟩,
 ⟨(some 155), .bin .lss (.t 152) (.t 154), (some (147, true))⟩,
 oD 156 (.pick (.t 147) (.t 155) (.c (.b false)))]
def Zs.r14 : List Oper := [
 oD 8 (.mv (.c (.b true)))]
def Zs.r6 : List Oper := [
 oD 22 (.mv (.t 10)),
 oD 23 (.bin .add (.t 22) (.c (.i .i64 1))),
 oD 10 (.mv (.t 23))]
def Zs.l0 : Code := .seq (.seq (.region Zs.r5) (.cond (.t 21) (.skip) (.exit 2))) (.seq (.block 3 (.seq (.region Zs.r7) (.seq (.seq (.region Zs.r8) (.cond (.t 32) (.exit 3) (.skip))) (.seq (.region Zs.r9) (.seq (.region Zs.r10) (.seq (.seq (.draw Zs.r11 [(1, 3), (10, 15), (20, 25), (33, 35), (43, 45), (50, 55)]) (.cond (.t 98) (.seq (.region Zs.r12) (.ret)) (.skip))) (.seq (.draw Zs.r13 [(1, 3), (10, 15), (23, 25), (30, 35), (40, 45), (53, 55)]) (.cond (.t 156) (.seq (.region Zs.r14) (.ret)) (.skip))))))))) (.region Zs.r6))
def Zs.r3 : List Oper := [
 oD 18 (.mv (.t 9)),
 oD 19 (.bin .add (.t 18) (.c (.i .i64 1))),
 oD 9 (.mv (.t 19))]
def Zs.l1 : Code := .seq (.seq (.region Zs.r2) (.cond (.t 17) (.skip) (.exit 0))) (.seq (.block 1 (.seq (.region Zs.r4) (.block 2 (.loop Zs.l0)))) (.region Zs.r3))
def Zs.r15 : List Oper := [
 oD 8 (.mv (.c (.b false)))]
def Zs.code : Code := .seq (.region Zs.r0) (.seq (.seq (.region Zs.r1) (.block 0 (.loop Zs.l1))) (.seq (.region Zs.r15) (.ret)))
def Zs : Func := ⟨157, [.t 8], Zs.code⟩
/-! muntin/muntinref10.with -/
def Z0.r0 : List Oper := [
 oD 10 (.mv (.c (.sn)))]
def Z0.r1 : List Oper := [
 oD 11 (.mv (.c (.sn)))]
def Z0.r2 : List Oper := [
 oD 12 (.mv (.c (.i .i64 0)))]
def Z0.r3 : List Oper := [
 oD 14 (.mv (.t 12)),
 oD 15 (.mv (.t 0)),
 oD 16 (.len (.t 15)),
 oD 17 (.bin .lss (.t 14) (.t 16))]
def Z0.r5 : List Oper := [
 oD 20 (.mv (.t 0)),
 oD 21 (.mv (.t 12)),
 oD 22 (.ixa 8 (.t 20) (.t 21)),
 oD 23 (.ld true 8 (.t 22)),
 oD 13 (.alloc [.i .i64 0, .i .i64 0, .i .i64 0, .i .i64 0, .i .i64 0, .i .i64 0, .i .i64 0, .i .i64 0]),
 oN (.st 8 (.t 13) (.t 23))]
def Z0.r6 : List Oper := [
 oD 24 (.mv (.t 12)),
 oD 25 (.mv (.t 1)),
 oD 26 (.eq false .sc (.t 24) (.t 25))]
def Z0.r7 : List Oper := [
 oD 27 (.mv (.t 2)),
 oD 28 (.mv (.t 3)),
 oD 29 (.fa 0 (.t 13)),
 oD 30 (.ixaa 1 4 (.t 29) (.t 27)),
 oN (.st 1 (.t 30) (.t 28))]
def Z0.r8 : List Oper := [
 oD 31 (.mv (.t 2)),
 oD 32 (.mv (.t 4)),
 oD 33 (.fa 4 (.t 13)),
 oD 34 (.ixaa 1 4 (.t 33) (.t 31)),
 oN (.st 1 (.t 34) (.t 32))]
def Z0.r9 : List Oper := [
 oD 35 (.mv (.t 12)),
 oD 36 (.mv (.t 3)),
 oD 37 (.eq false .sc (.t 35) (.t 36))]
def Z0.r10 : List Oper := [
 oD 38 (.mv (.t 2)),
 oD 39 (.bin .add (.t 38) (.c (.i .i64 2))),
 oD 40 (.bin .rem (.t 39) (.c (.i .i64 4))),
 oD 41 (.mv (.t 1)),
 oD 42 (.fa 0 (.t 13)),
 oD 43 (.ixaa 1 4 (.t 42) (.t 40)),
 oN (.st 1 (.t 43) (.t 41))]
def Z0.r11 : List Oper := [
 oD 44 (.mv (.t 2)),
 oD 45 (.bin .add (.t 44) (.c (.i .i64 2))),
 oD 46 (.bin .rem (.t 45) (.c (.i .i64 4))),
 oD 47 (.mv (.t 4)),
 oD 48 (.fa 4 (.t 13)),
 oD 49 (.ixaa 1 4 (.t 48) (.t 46)),
 oN (.st 1 (.t 49) (.t 47))]
def Z0.r12 : List Oper := [
 oD 50 (.mv (.t 11)),
 oD 51 (.ld true 8 (.t 13)),
 oD 52 (.bsl 8 1 [.i .i64 0, .i .i64 0, .i .i64 0, .i .i64 0, .i .i64 0, .i .i64 0, .i .i64 0, .i .i64 0] [(0, 8, .t 51)]),
 oD 53 (.app 8 64 (.t 50) (.t 52)),
 oD 11 (.mv (.t 53))]
def Z0.r4 : List Oper := [
 oD 18 (.mv (.t 12)),
 oD 19 (.bin .add (.t 18) (.c (.i .i64 1))),
 oD 12 (.mv (.t 19))]
def Z0.l0 : Code := .seq (.seq (.region Z0.r3) (.cond (.t 17) (.skip) (.exit 0))) (.seq (.block 1 (.seq (.region Z0.r5) (.seq (.seq (.region Z0.r6) (.cond (.t 26) (.seq (.region Z0.r7) (.region Z0.r8)) (.skip))) (.seq (.seq (.region Z0.r9) (.cond (.t 37) (.seq (.region Z0.r10) (.region Z0.r11)) (.skip))) (.region Z0.r12))))) (.region Z0.r4))
def Z0.r13 : List Oper := [
 oD 54 (.mv (.t 11)),
 oD 10 (.mv (.t 54))]
def Z0.code : Code := .seq (.region Z0.r0) (.seq (.region Z0.r1) (.seq (.seq (.region Z0.r2) (.block 0 (.loop Z0.l0))) (.seq (.region Z0.r13) (.ret))))
def Z0 : Func := ⟨55, [.t 10], Z0.code⟩
/-! muntin/grid.Check -/
def ZO.r0 : List Oper := [
 oD 2 (.mv (.c (.i .i64 0)))]
def ZO.r1 : List Oper := [
 oD 6 (.mv (.t 0)),
 oD 7 (.len (.t 6)),
 oD 8 (.bin .gtr (.t 7) (.c (.i .i64 4096)))]
def ZO.r2 : List Oper := [
 oD 2 (.mv (.c (.i .i64 6)))]
def ZO.r3 : List Oper := [
 oD 9 (.mv (.t 0)),
 oD 10 (.len (.t 9)),
 oD 11 (.mv (.c (.i .i64 0)))]
def ZO.r4 : List Oper := [
 oD 12 (.bin .lss (.t 11) (.t 10))]
def ZO.r5 : List Oper := [
 oD 13 (.mv (.t 11)),
 oD 3 (.mv (.t 13))]
def ZO.r6 : List Oper := [
 oD 14 (.mv (.c (.i .i64 0)))]
def ZO.r7 : List Oper := [
 oD 15 (.bin .lss (.t 14) (.c (.i .i64 4)))]
def ZO.r8 : List Oper := [
 oD 16 (.mv (.t 14)),
 oD 4 (.mv (.t 16))]
def ZO.r9 : List Oper := [
 oD 17 (.mv (.t 0)),
 oD 18 (.mv (.t 3)),
 oD 19 (.mv (.t 4)),
 oD 20 (.call (.c (.f 82 [])) [.t 17, .t 18, .t 19]),
 oD 5 (.mv (.t 20))]
def ZO.r10 : List Oper := [
 oD 21 (.mv (.t 5)),
 oD 22 (.eq true .sc (.t 21) (.c (.i .i64 0)))]
def ZO.r11 : List Oper := [
 oD 23 (.mv (.t 5)),
 oD 2 (.mv (.t 23))]
def ZO.r12 : List Oper := [
 oD 24 (.bin .add (.t 14) (.c (.i .i64 1))),
 oD 14 (.mv (.t 24))]
def ZO.l0 : Code := .seq (.region ZO.r7) (.seq (.cond (.t 15) (.skip) (.exit 2)) (.seq (.block 3 (.seq (.region ZO.r8) (.seq (.region ZO.r9) (.seq (.region ZO.r10) (.cond (.t 22) (.seq (.region ZO.r11) (.ret)) (.skip)))))) (.region ZO.r12)))
def ZO.r13 : List Oper := [
 oD 25 (.bin .add (.t 11) (.c (.i .i64 1))),
 oD 11 (.mv (.t 25))]
def ZO.l1 : Code := .seq (.region ZO.r4) (.seq (.cond (.t 12) (.skip) (.exit 0)) (.seq (.block 1 (.seq (.region ZO.r5) (.seq (.region ZO.r6) (.block 2 (.loop ZO.l0))))) (.region ZO.r13)))
def ZO.r14 : List Oper := [
 oD 2 (.mv (.c (.i .i64 0)))]
def ZO.code : Code := .seq (.region ZO.r0) (.seq (.seq (.region ZO.r1) (.cond (.t 8) (.seq (.region ZO.r2) (.ret)) (.skip))) (.seq (.seq (.region ZO.r3) (.block 0 (.loop ZO.l1))) (.seq (.region ZO.r14) (.ret))))
def ZO : Func := ⟨26, [.t 2], ZO.code⟩
/-! muntin/join.spread -/
def ZB.r0 : List Oper := [
 oD 4 (.mv (.c (.sn))),
 oD 5 (.mv (.c (.sn)))]
def ZB.r1 : List Oper := [
 oD 13 (.bsl 1 1 [.i .i64 0] [(0, 1, .c (.i .i64 (-1)))]),
 oD 14 (.mv (.t 0)),
 oD 15 (.len (.t 14)),
 oD 16 (.call (.c (.f 83 [])) [.t 13, .t 15]),
 oD 17 (.bsl 1 1 [.i .i64 0] [(0, 1, .c (.i .i64 (-1)))]),
 oD 18 (.mv (.t 0)),
 oD 19 (.len (.t 18)),
 oD 20 (.call (.c (.f 83 [])) [.t 17, .t 19]),
 oD 6 (.mv (.t 16)),
 oD 7 (.mv (.t 20))]
def ZB.r2 : List Oper := [
 oD 21 (.mv (.t 1)),
 oD 22 (.bsl 1 1 [.i .i64 0] [(0, 1, .t 21)]),
 oD 8 (.mv (.t 22))]
def ZB.r3 : List Oper := [
 oD 23 (.mv (.t 0)),
 oD 24 (.len (.t 23)),
 oD 25 (.mks 1 1 [.b false] (.t 24) (.t 24)),
 oD 9 (.mv (.t 25))]
def ZB.r4 : List Oper := [
 oD 26 (.mv (.t 9)),
 oD 27 (.mv (.t 1)),
 oD 28 (.ixa 1 (.t 26) (.t 27)),
 oN (.st 1 (.t 28) (.c (.b true)))]
def ZB.r5 : List Oper := [
 oD 29 (.mv (.t 8)),
 oD 30 (.len (.t 29)),
 oD 31 (.bin .gtr (.t 30) (.c (.i .i64 0)))]
def ZB.r6 : List Oper := [
 oD 32 (.mv (.t 8)),
 oD 33 (.ixa 1 (.t 32) (.c (.i .i64 0))),
 oD 34 (.ld false 1 (.t 33)),
 oD 10 (.mv (.t 34))]
def ZB.r7 : List Oper := [
 oD 35 (.mv (.t 8)),
 oD 36 (.slc 1 (.t 35) (some (.c (.i .i64 1))) none none),
 oD 8 (.mv (.t 36))]
def ZB.r8 : List Oper := [
 oD 37 (.mv (.c (.i .i64 0)))]
def ZB.r9 : List Oper := [
 oD 38 (.bin .lss (.t 37) (.c (.i .i64 4)))]
def ZB.r10 : List Oper := [
 oD 39 (.mv (.t 37)),
 oD 11 (.mv (.t 39))]
def ZB.r11 : List Oper := [
 oD 40 (.mv (.t 0)),
 oD 41 (.mv (.t 10)),
 oD 42 (.mv (.t 11)),
 oD 43 (.ixa 8 (.t 40) (.t 41)),
 oD 44 (.fa 0 (.t 43)),
 oD 45 (.ixaa 1 4 (.t 44) (.t 42)),
 oD 46 (.ld false 1 (.t 45)),
 oD 12 (.mv (.t 46))]
def ZB.r12 : List Oper := [
 oD 47 (.mv (.t 12)),
 oD 48 (.bin .geq (.t 47) (.c (.i .i64 0))),
 oD 49 (.mv (.t 48)),
 ⟨(some 50), .mv (.t 9), (some (49, true))⟩,
 ⟨(some 51), .mv (.t 12), (some (49, true))⟩,
 ⟨(some 52), .ixa 1 (.t 50) (.t 51), (some (49, true))⟩,
 ⟨(some 53), .ld false 1 (.t 52), (some (49, true))⟩,
 ⟨(some 54), .un .not (.t 53), (some (49, true))⟩,
 oD 55 (.pick (.t 49) (.t 54) (.c (.b false)))]
def ZB.r13 : List Oper := [
 oD 56 (.mv (.t 9)),
 oD 57 (.mv (.t 12)),
 oD 58 (.mv (.t 6)),
 oD 59 (.mv (.t 12)),
 oD 60 (.mv (.t 7)),
 oD 61 (.mv (.t 12)),
 oD 62 (.mv (.t 10)),
 oD 63 (.mv (.t 11)),
 oD 64 (.ixa 1 (.t 56) (.t 57)),
 oN (.st 1 (.t 64) (.c (.b true))),
 oD 65 (.ixa 1 (.t 58) (.t 59)),
 oN (.st 1 (.t 65) (.t 62)),
 oD 66 (.ixa 1 (.t 60) (.t 61)),
 oN (.st 1 (.t 66) (.t 63))]
def ZB.r14 : List Oper := [
 oD 67 (.mv (.t 8)),
 oD 68 (.mv (.t 12)),
 oD 69 (.bsl 1 1 [.i .i64 0] [(0, 1, .t 68)]),
 oD 70 (.app 1 8 (.t 67) (.t 69)),
 oD 8 (.mv (.t 70))]
def ZB.r15 : List Oper := [
 oD 71 (.bin .add (.t 37) (.c (.i .i64 1))),
 oD 37 (.mv (.t 71))]
def ZB.l0 : Code := .seq (.region ZB.r9) (.seq (.cond (.t 38) (.skip) (.exit 2)) (.seq (.block 3 (.seq (.region ZB.r10) (.seq (.region ZB.r11) (.seq (.region ZB.r12) (.cond (.t 55) (.seq (.region ZB.r13) (.region ZB.r14)) (.skip)))))) (.region ZB.r15)))
def ZB.l1 : Code := .seq (.seq (.region ZB.r5) (.cond (.t 31) (.skip) (.exit 0))) (.block 1 (.seq (.region ZB.r6) (.seq (.region ZB.r7) (.seq (.region ZB.r8) (.block 2 (.loop ZB.l0))))))
def ZB.r16 : List Oper := [
 oD 72 (.mv (.t 6)),
 oD 73 (.mv (.t 7)),
 oD 4 (.mv (.t 72)),
 oD 5 (.mv (.t 73))]
def ZB.code : Code := .seq (.region ZB.r0) (.seq (.region ZB.r1) (.seq (.region ZB.r2) (.seq (.region ZB.r3) (.seq (.region ZB.r4) (.seq (.block 0 (.loop ZB.l1)) (.seq (.region ZB.r16) (.ret)))))))
def ZB : Func := ⟨74, [.t 4, .t 5], ZB.code⟩
/-! muntin/compass.Left -/
def zF.r0 : List Oper := [
 oD 4 (.mv (.c (.i .i64 0)))]
def zF.r1 : List Oper := [
 oD 5 (.mv (.t 0)),
 oD 6 (.call (.c (.f 90 [])) [.t 5]),
 oD 7 (.un .not (.t 6))]
def zF.r2 : List Oper := [
 oD 4 (.mv (.c (.i .i64 0)))]
def zF.r3 : List Oper := [
 oD 8 (.mv (.t 0)),
 oD 9 (.mv (.t 1)),
 oD 10 (.bin .rem (.t 9) (.c (.i .i64 4))),
 oD 11 (.bin .add (.t 8) (.t 10)),
 oD 12 (.bin .add (.t 11) (.c (.i .i64 4))),
 oD 13 (.bin .rem (.t 12) (.c (.i .i64 4))),
 oD 4 (.mv (.t 13))]
def zF.code : Code := .seq (.region zF.r0) (.seq (.seq (.region zF.r1) (.cond (.t 7) (.seq (.region zF.r2) (.ret)) (.skip))) (.seq (.region zF.r3) (.ret)))
def zF : Func := ⟨14, [.t 4], zF.code⟩
/-! slices.ContainsFunc[[]int,int] -/
def zw.r0 : List Oper := [
 oD 4 (.mv (.c (.b false)))]
def zw.r1 : List Oper := [
 oD 5 (.mv (.t 0)),
 oD 6 (.mv (.t 1)),
 oD 7 (.call (.c (.f 91 [])) [.t 5, .t 6]),
 oD 8 (.bin .geq (.t 7) (.c (.i .i64 0))),
 oD 4 (.mv (.t 8))]
def zw.code : Code := .seq (.region zw.r0) (.seq (.region zw.r1) (.ret))
def zw : Func := ⟨9, [.t 4], zw.code⟩
/-! muntin/front.right$1 -/
def zT.r0 : List Oper := [
 oD 2 (.mv (.c (.b false)))]
def zT.r1 : List Oper := [
 oD 3 (.mv (.t 0)),
 oD 4 (.bin .lss (.t 3) (.c (.i .i64 (-2)))),
 oD 5 (.mv (.t 4)),
 ⟨(some 6), .mv (.t 0), (some (5, false))⟩,
 ⟨(some 7), .bin .gtr (.t 6) (.c (.i .i64 1)), (some (5, false))⟩,
 oD 8 (.pick (.t 5) (.c (.b true)) (.t 7)),
 oD 2 (.mv (.t 8))]
def zT.code : Code := .seq (.region zT.r0) (.seq (.region zT.r1) (.ret))
def zT : Func := ⟨9, [.t 2], zT.code⟩
/-! muntin/grid.side -/
def zl.r0 : List Oper := [
 oD 6 (.mv (.c (.i .i64 0)))]
def zl.r1 : List Oper := [
 oD 10 (.mv (.t 0)),
 oD 11 (.mv (.t 1)),
 oD 12 (.mv (.t 2)),
 oD 13 (.ixa 8 (.t 10) (.t 11)),
 oD 14 (.fa 0 (.t 13)),
 oD 15 (.ixaa 1 4 (.t 14) (.t 12)),
 oD 16 (.ld false 1 (.t 15)),
 oD 17 (.mv (.t 0)),
 oD 18 (.mv (.t 1)),
 oD 19 (.mv (.t 2)),
 oD 20 (.ixa 8 (.t 17) (.t 18)),
 oD 21 (.fa 4 (.t 20)),
 oD 22 (.ixaa 1 4 (.t 21) (.t 19)),
 oD 23 (.ld false 1 (.t 22)),
 oD 7 (.mv (.t 16)),
 oD 8 (.mv (.t 23))]
def zl.r2 : List Oper := [
 oD 24 (.mv (.t 7)),
 oD 25 (.eq false .sc (.t 24) (.c (.i .i64 (-1))))]
def zl.r3 : List Oper := [
 oD 26 (.mv (.t 8)),
 oD 27 (.eq true .sc (.t 26) (.c (.i .i64 0)))]
def zl.r4 : List Oper := [
 oD 6 (.mv (.c (.i .i64 9)))]
def zl.r5 : List Oper := [
 oD 6 (.mv (.c (.i .i64 0)))]
def zl.r6 : List Oper := [
 oD 28 (.mv (.t 7)),
 oD 29 (.bin .lss (.t 28) (.c (.i .i64 0))),
 oD 30 (.mv (.t 29)),
 ⟨(some 31), .mv (.t 7), (some (30, false))⟩,
 ⟨(some 32), .mv (.t 0), (some (30, false))⟩,
 ⟨(some 33), .len (.t 32), (some (30, false))⟩,
 ⟨(some 34), .bin .geq (.t 31) (.t 33), (some (30, false))⟩,
 oD 35 (.pick (.t 30) (.c (.b true)) (.t 34)),
 oD 36 (.mv (.t 35)),
 ⟨(some 37), .mv (.t 7), (some (36, false))⟩,
 ⟨(some 38), .mv (.t 1), (some (36, false))⟩,
 ⟨(some 39), .eq false .sc (.t 37) (.t 38), (some (36, false))⟩,
 oD 40 (.pick (.t 36) (.c (.b true)) (.t 39))]
def zl.r7 : List Oper := [
 oD 6 (.mv (.c (.i .i64 3)))]
def zl.r8 : List Oper := [
 oD 41 (.mv (.t 2)),
 oD 42 (.call (.c (.f 77 [])) [.t 41, .c (.i .i64 2)]),
 oD 9 (.mv (.t 42))]
def zl.r9 : List Oper := [
 oD 43 (.mv (.t 0)),
 oD 44 (.mv (.t 7)),
 oD 45 (.mv (.t 9)),
 oD 46 (.ixa 8 (.t 43) (.t 44)),
 oD 47 (.fa 0 (.t 46)),
 oD 48 (.ixaa 1 4 (.t 47) (.t 45)),
 oD 49 (.ld false 1 (.t 48)),
 oD 50 (.mv (.t 1)),
 oD 51 (.eq true .sc (.t 49) (.t 50)),
 oD 52 (.mv (.t 51)),
 ⟨(some 53), .mv (.t 0), (some (52, false))⟩,
 ⟨(some 54), .mv (.t 7), (some (52, false))⟩,
 ⟨(some 55), .mv (.t 9), (some (52, false))⟩,
 ⟨(some 56), .ixa 8 (.t 53) (.t 54), (some (52, false))⟩,
 ⟨(some 57), .fa 4 (.t 56), (some (52, false))⟩,
 ⟨(some 58), .ixaa 1 4 (.t 57) (.t 55), (some (52, false))⟩,
 ⟨(some 59), .ld false 1 (.t 58), (some (52, false))⟩,
 ⟨(some 60), .mv (.t 8), (some (52, false))⟩,
 ⟨(some 61), .eq true .sc (.t 59) (.t 60), (some (52, false))⟩,
 oD 62 (.pick (.t 52) (.c (.b true)) (.t 61)),
 oD 63 (.mv (.t 62)),
 ⟨(some 64), .mv (.t 8), (some (63, false))⟩,
 ⟨(some 65), .bin .lss (.t 64) (.c (.i .i64 (-2))), (some (63, false))⟩,
 oD 66 (.pick (.t 63) (.c (.b true)) (.t 65))]
def zl.r10 : List Oper := [
 oD 6 (.mv (.c (.i .i64 9)))]
def zl.r11 : List Oper := [
 oD 6 (.mv (.c (.i .i64 0)))]
def zl.code : Code := .seq (.region zl.r0) (.seq (.draw zl.r1 [(6, 13)]) (.seq (.seq (.region zl.r2) (.cond (.t 25) (.seq (.seq (.region zl.r3) (.cond (.t 27) (.seq (.region zl.r4) (.ret)) (.skip))) (.seq (.region zl.r5) (.ret))) (.skip))) (.seq (.seq (.region zl.r6) (.cond (.t 40) (.seq (.region zl.r7) (.ret)) (.skip))) (.seq (.region zl.r8) (.seq (.seq (.region zl.r9) (.cond (.t 66) (.seq (.region zl.r10) (.ret)) (.skip))) (.seq (.region zl.r11) (.ret)))))))
def zl : Func := ⟨67, [.t 6], zl.code⟩
/-! slices.Repeat[[]int,int] -/
def Z6.r0 : List Oper := [
 oD 4 (.mv (.c (.sn)))]
def Z6.r1 : List Oper := [
 oD 9 (.mv (.t 1)),
 oD 10 (.bin .lss (.t 9) (.c (.i .i64 0)))]
def Z6.r2 : List Oper := [
 oD 11 (.bad),
 oN (.bad)]
def Z6.r3 : List Oper := [
 oD 13 (.mv (.t 0)),
 oD 14 (.len (.t 13)),
 oD 15 (.conv .u64 (.t 14)),
 oD 16 (.mv (.t 1)),
 oD 17 (.conv .u64 (.t 16)),
 oD 18 (.call (.c (.f 89 [])) [.t 15, .t 17]),
 oD 12 (.mv (.t 18)),
 oD 19 (.ext (.t 12) 0),
 oD 20 (.ext (.t 12) 1),
 oD 5 (.mv (.t 19)),
 oD 6 (.mv (.t 20))]
def Z6.r4 : List Oper := [
 oD 21 (.mv (.t 5)),
 oD 22 (.bin .gtr (.t 21) (.c (.i .u64 0))),
 oD 23 (.mv (.t 22)),
 ⟨(some 24), .mv (.t 6), (some (23, false))⟩,
 ⟨(some 25), .bin .gtr (.t 24) (.c (.i .u64 9223372036854775807)), (some (23, false))⟩,
 oD 26 (.pick (.t 23) (.c (.b true)) (.t 25))]
def Z6.r5 : List Oper := [
 oD 27 (.bad),
 oN (.bad)]
def Z6.r6 : List Oper := [
 oD 28 (.mv (.t 6)),
 oD 29 (.conv .i64 (.t 28)),
 oD 30 (.mks 1 8 [.i .i64 0] (.t 29) (.t 29)),
 oD 7 (.mv (.t 30))]
def Z6.r7 : List Oper := [
 oD 31 (.mv (.t 7)),
 oD 32 (.mv (.t 0)),
 oD 33 (.cpy 1 (.t 31) (.t 32)),
 oD 8 (.mv (.t 33))]
def Z6.r8 : List Oper := [
 oD 34 (.mv (.t 8)),
 oD 35 (.mv (.t 7)),
 oD 36 (.len (.t 35)),
 oD 37 (.bin .lss (.t 34) (.t 36))]
def Z6.r9 : List Oper := [
 oD 38 (.mv (.t 8)),
 oD 39 (.mv (.t 7)),
 oD 40 (.mv (.t 8)),
 oD 41 (.slc 1 (.t 39) (some (.t 40)) none none),
 oD 42 (.mv (.t 7)),
 oD 43 (.mv (.t 8)),
 oD 44 (.slc 1 (.t 42) none (some (.t 43)) none),
 oD 45 (.cpy 1 (.t 41) (.t 44)),
 oD 46 (.bin .add (.t 38) (.t 45)),
 oD 8 (.mv (.t 46))]
def Z6.l0 : Code := .seq (.seq (.region Z6.r8) (.cond (.t 37) (.skip) (.exit 0))) (.block 1 (.draw Z6.r9 []))
def Z6.r10 : List Oper := [
 oD 47 (.mv (.t 7)),
 oD 4 (.mv (.t 47))]
def Z6.code : Code := .seq (.region Z6.r0) (.seq (.seq (.region Z6.r1) (.cond (.t 10) (.region Z6.r2) (.skip))) (.seq (.region Z6.r3) (.seq (.seq (.region Z6.r4) (.cond (.t 26) (.region Z6.r5) (.skip))) (.seq (.region Z6.r6) (.seq (.region Z6.r7) (.seq (.block 0 (.loop Z6.l0)) (.seq (.region Z6.r10) (.ret))))))))
def Z6 : Func := ⟨48, [.t 4], Z6.code⟩
/-! math/bits.Mul -/
def zX.r0 : List Oper := [
 oD 4 (.mv (.c (.i .u64 0))),
 oD 5 (.mv (.c (.i .u64 0)))]
def zX.r1 : List Oper := [
 oD 11 (.mv (.t 0)),
 oD 12 (.conv .u32 (.t 11)),
 oD 13 (.mv (.t 1)),
 oD 14 (.conv .u32 (.t 13)),
 oD 15 (.call (.c (.f 97 [])) [.t 12, .t 14]),
 oD 10 (.mv (.t 15)),
 oD 16 (.ext (.t 10) 0),
 oD 17 (.ext (.t 10) 1),
 oD 6 (.mv (.t 16)),
 oD 7 (.mv (.t 17))]
def zX.r2 : List Oper := [
 oD 18 (.mv (.t 6)),
 oD 19 (.conv .u64 (.t 18)),
 oD 20 (.mv (.t 7)),
 oD 21 (.conv .u64 (.t 20)),
 oD 4 (.mv (.t 19)),
 oD 5 (.mv (.t 21))]
def zX.r3 : List Oper := [
 oD 23 (.mv (.t 0)),
 oD 24 (.mv (.t 1)),
 oD 25 (.call (.c (.f 98 [])) [.t 23, .t 24]),
 oD 22 (.mv (.t 25)),
 oD 26 (.ext (.t 22) 0),
 oD 27 (.ext (.t 22) 1),
 oD 8 (.mv (.t 26)),
 oD 9 (.mv (.t 27))]
def zX.r4 : List Oper := [
 oD 28 (.mv (.t 8)),
 oD 29 (.mv (.t 9)),
 oD 4 (.mv (.t 28)),
 oD 5 (.mv (.t 29))]
def zX.code : Code := .seq (.region zX.r0) (.seq (.cond (.c (.b false)) (.seq (.region zX.r1) (.seq (.region zX.r2) (.ret))) (.skip)) (.seq (.region zX.r3) (.seq (.region zX.r4) (.ret))))
def zX : Func := ⟨30, [.t 4, .t 5], zX.code⟩
/-! muntin/compass.Good -/
def Zab.r0 : List Oper := [
 oD 2 (.mv (.c (.b false)))]
def Zab.r1 : List Oper := [
 oD 3 (.mv (.t 0)),
 oD 4 (.bin .geq (.t 3) (.c (.i .i64 0))),
 oD 5 (.mv (.t 4)),
 ⟨(some 6), .mv (.t 0), (some (5, true))⟩,
 ⟨(some 7), .bin .leq (.t 6) (.c (.i .i64 3)), (some (5, true))⟩,
 oD 8 (.pick (.t 5) (.t 7) (.c (.b false))),
 oD 2 (.mv (.t 8))]
def Zab.code : Code := .seq (.region Zab.r0) (.seq (.region Zab.r1) (.ret))
def Zab : Func := ⟨9, [.t 2], Zab.code⟩
/-! slices.IndexFunc[[]int,int] -/
def ZD.r0 : List Oper := [
 oD 4 (.mv (.c (.i .i64 0)))]
def ZD.r1 : List Oper := [
 oD 6 (.mv (.t 0)),
 oD 7 (.len (.t 6)),
 oD 8 (.mv (.c (.i .i64 0)))]
def ZD.r2 : List Oper := [
 oD 9 (.bin .lss (.t 8) (.t 7))]
def ZD.r3 : List Oper := [
 oD 10 (.mv (.t 8)),
 oD 5 (.mv (.t 10))]
def ZD.r4 : List Oper := [
 oD 11 (.mv (.t 1)),
 oD 12 (.mv (.t 0)),
 oD 13 (.mv (.t 5)),
 oD 14 (.ixa 1 (.t 12) (.t 13)),
 oD 15 (.ld false 1 (.t 14)),
 oD 16 (.call (.t 11) [.t 15])]
def ZD.r5 : List Oper := [
 oD 17 (.mv (.t 5)),
 oD 4 (.mv (.t 17))]
def ZD.r6 : List Oper := [
 oD 18 (.bin .add (.t 8) (.c (.i .i64 1))),
 oD 8 (.mv (.t 18))]
def ZD.l0 : Code := .seq (.region ZD.r2) (.seq (.cond (.t 9) (.skip) (.exit 0)) (.seq (.block 1 (.seq (.region ZD.r3) (.seq (.region ZD.r4) (.cond (.t 16) (.seq (.region ZD.r5) (.ret)) (.skip))))) (.region ZD.r6)))
def ZD.r7 : List Oper := [
 oD 4 (.mv (.c (.i .i64 (-1))))]
def ZD.code : Code := .seq (.region ZD.r0) (.seq (.seq (.region ZD.r1) (.block 0 (.loop ZD.l0))) (.seq (.region ZD.r7) (.ret)))
def ZD : Func := ⟨19, [.t 4], ZD.code⟩
/-! math/bits.Mul32 -/
def zZ.r0 : List Oper := [
 oD 4 (.mv (.c (.i .u32 0))),
 oD 5 (.mv (.c (.i .u32 0)))]
def zZ.r1 : List Oper := [
 oD 7 (.mv (.t 0)),
 oD 8 (.conv .u64 (.t 7)),
 oD 9 (.mv (.t 1)),
 oD 10 (.conv .u64 (.t 9)),
 oD 11 (.bin .mul (.t 8) (.t 10)),
 oD 6 (.mv (.t 11))]
def zZ.r2 : List Oper := [
 oD 12 (.mv (.t 6)),
 oD 13 (.bin .shr (.t 12) (.c (.i .u64 32))),
 oD 14 (.conv .u32 (.t 13)),
 oD 15 (.mv (.t 6)),
 oD 16 (.conv .u32 (.t 15)),
 oD 4 (.mv (.t 14)),
 oD 5 (.mv (.t 16))]
def zZ.code : Code := .seq (.region zZ.r0) (.seq (.region zZ.r1) (.seq (.region zZ.r2) (.ret)))
def zZ : Func := ⟨17, [.t 4, .t 5], zZ.code⟩
/-! math/bits.Mul64 -/
def zc.r0 : List Oper := [
 oD 4 (.mv (.c (.i .u64 0))),
 oD 5 (.mv (.c (.i .u64 0)))]
def zc.r1 : List Oper := [
 oD 14 (.mv (.t 0)),
 oD 15 (.bin .and (.t 14) (.c (.i .u64 4294967295))),
 oD 6 (.mv (.t 15))]
def zc.r2 : List Oper := [
 oD 16 (.mv (.t 0)),
 oD 17 (.bin .shr (.t 16) (.c (.i .u64 32))),
 oD 7 (.mv (.t 17))]
def zc.r3 : List Oper := [
 oD 18 (.mv (.t 1)),
 oD 19 (.bin .and (.t 18) (.c (.i .u64 4294967295))),
 oD 8 (.mv (.t 19))]
def zc.r4 : List Oper := [
 oD 20 (.mv (.t 1)),
 oD 21 (.bin .shr (.t 20) (.c (.i .u64 32))),
 oD 9 (.mv (.t 21))]
def zc.r5 : List Oper := [
 oD 22 (.mv (.t 6)),
 oD 23 (.mv (.t 8)),
 oD 24 (.bin .mul (.t 22) (.t 23)),
 oD 10 (.mv (.t 24))]
def zc.r6 : List Oper := [
 oD 25 (.mv (.t 7)),
 oD 26 (.mv (.t 8)),
 oD 27 (.bin .mul (.t 25) (.t 26)),
 oD 28 (.mv (.t 10)),
 oD 29 (.bin .shr (.t 28) (.c (.i .u64 32))),
 oD 30 (.bin .add (.t 27) (.t 29)),
 oD 11 (.mv (.t 30))]
def zc.r7 : List Oper := [
 oD 31 (.mv (.t 11)),
 oD 32 (.bin .and (.t 31) (.c (.i .u64 4294967295))),
 oD 12 (.mv (.t 32))]
def zc.r8 : List Oper := [
 oD 33 (.mv (.t 11)),
 oD 34 (.bin .shr (.t 33) (.c (.i .u64 32))),
 oD 13 (.mv (.t 34))]
def zc.r9 : List Oper := [
 oD 35 (.mv (.t 12)),
 oD 36 (.mv (.t 6)),
 oD 37 (.mv (.t 9)),
 oD 38 (.bin .mul (.t 36) (.t 37)),
 oD 39 (.bin .add (.t 35) (.t 38)),
 oD 12 (.mv (.t 39))]
def zc.r10 : List Oper := [
 oD 40 (.mv (.t 7)),
 oD 41 (.mv (.t 9)),
 oD 42 (.bin .mul (.t 40) (.t 41)),
 oD 43 (.mv (.t 13)),
 oD 44 (.bin .add (.t 42) (.t 43)),
 oD 45 (.mv (.t 12)),
 oD 46 (.bin .shr (.t 45) (.c (.i .u64 32))),
 oD 47 (.bin .add (.t 44) (.t 46)),
 oD 4 (.mv (.t 47))]
def zc.r11 : List Oper := [
 oD 48 (.mv (.t 0)),
 oD 49 (.mv (.t 1)),
 oD 50 (.bin .mul (.t 48) (.t 49)),
 oD 5 (.mv (.t 50))]
def zc.code : Code := .seq (.region zc.r0) (.seq (.region zc.r1) (.seq (.region zc.r2) (.seq (.region zc.r3) (.seq (.region zc.r4) (.seq (.region zc.r5) (.seq (.region zc.r6) (.seq (.region zc.r7) (.seq (.region zc.r8) (.seq (.region zc.r9) (.seq (.region zc.r10) (.seq (.region zc.r11) (.ret))))))))))))
def zc : Func := ⟨51, [.t 4, .t 5], zc.code⟩
/-! muntin/muntinlaw20.FrontFirst -/
def Zy.r0 : List Oper := [
 oD 2 (.box (.t 0)),
 oD 4 (.mv (.c (.b false)))]
def Zy.r1 : List Oper := [
 oD 15 (.ld true 3 (.t 2)),
 oD 16 (.call (.c (.f 28 [])) [.t 15, .c (.i .i64 16)]),
 oD 14 (.mv (.t 16)),
 oD 17 (.ext (.t 14) 0),
 oD 18 (.ext (.t 14) 1),
 oD 5 (.mv (.t 17)),
 oD 6 (.mv (.t 18))]
def Zy.r2 : List Oper := [
 oD 19 (.mv (.t 5)),
 oD 20 (.mv (.t 1)),
 oD 21 (.mv (.t 1)),
 oD 22 (.len (.t 21)),
 oD 23 (.mn [.t 22, .c (.i .i64 4)]),
 oD 24 (.slc 8 (.t 20) none (some (.t 23)) none),
 oD 25 (.bsl 1 2 [.sn] [(0, 1, .t 19), (1, 1, .t 24)]),
 oD 26 (.len (.t 25)),
 oD 27 (.mv (.c (.i .i64 0)))]
def Zy.r3 : List Oper := [
 oD 28 (.bin .lss (.t 27) (.t 26))]
def Zy.r4 : List Oper := [
 oD 29 (.ixa 1 (.t 25) (.t 27)),
 oD 30 (.ld false 1 (.t 29)),
 oD 8 (.mv (.t 30))]
def Zy.r5 : List Oper := [
 oD 32 (.mv (.t 8)),
 oD 33 (.call (.c (.f 178 [])) [.t 32]),
 oD 31 (.mv (.t 33)),
 oD 34 (.ext (.t 31) 0),
 oD 35 (.ext (.t 31) 1),
 oD 36 (.ext (.t 31) 2),
 oD 9 (.mv (.t 34)),
 oD 10 (.mv (.t 35)),
 oD 11 (.mv (.t 36))]
def Zy.r6 : List Oper := [
 oD 38 (.mv (.t 8)),
 oD 39 (.call (.c (.f 179 [])) [.t 38]),
 oD 37 (.mv (.t 39)),
 oD 40 (.ext (.t 37) 0),
 oD 41 (.ext (.t 37) 1),
 oD 12 (.mv (.t 40)),
 oD 13 (.mv (.t 41))]
def Zy.r7 : List Oper := [
 oD 42 (.mv (.t 11)),
 oD 43 (.mv (.t 12)),
 oD 44 (.bin .geq (.t 43) (.c (.i .i64 0))),
 oD 45 (.eq true .bl (.t 42) (.t 44)),
 oD 46 (.mv (.t 45)),
 ⟨(some 47), .mv (.t 9), (some (46, false))⟩,
 ⟨(some 48), .mv (.t 12), (some (46, false))⟩,
 ⟨(some 49), .mx [.t 48, .c (.i .i64 0)], (some (46, false))⟩,
 ⟨(some 50), .eq true .sc (.t 47) (.t 49), (some (46, false))⟩,
 oD 51 (.pick (.t 46) (.c (.b true)) (.t 50)),
 oD 52 (.mv (.t 51)),
 ⟨(some 53), .mv (.t 10), (some (52, false))⟩,
 ⟨(some 54), .mv (.t 13), (some (52, false))⟩,
 ⟨(some 55), .eq true .sc (.t 53) (.t 54), (some (52, false))⟩,
 oD 56 (.pick (.t 52) (.c (.b true)) (.t 55))]
def Zy.r8 : List Oper := [
 oD 4 (.mv (.c (.b false)))]
def Zy.r9 : List Oper := [
 oD 57 (.bin .add (.t 27) (.c (.i .i64 1))),
 oD 27 (.mv (.t 57))]
def Zy.l0 : Code := .seq (.region Zy.r3) (.seq (.cond (.t 28) (.skip) (.exit 0)) (.seq (.block 1 (.seq (.region Zy.r4) (.seq (.region Zy.r5) (.seq (.region Zy.r6) (.seq (.region Zy.r7) (.cond (.t 56) (.seq (.region Zy.r8) (.ret)) (.skip))))))) (.region Zy.r9)))
def Zy.r10 : List Oper := [
 oD 58 (.call (.c (.f 17 [])) []),
 oD 4 (.mv (.t 58))]
def Zy.code : Code := .seq (.region Zy.r0) (.seq (.region Zy.r1) (.seq (.seq (.region Zy.r2) (.block 0 (.loop Zy.l0))) (.seq (.region Zy.r10) (.ret))))
def Zy : Func := ⟨59, [.t 4], Zy.code⟩
/-! muntin/valid.Check -/
def ze.r0 : List Oper := [
 oD 2 (.mv (.c (.i .i64 0)))]
def ze.r1 : List Oper := [
 oD 6 (.mv (.t 0)),
 oD 7 (.call (.c (.f 66 [])) [.t 6]),
 oD 3 (.mv (.t 7))]
def ze.r2 : List Oper := [
 oD 8 (.mv (.t 3)),
 oD 9 (.eq true .sc (.t 8) (.c (.i .i64 0)))]
def ze.r3 : List Oper := [
 oD 10 (.mv (.t 3)),
 oD 2 (.mv (.t 10))]
def ze.r4 : List Oper := [
 oD 11 (.mv (.t 0)),
 oD 12 (.call (.c (.f 32 [])) [.t 11]),
 oD 13 (.un .not (.t 12))]
def ze.r5 : List Oper := [
 oD 2 (.mv (.c (.i .i64 13)))]
def ze.r6 : List Oper := [
 oD 15 (.mv (.t 0)),
 oD 16 (.call (.c (.f 201 [])) [.t 15]),
 oD 14 (.mv (.t 16)),
 oD 17 (.ext (.t 14) 0),
 oD 18 (.ext (.t 14) 1),
 oD 4 (.mv (.t 17)),
 oD 5 (.mv (.t 18))]
def ze.r7 : List Oper := [
 oD 19 (.mv (.t 5)),
 oD 20 (.un .not (.t 19)),
 oD 21 (.mv (.t 20)),
 ⟨(some 22), .mv (.t 0), (some (21, true))⟩,
 ⟨(some 23), .len (.t 22), (some (21, true))⟩,
 ⟨(some 24), .bin .gtr (.t 23) (.c (.i .i64 1)), (some (21, true))⟩,
 oD 25 (.pick (.t 21) (.t 24) (.c (.b false)))]
def ze.r8 : List Oper := [
 oD 2 (.mv (.c (.i .i64 10)))]
def ze.r9 : List Oper := [
 oD 2 (.mv (.c (.i .i64 0)))]
def ze.code : Code := .seq (.region ze.r0) (.seq (.seq (.region ze.r1) (.seq (.region ze.r2) (.cond (.t 9) (.seq (.region ze.r3) (.ret)) (.skip)))) (.seq (.seq (.region ze.r4) (.cond (.t 13) (.seq (.region ze.r5) (.ret)) (.skip))) (.seq (.seq (.region ze.r6) (.seq (.region ze.r7) (.cond (.t 25) (.seq (.region ze.r8) (.ret)) (.skip)))) (.seq (.region ze.r9) (.ret)))))
def ze : Func := ⟨26, [.t 2], ze.code⟩
/-! muntin/muntinref12.Faces -/
def Zq.r0 : List Oper := [
 oD 2 (.mv (.c (.sn)))]
def Zq.r1 : List Oper := [
 oD 9 (.mv (.t 0)),
 oD 10 (.len (.t 9)),
 oD 11 (.bin .mul (.c (.i .i64 4)) (.t 10)),
 oD 12 (.mks 1 1 [.b false] (.t 11) (.t 11)),
 oD 3 (.mv (.t 12))]
def Zq.r2 : List Oper := [
 oD 4 (.mv (.c (.sn)))]
def Zq.r3 : List Oper := [
 oD 5 (.mv (.c (.i .i64 0)))]
def Zq.r4 : List Oper := [
 oD 13 (.mv (.t 5)),
 oD 14 (.mv (.t 0)),
 oD 15 (.len (.t 14)),
 oD 16 (.bin .lss (.t 13) (.t 15))]
def Zq.r6 : List Oper := [
 oD 6 (.mv (.c (.i .i64 0)))]
def Zq.r7 : List Oper := [
 oD 19 (.mv (.t 6)),
 oD 20 (.bin .lss (.t 19) (.c (.i .i64 4)))]
def Zq.r9 : List Oper := [
 oD 23 (.mv (.t 0)),
 oD 24 (.mv (.t 5)),
 oD 25 (.mv (.t 6)),
 oD 26 (.ixa 8 (.t 23) (.t 24)),
 oD 27 (.fa 0 (.t 26)),
 oD 28 (.ixaa 1 4 (.t 27) (.t 25)),
 oD 29 (.ld false 1 (.t 28)),
 oD 30 (.bin .lss (.t 29) (.c (.i .i64 0))),
 oD 31 (.mv (.t 30)),
 ⟨(some 32), .mv (.t 3), (some (31, false))⟩,
 ⟨(some 33), .mv (.t 5), (some (31, false))⟩,
 ⟨(some 34), .bin .mul (.c (.i .i64 4)) (.t 33), (some (31, false))⟩,
 ⟨(some 35), .mv (.t 6), (some (31, false))⟩,
 ⟨(some 36), .bin .add (.t 34) (.t 35), (some (31, false))⟩,
 ⟨(some 37), .ixa 1 (.t 32) (.t 36), (some (31, false))⟩,
 ⟨(some 38), .ld false 1 (.t 37), (some (31, false))⟩,
 oD 39 (.pick (.t 31) (.c (.b true)) (.t 38))]
def Zq.r10 : List Oper := [
 oD 7 (.mv (.c (.sn)))]
def Zq.r11 : List Oper := [
 oD 40 (.mv (.t 5)),
 oD 41 (.mv (.t 6)),
 oD 42 (.build [.i .i64 0, .i .i64 0] [(0, 1, .t 40), (1, 1, .t 41)]),
 oD 8 (.alloc [.i .i64 0, .i .i64 0]),
 oN (.st 2 (.t 8) (.t 42))]
def Zq.r12 : List Oper := [
 oD 43 (.mv (.t 3)),
 oD 44 (.fa 0 (.t 8)),
 oD 45 (.ld false 1 (.t 44)),
 oD 46 (.bin .mul (.c (.i .i64 4)) (.t 45)),
 oD 47 (.fa 1 (.t 8)),
 oD 48 (.ld false 1 (.t 47)),
 oD 49 (.bin .add (.t 46) (.t 48)),
 oD 50 (.ixa 1 (.t 43) (.t 49)),
 oD 51 (.ld false 1 (.t 50)),
 oD 52 (.un .not (.t 51))]
def Zq.r13 : List Oper := [
 oD 53 (.mv (.t 3)),
 oD 54 (.fa 0 (.t 8)),
 oD 55 (.ld false 1 (.t 54)),
 oD 56 (.bin .mul (.c (.i .i64 4)) (.t 55)),
 oD 57 (.fa 1 (.t 8)),
 oD 58 (.ld false 1 (.t 57)),
 oD 59 (.bin .add (.t 56) (.t 58)),
 oD 60 (.ixa 1 (.t 53) (.t 59)),
 oN (.st 1 (.t 60) (.c (.b true)))]
def Zq.r14 : List Oper := [
 oD 61 (.mv (.t 7)),
 oD 62 (.ld true 2 (.t 8)),
 oD 63 (.bsl 2 1 [.i .i64 0, .i .i64 0] [(0, 2, .t 62)]),
 oD 64 (.app 2 16 (.t 61) (.t 63)),
 oD 7 (.mv (.t 64))]
def Zq.r15 : List Oper := [
 oD 65 (.mv (.t 0)),
 oD 66 (.ld true 2 (.t 8)),
 oD 67 (.call (.c (.f 202 [])) [.t 65, .t 66]),
 oN (.st 2 (.t 8) (.t 67))]
def Zq.l0 : Code := .seq (.seq (.region Zq.r12) (.cond (.t 52) (.skip) (.exit 4))) (.block 5 (.seq (.region Zq.r13) (.seq (.region Zq.r14) (.region Zq.r15))))
def Zq.r16 : List Oper := [
 oD 68 (.mv (.t 4)),
 oD 69 (.mv (.t 7)),
 oD 70 (.bsl 1 1 [.sn] [(0, 1, .t 69)]),
 oD 71 (.app 1 24 (.t 68) (.t 70)),
 oD 4 (.mv (.t 71))]
def Zq.r8 : List Oper := [
 oD 21 (.mv (.t 6)),
 oD 22 (.bin .add (.t 21) (.c (.i .i64 1))),
 oD 6 (.mv (.t 22))]
def Zq.l1 : Code := .seq (.seq (.region Zq.r7) (.cond (.t 20) (.skip) (.exit 2))) (.seq (.block 3 (.seq (.seq (.region Zq.r9) (.cond (.t 39) (.exit 3) (.skip))) (.seq (.region Zq.r10) (.seq (.region Zq.r11) (.seq (.block 4 (.loop Zq.l0)) (.region Zq.r16)))))) (.region Zq.r8))
def Zq.r5 : List Oper := [
 oD 17 (.mv (.t 5)),
 oD 18 (.bin .add (.t 17) (.c (.i .i64 1))),
 oD 5 (.mv (.t 18))]
def Zq.l2 : Code := .seq (.seq (.region Zq.r4) (.cond (.t 16) (.skip) (.exit 0))) (.seq (.block 1 (.seq (.region Zq.r6) (.block 2 (.loop Zq.l1)))) (.region Zq.r5))
def Zq.r17 : List Oper := [
 oD 72 (.mv (.t 4)),
 oD 2 (.mv (.t 72))]
def Zq.code : Code := .seq (.region Zq.r0) (.seq (.region Zq.r1) (.seq (.region Zq.r2) (.seq (.seq (.region Zq.r3) (.block 0 (.loop Zq.l2))) (.seq (.region Zq.r17) (.ret)))))
def Zq : Func := ⟨73, [.t 2], Zq.code⟩
/-! muntin/front.First -/
def ZP.r0 : List Oper := [
 oD 2 (.mv (.c (.i .i64 0))),
 oD 3 (.mv (.c (.i .i64 0))),
 oD 4 (.mv (.c (.b false)))]
def ZP.r1 : List Oper := [
 oD 13 (.mv (.t 0)),
 oD 14 (.call (.c (.f 195 [])) [.t 13]),
 oD 12 (.mv (.t 14)),
 oD 15 (.ext (.t 12) 0),
 oD 16 (.ext (.t 12) 1),
 oD 5 (.mv (.t 15)),
 oD 6 (.mv (.t 16))]
def ZP.r2 : List Oper := [
 oD 17 (.mv (.t 6)),
 oD 18 (.eq true .sc (.t 17) (.c (.i .i64 0)))]
def ZP.r3 : List Oper := [
 oD 2 (.mv (.c (.i .i64 0))),
 oD 3 (.mv (.c (.i .i64 0))),
 oD 4 (.mv (.c (.b false)))]
def ZP.r4 : List Oper := [
 oD 20 (.mv (.t 0)),
 oD 21 (.call (.c (.f 203 [])) [.t 20]),
 oD 19 (.mv (.t 21)),
 oD 22 (.ext (.t 19) 0),
 oD 23 (.ext (.t 19) 1),
 oD 7 (.mv (.t 22)),
 oD 8 (.mv (.t 23))]
def ZP.r5 : List Oper := [
 oD 24 (.mv (.t 7)),
 oD 25 (.len (.t 24)),
 oD 26 (.mv (.c (.i .i64 0)))]
def ZP.r6 : List Oper := [
 oD 27 (.bin .lss (.t 26) (.t 25))]
def ZP.r7 : List Oper := [
 oD 28 (.mv (.t 26)),
 oD 29 (.ixa 1 (.t 24) (.t 26)),
 oD 30 (.ld false 1 (.t 29)),
 oD 9 (.mv (.t 28)),
 oD 10 (.mv (.t 30))]
def ZP.r8 : List Oper := [
 oD 31 (.mv (.t 0)),
 oD 32 (.mv (.t 10)),
 oD 33 (.call (.c (.f 204 [])) [.t 31, .t 32]),
 oD 34 (.call (.c (.f 91 [])) [.t 33, .c (.f 205 [])]),
 oD 11 (.mv (.t 34))]
def ZP.r9 : List Oper := [
 oD 35 (.mv (.t 9)),
 oD 36 (.mv (.t 5)),
 oD 37 (.eq true .sc (.t 35) (.t 36)),
 oD 38 (.mv (.t 37)),
 ⟨(some 39), .mv (.t 11), (some (38, true))⟩,
 ⟨(some 40), .bin .geq (.t 39) (.c (.i .i64 0)), (some (38, true))⟩,
 oD 41 (.pick (.t 38) (.t 40) (.c (.b false)))]
def ZP.r10 : List Oper := [
 oD 42 (.mv (.t 9)),
 oD 43 (.mv (.t 11)),
 oD 2 (.mv (.t 42)),
 oD 3 (.mv (.t 43)),
 oD 4 (.mv (.c (.b true)))]
def ZP.r11 : List Oper := [
 oD 44 (.bin .add (.t 26) (.c (.i .i64 1))),
 oD 26 (.mv (.t 44))]
def ZP.l0 : Code := .seq (.region ZP.r6) (.seq (.cond (.t 27) (.skip) (.exit 0)) (.seq (.block 1 (.seq (.region ZP.r7) (.seq (.region ZP.r8) (.seq (.region ZP.r9) (.cond (.t 41) (.seq (.region ZP.r10) (.ret)) (.skip)))))) (.region ZP.r11)))
def ZP.r12 : List Oper := [
 oD 2 (.mv (.c (.i .i64 0))),
 oD 3 (.mv (.c (.i .i64 0))),
 oD 4 (.mv (.c (.b false)))]
def ZP.code : Code := .seq (.region ZP.r0) (.seq (.region ZP.r1) (.seq (.seq (.region ZP.r2) (.cond (.t 18) (.seq (.region ZP.r3) (.ret)) (.skip))) (.seq (.region ZP.r4) (.seq (.seq (.region ZP.r5) (.block 0 (.loop ZP.l0))) (.seq (.region ZP.r12) (.ret))))))
def ZP : Func := ⟨45, [.t 2, .t 3, .t 4], ZP.code⟩
/-! muntin/muntinref20.First -/
def Zw.r0 : List Oper := [
 oD 2 (.mv (.c (.i .i64 0))),
 oD 3 (.mv (.c (.i .i64 0)))]
def Zw.r1 : List Oper := [
 oD 11 (.mv (.t 0)),
 oD 12 (.call (.c (.f 181 [])) [.t 11]),
 oD 10 (.mv (.t 12)),
 oD 13 (.ext (.t 10) 0),
 oD 14 (.ext (.t 10) 1),
 oD 4 (.mv (.t 13)),
 oD 5 (.mv (.t 14))]
def Zw.r2 : List Oper := [
 oD 15 (.mv (.t 5)),
 oD 16 (.eq true .sc (.t 15) (.c (.i .i64 0))),
 oD 17 (.mv (.t 16)),
 ⟨(some 18), .mv (.t 4), (some (17, false))⟩,
 ⟨(some 19), .bin .lss (.t 18) (.c (.i .i64 0)), (some (17, false))⟩,
 oD 20 (.pick (.t 17) (.c (.b true)) (.t 19))]
def Zw.r3 : List Oper := [
 oD 2 (.mv (.c (.i .i64 (-1)))),
 oD 3 (.mv (.c (.i .i64 0)))]
def Zw.r4 : List Oper := [
 oD 21 (.mv (.t 0)),
 oD 22 (.call (.c (.f 177 [])) [.t 21]),
 oD 6 (.mv (.t 22))]
def Zw.r5 : List Oper := [
 oD 7 (.mv (.c (.i .i64 0)))]
def Zw.r6 : List Oper := [
 oD 23 (.mv (.t 7)),
 oD 24 (.mv (.t 6)),
 oD 25 (.len (.t 24)),
 oD 26 (.bin .lss (.t 23) (.t 25))]
def Zw.r8 : List Oper := [
 oD 29 (.mv (.t 0)),
 oD 30 (.mv (.t 6)),
 oD 31 (.mv (.t 7)),
 oD 32 (.ixa 1 (.t 30) (.t 31)),
 oD 33 (.ld false 1 (.t 32)),
 oD 34 (.call (.c (.f 182 [])) [.t 29, .t 33]),
 oD 8 (.mv (.t 34))]
def Zw.r9 : List Oper := [
 oD 9 (.mv (.c (.i .i64 0)))]
def Zw.r10 : List Oper := [
 oD 35 (.mv (.t 9)),
 oD 36 (.mv (.t 8)),
 oD 37 (.len (.t 36)),
 oD 38 (.bin .lss (.t 35) (.t 37)),
 oD 39 (.mv (.t 38)),
 ⟨(some 40), .mv (.t 7), (some (39, true))⟩,
 ⟨(some 41), .mv (.t 4), (some (39, true))⟩,
 ⟨(some 42), .eq true .sc (.t 40) (.t 41), (some (39, true))⟩,
 oD 43 (.pick (.t 39) (.t 42) (.c (.b false)))]
def Zw.r12 : List Oper := [
 oD 46 (.mv (.t 8)),
 oD 47 (.mv (.t 9)),
 oD 48 (.ixa 1 (.t 46) (.t 47)),
 oD 49 (.ld false 1 (.t 48)),
 oD 50 (.bin .lss (.t 49) (.c (.i .i64 0)))]
def Zw.r13 : List Oper := [
 oD 51 (.mv (.t 7)),
 oD 52 (.mv (.t 9)),
 oD 2 (.mv (.t 51)),
 oD 3 (.mv (.t 52))]
def Zw.r11 : List Oper := [
 oD 44 (.mv (.t 9)),
 oD 45 (.bin .add (.t 44) (.c (.i .i64 1))),
 oD 9 (.mv (.t 45))]
def Zw.l0 : Code := .seq (.seq (.region Zw.r10) (.cond (.t 43) (.skip) (.exit 2))) (.seq (.block 3 (.seq (.region Zw.r12) (.cond (.t 50) (.seq (.region Zw.r13) (.ret)) (.skip)))) (.region Zw.r11))
def Zw.r7 : List Oper := [
 oD 27 (.mv (.t 7)),
 oD 28 (.bin .add (.t 27) (.c (.i .i64 1))),
 oD 7 (.mv (.t 28))]
def Zw.l1 : Code := .seq (.seq (.region Zw.r6) (.cond (.t 26) (.skip) (.exit 0))) (.seq (.block 1 (.seq (.region Zw.r8) (.seq (.region Zw.r9) (.block 2 (.loop Zw.l0))))) (.region Zw.r7))
def Zw.r14 : List Oper := [
 oD 2 (.mv (.c (.i .i64 (-1)))),
 oD 3 (.mv (.c (.i .i64 0)))]
def Zw.code : Code := .seq (.region Zw.r0) (.seq (.region Zw.r1) (.seq (.seq (.region Zw.r2) (.cond (.t 20) (.seq (.region Zw.r3) (.ret)) (.skip))) (.seq (.region Zw.r4) (.seq (.seq (.region Zw.r5) (.block 0 (.loop Zw.l1))) (.seq (.region Zw.r14) (.ret))))))
def Zw : Func := ⟨53, [.t 2, .t 3], Zw.code⟩
/-! muntin/muntinref14.Outer -/
def Zn.r0 : List Oper := [
 oD 2 (.mv (.c (.i .i64 0))),
 oD 3 (.mv (.c (.i .i64 0)))]
def Zn.r1 : List Oper := [
 oD 11 (.mv (.t 0)),
 oD 12 (.call (.c (.f 34 [])) [.t 11]),
 oD 4 (.mv (.t 12))]
def Zn.r2 : List Oper := [
 oD 13 (.mv (.t 4)),
 oD 14 (.eq true .sc (.t 13) (.c (.i .i64 0)))]
def Zn.r3 : List Oper := [
 oD 15 (.mv (.t 4)),
 oD 2 (.mv (.c (.i .i64 (-1)))),
 oD 3 (.mv (.t 15))]
def Zn.r4 : List Oper := [
 oD 16 (.mv (.t 0)),
 oD 17 (.call (.c (.f 30 [])) [.t 16]),
 oD 5 (.mv (.t 17))]
def Zn.r5 : List Oper := [
 oD 18 (.mv (.t 5)),
 oD 19 (.len (.t 18)),
 oD 20 (.eq true .sc (.t 19) (.c (.i .i64 1)))]
def Zn.r6 : List Oper := [
 oD 2 (.mv (.c (.i .i64 (-1)))),
 oD 3 (.mv (.c (.i .i64 13)))]
def Zn.r7 : List Oper := [
 oD 21 (.mv (.t 0)),
 oD 22 (.len (.t 21)),
 oD 23 (.eq false .sc (.t 22) (.c (.i .i64 1)))]
def Zn.r8 : List Oper := [
 oD 2 (.mv (.c (.i .i64 (-1)))),
 oD 3 (.mv (.c (.i .i64 0)))]
def Zn.r9 : List Oper := [
 oD 24 (.mv (.t 0)),
 oD 25 (.call (.c (.f 177 [])) [.t 24]),
 oD 6 (.mv (.t 25))]
def Zn.r10 : List Oper := [
 oD 7 (.mv (.c (.i .i64 (-1))))]
def Zn.r11 : List Oper := [
 oD 8 (.mv (.c (.i .i64 0)))]
def Zn.r12 : List Oper := [
 oD 26 (.mv (.t 8)),
 oD 27 (.mv (.t 6)),
 oD 28 (.len (.t 27)),
 oD 29 (.bin .lss (.t 26) (.t 28))]
def Zn.r14 : List Oper := [
 oD 32 (.mv (.t 0)),
 oD 33 (.mv (.t 6)),
 oD 34 (.mv (.t 8)),
 oD 35 (.ixa 1 (.t 33) (.t 34)),
 oD 36 (.ld false 1 (.t 35)),
 oD 37 (.call (.c (.f 182 [])) [.t 32, .t 36]),
 oD 9 (.mv (.t 37))]
def Zn.r15 : List Oper := [
 oD 38 (.mv (.t 9)),
 oD 39 (.call (.c (.f 206 [])) [.t 38]),
 oD 10 (.mv (.t 39))]
def Zn.r16 : List Oper := [
 oD 40 (.mv (.t 10)),
 oD 41 (.eq true .sc (.t 40) (.c (.i .i64 4))),
 oD 42 (.mv (.t 41)),
 ⟨(some 43), .mv (.t 10), (some (42, true))⟩,
 ⟨(some 44), .eq true .sc (.t 43) (.c (.i .i64 (-4))), (some (42, true))⟩,
 oD 45 (.pick (.t 42) (.t 44) (.c (.b false))),
 oD 46 (.mv (.t 45)),
 ⟨(some 47), .mv (.t 10), (some (46, false))⟩,
 ⟨(some 48), .eq false .sc (.t 47) (.c (.i .i64 (-4))), (some (46, false))⟩,
 ⟨(some 49), .mv (.t 48), (some (46, false))⟩,
 ⟨(some 50), .mv (.t 7), (some (49, true))⟩,
 ⟨(some 51), .bin .geq (.t 50) (.c (.i .i64 0)), (some (49, true))⟩,
 ⟨(some 52), .pick (.t 49) (.t 51) (.c (.b false)), (some (46, false))⟩,
 oD 53 (.pick (.t 46) (.c (.b true)) (.t 52))]
def Zn.r17 : List Oper := [
 oD 2 (.mv (.c (.i .i64 (-1)))),
 oD 3 (.mv (.c (.i .i64 10)))]
def Zn.r18 : List Oper := [
 oD 54 (.mv (.t 10)),
 oD 55 (.eq false .sc (.t 54) (.c (.i .i64 (-4))))]
def Zn.r19 : List Oper := [
 oD 56 (.mv (.t 8)),
 oD 7 (.mv (.t 56))]
def Zn.r13 : List Oper := [
 oD 30 (.mv (.t 8)),
 oD 31 (.bin .add (.t 30) (.c (.i .i64 1))),
 oD 8 (.mv (.t 31))]
def Zn.l0 : Code := .seq (.seq (.region Zn.r12) (.cond (.t 29) (.skip) (.exit 0))) (.seq (.block 1 (.seq (.region Zn.r14) (.seq (.region Zn.r15) (.seq (.seq (.region Zn.r16) (.cond (.t 53) (.seq (.region Zn.r17) (.ret)) (.skip))) (.seq (.region Zn.r18) (.cond (.t 55) (.region Zn.r19) (.skip))))))) (.region Zn.r13))
def Zn.r20 : List Oper := [
 oD 57 (.mv (.t 7)),
 oD 58 (.bin .lss (.t 57) (.c (.i .i64 0)))]
def Zn.r21 : List Oper := [
 oD 2 (.mv (.c (.i .i64 (-1)))),
 oD 3 (.mv (.c (.i .i64 10)))]
def Zn.r22 : List Oper := [
 oD 59 (.mv (.t 7)),
 oD 2 (.mv (.t 59)),
 oD 3 (.mv (.c (.i .i64 0)))]
def Zn.code : Code := .seq (.region Zn.r0) (.seq (.region Zn.r1) (.seq (.seq (.region Zn.r2) (.cond (.t 14) (.seq (.region Zn.r3) (.ret)) (.skip))) (.seq (.region Zn.r4) (.seq (.seq (.region Zn.r5) (.cond (.t 20) (.seq (.region Zn.r6) (.ret)) (.skip))) (.seq (.seq (.region Zn.r7) (.cond (.t 23) (.seq (.region Zn.r8) (.ret)) (.skip))) (.seq (.region Zn.r9) (.seq (.region Zn.r10) (.seq (.seq (.region Zn.r11) (.block 0 (.loop Zn.l0))) (.seq (.seq (.region Zn.r20) (.cond (.t 58) (.seq (.region Zn.r21) (.ret)) (.skip))) (.seq (.region Zn.r22) (.ret)))))))))))
def Zn : Func := ⟨60, [.t 2, .t 3], Zn.code⟩
/-! muntin/muntinref12.Turns -/
def ZK.r0 : List Oper := [
 oD 4 (.mv (.c (.sn)))]
def ZK.r1 : List Oper := [
 oD 5 (.mv (.c (.sn)))]
def ZK.r2 : List Oper := [
 oD 6 (.mv (.c (.i .i64 0)))]
def ZK.r3 : List Oper := [
 oD 9 (.mv (.t 6)),
 oD 10 (.mv (.t 1)),
 oD 11 (.len (.t 10)),
 oD 12 (.bin .lss (.t 9) (.t 11))]
def ZK.r5 : List Oper := [
 oD 15 (.mv (.t 0)),
 oD 16 (.mv (.t 1)),
 oD 17 (.mv (.t 6)),
 oD 18 (.ixa 2 (.t 16) (.t 17)),
 oD 19 (.ld true 2 (.t 18)),
 oD 20 (.call (.c (.f 202 [])) [.t 15, .t 19]),
 oD 7 (.alloc [.i .i64 0, .i .i64 0]),
 oN (.st 2 (.t 7) (.t 20))]
def ZK.r6 : List Oper := [
 oD 21 (.mv (.t 1)),
 oD 22 (.mv (.t 6)),
 oD 23 (.ixa 2 (.t 21) (.t 22)),
 oD 24 (.fa 1 (.t 23)),
 oD 25 (.ld false 1 (.t 24)),
 oD 26 (.fa 1 (.t 7)),
 oD 27 (.ld false 1 (.t 26)),
 oD 28 (.call (.c (.f 207 [])) [.t 25, .t 27]),
 oD 8 (.mv (.t 28))]
def ZK.r7 : List Oper := [
 oD 29 (.mv (.t 5)),
 oD 30 (.mv (.t 8)),
 oD 31 (.bsl 1 1 [.i .i64 0] [(0, 1, .t 30)]),
 oD 32 (.app 1 8 (.t 29) (.t 31)),
 oD 5 (.mv (.t 32))]
def ZK.r4 : List Oper := [
 oD 13 (.mv (.t 6)),
 oD 14 (.bin .add (.t 13) (.c (.i .i64 1))),
 oD 6 (.mv (.t 14))]
def ZK.l0 : Code := .seq (.seq (.region ZK.r3) (.cond (.t 12) (.skip) (.exit 0))) (.seq (.block 1 (.seq (.region ZK.r5) (.seq (.draw ZK.r6 [(4, 6)]) (.region ZK.r7)))) (.region ZK.r4))
def ZK.r8 : List Oper := [
 oD 33 (.mv (.t 5)),
 oD 4 (.mv (.t 33))]
def ZK.code : Code := .seq (.region ZK.r0) (.seq (.region ZK.r1) (.seq (.seq (.region ZK.r2) (.block 0 (.loop ZK.l0))) (.seq (.region ZK.r8) (.ret))))
def ZK : Func := ⟨34, [.t 4], ZK.code⟩
/-! muntin/valid.Outer -/
def zr.r0 : List Oper := [
 oD 2 (.mv (.c (.i .i64 0))),
 oD 3 (.mv (.c (.i .i64 0)))]
def zr.r1 : List Oper := [
 oD 7 (.mv (.t 0)),
 oD 8 (.call (.c (.f 176 [])) [.t 7]),
 oD 4 (.mv (.t 8))]
def zr.r2 : List Oper := [
 oD 9 (.mv (.t 4)),
 oD 10 (.eq true .sc (.t 9) (.c (.i .i64 0)))]
def zr.r3 : List Oper := [
 oD 11 (.mv (.t 4)),
 oD 2 (.mv (.c (.i .i64 0))),
 oD 3 (.mv (.t 11))]
def zr.r4 : List Oper := [
 oD 13 (.mv (.t 0)),
 oD 14 (.call (.c (.f 201 [])) [.t 13]),
 oD 12 (.mv (.t 14)),
 oD 15 (.ext (.t 12) 0),
 oD 16 (.ext (.t 12) 1),
 oD 5 (.mv (.t 15)),
 oD 6 (.mv (.t 16))]
def zr.r5 : List Oper := [
 oD 17 (.mv (.t 6)),
 oD 18 (.un .not (.t 17))]
def zr.r6 : List Oper := [
 oD 2 (.mv (.c (.i .i64 0))),
 oD 3 (.mv (.c (.i .i64 2)))]
def zr.r7 : List Oper := [
 oD 19 (.mv (.t 5)),
 oD 2 (.mv (.t 19)),
 oD 3 (.mv (.c (.i .i64 0)))]
def zr.code : Code := .seq (.region zr.r0) (.seq (.seq (.region zr.r1) (.seq (.region zr.r2) (.cond (.t 10) (.seq (.region zr.r3) (.ret)) (.skip)))) (.seq (.region zr.r4) (.seq (.seq (.region zr.r5) (.cond (.t 18) (.seq (.region zr.r6) (.ret)) (.skip))) (.seq (.region zr.r7) (.ret)))))
def zr : Func := ⟨20, [.t 2, .t 3], zr.code⟩
/-! muntin/valid.outer -/
def ZM.r0 : List Oper := [
 oD 2 (.mv (.c (.i .i64 0))),
 oD 3 (.mv (.c (.b false)))]
def ZM.r1 : List Oper := [
 oD 10 (.mv (.t 0)),
 oD 11 (.call (.c (.f 203 [])) [.t 10]),
 oD 9 (.mv (.t 11)),
 oD 12 (.ext (.t 9) 0),
 oD 13 (.ext (.t 9) 1),
 oD 4 (.mv (.t 12)),
 oD 5 (.mv (.t 13))]
def ZM.r2 : List Oper := [
 oD 6 (.mv (.c (.i .i64 (-1))))]
def ZM.r3 : List Oper := [
 oD 14 (.mv (.t 4)),
 oD 15 (.len (.t 14)),
 oD 16 (.mv (.c (.i .i64 0)))]
def ZM.r4 : List Oper := [
 oD 17 (.bin .lss (.t 16) (.t 15))]
def ZM.r5 : List Oper := [
 oD 18 (.mv (.t 16)),
 oD 19 (.ixa 1 (.t 14) (.t 16)),
 oD 20 (.ld false 1 (.t 19)),
 oD 7 (.mv (.t 18)),
 oD 8 (.mv (.t 20))]
def ZM.r6 : List Oper := [
 oD 21 (.mv (.t 0)),
 oD 22 (.mv (.t 8)),
 oD 23 (.call (.c (.f 204 [])) [.t 21, .t 22]),
 oD 24 (.call (.c (.f 219 [])) [.t 23])]
def ZM.r8 : List Oper := [
 oD 26 (.eq false .sc (.t 24) (.c (.i .i64 4))),
 oD 25 (.mv (.t 26))]
def ZM.r9 : List Oper := [
 oD 28 (.eq false .sc (.t 24) (.c (.i .i64 (-4)))),
 oD 27 (.mv (.t 28))]
def ZM.r10 : List Oper := [
 oD 29 (.mv (.t 6)),
 oD 30 (.bin .geq (.t 29) (.c (.i .i64 0)))]
def ZM.r11 : List Oper := [
 oD 2 (.mv (.c (.i .i64 0))),
 oD 3 (.mv (.c (.b false)))]
def ZM.r12 : List Oper := [
 oD 31 (.mv (.t 7)),
 oD 6 (.mv (.t 31))]
def ZM.r7 : List Oper := [
 oD 2 (.mv (.c (.i .i64 0))),
 oD 3 (.mv (.c (.b false)))]
def ZM.r13 : List Oper := [
 oD 32 (.bin .add (.t 16) (.c (.i .i64 1))),
 oD 16 (.mv (.t 32))]
def ZM.l0 : Code := .seq (.region ZM.r4) (.seq (.cond (.t 17) (.skip) (.exit 0)) (.seq (.block 1 (.seq (.region ZM.r5) (.seq (.region ZM.r6) (.block 2 (.seq (.region ZM.r8) (.cond (.t 25) (.skip) (.seq (.region ZM.r9) (.cond (.t 27) (.seq (.seq (.region ZM.r10) (.cond (.t 30) (.seq (.region ZM.r11) (.ret)) (.skip))) (.region ZM.r12)) (.seq (.region ZM.r7) (.ret)))))))))) (.region ZM.r13)))
def ZM.r14 : List Oper := [
 oD 33 (.mv (.t 6)),
 oD 34 (.mv (.t 6)),
 oD 35 (.bin .geq (.t 34) (.c (.i .i64 0))),
 oD 2 (.mv (.t 33)),
 oD 3 (.mv (.t 35))]
def ZM.code : Code := .seq (.region ZM.r0) (.seq (.region ZM.r1) (.seq (.region ZM.r2) (.seq (.seq (.region ZM.r3) (.block 0 (.loop ZM.l0))) (.seq (.region ZM.r14) (.ret)))))
def ZM : Func := ⟨36, [.t 2, .t 3], ZM.code⟩
/-! muntin/muntinref12.Behind -/
def Z8.r0 : List Oper := [
 oD 3 (.box (.t 1)),
 oD 4 (.alloc [.i .i64 0, .i .i64 0])]
def Z8.r1 : List Oper := [
 oD 9 (.mv (.t 0)),
 oD 10 (.fa 0 (.t 3)),
 oD 11 (.ld false 1 (.t 10)),
 oD 12 (.fa 1 (.t 3)),
 oD 13 (.ld false 1 (.t 12)),
 oD 14 (.ixa 8 (.t 9) (.t 11)),
 oD 15 (.fa 0 (.t 14)),
 oD 16 (.ixaa 1 4 (.t 15) (.t 13)),
 oD 17 (.ld false 1 (.t 16)),
 oD 5 (.mv (.t 17))]
def Z8.r2 : List Oper := [
 oD 18 (.bsl 1 4 [.i .i64 0] [(0, 1, .c (.i .i64 1)), (1, 1, .c (.i .i64 0)), (2, 1, .c (.i .i64 3)), (3, 1, .c (.i .i64 2))]),
 oD 6 (.mv (.t 18))]
def Z8.r3 : List Oper := [
 oD 7 (.mv (.c (.i .i64 0)))]
def Z8.r4 : List Oper := [
 oD 19 (.mv (.t 7)),
 oD 20 (.bin .lss (.t 19) (.c (.i .i64 4)))]
def Z8.r6 : List Oper := [
 oD 23 (.fa 1 (.t 3)),
 oD 24 (.ld false 1 (.t 23)),
 oD 25 (.mv (.t 6)),
 oD 26 (.mv (.t 7)),
 oD 27 (.ixa 1 (.t 25) (.t 26)),
 oD 28 (.ld false 1 (.t 27)),
 oD 29 (.bin .add (.t 24) (.t 28)),
 oD 30 (.bin .rem (.t 29) (.c (.i .i64 4))),
 oD 8 (.mv (.t 30))]
def Z8.r7 : List Oper := [
 oD 31 (.mv (.t 0)),
 oD 32 (.mv (.t 5)),
 oD 33 (.mv (.t 8)),
 oD 34 (.ixa 8 (.t 31) (.t 32)),
 oD 35 (.fa 0 (.t 34)),
 oD 36 (.ixaa 1 4 (.t 35) (.t 33)),
 oD 37 (.ld false 1 (.t 36)),
 oD 38 (.bin .geq (.t 37) (.c (.i .i64 0)))]
def Z8.r8 : List Oper := [
 oD 39 (.mv (.t 5)),
 oD 40 (.mv (.t 8)),
 oD 41 (.build [.i .i64 0, .i .i64 0] [(0, 1, .t 39), (1, 1, .t 40)]),
 oN (.st 2 (.t 4) (.t 41))]
def Z8.r5 : List Oper := [
 oD 21 (.mv (.t 7)),
 oD 22 (.bin .add (.t 21) (.c (.i .i64 1))),
 oD 7 (.mv (.t 22))]
def Z8.l0 : Code := .seq (.seq (.region Z8.r4) (.cond (.t 20) (.skip) (.exit 0))) (.seq (.block 1 (.seq (.draw Z8.r6 [(1, 5)]) (.seq (.region Z8.r7) (.cond (.t 38) (.seq (.region Z8.r8) (.ret)) (.skip))))) (.region Z8.r5))
def Z8.r9 : List Oper := [
 oD 42 (.ld true 2 (.t 3)),
 oN (.st 2 (.t 4) (.t 42))]
def Z8.code : Code := .seq (.region Z8.r0) (.seq (.draw Z8.r1 [(2, 4)]) (.seq (.region Z8.r2) (.seq (.seq (.region Z8.r3) (.block 0 (.loop Z8.l0))) (.seq (.region Z8.r9) (.ret)))))
def Z8 : Func := ⟨43, [.cell 4 true 2], Z8.code⟩
/-! muntin/face.Faces -/
def Zz.r0 : List Oper := [
 oD 2 (.mv (.c (.sn))),
 oD 3 (.mv (.c (.i .i64 0)))]
def Zz.r1 : List Oper := [
 oD 12 (.mv (.t 0)),
 oD 13 (.call (.c (.f 66 [])) [.t 12]),
 oD 4 (.mv (.t 13))]
def Zz.r2 : List Oper := [
 oD 14 (.mv (.t 4)),
 oD 15 (.eq true .sc (.t 14) (.c (.i .i64 0)))]
def Zz.r3 : List Oper := [
 oD 16 (.mv (.t 4)),
 oD 2 (.mv (.c (.sn))),
 oD 3 (.mv (.t 16))]
def Zz.r4 : List Oper := [
 oD 5 (.mv (.c (.sn)))]
def Zz.r5 : List Oper := [
 oD 17 (.mkm),
 oD 6 (.mv (.t 17))]
def Zz.r6 : List Oper := [
 oD 18 (.mv (.t 0)),
 oD 19 (.len (.t 18)),
 oD 20 (.mv (.c (.i .i64 0)))]
def Zz.r7 : List Oper := [
 oD 21 (.bin .lss (.t 20) (.t 19))]
def Zz.r8 : List Oper := [
 oD 22 (.mv (.t 20)),
 oD 7 (.mv (.t 22))]
def Zz.r9 : List Oper := [
 oD 23 (.mv (.c (.i .i64 0)))]
def Zz.r10 : List Oper := [
 oD 24 (.bin .lss (.t 23) (.c (.i .i64 4)))]
def Zz.r11 : List Oper := [
 oD 25 (.mv (.t 23)),
 oD 8 (.mv (.t 25))]
def Zz.r12 : List Oper := [
 oD 26 (.mv (.t 7)),
 oD 27 (.mv (.t 8)),
 oD 28 (.build [.i .i64 0, .i .i64 0] [(0, 1, .t 26), (1, 1, .t 27)]),
 oD 9 (.alloc [.i .i64 0, .i .i64 0]),
 oN (.st 2 (.t 9) (.t 28))]
def Zz.r13 : List Oper := [
 oD 29 (.ld true 2 (.t 9)),
 oD 30 (.mv (.t 0)),
 oD 31 (.call (.c (.f 220 [])) [.t 29, .t 30]),
 oD 32 (.un .not (.t 31)),
 oD 33 (.mv (.t 32)),
 ⟨(some 34), .mv (.t 6), (some (33, false))⟩,
 ⟨(some 35), .ld true 2 (.t 9), (some (33, false))⟩,
 ⟨(some 36), .mlk [.i, .i] false (.b false) (.t 34) (.t 35), (some (33, false))⟩,
 oD 37 (.pick (.t 33) (.c (.b true)) (.t 36))]
def Zz.r14 : List Oper := [
 oD 10 (.mv (.c (.sn)))]
def Zz.r15 : List Oper := [
 oD 38 (.ld true 2 (.t 9)),
 oD 11 (.alloc [.i .i64 0, .i .i64 0]),
 oN (.st 2 (.t 11) (.t 38))]
def Zz.r16 : List Oper := [
 oD 39 (.mv (.t 6)),
 oD 40 (.ld true 2 (.t 11)),
 oD 41 (.mlk [.i, .i] false (.b false) (.t 39) (.t 40)),
 oD 42 (.un .not (.t 41))]
def Zz.r18 : List Oper := [
 oD 46 (.mv (.t 6)),
 oD 47 (.ld true 2 (.t 11)),
 oN (.mup [.i, .i] (.t 46) (.t 47) (.c (.b true)))]
def Zz.r19 : List Oper := [
 oD 48 (.mv (.t 10)),
 oD 49 (.ld true 2 (.t 11)),
 oD 50 (.bsl 2 1 [.i .i64 0, .i .i64 0] [(0, 2, .t 49)]),
 oD 51 (.app 2 16 (.t 48) (.t 50)),
 oD 10 (.mv (.t 51))]
def Zz.r20 : List Oper := [
 oD 52 (.ld true 2 (.t 11))]
def Zz.r21 : List Oper := [
 oD 11 (.alloc [.i .i64 0, .i .i64 0]),
 oN (.st 2 (.t 11) (.t 52))]
def Zz.r17 : List Oper := [
 oD 43 (.ld true 2 (.t 11)),
 oD 44 (.mv (.t 0)),
 oD 45 (.call (.c (.f 221 [])) [.t 43, .t 44]),
 oN (.st 2 (.t 11) (.t 45))]
def Zz.l0 : Code := .seq (.seq (.region Zz.r16) (.cond (.t 42) (.skip) (.exit 4))) (.seq (.block 5 (.seq (.region Zz.r18) (.region Zz.r19))) (.seq (.seq (.region Zz.r20) (.region Zz.r21)) (.region Zz.r17)))
def Zz.r22 : List Oper := [
 oD 53 (.mv (.t 5)),
 oD 54 (.mv (.t 10)),
 oD 55 (.bsl 1 1 [.sn] [(0, 1, .t 54)]),
 oD 56 (.app 1 24 (.t 53) (.t 55)),
 oD 5 (.mv (.t 56))]
def Zz.r23 : List Oper := [
 oD 57 (.bin .add (.t 23) (.c (.i .i64 1))),
 oD 23 (.mv (.t 57))]
def Zz.l1 : Code := .seq (.region Zz.r10) (.seq (.cond (.t 24) (.skip) (.exit 2)) (.seq (.block 3 (.seq (.region Zz.r11) (.seq (.region Zz.r12) (.seq (.seq (.region Zz.r13) (.cond (.t 37) (.exit 3) (.skip))) (.seq (.region Zz.r14) (.seq (.seq (.region Zz.r15) (.block 4 (.loop Zz.l0))) (.region Zz.r22))))))) (.region Zz.r23)))
def Zz.r24 : List Oper := [
 oD 58 (.bin .add (.t 20) (.c (.i .i64 1))),
 oD 20 (.mv (.t 58))]
def Zz.l2 : Code := .seq (.region Zz.r7) (.seq (.cond (.t 21) (.skip) (.exit 0)) (.seq (.block 1 (.seq (.region Zz.r8) (.seq (.region Zz.r9) (.block 2 (.loop Zz.l1))))) (.region Zz.r24)))
def Zz.r25 : List Oper := [
 oD 59 (.mv (.t 5)),
 oD 2 (.mv (.t 59)),
 oD 3 (.mv (.c (.i .i64 0)))]
def Zz.code : Code := .seq (.region Zz.r0) (.seq (.seq (.region Zz.r1) (.seq (.region Zz.r2) (.cond (.t 15) (.seq (.region Zz.r3) (.ret)) (.skip)))) (.seq (.region Zz.r4) (.seq (.region Zz.r5) (.seq (.seq (.region Zz.r6) (.block 0 (.loop Zz.l2))) (.seq (.region Zz.r25) (.ret))))))
def Zz : Func := ⟨60, [.t 2, .t 3], Zz.code⟩
/-! muntin/face.Turns -/
def za.r0 : List Oper := [
 oD 4 (.mv (.c (.sn)))]
def za.r1 : List Oper := [
 oD 8 (.mv (.t 1)),
 oD 9 (.len (.t 8)),
 oD 10 (.mks 1 8 [.i .i64 0] (.t 9) (.t 9)),
 oD 5 (.mv (.t 10))]
def za.r2 : List Oper := [
 oD 11 (.mv (.t 0)),
 oD 12 (.call (.c (.f 66 [])) [.t 11]),
 oD 13 (.eq true .sc (.t 12) (.c (.i .i64 0)))]
def za.r3 : List Oper := [
 oD 14 (.mv (.t 5)),
 oD 4 (.mv (.t 14))]
def za.r4 : List Oper := [
 oD 15 (.mv (.t 1)),
 oD 16 (.len (.t 15)),
 oD 17 (.mv (.c (.i .i64 0)))]
def za.r5 : List Oper := [
 oD 18 (.bin .lss (.t 17) (.t 16))]
def za.r6 : List Oper := [
 oD 19 (.mv (.t 17)),
 oD 20 (.ixa 2 (.t 15) (.t 17)),
 oD 21 (.ld true 2 (.t 20)),
 oD 7 (.alloc [.i .i64 0, .i .i64 0]),
 oD 6 (.mv (.t 19)),
 oN (.st 2 (.t 7) (.t 21))]
def za.r7 : List Oper := [
 oD 22 (.ld true 2 (.t 7)),
 oD 23 (.mv (.t 0)),
 oD 24 (.call (.c (.f 220 [])) [.t 22, .t 23])]
def za.r8 : List Oper := [
 oD 25 (.mv (.t 5)),
 oD 26 (.mv (.t 6)),
 oD 27 (.fa 1 (.t 7)),
 oD 28 (.ld false 1 (.t 27)),
 oD 29 (.ld true 2 (.t 7)),
 oD 30 (.mv (.t 0)),
 oD 31 (.call (.c (.f 221 [])) [.t 29, .t 30]),
 oD 32 (.fld false 1 1 (.t 31)),
 oD 33 (.call (.c (.f 222 [])) [.t 28, .t 32]),
 oD 34 (.ixa 1 (.t 25) (.t 26)),
 oN (.st 1 (.t 34) (.t 33))]
def za.r9 : List Oper := [
 oD 35 (.bin .add (.t 17) (.c (.i .i64 1))),
 oD 17 (.mv (.t 35))]
def za.l0 : Code := .seq (.region za.r5) (.seq (.cond (.t 18) (.skip) (.exit 0)) (.seq (.block 1 (.seq (.region za.r6) (.seq (.region za.r7) (.cond (.t 24) (.draw za.r8 [(3, 4), (3, 6)]) (.skip))))) (.region za.r9)))
def za.r10 : List Oper := [
 oD 36 (.mv (.t 5)),
 oD 4 (.mv (.t 36))]
def za.code : Code := .seq (.region za.r0) (.seq (.region za.r1) (.seq (.seq (.region za.r2) (.cond (.t 13) (.seq (.region za.r3) (.ret)) (.skip))) (.seq (.seq (.region za.r4) (.block 0 (.loop za.l0))) (.seq (.region za.r10) (.ret)))))
def za : Func := ⟨37, [.t 4], za.code⟩
/-! muntin/front.First$1 -/
def zR.r0 : List Oper := [
 oD 2 (.mv (.c (.b false)))]
def zR.r1 : List Oper := [
 oD 3 (.mv (.t 0)),
 oD 4 (.bin .lss (.t 3) (.c (.i .i64 0))),
 oD 2 (.mv (.t 4))]
def zR.code : Code := .seq (.region zR.r0) (.seq (.region zR.r1) (.ret))
def zR : Func := ⟨5, [.t 2], zR.code⟩
/-! muntin/muntinref12.Rotation -/
def ZE.r0 : List Oper := [
 oD 2 (.mv (.c (.i .i64 0)))]
def ZE.r1 : List Oper := [
 oD 3 (.mv (.c (.i .i64 0)))]
def ZE.r2 : List Oper := [
 oD 4 (.mv (.c (.i .i64 0)))]
def ZE.r3 : List Oper := [
 oD 5 (.mv (.t 4)),
 oD 6 (.mv (.t 0)),
 oD 7 (.len (.t 6)),
 oD 8 (.bin .lss (.t 5) (.t 7))]
def ZE.r5 : List Oper := [
 oD 11 (.mv (.t 0)),
 oD 12 (.mv (.t 4)),
 oD 13 (.ixa 1 (.t 11) (.t 12)),
 oD 14 (.ld false 1 (.t 13)),
 oD 15 (.bin .geq (.t 14) (.c (.i .i64 (-2)))),
 oD 16 (.mv (.t 15)),
 ⟨(some 17), .mv (.t 0), (some (16, true))⟩,
 ⟨(some 18), .mv (.t 4), (some (16, true))⟩,
 ⟨(some 19), .ixa 1 (.t 17) (.t 18), (some (16, true))⟩,
 ⟨(some 20), .ld false 1 (.t 19), (some (16, true))⟩,
 ⟨(some 21), .bin .leq (.t 20) (.c (.i .i64 1)), (some (16, true))⟩,
 oD 22 (.pick (.t 16) (.t 21) (.c (.b false)))]
def ZE.r6 : List Oper := [
 oD 23 (.mv (.t 3)),
 oD 24 (.mv (.t 0)),
 oD 25 (.mv (.t 4)),
 oD 26 (.ixa 1 (.t 24) (.t 25)),
 oD 27 (.ld false 1 (.t 26)),
 oD 28 (.bin .add (.t 23) (.t 27)),
 oD 3 (.mv (.t 28))]
def ZE.r4 : List Oper := [
 oD 9 (.mv (.t 4)),
 oD 10 (.bin .add (.t 9) (.c (.i .i64 1))),
 oD 4 (.mv (.t 10))]
def ZE.l0 : Code := .seq (.seq (.region ZE.r3) (.cond (.t 8) (.skip) (.exit 0))) (.seq (.block 1 (.seq (.region ZE.r5) (.cond (.t 22) (.region ZE.r6) (.skip)))) (.region ZE.r4))
def ZE.r7 : List Oper := [
 oD 29 (.mv (.t 3)),
 oD 2 (.mv (.t 29))]
def ZE.code : Code := .seq (.region ZE.r0) (.seq (.region ZE.r1) (.seq (.seq (.region ZE.r2) (.block 0 (.loop ZE.l0))) (.seq (.region ZE.r7) (.ret))))
def ZE : Func := ⟨30, [.t 2], ZE.code⟩
/-! muntin/muntinref01.Turn -/
def ZC.r0 : List Oper := [
 oD 4 (.mv (.c (.i .i64 0)))]
def ZC.r1 : List Oper := [
 oD 8 (.mv (.t 0)),
 oD 9 (.call (.c (.f 223 [])) [.t 8]),
 oD 5 (.mv (.t 9))]
def ZC.r2 : List Oper := [
 oD 10 (.mv (.t 1)),
 oD 11 (.call (.c (.f 223 [])) [.t 10]),
 oD 6 (.mv (.t 11))]
def ZC.r3 : List Oper := [
 oD 12 (.mv (.t 5)),
 oD 13 (.un .not (.t 12)),
 oD 14 (.mv (.t 13)),
 ⟨(some 15), .mv (.t 6), (some (14, false))⟩,
 ⟨(some 16), .un .not (.t 15), (some (14, false))⟩,
 oD 17 (.pick (.t 14) (.c (.b true)) (.t 16)),
 oD 18 (.mv (.t 17)),
 ⟨(some 19), .mv (.t 0), (some (18, false))⟩,
 ⟨(some 20), .mv (.t 1), (some (18, false))⟩,
 ⟨(some 21), .eq false .sc (.t 19) (.t 20), (some (18, false))⟩,
 oD 22 (.pick (.t 18) (.c (.b true)) (.t 21))]
def ZC.r4 : List Oper := [
 oD 4 (.mv (.c (.i .i64 0)))]
def ZC.r5 : List Oper := [
 oD 23 (.mv (.t 0)),
 oD 24 (.call (.c (.f 224 [])) [.t 23, .c (.i .i64 1)]),
 oD 7 (.mv (.t 24))]
def ZC.r6 : List Oper := [
 oD 25 (.mv (.t 7)),
 oD 26 (.mv (.t 1)),
 oD 27 (.eq false .sc (.t 25) (.t 26))]
def ZC.r7 : List Oper := [
 oD 4 (.mv (.c (.i .i64 1)))]
def ZC.r8 : List Oper := [
 oD 28 (.mv (.t 0)),
 oD 29 (.call (.c (.f 224 [])) [.t 28, .c (.i .i64 3)]),
 oD 7 (.mv (.t 29))]
def ZC.r9 : List Oper := [
 oD 30 (.mv (.t 7)),
 oD 31 (.mv (.t 1)),
 oD 32 (.eq false .sc (.t 30) (.t 31))]
def ZC.r10 : List Oper := [
 oD 4 (.mv (.c (.i .i64 (-1))))]
def ZC.r11 : List Oper := [
 oD 4 (.mv (.c (.i .i64 (-2))))]
def ZC.code : Code := .seq (.region ZC.r0) (.seq (.region ZC.r1) (.seq (.region ZC.r2) (.seq (.seq (.region ZC.r3) (.cond (.t 22) (.seq (.region ZC.r4) (.ret)) (.skip))) (.seq (.region ZC.r5) (.seq (.seq (.region ZC.r6) (.cond (.t 27) (.seq (.region ZC.r7) (.ret)) (.skip))) (.seq (.region ZC.r8) (.seq (.seq (.region ZC.r9) (.cond (.t 32) (.seq (.region ZC.r10) (.ret)) (.skip))) (.seq (.region ZC.r11) (.ret)))))))))
def ZC : Func := ⟨33, [.t 4], ZC.code⟩
/-! muntin/face.Rotation -/
def ZV.r0 : List Oper := [
 oD 2 (.mv (.c (.i .i64 0)))]
def ZV.r1 : List Oper := [
 oD 3 (.mv (.c (.i .i64 0)))]
def ZV.r2 : List Oper := [
 oD 6 (.mv (.t 0)),
 oD 7 (.len (.t 6)),
 oD 8 (.mv (.c (.i .i64 0)))]
def ZV.r3 : List Oper := [
 oD 9 (.bin .lss (.t 8) (.t 7))]
def ZV.r4 : List Oper := [
 oD 10 (.ixa 1 (.t 6) (.t 8)),
 oD 11 (.ld false 1 (.t 10)),
 oD 5 (.mv (.t 11))]
def ZV.r5 : List Oper := [
 oD 12 (.mv (.t 5)),
 oD 13 (.bin .geq (.t 12) (.c (.i .i64 (-2)))),
 oD 14 (.mv (.t 13)),
 ⟨(some 15), .mv (.t 5), (some (14, true))⟩,
 ⟨(some 16), .bin .leq (.t 15) (.c (.i .i64 1)), (some (14, true))⟩,
 oD 17 (.pick (.t 14) (.t 16) (.c (.b false)))]
def ZV.r6 : List Oper := [
 oD 18 (.mv (.t 3)),
 oD 19 (.mv (.t 5)),
 oD 20 (.bin .add (.t 18) (.t 19)),
 oD 3 (.mv (.t 20))]
def ZV.r7 : List Oper := [
 oD 21 (.bin .add (.t 8) (.c (.i .i64 1))),
 oD 8 (.mv (.t 21))]
def ZV.l0 : Code := .seq (.region ZV.r3) (.seq (.cond (.t 9) (.skip) (.exit 0)) (.seq (.block 1 (.seq (.region ZV.r4) (.seq (.region ZV.r5) (.cond (.t 17) (.region ZV.r6) (.skip))))) (.region ZV.r7)))
def ZV.r8 : List Oper := [
 oD 22 (.mv (.t 3)),
 oD 2 (.mv (.t 22))]
def ZV.code : Code := .seq (.region ZV.r0) (.seq (.region ZV.r1) (.seq (.seq (.region ZV.r2) (.block 0 (.loop ZV.l0))) (.seq (.region ZV.r8) (.ret))))
def ZV : Func := ⟨23, [.t 2], ZV.code⟩
/-! (muntin/face.Dart).is -/
def Zac.r0 : List Oper := [
 oD 2 (.box (.t 0)),
 oD 4 (.mv (.c (.b false)))]
def Zac.r1 : List Oper := [
 oD 5 (.fa 0 (.t 2)),
 oD 6 (.ld false 1 (.t 5)),
 oD 7 (.bin .geq (.t 6) (.c (.i .i64 0))),
 oD 8 (.mv (.t 7)),
 ⟨(some 9), .fa 0 (.t 2), (some (8, true))⟩,
 ⟨(some 10), .ld false 1 (.t 9), (some (8, true))⟩,
 ⟨(some 11), .mv (.t 1), (some (8, true))⟩,
 ⟨(some 12), .len (.t 11), (some (8, true))⟩,
 ⟨(some 13), .bin .lss (.t 10) (.t 12), (some (8, true))⟩,
 oD 14 (.pick (.t 8) (.t 13) (.c (.b false))),
 oD 15 (.mv (.t 14)),
 ⟨(some 16), .fa 1 (.t 2), (some (15, true))⟩,
 ⟨(some 17), .ld false 1 (.t 16), (some (15, true))⟩,
 ⟨(some 18), .call (.c (.f 90 [])) [.t 17], (some (15, true))⟩,
 oD 19 (.pick (.t 15) (.t 18) (.c (.b false))),
 oD 20 (.mv (.t 19)),
 ⟨(some 21), .mv (.t 1), (some (20, true))⟩,
 ⟨(some 22), .fa 0 (.t 2), (some (20, true))⟩,
 ⟨(some 23), .ld false 1 (.t 22), (some (20, true))⟩,
 ⟨(some 24), .fa 1 (.t 2), (some (20, true))⟩,
 ⟨(some 25), .ld false 1 (.t 24), (some (20, true))⟩,
 ⟨(some 26), .ixa 8 (.t 21) (.t 23), (some (20, true))⟩,
 ⟨(some 27), .fa 0 (.t 26), (some (20, true))⟩,
 ⟨(some 28), .ixaa 1 4 (.t 27) (.t 25), (some (20, true))⟩,
 ⟨(some 29), .ld false 1 (.t 28), (some (20, true))⟩,
 ⟨(some 30), .bin .geq (.t 29) (.c (.i .i64 0)), (some (20, true))⟩,
 oD 31 (.pick (.t 20) (.t 30) (.c (.b false))),
 oD 4 (.mv (.t 31))]
def Zac.code : Code := .seq (.region Zac.r0) (.seq (.draw Zac.r1 [(18, 20)]) (.ret))
def Zac : Func := ⟨32, [.t 4], Zac.code⟩
/-! (muntin/face.Dart).behind -/
def ZJ.r0 : List Oper := [
 oD 2 (.box (.t 0)),
 oD 4 (.alloc [.i .i64 0, .i .i64 0])]
def ZJ.r1 : List Oper := [
 oD 9 (.mv (.t 1)),
 oD 10 (.fa 0 (.t 2)),
 oD 11 (.ld false 1 (.t 10)),
 oD 12 (.fa 1 (.t 2)),
 oD 13 (.ld false 1 (.t 12)),
 oD 14 (.ixa 8 (.t 9) (.t 11)),
 oD 15 (.fa 0 (.t 14)),
 oD 16 (.ixaa 1 4 (.t 15) (.t 13)),
 oD 17 (.ld false 1 (.t 16)),
 oD 5 (.mv (.t 17))]
def ZJ.r2 : List Oper := [
 oD 18 (.build [.i .i64 0, .i .i64 0, .i .i64 0, .i .i64 0] [(0, 1, .c (.i .i64 1)), (1, 1, .c (.i .i64 0)), (2, 1, .c (.i .i64 (-1))), (3, 1, .c (.i .i64 2))]),
 oD 19 (.mv (.c (.i .i64 0)))]
def ZJ.r3 : List Oper := [
 oD 20 (.bin .lss (.t 19) (.c (.i .i64 4)))]
def ZJ.r4 : List Oper := [
 oD 21 (.ix false 1 4 (.t 18) (.t 19)),
 oD 7 (.mv (.t 21))]
def ZJ.r5 : List Oper := [
 oD 22 (.mv (.t 5)),
 oD 23 (.fa 1 (.t 2)),
 oD 24 (.ld false 1 (.t 23)),
 oD 25 (.mv (.t 7)),
 oD 26 (.call (.c (.f 77 [])) [.t 24, .t 25]),
 oD 27 (.build [.i .i64 0, .i .i64 0] [(0, 1, .t 22), (1, 1, .t 26)]),
 oD 8 (.alloc [.i .i64 0, .i .i64 0]),
 oN (.st 2 (.t 8) (.t 27))]
def ZJ.r6 : List Oper := [
 oD 28 (.ld true 2 (.t 8)),
 oD 29 (.mv (.t 1)),
 oD 30 (.call (.c (.f 220 [])) [.t 28, .t 29])]
def ZJ.r7 : List Oper := [
 oD 31 (.ld true 2 (.t 8)),
 oN (.st 2 (.t 4) (.t 31))]
def ZJ.r8 : List Oper := [
 oD 32 (.bin .add (.t 19) (.c (.i .i64 1))),
 oD 19 (.mv (.t 32))]
def ZJ.l0 : Code := .seq (.region ZJ.r3) (.seq (.cond (.t 20) (.skip) (.exit 0)) (.seq (.block 1 (.seq (.region ZJ.r4) (.seq (.region ZJ.r5) (.seq (.region ZJ.r6) (.cond (.t 30) (.seq (.region ZJ.r7) (.ret)) (.skip)))))) (.region ZJ.r8)))
def ZJ.r9 : List Oper := [
 oD 33 (.ld true 2 (.t 2)),
 oN (.st 2 (.t 4) (.t 33))]
def ZJ.code : Code := .seq (.region ZJ.r0) (.seq (.draw ZJ.r1 [(2, 4)]) (.seq (.seq (.region ZJ.r2) (.block 0 (.loop ZJ.l0))) (.seq (.region ZJ.r9) (.ret))))
def ZJ : Func := ⟨34, [.cell 4 true 2], ZJ.code⟩
/-! muntin/compass.Turn -/
def zE.r0 : List Oper := [
 oD 4 (.mv (.c (.i .i64 0)))]
def zE.r1 : List Oper := [
 oD 5 (.mv (.t 0)),
 oD 6 (.call (.c (.f 90 [])) [.t 5]),
 oD 7 (.un .not (.t 6)),
 oD 8 (.mv (.t 7)),
 ⟨(some 9), .mv (.t 1), (some (8, false))⟩,
 ⟨(some 10), .call (.c (.f 90 [])) [.t 9], (some (8, false))⟩,
 ⟨(some 11), .un .not (.t 10), (some (8, false))⟩,
 oD 12 (.pick (.t 8) (.c (.b true)) (.t 11))]
def zE.r2 : List Oper := [
 oD 4 (.mv (.c (.i .i64 0)))]
def zE.r3 : List Oper := [
 oD 13 (.build [.i .i64 0, .i .i64 0, .i .i64 0, .i .i64 0] [(0, 1, .c (.i .i64 0)), (1, 1, .c (.i .i64 1)), (2, 1, .c (.i .i64 (-2))), (3, 1, .c (.i .i64 (-1)))]),
 oD 14 (.mv (.t 1)),
 oD 15 (.mv (.t 0)),
 oD 16 (.bin .sub (.t 14) (.t 15)),
 oD 17 (.bin .add (.t 16) (.c (.i .i64 4))),
 oD 18 (.bin .rem (.t 17) (.c (.i .i64 4))),
 oD 19 (.ix false 1 4 (.t 13) (.t 18)),
 oD 4 (.mv (.t 19))]
def zE.code : Code := .seq (.region zE.r0) (.seq (.seq (.region zE.r1) (.cond (.t 12) (.seq (.region zE.r2) (.ret)) (.skip))) (.seq (.region zE.r3) (.ret)))
def zE : Func := ⟨20, [.t 4], zE.code⟩
/-! muntin/muntinref01.Good -/
def zJ.r0 : List Oper := [
 oD 2 (.mv (.c (.b false)))]
def zJ.r1 : List Oper := [
 oD 3 (.mv (.t 0)),
 oD 4 (.bin .geq (.t 3) (.c (.i .i64 0))),
 oD 5 (.mv (.t 4)),
 ⟨(some 6), .mv (.t 0), (some (5, true))⟩,
 ⟨(some 7), .bin .leq (.t 6) (.c (.i .i64 3)), (some (5, true))⟩,
 oD 8 (.pick (.t 5) (.t 7) (.c (.b false))),
 oD 2 (.mv (.t 8))]
def zJ.code : Code := .seq (.region zJ.r0) (.seq (.region zJ.r1) (.ret))
def zJ : Func := ⟨9, [.t 2], zJ.code⟩
/-! muntin/muntinref01.Left -/
def ZS.r0 : List Oper := [
 oD 4 (.mv (.c (.i .i64 0)))]
def ZS.r1 : List Oper := [
 oD 7 (.mv (.t 0)),
 oD 8 (.call (.c (.f 223 [])) [.t 7]),
 oD 5 (.mv (.t 8))]
def ZS.r2 : List Oper := [
 oD 9 (.mv (.t 5)),
 oD 10 (.un .not (.t 9))]
def ZS.r3 : List Oper := [
 oD 4 (.mv (.c (.i .i64 0)))]
def ZS.r4 : List Oper := [
 oD 11 (.mv (.t 1)),
 oD 12 (.bin .rem (.t 11) (.c (.i .i64 4))),
 oD 6 (.mv (.t 12))]
def ZS.r5 : List Oper := [
 oD 13 (.mv (.t 6)),
 oD 14 (.bin .lss (.t 13) (.c (.i .i64 0)))]
def ZS.r6 : List Oper := [
 oD 15 (.mv (.t 6)),
 oD 16 (.bin .add (.t 15) (.c (.i .i64 4))),
 oD 6 (.mv (.t 16))]
def ZS.r7 : List Oper := [
 oD 17 (.mv (.t 0)),
 oD 18 (.mv (.t 6)),
 oD 19 (.bin .add (.t 17) (.t 18)),
 oD 20 (.bin .rem (.t 19) (.c (.i .i64 4))),
 oD 4 (.mv (.t 20))]
def ZS.code : Code := .seq (.region ZS.r0) (.seq (.region ZS.r1) (.seq (.seq (.region ZS.r2) (.cond (.t 10) (.seq (.region ZS.r3) (.ret)) (.skip))) (.seq (.region ZS.r4) (.seq (.seq (.region ZS.r5) (.cond (.t 14) (.region ZS.r6) (.skip))) (.seq (.region ZS.r7) (.ret))))))
def ZS : Func := ⟨21, [.t 4], ZS.code⟩
def G : Prog := fun i => match i with
  | 13 => some zj
  | 15 => some zb
  | 17 => some ZZ
  | 28 => some Zi
  | 29 => some Z3
  | 30 => some Zt
  | 32 => some Zaa
  | 34 => some Zp
  | 36 => some Zr
  | 46 => some ZI
  | 58 => some Zag
  | 63 => some Z4
  | 64 => some Zs
  | 65 => some Z0
  | 66 => some ZO
  | 67 => some ZB
  | 77 => some zF
  | 78 => some zw
  | 79 => some zT
  | 82 => some zl
  | 83 => some Z6
  | 89 => some zX
  | 90 => some Zab
  | 91 => some ZD
  | 97 => some zZ
  | 98 => some zc
  | 159 => some Zy
  | 176 => some ze
  | 177 => some Zq
  | 178 => some ZP
  | 179 => some Zw
  | 181 => some Zn
  | 182 => some ZK
  | 195 => some zr
  | 201 => some ZM
  | 202 => some Z8
  | 203 => some Zz
  | 204 => some za
  | 205 => some zR
  | 206 => some ZE
  | 207 => some ZC
  | 219 => some ZV
  | 220 => some Zac
  | 221 => some ZJ
  | 222 => some zE
  | 223 => some zJ
  | 224 => some ZS
  | _ => none
theorem G_F_front_Of : G 13 = some zj := rfl
theorem G_F_front_Open : G 15 = some zb := rfl
theorem G_F_muntinlaw20_wakes : G 17 = some ZZ := rfl
theorem G_F_muntinref10_Make : G 28 = some Zi := rfl
theorem G_F_join_Parts : G 29 = some Z3 := rfl
theorem G_F_muntinref13_Parts : G 30 = some Zt := rfl
theorem G_F_join_Whole : G 32 = some Zaa := rfl
theorem G_F_muntinref10_Check : G 34 = some Zp := rfl
theorem G_F_muntinref13_Far : G 36 = some Zr := rfl
theorem G_F_muntinref10_New : G 46 = some ZI := rfl
theorem G_F_front_right : G 58 = some Zag := rfl
theorem G_F_muntinref10_Nearest : G 63 = some Z4 := rfl
theorem G_F_muntinref10_Crossed : G 64 = some Zs := rfl
theorem G_F_muntinref10_with : G 65 = some Z0 := rfl
theorem G_F_grid_Check : G 66 = some ZO := rfl
theorem G_F_join_spread : G 67 = some ZB := rfl
theorem G_F_compass_Left : G 77 = some zF := rfl
theorem G_F_slices_ContainsFunc_int : G 78 = some zw := rfl
theorem G_F_front_right_1 : G 79 = some zT := rfl
theorem G_F_grid_side : G 82 = some zl := rfl
theorem G_F_slices_Repeat_int : G 83 = some Z6 := rfl
theorem G_F_bits_Mul : G 89 = some zX := rfl
theorem G_F_compass_Good : G 90 = some Zab := rfl
theorem G_F_slices_IndexFunc_int : G 91 = some ZD := rfl
theorem G_F_bits_Mul32 : G 97 = some zZ := rfl
theorem G_F_bits_Mul64 : G 98 = some zc := rfl
theorem G_F_muntinlaw20_FrontFirst : G 159 = some Zy := rfl
theorem G_F_valid_Check : G 176 = some ze := rfl
theorem G_F_muntinref12_Faces : G 177 = some Zq := rfl
theorem G_F_front_First : G 178 = some ZP := rfl
theorem G_F_muntinref20_First : G 179 = some Zw := rfl
theorem G_F_muntinref14_Outer : G 181 = some Zn := rfl
theorem G_F_muntinref12_Turns : G 182 = some ZK := rfl
theorem G_F_valid_Outer : G 195 = some zr := rfl
theorem G_F_valid_outer : G 201 = some ZM := rfl
theorem G_F_muntinref12_Behind : G 202 = some Z8 := rfl
theorem G_F_face_Faces : G 203 = some Zz := rfl
theorem G_F_face_Turns : G 204 = some za := rfl
theorem G_F_front_First_1 : G 205 = some zR := rfl
theorem G_F_muntinref12_Rotation : G 206 = some ZE := rfl
theorem G_F_muntinref01_Turn : G 207 = some ZC := rfl
theorem G_F_face_Rotation : G 219 = some ZV := rfl
theorem G_F_face_Dart_is : G 220 = some Zac := rfl
theorem G_F_face_Dart_behind : G 221 = some ZJ := rfl
theorem G_F_compass_Turn : G 222 = some zE := rfl
theorem G_F_muntinref01_Good : G 223 = some zJ := rfl
theorem G_F_muntinref01_Left : G 224 = some ZS := rfl
end Mu
