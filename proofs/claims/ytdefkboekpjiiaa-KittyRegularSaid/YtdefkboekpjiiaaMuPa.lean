/- The functions of the program, as the evaluator has them: printed by a program; checked against the model's. -/
import Derived.Test.YtdefkboekpjiiaaMuE0
namespace Mu
abbrev oD (d : Nat) (op : Op) : Oper := ⟨some d, op, none⟩
abbrev oN (op : Op) : Oper := ⟨none, op, none⟩
/-! muntin/kitty.Corners -/
def ZS.r0 : List Oper := [
 oD 2 (.mv (.c (.sn)))]
def ZS.r1 : List Oper := [
 oD 3 (.mv (.c (.sn)))]
def ZS.r2 : List Oper := [
 oD 7 (.mv (.t 0)),
 oD 8 (.len (.t 7)),
 oD 9 (.mv (.c (.i .i64 0)))]
def ZS.r3 : List Oper := [
 oD 10 (.bin .lss (.t 9) (.t 8))]
def ZS.r4 : List Oper := [
 oD 11 (.mv (.t 9)),
 oD 12 (.ixa 1 (.t 7) (.t 9)),
 oD 13 (.ld false 1 (.t 12)),
 oD 4 (.mv (.t 11)),
 oD 5 (.mv (.t 13))]
def ZS.r5 : List Oper := [
 oD 14 (.mv (.t 5)),
 oD 15 (.bin .lss (.t 14) (.c (.i .i64 (-2))))]
def ZS.r6 : List Oper := [
 oD 16 (.mv (.t 5)),
 oD 17 (.un .neg (.t 16)),
 oD 18 (.mv (.c (.i .i64 0)))]
def ZS.r7 : List Oper := [
 oD 19 (.bin .lss (.t 18) (.t 17))]
def ZS.r8 : List Oper := [
 oD 20 (.mv (.t 18)),
 oD 6 (.mv (.t 20))]
def ZS.r9 : List Oper := [
 oD 21 (.mv (.t 3)),
 oD 22 (.mv (.t 4)),
 oD 23 (.mv (.t 6)),
 oD 24 (.build [.i .i64 0, .i .i64 0] [(0, 1, .t 22), (1, 1, .t 23)]),
 oD 25 (.bsl 2 1 [.i .i64 0, .i .i64 0] [(0, 2, .t 24)]),
 oD 26 (.app 2 16 (.t 21) (.t 25)),
 oD 3 (.mv (.t 26))]
def ZS.r10 : List Oper := [
 oD 27 (.bin .add (.t 18) (.c (.i .i64 1))),
 oD 18 (.mv (.t 27))]
def ZS.l0 : Code := .seq (.region ZS.r7) (.seq (.cond (.t 19) (.skip) (.exit 2)) (.seq (.block 3 (.seq (.region ZS.r8) (.region ZS.r9))) (.region ZS.r10)))
def ZS.r11 : List Oper := [
 oD 28 (.bin .add (.t 9) (.c (.i .i64 1))),
 oD 9 (.mv (.t 28))]
def ZS.l1 : Code := .seq (.region ZS.r3) (.seq (.cond (.t 10) (.skip) (.exit 0)) (.seq (.block 1 (.seq (.region ZS.r4) (.seq (.seq (.region ZS.r5) (.cond (.t 15) (.exit 1) (.skip))) (.seq (.region ZS.r6) (.block 2 (.loop ZS.l0)))))) (.region ZS.r11)))
def ZS.r12 : List Oper := [
 oD 29 (.mv (.t 3)),
 oD 2 (.mv (.t 29))]
def ZS.code : Code := .seq (.region ZS.r0) (.seq (.region ZS.r1) (.seq (.seq (.region ZS.r2) (.block 0 (.loop ZS.l1))) (.seq (.region ZS.r12) (.ret))))
def ZS : Func := ⟨30, [.t 2], ZS.code⟩
/-! muntin/muntinref15.Corners -/
def ZE.r0 : List Oper := [
 oD 2 (.mv (.c (.sn)))]
def ZE.r1 : List Oper := [
 oD 3 (.mv (.c (.sn)))]
def ZE.r2 : List Oper := [
 oD 4 (.mv (.c (.i .i64 0)))]
def ZE.r3 : List Oper := [
 oD 5 (.mv (.t 4)),
 oD 6 (.mv (.t 0)),
 oD 7 (.len (.t 6)),
 oD 8 (.bin .lss (.t 5) (.t 7))]
def ZE.r5 : List Oper := [
 oD 11 (.mv (.t 0)),
 oD 12 (.mv (.t 4)),
 oD 13 (.ixa 1 (.t 11) (.t 12)),
 oD 14 (.ld false 1 (.t 13)),
 oD 15 (.eq false .sc (.t 14) (.c (.i .i64 (-1)))),
 oD 16 (.mv (.t 15)),
 ⟨(some 17), .mv (.t 0), (some (16, false))⟩,
 ⟨(some 18), .mv (.t 4), (some (16, false))⟩,
 ⟨(some 19), .ixa 1 (.t 17) (.t 18), (some (16, false))⟩,
 ⟨(some 20), .ld false 1 (.t 19), (some (16, false))⟩,
 ⟨(some 21), .eq false .sc (.t 20) (.c (.i .i64 (-2))), (some (16, false))⟩,
 oD 22 (.pick (.t 16) (.c (.b true)) (.t 21))]
def ZE.r6 : List Oper := [
 oD 23 (.mv (.t 3)),
 oD 24 (.mv (.t 4)),
 oD 25 (.build [.i .i64 0, .i .i64 0] [(0, 1, .t 24)]),
 oD 26 (.bsl 2 1 [.i .i64 0, .i .i64 0] [(0, 2, .t 25)]),
 oD 27 (.app 2 16 (.t 23) (.t 26)),
 oD 3 (.mv (.t 27))]
def ZE.r7 : List Oper := [
 oD 28 (.mv (.t 0)),
 oD 29 (.mv (.t 4)),
 oD 30 (.ixa 1 (.t 28) (.t 29)),
 oD 31 (.ld false 1 (.t 30)),
 oD 32 (.eq false .sc (.t 31) (.c (.i .i64 (-2))))]
def ZE.r8 : List Oper := [
 oD 33 (.mv (.t 3)),
 oD 34 (.mv (.t 4)),
 oD 35 (.build [.i .i64 0, .i .i64 0] [(0, 1, .t 34), (1, 1, .c (.i .i64 1))]),
 oD 36 (.bsl 2 1 [.i .i64 0, .i .i64 0] [(0, 2, .t 35)]),
 oD 37 (.app 2 16 (.t 33) (.t 36)),
 oD 3 (.mv (.t 37))]
def ZE.r4 : List Oper := [
 oD 9 (.mv (.t 4)),
 oD 10 (.bin .add (.t 9) (.c (.i .i64 1))),
 oD 4 (.mv (.t 10))]
def ZE.l0 : Code := .seq (.seq (.region ZE.r3) (.cond (.t 8) (.skip) (.exit 0))) (.seq (.block 1 (.seq (.seq (.region ZE.r5) (.cond (.t 22) (.region ZE.r6) (.skip))) (.seq (.region ZE.r7) (.cond (.t 32) (.region ZE.r8) (.skip))))) (.region ZE.r4))
def ZE.r9 : List Oper := [
 oD 38 (.mv (.t 3)),
 oD 2 (.mv (.t 38))]
def ZE.code : Code := .seq (.region ZE.r0) (.seq (.region ZE.r1) (.seq (.seq (.region ZE.r2) (.block 0 (.loop ZE.l0))) (.seq (.region ZE.r9) (.ret))))
def ZE : Func := ⟨39, [.t 2], ZE.code⟩
/-! muntin/kitty.Rot -/
def Zai.r0 : List Oper := [
 oD 4 (.box (.t 1)),
 oD 5 (.box (.t 2)),
 oD 6 (.mv (.c (.i .i64 0))),
 oD 7 (.mv (.c (.i .i64 0)))]
def Zai.r1 : List Oper := [
 oD 9 (.mv (.t 0)),
 oD 10 (.call (.c (.f 19 [])) [.t 9]),
 oD 8 (.mv (.t 10))]
def Zai.r2 : List Oper := [
 oD 11 (.mv (.t 0)),
 oD 12 (.call (.c (.f 59 [])) [.t 11]),
 oD 13 (.un .not (.t 12)),
 oD 14 (.mv (.t 13)),
 ⟨(some 15), .mv (.t 8), (some (14, false))⟩,
 ⟨(some 16), .ld true 2 (.t 4), (some (14, false))⟩,
 ⟨(some 17), .call (.c (.f 60 [])) [.t 15, .t 16], (some (14, false))⟩,
 ⟨(some 18), .un .not (.t 17), (some (14, false))⟩,
 oD 19 (.pick (.t 14) (.c (.b true)) (.t 18)),
 oD 20 (.mv (.t 19)),
 ⟨(some 21), .mv (.t 8), (some (20, false))⟩,
 ⟨(some 22), .ld true 2 (.t 5), (some (20, false))⟩,
 ⟨(some 23), .call (.c (.f 60 [])) [.t 21, .t 22], (some (20, false))⟩,
 ⟨(some 24), .un .not (.t 23), (some (20, false))⟩,
 oD 25 (.pick (.t 20) (.c (.b true)) (.t 24))]
def Zai.r3 : List Oper := [
 oD 6 (.mv (.c (.i .i64 0))),
 oD 7 (.mv (.c (.i .i64 2)))]
def Zai.r4 : List Oper := [
 oD 26 (.mv (.t 0)),
 oD 27 (.call (.c (.f 62 [])) [.t 26]),
 oD 28 (.ld true 2 (.t 4)),
 oD 29 (.ld true 2 (.t 5)),
 oD 30 (.call (.c (.f 61 [])) [.t 27, .t 28, .t 29]),
 oD 6 (.mv (.t 30)),
 oD 7 (.mv (.c (.i .i64 0)))]
def Zai.code : Code := .seq (.region Zai.r0) (.seq (.region Zai.r1) (.seq (.seq (.region Zai.r2) (.cond (.t 25) (.seq (.region Zai.r3) (.ret)) (.skip))) (.seq (.draw Zai.r4 [(1, 2), (1, 3), (2, 3)]) (.ret))))
def Zai : Func := ⟨31, [.t 6, .t 7], Zai.code⟩
/-! muntin/muntinref15.Rot -/
def Z3.r0 : List Oper := [
 oD 4 (.box (.t 1)),
 oD 5 (.box (.t 2)),
 oD 6 (.mv (.c (.i .i64 0)))]
def Z3.r1 : List Oper := [
 oD 7 (.mv (.c (.sn)))]
def Z3.r2 : List Oper := [
 oD 8 (.mv (.c (.i .i64 0)))]
def Z3.r3 : List Oper := [
 oD 9 (.mv (.c (.i .i64 0)))]
def Z3.r4 : List Oper := [
 oD 10 (.mv (.c (.i .i64 0)))]
def Z3.r5 : List Oper := [
 oD 13 (.mv (.t 10)),
 oD 14 (.mv (.t 0)),
 oD 15 (.len (.t 14)),
 oD 16 (.bin .lss (.t 13) (.t 15))]
def Z3.r7 : List Oper := [
 oD 19 (.mv (.t 10)),
 oD 20 (.fa 0 (.t 4)),
 oD 21 (.ld false 1 (.t 20)),
 oD 22 (.eq false .sc (.t 19) (.t 21))]
def Z3.r8 : List Oper := [
 oD 23 (.mv (.t 7)),
 oD 24 (.len (.t 23)),
 oD 25 (.fa 1 (.t 4)),
 oD 26 (.ld false 1 (.t 25)),
 oD 27 (.bin .add (.t 24) (.t 26)),
 oD 8 (.mv (.t 27))]
def Z3.r9 : List Oper := [
 oD 28 (.mv (.t 10)),
 oD 29 (.fa 0 (.t 5)),
 oD 30 (.ld false 1 (.t 29)),
 oD 31 (.eq false .sc (.t 28) (.t 30))]
def Z3.r10 : List Oper := [
 oD 32 (.mv (.t 7)),
 oD 33 (.len (.t 32)),
 oD 34 (.fa 1 (.t 5)),
 oD 35 (.ld false 1 (.t 34)),
 oD 36 (.bin .add (.t 33) (.t 35)),
 oD 9 (.mv (.t 36))]
def Z3.r11 : List Oper := [
 oD 37 (.mv (.t 0)),
 oD 38 (.mv (.t 10)),
 oD 39 (.ixa 1 (.t 37) (.t 38)),
 oD 40 (.ld false 1 (.t 39)),
 oD 41 (.eq false .sc (.t 40) (.c (.i .i64 (-2))))]
def Z3.r12 : List Oper := [
 oD 42 (.mv (.t 7)),
 oD 43 (.bsl 1 2 [.i .i64 0] [(0, 1, .c (.i .i64 (-1))), (1, 1, .c (.i .i64 (-1)))]),
 oD 44 (.app 1 8 (.t 42) (.t 43)),
 oD 7 (.mv (.t 44))]
def Z3.r13 : List Oper := [
 oD 45 (.mv (.t 7)),
 oD 46 (.mv (.t 0)),
 oD 47 (.mv (.t 10)),
 oD 48 (.ixa 1 (.t 46) (.t 47)),
 oD 49 (.ld false 1 (.t 48)),
 oD 50 (.bsl 1 1 [.i .i64 0] [(0, 1, .t 49)]),
 oD 51 (.app 1 8 (.t 45) (.t 50)),
 oD 7 (.mv (.t 51))]
def Z3.r6 : List Oper := [
 oD 17 (.mv (.t 10)),
 oD 18 (.bin .add (.t 17) (.c (.i .i64 1))),
 oD 10 (.mv (.t 18))]
def Z3.l0 : Code := .seq (.seq (.region Z3.r5) (.cond (.t 16) (.skip) (.exit 0))) (.seq (.block 1 (.seq (.seq (.region Z3.r7) (.cond (.t 22) (.region Z3.r8) (.skip))) (.seq (.seq (.region Z3.r9) (.cond (.t 31) (.region Z3.r10) (.skip))) (.seq (.region Z3.r11) (.cond (.t 41) (.region Z3.r12) (.region Z3.r13)))))) (.region Z3.r6))
def Z3.r14 : List Oper := [
 oD 11 (.mv (.c (.i .i64 0)))]
def Z3.r15 : List Oper := [
 oD 52 (.mv (.t 8)),
 oD 12 (.mv (.t 52))]
def Z3.r16 : List Oper := [
 oD 53 (.mv (.t 12)),
 oD 54 (.mv (.t 9)),
 oD 55 (.eq true .sc (.t 53) (.t 54))]
def Z3.r18 : List Oper := [
 oD 61 (.mv (.t 11)),
 oD 62 (.mv (.t 7)),
 oD 63 (.mv (.t 12)),
 oD 64 (.ixa 1 (.t 62) (.t 63)),
 oD 65 (.ld false 1 (.t 64)),
 oD 66 (.bin .add (.t 61) (.t 65)),
 oD 11 (.mv (.t 66))]
def Z3.r17 : List Oper := [
 oD 56 (.mv (.t 12)),
 oD 57 (.bin .add (.t 56) (.c (.i .i64 1))),
 oD 58 (.mv (.t 7)),
 oD 59 (.len (.t 58)),
 oD 60 (.bin .rem (.t 57) (.t 59)),
 oD 12 (.mv (.t 60))]
def Z3.l1 : Code := .seq (.seq (.region Z3.r16) (.cond (.t 55) (.skip) (.exit 2))) (.seq (.block 3 (.region Z3.r18)) (.region Z3.r17))
def Z3.r19 : List Oper := [
 oD 67 (.mv (.t 11)),
 oD 6 (.mv (.t 67))]
def Z3.code : Code := .seq (.region Z3.r0) (.seq (.region Z3.r1) (.seq (.region Z3.r2) (.seq (.region Z3.r3) (.seq (.seq (.region Z3.r4) (.block 0 (.loop Z3.l0))) (.seq (.region Z3.r14) (.seq (.seq (.region Z3.r15) (.block 2 (.loop Z3.l1))) (.seq (.region Z3.r19) (.ret))))))))
def Z3 : Func := ⟨68, [.t 6], Z3.code⟩
/-! muntin/kitty.Pair -/
def zb.r0 : List Oper := [
 oD 2 (.alloc [.i .i64 0, .i .i64 0]),
 oD 3 (.alloc [.i .i64 0, .i .i64 0]),
 oD 4 (.mv (.c (.b false)))]
def zb.r1 : List Oper := [
 oD 11 (.mv (.t 0)),
 oD 12 (.call (.c (.f 59 [])) [.t 11]),
 oD 13 (.un .not (.t 12))]
def zb.r2 : List Oper := [
 oD 14 (.build [.i .i64 0, .i .i64 0] []),
 oD 15 (.build [.i .i64 0, .i .i64 0] []),
 oN (.st 2 (.t 2) (.t 14)),
 oN (.st 2 (.t 3) (.t 15)),
 oD 4 (.mv (.c (.b false)))]
def zb.r3 : List Oper := [
 oD 16 (.mv (.t 0)),
 oD 17 (.call (.c (.f 19 [])) [.t 16]),
 oD 18 (.mv (.t 0)),
 oD 19 (.call (.c (.f 62 [])) [.t 18]),
 oD 5 (.mv (.t 17)),
 oD 6 (.mv (.t 19))]
def zb.r4 : List Oper := [
 oD 20 (.mv (.t 5)),
 oD 21 (.len (.t 20)),
 oD 22 (.mv (.c (.i .i64 0)))]
def zb.r5 : List Oper := [
 oD 23 (.bin .lss (.t 22) (.t 21))]
def zb.r6 : List Oper := [
 oD 24 (.ixa 2 (.t 20) (.t 22)),
 oD 25 (.ld true 2 (.t 24)),
 oD 8 (.alloc [.i .i64 0, .i .i64 0]),
 oN (.st 2 (.t 8) (.t 25))]
def zb.r7 : List Oper := [
 oD 26 (.mv (.t 5)),
 oD 27 (.len (.t 26)),
 oD 28 (.mv (.c (.i .i64 0)))]
def zb.r8 : List Oper := [
 oD 29 (.bin .lss (.t 28) (.t 27))]
def zb.r9 : List Oper := [
 oD 30 (.ixa 2 (.t 26) (.t 28)),
 oD 31 (.ld true 2 (.t 30)),
 oD 10 (.alloc [.i .i64 0, .i .i64 0]),
 oN (.st 2 (.t 10) (.t 31))]
def zb.r10 : List Oper := [
 oD 32 (.mv (.t 6)),
 oD 33 (.ld true 2 (.t 8)),
 oD 34 (.ld true 2 (.t 10)),
 oD 35 (.call (.c (.f 61 [])) [.t 32, .t 33, .t 34]),
 oD 36 (.eq false .sc (.t 35) (.c (.i .i64 2)))]
def zb.r11 : List Oper := [
 oD 37 (.ld true 2 (.t 8)),
 oD 38 (.ld true 2 (.t 10)),
 oN (.st 2 (.t 2) (.t 37)),
 oN (.st 2 (.t 3) (.t 38)),
 oD 4 (.mv (.c (.b true)))]
def zb.r12 : List Oper := [
 oD 39 (.bin .add (.t 28) (.c (.i .i64 1))),
 oD 28 (.mv (.t 39))]
def zb.l0 : Code := .seq (.region zb.r8) (.seq (.cond (.t 29) (.skip) (.exit 2)) (.seq (.block 3 (.seq (.region zb.r9) (.seq (.region zb.r10) (.cond (.t 36) (.seq (.draw zb.r11 [(0, 1), (1, 2)]) (.ret)) (.skip))))) (.region zb.r12)))
def zb.r13 : List Oper := [
 oD 40 (.bin .add (.t 22) (.c (.i .i64 1))),
 oD 22 (.mv (.t 40))]
def zb.l1 : Code := .seq (.region zb.r5) (.seq (.cond (.t 23) (.skip) (.exit 0)) (.seq (.block 1 (.seq (.region zb.r6) (.seq (.region zb.r7) (.block 2 (.loop zb.l0))))) (.region zb.r13)))
def zb.r14 : List Oper := [
 oD 41 (.build [.i .i64 0, .i .i64 0] []),
 oD 42 (.build [.i .i64 0, .i .i64 0] []),
 oN (.st 2 (.t 2) (.t 41)),
 oN (.st 2 (.t 3) (.t 42)),
 oD 4 (.mv (.c (.b false)))]
def zb.code : Code := .seq (.region zb.r0) (.seq (.seq (.region zb.r1) (.cond (.t 13) (.seq (.region zb.r2) (.ret)) (.skip))) (.seq (.region zb.r3) (.seq (.seq (.region zb.r4) (.block 0 (.loop zb.l1))) (.seq (.region zb.r14) (.ret)))))
def zb : Func := ⟨43, [.cell 2 true 2, .cell 3 true 2, .t 4], zb.code⟩
/-! muntin/muntinref15.Pair -/
def ZB.r0 : List Oper := [
 oD 2 (.alloc [.i .i64 0, .i .i64 0]),
 oD 3 (.alloc [.i .i64 0, .i .i64 0]),
 oD 4 (.mv (.c (.b false)))]
def ZB.r1 : List Oper := [
 oD 9 (.mv (.t 0)),
 oD 10 (.call (.c (.f 20 [])) [.t 9]),
 oD 5 (.mv (.t 10))]
def ZB.r2 : List Oper := [
 oD 6 (.mv (.c (.i .i64 0)))]
def ZB.r3 : List Oper := [
 oD 11 (.mv (.t 6)),
 oD 12 (.mv (.t 5)),
 oD 13 (.len (.t 12)),
 oD 14 (.bin .lss (.t 11) (.t 13))]
def ZB.r5 : List Oper := [
 oD 7 (.mv (.c (.i .i64 0)))]
def ZB.r6 : List Oper := [
 oD 17 (.mv (.t 7)),
 oD 18 (.mv (.t 5)),
 oD 19 (.len (.t 18)),
 oD 20 (.bin .lss (.t 17) (.t 19))]
def ZB.r8 : List Oper := [
 oD 23 (.mv (.t 0)),
 oD 24 (.mv (.t 5)),
 oD 25 (.mv (.t 6)),
 oD 26 (.ixa 2 (.t 24) (.t 25)),
 oD 27 (.ld true 2 (.t 26)),
 oD 28 (.mv (.t 5)),
 oD 29 (.mv (.t 7)),
 oD 30 (.ixa 2 (.t 28) (.t 29)),
 oD 31 (.ld true 2 (.t 30)),
 oD 32 (.call (.c (.f 23 [])) [.t 23, .t 27, .t 31]),
 oD 8 (.mv (.t 32))]
def ZB.r9 : List Oper := [
 oD 33 (.mv (.t 8)),
 oD 34 (.eq false .sc (.t 33) (.c (.i .i64 2)))]
def ZB.r10 : List Oper := [
 oD 35 (.mv (.t 5)),
 oD 36 (.mv (.t 6)),
 oD 37 (.ixa 2 (.t 35) (.t 36)),
 oD 38 (.ld true 2 (.t 37)),
 oD 39 (.mv (.t 5)),
 oD 40 (.mv (.t 7)),
 oD 41 (.ixa 2 (.t 39) (.t 40)),
 oD 42 (.ld true 2 (.t 41)),
 oN (.st 2 (.t 2) (.t 38)),
 oN (.st 2 (.t 3) (.t 42)),
 oD 4 (.mv (.c (.b true)))]
def ZB.r7 : List Oper := [
 oD 21 (.mv (.t 7)),
 oD 22 (.bin .add (.t 21) (.c (.i .i64 1))),
 oD 7 (.mv (.t 22))]
def ZB.l0 : Code := .seq (.seq (.region ZB.r6) (.cond (.t 20) (.skip) (.exit 2))) (.seq (.block 3 (.seq (.draw ZB.r8 [(4, 8)]) (.seq (.region ZB.r9) (.cond (.t 34) (.seq (.draw ZB.r10 [(3, 7), (7, 8)]) (.ret)) (.skip))))) (.region ZB.r7))
def ZB.r4 : List Oper := [
 oD 15 (.mv (.t 6)),
 oD 16 (.bin .add (.t 15) (.c (.i .i64 1))),
 oD 6 (.mv (.t 16))]
def ZB.l1 : Code := .seq (.seq (.region ZB.r3) (.cond (.t 14) (.skip) (.exit 0))) (.seq (.block 1 (.seq (.region ZB.r5) (.block 2 (.loop ZB.l0)))) (.region ZB.r4))
def ZB.r11 : List Oper := [
 oD 43 (.build [.i .i64 0, .i .i64 0] []),
 oD 44 (.build [.i .i64 0, .i .i64 0] []),
 oN (.st 2 (.t 2) (.t 43)),
 oN (.st 2 (.t 3) (.t 44)),
 oD 4 (.mv (.c (.b false)))]
def ZB.code : Code := .seq (.region ZB.r0) (.seq (.region ZB.r1) (.seq (.seq (.region ZB.r2) (.block 0 (.loop ZB.l1))) (.seq (.region ZB.r11) (.ret))))
def ZB : Func := ⟨45, [.cell 2 true 2, .cell 3 true 2, .t 4], ZB.code⟩
/-! muntin/muntinlaw15.wakes -/
def zm.r0 : List Oper := [
 oD 0 (.mv (.c (.b false)))]
def zm.r1 : List Oper := [
 oD 12 (.bsl 1 12 [.i .i64 0] [(0, 1, .c (.i .i64 (-1))), (1, 1, .c (.i .i64 1)), (2, 1, .c (.i .i64 1)), (3, 1, .c (.i .i64 (-1))), (4, 1, .c (.i .i64 1)), (5, 1, .c (.i .i64 1)), (6, 1, .c (.i .i64 (-1))), (7, 1, .c (.i .i64 1)), (8, 1, .c (.i .i64 1)), (9, 1, .c (.i .i64 (-1))), (10, 1, .c (.i .i64 1)), (11, 1, .c (.i .i64 1))]),
 oD 13 (.call (.c (.f 24 [])) [.t 12]),
 oD 11 (.mv (.t 13)),
 oD 14 (.ext (.t 11) 0),
 oD 15 (.ext (.t 11) 1),
 oD 16 (.ext (.t 11) 2),
 oD 1 (.alloc [.i .i64 0, .i .i64 0]),
 oD 2 (.alloc [.i .i64 0, .i .i64 0]),
 oN (.st 2 (.t 1) (.t 14)),
 oN (.st 2 (.t 2) (.t 15)),
 oD 3 (.mv (.t 16))]
def zm.r2 : List Oper := [
 oD 18 (.bsl 1 2 [.i .i64 0] [(0, 1, .c (.i .i64 (-2))), (1, 1, .c (.i .i64 (-2)))]),
 oD 19 (.build [.i .i64 0, .i .i64 0] []),
 oD 20 (.build [.i .i64 0, .i .i64 0] [(0, 1, .c (.i .i64 1))]),
 oD 21 (.call (.c (.f 22 [])) [.t 18, .t 19, .t 20]),
 oD 17 (.mv (.t 21)),
 oD 22 (.ext (.t 17) 0),
 oD 23 (.ext (.t 17) 1),
 oD 4 (.mv (.t 22)),
 oD 5 (.mv (.t 23))]
def zm.r3 : List Oper := [
 oD 25 (.bsl 1 1 [.i .i64 0] [(0, 1, .c (.i .i64 1))]),
 oD 26 (.build [.i .i64 0, .i .i64 0] []),
 oD 27 (.build [.i .i64 0, .i .i64 0] []),
 oD 28 (.call (.c (.f 22 [])) [.t 25, .t 26, .t 27]),
 oD 24 (.mv (.t 28)),
 oD 29 (.ext (.t 24) 0),
 oD 30 (.ext (.t 24) 1),
 oD 6 (.mv (.t 29)),
 oD 7 (.mv (.t 30))]
def zm.r4 : List Oper := [
 oD 32 (.bsl 1 6 [.i .i64 0] [(0, 1, .c (.i .i64 (-1))), (1, 1, .c (.i .i64 1)), (2, 1, .c (.i .i64 1)), (3, 1, .c (.i .i64 1)), (4, 1, .c (.i .i64 1)), (5, 1, .c (.i .i64 1))]),
 oD 33 (.call (.c (.f 24 [])) [.t 32]),
 oD 31 (.mv (.t 33)),
 oD 34 (.ext (.t 31) 0),
 oD 35 (.ext (.t 31) 1),
 oD 36 (.ext (.t 31) 2),
 oD 8 (.alloc [.i .i64 0, .i .i64 0]),
 oD 9 (.alloc [.i .i64 0, .i .i64 0]),
 oN (.st 2 (.t 8) (.t 34)),
 oN (.st 2 (.t 9) (.t 35)),
 oD 10 (.mv (.t 36))]
def zm.r5 : List Oper := [
 oD 37 (.ld true 2 (.t 1)),
 oD 38 (.build [.i .i64 0, .i .i64 0] []),
 oD 39 (.eq false (.fl [.i, .i]) (.t 37) (.t 38)),
 oD 40 (.mv (.t 39)),
 ⟨(some 41), .ld true 2 (.t 2), (some (40, true))⟩,
 ⟨(some 42), .build [.i .i64 0, .i .i64 0] [(0, 1, .c (.i .i64 6))], (some (40, true))⟩,
 ⟨(some 43), .eq false (.fl [.i, .i]) (.t 41) (.t 42), (some (40, true))⟩,
 oD 44 (.pick (.t 40) (.t 43) (.c (.b false))),
 oD 45 (.mv (.t 44)),
 ⟨(some 46), .mv (.t 3), (some (45, true))⟩,
 oD 47 (.pick (.t 45) (.t 46) (.c (.b false))),
 oD 48 (.mv (.t 47)),
 ⟨(some 49), .mv (.t 4), (some (48, true))⟩,
 ⟨(some 50), .eq false .sc (.t 49) (.c (.i .i64 (-2))), (some (48, true))⟩,
 oD 51 (.pick (.t 48) (.t 50) (.c (.b false))),
 oD 52 (.mv (.t 51)),
 ⟨(some 53), .mv (.t 5), (some (52, true))⟩,
 ⟨(some 54), .eq false .sc (.t 53) (.c (.i .i64 0)), (some (52, true))⟩,
 oD 55 (.pick (.t 52) (.t 54) (.c (.b false))),
 oD 56 (.mv (.t 55)),
 ⟨(some 57), .mv (.t 7), (some (56, true))⟩,
 ⟨(some 58), .eq false .sc (.t 57) (.c (.i .i64 2)), (some (56, true))⟩,
 oD 59 (.pick (.t 56) (.t 58) (.c (.b false))),
 oD 60 (.mv (.t 59)),
 ⟨(some 61), .mv (.t 10), (some (60, true))⟩,
 ⟨(some 62), .un .not (.t 61), (some (60, true))⟩,
 oD 63 (.pick (.t 60) (.t 62) (.c (.b false))),
 oD 0 (.mv (.t 63))]
def zm.code : Code := .seq (.region zm.r0) (.seq (.region zm.r1) (.seq (.region zm.r2) (.seq (.region zm.r3) (.seq (.region zm.r4) (.seq (.region zm.r5) (.ret))))))
def zm : Func := ⟨64, [.t 0], zm.code⟩
/-! muntin/muntinref10.Make -/
def Zm.r0 : List Oper := [
 oD 2 (.box (.t 0)),
 oD 4 (.mv (.c (.sn))),
 oD 5 (.mv (.c (.sn)))]
def Zm.r1 : List Oper := [
 oD 6 (.mv (.c (.sn)))]
def Zm.r2 : List Oper := [
 oD 7 (.mv (.c (.i .i64 0)))]
def Zm.r3 : List Oper := [
 oD 18 (.mv (.t 7)),
 oD 19 (.fa 0 (.t 2)),
 oD 20 (.ld false 1 (.t 19)),
 oD 21 (.len (.t 20)),
 oD 22 (.bin .lss (.t 18) (.t 21)),
 oD 23 (.mv (.t 22)),
 ⟨(some 24), .mv (.t 6), (some (23, true))⟩,
 ⟨(some 25), .len (.t 24), (some (23, true))⟩,
 ⟨(some 26), .mv (.t 1), (some (23, true))⟩,
 ⟨(some 27), .bin .lss (.t 25) (.t 26), (some (23, true))⟩,
 oD 28 (.pick (.t 23) (.t 27) (.c (.b false)))]
def Zm.r5 : List Oper := [
 oD 31 (.fa 0 (.t 2)),
 oD 32 (.ld false 1 (.t 31)),
 oD 33 (.mv (.t 7)),
 oD 34 (.ixa 1 (.t 32) (.t 33)),
 oD 35 (.ld false 1 (.t 34)),
 oD 36 (.conv .i64 (.t 35)),
 oD 37 (.bin .rem (.t 36) (.c (.i .i64 8))),
 oD 38 (.fa 0 (.t 2)),
 oD 39 (.ld false 1 (.t 38)),
 oD 40 (.mv (.t 7)),
 oD 41 (.ixa 1 (.t 39) (.t 40)),
 oD 42 (.ld false 1 (.t 41)),
 oD 43 (.conv .i64 (.t 42)),
 oD 44 (.bin .quo (.t 43) (.c (.i .i64 8))),
 oD 45 (.bin .rem (.t 44) (.c (.i .i64 8))),
 oD 46 (.build [.i .i64 0, .i .i64 0] [(0, 1, .t 37), (1, 1, .t 45)]),
 oD 8 (.alloc [.i .i64 0, .i .i64 0]),
 oN (.st 2 (.t 8) (.t 46))]
def Zm.r6 : List Oper := [
 oD 9 (.mv (.c (.b false)))]
def Zm.r7 : List Oper := [
 oD 10 (.mv (.c (.i .i64 0)))]
def Zm.r8 : List Oper := [
 oD 47 (.mv (.t 10)),
 oD 48 (.mv (.t 6)),
 oD 49 (.len (.t 48)),
 oD 50 (.bin .lss (.t 47) (.t 49))]
def Zm.r10 : List Oper := [
 oD 53 (.mv (.t 9)),
 oD 54 (.mv (.t 53)),
 ⟨(some 55), .mv (.t 6), (some (54, false))⟩,
 ⟨(some 56), .mv (.t 10), (some (54, false))⟩,
 ⟨(some 57), .ixa 2 (.t 55) (.t 56), (some (54, false))⟩,
 ⟨(some 58), .ld true 2 (.t 57), (some (54, false))⟩,
 ⟨(some 59), .ld true 2 (.t 8), (some (54, false))⟩,
 ⟨(some 60), .eq false (.fl [.i, .i]) (.t 58) (.t 59), (some (54, false))⟩,
 oD 61 (.pick (.t 54) (.c (.b true)) (.t 60)),
 oD 9 (.mv (.t 61))]
def Zm.r9 : List Oper := [
 oD 51 (.mv (.t 10)),
 oD 52 (.bin .add (.t 51) (.c (.i .i64 1))),
 oD 10 (.mv (.t 52))]
def Zm.l0 : Code := .seq (.seq (.region Zm.r8) (.cond (.t 50) (.skip) (.exit 2))) (.seq (.block 3 (.draw Zm.r10 [(5, 6)])) (.region Zm.r9))
def Zm.r11 : List Oper := [
 oD 62 (.mv (.t 9)),
 oD 63 (.un .not (.t 62))]
def Zm.r12 : List Oper := [
 oD 64 (.mv (.t 6)),
 oD 65 (.ld true 2 (.t 8)),
 oD 66 (.bsl 2 1 [.i .i64 0, .i .i64 0] [(0, 2, .t 65)]),
 oD 67 (.app 2 16 (.t 64) (.t 66)),
 oD 6 (.mv (.t 67))]
def Zm.r4 : List Oper := [
 oD 29 (.mv (.t 7)),
 oD 30 (.bin .add (.t 29) (.c (.i .i64 1))),
 oD 7 (.mv (.t 30))]
def Zm.l1 : Code := .seq (.seq (.region Zm.r3) (.cond (.t 28) (.skip) (.exit 0))) (.seq (.block 1 (.seq (.draw Zm.r5 [(1, 8), (4, 8), (1, 11), (4, 11), (1, 16), (4, 16), (8, 16), (11, 16)]) (.seq (.region Zm.r6) (.seq (.seq (.region Zm.r7) (.block 2 (.loop Zm.l0))) (.seq (.region Zm.r11) (.cond (.t 63) (.region Zm.r12) (.skip))))))) (.region Zm.r4))
def Zm.r13 : List Oper := [
 oD 68 (.mv (.t 6)),
 oD 69 (.len (.t 68)),
 oD 70 (.call (.c (.f 46 [])) [.t 69]),
 oD 11 (.mv (.t 70))]
def Zm.r14 : List Oper := [
 oD 12 (.mv (.c (.i .i64 0)))]
def Zm.r15 : List Oper := [
 oD 71 (.mv (.t 12)),
 oD 72 (.mv (.t 6)),
 oD 73 (.len (.t 72)),
 oD 74 (.bin .lss (.t 71) (.t 73))]
def Zm.r17 : List Oper := [
 oD 13 (.mv (.c (.i .u8 3)))]
def Zm.r18 : List Oper := [
 oD 77 (.mv (.t 12)),
 oD 78 (.fa 1 (.t 2)),
 oD 79 (.ld false 1 (.t 78)),
 oD 80 (.len (.t 79)),
 oD 81 (.bin .lss (.t 77) (.t 80))]
def Zm.r19 : List Oper := [
 oD 82 (.fa 1 (.t 2)),
 oD 83 (.ld false 1 (.t 82)),
 oD 84 (.mv (.t 12)),
 oD 85 (.ixa 1 (.t 83) (.t 84)),
 oD 86 (.ld false 1 (.t 85)),
 oD 13 (.mv (.t 86))]
def Zm.r20 : List Oper := [
 oD 87 (.mv (.t 12)),
 oD 14 (.mv (.t 87))]
def Zm.r21 : List Oper := [
 oD 88 (.mv (.t 12)),
 oD 89 (.fa 2 (.t 2)),
 oD 90 (.ld false 1 (.t 89)),
 oD 91 (.len (.t 90)),
 oD 92 (.bin .lss (.t 88) (.t 91))]
def Zm.r22 : List Oper := [
 oD 93 (.fa 2 (.t 2)),
 oD 94 (.ld false 1 (.t 93)),
 oD 95 (.mv (.t 12)),
 oD 96 (.ixa 1 (.t 94) (.t 95)),
 oD 97 (.ld false 1 (.t 96)),
 oD 98 (.conv .i64 (.t 97)),
 oD 14 (.mv (.t 98))]
def Zm.r23 : List Oper := [
 oD 99 (.mv (.t 14)),
 oD 100 (.bin .lss (.t 99) (.c (.i .i64 (-2))))]
def Zm.r24 : List Oper := [
 oD 101 (.mv (.t 14)),
 oD 102 (.un .neg (.t 101)),
 oD 14 (.mv (.t 102))]
def Zm.r25 : List Oper := [
 oD 15 (.mv (.c (.i .i64 0)))]
def Zm.r26 : List Oper := [
 oD 103 (.mv (.t 15)),
 oD 104 (.bin .lss (.t 103) (.c (.i .i64 2)))]
def Zm.r28 : List Oper := [
 oD 107 (.mv (.t 6)),
 oD 108 (.mv (.t 12)),
 oD 109 (.mv (.t 15)),
 oD 110 (.call (.c (.f 63 [])) [.t 107, .t 108, .t 109]),
 oD 16 (.mv (.t 110))]
def Zm.r29 : List Oper := [
 oD 111 (.mv (.t 13)),
 oD 112 (.mv (.t 15)),
 oD 113 (.bin .shr (.t 111) (.t 112)),
 oD 114 (.bin .and (.t 113) (.c (.i .u8 1))),
 oD 115 (.eq false .sc (.t 114) (.c (.i .u8 0))),
 oD 116 (.mv (.t 115)),
 ⟨(some 117), .mv (.t 16), (some (116, false))⟩,
 ⟨(some 118), .bin .lss (.t 117) (.c (.i .i64 0)), (some (116, false))⟩,
 oD 119 (.pick (.t 116) (.c (.b true)) (.t 118))]
def Zm.r30 : List Oper := [
 oD 120 (.mv (.t 6)),
 oD 121 (.mv (.t 11)),
 oD 122 (.mv (.t 12)),
 oD 123 (.mv (.t 16)),
 oD 124 (.call (.c (.f 64 [])) [.t 120, .t 121, .t 122, .t 123]),
 oD 17 (.mv (.t 124))]
def Zm.r31 : List Oper := [
 oD 125 (.mv (.t 17)),
 oD 126 (.un .not (.t 125))]
def Zm.r32 : List Oper := [
 oD 127 (.mv (.t 11)),
 oD 128 (.mv (.t 12)),
 oD 129 (.mv (.t 15)),
 oD 130 (.mv (.t 16)),
 oD 131 (.mv (.t 14)),
 oD 132 (.call (.c (.f 65 [])) [.t 127, .t 128, .t 129, .t 130, .t 131]),
 oD 11 (.mv (.t 132))]
def Zm.r27 : List Oper := [
 oD 105 (.mv (.t 15)),
 oD 106 (.bin .add (.t 105) (.c (.i .i64 1))),
 oD 15 (.mv (.t 106))]
def Zm.l2 : Code := .seq (.seq (.region Zm.r26) (.cond (.t 104) (.skip) (.exit 6))) (.seq (.block 7 (.seq (.region Zm.r28) (.seq (.seq (.region Zm.r29) (.cond (.t 119) (.exit 7) (.skip))) (.seq (.region Zm.r30) (.seq (.region Zm.r31) (.cond (.t 126) (.region Zm.r32) (.skip))))))) (.region Zm.r27))
def Zm.r16 : List Oper := [
 oD 75 (.mv (.t 12)),
 oD 76 (.bin .add (.t 75) (.c (.i .i64 1))),
 oD 12 (.mv (.t 76))]
def Zm.l3 : Code := .seq (.seq (.region Zm.r15) (.cond (.t 74) (.skip) (.exit 4))) (.seq (.block 5 (.seq (.region Zm.r17) (.seq (.seq (.region Zm.r18) (.cond (.t 81) (.region Zm.r19) (.skip))) (.seq (.region Zm.r20) (.seq (.seq (.region Zm.r21) (.cond (.t 92) (.seq (.region Zm.r22) (.seq (.region Zm.r23) (.cond (.t 100) (.region Zm.r24) (.skip)))) (.skip))) (.seq (.region Zm.r25) (.block 6 (.loop Zm.l2)))))))) (.region Zm.r16))
def Zm.r33 : List Oper := [
 oD 133 (.mv (.t 11)),
 oD 134 (.mv (.t 6)),
 oD 4 (.mv (.t 133)),
 oD 5 (.mv (.t 134))]
def Zm.code : Code := .seq (.region Zm.r0) (.seq (.region Zm.r1) (.seq (.seq (.region Zm.r2) (.block 0 (.loop Zm.l1))) (.seq (.region Zm.r13) (.seq (.seq (.region Zm.r14) (.block 4 (.loop Zm.l3))) (.seq (.region Zm.r33) (.ret))))))
def Zm : Func := ⟨135, [.t 4, .t 5], Zm.code⟩
/-! muntin/join.Parts -/
def ZC.r0 : List Oper := [
 oD 2 (.mv (.c (.sn))),
 oD 3 (.mv (.c (.i .i64 0)))]
def ZC.r1 : List Oper := [
 oD 12 (.mv (.t 0)),
 oD 13 (.call (.c (.f 66 [])) [.t 12]),
 oD 4 (.mv (.t 13))]
def ZC.r2 : List Oper := [
 oD 14 (.mv (.t 4)),
 oD 15 (.eq true .sc (.t 14) (.c (.i .i64 0)))]
def ZC.r3 : List Oper := [
 oD 16 (.mv (.t 4)),
 oD 2 (.mv (.c (.sn))),
 oD 3 (.mv (.t 16))]
def ZC.r4 : List Oper := [
 oD 5 (.mv (.c (.sn)))]
def ZC.r5 : List Oper := [
 oD 17 (.mv (.t 0)),
 oD 18 (.len (.t 17)),
 oD 19 (.mks 1 1 [.b false] (.t 18) (.t 18)),
 oD 6 (.mv (.t 19))]
def ZC.r6 : List Oper := [
 oD 20 (.mv (.t 0)),
 oD 21 (.len (.t 20)),
 oD 22 (.mv (.c (.i .i64 0)))]
def ZC.r7 : List Oper := [
 oD 23 (.bin .lss (.t 22) (.t 21))]
def ZC.r8 : List Oper := [
 oD 24 (.mv (.t 22)),
 oD 7 (.mv (.t 24))]
def ZC.r9 : List Oper := [
 oD 25 (.mv (.t 6)),
 oD 26 (.mv (.t 7)),
 oD 27 (.ixa 1 (.t 25) (.t 26)),
 oD 28 (.ld false 1 (.t 27))]
def ZC.r10 : List Oper := [
 oD 30 (.mv (.t 0)),
 oD 31 (.mv (.t 7)),
 oD 32 (.call (.c (.f 67 [])) [.t 30, .t 31]),
 oD 29 (.mv (.t 32)),
 oD 33 (.ext (.t 29) 0),
 oD 34 (.ext (.t 29) 1),
 oD 8 (.mv (.t 33)),
 oD 9 (.mv (.t 34))]
def ZC.r11 : List Oper := [
 oD 35 (.bsl 1 0 [.i .i64 0] []),
 oD 10 (.mv (.t 35))]
def ZC.r12 : List Oper := [
 oD 36 (.mv (.t 0)),
 oD 37 (.len (.t 36)),
 oD 38 (.mv (.c (.i .i64 0)))]
def ZC.r13 : List Oper := [
 oD 39 (.bin .lss (.t 38) (.t 37))]
def ZC.r14 : List Oper := [
 oD 40 (.mv (.t 38)),
 oD 11 (.mv (.t 40))]
def ZC.r15 : List Oper := [
 oD 41 (.mv (.t 11)),
 oD 42 (.mv (.t 7)),
 oD 43 (.eq false .sc (.t 41) (.t 42)),
 oD 44 (.mv (.t 43)),
 ⟨(some 45), .mv (.t 9), (some (44, false))⟩,
 ⟨(some 46), .mv (.t 11), (some (44, false))⟩,
 ⟨(some 47), .ixa 1 (.t 45) (.t 46), (some (44, false))⟩,
 ⟨(some 48), .ld false 1 (.t 47), (some (44, false))⟩,
 ⟨(some 49), .bin .geq (.t 48) (.c (.i .i64 0)), (some (44, false))⟩,
 oD 50 (.pick (.t 44) (.c (.b true)) (.t 49))]
def ZC.r16 : List Oper := [
 oD 51 (.mv (.t 6)),
 oD 52 (.mv (.t 11)),
 oD 53 (.ixa 1 (.t 51) (.t 52)),
 oN (.st 1 (.t 53) (.c (.b true)))]
def ZC.r17 : List Oper := [
 oD 54 (.mv (.t 10)),
 oD 55 (.mv (.t 11)),
 oD 56 (.bsl 1 1 [.i .i64 0] [(0, 1, .t 55)]),
 oD 57 (.app 1 8 (.t 54) (.t 56)),
 oD 10 (.mv (.t 57))]
def ZC.r18 : List Oper := [
 oD 58 (.bin .add (.t 38) (.c (.i .i64 1))),
 oD 38 (.mv (.t 58))]
def ZC.l0 : Code := .seq (.region ZC.r13) (.seq (.cond (.t 39) (.skip) (.exit 2)) (.seq (.block 3 (.seq (.region ZC.r14) (.seq (.region ZC.r15) (.cond (.t 50) (.seq (.region ZC.r16) (.region ZC.r17)) (.skip))))) (.region ZC.r18)))
def ZC.r19 : List Oper := [
 oD 59 (.mv (.t 5)),
 oD 60 (.mv (.t 10)),
 oD 61 (.bsl 1 1 [.sn] [(0, 1, .t 60)]),
 oD 62 (.app 1 24 (.t 59) (.t 61)),
 oD 5 (.mv (.t 62))]
def ZC.r20 : List Oper := [
 oD 63 (.bin .add (.t 22) (.c (.i .i64 1))),
 oD 22 (.mv (.t 63))]
def ZC.l1 : Code := .seq (.region ZC.r7) (.seq (.cond (.t 23) (.skip) (.exit 0)) (.seq (.block 1 (.seq (.region ZC.r8) (.seq (.seq (.region ZC.r9) (.cond (.t 28) (.exit 1) (.skip))) (.seq (.region ZC.r10) (.seq (.region ZC.r11) (.seq (.seq (.region ZC.r12) (.block 2 (.loop ZC.l0))) (.region ZC.r19))))))) (.region ZC.r20)))
def ZC.r21 : List Oper := [
 oD 64 (.mv (.t 5)),
 oD 2 (.mv (.t 64)),
 oD 3 (.mv (.c (.i .i64 0)))]
def ZC.code : Code := .seq (.region ZC.r0) (.seq (.seq (.region ZC.r1) (.seq (.region ZC.r2) (.cond (.t 15) (.seq (.region ZC.r3) (.ret)) (.skip)))) (.seq (.region ZC.r4) (.seq (.region ZC.r5) (.seq (.seq (.region ZC.r6) (.block 0 (.loop ZC.l1))) (.seq (.region ZC.r21) (.ret))))))
def ZC : Func := ⟨65, [.t 2, .t 3], ZC.code⟩
/-! muntin/muntinref13.Parts -/
def Z4.r0 : List Oper := [
 oD 2 (.mv (.c (.sn)))]
def Z4.r1 : List Oper := [
 oD 9 (.mv (.t 0)),
 oD 10 (.len (.t 9)),
 oD 11 (.mks 1 1 [.b false] (.t 10) (.t 10)),
 oD 3 (.mv (.t 11))]
def Z4.r2 : List Oper := [
 oD 4 (.mv (.c (.sn)))]
def Z4.r3 : List Oper := [
 oD 5 (.mv (.c (.i .i64 0)))]
def Z4.r4 : List Oper := [
 oD 12 (.mv (.t 5)),
 oD 13 (.mv (.t 0)),
 oD 14 (.len (.t 13)),
 oD 15 (.bin .lss (.t 12) (.t 14))]
def Z4.r6 : List Oper := [
 oD 18 (.mv (.t 3)),
 oD 19 (.mv (.t 5)),
 oD 20 (.ixa 1 (.t 18) (.t 19)),
 oD 21 (.ld false 1 (.t 20))]
def Z4.r7 : List Oper := [
 oD 22 (.mv (.t 0)),
 oD 23 (.mv (.t 5)),
 oD 24 (.call (.c (.f 36 [])) [.t 22, .t 23]),
 oD 6 (.mv (.t 24))]
def Z4.r8 : List Oper := [
 oD 7 (.mv (.c (.sn)))]
def Z4.r9 : List Oper := [
 oD 8 (.mv (.c (.i .i64 0)))]
def Z4.r10 : List Oper := [
 oD 25 (.mv (.t 8)),
 oD 26 (.mv (.t 0)),
 oD 27 (.len (.t 26)),
 oD 28 (.bin .lss (.t 25) (.t 27))]
def Z4.r12 : List Oper := [
 oD 31 (.mv (.t 6)),
 oD 32 (.mv (.t 8)),
 oD 33 (.ixa 1 (.t 31) (.t 32)),
 oD 34 (.ld false 1 (.t 33)),
 oD 35 (.bin .geq (.t 34) (.c (.i .i64 0)))]
def Z4.r13 : List Oper := [
 oD 36 (.mv (.t 3)),
 oD 37 (.mv (.t 8)),
 oD 38 (.ixa 1 (.t 36) (.t 37)),
 oN (.st 1 (.t 38) (.c (.b true)))]
def Z4.r14 : List Oper := [
 oD 39 (.mv (.t 7)),
 oD 40 (.mv (.t 8)),
 oD 41 (.bsl 1 1 [.i .i64 0] [(0, 1, .t 40)]),
 oD 42 (.app 1 8 (.t 39) (.t 41)),
 oD 7 (.mv (.t 42))]
def Z4.r11 : List Oper := [
 oD 29 (.mv (.t 8)),
 oD 30 (.bin .add (.t 29) (.c (.i .i64 1))),
 oD 8 (.mv (.t 30))]
def Z4.l0 : Code := .seq (.seq (.region Z4.r10) (.cond (.t 28) (.skip) (.exit 2))) (.seq (.block 3 (.seq (.region Z4.r12) (.cond (.t 35) (.seq (.region Z4.r13) (.region Z4.r14)) (.skip)))) (.region Z4.r11))
def Z4.r15 : List Oper := [
 oD 43 (.mv (.t 4)),
 oD 44 (.mv (.t 7)),
 oD 45 (.bsl 1 1 [.sn] [(0, 1, .t 44)]),
 oD 46 (.app 1 24 (.t 43) (.t 45)),
 oD 4 (.mv (.t 46))]
def Z4.r5 : List Oper := [
 oD 16 (.mv (.t 5)),
 oD 17 (.bin .add (.t 16) (.c (.i .i64 1))),
 oD 5 (.mv (.t 17))]
def Z4.l1 : Code := .seq (.seq (.region Z4.r4) (.cond (.t 15) (.skip) (.exit 0))) (.seq (.block 1 (.seq (.seq (.region Z4.r6) (.cond (.t 21) (.exit 1) (.skip))) (.seq (.region Z4.r7) (.seq (.region Z4.r8) (.seq (.seq (.region Z4.r9) (.block 2 (.loop Z4.l0))) (.region Z4.r15)))))) (.region Z4.r5))
def Z4.r16 : List Oper := [
 oD 47 (.mv (.t 4)),
 oD 2 (.mv (.t 47))]
def Z4.code : Code := .seq (.region Z4.r0) (.seq (.region Z4.r1) (.seq (.region Z4.r2) (.seq (.seq (.region Z4.r3) (.block 0 (.loop Z4.l1))) (.seq (.region Z4.r16) (.ret)))))
def Z4 : Func := ⟨48, [.t 2], Z4.code⟩
/-! muntin/join.Whole -/
def Zas.r0 : List Oper := [
 oD 2 (.mv (.c (.b false)))]
def Zas.r1 : List Oper := [
 oD 6 (.mv (.t 0)),
 oD 7 (.call (.c (.f 29 [])) [.t 6]),
 oD 5 (.mv (.t 7)),
 oD 8 (.ext (.t 5) 0),
 oD 9 (.ext (.t 5) 1),
 oD 3 (.mv (.t 8)),
 oD 4 (.mv (.t 9))]
def Zas.r2 : List Oper := [
 oD 10 (.mv (.t 4)),
 oD 11 (.eq false .sc (.t 10) (.c (.i .i64 0))),
 oD 12 (.mv (.t 11)),
 ⟨(some 13), .mv (.t 3), (some (12, true))⟩,
 ⟨(some 14), .len (.t 13), (some (12, true))⟩,
 ⟨(some 15), .eq false .sc (.t 14) (.c (.i .i64 1)), (some (12, true))⟩,
 oD 16 (.pick (.t 12) (.t 15) (.c (.b false))),
 oD 2 (.mv (.t 16))]
def Zas.code : Code := .seq (.region Zas.r0) (.seq (.region Zas.r1) (.seq (.region Zas.r2) (.ret)))
def Zas : Func := ⟨17, [.t 2], Zas.code⟩
/-! muntin/muntinref10.Check -/
def Zw.r0 : List Oper := [
 oD 2 (.mv (.c (.i .i64 0)))]
def Zw.r1 : List Oper := [
 oD 7 (.mv (.t 0)),
 oD 8 (.len (.t 7)),
 oD 9 (.bin .gtr (.t 8) (.c (.i .i64 4096)))]
def Zw.r2 : List Oper := [
 oD 2 (.mv (.c (.i .i64 6)))]
def Zw.r3 : List Oper := [
 oD 3 (.mv (.c (.i .i64 0)))]
def Zw.r4 : List Oper := [
 oD 10 (.mv (.t 3)),
 oD 11 (.mv (.t 0)),
 oD 12 (.len (.t 11)),
 oD 13 (.bin .lss (.t 10) (.t 12))]
def Zw.r6 : List Oper := [
 oD 4 (.mv (.c (.i .i64 0)))]
def Zw.r7 : List Oper := [
 oD 16 (.mv (.t 4)),
 oD 17 (.bin .lss (.t 16) (.c (.i .i64 4)))]
def Zw.r9 : List Oper := [
 oD 20 (.mv (.t 0)),
 oD 21 (.mv (.t 3)),
 oD 22 (.mv (.t 4)),
 oD 23 (.ixa 8 (.t 20) (.t 21)),
 oD 24 (.fa 0 (.t 23)),
 oD 25 (.ixaa 1 4 (.t 24) (.t 22)),
 oD 26 (.ld false 1 (.t 25)),
 oD 5 (.mv (.t 26))]
def Zw.r10 : List Oper := [
 oD 27 (.mv (.t 0)),
 oD 28 (.mv (.t 3)),
 oD 29 (.mv (.t 4)),
 oD 30 (.ixa 8 (.t 27) (.t 28)),
 oD 31 (.fa 4 (.t 30)),
 oD 32 (.ixaa 1 4 (.t 31) (.t 29)),
 oD 33 (.ld false 1 (.t 32)),
 oD 6 (.mv (.t 33))]
def Zw.r11 : List Oper := [
 oD 34 (.mv (.t 5)),
 oD 35 (.eq false .sc (.t 34) (.c (.i .i64 (-1))))]
def Zw.r12 : List Oper := [
 oD 36 (.mv (.t 6)),
 oD 37 (.eq true .sc (.t 36) (.c (.i .i64 0)))]
def Zw.r13 : List Oper := [
 oD 2 (.mv (.c (.i .i64 9)))]
def Zw.r14 : List Oper := [
 oD 38 (.mv (.t 5)),
 oD 39 (.bin .lss (.t 38) (.c (.i .i64 0))),
 oD 40 (.mv (.t 39)),
 ⟨(some 41), .mv (.t 5), (some (40, false))⟩,
 ⟨(some 42), .mv (.t 0), (some (40, false))⟩,
 ⟨(some 43), .len (.t 42), (some (40, false))⟩,
 ⟨(some 44), .bin .geq (.t 41) (.t 43), (some (40, false))⟩,
 oD 45 (.pick (.t 40) (.c (.b true)) (.t 44)),
 oD 46 (.mv (.t 45)),
 ⟨(some 47), .mv (.t 5), (some (46, false))⟩,
 ⟨(some 48), .mv (.t 3), (some (46, false))⟩,
 ⟨(some 49), .eq false .sc (.t 47) (.t 48), (some (46, false))⟩,
 oD 50 (.pick (.t 46) (.c (.b true)) (.t 49))]
def Zw.r15 : List Oper := [
 oD 2 (.mv (.c (.i .i64 3)))]
def Zw.r16 : List Oper := [
 oD 51 (.mv (.t 0)),
 oD 52 (.mv (.t 5)),
 oD 53 (.mv (.t 4)),
 oD 54 (.bin .add (.t 53) (.c (.i .i64 2))),
 oD 55 (.bin .rem (.t 54) (.c (.i .i64 4))),
 oD 56 (.ixa 8 (.t 51) (.t 52)),
 oD 57 (.fa 0 (.t 56)),
 oD 58 (.ixaa 1 4 (.t 57) (.t 55)),
 oD 59 (.ld false 1 (.t 58)),
 oD 60 (.mv (.t 3)),
 oD 61 (.eq true .sc (.t 59) (.t 60)),
 oD 62 (.mv (.t 61)),
 ⟨(some 63), .mv (.t 0), (some (62, false))⟩,
 ⟨(some 64), .mv (.t 5), (some (62, false))⟩,
 ⟨(some 65), .mv (.t 4), (some (62, false))⟩,
 ⟨(some 66), .bin .add (.t 65) (.c (.i .i64 2)), (some (62, false))⟩,
 ⟨(some 67), .bin .rem (.t 66) (.c (.i .i64 4)), (some (62, false))⟩,
 ⟨(some 68), .ixa 8 (.t 63) (.t 64), (some (62, false))⟩,
 ⟨(some 69), .fa 4 (.t 68), (some (62, false))⟩,
 ⟨(some 70), .ixaa 1 4 (.t 69) (.t 67), (some (62, false))⟩,
 ⟨(some 71), .ld false 1 (.t 70), (some (62, false))⟩,
 ⟨(some 72), .mv (.t 6), (some (62, false))⟩,
 ⟨(some 73), .eq true .sc (.t 71) (.t 72), (some (62, false))⟩,
 oD 74 (.pick (.t 62) (.c (.b true)) (.t 73)),
 oD 75 (.mv (.t 74)),
 ⟨(some 76), .mv (.t 6), (some (75, false))⟩,
 ⟨(some 77), .bin .lss (.t 76) (.c (.i .i64 (-2))), (some (75, false))⟩,
 oD 78 (.pick (.t 75) (.c (.b true)) (.t 77))]
def Zw.r17 : List Oper := [
 oD 2 (.mv (.c (.i .i64 9)))]
def Zw.r8 : List Oper := [
 oD 18 (.mv (.t 4)),
 oD 19 (.bin .add (.t 18) (.c (.i .i64 1))),
 oD 4 (.mv (.t 19))]
def Zw.l0 : Code := .seq (.seq (.region Zw.r7) (.cond (.t 17) (.skip) (.exit 2))) (.seq (.block 3 (.seq (.region Zw.r9) (.seq (.region Zw.r10) (.seq (.seq (.region Zw.r11) (.cond (.t 35) (.seq (.seq (.region Zw.r12) (.cond (.t 37) (.seq (.region Zw.r13) (.ret)) (.skip))) (.exit 3)) (.skip))) (.seq (.seq (.region Zw.r14) (.cond (.t 50) (.seq (.region Zw.r15) (.ret)) (.skip))) (.seq (.region Zw.r16) (.cond (.t 78) (.seq (.region Zw.r17) (.ret)) (.skip)))))))) (.region Zw.r8))
def Zw.r5 : List Oper := [
 oD 14 (.mv (.t 3)),
 oD 15 (.bin .add (.t 14) (.c (.i .i64 1))),
 oD 3 (.mv (.t 15))]
def Zw.l1 : Code := .seq (.seq (.region Zw.r4) (.cond (.t 13) (.skip) (.exit 0))) (.seq (.block 1 (.seq (.region Zw.r6) (.block 2 (.loop Zw.l0)))) (.region Zw.r5))
def Zw.r18 : List Oper := [
 oD 2 (.mv (.c (.i .i64 0)))]
def Zw.code : Code := .seq (.region Zw.r0) (.seq (.seq (.region Zw.r1) (.cond (.t 9) (.seq (.region Zw.r2) (.ret)) (.skip))) (.seq (.seq (.region Zw.r3) (.block 0 (.loop Zw.l1))) (.seq (.region Zw.r18) (.ret))))
def Zw : Func := ⟨79, [.t 2], Zw.code⟩
/-! muntin/muntinref13.Far -/
def Zy.r0 : List Oper := [
 oD 4 (.mv (.c (.sn)))]
def Zy.r1 : List Oper := [
 oD 11 (.mv (.t 0)),
 oD 12 (.len (.t 11)),
 oD 13 (.mks 1 8 [.i .i64 0] (.t 12) (.t 12)),
 oD 5 (.mv (.t 13))]
def Zy.r2 : List Oper := [
 oD 6 (.mv (.c (.i .i64 0)))]
def Zy.r3 : List Oper := [
 oD 14 (.mv (.t 6)),
 oD 15 (.mv (.t 0)),
 oD 16 (.len (.t 15)),
 oD 17 (.bin .lss (.t 14) (.t 16))]
def Zy.r5 : List Oper := [
 oD 20 (.mv (.t 5)),
 oD 21 (.mv (.t 6)),
 oD 22 (.ixa 1 (.t 20) (.t 21)),
 oN (.st 1 (.t 22) (.c (.i .i64 (-1))))]
def Zy.r4 : List Oper := [
 oD 18 (.mv (.t 6)),
 oD 19 (.bin .add (.t 18) (.c (.i .i64 1))),
 oD 6 (.mv (.t 19))]
def Zy.l0 : Code := .seq (.seq (.region Zy.r3) (.cond (.t 17) (.skip) (.exit 0))) (.seq (.block 1 (.region Zy.r5)) (.region Zy.r4))
def Zy.r6 : List Oper := [
 oD 23 (.mv (.t 5)),
 oD 24 (.mv (.t 1)),
 oD 25 (.ixa 1 (.t 23) (.t 24)),
 oN (.st 1 (.t 25) (.c (.i .i64 0)))]
def Zy.r7 : List Oper := [
 oD 7 (.mv (.c (.i .i64 0)))]
def Zy.r8 : List Oper := [
 oD 26 (.mv (.t 7)),
 oD 27 (.mv (.t 0)),
 oD 28 (.len (.t 27)),
 oD 29 (.bin .lss (.t 26) (.t 28))]
def Zy.r10 : List Oper := [
 oD 8 (.mv (.c (.i .i64 0)))]
def Zy.r11 : List Oper := [
 oD 32 (.mv (.t 8)),
 oD 33 (.mv (.t 0)),
 oD 34 (.len (.t 33)),
 oD 35 (.bin .lss (.t 32) (.t 34))]
def Zy.r13 : List Oper := [
 oD 9 (.mv (.c (.i .i64 0)))]
def Zy.r14 : List Oper := [
 oD 38 (.mv (.t 9)),
 oD 39 (.bin .lss (.t 38) (.c (.i .i64 4)))]
def Zy.r16 : List Oper := [
 oD 42 (.mv (.t 0)),
 oD 43 (.mv (.t 8)),
 oD 44 (.mv (.t 9)),
 oD 45 (.ixa 8 (.t 42) (.t 43)),
 oD 46 (.fa 0 (.t 45)),
 oD 47 (.ixaa 1 4 (.t 46) (.t 44)),
 oD 48 (.ld false 1 (.t 47)),
 oD 10 (.mv (.t 48))]
def Zy.r17 : List Oper := [
 oD 49 (.mv (.t 5)),
 oD 50 (.mv (.t 8)),
 oD 51 (.ixa 1 (.t 49) (.t 50)),
 oD 52 (.ld false 1 (.t 51)),
 oD 53 (.mv (.t 7)),
 oD 54 (.eq false .sc (.t 52) (.t 53)),
 oD 55 (.mv (.t 54)),
 ⟨(some 56), .mv (.t 10), (some (55, true))⟩,
 ⟨(some 57), .bin .geq (.t 56) (.c (.i .i64 0)), (some (55, true))⟩,
 oD 58 (.pick (.t 55) (.t 57) (.c (.b false))),
 oD 59 (.mv (.t 58)),
 ⟨(some 60), .mv (.t 5), (some (59, true))⟩,
 ⟨(some 61), .mv (.t 10), (some (59, true))⟩,
 ⟨(some 62), .mx [.t 61, .c (.i .i64 0)], (some (59, true))⟩,
 ⟨(some 63), .ixa 1 (.t 60) (.t 62), (some (59, true))⟩,
 ⟨(some 64), .ld false 1 (.t 63), (some (59, true))⟩,
 ⟨(some 65), .bin .lss (.t 64) (.c (.i .i64 0)), (some (59, true))⟩,
 oD 66 (.pick (.t 59) (.t 65) (.c (.b false)))]
def Zy.r18 : List Oper := [
 oD 67 (.mv (.t 5)),
 oD 68 (.mv (.t 10)),
 oD 69 (.mv (.t 7)),
 oD 70 (.bin .add (.t 69) (.c (.i .i64 1))),
 oD 71 (.ixa 1 (.t 67) (.t 68)),
 oN (.st 1 (.t 71) (.t 70))]
def Zy.r15 : List Oper := [
 oD 40 (.mv (.t 9)),
 oD 41 (.bin .add (.t 40) (.c (.i .i64 1))),
 oD 9 (.mv (.t 41))]
def Zy.l1 : Code := .seq (.seq (.region Zy.r14) (.cond (.t 39) (.skip) (.exit 6))) (.seq (.block 7 (.seq (.region Zy.r16) (.seq (.region Zy.r17) (.cond (.t 66) (.region Zy.r18) (.skip))))) (.region Zy.r15))
def Zy.r12 : List Oper := [
 oD 36 (.mv (.t 8)),
 oD 37 (.bin .add (.t 36) (.c (.i .i64 1))),
 oD 8 (.mv (.t 37))]
def Zy.l2 : Code := .seq (.seq (.region Zy.r11) (.cond (.t 35) (.skip) (.exit 4))) (.seq (.block 5 (.seq (.region Zy.r13) (.block 6 (.loop Zy.l1)))) (.region Zy.r12))
def Zy.r9 : List Oper := [
 oD 30 (.mv (.t 7)),
 oD 31 (.bin .add (.t 30) (.c (.i .i64 1))),
 oD 7 (.mv (.t 31))]
def Zy.l3 : Code := .seq (.seq (.region Zy.r8) (.cond (.t 29) (.skip) (.exit 2))) (.seq (.block 3 (.seq (.region Zy.r10) (.block 4 (.loop Zy.l2)))) (.region Zy.r9))
def Zy.r19 : List Oper := [
 oD 72 (.mv (.t 5)),
 oD 4 (.mv (.t 72))]
def Zy.code : Code := .seq (.region Zy.r0) (.seq (.region Zy.r1) (.seq (.seq (.region Zy.r2) (.block 0 (.loop Zy.l0))) (.seq (.region Zy.r6) (.seq (.seq (.region Zy.r7) (.block 2 (.loop Zy.l3))) (.seq (.region Zy.r19) (.ret))))))
def Zy : Func := ⟨73, [.t 4], Zy.code⟩
/-! muntin/muntinref10.New -/
def ZV.r0 : List Oper := [
 oD 2 (.mv (.c (.sn)))]
def ZV.r1 : List Oper := [
 oD 6 (.mv (.t 0)),
 oD 7 (.mks 8 64 [.i .i64 0, .i .i64 0, .i .i64 0, .i .i64 0, .i .i64 0, .i .i64 0, .i .i64 0, .i .i64 0] (.t 6) (.t 6)),
 oD 3 (.mv (.t 7))]
def ZV.r2 : List Oper := [
 oD 4 (.mv (.c (.i .i64 0)))]
def ZV.r3 : List Oper := [
 oD 8 (.mv (.t 4)),
 oD 9 (.mv (.t 0)),
 oD 10 (.bin .lss (.t 8) (.t 9))]
def ZV.r5 : List Oper := [
 oD 5 (.mv (.c (.i .i64 0)))]
def ZV.r6 : List Oper := [
 oD 13 (.mv (.t 5)),
 oD 14 (.bin .lss (.t 13) (.c (.i .i64 4)))]
def ZV.r8 : List Oper := [
 oD 17 (.mv (.t 3)),
 oD 18 (.mv (.t 4)),
 oD 19 (.mv (.t 5)),
 oD 20 (.ixa 8 (.t 17) (.t 18)),
 oD 21 (.fa 0 (.t 20)),
 oD 22 (.ixaa 1 4 (.t 21) (.t 19)),
 oN (.st 1 (.t 22) (.c (.i .i64 (-1))))]
def ZV.r7 : List Oper := [
 oD 15 (.mv (.t 5)),
 oD 16 (.bin .add (.t 15) (.c (.i .i64 1))),
 oD 5 (.mv (.t 16))]
def ZV.l0 : Code := .seq (.seq (.region ZV.r6) (.cond (.t 14) (.skip) (.exit 2))) (.seq (.block 3 (.region ZV.r8)) (.region ZV.r7))
def ZV.r4 : List Oper := [
 oD 11 (.mv (.t 4)),
 oD 12 (.bin .add (.t 11) (.c (.i .i64 1))),
 oD 4 (.mv (.t 12))]
def ZV.l1 : Code := .seq (.seq (.region ZV.r3) (.cond (.t 10) (.skip) (.exit 0))) (.seq (.block 1 (.seq (.region ZV.r5) (.block 2 (.loop ZV.l0)))) (.region ZV.r4))
def ZV.r9 : List Oper := [
 oD 23 (.mv (.t 3)),
 oD 2 (.mv (.t 23))]
def ZV.code : Code := .seq (.region ZV.r0) (.seq (.region ZV.r1) (.seq (.seq (.region ZV.r2) (.block 0 (.loop ZV.l1))) (.seq (.region ZV.r9) (.ret))))
def ZV : Func := ⟨24, [.t 2], ZV.code⟩
/-! muntin/kitty.right -/
def Zaz.r0 : List Oper := [
 oD 2 (.mv (.c (.b false)))]
def Zaz.r1 : List Oper := [
 oD 3 (.mv (.t 0)),
 oD 4 (.call (.c (.f 78 [])) [.t 3, .c (.f 80 [])]),
 oD 5 (.un .not (.t 4)),
 oD 2 (.mv (.t 5))]
def Zaz.code : Code := .seq (.region Zaz.r0) (.seq (.region Zaz.r1) (.ret))
def Zaz : Func := ⟨6, [.t 2], Zaz.code⟩
/-! slices.Contains[[]muntin/kitty.Corner,muntin/kitty.Corner] -/
def zz.r0 : List Oper := [
 oD 3 (.box (.t 1)),
 oD 4 (.mv (.c (.b false)))]
def zz.r1 : List Oper := [
 oD 5 (.mv (.t 0)),
 oD 6 (.ld true 2 (.t 3)),
 oD 7 (.call (.c (.f 81 [])) [.t 5, .t 6]),
 oD 8 (.bin .geq (.t 7) (.c (.i .i64 0))),
 oD 4 (.mv (.t 8))]
def zz.code : Code := .seq (.region zz.r0) (.seq (.region zz.r1) (.ret))
def zz : Func := ⟨9, [.t 4], zz.code⟩
/-! muntin/kitty.rot -/
def Zah.r0 : List Oper := [
 oD 4 (.box (.t 1)),
 oD 5 (.box (.t 2)),
 oD 6 (.mv (.c (.i .i64 0)))]
def Zah.r1 : List Oper := [
 oD 8 (.mv (.t 0)),
 oD 9 (.fa 0 (.t 5)),
 oD 10 (.ld false 1 (.t 9)),
 oD 11 (.ixa 1 (.t 8) (.t 10)),
 oD 12 (.ld false 1 (.t 11)),
 oD 13 (.fa 1 (.t 5)),
 oD 14 (.ld false 1 (.t 13)),
 oD 15 (.bin .sub (.t 12) (.t 14)),
 oD 16 (.mv (.t 0)),
 oD 17 (.fa 0 (.t 4)),
 oD 18 (.ld false 1 (.t 17)),
 oD 19 (.ixa 1 (.t 16) (.t 18)),
 oD 20 (.ld false 1 (.t 19)),
 oD 21 (.fa 1 (.t 4)),
 oD 22 (.ld false 1 (.t 21)),
 oD 23 (.bin .sub (.t 20) (.t 22)),
 oD 24 (.bin .sub (.t 15) (.t 23)),
 oD 7 (.mv (.t 24))]
def Zah.r2 : List Oper := [
 oD 25 (.fa 0 (.t 5)),
 oD 26 (.ld false 1 (.t 25)),
 oD 27 (.fa 0 (.t 4)),
 oD 28 (.ld false 1 (.t 27)),
 oD 29 (.bin .lss (.t 26) (.t 28)),
 oD 30 (.mv (.t 29)),
 ⟨(some 31), .fa 0 (.t 5), (some (30, false))⟩,
 ⟨(some 32), .ld false 1 (.t 31), (some (30, false))⟩,
 ⟨(some 33), .fa 0 (.t 4), (some (30, false))⟩,
 ⟨(some 34), .ld false 1 (.t 33), (some (30, false))⟩,
 ⟨(some 35), .eq false .sc (.t 32) (.t 34), (some (30, false))⟩,
 ⟨(some 36), .mv (.t 35), (some (30, false))⟩,
 ⟨(some 37), .fa 1 (.t 5), (some (36, true))⟩,
 ⟨(some 38), .ld false 1 (.t 37), (some (36, true))⟩,
 ⟨(some 39), .fa 1 (.t 4), (some (36, true))⟩,
 ⟨(some 40), .ld false 1 (.t 39), (some (36, true))⟩,
 ⟨(some 41), .bin .lss (.t 38) (.t 40), (some (36, true))⟩,
 ⟨(some 42), .pick (.t 36) (.t 41) (.c (.b false)), (some (30, false))⟩,
 oD 43 (.pick (.t 30) (.c (.b true)) (.t 42))]
def Zah.r3 : List Oper := [
 oD 44 (.mv (.t 7)),
 oD 45 (.mv (.t 0)),
 oD 46 (.mv (.t 0)),
 oD 47 (.len (.t 46)),
 oD 48 (.bin .sub (.t 47) (.c (.i .i64 1))),
 oD 49 (.ixa 1 (.t 45) (.t 48)),
 oD 50 (.ld false 1 (.t 49)),
 oD 51 (.bin .add (.t 44) (.t 50)),
 oD 7 (.mv (.t 51))]
def Zah.r4 : List Oper := [
 oD 52 (.mv (.t 7)),
 oD 6 (.mv (.t 52))]
def Zah.code : Code := .seq (.region Zah.r0) (.seq (.draw Zah.r1 [(2, 6), (4, 6), (2, 10), (4, 10), (6, 10), (2, 12), (4, 12), (6, 12), (2, 14), (4, 14), (6, 14), (10, 14), (12, 14)]) (.seq (.seq (.region Zah.r2) (.cond (.t 43) (.region Zah.r3) (.skip))) (.seq (.region Zah.r4) (.ret))))
def Zah : Func := ⟨53, [.t 6], Zah.code⟩
/-! muntin/kitty.sums -/
def zD.r0 : List Oper := [
 oD 2 (.mv (.c (.sn)))]
def zD.r1 : List Oper := [
 oD 6 (.mv (.t 0)),
 oD 7 (.len (.t 6)),
 oD 8 (.bin .add (.t 7) (.c (.i .i64 1))),
 oD 9 (.mks 1 8 [.i .i64 0] (.t 8) (.t 8)),
 oD 3 (.mv (.t 9))]
def zD.r2 : List Oper := [
 oD 10 (.mv (.t 0)),
 oD 11 (.len (.t 10)),
 oD 12 (.mv (.c (.i .i64 0)))]
def zD.r3 : List Oper := [
 oD 13 (.bin .lss (.t 12) (.t 11))]
def zD.r4 : List Oper := [
 oD 14 (.mv (.t 12)),
 oD 15 (.ixa 1 (.t 10) (.t 12)),
 oD 16 (.ld false 1 (.t 15)),
 oD 4 (.mv (.t 14)),
 oD 5 (.mv (.t 16))]
def zD.r5 : List Oper := [
 oD 17 (.mv (.t 3)),
 oD 18 (.mv (.t 4)),
 oD 19 (.bin .add (.t 18) (.c (.i .i64 1))),
 oD 20 (.mv (.t 3)),
 oD 21 (.mv (.t 4)),
 oD 22 (.ixa 1 (.t 20) (.t 21)),
 oD 23 (.ld false 1 (.t 22)),
 oD 24 (.mv (.t 5)),
 oD 25 (.bin .add (.t 23) (.t 24)),
 oD 26 (.ixa 1 (.t 17) (.t 19)),
 oN (.st 1 (.t 26) (.t 25))]
def zD.r6 : List Oper := [
 oD 27 (.bin .add (.t 12) (.c (.i .i64 1))),
 oD 12 (.mv (.t 27))]
def zD.l0 : Code := .seq (.region zD.r3) (.seq (.cond (.t 13) (.skip) (.exit 0)) (.seq (.block 1 (.seq (.region zD.r4) (.region zD.r5))) (.region zD.r6)))
def zD.r7 : List Oper := [
 oD 28 (.mv (.t 3)),
 oD 2 (.mv (.t 28))]
def zD.code : Code := .seq (.region zD.r0) (.seq (.region zD.r1) (.seq (.seq (.region zD.r2) (.block 0 (.loop zD.l0))) (.seq (.region zD.r7) (.ret))))
def zD : Func := ⟨29, [.t 2], zD.code⟩
/-! muntin/muntinref10.Nearest -/
def ZD.r0 : List Oper := [
 oD 6 (.mv (.c (.i .i64 0)))]
def ZD.r1 : List Oper := [
 oD 7 (.mv (.c (.i .i64 (-1))))]
def ZD.r2 : List Oper := [
 oD 8 (.mv (.c (.i .i64 0)))]
def ZD.r3 : List Oper := [
 oD 9 (.mv (.t 8)),
 oD 10 (.mv (.t 0)),
 oD 11 (.len (.t 10)),
 oD 12 (.bin .lss (.t 9) (.t 11))]
def ZD.r5 : List Oper := [
 oD 15 (.mv (.t 2)),
 oD 16 (.eq false .sc (.t 15) (.c (.i .i64 0))),
 oD 17 (.mv (.t 16)),
 ⟨(some 18), .mv (.t 0), (some (17, true))⟩,
 ⟨(some 19), .mv (.t 8), (some (17, true))⟩,
 ⟨(some 20), .ixa 2 (.t 18) (.t 19), (some (17, true))⟩,
 ⟨(some 21), .fa 1 (.t 20), (some (17, true))⟩,
 ⟨(some 22), .ld false 1 (.t 21), (some (17, true))⟩,
 ⟨(some 23), .mv (.t 0), (some (17, true))⟩,
 ⟨(some 24), .mv (.t 1), (some (17, true))⟩,
 ⟨(some 25), .ixa 2 (.t 23) (.t 24), (some (17, true))⟩,
 ⟨(some 26), .fa 1 (.t 25), (some (17, true))⟩,
 ⟨(some 27), .ld false 1 (.t 26), (some (17, true))⟩,
 ⟨(some 28), .eq false .sc (.t 22) (.t 27), (some (17, true))⟩,
 oD 29 (.pick (.t 17) (.t 28) (.c (.b false))),
 oD 30 (.mv (.t 29)),
 ⟨(some 31), .mv (.t 0), (some (30, true))⟩,
 ⟨(some 32), .mv (.t 8), (some (30, true))⟩,
 ⟨(some 33), .ixa 2 (.t 31) (.t 32), (some (30, true))⟩,
 ⟨(some 34), .fa 0 (.t 33), (some (30, true))⟩,
 ⟨(some 35), .ld false 1 (.t 34), (some (30, true))⟩,
 ⟨(some 36), .mv (.t 0), (some (30, true))⟩,
 ⟨(some 37), .mv (.t 1), (some (30, true))⟩,
 ⟨(some 38), .ixa 2 (.t 36) (.t 37), (some (30, true))⟩,
 ⟨(some 39), .fa 0 (.t 38), (some (30, true))⟩,
 ⟨(some 40), .ld false 1 (.t 39), (some (30, true))⟩,
 ⟨(some 41), .bin .gtr (.t 35) (.t 40), (some (30, true))⟩,
 oD 42 (.pick (.t 30) (.t 41) (.c (.b false))),
 oD 43 (.mv (.t 42)),
 ⟨(some 44), .mv (.t 7), (some (43, true))⟩,
 ⟨(some 45), .bin .lss (.t 44) (.c (.i .i64 0)), (some (43, true))⟩,
 ⟨(some 46), .mv (.t 45), (some (43, true))⟩,
 ⟨(some 47), .mv (.t 0), (some (46, false))⟩,
 ⟨(some 48), .mv (.t 8), (some (46, false))⟩,
 ⟨(some 49), .ixa 2 (.t 47) (.t 48), (some (46, false))⟩,
 ⟨(some 50), .fa 0 (.t 49), (some (46, false))⟩,
 ⟨(some 51), .ld false 1 (.t 50), (some (46, false))⟩,
 ⟨(some 52), .mv (.t 0), (some (46, false))⟩,
 ⟨(some 53), .mv (.t 7), (some (46, false))⟩,
 ⟨(some 54), .ixa 2 (.t 52) (.t 53), (some (46, false))⟩,
 ⟨(some 55), .fa 0 (.t 54), (some (46, false))⟩,
 ⟨(some 56), .ld false 1 (.t 55), (some (46, false))⟩,
 ⟨(some 57), .bin .lss (.t 51) (.t 56), (some (46, false))⟩,
 ⟨(some 58), .pick (.t 46) (.c (.b true)) (.t 57), (some (43, true))⟩,
 oD 59 (.pick (.t 43) (.t 58) (.c (.b false)))]
def ZD.r6 : List Oper := [
 oD 60 (.mv (.t 8)),
 oD 7 (.mv (.t 60))]
def ZD.r7 : List Oper := [
 oD 61 (.mv (.t 2)),
 oD 62 (.eq false .sc (.t 61) (.c (.i .i64 1))),
 oD 63 (.mv (.t 62)),
 ⟨(some 64), .mv (.t 0), (some (63, true))⟩,
 ⟨(some 65), .mv (.t 8), (some (63, true))⟩,
 ⟨(some 66), .ixa 2 (.t 64) (.t 65), (some (63, true))⟩,
 ⟨(some 67), .fa 0 (.t 66), (some (63, true))⟩,
 ⟨(some 68), .ld false 1 (.t 67), (some (63, true))⟩,
 ⟨(some 69), .mv (.t 0), (some (63, true))⟩,
 ⟨(some 70), .mv (.t 1), (some (63, true))⟩,
 ⟨(some 71), .ixa 2 (.t 69) (.t 70), (some (63, true))⟩,
 ⟨(some 72), .fa 0 (.t 71), (some (63, true))⟩,
 ⟨(some 73), .ld false 1 (.t 72), (some (63, true))⟩,
 ⟨(some 74), .eq false .sc (.t 68) (.t 73), (some (63, true))⟩,
 oD 75 (.pick (.t 63) (.t 74) (.c (.b false))),
 oD 76 (.mv (.t 75)),
 ⟨(some 77), .mv (.t 0), (some (76, true))⟩,
 ⟨(some 78), .mv (.t 8), (some (76, true))⟩,
 ⟨(some 79), .ixa 2 (.t 77) (.t 78), (some (76, true))⟩,
 ⟨(some 80), .fa 1 (.t 79), (some (76, true))⟩,
 ⟨(some 81), .ld false 1 (.t 80), (some (76, true))⟩,
 ⟨(some 82), .mv (.t 0), (some (76, true))⟩,
 ⟨(some 83), .mv (.t 1), (some (76, true))⟩,
 ⟨(some 84), .ixa 2 (.t 82) (.t 83), (some (76, true))⟩,
 ⟨(some 85), .fa 1 (.t 84), (some (76, true))⟩,
 ⟨(some 86), .ld false 1 (.t 85), (some (76, true))⟩,
 ⟨(some 87), .bin .gtr (.t 81) (.t 86), (some (76, true))⟩,
 oD 88 (.pick (.t 76) (.t 87) (.c (.b false))),
 oD 89 (.mv (.t 88)),
 ⟨(some 90), .mv (.t 7), (some (89, true))⟩,
 ⟨(some 91), .bin .lss (.t 90) (.c (.i .i64 0)), (some (89, true))⟩,
 ⟨(some 92), .mv (.t 91), (some (89, true))⟩,
 ⟨(some 93), .mv (.t 0), (some (92, false))⟩,
 ⟨(some 94), .mv (.t 8), (some (92, false))⟩,
 ⟨(some 95), .ixa 2 (.t 93) (.t 94), (some (92, false))⟩,
 ⟨(some 96), .fa 1 (.t 95), (some (92, false))⟩,
 ⟨(some 97), .ld false 1 (.t 96), (some (92, false))⟩,
 ⟨(some 98), .mv (.t 0), (some (92, false))⟩,
 ⟨(some 99), .mv (.t 7), (some (92, false))⟩,
 ⟨(some 100), .ixa 2 (.t 98) (.t 99), (some (92, false))⟩,
 ⟨(some 101), .fa 1 (.t 100), (some (92, false))⟩,
 ⟨(some 102), .ld false 1 (.t 101), (some (92, false))⟩,
 ⟨(some 103), .bin .lss (.t 97) (.t 102), (some (92, false))⟩,
 ⟨(some 104), .pick (.t 92) (.c (.b true)) (.t 103), (some (89, true))⟩,
 oD 105 (.pick (.t 89) (.t 104) (.c (.b false)))]
def ZD.r8 : List Oper := [
 oD 106 (.mv (.t 8)),
 oD 7 (.mv (.t 106))]
def ZD.r4 : List Oper := [
 oD 13 (.mv (.t 8)),
 oD 14 (.bin .add (.t 13) (.c (.i .i64 1))),
 oD 8 (.mv (.t 14))]
def ZD.l0 : Code := .seq (.seq (.region ZD.r3) (.cond (.t 12) (.skip) (.exit 0))) (.seq (.block 1 (.seq (.seq (.draw ZD.r5 [(7, 12), (20, 25), (36, 41)]) (.cond (.t 59) (.region ZD.r6) (.skip))) (.seq (.draw ZD.r7 [(7, 12), (20, 25), (36, 41)]) (.cond (.t 105) (.region ZD.r8) (.skip))))) (.region ZD.r4))
def ZD.r9 : List Oper := [
 oD 107 (.mv (.t 7)),
 oD 6 (.mv (.t 107))]
def ZD.code : Code := .seq (.region ZD.r0) (.seq (.region ZD.r1) (.seq (.seq (.region ZD.r2) (.block 0 (.loop ZD.l0))) (.seq (.region ZD.r9) (.ret))))
def ZD : Func := ⟨108, [.t 6], ZD.code⟩
/-! muntin/muntinref10.Crossed -/
def Zz.r0 : List Oper := [
 oD 8 (.mv (.c (.b false)))]
def Zz.r1 : List Oper := [
 oD 9 (.mv (.c (.i .i64 0)))]
def Zz.r2 : List Oper := [
 oD 14 (.mv (.t 9)),
 oD 15 (.mv (.t 1)),
 oD 16 (.len (.t 15)),
 oD 17 (.bin .lss (.t 14) (.t 16))]
def Zz.r4 : List Oper := [
 oD 10 (.mv (.c (.i .i64 0)))]
def Zz.r5 : List Oper := [
 oD 20 (.mv (.t 10)),
 oD 21 (.bin .lss (.t 20) (.c (.i .i64 2)))]
def Zz.r7 : List Oper := [
 oD 24 (.mv (.t 1)),
 oD 25 (.mv (.t 9)),
 oD 26 (.mv (.t 10)),
 oD 27 (.ixa 8 (.t 24) (.t 25)),
 oD 28 (.fa 0 (.t 27)),
 oD 29 (.ixaa 1 4 (.t 28) (.t 26)),
 oD 30 (.ld false 1 (.t 29)),
 oD 11 (.mv (.t 30))]
def Zz.r8 : List Oper := [
 oD 31 (.mv (.t 11)),
 oD 32 (.bin .lss (.t 31) (.c (.i .i64 0)))]
def Zz.r9 : List Oper := [
 oD 33 (.mv (.t 0)),
 oD 34 (.mv (.t 9)),
 oD 35 (.ixa 2 (.t 33) (.t 34)),
 oD 36 (.ld true 2 (.t 35)),
 oD 12 (.alloc [.i .i64 0, .i .i64 0]),
 oN (.st 2 (.t 12) (.t 36))]
def Zz.r10 : List Oper := [
 oD 37 (.mv (.t 0)),
 oD 38 (.mv (.t 11)),
 oD 39 (.ixa 2 (.t 37) (.t 38)),
 oD 40 (.ld true 2 (.t 39)),
 oD 13 (.alloc [.i .i64 0, .i .i64 0]),
 oN (.st 2 (.t 13) (.t 40))]
def Zz.r11 : List Oper := [
 oD 41 (.fa 1 (.t 12)),
 oD 42 (.ld false 1 (.t 41)),
 oD 43 (.fa 1 (.t 13)),
 oD 44 (.ld false 1 (.t 43)),
 oD 45 (.eq false .sc (.t 42) (.t 44)),
 oD 46 (.mv (.t 45)),
 ⟨(some 47), .mv (.t 0), (some (46, true))⟩,
 ⟨(some 48), .mv (.t 2), (some (46, true))⟩,
 ⟨(some 49), .ixa 2 (.t 47) (.t 48), (some (46, true))⟩,
 ⟨(some 50), .fa 0 (.t 49), (some (46, true))⟩,
 ⟨(some 51), .ld false 1 (.t 50), (some (46, true))⟩,
 ⟨(some 52), .mv (.t 0), (some (46, true))⟩,
 ⟨(some 53), .mv (.t 3), (some (46, true))⟩,
 ⟨(some 54), .ixa 2 (.t 52) (.t 53), (some (46, true))⟩,
 ⟨(some 55), .fa 0 (.t 54), (some (46, true))⟩,
 ⟨(some 56), .ld false 1 (.t 55), (some (46, true))⟩,
 ⟨(some 57), .eq false .sc (.t 51) (.t 56), (some (46, true))⟩,
 oD 58 (.pick (.t 46) (.t 57) (.c (.b false))),
 oD 59 (.mv (.t 58)),
 ⟨(some 60), .fa 0 (.t 12), (some (59, true))⟩,
 ⟨(some 61), .ld false 1 (.t 60), (some (59, true))⟩,
 ⟨(some 62), .mv (.t 0), (some (59, true))⟩,
 ⟨(some 63), .mv (.t 2), (some (59, true))⟩,
 ⟨(some 64), .ixa 2 (.t 62) (.t 63), (some (59, true))⟩,
 ⟨(some 65), .fa 0 (.t 64), (some (59, true))⟩,
 ⟨(some 66), .ld false 1 (.t 65), (some (59, true))⟩,
 ⟨(some 67), .bin .lss (.t 61) (.t 66), (some (59, true))⟩,
 oD 68 (.pick (.t 59) (.t 67) (.c (.b false))),
 oD 69 (.mv (.t 68)),
 ⟨(some 70), .mv (.t 0), (some (69, true))⟩,
 ⟨(some 71), .mv (.t 2), (some (69, true))⟩,
 ⟨(some 72), .ixa 2 (.t 70) (.t 71), (some (69, true))⟩,
 ⟨(some 73), .fa 0 (.t 72), (some (69, true))⟩,
 ⟨(some 74), .ld false 1 (.t 73), (some (69, true))⟩,
 ⟨(some 75), .fa 0 (.t 13), (some (69, true))⟩,
 ⟨(some 76), .ld false 1 (.t 75), (some (69, true))⟩,
 ⟨(some 77), .bin .lss (.t 74) (.t 76), (some (69, true))⟩,
 oD 78 (.pick (.t 69) (.t 77) (.c (.b false))),
 oD 79 (.mv (.t 78)),
 ⟨(some 80), .mv (.t 0), (some (79, true))⟩,
 ⟨(some 81), .mv (.t 2), (some (79, true))⟩,
 ⟨(some 82), .ixa 2 (.t 80) (.t 81), (some (79, true))⟩,
 ⟨(some 83), .fa 1 (.t 82), (some (79, true))⟩,
 ⟨(some 84), .ld false 1 (.t 83), (some (79, true))⟩,
 ⟨(some 85), .fa 1 (.t 12), (some (79, true))⟩,
 ⟨(some 86), .ld false 1 (.t 85), (some (79, true))⟩,
 ⟨(some 87), .bin .lss (.t 84) (.t 86), (some (79, true))⟩,
 oD 88 (.pick (.t 79) (.t 87) (.c (.b false))),
 oD 89 (.mv (.t 88)),
 ⟨(some 90), .fa 1 (.t 12), (some (89, true))⟩,
 ⟨(some 91), .ld false 1 (.t 90), (some (89, true))⟩,
 ⟨(some 92), .mv (.t 0), (some (89, true))⟩,
 ⟨(some 93), .mv (.t 3), (some (89, true))⟩,
 ⟨(some 94), .ixa 2 (.t 92) (.t 93), (some (89, true))⟩,
 ⟨(some 95), .fa 1 (.t 94), (some (89, true))⟩,
 ⟨(some 96), .ld false 1 (.t 95), (some (89, true))⟩,
 ⟨(some 97), .bin .lss (.t 91) (.t 96), (some (89, true))⟩,
 oD 98 (.pick (.t 89) (.t 97) (.c (.b false)))]
def Zz.r12 : List Oper := [
 oD 8 (.mv (.c (.b true)))]
def Zz.r13 : List Oper := [
 oD 99 (.fa 0 (.t 12)),
 oD 100 (.ld false 1 (.t 99)),
 oD 101 (.fa 0 (.t 13)),
 oD 102 (.ld false 1 (.t 101)),
 oD 103 (.eq false .sc (.t 100) (.t 102)),
 oD 104 (.mv (.t 103)),
 ⟨(some 105), .mv (.t 0), (some (104, true))⟩,
 ⟨(some 106), .mv (.t 2), (some (104, true))⟩,
 ⟨(some 107), .ixa 2 (.t 105) (.t 106), (some (104, true))⟩,
 ⟨(some 108), .fa 1 (.t 107), (some (104, true))⟩,
 ⟨(some 109), .ld false 1 (.t 108), (some (104, true))⟩,
 ⟨(some 110), .mv (.t 0), (some (104, true))⟩,
 ⟨(some 111), .mv (.t 3), (some (104, true))⟩,
 ⟨(some 112), .ixa 2 (.t 110) (.t 111), (some (104, true))⟩,
 ⟨(some 113), .fa 1 (.t 112), (some (104, true))⟩,
 ⟨(some 114), .ld false 1 (.t 113), (some (104, true))⟩,
 ⟨(some 115), .eq false .sc (.t 109) (.t 114), (some (104, true))⟩,
 oD 116 (.pick (.t 104) (.t 115) (.c (.b false))),
 oD 117 (.mv (.t 116)),
 ⟨(some 118), .mv (.t 0), (some (117, true))⟩,
 ⟨(some 119), .mv (.t 2), (some (117, true))⟩,
 ⟨(some 120), .ixa 2 (.t 118) (.t 119), (some (117, true))⟩,
 ⟨(some 121), .fa 0 (.t 120), (some (117, true))⟩,
 ⟨(some 122), .ld false 1 (.t 121), (some (117, true))⟩,
 ⟨(some 123), .fa 0 (.t 12), (some (117, true))⟩,
 ⟨(some 124), .ld false 1 (.t 123), (some (117, true))⟩,
 ⟨(some 125), .bin .lss (.t 122) (.t 124), (some (117, true))⟩,
 oD 126 (.pick (.t 117) (.t 125) (.c (.b false))),
 oD 127 (.mv (.t 126)),
 ⟨(some 128), .fa 0 (.t 12), (some (127, true))⟩,
 ⟨(some 129), .ld false 1 (.t 128), (some (127, true))⟩,
 ⟨(some 130), .mv (.t 0), (some (127, true))⟩,
 ⟨(some 131), .mv (.t 3), (some (127, true))⟩,
 ⟨(some 132), .ixa 2 (.t 130) (.t 131), (some (127, true))⟩,
 ⟨(some 133), .fa 0 (.t 132), (some (127, true))⟩,
 ⟨(some 134), .ld false 1 (.t 133), (some (127, true))⟩,
 ⟨(some 135), .bin .lss (.t 129) (.t 134), (some (127, true))⟩,
 oD 136 (.pick (.t 127) (.t 135) (.c (.b false))),
 oD 137 (.mv (.t 136)),
 ⟨(some 138), .fa 1 (.t 12), (some (137, true))⟩,
 ⟨(some 139), .ld false 1 (.t 138), (some (137, true))⟩,
 ⟨(some 140), .mv (.t 0), (some (137, true))⟩,
 ⟨(some 141), .mv (.t 2), (some (137, true))⟩,
 ⟨(some 142), .ixa 2 (.t 140) (.t 141), (some (137, true))⟩,
 ⟨(some 143), .fa 1 (.t 142), (some (137, true))⟩,
 ⟨(some 144), .ld false 1 (.t 143), (some (137, true))⟩,
 ⟨(some 145), .bin .lss (.t 139) (.t 144), (some (137, true))⟩,
 oD 146 (.pick (.t 137) (.t 145) (.c (.b false))),
 oD 147 (.mv (.t 146)),
 ⟨(some 148), .mv (.t 0), (some (147, true))⟩,
 ⟨(some 149), .mv (.t 2), (some (147, true))⟩,
 ⟨(some 150), .ixa 2 (.t 148) (.t 149), (some (147, true))⟩,
 ⟨(some 151), .fa 1 (.t 150), (some (147, true))⟩,
 ⟨(some 152), .ld false 1 (.t 151), (some (147, true))⟩,
 ⟨(some 153), .fa 1 (.t 13), (some (147, true))⟩,
 ⟨(some 154), .ld false 1 (.t 153), (some (147, true))⟩,
 ⟨(some 155), .bin .lss (.t 152) (.t 154), (some (147, true))⟩,
 oD 156 (.pick (.t 147) (.t 155) (.c (.b false)))]
def Zz.r14 : List Oper := [
 oD 8 (.mv (.c (.b true)))]
def Zz.r6 : List Oper := [
 oD 22 (.mv (.t 10)),
 oD 23 (.bin .add (.t 22) (.c (.i .i64 1))),
 oD 10 (.mv (.t 23))]
def Zz.l0 : Code := .seq (.seq (.region Zz.r5) (.cond (.t 21) (.skip) (.exit 2))) (.seq (.block 3 (.seq (.region Zz.r7) (.seq (.seq (.region Zz.r8) (.cond (.t 32) (.exit 3) (.skip))) (.seq (.region Zz.r9) (.seq (.region Zz.r10) (.seq (.seq (.draw Zz.r11 [(1, 3), (10, 15), (20, 25), (33, 35), (43, 45), (50, 55)]) (.cond (.t 98) (.seq (.region Zz.r12) (.ret)) (.skip))) (.seq (.draw Zz.r13 [(1, 3), (10, 15), (23, 25), (30, 35), (40, 45), (53, 55)]) (.cond (.t 156) (.seq (.region Zz.r14) (.ret)) (.skip))))))))) (.region Zz.r6))
def Zz.r3 : List Oper := [
 oD 18 (.mv (.t 9)),
 oD 19 (.bin .add (.t 18) (.c (.i .i64 1))),
 oD 9 (.mv (.t 19))]
def Zz.l1 : Code := .seq (.seq (.region Zz.r2) (.cond (.t 17) (.skip) (.exit 0))) (.seq (.block 1 (.seq (.region Zz.r4) (.block 2 (.loop Zz.l0)))) (.region Zz.r3))
def Zz.r15 : List Oper := [
 oD 8 (.mv (.c (.b false)))]
def Zz.code : Code := .seq (.region Zz.r0) (.seq (.seq (.region Zz.r1) (.block 0 (.loop Zz.l1))) (.seq (.region Zz.r15) (.ret)))
def Zz : Func := ⟨157, [.t 8], Zz.code⟩
/-! muntin/muntinref10.with -/
def ZA.r0 : List Oper := [
 oD 10 (.mv (.c (.sn)))]
def ZA.r1 : List Oper := [
 oD 11 (.mv (.c (.sn)))]
def ZA.r2 : List Oper := [
 oD 12 (.mv (.c (.i .i64 0)))]
def ZA.r3 : List Oper := [
 oD 14 (.mv (.t 12)),
 oD 15 (.mv (.t 0)),
 oD 16 (.len (.t 15)),
 oD 17 (.bin .lss (.t 14) (.t 16))]
def ZA.r5 : List Oper := [
 oD 20 (.mv (.t 0)),
 oD 21 (.mv (.t 12)),
 oD 22 (.ixa 8 (.t 20) (.t 21)),
 oD 23 (.ld true 8 (.t 22)),
 oD 13 (.alloc [.i .i64 0, .i .i64 0, .i .i64 0, .i .i64 0, .i .i64 0, .i .i64 0, .i .i64 0, .i .i64 0]),
 oN (.st 8 (.t 13) (.t 23))]
def ZA.r6 : List Oper := [
 oD 24 (.mv (.t 12)),
 oD 25 (.mv (.t 1)),
 oD 26 (.eq false .sc (.t 24) (.t 25))]
def ZA.r7 : List Oper := [
 oD 27 (.mv (.t 2)),
 oD 28 (.mv (.t 3)),
 oD 29 (.fa 0 (.t 13)),
 oD 30 (.ixaa 1 4 (.t 29) (.t 27)),
 oN (.st 1 (.t 30) (.t 28))]
def ZA.r8 : List Oper := [
 oD 31 (.mv (.t 2)),
 oD 32 (.mv (.t 4)),
 oD 33 (.fa 4 (.t 13)),
 oD 34 (.ixaa 1 4 (.t 33) (.t 31)),
 oN (.st 1 (.t 34) (.t 32))]
def ZA.r9 : List Oper := [
 oD 35 (.mv (.t 12)),
 oD 36 (.mv (.t 3)),
 oD 37 (.eq false .sc (.t 35) (.t 36))]
def ZA.r10 : List Oper := [
 oD 38 (.mv (.t 2)),
 oD 39 (.bin .add (.t 38) (.c (.i .i64 2))),
 oD 40 (.bin .rem (.t 39) (.c (.i .i64 4))),
 oD 41 (.mv (.t 1)),
 oD 42 (.fa 0 (.t 13)),
 oD 43 (.ixaa 1 4 (.t 42) (.t 40)),
 oN (.st 1 (.t 43) (.t 41))]
def ZA.r11 : List Oper := [
 oD 44 (.mv (.t 2)),
 oD 45 (.bin .add (.t 44) (.c (.i .i64 2))),
 oD 46 (.bin .rem (.t 45) (.c (.i .i64 4))),
 oD 47 (.mv (.t 4)),
 oD 48 (.fa 4 (.t 13)),
 oD 49 (.ixaa 1 4 (.t 48) (.t 46)),
 oN (.st 1 (.t 49) (.t 47))]
def ZA.r12 : List Oper := [
 oD 50 (.mv (.t 11)),
 oD 51 (.ld true 8 (.t 13)),
 oD 52 (.bsl 8 1 [.i .i64 0, .i .i64 0, .i .i64 0, .i .i64 0, .i .i64 0, .i .i64 0, .i .i64 0, .i .i64 0] [(0, 8, .t 51)]),
 oD 53 (.app 8 64 (.t 50) (.t 52)),
 oD 11 (.mv (.t 53))]
def ZA.r4 : List Oper := [
 oD 18 (.mv (.t 12)),
 oD 19 (.bin .add (.t 18) (.c (.i .i64 1))),
 oD 12 (.mv (.t 19))]
def ZA.l0 : Code := .seq (.seq (.region ZA.r3) (.cond (.t 17) (.skip) (.exit 0))) (.seq (.block 1 (.seq (.region ZA.r5) (.seq (.seq (.region ZA.r6) (.cond (.t 26) (.seq (.region ZA.r7) (.region ZA.r8)) (.skip))) (.seq (.seq (.region ZA.r9) (.cond (.t 37) (.seq (.region ZA.r10) (.region ZA.r11)) (.skip))) (.region ZA.r12))))) (.region ZA.r4))
def ZA.r13 : List Oper := [
 oD 54 (.mv (.t 11)),
 oD 10 (.mv (.t 54))]
def ZA.code : Code := .seq (.region ZA.r0) (.seq (.region ZA.r1) (.seq (.seq (.region ZA.r2) (.block 0 (.loop ZA.l0))) (.seq (.region ZA.r13) (.ret))))
def ZA : Func := ⟨55, [.t 10], ZA.code⟩
/-! muntin/grid.Check -/
def za.r0 : List Oper := [
 oD 2 (.mv (.c (.i .i64 0)))]
def za.r1 : List Oper := [
 oD 6 (.mv (.t 0)),
 oD 7 (.len (.t 6)),
 oD 8 (.bin .gtr (.t 7) (.c (.i .i64 4096)))]
def za.r2 : List Oper := [
 oD 2 (.mv (.c (.i .i64 6)))]
def za.r3 : List Oper := [
 oD 9 (.mv (.t 0)),
 oD 10 (.len (.t 9)),
 oD 11 (.mv (.c (.i .i64 0)))]
def za.r4 : List Oper := [
 oD 12 (.bin .lss (.t 11) (.t 10))]
def za.r5 : List Oper := [
 oD 13 (.mv (.t 11)),
 oD 3 (.mv (.t 13))]
def za.r6 : List Oper := [
 oD 14 (.mv (.c (.i .i64 0)))]
def za.r7 : List Oper := [
 oD 15 (.bin .lss (.t 14) (.c (.i .i64 4)))]
def za.r8 : List Oper := [
 oD 16 (.mv (.t 14)),
 oD 4 (.mv (.t 16))]
def za.r9 : List Oper := [
 oD 17 (.mv (.t 0)),
 oD 18 (.mv (.t 3)),
 oD 19 (.mv (.t 4)),
 oD 20 (.call (.c (.f 82 [])) [.t 17, .t 18, .t 19]),
 oD 5 (.mv (.t 20))]
def za.r10 : List Oper := [
 oD 21 (.mv (.t 5)),
 oD 22 (.eq true .sc (.t 21) (.c (.i .i64 0)))]
def za.r11 : List Oper := [
 oD 23 (.mv (.t 5)),
 oD 2 (.mv (.t 23))]
def za.r12 : List Oper := [
 oD 24 (.bin .add (.t 14) (.c (.i .i64 1))),
 oD 14 (.mv (.t 24))]
def za.l0 : Code := .seq (.region za.r7) (.seq (.cond (.t 15) (.skip) (.exit 2)) (.seq (.block 3 (.seq (.region za.r8) (.seq (.region za.r9) (.seq (.region za.r10) (.cond (.t 22) (.seq (.region za.r11) (.ret)) (.skip)))))) (.region za.r12)))
def za.r13 : List Oper := [
 oD 25 (.bin .add (.t 11) (.c (.i .i64 1))),
 oD 11 (.mv (.t 25))]
def za.l1 : Code := .seq (.region za.r4) (.seq (.cond (.t 12) (.skip) (.exit 0)) (.seq (.block 1 (.seq (.region za.r5) (.seq (.region za.r6) (.block 2 (.loop za.l0))))) (.region za.r13)))
def za.r14 : List Oper := [
 oD 2 (.mv (.c (.i .i64 0)))]
def za.code : Code := .seq (.region za.r0) (.seq (.seq (.region za.r1) (.cond (.t 8) (.seq (.region za.r2) (.ret)) (.skip))) (.seq (.seq (.region za.r3) (.block 0 (.loop za.l1))) (.seq (.region za.r14) (.ret))))
def za : Func := ⟨26, [.t 2], za.code⟩
/-! muntin/join.spread -/
def ZM.r0 : List Oper := [
 oD 4 (.mv (.c (.sn))),
 oD 5 (.mv (.c (.sn)))]
def ZM.r1 : List Oper := [
 oD 13 (.bsl 1 1 [.i .i64 0] [(0, 1, .c (.i .i64 (-1)))]),
 oD 14 (.mv (.t 0)),
 oD 15 (.len (.t 14)),
 oD 16 (.call (.c (.f 83 [])) [.t 13, .t 15]),
 oD 17 (.bsl 1 1 [.i .i64 0] [(0, 1, .c (.i .i64 (-1)))]),
 oD 18 (.mv (.t 0)),
 oD 19 (.len (.t 18)),
 oD 20 (.call (.c (.f 83 [])) [.t 17, .t 19]),
 oD 6 (.mv (.t 16)),
 oD 7 (.mv (.t 20))]
def ZM.r2 : List Oper := [
 oD 21 (.mv (.t 1)),
 oD 22 (.bsl 1 1 [.i .i64 0] [(0, 1, .t 21)]),
 oD 8 (.mv (.t 22))]
def ZM.r3 : List Oper := [
 oD 23 (.mv (.t 0)),
 oD 24 (.len (.t 23)),
 oD 25 (.mks 1 1 [.b false] (.t 24) (.t 24)),
 oD 9 (.mv (.t 25))]
def ZM.r4 : List Oper := [
 oD 26 (.mv (.t 9)),
 oD 27 (.mv (.t 1)),
 oD 28 (.ixa 1 (.t 26) (.t 27)),
 oN (.st 1 (.t 28) (.c (.b true)))]
def ZM.r5 : List Oper := [
 oD 29 (.mv (.t 8)),
 oD 30 (.len (.t 29)),
 oD 31 (.bin .gtr (.t 30) (.c (.i .i64 0)))]
def ZM.r6 : List Oper := [
 oD 32 (.mv (.t 8)),
 oD 33 (.ixa 1 (.t 32) (.c (.i .i64 0))),
 oD 34 (.ld false 1 (.t 33)),
 oD 10 (.mv (.t 34))]
def ZM.r7 : List Oper := [
 oD 35 (.mv (.t 8)),
 oD 36 (.slc 1 (.t 35) (some (.c (.i .i64 1))) none none),
 oD 8 (.mv (.t 36))]
def ZM.r8 : List Oper := [
 oD 37 (.mv (.c (.i .i64 0)))]
def ZM.r9 : List Oper := [
 oD 38 (.bin .lss (.t 37) (.c (.i .i64 4)))]
def ZM.r10 : List Oper := [
 oD 39 (.mv (.t 37)),
 oD 11 (.mv (.t 39))]
def ZM.r11 : List Oper := [
 oD 40 (.mv (.t 0)),
 oD 41 (.mv (.t 10)),
 oD 42 (.mv (.t 11)),
 oD 43 (.ixa 8 (.t 40) (.t 41)),
 oD 44 (.fa 0 (.t 43)),
 oD 45 (.ixaa 1 4 (.t 44) (.t 42)),
 oD 46 (.ld false 1 (.t 45)),
 oD 12 (.mv (.t 46))]
def ZM.r12 : List Oper := [
 oD 47 (.mv (.t 12)),
 oD 48 (.bin .geq (.t 47) (.c (.i .i64 0))),
 oD 49 (.mv (.t 48)),
 ⟨(some 50), .mv (.t 9), (some (49, true))⟩,
 ⟨(some 51), .mv (.t 12), (some (49, true))⟩,
 ⟨(some 52), .ixa 1 (.t 50) (.t 51), (some (49, true))⟩,
 ⟨(some 53), .ld false 1 (.t 52), (some (49, true))⟩,
 ⟨(some 54), .un .not (.t 53), (some (49, true))⟩,
 oD 55 (.pick (.t 49) (.t 54) (.c (.b false)))]
def ZM.r13 : List Oper := [
 oD 56 (.mv (.t 9)),
 oD 57 (.mv (.t 12)),
 oD 58 (.mv (.t 6)),
 oD 59 (.mv (.t 12)),
 oD 60 (.mv (.t 7)),
 oD 61 (.mv (.t 12)),
 oD 62 (.mv (.t 10)),
 oD 63 (.mv (.t 11)),
 oD 64 (.ixa 1 (.t 56) (.t 57)),
 oN (.st 1 (.t 64) (.c (.b true))),
 oD 65 (.ixa 1 (.t 58) (.t 59)),
 oN (.st 1 (.t 65) (.t 62)),
 oD 66 (.ixa 1 (.t 60) (.t 61)),
 oN (.st 1 (.t 66) (.t 63))]
def ZM.r14 : List Oper := [
 oD 67 (.mv (.t 8)),
 oD 68 (.mv (.t 12)),
 oD 69 (.bsl 1 1 [.i .i64 0] [(0, 1, .t 68)]),
 oD 70 (.app 1 8 (.t 67) (.t 69)),
 oD 8 (.mv (.t 70))]
def ZM.r15 : List Oper := [
 oD 71 (.bin .add (.t 37) (.c (.i .i64 1))),
 oD 37 (.mv (.t 71))]
def ZM.l0 : Code := .seq (.region ZM.r9) (.seq (.cond (.t 38) (.skip) (.exit 2)) (.seq (.block 3 (.seq (.region ZM.r10) (.seq (.region ZM.r11) (.seq (.region ZM.r12) (.cond (.t 55) (.seq (.region ZM.r13) (.region ZM.r14)) (.skip)))))) (.region ZM.r15)))
def ZM.l1 : Code := .seq (.seq (.region ZM.r5) (.cond (.t 31) (.skip) (.exit 0))) (.block 1 (.seq (.region ZM.r6) (.seq (.region ZM.r7) (.seq (.region ZM.r8) (.block 2 (.loop ZM.l0))))))
def ZM.r16 : List Oper := [
 oD 72 (.mv (.t 6)),
 oD 73 (.mv (.t 7)),
 oD 4 (.mv (.t 72)),
 oD 5 (.mv (.t 73))]
def ZM.code : Code := .seq (.region ZM.r0) (.seq (.region ZM.r1) (.seq (.region ZM.r2) (.seq (.region ZM.r3) (.seq (.region ZM.r4) (.seq (.block 0 (.loop ZM.l1)) (.seq (.region ZM.r16) (.ret)))))))
def ZM : Func := ⟨74, [.t 4, .t 5], ZM.code⟩
/-! muntin/compass.Left -/
def zW.r0 : List Oper := [
 oD 4 (.mv (.c (.i .i64 0)))]
def zW.r1 : List Oper := [
 oD 5 (.mv (.t 0)),
 oD 6 (.call (.c (.f 90 [])) [.t 5]),
 oD 7 (.un .not (.t 6))]
def zW.r2 : List Oper := [
 oD 4 (.mv (.c (.i .i64 0)))]
def zW.r3 : List Oper := [
 oD 8 (.mv (.t 0)),
 oD 9 (.mv (.t 1)),
 oD 10 (.bin .rem (.t 9) (.c (.i .i64 4))),
 oD 11 (.bin .add (.t 8) (.t 10)),
 oD 12 (.bin .add (.t 11) (.c (.i .i64 4))),
 oD 13 (.bin .rem (.t 12) (.c (.i .i64 4))),
 oD 4 (.mv (.t 13))]
def zW.code : Code := .seq (.region zW.r0) (.seq (.seq (.region zW.r1) (.cond (.t 7) (.seq (.region zW.r2) (.ret)) (.skip))) (.seq (.region zW.r3) (.ret)))
def zW : Func := ⟨14, [.t 4], zW.code⟩
/-! slices.ContainsFunc[[]int,int] -/
def zI.r0 : List Oper := [
 oD 4 (.mv (.c (.b false)))]
def zI.r1 : List Oper := [
 oD 5 (.mv (.t 0)),
 oD 6 (.mv (.t 1)),
 oD 7 (.call (.c (.f 91 [])) [.t 5, .t 6]),
 oD 8 (.bin .geq (.t 7) (.c (.i .i64 0))),
 oD 4 (.mv (.t 8))]
def zI.code : Code := .seq (.region zI.r0) (.seq (.region zI.r1) (.ret))
def zI : Func := ⟨9, [.t 4], zI.code⟩
/-! muntin/kitty.right$1 -/
def Zam.r0 : List Oper := [
 oD 2 (.mv (.c (.b false)))]
def Zam.r1 : List Oper := [
 oD 3 (.mv (.t 0)),
 oD 4 (.bin .lss (.t 3) (.c (.i .i64 (-2)))),
 oD 5 (.mv (.t 4)),
 ⟨(some 6), .mv (.t 0), (some (5, false))⟩,
 ⟨(some 7), .bin .gtr (.t 6) (.c (.i .i64 1)), (some (5, false))⟩,
 oD 8 (.pick (.t 5) (.c (.b true)) (.t 7)),
 oD 2 (.mv (.t 8))]
def Zam.code : Code := .seq (.region Zam.r0) (.seq (.region Zam.r1) (.ret))
def Zam : Func := ⟨9, [.t 2], Zam.code⟩
/-! slices.Index[[]muntin/kitty.Corner,muntin/kitty.Corner] -/
def Z9.r0 : List Oper := [
 oD 3 (.box (.t 1)),
 oD 4 (.mv (.c (.i .i64 0)))]
def Z9.r1 : List Oper := [
 oD 6 (.mv (.t 0)),
 oD 7 (.len (.t 6)),
 oD 8 (.mv (.c (.i .i64 0)))]
def Z9.r2 : List Oper := [
 oD 9 (.bin .lss (.t 8) (.t 7))]
def Z9.r3 : List Oper := [
 oD 10 (.mv (.t 8)),
 oD 5 (.mv (.t 10))]
def Z9.r4 : List Oper := [
 oD 11 (.ld true 2 (.t 3)),
 oD 12 (.mv (.t 0)),
 oD 13 (.mv (.t 5)),
 oD 14 (.ixa 2 (.t 12) (.t 13)),
 oD 15 (.ld true 2 (.t 14)),
 oD 16 (.eq false (.fl [.i, .i]) (.t 11) (.t 15))]
def Z9.r5 : List Oper := [
 oD 17 (.mv (.t 5)),
 oD 4 (.mv (.t 17))]
def Z9.r6 : List Oper := [
 oD 18 (.bin .add (.t 8) (.c (.i .i64 1))),
 oD 8 (.mv (.t 18))]
def Z9.l0 : Code := .seq (.region Z9.r2) (.seq (.cond (.t 9) (.skip) (.exit 0)) (.seq (.block 1 (.seq (.region Z9.r3) (.seq (.draw Z9.r4 [(0, 4)]) (.cond (.t 16) (.seq (.region Z9.r5) (.ret)) (.skip))))) (.region Z9.r6)))
def Z9.r7 : List Oper := [
 oD 4 (.mv (.c (.i .i64 (-1))))]
def Z9.code : Code := .seq (.region Z9.r0) (.seq (.seq (.region Z9.r1) (.block 0 (.loop Z9.l0))) (.seq (.region Z9.r7) (.ret)))
def Z9 : Func := ⟨19, [.t 4], Z9.code⟩
/-! muntin/grid.side -/
def z6.r0 : List Oper := [
 oD 6 (.mv (.c (.i .i64 0)))]
def z6.r1 : List Oper := [
 oD 10 (.mv (.t 0)),
 oD 11 (.mv (.t 1)),
 oD 12 (.mv (.t 2)),
 oD 13 (.ixa 8 (.t 10) (.t 11)),
 oD 14 (.fa 0 (.t 13)),
 oD 15 (.ixaa 1 4 (.t 14) (.t 12)),
 oD 16 (.ld false 1 (.t 15)),
 oD 17 (.mv (.t 0)),
 oD 18 (.mv (.t 1)),
 oD 19 (.mv (.t 2)),
 oD 20 (.ixa 8 (.t 17) (.t 18)),
 oD 21 (.fa 4 (.t 20)),
 oD 22 (.ixaa 1 4 (.t 21) (.t 19)),
 oD 23 (.ld false 1 (.t 22)),
 oD 7 (.mv (.t 16)),
 oD 8 (.mv (.t 23))]
def z6.r2 : List Oper := [
 oD 24 (.mv (.t 7)),
 oD 25 (.eq false .sc (.t 24) (.c (.i .i64 (-1))))]
def z6.r3 : List Oper := [
 oD 26 (.mv (.t 8)),
 oD 27 (.eq true .sc (.t 26) (.c (.i .i64 0)))]
def z6.r4 : List Oper := [
 oD 6 (.mv (.c (.i .i64 9)))]
def z6.r5 : List Oper := [
 oD 6 (.mv (.c (.i .i64 0)))]
def z6.r6 : List Oper := [
 oD 28 (.mv (.t 7)),
 oD 29 (.bin .lss (.t 28) (.c (.i .i64 0))),
 oD 30 (.mv (.t 29)),
 ⟨(some 31), .mv (.t 7), (some (30, false))⟩,
 ⟨(some 32), .mv (.t 0), (some (30, false))⟩,
 ⟨(some 33), .len (.t 32), (some (30, false))⟩,
 ⟨(some 34), .bin .geq (.t 31) (.t 33), (some (30, false))⟩,
 oD 35 (.pick (.t 30) (.c (.b true)) (.t 34)),
 oD 36 (.mv (.t 35)),
 ⟨(some 37), .mv (.t 7), (some (36, false))⟩,
 ⟨(some 38), .mv (.t 1), (some (36, false))⟩,
 ⟨(some 39), .eq false .sc (.t 37) (.t 38), (some (36, false))⟩,
 oD 40 (.pick (.t 36) (.c (.b true)) (.t 39))]
def z6.r7 : List Oper := [
 oD 6 (.mv (.c (.i .i64 3)))]
def z6.r8 : List Oper := [
 oD 41 (.mv (.t 2)),
 oD 42 (.call (.c (.f 77 [])) [.t 41, .c (.i .i64 2)]),
 oD 9 (.mv (.t 42))]
def z6.r9 : List Oper := [
 oD 43 (.mv (.t 0)),
 oD 44 (.mv (.t 7)),
 oD 45 (.mv (.t 9)),
 oD 46 (.ixa 8 (.t 43) (.t 44)),
 oD 47 (.fa 0 (.t 46)),
 oD 48 (.ixaa 1 4 (.t 47) (.t 45)),
 oD 49 (.ld false 1 (.t 48)),
 oD 50 (.mv (.t 1)),
 oD 51 (.eq true .sc (.t 49) (.t 50)),
 oD 52 (.mv (.t 51)),
 ⟨(some 53), .mv (.t 0), (some (52, false))⟩,
 ⟨(some 54), .mv (.t 7), (some (52, false))⟩,
 ⟨(some 55), .mv (.t 9), (some (52, false))⟩,
 ⟨(some 56), .ixa 8 (.t 53) (.t 54), (some (52, false))⟩,
 ⟨(some 57), .fa 4 (.t 56), (some (52, false))⟩,
 ⟨(some 58), .ixaa 1 4 (.t 57) (.t 55), (some (52, false))⟩,
 ⟨(some 59), .ld false 1 (.t 58), (some (52, false))⟩,
 ⟨(some 60), .mv (.t 8), (some (52, false))⟩,
 ⟨(some 61), .eq true .sc (.t 59) (.t 60), (some (52, false))⟩,
 oD 62 (.pick (.t 52) (.c (.b true)) (.t 61)),
 oD 63 (.mv (.t 62)),
 ⟨(some 64), .mv (.t 8), (some (63, false))⟩,
 ⟨(some 65), .bin .lss (.t 64) (.c (.i .i64 (-2))), (some (63, false))⟩,
 oD 66 (.pick (.t 63) (.c (.b true)) (.t 65))]
def z6.r10 : List Oper := [
 oD 6 (.mv (.c (.i .i64 9)))]
def z6.r11 : List Oper := [
 oD 6 (.mv (.c (.i .i64 0)))]
def z6.code : Code := .seq (.region z6.r0) (.seq (.draw z6.r1 [(6, 13)]) (.seq (.seq (.region z6.r2) (.cond (.t 25) (.seq (.seq (.region z6.r3) (.cond (.t 27) (.seq (.region z6.r4) (.ret)) (.skip))) (.seq (.region z6.r5) (.ret))) (.skip))) (.seq (.seq (.region z6.r6) (.cond (.t 40) (.seq (.region z6.r7) (.ret)) (.skip))) (.seq (.region z6.r8) (.seq (.seq (.region z6.r9) (.cond (.t 66) (.seq (.region z6.r10) (.ret)) (.skip))) (.seq (.region z6.r11) (.ret)))))))
def z6 : Func := ⟨67, [.t 6], z6.code⟩
/-! slices.Repeat[[]int,int] -/
def ZH.r0 : List Oper := [
 oD 4 (.mv (.c (.sn)))]
def ZH.r1 : List Oper := [
 oD 9 (.mv (.t 1)),
 oD 10 (.bin .lss (.t 9) (.c (.i .i64 0)))]
def ZH.r2 : List Oper := [
 oD 11 (.bad),
 oN (.bad)]
def ZH.r3 : List Oper := [
 oD 13 (.mv (.t 0)),
 oD 14 (.len (.t 13)),
 oD 15 (.conv .u64 (.t 14)),
 oD 16 (.mv (.t 1)),
 oD 17 (.conv .u64 (.t 16)),
 oD 18 (.call (.c (.f 89 [])) [.t 15, .t 17]),
 oD 12 (.mv (.t 18)),
 oD 19 (.ext (.t 12) 0),
 oD 20 (.ext (.t 12) 1),
 oD 5 (.mv (.t 19)),
 oD 6 (.mv (.t 20))]
def ZH.r4 : List Oper := [
 oD 21 (.mv (.t 5)),
 oD 22 (.bin .gtr (.t 21) (.c (.i .u64 0))),
 oD 23 (.mv (.t 22)),
 ⟨(some 24), .mv (.t 6), (some (23, false))⟩,
 ⟨(some 25), .bin .gtr (.t 24) (.c (.i .u64 9223372036854775807)), (some (23, false))⟩,
 oD 26 (.pick (.t 23) (.c (.b true)) (.t 25))]
def ZH.r5 : List Oper := [
 oD 27 (.bad),
 oN (.bad)]
def ZH.r6 : List Oper := [
 oD 28 (.mv (.t 6)),
 oD 29 (.conv .i64 (.t 28)),
 oD 30 (.mks 1 8 [.i .i64 0] (.t 29) (.t 29)),
 oD 7 (.mv (.t 30))]
def ZH.r7 : List Oper := [
 oD 31 (.mv (.t 7)),
 oD 32 (.mv (.t 0)),
 oD 33 (.cpy 1 (.t 31) (.t 32)),
 oD 8 (.mv (.t 33))]
def ZH.r8 : List Oper := [
 oD 34 (.mv (.t 8)),
 oD 35 (.mv (.t 7)),
 oD 36 (.len (.t 35)),
 oD 37 (.bin .lss (.t 34) (.t 36))]
def ZH.r9 : List Oper := [
 oD 38 (.mv (.t 8)),
 oD 39 (.mv (.t 7)),
 oD 40 (.mv (.t 8)),
 oD 41 (.slc 1 (.t 39) (some (.t 40)) none none),
 oD 42 (.mv (.t 7)),
 oD 43 (.mv (.t 8)),
 oD 44 (.slc 1 (.t 42) none (some (.t 43)) none),
 oD 45 (.cpy 1 (.t 41) (.t 44)),
 oD 46 (.bin .add (.t 38) (.t 45)),
 oD 8 (.mv (.t 46))]
def ZH.l0 : Code := .seq (.seq (.region ZH.r8) (.cond (.t 37) (.skip) (.exit 0))) (.block 1 (.draw ZH.r9 []))
def ZH.r10 : List Oper := [
 oD 47 (.mv (.t 7)),
 oD 4 (.mv (.t 47))]
def ZH.code : Code := .seq (.region ZH.r0) (.seq (.seq (.region ZH.r1) (.cond (.t 10) (.region ZH.r2) (.skip))) (.seq (.region ZH.r3) (.seq (.seq (.region ZH.r4) (.cond (.t 26) (.region ZH.r5) (.skip))) (.seq (.region ZH.r6) (.seq (.region ZH.r7) (.seq (.block 0 (.loop ZH.l0)) (.seq (.region ZH.r10) (.ret))))))))
def ZH : Func := ⟨48, [.t 4], ZH.code⟩
/-! math/bits.Mul -/
def Zap.r0 : List Oper := [
 oD 4 (.mv (.c (.i .u64 0))),
 oD 5 (.mv (.c (.i .u64 0)))]
def Zap.r1 : List Oper := [
 oD 11 (.mv (.t 0)),
 oD 12 (.conv .u32 (.t 11)),
 oD 13 (.mv (.t 1)),
 oD 14 (.conv .u32 (.t 13)),
 oD 15 (.call (.c (.f 97 [])) [.t 12, .t 14]),
 oD 10 (.mv (.t 15)),
 oD 16 (.ext (.t 10) 0),
 oD 17 (.ext (.t 10) 1),
 oD 6 (.mv (.t 16)),
 oD 7 (.mv (.t 17))]
def Zap.r2 : List Oper := [
 oD 18 (.mv (.t 6)),
 oD 19 (.conv .u64 (.t 18)),
 oD 20 (.mv (.t 7)),
 oD 21 (.conv .u64 (.t 20)),
 oD 4 (.mv (.t 19)),
 oD 5 (.mv (.t 21))]
def Zap.r3 : List Oper := [
 oD 23 (.mv (.t 0)),
 oD 24 (.mv (.t 1)),
 oD 25 (.call (.c (.f 98 [])) [.t 23, .t 24]),
 oD 22 (.mv (.t 25)),
 oD 26 (.ext (.t 22) 0),
 oD 27 (.ext (.t 22) 1),
 oD 8 (.mv (.t 26)),
 oD 9 (.mv (.t 27))]
def Zap.r4 : List Oper := [
 oD 28 (.mv (.t 8)),
 oD 29 (.mv (.t 9)),
 oD 4 (.mv (.t 28)),
 oD 5 (.mv (.t 29))]
def Zap.code : Code := .seq (.region Zap.r0) (.seq (.cond (.c (.b false)) (.seq (.region Zap.r1) (.seq (.region Zap.r2) (.ret))) (.skip)) (.seq (.region Zap.r3) (.seq (.region Zap.r4) (.ret))))
def Zap : Func := ⟨30, [.t 4, .t 5], Zap.code⟩
/-! muntin/compass.Good -/
def Zau.r0 : List Oper := [
 oD 2 (.mv (.c (.b false)))]
def Zau.r1 : List Oper := [
 oD 3 (.mv (.t 0)),
 oD 4 (.bin .geq (.t 3) (.c (.i .i64 0))),
 oD 5 (.mv (.t 4)),
 ⟨(some 6), .mv (.t 0), (some (5, true))⟩,
 ⟨(some 7), .bin .leq (.t 6) (.c (.i .i64 3)), (some (5, true))⟩,
 oD 8 (.pick (.t 5) (.t 7) (.c (.b false))),
 oD 2 (.mv (.t 8))]
def Zau.code : Code := .seq (.region Zau.r0) (.seq (.region Zau.r1) (.ret))
def Zau : Func := ⟨9, [.t 2], Zau.code⟩
/-! slices.IndexFunc[[]int,int] -/
def ZQ.r0 : List Oper := [
 oD 4 (.mv (.c (.i .i64 0)))]
def ZQ.r1 : List Oper := [
 oD 6 (.mv (.t 0)),
 oD 7 (.len (.t 6)),
 oD 8 (.mv (.c (.i .i64 0)))]
def ZQ.r2 : List Oper := [
 oD 9 (.bin .lss (.t 8) (.t 7))]
def ZQ.r3 : List Oper := [
 oD 10 (.mv (.t 8)),
 oD 5 (.mv (.t 10))]
def ZQ.r4 : List Oper := [
 oD 11 (.mv (.t 1)),
 oD 12 (.mv (.t 0)),
 oD 13 (.mv (.t 5)),
 oD 14 (.ixa 1 (.t 12) (.t 13)),
 oD 15 (.ld false 1 (.t 14)),
 oD 16 (.call (.t 11) [.t 15])]
def ZQ.r5 : List Oper := [
 oD 17 (.mv (.t 5)),
 oD 4 (.mv (.t 17))]
def ZQ.r6 : List Oper := [
 oD 18 (.bin .add (.t 8) (.c (.i .i64 1))),
 oD 8 (.mv (.t 18))]
def ZQ.l0 : Code := .seq (.region ZQ.r2) (.seq (.cond (.t 9) (.skip) (.exit 0)) (.seq (.block 1 (.seq (.region ZQ.r3) (.seq (.region ZQ.r4) (.cond (.t 16) (.seq (.region ZQ.r5) (.ret)) (.skip))))) (.region ZQ.r6)))
def ZQ.r7 : List Oper := [
 oD 4 (.mv (.c (.i .i64 (-1))))]
def ZQ.code : Code := .seq (.region ZQ.r0) (.seq (.seq (.region ZQ.r1) (.block 0 (.loop ZQ.l0))) (.seq (.region ZQ.r7) (.ret)))
def ZQ : Func := ⟨19, [.t 4], ZQ.code⟩
/-! math/bits.Mul32 -/
def Zat.r0 : List Oper := [
 oD 4 (.mv (.c (.i .u32 0))),
 oD 5 (.mv (.c (.i .u32 0)))]
def Zat.r1 : List Oper := [
 oD 7 (.mv (.t 0)),
 oD 8 (.conv .u64 (.t 7)),
 oD 9 (.mv (.t 1)),
 oD 10 (.conv .u64 (.t 9)),
 oD 11 (.bin .mul (.t 8) (.t 10)),
 oD 6 (.mv (.t 11))]
def Zat.r2 : List Oper := [
 oD 12 (.mv (.t 6)),
 oD 13 (.bin .shr (.t 12) (.c (.i .u64 32))),
 oD 14 (.conv .u32 (.t 13)),
 oD 15 (.mv (.t 6)),
 oD 16 (.conv .u32 (.t 15)),
 oD 4 (.mv (.t 14)),
 oD 5 (.mv (.t 16))]
def Zat.code : Code := .seq (.region Zat.r0) (.seq (.region Zat.r1) (.seq (.region Zat.r2) (.ret)))
def Zat : Func := ⟨17, [.t 4, .t 5], Zat.code⟩
/-! math/bits.Mul64 -/
def zo.r0 : List Oper := [
 oD 4 (.mv (.c (.i .u64 0))),
 oD 5 (.mv (.c (.i .u64 0)))]
def zo.r1 : List Oper := [
 oD 14 (.mv (.t 0)),
 oD 15 (.bin .and (.t 14) (.c (.i .u64 4294967295))),
 oD 6 (.mv (.t 15))]
def zo.r2 : List Oper := [
 oD 16 (.mv (.t 0)),
 oD 17 (.bin .shr (.t 16) (.c (.i .u64 32))),
 oD 7 (.mv (.t 17))]
def zo.r3 : List Oper := [
 oD 18 (.mv (.t 1)),
 oD 19 (.bin .and (.t 18) (.c (.i .u64 4294967295))),
 oD 8 (.mv (.t 19))]
def zo.r4 : List Oper := [
 oD 20 (.mv (.t 1)),
 oD 21 (.bin .shr (.t 20) (.c (.i .u64 32))),
 oD 9 (.mv (.t 21))]
def zo.r5 : List Oper := [
 oD 22 (.mv (.t 6)),
 oD 23 (.mv (.t 8)),
 oD 24 (.bin .mul (.t 22) (.t 23)),
 oD 10 (.mv (.t 24))]
def zo.r6 : List Oper := [
 oD 25 (.mv (.t 7)),
 oD 26 (.mv (.t 8)),
 oD 27 (.bin .mul (.t 25) (.t 26)),
 oD 28 (.mv (.t 10)),
 oD 29 (.bin .shr (.t 28) (.c (.i .u64 32))),
 oD 30 (.bin .add (.t 27) (.t 29)),
 oD 11 (.mv (.t 30))]
def zo.r7 : List Oper := [
 oD 31 (.mv (.t 11)),
 oD 32 (.bin .and (.t 31) (.c (.i .u64 4294967295))),
 oD 12 (.mv (.t 32))]
def zo.r8 : List Oper := [
 oD 33 (.mv (.t 11)),
 oD 34 (.bin .shr (.t 33) (.c (.i .u64 32))),
 oD 13 (.mv (.t 34))]
def zo.r9 : List Oper := [
 oD 35 (.mv (.t 12)),
 oD 36 (.mv (.t 6)),
 oD 37 (.mv (.t 9)),
 oD 38 (.bin .mul (.t 36) (.t 37)),
 oD 39 (.bin .add (.t 35) (.t 38)),
 oD 12 (.mv (.t 39))]
def zo.r10 : List Oper := [
 oD 40 (.mv (.t 7)),
 oD 41 (.mv (.t 9)),
 oD 42 (.bin .mul (.t 40) (.t 41)),
 oD 43 (.mv (.t 13)),
 oD 44 (.bin .add (.t 42) (.t 43)),
 oD 45 (.mv (.t 12)),
 oD 46 (.bin .shr (.t 45) (.c (.i .u64 32))),
 oD 47 (.bin .add (.t 44) (.t 46)),
 oD 4 (.mv (.t 47))]
def zo.r11 : List Oper := [
 oD 48 (.mv (.t 0)),
 oD 49 (.mv (.t 1)),
 oD 50 (.bin .mul (.t 48) (.t 49)),
 oD 5 (.mv (.t 50))]
def zo.code : Code := .seq (.region zo.r0) (.seq (.region zo.r1) (.seq (.region zo.r2) (.seq (.region zo.r3) (.seq (.region zo.r4) (.seq (.region zo.r5) (.seq (.region zo.r6) (.seq (.region zo.r7) (.seq (.region zo.r8) (.seq (.region zo.r9) (.seq (.region zo.r10) (.seq (.region zo.r11) (.ret))))))))))))
def zo : Func := ⟨51, [.t 4, .t 5], zo.code⟩
/-! muntin/muntinlaw15.KittyRegular -/
def Zn.r0 : List Oper := [
 oD 2 (.box (.t 0)),
 oD 4 (.mv (.c (.b false)))]
def Zn.r1 : List Oper := [
 oD 20 (.ld true 3 (.t 2)),
 oD 21 (.call (.c (.f 28 [])) [.t 20, .c (.i .i64 16)]),
 oD 19 (.mv (.t 21)),
 oD 22 (.ext (.t 19) 0),
 oD 23 (.ext (.t 19) 1),
 oD 5 (.mv (.t 22)),
 oD 6 (.mv (.t 23))]
def Zn.r2 : List Oper := [
 oD 24 (.mv (.t 5)),
 oD 25 (.mv (.t 1)),
 oD 26 (.mv (.t 1)),
 oD 27 (.len (.t 26)),
 oD 28 (.mn [.t 27, .c (.i .i64 4)]),
 oD 29 (.slc 8 (.t 25) none (some (.t 28)) none),
 oD 30 (.bsl 1 2 [.sn] [(0, 1, .t 24), (1, 1, .t 29)]),
 oD 31 (.len (.t 30)),
 oD 32 (.mv (.c (.i .i64 0)))]
def Zn.r3 : List Oper := [
 oD 33 (.bin .lss (.t 32) (.t 31))]
def Zn.r4 : List Oper := [
 oD 34 (.ixa 1 (.t 30) (.t 32)),
 oD 35 (.ld false 1 (.t 34)),
 oD 8 (.mv (.t 35))]
def Zn.r5 : List Oper := [
 oD 37 (.mv (.t 8)),
 oD 38 (.call (.c (.f 180 [])) [.t 37]),
 oD 36 (.mv (.t 38)),
 oD 39 (.ext (.t 36) 0),
 oD 40 (.ext (.t 36) 1),
 oD 9 (.mv (.t 39)),
 oD 10 (.mv (.t 40))]
def Zn.r6 : List Oper := [
 oD 42 (.mv (.t 8)),
 oD 43 (.call (.c (.f 181 [])) [.t 42]),
 oD 41 (.mv (.t 43)),
 oD 44 (.ext (.t 41) 0),
 oD 45 (.ext (.t 41) 1),
 oD 11 (.mv (.t 44)),
 oD 12 (.mv (.t 45))]
def Zn.r7 : List Oper := [
 oD 46 (.mv (.t 10)),
 oD 47 (.mv (.t 12)),
 oD 48 (.eq true .sc (.t 46) (.t 47))]
def Zn.r8 : List Oper := [
 oD 4 (.mv (.c (.b false)))]
def Zn.r9 : List Oper := [
 oD 49 (.mv (.t 12)),
 oD 50 (.eq false .sc (.t 49) (.c (.i .i64 0))),
 oD 13 (.mv (.t 50))]
def Zn.r10 : List Oper := [
 oD 51 (.mv (.t 13))]
def Zn.r11 : List Oper := [
 oD 52 (.mv (.t 8)),
 oD 53 (.call (.c (.f 177 [])) [.t 52]),
 oD 54 (.len (.t 53)),
 oD 55 (.mv (.c (.i .i64 0)))]
def Zn.r12 : List Oper := [
 oD 56 (.bin .lss (.t 55) (.t 54))]
def Zn.r13 : List Oper := [
 oD 57 (.ixa 1 (.t 53) (.t 55)),
 oD 58 (.ld false 1 (.t 57)),
 oD 15 (.mv (.t 58))]
def Zn.r14 : List Oper := [
 oD 60 (.mv (.t 8)),
 oD 61 (.mv (.t 15)),
 oD 62 (.call (.c (.f 182 [])) [.t 60, .t 61]),
 oD 63 (.call (.c (.f 25 [])) [.t 62]),
 oD 59 (.mv (.t 63)),
 oD 64 (.ext (.t 59) 0),
 oD 65 (.ext (.t 59) 1),
 oD 66 (.ext (.t 59) 2),
 oD 16 (.alloc [.i .i64 0, .i .i64 0]),
 oD 17 (.alloc [.i .i64 0, .i .i64 0]),
 oN (.st 2 (.t 16) (.t 64)),
 oN (.st 2 (.t 17) (.t 65)),
 oD 18 (.mv (.t 66))]
def Zn.r15 : List Oper := [
 oD 67 (.mv (.t 18))]
def Zn.r16 : List Oper := [
 oD 13 (.mv (.c (.b false)))]
def Zn.r17 : List Oper := [
 oD 68 (.bin .add (.t 55) (.c (.i .i64 1))),
 oD 55 (.mv (.t 68))]
def Zn.l0 : Code := .seq (.region Zn.r12) (.seq (.cond (.t 56) (.skip) (.exit 2)) (.seq (.block 3 (.seq (.region Zn.r13) (.seq (.region Zn.r14) (.seq (.region Zn.r15) (.cond (.t 67) (.region Zn.r16) (.skip)))))) (.region Zn.r17)))
def Zn.r18 : List Oper := [
 oD 69 (.mv (.t 9)),
 oD 70 (.mv (.t 13)),
 oD 71 (.eq true .bl (.t 69) (.t 70))]
def Zn.r19 : List Oper := [
 oD 4 (.mv (.c (.b false)))]
def Zn.r20 : List Oper := [
 oD 72 (.bin .add (.t 32) (.c (.i .i64 1))),
 oD 32 (.mv (.t 72))]
def Zn.l1 : Code := .seq (.region Zn.r3) (.seq (.cond (.t 33) (.skip) (.exit 0)) (.seq (.block 1 (.seq (.region Zn.r4) (.seq (.region Zn.r5) (.seq (.region Zn.r6) (.seq (.seq (.region Zn.r7) (.cond (.t 48) (.seq (.region Zn.r8) (.ret)) (.skip))) (.seq (.region Zn.r9) (.seq (.seq (.region Zn.r10) (.cond (.t 51) (.seq (.region Zn.r11) (.block 2 (.loop Zn.l0))) (.skip))) (.seq (.region Zn.r18) (.cond (.t 71) (.seq (.region Zn.r19) (.ret)) (.skip)))))))))) (.region Zn.r20)))
def Zn.r21 : List Oper := [
 oD 73 (.call (.c (.f 27 [])) []),
 oD 4 (.mv (.t 73))]
def Zn.code : Code := .seq (.region Zn.r0) (.seq (.region Zn.r1) (.seq (.seq (.region Zn.r2) (.block 0 (.loop Zn.l1))) (.seq (.region Zn.r21) (.ret))))
def Zn : Func := ⟨74, [.t 4], Zn.code⟩
/-! muntin/valid.Check -/
def zu.r0 : List Oper := [
 oD 2 (.mv (.c (.i .i64 0)))]
def zu.r1 : List Oper := [
 oD 6 (.mv (.t 0)),
 oD 7 (.call (.c (.f 66 [])) [.t 6]),
 oD 3 (.mv (.t 7))]
def zu.r2 : List Oper := [
 oD 8 (.mv (.t 3)),
 oD 9 (.eq true .sc (.t 8) (.c (.i .i64 0)))]
def zu.r3 : List Oper := [
 oD 10 (.mv (.t 3)),
 oD 2 (.mv (.t 10))]
def zu.r4 : List Oper := [
 oD 11 (.mv (.t 0)),
 oD 12 (.call (.c (.f 32 [])) [.t 11]),
 oD 13 (.un .not (.t 12))]
def zu.r5 : List Oper := [
 oD 2 (.mv (.c (.i .i64 13)))]
def zu.r6 : List Oper := [
 oD 15 (.mv (.t 0)),
 oD 16 (.call (.c (.f 201 [])) [.t 15]),
 oD 14 (.mv (.t 16)),
 oD 17 (.ext (.t 14) 0),
 oD 18 (.ext (.t 14) 1),
 oD 4 (.mv (.t 17)),
 oD 5 (.mv (.t 18))]
def zu.r7 : List Oper := [
 oD 19 (.mv (.t 5)),
 oD 20 (.un .not (.t 19)),
 oD 21 (.mv (.t 20)),
 ⟨(some 22), .mv (.t 0), (some (21, true))⟩,
 ⟨(some 23), .len (.t 22), (some (21, true))⟩,
 ⟨(some 24), .bin .gtr (.t 23) (.c (.i .i64 1)), (some (21, true))⟩,
 oD 25 (.pick (.t 21) (.t 24) (.c (.b false)))]
def zu.r8 : List Oper := [
 oD 2 (.mv (.c (.i .i64 10)))]
def zu.r9 : List Oper := [
 oD 2 (.mv (.c (.i .i64 0)))]
def zu.code : Code := .seq (.region zu.r0) (.seq (.seq (.region zu.r1) (.seq (.region zu.r2) (.cond (.t 9) (.seq (.region zu.r3) (.ret)) (.skip)))) (.seq (.seq (.region zu.r4) (.cond (.t 13) (.seq (.region zu.r5) (.ret)) (.skip))) (.seq (.seq (.region zu.r6) (.seq (.region zu.r7) (.cond (.t 25) (.seq (.region zu.r8) (.ret)) (.skip)))) (.seq (.region zu.r9) (.ret)))))
def zu : Func := ⟨26, [.t 2], zu.code⟩
/-! muntin/muntinref12.Faces -/
def Zx.r0 : List Oper := [
 oD 2 (.mv (.c (.sn)))]
def Zx.r1 : List Oper := [
 oD 9 (.mv (.t 0)),
 oD 10 (.len (.t 9)),
 oD 11 (.bin .mul (.c (.i .i64 4)) (.t 10)),
 oD 12 (.mks 1 1 [.b false] (.t 11) (.t 11)),
 oD 3 (.mv (.t 12))]
def Zx.r2 : List Oper := [
 oD 4 (.mv (.c (.sn)))]
def Zx.r3 : List Oper := [
 oD 5 (.mv (.c (.i .i64 0)))]
def Zx.r4 : List Oper := [
 oD 13 (.mv (.t 5)),
 oD 14 (.mv (.t 0)),
 oD 15 (.len (.t 14)),
 oD 16 (.bin .lss (.t 13) (.t 15))]
def Zx.r6 : List Oper := [
 oD 6 (.mv (.c (.i .i64 0)))]
def Zx.r7 : List Oper := [
 oD 19 (.mv (.t 6)),
 oD 20 (.bin .lss (.t 19) (.c (.i .i64 4)))]
def Zx.r9 : List Oper := [
 oD 23 (.mv (.t 0)),
 oD 24 (.mv (.t 5)),
 oD 25 (.mv (.t 6)),
 oD 26 (.ixa 8 (.t 23) (.t 24)),
 oD 27 (.fa 0 (.t 26)),
 oD 28 (.ixaa 1 4 (.t 27) (.t 25)),
 oD 29 (.ld false 1 (.t 28)),
 oD 30 (.bin .lss (.t 29) (.c (.i .i64 0))),
 oD 31 (.mv (.t 30)),
 ⟨(some 32), .mv (.t 3), (some (31, false))⟩,
 ⟨(some 33), .mv (.t 5), (some (31, false))⟩,
 ⟨(some 34), .bin .mul (.c (.i .i64 4)) (.t 33), (some (31, false))⟩,
 ⟨(some 35), .mv (.t 6), (some (31, false))⟩,
 ⟨(some 36), .bin .add (.t 34) (.t 35), (some (31, false))⟩,
 ⟨(some 37), .ixa 1 (.t 32) (.t 36), (some (31, false))⟩,
 ⟨(some 38), .ld false 1 (.t 37), (some (31, false))⟩,
 oD 39 (.pick (.t 31) (.c (.b true)) (.t 38))]
def Zx.r10 : List Oper := [
 oD 7 (.mv (.c (.sn)))]
def Zx.r11 : List Oper := [
 oD 40 (.mv (.t 5)),
 oD 41 (.mv (.t 6)),
 oD 42 (.build [.i .i64 0, .i .i64 0] [(0, 1, .t 40), (1, 1, .t 41)]),
 oD 8 (.alloc [.i .i64 0, .i .i64 0]),
 oN (.st 2 (.t 8) (.t 42))]
def Zx.r12 : List Oper := [
 oD 43 (.mv (.t 3)),
 oD 44 (.fa 0 (.t 8)),
 oD 45 (.ld false 1 (.t 44)),
 oD 46 (.bin .mul (.c (.i .i64 4)) (.t 45)),
 oD 47 (.fa 1 (.t 8)),
 oD 48 (.ld false 1 (.t 47)),
 oD 49 (.bin .add (.t 46) (.t 48)),
 oD 50 (.ixa 1 (.t 43) (.t 49)),
 oD 51 (.ld false 1 (.t 50)),
 oD 52 (.un .not (.t 51))]
def Zx.r13 : List Oper := [
 oD 53 (.mv (.t 3)),
 oD 54 (.fa 0 (.t 8)),
 oD 55 (.ld false 1 (.t 54)),
 oD 56 (.bin .mul (.c (.i .i64 4)) (.t 55)),
 oD 57 (.fa 1 (.t 8)),
 oD 58 (.ld false 1 (.t 57)),
 oD 59 (.bin .add (.t 56) (.t 58)),
 oD 60 (.ixa 1 (.t 53) (.t 59)),
 oN (.st 1 (.t 60) (.c (.b true)))]
def Zx.r14 : List Oper := [
 oD 61 (.mv (.t 7)),
 oD 62 (.ld true 2 (.t 8)),
 oD 63 (.bsl 2 1 [.i .i64 0, .i .i64 0] [(0, 2, .t 62)]),
 oD 64 (.app 2 16 (.t 61) (.t 63)),
 oD 7 (.mv (.t 64))]
def Zx.r15 : List Oper := [
 oD 65 (.mv (.t 0)),
 oD 66 (.ld true 2 (.t 8)),
 oD 67 (.call (.c (.f 202 [])) [.t 65, .t 66]),
 oN (.st 2 (.t 8) (.t 67))]
def Zx.l0 : Code := .seq (.seq (.region Zx.r12) (.cond (.t 52) (.skip) (.exit 4))) (.block 5 (.seq (.region Zx.r13) (.seq (.region Zx.r14) (.region Zx.r15))))
def Zx.r16 : List Oper := [
 oD 68 (.mv (.t 4)),
 oD 69 (.mv (.t 7)),
 oD 70 (.bsl 1 1 [.sn] [(0, 1, .t 69)]),
 oD 71 (.app 1 24 (.t 68) (.t 70)),
 oD 4 (.mv (.t 71))]
def Zx.r8 : List Oper := [
 oD 21 (.mv (.t 6)),
 oD 22 (.bin .add (.t 21) (.c (.i .i64 1))),
 oD 6 (.mv (.t 22))]
def Zx.l1 : Code := .seq (.seq (.region Zx.r7) (.cond (.t 20) (.skip) (.exit 2))) (.seq (.block 3 (.seq (.seq (.region Zx.r9) (.cond (.t 39) (.exit 3) (.skip))) (.seq (.region Zx.r10) (.seq (.region Zx.r11) (.seq (.block 4 (.loop Zx.l0)) (.region Zx.r16)))))) (.region Zx.r8))
def Zx.r5 : List Oper := [
 oD 17 (.mv (.t 5)),
 oD 18 (.bin .add (.t 17) (.c (.i .i64 1))),
 oD 5 (.mv (.t 18))]
def Zx.l2 : Code := .seq (.seq (.region Zx.r4) (.cond (.t 16) (.skip) (.exit 0))) (.seq (.block 1 (.seq (.region Zx.r6) (.block 2 (.loop Zx.l1)))) (.region Zx.r5))
def Zx.r17 : List Oper := [
 oD 72 (.mv (.t 4)),
 oD 2 (.mv (.t 72))]
def Zx.code : Code := .seq (.region Zx.r0) (.seq (.region Zx.r1) (.seq (.region Zx.r2) (.seq (.seq (.region Zx.r3) (.block 0 (.loop Zx.l2))) (.seq (.region Zx.r17) (.ret)))))
def Zx : Func := ⟨73, [.t 2], Zx.code⟩
/-! muntin/kitty.Regular -/
def ZY.r0 : List Oper := [
 oD 2 (.mv (.c (.b false))),
 oD 3 (.mv (.c (.i .i64 0)))]
def ZY.r1 : List Oper := [
 oD 12 (.mv (.t 0)),
 oD 13 (.call (.c (.f 176 [])) [.t 12]),
 oD 4 (.mv (.t 13))]
def ZY.r2 : List Oper := [
 oD 14 (.mv (.t 4)),
 oD 15 (.eq true .sc (.t 14) (.c (.i .i64 0)))]
def ZY.r3 : List Oper := [
 oD 16 (.mv (.t 4)),
 oD 2 (.mv (.c (.b false))),
 oD 3 (.mv (.t 16))]
def ZY.r4 : List Oper := [
 oD 18 (.mv (.t 0)),
 oD 19 (.call (.c (.f 203 [])) [.t 18]),
 oD 17 (.mv (.t 19)),
 oD 20 (.ext (.t 17) 0),
 oD 21 (.ext (.t 17) 1),
 oD 5 (.mv (.t 20)),
 oD 6 (.mv (.t 21))]
def ZY.r5 : List Oper := [
 oD 22 (.mv (.t 5)),
 oD 23 (.len (.t 22)),
 oD 24 (.mv (.c (.i .i64 0)))]
def ZY.r6 : List Oper := [
 oD 25 (.bin .lss (.t 24) (.t 23))]
def ZY.r7 : List Oper := [
 oD 26 (.ixa 1 (.t 22) (.t 24)),
 oD 27 (.ld false 1 (.t 26)),
 oD 8 (.mv (.t 27))]
def ZY.r8 : List Oper := [
 oD 29 (.mv (.t 0)),
 oD 30 (.mv (.t 8)),
 oD 31 (.call (.c (.f 204 [])) [.t 29, .t 30]),
 oD 32 (.call (.c (.f 24 [])) [.t 31]),
 oD 28 (.mv (.t 32)),
 oD 33 (.ext (.t 28) 0),
 oD 34 (.ext (.t 28) 1),
 oD 35 (.ext (.t 28) 2),
 oD 9 (.alloc [.i .i64 0, .i .i64 0]),
 oD 10 (.alloc [.i .i64 0, .i .i64 0]),
 oN (.st 2 (.t 9) (.t 33)),
 oN (.st 2 (.t 10) (.t 34)),
 oD 11 (.mv (.t 35))]
def ZY.r9 : List Oper := [
 oD 36 (.mv (.t 11))]
def ZY.r10 : List Oper := [
 oD 2 (.mv (.c (.b false))),
 oD 3 (.mv (.c (.i .i64 0)))]
def ZY.r11 : List Oper := [
 oD 37 (.bin .add (.t 24) (.c (.i .i64 1))),
 oD 24 (.mv (.t 37))]
def ZY.l0 : Code := .seq (.region ZY.r6) (.seq (.cond (.t 25) (.skip) (.exit 0)) (.seq (.block 1 (.seq (.region ZY.r7) (.seq (.region ZY.r8) (.seq (.region ZY.r9) (.cond (.t 36) (.seq (.region ZY.r10) (.ret)) (.skip)))))) (.region ZY.r11)))
def ZY.r12 : List Oper := [
 oD 2 (.mv (.c (.b true))),
 oD 3 (.mv (.c (.i .i64 0)))]
def ZY.code : Code := .seq (.region ZY.r0) (.seq (.seq (.region ZY.r1) (.seq (.region ZY.r2) (.cond (.t 15) (.seq (.region ZY.r3) (.ret)) (.skip)))) (.seq (.region ZY.r4) (.seq (.seq (.region ZY.r5) (.block 0 (.loop ZY.l0))) (.seq (.region ZY.r12) (.ret)))))
def ZY : Func := ⟨38, [.t 2, .t 3], ZY.code⟩
/-! muntin/muntinref14.Outer -/
def Zs.r0 : List Oper := [
 oD 2 (.mv (.c (.i .i64 0))),
 oD 3 (.mv (.c (.i .i64 0)))]
def Zs.r1 : List Oper := [
 oD 11 (.mv (.t 0)),
 oD 12 (.call (.c (.f 34 [])) [.t 11]),
 oD 4 (.mv (.t 12))]
def Zs.r2 : List Oper := [
 oD 13 (.mv (.t 4)),
 oD 14 (.eq true .sc (.t 13) (.c (.i .i64 0)))]
def Zs.r3 : List Oper := [
 oD 15 (.mv (.t 4)),
 oD 2 (.mv (.c (.i .i64 (-1)))),
 oD 3 (.mv (.t 15))]
def Zs.r4 : List Oper := [
 oD 16 (.mv (.t 0)),
 oD 17 (.call (.c (.f 30 [])) [.t 16]),
 oD 5 (.mv (.t 17))]
def Zs.r5 : List Oper := [
 oD 18 (.mv (.t 5)),
 oD 19 (.len (.t 18)),
 oD 20 (.eq true .sc (.t 19) (.c (.i .i64 1)))]
def Zs.r6 : List Oper := [
 oD 2 (.mv (.c (.i .i64 (-1)))),
 oD 3 (.mv (.c (.i .i64 13)))]
def Zs.r7 : List Oper := [
 oD 21 (.mv (.t 0)),
 oD 22 (.len (.t 21)),
 oD 23 (.eq false .sc (.t 22) (.c (.i .i64 1)))]
def Zs.r8 : List Oper := [
 oD 2 (.mv (.c (.i .i64 (-1)))),
 oD 3 (.mv (.c (.i .i64 0)))]
def Zs.r9 : List Oper := [
 oD 24 (.mv (.t 0)),
 oD 25 (.call (.c (.f 177 [])) [.t 24]),
 oD 6 (.mv (.t 25))]
def Zs.r10 : List Oper := [
 oD 7 (.mv (.c (.i .i64 (-1))))]
def Zs.r11 : List Oper := [
 oD 8 (.mv (.c (.i .i64 0)))]
def Zs.r12 : List Oper := [
 oD 26 (.mv (.t 8)),
 oD 27 (.mv (.t 6)),
 oD 28 (.len (.t 27)),
 oD 29 (.bin .lss (.t 26) (.t 28))]
def Zs.r14 : List Oper := [
 oD 32 (.mv (.t 0)),
 oD 33 (.mv (.t 6)),
 oD 34 (.mv (.t 8)),
 oD 35 (.ixa 1 (.t 33) (.t 34)),
 oD 36 (.ld false 1 (.t 35)),
 oD 37 (.call (.c (.f 182 [])) [.t 32, .t 36]),
 oD 9 (.mv (.t 37))]
def Zs.r15 : List Oper := [
 oD 38 (.mv (.t 9)),
 oD 39 (.call (.c (.f 206 [])) [.t 38]),
 oD 10 (.mv (.t 39))]
def Zs.r16 : List Oper := [
 oD 40 (.mv (.t 10)),
 oD 41 (.eq true .sc (.t 40) (.c (.i .i64 4))),
 oD 42 (.mv (.t 41)),
 ⟨(some 43), .mv (.t 10), (some (42, true))⟩,
 ⟨(some 44), .eq true .sc (.t 43) (.c (.i .i64 (-4))), (some (42, true))⟩,
 oD 45 (.pick (.t 42) (.t 44) (.c (.b false))),
 oD 46 (.mv (.t 45)),
 ⟨(some 47), .mv (.t 10), (some (46, false))⟩,
 ⟨(some 48), .eq false .sc (.t 47) (.c (.i .i64 (-4))), (some (46, false))⟩,
 ⟨(some 49), .mv (.t 48), (some (46, false))⟩,
 ⟨(some 50), .mv (.t 7), (some (49, true))⟩,
 ⟨(some 51), .bin .geq (.t 50) (.c (.i .i64 0)), (some (49, true))⟩,
 ⟨(some 52), .pick (.t 49) (.t 51) (.c (.b false)), (some (46, false))⟩,
 oD 53 (.pick (.t 46) (.c (.b true)) (.t 52))]
def Zs.r17 : List Oper := [
 oD 2 (.mv (.c (.i .i64 (-1)))),
 oD 3 (.mv (.c (.i .i64 10)))]
def Zs.r18 : List Oper := [
 oD 54 (.mv (.t 10)),
 oD 55 (.eq false .sc (.t 54) (.c (.i .i64 (-4))))]
def Zs.r19 : List Oper := [
 oD 56 (.mv (.t 8)),
 oD 7 (.mv (.t 56))]
def Zs.r13 : List Oper := [
 oD 30 (.mv (.t 8)),
 oD 31 (.bin .add (.t 30) (.c (.i .i64 1))),
 oD 8 (.mv (.t 31))]
def Zs.l0 : Code := .seq (.seq (.region Zs.r12) (.cond (.t 29) (.skip) (.exit 0))) (.seq (.block 1 (.seq (.region Zs.r14) (.seq (.region Zs.r15) (.seq (.seq (.region Zs.r16) (.cond (.t 53) (.seq (.region Zs.r17) (.ret)) (.skip))) (.seq (.region Zs.r18) (.cond (.t 55) (.region Zs.r19) (.skip))))))) (.region Zs.r13))
def Zs.r20 : List Oper := [
 oD 57 (.mv (.t 7)),
 oD 58 (.bin .lss (.t 57) (.c (.i .i64 0)))]
def Zs.r21 : List Oper := [
 oD 2 (.mv (.c (.i .i64 (-1)))),
 oD 3 (.mv (.c (.i .i64 10)))]
def Zs.r22 : List Oper := [
 oD 59 (.mv (.t 7)),
 oD 2 (.mv (.t 59)),
 oD 3 (.mv (.c (.i .i64 0)))]
def Zs.code : Code := .seq (.region Zs.r0) (.seq (.region Zs.r1) (.seq (.seq (.region Zs.r2) (.cond (.t 14) (.seq (.region Zs.r3) (.ret)) (.skip))) (.seq (.region Zs.r4) (.seq (.seq (.region Zs.r5) (.cond (.t 20) (.seq (.region Zs.r6) (.ret)) (.skip))) (.seq (.seq (.region Zs.r7) (.cond (.t 23) (.seq (.region Zs.r8) (.ret)) (.skip))) (.seq (.region Zs.r9) (.seq (.region Zs.r10) (.seq (.seq (.region Zs.r11) (.block 0 (.loop Zs.l0))) (.seq (.seq (.region Zs.r20) (.cond (.t 58) (.seq (.region Zs.r21) (.ret)) (.skip))) (.seq (.region Zs.r22) (.ret)))))))))))
def Zs : Func := ⟨60, [.t 2, .t 3], Zs.code⟩
/-! muntin/muntinref12.Turns -/
def ZX.r0 : List Oper := [
 oD 4 (.mv (.c (.sn)))]
def ZX.r1 : List Oper := [
 oD 5 (.mv (.c (.sn)))]
def ZX.r2 : List Oper := [
 oD 6 (.mv (.c (.i .i64 0)))]
def ZX.r3 : List Oper := [
 oD 9 (.mv (.t 6)),
 oD 10 (.mv (.t 1)),
 oD 11 (.len (.t 10)),
 oD 12 (.bin .lss (.t 9) (.t 11))]
def ZX.r5 : List Oper := [
 oD 15 (.mv (.t 0)),
 oD 16 (.mv (.t 1)),
 oD 17 (.mv (.t 6)),
 oD 18 (.ixa 2 (.t 16) (.t 17)),
 oD 19 (.ld true 2 (.t 18)),
 oD 20 (.call (.c (.f 202 [])) [.t 15, .t 19]),
 oD 7 (.alloc [.i .i64 0, .i .i64 0]),
 oN (.st 2 (.t 7) (.t 20))]
def ZX.r6 : List Oper := [
 oD 21 (.mv (.t 1)),
 oD 22 (.mv (.t 6)),
 oD 23 (.ixa 2 (.t 21) (.t 22)),
 oD 24 (.fa 1 (.t 23)),
 oD 25 (.ld false 1 (.t 24)),
 oD 26 (.fa 1 (.t 7)),
 oD 27 (.ld false 1 (.t 26)),
 oD 28 (.call (.c (.f 207 [])) [.t 25, .t 27]),
 oD 8 (.mv (.t 28))]
def ZX.r7 : List Oper := [
 oD 29 (.mv (.t 5)),
 oD 30 (.mv (.t 8)),
 oD 31 (.bsl 1 1 [.i .i64 0] [(0, 1, .t 30)]),
 oD 32 (.app 1 8 (.t 29) (.t 31)),
 oD 5 (.mv (.t 32))]
def ZX.r4 : List Oper := [
 oD 13 (.mv (.t 6)),
 oD 14 (.bin .add (.t 13) (.c (.i .i64 1))),
 oD 6 (.mv (.t 14))]
def ZX.l0 : Code := .seq (.seq (.region ZX.r3) (.cond (.t 12) (.skip) (.exit 0))) (.seq (.block 1 (.seq (.region ZX.r5) (.seq (.draw ZX.r6 [(4, 6)]) (.region ZX.r7)))) (.region ZX.r4))
def ZX.r8 : List Oper := [
 oD 33 (.mv (.t 5)),
 oD 4 (.mv (.t 33))]
def ZX.code : Code := .seq (.region ZX.r0) (.seq (.region ZX.r1) (.seq (.seq (.region ZX.r2) (.block 0 (.loop ZX.l0))) (.seq (.region ZX.r8) (.ret))))
def ZX : Func := ⟨34, [.t 4], ZX.code⟩
/-! muntin/valid.outer -/
def ZZ.r0 : List Oper := [
 oD 2 (.mv (.c (.i .i64 0))),
 oD 3 (.mv (.c (.b false)))]
def ZZ.r1 : List Oper := [
 oD 10 (.mv (.t 0)),
 oD 11 (.call (.c (.f 203 [])) [.t 10]),
 oD 9 (.mv (.t 11)),
 oD 12 (.ext (.t 9) 0),
 oD 13 (.ext (.t 9) 1),
 oD 4 (.mv (.t 12)),
 oD 5 (.mv (.t 13))]
def ZZ.r2 : List Oper := [
 oD 6 (.mv (.c (.i .i64 (-1))))]
def ZZ.r3 : List Oper := [
 oD 14 (.mv (.t 4)),
 oD 15 (.len (.t 14)),
 oD 16 (.mv (.c (.i .i64 0)))]
def ZZ.r4 : List Oper := [
 oD 17 (.bin .lss (.t 16) (.t 15))]
def ZZ.r5 : List Oper := [
 oD 18 (.mv (.t 16)),
 oD 19 (.ixa 1 (.t 14) (.t 16)),
 oD 20 (.ld false 1 (.t 19)),
 oD 7 (.mv (.t 18)),
 oD 8 (.mv (.t 20))]
def ZZ.r6 : List Oper := [
 oD 21 (.mv (.t 0)),
 oD 22 (.mv (.t 8)),
 oD 23 (.call (.c (.f 204 [])) [.t 21, .t 22]),
 oD 24 (.call (.c (.f 219 [])) [.t 23])]
def ZZ.r8 : List Oper := [
 oD 26 (.eq false .sc (.t 24) (.c (.i .i64 4))),
 oD 25 (.mv (.t 26))]
def ZZ.r9 : List Oper := [
 oD 28 (.eq false .sc (.t 24) (.c (.i .i64 (-4)))),
 oD 27 (.mv (.t 28))]
def ZZ.r10 : List Oper := [
 oD 29 (.mv (.t 6)),
 oD 30 (.bin .geq (.t 29) (.c (.i .i64 0)))]
def ZZ.r11 : List Oper := [
 oD 2 (.mv (.c (.i .i64 0))),
 oD 3 (.mv (.c (.b false)))]
def ZZ.r12 : List Oper := [
 oD 31 (.mv (.t 7)),
 oD 6 (.mv (.t 31))]
def ZZ.r7 : List Oper := [
 oD 2 (.mv (.c (.i .i64 0))),
 oD 3 (.mv (.c (.b false)))]
def ZZ.r13 : List Oper := [
 oD 32 (.bin .add (.t 16) (.c (.i .i64 1))),
 oD 16 (.mv (.t 32))]
def ZZ.l0 : Code := .seq (.region ZZ.r4) (.seq (.cond (.t 17) (.skip) (.exit 0)) (.seq (.block 1 (.seq (.region ZZ.r5) (.seq (.region ZZ.r6) (.block 2 (.seq (.region ZZ.r8) (.cond (.t 25) (.skip) (.seq (.region ZZ.r9) (.cond (.t 27) (.seq (.seq (.region ZZ.r10) (.cond (.t 30) (.seq (.region ZZ.r11) (.ret)) (.skip))) (.region ZZ.r12)) (.seq (.region ZZ.r7) (.ret)))))))))) (.region ZZ.r13)))
def ZZ.r14 : List Oper := [
 oD 33 (.mv (.t 6)),
 oD 34 (.mv (.t 6)),
 oD 35 (.bin .geq (.t 34) (.c (.i .i64 0))),
 oD 2 (.mv (.t 33)),
 oD 3 (.mv (.t 35))]
def ZZ.code : Code := .seq (.region ZZ.r0) (.seq (.region ZZ.r1) (.seq (.region ZZ.r2) (.seq (.seq (.region ZZ.r3) (.block 0 (.loop ZZ.l0))) (.seq (.region ZZ.r14) (.ret)))))
def ZZ : Func := ⟨36, [.t 2, .t 3], ZZ.code⟩
/-! muntin/muntinref12.Behind -/
def ZJ.r0 : List Oper := [
 oD 3 (.box (.t 1)),
 oD 4 (.alloc [.i .i64 0, .i .i64 0])]
def ZJ.r1 : List Oper := [
 oD 9 (.mv (.t 0)),
 oD 10 (.fa 0 (.t 3)),
 oD 11 (.ld false 1 (.t 10)),
 oD 12 (.fa 1 (.t 3)),
 oD 13 (.ld false 1 (.t 12)),
 oD 14 (.ixa 8 (.t 9) (.t 11)),
 oD 15 (.fa 0 (.t 14)),
 oD 16 (.ixaa 1 4 (.t 15) (.t 13)),
 oD 17 (.ld false 1 (.t 16)),
 oD 5 (.mv (.t 17))]
def ZJ.r2 : List Oper := [
 oD 18 (.bsl 1 4 [.i .i64 0] [(0, 1, .c (.i .i64 1)), (1, 1, .c (.i .i64 0)), (2, 1, .c (.i .i64 3)), (3, 1, .c (.i .i64 2))]),
 oD 6 (.mv (.t 18))]
def ZJ.r3 : List Oper := [
 oD 7 (.mv (.c (.i .i64 0)))]
def ZJ.r4 : List Oper := [
 oD 19 (.mv (.t 7)),
 oD 20 (.bin .lss (.t 19) (.c (.i .i64 4)))]
def ZJ.r6 : List Oper := [
 oD 23 (.fa 1 (.t 3)),
 oD 24 (.ld false 1 (.t 23)),
 oD 25 (.mv (.t 6)),
 oD 26 (.mv (.t 7)),
 oD 27 (.ixa 1 (.t 25) (.t 26)),
 oD 28 (.ld false 1 (.t 27)),
 oD 29 (.bin .add (.t 24) (.t 28)),
 oD 30 (.bin .rem (.t 29) (.c (.i .i64 4))),
 oD 8 (.mv (.t 30))]
def ZJ.r7 : List Oper := [
 oD 31 (.mv (.t 0)),
 oD 32 (.mv (.t 5)),
 oD 33 (.mv (.t 8)),
 oD 34 (.ixa 8 (.t 31) (.t 32)),
 oD 35 (.fa 0 (.t 34)),
 oD 36 (.ixaa 1 4 (.t 35) (.t 33)),
 oD 37 (.ld false 1 (.t 36)),
 oD 38 (.bin .geq (.t 37) (.c (.i .i64 0)))]
def ZJ.r8 : List Oper := [
 oD 39 (.mv (.t 5)),
 oD 40 (.mv (.t 8)),
 oD 41 (.build [.i .i64 0, .i .i64 0] [(0, 1, .t 39), (1, 1, .t 40)]),
 oN (.st 2 (.t 4) (.t 41))]
def ZJ.r5 : List Oper := [
 oD 21 (.mv (.t 7)),
 oD 22 (.bin .add (.t 21) (.c (.i .i64 1))),
 oD 7 (.mv (.t 22))]
def ZJ.l0 : Code := .seq (.seq (.region ZJ.r4) (.cond (.t 20) (.skip) (.exit 0))) (.seq (.block 1 (.seq (.draw ZJ.r6 [(1, 5)]) (.seq (.region ZJ.r7) (.cond (.t 38) (.seq (.region ZJ.r8) (.ret)) (.skip))))) (.region ZJ.r5))
def ZJ.r9 : List Oper := [
 oD 42 (.ld true 2 (.t 3)),
 oN (.st 2 (.t 4) (.t 42))]
def ZJ.code : Code := .seq (.region ZJ.r0) (.seq (.draw ZJ.r1 [(2, 4)]) (.seq (.region ZJ.r2) (.seq (.seq (.region ZJ.r3) (.block 0 (.loop ZJ.l0))) (.seq (.region ZJ.r9) (.ret)))))
def ZJ : Func := ⟨43, [.cell 4 true 2], ZJ.code⟩
/-! muntin/face.Faces -/
def Z6.r0 : List Oper := [
 oD 2 (.mv (.c (.sn))),
 oD 3 (.mv (.c (.i .i64 0)))]
def Z6.r1 : List Oper := [
 oD 12 (.mv (.t 0)),
 oD 13 (.call (.c (.f 66 [])) [.t 12]),
 oD 4 (.mv (.t 13))]
def Z6.r2 : List Oper := [
 oD 14 (.mv (.t 4)),
 oD 15 (.eq true .sc (.t 14) (.c (.i .i64 0)))]
def Z6.r3 : List Oper := [
 oD 16 (.mv (.t 4)),
 oD 2 (.mv (.c (.sn))),
 oD 3 (.mv (.t 16))]
def Z6.r4 : List Oper := [
 oD 5 (.mv (.c (.sn)))]
def Z6.r5 : List Oper := [
 oD 17 (.mkm),
 oD 6 (.mv (.t 17))]
def Z6.r6 : List Oper := [
 oD 18 (.mv (.t 0)),
 oD 19 (.len (.t 18)),
 oD 20 (.mv (.c (.i .i64 0)))]
def Z6.r7 : List Oper := [
 oD 21 (.bin .lss (.t 20) (.t 19))]
def Z6.r8 : List Oper := [
 oD 22 (.mv (.t 20)),
 oD 7 (.mv (.t 22))]
def Z6.r9 : List Oper := [
 oD 23 (.mv (.c (.i .i64 0)))]
def Z6.r10 : List Oper := [
 oD 24 (.bin .lss (.t 23) (.c (.i .i64 4)))]
def Z6.r11 : List Oper := [
 oD 25 (.mv (.t 23)),
 oD 8 (.mv (.t 25))]
def Z6.r12 : List Oper := [
 oD 26 (.mv (.t 7)),
 oD 27 (.mv (.t 8)),
 oD 28 (.build [.i .i64 0, .i .i64 0] [(0, 1, .t 26), (1, 1, .t 27)]),
 oD 9 (.alloc [.i .i64 0, .i .i64 0]),
 oN (.st 2 (.t 9) (.t 28))]
def Z6.r13 : List Oper := [
 oD 29 (.ld true 2 (.t 9)),
 oD 30 (.mv (.t 0)),
 oD 31 (.call (.c (.f 220 [])) [.t 29, .t 30]),
 oD 32 (.un .not (.t 31)),
 oD 33 (.mv (.t 32)),
 ⟨(some 34), .mv (.t 6), (some (33, false))⟩,
 ⟨(some 35), .ld true 2 (.t 9), (some (33, false))⟩,
 ⟨(some 36), .mlk [.i, .i] false (.b false) (.t 34) (.t 35), (some (33, false))⟩,
 oD 37 (.pick (.t 33) (.c (.b true)) (.t 36))]
def Z6.r14 : List Oper := [
 oD 10 (.mv (.c (.sn)))]
def Z6.r15 : List Oper := [
 oD 38 (.ld true 2 (.t 9)),
 oD 11 (.alloc [.i .i64 0, .i .i64 0]),
 oN (.st 2 (.t 11) (.t 38))]
def Z6.r16 : List Oper := [
 oD 39 (.mv (.t 6)),
 oD 40 (.ld true 2 (.t 11)),
 oD 41 (.mlk [.i, .i] false (.b false) (.t 39) (.t 40)),
 oD 42 (.un .not (.t 41))]
def Z6.r18 : List Oper := [
 oD 46 (.mv (.t 6)),
 oD 47 (.ld true 2 (.t 11)),
 oN (.mup [.i, .i] (.t 46) (.t 47) (.c (.b true)))]
def Z6.r19 : List Oper := [
 oD 48 (.mv (.t 10)),
 oD 49 (.ld true 2 (.t 11)),
 oD 50 (.bsl 2 1 [.i .i64 0, .i .i64 0] [(0, 2, .t 49)]),
 oD 51 (.app 2 16 (.t 48) (.t 50)),
 oD 10 (.mv (.t 51))]
def Z6.r20 : List Oper := [
 oD 52 (.ld true 2 (.t 11))]
def Z6.r21 : List Oper := [
 oD 11 (.alloc [.i .i64 0, .i .i64 0]),
 oN (.st 2 (.t 11) (.t 52))]
def Z6.r17 : List Oper := [
 oD 43 (.ld true 2 (.t 11)),
 oD 44 (.mv (.t 0)),
 oD 45 (.call (.c (.f 221 [])) [.t 43, .t 44]),
 oN (.st 2 (.t 11) (.t 45))]
def Z6.l0 : Code := .seq (.seq (.region Z6.r16) (.cond (.t 42) (.skip) (.exit 4))) (.seq (.block 5 (.seq (.region Z6.r18) (.region Z6.r19))) (.seq (.seq (.region Z6.r20) (.region Z6.r21)) (.region Z6.r17)))
def Z6.r22 : List Oper := [
 oD 53 (.mv (.t 5)),
 oD 54 (.mv (.t 10)),
 oD 55 (.bsl 1 1 [.sn] [(0, 1, .t 54)]),
 oD 56 (.app 1 24 (.t 53) (.t 55)),
 oD 5 (.mv (.t 56))]
def Z6.r23 : List Oper := [
 oD 57 (.bin .add (.t 23) (.c (.i .i64 1))),
 oD 23 (.mv (.t 57))]
def Z6.l1 : Code := .seq (.region Z6.r10) (.seq (.cond (.t 24) (.skip) (.exit 2)) (.seq (.block 3 (.seq (.region Z6.r11) (.seq (.region Z6.r12) (.seq (.seq (.region Z6.r13) (.cond (.t 37) (.exit 3) (.skip))) (.seq (.region Z6.r14) (.seq (.seq (.region Z6.r15) (.block 4 (.loop Z6.l0))) (.region Z6.r22))))))) (.region Z6.r23)))
def Z6.r24 : List Oper := [
 oD 58 (.bin .add (.t 20) (.c (.i .i64 1))),
 oD 20 (.mv (.t 58))]
def Z6.l2 : Code := .seq (.region Z6.r7) (.seq (.cond (.t 21) (.skip) (.exit 0)) (.seq (.block 1 (.seq (.region Z6.r8) (.seq (.region Z6.r9) (.block 2 (.loop Z6.l1))))) (.region Z6.r24)))
def Z6.r25 : List Oper := [
 oD 59 (.mv (.t 5)),
 oD 2 (.mv (.t 59)),
 oD 3 (.mv (.c (.i .i64 0)))]
def Z6.code : Code := .seq (.region Z6.r0) (.seq (.seq (.region Z6.r1) (.seq (.region Z6.r2) (.cond (.t 15) (.seq (.region Z6.r3) (.ret)) (.skip)))) (.seq (.region Z6.r4) (.seq (.region Z6.r5) (.seq (.seq (.region Z6.r6) (.block 0 (.loop Z6.l2))) (.seq (.region Z6.r25) (.ret))))))
def Z6 : Func := ⟨60, [.t 2, .t 3], Z6.code⟩
/-! muntin/face.Turns -/
def zp.r0 : List Oper := [
 oD 4 (.mv (.c (.sn)))]
def zp.r1 : List Oper := [
 oD 8 (.mv (.t 1)),
 oD 9 (.len (.t 8)),
 oD 10 (.mks 1 8 [.i .i64 0] (.t 9) (.t 9)),
 oD 5 (.mv (.t 10))]
def zp.r2 : List Oper := [
 oD 11 (.mv (.t 0)),
 oD 12 (.call (.c (.f 66 [])) [.t 11]),
 oD 13 (.eq true .sc (.t 12) (.c (.i .i64 0)))]
def zp.r3 : List Oper := [
 oD 14 (.mv (.t 5)),
 oD 4 (.mv (.t 14))]
def zp.r4 : List Oper := [
 oD 15 (.mv (.t 1)),
 oD 16 (.len (.t 15)),
 oD 17 (.mv (.c (.i .i64 0)))]
def zp.r5 : List Oper := [
 oD 18 (.bin .lss (.t 17) (.t 16))]
def zp.r6 : List Oper := [
 oD 19 (.mv (.t 17)),
 oD 20 (.ixa 2 (.t 15) (.t 17)),
 oD 21 (.ld true 2 (.t 20)),
 oD 7 (.alloc [.i .i64 0, .i .i64 0]),
 oD 6 (.mv (.t 19)),
 oN (.st 2 (.t 7) (.t 21))]
def zp.r7 : List Oper := [
 oD 22 (.ld true 2 (.t 7)),
 oD 23 (.mv (.t 0)),
 oD 24 (.call (.c (.f 220 [])) [.t 22, .t 23])]
def zp.r8 : List Oper := [
 oD 25 (.mv (.t 5)),
 oD 26 (.mv (.t 6)),
 oD 27 (.fa 1 (.t 7)),
 oD 28 (.ld false 1 (.t 27)),
 oD 29 (.ld true 2 (.t 7)),
 oD 30 (.mv (.t 0)),
 oD 31 (.call (.c (.f 221 [])) [.t 29, .t 30]),
 oD 32 (.fld false 1 1 (.t 31)),
 oD 33 (.call (.c (.f 222 [])) [.t 28, .t 32]),
 oD 34 (.ixa 1 (.t 25) (.t 26)),
 oN (.st 1 (.t 34) (.t 33))]
def zp.r9 : List Oper := [
 oD 35 (.bin .add (.t 17) (.c (.i .i64 1))),
 oD 17 (.mv (.t 35))]
def zp.l0 : Code := .seq (.region zp.r5) (.seq (.cond (.t 18) (.skip) (.exit 0)) (.seq (.block 1 (.seq (.region zp.r6) (.seq (.region zp.r7) (.cond (.t 24) (.draw zp.r8 [(3, 4), (3, 6)]) (.skip))))) (.region zp.r9)))
def zp.r10 : List Oper := [
 oD 36 (.mv (.t 5)),
 oD 4 (.mv (.t 36))]
def zp.code : Code := .seq (.region zp.r0) (.seq (.region zp.r1) (.seq (.seq (.region zp.r2) (.cond (.t 13) (.seq (.region zp.r3) (.ret)) (.skip))) (.seq (.seq (.region zp.r4) (.block 0 (.loop zp.l0))) (.seq (.region zp.r10) (.ret)))))
def zp : Func := ⟨37, [.t 4], zp.code⟩
/-! muntin/muntinref12.Rotation -/
def ZN.r0 : List Oper := [
 oD 2 (.mv (.c (.i .i64 0)))]
def ZN.r1 : List Oper := [
 oD 3 (.mv (.c (.i .i64 0)))]
def ZN.r2 : List Oper := [
 oD 4 (.mv (.c (.i .i64 0)))]
def ZN.r3 : List Oper := [
 oD 5 (.mv (.t 4)),
 oD 6 (.mv (.t 0)),
 oD 7 (.len (.t 6)),
 oD 8 (.bin .lss (.t 5) (.t 7))]
def ZN.r5 : List Oper := [
 oD 11 (.mv (.t 0)),
 oD 12 (.mv (.t 4)),
 oD 13 (.ixa 1 (.t 11) (.t 12)),
 oD 14 (.ld false 1 (.t 13)),
 oD 15 (.bin .geq (.t 14) (.c (.i .i64 (-2)))),
 oD 16 (.mv (.t 15)),
 ⟨(some 17), .mv (.t 0), (some (16, true))⟩,
 ⟨(some 18), .mv (.t 4), (some (16, true))⟩,
 ⟨(some 19), .ixa 1 (.t 17) (.t 18), (some (16, true))⟩,
 ⟨(some 20), .ld false 1 (.t 19), (some (16, true))⟩,
 ⟨(some 21), .bin .leq (.t 20) (.c (.i .i64 1)), (some (16, true))⟩,
 oD 22 (.pick (.t 16) (.t 21) (.c (.b false)))]
def ZN.r6 : List Oper := [
 oD 23 (.mv (.t 3)),
 oD 24 (.mv (.t 0)),
 oD 25 (.mv (.t 4)),
 oD 26 (.ixa 1 (.t 24) (.t 25)),
 oD 27 (.ld false 1 (.t 26)),
 oD 28 (.bin .add (.t 23) (.t 27)),
 oD 3 (.mv (.t 28))]
def ZN.r4 : List Oper := [
 oD 9 (.mv (.t 4)),
 oD 10 (.bin .add (.t 9) (.c (.i .i64 1))),
 oD 4 (.mv (.t 10))]
def ZN.l0 : Code := .seq (.seq (.region ZN.r3) (.cond (.t 8) (.skip) (.exit 0))) (.seq (.block 1 (.seq (.region ZN.r5) (.cond (.t 22) (.region ZN.r6) (.skip)))) (.region ZN.r4))
def ZN.r7 : List Oper := [
 oD 29 (.mv (.t 3)),
 oD 2 (.mv (.t 29))]
def ZN.code : Code := .seq (.region ZN.r0) (.seq (.region ZN.r1) (.seq (.seq (.region ZN.r2) (.block 0 (.loop ZN.l0))) (.seq (.region ZN.r7) (.ret))))
def ZN : Func := ⟨30, [.t 2], ZN.code⟩
/-! muntin/muntinref01.Turn -/
def ZO.r0 : List Oper := [
 oD 4 (.mv (.c (.i .i64 0)))]
def ZO.r1 : List Oper := [
 oD 8 (.mv (.t 0)),
 oD 9 (.call (.c (.f 223 [])) [.t 8]),
 oD 5 (.mv (.t 9))]
def ZO.r2 : List Oper := [
 oD 10 (.mv (.t 1)),
 oD 11 (.call (.c (.f 223 [])) [.t 10]),
 oD 6 (.mv (.t 11))]
def ZO.r3 : List Oper := [
 oD 12 (.mv (.t 5)),
 oD 13 (.un .not (.t 12)),
 oD 14 (.mv (.t 13)),
 ⟨(some 15), .mv (.t 6), (some (14, false))⟩,
 ⟨(some 16), .un .not (.t 15), (some (14, false))⟩,
 oD 17 (.pick (.t 14) (.c (.b true)) (.t 16)),
 oD 18 (.mv (.t 17)),
 ⟨(some 19), .mv (.t 0), (some (18, false))⟩,
 ⟨(some 20), .mv (.t 1), (some (18, false))⟩,
 ⟨(some 21), .eq false .sc (.t 19) (.t 20), (some (18, false))⟩,
 oD 22 (.pick (.t 18) (.c (.b true)) (.t 21))]
def ZO.r4 : List Oper := [
 oD 4 (.mv (.c (.i .i64 0)))]
def ZO.r5 : List Oper := [
 oD 23 (.mv (.t 0)),
 oD 24 (.call (.c (.f 224 [])) [.t 23, .c (.i .i64 1)]),
 oD 7 (.mv (.t 24))]
def ZO.r6 : List Oper := [
 oD 25 (.mv (.t 7)),
 oD 26 (.mv (.t 1)),
 oD 27 (.eq false .sc (.t 25) (.t 26))]
def ZO.r7 : List Oper := [
 oD 4 (.mv (.c (.i .i64 1)))]
def ZO.r8 : List Oper := [
 oD 28 (.mv (.t 0)),
 oD 29 (.call (.c (.f 224 [])) [.t 28, .c (.i .i64 3)]),
 oD 7 (.mv (.t 29))]
def ZO.r9 : List Oper := [
 oD 30 (.mv (.t 7)),
 oD 31 (.mv (.t 1)),
 oD 32 (.eq false .sc (.t 30) (.t 31))]
def ZO.r10 : List Oper := [
 oD 4 (.mv (.c (.i .i64 (-1))))]
def ZO.r11 : List Oper := [
 oD 4 (.mv (.c (.i .i64 (-2))))]
def ZO.code : Code := .seq (.region ZO.r0) (.seq (.region ZO.r1) (.seq (.region ZO.r2) (.seq (.seq (.region ZO.r3) (.cond (.t 22) (.seq (.region ZO.r4) (.ret)) (.skip))) (.seq (.region ZO.r5) (.seq (.seq (.region ZO.r6) (.cond (.t 27) (.seq (.region ZO.r7) (.ret)) (.skip))) (.seq (.region ZO.r8) (.seq (.seq (.region ZO.r9) (.cond (.t 32) (.seq (.region ZO.r10) (.ret)) (.skip))) (.seq (.region ZO.r11) (.ret)))))))))
def ZO : Func := ⟨33, [.t 4], ZO.code⟩
/-! muntin/face.Rotation -/
def zh.r0 : List Oper := [
 oD 2 (.mv (.c (.i .i64 0)))]
def zh.r1 : List Oper := [
 oD 3 (.mv (.c (.i .i64 0)))]
def zh.r2 : List Oper := [
 oD 6 (.mv (.t 0)),
 oD 7 (.len (.t 6)),
 oD 8 (.mv (.c (.i .i64 0)))]
def zh.r3 : List Oper := [
 oD 9 (.bin .lss (.t 8) (.t 7))]
def zh.r4 : List Oper := [
 oD 10 (.ixa 1 (.t 6) (.t 8)),
 oD 11 (.ld false 1 (.t 10)),
 oD 5 (.mv (.t 11))]
def zh.r5 : List Oper := [
 oD 12 (.mv (.t 5)),
 oD 13 (.bin .geq (.t 12) (.c (.i .i64 (-2)))),
 oD 14 (.mv (.t 13)),
 ⟨(some 15), .mv (.t 5), (some (14, true))⟩,
 ⟨(some 16), .bin .leq (.t 15) (.c (.i .i64 1)), (some (14, true))⟩,
 oD 17 (.pick (.t 14) (.t 16) (.c (.b false)))]
def zh.r6 : List Oper := [
 oD 18 (.mv (.t 3)),
 oD 19 (.mv (.t 5)),
 oD 20 (.bin .add (.t 18) (.t 19)),
 oD 3 (.mv (.t 20))]
def zh.r7 : List Oper := [
 oD 21 (.bin .add (.t 8) (.c (.i .i64 1))),
 oD 8 (.mv (.t 21))]
def zh.l0 : Code := .seq (.region zh.r3) (.seq (.cond (.t 9) (.skip) (.exit 0)) (.seq (.block 1 (.seq (.region zh.r4) (.seq (.region zh.r5) (.cond (.t 17) (.region zh.r6) (.skip))))) (.region zh.r7)))
def zh.r8 : List Oper := [
 oD 22 (.mv (.t 3)),
 oD 2 (.mv (.t 22))]
def zh.code : Code := .seq (.region zh.r0) (.seq (.region zh.r1) (.seq (.seq (.region zh.r2) (.block 0 (.loop zh.l0))) (.seq (.region zh.r8) (.ret))))
def zh : Func := ⟨23, [.t 2], zh.code⟩
/-! (muntin/face.Dart).is -/
def Zar.r0 : List Oper := [
 oD 2 (.box (.t 0)),
 oD 4 (.mv (.c (.b false)))]
def Zar.r1 : List Oper := [
 oD 5 (.fa 0 (.t 2)),
 oD 6 (.ld false 1 (.t 5)),
 oD 7 (.bin .geq (.t 6) (.c (.i .i64 0))),
 oD 8 (.mv (.t 7)),
 ⟨(some 9), .fa 0 (.t 2), (some (8, true))⟩,
 ⟨(some 10), .ld false 1 (.t 9), (some (8, true))⟩,
 ⟨(some 11), .mv (.t 1), (some (8, true))⟩,
 ⟨(some 12), .len (.t 11), (some (8, true))⟩,
 ⟨(some 13), .bin .lss (.t 10) (.t 12), (some (8, true))⟩,
 oD 14 (.pick (.t 8) (.t 13) (.c (.b false))),
 oD 15 (.mv (.t 14)),
 ⟨(some 16), .fa 1 (.t 2), (some (15, true))⟩,
 ⟨(some 17), .ld false 1 (.t 16), (some (15, true))⟩,
 ⟨(some 18), .call (.c (.f 90 [])) [.t 17], (some (15, true))⟩,
 oD 19 (.pick (.t 15) (.t 18) (.c (.b false))),
 oD 20 (.mv (.t 19)),
 ⟨(some 21), .mv (.t 1), (some (20, true))⟩,
 ⟨(some 22), .fa 0 (.t 2), (some (20, true))⟩,
 ⟨(some 23), .ld false 1 (.t 22), (some (20, true))⟩,
 ⟨(some 24), .fa 1 (.t 2), (some (20, true))⟩,
 ⟨(some 25), .ld false 1 (.t 24), (some (20, true))⟩,
 ⟨(some 26), .ixa 8 (.t 21) (.t 23), (some (20, true))⟩,
 ⟨(some 27), .fa 0 (.t 26), (some (20, true))⟩,
 ⟨(some 28), .ixaa 1 4 (.t 27) (.t 25), (some (20, true))⟩,
 ⟨(some 29), .ld false 1 (.t 28), (some (20, true))⟩,
 ⟨(some 30), .bin .geq (.t 29) (.c (.i .i64 0)), (some (20, true))⟩,
 oD 31 (.pick (.t 20) (.t 30) (.c (.b false))),
 oD 4 (.mv (.t 31))]
def Zar.code : Code := .seq (.region Zar.r0) (.seq (.draw Zar.r1 [(18, 20)]) (.ret))
def Zar : Func := ⟨32, [.t 4], Zar.code⟩
/-! (muntin/face.Dart).behind -/
def ZW.r0 : List Oper := [
 oD 2 (.box (.t 0)),
 oD 4 (.alloc [.i .i64 0, .i .i64 0])]
def ZW.r1 : List Oper := [
 oD 9 (.mv (.t 1)),
 oD 10 (.fa 0 (.t 2)),
 oD 11 (.ld false 1 (.t 10)),
 oD 12 (.fa 1 (.t 2)),
 oD 13 (.ld false 1 (.t 12)),
 oD 14 (.ixa 8 (.t 9) (.t 11)),
 oD 15 (.fa 0 (.t 14)),
 oD 16 (.ixaa 1 4 (.t 15) (.t 13)),
 oD 17 (.ld false 1 (.t 16)),
 oD 5 (.mv (.t 17))]
def ZW.r2 : List Oper := [
 oD 18 (.build [.i .i64 0, .i .i64 0, .i .i64 0, .i .i64 0] [(0, 1, .c (.i .i64 1)), (1, 1, .c (.i .i64 0)), (2, 1, .c (.i .i64 (-1))), (3, 1, .c (.i .i64 2))]),
 oD 19 (.mv (.c (.i .i64 0)))]
def ZW.r3 : List Oper := [
 oD 20 (.bin .lss (.t 19) (.c (.i .i64 4)))]
def ZW.r4 : List Oper := [
 oD 21 (.ix false 1 4 (.t 18) (.t 19)),
 oD 7 (.mv (.t 21))]
def ZW.r5 : List Oper := [
 oD 22 (.mv (.t 5)),
 oD 23 (.fa 1 (.t 2)),
 oD 24 (.ld false 1 (.t 23)),
 oD 25 (.mv (.t 7)),
 oD 26 (.call (.c (.f 77 [])) [.t 24, .t 25]),
 oD 27 (.build [.i .i64 0, .i .i64 0] [(0, 1, .t 22), (1, 1, .t 26)]),
 oD 8 (.alloc [.i .i64 0, .i .i64 0]),
 oN (.st 2 (.t 8) (.t 27))]
def ZW.r6 : List Oper := [
 oD 28 (.ld true 2 (.t 8)),
 oD 29 (.mv (.t 1)),
 oD 30 (.call (.c (.f 220 [])) [.t 28, .t 29])]
def ZW.r7 : List Oper := [
 oD 31 (.ld true 2 (.t 8)),
 oN (.st 2 (.t 4) (.t 31))]
def ZW.r8 : List Oper := [
 oD 32 (.bin .add (.t 19) (.c (.i .i64 1))),
 oD 19 (.mv (.t 32))]
def ZW.l0 : Code := .seq (.region ZW.r3) (.seq (.cond (.t 20) (.skip) (.exit 0)) (.seq (.block 1 (.seq (.region ZW.r4) (.seq (.region ZW.r5) (.seq (.region ZW.r6) (.cond (.t 30) (.seq (.region ZW.r7) (.ret)) (.skip)))))) (.region ZW.r8)))
def ZW.r9 : List Oper := [
 oD 33 (.ld true 2 (.t 2)),
 oN (.st 2 (.t 4) (.t 33))]
def ZW.code : Code := .seq (.region ZW.r0) (.seq (.draw ZW.r1 [(2, 4)]) (.seq (.seq (.region ZW.r2) (.block 0 (.loop ZW.l0))) (.seq (.region ZW.r9) (.ret))))
def ZW : Func := ⟨34, [.cell 4 true 2], ZW.code⟩
/-! muntin/compass.Turn -/
def zV.r0 : List Oper := [
 oD 4 (.mv (.c (.i .i64 0)))]
def zV.r1 : List Oper := [
 oD 5 (.mv (.t 0)),
 oD 6 (.call (.c (.f 90 [])) [.t 5]),
 oD 7 (.un .not (.t 6)),
 oD 8 (.mv (.t 7)),
 ⟨(some 9), .mv (.t 1), (some (8, false))⟩,
 ⟨(some 10), .call (.c (.f 90 [])) [.t 9], (some (8, false))⟩,
 ⟨(some 11), .un .not (.t 10), (some (8, false))⟩,
 oD 12 (.pick (.t 8) (.c (.b true)) (.t 11))]
def zV.r2 : List Oper := [
 oD 4 (.mv (.c (.i .i64 0)))]
def zV.r3 : List Oper := [
 oD 13 (.build [.i .i64 0, .i .i64 0, .i .i64 0, .i .i64 0] [(0, 1, .c (.i .i64 0)), (1, 1, .c (.i .i64 1)), (2, 1, .c (.i .i64 (-2))), (3, 1, .c (.i .i64 (-1)))]),
 oD 14 (.mv (.t 1)),
 oD 15 (.mv (.t 0)),
 oD 16 (.bin .sub (.t 14) (.t 15)),
 oD 17 (.bin .add (.t 16) (.c (.i .i64 4))),
 oD 18 (.bin .rem (.t 17) (.c (.i .i64 4))),
 oD 19 (.ix false 1 4 (.t 13) (.t 18)),
 oD 4 (.mv (.t 19))]
def zV.code : Code := .seq (.region zV.r0) (.seq (.seq (.region zV.r1) (.cond (.t 12) (.seq (.region zV.r2) (.ret)) (.skip))) (.seq (.region zV.r3) (.ret)))
def zV : Func := ⟨20, [.t 4], zV.code⟩
/-! muntin/muntinref01.Good -/
def zZ.r0 : List Oper := [
 oD 2 (.mv (.c (.b false)))]
def zZ.r1 : List Oper := [
 oD 3 (.mv (.t 0)),
 oD 4 (.bin .geq (.t 3) (.c (.i .i64 0))),
 oD 5 (.mv (.t 4)),
 ⟨(some 6), .mv (.t 0), (some (5, true))⟩,
 ⟨(some 7), .bin .leq (.t 6) (.c (.i .i64 3)), (some (5, true))⟩,
 oD 8 (.pick (.t 5) (.t 7) (.c (.b false))),
 oD 2 (.mv (.t 8))]
def zZ.code : Code := .seq (.region zZ.r0) (.seq (.region zZ.r1) (.ret))
def zZ : Func := ⟨9, [.t 2], zZ.code⟩
/-! muntin/muntinref01.Left -/
def ze.r0 : List Oper := [
 oD 4 (.mv (.c (.i .i64 0)))]
def ze.r1 : List Oper := [
 oD 7 (.mv (.t 0)),
 oD 8 (.call (.c (.f 223 [])) [.t 7]),
 oD 5 (.mv (.t 8))]
def ze.r2 : List Oper := [
 oD 9 (.mv (.t 5)),
 oD 10 (.un .not (.t 9))]
def ze.r3 : List Oper := [
 oD 4 (.mv (.c (.i .i64 0)))]
def ze.r4 : List Oper := [
 oD 11 (.mv (.t 1)),
 oD 12 (.bin .rem (.t 11) (.c (.i .i64 4))),
 oD 6 (.mv (.t 12))]
def ze.r5 : List Oper := [
 oD 13 (.mv (.t 6)),
 oD 14 (.bin .lss (.t 13) (.c (.i .i64 0)))]
def ze.r6 : List Oper := [
 oD 15 (.mv (.t 6)),
 oD 16 (.bin .add (.t 15) (.c (.i .i64 4))),
 oD 6 (.mv (.t 16))]
def ze.r7 : List Oper := [
 oD 17 (.mv (.t 0)),
 oD 18 (.mv (.t 6)),
 oD 19 (.bin .add (.t 17) (.t 18)),
 oD 20 (.bin .rem (.t 19) (.c (.i .i64 4))),
 oD 4 (.mv (.t 20))]
def ze.code : Code := .seq (.region ze.r0) (.seq (.region ze.r1) (.seq (.seq (.region ze.r2) (.cond (.t 10) (.seq (.region ze.r3) (.ret)) (.skip))) (.seq (.region ze.r4) (.seq (.seq (.region ze.r5) (.cond (.t 14) (.region ze.r6) (.skip))) (.seq (.region ze.r7) (.ret))))))
def ze : Func := ⟨21, [.t 4], ze.code⟩
def G : Prog := fun i => match i with
  | 19 => some ZS
  | 20 => some ZE
  | 22 => some Zai
  | 23 => some Z3
  | 24 => some zb
  | 25 => some ZB
  | 27 => some zm
  | 28 => some Zm
  | 29 => some ZC
  | 30 => some Z4
  | 32 => some Zas
  | 34 => some Zw
  | 36 => some Zy
  | 46 => some ZV
  | 59 => some Zaz
  | 60 => some zz
  | 61 => some Zah
  | 62 => some zD
  | 63 => some ZD
  | 64 => some Zz
  | 65 => some ZA
  | 66 => some za
  | 67 => some ZM
  | 77 => some zW
  | 78 => some zI
  | 80 => some Zam
  | 81 => some Z9
  | 82 => some z6
  | 83 => some ZH
  | 89 => some Zap
  | 90 => some Zau
  | 91 => some ZQ
  | 97 => some Zat
  | 98 => some zo
  | 160 => some Zn
  | 176 => some zu
  | 177 => some Zx
  | 180 => some ZY
  | 181 => some Zs
  | 182 => some ZX
  | 201 => some ZZ
  | 202 => some ZJ
  | 203 => some Z6
  | 204 => some zp
  | 206 => some ZN
  | 207 => some ZO
  | 219 => some zh
  | 220 => some Zar
  | 221 => some ZW
  | 222 => some zV
  | 223 => some zZ
  | 224 => some ze
  | _ => none
theorem G_F_kitty_Corners : G 19 = some ZS := rfl
theorem G_F_muntinref15_Corners : G 20 = some ZE := rfl
theorem G_F_kitty_Rot : G 22 = some Zai := rfl
theorem G_F_muntinref15_Rot : G 23 = some Z3 := rfl
theorem G_F_kitty_Pair : G 24 = some zb := rfl
theorem G_F_muntinref15_Pair : G 25 = some ZB := rfl
theorem G_F_muntinlaw15_wakes : G 27 = some zm := rfl
theorem G_F_muntinref10_Make : G 28 = some Zm := rfl
theorem G_F_join_Parts : G 29 = some ZC := rfl
theorem G_F_muntinref13_Parts : G 30 = some Z4 := rfl
theorem G_F_join_Whole : G 32 = some Zas := rfl
theorem G_F_muntinref10_Check : G 34 = some Zw := rfl
theorem G_F_muntinref13_Far : G 36 = some Zy := rfl
theorem G_F_muntinref10_New : G 46 = some ZV := rfl
theorem G_F_kitty_right : G 59 = some Zaz := rfl
theorem G_F_slices_Contains_kitty_Corner : G 60 = some zz := rfl
theorem G_F_kitty_rot : G 61 = some Zah := rfl
theorem G_F_kitty_sums : G 62 = some zD := rfl
theorem G_F_muntinref10_Nearest : G 63 = some ZD := rfl
theorem G_F_muntinref10_Crossed : G 64 = some Zz := rfl
theorem G_F_muntinref10_with : G 65 = some ZA := rfl
theorem G_F_grid_Check : G 66 = some za := rfl
theorem G_F_join_spread : G 67 = some ZM := rfl
theorem G_F_compass_Left : G 77 = some zW := rfl
theorem G_F_slices_ContainsFunc_int : G 78 = some zI := rfl
theorem G_F_kitty_right_1 : G 80 = some Zam := rfl
theorem G_F_slices_Index_kitty_Corner : G 81 = some Z9 := rfl
theorem G_F_grid_side : G 82 = some z6 := rfl
theorem G_F_slices_Repeat_int : G 83 = some ZH := rfl
theorem G_F_bits_Mul : G 89 = some Zap := rfl
theorem G_F_compass_Good : G 90 = some Zau := rfl
theorem G_F_slices_IndexFunc_int : G 91 = some ZQ := rfl
theorem G_F_bits_Mul32 : G 97 = some Zat := rfl
theorem G_F_bits_Mul64 : G 98 = some zo := rfl
theorem G_F_muntinlaw15_KittyRegular : G 160 = some Zn := rfl
theorem G_F_valid_Check : G 176 = some zu := rfl
theorem G_F_muntinref12_Faces : G 177 = some Zx := rfl
theorem G_F_kitty_Regular : G 180 = some ZY := rfl
theorem G_F_muntinref14_Outer : G 181 = some Zs := rfl
theorem G_F_muntinref12_Turns : G 182 = some ZX := rfl
theorem G_F_valid_outer : G 201 = some ZZ := rfl
theorem G_F_muntinref12_Behind : G 202 = some ZJ := rfl
theorem G_F_face_Faces : G 203 = some Z6 := rfl
theorem G_F_face_Turns : G 204 = some zp := rfl
theorem G_F_muntinref12_Rotation : G 206 = some ZN := rfl
theorem G_F_muntinref01_Turn : G 207 = some ZO := rfl
theorem G_F_face_Rotation : G 219 = some zh := rfl
theorem G_F_face_Dart_is : G 220 = some Zar := rfl
theorem G_F_face_Dart_behind : G 221 = some ZW := rfl
theorem G_F_compass_Turn : G 222 = some zV := rfl
theorem G_F_muntinref01_Good : G 223 = some zZ := rfl
theorem G_F_muntinref01_Left : G 224 = some ze := rfl
end Mu
