/- The functions of the program, as the evaluator has them: printed by a program; checked against the model's. -/
import Derived.Test.YteedifiifkghkaaMuE0
namespace Mu
/-! muntin/muntinlaw15.KittyTells -/
def F_muntinlaw15_KittyTells.r0 : List Oper := [
  ⟨(some 4), .box (.t 1), none⟩,
  ⟨(some 5), .box (.t 2), none⟩,
  ⟨(some 6), .mv (.c (.b false)), none⟩]
def F_muntinlaw15_KittyTells.r1 : List Oper := [
  ⟨(some 25), .mv (.t 0), none⟩,
  ⟨(some 26), .call (.c (.f 18 [])) [.t 25, .c (.b false)], none⟩,
  ⟨(some 27), .mv (.t 0), none⟩,
  ⟨(some 28), .call (.c (.f 18 [])) [.t 27, .c (.b true)], none⟩,
  ⟨(some 29), .bsl 1 2 [.sn] [(0, 1, .t 26), (1, 1, .t 28)], none⟩,
  ⟨(some 30), .len (.t 29), none⟩,
  ⟨(some 31), .mv (.c (.i .i64 0)), none⟩]
def F_muntinlaw15_KittyTells.r2 : List Oper := [
  ⟨(some 32), .bin .lss (.t 31) (.t 30), none⟩]
def F_muntinlaw15_KittyTells.r3 : List Oper := [
  ⟨(some 33), .ixa 1 (.t 29) (.t 31), none⟩,
  ⟨(some 34), .ld false 1 (.t 33), none⟩,
  ⟨(some 8), .mv (.t 34), none⟩]
def F_muntinlaw15_KittyTells.r4 : List Oper := [
  ⟨(some 35), .mv (.t 8), none⟩,
  ⟨(some 36), .call (.c (.f 19 [])) [.t 35], none⟩,
  ⟨(some 37), .mv (.t 8), none⟩,
  ⟨(some 38), .call (.c (.f 20 [])) [.t 37], none⟩,
  ⟨(some 9), .mv (.t 36), none⟩,
  ⟨(some 10), .mv (.t 38), none⟩]
def F_muntinlaw15_KittyTells.r5 : List Oper := [
  ⟨(some 39), .mv (.t 9), none⟩,
  ⟨(some 40), .len (.t 39), none⟩,
  ⟨(some 41), .mv (.t 10), none⟩,
  ⟨(some 42), .len (.t 41), none⟩,
  ⟨(some 43), .eq true .sc (.t 40) (.t 42), none⟩]
def F_muntinlaw15_KittyTells.r6 : List Oper := [
  ⟨(some 6), .mv (.c (.b false)), none⟩]
def F_muntinlaw15_KittyTells.r7 : List Oper := [
  ⟨(some 44), .mv (.t 8), none⟩,
  ⟨(some 45), .call (.c (.f 21 [])) [.t 44], none⟩,
  ⟨(some 11), .mv (.t 45), none⟩]
def F_muntinlaw15_KittyTells.r8 : List Oper := [
  ⟨(some 46), .mv (.t 9), none⟩,
  ⟨(some 47), .len (.t 46), none⟩,
  ⟨(some 48), .mv (.c (.i .i64 0)), none⟩]
def F_muntinlaw15_KittyTells.r9 : List Oper := [
  ⟨(some 49), .bin .lss (.t 48) (.t 47), none⟩]
def F_muntinlaw15_KittyTells.r10 : List Oper := [
  ⟨(some 50), .mv (.t 48), none⟩,
  ⟨(some 12), .mv (.t 50), none⟩]
def F_muntinlaw15_KittyTells.r11 : List Oper := [
  ⟨(some 51), .mv (.t 9), none⟩,
  ⟨(some 52), .mv (.t 12), none⟩,
  ⟨(some 53), .ixa 2 (.t 51) (.t 52), none⟩,
  ⟨(some 54), .fa 0 (.t 53), none⟩,
  ⟨(some 55), .ld false 1 (.t 54), none⟩,
  ⟨(some 56), .mv (.t 10), none⟩,
  ⟨(some 57), .mv (.t 12), none⟩,
  ⟨(some 58), .ixa 2 (.t 56) (.t 57), none⟩,
  ⟨(some 59), .fa 0 (.t 58), none⟩,
  ⟨(some 60), .ld false 1 (.t 59), none⟩,
  ⟨(some 61), .eq true .sc (.t 55) (.t 60), none⟩,
  ⟨(some 62), .mv (.t 61), none⟩,
  ⟨(some 63), .mv (.t 9), (some (62, false))⟩,
  ⟨(some 64), .mv (.t 12), (some (62, false))⟩,
  ⟨(some 65), .ixa 2 (.t 63) (.t 64), (some (62, false))⟩,
  ⟨(some 66), .fa 1 (.t 65), (some (62, false))⟩,
  ⟨(some 67), .ld false 1 (.t 66), (some (62, false))⟩,
  ⟨(some 68), .mv (.t 10), (some (62, false))⟩,
  ⟨(some 69), .mv (.t 12), (some (62, false))⟩,
  ⟨(some 70), .ixa 2 (.t 68) (.t 69), (some (62, false))⟩,
  ⟨(some 71), .fa 1 (.t 70), (some (62, false))⟩,
  ⟨(some 72), .ld false 1 (.t 71), (some (62, false))⟩,
  ⟨(some 73), .eq true .sc (.t 67) (.t 72), (some (62, false))⟩,
  ⟨(some 74), .pick (.t 62) (.c (.b true)) (.t 73), none⟩]
def F_muntinlaw15_KittyTells.r12 : List Oper := [
  ⟨(some 6), .mv (.c (.b false)), none⟩]
def F_muntinlaw15_KittyTells.r13 : List Oper := [
  ⟨(some 75), .mv (.t 9), none⟩,
  ⟨(some 76), .len (.t 75), none⟩,
  ⟨(some 77), .mv (.c (.i .i64 0)), none⟩]
def F_muntinlaw15_KittyTells.r14 : List Oper := [
  ⟨(some 78), .bin .lss (.t 77) (.t 76), none⟩]
def F_muntinlaw15_KittyTells.r15 : List Oper := [
  ⟨(some 79), .mv (.t 77), none⟩,
  ⟨(some 13), .mv (.t 79), none⟩]
def F_muntinlaw15_KittyTells.r16 : List Oper := [
  ⟨(some 81), .mv (.t 8), none⟩,
  ⟨(some 82), .mv (.t 9), none⟩,
  ⟨(some 83), .mv (.t 12), none⟩,
  ⟨(some 84), .ixa 2 (.t 82) (.t 83), none⟩,
  ⟨(some 85), .ld true 2 (.t 84), none⟩,
  ⟨(some 86), .mv (.t 9), none⟩,
  ⟨(some 87), .mv (.t 13), none⟩,
  ⟨(some 88), .ixa 2 (.t 86) (.t 87), none⟩,
  ⟨(some 89), .ld true 2 (.t 88), none⟩,
  ⟨(some 90), .call (.c (.f 22 [])) [.t 81, .t 85, .t 89], none⟩,
  ⟨(some 80), .mv (.t 90), none⟩,
  ⟨(some 91), .ext (.t 80) 0, none⟩,
  ⟨(some 92), .ext (.t 80) 1, none⟩,
  ⟨(some 14), .mv (.t 91), none⟩,
  ⟨(some 15), .mv (.t 92), none⟩]
def F_muntinlaw15_KittyTells.r17 : List Oper := [
  ⟨(some 93), .mv (.t 15), none⟩,
  ⟨(some 94), .eq false .sc (.t 93) (.c (.i .i64 0)), none⟩,
  ⟨(some 95), .mv (.t 11), none⟩,
  ⟨(some 96), .eq true .bl (.t 94) (.t 95), none⟩,
  ⟨(some 97), .mv (.t 96), none⟩,
  ⟨(some 98), .mv (.t 11), (some (97, false))⟩,
  ⟨(some 99), .mv (.t 98), (some (97, false))⟩,
  ⟨(some 100), .mv (.t 14), (some (99, true))⟩,
  ⟨(some 101), .mv (.t 8), (some (99, true))⟩,
  ⟨(some 102), .mv (.t 10), (some (99, true))⟩,
  ⟨(some 103), .mv (.t 12), (some (99, true))⟩,
  ⟨(some 104), .ixa 2 (.t 102) (.t 103), (some (99, true))⟩,
  ⟨(some 105), .ld true 2 (.t 104), (some (99, true))⟩,
  ⟨(some 106), .mv (.t 10), (some (99, true))⟩,
  ⟨(some 107), .mv (.t 13), (some (99, true))⟩,
  ⟨(some 108), .ixa 2 (.t 106) (.t 107), (some (99, true))⟩,
  ⟨(some 109), .ld true 2 (.t 108), (some (99, true))⟩,
  ⟨(some 110), .call (.c (.f 23 [])) [.t 101, .t 105, .t 109], (some (99, true))⟩,
  ⟨(some 111), .eq true .sc (.t 100) (.t 110), (some (99, true))⟩,
  ⟨(some 112), .pick (.t 99) (.t 111) (.c (.b false)), (some (97, false))⟩,
  ⟨(some 113), .pick (.t 97) (.c (.b true)) (.t 112), none⟩,
  ⟨(some 114), .mv (.t 113), none⟩,
  ⟨(some 115), .mv (.t 11), (some (114, false))⟩,
  ⟨(some 116), .un .not (.t 115), (some (114, false))⟩,
  ⟨(some 117), .mv (.t 116), (some (114, false))⟩,
  ⟨(some 118), .mv (.t 15), (some (117, true))⟩,
  ⟨(some 119), .eq true .sc (.t 118) (.c (.i .i64 2)), (some (117, true))⟩,
  ⟨(some 120), .mv (.t 119), (some (117, true))⟩,
  ⟨(some 121), .mv (.t 14), (some (120, false))⟩,
  ⟨(some 122), .eq true .sc (.t 121) (.c (.i .i64 0)), (some (120, false))⟩,
  ⟨(some 123), .pick (.t 120) (.c (.b true)) (.t 122), (some (117, true))⟩,
  ⟨(some 124), .pick (.t 117) (.t 123) (.c (.b false)), (some (114, false))⟩,
  ⟨(some 125), .pick (.t 114) (.c (.b true)) (.t 124), none⟩]
def F_muntinlaw15_KittyTells.r18 : List Oper := [
  ⟨(some 6), .mv (.c (.b false)), none⟩]
def F_muntinlaw15_KittyTells.r19 : List Oper := [
  ⟨(some 126), .bin .add (.t 77) (.c (.i .i64 1)), none⟩,
  ⟨(some 77), .mv (.t 126), none⟩]
def F_muntinlaw15_KittyTells.l0 : Code := .seq (.region F_muntinlaw15_KittyTells.r14) (.seq (.cond (.t 78) (.skip) (.exit 4)) (.seq (.block 5 (.seq (.region F_muntinlaw15_KittyTells.r15) (.seq (.draw F_muntinlaw15_KittyTells.r16 [(4, 8)]) (.seq (.draw F_muntinlaw15_KittyTells.r17 [(12, 16)]) (.cond (.t 125) (.seq (.region F_muntinlaw15_KittyTells.r18) (.ret)) (.skip)))))) (.region F_muntinlaw15_KittyTells.r19)))
def F_muntinlaw15_KittyTells.r20 : List Oper := [
  ⟨(some 127), .bin .add (.t 48) (.c (.i .i64 1)), none⟩,
  ⟨(some 48), .mv (.t 127), none⟩]
def F_muntinlaw15_KittyTells.l1 : Code := .seq (.region F_muntinlaw15_KittyTells.r9) (.seq (.cond (.t 49) (.skip) (.exit 2)) (.seq (.block 3 (.seq (.region F_muntinlaw15_KittyTells.r10) (.seq (.seq (.draw F_muntinlaw15_KittyTells.r11 [(4, 9), (16, 21)]) (.cond (.t 74) (.seq (.region F_muntinlaw15_KittyTells.r12) (.ret)) (.skip))) (.seq (.region F_muntinlaw15_KittyTells.r13) (.block 4 (.loop F_muntinlaw15_KittyTells.l0)))))) (.region F_muntinlaw15_KittyTells.r20)))
def F_muntinlaw15_KittyTells.r21 : List Oper := [
  ⟨(some 129), .mv (.t 8), none⟩,
  ⟨(some 130), .call (.c (.f 24 [])) [.t 129], none⟩,
  ⟨(some 128), .mv (.t 130), none⟩,
  ⟨(some 131), .ext (.t 128) 0, none⟩,
  ⟨(some 132), .ext (.t 128) 1, none⟩,
  ⟨(some 133), .ext (.t 128) 2, none⟩,
  ⟨(some 16), .alloc [.i .i64 0, .i .i64 0], none⟩,
  ⟨(some 17), .alloc [.i .i64 0, .i .i64 0], none⟩,
  ⟨none, .st 2 (.t 16) (.t 131), none⟩,
  ⟨none, .st 2 (.t 17) (.t 132), none⟩,
  ⟨(some 18), .mv (.t 133), none⟩]
def F_muntinlaw15_KittyTells.r22 : List Oper := [
  ⟨(some 135), .mv (.t 8), none⟩,
  ⟨(some 136), .call (.c (.f 25 [])) [.t 135], none⟩,
  ⟨(some 134), .mv (.t 136), none⟩,
  ⟨(some 137), .ext (.t 134) 0, none⟩,
  ⟨(some 138), .ext (.t 134) 1, none⟩,
  ⟨(some 139), .ext (.t 134) 2, none⟩,
  ⟨(some 19), .alloc [.i .i64 0, .i .i64 0], none⟩,
  ⟨(some 20), .alloc [.i .i64 0, .i .i64 0], none⟩,
  ⟨none, .st 2 (.t 19) (.t 137), none⟩,
  ⟨none, .st 2 (.t 20) (.t 138), none⟩,
  ⟨(some 21), .mv (.t 139), none⟩]
def F_muntinlaw15_KittyTells.r23 : List Oper := [
  ⟨(some 140), .mv (.t 11), none⟩,
  ⟨(some 141), .un .not (.t 140), none⟩]
def F_muntinlaw15_KittyTells.r24 : List Oper := [
  ⟨(some 142), .build [.i .i64 0, .i .i64 0] [], none⟩,
  ⟨(some 143), .build [.i .i64 0, .i .i64 0] [], none⟩,
  ⟨none, .st 2 (.t 19) (.t 142), none⟩,
  ⟨none, .st 2 (.t 20) (.t 143), none⟩,
  ⟨(some 21), .mv (.c (.b false)), none⟩]
def F_muntinlaw15_KittyTells.r25 : List Oper := [
  ⟨(some 144), .mv (.t 18), none⟩,
  ⟨(some 145), .mv (.t 21), none⟩,
  ⟨(some 146), .eq true .bl (.t 144) (.t 145), none⟩,
  ⟨(some 147), .mv (.t 146), none⟩,
  ⟨(some 148), .fa 0 (.t 16), (some (147, false))⟩,
  ⟨(some 149), .ld false 1 (.t 148), (some (147, false))⟩,
  ⟨(some 150), .fa 0 (.t 19), (some (147, false))⟩,
  ⟨(some 151), .ld false 1 (.t 150), (some (147, false))⟩,
  ⟨(some 152), .eq true .sc (.t 149) (.t 151), (some (147, false))⟩,
  ⟨(some 153), .pick (.t 147) (.c (.b true)) (.t 152), none⟩,
  ⟨(some 154), .mv (.t 153), none⟩,
  ⟨(some 155), .fa 1 (.t 16), (some (154, false))⟩,
  ⟨(some 156), .ld false 1 (.t 155), (some (154, false))⟩,
  ⟨(some 157), .fa 1 (.t 19), (some (154, false))⟩,
  ⟨(some 158), .ld false 1 (.t 157), (some (154, false))⟩,
  ⟨(some 159), .eq true .sc (.t 156) (.t 158), (some (154, false))⟩,
  ⟨(some 160), .pick (.t 154) (.c (.b true)) (.t 159), none⟩,
  ⟨(some 161), .mv (.t 160), none⟩,
  ⟨(some 162), .fa 0 (.t 17), (some (161, false))⟩,
  ⟨(some 163), .ld false 1 (.t 162), (some (161, false))⟩,
  ⟨(some 164), .fa 0 (.t 20), (some (161, false))⟩,
  ⟨(some 165), .ld false 1 (.t 164), (some (161, false))⟩,
  ⟨(some 166), .eq true .sc (.t 163) (.t 165), (some (161, false))⟩,
  ⟨(some 167), .pick (.t 161) (.c (.b true)) (.t 166), none⟩,
  ⟨(some 168), .mv (.t 167), none⟩,
  ⟨(some 169), .fa 1 (.t 17), (some (168, false))⟩,
  ⟨(some 170), .ld false 1 (.t 169), (some (168, false))⟩,
  ⟨(some 171), .fa 1 (.t 20), (some (168, false))⟩,
  ⟨(some 172), .ld false 1 (.t 171), (some (168, false))⟩,
  ⟨(some 173), .eq true .sc (.t 170) (.t 172), (some (168, false))⟩,
  ⟨(some 174), .pick (.t 168) (.c (.b true)) (.t 173), none⟩]
def F_muntinlaw15_KittyTells.r26 : List Oper := [
  ⟨(some 6), .mv (.c (.b false)), none⟩]
def F_muntinlaw15_KittyTells.r27 : List Oper := [
  ⟨(some 176), .mv (.t 8), none⟩,
  ⟨(some 177), .ld true 2 (.t 4), none⟩,
  ⟨(some 178), .ld true 2 (.t 5), none⟩,
  ⟨(some 179), .call (.c (.f 22 [])) [.t 176, .t 177, .t 178], none⟩,
  ⟨(some 175), .mv (.t 179), none⟩,
  ⟨(some 180), .ext (.t 175) 0, none⟩,
  ⟨(some 181), .ext (.t 175) 1, none⟩,
  ⟨(some 22), .mv (.t 180), none⟩,
  ⟨(some 23), .mv (.t 181), none⟩]
def F_muntinlaw15_KittyTells.r28 : List Oper := [
  ⟨(some 182), .mv (.t 11), none⟩,
  ⟨(some 183), .mv (.t 182), none⟩,
  ⟨(some 184), .mv (.t 8), (some (183, true))⟩,
  ⟨(some 185), .fa 0 (.t 4), (some (183, true))⟩,
  ⟨(some 186), .ld false 1 (.t 185), (some (183, true))⟩,
  ⟨(some 187), .fa 1 (.t 4), (some (183, true))⟩,
  ⟨(some 188), .ld false 1 (.t 187), (some (183, true))⟩,
  ⟨(some 189), .build [.i .i64 0, .i .i64 0] [(0, 1, .t 186), (1, 1, .t 188)], (some (183, true))⟩,
  ⟨(some 190), .call (.c (.f 26 [])) [.t 184, .t 189], (some (183, true))⟩,
  ⟨(some 191), .pick (.t 183) (.t 190) (.c (.b false)), none⟩,
  ⟨(some 192), .mv (.t 191), none⟩,
  ⟨(some 193), .mv (.t 8), (some (192, true))⟩,
  ⟨(some 194), .fa 0 (.t 5), (some (192, true))⟩,
  ⟨(some 195), .ld false 1 (.t 194), (some (192, true))⟩,
  ⟨(some 196), .fa 1 (.t 5), (some (192, true))⟩,
  ⟨(some 197), .ld false 1 (.t 196), (some (192, true))⟩,
  ⟨(some 198), .build [.i .i64 0, .i .i64 0] [(0, 1, .t 195), (1, 1, .t 197)], (some (192, true))⟩,
  ⟨(some 199), .call (.c (.f 26 [])) [.t 193, .t 198], (some (192, true))⟩,
  ⟨(some 200), .pick (.t 192) (.t 199) (.c (.b false)), none⟩,
  ⟨(some 24), .mv (.t 200), none⟩]
def F_muntinlaw15_KittyTells.r29 : List Oper := [
  ⟨(some 201), .mv (.t 23), none⟩,
  ⟨(some 202), .eq false .sc (.t 201) (.c (.i .i64 0)), none⟩,
  ⟨(some 203), .mv (.t 24), none⟩,
  ⟨(some 204), .eq true .bl (.t 202) (.t 203), none⟩,
  ⟨(some 205), .mv (.t 204), none⟩,
  ⟨(some 206), .mv (.t 24), (some (205, false))⟩,
  ⟨(some 207), .un .not (.t 206), (some (205, false))⟩,
  ⟨(some 208), .mv (.t 207), (some (205, false))⟩,
  ⟨(some 209), .mv (.t 23), (some (208, true))⟩,
  ⟨(some 210), .eq true .sc (.t 209) (.c (.i .i64 2)), (some (208, true))⟩,
  ⟨(some 211), .pick (.t 208) (.t 210) (.c (.b false)), (some (205, false))⟩,
  ⟨(some 212), .pick (.t 205) (.c (.b true)) (.t 211), none⟩]
def F_muntinlaw15_KittyTells.r30 : List Oper := [
  ⟨(some 6), .mv (.c (.b false)), none⟩]
def F_muntinlaw15_KittyTells.r31 : List Oper := [
  ⟨(some 213), .bin .add (.t 31) (.c (.i .i64 1)), none⟩,
  ⟨(some 31), .mv (.t 213), none⟩]
def F_muntinlaw15_KittyTells.l2 : Code := .seq (.region F_muntinlaw15_KittyTells.r2) (.seq (.cond (.t 32) (.skip) (.exit 0)) (.seq (.block 1 (.seq (.region F_muntinlaw15_KittyTells.r3) (.seq (.region F_muntinlaw15_KittyTells.r4) (.seq (.seq (.region F_muntinlaw15_KittyTells.r5) (.cond (.t 43) (.seq (.region F_muntinlaw15_KittyTells.r6) (.ret)) (.skip))) (.seq (.region F_muntinlaw15_KittyTells.r7) (.seq (.seq (.region F_muntinlaw15_KittyTells.r8) (.block 2 (.loop F_muntinlaw15_KittyTells.l1))) (.seq (.region F_muntinlaw15_KittyTells.r21) (.seq (.region F_muntinlaw15_KittyTells.r22) (.seq (.seq (.region F_muntinlaw15_KittyTells.r23) (.cond (.t 141) (.region F_muntinlaw15_KittyTells.r24) (.skip))) (.seq (.seq (.region F_muntinlaw15_KittyTells.r25) (.cond (.t 174) (.seq (.region F_muntinlaw15_KittyTells.r26) (.ret)) (.skip))) (.seq (.region F_muntinlaw15_KittyTells.r27) (.seq (.region F_muntinlaw15_KittyTells.r28) (.seq (.region F_muntinlaw15_KittyTells.r29) (.cond (.t 212) (.seq (.region F_muntinlaw15_KittyTells.r30) (.ret)) (.skip))))))))))))))) (.region F_muntinlaw15_KittyTells.r31)))
def F_muntinlaw15_KittyTells.r32 : List Oper := [
  ⟨(some 214), .call (.c (.f 27 [])) [], none⟩,
  ⟨(some 6), .mv (.t 214), none⟩]
def F_muntinlaw15_KittyTells.code : Code := .seq (.region F_muntinlaw15_KittyTells.r0) (.seq (.seq (.region F_muntinlaw15_KittyTells.r1) (.block 0 (.loop F_muntinlaw15_KittyTells.l2))) (.seq (.region F_muntinlaw15_KittyTells.r32) (.ret)))
def F_muntinlaw15_KittyTells : Func := ⟨215, [.t 6], F_muntinlaw15_KittyTells.code⟩
/-! muntin/muntinlaw15.turns -/
def F_muntinlaw15_turns.r0 : List Oper := [
  ⟨(some 4), .mv (.c (.sn)), none⟩]
def F_muntinlaw15_turns.r1 : List Oper := [
  ⟨(some 5), .mv (.c (.sn)), none⟩]
def F_muntinlaw15_turns.r2 : List Oper := [
  ⟨(some 9), .mv (.t 0), none⟩,
  ⟨(some 10), .mv (.t 0), none⟩,
  ⟨(some 11), .len (.t 10), none⟩,
  ⟨(some 12), .mn [.t 11, .c (.i .i64 30)], none⟩,
  ⟨(some 13), .slc 1 (.t 9) none (some (.t 12)) none, none⟩,
  ⟨(some 14), .len (.t 13), none⟩,
  ⟨(some 15), .mv (.c (.i .i64 0)), none⟩]
def F_muntinlaw15_turns.r3 : List Oper := [
  ⟨(some 16), .bin .lss (.t 15) (.t 14), none⟩]
def F_muntinlaw15_turns.r4 : List Oper := [
  ⟨(some 17), .ixa 1 (.t 13) (.t 15), none⟩,
  ⟨(some 18), .ld false 1 (.t 17), none⟩,
  ⟨(some 7), .mv (.t 18), none⟩]
def F_muntinlaw15_turns.r5 : List Oper := [
  ⟨(some 19), .mv (.t 7), none⟩,
  ⟨(some 20), .conv .i64 (.t 19), none⟩,
  ⟨(some 8), .mv (.t 20), none⟩]
def F_muntinlaw15_turns.r6 : List Oper := [
  ⟨(some 21), .mv (.t 1), none⟩,
  ⟨(some 22), .un .not (.t 21), none⟩]
def F_muntinlaw15_turns.r7 : List Oper := [
  ⟨(some 23), .mv (.t 8), none⟩,
  ⟨(some 24), .bin .rem (.t 23) (.c (.i .i64 3)), none⟩,
  ⟨(some 25), .mn [.c (.i .i64 1), .t 24], none⟩,
  ⟨(some 26), .mx [.c (.i .i64 (-2)), .t 25], none⟩,
  ⟨(some 8), .mv (.t 26), none⟩]
def F_muntinlaw15_turns.r8 : List Oper := [
  ⟨(some 27), .mv (.t 5), none⟩,
  ⟨(some 28), .mv (.t 8), none⟩,
  ⟨(some 29), .bsl 1 1 [.i .i64 0] [(0, 1, .t 28)], none⟩,
  ⟨(some 30), .app 1 8 (.t 27) (.t 29), none⟩,
  ⟨(some 5), .mv (.t 30), none⟩]
def F_muntinlaw15_turns.r9 : List Oper := [
  ⟨(some 31), .bin .add (.t 15) (.c (.i .i64 1)), none⟩,
  ⟨(some 15), .mv (.t 31), none⟩]
def F_muntinlaw15_turns.l0 : Code := .seq (.region F_muntinlaw15_turns.r3) (.seq (.cond (.t 16) (.skip) (.exit 0)) (.seq (.block 1 (.seq (.region F_muntinlaw15_turns.r4) (.seq (.region F_muntinlaw15_turns.r5) (.seq (.seq (.region F_muntinlaw15_turns.r6) (.cond (.t 22) (.region F_muntinlaw15_turns.r7) (.skip))) (.region F_muntinlaw15_turns.r8))))) (.region F_muntinlaw15_turns.r9)))
def F_muntinlaw15_turns.r10 : List Oper := [
  ⟨(some 32), .mv (.t 5), none⟩,
  ⟨(some 4), .mv (.t 32), none⟩]
def F_muntinlaw15_turns.code : Code := .seq (.region F_muntinlaw15_turns.r0) (.seq (.region F_muntinlaw15_turns.r1) (.seq (.seq (.region F_muntinlaw15_turns.r2) (.block 0 (.loop F_muntinlaw15_turns.l0))) (.seq (.region F_muntinlaw15_turns.r10) (.ret))))
def F_muntinlaw15_turns : Func := ⟨33, [.t 4], F_muntinlaw15_turns.code⟩
/-! muntin/kitty.Corners -/
def F_kitty_Corners.r0 : List Oper := [
  ⟨(some 2), .mv (.c (.sn)), none⟩]
def F_kitty_Corners.r1 : List Oper := [
  ⟨(some 3), .mv (.c (.sn)), none⟩]
def F_kitty_Corners.r2 : List Oper := [
  ⟨(some 7), .mv (.t 0), none⟩,
  ⟨(some 8), .len (.t 7), none⟩,
  ⟨(some 9), .mv (.c (.i .i64 0)), none⟩]
def F_kitty_Corners.r3 : List Oper := [
  ⟨(some 10), .bin .lss (.t 9) (.t 8), none⟩]
def F_kitty_Corners.r4 : List Oper := [
  ⟨(some 11), .mv (.t 9), none⟩,
  ⟨(some 12), .ixa 1 (.t 7) (.t 9), none⟩,
  ⟨(some 13), .ld false 1 (.t 12), none⟩,
  ⟨(some 4), .mv (.t 11), none⟩,
  ⟨(some 5), .mv (.t 13), none⟩]
def F_kitty_Corners.r5 : List Oper := [
  ⟨(some 14), .mv (.t 5), none⟩,
  ⟨(some 15), .bin .lss (.t 14) (.c (.i .i64 (-2))), none⟩]
def F_kitty_Corners.r6 : List Oper := [
  ⟨(some 16), .mv (.t 5), none⟩,
  ⟨(some 17), .un .neg (.t 16), none⟩,
  ⟨(some 18), .mv (.c (.i .i64 0)), none⟩]
def F_kitty_Corners.r7 : List Oper := [
  ⟨(some 19), .bin .lss (.t 18) (.t 17), none⟩]
def F_kitty_Corners.r8 : List Oper := [
  ⟨(some 20), .mv (.t 18), none⟩,
  ⟨(some 6), .mv (.t 20), none⟩]
def F_kitty_Corners.r9 : List Oper := [
  ⟨(some 21), .mv (.t 3), none⟩,
  ⟨(some 22), .mv (.t 4), none⟩,
  ⟨(some 23), .mv (.t 6), none⟩,
  ⟨(some 24), .build [.i .i64 0, .i .i64 0] [(0, 1, .t 22), (1, 1, .t 23)], none⟩,
  ⟨(some 25), .bsl 2 1 [.i .i64 0, .i .i64 0] [(0, 2, .t 24)], none⟩,
  ⟨(some 26), .app 2 16 (.t 21) (.t 25), none⟩,
  ⟨(some 3), .mv (.t 26), none⟩]
def F_kitty_Corners.r10 : List Oper := [
  ⟨(some 27), .bin .add (.t 18) (.c (.i .i64 1)), none⟩,
  ⟨(some 18), .mv (.t 27), none⟩]
def F_kitty_Corners.l0 : Code := .seq (.region F_kitty_Corners.r7) (.seq (.cond (.t 19) (.skip) (.exit 2)) (.seq (.block 3 (.seq (.region F_kitty_Corners.r8) (.region F_kitty_Corners.r9))) (.region F_kitty_Corners.r10)))
def F_kitty_Corners.r11 : List Oper := [
  ⟨(some 28), .bin .add (.t 9) (.c (.i .i64 1)), none⟩,
  ⟨(some 9), .mv (.t 28), none⟩]
def F_kitty_Corners.l1 : Code := .seq (.region F_kitty_Corners.r3) (.seq (.cond (.t 10) (.skip) (.exit 0)) (.seq (.block 1 (.seq (.region F_kitty_Corners.r4) (.seq (.seq (.region F_kitty_Corners.r5) (.cond (.t 15) (.exit 1) (.skip))) (.seq (.region F_kitty_Corners.r6) (.block 2 (.loop F_kitty_Corners.l0)))))) (.region F_kitty_Corners.r11)))
def F_kitty_Corners.r12 : List Oper := [
  ⟨(some 29), .mv (.t 3), none⟩,
  ⟨(some 2), .mv (.t 29), none⟩]
def F_kitty_Corners.code : Code := .seq (.region F_kitty_Corners.r0) (.seq (.region F_kitty_Corners.r1) (.seq (.seq (.region F_kitty_Corners.r2) (.block 0 (.loop F_kitty_Corners.l1))) (.seq (.region F_kitty_Corners.r12) (.ret))))
def F_kitty_Corners : Func := ⟨30, [.t 2], F_kitty_Corners.code⟩
/-! muntin/muntinref15.Corners -/
def F_muntinref15_Corners.r0 : List Oper := [
  ⟨(some 2), .mv (.c (.sn)), none⟩]
def F_muntinref15_Corners.r1 : List Oper := [
  ⟨(some 3), .mv (.c (.sn)), none⟩]
def F_muntinref15_Corners.r2 : List Oper := [
  ⟨(some 4), .mv (.c (.i .i64 0)), none⟩]
def F_muntinref15_Corners.r3 : List Oper := [
  ⟨(some 5), .mv (.t 4), none⟩,
  ⟨(some 6), .mv (.t 0), none⟩,
  ⟨(some 7), .len (.t 6), none⟩,
  ⟨(some 8), .bin .lss (.t 5) (.t 7), none⟩]
def F_muntinref15_Corners.r5 : List Oper := [
  ⟨(some 11), .mv (.t 0), none⟩,
  ⟨(some 12), .mv (.t 4), none⟩,
  ⟨(some 13), .ixa 1 (.t 11) (.t 12), none⟩,
  ⟨(some 14), .ld false 1 (.t 13), none⟩,
  ⟨(some 15), .eq false .sc (.t 14) (.c (.i .i64 (-1))), none⟩,
  ⟨(some 16), .mv (.t 15), none⟩,
  ⟨(some 17), .mv (.t 0), (some (16, false))⟩,
  ⟨(some 18), .mv (.t 4), (some (16, false))⟩,
  ⟨(some 19), .ixa 1 (.t 17) (.t 18), (some (16, false))⟩,
  ⟨(some 20), .ld false 1 (.t 19), (some (16, false))⟩,
  ⟨(some 21), .eq false .sc (.t 20) (.c (.i .i64 (-2))), (some (16, false))⟩,
  ⟨(some 22), .pick (.t 16) (.c (.b true)) (.t 21), none⟩]
def F_muntinref15_Corners.r6 : List Oper := [
  ⟨(some 23), .mv (.t 3), none⟩,
  ⟨(some 24), .mv (.t 4), none⟩,
  ⟨(some 25), .build [.i .i64 0, .i .i64 0] [(0, 1, .t 24)], none⟩,
  ⟨(some 26), .bsl 2 1 [.i .i64 0, .i .i64 0] [(0, 2, .t 25)], none⟩,
  ⟨(some 27), .app 2 16 (.t 23) (.t 26), none⟩,
  ⟨(some 3), .mv (.t 27), none⟩]
def F_muntinref15_Corners.r7 : List Oper := [
  ⟨(some 28), .mv (.t 0), none⟩,
  ⟨(some 29), .mv (.t 4), none⟩,
  ⟨(some 30), .ixa 1 (.t 28) (.t 29), none⟩,
  ⟨(some 31), .ld false 1 (.t 30), none⟩,
  ⟨(some 32), .eq false .sc (.t 31) (.c (.i .i64 (-2))), none⟩]
def F_muntinref15_Corners.r8 : List Oper := [
  ⟨(some 33), .mv (.t 3), none⟩,
  ⟨(some 34), .mv (.t 4), none⟩,
  ⟨(some 35), .build [.i .i64 0, .i .i64 0] [(0, 1, .t 34), (1, 1, .c (.i .i64 1))], none⟩,
  ⟨(some 36), .bsl 2 1 [.i .i64 0, .i .i64 0] [(0, 2, .t 35)], none⟩,
  ⟨(some 37), .app 2 16 (.t 33) (.t 36), none⟩,
  ⟨(some 3), .mv (.t 37), none⟩]
def F_muntinref15_Corners.r4 : List Oper := [
  ⟨(some 9), .mv (.t 4), none⟩,
  ⟨(some 10), .bin .add (.t 9) (.c (.i .i64 1)), none⟩,
  ⟨(some 4), .mv (.t 10), none⟩]
def F_muntinref15_Corners.l0 : Code := .seq (.seq (.region F_muntinref15_Corners.r3) (.cond (.t 8) (.skip) (.exit 0))) (.seq (.block 1 (.seq (.seq (.region F_muntinref15_Corners.r5) (.cond (.t 22) (.region F_muntinref15_Corners.r6) (.skip))) (.seq (.region F_muntinref15_Corners.r7) (.cond (.t 32) (.region F_muntinref15_Corners.r8) (.skip))))) (.region F_muntinref15_Corners.r4))
def F_muntinref15_Corners.r9 : List Oper := [
  ⟨(some 38), .mv (.t 3), none⟩,
  ⟨(some 2), .mv (.t 38), none⟩]
def F_muntinref15_Corners.code : Code := .seq (.region F_muntinref15_Corners.r0) (.seq (.region F_muntinref15_Corners.r1) (.seq (.seq (.region F_muntinref15_Corners.r2) (.block 0 (.loop F_muntinref15_Corners.l0))) (.seq (.region F_muntinref15_Corners.r9) (.ret))))
def F_muntinref15_Corners : Func := ⟨39, [.t 2], F_muntinref15_Corners.code⟩
/-! muntin/muntinref15.Good -/
def F_muntinref15_Good.r0 : List Oper := [
  ⟨(some 2), .mv (.c (.b false)), none⟩]
def F_muntinref15_Good.r1 : List Oper := [
  ⟨(some 3), .mv (.c (.i .i64 0)), none⟩]
def F_muntinref15_Good.r2 : List Oper := [
  ⟨(some 4), .mv (.t 3), none⟩,
  ⟨(some 5), .mv (.t 0), none⟩,
  ⟨(some 6), .len (.t 5), none⟩,
  ⟨(some 7), .bin .lss (.t 4) (.t 6), none⟩]
def F_muntinref15_Good.r4 : List Oper := [
  ⟨(some 10), .mv (.t 0), none⟩,
  ⟨(some 11), .mv (.t 3), none⟩,
  ⟨(some 12), .ixa 1 (.t 10) (.t 11), none⟩,
  ⟨(some 13), .ld false 1 (.t 12), none⟩,
  ⟨(some 14), .bin .lss (.t 13) (.c (.i .i64 (-2))), none⟩,
  ⟨(some 15), .mv (.t 14), none⟩,
  ⟨(some 16), .mv (.t 0), (some (15, false))⟩,
  ⟨(some 17), .mv (.t 3), (some (15, false))⟩,
  ⟨(some 18), .ixa 1 (.t 16) (.t 17), (some (15, false))⟩,
  ⟨(some 19), .ld false 1 (.t 18), (some (15, false))⟩,
  ⟨(some 20), .bin .gtr (.t 19) (.c (.i .i64 1)), (some (15, false))⟩,
  ⟨(some 21), .pick (.t 15) (.c (.b true)) (.t 20), none⟩]
def F_muntinref15_Good.r5 : List Oper := [
  ⟨(some 2), .mv (.c (.b false)), none⟩]
def F_muntinref15_Good.r3 : List Oper := [
  ⟨(some 8), .mv (.t 3), none⟩,
  ⟨(some 9), .bin .add (.t 8) (.c (.i .i64 1)), none⟩,
  ⟨(some 3), .mv (.t 9), none⟩]
def F_muntinref15_Good.l0 : Code := .seq (.seq (.region F_muntinref15_Good.r2) (.cond (.t 7) (.skip) (.exit 0))) (.seq (.block 1 (.seq (.region F_muntinref15_Good.r4) (.cond (.t 21) (.seq (.region F_muntinref15_Good.r5) (.ret)) (.skip)))) (.region F_muntinref15_Good.r3))
def F_muntinref15_Good.r6 : List Oper := [
  ⟨(some 2), .mv (.c (.b true)), none⟩]
def F_muntinref15_Good.code : Code := .seq (.region F_muntinref15_Good.r0) (.seq (.seq (.region F_muntinref15_Good.r1) (.block 0 (.loop F_muntinref15_Good.l0))) (.seq (.region F_muntinref15_Good.r6) (.ret)))
def F_muntinref15_Good : Func := ⟨22, [.t 2], F_muntinref15_Good.code⟩
/-! muntin/kitty.Rot -/
def F_kitty_Rot.r0 : List Oper := [
  ⟨(some 4), .box (.t 1), none⟩,
  ⟨(some 5), .box (.t 2), none⟩,
  ⟨(some 6), .mv (.c (.i .i64 0)), none⟩,
  ⟨(some 7), .mv (.c (.i .i64 0)), none⟩]
def F_kitty_Rot.r1 : List Oper := [
  ⟨(some 9), .mv (.t 0), none⟩,
  ⟨(some 10), .call (.c (.f 19 [])) [.t 9], none⟩,
  ⟨(some 8), .mv (.t 10), none⟩]
def F_kitty_Rot.r2 : List Oper := [
  ⟨(some 11), .mv (.t 0), none⟩,
  ⟨(some 12), .call (.c (.f 59 [])) [.t 11], none⟩,
  ⟨(some 13), .un .not (.t 12), none⟩,
  ⟨(some 14), .mv (.t 13), none⟩,
  ⟨(some 15), .mv (.t 8), (some (14, false))⟩,
  ⟨(some 16), .ld true 2 (.t 4), (some (14, false))⟩,
  ⟨(some 17), .call (.c (.f 60 [])) [.t 15, .t 16], (some (14, false))⟩,
  ⟨(some 18), .un .not (.t 17), (some (14, false))⟩,
  ⟨(some 19), .pick (.t 14) (.c (.b true)) (.t 18), none⟩,
  ⟨(some 20), .mv (.t 19), none⟩,
  ⟨(some 21), .mv (.t 8), (some (20, false))⟩,
  ⟨(some 22), .ld true 2 (.t 5), (some (20, false))⟩,
  ⟨(some 23), .call (.c (.f 60 [])) [.t 21, .t 22], (some (20, false))⟩,
  ⟨(some 24), .un .not (.t 23), (some (20, false))⟩,
  ⟨(some 25), .pick (.t 20) (.c (.b true)) (.t 24), none⟩]
def F_kitty_Rot.r3 : List Oper := [
  ⟨(some 6), .mv (.c (.i .i64 0)), none⟩,
  ⟨(some 7), .mv (.c (.i .i64 2)), none⟩]
def F_kitty_Rot.r4 : List Oper := [
  ⟨(some 26), .mv (.t 0), none⟩,
  ⟨(some 27), .call (.c (.f 62 [])) [.t 26], none⟩,
  ⟨(some 28), .ld true 2 (.t 4), none⟩,
  ⟨(some 29), .ld true 2 (.t 5), none⟩,
  ⟨(some 30), .call (.c (.f 61 [])) [.t 27, .t 28, .t 29], none⟩,
  ⟨(some 6), .mv (.t 30), none⟩,
  ⟨(some 7), .mv (.c (.i .i64 0)), none⟩]
def F_kitty_Rot.code : Code := .seq (.region F_kitty_Rot.r0) (.seq (.region F_kitty_Rot.r1) (.seq (.seq (.region F_kitty_Rot.r2) (.cond (.t 25) (.seq (.region F_kitty_Rot.r3) (.ret)) (.skip))) (.seq (.draw F_kitty_Rot.r4 [(1, 2), (1, 3), (2, 3)]) (.ret))))
def F_kitty_Rot : Func := ⟨31, [.t 6, .t 7], F_kitty_Rot.code⟩
/-! muntin/muntinref15.Rot -/
def F_muntinref15_Rot.r0 : List Oper := [
  ⟨(some 4), .box (.t 1), none⟩,
  ⟨(some 5), .box (.t 2), none⟩,
  ⟨(some 6), .mv (.c (.i .i64 0)), none⟩]
def F_muntinref15_Rot.r1 : List Oper := [
  ⟨(some 7), .mv (.c (.sn)), none⟩]
def F_muntinref15_Rot.r2 : List Oper := [
  ⟨(some 8), .mv (.c (.i .i64 0)), none⟩]
def F_muntinref15_Rot.r3 : List Oper := [
  ⟨(some 9), .mv (.c (.i .i64 0)), none⟩]
def F_muntinref15_Rot.r4 : List Oper := [
  ⟨(some 10), .mv (.c (.i .i64 0)), none⟩]
def F_muntinref15_Rot.r5 : List Oper := [
  ⟨(some 13), .mv (.t 10), none⟩,
  ⟨(some 14), .mv (.t 0), none⟩,
  ⟨(some 15), .len (.t 14), none⟩,
  ⟨(some 16), .bin .lss (.t 13) (.t 15), none⟩]
def F_muntinref15_Rot.r7 : List Oper := [
  ⟨(some 19), .mv (.t 10), none⟩,
  ⟨(some 20), .fa 0 (.t 4), none⟩,
  ⟨(some 21), .ld false 1 (.t 20), none⟩,
  ⟨(some 22), .eq false .sc (.t 19) (.t 21), none⟩]
def F_muntinref15_Rot.r8 : List Oper := [
  ⟨(some 23), .mv (.t 7), none⟩,
  ⟨(some 24), .len (.t 23), none⟩,
  ⟨(some 25), .fa 1 (.t 4), none⟩,
  ⟨(some 26), .ld false 1 (.t 25), none⟩,
  ⟨(some 27), .bin .add (.t 24) (.t 26), none⟩,
  ⟨(some 8), .mv (.t 27), none⟩]
def F_muntinref15_Rot.r9 : List Oper := [
  ⟨(some 28), .mv (.t 10), none⟩,
  ⟨(some 29), .fa 0 (.t 5), none⟩,
  ⟨(some 30), .ld false 1 (.t 29), none⟩,
  ⟨(some 31), .eq false .sc (.t 28) (.t 30), none⟩]
def F_muntinref15_Rot.r10 : List Oper := [
  ⟨(some 32), .mv (.t 7), none⟩,
  ⟨(some 33), .len (.t 32), none⟩,
  ⟨(some 34), .fa 1 (.t 5), none⟩,
  ⟨(some 35), .ld false 1 (.t 34), none⟩,
  ⟨(some 36), .bin .add (.t 33) (.t 35), none⟩,
  ⟨(some 9), .mv (.t 36), none⟩]
def F_muntinref15_Rot.r11 : List Oper := [
  ⟨(some 37), .mv (.t 0), none⟩,
  ⟨(some 38), .mv (.t 10), none⟩,
  ⟨(some 39), .ixa 1 (.t 37) (.t 38), none⟩,
  ⟨(some 40), .ld false 1 (.t 39), none⟩,
  ⟨(some 41), .eq false .sc (.t 40) (.c (.i .i64 (-2))), none⟩]
def F_muntinref15_Rot.r12 : List Oper := [
  ⟨(some 42), .mv (.t 7), none⟩,
  ⟨(some 43), .bsl 1 2 [.i .i64 0] [(0, 1, .c (.i .i64 (-1))), (1, 1, .c (.i .i64 (-1)))], none⟩,
  ⟨(some 44), .app 1 8 (.t 42) (.t 43), none⟩,
  ⟨(some 7), .mv (.t 44), none⟩]
def F_muntinref15_Rot.r13 : List Oper := [
  ⟨(some 45), .mv (.t 7), none⟩,
  ⟨(some 46), .mv (.t 0), none⟩,
  ⟨(some 47), .mv (.t 10), none⟩,
  ⟨(some 48), .ixa 1 (.t 46) (.t 47), none⟩,
  ⟨(some 49), .ld false 1 (.t 48), none⟩,
  ⟨(some 50), .bsl 1 1 [.i .i64 0] [(0, 1, .t 49)], none⟩,
  ⟨(some 51), .app 1 8 (.t 45) (.t 50), none⟩,
  ⟨(some 7), .mv (.t 51), none⟩]
def F_muntinref15_Rot.r6 : List Oper := [
  ⟨(some 17), .mv (.t 10), none⟩,
  ⟨(some 18), .bin .add (.t 17) (.c (.i .i64 1)), none⟩,
  ⟨(some 10), .mv (.t 18), none⟩]
def F_muntinref15_Rot.l0 : Code := .seq (.seq (.region F_muntinref15_Rot.r5) (.cond (.t 16) (.skip) (.exit 0))) (.seq (.block 1 (.seq (.seq (.region F_muntinref15_Rot.r7) (.cond (.t 22) (.region F_muntinref15_Rot.r8) (.skip))) (.seq (.seq (.region F_muntinref15_Rot.r9) (.cond (.t 31) (.region F_muntinref15_Rot.r10) (.skip))) (.seq (.region F_muntinref15_Rot.r11) (.cond (.t 41) (.region F_muntinref15_Rot.r12) (.region F_muntinref15_Rot.r13)))))) (.region F_muntinref15_Rot.r6))
def F_muntinref15_Rot.r14 : List Oper := [
  ⟨(some 11), .mv (.c (.i .i64 0)), none⟩]
def F_muntinref15_Rot.r15 : List Oper := [
  ⟨(some 52), .mv (.t 8), none⟩,
  ⟨(some 12), .mv (.t 52), none⟩]
def F_muntinref15_Rot.r16 : List Oper := [
  ⟨(some 53), .mv (.t 12), none⟩,
  ⟨(some 54), .mv (.t 9), none⟩,
  ⟨(some 55), .eq true .sc (.t 53) (.t 54), none⟩]
def F_muntinref15_Rot.r18 : List Oper := [
  ⟨(some 61), .mv (.t 11), none⟩,
  ⟨(some 62), .mv (.t 7), none⟩,
  ⟨(some 63), .mv (.t 12), none⟩,
  ⟨(some 64), .ixa 1 (.t 62) (.t 63), none⟩,
  ⟨(some 65), .ld false 1 (.t 64), none⟩,
  ⟨(some 66), .bin .add (.t 61) (.t 65), none⟩,
  ⟨(some 11), .mv (.t 66), none⟩]
def F_muntinref15_Rot.r17 : List Oper := [
  ⟨(some 56), .mv (.t 12), none⟩,
  ⟨(some 57), .bin .add (.t 56) (.c (.i .i64 1)), none⟩,
  ⟨(some 58), .mv (.t 7), none⟩,
  ⟨(some 59), .len (.t 58), none⟩,
  ⟨(some 60), .bin .rem (.t 57) (.t 59), none⟩,
  ⟨(some 12), .mv (.t 60), none⟩]
def F_muntinref15_Rot.l1 : Code := .seq (.seq (.region F_muntinref15_Rot.r16) (.cond (.t 55) (.skip) (.exit 2))) (.seq (.block 3 (.region F_muntinref15_Rot.r18)) (.region F_muntinref15_Rot.r17))
def F_muntinref15_Rot.r19 : List Oper := [
  ⟨(some 67), .mv (.t 11), none⟩,
  ⟨(some 6), .mv (.t 67), none⟩]
def F_muntinref15_Rot.code : Code := .seq (.region F_muntinref15_Rot.r0) (.seq (.region F_muntinref15_Rot.r1) (.seq (.region F_muntinref15_Rot.r2) (.seq (.region F_muntinref15_Rot.r3) (.seq (.seq (.region F_muntinref15_Rot.r4) (.block 0 (.loop F_muntinref15_Rot.l0))) (.seq (.region F_muntinref15_Rot.r14) (.seq (.seq (.region F_muntinref15_Rot.r15) (.block 2 (.loop F_muntinref15_Rot.l1))) (.seq (.region F_muntinref15_Rot.r19) (.ret))))))))
def F_muntinref15_Rot : Func := ⟨68, [.t 6], F_muntinref15_Rot.code⟩
/-! muntin/kitty.Pair -/
def F_kitty_Pair.r0 : List Oper := [
  ⟨(some 2), .alloc [.i .i64 0, .i .i64 0], none⟩,
  ⟨(some 3), .alloc [.i .i64 0, .i .i64 0], none⟩,
  ⟨(some 4), .mv (.c (.b false)), none⟩]
def F_kitty_Pair.r1 : List Oper := [
  ⟨(some 11), .mv (.t 0), none⟩,
  ⟨(some 12), .call (.c (.f 59 [])) [.t 11], none⟩,
  ⟨(some 13), .un .not (.t 12), none⟩]
def F_kitty_Pair.r2 : List Oper := [
  ⟨(some 14), .build [.i .i64 0, .i .i64 0] [], none⟩,
  ⟨(some 15), .build [.i .i64 0, .i .i64 0] [], none⟩,
  ⟨none, .st 2 (.t 2) (.t 14), none⟩,
  ⟨none, .st 2 (.t 3) (.t 15), none⟩,
  ⟨(some 4), .mv (.c (.b false)), none⟩]
def F_kitty_Pair.r3 : List Oper := [
  ⟨(some 16), .mv (.t 0), none⟩,
  ⟨(some 17), .call (.c (.f 19 [])) [.t 16], none⟩,
  ⟨(some 18), .mv (.t 0), none⟩,
  ⟨(some 19), .call (.c (.f 62 [])) [.t 18], none⟩,
  ⟨(some 5), .mv (.t 17), none⟩,
  ⟨(some 6), .mv (.t 19), none⟩]
def F_kitty_Pair.r4 : List Oper := [
  ⟨(some 20), .mv (.t 5), none⟩,
  ⟨(some 21), .len (.t 20), none⟩,
  ⟨(some 22), .mv (.c (.i .i64 0)), none⟩]
def F_kitty_Pair.r5 : List Oper := [
  ⟨(some 23), .bin .lss (.t 22) (.t 21), none⟩]
def F_kitty_Pair.r6 : List Oper := [
  ⟨(some 24), .ixa 2 (.t 20) (.t 22), none⟩,
  ⟨(some 25), .ld true 2 (.t 24), none⟩,
  ⟨(some 8), .alloc [.i .i64 0, .i .i64 0], none⟩,
  ⟨none, .st 2 (.t 8) (.t 25), none⟩]
def F_kitty_Pair.r7 : List Oper := [
  ⟨(some 26), .mv (.t 5), none⟩,
  ⟨(some 27), .len (.t 26), none⟩,
  ⟨(some 28), .mv (.c (.i .i64 0)), none⟩]
def F_kitty_Pair.r8 : List Oper := [
  ⟨(some 29), .bin .lss (.t 28) (.t 27), none⟩]
def F_kitty_Pair.r9 : List Oper := [
  ⟨(some 30), .ixa 2 (.t 26) (.t 28), none⟩,
  ⟨(some 31), .ld true 2 (.t 30), none⟩,
  ⟨(some 10), .alloc [.i .i64 0, .i .i64 0], none⟩,
  ⟨none, .st 2 (.t 10) (.t 31), none⟩]
def F_kitty_Pair.r10 : List Oper := [
  ⟨(some 32), .mv (.t 6), none⟩,
  ⟨(some 33), .ld true 2 (.t 8), none⟩,
  ⟨(some 34), .ld true 2 (.t 10), none⟩,
  ⟨(some 35), .call (.c (.f 61 [])) [.t 32, .t 33, .t 34], none⟩,
  ⟨(some 36), .eq false .sc (.t 35) (.c (.i .i64 2)), none⟩]
def F_kitty_Pair.r11 : List Oper := [
  ⟨(some 37), .ld true 2 (.t 8), none⟩,
  ⟨(some 38), .ld true 2 (.t 10), none⟩,
  ⟨none, .st 2 (.t 2) (.t 37), none⟩,
  ⟨none, .st 2 (.t 3) (.t 38), none⟩,
  ⟨(some 4), .mv (.c (.b true)), none⟩]
def F_kitty_Pair.r12 : List Oper := [
  ⟨(some 39), .bin .add (.t 28) (.c (.i .i64 1)), none⟩,
  ⟨(some 28), .mv (.t 39), none⟩]
def F_kitty_Pair.l0 : Code := .seq (.region F_kitty_Pair.r8) (.seq (.cond (.t 29) (.skip) (.exit 2)) (.seq (.block 3 (.seq (.region F_kitty_Pair.r9) (.seq (.region F_kitty_Pair.r10) (.cond (.t 36) (.seq (.draw F_kitty_Pair.r11 [(0, 1), (1, 2)]) (.ret)) (.skip))))) (.region F_kitty_Pair.r12)))
def F_kitty_Pair.r13 : List Oper := [
  ⟨(some 40), .bin .add (.t 22) (.c (.i .i64 1)), none⟩,
  ⟨(some 22), .mv (.t 40), none⟩]
def F_kitty_Pair.l1 : Code := .seq (.region F_kitty_Pair.r5) (.seq (.cond (.t 23) (.skip) (.exit 0)) (.seq (.block 1 (.seq (.region F_kitty_Pair.r6) (.seq (.region F_kitty_Pair.r7) (.block 2 (.loop F_kitty_Pair.l0))))) (.region F_kitty_Pair.r13)))
def F_kitty_Pair.r14 : List Oper := [
  ⟨(some 41), .build [.i .i64 0, .i .i64 0] [], none⟩,
  ⟨(some 42), .build [.i .i64 0, .i .i64 0] [], none⟩,
  ⟨none, .st 2 (.t 2) (.t 41), none⟩,
  ⟨none, .st 2 (.t 3) (.t 42), none⟩,
  ⟨(some 4), .mv (.c (.b false)), none⟩]
def F_kitty_Pair.code : Code := .seq (.region F_kitty_Pair.r0) (.seq (.seq (.region F_kitty_Pair.r1) (.cond (.t 13) (.seq (.region F_kitty_Pair.r2) (.ret)) (.skip))) (.seq (.region F_kitty_Pair.r3) (.seq (.seq (.region F_kitty_Pair.r4) (.block 0 (.loop F_kitty_Pair.l1))) (.seq (.region F_kitty_Pair.r14) (.ret)))))
def F_kitty_Pair : Func := ⟨43, [.cell 2 true 2, .cell 3 true 2, .t 4], F_kitty_Pair.code⟩
/-! muntin/muntinref15.Pair -/
def F_muntinref15_Pair.r0 : List Oper := [
  ⟨(some 2), .alloc [.i .i64 0, .i .i64 0], none⟩,
  ⟨(some 3), .alloc [.i .i64 0, .i .i64 0], none⟩,
  ⟨(some 4), .mv (.c (.b false)), none⟩]
def F_muntinref15_Pair.r1 : List Oper := [
  ⟨(some 9), .mv (.t 0), none⟩,
  ⟨(some 10), .call (.c (.f 20 [])) [.t 9], none⟩,
  ⟨(some 5), .mv (.t 10), none⟩]
def F_muntinref15_Pair.r2 : List Oper := [
  ⟨(some 6), .mv (.c (.i .i64 0)), none⟩]
def F_muntinref15_Pair.r3 : List Oper := [
  ⟨(some 11), .mv (.t 6), none⟩,
  ⟨(some 12), .mv (.t 5), none⟩,
  ⟨(some 13), .len (.t 12), none⟩,
  ⟨(some 14), .bin .lss (.t 11) (.t 13), none⟩]
def F_muntinref15_Pair.r5 : List Oper := [
  ⟨(some 7), .mv (.c (.i .i64 0)), none⟩]
def F_muntinref15_Pair.r6 : List Oper := [
  ⟨(some 17), .mv (.t 7), none⟩,
  ⟨(some 18), .mv (.t 5), none⟩,
  ⟨(some 19), .len (.t 18), none⟩,
  ⟨(some 20), .bin .lss (.t 17) (.t 19), none⟩]
def F_muntinref15_Pair.r8 : List Oper := [
  ⟨(some 23), .mv (.t 0), none⟩,
  ⟨(some 24), .mv (.t 5), none⟩,
  ⟨(some 25), .mv (.t 6), none⟩,
  ⟨(some 26), .ixa 2 (.t 24) (.t 25), none⟩,
  ⟨(some 27), .ld true 2 (.t 26), none⟩,
  ⟨(some 28), .mv (.t 5), none⟩,
  ⟨(some 29), .mv (.t 7), none⟩,
  ⟨(some 30), .ixa 2 (.t 28) (.t 29), none⟩,
  ⟨(some 31), .ld true 2 (.t 30), none⟩,
  ⟨(some 32), .call (.c (.f 23 [])) [.t 23, .t 27, .t 31], none⟩,
  ⟨(some 8), .mv (.t 32), none⟩]
def F_muntinref15_Pair.r9 : List Oper := [
  ⟨(some 33), .mv (.t 8), none⟩,
  ⟨(some 34), .eq false .sc (.t 33) (.c (.i .i64 2)), none⟩]
def F_muntinref15_Pair.r10 : List Oper := [
  ⟨(some 35), .mv (.t 5), none⟩,
  ⟨(some 36), .mv (.t 6), none⟩,
  ⟨(some 37), .ixa 2 (.t 35) (.t 36), none⟩,
  ⟨(some 38), .ld true 2 (.t 37), none⟩,
  ⟨(some 39), .mv (.t 5), none⟩,
  ⟨(some 40), .mv (.t 7), none⟩,
  ⟨(some 41), .ixa 2 (.t 39) (.t 40), none⟩,
  ⟨(some 42), .ld true 2 (.t 41), none⟩,
  ⟨none, .st 2 (.t 2) (.t 38), none⟩,
  ⟨none, .st 2 (.t 3) (.t 42), none⟩,
  ⟨(some 4), .mv (.c (.b true)), none⟩]
def F_muntinref15_Pair.r7 : List Oper := [
  ⟨(some 21), .mv (.t 7), none⟩,
  ⟨(some 22), .bin .add (.t 21) (.c (.i .i64 1)), none⟩,
  ⟨(some 7), .mv (.t 22), none⟩]
def F_muntinref15_Pair.l0 : Code := .seq (.seq (.region F_muntinref15_Pair.r6) (.cond (.t 20) (.skip) (.exit 2))) (.seq (.block 3 (.seq (.draw F_muntinref15_Pair.r8 [(4, 8)]) (.seq (.region F_muntinref15_Pair.r9) (.cond (.t 34) (.seq (.draw F_muntinref15_Pair.r10 [(3, 7), (7, 8)]) (.ret)) (.skip))))) (.region F_muntinref15_Pair.r7))
def F_muntinref15_Pair.r4 : List Oper := [
  ⟨(some 15), .mv (.t 6), none⟩,
  ⟨(some 16), .bin .add (.t 15) (.c (.i .i64 1)), none⟩,
  ⟨(some 6), .mv (.t 16), none⟩]
def F_muntinref15_Pair.l1 : Code := .seq (.seq (.region F_muntinref15_Pair.r3) (.cond (.t 14) (.skip) (.exit 0))) (.seq (.block 1 (.seq (.region F_muntinref15_Pair.r5) (.block 2 (.loop F_muntinref15_Pair.l0)))) (.region F_muntinref15_Pair.r4))
def F_muntinref15_Pair.r11 : List Oper := [
  ⟨(some 43), .build [.i .i64 0, .i .i64 0] [], none⟩,
  ⟨(some 44), .build [.i .i64 0, .i .i64 0] [], none⟩,
  ⟨none, .st 2 (.t 2) (.t 43), none⟩,
  ⟨none, .st 2 (.t 3) (.t 44), none⟩,
  ⟨(some 4), .mv (.c (.b false)), none⟩]
def F_muntinref15_Pair.code : Code := .seq (.region F_muntinref15_Pair.r0) (.seq (.region F_muntinref15_Pair.r1) (.seq (.seq (.region F_muntinref15_Pair.r2) (.block 0 (.loop F_muntinref15_Pair.l1))) (.seq (.region F_muntinref15_Pair.r11) (.ret))))
def F_muntinref15_Pair : Func := ⟨45, [.cell 2 true 2, .cell 3 true 2, .t 4], F_muntinref15_Pair.code⟩
/-! muntin/muntinref15.In -/
def F_muntinref15_In.r0 : List Oper := [
  ⟨(some 3), .box (.t 1), none⟩,
  ⟨(some 4), .mv (.c (.b false)), none⟩]
def F_muntinref15_In.r1 : List Oper := [
  ⟨(some 7), .mv (.t 0), none⟩,
  ⟨(some 8), .call (.c (.f 20 [])) [.t 7], none⟩,
  ⟨(some 5), .mv (.t 8), none⟩]
def F_muntinref15_In.r2 : List Oper := [
  ⟨(some 6), .mv (.c (.i .i64 0)), none⟩]
def F_muntinref15_In.r3 : List Oper := [
  ⟨(some 9), .mv (.t 6), none⟩,
  ⟨(some 10), .mv (.t 5), none⟩,
  ⟨(some 11), .len (.t 10), none⟩,
  ⟨(some 12), .bin .lss (.t 9) (.t 11), none⟩]
def F_muntinref15_In.r5 : List Oper := [
  ⟨(some 15), .mv (.t 5), none⟩,
  ⟨(some 16), .mv (.t 6), none⟩,
  ⟨(some 17), .ixa 2 (.t 15) (.t 16), none⟩,
  ⟨(some 18), .ld true 2 (.t 17), none⟩,
  ⟨(some 19), .ld true 2 (.t 3), none⟩,
  ⟨(some 20), .eq false (.fl [.i, .i]) (.t 18) (.t 19), none⟩]
def F_muntinref15_In.r6 : List Oper := [
  ⟨(some 4), .mv (.c (.b true)), none⟩]
def F_muntinref15_In.r4 : List Oper := [
  ⟨(some 13), .mv (.t 6), none⟩,
  ⟨(some 14), .bin .add (.t 13) (.c (.i .i64 1)), none⟩,
  ⟨(some 6), .mv (.t 14), none⟩]
def F_muntinref15_In.l0 : Code := .seq (.seq (.region F_muntinref15_In.r3) (.cond (.t 12) (.skip) (.exit 0))) (.seq (.block 1 (.seq (.draw F_muntinref15_In.r5 [(3, 4)]) (.cond (.t 20) (.seq (.region F_muntinref15_In.r6) (.ret)) (.skip)))) (.region F_muntinref15_In.r4))
def F_muntinref15_In.r7 : List Oper := [
  ⟨(some 4), .mv (.c (.b false)), none⟩]
def F_muntinref15_In.code : Code := .seq (.region F_muntinref15_In.r0) (.seq (.region F_muntinref15_In.r1) (.seq (.seq (.region F_muntinref15_In.r2) (.block 0 (.loop F_muntinref15_In.l0))) (.seq (.region F_muntinref15_In.r7) (.ret))))
def F_muntinref15_In : Func := ⟨21, [.t 4], F_muntinref15_In.code⟩
/-! muntin/muntinlaw15.wakes -/
def F_muntinlaw15_wakes.r0 : List Oper := [
  ⟨(some 0), .mv (.c (.b false)), none⟩]
def F_muntinlaw15_wakes.r1 : List Oper := [
  ⟨(some 12), .bsl 1 12 [.i .i64 0] [(0, 1, .c (.i .i64 (-1))), (1, 1, .c (.i .i64 1)), (2, 1, .c (.i .i64 1)), (3, 1, .c (.i .i64 (-1))), (4, 1, .c (.i .i64 1)), (5, 1, .c (.i .i64 1)), (6, 1, .c (.i .i64 (-1))), (7, 1, .c (.i .i64 1)), (8, 1, .c (.i .i64 1)), (9, 1, .c (.i .i64 (-1))), (10, 1, .c (.i .i64 1)), (11, 1, .c (.i .i64 1))], none⟩,
  ⟨(some 13), .call (.c (.f 24 [])) [.t 12], none⟩,
  ⟨(some 11), .mv (.t 13), none⟩,
  ⟨(some 14), .ext (.t 11) 0, none⟩,
  ⟨(some 15), .ext (.t 11) 1, none⟩,
  ⟨(some 16), .ext (.t 11) 2, none⟩,
  ⟨(some 1), .alloc [.i .i64 0, .i .i64 0], none⟩,
  ⟨(some 2), .alloc [.i .i64 0, .i .i64 0], none⟩,
  ⟨none, .st 2 (.t 1) (.t 14), none⟩,
  ⟨none, .st 2 (.t 2) (.t 15), none⟩,
  ⟨(some 3), .mv (.t 16), none⟩]
def F_muntinlaw15_wakes.r2 : List Oper := [
  ⟨(some 18), .bsl 1 2 [.i .i64 0] [(0, 1, .c (.i .i64 (-2))), (1, 1, .c (.i .i64 (-2)))], none⟩,
  ⟨(some 19), .build [.i .i64 0, .i .i64 0] [], none⟩,
  ⟨(some 20), .build [.i .i64 0, .i .i64 0] [(0, 1, .c (.i .i64 1))], none⟩,
  ⟨(some 21), .call (.c (.f 22 [])) [.t 18, .t 19, .t 20], none⟩,
  ⟨(some 17), .mv (.t 21), none⟩,
  ⟨(some 22), .ext (.t 17) 0, none⟩,
  ⟨(some 23), .ext (.t 17) 1, none⟩,
  ⟨(some 4), .mv (.t 22), none⟩,
  ⟨(some 5), .mv (.t 23), none⟩]
def F_muntinlaw15_wakes.r3 : List Oper := [
  ⟨(some 25), .bsl 1 1 [.i .i64 0] [(0, 1, .c (.i .i64 1))], none⟩,
  ⟨(some 26), .build [.i .i64 0, .i .i64 0] [], none⟩,
  ⟨(some 27), .build [.i .i64 0, .i .i64 0] [], none⟩,
  ⟨(some 28), .call (.c (.f 22 [])) [.t 25, .t 26, .t 27], none⟩,
  ⟨(some 24), .mv (.t 28), none⟩,
  ⟨(some 29), .ext (.t 24) 0, none⟩,
  ⟨(some 30), .ext (.t 24) 1, none⟩,
  ⟨(some 6), .mv (.t 29), none⟩,
  ⟨(some 7), .mv (.t 30), none⟩]
def F_muntinlaw15_wakes.r4 : List Oper := [
  ⟨(some 32), .bsl 1 6 [.i .i64 0] [(0, 1, .c (.i .i64 (-1))), (1, 1, .c (.i .i64 1)), (2, 1, .c (.i .i64 1)), (3, 1, .c (.i .i64 1)), (4, 1, .c (.i .i64 1)), (5, 1, .c (.i .i64 1))], none⟩,
  ⟨(some 33), .call (.c (.f 24 [])) [.t 32], none⟩,
  ⟨(some 31), .mv (.t 33), none⟩,
  ⟨(some 34), .ext (.t 31) 0, none⟩,
  ⟨(some 35), .ext (.t 31) 1, none⟩,
  ⟨(some 36), .ext (.t 31) 2, none⟩,
  ⟨(some 8), .alloc [.i .i64 0, .i .i64 0], none⟩,
  ⟨(some 9), .alloc [.i .i64 0, .i .i64 0], none⟩,
  ⟨none, .st 2 (.t 8) (.t 34), none⟩,
  ⟨none, .st 2 (.t 9) (.t 35), none⟩,
  ⟨(some 10), .mv (.t 36), none⟩]
def F_muntinlaw15_wakes.r5 : List Oper := [
  ⟨(some 37), .ld true 2 (.t 1), none⟩,
  ⟨(some 38), .build [.i .i64 0, .i .i64 0] [], none⟩,
  ⟨(some 39), .eq false (.fl [.i, .i]) (.t 37) (.t 38), none⟩,
  ⟨(some 40), .mv (.t 39), none⟩,
  ⟨(some 41), .ld true 2 (.t 2), (some (40, true))⟩,
  ⟨(some 42), .build [.i .i64 0, .i .i64 0] [(0, 1, .c (.i .i64 6))], (some (40, true))⟩,
  ⟨(some 43), .eq false (.fl [.i, .i]) (.t 41) (.t 42), (some (40, true))⟩,
  ⟨(some 44), .pick (.t 40) (.t 43) (.c (.b false)), none⟩,
  ⟨(some 45), .mv (.t 44), none⟩,
  ⟨(some 46), .mv (.t 3), (some (45, true))⟩,
  ⟨(some 47), .pick (.t 45) (.t 46) (.c (.b false)), none⟩,
  ⟨(some 48), .mv (.t 47), none⟩,
  ⟨(some 49), .mv (.t 4), (some (48, true))⟩,
  ⟨(some 50), .eq false .sc (.t 49) (.c (.i .i64 (-2))), (some (48, true))⟩,
  ⟨(some 51), .pick (.t 48) (.t 50) (.c (.b false)), none⟩,
  ⟨(some 52), .mv (.t 51), none⟩,
  ⟨(some 53), .mv (.t 5), (some (52, true))⟩,
  ⟨(some 54), .eq false .sc (.t 53) (.c (.i .i64 0)), (some (52, true))⟩,
  ⟨(some 55), .pick (.t 52) (.t 54) (.c (.b false)), none⟩,
  ⟨(some 56), .mv (.t 55), none⟩,
  ⟨(some 57), .mv (.t 7), (some (56, true))⟩,
  ⟨(some 58), .eq false .sc (.t 57) (.c (.i .i64 2)), (some (56, true))⟩,
  ⟨(some 59), .pick (.t 56) (.t 58) (.c (.b false)), none⟩,
  ⟨(some 60), .mv (.t 59), none⟩,
  ⟨(some 61), .mv (.t 10), (some (60, true))⟩,
  ⟨(some 62), .un .not (.t 61), (some (60, true))⟩,
  ⟨(some 63), .pick (.t 60) (.t 62) (.c (.b false)), none⟩,
  ⟨(some 0), .mv (.t 63), none⟩]
def F_muntinlaw15_wakes.code : Code := .seq (.region F_muntinlaw15_wakes.r0) (.seq (.region F_muntinlaw15_wakes.r1) (.seq (.region F_muntinlaw15_wakes.r2) (.seq (.region F_muntinlaw15_wakes.r3) (.seq (.region F_muntinlaw15_wakes.r4) (.seq (.region F_muntinlaw15_wakes.r5) (.ret))))))
def F_muntinlaw15_wakes : Func := ⟨64, [.t 0], F_muntinlaw15_wakes.code⟩
/-! muntin/kitty.right -/
def F_kitty_right.r0 : List Oper := [
  ⟨(some 2), .mv (.c (.b false)), none⟩]
def F_kitty_right.r1 : List Oper := [
  ⟨(some 3), .mv (.t 0), none⟩,
  ⟨(some 4), .call (.c (.f 78 [])) [.t 3, .c (.f 80 [])], none⟩,
  ⟨(some 5), .un .not (.t 4), none⟩,
  ⟨(some 2), .mv (.t 5), none⟩]
def F_kitty_right.code : Code := .seq (.region F_kitty_right.r0) (.seq (.region F_kitty_right.r1) (.ret))
def F_kitty_right : Func := ⟨6, [.t 2], F_kitty_right.code⟩
/-! slices.Contains[[]muntin/kitty.Corner,muntin/kitty.Corner] -/
def F_slices_Contains_kitty_Corner.r0 : List Oper := [
  ⟨(some 3), .box (.t 1), none⟩,
  ⟨(some 4), .mv (.c (.b false)), none⟩]
def F_slices_Contains_kitty_Corner.r1 : List Oper := [
  ⟨(some 5), .mv (.t 0), none⟩,
  ⟨(some 6), .ld true 2 (.t 3), none⟩,
  ⟨(some 7), .call (.c (.f 81 [])) [.t 5, .t 6], none⟩,
  ⟨(some 8), .bin .geq (.t 7) (.c (.i .i64 0)), none⟩,
  ⟨(some 4), .mv (.t 8), none⟩]
def F_slices_Contains_kitty_Corner.code : Code := .seq (.region F_slices_Contains_kitty_Corner.r0) (.seq (.region F_slices_Contains_kitty_Corner.r1) (.ret))
def F_slices_Contains_kitty_Corner : Func := ⟨9, [.t 4], F_slices_Contains_kitty_Corner.code⟩
/-! muntin/kitty.rot -/
def F_kitty_rot.r0 : List Oper := [
  ⟨(some 4), .box (.t 1), none⟩,
  ⟨(some 5), .box (.t 2), none⟩,
  ⟨(some 6), .mv (.c (.i .i64 0)), none⟩]
def F_kitty_rot.r1 : List Oper := [
  ⟨(some 8), .mv (.t 0), none⟩,
  ⟨(some 9), .fa 0 (.t 5), none⟩,
  ⟨(some 10), .ld false 1 (.t 9), none⟩,
  ⟨(some 11), .ixa 1 (.t 8) (.t 10), none⟩,
  ⟨(some 12), .ld false 1 (.t 11), none⟩,
  ⟨(some 13), .fa 1 (.t 5), none⟩,
  ⟨(some 14), .ld false 1 (.t 13), none⟩,
  ⟨(some 15), .bin .sub (.t 12) (.t 14), none⟩,
  ⟨(some 16), .mv (.t 0), none⟩,
  ⟨(some 17), .fa 0 (.t 4), none⟩,
  ⟨(some 18), .ld false 1 (.t 17), none⟩,
  ⟨(some 19), .ixa 1 (.t 16) (.t 18), none⟩,
  ⟨(some 20), .ld false 1 (.t 19), none⟩,
  ⟨(some 21), .fa 1 (.t 4), none⟩,
  ⟨(some 22), .ld false 1 (.t 21), none⟩,
  ⟨(some 23), .bin .sub (.t 20) (.t 22), none⟩,
  ⟨(some 24), .bin .sub (.t 15) (.t 23), none⟩,
  ⟨(some 7), .mv (.t 24), none⟩]
def F_kitty_rot.r2 : List Oper := [
  ⟨(some 25), .fa 0 (.t 5), none⟩,
  ⟨(some 26), .ld false 1 (.t 25), none⟩,
  ⟨(some 27), .fa 0 (.t 4), none⟩,
  ⟨(some 28), .ld false 1 (.t 27), none⟩,
  ⟨(some 29), .bin .lss (.t 26) (.t 28), none⟩,
  ⟨(some 30), .mv (.t 29), none⟩,
  ⟨(some 31), .fa 0 (.t 5), (some (30, false))⟩,
  ⟨(some 32), .ld false 1 (.t 31), (some (30, false))⟩,
  ⟨(some 33), .fa 0 (.t 4), (some (30, false))⟩,
  ⟨(some 34), .ld false 1 (.t 33), (some (30, false))⟩,
  ⟨(some 35), .eq false .sc (.t 32) (.t 34), (some (30, false))⟩,
  ⟨(some 36), .mv (.t 35), (some (30, false))⟩,
  ⟨(some 37), .fa 1 (.t 5), (some (36, true))⟩,
  ⟨(some 38), .ld false 1 (.t 37), (some (36, true))⟩,
  ⟨(some 39), .fa 1 (.t 4), (some (36, true))⟩,
  ⟨(some 40), .ld false 1 (.t 39), (some (36, true))⟩,
  ⟨(some 41), .bin .lss (.t 38) (.t 40), (some (36, true))⟩,
  ⟨(some 42), .pick (.t 36) (.t 41) (.c (.b false)), (some (30, false))⟩,
  ⟨(some 43), .pick (.t 30) (.c (.b true)) (.t 42), none⟩]
def F_kitty_rot.r3 : List Oper := [
  ⟨(some 44), .mv (.t 7), none⟩,
  ⟨(some 45), .mv (.t 0), none⟩,
  ⟨(some 46), .mv (.t 0), none⟩,
  ⟨(some 47), .len (.t 46), none⟩,
  ⟨(some 48), .bin .sub (.t 47) (.c (.i .i64 1)), none⟩,
  ⟨(some 49), .ixa 1 (.t 45) (.t 48), none⟩,
  ⟨(some 50), .ld false 1 (.t 49), none⟩,
  ⟨(some 51), .bin .add (.t 44) (.t 50), none⟩,
  ⟨(some 7), .mv (.t 51), none⟩]
def F_kitty_rot.r4 : List Oper := [
  ⟨(some 52), .mv (.t 7), none⟩,
  ⟨(some 6), .mv (.t 52), none⟩]
def F_kitty_rot.code : Code := .seq (.region F_kitty_rot.r0) (.seq (.draw F_kitty_rot.r1 [(2, 6), (4, 6), (2, 10), (4, 10), (6, 10), (2, 12), (4, 12), (6, 12), (2, 14), (4, 14), (6, 14), (10, 14), (12, 14)]) (.seq (.seq (.region F_kitty_rot.r2) (.cond (.t 43) (.region F_kitty_rot.r3) (.skip))) (.seq (.region F_kitty_rot.r4) (.ret))))
def F_kitty_rot : Func := ⟨53, [.t 6], F_kitty_rot.code⟩
/-! muntin/kitty.sums -/
def F_kitty_sums.r0 : List Oper := [
  ⟨(some 2), .mv (.c (.sn)), none⟩]
def F_kitty_sums.r1 : List Oper := [
  ⟨(some 6), .mv (.t 0), none⟩,
  ⟨(some 7), .len (.t 6), none⟩,
  ⟨(some 8), .bin .add (.t 7) (.c (.i .i64 1)), none⟩,
  ⟨(some 9), .mks 1 8 [.i .i64 0] (.t 8) (.t 8), none⟩,
  ⟨(some 3), .mv (.t 9), none⟩]
def F_kitty_sums.r2 : List Oper := [
  ⟨(some 10), .mv (.t 0), none⟩,
  ⟨(some 11), .len (.t 10), none⟩,
  ⟨(some 12), .mv (.c (.i .i64 0)), none⟩]
def F_kitty_sums.r3 : List Oper := [
  ⟨(some 13), .bin .lss (.t 12) (.t 11), none⟩]
def F_kitty_sums.r4 : List Oper := [
  ⟨(some 14), .mv (.t 12), none⟩,
  ⟨(some 15), .ixa 1 (.t 10) (.t 12), none⟩,
  ⟨(some 16), .ld false 1 (.t 15), none⟩,
  ⟨(some 4), .mv (.t 14), none⟩,
  ⟨(some 5), .mv (.t 16), none⟩]
def F_kitty_sums.r5 : List Oper := [
  ⟨(some 17), .mv (.t 3), none⟩,
  ⟨(some 18), .mv (.t 4), none⟩,
  ⟨(some 19), .bin .add (.t 18) (.c (.i .i64 1)), none⟩,
  ⟨(some 20), .mv (.t 3), none⟩,
  ⟨(some 21), .mv (.t 4), none⟩,
  ⟨(some 22), .ixa 1 (.t 20) (.t 21), none⟩,
  ⟨(some 23), .ld false 1 (.t 22), none⟩,
  ⟨(some 24), .mv (.t 5), none⟩,
  ⟨(some 25), .bin .add (.t 23) (.t 24), none⟩,
  ⟨(some 26), .ixa 1 (.t 17) (.t 19), none⟩,
  ⟨none, .st 1 (.t 26) (.t 25), none⟩]
def F_kitty_sums.r6 : List Oper := [
  ⟨(some 27), .bin .add (.t 12) (.c (.i .i64 1)), none⟩,
  ⟨(some 12), .mv (.t 27), none⟩]
def F_kitty_sums.l0 : Code := .seq (.region F_kitty_sums.r3) (.seq (.cond (.t 13) (.skip) (.exit 0)) (.seq (.block 1 (.seq (.region F_kitty_sums.r4) (.region F_kitty_sums.r5))) (.region F_kitty_sums.r6)))
def F_kitty_sums.r7 : List Oper := [
  ⟨(some 28), .mv (.t 3), none⟩,
  ⟨(some 2), .mv (.t 28), none⟩]
def F_kitty_sums.code : Code := .seq (.region F_kitty_sums.r0) (.seq (.region F_kitty_sums.r1) (.seq (.seq (.region F_kitty_sums.r2) (.block 0 (.loop F_kitty_sums.l0))) (.seq (.region F_kitty_sums.r7) (.ret))))
def F_kitty_sums : Func := ⟨29, [.t 2], F_kitty_sums.code⟩
/-! slices.ContainsFunc[[]int,int] -/
def F_slices_ContainsFunc_int.r0 : List Oper := [
  ⟨(some 4), .mv (.c (.b false)), none⟩]
def F_slices_ContainsFunc_int.r1 : List Oper := [
  ⟨(some 5), .mv (.t 0), none⟩,
  ⟨(some 6), .mv (.t 1), none⟩,
  ⟨(some 7), .call (.c (.f 91 [])) [.t 5, .t 6], none⟩,
  ⟨(some 8), .bin .geq (.t 7) (.c (.i .i64 0)), none⟩,
  ⟨(some 4), .mv (.t 8), none⟩]
def F_slices_ContainsFunc_int.code : Code := .seq (.region F_slices_ContainsFunc_int.r0) (.seq (.region F_slices_ContainsFunc_int.r1) (.ret))
def F_slices_ContainsFunc_int : Func := ⟨9, [.t 4], F_slices_ContainsFunc_int.code⟩
/-! muntin/kitty.right$1 -/
def F_kitty_right_1.r0 : List Oper := [
  ⟨(some 2), .mv (.c (.b false)), none⟩]
def F_kitty_right_1.r1 : List Oper := [
  ⟨(some 3), .mv (.t 0), none⟩,
  ⟨(some 4), .bin .lss (.t 3) (.c (.i .i64 (-2))), none⟩,
  ⟨(some 5), .mv (.t 4), none⟩,
  ⟨(some 6), .mv (.t 0), (some (5, false))⟩,
  ⟨(some 7), .bin .gtr (.t 6) (.c (.i .i64 1)), (some (5, false))⟩,
  ⟨(some 8), .pick (.t 5) (.c (.b true)) (.t 7), none⟩,
  ⟨(some 2), .mv (.t 8), none⟩]
def F_kitty_right_1.code : Code := .seq (.region F_kitty_right_1.r0) (.seq (.region F_kitty_right_1.r1) (.ret))
def F_kitty_right_1 : Func := ⟨9, [.t 2], F_kitty_right_1.code⟩
/-! slices.Index[[]muntin/kitty.Corner,muntin/kitty.Corner] -/
def F_slices_Index_kitty_Corner.r0 : List Oper := [
  ⟨(some 3), .box (.t 1), none⟩,
  ⟨(some 4), .mv (.c (.i .i64 0)), none⟩]
def F_slices_Index_kitty_Corner.r1 : List Oper := [
  ⟨(some 6), .mv (.t 0), none⟩,
  ⟨(some 7), .len (.t 6), none⟩,
  ⟨(some 8), .mv (.c (.i .i64 0)), none⟩]
def F_slices_Index_kitty_Corner.r2 : List Oper := [
  ⟨(some 9), .bin .lss (.t 8) (.t 7), none⟩]
def F_slices_Index_kitty_Corner.r3 : List Oper := [
  ⟨(some 10), .mv (.t 8), none⟩,
  ⟨(some 5), .mv (.t 10), none⟩]
def F_slices_Index_kitty_Corner.r4 : List Oper := [
  ⟨(some 11), .ld true 2 (.t 3), none⟩,
  ⟨(some 12), .mv (.t 0), none⟩,
  ⟨(some 13), .mv (.t 5), none⟩,
  ⟨(some 14), .ixa 2 (.t 12) (.t 13), none⟩,
  ⟨(some 15), .ld true 2 (.t 14), none⟩,
  ⟨(some 16), .eq false (.fl [.i, .i]) (.t 11) (.t 15), none⟩]
def F_slices_Index_kitty_Corner.r5 : List Oper := [
  ⟨(some 17), .mv (.t 5), none⟩,
  ⟨(some 4), .mv (.t 17), none⟩]
def F_slices_Index_kitty_Corner.r6 : List Oper := [
  ⟨(some 18), .bin .add (.t 8) (.c (.i .i64 1)), none⟩,
  ⟨(some 8), .mv (.t 18), none⟩]
def F_slices_Index_kitty_Corner.l0 : Code := .seq (.region F_slices_Index_kitty_Corner.r2) (.seq (.cond (.t 9) (.skip) (.exit 0)) (.seq (.block 1 (.seq (.region F_slices_Index_kitty_Corner.r3) (.seq (.draw F_slices_Index_kitty_Corner.r4 [(0, 4)]) (.cond (.t 16) (.seq (.region F_slices_Index_kitty_Corner.r5) (.ret)) (.skip))))) (.region F_slices_Index_kitty_Corner.r6)))
def F_slices_Index_kitty_Corner.r7 : List Oper := [
  ⟨(some 4), .mv (.c (.i .i64 (-1))), none⟩]
def F_slices_Index_kitty_Corner.code : Code := .seq (.region F_slices_Index_kitty_Corner.r0) (.seq (.seq (.region F_slices_Index_kitty_Corner.r1) (.block 0 (.loop F_slices_Index_kitty_Corner.l0))) (.seq (.region F_slices_Index_kitty_Corner.r7) (.ret)))
def F_slices_Index_kitty_Corner : Func := ⟨19, [.t 4], F_slices_Index_kitty_Corner.code⟩
/-! slices.IndexFunc[[]int,int] -/
def F_slices_IndexFunc_int.r0 : List Oper := [
  ⟨(some 4), .mv (.c (.i .i64 0)), none⟩]
def F_slices_IndexFunc_int.r1 : List Oper := [
  ⟨(some 6), .mv (.t 0), none⟩,
  ⟨(some 7), .len (.t 6), none⟩,
  ⟨(some 8), .mv (.c (.i .i64 0)), none⟩]
def F_slices_IndexFunc_int.r2 : List Oper := [
  ⟨(some 9), .bin .lss (.t 8) (.t 7), none⟩]
def F_slices_IndexFunc_int.r3 : List Oper := [
  ⟨(some 10), .mv (.t 8), none⟩,
  ⟨(some 5), .mv (.t 10), none⟩]
def F_slices_IndexFunc_int.r4 : List Oper := [
  ⟨(some 11), .mv (.t 1), none⟩,
  ⟨(some 12), .mv (.t 0), none⟩,
  ⟨(some 13), .mv (.t 5), none⟩,
  ⟨(some 14), .ixa 1 (.t 12) (.t 13), none⟩,
  ⟨(some 15), .ld false 1 (.t 14), none⟩,
  ⟨(some 16), .call (.t 11) [.t 15], none⟩]
def F_slices_IndexFunc_int.r5 : List Oper := [
  ⟨(some 17), .mv (.t 5), none⟩,
  ⟨(some 4), .mv (.t 17), none⟩]
def F_slices_IndexFunc_int.r6 : List Oper := [
  ⟨(some 18), .bin .add (.t 8) (.c (.i .i64 1)), none⟩,
  ⟨(some 8), .mv (.t 18), none⟩]
def F_slices_IndexFunc_int.l0 : Code := .seq (.region F_slices_IndexFunc_int.r2) (.seq (.cond (.t 9) (.skip) (.exit 0)) (.seq (.block 1 (.seq (.region F_slices_IndexFunc_int.r3) (.seq (.region F_slices_IndexFunc_int.r4) (.cond (.t 16) (.seq (.region F_slices_IndexFunc_int.r5) (.ret)) (.skip))))) (.region F_slices_IndexFunc_int.r6)))
def F_slices_IndexFunc_int.r7 : List Oper := [
  ⟨(some 4), .mv (.c (.i .i64 (-1))), none⟩]
def F_slices_IndexFunc_int.code : Code := .seq (.region F_slices_IndexFunc_int.r0) (.seq (.seq (.region F_slices_IndexFunc_int.r1) (.block 0 (.loop F_slices_IndexFunc_int.l0))) (.seq (.region F_slices_IndexFunc_int.r7) (.ret)))
def F_slices_IndexFunc_int : Func := ⟨19, [.t 4], F_slices_IndexFunc_int.code⟩
def G : Prog := fun i => match i with
  | 3 => some F_muntinlaw15_KittyTells
  | 18 => some F_muntinlaw15_turns
  | 19 => some F_kitty_Corners
  | 20 => some F_muntinref15_Corners
  | 21 => some F_muntinref15_Good
  | 22 => some F_kitty_Rot
  | 23 => some F_muntinref15_Rot
  | 24 => some F_kitty_Pair
  | 25 => some F_muntinref15_Pair
  | 26 => some F_muntinref15_In
  | 27 => some F_muntinlaw15_wakes
  | 59 => some F_kitty_right
  | 60 => some F_slices_Contains_kitty_Corner
  | 61 => some F_kitty_rot
  | 62 => some F_kitty_sums
  | 78 => some F_slices_ContainsFunc_int
  | 80 => some F_kitty_right_1
  | 81 => some F_slices_Index_kitty_Corner
  | 91 => some F_slices_IndexFunc_int
  | _ => none
theorem G_F_muntinlaw15_KittyTells : G 3 = some F_muntinlaw15_KittyTells := rfl
theorem G_F_muntinlaw15_turns : G 18 = some F_muntinlaw15_turns := rfl
theorem G_F_kitty_Corners : G 19 = some F_kitty_Corners := rfl
theorem G_F_muntinref15_Corners : G 20 = some F_muntinref15_Corners := rfl
theorem G_F_muntinref15_Good : G 21 = some F_muntinref15_Good := rfl
theorem G_F_kitty_Rot : G 22 = some F_kitty_Rot := rfl
theorem G_F_muntinref15_Rot : G 23 = some F_muntinref15_Rot := rfl
theorem G_F_kitty_Pair : G 24 = some F_kitty_Pair := rfl
theorem G_F_muntinref15_Pair : G 25 = some F_muntinref15_Pair := rfl
theorem G_F_muntinref15_In : G 26 = some F_muntinref15_In := rfl
theorem G_F_muntinlaw15_wakes : G 27 = some F_muntinlaw15_wakes := rfl
theorem G_F_kitty_right : G 59 = some F_kitty_right := rfl
theorem G_F_slices_Contains_kitty_Corner : G 60 = some F_slices_Contains_kitty_Corner := rfl
theorem G_F_kitty_rot : G 61 = some F_kitty_rot := rfl
theorem G_F_kitty_sums : G 62 = some F_kitty_sums := rfl
theorem G_F_slices_ContainsFunc_int : G 78 = some F_slices_ContainsFunc_int := rfl
theorem G_F_kitty_right_1 : G 80 = some F_kitty_right_1 := rfl
theorem G_F_slices_Index_kitty_Corner : G 81 = some F_slices_Index_kitty_Corner := rfl
theorem G_F_slices_IndexFunc_int : G 91 = some F_slices_IndexFunc_int := rfl
end Mu
