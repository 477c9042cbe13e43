/- The functions of the program, as the evaluator has them: printed by a program; checked against the model's. -/
import Derived.Test.YteedifiifkghkaaMuE0
namespace Mu
/-! muntin/muntinlaw10.GridPlays -/
def F_muntinlaw10_GridPlays.r0 : List Oper := [
  ⟨(some 4), .mv (.c (.b false)), none⟩]
def F_muntinlaw10_GridPlays.r1 : List Oper := [
  ⟨(some 27), .mv (.t 0), none⟩,
  ⟨(some 28), .bin .rem (.t 27) (.c (.i .u8 8)), none⟩,
  ⟨(some 29), .conv .i64 (.t 28), none⟩,
  ⟨(some 5), .mv (.t 29), none⟩]
def F_muntinlaw10_GridPlays.r2 : List Oper := [
  ⟨(some 31), .mv (.t 5), none⟩,
  ⟨(some 32), .call (.c (.f 45 [])) [.t 31], none⟩,
  ⟨(some 30), .mv (.t 32), none⟩,
  ⟨(some 33), .ext (.t 30) 0, none⟩,
  ⟨(some 34), .ext (.t 30) 1, none⟩,
  ⟨(some 6), .mv (.t 33), none⟩,
  ⟨(some 7), .mv (.t 34), none⟩]
def F_muntinlaw10_GridPlays.r3 : List Oper := [
  ⟨(some 35), .mv (.t 5), none⟩,
  ⟨(some 36), .call (.c (.f 46 [])) [.t 35], none⟩,
  ⟨(some 8), .mv (.t 36), none⟩]
def F_muntinlaw10_GridPlays.r4 : List Oper := [
  ⟨(some 37), .call (.c (.f 47 [])) [], none⟩,
  ⟨(some 38), .un .not (.t 37), none⟩,
  ⟨(some 39), .mv (.t 38), none⟩,
  ⟨(some 40), .mv (.t 7), (some (39, false))⟩,
  ⟨(some 41), .eq true .sc (.t 40) (.c (.i .i64 0)), (some (39, false))⟩,
  ⟨(some 42), .pick (.t 39) (.c (.b true)) (.t 41), none⟩]
def F_muntinlaw10_GridPlays.r5 : List Oper := [
  ⟨(some 4), .mv (.c (.b false)), none⟩]
def F_muntinlaw10_GridPlays.r6 : List Oper := [
  ⟨(some 43), .mv (.t 1), none⟩,
  ⟨(some 44), .mv (.t 1), none⟩,
  ⟨(some 45), .len (.t 44), none⟩,
  ⟨(some 46), .mn [.t 45, .c (.i .i64 40)], none⟩,
  ⟨(some 47), .slc 5 (.t 43) none (some (.t 46)) none, none⟩,
  ⟨(some 48), .len (.t 47), none⟩,
  ⟨(some 49), .mv (.c (.i .i64 0)), none⟩]
def F_muntinlaw10_GridPlays.r7 : List Oper := [
  ⟨(some 50), .bin .lss (.t 49) (.t 48), none⟩]
def F_muntinlaw10_GridPlays.r8 : List Oper := [
  ⟨(some 51), .ixa 5 (.t 47) (.t 49), none⟩,
  ⟨(some 52), .ld true 5 (.t 51), none⟩,
  ⟨(some 10), .alloc [.i .u8 0, .i .i64 0, .i .i64 0, .i .i64 0, .i .i64 0], none⟩,
  ⟨none, .st 5 (.t 10) (.t 52), none⟩]
def F_muntinlaw10_GridPlays.r9 : List Oper := [
  ⟨(some 53), .ld true 5 (.t 10), none⟩,
  ⟨(some 54), .fa 0 (.t 10), none⟩,
  ⟨(some 55), .ld false 1 (.t 54), none⟩,
  ⟨(some 56), .fa 1 (.t 10), none⟩,
  ⟨(some 57), .ld false 1 (.t 56), none⟩,
  ⟨(some 58), .mx [.c (.i .i64 0), .t 57], none⟩,
  ⟨(some 59), .bin .rem (.t 58) (.c (.i .i64 10)), none⟩,
  ⟨(some 60), .fa 2 (.t 10), none⟩,
  ⟨(some 61), .ld false 1 (.t 60), none⟩,
  ⟨(some 62), .mx [.c (.i .i64 0), .t 61], none⟩,
  ⟨(some 63), .bin .rem (.t 62) (.c (.i .i64 4)), none⟩,
  ⟨(some 64), .fa 3 (.t 10), none⟩,
  ⟨(some 65), .ld false 1 (.t 64), none⟩,
  ⟨(some 66), .mx [.c (.i .i64 0), .t 65], none⟩,
  ⟨(some 67), .bin .rem (.t 66) (.c (.i .i64 10)), none⟩,
  ⟨(some 68), .fa 4 (.t 10), none⟩,
  ⟨(some 69), .ld false 1 (.t 68), none⟩,
  ⟨(some 70), .bin .rem (.t 69) (.c (.i .i64 5)), none⟩,
  ⟨(some 71), .mx [.c (.i .i64 (-2)), .t 70], none⟩,
  ⟨(some 72), .build [.i .u8 0, .i .i64 0, .i .i64 0, .i .i64 0, .i .i64 0] [(0, 1, .t 55), (1, 1, .t 59), (2, 1, .t 63), (3, 1, .t 67), (4, 1, .t 71)], none⟩,
  ⟨(some 73), .bsl 5 2 [.i .u8 0, .i .i64 0, .i .i64 0, .i .i64 0, .i .i64 0] [(0, 5, .t 53), (5, 5, .t 72)], none⟩,
  ⟨(some 74), .len (.t 73), none⟩,
  ⟨(some 75), .mv (.c (.i .i64 0)), none⟩]
def F_muntinlaw10_GridPlays.r10 : List Oper := [
  ⟨(some 76), .bin .lss (.t 75) (.t 74), none⟩]
def F_muntinlaw10_GridPlays.r11 : List Oper := [
  ⟨(some 77), .ixa 5 (.t 73) (.t 75), none⟩,
  ⟨(some 78), .ld true 5 (.t 77), none⟩,
  ⟨(some 12), .alloc [.i .u8 0, .i .i64 0, .i .i64 0, .i .i64 0, .i .i64 0], none⟩,
  ⟨none, .st 5 (.t 12) (.t 78), none⟩]
def F_muntinlaw10_GridPlays.r12 : List Oper := [
  ⟨(some 79), .fa 0 (.t 12), none⟩,
  ⟨(some 80), .ld false 1 (.t 79), none⟩,
  ⟨(some 81), .bin .rem (.t 80) (.c (.i .u8 4)), none⟩]
def F_muntinlaw10_GridPlays.r18 : List Oper := [
  ⟨(some 110), .eq false .sc (.t 81) (.c (.i .u8 2)), none⟩,
  ⟨(some 109), .mv (.t 110), none⟩]
def F_muntinlaw10_GridPlays.r19 : List Oper := [
  ⟨(some 112), .mv (.t 6), none⟩,
  ⟨(some 113), .fa 1 (.t 12), none⟩,
  ⟨(some 114), .ld false 1 (.t 113), none⟩,
  ⟨(some 115), .fa 2 (.t 12), none⟩,
  ⟨(some 116), .ld false 1 (.t 115), none⟩,
  ⟨(some 117), .call (.c (.f 48 [])) [.t 112, .t 114, .t 116], none⟩,
  ⟨(some 111), .mv (.t 117), none⟩,
  ⟨(some 118), .ext (.t 111) 0, none⟩,
  ⟨(some 119), .ext (.t 111) 1, none⟩,
  ⟨(some 13), .mv (.t 118), none⟩,
  ⟨(some 14), .mv (.t 119), none⟩]
def F_muntinlaw10_GridPlays.r20 : List Oper := [
  ⟨(some 121), .mv (.t 8), none⟩,
  ⟨(some 122), .fa 1 (.t 12), none⟩,
  ⟨(some 123), .ld false 1 (.t 122), none⟩,
  ⟨(some 124), .fa 2 (.t 12), none⟩,
  ⟨(some 125), .ld false 1 (.t 124), none⟩,
  ⟨(some 126), .call (.c (.f 49 [])) [.t 121, .t 123, .t 125], none⟩,
  ⟨(some 120), .mv (.t 126), none⟩,
  ⟨(some 127), .ext (.t 120) 0, none⟩,
  ⟨(some 128), .ext (.t 120) 1, none⟩,
  ⟨(some 129), .ext (.t 120) 2, none⟩,
  ⟨(some 15), .mv (.t 127), none⟩,
  ⟨(some 16), .mv (.t 128), none⟩,
  ⟨(some 17), .mv (.t 129), none⟩]
def F_muntinlaw10_GridPlays.r21 : List Oper := [
  ⟨(some 130), .mv (.t 13), none⟩,
  ⟨(some 131), .mv (.t 16), none⟩,
  ⟨(some 132), .eq true .sc (.t 130) (.t 131), none⟩,
  ⟨(some 133), .mv (.t 132), none⟩,
  ⟨(some 134), .mv (.t 14), (some (133, false))⟩,
  ⟨(some 135), .mv (.t 17), (some (133, false))⟩,
  ⟨(some 136), .eq true .sc (.t 134) (.t 135), (some (133, false))⟩,
  ⟨(some 137), .pick (.t 133) (.c (.b true)) (.t 136), none⟩]
def F_muntinlaw10_GridPlays.r22 : List Oper := [
  ⟨(some 4), .mv (.c (.b false)), none⟩]
def F_muntinlaw10_GridPlays.r23 : List Oper := [
  ⟨(some 138), .mv (.t 15), none⟩,
  ⟨(some 8), .mv (.t 138), none⟩]
def F_muntinlaw10_GridPlays.r24 : List Oper := [
  ⟨(some 140), .eq false .sc (.t 81) (.c (.i .u8 3)), none⟩,
  ⟨(some 139), .mv (.t 140), none⟩]
def F_muntinlaw10_GridPlays.r25 : List Oper := [
  ⟨(some 141), .mv (.t 8), none⟩,
  ⟨(some 142), .len (.t 141), none⟩,
  ⟨(some 143), .bin .gtr (.t 142) (.c (.i .i64 30)), none⟩]
def F_muntinlaw10_GridPlays.r26 : List Oper := [
  ⟨(some 145), .mv (.t 6), none⟩,
  ⟨(some 146), .call (.c (.f 50 [])) [.t 145], none⟩,
  ⟨(some 144), .mv (.t 146), none⟩,
  ⟨(some 147), .ext (.t 144) 0, none⟩,
  ⟨(some 148), .ext (.t 144) 1, none⟩,
  ⟨(some 18), .mv (.t 147), none⟩,
  ⟨(some 19), .mv (.t 148), none⟩]
def F_muntinlaw10_GridPlays.r27 : List Oper := [
  ⟨(some 149), .mv (.t 18), none⟩,
  ⟨(some 150), .mv (.t 8), none⟩,
  ⟨(some 151), .len (.t 150), none⟩,
  ⟨(some 152), .eq true .sc (.t 149) (.t 151), none⟩,
  ⟨(some 153), .mv (.t 152), none⟩,
  ⟨(some 154), .mv (.t 19), (some (153, false))⟩,
  ⟨(some 155), .eq true .sc (.t 154) (.c (.i .i64 0)), (some (153, false))⟩,
  ⟨(some 156), .pick (.t 153) (.c (.b true)) (.t 155), none⟩]
def F_muntinlaw10_GridPlays.r28 : List Oper := [
  ⟨(some 4), .mv (.c (.b false)), none⟩]
def F_muntinlaw10_GridPlays.r29 : List Oper := [
  ⟨(some 157), .mv (.t 8), none⟩,
  ⟨(some 158), .call (.c (.f 51 [])) [.t 157], none⟩,
  ⟨(some 159), .call (.c (.f 46 [])) [.c (.i .i64 1)], none⟩,
  ⟨(some 160), .app 8 64 (.t 158) (.t 159), none⟩,
  ⟨(some 8), .mv (.t 160), none⟩]
def F_muntinlaw10_GridPlays.r13 : List Oper := [
  ⟨(some 82), .mv (.t 6), none⟩,
  ⟨(some 83), .fa 1 (.t 12), none⟩,
  ⟨(some 84), .ld false 1 (.t 83), none⟩,
  ⟨(some 85), .fa 2 (.t 12), none⟩,
  ⟨(some 86), .ld false 1 (.t 85), none⟩,
  ⟨(some 87), .fa 3 (.t 12), none⟩,
  ⟨(some 88), .ld false 1 (.t 87), none⟩,
  ⟨(some 89), .fa 4 (.t 12), none⟩,
  ⟨(some 90), .ld false 1 (.t 89), none⟩,
  ⟨(some 91), .call (.c (.f 52 [])) [.t 82, .t 84, .t 86, .t 88, .t 90], none⟩,
  ⟨(some 20), .mv (.t 91), none⟩]
def F_muntinlaw10_GridPlays.r14 : List Oper := [
  ⟨(some 93), .mv (.t 8), none⟩,
  ⟨(some 94), .fa 1 (.t 12), none⟩,
  ⟨(some 95), .ld false 1 (.t 94), none⟩,
  ⟨(some 96), .fa 2 (.t 12), none⟩,
  ⟨(some 97), .ld false 1 (.t 96), none⟩,
  ⟨(some 98), .fa 3 (.t 12), none⟩,
  ⟨(some 99), .ld false 1 (.t 98), none⟩,
  ⟨(some 100), .fa 4 (.t 12), none⟩,
  ⟨(some 101), .ld false 1 (.t 100), none⟩,
  ⟨(some 102), .call (.c (.f 53 [])) [.t 93, .t 95, .t 97, .t 99, .t 101], none⟩,
  ⟨(some 92), .mv (.t 102), none⟩,
  ⟨(some 103), .ext (.t 92) 0, none⟩,
  ⟨(some 104), .ext (.t 92) 1, none⟩,
  ⟨(some 21), .mv (.t 103), none⟩,
  ⟨(some 22), .mv (.t 104), none⟩]
def F_muntinlaw10_GridPlays.r15 : List Oper := [
  ⟨(some 105), .mv (.t 20), none⟩,
  ⟨(some 106), .mv (.t 22), none⟩,
  ⟨(some 107), .eq true .sc (.t 105) (.t 106), none⟩]
def F_muntinlaw10_GridPlays.r16 : List Oper := [
  ⟨(some 4), .mv (.c (.b false)), none⟩]
def F_muntinlaw10_GridPlays.r17 : List Oper := [
  ⟨(some 108), .mv (.t 21), none⟩,
  ⟨(some 8), .mv (.t 108), none⟩]
def F_muntinlaw10_GridPlays.r30 : List Oper := [
  ⟨(some 162), .mv (.t 6), none⟩,
  ⟨(some 163), .fa 1 (.t 12), none⟩,
  ⟨(some 164), .ld false 1 (.t 163), none⟩,
  ⟨(some 165), .fa 2 (.t 12), none⟩,
  ⟨(some 166), .ld false 1 (.t 165), none⟩,
  ⟨(some 167), .call (.c (.f 54 [])) [.t 162, .t 164, .t 166], none⟩,
  ⟨(some 161), .mv (.t 167), none⟩,
  ⟨(some 168), .ext (.t 161) 0, none⟩,
  ⟨(some 169), .ext (.t 161) 1, none⟩,
  ⟨(some 170), .ext (.t 161) 2, none⟩,
  ⟨(some 23), .mv (.t 168), none⟩,
  ⟨(some 24), .mv (.t 169), none⟩,
  ⟨(some 25), .mv (.t 170), none⟩]
def F_muntinlaw10_GridPlays.r31 : List Oper := [
  ⟨(some 171), .fa 1 (.t 12), none⟩,
  ⟨(some 172), .ld false 1 (.t 171), none⟩,
  ⟨(some 173), .bin .geq (.t 172) (.c (.i .i64 0)), none⟩,
  ⟨(some 174), .mv (.t 173), none⟩,
  ⟨(some 175), .fa 1 (.t 12), (some (174, true))⟩,
  ⟨(some 176), .ld false 1 (.t 175), (some (174, true))⟩,
  ⟨(some 177), .mv (.t 8), (some (174, true))⟩,
  ⟨(some 178), .len (.t 177), (some (174, true))⟩,
  ⟨(some 179), .bin .lss (.t 176) (.t 178), (some (174, true))⟩,
  ⟨(some 180), .pick (.t 174) (.t 179) (.c (.b false)), none⟩,
  ⟨(some 181), .mv (.t 180), none⟩,
  ⟨(some 182), .fa 2 (.t 12), (some (181, true))⟩,
  ⟨(some 183), .ld false 1 (.t 182), (some (181, true))⟩,
  ⟨(some 184), .bin .geq (.t 183) (.c (.i .i64 0)), (some (181, true))⟩,
  ⟨(some 185), .pick (.t 181) (.t 184) (.c (.b false)), none⟩,
  ⟨(some 186), .mv (.t 185), none⟩,
  ⟨(some 187), .fa 2 (.t 12), (some (186, true))⟩,
  ⟨(some 188), .ld false 1 (.t 187), (some (186, true))⟩,
  ⟨(some 189), .bin .lss (.t 188) (.c (.i .i64 4)), (some (186, true))⟩,
  ⟨(some 190), .pick (.t 186) (.t 189) (.c (.b false)), none⟩,
  ⟨(some 191), .mv (.t 190), none⟩,
  ⟨(some 192), .mv (.t 8), (some (191, true))⟩,
  ⟨(some 193), .fa 1 (.t 12), (some (191, true))⟩,
  ⟨(some 194), .ld false 1 (.t 193), (some (191, true))⟩,
  ⟨(some 195), .mx [.c (.i .i64 0), .t 194], (some (191, true))⟩,
  ⟨(some 196), .fa 2 (.t 12), (some (191, true))⟩,
  ⟨(some 197), .ld false 1 (.t 196), (some (191, true))⟩,
  ⟨(some 198), .mx [.c (.i .i64 0), .t 197], (some (191, true))⟩,
  ⟨(some 199), .bin .rem (.t 198) (.c (.i .i64 4)), (some (191, true))⟩,
  ⟨(some 200), .ixa 8 (.t 192) (.t 195), (some (191, true))⟩,
  ⟨(some 201), .fa 0 (.t 200), (some (191, true))⟩,
  ⟨(some 202), .ixaa 1 4 (.t 201) (.t 199), (some (191, true))⟩,
  ⟨(some 203), .ld false 1 (.t 202), (some (191, true))⟩,
  ⟨(some 204), .bin .geq (.t 203) (.c (.i .i64 0)), (some (191, true))⟩,
  ⟨(some 205), .pick (.t 191) (.t 204) (.c (.b false)), none⟩,
  ⟨(some 26), .mv (.t 205), none⟩]
def F_muntinlaw10_GridPlays.r32 : List Oper := [
  ⟨(some 206), .mv (.t 25), none⟩,
  ⟨(some 207), .mv (.t 26), none⟩,
  ⟨(some 208), .eq true .bl (.t 206) (.t 207), none⟩,
  ⟨(some 209), .mv (.t 208), none⟩,
  ⟨(some 210), .mv (.t 25), (some (209, false))⟩,
  ⟨(some 211), .mv (.t 210), (some (209, false))⟩,
  ⟨(some 212), .mv (.t 23), (some (211, true))⟩,
  ⟨(some 213), .mv (.t 8), (some (211, true))⟩,
  ⟨(some 214), .fa 1 (.t 12), (some (211, true))⟩,
  ⟨(some 215), .ld false 1 (.t 214), (some (211, true))⟩,
  ⟨(some 216), .fa 2 (.t 12), (some (211, true))⟩,
  ⟨(some 217), .ld false 1 (.t 216), (some (211, true))⟩,
  ⟨(some 218), .ixa 8 (.t 213) (.t 215), (some (211, true))⟩,
  ⟨(some 219), .fa 0 (.t 218), (some (211, true))⟩,
  ⟨(some 220), .ixaa 1 4 (.t 219) (.t 217), (some (211, true))⟩,
  ⟨(some 221), .ld false 1 (.t 220), (some (211, true))⟩,
  ⟨(some 222), .eq true .sc (.t 212) (.t 221), (some (211, true))⟩,
  ⟨(some 223), .mv (.t 222), (some (211, true))⟩,
  ⟨(some 224), .mv (.t 24), (some (223, false))⟩,
  ⟨(some 225), .mv (.t 8), (some (223, false))⟩,
  ⟨(some 226), .fa 1 (.t 12), (some (223, false))⟩,
  ⟨(some 227), .ld false 1 (.t 226), (some (223, false))⟩,
  ⟨(some 228), .fa 2 (.t 12), (some (223, false))⟩,
  ⟨(some 229), .ld false 1 (.t 228), (some (223, false))⟩,
  ⟨(some 230), .ixa 8 (.t 225) (.t 227), (some (223, false))⟩,
  ⟨(some 231), .fa 4 (.t 230), (some (223, false))⟩,
  ⟨(some 232), .ixaa 1 4 (.t 231) (.t 229), (some (223, false))⟩,
  ⟨(some 233), .ld false 1 (.t 232), (some (223, false))⟩,
  ⟨(some 234), .eq true .sc (.t 224) (.t 233), (some (223, false))⟩,
  ⟨(some 235), .pick (.t 223) (.c (.b true)) (.t 234), (some (211, true))⟩,
  ⟨(some 236), .pick (.t 211) (.t 235) (.c (.b false)), (some (209, false))⟩,
  ⟨(some 237), .pick (.t 209) (.c (.b true)) (.t 236), none⟩,
  ⟨(some 238), .mv (.t 237), none⟩,
  ⟨(some 239), .mv (.t 25), (some (238, false))⟩,
  ⟨(some 240), .un .not (.t 239), (some (238, false))⟩,
  ⟨(some 241), .mv (.t 240), (some (238, false))⟩,
  ⟨(some 242), .mv (.t 23), (some (241, true))⟩,
  ⟨(some 243), .eq true .sc (.t 242) (.c (.i .i64 0)), (some (241, true))⟩,
  ⟨(some 244), .mv (.t 243), (some (241, true))⟩,
  ⟨(some 245), .mv (.t 24), (some (244, false))⟩,
  ⟨(some 246), .eq true .sc (.t 245) (.c (.i .i64 0)), (some (244, false))⟩,
  ⟨(some 247), .pick (.t 244) (.c (.b true)) (.t 246), (some (241, true))⟩,
  ⟨(some 248), .pick (.t 241) (.t 247) (.c (.b false)), (some (238, false))⟩,
  ⟨(some 249), .pick (.t 238) (.c (.b true)) (.t 248), none⟩]
def F_muntinlaw10_GridPlays.r33 : List Oper := [
  ⟨(some 4), .mv (.c (.b false)), none⟩]
def F_muntinlaw10_GridPlays.r34 : List Oper := [
  ⟨(some 250), .bin .add (.t 75) (.c (.i .i64 1)), none⟩,
  ⟨(some 75), .mv (.t 250), none⟩]
def F_muntinlaw10_GridPlays.l0 : Code := .seq (.region F_muntinlaw10_GridPlays.r10) (.seq (.cond (.t 76) (.skip) (.exit 2)) (.seq (.block 3 (.seq (.region F_muntinlaw10_GridPlays.r11) (.seq (.seq (.region F_muntinlaw10_GridPlays.r12) (.block 4 (.seq (.region F_muntinlaw10_GridPlays.r18) (.cond (.t 109) (.seq (.region F_muntinlaw10_GridPlays.r19) (.seq (.region F_muntinlaw10_GridPlays.r20) (.seq (.seq (.region F_muntinlaw10_GridPlays.r21) (.cond (.t 137) (.seq (.region F_muntinlaw10_GridPlays.r22) (.ret)) (.skip))) (.region F_muntinlaw10_GridPlays.r23)))) (.seq (.region F_muntinlaw10_GridPlays.r24) (.cond (.t 139) (.seq (.seq (.region F_muntinlaw10_GridPlays.r25) (.cond (.t 143) (.exit 3) (.skip))) (.seq (.region F_muntinlaw10_GridPlays.r26) (.seq (.seq (.region F_muntinlaw10_GridPlays.r27) (.cond (.t 156) (.seq (.region F_muntinlaw10_GridPlays.r28) (.ret)) (.skip))) (.region F_muntinlaw10_GridPlays.r29)))) (.seq (.region F_muntinlaw10_GridPlays.r13) (.seq (.region F_muntinlaw10_GridPlays.r14) (.seq (.seq (.region F_muntinlaw10_GridPlays.r15) (.cond (.t 107) (.seq (.region F_muntinlaw10_GridPlays.r16) (.ret)) (.skip))) (.region F_muntinlaw10_GridPlays.r17)))))))))) (.seq (.region F_muntinlaw10_GridPlays.r30) (.seq (.draw F_muntinlaw10_GridPlays.r31 [(23, 26)]) (.seq (.draw F_muntinlaw10_GridPlays.r32 [(9, 11), (21, 23)]) (.cond (.t 249) (.seq (.region F_muntinlaw10_GridPlays.r33) (.ret)) (.skip)))))))) (.region F_muntinlaw10_GridPlays.r34)))
def F_muntinlaw10_GridPlays.r35 : List Oper := [
  ⟨(some 251), .mv (.t 6), none⟩,
  ⟨(some 252), .call (.c (.f 55 [])) [.t 251], none⟩,
  ⟨(some 253), .mv (.t 8), none⟩,
  ⟨(some 254), .len (.t 253), none⟩,
  ⟨(some 255), .eq true .sc (.t 252) (.t 254), none⟩,
  ⟨(some 256), .mv (.t 255), none⟩,
  ⟨(some 257), .mv (.t 6), (some (256, false))⟩,
  ⟨(some 258), .call (.c (.f 57 [])) [.t 257], (some (256, false))⟩,
  ⟨(some 259), .mv (.t 8), (some (256, false))⟩,
  ⟨(some 260), .call (.c (.f 56 [])) [.t 258, .t 259], (some (256, false))⟩,
  ⟨(some 261), .un .not (.t 260), (some (256, false))⟩,
  ⟨(some 262), .pick (.t 256) (.c (.b true)) (.t 261), none⟩]
def F_muntinlaw10_GridPlays.r36 : List Oper := [
  ⟨(some 4), .mv (.c (.b false)), none⟩]
def F_muntinlaw10_GridPlays.r37 : List Oper := [
  ⟨(some 263), .bin .add (.t 49) (.c (.i .i64 1)), none⟩,
  ⟨(some 49), .mv (.t 263), none⟩]
def F_muntinlaw10_GridPlays.l1 : Code := .seq (.region F_muntinlaw10_GridPlays.r7) (.seq (.cond (.t 50) (.skip) (.exit 0)) (.seq (.block 1 (.seq (.region F_muntinlaw10_GridPlays.r8) (.seq (.seq (.region F_muntinlaw10_GridPlays.r9) (.block 2 (.loop F_muntinlaw10_GridPlays.l0))) (.seq (.region F_muntinlaw10_GridPlays.r35) (.cond (.t 262) (.seq (.region F_muntinlaw10_GridPlays.r36) (.ret)) (.skip)))))) (.region F_muntinlaw10_GridPlays.r37)))
def F_muntinlaw10_GridPlays.r38 : List Oper := [
  ⟨(some 4), .mv (.c (.b true)), none⟩]
def F_muntinlaw10_GridPlays.code : Code := .seq (.region F_muntinlaw10_GridPlays.r0) (.seq (.region F_muntinlaw10_GridPlays.r1) (.seq (.region F_muntinlaw10_GridPlays.r2) (.seq (.region F_muntinlaw10_GridPlays.r3) (.seq (.seq (.region F_muntinlaw10_GridPlays.r4) (.cond (.t 42) (.seq (.region F_muntinlaw10_GridPlays.r5) (.ret)) (.skip))) (.seq (.seq (.region F_muntinlaw10_GridPlays.r6) (.block 0 (.loop F_muntinlaw10_GridPlays.l1))) (.seq (.region F_muntinlaw10_GridPlays.r38) (.ret)))))))
def F_muntinlaw10_GridPlays : Func := ⟨264, [.t 4], F_muntinlaw10_GridPlays.code⟩
/-! muntin/grid.New -/
def F_grid_New.r0 : List Oper := [
  ⟨(some 2), .mv (.c (.pn)), none⟩,
  ⟨(some 3), .mv (.c (.i .i64 0)), none⟩]
def F_grid_New.r1 : List Oper := [
  ⟨(some 5), .mv (.t 0), none⟩,
  ⟨(some 6), .bin .lss (.t 5) (.c (.i .i64 0)), none⟩,
  ⟨(some 4), .mv (.t 6), none⟩]
def F_grid_New.r2 : List Oper := [
  ⟨(some 2), .mv (.c (.pn)), none⟩,
  ⟨(some 3), .mv (.c (.i .i64 2)), none⟩]
def F_grid_New.r3 : List Oper := [
  ⟨(some 8), .mv (.t 0), none⟩,
  ⟨(some 9), .bin .gtr (.t 8) (.c (.i .i64 4096)), none⟩,
  ⟨(some 7), .mv (.t 9), none⟩]
def F_grid_New.r4 : List Oper := [
  ⟨(some 2), .mv (.c (.pn)), none⟩,
  ⟨(some 3), .mv (.c (.i .i64 6)), none⟩]
def F_grid_New.r5 : List Oper := [
  ⟨(some 10), .call (.c (.f 74 [])) [], none⟩,
  ⟨(some 11), .bsl 8 1 [.i .i64 0, .i .i64 0, .i .i64 0, .i .i64 0, .i .i64 0, .i .i64 0, .i .i64 0, .i .i64 0] [(0, 8, .t 10)], none⟩,
  ⟨(some 12), .mv (.t 0), none⟩,
  ⟨(some 13), .call (.c (.f 73 [])) [.t 11, .t 12], none⟩,
  ⟨(some 14), .build [.sn] [(0, 1, .t 13)], none⟩,
  ⟨(some 15), .box (.t 14), none⟩,
  ⟨(some 2), .mv (.t 15), none⟩,
  ⟨(some 3), .mv (.c (.i .i64 0)), none⟩]
def F_grid_New.code : Code := .seq (.region F_grid_New.r0) (.seq (.block 0 (.seq (.region F_grid_New.r1) (.cond (.t 4) (.seq (.region F_grid_New.r2) (.ret)) (.seq (.region F_grid_New.r3) (.cond (.t 7) (.seq (.region F_grid_New.r4) (.ret)) (.skip)))))) (.seq (.region F_grid_New.r5) (.ret)))
def F_grid_New : Func := ⟨16, [.t 2, .t 3], F_grid_New.code⟩
/-! muntin/muntinref10.New -/
def F_muntinref10_New.r0 : List Oper := [
  ⟨(some 2), .mv (.c (.sn)), none⟩]
def F_muntinref10_New.r1 : List Oper := [
  ⟨(some 6), .mv (.t 0), none⟩,
  ⟨(some 7), .mks 8 64 [.i .i64 0, .i .i64 0, .i .i64 0, .i .i64 0, .i .i64 0, .i .i64 0, .i .i64 0, .i .i64 0] (.t 6) (.t 6), none⟩,
  ⟨(some 3), .mv (.t 7), none⟩]
def F_muntinref10_New.r2 : List Oper := [
  ⟨(some 4), .mv (.c (.i .i64 0)), none⟩]
def F_muntinref10_New.r3 : List Oper := [
  ⟨(some 8), .mv (.t 4), none⟩,
  ⟨(some 9), .mv (.t 0), none⟩,
  ⟨(some 10), .bin .lss (.t 8) (.t 9), none⟩]
def F_muntinref10_New.r5 : List Oper := [
  ⟨(some 5), .mv (.c (.i .i64 0)), none⟩]
def F_muntinref10_New.r6 : List Oper := [
  ⟨(some 13), .mv (.t 5), none⟩,
  ⟨(some 14), .bin .lss (.t 13) (.c (.i .i64 4)), none⟩]
def F_muntinref10_New.r8 : List Oper := [
  ⟨(some 17), .mv (.t 3), none⟩,
  ⟨(some 18), .mv (.t 4), none⟩,
  ⟨(some 19), .mv (.t 5), none⟩,
  ⟨(some 20), .ixa 8 (.t 17) (.t 18), none⟩,
  ⟨(some 21), .fa 0 (.t 20), none⟩,
  ⟨(some 22), .ixaa 1 4 (.t 21) (.t 19), none⟩,
  ⟨none, .st 1 (.t 22) (.c (.i .i64 (-1))), none⟩]
def F_muntinref10_New.r7 : List Oper := [
  ⟨(some 15), .mv (.t 5), none⟩,
  ⟨(some 16), .bin .add (.t 15) (.c (.i .i64 1)), none⟩,
  ⟨(some 5), .mv (.t 16), none⟩]
def F_muntinref10_New.l0 : Code := .seq (.seq (.region F_muntinref10_New.r6) (.cond (.t 14) (.skip) (.exit 2))) (.seq (.block 3 (.region F_muntinref10_New.r8)) (.region F_muntinref10_New.r7))
def F_muntinref10_New.r4 : List Oper := [
  ⟨(some 11), .mv (.t 4), none⟩,
  ⟨(some 12), .bin .add (.t 11) (.c (.i .i64 1)), none⟩,
  ⟨(some 4), .mv (.t 12), none⟩]
def F_muntinref10_New.l1 : Code := .seq (.seq (.region F_muntinref10_New.r3) (.cond (.t 10) (.skip) (.exit 0))) (.seq (.block 1 (.seq (.region F_muntinref10_New.r5) (.block 2 (.loop F_muntinref10_New.l0)))) (.region F_muntinref10_New.r4))
def F_muntinref10_New.r9 : List Oper := [
  ⟨(some 23), .mv (.t 3), none⟩,
  ⟨(some 2), .mv (.t 23), none⟩]
def F_muntinref10_New.code : Code := .seq (.region F_muntinref10_New.r0) (.seq (.region F_muntinref10_New.r1) (.seq (.seq (.region F_muntinref10_New.r2) (.block 0 (.loop F_muntinref10_New.l1))) (.seq (.region F_muntinref10_New.r9) (.ret))))
def F_muntinref10_New : Func := ⟨24, [.t 2], F_muntinref10_New.code⟩
/-! muntin/muntinlaw10.wakes -/
def F_muntinlaw10_wakes.r0 : List Oper := [
  ⟨(some 0), .mv (.c (.b false)), none⟩]
def F_muntinlaw10_wakes.r1 : List Oper := [
  ⟨(some 12), .call (.c (.f 45 [])) [.c (.i .i64 2)], none⟩,
  ⟨(some 11), .mv (.t 12), none⟩,
  ⟨(some 13), .ext (.t 11) 0, none⟩,
  ⟨(some 14), .ext (.t 11) 1, none⟩,
  ⟨(some 1), .mv (.t 13), none⟩,
  ⟨(some 2), .mv (.t 14), none⟩]
def F_muntinlaw10_wakes.r2 : List Oper := [
  ⟨(some 15), .mv (.t 1), none⟩,
  ⟨(some 16), .call (.c (.f 52 [])) [.t 15, .c (.i .i64 0), .c (.i .i64 0), .c (.i .i64 1), .c (.i .i64 0)], none⟩,
  ⟨(some 3), .mv (.t 16), none⟩]
def F_muntinlaw10_wakes.r3 : List Oper := [
  ⟨(some 18), .mv (.t 1), none⟩,
  ⟨(some 19), .call (.c (.f 48 [])) [.t 18, .c (.i .i64 0), .c (.i .i64 0)], none⟩,
  ⟨(some 17), .mv (.t 19), none⟩,
  ⟨(some 20), .ext (.t 17) 0, none⟩,
  ⟨(some 21), .ext (.t 17) 1, none⟩,
  ⟨(some 4), .mv (.t 20), none⟩,
  ⟨(some 5), .mv (.t 21), none⟩]
def F_muntinlaw10_wakes.r4 : List Oper := [
  ⟨(some 23), .mv (.t 1), none⟩,
  ⟨(some 24), .call (.c (.f 54 [])) [.t 23, .c (.i .i64 2), .c (.i .i64 0)], none⟩,
  ⟨(some 22), .mv (.t 24), none⟩,
  ⟨(some 25), .ext (.t 22) 0, none⟩,
  ⟨(some 26), .ext (.t 22) 1, none⟩,
  ⟨(some 27), .ext (.t 22) 2, none⟩,
  ⟨(some 6), .mv (.t 25), none⟩,
  ⟨(some 7), .mv (.t 26), none⟩,
  ⟨(some 8), .mv (.t 27), none⟩]
def F_muntinlaw10_wakes.r5 : List Oper := [
  ⟨(some 29), .call (.c (.f 45 [])) [.c (.i .i64 (-1))], none⟩,
  ⟨(some 28), .mv (.t 29), none⟩,
  ⟨(some 30), .ext (.t 28) 0, none⟩,
  ⟨(some 31), .ext (.t 28) 1, none⟩,
  ⟨(some 9), .mv (.t 30), none⟩,
  ⟨(some 10), .mv (.t 31), none⟩]
def F_muntinlaw10_wakes.r6 : List Oper := [
  ⟨(some 32), .mv (.t 2), none⟩,
  ⟨(some 33), .eq false .sc (.t 32) (.c (.i .i64 0)), none⟩,
  ⟨(some 34), .mv (.t 33), none⟩,
  ⟨(some 35), .mv (.t 3), (some (34, true))⟩,
  ⟨(some 36), .eq false .sc (.t 35) (.c (.i .i64 0)), (some (34, true))⟩,
  ⟨(some 37), .pick (.t 34) (.t 36) (.c (.b false)), none⟩,
  ⟨(some 38), .mv (.t 37), none⟩,
  ⟨(some 39), .mv (.t 4), (some (38, true))⟩,
  ⟨(some 40), .eq false .sc (.t 39) (.c (.i .i64 2)), (some (38, true))⟩,
  ⟨(some 41), .pick (.t 38) (.t 40) (.c (.b false)), none⟩,
  ⟨(some 42), .mv (.t 41), none⟩,
  ⟨(some 43), .mv (.t 5), (some (42, true))⟩,
  ⟨(some 44), .eq false .sc (.t 43) (.c (.i .i64 0)), (some (42, true))⟩,
  ⟨(some 45), .pick (.t 42) (.t 44) (.c (.b false)), none⟩,
  ⟨(some 46), .mv (.t 45), none⟩,
  ⟨(some 47), .mv (.t 6), (some (46, true))⟩,
  ⟨(some 48), .eq false .sc (.t 47) (.c (.i .i64 1)), (some (46, true))⟩,
  ⟨(some 49), .pick (.t 46) (.t 48) (.c (.b false)), none⟩,
  ⟨(some 50), .mv (.t 49), none⟩,
  ⟨(some 51), .mv (.t 7), (some (50, true))⟩,
  ⟨(some 52), .eq false .sc (.t 51) (.c (.i .i64 0)), (some (50, true))⟩,
  ⟨(some 53), .pick (.t 50) (.t 52) (.c (.b false)), none⟩,
  ⟨(some 54), .mv (.t 53), none⟩,
  ⟨(some 55), .mv (.t 8), (some (54, true))⟩,
  ⟨(some 56), .pick (.t 54) (.t 55) (.c (.b false)), none⟩,
  ⟨(some 57), .mv (.t 56), none⟩,
  ⟨(some 58), .mv (.t 10), (some (57, true))⟩,
  ⟨(some 59), .eq false .sc (.t 58) (.c (.i .i64 2)), (some (57, true))⟩,
  ⟨(some 60), .pick (.t 57) (.t 59) (.c (.b false)), none⟩,
  ⟨(some 61), .mv (.t 60), none⟩,
  ⟨(some 62), .build [.i .i64 0, .i .i64 0, .i .i64 0, .i .i64 0, .i .i64 0, .i .i64 0, .i .i64 0, .i .i64 0] [], (some (61, true))⟩,
  ⟨(some 63), .bsl 8 1 [.i .i64 0, .i .i64 0, .i .i64 0, .i .i64 0, .i .i64 0, .i .i64 0, .i .i64 0, .i .i64 0] [(0, 8, .t 62)], (some (61, true))⟩,
  ⟨(some 64), .call (.c (.f 66 [])) [.t 63], (some (61, true))⟩,
  ⟨(some 65), .eq false .sc (.t 64) (.c (.i .i64 3)), (some (61, true))⟩,
  ⟨(some 66), .pick (.t 61) (.t 65) (.c (.b false)), none⟩,
  ⟨(some 0), .mv (.t 66), none⟩]
def F_muntinlaw10_wakes.code : Code := .seq (.region F_muntinlaw10_wakes.r0) (.seq (.region F_muntinlaw10_wakes.r1) (.seq (.region F_muntinlaw10_wakes.r2) (.seq (.region F_muntinlaw10_wakes.r3) (.seq (.region F_muntinlaw10_wakes.r4) (.seq (.region F_muntinlaw10_wakes.r5) (.seq (.region F_muntinlaw10_wakes.r6) (.ret)))))))
def F_muntinlaw10_wakes : Func := ⟨67, [.t 0], F_muntinlaw10_wakes.code⟩
/-! (*muntin/grid.Grid).Split -/
def F_grid_Grid_Split.r0 : List Oper := [
  ⟨(some 6), .mv (.c (.i .i64 0)), none⟩,
  ⟨(some 7), .mv (.c (.i .i64 0)), none⟩]
def F_grid_Grid_Split.r1 : List Oper := [
  ⟨(some 14), .mv (.t 0), none⟩,
  ⟨(some 15), .eq false .pt (.t 14) (.c (.pn)), none⟩,
  ⟨(some 13), .mv (.t 15), none⟩]
def F_grid_Grid_Split.r2 : List Oper := [
  ⟨(some 6), .mv (.c (.i .i64 0)), none⟩,
  ⟨(some 7), .mv (.c (.i .i64 1)), none⟩]
def F_grid_Grid_Split.r3 : List Oper := [
  ⟨(some 17), .mv (.t 0), none⟩,
  ⟨(some 18), .mv (.t 1), none⟩,
  ⟨(some 19), .mv (.t 2), none⟩,
  ⟨(some 20), .call (.c (.f 75 [])) [.t 17, .t 18, .t 19], none⟩,
  ⟨(some 21), .un .not (.t 20), none⟩,
  ⟨(some 16), .mv (.t 21), none⟩]
def F_grid_Grid_Split.r4 : List Oper := [
  ⟨(some 6), .mv (.c (.i .i64 0)), none⟩,
  ⟨(some 7), .mv (.c (.i .i64 2)), none⟩]
def F_grid_Grid_Split.r5 : List Oper := [
  ⟨(some 23), .mv (.t 0), none⟩,
  ⟨(some 24), .mv (.t 1), none⟩,
  ⟨(some 25), .mv (.t 2), none⟩,
  ⟨(some 26), .call (.c (.f 54 [])) [.t 23, .t 24, .t 25], none⟩,
  ⟨(some 22), .mv (.t 26), none⟩,
  ⟨(some 27), .ext (.t 22) 0, none⟩,
  ⟨(some 28), .ext (.t 22) 1, none⟩,
  ⟨(some 29), .ext (.t 22) 2, none⟩,
  ⟨(some 8), .mv (.t 27), none⟩,
  ⟨(some 9), .mv (.t 28), none⟩,
  ⟨(some 10), .mv (.t 29), none⟩]
def F_grid_Grid_Split.r6 : List Oper := [
  ⟨(some 30), .mv (.t 10), none⟩,
  ⟨(some 31), .un .not (.t 30), none⟩]
def F_grid_Grid_Split.r7 : List Oper := [
  ⟨(some 6), .mv (.c (.i .i64 0)), none⟩,
  ⟨(some 7), .mv (.c (.i .i64 9)), none⟩]
def F_grid_Grid_Split.r8 : List Oper := [
  ⟨(some 33), .mv (.t 0), none⟩,
  ⟨(some 34), .call (.c (.f 50 [])) [.t 33], none⟩,
  ⟨(some 32), .mv (.t 34), none⟩,
  ⟨(some 35), .ext (.t 32) 0, none⟩,
  ⟨(some 36), .ext (.t 32) 1, none⟩,
  ⟨(some 11), .mv (.t 35), none⟩,
  ⟨(some 12), .mv (.t 36), none⟩]
def F_grid_Grid_Split.r9 : List Oper := [
  ⟨(some 37), .mv (.t 12), none⟩,
  ⟨(some 38), .eq true .sc (.t 37) (.c (.i .i64 0)), none⟩]
def F_grid_Grid_Split.r10 : List Oper := [
  ⟨(some 39), .mv (.t 12), none⟩,
  ⟨(some 6), .mv (.c (.i .i64 0)), none⟩,
  ⟨(some 7), .mv (.t 39), none⟩]
def F_grid_Grid_Split.r11 : List Oper := [
  ⟨(some 40), .mv (.t 0), none⟩,
  ⟨(some 41), .mv (.t 1), none⟩,
  ⟨(some 42), .mv (.t 2), none⟩,
  ⟨(some 43), .mv (.t 11), none⟩,
  ⟨(some 44), .mv (.t 9), none⟩,
  ⟨(some 45), .call (.c (.f 76 [])) [.t 40, .t 41, .t 42, .t 43, .t 44], none⟩]
def F_grid_Grid_Split.r12 : List Oper := [
  ⟨(some 46), .mv (.t 0), none⟩,
  ⟨(some 47), .mv (.t 11), none⟩,
  ⟨(some 48), .mv (.t 2), none⟩,
  ⟨(some 49), .mv (.t 8), none⟩,
  ⟨(some 50), .mv (.t 9), none⟩,
  ⟨(some 51), .call (.c (.f 76 [])) [.t 46, .t 47, .t 48, .t 49, .t 50], none⟩]
def F_grid_Grid_Split.r13 : List Oper := [
  ⟨(some 52), .mv (.t 11), none⟩,
  ⟨(some 6), .mv (.t 52), none⟩,
  ⟨(some 7), .mv (.c (.i .i64 0)), none⟩]
def F_grid_Grid_Split.code : Code := .seq (.region F_grid_Grid_Split.r0) (.seq (.block 0 (.seq (.region F_grid_Grid_Split.r1) (.cond (.t 13) (.seq (.region F_grid_Grid_Split.r2) (.ret)) (.seq (.region F_grid_Grid_Split.r3) (.cond (.t 16) (.seq (.region F_grid_Grid_Split.r4) (.ret)) (.skip)))))) (.seq (.region F_grid_Grid_Split.r5) (.seq (.seq (.region F_grid_Grid_Split.r6) (.cond (.t 31) (.seq (.region F_grid_Grid_Split.r7) (.ret)) (.skip))) (.seq (.region F_grid_Grid_Split.r8) (.seq (.seq (.region F_grid_Grid_Split.r9) (.cond (.t 38) (.seq (.region F_grid_Grid_Split.r10) (.ret)) (.skip))) (.seq (.region F_grid_Grid_Split.r11) (.seq (.region F_grid_Grid_Split.r12) (.seq (.region F_grid_Grid_Split.r13) (.ret)))))))))
def F_grid_Grid_Split : Func := ⟨53, [.t 6, .t 7], F_grid_Grid_Split.code⟩
/-! muntin/muntinref10.Split -/
def F_muntinref10_Split.r0 : List Oper := [
  ⟨(some 6), .mv (.c (.sn)), none⟩,
  ⟨(some 7), .mv (.c (.i .i64 0)), none⟩,
  ⟨(some 8), .mv (.c (.i .i64 0)), none⟩]
def F_muntinref10_Split.r1 : List Oper := [
  ⟨(some 13), .mv (.t 1), none⟩,
  ⟨(some 14), .bin .lss (.t 13) (.c (.i .i64 0)), none⟩,
  ⟨(some 15), .mv (.t 14), none⟩,
  ⟨(some 16), .mv (.t 1), (some (15, false))⟩,
  ⟨(some 17), .mv (.t 0), (some (15, false))⟩,
  ⟨(some 18), .len (.t 17), (some (15, false))⟩,
  ⟨(some 19), .bin .geq (.t 16) (.t 18), (some (15, false))⟩,
  ⟨(some 20), .pick (.t 15) (.c (.b true)) (.t 19), none⟩,
  ⟨(some 21), .mv (.t 20), none⟩,
  ⟨(some 22), .mv (.t 2), (some (21, false))⟩,
  ⟨(some 23), .bin .lss (.t 22) (.c (.i .i64 0)), (some (21, false))⟩,
  ⟨(some 24), .pick (.t 21) (.c (.b true)) (.t 23), none⟩,
  ⟨(some 25), .mv (.t 24), none⟩,
  ⟨(some 26), .mv (.t 2), (some (25, false))⟩,
  ⟨(some 27), .bin .gtr (.t 26) (.c (.i .i64 3)), (some (25, false))⟩,
  ⟨(some 28), .pick (.t 25) (.c (.b true)) (.t 27), none⟩]
def F_muntinref10_Split.r2 : List Oper := [
  ⟨(some 29), .mv (.t 0), none⟩,
  ⟨(some 6), .mv (.t 29), none⟩,
  ⟨(some 7), .mv (.c (.i .i64 0)), none⟩,
  ⟨(some 8), .mv (.c (.i .i64 2)), none⟩]
def F_muntinref10_Split.r3 : List Oper := [
  ⟨(some 30), .mv (.t 0), none⟩,
  ⟨(some 31), .mv (.t 1), none⟩,
  ⟨(some 32), .mv (.t 2), none⟩,
  ⟨(some 33), .ixa 8 (.t 30) (.t 31), none⟩,
  ⟨(some 34), .fa 0 (.t 33), none⟩,
  ⟨(some 35), .ixaa 1 4 (.t 34) (.t 32), none⟩,
  ⟨(some 36), .ld false 1 (.t 35), none⟩,
  ⟨(some 9), .mv (.t 36), none⟩]
def F_muntinref10_Split.r4 : List Oper := [
  ⟨(some 37), .mv (.t 9), none⟩,
  ⟨(some 38), .eq false .sc (.t 37) (.c (.i .i64 (-1))), none⟩]
def F_muntinref10_Split.r5 : List Oper := [
  ⟨(some 39), .mv (.t 0), none⟩,
  ⟨(some 6), .mv (.t 39), none⟩,
  ⟨(some 7), .mv (.c (.i .i64 0)), none⟩,
  ⟨(some 8), .mv (.c (.i .i64 9)), none⟩]
def F_muntinref10_Split.r6 : List Oper := [
  ⟨(some 40), .mv (.t 0), none⟩,
  ⟨(some 41), .len (.t 40), none⟩,
  ⟨(some 42), .bin .geq (.t 41) (.c (.i .i64 4096)), none⟩]
def F_muntinref10_Split.r7 : List Oper := [
  ⟨(some 43), .mv (.t 0), none⟩,
  ⟨(some 6), .mv (.t 43), none⟩,
  ⟨(some 7), .mv (.c (.i .i64 0)), none⟩,
  ⟨(some 8), .mv (.c (.i .i64 6)), none⟩]
def F_muntinref10_Split.r8 : List Oper := [
  ⟨(some 44), .mv (.t 0), none⟩,
  ⟨(some 45), .mv (.t 1), none⟩,
  ⟨(some 46), .mv (.t 2), none⟩,
  ⟨(some 47), .ixa 8 (.t 44) (.t 45), none⟩,
  ⟨(some 48), .fa 4 (.t 47), none⟩,
  ⟨(some 49), .ixaa 1 4 (.t 48) (.t 46), none⟩,
  ⟨(some 50), .ld false 1 (.t 49), none⟩,
  ⟨(some 10), .mv (.t 50), none⟩]
def F_muntinref10_Split.r9 : List Oper := [
  ⟨(some 51), .mv (.t 0), none⟩,
  ⟨(some 52), .len (.t 51), none⟩,
  ⟨(some 11), .mv (.t 52), none⟩]
def F_muntinref10_Split.r10 : List Oper := [
  ⟨(some 53), .call (.c (.f 46 [])) [.c (.i .i64 1)], none⟩,
  ⟨(some 12), .mv (.t 53), none⟩]
def F_muntinref10_Split.r11 : List Oper := [
  ⟨(some 54), .mv (.t 0), none⟩,
  ⟨(some 55), .call (.c (.f 65 [])) [.t 54, .c (.i .i64 (-1)), .c (.i .i64 0), .c (.i .i64 (-1)), .c (.i .i64 0)], none⟩,
  ⟨(some 56), .mv (.t 12), none⟩,
  ⟨(some 57), .ixa 8 (.t 56) (.c (.i .i64 0)), none⟩,
  ⟨(some 58), .ld true 8 (.t 57), none⟩,
  ⟨(some 59), .bsl 8 1 [.i .i64 0, .i .i64 0, .i .i64 0, .i .i64 0, .i .i64 0, .i .i64 0, .i .i64 0, .i .i64 0] [(0, 8, .t 58)], none⟩,
  ⟨(some 60), .app 8 64 (.t 55) (.t 59), none⟩,
  ⟨(some 0), .mv (.t 60), none⟩]
def F_muntinref10_Split.r12 : List Oper := [
  ⟨(some 61), .mv (.t 0), none⟩,
  ⟨(some 62), .mv (.t 1), none⟩,
  ⟨(some 63), .mv (.t 2), none⟩,
  ⟨(some 64), .mv (.t 11), none⟩,
  ⟨(some 65), .mv (.t 10), none⟩,
  ⟨(some 66), .call (.c (.f 65 [])) [.t 61, .t 62, .t 63, .t 64, .t 65], none⟩,
  ⟨(some 0), .mv (.t 66), none⟩]
def F_muntinref10_Split.r13 : List Oper := [
  ⟨(some 67), .mv (.t 0), none⟩,
  ⟨(some 68), .mv (.t 11), none⟩,
  ⟨(some 69), .mv (.t 2), none⟩,
  ⟨(some 70), .mv (.t 9), none⟩,
  ⟨(some 71), .mv (.t 10), none⟩,
  ⟨(some 72), .call (.c (.f 65 [])) [.t 67, .t 68, .t 69, .t 70, .t 71], none⟩,
  ⟨(some 0), .mv (.t 72), none⟩]
def F_muntinref10_Split.r14 : List Oper := [
  ⟨(some 73), .mv (.t 0), none⟩,
  ⟨(some 74), .mv (.t 11), none⟩,
  ⟨(some 6), .mv (.t 73), none⟩,
  ⟨(some 7), .mv (.t 74), none⟩,
  ⟨(some 8), .mv (.c (.i .i64 0)), none⟩]
def F_muntinref10_Split.code : Code := .seq (.region F_muntinref10_Split.r0) (.seq (.seq (.region F_muntinref10_Split.r1) (.cond (.t 28) (.seq (.region F_muntinref10_Split.r2) (.ret)) (.skip))) (.seq (.region F_muntinref10_Split.r3) (.seq (.seq (.region F_muntinref10_Split.r4) (.cond (.t 38) (.seq (.region F_muntinref10_Split.r5) (.ret)) (.skip))) (.seq (.seq (.region F_muntinref10_Split.r6) (.cond (.t 42) (.seq (.region F_muntinref10_Split.r7) (.ret)) (.skip))) (.seq (.region F_muntinref10_Split.r8) (.seq (.region F_muntinref10_Split.r9) (.seq (.region F_muntinref10_Split.r10) (.seq (.draw F_muntinref10_Split.r11 [(1, 4), (1, 5)]) (.seq (.region F_muntinref10_Split.r12) (.seq (.region F_muntinref10_Split.r13) (.seq (.region F_muntinref10_Split.r14) (.ret))))))))))))
def F_muntinref10_Split : Func := ⟨75, [.t 6, .t 7, .t 8], F_muntinref10_Split.code⟩
/-! (*muntin/grid.Grid).Add -/
def F_grid_Grid_Add.r0 : List Oper := [
  ⟨(some 2), .mv (.c (.i .i64 0)), none⟩,
  ⟨(some 3), .mv (.c (.i .i64 0)), none⟩]
def F_grid_Grid_Add.r1 : List Oper := [
  ⟨(some 5), .mv (.t 0), none⟩,
  ⟨(some 6), .eq false .pt (.t 5) (.c (.pn)), none⟩,
  ⟨(some 4), .mv (.t 6), none⟩]
def F_grid_Grid_Add.r2 : List Oper := [
  ⟨(some 2), .mv (.c (.i .i64 0)), none⟩,
  ⟨(some 3), .mv (.c (.i .i64 1)), none⟩]
def F_grid_Grid_Add.r3 : List Oper := [
  ⟨(some 8), .mv (.t 0), none⟩,
  ⟨(some 9), .call (.c (.f 55 [])) [.t 8], none⟩,
  ⟨(some 10), .eq false .sc (.t 9) (.c (.i .i64 4096)), none⟩,
  ⟨(some 7), .mv (.t 10), none⟩]
def F_grid_Grid_Add.r4 : List Oper := [
  ⟨(some 2), .mv (.c (.i .i64 0)), none⟩,
  ⟨(some 3), .mv (.c (.i .i64 6)), none⟩]
def F_grid_Grid_Add.r5 : List Oper := [
  ⟨(some 11), .mv (.t 0), none⟩,
  ⟨(some 12), .mv (.t 0), none⟩,
  ⟨(some 13), .nilck (.t 12), none⟩,
  ⟨(some 14), .fa 0 (.t 13), none⟩,
  ⟨(some 15), .ld false 1 (.t 14), none⟩,
  ⟨(some 16), .call (.c (.f 74 [])) [], none⟩,
  ⟨(some 17), .bsl 8 1 [.i .i64 0, .i .i64 0, .i .i64 0, .i .i64 0, .i .i64 0, .i .i64 0, .i .i64 0, .i .i64 0] [(0, 8, .t 16)], none⟩,
  ⟨(some 18), .app 8 64 (.t 15) (.t 17), none⟩,
  ⟨(some 19), .nilck (.t 11), none⟩,
  ⟨(some 20), .fa 0 (.t 19), none⟩,
  ⟨none, .st 1 (.t 20) (.t 18), none⟩]
def F_grid_Grid_Add.r6 : List Oper := [
  ⟨(some 21), .mv (.t 0), none⟩,
  ⟨(some 22), .call (.c (.f 55 [])) [.t 21], none⟩,
  ⟨(some 23), .bin .sub (.t 22) (.c (.i .i64 1)), none⟩,
  ⟨(some 2), .mv (.t 23), none⟩,
  ⟨(some 3), .mv (.c (.i .i64 0)), none⟩]
def F_grid_Grid_Add.code : Code := .seq (.region F_grid_Grid_Add.r0) (.seq (.block 0 (.seq (.region F_grid_Grid_Add.r1) (.cond (.t 4) (.seq (.region F_grid_Grid_Add.r2) (.ret)) (.seq (.region F_grid_Grid_Add.r3) (.cond (.t 7) (.seq (.region F_grid_Grid_Add.r4) (.ret)) (.skip)))))) (.seq (.draw F_grid_Grid_Add.r5 [(4, 5), (4, 6)]) (.seq (.region F_grid_Grid_Add.r6) (.ret))))
def F_grid_Grid_Add : Func := ⟨24, [.t 2, .t 3], F_grid_Grid_Add.code⟩
/-! slices.Clone[[]muntin/api.Cell,muntin/api.Cell] -/
def F_slices_Clone_api_Cell.r0 : List Oper := [
  ⟨(some 2), .mv (.c (.sn)), none⟩]
def F_slices_Clone_api_Cell.r1 : List Oper := [
  ⟨(some 3), .mv (.t 0), none⟩,
  ⟨(some 4), .eq false .sl (.t 3) (.c (.sn)), none⟩]
def F_slices_Clone_api_Cell.r2 : List Oper := [
  ⟨(some 2), .mv (.c (.sn)), none⟩]
def F_slices_Clone_api_Cell.r3 : List Oper := [
  ⟨(some 5), .bsl 8 0 [.i .i64 0, .i .i64 0, .i .i64 0, .i .i64 0, .i .i64 0, .i .i64 0, .i .i64 0, .i .i64 0] [], none⟩,
  ⟨(some 6), .mv (.t 0), none⟩,
  ⟨(some 7), .app 8 64 (.t 5) (.t 6), none⟩,
  ⟨(some 2), .mv (.t 7), none⟩]
def F_slices_Clone_api_Cell.code : Code := .seq (.region F_slices_Clone_api_Cell.r0) (.seq (.seq (.region F_slices_Clone_api_Cell.r1) (.cond (.t 4) (.seq (.region F_slices_Clone_api_Cell.r2) (.ret)) (.skip))) (.seq (.region F_slices_Clone_api_Cell.r3) (.ret)))
def F_slices_Clone_api_Cell : Func := ⟨8, [.t 2], F_slices_Clone_api_Cell.code⟩
/-! (*muntin/grid.Grid).Join -/
def F_grid_Grid_Join.r0 : List Oper := [
  ⟨(some 10), .mv (.c (.i .i64 0)), none⟩]
def F_grid_Grid_Join.r1 : List Oper := [
  ⟨(some 12), .mv (.t 0), none⟩,
  ⟨(some 13), .eq false .pt (.t 12) (.c (.pn)), none⟩,
  ⟨(some 11), .mv (.t 13), none⟩]
def F_grid_Grid_Join.r2 : List Oper := [
  ⟨(some 10), .mv (.c (.i .i64 1)), none⟩]
def F_grid_Grid_Join.r3 : List Oper := [
  ⟨(some 15), .mv (.t 0), none⟩,
  ⟨(some 16), .mv (.t 1), none⟩,
  ⟨(some 17), .mv (.t 2), none⟩,
  ⟨(some 18), .call (.c (.f 75 [])) [.t 15, .t 16, .t 17], none⟩,
  ⟨(some 19), .un .not (.t 18), none⟩,
  ⟨(some 20), .mv (.t 19), none⟩,
  ⟨(some 21), .mv (.t 0), (some (20, false))⟩,
  ⟨(some 22), .mv (.t 3), (some (20, false))⟩,
  ⟨(some 23), .mv (.t 2), (some (20, false))⟩,
  ⟨(some 24), .call (.c (.f 75 [])) [.t 21, .t 22, .t 23], (some (20, false))⟩,
  ⟨(some 25), .un .not (.t 24), (some (20, false))⟩,
  ⟨(some 26), .pick (.t 20) (.c (.b true)) (.t 25), none⟩,
  ⟨(some 27), .mv (.t 26), none⟩,
  ⟨(some 28), .mv (.t 1), (some (27, false))⟩,
  ⟨(some 29), .mv (.t 3), (some (27, false))⟩,
  ⟨(some 30), .eq false .sc (.t 28) (.t 29), (some (27, false))⟩,
  ⟨(some 31), .pick (.t 27) (.c (.b true)) (.t 30), none⟩,
  ⟨(some 32), .mv (.t 31), none⟩,
  ⟨(some 33), .mv (.t 4), (some (32, false))⟩,
  ⟨(some 34), .bin .lss (.t 33) (.c (.i .i64 (-2))), (some (32, false))⟩,
  ⟨(some 35), .pick (.t 32) (.c (.b true)) (.t 34), none⟩,
  ⟨(some 14), .mv (.t 35), none⟩]
def F_grid_Grid_Join.r4 : List Oper := [
  ⟨(some 10), .mv (.c (.i .i64 2)), none⟩]
def F_grid_Grid_Join.r5 : List Oper := [
  ⟨(some 37), .mv (.t 0), none⟩,
  ⟨(some 38), .nilck (.t 37), none⟩,
  ⟨(some 39), .fa 0 (.t 38), none⟩,
  ⟨(some 40), .ld false 1 (.t 39), none⟩,
  ⟨(some 41), .mv (.t 1), none⟩,
  ⟨(some 42), .mv (.t 2), none⟩,
  ⟨(some 43), .ixa 8 (.t 40) (.t 41), none⟩,
  ⟨(some 44), .fa 0 (.t 43), none⟩,
  ⟨(some 45), .ixaa 1 4 (.t 44) (.t 42), none⟩,
  ⟨(some 46), .ld false 1 (.t 45), none⟩,
  ⟨(some 47), .eq true .sc (.t 46) (.c (.i .i64 (-1))), none⟩,
  ⟨(some 48), .mv (.t 47), none⟩,
  ⟨(some 49), .mv (.t 0), (some (48, false))⟩,
  ⟨(some 50), .nilck (.t 49), (some (48, false))⟩,
  ⟨(some 51), .fa 0 (.t 50), (some (48, false))⟩,
  ⟨(some 52), .ld false 1 (.t 51), (some (48, false))⟩,
  ⟨(some 53), .mv (.t 3), (some (48, false))⟩,
  ⟨(some 54), .mv (.t 2), (some (48, false))⟩,
  ⟨(some 55), .call (.c (.f 77 [])) [.t 54, .c (.i .i64 2)], (some (48, false))⟩,
  ⟨(some 56), .ixa 8 (.t 52) (.t 53), (some (48, false))⟩,
  ⟨(some 57), .fa 0 (.t 56), (some (48, false))⟩,
  ⟨(some 58), .ixaa 1 4 (.t 57) (.t 55), (some (48, false))⟩,
  ⟨(some 59), .ld false 1 (.t 58), (some (48, false))⟩,
  ⟨(some 60), .eq true .sc (.t 59) (.c (.i .i64 (-1))), (some (48, false))⟩,
  ⟨(some 61), .pick (.t 48) (.c (.b true)) (.t 60), none⟩,
  ⟨(some 36), .mv (.t 61), none⟩]
def F_grid_Grid_Join.r6 : List Oper := [
  ⟨(some 10), .mv (.c (.i .i64 9)), none⟩]
def F_grid_Grid_Join.r7 : List Oper := [
  ⟨(some 62), .mv (.t 0), none⟩,
  ⟨(some 63), .mv (.t 1), none⟩,
  ⟨(some 64), .mv (.t 2), none⟩,
  ⟨(some 65), .mv (.t 3), none⟩,
  ⟨(some 66), .mv (.t 4), none⟩,
  ⟨(some 67), .call (.c (.f 76 [])) [.t 62, .t 63, .t 64, .t 65, .t 66], none⟩]
def F_grid_Grid_Join.r8 : List Oper := [
  ⟨(some 10), .mv (.c (.i .i64 0)), none⟩]
def F_grid_Grid_Join.code : Code := .seq (.region F_grid_Grid_Join.r0) (.seq (.block 0 (.seq (.region F_grid_Grid_Join.r1) (.cond (.t 11) (.seq (.region F_grid_Grid_Join.r2) (.ret)) (.seq (.region F_grid_Grid_Join.r3) (.cond (.t 14) (.seq (.region F_grid_Grid_Join.r4) (.ret)) (.seq (.draw F_grid_Grid_Join.r5 [(15, 18)]) (.cond (.t 36) (.seq (.region F_grid_Grid_Join.r6) (.ret)) (.skip)))))))) (.seq (.region F_grid_Grid_Join.r7) (.seq (.region F_grid_Grid_Join.r8) (.ret))))
def F_grid_Grid_Join : Func := ⟨68, [.t 10], F_grid_Grid_Join.code⟩
/-! muntin/muntinref10.Join -/
def F_muntinref10_Join.r0 : List Oper := [
  ⟨(some 10), .mv (.c (.sn)), none⟩,
  ⟨(some 11), .mv (.c (.i .i64 0)), none⟩]
def F_muntinref10_Join.r1 : List Oper := [
  ⟨(some 13), .mv (.t 1), none⟩,
  ⟨(some 14), .bin .lss (.t 13) (.c (.i .i64 0)), none⟩,
  ⟨(some 15), .mv (.t 14), none⟩,
  ⟨(some 16), .mv (.t 1), (some (15, false))⟩,
  ⟨(some 17), .mv (.t 0), (some (15, false))⟩,
  ⟨(some 18), .len (.t 17), (some (15, false))⟩,
  ⟨(some 19), .bin .geq (.t 16) (.t 18), (some (15, false))⟩,
  ⟨(some 20), .pick (.t 15) (.c (.b true)) (.t 19), none⟩,
  ⟨(some 21), .mv (.t 20), none⟩,
  ⟨(some 22), .mv (.t 3), (some (21, false))⟩,
  ⟨(some 23), .bin .lss (.t 22) (.c (.i .i64 0)), (some (21, false))⟩,
  ⟨(some 24), .pick (.t 21) (.c (.b true)) (.t 23), none⟩,
  ⟨(some 25), .mv (.t 24), none⟩,
  ⟨(some 26), .mv (.t 3), (some (25, false))⟩,
  ⟨(some 27), .mv (.t 0), (some (25, false))⟩,
  ⟨(some 28), .len (.t 27), (some (25, false))⟩,
  ⟨(some 29), .bin .geq (.t 26) (.t 28), (some (25, false))⟩,
  ⟨(some 30), .pick (.t 25) (.c (.b true)) (.t 29), none⟩,
  ⟨(some 31), .mv (.t 30), none⟩,
  ⟨(some 32), .mv (.t 1), (some (31, false))⟩,
  ⟨(some 33), .mv (.t 3), (some (31, false))⟩,
  ⟨(some 34), .eq false .sc (.t 32) (.t 33), (some (31, false))⟩,
  ⟨(some 35), .pick (.t 31) (.c (.b true)) (.t 34), none⟩,
  ⟨(some 36), .mv (.t 35), none⟩,
  ⟨(some 37), .mv (.t 2), (some (36, false))⟩,
  ⟨(some 38), .bin .lss (.t 37) (.c (.i .i64 0)), (some (36, false))⟩,
  ⟨(some 39), .pick (.t 36) (.c (.b true)) (.t 38), none⟩,
  ⟨(some 40), .mv (.t 39), none⟩,
  ⟨(some 41), .mv (.t 2), (some (40, false))⟩,
  ⟨(some 42), .bin .gtr (.t 41) (.c (.i .i64 3)), (some (40, false))⟩,
  ⟨(some 43), .pick (.t 40) (.c (.b true)) (.t 42), none⟩,
  ⟨(some 44), .mv (.t 43), none⟩,
  ⟨(some 45), .mv (.t 4), (some (44, false))⟩,
  ⟨(some 46), .bin .lss (.t 45) (.c (.i .i64 (-2))), (some (44, false))⟩,
  ⟨(some 47), .pick (.t 44) (.c (.b true)) (.t 46), none⟩]
def F_muntinref10_Join.r2 : List Oper := [
  ⟨(some 48), .mv (.t 0), none⟩,
  ⟨(some 10), .mv (.t 48), none⟩,
  ⟨(some 11), .mv (.c (.i .i64 2)), none⟩]
def F_muntinref10_Join.r3 : List Oper := [
  ⟨(some 49), .mv (.t 0), none⟩,
  ⟨(some 50), .mv (.t 1), none⟩,
  ⟨(some 51), .mv (.t 2), none⟩,
  ⟨(some 52), .ixa 8 (.t 49) (.t 50), none⟩,
  ⟨(some 53), .fa 0 (.t 52), none⟩,
  ⟨(some 54), .ixaa 1 4 (.t 53) (.t 51), none⟩,
  ⟨(some 55), .ld false 1 (.t 54), none⟩,
  ⟨(some 56), .eq true .sc (.t 55) (.c (.i .i64 (-1))), none⟩,
  ⟨(some 57), .mv (.t 56), none⟩,
  ⟨(some 58), .mv (.t 0), (some (57, false))⟩,
  ⟨(some 59), .mv (.t 3), (some (57, false))⟩,
  ⟨(some 60), .mv (.t 2), (some (57, false))⟩,
  ⟨(some 61), .bin .add (.t 60) (.c (.i .i64 2)), (some (57, false))⟩,
  ⟨(some 62), .bin .rem (.t 61) (.c (.i .i64 4)), (some (57, false))⟩,
  ⟨(some 63), .ixa 8 (.t 58) (.t 59), (some (57, false))⟩,
  ⟨(some 64), .fa 0 (.t 63), (some (57, false))⟩,
  ⟨(some 65), .ixaa 1 4 (.t 64) (.t 62), (some (57, false))⟩,
  ⟨(some 66), .ld false 1 (.t 65), (some (57, false))⟩,
  ⟨(some 67), .eq true .sc (.t 66) (.c (.i .i64 (-1))), (some (57, false))⟩,
  ⟨(some 68), .pick (.t 57) (.c (.b true)) (.t 67), none⟩]
def F_muntinref10_Join.r4 : List Oper := [
  ⟨(some 69), .mv (.t 0), none⟩,
  ⟨(some 10), .mv (.t 69), none⟩,
  ⟨(some 11), .mv (.c (.i .i64 9)), none⟩]
def F_muntinref10_Join.r5 : List Oper := [
  ⟨(some 70), .mv (.t 0), none⟩,
  ⟨(some 71), .mv (.t 1), none⟩,
  ⟨(some 72), .mv (.t 2), none⟩,
  ⟨(some 73), .mv (.t 3), none⟩,
  ⟨(some 74), .mv (.t 4), none⟩,
  ⟨(some 75), .call (.c (.f 65 [])) [.t 70, .t 71, .t 72, .t 73, .t 74], none⟩,
  ⟨(some 12), .mv (.t 75), none⟩]
def F_muntinref10_Join.r6 : List Oper := [
  ⟨(some 76), .mv (.t 12), none⟩,
  ⟨(some 10), .mv (.t 76), none⟩,
  ⟨(some 11), .mv (.c (.i .i64 0)), none⟩]
def F_muntinref10_Join.code : Code := .seq (.region F_muntinref10_Join.r0) (.seq (.seq (.region F_muntinref10_Join.r1) (.cond (.t 47) (.seq (.region F_muntinref10_Join.r2) (.ret)) (.skip))) (.seq (.seq (.region F_muntinref10_Join.r3) (.cond (.t 68) (.seq (.region F_muntinref10_Join.r4) (.ret)) (.skip))) (.seq (.region F_muntinref10_Join.r5) (.seq (.region F_muntinref10_Join.r6) (.ret)))))
def F_muntinref10_Join : Func := ⟨77, [.t 10, .t 11], F_muntinref10_Join.code⟩
/-! (*muntin/grid.Grid).Next -/
def F_grid_Grid_Next.r0 : List Oper := [
  ⟨(some 6), .mv (.c (.i .i64 0)), none⟩,
  ⟨(some 7), .mv (.c (.i .i64 0)), none⟩,
  ⟨(some 8), .mv (.c (.b false)), none⟩]
def F_grid_Grid_Next.r1 : List Oper := [
  ⟨(some 9), .mv (.t 0), none⟩,
  ⟨(some 10), .mv (.t 1), none⟩,
  ⟨(some 11), .mv (.t 2), none⟩,
  ⟨(some 12), .call (.c (.f 75 [])) [.t 9, .t 10, .t 11], none⟩,
  ⟨(some 13), .un .not (.t 12), none⟩,
  ⟨(some 14), .mv (.t 13), none⟩,
  ⟨(some 15), .mv (.t 0), (some (14, false))⟩,
  ⟨(some 16), .nilck (.t 15), (some (14, false))⟩,
  ⟨(some 17), .fa 0 (.t 16), (some (14, false))⟩,
  ⟨(some 18), .ld false 1 (.t 17), (some (14, false))⟩,
  ⟨(some 19), .mv (.t 1), (some (14, false))⟩,
  ⟨(some 20), .mv (.t 2), (some (14, false))⟩,
  ⟨(some 21), .ixa 8 (.t 18) (.t 19), (some (14, false))⟩,
  ⟨(some 22), .fa 0 (.t 21), (some (14, false))⟩,
  ⟨(some 23), .ixaa 1 4 (.t 22) (.t 20), (some (14, false))⟩,
  ⟨(some 24), .ld false 1 (.t 23), (some (14, false))⟩,
  ⟨(some 25), .eq false .sc (.t 24) (.c (.i .i64 (-1))), (some (14, false))⟩,
  ⟨(some 26), .pick (.t 14) (.c (.b true)) (.t 25), none⟩]
def F_grid_Grid_Next.r2 : List Oper := [
  ⟨(some 6), .mv (.c (.i .i64 0)), none⟩,
  ⟨(some 7), .mv (.c (.i .i64 0)), none⟩,
  ⟨(some 8), .mv (.c (.b false)), none⟩]
def F_grid_Grid_Next.r3 : List Oper := [
  ⟨(some 27), .mv (.t 0), none⟩,
  ⟨(some 28), .nilck (.t 27), none⟩,
  ⟨(some 29), .fa 0 (.t 28), none⟩,
  ⟨(some 30), .ld false 1 (.t 29), none⟩,
  ⟨(some 31), .mv (.t 1), none⟩,
  ⟨(some 32), .mv (.t 2), none⟩,
  ⟨(some 33), .ixa 8 (.t 30) (.t 31), none⟩,
  ⟨(some 34), .fa 0 (.t 33), none⟩,
  ⟨(some 35), .ixaa 1 4 (.t 34) (.t 32), none⟩,
  ⟨(some 36), .ld false 1 (.t 35), none⟩,
  ⟨(some 37), .mv (.t 0), none⟩,
  ⟨(some 38), .nilck (.t 37), none⟩,
  ⟨(some 39), .fa 0 (.t 38), none⟩,
  ⟨(some 40), .ld false 1 (.t 39), none⟩,
  ⟨(some 41), .mv (.t 1), none⟩,
  ⟨(some 42), .mv (.t 2), none⟩,
  ⟨(some 43), .ixa 8 (.t 40) (.t 41), none⟩,
  ⟨(some 44), .fa 4 (.t 43), none⟩,
  ⟨(some 45), .ixaa 1 4 (.t 44) (.t 42), none⟩,
  ⟨(some 46), .ld false 1 (.t 45), none⟩,
  ⟨(some 6), .mv (.t 36), none⟩,
  ⟨(some 7), .mv (.t 46), none⟩,
  ⟨(some 8), .mv (.c (.b true)), none⟩]
def F_grid_Grid_Next.code : Code := .seq (.region F_grid_Grid_Next.r0) (.seq (.seq (.region F_grid_Grid_Next.r1) (.cond (.t 26) (.seq (.region F_grid_Grid_Next.r2) (.ret)) (.skip))) (.seq (.draw F_grid_Grid_Next.r3 [(3, 13), (9, 13), (3, 19), (9, 19)]) (.ret)))
def F_grid_Grid_Next : Func := ⟨47, [.t 6, .t 7, .t 8], F_grid_Grid_Next.code⟩
/-! (*muntin/grid.Grid).Len -/
def F_grid_Grid_Len.r0 : List Oper := [
  ⟨(some 2), .mv (.c (.i .i64 0)), none⟩]
def F_grid_Grid_Len.r1 : List Oper := [
  ⟨(some 3), .mv (.t 0), none⟩,
  ⟨(some 4), .eq false .pt (.t 3) (.c (.pn)), none⟩]
def F_grid_Grid_Len.r2 : List Oper := [
  ⟨(some 2), .mv (.c (.i .i64 0)), none⟩]
def F_grid_Grid_Len.r3 : List Oper := [
  ⟨(some 5), .mv (.t 0), none⟩,
  ⟨(some 6), .nilck (.t 5), none⟩,
  ⟨(some 7), .fa 0 (.t 6), none⟩,
  ⟨(some 8), .ld false 1 (.t 7), none⟩,
  ⟨(some 9), .len (.t 8), none⟩,
  ⟨(some 2), .mv (.t 9), none⟩]
def F_grid_Grid_Len.code : Code := .seq (.region F_grid_Grid_Len.r0) (.seq (.seq (.region F_grid_Grid_Len.r1) (.cond (.t 4) (.seq (.region F_grid_Grid_Len.r2) (.ret)) (.skip))) (.seq (.region F_grid_Grid_Len.r3) (.ret)))
def F_grid_Grid_Len : Func := ⟨10, [.t 2], F_grid_Grid_Len.code⟩
/-! muntin/muntinref10.Same -/
def F_muntinref10_Same.r0 : List Oper := [
  ⟨(some 4), .mv (.c (.b false)), none⟩]
def F_muntinref10_Same.r1 : List Oper := [
  ⟨(some 6), .mv (.t 0), none⟩,
  ⟨(some 7), .len (.t 6), none⟩,
  ⟨(some 8), .mv (.t 1), none⟩,
  ⟨(some 9), .len (.t 8), none⟩,
  ⟨(some 10), .eq true .sc (.t 7) (.t 9), none⟩]
def F_muntinref10_Same.r2 : List Oper := [
  ⟨(some 4), .mv (.c (.b false)), none⟩]
def F_muntinref10_Same.r3 : List Oper := [
  ⟨(some 5), .mv (.c (.i .i64 0)), none⟩]
def F_muntinref10_Same.r4 : List Oper := [
  ⟨(some 11), .mv (.t 5), none⟩,
  ⟨(some 12), .mv (.t 0), none⟩,
  ⟨(some 13), .len (.t 12), none⟩,
  ⟨(some 14), .bin .lss (.t 11) (.t 13), none⟩]
def F_muntinref10_Same.r6 : List Oper := [
  ⟨(some 17), .mv (.t 0), none⟩,
  ⟨(some 18), .mv (.t 5), none⟩,
  ⟨(some 19), .ixa 8 (.t 17) (.t 18), none⟩,
  ⟨(some 20), .ld true 8 (.t 19), none⟩,
  ⟨(some 21), .mv (.t 1), none⟩,
  ⟨(some 22), .mv (.t 5), none⟩,
  ⟨(some 23), .ixa 8 (.t 21) (.t 22), none⟩,
  ⟨(some 24), .ld true 8 (.t 23), none⟩,
  ⟨(some 25), .eq true (.fl [.i, .i, .i, .i, .i, .i, .i, .i]) (.t 20) (.t 24), none⟩]
def F_muntinref10_Same.r7 : List Oper := [
  ⟨(some 4), .mv (.c (.b false)), none⟩]
def F_muntinref10_Same.r5 : List Oper := [
  ⟨(some 15), .mv (.t 5), none⟩,
  ⟨(some 16), .bin .add (.t 15) (.c (.i .i64 1)), none⟩,
  ⟨(some 5), .mv (.t 16), none⟩]
def F_muntinref10_Same.l0 : Code := .seq (.seq (.region F_muntinref10_Same.r4) (.cond (.t 14) (.skip) (.exit 0))) (.seq (.block 1 (.seq (.draw F_muntinref10_Same.r6 [(3, 7)]) (.cond (.t 25) (.seq (.region F_muntinref10_Same.r7) (.ret)) (.skip)))) (.region F_muntinref10_Same.r5))
def F_muntinref10_Same.r8 : List Oper := [
  ⟨(some 4), .mv (.c (.b true)), none⟩]
def F_muntinref10_Same.code : Code := .seq (.region F_muntinref10_Same.r0) (.seq (.seq (.region F_muntinref10_Same.r1) (.cond (.t 10) (.seq (.region F_muntinref10_Same.r2) (.ret)) (.skip))) (.seq (.seq (.region F_muntinref10_Same.r3) (.block 0 (.loop F_muntinref10_Same.l0))) (.seq (.region F_muntinref10_Same.r8) (.ret))))
def F_muntinref10_Same : Func := ⟨26, [.t 4], F_muntinref10_Same.code⟩
/-! (*muntin/grid.Grid).Cells -/
def F_grid_Grid_Cells.r0 : List Oper := [
  ⟨(some 2), .mv (.c (.sn)), none⟩]
def F_grid_Grid_Cells.r1 : List Oper := [
  ⟨(some 3), .mv (.t 0), none⟩,
  ⟨(some 4), .eq false .pt (.t 3) (.c (.pn)), none⟩]
def F_grid_Grid_Cells.r2 : List Oper := [
  ⟨(some 2), .mv (.c (.sn)), none⟩]
def F_grid_Grid_Cells.r3 : List Oper := [
  ⟨(some 5), .mv (.t 0), none⟩,
  ⟨(some 6), .nilck (.t 5), none⟩,
  ⟨(some 7), .fa 0 (.t 6), none⟩,
  ⟨(some 8), .ld false 1 (.t 7), none⟩,
  ⟨(some 9), .call (.c (.f 51 [])) [.t 8], none⟩,
  ⟨(some 2), .mv (.t 9), none⟩]
def F_grid_Grid_Cells.code : Code := .seq (.region F_grid_Grid_Cells.r0) (.seq (.seq (.region F_grid_Grid_Cells.r1) (.cond (.t 4) (.seq (.region F_grid_Grid_Cells.r2) (.ret)) (.skip))) (.seq (.region F_grid_Grid_Cells.r3) (.ret)))
def F_grid_Grid_Cells : Func := ⟨10, [.t 2], F_grid_Grid_Cells.code⟩
/-! muntin/muntinref10.with -/
def F_muntinref10_with.r0 : List Oper := [
  ⟨(some 10), .mv (.c (.sn)), none⟩]
def F_muntinref10_with.r1 : List Oper := [
  ⟨(some 11), .mv (.c (.sn)), none⟩]
def F_muntinref10_with.r2 : List Oper := [
  ⟨(some 12), .mv (.c (.i .i64 0)), none⟩]
def F_muntinref10_with.r3 : List Oper := [
  ⟨(some 14), .mv (.t 12), none⟩,
  ⟨(some 15), .mv (.t 0), none⟩,
  ⟨(some 16), .len (.t 15), none⟩,
  ⟨(some 17), .bin .lss (.t 14) (.t 16), none⟩]
def F_muntinref10_with.r5 : List Oper := [
  ⟨(some 20), .mv (.t 0), none⟩,
  ⟨(some 21), .mv (.t 12), none⟩,
  ⟨(some 22), .ixa 8 (.t 20) (.t 21), none⟩,
  ⟨(some 23), .ld true 8 (.t 22), none⟩,
  ⟨(some 13), .alloc [.i .i64 0, .i .i64 0, .i .i64 0, .i .i64 0, .i .i64 0, .i .i64 0, .i .i64 0, .i .i64 0], none⟩,
  ⟨none, .st 8 (.t 13) (.t 23), none⟩]
def F_muntinref10_with.r6 : List Oper := [
  ⟨(some 24), .mv (.t 12), none⟩,
  ⟨(some 25), .mv (.t 1), none⟩,
  ⟨(some 26), .eq false .sc (.t 24) (.t 25), none⟩]
def F_muntinref10_with.r7 : List Oper := [
  ⟨(some 27), .mv (.t 2), none⟩,
  ⟨(some 28), .mv (.t 3), none⟩,
  ⟨(some 29), .fa 0 (.t 13), none⟩,
  ⟨(some 30), .ixaa 1 4 (.t 29) (.t 27), none⟩,
  ⟨none, .st 1 (.t 30) (.t 28), none⟩]
def F_muntinref10_with.r8 : List Oper := [
  ⟨(some 31), .mv (.t 2), none⟩,
  ⟨(some 32), .mv (.t 4), none⟩,
  ⟨(some 33), .fa 4 (.t 13), none⟩,
  ⟨(some 34), .ixaa 1 4 (.t 33) (.t 31), none⟩,
  ⟨none, .st 1 (.t 34) (.t 32), none⟩]
def F_muntinref10_with.r9 : List Oper := [
  ⟨(some 35), .mv (.t 12), none⟩,
  ⟨(some 36), .mv (.t 3), none⟩,
  ⟨(some 37), .eq false .sc (.t 35) (.t 36), none⟩]
def F_muntinref10_with.r10 : List Oper := [
  ⟨(some 38), .mv (.t 2), none⟩,
  ⟨(some 39), .bin .add (.t 38) (.c (.i .i64 2)), none⟩,
  ⟨(some 40), .bin .rem (.t 39) (.c (.i .i64 4)), none⟩,
  ⟨(some 41), .mv (.t 1), none⟩,
  ⟨(some 42), .fa 0 (.t 13), none⟩,
  ⟨(some 43), .ixaa 1 4 (.t 42) (.t 40), none⟩,
  ⟨none, .st 1 (.t 43) (.t 41), none⟩]
def F_muntinref10_with.r11 : List Oper := [
  ⟨(some 44), .mv (.t 2), none⟩,
  ⟨(some 45), .bin .add (.t 44) (.c (.i .i64 2)), none⟩,
  ⟨(some 46), .bin .rem (.t 45) (.c (.i .i64 4)), none⟩,
  ⟨(some 47), .mv (.t 4), none⟩,
  ⟨(some 48), .fa 4 (.t 13), none⟩,
  ⟨(some 49), .ixaa 1 4 (.t 48) (.t 46), none⟩,
  ⟨none, .st 1 (.t 49) (.t 47), none⟩]
def F_muntinref10_with.r12 : List Oper := [
  ⟨(some 50), .mv (.t 11), none⟩,
  ⟨(some 51), .ld true 8 (.t 13), none⟩,
  ⟨(some 52), .bsl 8 1 [.i .i64 0, .i .i64 0, .i .i64 0, .i .i64 0, .i .i64 0, .i .i64 0, .i .i64 0, .i .i64 0] [(0, 8, .t 51)], none⟩,
  ⟨(some 53), .app 8 64 (.t 50) (.t 52), none⟩,
  ⟨(some 11), .mv (.t 53), none⟩]
def F_muntinref10_with.r4 : List Oper := [
  ⟨(some 18), .mv (.t 12), none⟩,
  ⟨(some 19), .bin .add (.t 18) (.c (.i .i64 1)), none⟩,
  ⟨(some 12), .mv (.t 19), none⟩]
def F_muntinref10_with.l0 : Code := .seq (.seq (.region F_muntinref10_with.r3) (.cond (.t 17) (.skip) (.exit 0))) (.seq (.block 1 (.seq (.region F_muntinref10_with.r5) (.seq (.seq (.region F_muntinref10_with.r6) (.cond (.t 26) (.seq (.region F_muntinref10_with.r7) (.region F_muntinref10_with.r8)) (.skip))) (.seq (.seq (.region F_muntinref10_with.r9) (.cond (.t 37) (.seq (.region F_muntinref10_with.r10) (.region F_muntinref10_with.r11)) (.skip))) (.region F_muntinref10_with.r12))))) (.region F_muntinref10_with.r4))
def F_muntinref10_with.r13 : List Oper := [
  ⟨(some 54), .mv (.t 11), none⟩,
  ⟨(some 10), .mv (.t 54), none⟩]
def F_muntinref10_with.code : Code := .seq (.region F_muntinref10_with.r0) (.seq (.region F_muntinref10_with.r1) (.seq (.seq (.region F_muntinref10_with.r2) (.block 0 (.loop F_muntinref10_with.l0))) (.seq (.region F_muntinref10_with.r13) (.ret))))
def F_muntinref10_with : Func := ⟨55, [.t 10], F_muntinref10_with.code⟩
/-! muntin/grid.Check -/
def F_grid_Check.r0 : List Oper := [
  ⟨(some 2), .mv (.c (.i .i64 0)), none⟩]
def F_grid_Check.r1 : List Oper := [
  ⟨(some 6), .mv (.t 0), none⟩,
  ⟨(some 7), .len (.t 6), none⟩,
  ⟨(some 8), .bin .gtr (.t 7) (.c (.i .i64 4096)), none⟩]
def F_grid_Check.r2 : List Oper := [
  ⟨(some 2), .mv (.c (.i .i64 6)), none⟩]
def F_grid_Check.r3 : List Oper := [
  ⟨(some 9), .mv (.t 0), none⟩,
  ⟨(some 10), .len (.t 9), none⟩,
  ⟨(some 11), .mv (.c (.i .i64 0)), none⟩]
def F_grid_Check.r4 : List Oper := [
  ⟨(some 12), .bin .lss (.t 11) (.t 10), none⟩]
def F_grid_Check.r5 : List Oper := [
  ⟨(some 13), .mv (.t 11), none⟩,
  ⟨(some 3), .mv (.t 13), none⟩]
def F_grid_Check.r6 : List Oper := [
  ⟨(some 14), .mv (.c (.i .i64 0)), none⟩]
def F_grid_Check.r7 : List Oper := [
  ⟨(some 15), .bin .lss (.t 14) (.c (.i .i64 4)), none⟩]
def F_grid_Check.r8 : List Oper := [
  ⟨(some 16), .mv (.t 14), none⟩,
  ⟨(some 4), .mv (.t 16), none⟩]
def F_grid_Check.r9 : List Oper := [
  ⟨(some 17), .mv (.t 0), none⟩,
  ⟨(some 18), .mv (.t 3), none⟩,
  ⟨(some 19), .mv (.t 4), none⟩,
  ⟨(some 20), .call (.c (.f 82 [])) [.t 17, .t 18, .t 19], none⟩,
  ⟨(some 5), .mv (.t 20), none⟩]
def F_grid_Check.r10 : List Oper := [
  ⟨(some 21), .mv (.t 5), none⟩,
  ⟨(some 22), .eq true .sc (.t 21) (.c (.i .i64 0)), none⟩]
def F_grid_Check.r11 : List Oper := [
  ⟨(some 23), .mv (.t 5), none⟩,
  ⟨(some 2), .mv (.t 23), none⟩]
def F_grid_Check.r12 : List Oper := [
  ⟨(some 24), .bin .add (.t 14) (.c (.i .i64 1)), none⟩,
  ⟨(some 14), .mv (.t 24), none⟩]
def F_grid_Check.l0 : Code := .seq (.region F_grid_Check.r7) (.seq (.cond (.t 15) (.skip) (.exit 2)) (.seq (.block 3 (.seq (.region F_grid_Check.r8) (.seq (.region F_grid_Check.r9) (.seq (.region F_grid_Check.r10) (.cond (.t 22) (.seq (.region F_grid_Check.r11) (.ret)) (.skip)))))) (.region F_grid_Check.r12)))
def F_grid_Check.r13 : List Oper := [
  ⟨(some 25), .bin .add (.t 11) (.c (.i .i64 1)), none⟩,
  ⟨(some 11), .mv (.t 25), none⟩]
def F_grid_Check.l1 : Code := .seq (.region F_grid_Check.r4) (.seq (.cond (.t 12) (.skip) (.exit 0)) (.seq (.block 1 (.seq (.region F_grid_Check.r5) (.seq (.region F_grid_Check.r6) (.block 2 (.loop F_grid_Check.l0))))) (.region F_grid_Check.r13)))
def F_grid_Check.r14 : List Oper := [
  ⟨(some 2), .mv (.c (.i .i64 0)), none⟩]
def F_grid_Check.code : Code := .seq (.region F_grid_Check.r0) (.seq (.seq (.region F_grid_Check.r1) (.cond (.t 8) (.seq (.region F_grid_Check.r2) (.ret)) (.skip))) (.seq (.seq (.region F_grid_Check.r3) (.block 0 (.loop F_grid_Check.l1))) (.seq (.region F_grid_Check.r14) (.ret))))
def F_grid_Check : Func := ⟨26, [.t 2], F_grid_Check.code⟩
/-! slices.Repeat[[]muntin/api.Cell,muntin/api.Cell] -/
def F_slices_Repeat_api_Cell.r0 : List Oper := [
  ⟨(some 4), .mv (.c (.sn)), none⟩]
def F_slices_Repeat_api_Cell.r1 : List Oper := [
  ⟨(some 9), .mv (.t 1), none⟩,
  ⟨(some 10), .bin .lss (.t 9) (.c (.i .i64 0)), none⟩]
def F_slices_Repeat_api_Cell.r2 : List Oper := [
  ⟨(some 11), .bad, none⟩,
  ⟨none, .bad, none⟩]
def F_slices_Repeat_api_Cell.r3 : List Oper := [
  ⟨(some 13), .mv (.t 0), none⟩,
  ⟨(some 14), .len (.t 13), none⟩,
  ⟨(some 15), .conv .u64 (.t 14), none⟩,
  ⟨(some 16), .mv (.t 1), none⟩,
  ⟨(some 17), .conv .u64 (.t 16), none⟩,
  ⟨(some 18), .call (.c (.f 89 [])) [.t 15, .t 17], none⟩,
  ⟨(some 12), .mv (.t 18), none⟩,
  ⟨(some 19), .ext (.t 12) 0, none⟩,
  ⟨(some 20), .ext (.t 12) 1, none⟩,
  ⟨(some 5), .mv (.t 19), none⟩,
  ⟨(some 6), .mv (.t 20), none⟩]
def F_slices_Repeat_api_Cell.r4 : List Oper := [
  ⟨(some 21), .mv (.t 5), none⟩,
  ⟨(some 22), .bin .gtr (.t 21) (.c (.i .u64 0)), none⟩,
  ⟨(some 23), .mv (.t 22), none⟩,
  ⟨(some 24), .mv (.t 6), (some (23, false))⟩,
  ⟨(some 25), .bin .gtr (.t 24) (.c (.i .u64 9223372036854775807)), (some (23, false))⟩,
  ⟨(some 26), .pick (.t 23) (.c (.b true)) (.t 25), none⟩]
def F_slices_Repeat_api_Cell.r5 : List Oper := [
  ⟨(some 27), .bad, none⟩,
  ⟨none, .bad, none⟩]
def F_slices_Repeat_api_Cell.r6 : List Oper := [
  ⟨(some 28), .mv (.t 6), none⟩,
  ⟨(some 29), .conv .i64 (.t 28), none⟩,
  ⟨(some 30), .mks 8 64 [.i .i64 0, .i .i64 0, .i .i64 0, .i .i64 0, .i .i64 0, .i .i64 0, .i .i64 0, .i .i64 0] (.t 29) (.t 29), none⟩,
  ⟨(some 7), .mv (.t 30), none⟩]
def F_slices_Repeat_api_Cell.r7 : List Oper := [
  ⟨(some 31), .mv (.t 7), none⟩,
  ⟨(some 32), .mv (.t 0), none⟩,
  ⟨(some 33), .cpy 8 (.t 31) (.t 32), none⟩,
  ⟨(some 8), .mv (.t 33), none⟩]
def F_slices_Repeat_api_Cell.r8 : List Oper := [
  ⟨(some 34), .mv (.t 8), none⟩,
  ⟨(some 35), .mv (.t 7), none⟩,
  ⟨(some 36), .len (.t 35), none⟩,
  ⟨(some 37), .bin .lss (.t 34) (.t 36), none⟩]
def F_slices_Repeat_api_Cell.r9 : List Oper := [
  ⟨(some 38), .mv (.t 8), none⟩,
  ⟨(some 39), .mv (.t 7), none⟩,
  ⟨(some 40), .mv (.t 8), none⟩,
  ⟨(some 41), .slc 8 (.t 39) (some (.t 40)) none none, none⟩,
  ⟨(some 42), .mv (.t 7), none⟩,
  ⟨(some 43), .mv (.t 8), none⟩,
  ⟨(some 44), .slc 8 (.t 42) none (some (.t 43)) none, none⟩,
  ⟨(some 45), .cpy 8 (.t 41) (.t 44), none⟩,
  ⟨(some 46), .bin .add (.t 38) (.t 45), none⟩,
  ⟨(some 8), .mv (.t 46), none⟩]
def F_slices_Repeat_api_Cell.l0 : Code := .seq (.seq (.region F_slices_Repeat_api_Cell.r8) (.cond (.t 37) (.skip) (.exit 0))) (.block 1 (.draw F_slices_Repeat_api_Cell.r9 []))
def F_slices_Repeat_api_Cell.r10 : List Oper := [
  ⟨(some 47), .mv (.t 7), none⟩,
  ⟨(some 4), .mv (.t 47), none⟩]
def F_slices_Repeat_api_Cell.code : Code := .seq (.region F_slices_Repeat_api_Cell.r0) (.seq (.seq (.region F_slices_Repeat_api_Cell.r1) (.cond (.t 10) (.region F_slices_Repeat_api_Cell.r2) (.skip))) (.seq (.region F_slices_Repeat_api_Cell.r3) (.seq (.seq (.region F_slices_Repeat_api_Cell.r4) (.cond (.t 26) (.region F_slices_Repeat_api_Cell.r5) (.skip))) (.seq (.region F_slices_Repeat_api_Cell.r6) (.seq (.region F_slices_Repeat_api_Cell.r7) (.seq (.block 0 (.loop F_slices_Repeat_api_Cell.l0)) (.seq (.region F_slices_Repeat_api_Cell.r10) (.ret))))))))
def F_slices_Repeat_api_Cell : Func := ⟨48, [.t 4], F_slices_Repeat_api_Cell.code⟩
/-! muntin/grid.empty -/
def F_grid_empty.r0 : List Oper := [
  ⟨(some 0), .alloc [.i .i64 0, .i .i64 0, .i .i64 0, .i .i64 0, .i .i64 0, .i .i64 0, .i .i64 0, .i .i64 0], none⟩]
def F_grid_empty.r1 : List Oper := [
  ⟨(some 1), .build [.i .i64 0, .i .i64 0, .i .i64 0, .i .i64 0] [(0, 1, .c (.i .i64 (-1))), (1, 1, .c (.i .i64 (-1))), (2, 1, .c (.i .i64 (-1))), (3, 1, .c (.i .i64 (-1)))], none⟩,
  ⟨(some 2), .build [.i .i64 0, .i .i64 0, .i .i64 0, .i .i64 0, .i .i64 0, .i .i64 0, .i .i64 0, .i .i64 0] [(0, 4, .t 1)], none⟩,
  ⟨none, .st 8 (.t 0) (.t 2), none⟩]
def F_grid_empty.code : Code := .seq (.region F_grid_empty.r0) (.seq (.region F_grid_empty.r1) (.ret))
def F_grid_empty : Func := ⟨3, [.cell 0 true 8], F_grid_empty.code⟩
/-! (*muntin/grid.Grid).is -/
def F_grid_Grid_is.r0 : List Oper := [
  ⟨(some 6), .mv (.c (.b false)), none⟩]
def F_grid_Grid_is.r1 : List Oper := [
  ⟨(some 7), .mv (.t 1), none⟩,
  ⟨(some 8), .bin .geq (.t 7) (.c (.i .i64 0)), none⟩,
  ⟨(some 9), .mv (.t 8), none⟩,
  ⟨(some 10), .mv (.t 1), (some (9, true))⟩,
  ⟨(some 11), .mv (.t 0), (some (9, true))⟩,
  ⟨(some 12), .call (.c (.f 55 [])) [.t 11], (some (9, true))⟩,
  ⟨(some 13), .bin .lss (.t 10) (.t 12), (some (9, true))⟩,
  ⟨(some 14), .pick (.t 9) (.t 13) (.c (.b false)), none⟩,
  ⟨(some 15), .mv (.t 14), none⟩,
  ⟨(some 16), .mv (.t 2), (some (15, true))⟩,
  ⟨(some 17), .call (.c (.f 90 [])) [.t 16], (some (15, true))⟩,
  ⟨(some 18), .pick (.t 15) (.t 17) (.c (.b false)), none⟩,
  ⟨(some 6), .mv (.t 18), none⟩]
def F_grid_Grid_is.code : Code := .seq (.region F_grid_Grid_is.r0) (.seq (.region F_grid_Grid_is.r1) (.ret))
def F_grid_Grid_is : Func := ⟨19, [.t 6], F_grid_Grid_is.code⟩
/-! (*muntin/grid.Grid).lay -/
def F_grid_Grid_lay.r0 : List Oper := [
  ⟨(some 11), .mv (.t 2), none⟩,
  ⟨(some 12), .call (.c (.f 77 [])) [.t 11, .c (.i .i64 2)], none⟩,
  ⟨(some 10), .mv (.t 12), none⟩]
def F_grid_Grid_lay.r1 : List Oper := [
  ⟨(some 13), .mv (.t 0), none⟩,
  ⟨(some 14), .nilck (.t 13), none⟩,
  ⟨(some 15), .fa 0 (.t 14), none⟩,
  ⟨(some 16), .ld false 1 (.t 15), none⟩,
  ⟨(some 17), .mv (.t 1), none⟩,
  ⟨(some 18), .mv (.t 2), none⟩,
  ⟨(some 19), .mv (.t 0), none⟩,
  ⟨(some 20), .nilck (.t 19), none⟩,
  ⟨(some 21), .fa 0 (.t 20), none⟩,
  ⟨(some 22), .ld false 1 (.t 21), none⟩,
  ⟨(some 23), .mv (.t 1), none⟩,
  ⟨(some 24), .mv (.t 2), none⟩,
  ⟨(some 25), .mv (.t 3), none⟩,
  ⟨(some 26), .mv (.t 4), none⟩,
  ⟨(some 27), .ixa 8 (.t 16) (.t 17), none⟩,
  ⟨(some 28), .fa 0 (.t 27), none⟩,
  ⟨(some 29), .ixaa 1 4 (.t 28) (.t 18), none⟩,
  ⟨none, .st 1 (.t 29) (.t 25), none⟩,
  ⟨(some 30), .ixa 8 (.t 22) (.t 23), none⟩,
  ⟨(some 31), .fa 4 (.t 30), none⟩,
  ⟨(some 32), .ixaa 1 4 (.t 31) (.t 24), none⟩,
  ⟨none, .st 1 (.t 32) (.t 26), none⟩]
def F_grid_Grid_lay.r2 : List Oper := [
  ⟨(some 33), .mv (.t 0), none⟩,
  ⟨(some 34), .nilck (.t 33), none⟩,
  ⟨(some 35), .fa 0 (.t 34), none⟩,
  ⟨(some 36), .ld false 1 (.t 35), none⟩,
  ⟨(some 37), .mv (.t 3), none⟩,
  ⟨(some 38), .mv (.t 10), none⟩,
  ⟨(some 39), .mv (.t 0), none⟩,
  ⟨(some 40), .nilck (.t 39), none⟩,
  ⟨(some 41), .fa 0 (.t 40), none⟩,
  ⟨(some 42), .ld false 1 (.t 41), none⟩,
  ⟨(some 43), .mv (.t 3), none⟩,
  ⟨(some 44), .mv (.t 10), none⟩,
  ⟨(some 45), .mv (.t 1), none⟩,
  ⟨(some 46), .mv (.t 4), none⟩,
  ⟨(some 47), .ixa 8 (.t 36) (.t 37), none⟩,
  ⟨(some 48), .fa 0 (.t 47), none⟩,
  ⟨(some 49), .ixaa 1 4 (.t 48) (.t 38), none⟩,
  ⟨none, .st 1 (.t 49) (.t 45), none⟩,
  ⟨(some 50), .ixa 8 (.t 42) (.t 43), none⟩,
  ⟨(some 51), .fa 4 (.t 50), none⟩,
  ⟨(some 52), .ixaa 1 4 (.t 51) (.t 44), none⟩,
  ⟨none, .st 1 (.t 52) (.t 46), none⟩]
def F_grid_Grid_lay.code : Code := .seq (.region F_grid_Grid_lay.r0) (.seq (.draw F_grid_Grid_lay.r1 [(3, 9)]) (.draw F_grid_Grid_lay.r2 [(3, 9)]))
def F_grid_Grid_lay : Func := ⟨53, [], F_grid_Grid_lay.code⟩
/-! muntin/compass.Left -/
def F_compass_Left.r0 : List Oper := [
  ⟨(some 4), .mv (.c (.i .i64 0)), none⟩]
def F_compass_Left.r1 : List Oper := [
  ⟨(some 5), .mv (.t 0), none⟩,
  ⟨(some 6), .call (.c (.f 90 [])) [.t 5], none⟩,
  ⟨(some 7), .un .not (.t 6), none⟩]
def F_compass_Left.r2 : List Oper := [
  ⟨(some 4), .mv (.c (.i .i64 0)), none⟩]
def F_compass_Left.r3 : List Oper := [
  ⟨(some 8), .mv (.t 0), none⟩,
  ⟨(some 9), .mv (.t 1), none⟩,
  ⟨(some 10), .bin .rem (.t 9) (.c (.i .i64 4)), none⟩,
  ⟨(some 11), .bin .add (.t 8) (.t 10), none⟩,
  ⟨(some 12), .bin .add (.t 11) (.c (.i .i64 4)), none⟩,
  ⟨(some 13), .bin .rem (.t 12) (.c (.i .i64 4)), none⟩,
  ⟨(some 4), .mv (.t 13), none⟩]
def F_compass_Left.code : Code := .seq (.region F_compass_Left.r0) (.seq (.seq (.region F_compass_Left.r1) (.cond (.t 7) (.seq (.region F_compass_Left.r2) (.ret)) (.skip))) (.seq (.region F_compass_Left.r3) (.ret)))
def F_compass_Left : Func := ⟨14, [.t 4], F_compass_Left.code⟩
/-! muntin/grid.side -/
def F_grid_side.r0 : List Oper := [
  ⟨(some 6), .mv (.c (.i .i64 0)), none⟩]
def F_grid_side.r1 : List Oper := [
  ⟨(some 10), .mv (.t 0), none⟩,
  ⟨(some 11), .mv (.t 1), none⟩,
  ⟨(some 12), .mv (.t 2), none⟩,
  ⟨(some 13), .ixa 8 (.t 10) (.t 11), none⟩,
  ⟨(some 14), .fa 0 (.t 13), none⟩,
  ⟨(some 15), .ixaa 1 4 (.t 14) (.t 12), none⟩,
  ⟨(some 16), .ld false 1 (.t 15), none⟩,
  ⟨(some 17), .mv (.t 0), none⟩,
  ⟨(some 18), .mv (.t 1), none⟩,
  ⟨(some 19), .mv (.t 2), none⟩,
  ⟨(some 20), .ixa 8 (.t 17) (.t 18), none⟩,
  ⟨(some 21), .fa 4 (.t 20), none⟩,
  ⟨(some 22), .ixaa 1 4 (.t 21) (.t 19), none⟩,
  ⟨(some 23), .ld false 1 (.t 22), none⟩,
  ⟨(some 7), .mv (.t 16), none⟩,
  ⟨(some 8), .mv (.t 23), none⟩]
def F_grid_side.r2 : List Oper := [
  ⟨(some 24), .mv (.t 7), none⟩,
  ⟨(some 25), .eq false .sc (.t 24) (.c (.i .i64 (-1))), none⟩]
def F_grid_side.r3 : List Oper := [
  ⟨(some 26), .mv (.t 8), none⟩,
  ⟨(some 27), .eq true .sc (.t 26) (.c (.i .i64 0)), none⟩]
def F_grid_side.r4 : List Oper := [
  ⟨(some 6), .mv (.c (.i .i64 9)), none⟩]
def F_grid_side.r5 : List Oper := [
  ⟨(some 6), .mv (.c (.i .i64 0)), none⟩]
def F_grid_side.r6 : List Oper := [
  ⟨(some 28), .mv (.t 7), none⟩,
  ⟨(some 29), .bin .lss (.t 28) (.c (.i .i64 0)), none⟩,
  ⟨(some 30), .mv (.t 29), none⟩,
  ⟨(some 31), .mv (.t 7), (some (30, false))⟩,
  ⟨(some 32), .mv (.t 0), (some (30, false))⟩,
  ⟨(some 33), .len (.t 32), (some (30, false))⟩,
  ⟨(some 34), .bin .geq (.t 31) (.t 33), (some (30, false))⟩,
  ⟨(some 35), .pick (.t 30) (.c (.b true)) (.t 34), none⟩,
  ⟨(some 36), .mv (.t 35), none⟩,
  ⟨(some 37), .mv (.t 7), (some (36, false))⟩,
  ⟨(some 38), .mv (.t 1), (some (36, false))⟩,
  ⟨(some 39), .eq false .sc (.t 37) (.t 38), (some (36, false))⟩,
  ⟨(some 40), .pick (.t 36) (.c (.b true)) (.t 39), none⟩]
def F_grid_side.r7 : List Oper := [
  ⟨(some 6), .mv (.c (.i .i64 3)), none⟩]
def F_grid_side.r8 : List Oper := [
  ⟨(some 41), .mv (.t 2), none⟩,
  ⟨(some 42), .call (.c (.f 77 [])) [.t 41, .c (.i .i64 2)], none⟩,
  ⟨(some 9), .mv (.t 42), none⟩]
def F_grid_side.r9 : List Oper := [
  ⟨(some 43), .mv (.t 0), none⟩,
  ⟨(some 44), .mv (.t 7), none⟩,
  ⟨(some 45), .mv (.t 9), none⟩,
  ⟨(some 46), .ixa 8 (.t 43) (.t 44), none⟩,
  ⟨(some 47), .fa 0 (.t 46), none⟩,
  ⟨(some 48), .ixaa 1 4 (.t 47) (.t 45), none⟩,
  ⟨(some 49), .ld false 1 (.t 48), none⟩,
  ⟨(some 50), .mv (.t 1), none⟩,
  ⟨(some 51), .eq true .sc (.t 49) (.t 50), none⟩,
  ⟨(some 52), .mv (.t 51), none⟩,
  ⟨(some 53), .mv (.t 0), (some (52, false))⟩,
  ⟨(some 54), .mv (.t 7), (some (52, false))⟩,
  ⟨(some 55), .mv (.t 9), (some (52, false))⟩,
  ⟨(some 56), .ixa 8 (.t 53) (.t 54), (some (52, false))⟩,
  ⟨(some 57), .fa 4 (.t 56), (some (52, false))⟩,
  ⟨(some 58), .ixaa 1 4 (.t 57) (.t 55), (some (52, false))⟩,
  ⟨(some 59), .ld false 1 (.t 58), (some (52, false))⟩,
  ⟨(some 60), .mv (.t 8), (some (52, false))⟩,
  ⟨(some 61), .eq true .sc (.t 59) (.t 60), (some (52, false))⟩,
  ⟨(some 62), .pick (.t 52) (.c (.b true)) (.t 61), none⟩,
  ⟨(some 63), .mv (.t 62), none⟩,
  ⟨(some 64), .mv (.t 8), (some (63, false))⟩,
  ⟨(some 65), .bin .lss (.t 64) (.c (.i .i64 (-2))), (some (63, false))⟩,
  ⟨(some 66), .pick (.t 63) (.c (.b true)) (.t 65), none⟩]
def F_grid_side.r10 : List Oper := [
  ⟨(some 6), .mv (.c (.i .i64 9)), none⟩]
def F_grid_side.r11 : List Oper := [
  ⟨(some 6), .mv (.c (.i .i64 0)), none⟩]
def F_grid_side.code : Code := .seq (.region F_grid_side.r0) (.seq (.draw F_grid_side.r1 [(6, 13)]) (.seq (.seq (.region F_grid_side.r2) (.cond (.t 25) (.seq (.seq (.region F_grid_side.r3) (.cond (.t 27) (.seq (.region F_grid_side.r4) (.ret)) (.skip))) (.seq (.region F_grid_side.r5) (.ret))) (.skip))) (.seq (.seq (.region F_grid_side.r6) (.cond (.t 40) (.seq (.region F_grid_side.r7) (.ret)) (.skip))) (.seq (.region F_grid_side.r8) (.seq (.seq (.region F_grid_side.r9) (.cond (.t 66) (.seq (.region F_grid_side.r10) (.ret)) (.skip))) (.seq (.region F_grid_side.r11) (.ret)))))))
def F_grid_side : Func := ⟨67, [.t 6], F_grid_side.code⟩
/-! math/bits.Mul -/
def F_bits_Mul.r0 : List Oper := [
  ⟨(some 4), .mv (.c (.i .u64 0)), none⟩,
  ⟨(some 5), .mv (.c (.i .u64 0)), none⟩]
def F_bits_Mul.r1 : List Oper := [
  ⟨(some 11), .mv (.t 0), none⟩,
  ⟨(some 12), .conv .u32 (.t 11), none⟩,
  ⟨(some 13), .mv (.t 1), none⟩,
  ⟨(some 14), .conv .u32 (.t 13), none⟩,
  ⟨(some 15), .call (.c (.f 97 [])) [.t 12, .t 14], none⟩,
  ⟨(some 10), .mv (.t 15), none⟩,
  ⟨(some 16), .ext (.t 10) 0, none⟩,
  ⟨(some 17), .ext (.t 10) 1, none⟩,
  ⟨(some 6), .mv (.t 16), none⟩,
  ⟨(some 7), .mv (.t 17), none⟩]
def F_bits_Mul.r2 : List Oper := [
  ⟨(some 18), .mv (.t 6), none⟩,
  ⟨(some 19), .conv .u64 (.t 18), none⟩,
  ⟨(some 20), .mv (.t 7), none⟩,
  ⟨(some 21), .conv .u64 (.t 20), none⟩,
  ⟨(some 4), .mv (.t 19), none⟩,
  ⟨(some 5), .mv (.t 21), none⟩]
def F_bits_Mul.r3 : List Oper := [
  ⟨(some 23), .mv (.t 0), none⟩,
  ⟨(some 24), .mv (.t 1), none⟩,
  ⟨(some 25), .call (.c (.f 98 [])) [.t 23, .t 24], none⟩,
  ⟨(some 22), .mv (.t 25), none⟩,
  ⟨(some 26), .ext (.t 22) 0, none⟩,
  ⟨(some 27), .ext (.t 22) 1, none⟩,
  ⟨(some 8), .mv (.t 26), none⟩,
  ⟨(some 9), .mv (.t 27), none⟩]
def F_bits_Mul.r4 : List Oper := [
  ⟨(some 28), .mv (.t 8), none⟩,
  ⟨(some 29), .mv (.t 9), none⟩,
  ⟨(some 4), .mv (.t 28), none⟩,
  ⟨(some 5), .mv (.t 29), none⟩]
def F_bits_Mul.code : Code := .seq (.region F_bits_Mul.r0) (.seq (.cond (.c (.b false)) (.seq (.region F_bits_Mul.r1) (.seq (.region F_bits_Mul.r2) (.ret))) (.skip)) (.seq (.region F_bits_Mul.r3) (.seq (.region F_bits_Mul.r4) (.ret))))
def F_bits_Mul : Func := ⟨30, [.t 4, .t 5], F_bits_Mul.code⟩
/-! muntin/compass.Good -/
def F_compass_Good.r0 : List Oper := [
  ⟨(some 2), .mv (.c (.b false)), none⟩]
def F_compass_Good.r1 : List Oper := [
  ⟨(some 3), .mv (.t 0), none⟩,
  ⟨(some 4), .bin .geq (.t 3) (.c (.i .i64 0)), none⟩,
  ⟨(some 5), .mv (.t 4), none⟩,
  ⟨(some 6), .mv (.t 0), (some (5, true))⟩,
  ⟨(some 7), .bin .leq (.t 6) (.c (.i .i64 3)), (some (5, true))⟩,
  ⟨(some 8), .pick (.t 5) (.t 7) (.c (.b false)), none⟩,
  ⟨(some 2), .mv (.t 8), none⟩]
def F_compass_Good.code : Code := .seq (.region F_compass_Good.r0) (.seq (.region F_compass_Good.r1) (.ret))
def F_compass_Good : Func := ⟨9, [.t 2], F_compass_Good.code⟩
/-! math/bits.Mul32 -/
def F_bits_Mul32.r0 : List Oper := [
  ⟨(some 4), .mv (.c (.i .u32 0)), none⟩,
  ⟨(some 5), .mv (.c (.i .u32 0)), none⟩]
def F_bits_Mul32.r1 : List Oper := [
  ⟨(some 7), .mv (.t 0), none⟩,
  ⟨(some 8), .conv .u64 (.t 7), none⟩,
  ⟨(some 9), .mv (.t 1), none⟩,
  ⟨(some 10), .conv .u64 (.t 9), none⟩,
  ⟨(some 11), .bin .mul (.t 8) (.t 10), none⟩,
  ⟨(some 6), .mv (.t 11), none⟩]
def F_bits_Mul32.r2 : List Oper := [
  ⟨(some 12), .mv (.t 6), none⟩,
  ⟨(some 13), .bin .shr (.t 12) (.c (.i .u64 32)), none⟩,
  ⟨(some 14), .conv .u32 (.t 13), none⟩,
  ⟨(some 15), .mv (.t 6), none⟩,
  ⟨(some 16), .conv .u32 (.t 15), none⟩,
  ⟨(some 4), .mv (.t 14), none⟩,
  ⟨(some 5), .mv (.t 16), none⟩]
def F_bits_Mul32.code : Code := .seq (.region F_bits_Mul32.r0) (.seq (.region F_bits_Mul32.r1) (.seq (.region F_bits_Mul32.r2) (.ret)))
def F_bits_Mul32 : Func := ⟨17, [.t 4, .t 5], F_bits_Mul32.code⟩
/-! math/bits.Mul64 -/
def F_bits_Mul64.r0 : List Oper := [
  ⟨(some 4), .mv (.c (.i .u64 0)), none⟩,
  ⟨(some 5), .mv (.c (.i .u64 0)), none⟩]
def F_bits_Mul64.r1 : List Oper := [
  ⟨(some 14), .mv (.t 0), none⟩,
  ⟨(some 15), .bin .and (.t 14) (.c (.i .u64 4294967295)), none⟩,
  ⟨(some 6), .mv (.t 15), none⟩]
def F_bits_Mul64.r2 : List Oper := [
  ⟨(some 16), .mv (.t 0), none⟩,
  ⟨(some 17), .bin .shr (.t 16) (.c (.i .u64 32)), none⟩,
  ⟨(some 7), .mv (.t 17), none⟩]
def F_bits_Mul64.r3 : List Oper := [
  ⟨(some 18), .mv (.t 1), none⟩,
  ⟨(some 19), .bin .and (.t 18) (.c (.i .u64 4294967295)), none⟩,
  ⟨(some 8), .mv (.t 19), none⟩]
def F_bits_Mul64.r4 : List Oper := [
  ⟨(some 20), .mv (.t 1), none⟩,
  ⟨(some 21), .bin .shr (.t 20) (.c (.i .u64 32)), none⟩,
  ⟨(some 9), .mv (.t 21), none⟩]
def F_bits_Mul64.r5 : List Oper := [
  ⟨(some 22), .mv (.t 6), none⟩,
  ⟨(some 23), .mv (.t 8), none⟩,
  ⟨(some 24), .bin .mul (.t 22) (.t 23), none⟩,
  ⟨(some 10), .mv (.t 24), none⟩]
def F_bits_Mul64.r6 : List Oper := [
  ⟨(some 25), .mv (.t 7), none⟩,
  ⟨(some 26), .mv (.t 8), none⟩,
  ⟨(some 27), .bin .mul (.t 25) (.t 26), none⟩,
  ⟨(some 28), .mv (.t 10), none⟩,
  ⟨(some 29), .bin .shr (.t 28) (.c (.i .u64 32)), none⟩,
  ⟨(some 30), .bin .add (.t 27) (.t 29), none⟩,
  ⟨(some 11), .mv (.t 30), none⟩]
def F_bits_Mul64.r7 : List Oper := [
  ⟨(some 31), .mv (.t 11), none⟩,
  ⟨(some 32), .bin .and (.t 31) (.c (.i .u64 4294967295)), none⟩,
  ⟨(some 12), .mv (.t 32), none⟩]
def F_bits_Mul64.r8 : List Oper := [
  ⟨(some 33), .mv (.t 11), none⟩,
  ⟨(some 34), .bin .shr (.t 33) (.c (.i .u64 32)), none⟩,
  ⟨(some 13), .mv (.t 34), none⟩]
def F_bits_Mul64.r9 : List Oper := [
  ⟨(some 35), .mv (.t 12), none⟩,
  ⟨(some 36), .mv (.t 6), none⟩,
  ⟨(some 37), .mv (.t 9), none⟩,
  ⟨(some 38), .bin .mul (.t 36) (.t 37), none⟩,
  ⟨(some 39), .bin .add (.t 35) (.t 38), none⟩,
  ⟨(some 12), .mv (.t 39), none⟩]
def F_bits_Mul64.r10 : List Oper := [
  ⟨(some 40), .mv (.t 7), none⟩,
  ⟨(some 41), .mv (.t 9), none⟩,
  ⟨(some 42), .bin .mul (.t 40) (.t 41), none⟩,
  ⟨(some 43), .mv (.t 13), none⟩,
  ⟨(some 44), .bin .add (.t 42) (.t 43), none⟩,
  ⟨(some 45), .mv (.t 12), none⟩,
  ⟨(some 46), .bin .shr (.t 45) (.c (.i .u64 32)), none⟩,
  ⟨(some 47), .bin .add (.t 44) (.t 46), none⟩,
  ⟨(some 4), .mv (.t 47), none⟩]
def F_bits_Mul64.r11 : List Oper := [
  ⟨(some 48), .mv (.t 0), none⟩,
  ⟨(some 49), .mv (.t 1), none⟩,
  ⟨(some 50), .bin .mul (.t 48) (.t 49), none⟩,
  ⟨(some 5), .mv (.t 50), none⟩]
def F_bits_Mul64.code : Code := .seq (.region F_bits_Mul64.r0) (.seq (.region F_bits_Mul64.r1) (.seq (.region F_bits_Mul64.r2) (.seq (.region F_bits_Mul64.r3) (.seq (.region F_bits_Mul64.r4) (.seq (.region F_bits_Mul64.r5) (.seq (.region F_bits_Mul64.r6) (.seq (.region F_bits_Mul64.r7) (.seq (.region F_bits_Mul64.r8) (.seq (.region F_bits_Mul64.r9) (.seq (.region F_bits_Mul64.r10) (.seq (.region F_bits_Mul64.r11) (.ret))))))))))))
def F_bits_Mul64 : Func := ⟨51, [.t 4, .t 5], F_bits_Mul64.code⟩
def G : Prog := fun i => match i with
  | 11 => some F_muntinlaw10_GridPlays
  | 45 => some F_grid_New
  | 46 => some F_muntinref10_New
  | 47 => some F_muntinlaw10_wakes
  | 48 => some F_grid_Grid_Split
  | 49 => some F_muntinref10_Split
  | 50 => some F_grid_Grid_Add
  | 51 => some F_slices_Clone_api_Cell
  | 52 => some F_grid_Grid_Join
  | 53 => some F_muntinref10_Join
  | 54 => some F_grid_Grid_Next
  | 55 => some F_grid_Grid_Len
  | 56 => some F_muntinref10_Same
  | 57 => some F_grid_Grid_Cells
  | 65 => some F_muntinref10_with
  | 66 => some F_grid_Check
  | 73 => some F_slices_Repeat_api_Cell
  | 74 => some F_grid_empty
  | 75 => some F_grid_Grid_is
  | 76 => some F_grid_Grid_lay
  | 77 => some F_compass_Left
  | 82 => some F_grid_side
  | 89 => some F_bits_Mul
  | 90 => some F_compass_Good
  | 97 => some F_bits_Mul32
  | 98 => some F_bits_Mul64
  | _ => none
theorem G_F_muntinlaw10_GridPlays : G 11 = some F_muntinlaw10_GridPlays := rfl
theorem G_F_grid_New : G 45 = some F_grid_New := rfl
theorem G_F_muntinref10_New : G 46 = some F_muntinref10_New := rfl
theorem G_F_muntinlaw10_wakes : G 47 = some F_muntinlaw10_wakes := rfl
theorem G_F_grid_Grid_Split : G 48 = some F_grid_Grid_Split := rfl
theorem G_F_muntinref10_Split : G 49 = some F_muntinref10_Split := rfl
theorem G_F_grid_Grid_Add : G 50 = some F_grid_Grid_Add := rfl
theorem G_F_slices_Clone_api_Cell : G 51 = some F_slices_Clone_api_Cell := rfl
theorem G_F_grid_Grid_Join : G 52 = some F_grid_Grid_Join := rfl
theorem G_F_muntinref10_Join : G 53 = some F_muntinref10_Join := rfl
theorem G_F_grid_Grid_Next : G 54 = some F_grid_Grid_Next := rfl
theorem G_F_grid_Grid_Len : G 55 = some F_grid_Grid_Len := rfl
theorem G_F_muntinref10_Same : G 56 = some F_muntinref10_Same := rfl
theorem G_F_grid_Grid_Cells : G 57 = some F_grid_Grid_Cells := rfl
theorem G_F_muntinref10_with : G 65 = some F_muntinref10_with := rfl
theorem G_F_grid_Check : G 66 = some F_grid_Check := rfl
theorem G_F_slices_Repeat_api_Cell : G 73 = some F_slices_Repeat_api_Cell := rfl
theorem G_F_grid_empty : G 74 = some F_grid_empty := rfl
theorem G_F_grid_Grid_is : G 75 = some F_grid_Grid_is := rfl
theorem G_F_grid_Grid_lay : G 76 = some F_grid_Grid_lay := rfl
theorem G_F_compass_Left : G 77 = some F_compass_Left := rfl
theorem G_F_grid_side : G 82 = some F_grid_side := rfl
theorem G_F_bits_Mul : G 89 = some F_bits_Mul := rfl
theorem G_F_compass_Good : G 90 = some F_compass_Good := rfl
theorem G_F_bits_Mul32 : G 97 = some F_bits_Mul32 := rfl
theorem G_F_bits_Mul64 : G 98 = some F_bits_Mul64 := rfl
end Mu
