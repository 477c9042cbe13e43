/- The functions of the program, as the evaluator has them: printed by a program; checked against the model's. -/
import Derived.Test.YtfdidkebomeiaaaMuE0
namespace Mu
instance (n:Nat):OfNat Opd n:=⟨.t n⟩
abbrev oD (d:Nat) (op:Op):Oper:=⟨some d,op,none⟩
abbrev oN (op:Op):Oper:=⟨none,op,none⟩
/-! muntin/muntinref10.Make -/
def Zh.r0:List Oper:=[
 oD 2 (.box 0),
 oD 4 (.mv (.c (.sn))),
 oD 5 (.mv (.c (.sn)))]
def Zh.r1:List Oper:=[
 oD 6 (.mv (.c (.sn)))]
def Zh.r2:List Oper:=[
 oD 7 (.mv (.c (.n 0)))]
def Zh.r3:List Oper:=[
 oD 18 (.mv 7),
 oD 19 (.fa 0 2),
 oD 20 (.ld false 1 19),
 oD 21 (.len 20),
 oD 22 (.bin .lss 18 21),
 oD 23 (.mv 22),
 ⟨(some 24),.mv 6,(some (23,true))⟩,
 ⟨(some 25),.len 24,(some (23,true))⟩,
 ⟨(some 26),.mv 1,(some (23,true))⟩,
 ⟨(some 27),.bin .lss 25 26,(some (23,true))⟩,
 oD 28 (.pick 23 27 (.c (.b false)))]
def Zh.r5:List Oper:=[
 oD 31 (.fa 0 2),
 oD 32 (.ld false 1 31),
 oD 33 (.mv 7),
 oD 34 (.ixa 1 32 33),
 oD 35 (.ld false 1 34),
 oD 36 (.conv .i64 35),
 oD 37 (.bin .rem 36 (.c (.n 8))),
 oD 38 (.fa 0 2),
 oD 39 (.ld false 1 38),
 oD 40 (.mv 7),
 oD 41 (.ixa 1 39 40),
 oD 42 (.ld false 1 41),
 oD 43 (.conv .i64 42),
 oD 44 (.bin .quo 43 (.c (.n 8))),
 oD 45 (.bin .rem 44 (.c (.n 8))),
 oD 46 (.build [.n 0,.n 0] [(0,1,.t 37),(1,1,.t 45)]),
 oD 8 (.alloc [.n 0,.n 0]),
 oN (.st 2 8 46)]
def Zh.r6:List Oper:=[
 oD 9 (.mv (.c (.b false)))]
def Zh.r7:List Oper:=[
 oD 10 (.mv (.c (.n 0)))]
def Zh.r8:List Oper:=[
 oD 47 (.mv 10),
 oD 48 (.mv 6),
 oD 49 (.len 48),
 oD 50 (.bin .lss 47 49)]
def Zh.r10:List Oper:=[
 oD 53 (.mv 9),
 oD 54 (.mv 53),
 ⟨(some 55),.mv 6,(some (54,false))⟩,
 ⟨(some 56),.mv 10,(some (54,false))⟩,
 ⟨(some 57),.ixa 2 55 56,(some (54,false))⟩,
 ⟨(some 58),.ld true 2 57,(some (54,false))⟩,
 ⟨(some 59),.ld true 2 8,(some (54,false))⟩,
 ⟨(some 60),.eq false (.fl [.i,.i]) 58 59,(some (54,false))⟩,
 oD 61 (.pick 54 (.c (.b true)) 60),
 oD 9 (.mv 61)]
def Zh.r9:List Oper:=[
 oD 51 (.mv 10),
 oD 52 (.bin .add 51 (.c (.n 1))),
 oD 10 (.mv 52)]
def Zh.l0:Code:=.seq (.seq (.region Zh.r8) (.cond 50 (.skip) (.exit 2))) (.seq (.block 3 (.draw Zh.r10 [(5,6)])) (.region Zh.r9))
def Zh.r11:List Oper:=[
 oD 62 (.mv 9),
 oD 63 (.un .not 62)]
def Zh.r12:List Oper:=[
 oD 64 (.mv 6),
 oD 65 (.ld true 2 8),
 oD 66 (.bsl 2 1 [.n 0,.n 0] [(0,2,.t 65)]),
 oD 67 (.app 2 16 64 66),
 oD 6 (.mv 67)]
def Zh.r4:List Oper:=[
 oD 29 (.mv 7),
 oD 30 (.bin .add 29 (.c (.n 1))),
 oD 7 (.mv 30)]
def Zh.l1:Code:=.seq (.seq (.region Zh.r3) (.cond 28 (.skip) (.exit 0))) (.seq (.block 1 (.seq (.draw Zh.r5 [(1,8),(4,8),(1,11),(4,11),(1,16),(4,16),(8,16),(11,16)]) (.seq (.region Zh.r6) (.seq (.seq (.region Zh.r7) (.block 2 (.loop Zh.l0))) (.seq (.region Zh.r11) (.cond 63 (.region Zh.r12) (.skip))))))) (.region Zh.r4))
def Zh.r13:List Oper:=[
 oD 68 (.mv 6),
 oD 69 (.len 68),
 oD 70 (.call (.c (.f 46 [])) [.t 69]),
 oD 11 (.mv 70)]
def Zh.r14:List Oper:=[
 oD 12 (.mv (.c (.n 0)))]
def Zh.r15:List Oper:=[
 oD 71 (.mv 12),
 oD 72 (.mv 6),
 oD 73 (.len 72),
 oD 74 (.bin .lss 71 73)]
def Zh.r17:List Oper:=[
 oD 13 (.mv (.c (.i .u8 3)))]
def Zh.r18:List Oper:=[
 oD 77 (.mv 12),
 oD 78 (.fa 1 2),
 oD 79 (.ld false 1 78),
 oD 80 (.len 79),
 oD 81 (.bin .lss 77 80)]
def Zh.r19:List Oper:=[
 oD 82 (.fa 1 2),
 oD 83 (.ld false 1 82),
 oD 84 (.mv 12),
 oD 85 (.ixa 1 83 84),
 oD 86 (.ld false 1 85),
 oD 13 (.mv 86)]
def Zh.r20:List Oper:=[
 oD 87 (.mv 12),
 oD 14 (.mv 87)]
def Zh.r21:List Oper:=[
 oD 88 (.mv 12),
 oD 89 (.fa 2 2),
 oD 90 (.ld false 1 89),
 oD 91 (.len 90),
 oD 92 (.bin .lss 88 91)]
def Zh.r22:List Oper:=[
 oD 93 (.fa 2 2),
 oD 94 (.ld false 1 93),
 oD 95 (.mv 12),
 oD 96 (.ixa 1 94 95),
 oD 97 (.ld false 1 96),
 oD 98 (.conv .i64 97),
 oD 14 (.mv 98)]
def Zh.r23:List Oper:=[
 oD 99 (.mv 14),
 oD 100 (.bin .lss 99 (.c (.n (-2))))]
def Zh.r24:List Oper:=[
 oD 101 (.mv 14),
 oD 102 (.un .neg 101),
 oD 14 (.mv 102)]
def Zh.r25:List Oper:=[
 oD 15 (.mv (.c (.n 0)))]
def Zh.r26:List Oper:=[
 oD 103 (.mv 15),
 oD 104 (.bin .lss 103 (.c (.n 2)))]
def Zh.r28:List Oper:=[
 oD 107 (.mv 6),
 oD 108 (.mv 12),
 oD 109 (.mv 15),
 oD 110 (.call (.c (.f 63 [])) [.t 107,.t 108,.t 109]),
 oD 16 (.mv 110)]
def Zh.r29:List Oper:=[
 oD 111 (.mv 13),
 oD 112 (.mv 15),
 oD 113 (.bin .shr 111 112),
 oD 114 (.bin .and 113 (.c (.i .u8 1))),
 oD 115 (.eq false .sc 114 (.c (.i .u8 0))),
 oD 116 (.mv 115),
 ⟨(some 117),.mv 16,(some (116,false))⟩,
 ⟨(some 118),.bin .lss 117 (.c (.n 0)),(some (116,false))⟩,
 oD 119 (.pick 116 (.c (.b true)) 118)]
def Zh.r30:List Oper:=[
 oD 120 (.mv 6),
 oD 121 (.mv 11),
 oD 122 (.mv 12),
 oD 123 (.mv 16),
 oD 124 (.call (.c (.f 64 [])) [.t 120,.t 121,.t 122,.t 123]),
 oD 17 (.mv 124)]
def Zh.r31:List Oper:=[
 oD 125 (.mv 17),
 oD 126 (.un .not 125)]
def Zh.r32:List Oper:=[
 oD 127 (.mv 11),
 oD 128 (.mv 12),
 oD 129 (.mv 15),
 oD 130 (.mv 16),
 oD 131 (.mv 14),
 oD 132 (.call (.c (.f 65 [])) [.t 127,.t 128,.t 129,.t 130,.t 131]),
 oD 11 (.mv 132)]
def Zh.r27:List Oper:=[
 oD 105 (.mv 15),
 oD 106 (.bin .add 105 (.c (.n 1))),
 oD 15 (.mv 106)]
def Zh.l2:Code:=.seq (.seq (.region Zh.r26) (.cond 104 (.skip) (.exit 6))) (.seq (.block 7 (.seq (.region Zh.r28) (.seq (.seq (.region Zh.r29) (.cond 119 (.exit 7) (.skip))) (.seq (.region Zh.r30) (.seq (.region Zh.r31) (.cond 126 (.region Zh.r32) (.skip))))))) (.region Zh.r27))
def Zh.r16:List Oper:=[
 oD 75 (.mv 12),
 oD 76 (.bin .add 75 (.c (.n 1))),
 oD 12 (.mv 76)]
def Zh.l3:Code:=.seq (.seq (.region Zh.r15) (.cond 74 (.skip) (.exit 4))) (.seq (.block 5 (.seq (.region Zh.r17) (.seq (.seq (.region Zh.r18) (.cond 81 (.region Zh.r19) (.skip))) (.seq (.region Zh.r20) (.seq (.seq (.region Zh.r21) (.cond 92 (.seq (.region Zh.r22) (.seq (.region Zh.r23) (.cond 100 (.region Zh.r24) (.skip)))) (.skip))) (.seq (.region Zh.r25) (.block 6 (.loop Zh.l2)))))))) (.region Zh.r16))
def Zh.r33:List Oper:=[
 oD 133 (.mv 11),
 oD 134 (.mv 6),
 oD 4 (.mv 133),
 oD 5 (.mv 134)]
def Zh.code:Code:=.seq (.region Zh.r0) (.seq (.region Zh.r1) (.seq (.seq (.region Zh.r2) (.block 0 (.loop Zh.l1))) (.seq (.region Zh.r13) (.seq (.seq (.region Zh.r14) (.block 4 (.loop Zh.l3))) (.seq (.region Zh.r33) (.ret))))))
def Zh:Func:=⟨135,[.t 4,.t 5],Zh.code⟩
/-! muntin/join.Parts -/
def Z5.r0:List Oper:=[
 oD 2 (.mv (.c (.sn))),
 oD 3 (.mv (.c (.n 0)))]
def Z5.r1:List Oper:=[
 oD 12 (.mv 0),
 oD 13 (.call (.c (.f 66 [])) [.t 12]),
 oD 4 (.mv 13)]
def Z5.r2:List Oper:=[
 oD 14 (.mv 4),
 oD 15 (.eq true .sc 14 (.c (.n 0)))]
def Z5.r3:List Oper:=[
 oD 16 (.mv 4),
 oD 2 (.mv (.c (.sn))),
 oD 3 (.mv 16)]
def Z5.r4:List Oper:=[
 oD 5 (.mv (.c (.sn)))]
def Z5.r5:List Oper:=[
 oD 17 (.mv 0),
 oD 18 (.len 17),
 oD 19 (.mks 1 1 [.b false] 18 18),
 oD 6 (.mv 19)]
def Z5.r6:List Oper:=[
 oD 20 (.mv 0),
 oD 21 (.len 20),
 oD 22 (.mv (.c (.n 0)))]
def Z5.r7:List Oper:=[
 oD 23 (.bin .lss 22 21)]
def Z5.r8:List Oper:=[
 oD 24 (.mv 22),
 oD 7 (.mv 24)]
def Z5.r9:List Oper:=[
 oD 25 (.mv 6),
 oD 26 (.mv 7),
 oD 27 (.ixa 1 25 26),
 oD 28 (.ld false 1 27)]
def Z5.r10:List Oper:=[
 oD 30 (.mv 0),
 oD 31 (.mv 7),
 oD 32 (.call (.c (.f 67 [])) [.t 30,.t 31]),
 oD 29 (.mv 32),
 oD 33 (.ext 29 0),
 oD 34 (.ext 29 1),
 oD 8 (.mv 33),
 oD 9 (.mv 34)]
def Z5.r11:List Oper:=[
 oD 35 (.bsl 1 0 [.n 0] []),
 oD 10 (.mv 35)]
def Z5.r12:List Oper:=[
 oD 36 (.mv 0),
 oD 37 (.len 36),
 oD 38 (.mv (.c (.n 0)))]
def Z5.r13:List Oper:=[
 oD 39 (.bin .lss 38 37)]
def Z5.r14:List Oper:=[
 oD 40 (.mv 38),
 oD 11 (.mv 40)]
def Z5.r15:List Oper:=[
 oD 41 (.mv 11),
 oD 42 (.mv 7),
 oD 43 (.eq false .sc 41 42),
 oD 44 (.mv 43),
 ⟨(some 45),.mv 9,(some (44,false))⟩,
 ⟨(some 46),.mv 11,(some (44,false))⟩,
 ⟨(some 47),.ixa 1 45 46,(some (44,false))⟩,
 ⟨(some 48),.ld false 1 47,(some (44,false))⟩,
 ⟨(some 49),.bin .geq 48 (.c (.n 0)),(some (44,false))⟩,
 oD 50 (.pick 44 (.c (.b true)) 49)]
def Z5.r16:List Oper:=[
 oD 51 (.mv 6),
 oD 52 (.mv 11),
 oD 53 (.ixa 1 51 52),
 oN (.st 1 53 (.c (.b true)))]
def Z5.r17:List Oper:=[
 oD 54 (.mv 10),
 oD 55 (.mv 11),
 oD 56 (.bsl 1 1 [.n 0] [(0,1,.t 55)]),
 oD 57 (.app 1 8 54 56),
 oD 10 (.mv 57)]
def Z5.r18:List Oper:=[
 oD 58 (.bin .add 38 (.c (.n 1))),
 oD 38 (.mv 58)]
def Z5.l0:Code:=.seq (.region Z5.r13) (.seq (.cond 39 (.skip) (.exit 2)) (.seq (.block 3 (.seq (.region Z5.r14) (.seq (.region Z5.r15) (.cond 50 (.seq (.region Z5.r16) (.region Z5.r17)) (.skip))))) (.region Z5.r18)))
def Z5.r19:List Oper:=[
 oD 59 (.mv 5),
 oD 60 (.mv 10),
 oD 61 (.bsl 1 1 [.sn] [(0,1,.t 60)]),
 oD 62 (.app 1 24 59 61),
 oD 5 (.mv 62)]
def Z5.r20:List Oper:=[
 oD 63 (.bin .add 22 (.c (.n 1))),
 oD 22 (.mv 63)]
def Z5.l1:Code:=.seq (.region Z5.r7) (.seq (.cond 23 (.skip) (.exit 0)) (.seq (.block 1 (.seq (.region Z5.r8) (.seq (.seq (.region Z5.r9) (.cond 28 (.exit 1) (.skip))) (.seq (.region Z5.r10) (.seq (.region Z5.r11) (.seq (.seq (.region Z5.r12) (.block 2 (.loop Z5.l0))) (.region Z5.r19))))))) (.region Z5.r20)))
def Z5.r21:List Oper:=[
 oD 64 (.mv 5),
 oD 2 (.mv 64),
 oD 3 (.mv (.c (.n 0)))]
def Z5.code:Code:=.seq (.region Z5.r0) (.seq (.seq (.region Z5.r1) (.seq (.region Z5.r2) (.cond 15 (.seq (.region Z5.r3) (.ret)) (.skip)))) (.seq (.region Z5.r4) (.seq (.region Z5.r5) (.seq (.seq (.region Z5.r6) (.block 0 (.loop Z5.l1))) (.seq (.region Z5.r21) (.ret))))))
def Z5:Func:=⟨65,[.t 2,.t 3],Z5.code⟩
/-! muntin/join.Whole -/
def ZaZ.r0:List Oper:=[
 oD 2 (.mv (.c (.b false)))]
def ZaZ.r1:List Oper:=[
 oD 6 (.mv 0),
 oD 7 (.call (.c (.f 29 [])) [.t 6]),
 oD 5 (.mv 7),
 oD 8 (.ext 5 0),
 oD 9 (.ext 5 1),
 oD 3 (.mv 8),
 oD 4 (.mv 9)]
def ZaZ.r2:List Oper:=[
 oD 10 (.mv 4),
 oD 11 (.eq false .sc 10 (.c (.n 0))),
 oD 12 (.mv 11),
 ⟨(some 13),.mv 3,(some (12,true))⟩,
 ⟨(some 14),.len 13,(some (12,true))⟩,
 ⟨(some 15),.eq false .sc 14 (.c (.n 1)),(some (12,true))⟩,
 oD 16 (.pick 12 15 (.c (.b false))),
 oD 2 (.mv 16)]
def ZaZ.code:Code:=.seq (.region ZaZ.r0) (.seq (.region ZaZ.r1) (.seq (.region ZaZ.r2) (.ret)))
def ZaZ:Func:=⟨17,[.t 2],ZaZ.code⟩
/-! muntin/muntinref10.New -/
def ZJ.r0:List Oper:=[
 oD 2 (.mv (.c (.sn)))]
def ZJ.r1:List Oper:=[
 oD 6 (.mv 0),
 oD 7 (.mks 8 64 [.n 0,.n 0,.n 0,.n 0,.n 0,.n 0,.n 0,.n 0] 6 6),
 oD 3 (.mv 7)]
def ZJ.r2:List Oper:=[
 oD 4 (.mv (.c (.n 0)))]
def ZJ.r3:List Oper:=[
 oD 8 (.mv 4),
 oD 9 (.mv 0),
 oD 10 (.bin .lss 8 9)]
def ZJ.r5:List Oper:=[
 oD 5 (.mv (.c (.n 0)))]
def ZJ.r6:List Oper:=[
 oD 13 (.mv 5),
 oD 14 (.bin .lss 13 (.c (.n 4)))]
def ZJ.r8:List Oper:=[
 oD 17 (.mv 3),
 oD 18 (.mv 4),
 oD 19 (.mv 5),
 oD 20 (.ixa 8 17 18),
 oD 21 (.fa 0 20),
 oD 22 (.ixaa 1 4 21 19),
 oN (.st 1 22 (.c (.n (-1))))]
def ZJ.r7:List Oper:=[
 oD 15 (.mv 5),
 oD 16 (.bin .add 15 (.c (.n 1))),
 oD 5 (.mv 16)]
def ZJ.l0:Code:=.seq (.seq (.region ZJ.r6) (.cond 14 (.skip) (.exit 2))) (.seq (.block 3 (.region ZJ.r8)) (.region ZJ.r7))
def ZJ.r4:List Oper:=[
 oD 11 (.mv 4),
 oD 12 (.bin .add 11 (.c (.n 1))),
 oD 4 (.mv 12)]
def ZJ.l1:Code:=.seq (.seq (.region ZJ.r3) (.cond 10 (.skip) (.exit 0))) (.seq (.block 1 (.seq (.region ZJ.r5) (.block 2 (.loop ZJ.l0)))) (.region ZJ.r4))
def ZJ.r9:List Oper:=[
 oD 23 (.mv 3),
 oD 2 (.mv 23)]
def ZJ.code:Code:=.seq (.region ZJ.r0) (.seq (.region ZJ.r1) (.seq (.seq (.region ZJ.r2) (.block 0 (.loop ZJ.l1))) (.seq (.region ZJ.r9) (.ret))))
def ZJ:Func:=⟨24,[.t 2],ZJ.code⟩
/-! muntin/muntinref10.Join -/
def zb.r0:List Oper:=[
 oD 10 (.mv (.c (.sn))),
 oD 11 (.mv (.c (.n 0)))]
def zb.r1:List Oper:=[
 oD 13 (.mv 1),
 oD 14 (.bin .lss 13 (.c (.n 0))),
 oD 15 (.mv 14),
 ⟨(some 16),.mv 1,(some (15,false))⟩,
 ⟨(some 17),.mv 0,(some (15,false))⟩,
 ⟨(some 18),.len 17,(some (15,false))⟩,
 ⟨(some 19),.bin .geq 16 18,(some (15,false))⟩,
 oD 20 (.pick 15 (.c (.b true)) 19),
 oD 21 (.mv 20),
 ⟨(some 22),.mv 3,(some (21,false))⟩,
 ⟨(some 23),.bin .lss 22 (.c (.n 0)),(some (21,false))⟩,
 oD 24 (.pick 21 (.c (.b true)) 23),
 oD 25 (.mv 24),
 ⟨(some 26),.mv 3,(some (25,false))⟩,
 ⟨(some 27),.mv 0,(some (25,false))⟩,
 ⟨(some 28),.len 27,(some (25,false))⟩,
 ⟨(some 29),.bin .geq 26 28,(some (25,false))⟩,
 oD 30 (.pick 25 (.c (.b true)) 29),
 oD 31 (.mv 30),
 ⟨(some 32),.mv 1,(some (31,false))⟩,
 ⟨(some 33),.mv 3,(some (31,false))⟩,
 ⟨(some 34),.eq false .sc 32 33,(some (31,false))⟩,
 oD 35 (.pick 31 (.c (.b true)) 34),
 oD 36 (.mv 35),
 ⟨(some 37),.mv 2,(some (36,false))⟩,
 ⟨(some 38),.bin .lss 37 (.c (.n 0)),(some (36,false))⟩,
 oD 39 (.pick 36 (.c (.b true)) 38),
 oD 40 (.mv 39),
 ⟨(some 41),.mv 2,(some (40,false))⟩,
 ⟨(some 42),.bin .gtr 41 (.c (.n 3)),(some (40,false))⟩,
 oD 43 (.pick 40 (.c (.b true)) 42),
 oD 44 (.mv 43),
 ⟨(some 45),.mv 4,(some (44,false))⟩,
 ⟨(some 46),.bin .lss 45 (.c (.n (-2))),(some (44,false))⟩,
 oD 47 (.pick 44 (.c (.b true)) 46)]
def zb.r2:List Oper:=[
 oD 48 (.mv 0),
 oD 10 (.mv 48),
 oD 11 (.mv (.c (.n 2)))]
def zb.r3:List Oper:=[
 oD 49 (.mv 0),
 oD 50 (.mv 1),
 oD 51 (.mv 2),
 oD 52 (.ixa 8 49 50),
 oD 53 (.fa 0 52),
 oD 54 (.ixaa 1 4 53 51),
 oD 55 (.ld false 1 54),
 oD 56 (.eq true .sc 55 (.c (.n (-1)))),
 oD 57 (.mv 56),
 ⟨(some 58),.mv 0,(some (57,false))⟩,
 ⟨(some 59),.mv 3,(some (57,false))⟩,
 ⟨(some 60),.mv 2,(some (57,false))⟩,
 ⟨(some 61),.bin .add 60 (.c (.n 2)),(some (57,false))⟩,
 ⟨(some 62),.bin .rem 61 (.c (.n 4)),(some (57,false))⟩,
 ⟨(some 63),.ixa 8 58 59,(some (57,false))⟩,
 ⟨(some 64),.fa 0 63,(some (57,false))⟩,
 ⟨(some 65),.ixaa 1 4 64 62,(some (57,false))⟩,
 ⟨(some 66),.ld false 1 65,(some (57,false))⟩,
 ⟨(some 67),.eq true .sc 66 (.c (.n (-1))),(some (57,false))⟩,
 oD 68 (.pick 57 (.c (.b true)) 67)]
def zb.r4:List Oper:=[
 oD 69 (.mv 0),
 oD 10 (.mv 69),
 oD 11 (.mv (.c (.n 9)))]
def zb.r5:List Oper:=[
 oD 70 (.mv 0),
 oD 71 (.mv 1),
 oD 72 (.mv 2),
 oD 73 (.mv 3),
 oD 74 (.mv 4),
 oD 75 (.call (.c (.f 65 [])) [.t 70,.t 71,.t 72,.t 73,.t 74]),
 oD 12 (.mv 75)]
def zb.r6:List Oper:=[
 oD 76 (.mv 12),
 oD 10 (.mv 76),
 oD 11 (.mv (.c (.n 0)))]
def zb.code:Code:=.seq (.region zb.r0) (.seq (.seq (.region zb.r1) (.cond 47 (.seq (.region zb.r2) (.ret)) (.skip))) (.seq (.seq (.region zb.r3) (.cond 68 (.seq (.region zb.r4) (.ret)) (.skip))) (.seq (.region zb.r5) (.seq (.region zb.r6) (.ret)))))
def zb:Func:=⟨77,[.t 10,.t 11],zb.code⟩
/-! muntin/muntinref10.Nearest -/
def Z6.r0:List Oper:=[
 oD 6 (.mv (.c (.n 0)))]
def Z6.r1:List Oper:=[
 oD 7 (.mv (.c (.n (-1))))]
def Z6.r2:List Oper:=[
 oD 8 (.mv (.c (.n 0)))]
def Z6.r3:List Oper:=[
 oD 9 (.mv 8),
 oD 10 (.mv 0),
 oD 11 (.len 10),
 oD 12 (.bin .lss 9 11)]
def Z6.r5:List Oper:=[
 oD 15 (.mv 2),
 oD 16 (.eq false .sc 15 (.c (.n 0))),
 oD 17 (.mv 16),
 ⟨(some 18),.mv 0,(some (17,true))⟩,
 ⟨(some 19),.mv 8,(some (17,true))⟩,
 ⟨(some 20),.ixa 2 18 19,(some (17,true))⟩,
 ⟨(some 21),.fa 1 20,(some (17,true))⟩,
 ⟨(some 22),.ld false 1 21,(some (17,true))⟩,
 ⟨(some 23),.mv 0,(some (17,true))⟩,
 ⟨(some 24),.mv 1,(some (17,true))⟩,
 ⟨(some 25),.ixa 2 23 24,(some (17,true))⟩,
 ⟨(some 26),.fa 1 25,(some (17,true))⟩,
 ⟨(some 27),.ld false 1 26,(some (17,true))⟩,
 ⟨(some 28),.eq false .sc 22 27,(some (17,true))⟩,
 oD 29 (.pick 17 28 (.c (.b false))),
 oD 30 (.mv 29),
 ⟨(some 31),.mv 0,(some (30,true))⟩,
 ⟨(some 32),.mv 8,(some (30,true))⟩,
 ⟨(some 33),.ixa 2 31 32,(some (30,true))⟩,
 ⟨(some 34),.fa 0 33,(some (30,true))⟩,
 ⟨(some 35),.ld false 1 34,(some (30,true))⟩,
 ⟨(some 36),.mv 0,(some (30,true))⟩,
 ⟨(some 37),.mv 1,(some (30,true))⟩,
 ⟨(some 38),.ixa 2 36 37,(some (30,true))⟩,
 ⟨(some 39),.fa 0 38,(some (30,true))⟩,
 ⟨(some 40),.ld false 1 39,(some (30,true))⟩,
 ⟨(some 41),.bin .gtr 35 40,(some (30,true))⟩,
 oD 42 (.pick 30 41 (.c (.b false))),
 oD 43 (.mv 42),
 ⟨(some 44),.mv 7,(some (43,true))⟩,
 ⟨(some 45),.bin .lss 44 (.c (.n 0)),(some (43,true))⟩,
 ⟨(some 46),.mv 45,(some (43,true))⟩,
 ⟨(some 47),.mv 0,(some (46,false))⟩,
 ⟨(some 48),.mv 8,(some (46,false))⟩,
 ⟨(some 49),.ixa 2 47 48,(some (46,false))⟩,
 ⟨(some 50),.fa 0 49,(some (46,false))⟩,
 ⟨(some 51),.ld false 1 50,(some (46,false))⟩,
 ⟨(some 52),.mv 0,(some (46,false))⟩,
 ⟨(some 53),.mv 7,(some (46,false))⟩,
 ⟨(some 54),.ixa 2 52 53,(some (46,false))⟩,
 ⟨(some 55),.fa 0 54,(some (46,false))⟩,
 ⟨(some 56),.ld false 1 55,(some (46,false))⟩,
 ⟨(some 57),.bin .lss 51 56,(some (46,false))⟩,
 ⟨(some 58),.pick 46 (.c (.b true)) 57,(some (43,true))⟩,
 oD 59 (.pick 43 58 (.c (.b false)))]
def Z6.r6:List Oper:=[
 oD 60 (.mv 8),
 oD 7 (.mv 60)]
def Z6.r7:List Oper:=[
 oD 61 (.mv 2),
 oD 62 (.eq false .sc 61 (.c (.n 1))),
 oD 63 (.mv 62),
 ⟨(some 64),.mv 0,(some (63,true))⟩,
 ⟨(some 65),.mv 8,(some (63,true))⟩,
 ⟨(some 66),.ixa 2 64 65,(some (63,true))⟩,
 ⟨(some 67),.fa 0 66,(some (63,true))⟩,
 ⟨(some 68),.ld false 1 67,(some (63,true))⟩,
 ⟨(some 69),.mv 0,(some (63,true))⟩,
 ⟨(some 70),.mv 1,(some (63,true))⟩,
 ⟨(some 71),.ixa 2 69 70,(some (63,true))⟩,
 ⟨(some 72),.fa 0 71,(some (63,true))⟩,
 ⟨(some 73),.ld false 1 72,(some (63,true))⟩,
 ⟨(some 74),.eq false .sc 68 73,(some (63,true))⟩,
 oD 75 (.pick 63 74 (.c (.b false))),
 oD 76 (.mv 75),
 ⟨(some 77),.mv 0,(some (76,true))⟩,
 ⟨(some 78),.mv 8,(some (76,true))⟩,
 ⟨(some 79),.ixa 2 77 78,(some (76,true))⟩,
 ⟨(some 80),.fa 1 79,(some (76,true))⟩,
 ⟨(some 81),.ld false 1 80,(some (76,true))⟩,
 ⟨(some 82),.mv 0,(some (76,true))⟩,
 ⟨(some 83),.mv 1,(some (76,true))⟩,
 ⟨(some 84),.ixa 2 82 83,(some (76,true))⟩,
 ⟨(some 85),.fa 1 84,(some (76,true))⟩,
 ⟨(some 86),.ld false 1 85,(some (76,true))⟩,
 ⟨(some 87),.bin .gtr 81 86,(some (76,true))⟩,
 oD 88 (.pick 76 87 (.c (.b false))),
 oD 89 (.mv 88),
 ⟨(some 90),.mv 7,(some (89,true))⟩,
 ⟨(some 91),.bin .lss 90 (.c (.n 0)),(some (89,true))⟩,
 ⟨(some 92),.mv 91,(some (89,true))⟩,
 ⟨(some 93),.mv 0,(some (92,false))⟩,
 ⟨(some 94),.mv 8,(some (92,false))⟩,
 ⟨(some 95),.ixa 2 93 94,(some (92,false))⟩,
 ⟨(some 96),.fa 1 95,(some (92,false))⟩,
 ⟨(some 97),.ld false 1 96,(some (92,false))⟩,
 ⟨(some 98),.mv 0,(some (92,false))⟩,
 ⟨(some 99),.mv 7,(some (92,false))⟩,
 ⟨(some 100),.ixa 2 98 99,(some (92,false))⟩,
 ⟨(some 101),.fa 1 100,(some (92,false))⟩,
 ⟨(some 102),.ld false 1 101,(some (92,false))⟩,
 ⟨(some 103),.bin .lss 97 102,(some (92,false))⟩,
 ⟨(some 104),.pick 92 (.c (.b true)) 103,(some (89,true))⟩,
 oD 105 (.pick 89 104 (.c (.b false)))]
def Z6.r8:List Oper:=[
 oD 106 (.mv 8),
 oD 7 (.mv 106)]
def Z6.r4:List Oper:=[
 oD 13 (.mv 8),
 oD 14 (.bin .add 13 (.c (.n 1))),
 oD 8 (.mv 14)]
def Z6.l0:Code:=.seq (.seq (.region Z6.r3) (.cond 12 (.skip) (.exit 0))) (.seq (.block 1 (.seq (.seq (.draw Z6.r5 [(7,12),(20,25),(36,41)]) (.cond 59 (.region Z6.r6) (.skip))) (.seq (.draw Z6.r7 [(7,12),(20,25),(36,41)]) (.cond 105 (.region Z6.r8) (.skip))))) (.region Z6.r4))
def Z6.r9:List Oper:=[
 oD 107 (.mv 7),
 oD 6 (.mv 107)]
def Z6.code:Code:=.seq (.region Z6.r0) (.seq (.region Z6.r1) (.seq (.seq (.region Z6.r2) (.block 0 (.loop Z6.l0))) (.seq (.region Z6.r9) (.ret))))
def Z6:Func:=⟨108,[.t 6],Z6.code⟩
/-! muntin/muntinref10.Crossed -/
def Zr.r0:List Oper:=[
 oD 8 (.mv (.c (.b false)))]
def Zr.r1:List Oper:=[
 oD 9 (.mv (.c (.n 0)))]
def Zr.r2:List Oper:=[
 oD 14 (.mv 9),
 oD 15 (.mv 1),
 oD 16 (.len 15),
 oD 17 (.bin .lss 14 16)]
def Zr.r4:List Oper:=[
 oD 10 (.mv (.c (.n 0)))]
def Zr.r5:List Oper:=[
 oD 20 (.mv 10),
 oD 21 (.bin .lss 20 (.c (.n 2)))]
def Zr.r7:List Oper:=[
 oD 24 (.mv 1),
 oD 25 (.mv 9),
 oD 26 (.mv 10),
 oD 27 (.ixa 8 24 25),
 oD 28 (.fa 0 27),
 oD 29 (.ixaa 1 4 28 26),
 oD 30 (.ld false 1 29),
 oD 11 (.mv 30)]
def Zr.r8:List Oper:=[
 oD 31 (.mv 11),
 oD 32 (.bin .lss 31 (.c (.n 0)))]
def Zr.r9:List Oper:=[
 oD 33 (.mv 0),
 oD 34 (.mv 9),
 oD 35 (.ixa 2 33 34),
 oD 36 (.ld true 2 35),
 oD 12 (.alloc [.n 0,.n 0]),
 oN (.st 2 12 36)]
def Zr.r10:List Oper:=[
 oD 37 (.mv 0),
 oD 38 (.mv 11),
 oD 39 (.ixa 2 37 38),
 oD 40 (.ld true 2 39),
 oD 13 (.alloc [.n 0,.n 0]),
 oN (.st 2 13 40)]
def Zr.r11:List Oper:=[
 oD 41 (.fa 1 12),
 oD 42 (.ld false 1 41),
 oD 43 (.fa 1 13),
 oD 44 (.ld false 1 43),
 oD 45 (.eq false .sc 42 44),
 oD 46 (.mv 45),
 ⟨(some 47),.mv 0,(some (46,true))⟩,
 ⟨(some 48),.mv 2,(some (46,true))⟩,
 ⟨(some 49),.ixa 2 47 48,(some (46,true))⟩,
 ⟨(some 50),.fa 0 49,(some (46,true))⟩,
 ⟨(some 51),.ld false 1 50,(some (46,true))⟩,
 ⟨(some 52),.mv 0,(some (46,true))⟩,
 ⟨(some 53),.mv 3,(some (46,true))⟩,
 ⟨(some 54),.ixa 2 52 53,(some (46,true))⟩,
 ⟨(some 55),.fa 0 54,(some (46,true))⟩,
 ⟨(some 56),.ld false 1 55,(some (46,true))⟩,
 ⟨(some 57),.eq false .sc 51 56,(some (46,true))⟩,
 oD 58 (.pick 46 57 (.c (.b false))),
 oD 59 (.mv 58),
 ⟨(some 60),.fa 0 12,(some (59,true))⟩,
 ⟨(some 61),.ld false 1 60,(some (59,true))⟩,
 ⟨(some 62),.mv 0,(some (59,true))⟩,
 ⟨(some 63),.mv 2,(some (59,true))⟩,
 ⟨(some 64),.ixa 2 62 63,(some (59,true))⟩,
 ⟨(some 65),.fa 0 64,(some (59,true))⟩,
 ⟨(some 66),.ld false 1 65,(some (59,true))⟩,
 ⟨(some 67),.bin .lss 61 66,(some (59,true))⟩,
 oD 68 (.pick 59 67 (.c (.b false))),
 oD 69 (.mv 68),
 ⟨(some 70),.mv 0,(some (69,true))⟩,
 ⟨(some 71),.mv 2,(some (69,true))⟩,
 ⟨(some 72),.ixa 2 70 71,(some (69,true))⟩,
 ⟨(some 73),.fa 0 72,(some (69,true))⟩,
 ⟨(some 74),.ld false 1 73,(some (69,true))⟩,
 ⟨(some 75),.fa 0 13,(some (69,true))⟩,
 ⟨(some 76),.ld false 1 75,(some (69,true))⟩,
 ⟨(some 77),.bin .lss 74 76,(some (69,true))⟩,
 oD 78 (.pick 69 77 (.c (.b false))),
 oD 79 (.mv 78),
 ⟨(some 80),.mv 0,(some (79,true))⟩,
 ⟨(some 81),.mv 2,(some (79,true))⟩,
 ⟨(some 82),.ixa 2 80 81,(some (79,true))⟩,
 ⟨(some 83),.fa 1 82,(some (79,true))⟩,
 ⟨(some 84),.ld false 1 83,(some (79,true))⟩,
 ⟨(some 85),.fa 1 12,(some (79,true))⟩,
 ⟨(some 86),.ld false 1 85,(some (79,true))⟩,
 ⟨(some 87),.bin .lss 84 86,(some (79,true))⟩,
 oD 88 (.pick 79 87 (.c (.b false))),
 oD 89 (.mv 88),
 ⟨(some 90),.fa 1 12,(some (89,true))⟩,
 ⟨(some 91),.ld false 1 90,(some (89,true))⟩,
 ⟨(some 92),.mv 0,(some (89,true))⟩,
 ⟨(some 93),.mv 3,(some (89,true))⟩,
 ⟨(some 94),.ixa 2 92 93,(some (89,true))⟩,
 ⟨(some 95),.fa 1 94,(some (89,true))⟩,
 ⟨(some 96),.ld false 1 95,(some (89,true))⟩,
 ⟨(some 97),.bin .lss 91 96,(some (89,true))⟩,
 oD 98 (.pick 89 97 (.c (.b false)))]
def Zr.r12:List Oper:=[
 oD 8 (.mv (.c (.b true)))]
def Zr.r13:List Oper:=[
 oD 99 (.fa 0 12),
 oD 100 (.ld false 1 99),
 oD 101 (.fa 0 13),
 oD 102 (.ld false 1 101),
 oD 103 (.eq false .sc 100 102),
 oD 104 (.mv 103),
 ⟨(some 105),.mv 0,(some (104,true))⟩,
 ⟨(some 106),.mv 2,(some (104,true))⟩,
 ⟨(some 107),.ixa 2 105 106,(some (104,true))⟩,
 ⟨(some 108),.fa 1 107,(some (104,true))⟩,
 ⟨(some 109),.ld false 1 108,(some (104,true))⟩,
 ⟨(some 110),.mv 0,(some (104,true))⟩,
 ⟨(some 111),.mv 3,(some (104,true))⟩,
 ⟨(some 112),.ixa 2 110 111,(some (104,true))⟩,
 ⟨(some 113),.fa 1 112,(some (104,true))⟩,
 ⟨(some 114),.ld false 1 113,(some (104,true))⟩,
 ⟨(some 115),.eq false .sc 109 114,(some (104,true))⟩,
 oD 116 (.pick 104 115 (.c (.b false))),
 oD 117 (.mv 116),
 ⟨(some 118),.mv 0,(some (117,true))⟩,
 ⟨(some 119),.mv 2,(some (117,true))⟩,
 ⟨(some 120),.ixa 2 118 119,(some (117,true))⟩,
 ⟨(some 121),.fa 0 120,(some (117,true))⟩,
 ⟨(some 122),.ld false 1 121,(some (117,true))⟩,
 ⟨(some 123),.fa 0 12,(some (117,true))⟩,
 ⟨(some 124),.ld false 1 123,(some (117,true))⟩,
 ⟨(some 125),.bin .lss 122 124,(some (117,true))⟩,
 oD 126 (.pick 117 125 (.c (.b false))),
 oD 127 (.mv 126),
 ⟨(some 128),.fa 0 12,(some (127,true))⟩,
 ⟨(some 129),.ld false 1 128,(some (127,true))⟩,
 ⟨(some 130),.mv 0,(some (127,true))⟩,
 ⟨(some 131),.mv 3,(some (127,true))⟩,
 ⟨(some 132),.ixa 2 130 131,(some (127,true))⟩,
 ⟨(some 133),.fa 0 132,(some (127,true))⟩,
 ⟨(some 134),.ld false 1 133,(some (127,true))⟩,
 ⟨(some 135),.bin .lss 129 134,(some (127,true))⟩,
 oD 136 (.pick 127 135 (.c (.b false))),
 oD 137 (.mv 136),
 ⟨(some 138),.fa 1 12,(some (137,true))⟩,
 ⟨(some 139),.ld false 1 138,(some (137,true))⟩,
 ⟨(some 140),.mv 0,(some (137,true))⟩,
 ⟨(some 141),.mv 2,(some (137,true))⟩,
 ⟨(some 142),.ixa 2 140 141,(some (137,true))⟩,
 ⟨(some 143),.fa 1 142,(some (137,true))⟩,
 ⟨(some 144),.ld false 1 143,(some (137,true))⟩,
 ⟨(some 145),.bin .lss 139 144,(some (137,true))⟩,
 oD 146 (.pick 137 145 (.c (.b false))),
 oD 147 (.mv 146),
 ⟨(some 148),.mv 0,(some (147,true))⟩,
 ⟨(some 149),.mv 2,(some (147,true))⟩,
 ⟨(some 150),.ixa 2 148 149,(some (147,true))⟩,
 ⟨(some 151),.fa 1 150,(some (147,true))⟩,
 ⟨(some 152),.ld false 1 151,(some (147,true))⟩,
 ⟨(some 153),.fa 1 13,(some (147,true))⟩,
 ⟨(some 154),.ld false 1 153,(some (147,true))⟩,
 ⟨(some 155),.bin .lss 152 154,(some (147,true))⟩,
 oD 156 (.pick 147 155 (.c (.b false)))]
def Zr.r14:List Oper:=[
 oD 8 (.mv (.c (.b true)))]
def Zr.r6:List Oper:=[
 oD 22 (.mv 10),
 oD 23 (.bin .add 22 (.c (.n 1))),
 oD 10 (.mv 23)]
def Zr.l0:Code:=.seq (.seq (.region Zr.r5) (.cond 21 (.skip) (.exit 2))) (.seq (.block 3 (.seq (.region Zr.r7) (.seq (.seq (.region Zr.r8) (.cond 32 (.exit 3) (.skip))) (.seq (.region Zr.r9) (.seq (.region Zr.r10) (.seq (.seq (.draw Zr.r11 [(1,3),(10,15),(20,25),(33,35),(43,45),(50,55)]) (.cond 98 (.seq (.region Zr.r12) (.ret)) (.skip))) (.seq (.draw Zr.r13 [(1,3),(10,15),(23,25),(30,35),(40,45),(53,55)]) (.cond 156 (.seq (.region Zr.r14) (.ret)) (.skip))))))))) (.region Zr.r6))
def Zr.r3:List Oper:=[
 oD 18 (.mv 9),
 oD 19 (.bin .add 18 (.c (.n 1))),
 oD 9 (.mv 19)]
def Zr.l1:Code:=.seq (.seq (.region Zr.r2) (.cond 17 (.skip) (.exit 0))) (.seq (.block 1 (.seq (.region Zr.r4) (.block 2 (.loop Zr.l0)))) (.region Zr.r3))
def Zr.r15:List Oper:=[
 oD 8 (.mv (.c (.b false)))]
def Zr.code:Code:=.seq (.region Zr.r0) (.seq (.seq (.region Zr.r1) (.block 0 (.loop Zr.l1))) (.seq (.region Zr.r15) (.ret)))
def Zr:Func:=⟨157,[.t 8],Zr.code⟩
/-! muntin/muntinref10.with -/
def Z2.r0:List Oper:=[
 oD 10 (.mv (.c (.sn)))]
def Z2.r1:List Oper:=[
 oD 11 (.mv (.c (.sn)))]
def Z2.r2:List Oper:=[
 oD 12 (.mv (.c (.n 0)))]
def Z2.r3:List Oper:=[
 oD 14 (.mv 12),
 oD 15 (.mv 0),
 oD 16 (.len 15),
 oD 17 (.bin .lss 14 16)]
def Z2.r5:List Oper:=[
 oD 20 (.mv 0),
 oD 21 (.mv 12),
 oD 22 (.ixa 8 20 21),
 oD 23 (.ld true 8 22),
 oD 13 (.alloc [.n 0,.n 0,.n 0,.n 0,.n 0,.n 0,.n 0,.n 0]),
 oN (.st 8 13 23)]
def Z2.r6:List Oper:=[
 oD 24 (.mv 12),
 oD 25 (.mv 1),
 oD 26 (.eq false .sc 24 25)]
def Z2.r7:List Oper:=[
 oD 27 (.mv 2),
 oD 28 (.mv 3),
 oD 29 (.fa 0 13),
 oD 30 (.ixaa 1 4 29 27),
 oN (.st 1 30 28)]
def Z2.r8:List Oper:=[
 oD 31 (.mv 2),
 oD 32 (.mv 4),
 oD 33 (.fa 4 13),
 oD 34 (.ixaa 1 4 33 31),
 oN (.st 1 34 32)]
def Z2.r9:List Oper:=[
 oD 35 (.mv 12),
 oD 36 (.mv 3),
 oD 37 (.eq false .sc 35 36)]
def Z2.r10:List Oper:=[
 oD 38 (.mv 2),
 oD 39 (.bin .add 38 (.c (.n 2))),
 oD 40 (.bin .rem 39 (.c (.n 4))),
 oD 41 (.mv 1),
 oD 42 (.fa 0 13),
 oD 43 (.ixaa 1 4 42 40),
 oN (.st 1 43 41)]
def Z2.r11:List Oper:=[
 oD 44 (.mv 2),
 oD 45 (.bin .add 44 (.c (.n 2))),
 oD 46 (.bin .rem 45 (.c (.n 4))),
 oD 47 (.mv 4),
 oD 48 (.fa 4 13),
 oD 49 (.ixaa 1 4 48 46),
 oN (.st 1 49 47)]
def Z2.r12:List Oper:=[
 oD 50 (.mv 11),
 oD 51 (.ld true 8 13),
 oD 52 (.bsl 8 1 [.n 0,.n 0,.n 0,.n 0,.n 0,.n 0,.n 0,.n 0] [(0,8,.t 51)]),
 oD 53 (.app 8 64 50 52),
 oD 11 (.mv 53)]
def Z2.r4:List Oper:=[
 oD 18 (.mv 12),
 oD 19 (.bin .add 18 (.c (.n 1))),
 oD 12 (.mv 19)]
def Z2.l0:Code:=.seq (.seq (.region Z2.r3) (.cond 17 (.skip) (.exit 0))) (.seq (.block 1 (.seq (.region Z2.r5) (.seq (.seq (.region Z2.r6) (.cond 26 (.seq (.region Z2.r7) (.region Z2.r8)) (.skip))) (.seq (.seq (.region Z2.r9) (.cond 37 (.seq (.region Z2.r10) (.region Z2.r11)) (.skip))) (.region Z2.r12))))) (.region Z2.r4))
def Z2.r13:List Oper:=[
 oD 54 (.mv 11),
 oD 10 (.mv 54)]
def Z2.code:Code:=.seq (.region Z2.r0) (.seq (.region Z2.r1) (.seq (.seq (.region Z2.r2) (.block 0 (.loop Z2.l0))) (.seq (.region Z2.r13) (.ret))))
def Z2:Func:=⟨55,[.t 10],Z2.code⟩
/-! muntin/grid.Check -/
def ZP.r0:List Oper:=[
 oD 2 (.mv (.c (.n 0)))]
def ZP.r1:List Oper:=[
 oD 6 (.mv 0),
 oD 7 (.len 6),
 oD 8 (.bin .gtr 7 (.c (.n 4096)))]
def ZP.r2:List Oper:=[
 oD 2 (.mv (.c (.n 6)))]
def ZP.r3:List Oper:=[
 oD 9 (.mv 0),
 oD 10 (.len 9),
 oD 11 (.mv (.c (.n 0)))]
def ZP.r4:List Oper:=[
 oD 12 (.bin .lss 11 10)]
def ZP.r5:List Oper:=[
 oD 13 (.mv 11),
 oD 3 (.mv 13)]
def ZP.r6:List Oper:=[
 oD 14 (.mv (.c (.n 0)))]
def ZP.r7:List Oper:=[
 oD 15 (.bin .lss 14 (.c (.n 4)))]
def ZP.r8:List Oper:=[
 oD 16 (.mv 14),
 oD 4 (.mv 16)]
def ZP.r9:List Oper:=[
 oD 17 (.mv 0),
 oD 18 (.mv 3),
 oD 19 (.mv 4),
 oD 20 (.call (.c (.f 82 [])) [.t 17,.t 18,.t 19]),
 oD 5 (.mv 20)]
def ZP.r10:List Oper:=[
 oD 21 (.mv 5),
 oD 22 (.eq true .sc 21 (.c (.n 0)))]
def ZP.r11:List Oper:=[
 oD 23 (.mv 5),
 oD 2 (.mv 23)]
def ZP.r12:List Oper:=[
 oD 24 (.bin .add 14 (.c (.n 1))),
 oD 14 (.mv 24)]
def ZP.l0:Code:=.seq (.region ZP.r7) (.seq (.cond 15 (.skip) (.exit 2)) (.seq (.block 3 (.seq (.region ZP.r8) (.seq (.region ZP.r9) (.seq (.region ZP.r10) (.cond 22 (.seq (.region ZP.r11) (.ret)) (.skip)))))) (.region ZP.r12)))
def ZP.r13:List Oper:=[
 oD 25 (.bin .add 11 (.c (.n 1))),
 oD 11 (.mv 25)]
def ZP.l1:Code:=.seq (.region ZP.r4) (.seq (.cond 12 (.skip) (.exit 0)) (.seq (.block 1 (.seq (.region ZP.r5) (.seq (.region ZP.r6) (.block 2 (.loop ZP.l0))))) (.region ZP.r13)))
def ZP.r14:List Oper:=[
 oD 2 (.mv (.c (.n 0)))]
def ZP.code:Code:=.seq (.region ZP.r0) (.seq (.seq (.region ZP.r1) (.cond 8 (.seq (.region ZP.r2) (.ret)) (.skip))) (.seq (.seq (.region ZP.r3) (.block 0 (.loop ZP.l1))) (.seq (.region ZP.r14) (.ret))))
def ZP:Func:=⟨26,[.t 2],ZP.code⟩
/-! muntin/join.spread -/
def ZC.r0:List Oper:=[
 oD 4 (.mv (.c (.sn))),
 oD 5 (.mv (.c (.sn)))]
def ZC.r1:List Oper:=[
 oD 13 (.bsl 1 1 [.n 0] [(0,1,.c (.n (-1)))]),
 oD 14 (.mv 0),
 oD 15 (.len 14),
 oD 16 (.call (.c (.f 83 [])) [.t 13,.t 15]),
 oD 17 (.bsl 1 1 [.n 0] [(0,1,.c (.n (-1)))]),
 oD 18 (.mv 0),
 oD 19 (.len 18),
 oD 20 (.call (.c (.f 83 [])) [.t 17,.t 19]),
 oD 6 (.mv 16),
 oD 7 (.mv 20)]
def ZC.r2:List Oper:=[
 oD 21 (.mv 1),
 oD 22 (.bsl 1 1 [.n 0] [(0,1,.t 21)]),
 oD 8 (.mv 22)]
def ZC.r3:List Oper:=[
 oD 23 (.mv 0),
 oD 24 (.len 23),
 oD 25 (.mks 1 1 [.b false] 24 24),
 oD 9 (.mv 25)]
def ZC.r4:List Oper:=[
 oD 26 (.mv 9),
 oD 27 (.mv 1),
 oD 28 (.ixa 1 26 27),
 oN (.st 1 28 (.c (.b true)))]
def ZC.r5:List Oper:=[
 oD 29 (.mv 8),
 oD 30 (.len 29),
 oD 31 (.bin .gtr 30 (.c (.n 0)))]
def ZC.r6:List Oper:=[
 oD 32 (.mv 8),
 oD 33 (.ixa 1 32 (.c (.n 0))),
 oD 34 (.ld false 1 33),
 oD 10 (.mv 34)]
def ZC.r7:List Oper:=[
 oD 35 (.mv 8),
 oD 36 (.slc 1 35 (some (.c (.n 1))) none none),
 oD 8 (.mv 36)]
def ZC.r8:List Oper:=[
 oD 37 (.mv (.c (.n 0)))]
def ZC.r9:List Oper:=[
 oD 38 (.bin .lss 37 (.c (.n 4)))]
def ZC.r10:List Oper:=[
 oD 39 (.mv 37),
 oD 11 (.mv 39)]
def ZC.r11:List Oper:=[
 oD 40 (.mv 0),
 oD 41 (.mv 10),
 oD 42 (.mv 11),
 oD 43 (.ixa 8 40 41),
 oD 44 (.fa 0 43),
 oD 45 (.ixaa 1 4 44 42),
 oD 46 (.ld false 1 45),
 oD 12 (.mv 46)]
def ZC.r12:List Oper:=[
 oD 47 (.mv 12),
 oD 48 (.bin .geq 47 (.c (.n 0))),
 oD 49 (.mv 48),
 ⟨(some 50),.mv 9,(some (49,true))⟩,
 ⟨(some 51),.mv 12,(some (49,true))⟩,
 ⟨(some 52),.ixa 1 50 51,(some (49,true))⟩,
 ⟨(some 53),.ld false 1 52,(some (49,true))⟩,
 ⟨(some 54),.un .not 53,(some (49,true))⟩,
 oD 55 (.pick 49 54 (.c (.b false)))]
def ZC.r13:List Oper:=[
 oD 56 (.mv 9),
 oD 57 (.mv 12),
 oD 58 (.mv 6),
 oD 59 (.mv 12),
 oD 60 (.mv 7),
 oD 61 (.mv 12),
 oD 62 (.mv 10),
 oD 63 (.mv 11),
 oD 64 (.ixa 1 56 57),
 oN (.st 1 64 (.c (.b true))),
 oD 65 (.ixa 1 58 59),
 oN (.st 1 65 62),
 oD 66 (.ixa 1 60 61),
 oN (.st 1 66 63)]
def ZC.r14:List Oper:=[
 oD 67 (.mv 8),
 oD 68 (.mv 12),
 oD 69 (.bsl 1 1 [.n 0] [(0,1,.t 68)]),
 oD 70 (.app 1 8 67 69),
 oD 8 (.mv 70)]
def ZC.r15:List Oper:=[
 oD 71 (.bin .add 37 (.c (.n 1))),
 oD 37 (.mv 71)]
def ZC.l0:Code:=.seq (.region ZC.r9) (.seq (.cond 38 (.skip) (.exit 2)) (.seq (.block 3 (.seq (.region ZC.r10) (.seq (.region ZC.r11) (.seq (.region ZC.r12) (.cond 55 (.seq (.region ZC.r13) (.region ZC.r14)) (.skip)))))) (.region ZC.r15)))
def ZC.l1:Code:=.seq (.seq (.region ZC.r5) (.cond 31 (.skip) (.exit 0))) (.block 1 (.seq (.region ZC.r6) (.seq (.region ZC.r7) (.seq (.region ZC.r8) (.block 2 (.loop ZC.l0))))))
def ZC.r16:List Oper:=[
 oD 72 (.mv 6),
 oD 73 (.mv 7),
 oD 4 (.mv 72),
 oD 5 (.mv 73)]
def ZC.code:Code:=.seq (.region ZC.r0) (.seq (.region ZC.r1) (.seq (.region ZC.r2) (.seq (.region ZC.r3) (.seq (.region ZC.r4) (.seq (.block 0 (.loop ZC.l1)) (.seq (.region ZC.r16) (.ret)))))))
def ZC:Func:=⟨74,[.t 4,.t 5],ZC.code⟩
/-! muntin/compass.Left -/
def Zau.r0:List Oper:=[
 oD 4 (.mv (.c (.n 0)))]
def Zau.r1:List Oper:=[
 oD 5 (.mv 0),
 oD 6 (.call (.c (.f 90 [])) [.t 5]),
 oD 7 (.un .not 6)]
def Zau.r2:List Oper:=[
 oD 4 (.mv (.c (.n 0)))]
def Zau.r3:List Oper:=[
 oD 8 (.mv 0),
 oD 9 (.mv 1),
 oD 10 (.bin .rem 9 (.c (.n 4))),
 oD 11 (.bin .add 8 10),
 oD 12 (.bin .add 11 (.c (.n 4))),
 oD 13 (.bin .rem 12 (.c (.n 4))),
 oD 4 (.mv 13)]
def Zau.code:Code:=.seq (.region Zau.r0) (.seq (.seq (.region Zau.r1) (.cond 7 (.seq (.region Zau.r2) (.ret)) (.skip))) (.seq (.region Zau.r3) (.ret)))
def Zau:Func:=⟨14,[.t 4],Zau.code⟩
/-! slices.ContainsFunc[[]int,int] -/
def zE.r0:List Oper:=[
 oD 4 (.mv (.c (.b false)))]
def zE.r1:List Oper:=[
 oD 5 (.mv 0),
 oD 6 (.mv 1),
 oD 7 (.call (.c (.f 91 [])) [.t 5,.t 6]),
 oD 8 (.bin .geq 7 (.c (.n 0))),
 oD 4 (.mv 8)]
def zE.code:Code:=.seq (.region zE.r0) (.seq (.region zE.r1) (.ret))
def zE:Func:=⟨9,[.t 4],zE.code⟩
/-! muntin/grid.side -/
def zy.r0:List Oper:=[
 oD 6 (.mv (.c (.n 0)))]
def zy.r1:List Oper:=[
 oD 10 (.mv 0),
 oD 11 (.mv 1),
 oD 12 (.mv 2),
 oD 13 (.ixa 8 10 11),
 oD 14 (.fa 0 13),
 oD 15 (.ixaa 1 4 14 12),
 oD 16 (.ld false 1 15),
 oD 17 (.mv 0),
 oD 18 (.mv 1),
 oD 19 (.mv 2),
 oD 20 (.ixa 8 17 18),
 oD 21 (.fa 4 20),
 oD 22 (.ixaa 1 4 21 19),
 oD 23 (.ld false 1 22),
 oD 7 (.mv 16),
 oD 8 (.mv 23)]
def zy.r2:List Oper:=[
 oD 24 (.mv 7),
 oD 25 (.eq false .sc 24 (.c (.n (-1))))]
def zy.r3:List Oper:=[
 oD 26 (.mv 8),
 oD 27 (.eq true .sc 26 (.c (.n 0)))]
def zy.r4:List Oper:=[
 oD 6 (.mv (.c (.n 9)))]
def zy.r5:List Oper:=[
 oD 6 (.mv (.c (.n 0)))]
def zy.r6:List Oper:=[
 oD 28 (.mv 7),
 oD 29 (.bin .lss 28 (.c (.n 0))),
 oD 30 (.mv 29),
 ⟨(some 31),.mv 7,(some (30,false))⟩,
 ⟨(some 32),.mv 0,(some (30,false))⟩,
 ⟨(some 33),.len 32,(some (30,false))⟩,
 ⟨(some 34),.bin .geq 31 33,(some (30,false))⟩,
 oD 35 (.pick 30 (.c (.b true)) 34),
 oD 36 (.mv 35),
 ⟨(some 37),.mv 7,(some (36,false))⟩,
 ⟨(some 38),.mv 1,(some (36,false))⟩,
 ⟨(some 39),.eq false .sc 37 38,(some (36,false))⟩,
 oD 40 (.pick 36 (.c (.b true)) 39)]
def zy.r7:List Oper:=[
 oD 6 (.mv (.c (.n 3)))]
def zy.r8:List Oper:=[
 oD 41 (.mv 2),
 oD 42 (.call (.c (.f 77 [])) [.t 41,.c (.n 2)]),
 oD 9 (.mv 42)]
def zy.r9:List Oper:=[
 oD 43 (.mv 0),
 oD 44 (.mv 7),
 oD 45 (.mv 9),
 oD 46 (.ixa 8 43 44),
 oD 47 (.fa 0 46),
 oD 48 (.ixaa 1 4 47 45),
 oD 49 (.ld false 1 48),
 oD 50 (.mv 1),
 oD 51 (.eq true .sc 49 50),
 oD 52 (.mv 51),
 ⟨(some 53),.mv 0,(some (52,false))⟩,
 ⟨(some 54),.mv 7,(some (52,false))⟩,
 ⟨(some 55),.mv 9,(some (52,false))⟩,
 ⟨(some 56),.ixa 8 53 54,(some (52,false))⟩,
 ⟨(some 57),.fa 4 56,(some (52,false))⟩,
 ⟨(some 58),.ixaa 1 4 57 55,(some (52,false))⟩,
 ⟨(some 59),.ld false 1 58,(some (52,false))⟩,
 ⟨(some 60),.mv 8,(some (52,false))⟩,
 ⟨(some 61),.eq true .sc 59 60,(some (52,false))⟩,
 oD 62 (.pick 52 (.c (.b true)) 61),
 oD 63 (.mv 62),
 ⟨(some 64),.mv 8,(some (63,false))⟩,
 ⟨(some 65),.bin .lss 64 (.c (.n (-2))),(some (63,false))⟩,
 oD 66 (.pick 63 (.c (.b true)) 65)]
def zy.r10:List Oper:=[
 oD 6 (.mv (.c (.n 9)))]
def zy.r11:List Oper:=[
 oD 6 (.mv (.c (.n 0)))]
def zy.code:Code:=.seq (.region zy.r0) (.seq (.draw zy.r1 [(6,13)]) (.seq (.seq (.region zy.r2) (.cond 25 (.seq (.seq (.region zy.r3) (.cond 27 (.seq (.region zy.r4) (.ret)) (.skip))) (.seq (.region zy.r5) (.ret))) (.skip))) (.seq (.seq (.region zy.r6) (.cond 40 (.seq (.region zy.r7) (.ret)) (.skip))) (.seq (.region zy.r8) (.seq (.seq (.region zy.r9) (.cond 66 (.seq (.region zy.r10) (.ret)) (.skip))) (.seq (.region zy.r11) (.ret)))))))
def zy:Func:=⟨67,[.t 6],zy.code⟩
/-! slices.Repeat[[]int,int] -/
def ZA.r0:List Oper:=[
 oD 4 (.mv (.c (.sn)))]
def ZA.r1:List Oper:=[
 oD 9 (.mv 1),
 oD 10 (.bin .lss 9 (.c (.n 0)))]
def ZA.r2:List Oper:=[
 oD 11 (.bad),
 oN (.bad)]
def ZA.r3:List Oper:=[
 oD 13 (.mv 0),
 oD 14 (.len 13),
 oD 15 (.conv .u64 14),
 oD 16 (.mv 1),
 oD 17 (.conv .u64 16),
 oD 18 (.call (.c (.f 89 [])) [.t 15,.t 17]),
 oD 12 (.mv 18),
 oD 19 (.ext 12 0),
 oD 20 (.ext 12 1),
 oD 5 (.mv 19),
 oD 6 (.mv 20)]
def ZA.r4:List Oper:=[
 oD 21 (.mv 5),
 oD 22 (.bin .gtr 21 (.c (.i .u64 0))),
 oD 23 (.mv 22),
 ⟨(some 24),.mv 6,(some (23,false))⟩,
 ⟨(some 25),.bin .gtr 24 (.c (.i .u64 9223372036854775807)),(some (23,false))⟩,
 oD 26 (.pick 23 (.c (.b true)) 25)]
def ZA.r5:List Oper:=[
 oD 27 (.bad),
 oN (.bad)]
def ZA.r6:List Oper:=[
 oD 28 (.mv 6),
 oD 29 (.conv .i64 28),
 oD 30 (.mks 1 8 [.n 0] 29 29),
 oD 7 (.mv 30)]
def ZA.r7:List Oper:=[
 oD 31 (.mv 7),
 oD 32 (.mv 0),
 oD 33 (.cpy 1 31 32),
 oD 8 (.mv 33)]
def ZA.r8:List Oper:=[
 oD 34 (.mv 8),
 oD 35 (.mv 7),
 oD 36 (.len 35),
 oD 37 (.bin .lss 34 36)]
def ZA.r9:List Oper:=[
 oD 38 (.mv 8),
 oD 39 (.mv 7),
 oD 40 (.mv 8),
 oD 41 (.slc 1 39 (some 40) none none),
 oD 42 (.mv 7),
 oD 43 (.mv 8),
 oD 44 (.slc 1 42 none (some 43) none),
 oD 45 (.cpy 1 41 44),
 oD 46 (.bin .add 38 45),
 oD 8 (.mv 46)]
def ZA.l0:Code:=.seq (.seq (.region ZA.r8) (.cond 37 (.skip) (.exit 0))) (.block 1 (.draw ZA.r9 []))
def ZA.r10:List Oper:=[
 oD 47 (.mv 7),
 oD 4 (.mv 47)]
def ZA.code:Code:=.seq (.region ZA.r0) (.seq (.seq (.region ZA.r1) (.cond 10 (.region ZA.r2) (.skip))) (.seq (.region ZA.r3) (.seq (.seq (.region ZA.r4) (.cond 26 (.region ZA.r5) (.skip))) (.seq (.region ZA.r6) (.seq (.region ZA.r7) (.seq (.block 0 (.loop ZA.l0)) (.seq (.region ZA.r10) (.ret))))))))
def ZA:Func:=⟨48,[.t 4],ZA.code⟩
/-! math/bits.Mul -/
def ZaT.r0:List Oper:=[
 oD 4 (.mv (.c (.i .u64 0))),
 oD 5 (.mv (.c (.i .u64 0)))]
def ZaT.r1:List Oper:=[
 oD 11 (.mv 0),
 oD 12 (.conv .u32 11),
 oD 13 (.mv 1),
 oD 14 (.conv .u32 13),
 oD 15 (.call (.c (.f 97 [])) [.t 12,.t 14]),
 oD 10 (.mv 15),
 oD 16 (.ext 10 0),
 oD 17 (.ext 10 1),
 oD 6 (.mv 16),
 oD 7 (.mv 17)]
def ZaT.r2:List Oper:=[
 oD 18 (.mv 6),
 oD 19 (.conv .u64 18),
 oD 20 (.mv 7),
 oD 21 (.conv .u64 20),
 oD 4 (.mv 19),
 oD 5 (.mv 21)]
def ZaT.r3:List Oper:=[
 oD 23 (.mv 0),
 oD 24 (.mv 1),
 oD 25 (.call (.c (.f 98 [])) [.t 23,.t 24]),
 oD 22 (.mv 25),
 oD 26 (.ext 22 0),
 oD 27 (.ext 22 1),
 oD 8 (.mv 26),
 oD 9 (.mv 27)]
def ZaT.r4:List Oper:=[
 oD 28 (.mv 8),
 oD 29 (.mv 9),
 oD 4 (.mv 28),
 oD 5 (.mv 29)]
def ZaT.code:Code:=.seq (.region ZaT.r0) (.seq (.cond (.c (.b false)) (.seq (.region ZaT.r1) (.seq (.region ZaT.r2) (.ret))) (.skip)) (.seq (.region ZaT.r3) (.seq (.region ZaT.r4) (.ret))))
def ZaT:Func:=⟨30,[.t 4,.t 5],ZaT.code⟩
/-! muntin/compass.Good -/
def ZaX.r0:List Oper:=[
 oD 2 (.mv (.c (.b false)))]
def ZaX.r1:List Oper:=[
 oD 3 (.mv 0),
 oD 4 (.bin .geq 3 (.c (.n 0))),
 oD 5 (.mv 4),
 ⟨(some 6),.mv 0,(some (5,true))⟩,
 ⟨(some 7),.bin .leq 6 (.c (.n 3)),(some (5,true))⟩,
 oD 8 (.pick 5 7 (.c (.b false))),
 oD 2 (.mv 8)]
def ZaX.code:Code:=.seq (.region ZaX.r0) (.seq (.region ZaX.r1) (.ret))
def ZaX:Func:=⟨9,[.t 2],ZaX.code⟩
/-! slices.IndexFunc[[]int,int] -/
def ZD.r0:List Oper:=[
 oD 4 (.mv (.c (.n 0)))]
def ZD.r1:List Oper:=[
 oD 6 (.mv 0),
 oD 7 (.len 6),
 oD 8 (.mv (.c (.n 0)))]
def ZD.r2:List Oper:=[
 oD 9 (.bin .lss 8 7)]
def ZD.r3:List Oper:=[
 oD 10 (.mv 8),
 oD 5 (.mv 10)]
def ZD.r4:List Oper:=[
 oD 11 (.mv 1),
 oD 12 (.mv 0),
 oD 13 (.mv 5),
 oD 14 (.ixa 1 12 13),
 oD 15 (.ld false 1 14),
 oD 16 (.call 11 [.t 15])]
def ZD.r5:List Oper:=[
 oD 17 (.mv 5),
 oD 4 (.mv 17)]
def ZD.r6:List Oper:=[
 oD 18 (.bin .add 8 (.c (.n 1))),
 oD 8 (.mv 18)]
def ZD.l0:Code:=.seq (.region ZD.r2) (.seq (.cond 9 (.skip) (.exit 0)) (.seq (.block 1 (.seq (.region ZD.r3) (.seq (.region ZD.r4) (.cond 16 (.seq (.region ZD.r5) (.ret)) (.skip))))) (.region ZD.r6)))
def ZD.r7:List Oper:=[
 oD 4 (.mv (.c (.n (-1))))]
def ZD.code:Code:=.seq (.region ZD.r0) (.seq (.seq (.region ZD.r1) (.block 0 (.loop ZD.l0))) (.seq (.region ZD.r7) (.ret)))
def ZD:Func:=⟨19,[.t 4],ZD.code⟩
/-! math/bits.Mul32 -/
def ZaW.r0:List Oper:=[
 oD 4 (.mv (.c (.i .u32 0))),
 oD 5 (.mv (.c (.i .u32 0)))]
def ZaW.r1:List Oper:=[
 oD 7 (.mv 0),
 oD 8 (.conv .u64 7),
 oD 9 (.mv 1),
 oD 10 (.conv .u64 9),
 oD 11 (.bin .mul 8 10),
 oD 6 (.mv 11)]
def ZaW.r2:List Oper:=[
 oD 12 (.mv 6),
 oD 13 (.bin .shr 12 (.c (.i .u64 32))),
 oD 14 (.conv .u32 13),
 oD 15 (.mv 6),
 oD 16 (.conv .u32 15),
 oD 4 (.mv 14),
 oD 5 (.mv 16)]
def ZaW.code:Code:=.seq (.region ZaW.r0) (.seq (.region ZaW.r1) (.seq (.region ZaW.r2) (.ret)))
def ZaW:Func:=⟨17,[.t 4,.t 5],ZaW.code⟩
/-! math/bits.Mul64 -/
def zk.r0:List Oper:=[
 oD 4 (.mv (.c (.i .u64 0))),
 oD 5 (.mv (.c (.i .u64 0)))]
def zk.r1:List Oper:=[
 oD 14 (.mv 0),
 oD 15 (.bin .and 14 (.c (.i .u64 4294967295))),
 oD 6 (.mv 15)]
def zk.r2:List Oper:=[
 oD 16 (.mv 0),
 oD 17 (.bin .shr 16 (.c (.i .u64 32))),
 oD 7 (.mv 17)]
def zk.r3:List Oper:=[
 oD 18 (.mv 1),
 oD 19 (.bin .and 18 (.c (.i .u64 4294967295))),
 oD 8 (.mv 19)]
def zk.r4:List Oper:=[
 oD 20 (.mv 1),
 oD 21 (.bin .shr 20 (.c (.i .u64 32))),
 oD 9 (.mv 21)]
def zk.r5:List Oper:=[
 oD 22 (.mv 6),
 oD 23 (.mv 8),
 oD 24 (.bin .mul 22 23),
 oD 10 (.mv 24)]
def zk.r6:List Oper:=[
 oD 25 (.mv 7),
 oD 26 (.mv 8),
 oD 27 (.bin .mul 25 26),
 oD 28 (.mv 10),
 oD 29 (.bin .shr 28 (.c (.i .u64 32))),
 oD 30 (.bin .add 27 29),
 oD 11 (.mv 30)]
def zk.r7:List Oper:=[
 oD 31 (.mv 11),
 oD 32 (.bin .and 31 (.c (.i .u64 4294967295))),
 oD 12 (.mv 32)]
def zk.r8:List Oper:=[
 oD 33 (.mv 11),
 oD 34 (.bin .shr 33 (.c (.i .u64 32))),
 oD 13 (.mv 34)]
def zk.r9:List Oper:=[
 oD 35 (.mv 12),
 oD 36 (.mv 6),
 oD 37 (.mv 9),
 oD 38 (.bin .mul 36 37),
 oD 39 (.bin .add 35 38),
 oD 12 (.mv 39)]
def zk.r10:List Oper:=[
 oD 40 (.mv 7),
 oD 41 (.mv 9),
 oD 42 (.bin .mul 40 41),
 oD 43 (.mv 13),
 oD 44 (.bin .add 42 43),
 oD 45 (.mv 12),
 oD 46 (.bin .shr 45 (.c (.i .u64 32))),
 oD 47 (.bin .add 44 46),
 oD 4 (.mv 47)]
def zk.r11:List Oper:=[
 oD 48 (.mv 0),
 oD 49 (.mv 1),
 oD 50 (.bin .mul 48 49),
 oD 5 (.mv 50)]
def zk.code:Code:=.seq (.region zk.r0) (.seq (.region zk.r1) (.seq (.region zk.r2) (.seq (.region zk.r3) (.seq (.region zk.r4) (.seq (.region zk.r5) (.seq (.region zk.r6) (.seq (.region zk.r7) (.seq (.region zk.r8) (.seq (.region zk.r9) (.seq (.region zk.r10) (.seq (.region zk.r11) (.ret))))))))))))
def zk:Func:=⟨51,[.t 4,.t 5],zk.code⟩
/-! muntin/muntinref10.Turned -/
def Zw.r0:List Oper:=[
 oD 2 (.mv (.c (.sn)))]
def Zw.r1:List Oper:=[
 oD 3 (.mv (.c (.sn)))]
def Zw.r2:List Oper:=[
 oD 4 (.mv (.c (.n 0)))]
def Zw.r3:List Oper:=[
 oD 7 (.mv 4),
 oD 8 (.mv 0),
 oD 9 (.len 8),
 oD 10 (.bin .lss 7 9)]
def Zw.r5:List Oper:=[
 oD 13 (.mv 0),
 oD 14 (.mv 4),
 oD 15 (.ixa 8 13 14),
 oD 16 (.ld true 8 15),
 oD 5 (.alloc [.n 0,.n 0,.n 0,.n 0,.n 0,.n 0,.n 0,.n 0]),
 oN (.st 8 5 16)]
def Zw.r6:List Oper:=[
 oD 6 (.mv (.c (.n 0)))]
def Zw.r7:List Oper:=[
 oD 17 (.mv 6),
 oD 18 (.bin .lss 17 (.c (.n 4)))]
def Zw.r9:List Oper:=[
 oD 21 (.mv 6),
 oD 22 (.bin .add 21 (.c (.n 1))),
 oD 23 (.bin .rem 22 (.c (.n 4))),
 oD 24 (.mv 0),
 oD 25 (.mv 4),
 oD 26 (.mv 6),
 oD 27 (.ixa 8 24 25),
 oD 28 (.fa 0 27),
 oD 29 (.ixaa 1 4 28 26),
 oD 30 (.ld false 1 29),
 oD 31 (.fa 0 5),
 oD 32 (.ixaa 1 4 31 23),
 oN (.st 1 32 30)]
def Zw.r10:List Oper:=[
 oD 33 (.mv 6),
 oD 34 (.bin .add 33 (.c (.n 1))),
 oD 35 (.bin .rem 34 (.c (.n 4))),
 oD 36 (.mv 0),
 oD 37 (.mv 4),
 oD 38 (.mv 6),
 oD 39 (.ixa 8 36 37),
 oD 40 (.fa 4 39),
 oD 41 (.ixaa 1 4 40 38),
 oD 42 (.ld false 1 41),
 oD 43 (.fa 4 5),
 oD 44 (.ixaa 1 4 43 35),
 oN (.st 1 44 42)]
def Zw.r8:List Oper:=[
 oD 19 (.mv 6),
 oD 20 (.bin .add 19 (.c (.n 1))),
 oD 6 (.mv 20)]
def Zw.l0:Code:=.seq (.seq (.region Zw.r7) (.cond 18 (.skip) (.exit 2))) (.seq (.block 3 (.seq (.region Zw.r9) (.region Zw.r10))) (.region Zw.r8))
def Zw.r11:List Oper:=[
 oD 45 (.mv 3),
 oD 46 (.ld true 8 5),
 oD 47 (.bsl 8 1 [.n 0,.n 0,.n 0,.n 0,.n 0,.n 0,.n 0,.n 0] [(0,8,.t 46)]),
 oD 48 (.app 8 64 45 47),
 oD 3 (.mv 48)]
def Zw.r4:List Oper:=[
 oD 11 (.mv 4),
 oD 12 (.bin .add 11 (.c (.n 1))),
 oD 4 (.mv 12)]
def Zw.l1:Code:=.seq (.seq (.region Zw.r3) (.cond 10 (.skip) (.exit 0))) (.seq (.block 1 (.seq (.region Zw.r5) (.seq (.seq (.region Zw.r6) (.block 2 (.loop Zw.l0))) (.region Zw.r11)))) (.region Zw.r4))
def Zw.r12:List Oper:=[
 oD 49 (.mv 3),
 oD 2 (.mv 49)]
def Zw.code:Code:=.seq (.region Zw.r0) (.seq (.region Zw.r1) (.seq (.seq (.region Zw.r2) (.block 0 (.loop Zw.l1))) (.seq (.region Zw.r12) (.ret))))
def Zw:Func:=⟨50,[.t 2],Zw.code⟩
/-! slices.Contains[[]int,int] -/
def Zaa.r0:List Oper:=[
 oD 4 (.mv (.c (.b false)))]
def Zaa.r1:List Oper:=[
 oD 5 (.mv 0),
 oD 6 (.mv 1),
 oD 7 (.call (.c (.f 136 [])) [.t 5,.t 6]),
 oD 8 (.bin .geq 7 (.c (.n 0))),
 oD 4 (.mv 8)]
def Zaa.code:Code:=.seq (.region Zaa.r0) (.seq (.region Zaa.r1) (.ret))
def Zaa:Func:=⟨9,[.t 4],Zaa.code⟩
/-! muntin/seg.Of -/
def ZaG.r0:List Oper:=[
 oD 2 (.alloc [.sn,.sn,.sn,.sn]),
 oD 3 (.mv (.c (.n 0)))]
def ZaG.r1:List Oper:=[
 oD 11 (.mv 0),
 oD 12 (.call (.c (.f 66 [])) [.t 11]),
 oD 4 (.mv 12)]
def ZaG.r2:List Oper:=[
 oD 13 (.mv 4),
 oD 14 (.eq true .sc 13 (.c (.n 0)))]
def ZaG.r3:List Oper:=[
 oD 15 (.build [.sn,.sn,.sn,.sn] []),
 oD 16 (.mv 4),
 oN (.st 4 2 15),
 oD 3 (.mv 16)]
def ZaG.r4:List Oper:=[
 oD 18 (.mv 0),
 oD 19 (.call (.c (.f 137 [])) [.t 18,.c (.n 1)]),
 oD 17 (.mv 19),
 oD 20 (.ext 17 0),
 oD 21 (.ext 17 1),
 oD 22 (.ext 17 2),
 oD 5 (.mv 20),
 oD 6 (.mv 21),
 oD 7 (.mv 22)]
def ZaG.r5:List Oper:=[
 oD 24 (.mv 0),
 oD 25 (.call (.c (.f 137 [])) [.t 24,.c (.n 0)]),
 oD 23 (.mv 25),
 oD 26 (.ext 23 0),
 oD 27 (.ext 23 1),
 oD 28 (.ext 23 2),
 oD 8 (.mv 26),
 oD 9 (.mv 27),
 oD 10 (.mv 28)]
def ZaG.r6:List Oper:=[
 oD 29 (.mv 7),
 oD 30 (.un .not 29),
 oD 31 (.mv 30),
 ⟨(some 32),.mv 10,(some (31,false))⟩,
 ⟨(some 33),.un .not 32,(some (31,false))⟩,
 oD 34 (.pick 31 (.c (.b true)) 33)]
def ZaG.r7:List Oper:=[
 oD 35 (.build [.sn,.sn,.sn,.sn] []),
 oN (.st 4 2 35),
 oD 3 (.mv (.c (.n 10)))]
def ZaG.r8:List Oper:=[
 oD 36 (.mv 5),
 oD 37 (.mv 8),
 oD 38 (.mv 6),
 oD 39 (.mv 9),
 oD 40 (.build [.sn,.sn,.sn,.sn] [(0,1,.t 36),(1,1,.t 37),(2,1,.t 38),(3,1,.t 39)]),
 oN (.st 4 2 40),
 oD 3 (.mv (.c (.n 0)))]
def ZaG.code:Code:=.seq (.region ZaG.r0) (.seq (.seq (.region ZaG.r1) (.seq (.region ZaG.r2) (.cond 14 (.seq (.region ZaG.r3) (.ret)) (.skip)))) (.seq (.region ZaG.r4) (.seq (.region ZaG.r5) (.seq (.seq (.region ZaG.r6) (.cond 34 (.seq (.region ZaG.r7) (.ret)) (.skip))) (.seq (.region ZaG.r8) (.ret))))))
def ZaG:Func:=⟨41,[.cell 2 true 4,.t 3],ZaG.code⟩
/-! (muntin/seg.Chains).Meet -/
def Zaf.r0:List Oper:=[
 oD 5 (.box 0),
 oD 10 (.mv (.c (.b false)))]
def Zaf.r1:List Oper:=[
 oD 12 (.ld true 4 5),
 oD 13 (.mv 3),
 oD 14 (.mv 4),
 oD 15 (.call (.c (.f 140 [])) [.t 12,.t 13,.t 14]),
 oD 11 (.alloc [.sn]),
 oN (.st 1 11 15)]
def Zaf.r2:List Oper:=[
 oD 16 (.ld true 4 5),
 oD 17 (.mv 1),
 oD 18 (.mv 2),
 oD 19 (.call (.c (.f 140 [])) [.t 16,.t 17,.t 18]),
 oD 20 (.clo 141 [.t 11]),
 oD 21 (.call (.c (.f 78 [])) [.t 19,.t 20]),
 oD 10 (.mv 21)]
def Zaf.code:Code:=.seq (.region Zaf.r0) (.seq (.region Zaf.r1) (.seq (.region Zaf.r2) (.ret)))
def Zaf:Func:=⟨22,[.t 10],Zaf.code⟩
/-! muntin/arcs.Length -/
def Z0.r0:List Oper:=[
 oD 4 (.mv (.c (.n 0))),
 oD 5 (.mv (.c (.n 0)))]
def Z0.r1:List Oper:=[
 oD 15 (.mv 0),
 oD 16 (.call (.c (.f 66 [])) [.t 15]),
 oD 6 (.mv 16)]
def Z0.r2:List Oper:=[
 oD 17 (.mv 6),
 oD 18 (.eq true .sc 17 (.c (.n 0)))]
def Z0.r3:List Oper:=[
 oD 19 (.mv 6),
 oD 4 (.mv (.c (.n 0))),
 oD 5 (.mv 19)]
def Z0.r4:List Oper:=[
 oD 20 (.mv 1),
 oD 21 (.len 20),
 oD 22 (.mv 0),
 oD 23 (.len 22),
 oD 24 (.eq true .sc 21 23),
 oD 25 (.mv 24),
 ⟨(some 26),.mv 1,(some (25,false))⟩,
 ⟨(some 27),.call (.c (.f 146 [])) [.t 26,.c (.f 147 [])],(some (25,false))⟩,
 oD 28 (.pick 25 (.c (.b true)) 27)]
def Z0.r5:List Oper:=[
 oD 4 (.mv (.c (.n 0))),
 oD 5 (.mv (.c (.n 2)))]
def Z0.r6:List Oper:=[
 oD 7 (.mv (.c (.n 0)))]
def Z0.r7:List Oper:=[
 oD 29 (.mv 0),
 oD 30 (.len 29),
 oD 31 (.mv (.c (.n 0)))]
def Z0.r8:List Oper:=[
 oD 32 (.bin .lss 31 30)]
def Z0.r9:List Oper:=[
 oD 33 (.mv 31),
 oD 34 (.ixa 8 29 31),
 oD 35 (.ld true 8 34),
 oD 9 (.alloc [.n 0,.n 0,.n 0,.n 0,.n 0,.n 0,.n 0,.n 0]),
 oD 8 (.mv 33),
 oN (.st 8 9 35)]
def Z0.r10:List Oper:=[
 oD 36 (.bsl 1 2 [.n 0] [(0,1,.c (.n 0)),(1,1,.c (.n 1))]),
 oD 37 (.len 36),
 oD 38 (.mv (.c (.n 0)))]
def Z0.r11:List Oper:=[
 oD 39 (.bin .lss 38 37)]
def Z0.r12:List Oper:=[
 oD 40 (.ixa 1 36 38),
 oD 41 (.ld false 1 40),
 oD 11 (.mv 41)]
def Z0.r13:List Oper:=[
 oD 42 (.mv 11),
 oD 43 (.fa 0 9),
 oD 44 (.ixaa 1 4 43 42),
 oD 45 (.ld false 1 44),
 oD 12 (.mv 45)]
def Z0.r14:List Oper:=[
 oD 46 (.mv 12),
 oD 47 (.bin .lss 46 (.c (.n 0)))]
def Z0.r15:List Oper:=[
 oD 49 (.mv 1),
 oD 50 (.mv 8),
 oD 51 (.ixa 2 49 50),
 oD 52 (.ld true 2 51),
 oD 53 (.mv 1),
 oD 54 (.mv 12),
 oD 55 (.ixa 2 53 54),
 oD 56 (.ld true 2 55),
 oD 57 (.call (.c (.f 148 [])) [.t 52,.t 56]),
 oD 48 (.mv 57),
 oD 58 (.ext 48 0),
 oD 59 (.ext 48 1),
 oD 13 (.mv 58),
 oD 14 (.mv 59)]
def Z0.r16:List Oper:=[
 oD 60 (.mv 14),
 oD 61 (.un .not 60),
 oD 62 (.mv 61),
 ⟨(some 63),.mv 13,(some (62,false))⟩,
 ⟨(some 64),.mv 11,(some (62,false))⟩,
 ⟨(some 65),.eq true .sc 63 64,(some (62,false))⟩,
 oD 66 (.pick 62 (.c (.b true)) 65)]
def Z0.r17:List Oper:=[
 oD 4 (.mv (.c (.n 0))),
 oD 5 (.mv (.c (.n 15)))]
def Z0.r18:List Oper:=[
 oD 67 (.mv 7),
 oD 68 (.mv 11),
 oD 69 (.fa 4 9),
 oD 70 (.ixaa 1 4 69 68),
 oD 71 (.ld false 1 70),
 oD 72 (.call (.c (.f 149 [])) [.t 71]),
 oD 73 (.mv 1),
 oD 74 (.mv 12),
 oD 75 (.ixa 2 73 74),
 oD 76 (.fa 0 75),
 oD 77 (.ld false 1 76),
 oD 78 (.mv 1),
 oD 79 (.mv 8),
 oD 80 (.ixa 2 78 79),
 oD 81 (.fa 0 80),
 oD 82 (.ld false 1 81),
 oD 83 (.bin .sub 77 82),
 oD 84 (.mv 1),
 oD 85 (.mv 12),
 oD 86 (.ixa 2 84 85),
 oD 87 (.fa 1 86),
 oD 88 (.ld false 1 87),
 oD 89 (.bin .add 83 88),
 oD 90 (.mv 1),
 oD 91 (.mv 8),
 oD 92 (.ixa 2 90 91),
 oD 93 (.fa 1 92),
 oD 94 (.ld false 1 93),
 oD 95 (.bin .sub 89 94),
 oD 96 (.bin .mul 72 95),
 oD 97 (.bin .add 67 96),
 oD 7 (.mv 97)]
def Z0.r19:List Oper:=[
 oD 98 (.bin .add 38 (.c (.n 1))),
 oD 38 (.mv 98)]
def Z0.l0:Code:=.seq (.region Z0.r11) (.seq (.cond 39 (.skip) (.exit 2)) (.seq (.block 3 (.seq (.region Z0.r12) (.seq (.region Z0.r13) (.seq (.seq (.region Z0.r14) (.cond 47 (.exit 3) (.skip))) (.seq (.seq (.draw Z0.r15 [(3,7)]) (.seq (.region Z0.r16) (.cond 66 (.seq (.region Z0.r17) (.ret)) (.skip)))) (.draw Z0.r18 [(4,10),(5,10),(4,15),(5,15),(10,15),(4,21),(5,21),(10,21),(15,21),(4,27),(5,27),(10,27),(15,27),(21,27)])))))) (.region Z0.r19)))
def Z0.r20:List Oper:=[
 oD 99 (.bin .add 31 (.c (.n 1))),
 oD 31 (.mv 99)]
def Z0.l1:Code:=.seq (.region Z0.r8) (.seq (.cond 32 (.skip) (.exit 0)) (.seq (.block 1 (.seq (.region Z0.r9) (.seq (.region Z0.r10) (.block 2 (.loop Z0.l0))))) (.region Z0.r20)))
def Z0.r21:List Oper:=[
 oD 100 (.mv 7),
 oD 4 (.mv 100),
 oD 5 (.mv (.c (.n 0)))]
def Z0.code:Code:=.seq (.region Z0.r0) (.seq (.seq (.region Z0.r1) (.seq (.region Z0.r2) (.cond 18 (.seq (.region Z0.r3) (.ret)) (.skip)))) (.seq (.seq (.region Z0.r4) (.cond 28 (.seq (.region Z0.r5) (.ret)) (.skip))) (.seq (.region Z0.r6) (.seq (.seq (.region Z0.r7) (.block 0 (.loop Z0.l1))) (.seq (.region Z0.r21) (.ret))))))
def Z0:Func:=⟨101,[.t 4,.t 5],Z0.code⟩
/-! slices.Index[[]int,int] -/
def ZR.r0:List Oper:=[
 oD 4 (.mv (.c (.n 0)))]
def ZR.r1:List Oper:=[
 oD 6 (.mv 0),
 oD 7 (.len 6),
 oD 8 (.mv (.c (.n 0)))]
def ZR.r2:List Oper:=[
 oD 9 (.bin .lss 8 7)]
def ZR.r3:List Oper:=[
 oD 10 (.mv 8),
 oD 5 (.mv 10)]
def ZR.r4:List Oper:=[
 oD 11 (.mv 1),
 oD 12 (.mv 0),
 oD 13 (.mv 5),
 oD 14 (.ixa 1 12 13),
 oD 15 (.ld false 1 14),
 oD 16 (.eq false .sc 11 15)]
def ZR.r5:List Oper:=[
 oD 17 (.mv 5),
 oD 4 (.mv 17)]
def ZR.r6:List Oper:=[
 oD 18 (.bin .add 8 (.c (.n 1))),
 oD 8 (.mv 18)]
def ZR.l0:Code:=.seq (.region ZR.r2) (.seq (.cond 9 (.skip) (.exit 0)) (.seq (.block 1 (.seq (.region ZR.r3) (.seq (.region ZR.r4) (.cond 16 (.seq (.region ZR.r5) (.ret)) (.skip))))) (.region ZR.r6)))
def ZR.r7:List Oper:=[
 oD 4 (.mv (.c (.n (-1))))]
def ZR.code:Code:=.seq (.region ZR.r0) (.seq (.seq (.region ZR.r1) (.block 0 (.loop ZR.l0))) (.seq (.region ZR.r7) (.ret)))
def ZR:Func:=⟨19,[.t 4],ZR.code⟩
/-! muntin/seg.chains -/
def Zz.r0:List Oper:=[
 oD 4 (.mv (.c (.sn))),
 oD 5 (.mv (.c (.sn))),
 oD 6 (.mv (.c (.b false)))]
def Zz.r1:List Oper:=[
 oD 15 (.bsl 1 1 [.n 0] [(0,1,.c (.n (-1)))]),
 oD 16 (.mv 0),
 oD 17 (.len 16),
 oD 18 (.call (.c (.f 83 [])) [.t 15,.t 17]),
 oD 7 (.mv 18)]
def Zz.r2:List Oper:=[
 oD 19 (.mv 1),
 oD 20 (.call (.c (.f 77 [])) [.t 19,.c (.n 2)]),
 oD 8 (.mv 20)]
def Zz.r3:List Oper:=[
 oD 9 (.mv (.c (.sn)))]
def Zz.r4:List Oper:=[
 oD 21 (.mv 0),
 oD 22 (.len 21),
 oD 23 (.mv (.c (.n 0)))]
def Zz.r5:List Oper:=[
 oD 24 (.bin .lss 23 22)]
def Zz.r6:List Oper:=[
 oD 25 (.mv 23),
 oD 10 (.mv 25)]
def Zz.r7:List Oper:=[
 oD 26 (.mv 7),
 oD 27 (.mv 10),
 oD 28 (.ixa 1 26 27),
 oD 29 (.ld false 1 28),
 oD 30 (.bin .geq 29 (.c (.n 0)))]
def Zz.r8:List Oper:=[
 oD 31 (.mv 10),
 oD 11 (.mv 31)]
def Zz.r9:List Oper:=[
 oD 12 (.mv (.c (.n 0)))]
def Zz.r10:List Oper:=[
 oD 32 (.mv 0),
 oD 33 (.mv 11),
 oD 34 (.mv 8),
 oD 35 (.ixa 8 32 33),
 oD 36 (.fa 0 35),
 oD 37 (.ixaa 1 4 36 34),
 oD 38 (.ld false 1 37),
 oD 39 (.bin .geq 38 (.c (.n 0)))]
def Zz.r12:List Oper:=[
 oD 42 (.mv 12),
 oD 43 (.mv 0),
 oD 44 (.len 43),
 oD 45 (.eq false .sc 42 44)]
def Zz.r13:List Oper:=[
 oD 4 (.mv (.c (.sn))),
 oD 5 (.mv (.c (.sn))),
 oD 6 (.mv (.c (.b false)))]
def Zz.r14:List Oper:=[
 oD 46 (.mv 0),
 oD 47 (.mv 11),
 oD 48 (.mv 8),
 oD 49 (.ixa 8 46 47),
 oD 50 (.fa 0 49),
 oD 51 (.ixaa 1 4 50 48),
 oD 52 (.ld false 1 51),
 oD 11 (.mv 52)]
def Zz.r11:List Oper:=[
 oD 40 (.mv 12),
 oD 41 (.bin .add 40 (.c (.n 1))),
 oD 12 (.mv 41)]
def Zz.l0:Code:=.seq (.seq (.region Zz.r10) (.cond 39 (.skip) (.exit 2))) (.seq (.block 3 (.seq (.seq (.region Zz.r12) (.cond 45 (.seq (.region Zz.r13) (.ret)) (.skip))) (.region Zz.r14))) (.region Zz.r11))
def Zz.r15:List Oper:=[
 oD 13 (.mv (.c (.sn)))]
def Zz.r16:List Oper:=[
 oD 53 (.mv 11),
 oD 14 (.mv 53)]
def Zz.r17:List Oper:=[
 oD 54 (.mv 14),
 oD 55 (.bin .geq 54 (.c (.n 0)))]
def Zz.r19:List Oper:=[
 oD 63 (.mv 7),
 oD 64 (.mv 14),
 oD 65 (.mv 9),
 oD 66 (.len 65),
 oD 67 (.ixa 1 63 64),
 oN (.st 1 67 66)]
def Zz.r20:List Oper:=[
 oD 68 (.mv 13),
 oD 69 (.mv 14),
 oD 70 (.bsl 1 1 [.n 0] [(0,1,.t 69)]),
 oD 71 (.app 1 8 68 70),
 oD 13 (.mv 71)]
def Zz.r18:List Oper:=[
 oD 56 (.mv 0),
 oD 57 (.mv 14),
 oD 58 (.mv 1),
 oD 59 (.ixa 8 56 57),
 oD 60 (.fa 0 59),
 oD 61 (.ixaa 1 4 60 58),
 oD 62 (.ld false 1 61),
 oD 14 (.mv 62)]
def Zz.l1:Code:=.seq (.seq (.region Zz.r17) (.cond 55 (.skip) (.exit 4))) (.seq (.block 5 (.seq (.region Zz.r19) (.region Zz.r20))) (.region Zz.r18))
def Zz.r21:List Oper:=[
 oD 72 (.mv 9),
 oD 73 (.mv 13),
 oD 74 (.bsl 1 1 [.sn] [(0,1,.t 73)]),
 oD 75 (.app 1 24 72 74),
 oD 9 (.mv 75)]
def Zz.r22:List Oper:=[
 oD 76 (.bin .add 23 (.c (.n 1))),
 oD 23 (.mv 76)]
def Zz.l2:Code:=.seq (.region Zz.r5) (.seq (.cond 24 (.skip) (.exit 0)) (.seq (.block 1 (.seq (.region Zz.r6) (.seq (.seq (.region Zz.r7) (.cond 30 (.exit 1) (.skip))) (.seq (.region Zz.r8) (.seq (.seq (.region Zz.r9) (.block 2 (.loop Zz.l0))) (.seq (.region Zz.r15) (.seq (.seq (.region Zz.r16) (.block 4 (.loop Zz.l1))) (.region Zz.r21)))))))) (.region Zz.r22)))
def Zz.r23:List Oper:=[
 oD 77 (.mv 7),
 oD 78 (.mv 9),
 oD 4 (.mv 77),
 oD 5 (.mv 78),
 oD 6 (.mv (.c (.b true)))]
def Zz.code:Code:=.seq (.region Zz.r0) (.seq (.region Zz.r1) (.seq (.region Zz.r2) (.seq (.region Zz.r3) (.seq (.seq (.region Zz.r4) (.block 0 (.loop Zz.l2))) (.seq (.region Zz.r23) (.ret))))))
def Zz:Func:=⟨79,[.t 4,.t 5,.t 6],Zz.code⟩
/-! (muntin/seg.Chains).chain -/
def zc.r0:List Oper:=[
 oD 3 (.box 0),
 oD 6 (.mv (.c (.sn)))]
def zc.r1:List Oper:=[
 oD 8 (.fa 3 3),
 oD 9 (.ld false 1 8),
 oD 7 (.mv 9)]
def zc.r2:List Oper:=[
 oD 10 (.mv 1)]
def zc.r3:List Oper:=[
 oD 11 (.fa 2 3),
 oD 12 (.ld false 1 11),
 oD 7 (.mv 12)]
def zc.r4:List Oper:=[
 oD 13 (.mv 2),
 oD 14 (.bin .lss 13 (.c (.n 0))),
 oD 15 (.mv 14),
 ⟨(some 16),.mv 2,(some (15,false))⟩,
 ⟨(some 17),.mv 7,(some (15,false))⟩,
 ⟨(some 18),.len 17,(some (15,false))⟩,
 ⟨(some 19),.bin .geq 16 18,(some (15,false))⟩,
 oD 20 (.pick 15 (.c (.b true)) 19)]
def zc.r5:List Oper:=[
 oD 6 (.mv (.c (.sn)))]
def zc.r6:List Oper:=[
 oD 21 (.mv 7),
 oD 22 (.mv 2),
 oD 23 (.ixa 1 21 22),
 oD 24 (.ld false 1 23),
 oD 6 (.mv 24)]
def zc.code:Code:=.seq (.region zc.r0) (.seq (.region zc.r1) (.seq (.seq (.region zc.r2) (.cond 10 (.region zc.r3) (.skip))) (.seq (.seq (.region zc.r4) (.cond 20 (.seq (.region zc.r5) (.ret)) (.skip))) (.seq (.region zc.r6) (.ret)))))
def zc:Func:=⟨25,[.t 6],zc.code⟩
/-! (muntin/seg.Chains).Meet$1 -/
def Zar.r0:List Oper:=[
 oD 3 (.mv (.c (.b false)))]
def Zar.r1:List Oper:=[
 oD 4 (.ld false 1 1),
 oD 5 (.mv 0),
 oD 6 (.call (.c (.f 118 [])) [.t 4,.t 5]),
 oD 3 (.mv 6)]
def Zar.code:Code:=.seq (.region Zar.r0) (.seq (.region Zar.r1) (.ret))
def Zar:Func:=⟨7,[.t 3],Zar.code⟩
/-! slices.ContainsFunc[[]muntin/api.Point,muntin/api.Point] -/
def zr.r0:List Oper:=[
 oD 4 (.mv (.c (.b false)))]
def zr.r1:List Oper:=[
 oD 5 (.mv 0),
 oD 6 (.mv 1),
 oD 7 (.call (.c (.f 151 [])) [.t 5,.t 6]),
 oD 8 (.bin .geq 7 (.c (.n 0))),
 oD 4 (.mv 8)]
def zr.code:Code:=.seq (.region zr.r0) (.seq (.region zr.r1) (.ret))
def zr:Func:=⟨9,[.t 4],zr.code⟩
/-! muntin/arcs.far -/
def ZbB.r0:List Oper:=[
 oD 1 (.box 0),
 oD 2 (.mv (.c (.b false)))]
def ZbB.r1:List Oper:=[
 oD 3 (.fa 0 1),
 oD 4 (.ld false 1 3),
 oD 5 (.fa 1 1),
 oD 6 (.ld false 1 5),
 oD 7 (.mx [.t 4,.t 6]),
 oD 8 (.bin .gtr 7 (.c (.n 1000000))),
 oD 9 (.mv 8),
 ⟨(some 10),.fa 0 1,(some (9,false))⟩,
 ⟨(some 11),.ld false 1 10,(some (9,false))⟩,
 ⟨(some 12),.fa 1 1,(some (9,false))⟩,
 ⟨(some 13),.ld false 1 12,(some (9,false))⟩,
 ⟨(some 14),.mn [.t 11,.t 13],(some (9,false))⟩,
 ⟨(some 15),.bin .lss 14 (.c (.n (-1000000))),(some (9,false))⟩,
 oD 16 (.pick 9 (.c (.b true)) 15),
 oD 2 (.mv 16)]
def ZbB.code:Code:=.seq (.region ZbB.r0) (.seq (.region ZbB.r1) (.ret))
def ZbB:Func:=⟨17,[.t 2],ZbB.code⟩
/-! muntin/compass.Between -/
def ZQ.r0:List Oper:=[
 oD 2 (.box 0),
 oD 3 (.box 1),
 oD 4 (.mv (.c (.n 0))),
 oD 5 (.mv (.c (.b false)))]
def ZQ.r1:List Oper:=[
 oD 7 (.fa 0 2),
 oD 8 (.ld false 1 7),
 oD 9 (.fa 0 3),
 oD 10 (.ld false 1 9),
 oD 11 (.eq false .sc 8 10),
 oD 12 (.fa 1 2),
 oD 13 (.ld false 1 12),
 oD 14 (.fa 1 3),
 oD 15 (.ld false 1 14),
 oD 16 (.eq false .sc 13 15),
 oD 17 (.eq false .bl 11 16),
 oD 6 (.mv 17)]
def ZQ.r2:List Oper:=[
 oD 4 (.mv (.c (.n 0))),
 oD 5 (.mv (.c (.b false)))]
def ZQ.r3:List Oper:=[
 oD 19 (.fa 0 2),
 oD 20 (.ld false 1 19),
 oD 21 (.fa 0 3),
 oD 22 (.ld false 1 21),
 oD 23 (.bin .lss 20 22),
 oD 18 (.mv 23)]
def ZQ.r4:List Oper:=[
 oD 4 (.mv (.c (.n 0))),
 oD 5 (.mv (.c (.b true)))]
def ZQ.r5:List Oper:=[
 oD 25 (.fa 0 2),
 oD 26 (.ld false 1 25),
 oD 27 (.fa 0 3),
 oD 28 (.ld false 1 27),
 oD 29 (.bin .gtr 26 28),
 oD 24 (.mv 29)]
def ZQ.r6:List Oper:=[
 oD 4 (.mv (.c (.n 2))),
 oD 5 (.mv (.c (.b true)))]
def ZQ.r7:List Oper:=[
 oD 31 (.fa 1 2),
 oD 32 (.ld false 1 31),
 oD 33 (.fa 1 3),
 oD 34 (.ld false 1 33),
 oD 35 (.bin .lss 32 34),
 oD 30 (.mv 35)]
def ZQ.r8:List Oper:=[
 oD 4 (.mv (.c (.n 1))),
 oD 5 (.mv (.c (.b true)))]
def ZQ.r9:List Oper:=[
 oD 4 (.mv (.c (.n 3))),
 oD 5 (.mv (.c (.b true)))]
def ZQ.code:Code:=.seq (.region ZQ.r0) (.seq (.block 0 (.seq (.region ZQ.r1) (.cond 6 (.seq (.region ZQ.r2) (.ret)) (.seq (.region ZQ.r3) (.cond 18 (.seq (.region ZQ.r4) (.ret)) (.seq (.region ZQ.r5) (.cond 24 (.seq (.region ZQ.r6) (.ret)) (.seq (.region ZQ.r7) (.cond 30 (.seq (.region ZQ.r8) (.ret)) (.skip)))))))))) (.seq (.region ZQ.r9) (.ret)))
def ZQ:Func:=⟨36,[.t 4,.t 5],ZQ.code⟩
/-! muntin/arcs.weight -/
def Za5.r0:List Oper:=[
 oD 2 (.mv (.c (.n 0)))]
def Za5.r1:List Oper:=[
 oD 3 (.mv 0),
 oD 4 (.bin .geq 3 (.c (.n 0)))]
def Za5.r2:List Oper:=[
 oD 2 (.mv (.c (.n 1)))]
def Za5.r3:List Oper:=[
 oD 2 (.mv (.c (.n 0)))]
def Za5.code:Code:=.seq (.region Za5.r0) (.seq (.seq (.region Za5.r1) (.cond 4 (.seq (.region Za5.r2) (.ret)) (.skip))) (.seq (.region Za5.r3) (.ret)))
def Za5:Func:=⟨5,[.t 2],Za5.code⟩
/-! slices.IndexFunc[[]muntin/api.Point,muntin/api.Point] -/
def Zy.r0:List Oper:=[
 oD 4 (.mv (.c (.n 0)))]
def Zy.r1:List Oper:=[
 oD 6 (.mv 0),
 oD 7 (.len 6),
 oD 8 (.mv (.c (.n 0)))]
def Zy.r2:List Oper:=[
 oD 9 (.bin .lss 8 7)]
def Zy.r3:List Oper:=[
 oD 10 (.mv 8),
 oD 5 (.mv 10)]
def Zy.r4:List Oper:=[
 oD 11 (.mv 1),
 oD 12 (.mv 0),
 oD 13 (.mv 5),
 oD 14 (.ixa 2 12 13),
 oD 15 (.ld true 2 14),
 oD 16 (.call 11 [.t 15])]
def Zy.r5:List Oper:=[
 oD 17 (.mv 5),
 oD 4 (.mv 17)]
def Zy.r6:List Oper:=[
 oD 18 (.bin .add 8 (.c (.n 1))),
 oD 8 (.mv 18)]
def Zy.l0:Code:=.seq (.region Zy.r2) (.seq (.cond 9 (.skip) (.exit 0)) (.seq (.block 1 (.seq (.region Zy.r3) (.seq (.region Zy.r4) (.cond 16 (.seq (.region Zy.r5) (.ret)) (.skip))))) (.region Zy.r6)))
def Zy.r7:List Oper:=[
 oD 4 (.mv (.c (.n (-1))))]
def Zy.code:Code:=.seq (.region Zy.r0) (.seq (.seq (.region Zy.r1) (.block 0 (.loop Zy.l0))) (.seq (.region Zy.r7) (.ret)))
def Zy:Func:=⟨19,[.t 4],Zy.code⟩
/-! muntin/muntinref10.TurnedAt -/
def ZL.r0:List Oper:=[
 oD 2 (.mv (.c (.sn)))]
def ZL.r1:List Oper:=[
 oD 3 (.mv (.c (.sn)))]
def ZL.r2:List Oper:=[
 oD 4 (.mv (.c (.n 0)))]
def ZL.r3:List Oper:=[
 oD 5 (.mv 4),
 oD 6 (.mv 0),
 oD 7 (.len 6),
 oD 8 (.bin .lss 5 7)]
def ZL.r5:List Oper:=[
 oD 11 (.mv 3),
 oD 12 (.mv 0),
 oD 13 (.mv 4),
 oD 14 (.ixa 2 12 13),
 oD 15 (.fa 1 14),
 oD 16 (.ld false 1 15),
 oD 17 (.un .neg 16),
 oD 18 (.mv 0),
 oD 19 (.mv 4),
 oD 20 (.ixa 2 18 19),
 oD 21 (.fa 0 20),
 oD 22 (.ld false 1 21),
 oD 23 (.build [.n 0,.n 0] [(0,1,.t 17),(1,1,.t 22)]),
 oD 24 (.bsl 2 1 [.n 0,.n 0] [(0,2,.t 23)]),
 oD 25 (.app 2 16 11 24),
 oD 3 (.mv 25)]
def ZL.r4:List Oper:=[
 oD 9 (.mv 4),
 oD 10 (.bin .add 9 (.c (.n 1))),
 oD 4 (.mv 10)]
def ZL.l0:Code:=.seq (.seq (.region ZL.r3) (.cond 8 (.skip) (.exit 0))) (.seq (.block 1 (.draw ZL.r5 [(5,11)])) (.region ZL.r4))
def ZL.r6:List Oper:=[
 oD 26 (.mv 3),
 oD 2 (.mv 26)]
def ZL.code:Code:=.seq (.region ZL.r0) (.seq (.region ZL.r1) (.seq (.seq (.region ZL.r2) (.block 0 (.loop ZL.l0))) (.seq (.region ZL.r6) (.ret))))
def ZL:Func:=⟨27,[.t 2],ZL.code⟩
/-! slices.Clone[[]muntin/api.Point,muntin/api.Point] -/
def zh.r0:List Oper:=[
 oD 2 (.mv (.c (.sn)))]
def zh.r1:List Oper:=[
 oD 3 (.mv 0),
 oD 4 (.eq false .sl 3 (.c (.sn)))]
def zh.r2:List Oper:=[
 oD 2 (.mv (.c (.sn)))]
def zh.r3:List Oper:=[
 oD 5 (.bsl 2 0 [.n 0,.n 0] []),
 oD 6 (.mv 0),
 oD 7 (.app 2 16 5 6),
 oD 2 (.mv 7)]
def zh.code:Code:=.seq (.region zh.r0) (.seq (.seq (.region zh.r1) (.cond 4 (.seq (.region zh.r2) (.ret)) (.skip))) (.seq (.region zh.r3) (.ret)))
def zh:Func:=⟨8,[.t 2],zh.code⟩
/-! muntin/valid.Check -/
def zw.r0:List Oper:=[
 oD 2 (.mv (.c (.n 0)))]
def zw.r1:List Oper:=[
 oD 6 (.mv 0),
 oD 7 (.call (.c (.f 66 [])) [.t 6]),
 oD 3 (.mv 7)]
def zw.r2:List Oper:=[
 oD 8 (.mv 3),
 oD 9 (.eq true .sc 8 (.c (.n 0)))]
def zw.r3:List Oper:=[
 oD 10 (.mv 3),
 oD 2 (.mv 10)]
def zw.r4:List Oper:=[
 oD 11 (.mv 0),
 oD 12 (.call (.c (.f 32 [])) [.t 11]),
 oD 13 (.un .not 12)]
def zw.r5:List Oper:=[
 oD 2 (.mv (.c (.n 13)))]
def zw.r6:List Oper:=[
 oD 15 (.mv 0),
 oD 16 (.call (.c (.f 201 [])) [.t 15]),
 oD 14 (.mv 16),
 oD 17 (.ext 14 0),
 oD 18 (.ext 14 1),
 oD 4 (.mv 17),
 oD 5 (.mv 18)]
def zw.r7:List Oper:=[
 oD 19 (.mv 5),
 oD 20 (.un .not 19),
 oD 21 (.mv 20),
 ⟨(some 22),.mv 0,(some (21,true))⟩,
 ⟨(some 23),.len 22,(some (21,true))⟩,
 ⟨(some 24),.bin .gtr 23 (.c (.n 1)),(some (21,true))⟩,
 oD 25 (.pick 21 24 (.c (.b false)))]
def zw.r8:List Oper:=[
 oD 2 (.mv (.c (.n 10)))]
def zw.r9:List Oper:=[
 oD 2 (.mv (.c (.n 0)))]
def zw.code:Code:=.seq (.region zw.r0) (.seq (.seq (.region zw.r1) (.seq (.region zw.r2) (.cond 9 (.seq (.region zw.r3) (.ret)) (.skip)))) (.seq (.seq (.region zw.r4) (.cond 13 (.seq (.region zw.r5) (.ret)) (.skip))) (.seq (.seq (.region zw.r6) (.seq (.region zw.r7) (.cond 25 (.seq (.region zw.r8) (.ret)) (.skip)))) (.seq (.region zw.r9) (.ret)))))
def zw:Func:=⟨26,[.t 2],zw.code⟩
/-! muntin/muntinlaw26.wakes -/
def zB.r0:List Oper:=[
 oD 0 (.mv (.c (.b false)))]
def zB.r1:List Oper:=[
 oD 2 (.call (.c (.f 46 [])) [.c (.n 2)]),
 oD 1 (.mv 2)]
def zB.r2:List Oper:=[
 oD 4 (.mv 1),
 oD 5 (.call (.c (.f 53 [])) [.t 4,.c (.n 0),.c (.n 0),.c (.n 1),.c (.n 0)]),
 oD 3 (.mv 5),
 oD 6 (.ext 3 0),
 oD 7 (.ext 3 1),
 oD 1 (.mv 6)]
def zB.r3:List Oper:=[
 oD 8 (.mv 1),
 oD 9 (.build [.n 0,.n 0] []),
 oD 10 (.build [.n 0,.n 0] [(0,1,.c (.n 4))]),
 oD 11 (.bsl 2 2 [.n 0,.n 0] [(0,2,.t 9),(2,2,.t 10)]),
 oD 12 (.call (.c (.f 208 [])) [.t 8,.t 11]),
 oD 13 (.eq false .sc 12 (.c (.n 0))),
 oD 14 (.mv 13),
 ⟨(some 15),.mv 1,(some (14,true))⟩,
 ⟨(some 16),.build [.n 0,.n 0] [],(some (14,true))⟩,
 ⟨(some 17),.build [.n 0,.n 0] [(1,1,.c (.n 4))],(some (14,true))⟩,
 ⟨(some 18),.bsl 2 2 [.n 0,.n 0] [(0,2,.t 16),(2,2,.t 17)],(some (14,true))⟩,
 ⟨(some 19),.call (.c (.f 208 [])) [.t 15,.t 18],(some (14,true))⟩,
 ⟨(some 20),.eq false .sc 19 (.c (.n 15)),(some (14,true))⟩,
 oD 21 (.pick 14 20 (.c (.b false))),
 oD 22 (.mv 21),
 ⟨(some 23),.mv 1,(some (22,true))⟩,
 ⟨(some 24),.call (.c (.f 208 [])) [.t 23,.c (.sn)],(some (22,true))⟩,
 ⟨(some 25),.eq false .sc 24 (.c (.n 2)),(some (22,true))⟩,
 oD 26 (.pick 22 25 (.c (.b false))),
 oD 27 (.mv 26),
 ⟨(some 28),.build [.n 0,.n 0,.n 0,.n 0] [],(some (27,true))⟩,
 ⟨(some 29),.build [.n 0,.n 0] [(0,1,.c (.n 1))],(some (27,true))⟩,
 ⟨(some 30),.build [.n 0,.n 0] [(0,1,.c (.n 1))],(some (27,true))⟩,
 ⟨(some 31),.build [.n 0,.n 0,.n 0,.n 0] [(0,2,.t 29),(2,2,.t 30)],(some (27,true))⟩,
 ⟨(some 32),.call (.c (.f 186 [])) [.t 28,.t 31],(some (27,true))⟩,
 oD 33 (.pick 27 32 (.c (.b false))),
 oD 0 (.mv 33)]
def zB.code:Code:=.seq (.region zB.r0) (.seq (.region zB.r1) (.seq (.region zB.r2) (.seq (.region zB.r3) (.ret))))
def zB:Func:=⟨34,[.t 0],zB.code⟩
/-! muntin/check.Apart -/
def Zbg.r0:List Oper:=[
 oD 2 (.box 0),
 oD 3 (.box 1),
 oD 4 (.mv (.c (.b false)))]
def Zbg.r1:List Oper:=[
 oD 5 (.fa 2 2),
 oD 6 (.fa 0 5),
 oD 7 (.ld false 1 6),
 oD 8 (.fa 0 3),
 oD 9 (.fa 0 8),
 oD 10 (.ld false 1 9),
 oD 11 (.bin .lss 7 10),
 oD 12 (.mv 11),
 ⟨(some 13),.fa 2 3,(some (12,false))⟩,
 ⟨(some 14),.fa 0 13,(some (12,false))⟩,
 ⟨(some 15),.ld false 1 14,(some (12,false))⟩,
 ⟨(some 16),.fa 0 2,(some (12,false))⟩,
 ⟨(some 17),.fa 0 16,(some (12,false))⟩,
 ⟨(some 18),.ld false 1 17,(some (12,false))⟩,
 ⟨(some 19),.bin .lss 15 18,(some (12,false))⟩,
 oD 20 (.pick 12 (.c (.b true)) 19),
 oD 21 (.mv 20),
 ⟨(some 22),.fa 2 2,(some (21,false))⟩,
 ⟨(some 23),.fa 1 22,(some (21,false))⟩,
 ⟨(some 24),.ld false 1 23,(some (21,false))⟩,
 ⟨(some 25),.fa 0 3,(some (21,false))⟩,
 ⟨(some 26),.fa 1 25,(some (21,false))⟩,
 ⟨(some 27),.ld false 1 26,(some (21,false))⟩,
 ⟨(some 28),.bin .lss 24 27,(some (21,false))⟩,
 oD 29 (.pick 21 (.c (.b true)) 28),
 oD 30 (.mv 29),
 ⟨(some 31),.fa 2 3,(some (30,false))⟩,
 ⟨(some 32),.fa 1 31,(some (30,false))⟩,
 ⟨(some 33),.ld false 1 32,(some (30,false))⟩,
 ⟨(some 34),.fa 0 2,(some (30,false))⟩,
 ⟨(some 35),.fa 1 34,(some (30,false))⟩,
 ⟨(some 36),.ld false 1 35,(some (30,false))⟩,
 ⟨(some 37),.bin .lss 33 36,(some (30,false))⟩,
 oD 38 (.pick 30 (.c (.b true)) 37),
 oD 4 (.mv 38)]
def Zbg.code:Code:=.seq (.region Zbg.r0) (.seq (.region Zbg.r1) (.ret))
def Zbg:Func:=⟨39,[.t 4],Zbg.code⟩
/-! muntin/sep.Lines -/
def ZaH.r0:List Oper:=[
 oD 2 (.mv (.c (.sn))),
 oD 3 (.mv (.c (.n 0)))]
def ZaH.r1:List Oper:=[
 oD 7 (.mv 0),
 oD 8 (.call (.c (.f 120 [])) [.t 7]),
 oD 6 (.mv 8),
 oD 9 (.ext 6 0),
 oD 10 (.ext 6 1),
 oD 4 (.alloc [.sn,.sn,.sn,.sn]),
 oN (.st 4 4 9),
 oD 5 (.mv 10)]
def ZaH.r2:List Oper:=[
 oD 11 (.mv 5),
 oD 12 (.eq true .sc 11 (.c (.n 0)))]
def ZaH.r3:List Oper:=[
 oD 13 (.mv 5),
 oD 2 (.mv (.c (.sn))),
 oD 3 (.mv 13)]
def ZaH.r4:List Oper:=[
 oD 14 (.ld true 4 4),
 oD 15 (.call (.c (.f 209 [])) [.t 14]),
 oD 2 (.mv 15),
 oD 3 (.mv (.c (.n 0)))]
def ZaH.code:Code:=.seq (.region ZaH.r0) (.seq (.region ZaH.r1) (.seq (.seq (.region ZaH.r2) (.cond 12 (.seq (.region ZaH.r3) (.ret)) (.skip))) (.seq (.region ZaH.r4) (.ret))))
def ZaH:Func:=⟨16,[.t 2,.t 3],ZaH.code⟩
/-! muntin/valid.outer -/
def ZN.r0:List Oper:=[
 oD 2 (.mv (.c (.n 0))),
 oD 3 (.mv (.c (.b false)))]
def ZN.r1:List Oper:=[
 oD 10 (.mv 0),
 oD 11 (.call (.c (.f 203 [])) [.t 10]),
 oD 9 (.mv 11),
 oD 12 (.ext 9 0),
 oD 13 (.ext 9 1),
 oD 4 (.mv 12),
 oD 5 (.mv 13)]
def ZN.r2:List Oper:=[
 oD 6 (.mv (.c (.n (-1))))]
def ZN.r3:List Oper:=[
 oD 14 (.mv 4),
 oD 15 (.len 14),
 oD 16 (.mv (.c (.n 0)))]
def ZN.r4:List Oper:=[
 oD 17 (.bin .lss 16 15)]
def ZN.r5:List Oper:=[
 oD 18 (.mv 16),
 oD 19 (.ixa 1 14 16),
 oD 20 (.ld false 1 19),
 oD 7 (.mv 18),
 oD 8 (.mv 20)]
def ZN.r6:List Oper:=[
 oD 21 (.mv 0),
 oD 22 (.mv 8),
 oD 23 (.call (.c (.f 204 [])) [.t 21,.t 22]),
 oD 24 (.call (.c (.f 219 [])) [.t 23])]
def ZN.r8:List Oper:=[
 oD 26 (.eq false .sc 24 (.c (.n 4))),
 oD 25 (.mv 26)]
def ZN.r9:List Oper:=[
 oD 28 (.eq false .sc 24 (.c (.n (-4)))),
 oD 27 (.mv 28)]
def ZN.r10:List Oper:=[
 oD 29 (.mv 6),
 oD 30 (.bin .geq 29 (.c (.n 0)))]
def ZN.r11:List Oper:=[
 oD 2 (.mv (.c (.n 0))),
 oD 3 (.mv (.c (.b false)))]
def ZN.r12:List Oper:=[
 oD 31 (.mv 7),
 oD 6 (.mv 31)]
def ZN.r7:List Oper:=[
 oD 2 (.mv (.c (.n 0))),
 oD 3 (.mv (.c (.b false)))]
def ZN.r13:List Oper:=[
 oD 32 (.bin .add 16 (.c (.n 1))),
 oD 16 (.mv 32)]
def ZN.l0:Code:=.seq (.region ZN.r4) (.seq (.cond 17 (.skip) (.exit 0)) (.seq (.block 1 (.seq (.region ZN.r5) (.seq (.region ZN.r6) (.block 2 (.seq (.region ZN.r8) (.cond 25 (.skip) (.seq (.region ZN.r9) (.cond 27 (.seq (.seq (.region ZN.r10) (.cond 30 (.seq (.region ZN.r11) (.ret)) (.skip))) (.region ZN.r12)) (.seq (.region ZN.r7) (.ret)))))))))) (.region ZN.r13)))
def ZN.r14:List Oper:=[
 oD 33 (.mv 6),
 oD 34 (.mv 6),
 oD 35 (.bin .geq 34 (.c (.n 0))),
 oD 2 (.mv 33),
 oD 3 (.mv 35)]
def ZN.code:Code:=.seq (.region ZN.r0) (.seq (.region ZN.r1) (.seq (.region ZN.r2) (.seq (.seq (.region ZN.r3) (.block 0 (.loop ZN.l0))) (.seq (.region ZN.r14) (.ret)))))
def ZN:Func:=⟨36,[.t 2,.t 3],ZN.code⟩
/-! muntin/face.Faces -/
def Zx.r0:List Oper:=[
 oD 2 (.mv (.c (.sn))),
 oD 3 (.mv (.c (.n 0)))]
def Zx.r1:List Oper:=[
 oD 12 (.mv 0),
 oD 13 (.call (.c (.f 66 [])) [.t 12]),
 oD 4 (.mv 13)]
def Zx.r2:List Oper:=[
 oD 14 (.mv 4),
 oD 15 (.eq true .sc 14 (.c (.n 0)))]
def Zx.r3:List Oper:=[
 oD 16 (.mv 4),
 oD 2 (.mv (.c (.sn))),
 oD 3 (.mv 16)]
def Zx.r4:List Oper:=[
 oD 5 (.mv (.c (.sn)))]
def Zx.r5:List Oper:=[
 oD 17 (.mkm),
 oD 6 (.mv 17)]
def Zx.r6:List Oper:=[
 oD 18 (.mv 0),
 oD 19 (.len 18),
 oD 20 (.mv (.c (.n 0)))]
def Zx.r7:List Oper:=[
 oD 21 (.bin .lss 20 19)]
def Zx.r8:List Oper:=[
 oD 22 (.mv 20),
 oD 7 (.mv 22)]
def Zx.r9:List Oper:=[
 oD 23 (.mv (.c (.n 0)))]
def Zx.r10:List Oper:=[
 oD 24 (.bin .lss 23 (.c (.n 4)))]
def Zx.r11:List Oper:=[
 oD 25 (.mv 23),
 oD 8 (.mv 25)]
def Zx.r12:List Oper:=[
 oD 26 (.mv 7),
 oD 27 (.mv 8),
 oD 28 (.build [.n 0,.n 0] [(0,1,.t 26),(1,1,.t 27)]),
 oD 9 (.alloc [.n 0,.n 0]),
 oN (.st 2 9 28)]
def Zx.r13:List Oper:=[
 oD 29 (.ld true 2 9),
 oD 30 (.mv 0),
 oD 31 (.call (.c (.f 220 [])) [.t 29,.t 30]),
 oD 32 (.un .not 31),
 oD 33 (.mv 32),
 ⟨(some 34),.mv 6,(some (33,false))⟩,
 ⟨(some 35),.ld true 2 9,(some (33,false))⟩,
 ⟨(some 36),.mlk [.i,.i] false (.b false) 34 35,(some (33,false))⟩,
 oD 37 (.pick 33 (.c (.b true)) 36)]
def Zx.r14:List Oper:=[
 oD 10 (.mv (.c (.sn)))]
def Zx.r15:List Oper:=[
 oD 38 (.ld true 2 9),
 oD 11 (.alloc [.n 0,.n 0]),
 oN (.st 2 11 38)]
def Zx.r16:List Oper:=[
 oD 39 (.mv 6),
 oD 40 (.ld true 2 11),
 oD 41 (.mlk [.i,.i] false (.b false) 39 40),
 oD 42 (.un .not 41)]
def Zx.r18:List Oper:=[
 oD 46 (.mv 6),
 oD 47 (.ld true 2 11),
 oN (.mup [.i,.i] 46 47 (.c (.b true)))]
def Zx.r19:List Oper:=[
 oD 48 (.mv 10),
 oD 49 (.ld true 2 11),
 oD 50 (.bsl 2 1 [.n 0,.n 0] [(0,2,.t 49)]),
 oD 51 (.app 2 16 48 50),
 oD 10 (.mv 51)]
def Zx.r20:List Oper:=[
 oD 52 (.ld true 2 11)]
def Zx.r21:List Oper:=[
 oD 11 (.alloc [.n 0,.n 0]),
 oN (.st 2 11 52)]
def Zx.r17:List Oper:=[
 oD 43 (.ld true 2 11),
 oD 44 (.mv 0),
 oD 45 (.call (.c (.f 221 [])) [.t 43,.t 44]),
 oN (.st 2 11 45)]
def Zx.l0:Code:=.seq (.seq (.region Zx.r16) (.cond 42 (.skip) (.exit 4))) (.seq (.block 5 (.seq (.region Zx.r18) (.region Zx.r19))) (.seq (.seq (.region Zx.r20) (.region Zx.r21)) (.region Zx.r17)))
def Zx.r22:List Oper:=[
 oD 53 (.mv 5),
 oD 54 (.mv 10),
 oD 55 (.bsl 1 1 [.sn] [(0,1,.t 54)]),
 oD 56 (.app 1 24 53 55),
 oD 5 (.mv 56)]
def Zx.r23:List Oper:=[
 oD 57 (.bin .add 23 (.c (.n 1))),
 oD 23 (.mv 57)]
def Zx.l1:Code:=.seq (.region Zx.r10) (.seq (.cond 24 (.skip) (.exit 2)) (.seq (.block 3 (.seq (.region Zx.r11) (.seq (.region Zx.r12) (.seq (.seq (.region Zx.r13) (.cond 37 (.exit 3) (.skip))) (.seq (.region Zx.r14) (.seq (.seq (.region Zx.r15) (.block 4 (.loop Zx.l0))) (.region Zx.r22))))))) (.region Zx.r23)))
def Zx.r24:List Oper:=[
 oD 58 (.bin .add 20 (.c (.n 1))),
 oD 20 (.mv 58)]
def Zx.l2:Code:=.seq (.region Zx.r7) (.seq (.cond 21 (.skip) (.exit 0)) (.seq (.block 1 (.seq (.region Zx.r8) (.seq (.region Zx.r9) (.block 2 (.loop Zx.l1))))) (.region Zx.r24)))
def Zx.r25:List Oper:=[
 oD 59 (.mv 5),
 oD 2 (.mv 59),
 oD 3 (.mv (.c (.n 0)))]
def Zx.code:Code:=.seq (.region Zx.r0) (.seq (.seq (.region Zx.r1) (.seq (.region Zx.r2) (.cond 15 (.seq (.region Zx.r3) (.ret)) (.skip)))) (.seq (.region Zx.r4) (.seq (.region Zx.r5) (.seq (.seq (.region Zx.r6) (.block 0 (.loop Zx.l2))) (.seq (.region Zx.r25) (.ret))))))
def Zx:Func:=⟨60,[.t 2,.t 3],Zx.code⟩
/-! muntin/face.Turns -/
def zl.r0:List Oper:=[
 oD 4 (.mv (.c (.sn)))]
def zl.r1:List Oper:=[
 oD 8 (.mv 1),
 oD 9 (.len 8),
 oD 10 (.mks 1 8 [.n 0] 9 9),
 oD 5 (.mv 10)]
def zl.r2:List Oper:=[
 oD 11 (.mv 0),
 oD 12 (.call (.c (.f 66 [])) [.t 11]),
 oD 13 (.eq true .sc 12 (.c (.n 0)))]
def zl.r3:List Oper:=[
 oD 14 (.mv 5),
 oD 4 (.mv 14)]
def zl.r4:List Oper:=[
 oD 15 (.mv 1),
 oD 16 (.len 15),
 oD 17 (.mv (.c (.n 0)))]
def zl.r5:List Oper:=[
 oD 18 (.bin .lss 17 16)]
def zl.r6:List Oper:=[
 oD 19 (.mv 17),
 oD 20 (.ixa 2 15 17),
 oD 21 (.ld true 2 20),
 oD 7 (.alloc [.n 0,.n 0]),
 oD 6 (.mv 19),
 oN (.st 2 7 21)]
def zl.r7:List Oper:=[
 oD 22 (.ld true 2 7),
 oD 23 (.mv 0),
 oD 24 (.call (.c (.f 220 [])) [.t 22,.t 23])]
def zl.r8:List Oper:=[
 oD 25 (.mv 5),
 oD 26 (.mv 6),
 oD 27 (.fa 1 7),
 oD 28 (.ld false 1 27),
 oD 29 (.ld true 2 7),
 oD 30 (.mv 0),
 oD 31 (.call (.c (.f 221 [])) [.t 29,.t 30]),
 oD 32 (.fld false 1 1 31),
 oD 33 (.call (.c (.f 222 [])) [.t 28,.t 32]),
 oD 34 (.ixa 1 25 26),
 oN (.st 1 34 33)]
def zl.r9:List Oper:=[
 oD 35 (.bin .add 17 (.c (.n 1))),
 oD 17 (.mv 35)]
def zl.l0:Code:=.seq (.region zl.r5) (.seq (.cond 18 (.skip) (.exit 0)) (.seq (.block 1 (.seq (.region zl.r6) (.seq (.region zl.r7) (.cond 24 (.draw zl.r8 [(3,4),(3,6)]) (.skip))))) (.region zl.r9)))
def zl.r10:List Oper:=[
 oD 36 (.mv 5),
 oD 4 (.mv 36)]
def zl.code:Code:=.seq (.region zl.r0) (.seq (.region zl.r1) (.seq (.seq (.region zl.r2) (.cond 13 (.seq (.region zl.r3) (.ret)) (.skip))) (.seq (.seq (.region zl.r4) (.block 0 (.loop zl.l0))) (.seq (.region zl.r10) (.ret)))))
def zl:Func:=⟨37,[.t 4],zl.code⟩
/-! muntin/check.Real -/
def zz.r0:List Oper:=[
 oD 4 (.mv (.c (.n 0)))]
def zz.r1:List Oper:=[
 oD 8 (.mv 0),
 oD 9 (.call (.c (.f 176 [])) [.t 8]),
 oD 5 (.mv 9)]
def zz.r2:List Oper:=[
 oD 10 (.mv 5),
 oD 11 (.eq true .sc 10 (.c (.n 0)))]
def zz.r3:List Oper:=[
 oD 12 (.mv 5),
 oD 4 (.mv 12)]
def zz.r4:List Oper:=[
 oD 14 (.mv 0),
 oD 15 (.mv 1),
 oD 16 (.call (.c (.f 133 [])) [.t 14,.t 15]),
 oD 13 (.mv 16),
 oD 17 (.ext 13 0),
 oD 18 (.ext 13 1),
 oD 6 (.mv 17),
 oD 7 (.mv 18)]
def zz.r5:List Oper:=[
 oD 19 (.mv 7),
 oD 20 (.eq true .sc 19 (.c (.n 0)))]
def zz.r6:List Oper:=[
 oD 21 (.mv 7),
 oD 4 (.mv 21)]
def zz.r7:List Oper:=[
 oD 22 (.mv 0),
 oD 23 (.mv 1),
 oD 24 (.call (.c (.f 225 [])) [.t 22,.t 23])]
def zz.r8:List Oper:=[
 oD 4 (.mv (.c (.n 14)))]
def zz.r9:List Oper:=[
 oD 4 (.mv (.c (.n 0)))]
def zz.code:Code:=.seq (.region zz.r0) (.seq (.seq (.region zz.r1) (.seq (.region zz.r2) (.cond 11 (.seq (.region zz.r3) (.ret)) (.skip)))) (.seq (.seq (.region zz.r4) (.seq (.region zz.r5) (.cond 20 (.seq (.region zz.r6) (.ret)) (.skip)))) (.seq (.seq (.region zz.r7) (.cond 24 (.seq (.region zz.r8) (.ret)) (.skip))) (.seq (.region zz.r9) (.ret)))))
def zz:Func:=⟨25,[.t 4],zz.code⟩
/-! muntin/sep.lines -/
def ZT.r0:List Oper:=[
 oD 1 (.box 0),
 oD 2 (.mv (.c (.sn)))]
def ZT.r1:List Oper:=[
 oD 3 (.mv (.c (.sn)))]
def ZT.r2:List Oper:=[
 oD 8 (.fa 2 1),
 oD 9 (.ld false 1 8),
 oD 10 (.len 9),
 oD 11 (.mv (.c (.n 0)))]
def ZT.r3:List Oper:=[
 oD 12 (.bin .lss 11 10)]
def ZT.r4:List Oper:=[
 oD 13 (.mv 11),
 oD 14 (.ixa 1 9 11),
 oD 15 (.ld false 1 14),
 oD 4 (.mv 13),
 oD 5 (.mv 15)]
def ZT.r5:List Oper:=[
 oD 16 (.mv 5),
 oD 17 (.len 16),
 oD 18 (.bin .gtr 17 (.c (.n 1)))]
def ZT.r6:List Oper:=[
 oD 19 (.mv 3),
 oD 20 (.mv 4),
 oD 21 (.build [.b false,.n 0] [(0,1,.c (.b true)),(1,1,.t 20)]),
 oD 22 (.bsl 2 1 [.b false,.n 0] [(0,2,.t 21)]),
 oD 23 (.app 2 16 19 22),
 oD 3 (.mv 23)]
def ZT.r7:List Oper:=[
 oD 24 (.bin .add 11 (.c (.n 1))),
 oD 11 (.mv 24)]
def ZT.l0:Code:=.seq (.region ZT.r3) (.seq (.cond 12 (.skip) (.exit 0)) (.seq (.block 1 (.seq (.region ZT.r4) (.seq (.region ZT.r5) (.cond 18 (.region ZT.r6) (.skip))))) (.region ZT.r7)))
def ZT.r8:List Oper:=[
 oD 25 (.fa 3 1),
 oD 26 (.ld false 1 25),
 oD 27 (.len 26),
 oD 28 (.mv (.c (.n 0)))]
def ZT.r9:List Oper:=[
 oD 29 (.bin .lss 28 27)]
def ZT.r10:List Oper:=[
 oD 30 (.mv 28),
 oD 31 (.ixa 1 26 28),
 oD 32 (.ld false 1 31),
 oD 6 (.mv 30),
 oD 7 (.mv 32)]
def ZT.r11:List Oper:=[
 oD 33 (.mv 7),
 oD 34 (.len 33),
 oD 35 (.bin .gtr 34 (.c (.n 1)))]
def ZT.r12:List Oper:=[
 oD 36 (.mv 3),
 oD 37 (.mv 6),
 oD 38 (.build [.b false,.n 0] [(0,1,.c (.b false)),(1,1,.t 37)]),
 oD 39 (.bsl 2 1 [.b false,.n 0] [(0,2,.t 38)]),
 oD 40 (.app 2 16 36 39),
 oD 3 (.mv 40)]
def ZT.r13:List Oper:=[
 oD 41 (.bin .add 28 (.c (.n 1))),
 oD 28 (.mv 41)]
def ZT.l1:Code:=.seq (.region ZT.r9) (.seq (.cond 29 (.skip) (.exit 2)) (.seq (.block 3 (.seq (.region ZT.r10) (.seq (.region ZT.r11) (.cond 35 (.region ZT.r12) (.skip))))) (.region ZT.r13)))
def ZT.r14:List Oper:=[
 oD 42 (.mv 3),
 oD 2 (.mv 42)]
def ZT.code:Code:=.seq (.region ZT.r0) (.seq (.region ZT.r1) (.seq (.seq (.region ZT.r2) (.block 0 (.loop ZT.l0))) (.seq (.seq (.region ZT.r8) (.block 2 (.loop ZT.l1))) (.seq (.region ZT.r14) (.ret)))))
def ZT:Func:=⟨43,[.t 2],ZT.code⟩
/-! muntin/face.Rotation -/
def ZY.r0:List Oper:=[
 oD 2 (.mv (.c (.n 0)))]
def ZY.r1:List Oper:=[
 oD 3 (.mv (.c (.n 0)))]
def ZY.r2:List Oper:=[
 oD 6 (.mv 0),
 oD 7 (.len 6),
 oD 8 (.mv (.c (.n 0)))]
def ZY.r3:List Oper:=[
 oD 9 (.bin .lss 8 7)]
def ZY.r4:List Oper:=[
 oD 10 (.ixa 1 6 8),
 oD 11 (.ld false 1 10),
 oD 5 (.mv 11)]
def ZY.r5:List Oper:=[
 oD 12 (.mv 5),
 oD 13 (.bin .geq 12 (.c (.n (-2)))),
 oD 14 (.mv 13),
 ⟨(some 15),.mv 5,(some (14,true))⟩,
 ⟨(some 16),.bin .leq 15 (.c (.n 1)),(some (14,true))⟩,
 oD 17 (.pick 14 16 (.c (.b false)))]
def ZY.r6:List Oper:=[
 oD 18 (.mv 3),
 oD 19 (.mv 5),
 oD 20 (.bin .add 18 19),
 oD 3 (.mv 20)]
def ZY.r7:List Oper:=[
 oD 21 (.bin .add 8 (.c (.n 1))),
 oD 8 (.mv 21)]
def ZY.l0:Code:=.seq (.region ZY.r3) (.seq (.cond 9 (.skip) (.exit 0)) (.seq (.block 1 (.seq (.region ZY.r4) (.seq (.region ZY.r5) (.cond 17 (.region ZY.r6) (.skip))))) (.region ZY.r7)))
def ZY.r8:List Oper:=[
 oD 22 (.mv 3),
 oD 2 (.mv 22)]
def ZY.code:Code:=.seq (.region ZY.r0) (.seq (.region ZY.r1) (.seq (.seq (.region ZY.r2) (.block 0 (.loop ZY.l0))) (.seq (.region ZY.r8) (.ret))))
def ZY:Func:=⟨23,[.t 2],ZY.code⟩
/-! (muntin/face.Dart).is -/
def ZaY.r0:List Oper:=[
 oD 2 (.box 0),
 oD 4 (.mv (.c (.b false)))]
def ZaY.r1:List Oper:=[
 oD 5 (.fa 0 2),
 oD 6 (.ld false 1 5),
 oD 7 (.bin .geq 6 (.c (.n 0))),
 oD 8 (.mv 7),
 ⟨(some 9),.fa 0 2,(some (8,true))⟩,
 ⟨(some 10),.ld false 1 9,(some (8,true))⟩,
 ⟨(some 11),.mv 1,(some (8,true))⟩,
 ⟨(some 12),.len 11,(some (8,true))⟩,
 ⟨(some 13),.bin .lss 10 12,(some (8,true))⟩,
 oD 14 (.pick 8 13 (.c (.b false))),
 oD 15 (.mv 14),
 ⟨(some 16),.fa 1 2,(some (15,true))⟩,
 ⟨(some 17),.ld false 1 16,(some (15,true))⟩,
 ⟨(some 18),.call (.c (.f 90 [])) [.t 17],(some (15,true))⟩,
 oD 19 (.pick 15 18 (.c (.b false))),
 oD 20 (.mv 19),
 ⟨(some 21),.mv 1,(some (20,true))⟩,
 ⟨(some 22),.fa 0 2,(some (20,true))⟩,
 ⟨(some 23),.ld false 1 22,(some (20,true))⟩,
 ⟨(some 24),.fa 1 2,(some (20,true))⟩,
 ⟨(some 25),.ld false 1 24,(some (20,true))⟩,
 ⟨(some 26),.ixa 8 21 23,(some (20,true))⟩,
 ⟨(some 27),.fa 0 26,(some (20,true))⟩,
 ⟨(some 28),.ixaa 1 4 27 25,(some (20,true))⟩,
 ⟨(some 29),.ld false 1 28,(some (20,true))⟩,
 ⟨(some 30),.bin .geq 29 (.c (.n 0)),(some (20,true))⟩,
 oD 31 (.pick 20 30 (.c (.b false))),
 oD 4 (.mv 31)]
def ZaY.code:Code:=.seq (.region ZaY.r0) (.seq (.draw ZaY.r1 [(18,20)]) (.ret))
def ZaY:Func:=⟨32,[.t 4],ZaY.code⟩
/-! (muntin/face.Dart).behind -/
def ZK.r0:List Oper:=[
 oD 2 (.box 0),
 oD 4 (.alloc [.n 0,.n 0])]
def ZK.r1:List Oper:=[
 oD 9 (.mv 1),
 oD 10 (.fa 0 2),
 oD 11 (.ld false 1 10),
 oD 12 (.fa 1 2),
 oD 13 (.ld false 1 12),
 oD 14 (.ixa 8 9 11),
 oD 15 (.fa 0 14),
 oD 16 (.ixaa 1 4 15 13),
 oD 17 (.ld false 1 16),
 oD 5 (.mv 17)]
def ZK.r2:List Oper:=[
 oD 18 (.build [.n 0,.n 0,.n 0,.n 0] [(0,1,.c (.n 1)),(1,1,.c (.n 0)),(2,1,.c (.n (-1))),(3,1,.c (.n 2))]),
 oD 19 (.mv (.c (.n 0)))]
def ZK.r3:List Oper:=[
 oD 20 (.bin .lss 19 (.c (.n 4)))]
def ZK.r4:List Oper:=[
 oD 21 (.ix false 1 4 18 19),
 oD 7 (.mv 21)]
def ZK.r5:List Oper:=[
 oD 22 (.mv 5),
 oD 23 (.fa 1 2),
 oD 24 (.ld false 1 23),
 oD 25 (.mv 7),
 oD 26 (.call (.c (.f 77 [])) [.t 24,.t 25]),
 oD 27 (.build [.n 0,.n 0] [(0,1,.t 22),(1,1,.t 26)]),
 oD 8 (.alloc [.n 0,.n 0]),
 oN (.st 2 8 27)]
def ZK.r6:List Oper:=[
 oD 28 (.ld true 2 8),
 oD 29 (.mv 1),
 oD 30 (.call (.c (.f 220 [])) [.t 28,.t 29])]
def ZK.r7:List Oper:=[
 oD 31 (.ld true 2 8),
 oN (.st 2 4 31)]
def ZK.r8:List Oper:=[
 oD 32 (.bin .add 19 (.c (.n 1))),
 oD 19 (.mv 32)]
def ZK.l0:Code:=.seq (.region ZK.r3) (.seq (.cond 20 (.skip) (.exit 0)) (.seq (.block 1 (.seq (.region ZK.r4) (.seq (.region ZK.r5) (.seq (.region ZK.r6) (.cond 30 (.seq (.region ZK.r7) (.ret)) (.skip)))))) (.region ZK.r8)))
def ZK.r9:List Oper:=[
 oD 33 (.ld true 2 2),
 oN (.st 2 4 33)]
def ZK.code:Code:=.seq (.region ZK.r0) (.seq (.draw ZK.r1 [(2,4)]) (.seq (.seq (.region ZK.r2) (.block 0 (.loop ZK.l0))) (.seq (.region ZK.r9) (.ret))))
def ZK:Func:=⟨34,[.cell 4 true 2],ZK.code⟩
/-! muntin/compass.Turn -/
def Zav.r0:List Oper:=[
 oD 4 (.mv (.c (.n 0)))]
def Zav.r1:List Oper:=[
 oD 5 (.mv 0),
 oD 6 (.call (.c (.f 90 [])) [.t 5]),
 oD 7 (.un .not 6),
 oD 8 (.mv 7),
 ⟨(some 9),.mv 1,(some (8,false))⟩,
 ⟨(some 10),.call (.c (.f 90 [])) [.t 9],(some (8,false))⟩,
 ⟨(some 11),.un .not 10,(some (8,false))⟩,
 oD 12 (.pick 8 (.c (.b true)) 11)]
def Zav.r2:List Oper:=[
 oD 4 (.mv (.c (.n 0)))]
def Zav.r3:List Oper:=[
 oD 13 (.build [.n 0,.n 0,.n 0,.n 0] [(0,1,.c (.n 0)),(1,1,.c (.n 1)),(2,1,.c (.n (-2))),(3,1,.c (.n (-1)))]),
 oD 14 (.mv 1),
 oD 15 (.mv 0),
 oD 16 (.bin .sub 14 15),
 oD 17 (.bin .add 16 (.c (.n 4))),
 oD 18 (.bin .rem 17 (.c (.n 4))),
 oD 19 (.ix false 1 4 13 18),
 oD 4 (.mv 19)]
def Zav.code:Code:=.seq (.region Zav.r0) (.seq (.seq (.region Zav.r1) (.cond 12 (.seq (.region Zav.r2) (.ret)) (.skip))) (.seq (.region Zav.r3) (.ret)))
def Zav:Func:=⟨20,[.t 4],Zav.code⟩
/-! muntin/check.crossed -/
def Z7.r0:List Oper:=[
 oD 4 (.mv (.c (.b false)))]
def Z7.r1:List Oper:=[
 oD 15 (.mv 0),
 oD 16 (.call (.c (.f 120 [])) [.t 15]),
 oD 14 (.mv 16),
 oD 17 (.ext 14 0),
 oD 18 (.ext 14 1),
 oD 5 (.alloc [.sn,.sn,.sn,.sn]),
 oN (.st 4 5 17),
 oD 6 (.mv 18)]
def Z7.r2:List Oper:=[
 oD 20 (.mv 0),
 oD 21 (.call (.c (.f 187 [])) [.t 20]),
 oD 19 (.mv 21),
 oD 22 (.ext 19 0),
 oD 23 (.ext 19 1),
 oD 7 (.mv 22),
 oD 8 (.mv 23)]
def Z7.r3:List Oper:=[
 oD 24 (.mv 7),
 oD 25 (.len 24),
 oD 26 (.mv (.c (.n 0)))]
def Z7.r4:List Oper:=[
 oD 27 (.bin .lss 26 25)]
def Z7.r5:List Oper:=[
 oD 28 (.mv 26),
 oD 29 (.ixa 2 24 26),
 oD 30 (.ld true 2 29),
 oD 10 (.alloc [.b false,.n 0]),
 oD 9 (.mv 28),
 oN (.st 2 10 30)]
def Z7.r6:List Oper:=[
 oD 31 (.ld true 4 5),
 oD 32 (.ld true 2 10),
 oD 33 (.mv 1),
 oD 34 (.call (.c (.f 231 [])) [.t 31,.t 32,.t 33]),
 oD 11 (.alloc [.n 0,.n 0,.n 0,.n 0]),
 oN (.st 4 11 34)]
def Z7.r7:List Oper:=[
 oD 35 (.mv 7),
 oD 36 (.mv 9),
 oD 37 (.bin .add 36 (.c (.n 1))),
 oD 38 (.slc 2 35 (some 37) none none),
 oD 39 (.len 38),
 oD 40 (.mv (.c (.n 0)))]
def Z7.r8:List Oper:=[
 oD 41 (.bin .lss 40 39)]
def Z7.r9:List Oper:=[
 oD 42 (.ixa 2 38 40),
 oD 43 (.ld true 2 42),
 oD 13 (.alloc [.b false,.n 0]),
 oN (.st 2 13 43)]
def Z7.r10:List Oper:=[
 oD 44 (.ld true 4 11),
 oD 45 (.ld true 4 5),
 oD 46 (.ld true 2 13),
 oD 47 (.mv 1),
 oD 48 (.call (.c (.f 231 [])) [.t 45,.t 46,.t 47]),
 oD 49 (.call (.c (.f 186 [])) [.t 44,.t 48]),
 oD 50 (.un .not 49),
 oD 51 (.mv 50),
 ⟨(some 52),.ld true 4 5,(some (51,true))⟩,
 ⟨(some 53),.fa 0 10,(some (51,true))⟩,
 ⟨(some 54),.ld false 1 53,(some (51,true))⟩,
 ⟨(some 55),.fa 1 10,(some (51,true))⟩,
 ⟨(some 56),.ld false 1 55,(some (51,true))⟩,
 ⟨(some 57),.fa 0 13,(some (51,true))⟩,
 ⟨(some 58),.ld false 1 57,(some (51,true))⟩,
 ⟨(some 59),.fa 1 13,(some (51,true))⟩,
 ⟨(some 60),.ld false 1 59,(some (51,true))⟩,
 ⟨(some 61),.call (.c (.f 123 [])) [.t 52,.t 54,.t 56,.t 58,.t 60],(some (51,true))⟩,
 ⟨(some 62),.un .not 61,(some (51,true))⟩,
 oD 63 (.pick 51 62 (.c (.b false)))]
def Z7.r11:List Oper:=[
 oD 4 (.mv (.c (.b true)))]
def Z7.r12:List Oper:=[
 oD 64 (.bin .add 40 (.c (.n 1))),
 oD 40 (.mv 64)]
def Z7.l0:Code:=.seq (.region Z7.r8) (.seq (.cond 41 (.skip) (.exit 2)) (.seq (.block 3 (.seq (.region Z7.r9) (.seq (.draw Z7.r10 [(0,1),(0,2),(1,2),(0,4),(8,10),(8,12),(10,12),(8,14),(10,14),(12,14),(8,16),(10,16),(12,16),(14,16)]) (.cond 63 (.seq (.region Z7.r11) (.ret)) (.skip))))) (.region Z7.r12)))
def Z7.r13:List Oper:=[
 oD 65 (.bin .add 26 (.c (.n 1))),
 oD 26 (.mv 65)]
def Z7.l1:Code:=.seq (.region Z7.r4) (.seq (.cond 27 (.skip) (.exit 0)) (.seq (.block 1 (.seq (.region Z7.r5) (.seq (.region Z7.r6) (.seq (.region Z7.r7) (.block 2 (.loop Z7.l0)))))) (.region Z7.r13)))
def Z7.r14:List Oper:=[
 oD 4 (.mv (.c (.b false)))]
def Z7.code:Code:=.seq (.region Z7.r0) (.seq (.region Z7.r1) (.seq (.region Z7.r2) (.seq (.seq (.region Z7.r3) (.block 0 (.loop Z7.l1))) (.seq (.region Z7.r14) (.ret)))))
def Z7:Func:=⟨66,[.t 4],Z7.code⟩
/-! muntin/check.span -/
def Zae.r0:List Oper:=[
 oD 3 (.box 0),
 oD 4 (.box 1),
 oD 6 (.alloc [.n 0,.n 0,.n 0,.n 0])]
def Zae.r1:List Oper:=[
 oD 9 (.fa 3 3),
 oD 10 (.ld false 1 9),
 oD 7 (.mv 10)]
def Zae.r2:List Oper:=[
 oD 11 (.fa 0 4),
 oD 12 (.ld false 1 11)]
def Zae.r3:List Oper:=[
 oD 13 (.fa 2 3),
 oD 14 (.ld false 1 13),
 oD 7 (.mv 14)]
def Zae.r4:List Oper:=[
 oD 15 (.mv 7),
 oD 16 (.fa 1 4),
 oD 17 (.ld false 1 16),
 oD 18 (.ixa 1 15 17),
 oD 19 (.ld false 1 18),
 oD 8 (.mv 19)]
def Zae.r5:List Oper:=[
 oD 20 (.mv 2),
 oD 21 (.mv 8),
 oD 22 (.ixa 1 21 (.c (.n 0))),
 oD 23 (.ld false 1 22),
 oD 24 (.ixa 2 20 23),
 oD 25 (.ld true 2 24),
 oD 26 (.mv 2),
 oD 27 (.mv 8),
 oD 28 (.mv 8),
 oD 29 (.len 28),
 oD 30 (.bin .sub 29 (.c (.n 1))),
 oD 31 (.ixa 1 27 30),
 oD 32 (.ld false 1 31),
 oD 33 (.ixa 2 26 32),
 oD 34 (.ld true 2 33),
 oD 35 (.build [.n 0,.n 0,.n 0,.n 0] [(0,2,.t 25),(2,2,.t 34)]),
 oN (.st 4 6 35)]
def Zae.code:Code:=.seq (.region Zae.r0) (.seq (.region Zae.r1) (.seq (.seq (.region Zae.r2) (.cond 12 (.region Zae.r3) (.skip))) (.seq (.region Zae.r4) (.seq (.draw Zae.r5 [(3,12),(5,12),(3,14),(5,14)]) (.ret)))))
def Zae:Func:=⟨36,[.cell 6 true 4],Zae.code⟩
/-! muntin/muntinlaw26.CheckTurns -/
def Zn.r0:List Oper:=[
 oD 3 (.box 0),
 oD 5 (.box 2),
 oD 6 (.mv (.c (.b false)))]
def Zn.r1:List Oper:=[
 oD 15 (.ld true 3 3),
 oD 16 (.call (.c (.f 28 [])) [.t 15,.c (.n 14)]),
 oD 14 (.mv 16),
 oD 17 (.ext 14 0),
 oD 18 (.ext 14 1),
 oD 7 (.mv 17),
 oD 8 (.mv 18)]
def Zn.r2:List Oper:=[
 oD 19 (.mv 8),
 oD 20 (.len 19),
 oD 21 (.mv (.c (.n 0)))]
def Zn.r3:List Oper:=[
 oD 22 (.bin .lss 21 20)]
def Zn.r4:List Oper:=[
 oD 23 (.mv 21),
 oD 9 (.mv 23)]
def Zn.r5:List Oper:=[
 oD 24 (.mv 9),
 oD 25 (.mv 1),
 oD 26 (.len 25),
 oD 27 (.bin .lss 24 26)]
def Zn.r6:List Oper:=[
 oD 28 (.mv 8),
 oD 29 (.mv 9),
 oD 30 (.ixa 2 28 29),
 oD 31 (.fa 0 30),
 oD 32 (.ld false 1 31),
 oD 33 (.mv 1),
 oD 34 (.mv 9),
 oD 35 (.ixa 2 33 34),
 oD 36 (.fa 0 35),
 oD 37 (.ld false 1 36),
 oD 38 (.bin .rem 37 (.c (.n 4))),
 oD 39 (.bin .add 32 38),
 oD 40 (.ixa 2 28 29),
 oD 41 (.fa 0 40),
 oN (.st 1 41 39)]
def Zn.r7:List Oper:=[
 oD 42 (.mv 8),
 oD 43 (.mv 9),
 oD 44 (.ixa 2 42 43),
 oD 45 (.fa 1 44),
 oD 46 (.ld false 1 45),
 oD 47 (.mv 1),
 oD 48 (.mv 9),
 oD 49 (.ixa 2 47 48),
 oD 50 (.fa 1 49),
 oD 51 (.ld false 1 50),
 oD 52 (.bin .rem 51 (.c (.n 4))),
 oD 53 (.bin .add 46 52),
 oD 54 (.ixa 2 42 43),
 oD 55 (.fa 1 54),
 oN (.st 1 55 53)]
def Zn.r8:List Oper:=[
 oD 56 (.bin .add 21 (.c (.n 1))),
 oD 21 (.mv 56)]
def Zn.l0:Code:=.seq (.region Zn.r3) (.seq (.cond 22 (.skip) (.exit 0)) (.seq (.block 1 (.seq (.region Zn.r4) (.seq (.region Zn.r5) (.cond 27 (.seq (.draw Zn.r6 [(4,9)]) (.draw Zn.r7 [(4,9)])) (.skip))))) (.region Zn.r8)))
def Zn.r9:List Oper:=[
 oD 57 (.mv 7),
 oD 58 (.mv 8),
 oD 59 (.call (.c (.f 208 [])) [.t 57,.t 58]),
 oD 10 (.mv 59)]
def Zn.r10:List Oper:=[
 oD 60 (.ixaa 1 3 5 (.c (.n 2))),
 oD 61 (.ld false 1 60),
 oD 62 (.bin .and 61 (.c (.i .i8 7))),
 oD 63 (.conv .i64 62),
 oD 64 (.bin .add (.c (.n 1)) 63),
 oD 11 (.mv 64)]
def Zn.r11:List Oper:=[
 oD 65 (.mv 8),
 oD 66 (.call (.c (.f 165 [])) [.t 65]),
 oD 12 (.mv 66)]
def Zn.r12:List Oper:=[
 oD 67 (.mv 12),
 oD 68 (.len 67),
 oD 69 (.mv (.c (.n 0)))]
def Zn.r13:List Oper:=[
 oD 70 (.bin .lss 69 68)]
def Zn.r14:List Oper:=[
 oD 71 (.mv 69),
 oD 13 (.mv 71)]
def Zn.r15:List Oper:=[
 oD 72 (.mv 12),
 oD 73 (.mv 13),
 oD 74 (.mv 11),
 oD 75 (.mv 12),
 oD 76 (.mv 13),
 oD 77 (.ixa 2 75 76),
 oD 78 (.fa 0 77),
 oD 79 (.ld false 1 78),
 oD 80 (.bin .mul 74 79),
 oD 81 (.ixaa 1 3 5 (.c (.n 0))),
 oD 82 (.ld false 1 81),
 oD 83 (.conv .i64 82),
 oD 84 (.bin .add 80 83),
 oD 85 (.mv 11),
 oD 86 (.mv 12),
 oD 87 (.mv 13),
 oD 88 (.ixa 2 86 87),
 oD 89 (.fa 1 88),
 oD 90 (.ld false 1 89),
 oD 91 (.bin .mul 85 90),
 oD 92 (.ixaa 1 3 5 (.c (.n 1))),
 oD 93 (.ld false 1 92),
 oD 94 (.conv .i64 93),
 oD 95 (.bin .add 91 94),
 oD 96 (.build [.n 0,.n 0] [(0,1,.t 84),(1,1,.t 95)]),
 oD 97 (.ixa 2 72 73),
 oN (.st 2 97 96)]
def Zn.r16:List Oper:=[
 oD 98 (.bin .add 69 (.c (.n 1))),
 oD 69 (.mv 98)]
def Zn.l1:Code:=.seq (.region Zn.r13) (.seq (.cond 70 (.skip) (.exit 2)) (.seq (.block 3 (.seq (.region Zn.r14) (.draw Zn.r15 [(7,10),(7,18),(10,18),(7,21),(10,21),(18,21)]))) (.region Zn.r16)))
def Zn.r17:List Oper:=[
 oD 99 (.call (.c (.f 185 [])) []),
 oD 100 (.mv 99),
 ⟨(some 101),.mv 7,(some (100,true))⟩,
 ⟨(some 102),.mv 12,(some (100,true))⟩,
 ⟨(some 103),.call (.c (.f 208 [])) [.t 101,.t 102],(some (100,true))⟩,
 ⟨(some 104),.mv 10,(some (100,true))⟩,
 ⟨(some 105),.eq false .sc 103 104,(some (100,true))⟩,
 oD 106 (.pick 100 105 (.c (.b false))),
 oD 107 (.mv 106),
 ⟨(some 108),.mv 7,(some (107,true))⟩,
 ⟨(some 109),.call (.c (.f 116 [])) [.t 108],(some (107,true))⟩,
 ⟨(some 110),.mv 8,(some (107,true))⟩,
 ⟨(some 111),.call (.c (.f 164 [])) [.t 110],(some (107,true))⟩,
 ⟨(some 112),.call (.c (.f 208 [])) [.t 109,.t 111],(some (107,true))⟩,
 ⟨(some 113),.mv 10,(some (107,true))⟩,
 ⟨(some 114),.eq false .sc 112 113,(some (107,true))⟩,
 oD 115 (.pick 107 114 (.c (.b false))),
 oD 6 (.mv 115)]
def Zn.code:Code:=.seq (.region Zn.r0) (.seq (.region Zn.r1) (.seq (.seq (.region Zn.r2) (.block 0 (.loop Zn.l0))) (.seq (.region Zn.r9) (.seq (.region Zn.r10) (.seq (.region Zn.r11) (.seq (.seq (.region Zn.r12) (.block 2 (.loop Zn.l1))) (.seq (.region Zn.r17) (.ret))))))))
def Zn:Func:=⟨116,[.t 6],Zn.code⟩
def G:Prog:=fun i=>match i with
  | 28=>some Zh
  | 29=>some Z5
  | 32=>some ZaZ
  | 46=>some ZJ
  | 53=>some zb
  | 63=>some Z6
  | 64=>some Zr
  | 65=>some Z2
  | 66=>some ZP
  | 67=>some ZC
  | 77=>some Zau
  | 78=>some zE
  | 82=>some zy
  | 83=>some ZA
  | 89=>some ZaT
  | 90=>some ZaX
  | 91=>some ZD
  | 97=>some ZaW
  | 98=>some zk
  | 116=>some Zw
  | 118=>some Zaa
  | 120=>some ZaG
  | 123=>some Zaf
  | 133=>some Z0
  | 136=>some ZR
  | 137=>some Zz
  | 140=>some zc
  | 141=>some Zar
  | 146=>some zr
  | 147=>some ZbB
  | 148=>some ZQ
  | 149=>some Za5
  | 151=>some Zy
  | 164=>some ZL
  | 165=>some zh
  | 176=>some zw
  | 185=>some zB
  | 186=>some Zbg
  | 187=>some ZaH
  | 201=>some ZN
  | 203=>some Zx
  | 204=>some zl
  | 208=>some zz
  | 209=>some ZT
  | 219=>some ZY
  | 220=>some ZaY
  | 221=>some ZK
  | 222=>some Zav
  | 225=>some Z7
  | 231=>some Zae
  | 252=>some Zn
  | _=>none
theorem ZcI:G 28 = some Zh:=rfl
theorem Zea:G 29 = some Z5:=rfl
theorem Zeb:G 32 = some ZaZ:=rfl
theorem ZcU:G 46 = some ZJ:=rfl
theorem ZcH:G 53 = some zb:=rfl
theorem Zcp:G 63 = some Z6:=rfl
theorem Zco:G 64 = some Zr:=rfl
theorem ZcJ:G 65 = some Z2:=rfl
theorem ZdZ:G 66 = some ZP:=rfl
theorem ZdN:G 67 = some ZC:=rfl
theorem Zdy:G 77 = some Zau:=rfl
theorem ZbK:G 78 = some zE:=rfl
theorem Zeu:G 82 = some zy:=rfl
theorem ZcA:G 83 = some ZA:=rfl
theorem Ze8:G 89 = some ZaT:=rfl
theorem Zdx:G 90 = some ZaX:=rfl
theorem Zcc:G 91 = some ZD:=rfl
theorem Zfx:G 97 = some ZaW:=rfl
theorem ZdU:G 98 = some zk:=rfl
theorem Zcw:G 116 = some Zw:=rfl
theorem Zcq:G 118 = some Zaa:=rfl
theorem Zfy:G 120 = some ZaG:=rfl
theorem ZcV:G 123 = some Zaf:=rfl
theorem ZdK:G 133 = some Z0:=rfl
theorem ZcL:G 136 = some ZR:=rfl
theorem Zec:G 137 = some Zz:=rfl
theorem ZcK:G 140 = some zc:=rfl
theorem Zc9:G 141 = some Zar:=rfl
theorem Zbt:G 146 = some zr:=rfl
theorem Ze7:G 147 = some ZbB:=rfl
theorem ZcT:G 148 = some ZQ:=rfl
theorem ZdL:G 149 = some Za5:=rfl
theorem Zb6:G 151 = some Zy:=rfl
theorem Zcb:G 164 = some ZL:=rfl
theorem ZbM:G 165 = some zh:=rfl
theorem ZdO:G 176 = some zw:=rfl
theorem Zc8:G 185 = some zB:=rfl
theorem ZdM:G 186 = some Zbg:=rfl
theorem Zev:G 187 = some ZaH:=rfl
theorem ZdP:G 201 = some ZN:=rfl
theorem ZdX:G 203 = some Zx:=rfl
theorem ZdY:G 204 = some zl:=rfl
theorem ZdV:G 208 = some zz:=rfl
theorem Zew:G 209 = some ZT:=rfl
theorem Zdn:G 219 = some ZY:=rfl
theorem Zd0:G 220 = some ZaY:=rfl
theorem ZcG:G 221 = some ZK:=rfl
theorem Zdz:G 222 = some Zav:=rfl
theorem Zdm:G 225 = some Z7:=rfl
theorem ZdW:G 231 = some Zae:=rfl
theorem ZbL:G 252 = some Zn:=rfl
end Mu
