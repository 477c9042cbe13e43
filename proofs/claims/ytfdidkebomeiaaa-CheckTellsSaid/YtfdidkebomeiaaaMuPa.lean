/- The functions of the program, as the evaluator has them: printed by a program; checked against the model's. -/
import Derived.Test.YtfdidkebomeiaaaMuE0
namespace Mu
instance (n:Nat):OfNat Opd n:=⟨.t n⟩
abbrev oD (d:Nat) (op:Op):Oper:=⟨some d,op,none⟩
abbrev oN (op:Op):Oper:=⟨none,op,none⟩
/-! muntin/muntinref10.Make -/
def Zm.r0:List Oper:=[
 oD 2 (.box 0),
 oD 4 (.mv (.c (.sn))),
 oD 5 (.mv (.c (.sn)))]
def Zm.r1:List Oper:=[
 oD 6 (.mv (.c (.sn)))]
def Zm.r2:List Oper:=[
 oD 7 (.mv (.c (.n 0)))]
def Zm.r3:List Oper:=[
 oD 18 (.mv 7),
 oD 19 (.fa 0 2),
 oD 20 (.ld false 1 19),
 oD 21 (.len 20),
 oD 22 (.bin .lss 18 21),
 oD 23 (.mv 22),
 ⟨(some 24),.mv 6,(some (23,true))⟩,
 ⟨(some 25),.len 24,(some (23,true))⟩,
 ⟨(some 26),.mv 1,(some (23,true))⟩,
 ⟨(some 27),.bin .lss 25 26,(some (23,true))⟩,
 oD 28 (.pick 23 27 (.c (.b false)))]
def Zm.r5:List Oper:=[
 oD 31 (.fa 0 2),
 oD 32 (.ld false 1 31),
 oD 33 (.mv 7),
 oD 34 (.ixa 1 32 33),
 oD 35 (.ld false 1 34),
 oD 36 (.conv .i64 35),
 oD 37 (.bin .rem 36 (.c (.n 8))),
 oD 38 (.fa 0 2),
 oD 39 (.ld false 1 38),
 oD 40 (.mv 7),
 oD 41 (.ixa 1 39 40),
 oD 42 (.ld false 1 41),
 oD 43 (.conv .i64 42),
 oD 44 (.bin .quo 43 (.c (.n 8))),
 oD 45 (.bin .rem 44 (.c (.n 8))),
 oD 46 (.build [.n 0,.n 0] [(0,1,.t 37),(1,1,.t 45)]),
 oD 8 (.alloc [.n 0,.n 0]),
 oN (.st 2 8 46)]
def Zm.r6:List Oper:=[
 oD 9 (.mv (.c (.b false)))]
def Zm.r7:List Oper:=[
 oD 10 (.mv (.c (.n 0)))]
def Zm.r8:List Oper:=[
 oD 47 (.mv 10),
 oD 48 (.mv 6),
 oD 49 (.len 48),
 oD 50 (.bin .lss 47 49)]
def Zm.r10:List Oper:=[
 oD 53 (.mv 9),
 oD 54 (.mv 53),
 ⟨(some 55),.mv 6,(some (54,false))⟩,
 ⟨(some 56),.mv 10,(some (54,false))⟩,
 ⟨(some 57),.ixa 2 55 56,(some (54,false))⟩,
 ⟨(some 58),.ld true 2 57,(some (54,false))⟩,
 ⟨(some 59),.ld true 2 8,(some (54,false))⟩,
 ⟨(some 60),.eq false (.fl [.i,.i]) 58 59,(some (54,false))⟩,
 oD 61 (.pick 54 (.c (.b true)) 60),
 oD 9 (.mv 61)]
def Zm.r9:List Oper:=[
 oD 51 (.mv 10),
 oD 52 (.bin .add 51 (.c (.n 1))),
 oD 10 (.mv 52)]
def Zm.l0:Code:=.seq (.seq (.region Zm.r8) (.cond 50 (.skip) (.exit 2))) (.seq (.block 3 (.draw Zm.r10 [(5,6)])) (.region Zm.r9))
def Zm.r11:List Oper:=[
 oD 62 (.mv 9),
 oD 63 (.un .not 62)]
def Zm.r12:List Oper:=[
 oD 64 (.mv 6),
 oD 65 (.ld true 2 8),
 oD 66 (.bsl 2 1 [.n 0,.n 0] [(0,2,.t 65)]),
 oD 67 (.app 2 16 64 66),
 oD 6 (.mv 67)]
def Zm.r4:List Oper:=[
 oD 29 (.mv 7),
 oD 30 (.bin .add 29 (.c (.n 1))),
 oD 7 (.mv 30)]
def Zm.l1:Code:=.seq (.seq (.region Zm.r3) (.cond 28 (.skip) (.exit 0))) (.seq (.block 1 (.seq (.draw Zm.r5 [(1,8),(4,8),(1,11),(4,11),(1,16),(4,16),(8,16),(11,16)]) (.seq (.region Zm.r6) (.seq (.seq (.region Zm.r7) (.block 2 (.loop Zm.l0))) (.seq (.region Zm.r11) (.cond 63 (.region Zm.r12) (.skip))))))) (.region Zm.r4))
def Zm.r13:List Oper:=[
 oD 68 (.mv 6),
 oD 69 (.len 68),
 oD 70 (.call (.c (.f 46 [])) [.t 69]),
 oD 11 (.mv 70)]
def Zm.r14:List Oper:=[
 oD 12 (.mv (.c (.n 0)))]
def Zm.r15:List Oper:=[
 oD 71 (.mv 12),
 oD 72 (.mv 6),
 oD 73 (.len 72),
 oD 74 (.bin .lss 71 73)]
def Zm.r17:List Oper:=[
 oD 13 (.mv (.c (.i .u8 3)))]
def Zm.r18:List Oper:=[
 oD 77 (.mv 12),
 oD 78 (.fa 1 2),
 oD 79 (.ld false 1 78),
 oD 80 (.len 79),
 oD 81 (.bin .lss 77 80)]
def Zm.r19:List Oper:=[
 oD 82 (.fa 1 2),
 oD 83 (.ld false 1 82),
 oD 84 (.mv 12),
 oD 85 (.ixa 1 83 84),
 oD 86 (.ld false 1 85),
 oD 13 (.mv 86)]
def Zm.r20:List Oper:=[
 oD 87 (.mv 12),
 oD 14 (.mv 87)]
def Zm.r21:List Oper:=[
 oD 88 (.mv 12),
 oD 89 (.fa 2 2),
 oD 90 (.ld false 1 89),
 oD 91 (.len 90),
 oD 92 (.bin .lss 88 91)]
def Zm.r22:List Oper:=[
 oD 93 (.fa 2 2),
 oD 94 (.ld false 1 93),
 oD 95 (.mv 12),
 oD 96 (.ixa 1 94 95),
 oD 97 (.ld false 1 96),
 oD 98 (.conv .i64 97),
 oD 14 (.mv 98)]
def Zm.r23:List Oper:=[
 oD 99 (.mv 14),
 oD 100 (.bin .lss 99 (.c (.n (-2))))]
def Zm.r24:List Oper:=[
 oD 101 (.mv 14),
 oD 102 (.un .neg 101),
 oD 14 (.mv 102)]
def Zm.r25:List Oper:=[
 oD 15 (.mv (.c (.n 0)))]
def Zm.r26:List Oper:=[
 oD 103 (.mv 15),
 oD 104 (.bin .lss 103 (.c (.n 2)))]
def Zm.r28:List Oper:=[
 oD 107 (.mv 6),
 oD 108 (.mv 12),
 oD 109 (.mv 15),
 oD 110 (.call (.c (.f 63 [])) [.t 107,.t 108,.t 109]),
 oD 16 (.mv 110)]
def Zm.r29:List Oper:=[
 oD 111 (.mv 13),
 oD 112 (.mv 15),
 oD 113 (.bin .shr 111 112),
 oD 114 (.bin .and 113 (.c (.i .u8 1))),
 oD 115 (.eq false .sc 114 (.c (.i .u8 0))),
 oD 116 (.mv 115),
 ⟨(some 117),.mv 16,(some (116,false))⟩,
 ⟨(some 118),.bin .lss 117 (.c (.n 0)),(some (116,false))⟩,
 oD 119 (.pick 116 (.c (.b true)) 118)]
def Zm.r30:List Oper:=[
 oD 120 (.mv 6),
 oD 121 (.mv 11),
 oD 122 (.mv 12),
 oD 123 (.mv 16),
 oD 124 (.call (.c (.f 64 [])) [.t 120,.t 121,.t 122,.t 123]),
 oD 17 (.mv 124)]
def Zm.r31:List Oper:=[
 oD 125 (.mv 17),
 oD 126 (.un .not 125)]
def Zm.r32:List Oper:=[
 oD 127 (.mv 11),
 oD 128 (.mv 12),
 oD 129 (.mv 15),
 oD 130 (.mv 16),
 oD 131 (.mv 14),
 oD 132 (.call (.c (.f 65 [])) [.t 127,.t 128,.t 129,.t 130,.t 131]),
 oD 11 (.mv 132)]
def Zm.r27:List Oper:=[
 oD 105 (.mv 15),
 oD 106 (.bin .add 105 (.c (.n 1))),
 oD 15 (.mv 106)]
def Zm.l2:Code:=.seq (.seq (.region Zm.r26) (.cond 104 (.skip) (.exit 6))) (.seq (.block 7 (.seq (.region Zm.r28) (.seq (.seq (.region Zm.r29) (.cond 119 (.exit 7) (.skip))) (.seq (.region Zm.r30) (.seq (.region Zm.r31) (.cond 126 (.region Zm.r32) (.skip))))))) (.region Zm.r27))
def Zm.r16:List Oper:=[
 oD 75 (.mv 12),
 oD 76 (.bin .add 75 (.c (.n 1))),
 oD 12 (.mv 76)]
def Zm.l3:Code:=.seq (.seq (.region Zm.r15) (.cond 74 (.skip) (.exit 4))) (.seq (.block 5 (.seq (.region Zm.r17) (.seq (.seq (.region Zm.r18) (.cond 81 (.region Zm.r19) (.skip))) (.seq (.region Zm.r20) (.seq (.seq (.region Zm.r21) (.cond 92 (.seq (.region Zm.r22) (.seq (.region Zm.r23) (.cond 100 (.region Zm.r24) (.skip)))) (.skip))) (.seq (.region Zm.r25) (.block 6 (.loop Zm.l2)))))))) (.region Zm.r16))
def Zm.r33:List Oper:=[
 oD 133 (.mv 11),
 oD 134 (.mv 6),
 oD 4 (.mv 133),
 oD 5 (.mv 134)]
def Zm.code:Code:=.seq (.region Zm.r0) (.seq (.region Zm.r1) (.seq (.seq (.region Zm.r2) (.block 0 (.loop Zm.l1))) (.seq (.region Zm.r13) (.seq (.seq (.region Zm.r14) (.block 4 (.loop Zm.l3))) (.seq (.region Zm.r33) (.ret))))))
def Zm:Func:=⟨135,[.t 4,.t 5],Zm.code⟩
/-! muntin/join.Parts -/
def ZR.r0:List Oper:=[
 oD 2 (.mv (.c (.sn))),
 oD 3 (.mv (.c (.n 0)))]
def ZR.r1:List Oper:=[
 oD 12 (.mv 0),
 oD 13 (.call (.c (.f 66 [])) [.t 12]),
 oD 4 (.mv 13)]
def ZR.r2:List Oper:=[
 oD 14 (.mv 4),
 oD 15 (.eq true .sc 14 (.c (.n 0)))]
def ZR.r3:List Oper:=[
 oD 16 (.mv 4),
 oD 2 (.mv (.c (.sn))),
 oD 3 (.mv 16)]
def ZR.r4:List Oper:=[
 oD 5 (.mv (.c (.sn)))]
def ZR.r5:List Oper:=[
 oD 17 (.mv 0),
 oD 18 (.len 17),
 oD 19 (.mks 1 1 [.b false] 18 18),
 oD 6 (.mv 19)]
def ZR.r6:List Oper:=[
 oD 20 (.mv 0),
 oD 21 (.len 20),
 oD 22 (.mv (.c (.n 0)))]
def ZR.r7:List Oper:=[
 oD 23 (.bin .lss 22 21)]
def ZR.r8:List Oper:=[
 oD 24 (.mv 22),
 oD 7 (.mv 24)]
def ZR.r9:List Oper:=[
 oD 25 (.mv 6),
 oD 26 (.mv 7),
 oD 27 (.ixa 1 25 26),
 oD 28 (.ld false 1 27)]
def ZR.r10:List Oper:=[
 oD 30 (.mv 0),
 oD 31 (.mv 7),
 oD 32 (.call (.c (.f 67 [])) [.t 30,.t 31]),
 oD 29 (.mv 32),
 oD 33 (.ext 29 0),
 oD 34 (.ext 29 1),
 oD 8 (.mv 33),
 oD 9 (.mv 34)]
def ZR.r11:List Oper:=[
 oD 35 (.bsl 1 0 [.n 0] []),
 oD 10 (.mv 35)]
def ZR.r12:List Oper:=[
 oD 36 (.mv 0),
 oD 37 (.len 36),
 oD 38 (.mv (.c (.n 0)))]
def ZR.r13:List Oper:=[
 oD 39 (.bin .lss 38 37)]
def ZR.r14:List Oper:=[
 oD 40 (.mv 38),
 oD 11 (.mv 40)]
def ZR.r15:List Oper:=[
 oD 41 (.mv 11),
 oD 42 (.mv 7),
 oD 43 (.eq false .sc 41 42),
 oD 44 (.mv 43),
 ⟨(some 45),.mv 9,(some (44,false))⟩,
 ⟨(some 46),.mv 11,(some (44,false))⟩,
 ⟨(some 47),.ixa 1 45 46,(some (44,false))⟩,
 ⟨(some 48),.ld false 1 47,(some (44,false))⟩,
 ⟨(some 49),.bin .geq 48 (.c (.n 0)),(some (44,false))⟩,
 oD 50 (.pick 44 (.c (.b true)) 49)]
def ZR.r16:List Oper:=[
 oD 51 (.mv 6),
 oD 52 (.mv 11),
 oD 53 (.ixa 1 51 52),
 oN (.st 1 53 (.c (.b true)))]
def ZR.r17:List Oper:=[
 oD 54 (.mv 10),
 oD 55 (.mv 11),
 oD 56 (.bsl 1 1 [.n 0] [(0,1,.t 55)]),
 oD 57 (.app 1 8 54 56),
 oD 10 (.mv 57)]
def ZR.r18:List Oper:=[
 oD 58 (.bin .add 38 (.c (.n 1))),
 oD 38 (.mv 58)]
def ZR.l0:Code:=.seq (.region ZR.r13) (.seq (.cond 39 (.skip) (.exit 2)) (.seq (.block 3 (.seq (.region ZR.r14) (.seq (.region ZR.r15) (.cond 50 (.seq (.region ZR.r16) (.region ZR.r17)) (.skip))))) (.region ZR.r18)))
def ZR.r19:List Oper:=[
 oD 59 (.mv 5),
 oD 60 (.mv 10),
 oD 61 (.bsl 1 1 [.sn] [(0,1,.t 60)]),
 oD 62 (.app 1 24 59 61),
 oD 5 (.mv 62)]
def ZR.r20:List Oper:=[
 oD 63 (.bin .add 22 (.c (.n 1))),
 oD 22 (.mv 63)]
def ZR.l1:Code:=.seq (.region ZR.r7) (.seq (.cond 23 (.skip) (.exit 0)) (.seq (.block 1 (.seq (.region ZR.r8) (.seq (.seq (.region ZR.r9) (.cond 28 (.exit 1) (.skip))) (.seq (.region ZR.r10) (.seq (.region ZR.r11) (.seq (.seq (.region ZR.r12) (.block 2 (.loop ZR.l0))) (.region ZR.r19))))))) (.region ZR.r20)))
def ZR.r21:List Oper:=[
 oD 64 (.mv 5),
 oD 2 (.mv 64),
 oD 3 (.mv (.c (.n 0)))]
def ZR.code:Code:=.seq (.region ZR.r0) (.seq (.seq (.region ZR.r1) (.seq (.region ZR.r2) (.cond 15 (.seq (.region ZR.r3) (.ret)) (.skip)))) (.seq (.region ZR.r4) (.seq (.region ZR.r5) (.seq (.seq (.region ZR.r6) (.block 0 (.loop ZR.l1))) (.seq (.region ZR.r21) (.ret))))))
def ZR:Func:=⟨65,[.t 2,.t 3],ZR.code⟩
/-! muntin/muntinref13.Parts -/
def Z7.r0:List Oper:=[
 oD 2 (.mv (.c (.sn)))]
def Z7.r1:List Oper:=[
 oD 9 (.mv 0),
 oD 10 (.len 9),
 oD 11 (.mks 1 1 [.b false] 10 10),
 oD 3 (.mv 11)]
def Z7.r2:List Oper:=[
 oD 4 (.mv (.c (.sn)))]
def Z7.r3:List Oper:=[
 oD 5 (.mv (.c (.n 0)))]
def Z7.r4:List Oper:=[
 oD 12 (.mv 5),
 oD 13 (.mv 0),
 oD 14 (.len 13),
 oD 15 (.bin .lss 12 14)]
def Z7.r6:List Oper:=[
 oD 18 (.mv 3),
 oD 19 (.mv 5),
 oD 20 (.ixa 1 18 19),
 oD 21 (.ld false 1 20)]
def Z7.r7:List Oper:=[
 oD 22 (.mv 0),
 oD 23 (.mv 5),
 oD 24 (.call (.c (.f 36 [])) [.t 22,.t 23]),
 oD 6 (.mv 24)]
def Z7.r8:List Oper:=[
 oD 7 (.mv (.c (.sn)))]
def Z7.r9:List Oper:=[
 oD 8 (.mv (.c (.n 0)))]
def Z7.r10:List Oper:=[
 oD 25 (.mv 8),
 oD 26 (.mv 0),
 oD 27 (.len 26),
 oD 28 (.bin .lss 25 27)]
def Z7.r12:List Oper:=[
 oD 31 (.mv 6),
 oD 32 (.mv 8),
 oD 33 (.ixa 1 31 32),
 oD 34 (.ld false 1 33),
 oD 35 (.bin .geq 34 (.c (.n 0)))]
def Z7.r13:List Oper:=[
 oD 36 (.mv 3),
 oD 37 (.mv 8),
 oD 38 (.ixa 1 36 37),
 oN (.st 1 38 (.c (.b true)))]
def Z7.r14:List Oper:=[
 oD 39 (.mv 7),
 oD 40 (.mv 8),
 oD 41 (.bsl 1 1 [.n 0] [(0,1,.t 40)]),
 oD 42 (.app 1 8 39 41),
 oD 7 (.mv 42)]
def Z7.r11:List Oper:=[
 oD 29 (.mv 8),
 oD 30 (.bin .add 29 (.c (.n 1))),
 oD 8 (.mv 30)]
def Z7.l0:Code:=.seq (.seq (.region Z7.r10) (.cond 28 (.skip) (.exit 2))) (.seq (.block 3 (.seq (.region Z7.r12) (.cond 35 (.seq (.region Z7.r13) (.region Z7.r14)) (.skip)))) (.region Z7.r11))
def Z7.r15:List Oper:=[
 oD 43 (.mv 4),
 oD 44 (.mv 7),
 oD 45 (.bsl 1 1 [.sn] [(0,1,.t 44)]),
 oD 46 (.app 1 24 43 45),
 oD 4 (.mv 46)]
def Z7.r5:List Oper:=[
 oD 16 (.mv 5),
 oD 17 (.bin .add 16 (.c (.n 1))),
 oD 5 (.mv 17)]
def Z7.l1:Code:=.seq (.seq (.region Z7.r4) (.cond 15 (.skip) (.exit 0))) (.seq (.block 1 (.seq (.seq (.region Z7.r6) (.cond 21 (.exit 1) (.skip))) (.seq (.region Z7.r7) (.seq (.region Z7.r8) (.seq (.seq (.region Z7.r9) (.block 2 (.loop Z7.l0))) (.region Z7.r15)))))) (.region Z7.r5))
def Z7.r16:List Oper:=[
 oD 47 (.mv 4),
 oD 2 (.mv 47)]
def Z7.code:Code:=.seq (.region Z7.r0) (.seq (.region Z7.r1) (.seq (.region Z7.r2) (.seq (.seq (.region Z7.r3) (.block 0 (.loop Z7.l1))) (.seq (.region Z7.r16) (.ret)))))
def Z7:Func:=⟨48,[.t 2],Z7.code⟩
/-! muntin/join.Whole -/
def ZbU.r0:List Oper:=[
 oD 2 (.mv (.c (.b false)))]
def ZbU.r1:List Oper:=[
 oD 6 (.mv 0),
 oD 7 (.call (.c (.f 29 [])) [.t 6]),
 oD 5 (.mv 7),
 oD 8 (.ext 5 0),
 oD 9 (.ext 5 1),
 oD 3 (.mv 8),
 oD 4 (.mv 9)]
def ZbU.r2:List Oper:=[
 oD 10 (.mv 4),
 oD 11 (.eq false .sc 10 (.c (.n 0))),
 oD 12 (.mv 11),
 ⟨(some 13),.mv 3,(some (12,true))⟩,
 ⟨(some 14),.len 13,(some (12,true))⟩,
 ⟨(some 15),.eq false .sc 14 (.c (.n 1)),(some (12,true))⟩,
 oD 16 (.pick 12 15 (.c (.b false))),
 oD 2 (.mv 16)]
def ZbU.code:Code:=.seq (.region ZbU.r0) (.seq (.region ZbU.r1) (.seq (.region ZbU.r2) (.ret)))
def ZbU:Func:=⟨17,[.t 2],ZbU.code⟩
/-! muntin/muntinref10.Check -/
def Z1.r0:List Oper:=[
 oD 2 (.mv (.c (.n 0)))]
def Z1.r1:List Oper:=[
 oD 7 (.mv 0),
 oD 8 (.len 7),
 oD 9 (.bin .gtr 8 (.c (.n 4096)))]
def Z1.r2:List Oper:=[
 oD 2 (.mv (.c (.n 6)))]
def Z1.r3:List Oper:=[
 oD 3 (.mv (.c (.n 0)))]
def Z1.r4:List Oper:=[
 oD 10 (.mv 3),
 oD 11 (.mv 0),
 oD 12 (.len 11),
 oD 13 (.bin .lss 10 12)]
def Z1.r6:List Oper:=[
 oD 4 (.mv (.c (.n 0)))]
def Z1.r7:List Oper:=[
 oD 16 (.mv 4),
 oD 17 (.bin .lss 16 (.c (.n 4)))]
def Z1.r9:List Oper:=[
 oD 20 (.mv 0),
 oD 21 (.mv 3),
 oD 22 (.mv 4),
 oD 23 (.ixa 8 20 21),
 oD 24 (.fa 0 23),
 oD 25 (.ixaa 1 4 24 22),
 oD 26 (.ld false 1 25),
 oD 5 (.mv 26)]
def Z1.r10:List Oper:=[
 oD 27 (.mv 0),
 oD 28 (.mv 3),
 oD 29 (.mv 4),
 oD 30 (.ixa 8 27 28),
 oD 31 (.fa 4 30),
 oD 32 (.ixaa 1 4 31 29),
 oD 33 (.ld false 1 32),
 oD 6 (.mv 33)]
def Z1.r11:List Oper:=[
 oD 34 (.mv 5),
 oD 35 (.eq false .sc 34 (.c (.n (-1))))]
def Z1.r12:List Oper:=[
 oD 36 (.mv 6),
 oD 37 (.eq true .sc 36 (.c (.n 0)))]
def Z1.r13:List Oper:=[
 oD 2 (.mv (.c (.n 9)))]
def Z1.r14:List Oper:=[
 oD 38 (.mv 5),
 oD 39 (.bin .lss 38 (.c (.n 0))),
 oD 40 (.mv 39),
 ⟨(some 41),.mv 5,(some (40,false))⟩,
 ⟨(some 42),.mv 0,(some (40,false))⟩,
 ⟨(some 43),.len 42,(some (40,false))⟩,
 ⟨(some 44),.bin .geq 41 43,(some (40,false))⟩,
 oD 45 (.pick 40 (.c (.b true)) 44),
 oD 46 (.mv 45),
 ⟨(some 47),.mv 5,(some (46,false))⟩,
 ⟨(some 48),.mv 3,(some (46,false))⟩,
 ⟨(some 49),.eq false .sc 47 48,(some (46,false))⟩,
 oD 50 (.pick 46 (.c (.b true)) 49)]
def Z1.r15:List Oper:=[
 oD 2 (.mv (.c (.n 3)))]
def Z1.r16:List Oper:=[
 oD 51 (.mv 0),
 oD 52 (.mv 5),
 oD 53 (.mv 4),
 oD 54 (.bin .add 53 (.c (.n 2))),
 oD 55 (.bin .rem 54 (.c (.n 4))),
 oD 56 (.ixa 8 51 52),
 oD 57 (.fa 0 56),
 oD 58 (.ixaa 1 4 57 55),
 oD 59 (.ld false 1 58),
 oD 60 (.mv 3),
 oD 61 (.eq true .sc 59 60),
 oD 62 (.mv 61),
 ⟨(some 63),.mv 0,(some (62,false))⟩,
 ⟨(some 64),.mv 5,(some (62,false))⟩,
 ⟨(some 65),.mv 4,(some (62,false))⟩,
 ⟨(some 66),.bin .add 65 (.c (.n 2)),(some (62,false))⟩,
 ⟨(some 67),.bin .rem 66 (.c (.n 4)),(some (62,false))⟩,
 ⟨(some 68),.ixa 8 63 64,(some (62,false))⟩,
 ⟨(some 69),.fa 4 68,(some (62,false))⟩,
 ⟨(some 70),.ixaa 1 4 69 67,(some (62,false))⟩,
 ⟨(some 71),.ld false 1 70,(some (62,false))⟩,
 ⟨(some 72),.mv 6,(some (62,false))⟩,
 ⟨(some 73),.eq true .sc 71 72,(some (62,false))⟩,
 oD 74 (.pick 62 (.c (.b true)) 73),
 oD 75 (.mv 74),
 ⟨(some 76),.mv 6,(some (75,false))⟩,
 ⟨(some 77),.bin .lss 76 (.c (.n (-2))),(some (75,false))⟩,
 oD 78 (.pick 75 (.c (.b true)) 77)]
def Z1.r17:List Oper:=[
 oD 2 (.mv (.c (.n 9)))]
def Z1.r8:List Oper:=[
 oD 18 (.mv 4),
 oD 19 (.bin .add 18 (.c (.n 1))),
 oD 4 (.mv 19)]
def Z1.l0:Code:=.seq (.seq (.region Z1.r7) (.cond 17 (.skip) (.exit 2))) (.seq (.block 3 (.seq (.region Z1.r9) (.seq (.region Z1.r10) (.seq (.seq (.region Z1.r11) (.cond 35 (.seq (.seq (.region Z1.r12) (.cond 37 (.seq (.region Z1.r13) (.ret)) (.skip))) (.exit 3)) (.skip))) (.seq (.seq (.region Z1.r14) (.cond 50 (.seq (.region Z1.r15) (.ret)) (.skip))) (.seq (.region Z1.r16) (.cond 78 (.seq (.region Z1.r17) (.ret)) (.skip)))))))) (.region Z1.r8))
def Z1.r5:List Oper:=[
 oD 14 (.mv 3),
 oD 15 (.bin .add 14 (.c (.n 1))),
 oD 3 (.mv 15)]
def Z1.l1:Code:=.seq (.seq (.region Z1.r4) (.cond 13 (.skip) (.exit 0))) (.seq (.block 1 (.seq (.region Z1.r6) (.block 2 (.loop Z1.l0)))) (.region Z1.r5))
def Z1.r18:List Oper:=[
 oD 2 (.mv (.c (.n 0)))]
def Z1.code:Code:=.seq (.region Z1.r0) (.seq (.seq (.region Z1.r1) (.cond 9 (.seq (.region Z1.r2) (.ret)) (.skip))) (.seq (.seq (.region Z1.r3) (.block 0 (.loop Z1.l1))) (.seq (.region Z1.r18) (.ret))))
def Z1:Func:=⟨79,[.t 2],Z1.code⟩
/-! muntin/muntinref13.Far -/
def Z3.r0:List Oper:=[
 oD 4 (.mv (.c (.sn)))]
def Z3.r1:List Oper:=[
 oD 11 (.mv 0),
 oD 12 (.len 11),
 oD 13 (.mks 1 8 [.n 0] 12 12),
 oD 5 (.mv 13)]
def Z3.r2:List Oper:=[
 oD 6 (.mv (.c (.n 0)))]
def Z3.r3:List Oper:=[
 oD 14 (.mv 6),
 oD 15 (.mv 0),
 oD 16 (.len 15),
 oD 17 (.bin .lss 14 16)]
def Z3.r5:List Oper:=[
 oD 20 (.mv 5),
 oD 21 (.mv 6),
 oD 22 (.ixa 1 20 21),
 oN (.st 1 22 (.c (.n (-1))))]
def Z3.r4:List Oper:=[
 oD 18 (.mv 6),
 oD 19 (.bin .add 18 (.c (.n 1))),
 oD 6 (.mv 19)]
def Z3.l0:Code:=.seq (.seq (.region Z3.r3) (.cond 17 (.skip) (.exit 0))) (.seq (.block 1 (.region Z3.r5)) (.region Z3.r4))
def Z3.r6:List Oper:=[
 oD 23 (.mv 5),
 oD 24 (.mv 1),
 oD 25 (.ixa 1 23 24),
 oN (.st 1 25 (.c (.n 0)))]
def Z3.r7:List Oper:=[
 oD 7 (.mv (.c (.n 0)))]
def Z3.r8:List Oper:=[
 oD 26 (.mv 7),
 oD 27 (.mv 0),
 oD 28 (.len 27),
 oD 29 (.bin .lss 26 28)]
def Z3.r10:List Oper:=[
 oD 8 (.mv (.c (.n 0)))]
def Z3.r11:List Oper:=[
 oD 32 (.mv 8),
 oD 33 (.mv 0),
 oD 34 (.len 33),
 oD 35 (.bin .lss 32 34)]
def Z3.r13:List Oper:=[
 oD 9 (.mv (.c (.n 0)))]
def Z3.r14:List Oper:=[
 oD 38 (.mv 9),
 oD 39 (.bin .lss 38 (.c (.n 4)))]
def Z3.r16:List Oper:=[
 oD 42 (.mv 0),
 oD 43 (.mv 8),
 oD 44 (.mv 9),
 oD 45 (.ixa 8 42 43),
 oD 46 (.fa 0 45),
 oD 47 (.ixaa 1 4 46 44),
 oD 48 (.ld false 1 47),
 oD 10 (.mv 48)]
def Z3.r17:List Oper:=[
 oD 49 (.mv 5),
 oD 50 (.mv 8),
 oD 51 (.ixa 1 49 50),
 oD 52 (.ld false 1 51),
 oD 53 (.mv 7),
 oD 54 (.eq false .sc 52 53),
 oD 55 (.mv 54),
 ⟨(some 56),.mv 10,(some (55,true))⟩,
 ⟨(some 57),.bin .geq 56 (.c (.n 0)),(some (55,true))⟩,
 oD 58 (.pick 55 57 (.c (.b false))),
 oD 59 (.mv 58),
 ⟨(some 60),.mv 5,(some (59,true))⟩,
 ⟨(some 61),.mv 10,(some (59,true))⟩,
 ⟨(some 62),.mx [.t 61,.c (.n 0)],(some (59,true))⟩,
 ⟨(some 63),.ixa 1 60 62,(some (59,true))⟩,
 ⟨(some 64),.ld false 1 63,(some (59,true))⟩,
 ⟨(some 65),.bin .lss 64 (.c (.n 0)),(some (59,true))⟩,
 oD 66 (.pick 59 65 (.c (.b false)))]
def Z3.r18:List Oper:=[
 oD 67 (.mv 5),
 oD 68 (.mv 10),
 oD 69 (.mv 7),
 oD 70 (.bin .add 69 (.c (.n 1))),
 oD 71 (.ixa 1 67 68),
 oN (.st 1 71 70)]
def Z3.r15:List Oper:=[
 oD 40 (.mv 9),
 oD 41 (.bin .add 40 (.c (.n 1))),
 oD 9 (.mv 41)]
def Z3.l1:Code:=.seq (.seq (.region Z3.r14) (.cond 39 (.skip) (.exit 6))) (.seq (.block 7 (.seq (.region Z3.r16) (.seq (.region Z3.r17) (.cond 66 (.region Z3.r18) (.skip))))) (.region Z3.r15))
def Z3.r12:List Oper:=[
 oD 36 (.mv 8),
 oD 37 (.bin .add 36 (.c (.n 1))),
 oD 8 (.mv 37)]
def Z3.l2:Code:=.seq (.seq (.region Z3.r11) (.cond 35 (.skip) (.exit 4))) (.seq (.block 5 (.seq (.region Z3.r13) (.block 6 (.loop Z3.l1)))) (.region Z3.r12))
def Z3.r9:List Oper:=[
 oD 30 (.mv 7),
 oD 31 (.bin .add 30 (.c (.n 1))),
 oD 7 (.mv 31)]
def Z3.l3:Code:=.seq (.seq (.region Z3.r8) (.cond 29 (.skip) (.exit 2))) (.seq (.block 3 (.seq (.region Z3.r10) (.block 4 (.loop Z3.l2)))) (.region Z3.r9))
def Z3.r19:List Oper:=[
 oD 72 (.mv 5),
 oD 4 (.mv 72)]
def Z3.code:Code:=.seq (.region Z3.r0) (.seq (.region Z3.r1) (.seq (.seq (.region Z3.r2) (.block 0 (.loop Z3.l0))) (.seq (.region Z3.r6) (.seq (.seq (.region Z3.r7) (.block 2 (.loop Z3.l3))) (.seq (.region Z3.r19) (.ret))))))
def Z3:Func:=⟨73,[.t 4],Z3.code⟩
/-! muntin/muntinref10.New -/
def zl.r0:List Oper:=[
 oD 2 (.mv (.c (.sn)))]
def zl.r1:List Oper:=[
 oD 6 (.mv 0),
 oD 7 (.mks 8 64 [.n 0,.n 0,.n 0,.n 0,.n 0,.n 0,.n 0,.n 0] 6 6),
 oD 3 (.mv 7)]
def zl.r2:List Oper:=[
 oD 4 (.mv (.c (.n 0)))]
def zl.r3:List Oper:=[
 oD 8 (.mv 4),
 oD 9 (.mv 0),
 oD 10 (.bin .lss 8 9)]
def zl.r5:List Oper:=[
 oD 5 (.mv (.c (.n 0)))]
def zl.r6:List Oper:=[
 oD 13 (.mv 5),
 oD 14 (.bin .lss 13 (.c (.n 4)))]
def zl.r8:List Oper:=[
 oD 17 (.mv 3),
 oD 18 (.mv 4),
 oD 19 (.mv 5),
 oD 20 (.ixa 8 17 18),
 oD 21 (.fa 0 20),
 oD 22 (.ixaa 1 4 21 19),
 oN (.st 1 22 (.c (.n (-1))))]
def zl.r7:List Oper:=[
 oD 15 (.mv 5),
 oD 16 (.bin .add 15 (.c (.n 1))),
 oD 5 (.mv 16)]
def zl.l0:Code:=.seq (.seq (.region zl.r6) (.cond 14 (.skip) (.exit 2))) (.seq (.block 3 (.region zl.r8)) (.region zl.r7))
def zl.r4:List Oper:=[
 oD 11 (.mv 4),
 oD 12 (.bin .add 11 (.c (.n 1))),
 oD 4 (.mv 12)]
def zl.l1:Code:=.seq (.seq (.region zl.r3) (.cond 10 (.skip) (.exit 0))) (.seq (.block 1 (.seq (.region zl.r5) (.block 2 (.loop zl.l0)))) (.region zl.r4))
def zl.r9:List Oper:=[
 oD 23 (.mv 3),
 oD 2 (.mv 23)]
def zl.code:Code:=.seq (.region zl.r0) (.seq (.region zl.r1) (.seq (.seq (.region zl.r2) (.block 0 (.loop zl.l1))) (.seq (.region zl.r9) (.ret))))
def zl:Func:=⟨24,[.t 2],zl.code⟩
/-! muntin/muntinref10.Join -/
def zR.r0:List Oper:=[
 oD 10 (.mv (.c (.sn))),
 oD 11 (.mv (.c (.n 0)))]
def zR.r1:List Oper:=[
 oD 13 (.mv 1),
 oD 14 (.bin .lss 13 (.c (.n 0))),
 oD 15 (.mv 14),
 ⟨(some 16),.mv 1,(some (15,false))⟩,
 ⟨(some 17),.mv 0,(some (15,false))⟩,
 ⟨(some 18),.len 17,(some (15,false))⟩,
 ⟨(some 19),.bin .geq 16 18,(some (15,false))⟩,
 oD 20 (.pick 15 (.c (.b true)) 19),
 oD 21 (.mv 20),
 ⟨(some 22),.mv 3,(some (21,false))⟩,
 ⟨(some 23),.bin .lss 22 (.c (.n 0)),(some (21,false))⟩,
 oD 24 (.pick 21 (.c (.b true)) 23),
 oD 25 (.mv 24),
 ⟨(some 26),.mv 3,(some (25,false))⟩,
 ⟨(some 27),.mv 0,(some (25,false))⟩,
 ⟨(some 28),.len 27,(some (25,false))⟩,
 ⟨(some 29),.bin .geq 26 28,(some (25,false))⟩,
 oD 30 (.pick 25 (.c (.b true)) 29),
 oD 31 (.mv 30),
 ⟨(some 32),.mv 1,(some (31,false))⟩,
 ⟨(some 33),.mv 3,(some (31,false))⟩,
 ⟨(some 34),.eq false .sc 32 33,(some (31,false))⟩,
 oD 35 (.pick 31 (.c (.b true)) 34),
 oD 36 (.mv 35),
 ⟨(some 37),.mv 2,(some (36,false))⟩,
 ⟨(some 38),.bin .lss 37 (.c (.n 0)),(some (36,false))⟩,
 oD 39 (.pick 36 (.c (.b true)) 38),
 oD 40 (.mv 39),
 ⟨(some 41),.mv 2,(some (40,false))⟩,
 ⟨(some 42),.bin .gtr 41 (.c (.n 3)),(some (40,false))⟩,
 oD 43 (.pick 40 (.c (.b true)) 42),
 oD 44 (.mv 43),
 ⟨(some 45),.mv 4,(some (44,false))⟩,
 ⟨(some 46),.bin .lss 45 (.c (.n (-2))),(some (44,false))⟩,
 oD 47 (.pick 44 (.c (.b true)) 46)]
def zR.r2:List Oper:=[
 oD 48 (.mv 0),
 oD 10 (.mv 48),
 oD 11 (.mv (.c (.n 2)))]
def zR.r3:List Oper:=[
 oD 49 (.mv 0),
 oD 50 (.mv 1),
 oD 51 (.mv 2),
 oD 52 (.ixa 8 49 50),
 oD 53 (.fa 0 52),
 oD 54 (.ixaa 1 4 53 51),
 oD 55 (.ld false 1 54),
 oD 56 (.eq true .sc 55 (.c (.n (-1)))),
 oD 57 (.mv 56),
 ⟨(some 58),.mv 0,(some (57,false))⟩,
 ⟨(some 59),.mv 3,(some (57,false))⟩,
 ⟨(some 60),.mv 2,(some (57,false))⟩,
 ⟨(some 61),.bin .add 60 (.c (.n 2)),(some (57,false))⟩,
 ⟨(some 62),.bin .rem 61 (.c (.n 4)),(some (57,false))⟩,
 ⟨(some 63),.ixa 8 58 59,(some (57,false))⟩,
 ⟨(some 64),.fa 0 63,(some (57,false))⟩,
 ⟨(some 65),.ixaa 1 4 64 62,(some (57,false))⟩,
 ⟨(some 66),.ld false 1 65,(some (57,false))⟩,
 ⟨(some 67),.eq true .sc 66 (.c (.n (-1))),(some (57,false))⟩,
 oD 68 (.pick 57 (.c (.b true)) 67)]
def zR.r4:List Oper:=[
 oD 69 (.mv 0),
 oD 10 (.mv 69),
 oD 11 (.mv (.c (.n 9)))]
def zR.r5:List Oper:=[
 oD 70 (.mv 0),
 oD 71 (.mv 1),
 oD 72 (.mv 2),
 oD 73 (.mv 3),
 oD 74 (.mv 4),
 oD 75 (.call (.c (.f 65 [])) [.t 70,.t 71,.t 72,.t 73,.t 74]),
 oD 12 (.mv 75)]
def zR.r6:List Oper:=[
 oD 76 (.mv 12),
 oD 10 (.mv 76),
 oD 11 (.mv (.c (.n 0)))]
def zR.code:Code:=.seq (.region zR.r0) (.seq (.seq (.region zR.r1) (.cond 47 (.seq (.region zR.r2) (.ret)) (.skip))) (.seq (.seq (.region zR.r3) (.cond 68 (.seq (.region zR.r4) (.ret)) (.skip))) (.seq (.region zR.r5) (.seq (.region zR.r6) (.ret)))))
def zR:Func:=⟨77,[.t 10,.t 11],zR.code⟩
/-! muntin/muntinref10.Nearest -/
def ZS.r0:List Oper:=[
 oD 6 (.mv (.c (.n 0)))]
def ZS.r1:List Oper:=[
 oD 7 (.mv (.c (.n (-1))))]
def ZS.r2:List Oper:=[
 oD 8 (.mv (.c (.n 0)))]
def ZS.r3:List Oper:=[
 oD 9 (.mv 8),
 oD 10 (.mv 0),
 oD 11 (.len 10),
 oD 12 (.bin .lss 9 11)]
def ZS.r5:List Oper:=[
 oD 15 (.mv 2),
 oD 16 (.eq false .sc 15 (.c (.n 0))),
 oD 17 (.mv 16),
 ⟨(some 18),.mv 0,(some (17,true))⟩,
 ⟨(some 19),.mv 8,(some (17,true))⟩,
 ⟨(some 20),.ixa 2 18 19,(some (17,true))⟩,
 ⟨(some 21),.fa 1 20,(some (17,true))⟩,
 ⟨(some 22),.ld false 1 21,(some (17,true))⟩,
 ⟨(some 23),.mv 0,(some (17,true))⟩,
 ⟨(some 24),.mv 1,(some (17,true))⟩,
 ⟨(some 25),.ixa 2 23 24,(some (17,true))⟩,
 ⟨(some 26),.fa 1 25,(some (17,true))⟩,
 ⟨(some 27),.ld false 1 26,(some (17,true))⟩,
 ⟨(some 28),.eq false .sc 22 27,(some (17,true))⟩,
 oD 29 (.pick 17 28 (.c (.b false))),
 oD 30 (.mv 29),
 ⟨(some 31),.mv 0,(some (30,true))⟩,
 ⟨(some 32),.mv 8,(some (30,true))⟩,
 ⟨(some 33),.ixa 2 31 32,(some (30,true))⟩,
 ⟨(some 34),.fa 0 33,(some (30,true))⟩,
 ⟨(some 35),.ld false 1 34,(some (30,true))⟩,
 ⟨(some 36),.mv 0,(some (30,true))⟩,
 ⟨(some 37),.mv 1,(some (30,true))⟩,
 ⟨(some 38),.ixa 2 36 37,(some (30,true))⟩,
 ⟨(some 39),.fa 0 38,(some (30,true))⟩,
 ⟨(some 40),.ld false 1 39,(some (30,true))⟩,
 ⟨(some 41),.bin .gtr 35 40,(some (30,true))⟩,
 oD 42 (.pick 30 41 (.c (.b false))),
 oD 43 (.mv 42),
 ⟨(some 44),.mv 7,(some (43,true))⟩,
 ⟨(some 45),.bin .lss 44 (.c (.n 0)),(some (43,true))⟩,
 ⟨(some 46),.mv 45,(some (43,true))⟩,
 ⟨(some 47),.mv 0,(some (46,false))⟩,
 ⟨(some 48),.mv 8,(some (46,false))⟩,
 ⟨(some 49),.ixa 2 47 48,(some (46,false))⟩,
 ⟨(some 50),.fa 0 49,(some (46,false))⟩,
 ⟨(some 51),.ld false 1 50,(some (46,false))⟩,
 ⟨(some 52),.mv 0,(some (46,false))⟩,
 ⟨(some 53),.mv 7,(some (46,false))⟩,
 ⟨(some 54),.ixa 2 52 53,(some (46,false))⟩,
 ⟨(some 55),.fa 0 54,(some (46,false))⟩,
 ⟨(some 56),.ld false 1 55,(some (46,false))⟩,
 ⟨(some 57),.bin .lss 51 56,(some (46,false))⟩,
 ⟨(some 58),.pick 46 (.c (.b true)) 57,(some (43,true))⟩,
 oD 59 (.pick 43 58 (.c (.b false)))]
def ZS.r6:List Oper:=[
 oD 60 (.mv 8),
 oD 7 (.mv 60)]
def ZS.r7:List Oper:=[
 oD 61 (.mv 2),
 oD 62 (.eq false .sc 61 (.c (.n 1))),
 oD 63 (.mv 62),
 ⟨(some 64),.mv 0,(some (63,true))⟩,
 ⟨(some 65),.mv 8,(some (63,true))⟩,
 ⟨(some 66),.ixa 2 64 65,(some (63,true))⟩,
 ⟨(some 67),.fa 0 66,(some (63,true))⟩,
 ⟨(some 68),.ld false 1 67,(some (63,true))⟩,
 ⟨(some 69),.mv 0,(some (63,true))⟩,
 ⟨(some 70),.mv 1,(some (63,true))⟩,
 ⟨(some 71),.ixa 2 69 70,(some (63,true))⟩,
 ⟨(some 72),.fa 0 71,(some (63,true))⟩,
 ⟨(some 73),.ld false 1 72,(some (63,true))⟩,
 ⟨(some 74),.eq false .sc 68 73,(some (63,true))⟩,
 oD 75 (.pick 63 74 (.c (.b false))),
 oD 76 (.mv 75),
 ⟨(some 77),.mv 0,(some (76,true))⟩,
 ⟨(some 78),.mv 8,(some (76,true))⟩,
 ⟨(some 79),.ixa 2 77 78,(some (76,true))⟩,
 ⟨(some 80),.fa 1 79,(some (76,true))⟩,
 ⟨(some 81),.ld false 1 80,(some (76,true))⟩,
 ⟨(some 82),.mv 0,(some (76,true))⟩,
 ⟨(some 83),.mv 1,(some (76,true))⟩,
 ⟨(some 84),.ixa 2 82 83,(some (76,true))⟩,
 ⟨(some 85),.fa 1 84,(some (76,true))⟩,
 ⟨(some 86),.ld false 1 85,(some (76,true))⟩,
 ⟨(some 87),.bin .gtr 81 86,(some (76,true))⟩,
 oD 88 (.pick 76 87 (.c (.b false))),
 oD 89 (.mv 88),
 ⟨(some 90),.mv 7,(some (89,true))⟩,
 ⟨(some 91),.bin .lss 90 (.c (.n 0)),(some (89,true))⟩,
 ⟨(some 92),.mv 91,(some (89,true))⟩,
 ⟨(some 93),.mv 0,(some (92,false))⟩,
 ⟨(some 94),.mv 8,(some (92,false))⟩,
 ⟨(some 95),.ixa 2 93 94,(some (92,false))⟩,
 ⟨(some 96),.fa 1 95,(some (92,false))⟩,
 ⟨(some 97),.ld false 1 96,(some (92,false))⟩,
 ⟨(some 98),.mv 0,(some (92,false))⟩,
 ⟨(some 99),.mv 7,(some (92,false))⟩,
 ⟨(some 100),.ixa 2 98 99,(some (92,false))⟩,
 ⟨(some 101),.fa 1 100,(some (92,false))⟩,
 ⟨(some 102),.ld false 1 101,(some (92,false))⟩,
 ⟨(some 103),.bin .lss 97 102,(some (92,false))⟩,
 ⟨(some 104),.pick 92 (.c (.b true)) 103,(some (89,true))⟩,
 oD 105 (.pick 89 104 (.c (.b false)))]
def ZS.r8:List Oper:=[
 oD 106 (.mv 8),
 oD 7 (.mv 106)]
def ZS.r4:List Oper:=[
 oD 13 (.mv 8),
 oD 14 (.bin .add 13 (.c (.n 1))),
 oD 8 (.mv 14)]
def ZS.l0:Code:=.seq (.seq (.region ZS.r3) (.cond 12 (.skip) (.exit 0))) (.seq (.block 1 (.seq (.seq (.draw ZS.r5 [(7,12),(20,25),(36,41)]) (.cond 59 (.region ZS.r6) (.skip))) (.seq (.draw ZS.r7 [(7,12),(20,25),(36,41)]) (.cond 105 (.region ZS.r8) (.skip))))) (.region ZS.r4))
def ZS.r9:List Oper:=[
 oD 107 (.mv 7),
 oD 6 (.mv 107)]
def ZS.code:Code:=.seq (.region ZS.r0) (.seq (.region ZS.r1) (.seq (.seq (.region ZS.r2) (.block 0 (.loop ZS.l0))) (.seq (.region ZS.r9) (.ret))))
def ZS:Func:=⟨108,[.t 6],ZS.code⟩
/-! muntin/muntinref10.Crossed -/
def Z5.r0:List Oper:=[
 oD 8 (.mv (.c (.b false)))]
def Z5.r1:List Oper:=[
 oD 9 (.mv (.c (.n 0)))]
def Z5.r2:List Oper:=[
 oD 14 (.mv 9),
 oD 15 (.mv 1),
 oD 16 (.len 15),
 oD 17 (.bin .lss 14 16)]
def Z5.r4:List Oper:=[
 oD 10 (.mv (.c (.n 0)))]
def Z5.r5:List Oper:=[
 oD 20 (.mv 10),
 oD 21 (.bin .lss 20 (.c (.n 2)))]
def Z5.r7:List Oper:=[
 oD 24 (.mv 1),
 oD 25 (.mv 9),
 oD 26 (.mv 10),
 oD 27 (.ixa 8 24 25),
 oD 28 (.fa 0 27),
 oD 29 (.ixaa 1 4 28 26),
 oD 30 (.ld false 1 29),
 oD 11 (.mv 30)]
def Z5.r8:List Oper:=[
 oD 31 (.mv 11),
 oD 32 (.bin .lss 31 (.c (.n 0)))]
def Z5.r9:List Oper:=[
 oD 33 (.mv 0),
 oD 34 (.mv 9),
 oD 35 (.ixa 2 33 34),
 oD 36 (.ld true 2 35),
 oD 12 (.alloc [.n 0,.n 0]),
 oN (.st 2 12 36)]
def Z5.r10:List Oper:=[
 oD 37 (.mv 0),
 oD 38 (.mv 11),
 oD 39 (.ixa 2 37 38),
 oD 40 (.ld true 2 39),
 oD 13 (.alloc [.n 0,.n 0]),
 oN (.st 2 13 40)]
def Z5.r11:List Oper:=[
 oD 41 (.fa 1 12),
 oD 42 (.ld false 1 41),
 oD 43 (.fa 1 13),
 oD 44 (.ld false 1 43),
 oD 45 (.eq false .sc 42 44),
 oD 46 (.mv 45),
 ⟨(some 47),.mv 0,(some (46,true))⟩,
 ⟨(some 48),.mv 2,(some (46,true))⟩,
 ⟨(some 49),.ixa 2 47 48,(some (46,true))⟩,
 ⟨(some 50),.fa 0 49,(some (46,true))⟩,
 ⟨(some 51),.ld false 1 50,(some (46,true))⟩,
 ⟨(some 52),.mv 0,(some (46,true))⟩,
 ⟨(some 53),.mv 3,(some (46,true))⟩,
 ⟨(some 54),.ixa 2 52 53,(some (46,true))⟩,
 ⟨(some 55),.fa 0 54,(some (46,true))⟩,
 ⟨(some 56),.ld false 1 55,(some (46,true))⟩,
 ⟨(some 57),.eq false .sc 51 56,(some (46,true))⟩,
 oD 58 (.pick 46 57 (.c (.b false))),
 oD 59 (.mv 58),
 ⟨(some 60),.fa 0 12,(some (59,true))⟩,
 ⟨(some 61),.ld false 1 60,(some (59,true))⟩,
 ⟨(some 62),.mv 0,(some (59,true))⟩,
 ⟨(some 63),.mv 2,(some (59,true))⟩,
 ⟨(some 64),.ixa 2 62 63,(some (59,true))⟩,
 ⟨(some 65),.fa 0 64,(some (59,true))⟩,
 ⟨(some 66),.ld false 1 65,(some (59,true))⟩,
 ⟨(some 67),.bin .lss 61 66,(some (59,true))⟩,
 oD 68 (.pick 59 67 (.c (.b false))),
 oD 69 (.mv 68),
 ⟨(some 70),.mv 0,(some (69,true))⟩,
 ⟨(some 71),.mv 2,(some (69,true))⟩,
 ⟨(some 72),.ixa 2 70 71,(some (69,true))⟩,
 ⟨(some 73),.fa 0 72,(some (69,true))⟩,
 ⟨(some 74),.ld false 1 73,(some (69,true))⟩,
 ⟨(some 75),.fa 0 13,(some (69,true))⟩,
 ⟨(some 76),.ld false 1 75,(some (69,true))⟩,
 ⟨(some 77),.bin .lss 74 76,(some (69,true))⟩,
 oD 78 (.pick 69 77 (.c (.b false))),
 oD 79 (.mv 78),
 ⟨(some 80),.mv 0,(some (79,true))⟩,
 ⟨(some 81),.mv 2,(some (79,true))⟩,
 ⟨(some 82),.ixa 2 80 81,(some (79,true))⟩,
 ⟨(some 83),.fa 1 82,(some (79,true))⟩,
 ⟨(some 84),.ld false 1 83,(some (79,true))⟩,
 ⟨(some 85),.fa 1 12,(some (79,true))⟩,
 ⟨(some 86),.ld false 1 85,(some (79,true))⟩,
 ⟨(some 87),.bin .lss 84 86,(some (79,true))⟩,
 oD 88 (.pick 79 87 (.c (.b false))),
 oD 89 (.mv 88),
 ⟨(some 90),.fa 1 12,(some (89,true))⟩,
 ⟨(some 91),.ld false 1 90,(some (89,true))⟩,
 ⟨(some 92),.mv 0,(some (89,true))⟩,
 ⟨(some 93),.mv 3,(some (89,true))⟩,
 ⟨(some 94),.ixa 2 92 93,(some (89,true))⟩,
 ⟨(some 95),.fa 1 94,(some (89,true))⟩,
 ⟨(some 96),.ld false 1 95,(some (89,true))⟩,
 ⟨(some 97),.bin .lss 91 96,(some (89,true))⟩,
 oD 98 (.pick 89 97 (.c (.b false)))]
def Z5.r12:List Oper:=[
 oD 8 (.mv (.c (.b true)))]
def Z5.r13:List Oper:=[
 oD 99 (.fa 0 12),
 oD 100 (.ld false 1 99),
 oD 101 (.fa 0 13),
 oD 102 (.ld false 1 101),
 oD 103 (.eq false .sc 100 102),
 oD 104 (.mv 103),
 ⟨(some 105),.mv 0,(some (104,true))⟩,
 ⟨(some 106),.mv 2,(some (104,true))⟩,
 ⟨(some 107),.ixa 2 105 106,(some (104,true))⟩,
 ⟨(some 108),.fa 1 107,(some (104,true))⟩,
 ⟨(some 109),.ld false 1 108,(some (104,true))⟩,
 ⟨(some 110),.mv 0,(some (104,true))⟩,
 ⟨(some 111),.mv 3,(some (104,true))⟩,
 ⟨(some 112),.ixa 2 110 111,(some (104,true))⟩,
 ⟨(some 113),.fa 1 112,(some (104,true))⟩,
 ⟨(some 114),.ld false 1 113,(some (104,true))⟩,
 ⟨(some 115),.eq false .sc 109 114,(some (104,true))⟩,
 oD 116 (.pick 104 115 (.c (.b false))),
 oD 117 (.mv 116),
 ⟨(some 118),.mv 0,(some (117,true))⟩,
 ⟨(some 119),.mv 2,(some (117,true))⟩,
 ⟨(some 120),.ixa 2 118 119,(some (117,true))⟩,
 ⟨(some 121),.fa 0 120,(some (117,true))⟩,
 ⟨(some 122),.ld false 1 121,(some (117,true))⟩,
 ⟨(some 123),.fa 0 12,(some (117,true))⟩,
 ⟨(some 124),.ld false 1 123,(some (117,true))⟩,
 ⟨(some 125),.bin .lss 122 124,(some (117,true))⟩,
 oD 126 (.pick 117 125 (.c (.b false))),
 oD 127 (.mv 126),
 ⟨(some 128),.fa 0 12,(some (127,true))⟩,
 ⟨(some 129),.ld false 1 128,(some (127,true))⟩,
 ⟨(some 130),.mv 0,(some (127,true))⟩,
 ⟨(some 131),.mv 3,(some (127,true))⟩,
 ⟨(some 132),.ixa 2 130 131,(some (127,true))⟩,
 ⟨(some 133),.fa 0 132,(some (127,true))⟩,
 ⟨(some 134),.ld false 1 133,(some (127,true))⟩,
 ⟨(some 135),.bin .lss 129 134,(some (127,true))⟩,
 oD 136 (.pick 127 135 (.c (.b false))),
 oD 137 (.mv 136),
 ⟨(some 138),.fa 1 12,(some (137,true))⟩,
 ⟨(some 139),.ld false 1 138,(some (137,true))⟩,
 ⟨(some 140),.mv 0,(some (137,true))⟩,
 ⟨(some 141),.mv 2,(some (137,true))⟩,
 ⟨(some 142),.ixa 2 140 141,(some (137,true))⟩,
 ⟨(some 143),.fa 1 142,(some (137,true))⟩,
 ⟨(some 144),.ld false 1 143,(some (137,true))⟩,
 ⟨(some 145),.bin .lss 139 144,(some (137,true))⟩,
 oD 146 (.pick 137 145 (.c (.b false))),
 oD 147 (.mv 146),
 ⟨(some 148),.mv 0,(some (147,true))⟩,
 ⟨(some 149),.mv 2,(some (147,true))⟩,
 ⟨(some 150),.ixa 2 148 149,(some (147,true))⟩,
 ⟨(some 151),.fa 1 150,(some (147,true))⟩,
 ⟨(some 152),.ld false 1 151,(some (147,true))⟩,
 ⟨(some 153),.fa 1 13,(some (147,true))⟩,
 ⟨(some 154),.ld false 1 153,(some (147,true))⟩,
 ⟨(some 155),.bin .lss 152 154,(some (147,true))⟩,
 oD 156 (.pick 147 155 (.c (.b false)))]
def Z5.r14:List Oper:=[
 oD 8 (.mv (.c (.b true)))]
def Z5.r6:List Oper:=[
 oD 22 (.mv 10),
 oD 23 (.bin .add 22 (.c (.n 1))),
 oD 10 (.mv 23)]
def Z5.l0:Code:=.seq (.seq (.region Z5.r5) (.cond 21 (.skip) (.exit 2))) (.seq (.block 3 (.seq (.region Z5.r7) (.seq (.seq (.region Z5.r8) (.cond 32 (.exit 3) (.skip))) (.seq (.region Z5.r9) (.seq (.region Z5.r10) (.seq (.seq (.draw Z5.r11 [(1,3),(10,15),(20,25),(33,35),(43,45),(50,55)]) (.cond 98 (.seq (.region Z5.r12) (.ret)) (.skip))) (.seq (.draw Z5.r13 [(1,3),(10,15),(23,25),(30,35),(40,45),(53,55)]) (.cond 156 (.seq (.region Z5.r14) (.ret)) (.skip))))))))) (.region Z5.r6))
def Z5.r3:List Oper:=[
 oD 18 (.mv 9),
 oD 19 (.bin .add 18 (.c (.n 1))),
 oD 9 (.mv 19)]
def Z5.l1:Code:=.seq (.seq (.region Z5.r2) (.cond 17 (.skip) (.exit 0))) (.seq (.block 1 (.seq (.region Z5.r4) (.block 2 (.loop Z5.l0)))) (.region Z5.r3))
def Z5.r15:List Oper:=[
 oD 8 (.mv (.c (.b false)))]
def Z5.code:Code:=.seq (.region Z5.r0) (.seq (.seq (.region Z5.r1) (.block 0 (.loop Z5.l1))) (.seq (.region Z5.r15) (.ret)))
def Z5:Func:=⟨157,[.t 8],Z5.code⟩
/-! muntin/muntinref10.with -/
def ZL.r0:List Oper:=[
 oD 10 (.mv (.c (.sn)))]
def ZL.r1:List Oper:=[
 oD 11 (.mv (.c (.sn)))]
def ZL.r2:List Oper:=[
 oD 12 (.mv (.c (.n 0)))]
def ZL.r3:List Oper:=[
 oD 14 (.mv 12),
 oD 15 (.mv 0),
 oD 16 (.len 15),
 oD 17 (.bin .lss 14 16)]
def ZL.r5:List Oper:=[
 oD 20 (.mv 0),
 oD 21 (.mv 12),
 oD 22 (.ixa 8 20 21),
 oD 23 (.ld true 8 22),
 oD 13 (.alloc [.n 0,.n 0,.n 0,.n 0,.n 0,.n 0,.n 0,.n 0]),
 oN (.st 8 13 23)]
def ZL.r6:List Oper:=[
 oD 24 (.mv 12),
 oD 25 (.mv 1),
 oD 26 (.eq false .sc 24 25)]
def ZL.r7:List Oper:=[
 oD 27 (.mv 2),
 oD 28 (.mv 3),
 oD 29 (.fa 0 13),
 oD 30 (.ixaa 1 4 29 27),
 oN (.st 1 30 28)]
def ZL.r8:List Oper:=[
 oD 31 (.mv 2),
 oD 32 (.mv 4),
 oD 33 (.fa 4 13),
 oD 34 (.ixaa 1 4 33 31),
 oN (.st 1 34 32)]
def ZL.r9:List Oper:=[
 oD 35 (.mv 12),
 oD 36 (.mv 3),
 oD 37 (.eq false .sc 35 36)]
def ZL.r10:List Oper:=[
 oD 38 (.mv 2),
 oD 39 (.bin .add 38 (.c (.n 2))),
 oD 40 (.bin .rem 39 (.c (.n 4))),
 oD 41 (.mv 1),
 oD 42 (.fa 0 13),
 oD 43 (.ixaa 1 4 42 40),
 oN (.st 1 43 41)]
def ZL.r11:List Oper:=[
 oD 44 (.mv 2),
 oD 45 (.bin .add 44 (.c (.n 2))),
 oD 46 (.bin .rem 45 (.c (.n 4))),
 oD 47 (.mv 4),
 oD 48 (.fa 4 13),
 oD 49 (.ixaa 1 4 48 46),
 oN (.st 1 49 47)]
def ZL.r12:List Oper:=[
 oD 50 (.mv 11),
 oD 51 (.ld true 8 13),
 oD 52 (.bsl 8 1 [.n 0,.n 0,.n 0,.n 0,.n 0,.n 0,.n 0,.n 0] [(0,8,.t 51)]),
 oD 53 (.app 8 64 50 52),
 oD 11 (.mv 53)]
def ZL.r4:List Oper:=[
 oD 18 (.mv 12),
 oD 19 (.bin .add 18 (.c (.n 1))),
 oD 12 (.mv 19)]
def ZL.l0:Code:=.seq (.seq (.region ZL.r3) (.cond 17 (.skip) (.exit 0))) (.seq (.block 1 (.seq (.region ZL.r5) (.seq (.seq (.region ZL.r6) (.cond 26 (.seq (.region ZL.r7) (.region ZL.r8)) (.skip))) (.seq (.seq (.region ZL.r9) (.cond 37 (.seq (.region ZL.r10) (.region ZL.r11)) (.skip))) (.region ZL.r12))))) (.region ZL.r4))
def ZL.r13:List Oper:=[
 oD 54 (.mv 11),
 oD 10 (.mv 54)]
def ZL.code:Code:=.seq (.region ZL.r0) (.seq (.region ZL.r1) (.seq (.seq (.region ZL.r2) (.block 0 (.loop ZL.l0))) (.seq (.region ZL.r13) (.ret))))
def ZL:Func:=⟨55,[.t 10],ZL.code⟩
/-! muntin/grid.Check -/
def zy.r0:List Oper:=[
 oD 2 (.mv (.c (.n 0)))]
def zy.r1:List Oper:=[
 oD 6 (.mv 0),
 oD 7 (.len 6),
 oD 8 (.bin .gtr 7 (.c (.n 4096)))]
def zy.r2:List Oper:=[
 oD 2 (.mv (.c (.n 6)))]
def zy.r3:List Oper:=[
 oD 9 (.mv 0),
 oD 10 (.len 9),
 oD 11 (.mv (.c (.n 0)))]
def zy.r4:List Oper:=[
 oD 12 (.bin .lss 11 10)]
def zy.r5:List Oper:=[
 oD 13 (.mv 11),
 oD 3 (.mv 13)]
def zy.r6:List Oper:=[
 oD 14 (.mv (.c (.n 0)))]
def zy.r7:List Oper:=[
 oD 15 (.bin .lss 14 (.c (.n 4)))]
def zy.r8:List Oper:=[
 oD 16 (.mv 14),
 oD 4 (.mv 16)]
def zy.r9:List Oper:=[
 oD 17 (.mv 0),
 oD 18 (.mv 3),
 oD 19 (.mv 4),
 oD 20 (.call (.c (.f 82 [])) [.t 17,.t 18,.t 19]),
 oD 5 (.mv 20)]
def zy.r10:List Oper:=[
 oD 21 (.mv 5),
 oD 22 (.eq true .sc 21 (.c (.n 0)))]
def zy.r11:List Oper:=[
 oD 23 (.mv 5),
 oD 2 (.mv 23)]
def zy.r12:List Oper:=[
 oD 24 (.bin .add 14 (.c (.n 1))),
 oD 14 (.mv 24)]
def zy.l0:Code:=.seq (.region zy.r7) (.seq (.cond 15 (.skip) (.exit 2)) (.seq (.block 3 (.seq (.region zy.r8) (.seq (.region zy.r9) (.seq (.region zy.r10) (.cond 22 (.seq (.region zy.r11) (.ret)) (.skip)))))) (.region zy.r12)))
def zy.r13:List Oper:=[
 oD 25 (.bin .add 11 (.c (.n 1))),
 oD 11 (.mv 25)]
def zy.l1:Code:=.seq (.region zy.r4) (.seq (.cond 12 (.skip) (.exit 0)) (.seq (.block 1 (.seq (.region zy.r5) (.seq (.region zy.r6) (.block 2 (.loop zy.l0))))) (.region zy.r13)))
def zy.r14:List Oper:=[
 oD 2 (.mv (.c (.n 0)))]
def zy.code:Code:=.seq (.region zy.r0) (.seq (.seq (.region zy.r1) (.cond 8 (.seq (.region zy.r2) (.ret)) (.skip))) (.seq (.seq (.region zy.r3) (.block 0 (.loop zy.l1))) (.seq (.region zy.r14) (.ret))))
def zy:Func:=⟨26,[.t 2],zy.code⟩
/-! muntin/join.spread -/
def ZZ.r0:List Oper:=[
 oD 4 (.mv (.c (.sn))),
 oD 5 (.mv (.c (.sn)))]
def ZZ.r1:List Oper:=[
 oD 13 (.bsl 1 1 [.n 0] [(0,1,.c (.n (-1)))]),
 oD 14 (.mv 0),
 oD 15 (.len 14),
 oD 16 (.call (.c (.f 83 [])) [.t 13,.t 15]),
 oD 17 (.bsl 1 1 [.n 0] [(0,1,.c (.n (-1)))]),
 oD 18 (.mv 0),
 oD 19 (.len 18),
 oD 20 (.call (.c (.f 83 [])) [.t 17,.t 19]),
 oD 6 (.mv 16),
 oD 7 (.mv 20)]
def ZZ.r2:List Oper:=[
 oD 21 (.mv 1),
 oD 22 (.bsl 1 1 [.n 0] [(0,1,.t 21)]),
 oD 8 (.mv 22)]
def ZZ.r3:List Oper:=[
 oD 23 (.mv 0),
 oD 24 (.len 23),
 oD 25 (.mks 1 1 [.b false] 24 24),
 oD 9 (.mv 25)]
def ZZ.r4:List Oper:=[
 oD 26 (.mv 9),
 oD 27 (.mv 1),
 oD 28 (.ixa 1 26 27),
 oN (.st 1 28 (.c (.b true)))]
def ZZ.r5:List Oper:=[
 oD 29 (.mv 8),
 oD 30 (.len 29),
 oD 31 (.bin .gtr 30 (.c (.n 0)))]
def ZZ.r6:List Oper:=[
 oD 32 (.mv 8),
 oD 33 (.ixa 1 32 (.c (.n 0))),
 oD 34 (.ld false 1 33),
 oD 10 (.mv 34)]
def ZZ.r7:List Oper:=[
 oD 35 (.mv 8),
 oD 36 (.slc 1 35 (some (.c (.n 1))) none none),
 oD 8 (.mv 36)]
def ZZ.r8:List Oper:=[
 oD 37 (.mv (.c (.n 0)))]
def ZZ.r9:List Oper:=[
 oD 38 (.bin .lss 37 (.c (.n 4)))]
def ZZ.r10:List Oper:=[
 oD 39 (.mv 37),
 oD 11 (.mv 39)]
def ZZ.r11:List Oper:=[
 oD 40 (.mv 0),
 oD 41 (.mv 10),
 oD 42 (.mv 11),
 oD 43 (.ixa 8 40 41),
 oD 44 (.fa 0 43),
 oD 45 (.ixaa 1 4 44 42),
 oD 46 (.ld false 1 45),
 oD 12 (.mv 46)]
def ZZ.r12:List Oper:=[
 oD 47 (.mv 12),
 oD 48 (.bin .geq 47 (.c (.n 0))),
 oD 49 (.mv 48),
 ⟨(some 50),.mv 9,(some (49,true))⟩,
 ⟨(some 51),.mv 12,(some (49,true))⟩,
 ⟨(some 52),.ixa 1 50 51,(some (49,true))⟩,
 ⟨(some 53),.ld false 1 52,(some (49,true))⟩,
 ⟨(some 54),.un .not 53,(some (49,true))⟩,
 oD 55 (.pick 49 54 (.c (.b false)))]
def ZZ.r13:List Oper:=[
 oD 56 (.mv 9),
 oD 57 (.mv 12),
 oD 58 (.mv 6),
 oD 59 (.mv 12),
 oD 60 (.mv 7),
 oD 61 (.mv 12),
 oD 62 (.mv 10),
 oD 63 (.mv 11),
 oD 64 (.ixa 1 56 57),
 oN (.st 1 64 (.c (.b true))),
 oD 65 (.ixa 1 58 59),
 oN (.st 1 65 62),
 oD 66 (.ixa 1 60 61),
 oN (.st 1 66 63)]
def ZZ.r14:List Oper:=[
 oD 67 (.mv 8),
 oD 68 (.mv 12),
 oD 69 (.bsl 1 1 [.n 0] [(0,1,.t 68)]),
 oD 70 (.app 1 8 67 69),
 oD 8 (.mv 70)]
def ZZ.r15:List Oper:=[
 oD 71 (.bin .add 37 (.c (.n 1))),
 oD 37 (.mv 71)]
def ZZ.l0:Code:=.seq (.region ZZ.r9) (.seq (.cond 38 (.skip) (.exit 2)) (.seq (.block 3 (.seq (.region ZZ.r10) (.seq (.region ZZ.r11) (.seq (.region ZZ.r12) (.cond 55 (.seq (.region ZZ.r13) (.region ZZ.r14)) (.skip)))))) (.region ZZ.r15)))
def ZZ.l1:Code:=.seq (.seq (.region ZZ.r5) (.cond 31 (.skip) (.exit 0))) (.block 1 (.seq (.region ZZ.r6) (.seq (.region ZZ.r7) (.seq (.region ZZ.r8) (.block 2 (.loop ZZ.l0))))))
def ZZ.r16:List Oper:=[
 oD 72 (.mv 6),
 oD 73 (.mv 7),
 oD 4 (.mv 72),
 oD 5 (.mv 73)]
def ZZ.code:Code:=.seq (.region ZZ.r0) (.seq (.region ZZ.r1) (.seq (.region ZZ.r2) (.seq (.region ZZ.r3) (.seq (.region ZZ.r4) (.seq (.block 0 (.loop ZZ.l1)) (.seq (.region ZZ.r16) (.ret)))))))
def ZZ:Func:=⟨74,[.t 4,.t 5],ZZ.code⟩
/-! muntin/compass.Left -/
def Zbj.r0:List Oper:=[
 oD 4 (.mv (.c (.n 0)))]
def Zbj.r1:List Oper:=[
 oD 5 (.mv 0),
 oD 6 (.call (.c (.f 90 [])) [.t 5]),
 oD 7 (.un .not 6)]
def Zbj.r2:List Oper:=[
 oD 4 (.mv (.c (.n 0)))]
def Zbj.r3:List Oper:=[
 oD 8 (.mv 0),
 oD 9 (.mv 1),
 oD 10 (.bin .rem 9 (.c (.n 4))),
 oD 11 (.bin .add 8 10),
 oD 12 (.bin .add 11 (.c (.n 4))),
 oD 13 (.bin .rem 12 (.c (.n 4))),
 oD 4 (.mv 13)]
def Zbj.code:Code:=.seq (.region Zbj.r0) (.seq (.seq (.region Zbj.r1) (.cond 7 (.seq (.region Zbj.r2) (.ret)) (.skip))) (.seq (.region Zbj.r3) (.ret)))
def Zbj:Func:=⟨14,[.t 4],Zbj.code⟩
/-! slices.ContainsFunc[[]int,int] -/
def ZaC.r0:List Oper:=[
 oD 4 (.mv (.c (.b false)))]
def ZaC.r1:List Oper:=[
 oD 5 (.mv 0),
 oD 6 (.mv 1),
 oD 7 (.call (.c (.f 91 [])) [.t 5,.t 6]),
 oD 8 (.bin .geq 7 (.c (.n 0))),
 oD 4 (.mv 8)]
def ZaC.code:Code:=.seq (.region ZaC.r0) (.seq (.region ZaC.r1) (.ret))
def ZaC:Func:=⟨9,[.t 4],ZaC.code⟩
/-! muntin/grid.side -/
def Zap.r0:List Oper:=[
 oD 6 (.mv (.c (.n 0)))]
def Zap.r1:List Oper:=[
 oD 10 (.mv 0),
 oD 11 (.mv 1),
 oD 12 (.mv 2),
 oD 13 (.ixa 8 10 11),
 oD 14 (.fa 0 13),
 oD 15 (.ixaa 1 4 14 12),
 oD 16 (.ld false 1 15),
 oD 17 (.mv 0),
 oD 18 (.mv 1),
 oD 19 (.mv 2),
 oD 20 (.ixa 8 17 18),
 oD 21 (.fa 4 20),
 oD 22 (.ixaa 1 4 21 19),
 oD 23 (.ld false 1 22),
 oD 7 (.mv 16),
 oD 8 (.mv 23)]
def Zap.r2:List Oper:=[
 oD 24 (.mv 7),
 oD 25 (.eq false .sc 24 (.c (.n (-1))))]
def Zap.r3:List Oper:=[
 oD 26 (.mv 8),
 oD 27 (.eq true .sc 26 (.c (.n 0)))]
def Zap.r4:List Oper:=[
 oD 6 (.mv (.c (.n 9)))]
def Zap.r5:List Oper:=[
 oD 6 (.mv (.c (.n 0)))]
def Zap.r6:List Oper:=[
 oD 28 (.mv 7),
 oD 29 (.bin .lss 28 (.c (.n 0))),
 oD 30 (.mv 29),
 ⟨(some 31),.mv 7,(some (30,false))⟩,
 ⟨(some 32),.mv 0,(some (30,false))⟩,
 ⟨(some 33),.len 32,(some (30,false))⟩,
 ⟨(some 34),.bin .geq 31 33,(some (30,false))⟩,
 oD 35 (.pick 30 (.c (.b true)) 34),
 oD 36 (.mv 35),
 ⟨(some 37),.mv 7,(some (36,false))⟩,
 ⟨(some 38),.mv 1,(some (36,false))⟩,
 ⟨(some 39),.eq false .sc 37 38,(some (36,false))⟩,
 oD 40 (.pick 36 (.c (.b true)) 39)]
def Zap.r7:List Oper:=[
 oD 6 (.mv (.c (.n 3)))]
def Zap.r8:List Oper:=[
 oD 41 (.mv 2),
 oD 42 (.call (.c (.f 77 [])) [.t 41,.c (.n 2)]),
 oD 9 (.mv 42)]
def Zap.r9:List Oper:=[
 oD 43 (.mv 0),
 oD 44 (.mv 7),
 oD 45 (.mv 9),
 oD 46 (.ixa 8 43 44),
 oD 47 (.fa 0 46),
 oD 48 (.ixaa 1 4 47 45),
 oD 49 (.ld false 1 48),
 oD 50 (.mv 1),
 oD 51 (.eq true .sc 49 50),
 oD 52 (.mv 51),
 ⟨(some 53),.mv 0,(some (52,false))⟩,
 ⟨(some 54),.mv 7,(some (52,false))⟩,
 ⟨(some 55),.mv 9,(some (52,false))⟩,
 ⟨(some 56),.ixa 8 53 54,(some (52,false))⟩,
 ⟨(some 57),.fa 4 56,(some (52,false))⟩,
 ⟨(some 58),.ixaa 1 4 57 55,(some (52,false))⟩,
 ⟨(some 59),.ld false 1 58,(some (52,false))⟩,
 ⟨(some 60),.mv 8,(some (52,false))⟩,
 ⟨(some 61),.eq true .sc 59 60,(some (52,false))⟩,
 oD 62 (.pick 52 (.c (.b true)) 61),
 oD 63 (.mv 62),
 ⟨(some 64),.mv 8,(some (63,false))⟩,
 ⟨(some 65),.bin .lss 64 (.c (.n (-2))),(some (63,false))⟩,
 oD 66 (.pick 63 (.c (.b true)) 65)]
def Zap.r10:List Oper:=[
 oD 6 (.mv (.c (.n 9)))]
def Zap.r11:List Oper:=[
 oD 6 (.mv (.c (.n 0)))]
def Zap.code:Code:=.seq (.region Zap.r0) (.seq (.draw Zap.r1 [(6,13)]) (.seq (.seq (.region Zap.r2) (.cond 25 (.seq (.seq (.region Zap.r3) (.cond 27 (.seq (.region Zap.r4) (.ret)) (.skip))) (.seq (.region Zap.r5) (.ret))) (.skip))) (.seq (.seq (.region Zap.r6) (.cond 40 (.seq (.region Zap.r7) (.ret)) (.skip))) (.seq (.region Zap.r8) (.seq (.seq (.region Zap.r9) (.cond 66 (.seq (.region Zap.r10) (.ret)) (.skip))) (.seq (.region Zap.r11) (.ret)))))))
def Zap:Func:=⟨67,[.t 6],Zap.code⟩
/-! slices.Repeat[[]int,int] -/
def ZW.r0:List Oper:=[
 oD 4 (.mv (.c (.sn)))]
def ZW.r1:List Oper:=[
 oD 9 (.mv 1),
 oD 10 (.bin .lss 9 (.c (.n 0)))]
def ZW.r2:List Oper:=[
 oD 11 (.bad),
 oN (.bad)]
def ZW.r3:List Oper:=[
 oD 13 (.mv 0),
 oD 14 (.len 13),
 oD 15 (.conv .u64 14),
 oD 16 (.mv 1),
 oD 17 (.conv .u64 16),
 oD 18 (.call (.c (.f 89 [])) [.t 15,.t 17]),
 oD 12 (.mv 18),
 oD 19 (.ext 12 0),
 oD 20 (.ext 12 1),
 oD 5 (.mv 19),
 oD 6 (.mv 20)]
def ZW.r4:List Oper:=[
 oD 21 (.mv 5),
 oD 22 (.bin .gtr 21 (.c (.i .u64 0))),
 oD 23 (.mv 22),
 ⟨(some 24),.mv 6,(some (23,false))⟩,
 ⟨(some 25),.bin .gtr 24 (.c (.i .u64 9223372036854775807)),(some (23,false))⟩,
 oD 26 (.pick 23 (.c (.b true)) 25)]
def ZW.r5:List Oper:=[
 oD 27 (.bad),
 oN (.bad)]
def ZW.r6:List Oper:=[
 oD 28 (.mv 6),
 oD 29 (.conv .i64 28),
 oD 30 (.mks 1 8 [.n 0] 29 29),
 oD 7 (.mv 30)]
def ZW.r7:List Oper:=[
 oD 31 (.mv 7),
 oD 32 (.mv 0),
 oD 33 (.cpy 1 31 32),
 oD 8 (.mv 33)]
def ZW.r8:List Oper:=[
 oD 34 (.mv 8),
 oD 35 (.mv 7),
 oD 36 (.len 35),
 oD 37 (.bin .lss 34 36)]
def ZW.r9:List Oper:=[
 oD 38 (.mv 8),
 oD 39 (.mv 7),
 oD 40 (.mv 8),
 oD 41 (.slc 1 39 (some 40) none none),
 oD 42 (.mv 7),
 oD 43 (.mv 8),
 oD 44 (.slc 1 42 none (some 43) none),
 oD 45 (.cpy 1 41 44),
 oD 46 (.bin .add 38 45),
 oD 8 (.mv 46)]
def ZW.l0:Code:=.seq (.seq (.region ZW.r8) (.cond 37 (.skip) (.exit 0))) (.block 1 (.draw ZW.r9 []))
def ZW.r10:List Oper:=[
 oD 47 (.mv 7),
 oD 4 (.mv 47)]
def ZW.code:Code:=.seq (.region ZW.r0) (.seq (.seq (.region ZW.r1) (.cond 10 (.region ZW.r2) (.skip))) (.seq (.region ZW.r3) (.seq (.seq (.region ZW.r4) (.cond 26 (.region ZW.r5) (.skip))) (.seq (.region ZW.r6) (.seq (.region ZW.r7) (.seq (.block 0 (.loop ZW.l0)) (.seq (.region ZW.r10) (.ret))))))))
def ZW:Func:=⟨48,[.t 4],ZW.code⟩
/-! math/bits.Mul -/
def ZbN.r0:List Oper:=[
 oD 4 (.mv (.c (.i .u64 0))),
 oD 5 (.mv (.c (.i .u64 0)))]
def ZbN.r1:List Oper:=[
 oD 11 (.mv 0),
 oD 12 (.conv .u32 11),
 oD 13 (.mv 1),
 oD 14 (.conv .u32 13),
 oD 15 (.call (.c (.f 97 [])) [.t 12,.t 14]),
 oD 10 (.mv 15),
 oD 16 (.ext 10 0),
 oD 17 (.ext 10 1),
 oD 6 (.mv 16),
 oD 7 (.mv 17)]
def ZbN.r2:List Oper:=[
 oD 18 (.mv 6),
 oD 19 (.conv .u64 18),
 oD 20 (.mv 7),
 oD 21 (.conv .u64 20),
 oD 4 (.mv 19),
 oD 5 (.mv 21)]
def ZbN.r3:List Oper:=[
 oD 23 (.mv 0),
 oD 24 (.mv 1),
 oD 25 (.call (.c (.f 98 [])) [.t 23,.t 24]),
 oD 22 (.mv 25),
 oD 26 (.ext 22 0),
 oD 27 (.ext 22 1),
 oD 8 (.mv 26),
 oD 9 (.mv 27)]
def ZbN.r4:List Oper:=[
 oD 28 (.mv 8),
 oD 29 (.mv 9),
 oD 4 (.mv 28),
 oD 5 (.mv 29)]
def ZbN.code:Code:=.seq (.region ZbN.r0) (.seq (.cond (.c (.b false)) (.seq (.region ZbN.r1) (.seq (.region ZbN.r2) (.ret))) (.skip)) (.seq (.region ZbN.r3) (.seq (.region ZbN.r4) (.ret))))
def ZbN:Func:=⟨30,[.t 4,.t 5],ZbN.code⟩
/-! muntin/compass.Good -/
def ZbS.r0:List Oper:=[
 oD 2 (.mv (.c (.b false)))]
def ZbS.r1:List Oper:=[
 oD 3 (.mv 0),
 oD 4 (.bin .geq 3 (.c (.n 0))),
 oD 5 (.mv 4),
 ⟨(some 6),.mv 0,(some (5,true))⟩,
 ⟨(some 7),.bin .leq 6 (.c (.n 3)),(some (5,true))⟩,
 oD 8 (.pick 5 7 (.c (.b false))),
 oD 2 (.mv 8)]
def ZbS.code:Code:=.seq (.region ZbS.r0) (.seq (.region ZbS.r1) (.ret))
def ZbS:Func:=⟨9,[.t 2],ZbS.code⟩
/-! slices.IndexFunc[[]int,int] -/
def zc.r0:List Oper:=[
 oD 4 (.mv (.c (.n 0)))]
def zc.r1:List Oper:=[
 oD 6 (.mv 0),
 oD 7 (.len 6),
 oD 8 (.mv (.c (.n 0)))]
def zc.r2:List Oper:=[
 oD 9 (.bin .lss 8 7)]
def zc.r3:List Oper:=[
 oD 10 (.mv 8),
 oD 5 (.mv 10)]
def zc.r4:List Oper:=[
 oD 11 (.mv 1),
 oD 12 (.mv 0),
 oD 13 (.mv 5),
 oD 14 (.ixa 1 12 13),
 oD 15 (.ld false 1 14),
 oD 16 (.call 11 [.t 15])]
def zc.r5:List Oper:=[
 oD 17 (.mv 5),
 oD 4 (.mv 17)]
def zc.r6:List Oper:=[
 oD 18 (.bin .add 8 (.c (.n 1))),
 oD 8 (.mv 18)]
def zc.l0:Code:=.seq (.region zc.r2) (.seq (.cond 9 (.skip) (.exit 0)) (.seq (.block 1 (.seq (.region zc.r3) (.seq (.region zc.r4) (.cond 16 (.seq (.region zc.r5) (.ret)) (.skip))))) (.region zc.r6)))
def zc.r7:List Oper:=[
 oD 4 (.mv (.c (.n (-1))))]
def zc.code:Code:=.seq (.region zc.r0) (.seq (.seq (.region zc.r1) (.block 0 (.loop zc.l0))) (.seq (.region zc.r7) (.ret)))
def zc:Func:=⟨19,[.t 4],zc.code⟩
/-! math/bits.Mul32 -/
def ZbR.r0:List Oper:=[
 oD 4 (.mv (.c (.i .u32 0))),
 oD 5 (.mv (.c (.i .u32 0)))]
def ZbR.r1:List Oper:=[
 oD 7 (.mv 0),
 oD 8 (.conv .u64 7),
 oD 9 (.mv 1),
 oD 10 (.conv .u64 9),
 oD 11 (.bin .mul 8 10),
 oD 6 (.mv 11)]
def ZbR.r2:List Oper:=[
 oD 12 (.mv 6),
 oD 13 (.bin .shr 12 (.c (.i .u64 32))),
 oD 14 (.conv .u32 13),
 oD 15 (.mv 6),
 oD 16 (.conv .u32 15),
 oD 4 (.mv 14),
 oD 5 (.mv 16)]
def ZbR.code:Code:=.seq (.region ZbR.r0) (.seq (.region ZbR.r1) (.seq (.region ZbR.r2) (.ret)))
def ZbR:Func:=⟨17,[.t 4,.t 5],ZbR.code⟩
/-! math/bits.Mul64 -/
def zZ.r0:List Oper:=[
 oD 4 (.mv (.c (.i .u64 0))),
 oD 5 (.mv (.c (.i .u64 0)))]
def zZ.r1:List Oper:=[
 oD 14 (.mv 0),
 oD 15 (.bin .and 14 (.c (.i .u64 4294967295))),
 oD 6 (.mv 15)]
def zZ.r2:List Oper:=[
 oD 16 (.mv 0),
 oD 17 (.bin .shr 16 (.c (.i .u64 32))),
 oD 7 (.mv 17)]
def zZ.r3:List Oper:=[
 oD 18 (.mv 1),
 oD 19 (.bin .and 18 (.c (.i .u64 4294967295))),
 oD 8 (.mv 19)]
def zZ.r4:List Oper:=[
 oD 20 (.mv 1),
 oD 21 (.bin .shr 20 (.c (.i .u64 32))),
 oD 9 (.mv 21)]
def zZ.r5:List Oper:=[
 oD 22 (.mv 6),
 oD 23 (.mv 8),
 oD 24 (.bin .mul 22 23),
 oD 10 (.mv 24)]
def zZ.r6:List Oper:=[
 oD 25 (.mv 7),
 oD 26 (.mv 8),
 oD 27 (.bin .mul 25 26),
 oD 28 (.mv 10),
 oD 29 (.bin .shr 28 (.c (.i .u64 32))),
 oD 30 (.bin .add 27 29),
 oD 11 (.mv 30)]
def zZ.r7:List Oper:=[
 oD 31 (.mv 11),
 oD 32 (.bin .and 31 (.c (.i .u64 4294967295))),
 oD 12 (.mv 32)]
def zZ.r8:List Oper:=[
 oD 33 (.mv 11),
 oD 34 (.bin .shr 33 (.c (.i .u64 32))),
 oD 13 (.mv 34)]
def zZ.r9:List Oper:=[
 oD 35 (.mv 12),
 oD 36 (.mv 6),
 oD 37 (.mv 9),
 oD 38 (.bin .mul 36 37),
 oD 39 (.bin .add 35 38),
 oD 12 (.mv 39)]
def zZ.r10:List Oper:=[
 oD 40 (.mv 7),
 oD 41 (.mv 9),
 oD 42 (.bin .mul 40 41),
 oD 43 (.mv 13),
 oD 44 (.bin .add 42 43),
 oD 45 (.mv 12),
 oD 46 (.bin .shr 45 (.c (.i .u64 32))),
 oD 47 (.bin .add 44 46),
 oD 4 (.mv 47)]
def zZ.r11:List Oper:=[
 oD 48 (.mv 0),
 oD 49 (.mv 1),
 oD 50 (.bin .mul 48 49),
 oD 5 (.mv 50)]
def zZ.code:Code:=.seq (.region zZ.r0) (.seq (.region zZ.r1) (.seq (.region zZ.r2) (.seq (.region zZ.r3) (.seq (.region zZ.r4) (.seq (.region zZ.r5) (.seq (.region zZ.r6) (.seq (.region zZ.r7) (.seq (.region zZ.r8) (.seq (.region zZ.r9) (.seq (.region zZ.r10) (.seq (.region zZ.r11) (.ret))))))))))))
def zZ:Func:=⟨51,[.t 4,.t 5],zZ.code⟩
/-! slices.Contains[[]int,int] -/
def ZaT.r0:List Oper:=[
 oD 4 (.mv (.c (.b false)))]
def ZaT.r1:List Oper:=[
 oD 5 (.mv 0),
 oD 6 (.mv 1),
 oD 7 (.call (.c (.f 136 [])) [.t 5,.t 6]),
 oD 8 (.bin .geq 7 (.c (.n 0))),
 oD 4 (.mv 8)]
def ZaT.code:Code:=.seq (.region ZaT.r0) (.seq (.region ZaT.r1) (.ret))
def ZaT:Func:=⟨9,[.t 4],ZaT.code⟩
/-! muntin/seg.Of -/
def Zb2.r0:List Oper:=[
 oD 2 (.alloc [.sn,.sn,.sn,.sn]),
 oD 3 (.mv (.c (.n 0)))]
def Zb2.r1:List Oper:=[
 oD 11 (.mv 0),
 oD 12 (.call (.c (.f 66 [])) [.t 11]),
 oD 4 (.mv 12)]
def Zb2.r2:List Oper:=[
 oD 13 (.mv 4),
 oD 14 (.eq true .sc 13 (.c (.n 0)))]
def Zb2.r3:List Oper:=[
 oD 15 (.build [.sn,.sn,.sn,.sn] []),
 oD 16 (.mv 4),
 oN (.st 4 2 15),
 oD 3 (.mv 16)]
def Zb2.r4:List Oper:=[
 oD 18 (.mv 0),
 oD 19 (.call (.c (.f 137 [])) [.t 18,.c (.n 1)]),
 oD 17 (.mv 19),
 oD 20 (.ext 17 0),
 oD 21 (.ext 17 1),
 oD 22 (.ext 17 2),
 oD 5 (.mv 20),
 oD 6 (.mv 21),
 oD 7 (.mv 22)]
def Zb2.r5:List Oper:=[
 oD 24 (.mv 0),
 oD 25 (.call (.c (.f 137 [])) [.t 24,.c (.n 0)]),
 oD 23 (.mv 25),
 oD 26 (.ext 23 0),
 oD 27 (.ext 23 1),
 oD 28 (.ext 23 2),
 oD 8 (.mv 26),
 oD 9 (.mv 27),
 oD 10 (.mv 28)]
def Zb2.r6:List Oper:=[
 oD 29 (.mv 7),
 oD 30 (.un .not 29),
 oD 31 (.mv 30),
 ⟨(some 32),.mv 10,(some (31,false))⟩,
 ⟨(some 33),.un .not 32,(some (31,false))⟩,
 oD 34 (.pick 31 (.c (.b true)) 33)]
def Zb2.r7:List Oper:=[
 oD 35 (.build [.sn,.sn,.sn,.sn] []),
 oN (.st 4 2 35),
 oD 3 (.mv (.c (.n 10)))]
def Zb2.r8:List Oper:=[
 oD 36 (.mv 5),
 oD 37 (.mv 8),
 oD 38 (.mv 6),
 oD 39 (.mv 9),
 oD 40 (.build [.sn,.sn,.sn,.sn] [(0,1,.t 36),(1,1,.t 37),(2,1,.t 38),(3,1,.t 39)]),
 oN (.st 4 2 40),
 oD 3 (.mv (.c (.n 0)))]
def Zb2.code:Code:=.seq (.region Zb2.r0) (.seq (.seq (.region Zb2.r1) (.seq (.region Zb2.r2) (.cond 14 (.seq (.region Zb2.r3) (.ret)) (.skip)))) (.seq (.region Zb2.r4) (.seq (.region Zb2.r5) (.seq (.seq (.region Zb2.r6) (.cond 34 (.seq (.region Zb2.r7) (.ret)) (.skip))) (.seq (.region Zb2.r8) (.ret))))))
def Zb2:Func:=⟨41,[.cell 2 true 4,.t 3],Zb2.code⟩
/-! muntin/muntinref16.Of -/
def Zax.r0:List Oper:=[
 oD 2 (.alloc [.sn,.sn,.sn,.sn]),
 oD 3 (.mv (.c (.b false)))]
def Zax.r1:List Oper:=[
 oD 11 (.mv 0),
 oD 12 (.call (.c (.f 138 [])) [.t 11,.c (.n 1)]),
 oD 10 (.mv 12),
 oD 13 (.ext 10 0),
 oD 14 (.ext 10 1),
 oD 15 (.ext 10 2),
 oD 4 (.mv 13),
 oD 5 (.mv 14),
 oD 6 (.mv 15)]
def Zax.r2:List Oper:=[
 oD 17 (.mv 0),
 oD 18 (.call (.c (.f 138 [])) [.t 17,.c (.n 0)]),
 oD 16 (.mv 18),
 oD 19 (.ext 16 0),
 oD 20 (.ext 16 1),
 oD 21 (.ext 16 2),
 oD 7 (.mv 19),
 oD 8 (.mv 20),
 oD 9 (.mv 21)]
def Zax.r3:List Oper:=[
 oD 22 (.mv 6),
 oD 23 (.un .not 22),
 oD 24 (.mv 23),
 ⟨(some 25),.mv 9,(some (24,false))⟩,
 ⟨(some 26),.un .not 25,(some (24,false))⟩,
 oD 27 (.pick 24 (.c (.b true)) 26)]
def Zax.r4:List Oper:=[
 oD 28 (.build [.sn,.sn,.sn,.sn] []),
 oN (.st 4 2 28),
 oD 3 (.mv (.c (.b false)))]
def Zax.r5:List Oper:=[
 oD 29 (.mv 4),
 oD 30 (.mv 7),
 oD 31 (.mv 5),
 oD 32 (.mv 8),
 oD 33 (.build [.sn,.sn,.sn,.sn] [(0,1,.t 29),(1,1,.t 30),(2,1,.t 31),(3,1,.t 32)]),
 oN (.st 4 2 33),
 oD 3 (.mv (.c (.b true)))]
def Zax.code:Code:=.seq (.region Zax.r0) (.seq (.region Zax.r1) (.seq (.region Zax.r2) (.seq (.seq (.region Zax.r3) (.cond 27 (.seq (.region Zax.r4) (.ret)) (.skip))) (.seq (.region Zax.r5) (.ret)))))
def Zax:Func:=⟨34,[.cell 2 true 4,.t 3],Zax.code⟩
/-! (muntin/seg.Chains).Meet -/
def ZaY.r0:List Oper:=[
 oD 5 (.box 0),
 oD 10 (.mv (.c (.b false)))]
def ZaY.r1:List Oper:=[
 oD 12 (.ld true 4 5),
 oD 13 (.mv 3),
 oD 14 (.mv 4),
 oD 15 (.call (.c (.f 140 [])) [.t 12,.t 13,.t 14]),
 oD 11 (.alloc [.sn]),
 oN (.st 1 11 15)]
def ZaY.r2:List Oper:=[
 oD 16 (.ld true 4 5),
 oD 17 (.mv 1),
 oD 18 (.mv 2),
 oD 19 (.call (.c (.f 140 [])) [.t 16,.t 17,.t 18]),
 oD 20 (.clo 141 [.t 11]),
 oD 21 (.call (.c (.f 78 [])) [.t 19,.t 20]),
 oD 10 (.mv 21)]
def ZaY.code:Code:=.seq (.region ZaY.r0) (.seq (.region ZaY.r1) (.seq (.region ZaY.r2) (.ret)))
def ZaY:Func:=⟨22,[.t 10],ZaY.code⟩
/-! muntin/muntinref16.Meet -/
def ZQ.r0:List Oper:=[
 oD 5 (.box 0),
 oD 10 (.mv (.c (.b false)))]
def ZQ.r1:List Oper:=[
 oD 11 (.mv (.c (.n 0)))]
def ZQ.r2:List Oper:=[
 oD 14 (.mv 11),
 oD 15 (.fa 0 5),
 oD 16 (.ld false 1 15),
 oD 17 (.len 16),
 oD 18 (.bin .lss 14 17)]
def ZQ.r4:List Oper:=[
 oD 21 (.fa 1 5),
 oD 22 (.ld false 1 21),
 oD 23 (.mv 11),
 oD 24 (.ixa 1 22 23),
 oD 25 (.ld false 1 24),
 oD 26 (.mv 2),
 oD 27 (.eq false .sc 25 26),
 oD 12 (.mv 27)]
def ZQ.r5:List Oper:=[
 oD 28 (.mv 1)]
def ZQ.r6:List Oper:=[
 oD 29 (.fa 0 5),
 oD 30 (.ld false 1 29),
 oD 31 (.mv 11),
 oD 32 (.ixa 1 30 31),
 oD 33 (.ld false 1 32),
 oD 34 (.mv 2),
 oD 35 (.eq false .sc 33 34),
 oD 12 (.mv 35)]
def ZQ.r7:List Oper:=[
 oD 36 (.fa 1 5),
 oD 37 (.ld false 1 36),
 oD 38 (.mv 11),
 oD 39 (.ixa 1 37 38),
 oD 40 (.ld false 1 39),
 oD 41 (.mv 4),
 oD 42 (.eq false .sc 40 41),
 oD 13 (.mv 42)]
def ZQ.r8:List Oper:=[
 oD 43 (.mv 3)]
def ZQ.r9:List Oper:=[
 oD 44 (.fa 0 5),
 oD 45 (.ld false 1 44),
 oD 46 (.mv 11),
 oD 47 (.ixa 1 45 46),
 oD 48 (.ld false 1 47),
 oD 49 (.mv 4),
 oD 50 (.eq false .sc 48 49),
 oD 13 (.mv 50)]
def ZQ.r10:List Oper:=[
 oD 51 (.mv 12),
 oD 52 (.mv 51),
 ⟨(some 53),.mv 13,(some (52,true))⟩,
 oD 54 (.pick 52 53 (.c (.b false)))]
def ZQ.r11:List Oper:=[
 oD 10 (.mv (.c (.b true)))]
def ZQ.r3:List Oper:=[
 oD 19 (.mv 11),
 oD 20 (.bin .add 19 (.c (.n 1))),
 oD 11 (.mv 20)]
def ZQ.l0:Code:=.seq (.seq (.region ZQ.r2) (.cond 18 (.skip) (.exit 0))) (.seq (.block 1 (.seq (.region ZQ.r4) (.seq (.seq (.region ZQ.r5) (.cond 28 (.region ZQ.r6) (.skip))) (.seq (.region ZQ.r7) (.seq (.seq (.region ZQ.r8) (.cond 43 (.region ZQ.r9) (.skip))) (.seq (.region ZQ.r10) (.cond 54 (.seq (.region ZQ.r11) (.ret)) (.skip)))))))) (.region ZQ.r3))
def ZQ.r12:List Oper:=[
 oD 10 (.mv (.c (.b false)))]
def ZQ.code:Code:=.seq (.region ZQ.r0) (.seq (.seq (.region ZQ.r1) (.block 0 (.loop ZQ.l0))) (.seq (.region ZQ.r12) (.ret)))
def ZQ:Func:=⟨55,[.t 10],ZQ.code⟩
/-! muntin/arcs.Length -/
def ZK.r0:List Oper:=[
 oD 4 (.mv (.c (.n 0))),
 oD 5 (.mv (.c (.n 0)))]
def ZK.r1:List Oper:=[
 oD 15 (.mv 0),
 oD 16 (.call (.c (.f 66 [])) [.t 15]),
 oD 6 (.mv 16)]
def ZK.r2:List Oper:=[
 oD 17 (.mv 6),
 oD 18 (.eq true .sc 17 (.c (.n 0)))]
def ZK.r3:List Oper:=[
 oD 19 (.mv 6),
 oD 4 (.mv (.c (.n 0))),
 oD 5 (.mv 19)]
def ZK.r4:List Oper:=[
 oD 20 (.mv 1),
 oD 21 (.len 20),
 oD 22 (.mv 0),
 oD 23 (.len 22),
 oD 24 (.eq true .sc 21 23),
 oD 25 (.mv 24),
 ⟨(some 26),.mv 1,(some (25,false))⟩,
 ⟨(some 27),.call (.c (.f 146 [])) [.t 26,.c (.f 147 [])],(some (25,false))⟩,
 oD 28 (.pick 25 (.c (.b true)) 27)]
def ZK.r5:List Oper:=[
 oD 4 (.mv (.c (.n 0))),
 oD 5 (.mv (.c (.n 2)))]
def ZK.r6:List Oper:=[
 oD 7 (.mv (.c (.n 0)))]
def ZK.r7:List Oper:=[
 oD 29 (.mv 0),
 oD 30 (.len 29),
 oD 31 (.mv (.c (.n 0)))]
def ZK.r8:List Oper:=[
 oD 32 (.bin .lss 31 30)]
def ZK.r9:List Oper:=[
 oD 33 (.mv 31),
 oD 34 (.ixa 8 29 31),
 oD 35 (.ld true 8 34),
 oD 9 (.alloc [.n 0,.n 0,.n 0,.n 0,.n 0,.n 0,.n 0,.n 0]),
 oD 8 (.mv 33),
 oN (.st 8 9 35)]
def ZK.r10:List Oper:=[
 oD 36 (.bsl 1 2 [.n 0] [(0,1,.c (.n 0)),(1,1,.c (.n 1))]),
 oD 37 (.len 36),
 oD 38 (.mv (.c (.n 0)))]
def ZK.r11:List Oper:=[
 oD 39 (.bin .lss 38 37)]
def ZK.r12:List Oper:=[
 oD 40 (.ixa 1 36 38),
 oD 41 (.ld false 1 40),
 oD 11 (.mv 41)]
def ZK.r13:List Oper:=[
 oD 42 (.mv 11),
 oD 43 (.fa 0 9),
 oD 44 (.ixaa 1 4 43 42),
 oD 45 (.ld false 1 44),
 oD 12 (.mv 45)]
def ZK.r14:List Oper:=[
 oD 46 (.mv 12),
 oD 47 (.bin .lss 46 (.c (.n 0)))]
def ZK.r15:List Oper:=[
 oD 49 (.mv 1),
 oD 50 (.mv 8),
 oD 51 (.ixa 2 49 50),
 oD 52 (.ld true 2 51),
 oD 53 (.mv 1),
 oD 54 (.mv 12),
 oD 55 (.ixa 2 53 54),
 oD 56 (.ld true 2 55),
 oD 57 (.call (.c (.f 148 [])) [.t 52,.t 56]),
 oD 48 (.mv 57),
 oD 58 (.ext 48 0),
 oD 59 (.ext 48 1),
 oD 13 (.mv 58),
 oD 14 (.mv 59)]
def ZK.r16:List Oper:=[
 oD 60 (.mv 14),
 oD 61 (.un .not 60),
 oD 62 (.mv 61),
 ⟨(some 63),.mv 13,(some (62,false))⟩,
 ⟨(some 64),.mv 11,(some (62,false))⟩,
 ⟨(some 65),.eq true .sc 63 64,(some (62,false))⟩,
 oD 66 (.pick 62 (.c (.b true)) 65)]
def ZK.r17:List Oper:=[
 oD 4 (.mv (.c (.n 0))),
 oD 5 (.mv (.c (.n 15)))]
def ZK.r18:List Oper:=[
 oD 67 (.mv 7),
 oD 68 (.mv 11),
 oD 69 (.fa 4 9),
 oD 70 (.ixaa 1 4 69 68),
 oD 71 (.ld false 1 70),
 oD 72 (.call (.c (.f 149 [])) [.t 71]),
 oD 73 (.mv 1),
 oD 74 (.mv 12),
 oD 75 (.ixa 2 73 74),
 oD 76 (.fa 0 75),
 oD 77 (.ld false 1 76),
 oD 78 (.mv 1),
 oD 79 (.mv 8),
 oD 80 (.ixa 2 78 79),
 oD 81 (.fa 0 80),
 oD 82 (.ld false 1 81),
 oD 83 (.bin .sub 77 82),
 oD 84 (.mv 1),
 oD 85 (.mv 12),
 oD 86 (.ixa 2 84 85),
 oD 87 (.fa 1 86),
 oD 88 (.ld false 1 87),
 oD 89 (.bin .add 83 88),
 oD 90 (.mv 1),
 oD 91 (.mv 8),
 oD 92 (.ixa 2 90 91),
 oD 93 (.fa 1 92),
 oD 94 (.ld false 1 93),
 oD 95 (.bin .sub 89 94),
 oD 96 (.bin .mul 72 95),
 oD 97 (.bin .add 67 96),
 oD 7 (.mv 97)]
def ZK.r19:List Oper:=[
 oD 98 (.bin .add 38 (.c (.n 1))),
 oD 38 (.mv 98)]
def ZK.l0:Code:=.seq (.region ZK.r11) (.seq (.cond 39 (.skip) (.exit 2)) (.seq (.block 3 (.seq (.region ZK.r12) (.seq (.region ZK.r13) (.seq (.seq (.region ZK.r14) (.cond 47 (.exit 3) (.skip))) (.seq (.seq (.draw ZK.r15 [(3,7)]) (.seq (.region ZK.r16) (.cond 66 (.seq (.region ZK.r17) (.ret)) (.skip)))) (.draw ZK.r18 [(4,10),(5,10),(4,15),(5,15),(10,15),(4,21),(5,21),(10,21),(15,21),(4,27),(5,27),(10,27),(15,27),(21,27)])))))) (.region ZK.r19)))
def ZK.r20:List Oper:=[
 oD 99 (.bin .add 31 (.c (.n 1))),
 oD 31 (.mv 99)]
def ZK.l1:Code:=.seq (.region ZK.r8) (.seq (.cond 32 (.skip) (.exit 0)) (.seq (.block 1 (.seq (.region ZK.r9) (.seq (.region ZK.r10) (.block 2 (.loop ZK.l0))))) (.region ZK.r20)))
def ZK.r21:List Oper:=[
 oD 100 (.mv 7),
 oD 4 (.mv 100),
 oD 5 (.mv (.c (.n 0)))]
def ZK.code:Code:=.seq (.region ZK.r0) (.seq (.seq (.region ZK.r1) (.seq (.region ZK.r2) (.cond 18 (.seq (.region ZK.r3) (.ret)) (.skip)))) (.seq (.seq (.region ZK.r4) (.cond 28 (.seq (.region ZK.r5) (.ret)) (.skip))) (.seq (.region ZK.r6) (.seq (.seq (.region ZK.r7) (.block 0 (.loop ZK.l1))) (.seq (.region ZK.r21) (.ret))))))
def ZK:Func:=⟨101,[.t 4,.t 5],ZK.code⟩
/-! slices.Index[[]int,int] -/
def z4.r0:List Oper:=[
 oD 4 (.mv (.c (.n 0)))]
def z4.r1:List Oper:=[
 oD 6 (.mv 0),
 oD 7 (.len 6),
 oD 8 (.mv (.c (.n 0)))]
def z4.r2:List Oper:=[
 oD 9 (.bin .lss 8 7)]
def z4.r3:List Oper:=[
 oD 10 (.mv 8),
 oD 5 (.mv 10)]
def z4.r4:List Oper:=[
 oD 11 (.mv 1),
 oD 12 (.mv 0),
 oD 13 (.mv 5),
 oD 14 (.ixa 1 12 13),
 oD 15 (.ld false 1 14),
 oD 16 (.eq false .sc 11 15)]
def z4.r5:List Oper:=[
 oD 17 (.mv 5),
 oD 4 (.mv 17)]
def z4.r6:List Oper:=[
 oD 18 (.bin .add 8 (.c (.n 1))),
 oD 8 (.mv 18)]
def z4.l0:Code:=.seq (.region z4.r2) (.seq (.cond 9 (.skip) (.exit 0)) (.seq (.block 1 (.seq (.region z4.r3) (.seq (.region z4.r4) (.cond 16 (.seq (.region z4.r5) (.ret)) (.skip))))) (.region z4.r6)))
def z4.r7:List Oper:=[
 oD 4 (.mv (.c (.n (-1))))]
def z4.code:Code:=.seq (.region z4.r0) (.seq (.seq (.region z4.r1) (.block 0 (.loop z4.l0))) (.seq (.region z4.r7) (.ret)))
def z4:Func:=⟨19,[.t 4],z4.code⟩
/-! muntin/seg.chains -/
def ZJ.r0:List Oper:=[
 oD 4 (.mv (.c (.sn))),
 oD 5 (.mv (.c (.sn))),
 oD 6 (.mv (.c (.b false)))]
def ZJ.r1:List Oper:=[
 oD 15 (.bsl 1 1 [.n 0] [(0,1,.c (.n (-1)))]),
 oD 16 (.mv 0),
 oD 17 (.len 16),
 oD 18 (.call (.c (.f 83 [])) [.t 15,.t 17]),
 oD 7 (.mv 18)]
def ZJ.r2:List Oper:=[
 oD 19 (.mv 1),
 oD 20 (.call (.c (.f 77 [])) [.t 19,.c (.n 2)]),
 oD 8 (.mv 20)]
def ZJ.r3:List Oper:=[
 oD 9 (.mv (.c (.sn)))]
def ZJ.r4:List Oper:=[
 oD 21 (.mv 0),
 oD 22 (.len 21),
 oD 23 (.mv (.c (.n 0)))]
def ZJ.r5:List Oper:=[
 oD 24 (.bin .lss 23 22)]
def ZJ.r6:List Oper:=[
 oD 25 (.mv 23),
 oD 10 (.mv 25)]
def ZJ.r7:List Oper:=[
 oD 26 (.mv 7),
 oD 27 (.mv 10),
 oD 28 (.ixa 1 26 27),
 oD 29 (.ld false 1 28),
 oD 30 (.bin .geq 29 (.c (.n 0)))]
def ZJ.r8:List Oper:=[
 oD 31 (.mv 10),
 oD 11 (.mv 31)]
def ZJ.r9:List Oper:=[
 oD 12 (.mv (.c (.n 0)))]
def ZJ.r10:List Oper:=[
 oD 32 (.mv 0),
 oD 33 (.mv 11),
 oD 34 (.mv 8),
 oD 35 (.ixa 8 32 33),
 oD 36 (.fa 0 35),
 oD 37 (.ixaa 1 4 36 34),
 oD 38 (.ld false 1 37),
 oD 39 (.bin .geq 38 (.c (.n 0)))]
def ZJ.r12:List Oper:=[
 oD 42 (.mv 12),
 oD 43 (.mv 0),
 oD 44 (.len 43),
 oD 45 (.eq false .sc 42 44)]
def ZJ.r13:List Oper:=[
 oD 4 (.mv (.c (.sn))),
 oD 5 (.mv (.c (.sn))),
 oD 6 (.mv (.c (.b false)))]
def ZJ.r14:List Oper:=[
 oD 46 (.mv 0),
 oD 47 (.mv 11),
 oD 48 (.mv 8),
 oD 49 (.ixa 8 46 47),
 oD 50 (.fa 0 49),
 oD 51 (.ixaa 1 4 50 48),
 oD 52 (.ld false 1 51),
 oD 11 (.mv 52)]
def ZJ.r11:List Oper:=[
 oD 40 (.mv 12),
 oD 41 (.bin .add 40 (.c (.n 1))),
 oD 12 (.mv 41)]
def ZJ.l0:Code:=.seq (.seq (.region ZJ.r10) (.cond 39 (.skip) (.exit 2))) (.seq (.block 3 (.seq (.seq (.region ZJ.r12) (.cond 45 (.seq (.region ZJ.r13) (.ret)) (.skip))) (.region ZJ.r14))) (.region ZJ.r11))
def ZJ.r15:List Oper:=[
 oD 13 (.mv (.c (.sn)))]
def ZJ.r16:List Oper:=[
 oD 53 (.mv 11),
 oD 14 (.mv 53)]
def ZJ.r17:List Oper:=[
 oD 54 (.mv 14),
 oD 55 (.bin .geq 54 (.c (.n 0)))]
def ZJ.r19:List Oper:=[
 oD 63 (.mv 7),
 oD 64 (.mv 14),
 oD 65 (.mv 9),
 oD 66 (.len 65),
 oD 67 (.ixa 1 63 64),
 oN (.st 1 67 66)]
def ZJ.r20:List Oper:=[
 oD 68 (.mv 13),
 oD 69 (.mv 14),
 oD 70 (.bsl 1 1 [.n 0] [(0,1,.t 69)]),
 oD 71 (.app 1 8 68 70),
 oD 13 (.mv 71)]
def ZJ.r18:List Oper:=[
 oD 56 (.mv 0),
 oD 57 (.mv 14),
 oD 58 (.mv 1),
 oD 59 (.ixa 8 56 57),
 oD 60 (.fa 0 59),
 oD 61 (.ixaa 1 4 60 58),
 oD 62 (.ld false 1 61),
 oD 14 (.mv 62)]
def ZJ.l1:Code:=.seq (.seq (.region ZJ.r17) (.cond 55 (.skip) (.exit 4))) (.seq (.block 5 (.seq (.region ZJ.r19) (.region ZJ.r20))) (.region ZJ.r18))
def ZJ.r21:List Oper:=[
 oD 72 (.mv 9),
 oD 73 (.mv 13),
 oD 74 (.bsl 1 1 [.sn] [(0,1,.t 73)]),
 oD 75 (.app 1 24 72 74),
 oD 9 (.mv 75)]
def ZJ.r22:List Oper:=[
 oD 76 (.bin .add 23 (.c (.n 1))),
 oD 23 (.mv 76)]
def ZJ.l2:Code:=.seq (.region ZJ.r5) (.seq (.cond 24 (.skip) (.exit 0)) (.seq (.block 1 (.seq (.region ZJ.r6) (.seq (.seq (.region ZJ.r7) (.cond 30 (.exit 1) (.skip))) (.seq (.region ZJ.r8) (.seq (.seq (.region ZJ.r9) (.block 2 (.loop ZJ.l0))) (.seq (.region ZJ.r15) (.seq (.seq (.region ZJ.r16) (.block 4 (.loop ZJ.l1))) (.region ZJ.r21)))))))) (.region ZJ.r22)))
def ZJ.r23:List Oper:=[
 oD 77 (.mv 7),
 oD 78 (.mv 9),
 oD 4 (.mv 77),
 oD 5 (.mv 78),
 oD 6 (.mv (.c (.b true)))]
def ZJ.code:Code:=.seq (.region ZJ.r0) (.seq (.region ZJ.r1) (.seq (.region ZJ.r2) (.seq (.region ZJ.r3) (.seq (.seq (.region ZJ.r4) (.block 0 (.loop ZJ.l2))) (.seq (.region ZJ.r23) (.ret))))))
def ZJ:Func:=⟨79,[.t 4,.t 5,.t 6],ZJ.code⟩
/-! muntin/muntinref16.chains -/
def Zr.r0:List Oper:=[
 oD 4 (.mv (.c (.sn))),
 oD 5 (.mv (.c (.sn))),
 oD 6 (.mv (.c (.b false)))]
def Zr.r1:List Oper:=[
 oD 15 (.mv 0),
 oD 16 (.len 15),
 oD 17 (.mks 1 8 [.n 0] 16 16),
 oD 7 (.mv 17)]
def Zr.r2:List Oper:=[
 oD 8 (.mv (.c (.sn)))]
def Zr.r3:List Oper:=[
 oD 9 (.mv (.c (.sn)))]
def Zr.r4:List Oper:=[
 oD 10 (.mv (.c (.n 0)))]
def Zr.r5:List Oper:=[
 oD 18 (.mv 10),
 oD 19 (.mv 0),
 oD 20 (.len 19),
 oD 21 (.bin .lss 18 20)]
def Zr.r7:List Oper:=[
 oD 24 (.mv 0),
 oD 25 (.mv 10),
 oD 26 (.mv 1),
 oD 27 (.call (.c (.f 150 [])) [.t 24,.t 25,.t 26]),
 oD 11 (.mv 27)]
def Zr.r8:List Oper:=[
 oD 28 (.mv 11),
 oD 29 (.bin .lss 28 (.c (.n 0)))]
def Zr.r9:List Oper:=[
 oD 4 (.mv (.c (.sn))),
 oD 5 (.mv (.c (.sn))),
 oD 6 (.mv (.c (.b false)))]
def Zr.r10:List Oper:=[
 oD 12 (.mv (.c (.n 0)))]
def Zr.r11:List Oper:=[
 oD 30 (.mv 12),
 oD 31 (.mv 8),
 oD 32 (.len 31),
 oD 33 (.bin .lss 30 32),
 oD 34 (.mv 33),
 ⟨(some 35),.mv 8,(some (34,true))⟩,
 ⟨(some 36),.mv 12,(some (34,true))⟩,
 ⟨(some 37),.ixa 1 35 36,(some (34,true))⟩,
 ⟨(some 38),.ld false 1 37,(some (34,true))⟩,
 ⟨(some 39),.mv 11,(some (34,true))⟩,
 ⟨(some 40),.eq true .sc 38 39,(some (34,true))⟩,
 oD 41 (.pick 34 40 (.c (.b false)))]
def Zr.r12:List Oper:=[
 oD 42 (.mv 12),
 oD 43 (.bin .add 42 (.c (.n 1))),
 oD 12 (.mv 43)]
def Zr.l0:Code:=.seq (.seq (.region Zr.r11) (.cond 41 (.skip) (.exit 2))) (.block 3 (.region Zr.r12))
def Zr.r13:List Oper:=[
 oD 44 (.mv 7),
 oD 45 (.mv 10),
 oD 46 (.mv 12),
 oD 47 (.ixa 1 44 45),
 oN (.st 1 47 46)]
def Zr.r14:List Oper:=[
 oD 48 (.mv 12),
 oD 49 (.mv 8),
 oD 50 (.len 49),
 oD 51 (.eq false .sc 48 50)]
def Zr.r15:List Oper:=[
 oD 52 (.mv 8),
 oD 53 (.mv 11),
 oD 54 (.bsl 1 1 [.n 0] [(0,1,.t 53)]),
 oD 55 (.app 1 8 52 54),
 oD 8 (.mv 55)]
def Zr.r16:List Oper:=[
 oD 13 (.mv (.c (.sn)))]
def Zr.r17:List Oper:=[
 oD 56 (.mv 11),
 oD 14 (.mv 56)]
def Zr.r18:List Oper:=[
 oD 57 (.mv 14),
 oD 58 (.bin .geq 57 (.c (.n 0)))]
def Zr.r20:List Oper:=[
 oD 66 (.mv 13),
 oD 67 (.mv 14),
 oD 68 (.bsl 1 1 [.n 0] [(0,1,.t 67)]),
 oD 69 (.app 1 8 66 68),
 oD 13 (.mv 69)]
def Zr.r19:List Oper:=[
 oD 59 (.mv 0),
 oD 60 (.mv 14),
 oD 61 (.mv 1),
 oD 62 (.ixa 8 59 60),
 oD 63 (.fa 0 62),
 oD 64 (.ixaa 1 4 63 61),
 oD 65 (.ld false 1 64),
 oD 14 (.mv 65)]
def Zr.l1:Code:=.seq (.seq (.region Zr.r18) (.cond 58 (.skip) (.exit 4))) (.seq (.block 5 (.region Zr.r20)) (.region Zr.r19))
def Zr.r21:List Oper:=[
 oD 70 (.mv 9),
 oD 71 (.mv 13),
 oD 72 (.bsl 1 1 [.sn] [(0,1,.t 71)]),
 oD 73 (.app 1 24 70 72),
 oD 9 (.mv 73)]
def Zr.r6:List Oper:=[
 oD 22 (.mv 10),
 oD 23 (.bin .add 22 (.c (.n 1))),
 oD 10 (.mv 23)]
def Zr.l2:Code:=.seq (.seq (.region Zr.r5) (.cond 21 (.skip) (.exit 0))) (.seq (.block 1 (.seq (.region Zr.r7) (.seq (.seq (.region Zr.r8) (.cond 29 (.seq (.region Zr.r9) (.ret)) (.skip))) (.seq (.region Zr.r10) (.seq (.block 2 (.loop Zr.l0)) (.seq (.region Zr.r13) (.seq (.region Zr.r14) (.cond 51 (.seq (.region Zr.r15) (.seq (.region Zr.r16) (.seq (.seq (.region Zr.r17) (.block 4 (.loop Zr.l1))) (.region Zr.r21)))) (.skip))))))))) (.region Zr.r6))
def Zr.r22:List Oper:=[
 oD 74 (.mv 7),
 oD 75 (.mv 9),
 oD 4 (.mv 74),
 oD 5 (.mv 75),
 oD 6 (.mv (.c (.b true)))]
def Zr.code:Code:=.seq (.region Zr.r0) (.seq (.region Zr.r1) (.seq (.region Zr.r2) (.seq (.region Zr.r3) (.seq (.seq (.region Zr.r4) (.block 0 (.loop Zr.l2))) (.seq (.region Zr.r22) (.ret))))))
def Zr:Func:=⟨76,[.t 4,.t 5,.t 6],Zr.code⟩
/-! (muntin/seg.Chains).chain -/
def zS.r0:List Oper:=[
 oD 3 (.box 0),
 oD 6 (.mv (.c (.sn)))]
def zS.r1:List Oper:=[
 oD 8 (.fa 3 3),
 oD 9 (.ld false 1 8),
 oD 7 (.mv 9)]
def zS.r2:List Oper:=[
 oD 10 (.mv 1)]
def zS.r3:List Oper:=[
 oD 11 (.fa 2 3),
 oD 12 (.ld false 1 11),
 oD 7 (.mv 12)]
def zS.r4:List Oper:=[
 oD 13 (.mv 2),
 oD 14 (.bin .lss 13 (.c (.n 0))),
 oD 15 (.mv 14),
 ⟨(some 16),.mv 2,(some (15,false))⟩,
 ⟨(some 17),.mv 7,(some (15,false))⟩,
 ⟨(some 18),.len 17,(some (15,false))⟩,
 ⟨(some 19),.bin .geq 16 18,(some (15,false))⟩,
 oD 20 (.pick 15 (.c (.b true)) 19)]
def zS.r5:List Oper:=[
 oD 6 (.mv (.c (.sn)))]
def zS.r6:List Oper:=[
 oD 21 (.mv 7),
 oD 22 (.mv 2),
 oD 23 (.ixa 1 21 22),
 oD 24 (.ld false 1 23),
 oD 6 (.mv 24)]
def zS.code:Code:=.seq (.region zS.r0) (.seq (.region zS.r1) (.seq (.seq (.region zS.r2) (.cond 10 (.region zS.r3) (.skip))) (.seq (.seq (.region zS.r4) (.cond 20 (.seq (.region zS.r5) (.ret)) (.skip))) (.seq (.region zS.r6) (.ret)))))
def zS:Func:=⟨25,[.t 6],zS.code⟩
/-! (muntin/seg.Chains).Meet$1 -/
def Zbh.r0:List Oper:=[
 oD 3 (.mv (.c (.b false)))]
def Zbh.r1:List Oper:=[
 oD 4 (.ld false 1 1),
 oD 5 (.mv 0),
 oD 6 (.call (.c (.f 118 [])) [.t 4,.t 5]),
 oD 3 (.mv 6)]
def Zbh.code:Code:=.seq (.region Zbh.r0) (.seq (.region Zbh.r1) (.ret))
def Zbh:Func:=⟨7,[.t 3],Zbh.code⟩
/-! slices.ContainsFunc[[]muntin/api.Point,muntin/api.Point] -/
def Zae.r0:List Oper:=[
 oD 4 (.mv (.c (.b false)))]
def Zae.r1:List Oper:=[
 oD 5 (.mv 0),
 oD 6 (.mv 1),
 oD 7 (.call (.c (.f 151 [])) [.t 5,.t 6]),
 oD 8 (.bin .geq 7 (.c (.n 0))),
 oD 4 (.mv 8)]
def Zae.code:Code:=.seq (.region Zae.r0) (.seq (.region Zae.r1) (.ret))
def Zae:Func:=⟨9,[.t 4],Zae.code⟩
/-! muntin/arcs.far -/
def Zc4.r0:List Oper:=[
 oD 1 (.box 0),
 oD 2 (.mv (.c (.b false)))]
def Zc4.r1:List Oper:=[
 oD 3 (.fa 0 1),
 oD 4 (.ld false 1 3),
 oD 5 (.fa 1 1),
 oD 6 (.ld false 1 5),
 oD 7 (.mx [.t 4,.t 6]),
 oD 8 (.bin .gtr 7 (.c (.n 1000000))),
 oD 9 (.mv 8),
 ⟨(some 10),.fa 0 1,(some (9,false))⟩,
 ⟨(some 11),.ld false 1 10,(some (9,false))⟩,
 ⟨(some 12),.fa 1 1,(some (9,false))⟩,
 ⟨(some 13),.ld false 1 12,(some (9,false))⟩,
 ⟨(some 14),.mn [.t 11,.t 13],(some (9,false))⟩,
 ⟨(some 15),.bin .lss 14 (.c (.n (-1000000))),(some (9,false))⟩,
 oD 16 (.pick 9 (.c (.b true)) 15),
 oD 2 (.mv 16)]
def Zc4.code:Code:=.seq (.region Zc4.r0) (.seq (.region Zc4.r1) (.ret))
def Zc4:Func:=⟨17,[.t 2],Zc4.code⟩
/-! muntin/compass.Between -/
def z3.r0:List Oper:=[
 oD 2 (.box 0),
 oD 3 (.box 1),
 oD 4 (.mv (.c (.n 0))),
 oD 5 (.mv (.c (.b false)))]
def z3.r1:List Oper:=[
 oD 7 (.fa 0 2),
 oD 8 (.ld false 1 7),
 oD 9 (.fa 0 3),
 oD 10 (.ld false 1 9),
 oD 11 (.eq false .sc 8 10),
 oD 12 (.fa 1 2),
 oD 13 (.ld false 1 12),
 oD 14 (.fa 1 3),
 oD 15 (.ld false 1 14),
 oD 16 (.eq false .sc 13 15),
 oD 17 (.eq false .bl 11 16),
 oD 6 (.mv 17)]
def z3.r2:List Oper:=[
 oD 4 (.mv (.c (.n 0))),
 oD 5 (.mv (.c (.b false)))]
def z3.r3:List Oper:=[
 oD 19 (.fa 0 2),
 oD 20 (.ld false 1 19),
 oD 21 (.fa 0 3),
 oD 22 (.ld false 1 21),
 oD 23 (.bin .lss 20 22),
 oD 18 (.mv 23)]
def z3.r4:List Oper:=[
 oD 4 (.mv (.c (.n 0))),
 oD 5 (.mv (.c (.b true)))]
def z3.r5:List Oper:=[
 oD 25 (.fa 0 2),
 oD 26 (.ld false 1 25),
 oD 27 (.fa 0 3),
 oD 28 (.ld false 1 27),
 oD 29 (.bin .gtr 26 28),
 oD 24 (.mv 29)]
def z3.r6:List Oper:=[
 oD 4 (.mv (.c (.n 2))),
 oD 5 (.mv (.c (.b true)))]
def z3.r7:List Oper:=[
 oD 31 (.fa 1 2),
 oD 32 (.ld false 1 31),
 oD 33 (.fa 1 3),
 oD 34 (.ld false 1 33),
 oD 35 (.bin .lss 32 34),
 oD 30 (.mv 35)]
def z3.r8:List Oper:=[
 oD 4 (.mv (.c (.n 1))),
 oD 5 (.mv (.c (.b true)))]
def z3.r9:List Oper:=[
 oD 4 (.mv (.c (.n 3))),
 oD 5 (.mv (.c (.b true)))]
def z3.code:Code:=.seq (.region z3.r0) (.seq (.block 0 (.seq (.region z3.r1) (.cond 6 (.seq (.region z3.r2) (.ret)) (.seq (.region z3.r3) (.cond 18 (.seq (.region z3.r4) (.ret)) (.seq (.region z3.r5) (.cond 24 (.seq (.region z3.r6) (.ret)) (.seq (.region z3.r7) (.cond 30 (.seq (.region z3.r8) (.ret)) (.skip)))))))))) (.seq (.region z3.r9) (.ret)))
def z3:Func:=⟨36,[.t 4,.t 5],z3.code⟩
/-! muntin/arcs.weight -/
def Zbt.r0:List Oper:=[
 oD 2 (.mv (.c (.n 0)))]
def Zbt.r1:List Oper:=[
 oD 3 (.mv 0),
 oD 4 (.bin .geq 3 (.c (.n 0)))]
def Zbt.r2:List Oper:=[
 oD 2 (.mv (.c (.n 1)))]
def Zbt.r3:List Oper:=[
 oD 2 (.mv (.c (.n 0)))]
def Zbt.code:Code:=.seq (.region Zbt.r0) (.seq (.seq (.region Zbt.r1) (.cond 4 (.seq (.region Zbt.r2) (.ret)) (.skip))) (.seq (.region Zbt.r3) (.ret)))
def Zbt:Func:=⟨5,[.t 2],Zbt.code⟩
/-! muntin/muntinref16.First -/
def zp.r0:List Oper:=[
 oD 6 (.mv (.c (.n 0)))]
def zp.r1:List Oper:=[
 oD 7 (.mv (.c (.n 0)))]
def zp.r2:List Oper:=[
 oD 9 (.mv 7),
 oD 10 (.mv 0),
 oD 11 (.len 10),
 oD 12 (.bin .leq 9 11)]
def zp.r4:List Oper:=[
 oD 15 (.mv 0),
 oD 16 (.mv 1),
 oD 17 (.mv 2),
 oD 18 (.bin .add 17 (.c (.n 2))),
 oD 19 (.bin .rem 18 (.c (.n 4))),
 oD 20 (.ixa 8 15 16),
 oD 21 (.fa 0 20),
 oD 22 (.ixaa 1 4 21 19),
 oD 23 (.ld false 1 22),
 oD 8 (.mv 23)]
def zp.r5:List Oper:=[
 oD 24 (.mv 8),
 oD 25 (.bin .lss 24 (.c (.n 0)))]
def zp.r6:List Oper:=[
 oD 26 (.mv 1),
 oD 6 (.mv 26)]
def zp.r7:List Oper:=[
 oD 27 (.mv 8),
 oD 1 (.mv 27)]
def zp.r3:List Oper:=[
 oD 13 (.mv 7),
 oD 14 (.bin .add 13 (.c (.n 1))),
 oD 7 (.mv 14)]
def zp.l0:Code:=.seq (.seq (.region zp.r2) (.cond 12 (.skip) (.exit 0))) (.seq (.block 1 (.seq (.region zp.r4) (.seq (.seq (.region zp.r5) (.cond 25 (.seq (.region zp.r6) (.ret)) (.skip))) (.region zp.r7)))) (.region zp.r3))
def zp.r8:List Oper:=[
 oD 6 (.mv (.c (.n (-1))))]
def zp.code:Code:=.seq (.region zp.r0) (.seq (.seq (.region zp.r1) (.block 0 (.loop zp.l0))) (.seq (.region zp.r8) (.ret)))
def zp:Func:=⟨28,[.t 6],zp.code⟩
/-! slices.IndexFunc[[]muntin/api.Point,muntin/api.Point] -/
def ZF.r0:List Oper:=[
 oD 4 (.mv (.c (.n 0)))]
def ZF.r1:List Oper:=[
 oD 6 (.mv 0),
 oD 7 (.len 6),
 oD 8 (.mv (.c (.n 0)))]
def ZF.r2:List Oper:=[
 oD 9 (.bin .lss 8 7)]
def ZF.r3:List Oper:=[
 oD 10 (.mv 8),
 oD 5 (.mv 10)]
def ZF.r4:List Oper:=[
 oD 11 (.mv 1),
 oD 12 (.mv 0),
 oD 13 (.mv 5),
 oD 14 (.ixa 2 12 13),
 oD 15 (.ld true 2 14),
 oD 16 (.call 11 [.t 15])]
def ZF.r5:List Oper:=[
 oD 17 (.mv 5),
 oD 4 (.mv 17)]
def ZF.r6:List Oper:=[
 oD 18 (.bin .add 8 (.c (.n 1))),
 oD 8 (.mv 18)]
def ZF.l0:Code:=.seq (.region ZF.r2) (.seq (.cond 9 (.skip) (.exit 0)) (.seq (.block 1 (.seq (.region ZF.r3) (.seq (.region ZF.r4) (.cond 16 (.seq (.region ZF.r5) (.ret)) (.skip))))) (.region ZF.r6)))
def ZF.r7:List Oper:=[
 oD 4 (.mv (.c (.n (-1))))]
def ZF.code:Code:=.seq (.region ZF.r0) (.seq (.seq (.region ZF.r1) (.block 0 (.loop ZF.l0))) (.seq (.region ZF.r7) (.ret)))
def ZF:Func:=⟨19,[.t 4],ZF.code⟩
/-! slices.Clone[[]muntin/api.Point,muntin/api.Point] -/
def zW.r0:List Oper:=[
 oD 2 (.mv (.c (.sn)))]
def zW.r1:List Oper:=[
 oD 3 (.mv 0),
 oD 4 (.eq false .sl 3 (.c (.sn)))]
def zW.r2:List Oper:=[
 oD 2 (.mv (.c (.sn)))]
def zW.r3:List Oper:=[
 oD 5 (.bsl 2 0 [.n 0,.n 0] []),
 oD 6 (.mv 0),
 oD 7 (.app 2 16 5 6),
 oD 2 (.mv 7)]
def zW.code:Code:=.seq (.region zW.r0) (.seq (.seq (.region zW.r1) (.cond 4 (.seq (.region zW.r2) (.ret)) (.skip))) (.seq (.region zW.r3) (.ret)))
def zW:Func:=⟨8,[.t 2],zW.code⟩
/-! muntin/valid.Check -/
def Zak.r0:List Oper:=[
 oD 2 (.mv (.c (.n 0)))]
def Zak.r1:List Oper:=[
 oD 6 (.mv 0),
 oD 7 (.call (.c (.f 66 [])) [.t 6]),
 oD 3 (.mv 7)]
def Zak.r2:List Oper:=[
 oD 8 (.mv 3),
 oD 9 (.eq true .sc 8 (.c (.n 0)))]
def Zak.r3:List Oper:=[
 oD 10 (.mv 3),
 oD 2 (.mv 10)]
def Zak.r4:List Oper:=[
 oD 11 (.mv 0),
 oD 12 (.call (.c (.f 32 [])) [.t 11]),
 oD 13 (.un .not 12)]
def Zak.r5:List Oper:=[
 oD 2 (.mv (.c (.n 13)))]
def Zak.r6:List Oper:=[
 oD 15 (.mv 0),
 oD 16 (.call (.c (.f 201 [])) [.t 15]),
 oD 14 (.mv 16),
 oD 17 (.ext 14 0),
 oD 18 (.ext 14 1),
 oD 4 (.mv 17),
 oD 5 (.mv 18)]
def Zak.r7:List Oper:=[
 oD 19 (.mv 5),
 oD 20 (.un .not 19),
 oD 21 (.mv 20),
 ⟨(some 22),.mv 0,(some (21,true))⟩,
 ⟨(some 23),.len 22,(some (21,true))⟩,
 ⟨(some 24),.bin .gtr 23 (.c (.n 1)),(some (21,true))⟩,
 oD 25 (.pick 21 24 (.c (.b false)))]
def Zak.r8:List Oper:=[
 oD 2 (.mv (.c (.n 10)))]
def Zak.r9:List Oper:=[
 oD 2 (.mv (.c (.n 0)))]
def Zak.code:Code:=.seq (.region Zak.r0) (.seq (.seq (.region Zak.r1) (.seq (.region Zak.r2) (.cond 9 (.seq (.region Zak.r3) (.ret)) (.skip)))) (.seq (.seq (.region Zak.r4) (.cond 13 (.seq (.region Zak.r5) (.ret)) (.skip))) (.seq (.seq (.region Zak.r6) (.seq (.region Zak.r7) (.cond 25 (.seq (.region Zak.r8) (.ret)) (.skip)))) (.seq (.region Zak.r9) (.ret)))))
def Zak:Func:=⟨26,[.t 2],Zak.code⟩
/-! muntin/muntinref12.Faces -/
def Z2.r0:List Oper:=[
 oD 2 (.mv (.c (.sn)))]
def Z2.r1:List Oper:=[
 oD 9 (.mv 0),
 oD 10 (.len 9),
 oD 11 (.bin .mul (.c (.n 4)) 10),
 oD 12 (.mks 1 1 [.b false] 11 11),
 oD 3 (.mv 12)]
def Z2.r2:List Oper:=[
 oD 4 (.mv (.c (.sn)))]
def Z2.r3:List Oper:=[
 oD 5 (.mv (.c (.n 0)))]
def Z2.r4:List Oper:=[
 oD 13 (.mv 5),
 oD 14 (.mv 0),
 oD 15 (.len 14),
 oD 16 (.bin .lss 13 15)]
def Z2.r6:List Oper:=[
 oD 6 (.mv (.c (.n 0)))]
def Z2.r7:List Oper:=[
 oD 19 (.mv 6),
 oD 20 (.bin .lss 19 (.c (.n 4)))]
def Z2.r9:List Oper:=[
 oD 23 (.mv 0),
 oD 24 (.mv 5),
 oD 25 (.mv 6),
 oD 26 (.ixa 8 23 24),
 oD 27 (.fa 0 26),
 oD 28 (.ixaa 1 4 27 25),
 oD 29 (.ld false 1 28),
 oD 30 (.bin .lss 29 (.c (.n 0))),
 oD 31 (.mv 30),
 ⟨(some 32),.mv 3,(some (31,false))⟩,
 ⟨(some 33),.mv 5,(some (31,false))⟩,
 ⟨(some 34),.bin .mul (.c (.n 4)) 33,(some (31,false))⟩,
 ⟨(some 35),.mv 6,(some (31,false))⟩,
 ⟨(some 36),.bin .add 34 35,(some (31,false))⟩,
 ⟨(some 37),.ixa 1 32 36,(some (31,false))⟩,
 ⟨(some 38),.ld false 1 37,(some (31,false))⟩,
 oD 39 (.pick 31 (.c (.b true)) 38)]
def Z2.r10:List Oper:=[
 oD 7 (.mv (.c (.sn)))]
def Z2.r11:List Oper:=[
 oD 40 (.mv 5),
 oD 41 (.mv 6),
 oD 42 (.build [.n 0,.n 0] [(0,1,.t 40),(1,1,.t 41)]),
 oD 8 (.alloc [.n 0,.n 0]),
 oN (.st 2 8 42)]
def Z2.r12:List Oper:=[
 oD 43 (.mv 3),
 oD 44 (.fa 0 8),
 oD 45 (.ld false 1 44),
 oD 46 (.bin .mul (.c (.n 4)) 45),
 oD 47 (.fa 1 8),
 oD 48 (.ld false 1 47),
 oD 49 (.bin .add 46 48),
 oD 50 (.ixa 1 43 49),
 oD 51 (.ld false 1 50),
 oD 52 (.un .not 51)]
def Z2.r13:List Oper:=[
 oD 53 (.mv 3),
 oD 54 (.fa 0 8),
 oD 55 (.ld false 1 54),
 oD 56 (.bin .mul (.c (.n 4)) 55),
 oD 57 (.fa 1 8),
 oD 58 (.ld false 1 57),
 oD 59 (.bin .add 56 58),
 oD 60 (.ixa 1 53 59),
 oN (.st 1 60 (.c (.b true)))]
def Z2.r14:List Oper:=[
 oD 61 (.mv 7),
 oD 62 (.ld true 2 8),
 oD 63 (.bsl 2 1 [.n 0,.n 0] [(0,2,.t 62)]),
 oD 64 (.app 2 16 61 63),
 oD 7 (.mv 64)]
def Z2.r15:List Oper:=[
 oD 65 (.mv 0),
 oD 66 (.ld true 2 8),
 oD 67 (.call (.c (.f 202 [])) [.t 65,.t 66]),
 oN (.st 2 8 67)]
def Z2.l0:Code:=.seq (.seq (.region Z2.r12) (.cond 52 (.skip) (.exit 4))) (.block 5 (.seq (.region Z2.r13) (.seq (.region Z2.r14) (.region Z2.r15))))
def Z2.r16:List Oper:=[
 oD 68 (.mv 4),
 oD 69 (.mv 7),
 oD 70 (.bsl 1 1 [.sn] [(0,1,.t 69)]),
 oD 71 (.app 1 24 68 70),
 oD 4 (.mv 71)]
def Z2.r8:List Oper:=[
 oD 21 (.mv 6),
 oD 22 (.bin .add 21 (.c (.n 1))),
 oD 6 (.mv 22)]
def Z2.l1:Code:=.seq (.seq (.region Z2.r7) (.cond 20 (.skip) (.exit 2))) (.seq (.block 3 (.seq (.seq (.region Z2.r9) (.cond 39 (.exit 3) (.skip))) (.seq (.region Z2.r10) (.seq (.region Z2.r11) (.seq (.block 4 (.loop Z2.l0)) (.region Z2.r16)))))) (.region Z2.r8))
def Z2.r5:List Oper:=[
 oD 17 (.mv 5),
 oD 18 (.bin .add 17 (.c (.n 1))),
 oD 5 (.mv 18)]
def Z2.l2:Code:=.seq (.seq (.region Z2.r4) (.cond 16 (.skip) (.exit 0))) (.seq (.block 1 (.seq (.region Z2.r6) (.block 2 (.loop Z2.l1)))) (.region Z2.r5))
def Z2.r17:List Oper:=[
 oD 72 (.mv 4),
 oD 2 (.mv 72)]
def Z2.code:Code:=.seq (.region Z2.r0) (.seq (.region Z2.r1) (.seq (.region Z2.r2) (.seq (.seq (.region Z2.r3) (.block 0 (.loop Z2.l2))) (.seq (.region Z2.r17) (.ret)))))
def Z2:Func:=⟨73,[.t 2],Z2.code⟩
/-! muntin/muntinref14.Outer -/
def Zw.r0:List Oper:=[
 oD 2 (.mv (.c (.n 0))),
 oD 3 (.mv (.c (.n 0)))]
def Zw.r1:List Oper:=[
 oD 11 (.mv 0),
 oD 12 (.call (.c (.f 34 [])) [.t 11]),
 oD 4 (.mv 12)]
def Zw.r2:List Oper:=[
 oD 13 (.mv 4),
 oD 14 (.eq true .sc 13 (.c (.n 0)))]
def Zw.r3:List Oper:=[
 oD 15 (.mv 4),
 oD 2 (.mv (.c (.n (-1)))),
 oD 3 (.mv 15)]
def Zw.r4:List Oper:=[
 oD 16 (.mv 0),
 oD 17 (.call (.c (.f 30 [])) [.t 16]),
 oD 5 (.mv 17)]
def Zw.r5:List Oper:=[
 oD 18 (.mv 5),
 oD 19 (.len 18),
 oD 20 (.eq true .sc 19 (.c (.n 1)))]
def Zw.r6:List Oper:=[
 oD 2 (.mv (.c (.n (-1)))),
 oD 3 (.mv (.c (.n 13)))]
def Zw.r7:List Oper:=[
 oD 21 (.mv 0),
 oD 22 (.len 21),
 oD 23 (.eq false .sc 22 (.c (.n 1)))]
def Zw.r8:List Oper:=[
 oD 2 (.mv (.c (.n (-1)))),
 oD 3 (.mv (.c (.n 0)))]
def Zw.r9:List Oper:=[
 oD 24 (.mv 0),
 oD 25 (.call (.c (.f 177 [])) [.t 24]),
 oD 6 (.mv 25)]
def Zw.r10:List Oper:=[
 oD 7 (.mv (.c (.n (-1))))]
def Zw.r11:List Oper:=[
 oD 8 (.mv (.c (.n 0)))]
def Zw.r12:List Oper:=[
 oD 26 (.mv 8),
 oD 27 (.mv 6),
 oD 28 (.len 27),
 oD 29 (.bin .lss 26 28)]
def Zw.r14:List Oper:=[
 oD 32 (.mv 0),
 oD 33 (.mv 6),
 oD 34 (.mv 8),
 oD 35 (.ixa 1 33 34),
 oD 36 (.ld false 1 35),
 oD 37 (.call (.c (.f 182 [])) [.t 32,.t 36]),
 oD 9 (.mv 37)]
def Zw.r15:List Oper:=[
 oD 38 (.mv 9),
 oD 39 (.call (.c (.f 206 [])) [.t 38]),
 oD 10 (.mv 39)]
def Zw.r16:List Oper:=[
 oD 40 (.mv 10),
 oD 41 (.eq true .sc 40 (.c (.n 4))),
 oD 42 (.mv 41),
 ⟨(some 43),.mv 10,(some (42,true))⟩,
 ⟨(some 44),.eq true .sc 43 (.c (.n (-4))),(some (42,true))⟩,
 oD 45 (.pick 42 44 (.c (.b false))),
 oD 46 (.mv 45),
 ⟨(some 47),.mv 10,(some (46,false))⟩,
 ⟨(some 48),.eq false .sc 47 (.c (.n (-4))),(some (46,false))⟩,
 ⟨(some 49),.mv 48,(some (46,false))⟩,
 ⟨(some 50),.mv 7,(some (49,true))⟩,
 ⟨(some 51),.bin .geq 50 (.c (.n 0)),(some (49,true))⟩,
 ⟨(some 52),.pick 49 51 (.c (.b false)),(some (46,false))⟩,
 oD 53 (.pick 46 (.c (.b true)) 52)]
def Zw.r17:List Oper:=[
 oD 2 (.mv (.c (.n (-1)))),
 oD 3 (.mv (.c (.n 10)))]
def Zw.r18:List Oper:=[
 oD 54 (.mv 10),
 oD 55 (.eq false .sc 54 (.c (.n (-4))))]
def Zw.r19:List Oper:=[
 oD 56 (.mv 8),
 oD 7 (.mv 56)]
def Zw.r13:List Oper:=[
 oD 30 (.mv 8),
 oD 31 (.bin .add 30 (.c (.n 1))),
 oD 8 (.mv 31)]
def Zw.l0:Code:=.seq (.seq (.region Zw.r12) (.cond 29 (.skip) (.exit 0))) (.seq (.block 1 (.seq (.region Zw.r14) (.seq (.region Zw.r15) (.seq (.seq (.region Zw.r16) (.cond 53 (.seq (.region Zw.r17) (.ret)) (.skip))) (.seq (.region Zw.r18) (.cond 55 (.region Zw.r19) (.skip))))))) (.region Zw.r13))
def Zw.r20:List Oper:=[
 oD 57 (.mv 7),
 oD 58 (.bin .lss 57 (.c (.n 0)))]
def Zw.r21:List Oper:=[
 oD 2 (.mv (.c (.n (-1)))),
 oD 3 (.mv (.c (.n 10)))]
def Zw.r22:List Oper:=[
 oD 59 (.mv 7),
 oD 2 (.mv 59),
 oD 3 (.mv (.c (.n 0)))]
def Zw.code:Code:=.seq (.region Zw.r0) (.seq (.region Zw.r1) (.seq (.seq (.region Zw.r2) (.cond 14 (.seq (.region Zw.r3) (.ret)) (.skip))) (.seq (.region Zw.r4) (.seq (.seq (.region Zw.r5) (.cond 20 (.seq (.region Zw.r6) (.ret)) (.skip))) (.seq (.seq (.region Zw.r7) (.cond 23 (.seq (.region Zw.r8) (.ret)) (.skip))) (.seq (.region Zw.r9) (.seq (.region Zw.r10) (.seq (.seq (.region Zw.r11) (.block 0 (.loop Zw.l0))) (.seq (.seq (.region Zw.r20) (.cond 58 (.seq (.region Zw.r21) (.ret)) (.skip))) (.seq (.region Zw.r22) (.ret)))))))))))
def Zw:Func:=⟨60,[.t 2,.t 3],Zw.code⟩
/-! muntin/muntinref12.Turns -/
def zo.r0:List Oper:=[
 oD 4 (.mv (.c (.sn)))]
def zo.r1:List Oper:=[
 oD 5 (.mv (.c (.sn)))]
def zo.r2:List Oper:=[
 oD 6 (.mv (.c (.n 0)))]
def zo.r3:List Oper:=[
 oD 9 (.mv 6),
 oD 10 (.mv 1),
 oD 11 (.len 10),
 oD 12 (.bin .lss 9 11)]
def zo.r5:List Oper:=[
 oD 15 (.mv 0),
 oD 16 (.mv 1),
 oD 17 (.mv 6),
 oD 18 (.ixa 2 16 17),
 oD 19 (.ld true 2 18),
 oD 20 (.call (.c (.f 202 [])) [.t 15,.t 19]),
 oD 7 (.alloc [.n 0,.n 0]),
 oN (.st 2 7 20)]
def zo.r6:List Oper:=[
 oD 21 (.mv 1),
 oD 22 (.mv 6),
 oD 23 (.ixa 2 21 22),
 oD 24 (.fa 1 23),
 oD 25 (.ld false 1 24),
 oD 26 (.fa 1 7),
 oD 27 (.ld false 1 26),
 oD 28 (.call (.c (.f 207 [])) [.t 25,.t 27]),
 oD 8 (.mv 28)]
def zo.r7:List Oper:=[
 oD 29 (.mv 5),
 oD 30 (.mv 8),
 oD 31 (.bsl 1 1 [.n 0] [(0,1,.t 30)]),
 oD 32 (.app 1 8 29 31),
 oD 5 (.mv 32)]
def zo.r4:List Oper:=[
 oD 13 (.mv 6),
 oD 14 (.bin .add 13 (.c (.n 1))),
 oD 6 (.mv 14)]
def zo.l0:Code:=.seq (.seq (.region zo.r3) (.cond 12 (.skip) (.exit 0))) (.seq (.block 1 (.seq (.region zo.r5) (.seq (.draw zo.r6 [(4,6)]) (.region zo.r7)))) (.region zo.r4))
def zo.r8:List Oper:=[
 oD 33 (.mv 5),
 oD 4 (.mv 33)]
def zo.code:Code:=.seq (.region zo.r0) (.seq (.region zo.r1) (.seq (.seq (.region zo.r2) (.block 0 (.loop zo.l0))) (.seq (.region zo.r8) (.ret))))
def zo:Func:=⟨34,[.t 4],zo.code⟩
/-! muntin/muntinlaw26.wakes -/
def Za6.r0:List Oper:=[
 oD 0 (.mv (.c (.b false)))]
def Za6.r1:List Oper:=[
 oD 2 (.call (.c (.f 46 [])) [.c (.n 2)]),
 oD 1 (.mv 2)]
def Za6.r2:List Oper:=[
 oD 4 (.mv 1),
 oD 5 (.call (.c (.f 53 [])) [.t 4,.c (.n 0),.c (.n 0),.c (.n 1),.c (.n 0)]),
 oD 3 (.mv 5),
 oD 6 (.ext 3 0),
 oD 7 (.ext 3 1),
 oD 1 (.mv 6)]
def Za6.r3:List Oper:=[
 oD 8 (.mv 1),
 oD 9 (.build [.n 0,.n 0] []),
 oD 10 (.build [.n 0,.n 0] [(0,1,.c (.n 4))]),
 oD 11 (.bsl 2 2 [.n 0,.n 0] [(0,2,.t 9),(2,2,.t 10)]),
 oD 12 (.call (.c (.f 208 [])) [.t 8,.t 11]),
 oD 13 (.eq false .sc 12 (.c (.n 0))),
 oD 14 (.mv 13),
 ⟨(some 15),.mv 1,(some (14,true))⟩,
 ⟨(some 16),.build [.n 0,.n 0] [],(some (14,true))⟩,
 ⟨(some 17),.build [.n 0,.n 0] [(1,1,.c (.n 4))],(some (14,true))⟩,
 ⟨(some 18),.bsl 2 2 [.n 0,.n 0] [(0,2,.t 16),(2,2,.t 17)],(some (14,true))⟩,
 ⟨(some 19),.call (.c (.f 208 [])) [.t 15,.t 18],(some (14,true))⟩,
 ⟨(some 20),.eq false .sc 19 (.c (.n 15)),(some (14,true))⟩,
 oD 21 (.pick 14 20 (.c (.b false))),
 oD 22 (.mv 21),
 ⟨(some 23),.mv 1,(some (22,true))⟩,
 ⟨(some 24),.call (.c (.f 208 [])) [.t 23,.c (.sn)],(some (22,true))⟩,
 ⟨(some 25),.eq false .sc 24 (.c (.n 2)),(some (22,true))⟩,
 oD 26 (.pick 22 25 (.c (.b false))),
 oD 27 (.mv 26),
 ⟨(some 28),.build [.n 0,.n 0,.n 0,.n 0] [],(some (27,true))⟩,
 ⟨(some 29),.build [.n 0,.n 0] [(0,1,.c (.n 1))],(some (27,true))⟩,
 ⟨(some 30),.build [.n 0,.n 0] [(0,1,.c (.n 1))],(some (27,true))⟩,
 ⟨(some 31),.build [.n 0,.n 0,.n 0,.n 0] [(0,2,.t 29),(2,2,.t 30)],(some (27,true))⟩,
 ⟨(some 32),.call (.c (.f 186 [])) [.t 28,.t 31],(some (27,true))⟩,
 oD 33 (.pick 27 32 (.c (.b false))),
 oD 0 (.mv 33)]
def Za6.code:Code:=.seq (.region Za6.r0) (.seq (.region Za6.r1) (.seq (.region Za6.r2) (.seq (.region Za6.r3) (.ret))))
def Za6:Func:=⟨34,[.t 0],Za6.code⟩
/-! muntin/check.Apart -/
def Zcb.r0:List Oper:=[
 oD 2 (.box 0),
 oD 3 (.box 1),
 oD 4 (.mv (.c (.b false)))]
def Zcb.r1:List Oper:=[
 oD 5 (.fa 2 2),
 oD 6 (.fa 0 5),
 oD 7 (.ld false 1 6),
 oD 8 (.fa 0 3),
 oD 9 (.fa 0 8),
 oD 10 (.ld false 1 9),
 oD 11 (.bin .lss 7 10),
 oD 12 (.mv 11),
 ⟨(some 13),.fa 2 3,(some (12,false))⟩,
 ⟨(some 14),.fa 0 13,(some (12,false))⟩,
 ⟨(some 15),.ld false 1 14,(some (12,false))⟩,
 ⟨(some 16),.fa 0 2,(some (12,false))⟩,
 ⟨(some 17),.fa 0 16,(some (12,false))⟩,
 ⟨(some 18),.ld false 1 17,(some (12,false))⟩,
 ⟨(some 19),.bin .lss 15 18,(some (12,false))⟩,
 oD 20 (.pick 12 (.c (.b true)) 19),
 oD 21 (.mv 20),
 ⟨(some 22),.fa 2 2,(some (21,false))⟩,
 ⟨(some 23),.fa 1 22,(some (21,false))⟩,
 ⟨(some 24),.ld false 1 23,(some (21,false))⟩,
 ⟨(some 25),.fa 0 3,(some (21,false))⟩,
 ⟨(some 26),.fa 1 25,(some (21,false))⟩,
 ⟨(some 27),.ld false 1 26,(some (21,false))⟩,
 ⟨(some 28),.bin .lss 24 27,(some (21,false))⟩,
 oD 29 (.pick 21 (.c (.b true)) 28),
 oD 30 (.mv 29),
 ⟨(some 31),.fa 2 3,(some (30,false))⟩,
 ⟨(some 32),.fa 1 31,(some (30,false))⟩,
 ⟨(some 33),.ld false 1 32,(some (30,false))⟩,
 ⟨(some 34),.fa 0 2,(some (30,false))⟩,
 ⟨(some 35),.fa 1 34,(some (30,false))⟩,
 ⟨(some 36),.ld false 1 35,(some (30,false))⟩,
 ⟨(some 37),.bin .lss 33 36,(some (30,false))⟩,
 oD 38 (.pick 30 (.c (.b true)) 37),
 oD 4 (.mv 38)]
def Zcb.code:Code:=.seq (.region Zcb.r0) (.seq (.region Zcb.r1) (.ret))
def Zcb:Func:=⟨39,[.t 4],Zcb.code⟩
/-! muntin/sep.Lines -/
def Zb3.r0:List Oper:=[
 oD 2 (.mv (.c (.sn))),
 oD 3 (.mv (.c (.n 0)))]
def Zb3.r1:List Oper:=[
 oD 7 (.mv 0),
 oD 8 (.call (.c (.f 120 [])) [.t 7]),
 oD 6 (.mv 8),
 oD 9 (.ext 6 0),
 oD 10 (.ext 6 1),
 oD 4 (.alloc [.sn,.sn,.sn,.sn]),
 oN (.st 4 4 9),
 oD 5 (.mv 10)]
def Zb3.r2:List Oper:=[
 oD 11 (.mv 5),
 oD 12 (.eq true .sc 11 (.c (.n 0)))]
def Zb3.r3:List Oper:=[
 oD 13 (.mv 5),
 oD 2 (.mv (.c (.sn))),
 oD 3 (.mv 13)]
def Zb3.r4:List Oper:=[
 oD 14 (.ld true 4 4),
 oD 15 (.call (.c (.f 209 [])) [.t 14]),
 oD 2 (.mv 15),
 oD 3 (.mv (.c (.n 0)))]
def Zb3.code:Code:=.seq (.region Zb3.r0) (.seq (.region Zb3.r1) (.seq (.seq (.region Zb3.r2) (.cond 12 (.seq (.region Zb3.r3) (.ret)) (.skip))) (.seq (.region Zb3.r4) (.ret))))
def Zb3:Func:=⟨16,[.t 2,.t 3],Zb3.code⟩
/-! muntin/muntinref19.Lines -/
def ZG.r0:List Oper:=[
 oD 1 (.box 0),
 oD 2 (.mv (.c (.sn)))]
def ZG.r1:List Oper:=[
 oD 3 (.mv (.c (.sn)))]
def ZG.r2:List Oper:=[
 oD 4 (.mv (.c (.n 0)))]
def ZG.r3:List Oper:=[
 oD 6 (.mv 4),
 oD 7 (.fa 2 1),
 oD 8 (.ld false 1 7),
 oD 9 (.len 8),
 oD 10 (.bin .lss 6 9)]
def ZG.r5:List Oper:=[
 oD 13 (.fa 2 1),
 oD 14 (.ld false 1 13),
 oD 15 (.mv 4),
 oD 16 (.ixa 1 14 15),
 oD 17 (.ld false 1 16),
 oD 18 (.len 17),
 oD 19 (.bin .gtr 18 (.c (.n 1)))]
def ZG.r6:List Oper:=[
 oD 20 (.mv 3),
 oD 21 (.mv 4),
 oD 22 (.build [.b false,.n 0] [(0,1,.c (.b true)),(1,1,.t 21)]),
 oD 23 (.bsl 2 1 [.b false,.n 0] [(0,2,.t 22)]),
 oD 24 (.app 2 16 20 23),
 oD 3 (.mv 24)]
def ZG.r4:List Oper:=[
 oD 11 (.mv 4),
 oD 12 (.bin .add 11 (.c (.n 1))),
 oD 4 (.mv 12)]
def ZG.l0:Code:=.seq (.seq (.region ZG.r3) (.cond 10 (.skip) (.exit 0))) (.seq (.block 1 (.seq (.region ZG.r5) (.cond 19 (.region ZG.r6) (.skip)))) (.region ZG.r4))
def ZG.r7:List Oper:=[
 oD 5 (.mv (.c (.n 0)))]
def ZG.r8:List Oper:=[
 oD 25 (.mv 5),
 oD 26 (.fa 3 1),
 oD 27 (.ld false 1 26),
 oD 28 (.len 27),
 oD 29 (.bin .lss 25 28)]
def ZG.r10:List Oper:=[
 oD 32 (.fa 3 1),
 oD 33 (.ld false 1 32),
 oD 34 (.mv 5),
 oD 35 (.ixa 1 33 34),
 oD 36 (.ld false 1 35),
 oD 37 (.len 36),
 oD 38 (.bin .gtr 37 (.c (.n 1)))]
def ZG.r11:List Oper:=[
 oD 39 (.mv 3),
 oD 40 (.mv 5),
 oD 41 (.build [.b false,.n 0] [(1,1,.t 40)]),
 oD 42 (.bsl 2 1 [.b false,.n 0] [(0,2,.t 41)]),
 oD 43 (.app 2 16 39 42),
 oD 3 (.mv 43)]
def ZG.r9:List Oper:=[
 oD 30 (.mv 5),
 oD 31 (.bin .add 30 (.c (.n 1))),
 oD 5 (.mv 31)]
def ZG.l1:Code:=.seq (.seq (.region ZG.r8) (.cond 29 (.skip) (.exit 2))) (.seq (.block 3 (.seq (.region ZG.r10) (.cond 38 (.region ZG.r11) (.skip)))) (.region ZG.r9))
def ZG.r12:List Oper:=[
 oD 44 (.mv 3),
 oD 2 (.mv 44)]
def ZG.code:Code:=.seq (.region ZG.r0) (.seq (.region ZG.r1) (.seq (.seq (.region ZG.r2) (.block 0 (.loop ZG.l0))) (.seq (.seq (.region ZG.r7) (.block 2 (.loop ZG.l1))) (.seq (.region ZG.r12) (.ret)))))
def ZG:Func:=⟨45,[.t 2],ZG.code⟩
/-! muntin/muntinref17.Straight -/
def ZI.r0:List Oper:=[
 oD 4 (.mv (.c (.b false)))]
def ZI.r1:List Oper:=[
 oD 5 (.mv (.c (.n 0)))]
def ZI.r2:List Oper:=[
 oD 8 (.mv 5),
 oD 9 (.mv 0),
 oD 10 (.len 9),
 oD 11 (.bin .lss 8 10)]
def ZI.r4:List Oper:=[
 oD 14 (.mv 0),
 oD 15 (.mv 5),
 oD 16 (.ixa 8 14 15),
 oD 17 (.fa 0 16),
 oD 18 (.ixaa 1 4 17 (.c (.n 0))),
 oD 19 (.ld false 1 18),
 oD 6 (.mv 19)]
def ZI.r5:List Oper:=[
 oD 20 (.mv 6),
 oD 21 (.bin .geq 20 (.c (.n 0))),
 oD 22 (.mv 21),
 ⟨(some 23),.mv 1,(some (22,true))⟩,
 ⟨(some 24),.mv 6,(some (22,true))⟩,
 ⟨(some 25),.mx [.t 24,.c (.n 0)],(some (22,true))⟩,
 ⟨(some 26),.ixa 2 23 25,(some (22,true))⟩,
 ⟨(some 27),.fa 1 26,(some (22,true))⟩,
 ⟨(some 28),.ld false 1 27,(some (22,true))⟩,
 ⟨(some 29),.mv 1,(some (22,true))⟩,
 ⟨(some 30),.mv 5,(some (22,true))⟩,
 ⟨(some 31),.ixa 2 29 30,(some (22,true))⟩,
 ⟨(some 32),.fa 1 31,(some (22,true))⟩,
 ⟨(some 33),.ld false 1 32,(some (22,true))⟩,
 ⟨(some 34),.eq true .sc 28 33,(some (22,true))⟩,
 ⟨(some 35),.mv 34,(some (22,true))⟩,
 ⟨(some 36),.mv 1,(some (35,false))⟩,
 ⟨(some 37),.mv 6,(some (35,false))⟩,
 ⟨(some 38),.mx [.t 37,.c (.n 0)],(some (35,false))⟩,
 ⟨(some 39),.ixa 2 36 38,(some (35,false))⟩,
 ⟨(some 40),.fa 0 39,(some (35,false))⟩,
 ⟨(some 41),.ld false 1 40,(some (35,false))⟩,
 ⟨(some 42),.mv 1,(some (35,false))⟩,
 ⟨(some 43),.mv 5,(some (35,false))⟩,
 ⟨(some 44),.ixa 2 42 43,(some (35,false))⟩,
 ⟨(some 45),.fa 0 44,(some (35,false))⟩,
 ⟨(some 46),.ld false 1 45,(some (35,false))⟩,
 ⟨(some 47),.bin .leq 41 46,(some (35,false))⟩,
 ⟨(some 48),.pick 35 (.c (.b true)) 47,(some (22,true))⟩,
 oD 49 (.pick 22 48 (.c (.b false)))]
def ZI.r6:List Oper:=[
 oD 4 (.mv (.c (.b false)))]
def ZI.r7:List Oper:=[
 oD 50 (.mv 0),
 oD 51 (.mv 5),
 oD 52 (.ixa 8 50 51),
 oD 53 (.fa 0 52),
 oD 54 (.ixaa 1 4 53 (.c (.n 1))),
 oD 55 (.ld false 1 54),
 oD 7 (.mv 55)]
def ZI.r8:List Oper:=[
 oD 56 (.mv 7),
 oD 57 (.bin .geq 56 (.c (.n 0))),
 oD 58 (.mv 57),
 ⟨(some 59),.mv 1,(some (58,true))⟩,
 ⟨(some 60),.mv 7,(some (58,true))⟩,
 ⟨(some 61),.mx [.t 60,.c (.n 0)],(some (58,true))⟩,
 ⟨(some 62),.ixa 2 59 61,(some (58,true))⟩,
 ⟨(some 63),.fa 0 62,(some (58,true))⟩,
 ⟨(some 64),.ld false 1 63,(some (58,true))⟩,
 ⟨(some 65),.mv 1,(some (58,true))⟩,
 ⟨(some 66),.mv 5,(some (58,true))⟩,
 ⟨(some 67),.ixa 2 65 66,(some (58,true))⟩,
 ⟨(some 68),.fa 0 67,(some (58,true))⟩,
 ⟨(some 69),.ld false 1 68,(some (58,true))⟩,
 ⟨(some 70),.eq true .sc 64 69,(some (58,true))⟩,
 ⟨(some 71),.mv 70,(some (58,true))⟩,
 ⟨(some 72),.mv 1,(some (71,false))⟩,
 ⟨(some 73),.mv 7,(some (71,false))⟩,
 ⟨(some 74),.mx [.t 73,.c (.n 0)],(some (71,false))⟩,
 ⟨(some 75),.ixa 2 72 74,(some (71,false))⟩,
 ⟨(some 76),.fa 1 75,(some (71,false))⟩,
 ⟨(some 77),.ld false 1 76,(some (71,false))⟩,
 ⟨(some 78),.mv 1,(some (71,false))⟩,
 ⟨(some 79),.mv 5,(some (71,false))⟩,
 ⟨(some 80),.ixa 2 78 79,(some (71,false))⟩,
 ⟨(some 81),.fa 1 80,(some (71,false))⟩,
 ⟨(some 82),.ld false 1 81,(some (71,false))⟩,
 ⟨(some 83),.bin .leq 77 82,(some (71,false))⟩,
 ⟨(some 84),.pick 71 (.c (.b true)) 83,(some (58,true))⟩,
 oD 85 (.pick 58 84 (.c (.b false)))]
def ZI.r9:List Oper:=[
 oD 4 (.mv (.c (.b false)))]
def ZI.r3:List Oper:=[
 oD 12 (.mv 5),
 oD 13 (.bin .add 12 (.c (.n 1))),
 oD 5 (.mv 13)]
def ZI.l0:Code:=.seq (.seq (.region ZI.r2) (.cond 11 (.skip) (.exit 0))) (.seq (.block 1 (.seq (.region ZI.r4) (.seq (.seq (.draw ZI.r5 [(8,13),(21,26)]) (.cond 49 (.seq (.region ZI.r6) (.ret)) (.skip))) (.seq (.region ZI.r7) (.seq (.draw ZI.r8 [(8,13),(21,26)]) (.cond 85 (.seq (.region ZI.r9) (.ret)) (.skip))))))) (.region ZI.r3))
def ZI.r10:List Oper:=[
 oD 4 (.mv (.c (.b true)))]
def ZI.code:Code:=.seq (.region ZI.r0) (.seq (.seq (.region ZI.r1) (.block 0 (.loop ZI.l0))) (.seq (.region ZI.r10) (.ret)))
def ZI:Func:=⟨86,[.t 4],ZI.code⟩
/-! muntin/valid.outer -/
def zw.r0:List Oper:=[
 oD 2 (.mv (.c (.n 0))),
 oD 3 (.mv (.c (.b false)))]
def zw.r1:List Oper:=[
 oD 10 (.mv 0),
 oD 11 (.call (.c (.f 203 [])) [.t 10]),
 oD 9 (.mv 11),
 oD 12 (.ext 9 0),
 oD 13 (.ext 9 1),
 oD 4 (.mv 12),
 oD 5 (.mv 13)]
def zw.r2:List Oper:=[
 oD 6 (.mv (.c (.n (-1))))]
def zw.r3:List Oper:=[
 oD 14 (.mv 4),
 oD 15 (.len 14),
 oD 16 (.mv (.c (.n 0)))]
def zw.r4:List Oper:=[
 oD 17 (.bin .lss 16 15)]
def zw.r5:List Oper:=[
 oD 18 (.mv 16),
 oD 19 (.ixa 1 14 16),
 oD 20 (.ld false 1 19),
 oD 7 (.mv 18),
 oD 8 (.mv 20)]
def zw.r6:List Oper:=[
 oD 21 (.mv 0),
 oD 22 (.mv 8),
 oD 23 (.call (.c (.f 204 [])) [.t 21,.t 22]),
 oD 24 (.call (.c (.f 219 [])) [.t 23])]
def zw.r8:List Oper:=[
 oD 26 (.eq false .sc 24 (.c (.n 4))),
 oD 25 (.mv 26)]
def zw.r9:List Oper:=[
 oD 28 (.eq false .sc 24 (.c (.n (-4)))),
 oD 27 (.mv 28)]
def zw.r10:List Oper:=[
 oD 29 (.mv 6),
 oD 30 (.bin .geq 29 (.c (.n 0)))]
def zw.r11:List Oper:=[
 oD 2 (.mv (.c (.n 0))),
 oD 3 (.mv (.c (.b false)))]
def zw.r12:List Oper:=[
 oD 31 (.mv 7),
 oD 6 (.mv 31)]
def zw.r7:List Oper:=[
 oD 2 (.mv (.c (.n 0))),
 oD 3 (.mv (.c (.b false)))]
def zw.r13:List Oper:=[
 oD 32 (.bin .add 16 (.c (.n 1))),
 oD 16 (.mv 32)]
def zw.l0:Code:=.seq (.region zw.r4) (.seq (.cond 17 (.skip) (.exit 0)) (.seq (.block 1 (.seq (.region zw.r5) (.seq (.region zw.r6) (.block 2 (.seq (.region zw.r8) (.cond 25 (.skip) (.seq (.region zw.r9) (.cond 27 (.seq (.seq (.region zw.r10) (.cond 30 (.seq (.region zw.r11) (.ret)) (.skip))) (.region zw.r12)) (.seq (.region zw.r7) (.ret)))))))))) (.region zw.r13)))
def zw.r14:List Oper:=[
 oD 33 (.mv 6),
 oD 34 (.mv 6),
 oD 35 (.bin .geq 34 (.c (.n 0))),
 oD 2 (.mv 33),
 oD 3 (.mv 35)]
def zw.code:Code:=.seq (.region zw.r0) (.seq (.region zw.r1) (.seq (.region zw.r2) (.seq (.seq (.region zw.r3) (.block 0 (.loop zw.l0))) (.seq (.region zw.r14) (.ret)))))
def zw:Func:=⟨36,[.t 2,.t 3],zw.code⟩
/-! muntin/muntinref12.Behind -/
def ZX.r0:List Oper:=[
 oD 3 (.box 1),
 oD 4 (.alloc [.n 0,.n 0])]
def ZX.r1:List Oper:=[
 oD 9 (.mv 0),
 oD 10 (.fa 0 3),
 oD 11 (.ld false 1 10),
 oD 12 (.fa 1 3),
 oD 13 (.ld false 1 12),
 oD 14 (.ixa 8 9 11),
 oD 15 (.fa 0 14),
 oD 16 (.ixaa 1 4 15 13),
 oD 17 (.ld false 1 16),
 oD 5 (.mv 17)]
def ZX.r2:List Oper:=[
 oD 18 (.bsl 1 4 [.n 0] [(0,1,.c (.n 1)),(1,1,.c (.n 0)),(2,1,.c (.n 3)),(3,1,.c (.n 2))]),
 oD 6 (.mv 18)]
def ZX.r3:List Oper:=[
 oD 7 (.mv (.c (.n 0)))]
def ZX.r4:List Oper:=[
 oD 19 (.mv 7),
 oD 20 (.bin .lss 19 (.c (.n 4)))]
def ZX.r6:List Oper:=[
 oD 23 (.fa 1 3),
 oD 24 (.ld false 1 23),
 oD 25 (.mv 6),
 oD 26 (.mv 7),
 oD 27 (.ixa 1 25 26),
 oD 28 (.ld false 1 27),
 oD 29 (.bin .add 24 28),
 oD 30 (.bin .rem 29 (.c (.n 4))),
 oD 8 (.mv 30)]
def ZX.r7:List Oper:=[
 oD 31 (.mv 0),
 oD 32 (.mv 5),
 oD 33 (.mv 8),
 oD 34 (.ixa 8 31 32),
 oD 35 (.fa 0 34),
 oD 36 (.ixaa 1 4 35 33),
 oD 37 (.ld false 1 36),
 oD 38 (.bin .geq 37 (.c (.n 0)))]
def ZX.r8:List Oper:=[
 oD 39 (.mv 5),
 oD 40 (.mv 8),
 oD 41 (.build [.n 0,.n 0] [(0,1,.t 39),(1,1,.t 40)]),
 oN (.st 2 4 41)]
def ZX.r5:List Oper:=[
 oD 21 (.mv 7),
 oD 22 (.bin .add 21 (.c (.n 1))),
 oD 7 (.mv 22)]
def ZX.l0:Code:=.seq (.seq (.region ZX.r4) (.cond 20 (.skip) (.exit 0))) (.seq (.block 1 (.seq (.draw ZX.r6 [(1,5)]) (.seq (.region ZX.r7) (.cond 38 (.seq (.region ZX.r8) (.ret)) (.skip))))) (.region ZX.r5))
def ZX.r9:List Oper:=[
 oD 42 (.ld true 2 3),
 oN (.st 2 4 42)]
def ZX.code:Code:=.seq (.region ZX.r0) (.seq (.draw ZX.r1 [(2,4)]) (.seq (.region ZX.r2) (.seq (.seq (.region ZX.r3) (.block 0 (.loop ZX.l0))) (.seq (.region ZX.r9) (.ret)))))
def ZX:Func:=⟨43,[.cell 4 true 2],ZX.code⟩
/-! muntin/face.Faces -/
def ZE.r0:List Oper:=[
 oD 2 (.mv (.c (.sn))),
 oD 3 (.mv (.c (.n 0)))]
def ZE.r1:List Oper:=[
 oD 12 (.mv 0),
 oD 13 (.call (.c (.f 66 [])) [.t 12]),
 oD 4 (.mv 13)]
def ZE.r2:List Oper:=[
 oD 14 (.mv 4),
 oD 15 (.eq true .sc 14 (.c (.n 0)))]
def ZE.r3:List Oper:=[
 oD 16 (.mv 4),
 oD 2 (.mv (.c (.sn))),
 oD 3 (.mv 16)]
def ZE.r4:List Oper:=[
 oD 5 (.mv (.c (.sn)))]
def ZE.r5:List Oper:=[
 oD 17 (.mkm),
 oD 6 (.mv 17)]
def ZE.r6:List Oper:=[
 oD 18 (.mv 0),
 oD 19 (.len 18),
 oD 20 (.mv (.c (.n 0)))]
def ZE.r7:List Oper:=[
 oD 21 (.bin .lss 20 19)]
def ZE.r8:List Oper:=[
 oD 22 (.mv 20),
 oD 7 (.mv 22)]
def ZE.r9:List Oper:=[
 oD 23 (.mv (.c (.n 0)))]
def ZE.r10:List Oper:=[
 oD 24 (.bin .lss 23 (.c (.n 4)))]
def ZE.r11:List Oper:=[
 oD 25 (.mv 23),
 oD 8 (.mv 25)]
def ZE.r12:List Oper:=[
 oD 26 (.mv 7),
 oD 27 (.mv 8),
 oD 28 (.build [.n 0,.n 0] [(0,1,.t 26),(1,1,.t 27)]),
 oD 9 (.alloc [.n 0,.n 0]),
 oN (.st 2 9 28)]
def ZE.r13:List Oper:=[
 oD 29 (.ld true 2 9),
 oD 30 (.mv 0),
 oD 31 (.call (.c (.f 220 [])) [.t 29,.t 30]),
 oD 32 (.un .not 31),
 oD 33 (.mv 32),
 ⟨(some 34),.mv 6,(some (33,false))⟩,
 ⟨(some 35),.ld true 2 9,(some (33,false))⟩,
 ⟨(some 36),.mlk [.i,.i] false (.b false) 34 35,(some (33,false))⟩,
 oD 37 (.pick 33 (.c (.b true)) 36)]
def ZE.r14:List Oper:=[
 oD 10 (.mv (.c (.sn)))]
def ZE.r15:List Oper:=[
 oD 38 (.ld true 2 9),
 oD 11 (.alloc [.n 0,.n 0]),
 oN (.st 2 11 38)]
def ZE.r16:List Oper:=[
 oD 39 (.mv 6),
 oD 40 (.ld true 2 11),
 oD 41 (.mlk [.i,.i] false (.b false) 39 40),
 oD 42 (.un .not 41)]
def ZE.r18:List Oper:=[
 oD 46 (.mv 6),
 oD 47 (.ld true 2 11),
 oN (.mup [.i,.i] 46 47 (.c (.b true)))]
def ZE.r19:List Oper:=[
 oD 48 (.mv 10),
 oD 49 (.ld true 2 11),
 oD 50 (.bsl 2 1 [.n 0,.n 0] [(0,2,.t 49)]),
 oD 51 (.app 2 16 48 50),
 oD 10 (.mv 51)]
def ZE.r20:List Oper:=[
 oD 52 (.ld true 2 11)]
def ZE.r21:List Oper:=[
 oD 11 (.alloc [.n 0,.n 0]),
 oN (.st 2 11 52)]
def ZE.r17:List Oper:=[
 oD 43 (.ld true 2 11),
 oD 44 (.mv 0),
 oD 45 (.call (.c (.f 221 [])) [.t 43,.t 44]),
 oN (.st 2 11 45)]
def ZE.l0:Code:=.seq (.seq (.region ZE.r16) (.cond 42 (.skip) (.exit 4))) (.seq (.block 5 (.seq (.region ZE.r18) (.region ZE.r19))) (.seq (.seq (.region ZE.r20) (.region ZE.r21)) (.region ZE.r17)))
def ZE.r22:List Oper:=[
 oD 53 (.mv 5),
 oD 54 (.mv 10),
 oD 55 (.bsl 1 1 [.sn] [(0,1,.t 54)]),
 oD 56 (.app 1 24 53 55),
 oD 5 (.mv 56)]
def ZE.r23:List Oper:=[
 oD 57 (.bin .add 23 (.c (.n 1))),
 oD 23 (.mv 57)]
def ZE.l1:Code:=.seq (.region ZE.r10) (.seq (.cond 24 (.skip) (.exit 2)) (.seq (.block 3 (.seq (.region ZE.r11) (.seq (.region ZE.r12) (.seq (.seq (.region ZE.r13) (.cond 37 (.exit 3) (.skip))) (.seq (.region ZE.r14) (.seq (.seq (.region ZE.r15) (.block 4 (.loop ZE.l0))) (.region ZE.r22))))))) (.region ZE.r23)))
def ZE.r24:List Oper:=[
 oD 58 (.bin .add 20 (.c (.n 1))),
 oD 20 (.mv 58)]
def ZE.l2:Code:=.seq (.region ZE.r7) (.seq (.cond 21 (.skip) (.exit 0)) (.seq (.block 1 (.seq (.region ZE.r8) (.seq (.region ZE.r9) (.block 2 (.loop ZE.l1))))) (.region ZE.r24)))
def ZE.r25:List Oper:=[
 oD 59 (.mv 5),
 oD 2 (.mv 59),
 oD 3 (.mv (.c (.n 0)))]
def ZE.code:Code:=.seq (.region ZE.r0) (.seq (.seq (.region ZE.r1) (.seq (.region ZE.r2) (.cond 15 (.seq (.region ZE.r3) (.ret)) (.skip)))) (.seq (.region ZE.r4) (.seq (.region ZE.r5) (.seq (.seq (.region ZE.r6) (.block 0 (.loop ZE.l2))) (.seq (.region ZE.r25) (.ret))))))
def ZE:Func:=⟨60,[.t 2,.t 3],ZE.code⟩
/-! muntin/face.Turns -/
def Zaa.r0:List Oper:=[
 oD 4 (.mv (.c (.sn)))]
def Zaa.r1:List Oper:=[
 oD 8 (.mv 1),
 oD 9 (.len 8),
 oD 10 (.mks 1 8 [.n 0] 9 9),
 oD 5 (.mv 10)]
def Zaa.r2:List Oper:=[
 oD 11 (.mv 0),
 oD 12 (.call (.c (.f 66 [])) [.t 11]),
 oD 13 (.eq true .sc 12 (.c (.n 0)))]
def Zaa.r3:List Oper:=[
 oD 14 (.mv 5),
 oD 4 (.mv 14)]
def Zaa.r4:List Oper:=[
 oD 15 (.mv 1),
 oD 16 (.len 15),
 oD 17 (.mv (.c (.n 0)))]
def Zaa.r5:List Oper:=[
 oD 18 (.bin .lss 17 16)]
def Zaa.r6:List Oper:=[
 oD 19 (.mv 17),
 oD 20 (.ixa 2 15 17),
 oD 21 (.ld true 2 20),
 oD 7 (.alloc [.n 0,.n 0]),
 oD 6 (.mv 19),
 oN (.st 2 7 21)]
def Zaa.r7:List Oper:=[
 oD 22 (.ld true 2 7),
 oD 23 (.mv 0),
 oD 24 (.call (.c (.f 220 [])) [.t 22,.t 23])]
def Zaa.r8:List Oper:=[
 oD 25 (.mv 5),
 oD 26 (.mv 6),
 oD 27 (.fa 1 7),
 oD 28 (.ld false 1 27),
 oD 29 (.ld true 2 7),
 oD 30 (.mv 0),
 oD 31 (.call (.c (.f 221 [])) [.t 29,.t 30]),
 oD 32 (.fld false 1 1 31),
 oD 33 (.call (.c (.f 222 [])) [.t 28,.t 32]),
 oD 34 (.ixa 1 25 26),
 oN (.st 1 34 33)]
def Zaa.r9:List Oper:=[
 oD 35 (.bin .add 17 (.c (.n 1))),
 oD 17 (.mv 35)]
def Zaa.l0:Code:=.seq (.region Zaa.r5) (.seq (.cond 18 (.skip) (.exit 0)) (.seq (.block 1 (.seq (.region Zaa.r6) (.seq (.region Zaa.r7) (.cond 24 (.draw Zaa.r8 [(3,4),(3,6)]) (.skip))))) (.region Zaa.r9)))
def Zaa.r10:List Oper:=[
 oD 36 (.mv 5),
 oD 4 (.mv 36)]
def Zaa.code:Code:=.seq (.region Zaa.r0) (.seq (.region Zaa.r1) (.seq (.seq (.region Zaa.r2) (.cond 13 (.seq (.region Zaa.r3) (.ret)) (.skip))) (.seq (.seq (.region Zaa.r4) (.block 0 (.loop Zaa.l0))) (.seq (.region Zaa.r10) (.ret)))))
def Zaa:Func:=⟨37,[.t 4],Zaa.code⟩
/-! muntin/muntinref12.Rotation -/
def zb.r0:List Oper:=[
 oD 2 (.mv (.c (.n 0)))]
def zb.r1:List Oper:=[
 oD 3 (.mv (.c (.n 0)))]
def zb.r2:List Oper:=[
 oD 4 (.mv (.c (.n 0)))]
def zb.r3:List Oper:=[
 oD 5 (.mv 4),
 oD 6 (.mv 0),
 oD 7 (.len 6),
 oD 8 (.bin .lss 5 7)]
def zb.r5:List Oper:=[
 oD 11 (.mv 0),
 oD 12 (.mv 4),
 oD 13 (.ixa 1 11 12),
 oD 14 (.ld false 1 13),
 oD 15 (.bin .geq 14 (.c (.n (-2)))),
 oD 16 (.mv 15),
 ⟨(some 17),.mv 0,(some (16,true))⟩,
 ⟨(some 18),.mv 4,(some (16,true))⟩,
 ⟨(some 19),.ixa 1 17 18,(some (16,true))⟩,
 ⟨(some 20),.ld false 1 19,(some (16,true))⟩,
 ⟨(some 21),.bin .leq 20 (.c (.n 1)),(some (16,true))⟩,
 oD 22 (.pick 16 21 (.c (.b false)))]
def zb.r6:List Oper:=[
 oD 23 (.mv 3),
 oD 24 (.mv 0),
 oD 25 (.mv 4),
 oD 26 (.ixa 1 24 25),
 oD 27 (.ld false 1 26),
 oD 28 (.bin .add 23 27),
 oD 3 (.mv 28)]
def zb.r4:List Oper:=[
 oD 9 (.mv 4),
 oD 10 (.bin .add 9 (.c (.n 1))),
 oD 4 (.mv 10)]
def zb.l0:Code:=.seq (.seq (.region zb.r3) (.cond 8 (.skip) (.exit 0))) (.seq (.block 1 (.seq (.region zb.r5) (.cond 22 (.region zb.r6) (.skip)))) (.region zb.r4))
def zb.r7:List Oper:=[
 oD 29 (.mv 3),
 oD 2 (.mv 29)]
def zb.code:Code:=.seq (.region zb.r0) (.seq (.region zb.r1) (.seq (.seq (.region zb.r2) (.block 0 (.loop zb.l0))) (.seq (.region zb.r7) (.ret))))
def zb:Func:=⟨30,[.t 2],zb.code⟩
/-! muntin/muntinref01.Turn -/
def za.r0:List Oper:=[
 oD 4 (.mv (.c (.n 0)))]
def za.r1:List Oper:=[
 oD 8 (.mv 0),
 oD 9 (.call (.c (.f 223 [])) [.t 8]),
 oD 5 (.mv 9)]
def za.r2:List Oper:=[
 oD 10 (.mv 1),
 oD 11 (.call (.c (.f 223 [])) [.t 10]),
 oD 6 (.mv 11)]
def za.r3:List Oper:=[
 oD 12 (.mv 5),
 oD 13 (.un .not 12),
 oD 14 (.mv 13),
 ⟨(some 15),.mv 6,(some (14,false))⟩,
 ⟨(some 16),.un .not 15,(some (14,false))⟩,
 oD 17 (.pick 14 (.c (.b true)) 16),
 oD 18 (.mv 17),
 ⟨(some 19),.mv 0,(some (18,false))⟩,
 ⟨(some 20),.mv 1,(some (18,false))⟩,
 ⟨(some 21),.eq false .sc 19 20,(some (18,false))⟩,
 oD 22 (.pick 18 (.c (.b true)) 21)]
def za.r4:List Oper:=[
 oD 4 (.mv (.c (.n 0)))]
def za.r5:List Oper:=[
 oD 23 (.mv 0),
 oD 24 (.call (.c (.f 224 [])) [.t 23,.c (.n 1)]),
 oD 7 (.mv 24)]
def za.r6:List Oper:=[
 oD 25 (.mv 7),
 oD 26 (.mv 1),
 oD 27 (.eq false .sc 25 26)]
def za.r7:List Oper:=[
 oD 4 (.mv (.c (.n 1)))]
def za.r8:List Oper:=[
 oD 28 (.mv 0),
 oD 29 (.call (.c (.f 224 [])) [.t 28,.c (.n 3)]),
 oD 7 (.mv 29)]
def za.r9:List Oper:=[
 oD 30 (.mv 7),
 oD 31 (.mv 1),
 oD 32 (.eq false .sc 30 31)]
def za.r10:List Oper:=[
 oD 4 (.mv (.c (.n (-1))))]
def za.r11:List Oper:=[
 oD 4 (.mv (.c (.n (-2))))]
def za.code:Code:=.seq (.region za.r0) (.seq (.region za.r1) (.seq (.region za.r2) (.seq (.seq (.region za.r3) (.cond 22 (.seq (.region za.r4) (.ret)) (.skip))) (.seq (.region za.r5) (.seq (.seq (.region za.r6) (.cond 27 (.seq (.region za.r7) (.ret)) (.skip))) (.seq (.region za.r8) (.seq (.seq (.region za.r9) (.cond 32 (.seq (.region za.r10) (.ret)) (.skip))) (.seq (.region za.r11) (.ret)))))))))
def za:Func:=⟨33,[.t 4],za.code⟩
/-! muntin/check.Real -/
def Zar.r0:List Oper:=[
 oD 4 (.mv (.c (.n 0)))]
def Zar.r1:List Oper:=[
 oD 8 (.mv 0),
 oD 9 (.call (.c (.f 176 [])) [.t 8]),
 oD 5 (.mv 9)]
def Zar.r2:List Oper:=[
 oD 10 (.mv 5),
 oD 11 (.eq true .sc 10 (.c (.n 0)))]
def Zar.r3:List Oper:=[
 oD 12 (.mv 5),
 oD 4 (.mv 12)]
def Zar.r4:List Oper:=[
 oD 14 (.mv 0),
 oD 15 (.mv 1),
 oD 16 (.call (.c (.f 133 [])) [.t 14,.t 15]),
 oD 13 (.mv 16),
 oD 17 (.ext 13 0),
 oD 18 (.ext 13 1),
 oD 6 (.mv 17),
 oD 7 (.mv 18)]
def Zar.r5:List Oper:=[
 oD 19 (.mv 7),
 oD 20 (.eq true .sc 19 (.c (.n 0)))]
def Zar.r6:List Oper:=[
 oD 21 (.mv 7),
 oD 4 (.mv 21)]
def Zar.r7:List Oper:=[
 oD 22 (.mv 0),
 oD 23 (.mv 1),
 oD 24 (.call (.c (.f 225 [])) [.t 22,.t 23])]
def Zar.r8:List Oper:=[
 oD 4 (.mv (.c (.n 14)))]
def Zar.r9:List Oper:=[
 oD 4 (.mv (.c (.n 0)))]
def Zar.code:Code:=.seq (.region Zar.r0) (.seq (.seq (.region Zar.r1) (.seq (.region Zar.r2) (.cond 11 (.seq (.region Zar.r3) (.ret)) (.skip)))) (.seq (.seq (.region Zar.r4) (.seq (.region Zar.r5) (.cond 20 (.seq (.region Zar.r6) (.ret)) (.skip)))) (.seq (.seq (.region Zar.r7) (.cond 24 (.seq (.region Zar.r8) (.ret)) (.skip))) (.seq (.region Zar.r9) (.ret)))))
def Zar:Func:=⟨25,[.t 4],Zar.code⟩
/-! muntin/sep.lines -/
def zC.r0:List Oper:=[
 oD 1 (.box 0),
 oD 2 (.mv (.c (.sn)))]
def zC.r1:List Oper:=[
 oD 3 (.mv (.c (.sn)))]
def zC.r2:List Oper:=[
 oD 8 (.fa 2 1),
 oD 9 (.ld false 1 8),
 oD 10 (.len 9),
 oD 11 (.mv (.c (.n 0)))]
def zC.r3:List Oper:=[
 oD 12 (.bin .lss 11 10)]
def zC.r4:List Oper:=[
 oD 13 (.mv 11),
 oD 14 (.ixa 1 9 11),
 oD 15 (.ld false 1 14),
 oD 4 (.mv 13),
 oD 5 (.mv 15)]
def zC.r5:List Oper:=[
 oD 16 (.mv 5),
 oD 17 (.len 16),
 oD 18 (.bin .gtr 17 (.c (.n 1)))]
def zC.r6:List Oper:=[
 oD 19 (.mv 3),
 oD 20 (.mv 4),
 oD 21 (.build [.b false,.n 0] [(0,1,.c (.b true)),(1,1,.t 20)]),
 oD 22 (.bsl 2 1 [.b false,.n 0] [(0,2,.t 21)]),
 oD 23 (.app 2 16 19 22),
 oD 3 (.mv 23)]
def zC.r7:List Oper:=[
 oD 24 (.bin .add 11 (.c (.n 1))),
 oD 11 (.mv 24)]
def zC.l0:Code:=.seq (.region zC.r3) (.seq (.cond 12 (.skip) (.exit 0)) (.seq (.block 1 (.seq (.region zC.r4) (.seq (.region zC.r5) (.cond 18 (.region zC.r6) (.skip))))) (.region zC.r7)))
def zC.r8:List Oper:=[
 oD 25 (.fa 3 1),
 oD 26 (.ld false 1 25),
 oD 27 (.len 26),
 oD 28 (.mv (.c (.n 0)))]
def zC.r9:List Oper:=[
 oD 29 (.bin .lss 28 27)]
def zC.r10:List Oper:=[
 oD 30 (.mv 28),
 oD 31 (.ixa 1 26 28),
 oD 32 (.ld false 1 31),
 oD 6 (.mv 30),
 oD 7 (.mv 32)]
def zC.r11:List Oper:=[
 oD 33 (.mv 7),
 oD 34 (.len 33),
 oD 35 (.bin .gtr 34 (.c (.n 1)))]
def zC.r12:List Oper:=[
 oD 36 (.mv 3),
 oD 37 (.mv 6),
 oD 38 (.build [.b false,.n 0] [(0,1,.c (.b false)),(1,1,.t 37)]),
 oD 39 (.bsl 2 1 [.b false,.n 0] [(0,2,.t 38)]),
 oD 40 (.app 2 16 36 39),
 oD 3 (.mv 40)]
def zC.r13:List Oper:=[
 oD 41 (.bin .add 28 (.c (.n 1))),
 oD 28 (.mv 41)]
def zC.l1:Code:=.seq (.region zC.r9) (.seq (.cond 29 (.skip) (.exit 2)) (.seq (.block 3 (.seq (.region zC.r10) (.seq (.region zC.r11) (.cond 35 (.region zC.r12) (.skip))))) (.region zC.r13)))
def zC.r14:List Oper:=[
 oD 42 (.mv 3),
 oD 2 (.mv 42)]
def zC.code:Code:=.seq (.region zC.r0) (.seq (.region zC.r1) (.seq (.seq (.region zC.r2) (.block 0 (.loop zC.l0))) (.seq (.seq (.region zC.r8) (.block 2 (.loop zC.l1))) (.seq (.region zC.r14) (.ret)))))
def zC:Func:=⟨43,[.t 2],zC.code⟩
/-! muntin/face.Rotation -/
def zL.r0:List Oper:=[
 oD 2 (.mv (.c (.n 0)))]
def zL.r1:List Oper:=[
 oD 3 (.mv (.c (.n 0)))]
def zL.r2:List Oper:=[
 oD 6 (.mv 0),
 oD 7 (.len 6),
 oD 8 (.mv (.c (.n 0)))]
def zL.r3:List Oper:=[
 oD 9 (.bin .lss 8 7)]
def zL.r4:List Oper:=[
 oD 10 (.ixa 1 6 8),
 oD 11 (.ld false 1 10),
 oD 5 (.mv 11)]
def zL.r5:List Oper:=[
 oD 12 (.mv 5),
 oD 13 (.bin .geq 12 (.c (.n (-2)))),
 oD 14 (.mv 13),
 ⟨(some 15),.mv 5,(some (14,true))⟩,
 ⟨(some 16),.bin .leq 15 (.c (.n 1)),(some (14,true))⟩,
 oD 17 (.pick 14 16 (.c (.b false)))]
def zL.r6:List Oper:=[
 oD 18 (.mv 3),
 oD 19 (.mv 5),
 oD 20 (.bin .add 18 19),
 oD 3 (.mv 20)]
def zL.r7:List Oper:=[
 oD 21 (.bin .add 8 (.c (.n 1))),
 oD 8 (.mv 21)]
def zL.l0:Code:=.seq (.region zL.r3) (.seq (.cond 9 (.skip) (.exit 0)) (.seq (.block 1 (.seq (.region zL.r4) (.seq (.region zL.r5) (.cond 17 (.region zL.r6) (.skip))))) (.region zL.r7)))
def zL.r8:List Oper:=[
 oD 22 (.mv 3),
 oD 2 (.mv 22)]
def zL.code:Code:=.seq (.region zL.r0) (.seq (.region zL.r1) (.seq (.seq (.region zL.r2) (.block 0 (.loop zL.l0))) (.seq (.region zL.r8) (.ret))))
def zL:Func:=⟨23,[.t 2],zL.code⟩
/-! (muntin/face.Dart).is -/
def ZbT.r0:List Oper:=[
 oD 2 (.box 0),
 oD 4 (.mv (.c (.b false)))]
def ZbT.r1:List Oper:=[
 oD 5 (.fa 0 2),
 oD 6 (.ld false 1 5),
 oD 7 (.bin .geq 6 (.c (.n 0))),
 oD 8 (.mv 7),
 ⟨(some 9),.fa 0 2,(some (8,true))⟩,
 ⟨(some 10),.ld false 1 9,(some (8,true))⟩,
 ⟨(some 11),.mv 1,(some (8,true))⟩,
 ⟨(some 12),.len 11,(some (8,true))⟩,
 ⟨(some 13),.bin .lss 10 12,(some (8,true))⟩,
 oD 14 (.pick 8 13 (.c (.b false))),
 oD 15 (.mv 14),
 ⟨(some 16),.fa 1 2,(some (15,true))⟩,
 ⟨(some 17),.ld false 1 16,(some (15,true))⟩,
 ⟨(some 18),.call (.c (.f 90 [])) [.t 17],(some (15,true))⟩,
 oD 19 (.pick 15 18 (.c (.b false))),
 oD 20 (.mv 19),
 ⟨(some 21),.mv 1,(some (20,true))⟩,
 ⟨(some 22),.fa 0 2,(some (20,true))⟩,
 ⟨(some 23),.ld false 1 22,(some (20,true))⟩,
 ⟨(some 24),.fa 1 2,(some (20,true))⟩,
 ⟨(some 25),.ld false 1 24,(some (20,true))⟩,
 ⟨(some 26),.ixa 8 21 23,(some (20,true))⟩,
 ⟨(some 27),.fa 0 26,(some (20,true))⟩,
 ⟨(some 28),.ixaa 1 4 27 25,(some (20,true))⟩,
 ⟨(some 29),.ld false 1 28,(some (20,true))⟩,
 ⟨(some 30),.bin .geq 29 (.c (.n 0)),(some (20,true))⟩,
 oD 31 (.pick 20 30 (.c (.b false))),
 oD 4 (.mv 31)]
def ZbT.code:Code:=.seq (.region ZbT.r0) (.seq (.draw ZbT.r1 [(18,20)]) (.ret))
def ZbT:Func:=⟨32,[.t 4],ZbT.code⟩
/-! (muntin/face.Dart).behind -/
def zn.r0:List Oper:=[
 oD 2 (.box 0),
 oD 4 (.alloc [.n 0,.n 0])]
def zn.r1:List Oper:=[
 oD 9 (.mv 1),
 oD 10 (.fa 0 2),
 oD 11 (.ld false 1 10),
 oD 12 (.fa 1 2),
 oD 13 (.ld false 1 12),
 oD 14 (.ixa 8 9 11),
 oD 15 (.fa 0 14),
 oD 16 (.ixaa 1 4 15 13),
 oD 17 (.ld false 1 16),
 oD 5 (.mv 17)]
def zn.r2:List Oper:=[
 oD 18 (.build [.n 0,.n 0,.n 0,.n 0] [(0,1,.c (.n 1)),(1,1,.c (.n 0)),(2,1,.c (.n (-1))),(3,1,.c (.n 2))]),
 oD 19 (.mv (.c (.n 0)))]
def zn.r3:List Oper:=[
 oD 20 (.bin .lss 19 (.c (.n 4)))]
def zn.r4:List Oper:=[
 oD 21 (.ix false 1 4 18 19),
 oD 7 (.mv 21)]
def zn.r5:List Oper:=[
 oD 22 (.mv 5),
 oD 23 (.fa 1 2),
 oD 24 (.ld false 1 23),
 oD 25 (.mv 7),
 oD 26 (.call (.c (.f 77 [])) [.t 24,.t 25]),
 oD 27 (.build [.n 0,.n 0] [(0,1,.t 22),(1,1,.t 26)]),
 oD 8 (.alloc [.n 0,.n 0]),
 oN (.st 2 8 27)]
def zn.r6:List Oper:=[
 oD 28 (.ld true 2 8),
 oD 29 (.mv 1),
 oD 30 (.call (.c (.f 220 [])) [.t 28,.t 29])]
def zn.r7:List Oper:=[
 oD 31 (.ld true 2 8),
 oN (.st 2 4 31)]
def zn.r8:List Oper:=[
 oD 32 (.bin .add 19 (.c (.n 1))),
 oD 19 (.mv 32)]
def zn.l0:Code:=.seq (.region zn.r3) (.seq (.cond 20 (.skip) (.exit 0)) (.seq (.block 1 (.seq (.region zn.r4) (.seq (.region zn.r5) (.seq (.region zn.r6) (.cond 30 (.seq (.region zn.r7) (.ret)) (.skip)))))) (.region zn.r8)))
def zn.r9:List Oper:=[
 oD 33 (.ld true 2 2),
 oN (.st 2 4 33)]
def zn.code:Code:=.seq (.region zn.r0) (.seq (.draw zn.r1 [(2,4)]) (.seq (.seq (.region zn.r2) (.block 0 (.loop zn.l0))) (.seq (.region zn.r9) (.ret))))
def zn:Func:=⟨34,[.cell 4 true 2],zn.code⟩
/-! muntin/compass.Turn -/
def Zbk.r0:List Oper:=[
 oD 4 (.mv (.c (.n 0)))]
def Zbk.r1:List Oper:=[
 oD 5 (.mv 0),
 oD 6 (.call (.c (.f 90 [])) [.t 5]),
 oD 7 (.un .not 6),
 oD 8 (.mv 7),
 ⟨(some 9),.mv 1,(some (8,false))⟩,
 ⟨(some 10),.call (.c (.f 90 [])) [.t 9],(some (8,false))⟩,
 ⟨(some 11),.un .not 10,(some (8,false))⟩,
 oD 12 (.pick 8 (.c (.b true)) 11)]
def Zbk.r2:List Oper:=[
 oD 4 (.mv (.c (.n 0)))]
def Zbk.r3:List Oper:=[
 oD 13 (.build [.n 0,.n 0,.n 0,.n 0] [(0,1,.c (.n 0)),(1,1,.c (.n 1)),(2,1,.c (.n (-2))),(3,1,.c (.n (-1)))]),
 oD 14 (.mv 1),
 oD 15 (.mv 0),
 oD 16 (.bin .sub 14 15),
 oD 17 (.bin .add 16 (.c (.n 4))),
 oD 18 (.bin .rem 17 (.c (.n 4))),
 oD 19 (.ix false 1 4 13 18),
 oD 4 (.mv 19)]
def Zbk.code:Code:=.seq (.region Zbk.r0) (.seq (.seq (.region Zbk.r1) (.cond 12 (.seq (.region Zbk.r2) (.ret)) (.skip))) (.seq (.region Zbk.r3) (.ret)))
def Zbk:Func:=⟨20,[.t 4],Zbk.code⟩
/-! muntin/muntinref01.Good -/
def Zbm.r0:List Oper:=[
 oD 2 (.mv (.c (.b false)))]
def Zbm.r1:List Oper:=[
 oD 3 (.mv 0),
 oD 4 (.bin .geq 3 (.c (.n 0))),
 oD 5 (.mv 4),
 ⟨(some 6),.mv 0,(some (5,true))⟩,
 ⟨(some 7),.bin .leq 6 (.c (.n 3)),(some (5,true))⟩,
 oD 8 (.pick 5 7 (.c (.b false))),
 oD 2 (.mv 8)]
def Zbm.code:Code:=.seq (.region Zbm.r0) (.seq (.region Zbm.r1) (.ret))
def Zbm:Func:=⟨9,[.t 2],Zbm.code⟩
/-! muntin/muntinref01.Left -/
def zF.r0:List Oper:=[
 oD 4 (.mv (.c (.n 0)))]
def zF.r1:List Oper:=[
 oD 7 (.mv 0),
 oD 8 (.call (.c (.f 223 [])) [.t 7]),
 oD 5 (.mv 8)]
def zF.r2:List Oper:=[
 oD 9 (.mv 5),
 oD 10 (.un .not 9)]
def zF.r3:List Oper:=[
 oD 4 (.mv (.c (.n 0)))]
def zF.r4:List Oper:=[
 oD 11 (.mv 1),
 oD 12 (.bin .rem 11 (.c (.n 4))),
 oD 6 (.mv 12)]
def zF.r5:List Oper:=[
 oD 13 (.mv 6),
 oD 14 (.bin .lss 13 (.c (.n 0)))]
def zF.r6:List Oper:=[
 oD 15 (.mv 6),
 oD 16 (.bin .add 15 (.c (.n 4))),
 oD 6 (.mv 16)]
def zF.r7:List Oper:=[
 oD 17 (.mv 0),
 oD 18 (.mv 6),
 oD 19 (.bin .add 17 18),
 oD 20 (.bin .rem 19 (.c (.n 4))),
 oD 4 (.mv 20)]
def zF.code:Code:=.seq (.region zF.r0) (.seq (.region zF.r1) (.seq (.seq (.region zF.r2) (.cond 10 (.seq (.region zF.r3) (.ret)) (.skip))) (.seq (.region zF.r4) (.seq (.seq (.region zF.r5) (.cond 14 (.region zF.r6) (.skip))) (.seq (.region zF.r7) (.ret))))))
def zF:Func:=⟨21,[.t 4],zF.code⟩
/-! muntin/check.crossed -/
def ZU.r0:List Oper:=[
 oD 4 (.mv (.c (.b false)))]
def ZU.r1:List Oper:=[
 oD 15 (.mv 0),
 oD 16 (.call (.c (.f 120 [])) [.t 15]),
 oD 14 (.mv 16),
 oD 17 (.ext 14 0),
 oD 18 (.ext 14 1),
 oD 5 (.alloc [.sn,.sn,.sn,.sn]),
 oN (.st 4 5 17),
 oD 6 (.mv 18)]
def ZU.r2:List Oper:=[
 oD 20 (.mv 0),
 oD 21 (.call (.c (.f 187 [])) [.t 20]),
 oD 19 (.mv 21),
 oD 22 (.ext 19 0),
 oD 23 (.ext 19 1),
 oD 7 (.mv 22),
 oD 8 (.mv 23)]
def ZU.r3:List Oper:=[
 oD 24 (.mv 7),
 oD 25 (.len 24),
 oD 26 (.mv (.c (.n 0)))]
def ZU.r4:List Oper:=[
 oD 27 (.bin .lss 26 25)]
def ZU.r5:List Oper:=[
 oD 28 (.mv 26),
 oD 29 (.ixa 2 24 26),
 oD 30 (.ld true 2 29),
 oD 10 (.alloc [.b false,.n 0]),
 oD 9 (.mv 28),
 oN (.st 2 10 30)]
def ZU.r6:List Oper:=[
 oD 31 (.ld true 4 5),
 oD 32 (.ld true 2 10),
 oD 33 (.mv 1),
 oD 34 (.call (.c (.f 231 [])) [.t 31,.t 32,.t 33]),
 oD 11 (.alloc [.n 0,.n 0,.n 0,.n 0]),
 oN (.st 4 11 34)]
def ZU.r7:List Oper:=[
 oD 35 (.mv 7),
 oD 36 (.mv 9),
 oD 37 (.bin .add 36 (.c (.n 1))),
 oD 38 (.slc 2 35 (some 37) none none),
 oD 39 (.len 38),
 oD 40 (.mv (.c (.n 0)))]
def ZU.r8:List Oper:=[
 oD 41 (.bin .lss 40 39)]
def ZU.r9:List Oper:=[
 oD 42 (.ixa 2 38 40),
 oD 43 (.ld true 2 42),
 oD 13 (.alloc [.b false,.n 0]),
 oN (.st 2 13 43)]
def ZU.r10:List Oper:=[
 oD 44 (.ld true 4 11),
 oD 45 (.ld true 4 5),
 oD 46 (.ld true 2 13),
 oD 47 (.mv 1),
 oD 48 (.call (.c (.f 231 [])) [.t 45,.t 46,.t 47]),
 oD 49 (.call (.c (.f 186 [])) [.t 44,.t 48]),
 oD 50 (.un .not 49),
 oD 51 (.mv 50),
 ⟨(some 52),.ld true 4 5,(some (51,true))⟩,
 ⟨(some 53),.fa 0 10,(some (51,true))⟩,
 ⟨(some 54),.ld false 1 53,(some (51,true))⟩,
 ⟨(some 55),.fa 1 10,(some (51,true))⟩,
 ⟨(some 56),.ld false 1 55,(some (51,true))⟩,
 ⟨(some 57),.fa 0 13,(some (51,true))⟩,
 ⟨(some 58),.ld false 1 57,(some (51,true))⟩,
 ⟨(some 59),.fa 1 13,(some (51,true))⟩,
 ⟨(some 60),.ld false 1 59,(some (51,true))⟩,
 ⟨(some 61),.call (.c (.f 123 [])) [.t 52,.t 54,.t 56,.t 58,.t 60],(some (51,true))⟩,
 ⟨(some 62),.un .not 61,(some (51,true))⟩,
 oD 63 (.pick 51 62 (.c (.b false)))]
def ZU.r11:List Oper:=[
 oD 4 (.mv (.c (.b true)))]
def ZU.r12:List Oper:=[
 oD 64 (.bin .add 40 (.c (.n 1))),
 oD 40 (.mv 64)]
def ZU.l0:Code:=.seq (.region ZU.r8) (.seq (.cond 41 (.skip) (.exit 2)) (.seq (.block 3 (.seq (.region ZU.r9) (.seq (.draw ZU.r10 [(0,1),(0,2),(1,2),(0,4),(8,10),(8,12),(10,12),(8,14),(10,14),(12,14),(8,16),(10,16),(12,16),(14,16)]) (.cond 63 (.seq (.region ZU.r11) (.ret)) (.skip))))) (.region ZU.r12)))
def ZU.r13:List Oper:=[
 oD 65 (.bin .add 26 (.c (.n 1))),
 oD 26 (.mv 65)]
def ZU.l1:Code:=.seq (.region ZU.r4) (.seq (.cond 27 (.skip) (.exit 0)) (.seq (.block 1 (.seq (.region ZU.r5) (.seq (.region ZU.r6) (.seq (.region ZU.r7) (.block 2 (.loop ZU.l0)))))) (.region ZU.r13)))
def ZU.r14:List Oper:=[
 oD 4 (.mv (.c (.b false)))]
def ZU.code:Code:=.seq (.region ZU.r0) (.seq (.region ZU.r1) (.seq (.region ZU.r2) (.seq (.seq (.region ZU.r3) (.block 0 (.loop ZU.l1))) (.seq (.region ZU.r14) (.ret)))))
def ZU:Func:=⟨66,[.t 4],ZU.code⟩
/-! muntin/check.span -/
def ZaX.r0:List Oper:=[
 oD 3 (.box 0),
 oD 4 (.box 1),
 oD 6 (.alloc [.n 0,.n 0,.n 0,.n 0])]
def ZaX.r1:List Oper:=[
 oD 9 (.fa 3 3),
 oD 10 (.ld false 1 9),
 oD 7 (.mv 10)]
def ZaX.r2:List Oper:=[
 oD 11 (.fa 0 4),
 oD 12 (.ld false 1 11)]
def ZaX.r3:List Oper:=[
 oD 13 (.fa 2 3),
 oD 14 (.ld false 1 13),
 oD 7 (.mv 14)]
def ZaX.r4:List Oper:=[
 oD 15 (.mv 7),
 oD 16 (.fa 1 4),
 oD 17 (.ld false 1 16),
 oD 18 (.ixa 1 15 17),
 oD 19 (.ld false 1 18),
 oD 8 (.mv 19)]
def ZaX.r5:List Oper:=[
 oD 20 (.mv 2),
 oD 21 (.mv 8),
 oD 22 (.ixa 1 21 (.c (.n 0))),
 oD 23 (.ld false 1 22),
 oD 24 (.ixa 2 20 23),
 oD 25 (.ld true 2 24),
 oD 26 (.mv 2),
 oD 27 (.mv 8),
 oD 28 (.mv 8),
 oD 29 (.len 28),
 oD 30 (.bin .sub 29 (.c (.n 1))),
 oD 31 (.ixa 1 27 30),
 oD 32 (.ld false 1 31),
 oD 33 (.ixa 2 26 32),
 oD 34 (.ld true 2 33),
 oD 35 (.build [.n 0,.n 0,.n 0,.n 0] [(0,2,.t 25),(2,2,.t 34)]),
 oN (.st 4 6 35)]
def ZaX.code:Code:=.seq (.region ZaX.r0) (.seq (.region ZaX.r1) (.seq (.seq (.region ZaX.r2) (.cond 12 (.region ZaX.r3) (.skip))) (.seq (.region ZaX.r4) (.seq (.draw ZaX.r5 [(3,12),(5,12),(3,14),(5,14)]) (.ret)))))
def ZaX:Func:=⟨36,[.cell 6 true 4],ZaX.code⟩
/-! muntin/muntinlaw26.CheckTells -/
def Zt.r0:List Oper:=[
 oD 3 (.box 0),
 oD 6 (.mv (.c (.b false)))]
def Zt.r1:List Oper:=[
 oD 14 (.ld true 3 3),
 oD 15 (.call (.c (.f 28 [])) [.t 14,.c (.n 14)]),
 oD 13 (.mv 15),
 oD 16 (.ext 13 0),
 oD 17 (.ext 13 1),
 oD 7 (.mv 16),
 oD 8 (.mv 17)]
def Zt.r2:List Oper:=[
 oD 18 (.mv 8),
 oD 19 (.call (.c (.f 165 [])) [.t 18]),
 oD 9 (.mv 19)]
def Zt.r3:List Oper:=[
 oD 20 (.mv 9),
 oD 21 (.len 20),
 oD 22 (.mv (.c (.n 0)))]
def Zt.r4:List Oper:=[
 oD 23 (.bin .lss 22 21)]
def Zt.r5:List Oper:=[
 oD 24 (.mv 22),
 oD 10 (.mv 24)]
def Zt.r6:List Oper:=[
 oD 25 (.mv 10),
 oD 26 (.mv 2),
 oD 27 (.len 26),
 oD 28 (.bin .lss 25 27)]
def Zt.r7:List Oper:=[
 oD 29 (.mv 9),
 oD 30 (.mv 10),
 oD 31 (.ixa 2 29 30),
 oD 32 (.fa 0 31),
 oD 33 (.ld false 1 32),
 oD 34 (.mv 2),
 oD 35 (.mv 10),
 oD 36 (.ixa 2 34 35),
 oD 37 (.fa 0 36),
 oD 38 (.ld false 1 37),
 oD 39 (.bin .rem 38 (.c (.n 4))),
 oD 40 (.bin .add 33 39),
 oD 41 (.ixa 2 29 30),
 oD 42 (.fa 0 41),
 oN (.st 1 42 40)]
def Zt.r8:List Oper:=[
 oD 43 (.mv 9),
 oD 44 (.mv 10),
 oD 45 (.ixa 2 43 44),
 oD 46 (.fa 1 45),
 oD 47 (.ld false 1 46),
 oD 48 (.mv 2),
 oD 49 (.mv 10),
 oD 50 (.ixa 2 48 49),
 oD 51 (.fa 1 50),
 oD 52 (.ld false 1 51),
 oD 53 (.bin .rem 52 (.c (.n 4))),
 oD 54 (.bin .add 47 53),
 oD 55 (.ixa 2 43 44),
 oD 56 (.fa 1 55),
 oN (.st 1 56 54)]
def Zt.r9:List Oper:=[
 oD 57 (.bin .add 22 (.c (.n 1))),
 oD 22 (.mv 57)]
def Zt.l0:Code:=.seq (.region Zt.r4) (.seq (.cond 23 (.skip) (.exit 0)) (.seq (.block 1 (.seq (.region Zt.r5) (.seq (.region Zt.r6) (.cond 28 (.seq (.draw Zt.r7 [(4,9)]) (.draw Zt.r8 [(4,9)])) (.skip))))) (.region Zt.r9)))
def Zt.r10:List Oper:=[
 oD 58 (.mv 8),
 oD 59 (.mv 8),
 oD 60 (.mv 1),
 oD 61 (.call (.c (.f 262 [])) [.t 59,.t 60]),
 oD 62 (.mv 9),
 oD 63 (.mv 2),
 oD 64 (.mv 2),
 oD 65 (.len 64),
 oD 66 (.mn [.t 65,.c (.n 20)]),
 oD 67 (.slc 2 63 none (some 66) none),
 oD 68 (.mv 8),
 oD 69 (.mv 8),
 oD 70 (.len 69),
 oD 71 (.bin .quo 70 (.c (.n 2))),
 oD 72 (.slc 2 68 none (some 71) none),
 oD 73 (.bsl 1 5 [.sn] [(0,1,.t 58),(1,1,.t 61),(2,1,.t 62),(3,1,.t 67),(4,1,.t 72)]),
 oD 74 (.len 73),
 oD 75 (.mv (.c (.n 0)))]
def Zt.r11:List Oper:=[
 oD 76 (.bin .lss 75 74)]
def Zt.r12:List Oper:=[
 oD 77 (.ixa 1 73 75),
 oD 78 (.ld false 1 77),
 oD 12 (.mv 78)]
def Zt.r13:List Oper:=[
 oD 79 (.mv 7),
 oD 80 (.mv 12),
 oD 81 (.call (.c (.f 208 [])) [.t 79,.t 80]),
 oD 82 (.mv 7),
 oD 83 (.mv 12),
 oD 84 (.call (.c (.f 263 [])) [.t 82,.t 83]),
 oD 85 (.eq true .sc 81 84)]
def Zt.r14:List Oper:=[
 oD 6 (.mv (.c (.b false)))]
def Zt.r15:List Oper:=[
 oD 86 (.bin .add 75 (.c (.n 1))),
 oD 75 (.mv 86)]
def Zt.l1:Code:=.seq (.region Zt.r11) (.seq (.cond 76 (.skip) (.exit 2)) (.seq (.block 3 (.seq (.region Zt.r12) (.seq (.region Zt.r13) (.cond 85 (.seq (.region Zt.r14) (.ret)) (.skip))))) (.region Zt.r15)))
def Zt.r16:List Oper:=[
 oD 87 (.call (.c (.f 185 [])) []),
 oD 6 (.mv 87)]
def Zt.code:Code:=.seq (.region Zt.r0) (.seq (.region Zt.r1) (.seq (.region Zt.r2) (.seq (.seq (.region Zt.r3) (.block 0 (.loop Zt.l0))) (.seq (.seq (.draw Zt.r10 []) (.block 2 (.loop Zt.l1))) (.seq (.region Zt.r16) (.ret))))))
def Zt:Func:=⟨88,[.t 6],Zt.code⟩
/-! muntin/muntinref19.Real -/
def Z0.r0:List Oper:=[
 oD 4 (.mv (.c (.b false)))]
def Z0.r1:List Oper:=[
 oD 17 (.mv 1),
 oD 18 (.len 17),
 oD 19 (.mv 0),
 oD 20 (.len 19),
 oD 21 (.eq true .sc 18 20)]
def Z0.r2:List Oper:=[
 oD 4 (.mv (.c (.b false)))]
def Z0.r3:List Oper:=[
 oD 22 (.mv 0),
 oD 23 (.mv 1),
 oD 24 (.call (.c (.f 193 [])) [.t 22,.t 23]),
 oD 5 (.mv 24)]
def Z0.r4:List Oper:=[
 oD 25 (.mv 5),
 oD 26 (.un .not 25)]
def Z0.r5:List Oper:=[
 oD 4 (.mv (.c (.b false)))]
def Z0.r6:List Oper:=[
 oD 28 (.mv 0),
 oD 29 (.call (.c (.f 121 [])) [.t 28]),
 oD 27 (.mv 29),
 oD 30 (.ext 27 0),
 oD 31 (.ext 27 1),
 oD 6 (.alloc [.sn,.sn,.sn,.sn]),
 oN (.st 4 6 30),
 oD 7 (.mv 31)]
def Z0.r7:List Oper:=[
 oD 32 (.ld true 4 6),
 oD 33 (.call (.c (.f 188 [])) [.t 32]),
 oD 8 (.mv 33)]
def Z0.r8:List Oper:=[
 oD 9 (.mv (.c (.n 0)))]
def Z0.r9:List Oper:=[
 oD 34 (.mv 9),
 oD 35 (.mv 8),
 oD 36 (.len 35),
 oD 37 (.bin .lss 34 36)]
def Z0.r11:List Oper:=[
 oD 40 (.mv 9),
 oD 41 (.bin .add 40 (.c (.n 1))),
 oD 10 (.mv 41)]
def Z0.r12:List Oper:=[
 oD 42 (.mv 10),
 oD 43 (.mv 8),
 oD 44 (.len 43),
 oD 45 (.bin .lss 42 44)]
def Z0.r14:List Oper:=[
 oD 48 (.ld true 4 6),
 oD 49 (.mv 8),
 oD 50 (.mv 9),
 oD 51 (.ixa 2 49 50),
 oD 52 (.fa 0 51),
 oD 53 (.ld false 1 52),
 oD 54 (.mv 8),
 oD 55 (.mv 9),
 oD 56 (.ixa 2 54 55),
 oD 57 (.fa 1 56),
 oD 58 (.ld false 1 57),
 oD 59 (.mv 8),
 oD 60 (.mv 10),
 oD 61 (.ixa 2 59 60),
 oD 62 (.fa 0 61),
 oD 63 (.ld false 1 62),
 oD 64 (.mv 8),
 oD 65 (.mv 10),
 oD 66 (.ixa 2 64 65),
 oD 67 (.fa 1 66),
 oD 68 (.ld false 1 67),
 oD 69 (.call (.c (.f 124 [])) [.t 48,.t 53,.t 58,.t 63,.t 68]),
 oD 11 (.mv 69)]
def Z0.r15:List Oper:=[
 oD 71 (.ld true 4 6),
 oD 72 (.mv 8),
 oD 73 (.mv 9),
 oD 74 (.ixa 2 72 73),
 oD 75 (.ld true 2 74),
 oD 76 (.mv 1),
 oD 77 (.call (.c (.f 274 [])) [.t 71,.t 75,.t 76]),
 oD 70 (.mv 77),
 oD 78 (.ext 70 0),
 oD 79 (.ext 70 1),
 oD 12 (.alloc [.n 0,.n 0]),
 oD 13 (.alloc [.n 0,.n 0]),
 oN (.st 2 12 78),
 oN (.st 2 13 79)]
def Z0.r16:List Oper:=[
 oD 81 (.ld true 4 6),
 oD 82 (.mv 8),
 oD 83 (.mv 10),
 oD 84 (.ixa 2 82 83),
 oD 85 (.ld true 2 84),
 oD 86 (.mv 1),
 oD 87 (.call (.c (.f 274 [])) [.t 81,.t 85,.t 86]),
 oD 80 (.mv 87),
 oD 88 (.ext 80 0),
 oD 89 (.ext 80 1),
 oD 14 (.alloc [.n 0,.n 0]),
 oD 15 (.alloc [.n 0,.n 0]),
 oN (.st 2 14 88),
 oN (.st 2 15 89)]
def Z0.r17:List Oper:=[
 oD 90 (.fa 0 13),
 oD 91 (.ld false 1 90),
 oD 92 (.fa 0 14),
 oD 93 (.ld false 1 92),
 oD 94 (.bin .lss 91 93),
 oD 95 (.mv 94),
 ⟨(some 96),.fa 0 15,(some (95,false))⟩,
 ⟨(some 97),.ld false 1 96,(some (95,false))⟩,
 ⟨(some 98),.fa 0 12,(some (95,false))⟩,
 ⟨(some 99),.ld false 1 98,(some (95,false))⟩,
 ⟨(some 100),.bin .lss 97 99,(some (95,false))⟩,
 oD 101 (.pick 95 (.c (.b true)) 100),
 oD 102 (.mv 101),
 ⟨(some 103),.fa 1 13,(some (102,false))⟩,
 ⟨(some 104),.ld false 1 103,(some (102,false))⟩,
 ⟨(some 105),.fa 1 14,(some (102,false))⟩,
 ⟨(some 106),.ld false 1 105,(some (102,false))⟩,
 ⟨(some 107),.bin .lss 104 106,(some (102,false))⟩,
 oD 108 (.pick 102 (.c (.b true)) 107),
 oD 109 (.mv 108),
 ⟨(some 110),.fa 1 15,(some (109,false))⟩,
 ⟨(some 111),.ld false 1 110,(some (109,false))⟩,
 ⟨(some 112),.fa 1 12,(some (109,false))⟩,
 ⟨(some 113),.ld false 1 112,(some (109,false))⟩,
 ⟨(some 114),.bin .lss 111 113,(some (109,false))⟩,
 oD 115 (.pick 109 (.c (.b true)) 114),
 oD 16 (.mv 115)]
def Z0.r18:List Oper:=[
 oD 116 (.mv 11),
 oD 117 (.un .not 116),
 oD 118 (.mv 117),
 ⟨(some 119),.mv 16,(some (118,true))⟩,
 ⟨(some 120),.un .not 119,(some (118,true))⟩,
 oD 121 (.pick 118 120 (.c (.b false)))]
def Z0.r19:List Oper:=[
 oD 4 (.mv (.c (.b false)))]
def Z0.r13:List Oper:=[
 oD 46 (.mv 10),
 oD 47 (.bin .add 46 (.c (.n 1))),
 oD 10 (.mv 47)]
def Z0.l0:Code:=.seq (.seq (.region Z0.r12) (.cond 45 (.skip) (.exit 2))) (.seq (.block 3 (.seq (.draw Z0.r14 [(0,5),(0,10),(5,10),(0,15),(5,15),(10,15),(0,20),(5,20),(10,20),(15,20)]) (.seq (.draw Z0.r15 [(0,4),(0,10),(4,10),(6,10),(0,11),(4,11),(6,11),(10,11)]) (.seq (.draw Z0.r16 [(0,4),(0,10),(4,10),(6,10),(0,11),(4,11),(6,11),(10,11)]) (.seq (.region Z0.r17) (.seq (.region Z0.r18) (.cond 121 (.seq (.region Z0.r19) (.ret)) (.skip)))))))) (.region Z0.r13))
def Z0.r10:List Oper:=[
 oD 38 (.mv 9),
 oD 39 (.bin .add 38 (.c (.n 1))),
 oD 9 (.mv 39)]
def Z0.l1:Code:=.seq (.seq (.region Z0.r9) (.cond 37 (.skip) (.exit 0))) (.seq (.block 1 (.seq (.region Z0.r11) (.block 2 (.loop Z0.l0)))) (.region Z0.r10))
def Z0.r20:List Oper:=[
 oD 4 (.mv (.c (.b true)))]
def Z0.code:Code:=.seq (.region Z0.r0) (.seq (.seq (.region Z0.r1) (.cond 21 (.seq (.region Z0.r2) (.ret)) (.skip))) (.seq (.region Z0.r3) (.seq (.seq (.region Z0.r4) (.cond 26 (.seq (.region Z0.r5) (.ret)) (.skip))) (.seq (.region Z0.r6) (.seq (.region Z0.r7) (.seq (.seq (.region Z0.r8) (.block 0 (.loop Z0.l1))) (.seq (.region Z0.r20) (.ret))))))))
def Z0:Func:=⟨122,[.t 4],Z0.code⟩
/-! muntin/muntinref19.Stretched -/
def Zs.r0:List Oper:=[
 oD 4 (.mv (.c (.sn)))]
def Zs.r1:List Oper:=[
 oD 5 (.alloc [.n 0,.n 0,.n 0,.n 0,.n 0,.n 0,.n 0,.n 0,.n 0,.n 0]),
 oD 6 (.alloc [.n 0,.n 0,.n 0,.n 0,.n 0,.n 0,.n 0,.n 0,.n 0,.n 0])]
def Zs.r2:List Oper:=[
 oD 7 (.mv (.c (.n 1)))]
def Zs.r3:List Oper:=[
 oD 12 (.mv 7),
 oD 13 (.bin .lss 12 (.c (.n 10)))]
def Zs.r5:List Oper:=[
 oD 8 (.mv (.c (.n 1)))]
def Zs.r6:List Oper:=[
 oD 9 (.mv (.c (.n 1)))]
def Zs.r7:List Oper:=[
 oD 16 (.mv 7),
 oD 17 (.bin .mul (.c (.n 2)) 16),
 oD 18 (.mv 1),
 oD 19 (.len 18),
 oD 20 (.bin .lss 17 19)]
def Zs.r8:List Oper:=[
 oD 21 (.mv 1),
 oD 22 (.mv 7),
 oD 23 (.bin .mul (.c (.n 2)) 22),
 oD 24 (.ixa 1 21 23),
 oD 25 (.ld false 1 24),
 oD 26 (.conv .i64 25),
 oD 27 (.bin .rem 26 (.c (.n 5))),
 oD 28 (.bin .add (.c (.n 1)) 27),
 oD 8 (.mv 28)]
def Zs.r9:List Oper:=[
 oD 29 (.mv 7),
 oD 30 (.bin .mul (.c (.n 2)) 29),
 oD 31 (.bin .add 30 (.c (.n 1))),
 oD 32 (.mv 1),
 oD 33 (.len 32),
 oD 34 (.bin .lss 31 33)]
def Zs.r10:List Oper:=[
 oD 35 (.mv 1),
 oD 36 (.mv 7),
 oD 37 (.bin .mul (.c (.n 2)) 36),
 oD 38 (.bin .add 37 (.c (.n 1))),
 oD 39 (.ixa 1 35 38),
 oD 40 (.ld false 1 39),
 oD 41 (.conv .i64 40),
 oD 42 (.bin .rem 41 (.c (.n 5))),
 oD 43 (.bin .add (.c (.n 1)) 42),
 oD 9 (.mv 43)]
def Zs.r11:List Oper:=[
 oD 44 (.mv 7),
 oD 45 (.mv 7),
 oD 46 (.bin .sub 45 (.c (.n 1))),
 oD 47 (.ixaa 1 10 5 46),
 oD 48 (.ld false 1 47),
 oD 49 (.mv 8),
 oD 50 (.bin .add 48 49),
 oD 51 (.ixaa 1 10 5 44),
 oN (.st 1 51 50)]
def Zs.r12:List Oper:=[
 oD 52 (.mv 7),
 oD 53 (.mv 7),
 oD 54 (.bin .sub 53 (.c (.n 1))),
 oD 55 (.ixaa 1 10 6 54),
 oD 56 (.ld false 1 55),
 oD 57 (.mv 9),
 oD 58 (.bin .add 56 57),
 oD 59 (.ixaa 1 10 6 52),
 oN (.st 1 59 58)]
def Zs.r4:List Oper:=[
 oD 14 (.mv 7),
 oD 15 (.bin .add 14 (.c (.n 1))),
 oD 7 (.mv 15)]
def Zs.l0:Code:=.seq (.seq (.region Zs.r3) (.cond 13 (.skip) (.exit 0))) (.seq (.block 1 (.seq (.region Zs.r5) (.seq (.region Zs.r6) (.seq (.seq (.region Zs.r7) (.cond 20 (.region Zs.r8) (.skip))) (.seq (.seq (.region Zs.r9) (.cond 34 (.region Zs.r10) (.skip))) (.seq (.region Zs.r11) (.region Zs.r12))))))) (.region Zs.r4))
def Zs.r13:List Oper:=[
 oD 10 (.mv (.c (.sn)))]
def Zs.r14:List Oper:=[
 oD 11 (.mv (.c (.n 0)))]
def Zs.r15:List Oper:=[
 oD 60 (.mv 11),
 oD 61 (.mv 0),
 oD 62 (.len 61),
 oD 63 (.bin .lss 60 62)]
def Zs.r17:List Oper:=[
 oD 66 (.mv 10),
 oD 67 (.mv 0),
 oD 68 (.mv 11),
 oD 69 (.ixa 2 67 68),
 oD 70 (.fa 0 69),
 oD 71 (.ld false 1 70),
 oD 72 (.bin .rem 71 (.c (.n 10))),
 oD 73 (.ixaa 1 10 5 72),
 oD 74 (.ld false 1 73),
 oD 75 (.mv 0),
 oD 76 (.mv 11),
 oD 77 (.ixa 2 75 76),
 oD 78 (.fa 1 77),
 oD 79 (.ld false 1 78),
 oD 80 (.bin .rem 79 (.c (.n 10))),
 oD 81 (.ixaa 1 10 6 80),
 oD 82 (.ld false 1 81),
 oD 83 (.build [.n 0,.n 0] [(0,1,.t 74),(1,1,.t 82)]),
 oD 84 (.bsl 2 1 [.n 0,.n 0] [(0,2,.t 83)]),
 oD 85 (.app 2 16 66 84),
 oD 10 (.mv 85)]
def Zs.r16:List Oper:=[
 oD 64 (.mv 11),
 oD 65 (.bin .add 64 (.c (.n 1))),
 oD 11 (.mv 65)]
def Zs.l1:Code:=.seq (.seq (.region Zs.r15) (.cond 63 (.skip) (.exit 2))) (.seq (.block 3 (.draw Zs.r17 [(5,13),(8,13),(5,16),(8,16)])) (.region Zs.r16))
def Zs.r18:List Oper:=[
 oD 86 (.mv 10),
 oD 4 (.mv 86)]
def Zs.code:Code:=.seq (.region Zs.r0) (.seq (.region Zs.r1) (.seq (.seq (.region Zs.r2) (.block 0 (.loop Zs.l0))) (.seq (.region Zs.r13) (.seq (.seq (.region Zs.r14) (.block 2 (.loop Zs.l1))) (.seq (.region Zs.r18) (.ret))))))
def Zs:Func:=⟨87,[.t 4],Zs.code⟩
/-! muntin/muntinref26.Real -/
def Z9.r0:List Oper:=[
 oD 4 (.mv (.c (.n 0)))]
def Z9.r1:List Oper:=[
 oD 11 (.mv 0),
 oD 12 (.call (.c (.f 181 [])) [.t 11]),
 oD 10 (.mv 12),
 oD 13 (.ext 10 0),
 oD 14 (.ext 10 1),
 oD 5 (.mv 13),
 oD 6 (.mv 14)]
def Z9.r2:List Oper:=[
 oD 15 (.mv 6),
 oD 16 (.eq true .sc 15 (.c (.n 0)))]
def Z9.r3:List Oper:=[
 oD 17 (.mv 6),
 oD 4 (.mv 17)]
def Z9.r4:List Oper:=[
 oD 18 (.mv 1),
 oD 19 (.len 18),
 oD 20 (.mv 0),
 oD 21 (.len 20),
 oD 22 (.eq true .sc 19 21)]
def Z9.r5:List Oper:=[
 oD 4 (.mv (.c (.n 2)))]
def Z9.r6:List Oper:=[
 oD 7 (.mv (.c (.n 0)))]
def Z9.r7:List Oper:=[
 oD 23 (.mv 7),
 oD 24 (.mv 1),
 oD 25 (.len 24),
 oD 26 (.bin .lss 23 25)]
def Z9.r9:List Oper:=[
 oD 29 (.mv 1),
 oD 30 (.mv 7),
 oD 31 (.ixa 2 29 30),
 oD 32 (.fa 0 31),
 oD 33 (.ld false 1 32),
 oD 34 (.bin .gtr 33 (.c (.n 1000000))),
 oD 35 (.mv 34),
 ⟨(some 36),.mv 1,(some (35,false))⟩,
 ⟨(some 37),.mv 7,(some (35,false))⟩,
 ⟨(some 38),.ixa 2 36 37,(some (35,false))⟩,
 ⟨(some 39),.fa 0 38,(some (35,false))⟩,
 ⟨(some 40),.ld false 1 39,(some (35,false))⟩,
 ⟨(some 41),.bin .lss 40 (.c (.n (-1000000))),(some (35,false))⟩,
 oD 42 (.pick 35 (.c (.b true)) 41),
 oD 43 (.mv 42),
 ⟨(some 44),.mv 1,(some (43,false))⟩,
 ⟨(some 45),.mv 7,(some (43,false))⟩,
 ⟨(some 46),.ixa 2 44 45,(some (43,false))⟩,
 ⟨(some 47),.fa 1 46,(some (43,false))⟩,
 ⟨(some 48),.ld false 1 47,(some (43,false))⟩,
 ⟨(some 49),.bin .gtr 48 (.c (.n 1000000)),(some (43,false))⟩,
 oD 50 (.pick 43 (.c (.b true)) 49),
 oD 51 (.mv 50),
 ⟨(some 52),.mv 1,(some (51,false))⟩,
 ⟨(some 53),.mv 7,(some (51,false))⟩,
 ⟨(some 54),.ixa 2 52 53,(some (51,false))⟩,
 ⟨(some 55),.fa 1 54,(some (51,false))⟩,
 ⟨(some 56),.ld false 1 55,(some (51,false))⟩,
 ⟨(some 57),.bin .lss 56 (.c (.n (-1000000))),(some (51,false))⟩,
 oD 58 (.pick 51 (.c (.b true)) 57)]
def Z9.r10:List Oper:=[
 oD 4 (.mv (.c (.n 2)))]
def Z9.r8:List Oper:=[
 oD 27 (.mv 7),
 oD 28 (.bin .add 27 (.c (.n 1))),
 oD 7 (.mv 28)]
def Z9.l0:Code:=.seq (.seq (.region Z9.r7) (.cond 26 (.skip) (.exit 0))) (.seq (.block 1 (.seq (.region Z9.r9) (.cond 58 (.seq (.region Z9.r10) (.ret)) (.skip)))) (.region Z9.r8))
def Z9.r11:List Oper:=[
 oD 59 (.mv 0),
 oD 60 (.mv 1),
 oD 61 (.call (.c (.f 193 [])) [.t 59,.t 60]),
 oD 8 (.mv 61)]
def Z9.r12:List Oper:=[
 oD 62 (.mv 8),
 oD 63 (.un .not 62)]
def Z9.r13:List Oper:=[
 oD 4 (.mv (.c (.n 15)))]
def Z9.r14:List Oper:=[
 oD 64 (.mv 0),
 oD 65 (.mv 1),
 oD 66 (.call (.c (.f 261 [])) [.t 64,.t 65]),
 oD 9 (.mv 66)]
def Z9.r15:List Oper:=[
 oD 67 (.mv 9),
 oD 68 (.un .not 67)]
def Z9.r16:List Oper:=[
 oD 4 (.mv (.c (.n 14)))]
def Z9.r17:List Oper:=[
 oD 4 (.mv (.c (.n 0)))]
def Z9.code:Code:=.seq (.region Z9.r0) (.seq (.region Z9.r1) (.seq (.seq (.region Z9.r2) (.cond 16 (.seq (.region Z9.r3) (.ret)) (.skip))) (.seq (.seq (.region Z9.r4) (.cond 22 (.seq (.region Z9.r5) (.ret)) (.skip))) (.seq (.seq (.region Z9.r6) (.block 0 (.loop Z9.l0))) (.seq (.region Z9.r11) (.seq (.seq (.region Z9.r12) (.cond 63 (.seq (.region Z9.r13) (.ret)) (.skip))) (.seq (.region Z9.r14) (.seq (.seq (.region Z9.r15) (.cond 68 (.seq (.region Z9.r16) (.ret)) (.skip))) (.seq (.region Z9.r17) (.ret))))))))))
def Z9:Func:=⟨69,[.t 4],Z9.code⟩
/-! muntin/muntinref19.ends -/
def Zag.r0:List Oper:=[
 oD 3 (.box 0),
 oD 4 (.box 1),
 oD 6 (.alloc [.n 0,.n 0]),
 oD 7 (.alloc [.n 0,.n 0])]
def Zag.r1:List Oper:=[
 oD 10 (.fa 3 3),
 oD 11 (.ld false 1 10),
 oD 8 (.mv 11)]
def Zag.r2:List Oper:=[
 oD 12 (.fa 0 4),
 oD 13 (.ld false 1 12)]
def Zag.r3:List Oper:=[
 oD 14 (.fa 2 3),
 oD 15 (.ld false 1 14),
 oD 8 (.mv 15)]
def Zag.r4:List Oper:=[
 oD 16 (.mv 8),
 oD 17 (.fa 1 4),
 oD 18 (.ld false 1 17),
 oD 19 (.ixa 1 16 18),
 oD 20 (.ld false 1 19),
 oD 9 (.mv 20)]
def Zag.r5:List Oper:=[
 oD 21 (.mv 2),
 oD 22 (.mv 9),
 oD 23 (.ixa 1 22 (.c (.n 0))),
 oD 24 (.ld false 1 23),
 oD 25 (.ixa 2 21 24),
 oD 26 (.ld true 2 25),
 oD 27 (.mv 2),
 oD 28 (.mv 9),
 oD 29 (.mv 9),
 oD 30 (.len 29),
 oD 31 (.bin .sub 30 (.c (.n 1))),
 oD 32 (.ixa 1 28 31),
 oD 33 (.ld false 1 32),
 oD 34 (.ixa 2 27 33),
 oD 35 (.ld true 2 34),
 oN (.st 2 6 26),
 oN (.st 2 7 35)]
def Zag.code:Code:=.seq (.region Zag.r0) (.seq (.region Zag.r1) (.seq (.seq (.region Zag.r2) (.cond 13 (.region Zag.r3) (.skip))) (.seq (.region Zag.r4) (.seq (.draw Zag.r5 [(3,12),(5,12),(3,14),(5,14),(12,15),(14,15)]) (.ret)))))
def Zag:Func:=⟨36,[.cell 6 true 2,.cell 7 true 2],Zag.code⟩
def G:Prog:=fun i=>match i with
  | 28=>some Zm
  | 29=>some ZR
  | 30=>some Z7
  | 32=>some ZbU
  | 34=>some Z1
  | 36=>some Z3
  | 46=>some zl
  | 53=>some zR
  | 63=>some ZS
  | 64=>some Z5
  | 65=>some ZL
  | 66=>some zy
  | 67=>some ZZ
  | 77=>some Zbj
  | 78=>some ZaC
  | 82=>some Zap
  | 83=>some ZW
  | 89=>some ZbN
  | 90=>some ZbS
  | 91=>some zc
  | 97=>some ZbR
  | 98=>some zZ
  | 118=>some ZaT
  | 120=>some Zb2
  | 121=>some Zax
  | 123=>some ZaY
  | 124=>some ZQ
  | 133=>some ZK
  | 136=>some z4
  | 137=>some ZJ
  | 138=>some Zr
  | 140=>some zS
  | 141=>some Zbh
  | 146=>some Zae
  | 147=>some Zc4
  | 148=>some z3
  | 149=>some Zbt
  | 150=>some zp
  | 151=>some ZF
  | 165=>some zW
  | 176=>some Zak
  | 177=>some Z2
  | 181=>some Zw
  | 182=>some zo
  | 185=>some Za6
  | 186=>some Zcb
  | 187=>some Zb3
  | 188=>some ZG
  | 193=>some ZI
  | 201=>some zw
  | 202=>some ZX
  | 203=>some ZE
  | 204=>some Zaa
  | 206=>some zb
  | 207=>some za
  | 208=>some Zar
  | 209=>some zC
  | 219=>some zL
  | 220=>some ZbT
  | 221=>some zn
  | 222=>some Zbk
  | 223=>some Zbm
  | 224=>some zF
  | 225=>some ZU
  | 231=>some ZaX
  | 251=>some Zt
  | 261=>some Z0
  | 262=>some Zs
  | 263=>some Z9
  | 274=>some Zag
  | _=>none
theorem ZdH:G 28 = some Zm:=rfl
theorem Zff:G 29 = some ZR:=rfl
theorem Zdz:G 30 = some Z7:=rfl
theorem Zfg:G 32 = some ZbU:=rfl
theorem Zdw:G 34 = some Z1:=rfl
theorem ZdZ:G 36 = some Z3:=rfl
theorem ZdY:G 46 = some zl:=rfl
theorem ZdG:G 53 = some zR:=rfl
theorem Zdf:G 63 = some ZS:=rfl
theorem Zde:G 64 = some Z5:=rfl
theorem ZdI:G 65 = some ZL:=rfl
theorem Zfe:G 66 = some zy:=rfl
theorem ZeS:G 67 = some ZZ:=rfl
theorem Ze2:G 77 = some Zbj:=rfl
theorem ZcA:G 78 = some ZaC:=rfl
theorem Zfz:G 82 = some Zap:=rfl
theorem Zd4:G 83 = some ZW:=rfl
theorem ZfF:G 89 = some ZbN:=rfl
theorem Ze1:G 90 = some ZbS:=rfl
theorem ZcT:G 91 = some zc:=rfl
theorem ZgA:G 97 = some ZbR:=rfl
theorem ZeZ:G 98 = some zZ:=rfl
theorem Zdg:G 118 = some ZaT:=rfl
theorem ZgB:G 120 = some Zb2:=rfl
theorem Zeh:G 121 = some Zax:=rfl
theorem Zea:G 123 = some ZaY:=rfl
theorem ZdJ:G 124 = some ZQ:=rfl
theorem ZeP:G 133 = some ZK:=rfl
theorem ZdO:G 136 = some z4:=rfl
theorem Zfh:G 137 = some ZJ:=rfl
theorem Zdn:G 138 = some Zr:=rfl
theorem ZdN:G 140 = some zS:=rfl
theorem Zd3:G 141 = some Zbh:=rfl
theorem Zco:G 146 = some Zae:=rfl
theorem ZfE:G 147 = some Zc4:=rfl
theorem ZdX:G 148 = some z3:=rfl
theorem ZeQ:G 149 = some Zbt:=rfl
theorem Zd1:G 150 = some zp:=rfl
theorem Zcz:G 151 = some ZF:=rfl
theorem ZcD:G 165 = some zW:=rfl
theorem ZeT:G 176 = some Zak:=rfl
theorem Zdx:G 177 = some Z2:=rfl
theorem Zd0:G 181 = some Zw:=rfl
theorem Zdy:G 182 = some zo:=rfl
theorem Zdv:G 185 = some Za6:=rfl
theorem ZeR:G 186 = some Zcb:=rfl
theorem Zf0:G 187 = some Zb3:=rfl
theorem Zd2:G 188 = some ZG:=rfl
theorem ZcS:G 193 = some ZI:=rfl
theorem ZeU:G 201 = some zw:=rfl
theorem Zdm:G 202 = some ZX:=rfl
theorem Zfc:G 203 = some ZE:=rfl
theorem Zfd:G 204 = some Zaa:=rfl
theorem ZcR:G 206 = some zb:=rfl
theorem ZdF:G 207 = some za:=rfl
theorem Zfa:G 208 = some Zar:=rfl
theorem Zf1:G 209 = some zC:=rfl
theorem Zeu:G 219 = some zL:=rfl
theorem Ze4:G 220 = some ZbT:=rfl
theorem ZdC:G 221 = some zn:=rfl
theorem Ze3:G 222 = some Zbk:=rfl
theorem ZdD:G 223 = some Zbm:=rfl
theorem ZdE:G 224 = some zF:=rfl
theorem Zet:G 225 = some ZU:=rfl
theorem Zfb:G 231 = some ZaX:=rfl
theorem ZcC:G 251 = some Zt:=rfl
theorem ZdK:G 261 = some Z0:=rfl
theorem ZcQ:G 262 = some Zs:=rfl
theorem ZdM:G 263 = some Z9:=rfl
theorem ZdL:G 274 = some Zag:=rfl
end Mu
