/- The functions of the program, as the evaluator has them: printed by a program; checked against the model's. -/
import Derived.Test.YtdefkboekpjiiaaMuE0
namespace Mu
instance (n:Nat):OfNat Opd n:=⟨.t n⟩
abbrev oD (d:Nat) (op:Op):Oper:=⟨some d,op,none⟩
abbrev oN (op:Op):Oper:=⟨none,op,none⟩
/-! muntin/muntinref10.Make -/
def Zi.r0:List Oper:=[
 oD 2 (.box 0),
 oD 4 (.mv (.c (.sn))),
 oD 5 (.mv (.c (.sn)))]
def Zi.r1:List Oper:=[
 oD 6 (.mv (.c (.sn)))]
def Zi.r2:List Oper:=[
 oD 7 (.mv (.c (.n 0)))]
def Zi.r3:List Oper:=[
 oD 18 (.mv 7),
 oD 19 (.fa 0 2),
 oD 20 (.ld false 1 19),
 oD 21 (.len 20),
 oD 22 (.bin .lss 18 21),
 oD 23 (.mv 22),
 ⟨(some 24),.mv 6,(some (23,true))⟩,
 ⟨(some 25),.len 24,(some (23,true))⟩,
 ⟨(some 26),.mv 1,(some (23,true))⟩,
 ⟨(some 27),.bin .lss 25 26,(some (23,true))⟩,
 oD 28 (.pick 23 27 (.c (.b false)))]
def Zi.r5:List Oper:=[
 oD 31 (.fa 0 2),
 oD 32 (.ld false 1 31),
 oD 33 (.mv 7),
 oD 34 (.ixa 1 32 33),
 oD 35 (.ld false 1 34),
 oD 36 (.conv .i64 35),
 oD 37 (.bin .rem 36 (.c (.n 8))),
 oD 38 (.fa 0 2),
 oD 39 (.ld false 1 38),
 oD 40 (.mv 7),
 oD 41 (.ixa 1 39 40),
 oD 42 (.ld false 1 41),
 oD 43 (.conv .i64 42),
 oD 44 (.bin .quo 43 (.c (.n 8))),
 oD 45 (.bin .rem 44 (.c (.n 8))),
 oD 46 (.build [.n 0,.n 0] [(0,1,.t 37),(1,1,.t 45)]),
 oD 8 (.alloc [.n 0,.n 0]),
 oN (.st 2 8 46)]
def Zi.r6:List Oper:=[
 oD 9 (.mv (.c (.b false)))]
def Zi.r7:List Oper:=[
 oD 10 (.mv (.c (.n 0)))]
def Zi.r8:List Oper:=[
 oD 47 (.mv 10),
 oD 48 (.mv 6),
 oD 49 (.len 48),
 oD 50 (.bin .lss 47 49)]
def Zi.r10:List Oper:=[
 oD 53 (.mv 9),
 oD 54 (.mv 53),
 ⟨(some 55),.mv 6,(some (54,false))⟩,
 ⟨(some 56),.mv 10,(some (54,false))⟩,
 ⟨(some 57),.ixa 2 55 56,(some (54,false))⟩,
 ⟨(some 58),.ld true 2 57,(some (54,false))⟩,
 ⟨(some 59),.ld true 2 8,(some (54,false))⟩,
 ⟨(some 60),.eq false (.fl [.i,.i]) 58 59,(some (54,false))⟩,
 oD 61 (.pick 54 (.c (.b true)) 60),
 oD 9 (.mv 61)]
def Zi.r9:List Oper:=[
 oD 51 (.mv 10),
 oD 52 (.bin .add 51 (.c (.n 1))),
 oD 10 (.mv 52)]
def Zi.l0:Code:=.seq (.seq (.region Zi.r8) (.cond 50 (.skip) (.exit 2))) (.seq (.block 3 (.draw Zi.r10 [(5,6)])) (.region Zi.r9))
def Zi.r11:List Oper:=[
 oD 62 (.mv 9),
 oD 63 (.un .not 62)]
def Zi.r12:List Oper:=[
 oD 64 (.mv 6),
 oD 65 (.ld true 2 8),
 oD 66 (.bsl 2 1 [.n 0,.n 0] [(0,2,.t 65)]),
 oD 67 (.app 2 16 64 66),
 oD 6 (.mv 67)]
def Zi.r4:List Oper:=[
 oD 29 (.mv 7),
 oD 30 (.bin .add 29 (.c (.n 1))),
 oD 7 (.mv 30)]
def Zi.l1:Code:=.seq (.seq (.region Zi.r3) (.cond 28 (.skip) (.exit 0))) (.seq (.block 1 (.seq (.draw Zi.r5 [(1,8),(4,8),(1,11),(4,11),(1,16),(4,16),(8,16),(11,16)]) (.seq (.region Zi.r6) (.seq (.seq (.region Zi.r7) (.block 2 (.loop Zi.l0))) (.seq (.region Zi.r11) (.cond 63 (.region Zi.r12) (.skip))))))) (.region Zi.r4))
def Zi.r13:List Oper:=[
 oD 68 (.mv 6),
 oD 69 (.len 68),
 oD 70 (.call (.c (.f 46 [])) [.t 69]),
 oD 11 (.mv 70)]
def Zi.r14:List Oper:=[
 oD 12 (.mv (.c (.n 0)))]
def Zi.r15:List Oper:=[
 oD 71 (.mv 12),
 oD 72 (.mv 6),
 oD 73 (.len 72),
 oD 74 (.bin .lss 71 73)]
def Zi.r17:List Oper:=[
 oD 13 (.mv (.c (.i .u8 3)))]
def Zi.r18:List Oper:=[
 oD 77 (.mv 12),
 oD 78 (.fa 1 2),
 oD 79 (.ld false 1 78),
 oD 80 (.len 79),
 oD 81 (.bin .lss 77 80)]
def Zi.r19:List Oper:=[
 oD 82 (.fa 1 2),
 oD 83 (.ld false 1 82),
 oD 84 (.mv 12),
 oD 85 (.ixa 1 83 84),
 oD 86 (.ld false 1 85),
 oD 13 (.mv 86)]
def Zi.r20:List Oper:=[
 oD 87 (.mv 12),
 oD 14 (.mv 87)]
def Zi.r21:List Oper:=[
 oD 88 (.mv 12),
 oD 89 (.fa 2 2),
 oD 90 (.ld false 1 89),
 oD 91 (.len 90),
 oD 92 (.bin .lss 88 91)]
def Zi.r22:List Oper:=[
 oD 93 (.fa 2 2),
 oD 94 (.ld false 1 93),
 oD 95 (.mv 12),
 oD 96 (.ixa 1 94 95),
 oD 97 (.ld false 1 96),
 oD 98 (.conv .i64 97),
 oD 14 (.mv 98)]
def Zi.r23:List Oper:=[
 oD 99 (.mv 14),
 oD 100 (.bin .lss 99 (.c (.n (-2))))]
def Zi.r24:List Oper:=[
 oD 101 (.mv 14),
 oD 102 (.un .neg 101),
 oD 14 (.mv 102)]
def Zi.r25:List Oper:=[
 oD 15 (.mv (.c (.n 0)))]
def Zi.r26:List Oper:=[
 oD 103 (.mv 15),
 oD 104 (.bin .lss 103 (.c (.n 2)))]
def Zi.r28:List Oper:=[
 oD 107 (.mv 6),
 oD 108 (.mv 12),
 oD 109 (.mv 15),
 oD 110 (.call (.c (.f 63 [])) [.t 107,.t 108,.t 109]),
 oD 16 (.mv 110)]
def Zi.r29:List Oper:=[
 oD 111 (.mv 13),
 oD 112 (.mv 15),
 oD 113 (.bin .shr 111 112),
 oD 114 (.bin .and 113 (.c (.i .u8 1))),
 oD 115 (.eq false .sc 114 (.c (.i .u8 0))),
 oD 116 (.mv 115),
 ⟨(some 117),.mv 16,(some (116,false))⟩,
 ⟨(some 118),.bin .lss 117 (.c (.n 0)),(some (116,false))⟩,
 oD 119 (.pick 116 (.c (.b true)) 118)]
def Zi.r30:List Oper:=[
 oD 120 (.mv 6),
 oD 121 (.mv 11),
 oD 122 (.mv 12),
 oD 123 (.mv 16),
 oD 124 (.call (.c (.f 64 [])) [.t 120,.t 121,.t 122,.t 123]),
 oD 17 (.mv 124)]
def Zi.r31:List Oper:=[
 oD 125 (.mv 17),
 oD 126 (.un .not 125)]
def Zi.r32:List Oper:=[
 oD 127 (.mv 11),
 oD 128 (.mv 12),
 oD 129 (.mv 15),
 oD 130 (.mv 16),
 oD 131 (.mv 14),
 oD 132 (.call (.c (.f 65 [])) [.t 127,.t 128,.t 129,.t 130,.t 131]),
 oD 11 (.mv 132)]
def Zi.r27:List Oper:=[
 oD 105 (.mv 15),
 oD 106 (.bin .add 105 (.c (.n 1))),
 oD 15 (.mv 106)]
def Zi.l2:Code:=.seq (.seq (.region Zi.r26) (.cond 104 (.skip) (.exit 6))) (.seq (.block 7 (.seq (.region Zi.r28) (.seq (.seq (.region Zi.r29) (.cond 119 (.exit 7) (.skip))) (.seq (.region Zi.r30) (.seq (.region Zi.r31) (.cond 126 (.region Zi.r32) (.skip))))))) (.region Zi.r27))
def Zi.r16:List Oper:=[
 oD 75 (.mv 12),
 oD 76 (.bin .add 75 (.c (.n 1))),
 oD 12 (.mv 76)]
def Zi.l3:Code:=.seq (.seq (.region Zi.r15) (.cond 74 (.skip) (.exit 4))) (.seq (.block 5 (.seq (.region Zi.r17) (.seq (.seq (.region Zi.r18) (.cond 81 (.region Zi.r19) (.skip))) (.seq (.region Zi.r20) (.seq (.seq (.region Zi.r21) (.cond 92 (.seq (.region Zi.r22) (.seq (.region Zi.r23) (.cond 100 (.region Zi.r24) (.skip)))) (.skip))) (.seq (.region Zi.r25) (.block 6 (.loop Zi.l2)))))))) (.region Zi.r16))
def Zi.r33:List Oper:=[
 oD 133 (.mv 11),
 oD 134 (.mv 6),
 oD 4 (.mv 133),
 oD 5 (.mv 134)]
def Zi.code:Code:=.seq (.region Zi.r0) (.seq (.region Zi.r1) (.seq (.seq (.region Zi.r2) (.block 0 (.loop Zi.l1))) (.seq (.region Zi.r13) (.seq (.seq (.region Zi.r14) (.block 4 (.loop Zi.l3))) (.seq (.region Zi.r33) (.ret))))))
def Zi:Func:=⟨135,[.t 4,.t 5],Zi.code⟩
/-! muntin/join.Parts -/
def ZC.r0:List Oper:=[
 oD 2 (.mv (.c (.sn))),
 oD 3 (.mv (.c (.n 0)))]
def ZC.r1:List Oper:=[
 oD 12 (.mv 0),
 oD 13 (.call (.c (.f 66 [])) [.t 12]),
 oD 4 (.mv 13)]
def ZC.r2:List Oper:=[
 oD 14 (.mv 4),
 oD 15 (.eq true .sc 14 (.c (.n 0)))]
def ZC.r3:List Oper:=[
 oD 16 (.mv 4),
 oD 2 (.mv (.c (.sn))),
 oD 3 (.mv 16)]
def ZC.r4:List Oper:=[
 oD 5 (.mv (.c (.sn)))]
def ZC.r5:List Oper:=[
 oD 17 (.mv 0),
 oD 18 (.len 17),
 oD 19 (.mks 1 1 [.b false] 18 18),
 oD 6 (.mv 19)]
def ZC.r6:List Oper:=[
 oD 20 (.mv 0),
 oD 21 (.len 20),
 oD 22 (.mv (.c (.n 0)))]
def ZC.r7:List Oper:=[
 oD 23 (.bin .lss 22 21)]
def ZC.r8:List Oper:=[
 oD 24 (.mv 22),
 oD 7 (.mv 24)]
def ZC.r9:List Oper:=[
 oD 25 (.mv 6),
 oD 26 (.mv 7),
 oD 27 (.ixa 1 25 26),
 oD 28 (.ld false 1 27)]
def ZC.r10:List Oper:=[
 oD 30 (.mv 0),
 oD 31 (.mv 7),
 oD 32 (.call (.c (.f 67 [])) [.t 30,.t 31]),
 oD 29 (.mv 32),
 oD 33 (.ext 29 0),
 oD 34 (.ext 29 1),
 oD 8 (.mv 33),
 oD 9 (.mv 34)]
def ZC.r11:List Oper:=[
 oD 35 (.bsl 1 0 [.n 0] []),
 oD 10 (.mv 35)]
def ZC.r12:List Oper:=[
 oD 36 (.mv 0),
 oD 37 (.len 36),
 oD 38 (.mv (.c (.n 0)))]
def ZC.r13:List Oper:=[
 oD 39 (.bin .lss 38 37)]
def ZC.r14:List Oper:=[
 oD 40 (.mv 38),
 oD 11 (.mv 40)]
def ZC.r15:List Oper:=[
 oD 41 (.mv 11),
 oD 42 (.mv 7),
 oD 43 (.eq false .sc 41 42),
 oD 44 (.mv 43),
 ⟨(some 45),.mv 9,(some (44,false))⟩,
 ⟨(some 46),.mv 11,(some (44,false))⟩,
 ⟨(some 47),.ixa 1 45 46,(some (44,false))⟩,
 ⟨(some 48),.ld false 1 47,(some (44,false))⟩,
 ⟨(some 49),.bin .geq 48 (.c (.n 0)),(some (44,false))⟩,
 oD 50 (.pick 44 (.c (.b true)) 49)]
def ZC.r16:List Oper:=[
 oD 51 (.mv 6),
 oD 52 (.mv 11),
 oD 53 (.ixa 1 51 52),
 oN (.st 1 53 (.c (.b true)))]
def ZC.r17:List Oper:=[
 oD 54 (.mv 10),
 oD 55 (.mv 11),
 oD 56 (.bsl 1 1 [.n 0] [(0,1,.t 55)]),
 oD 57 (.app 1 8 54 56),
 oD 10 (.mv 57)]
def ZC.r18:List Oper:=[
 oD 58 (.bin .add 38 (.c (.n 1))),
 oD 38 (.mv 58)]
def ZC.l0:Code:=.seq (.region ZC.r13) (.seq (.cond 39 (.skip) (.exit 2)) (.seq (.block 3 (.seq (.region ZC.r14) (.seq (.region ZC.r15) (.cond 50 (.seq (.region ZC.r16) (.region ZC.r17)) (.skip))))) (.region ZC.r18)))
def ZC.r19:List Oper:=[
 oD 59 (.mv 5),
 oD 60 (.mv 10),
 oD 61 (.bsl 1 1 [.sn] [(0,1,.t 60)]),
 oD 62 (.app 1 24 59 61),
 oD 5 (.mv 62)]
def ZC.r20:List Oper:=[
 oD 63 (.bin .add 22 (.c (.n 1))),
 oD 22 (.mv 63)]
def ZC.l1:Code:=.seq (.region ZC.r7) (.seq (.cond 23 (.skip) (.exit 0)) (.seq (.block 1 (.seq (.region ZC.r8) (.seq (.seq (.region ZC.r9) (.cond 28 (.exit 1) (.skip))) (.seq (.region ZC.r10) (.seq (.region ZC.r11) (.seq (.seq (.region ZC.r12) (.block 2 (.loop ZC.l0))) (.region ZC.r19))))))) (.region ZC.r20)))
def ZC.r21:List Oper:=[
 oD 64 (.mv 5),
 oD 2 (.mv 64),
 oD 3 (.mv (.c (.n 0)))]
def ZC.code:Code:=.seq (.region ZC.r0) (.seq (.seq (.region ZC.r1) (.seq (.region ZC.r2) (.cond 15 (.seq (.region ZC.r3) (.ret)) (.skip)))) (.seq (.region ZC.r4) (.seq (.region ZC.r5) (.seq (.seq (.region ZC.r6) (.block 0 (.loop ZC.l1))) (.seq (.region ZC.r21) (.ret))))))
def ZC:Func:=⟨65,[.t 2,.t 3],ZC.code⟩
/-! muntin/join.Whole -/
def ZaQ.r0:List Oper:=[
 oD 2 (.mv (.c (.b false)))]
def ZaQ.r1:List Oper:=[
 oD 6 (.mv 0),
 oD 7 (.call (.c (.f 29 [])) [.t 6]),
 oD 5 (.mv 7),
 oD 8 (.ext 5 0),
 oD 9 (.ext 5 1),
 oD 3 (.mv 8),
 oD 4 (.mv 9)]
def ZaQ.r2:List Oper:=[
 oD 10 (.mv 4),
 oD 11 (.eq false .sc 10 (.c (.n 0))),
 oD 12 (.mv 11),
 ⟨(some 13),.mv 3,(some (12,true))⟩,
 ⟨(some 14),.len 13,(some (12,true))⟩,
 ⟨(some 15),.eq false .sc 14 (.c (.n 1)),(some (12,true))⟩,
 oD 16 (.pick 12 15 (.c (.b false))),
 oD 2 (.mv 16)]
def ZaQ.code:Code:=.seq (.region ZaQ.r0) (.seq (.region ZaQ.r1) (.seq (.region ZaQ.r2) (.ret)))
def ZaQ:Func:=⟨17,[.t 2],ZaQ.code⟩
/-! muntin/muntinref10.New -/
def ZR.r0:List Oper:=[
 oD 2 (.mv (.c (.sn)))]
def ZR.r1:List Oper:=[
 oD 6 (.mv 0),
 oD 7 (.mks 8 64 [.n 0,.n 0,.n 0,.n 0,.n 0,.n 0,.n 0,.n 0] 6 6),
 oD 3 (.mv 7)]
def ZR.r2:List Oper:=[
 oD 4 (.mv (.c (.n 0)))]
def ZR.r3:List Oper:=[
 oD 8 (.mv 4),
 oD 9 (.mv 0),
 oD 10 (.bin .lss 8 9)]
def ZR.r5:List Oper:=[
 oD 5 (.mv (.c (.n 0)))]
def ZR.r6:List Oper:=[
 oD 13 (.mv 5),
 oD 14 (.bin .lss 13 (.c (.n 4)))]
def ZR.r8:List Oper:=[
 oD 17 (.mv 3),
 oD 18 (.mv 4),
 oD 19 (.mv 5),
 oD 20 (.ixa 8 17 18),
 oD 21 (.fa 0 20),
 oD 22 (.ixaa 1 4 21 19),
 oN (.st 1 22 (.c (.n (-1))))]
def ZR.r7:List Oper:=[
 oD 15 (.mv 5),
 oD 16 (.bin .add 15 (.c (.n 1))),
 oD 5 (.mv 16)]
def ZR.l0:Code:=.seq (.seq (.region ZR.r6) (.cond 14 (.skip) (.exit 2))) (.seq (.block 3 (.region ZR.r8)) (.region ZR.r7))
def ZR.r4:List Oper:=[
 oD 11 (.mv 4),
 oD 12 (.bin .add 11 (.c (.n 1))),
 oD 4 (.mv 12)]
def ZR.l1:Code:=.seq (.seq (.region ZR.r3) (.cond 10 (.skip) (.exit 0))) (.seq (.block 1 (.seq (.region ZR.r5) (.block 2 (.loop ZR.l0)))) (.region ZR.r4))
def ZR.r9:List Oper:=[
 oD 23 (.mv 3),
 oD 2 (.mv 23)]
def ZR.code:Code:=.seq (.region ZR.r0) (.seq (.region ZR.r1) (.seq (.seq (.region ZR.r2) (.block 0 (.loop ZR.l1))) (.seq (.region ZR.r9) (.ret))))
def ZR:Func:=⟨24,[.t 2],ZR.code⟩
/-! muntin/muntinref10.Join -/
def zm.r0:List Oper:=[
 oD 10 (.mv (.c (.sn))),
 oD 11 (.mv (.c (.n 0)))]
def zm.r1:List Oper:=[
 oD 13 (.mv 1),
 oD 14 (.bin .lss 13 (.c (.n 0))),
 oD 15 (.mv 14),
 ⟨(some 16),.mv 1,(some (15,false))⟩,
 ⟨(some 17),.mv 0,(some (15,false))⟩,
 ⟨(some 18),.len 17,(some (15,false))⟩,
 ⟨(some 19),.bin .geq 16 18,(some (15,false))⟩,
 oD 20 (.pick 15 (.c (.b true)) 19),
 oD 21 (.mv 20),
 ⟨(some 22),.mv 3,(some (21,false))⟩,
 ⟨(some 23),.bin .lss 22 (.c (.n 0)),(some (21,false))⟩,
 oD 24 (.pick 21 (.c (.b true)) 23),
 oD 25 (.mv 24),
 ⟨(some 26),.mv 3,(some (25,false))⟩,
 ⟨(some 27),.mv 0,(some (25,false))⟩,
 ⟨(some 28),.len 27,(some (25,false))⟩,
 ⟨(some 29),.bin .geq 26 28,(some (25,false))⟩,
 oD 30 (.pick 25 (.c (.b true)) 29),
 oD 31 (.mv 30),
 ⟨(some 32),.mv 1,(some (31,false))⟩,
 ⟨(some 33),.mv 3,(some (31,false))⟩,
 ⟨(some 34),.eq false .sc 32 33,(some (31,false))⟩,
 oD 35 (.pick 31 (.c (.b true)) 34),
 oD 36 (.mv 35),
 ⟨(some 37),.mv 2,(some (36,false))⟩,
 ⟨(some 38),.bin .lss 37 (.c (.n 0)),(some (36,false))⟩,
 oD 39 (.pick 36 (.c (.b true)) 38),
 oD 40 (.mv 39),
 ⟨(some 41),.mv 2,(some (40,false))⟩,
 ⟨(some 42),.bin .gtr 41 (.c (.n 3)),(some (40,false))⟩,
 oD 43 (.pick 40 (.c (.b true)) 42),
 oD 44 (.mv 43),
 ⟨(some 45),.mv 4,(some (44,false))⟩,
 ⟨(some 46),.bin .lss 45 (.c (.n (-2))),(some (44,false))⟩,
 oD 47 (.pick 44 (.c (.b true)) 46)]
def zm.r2:List Oper:=[
 oD 48 (.mv 0),
 oD 10 (.mv 48),
 oD 11 (.mv (.c (.n 2)))]
def zm.r3:List Oper:=[
 oD 49 (.mv 0),
 oD 50 (.mv 1),
 oD 51 (.mv 2),
 oD 52 (.ixa 8 49 50),
 oD 53 (.fa 0 52),
 oD 54 (.ixaa 1 4 53 51),
 oD 55 (.ld false 1 54),
 oD 56 (.eq true .sc 55 (.c (.n (-1)))),
 oD 57 (.mv 56),
 ⟨(some 58),.mv 0,(some (57,false))⟩,
 ⟨(some 59),.mv 3,(some (57,false))⟩,
 ⟨(some 60),.mv 2,(some (57,false))⟩,
 ⟨(some 61),.bin .add 60 (.c (.n 2)),(some (57,false))⟩,
 ⟨(some 62),.bin .rem 61 (.c (.n 4)),(some (57,false))⟩,
 ⟨(some 63),.ixa 8 58 59,(some (57,false))⟩,
 ⟨(some 64),.fa 0 63,(some (57,false))⟩,
 ⟨(some 65),.ixaa 1 4 64 62,(some (57,false))⟩,
 ⟨(some 66),.ld false 1 65,(some (57,false))⟩,
 ⟨(some 67),.eq true .sc 66 (.c (.n (-1))),(some (57,false))⟩,
 oD 68 (.pick 57 (.c (.b true)) 67)]
def zm.r4:List Oper:=[
 oD 69 (.mv 0),
 oD 10 (.mv 69),
 oD 11 (.mv (.c (.n 9)))]
def zm.r5:List Oper:=[
 oD 70 (.mv 0),
 oD 71 (.mv 1),
 oD 72 (.mv 2),
 oD 73 (.mv 3),
 oD 74 (.mv 4),
 oD 75 (.call (.c (.f 65 [])) [.t 70,.t 71,.t 72,.t 73,.t 74]),
 oD 12 (.mv 75)]
def zm.r6:List Oper:=[
 oD 76 (.mv 12),
 oD 10 (.mv 76),
 oD 11 (.mv (.c (.n 0)))]
def zm.code:Code:=.seq (.region zm.r0) (.seq (.seq (.region zm.r1) (.cond 47 (.seq (.region zm.r2) (.ret)) (.skip))) (.seq (.seq (.region zm.r3) (.cond 68 (.seq (.region zm.r4) (.ret)) (.skip))) (.seq (.region zm.r5) (.seq (.region zm.r6) (.ret)))))
def zm:Func:=⟨77,[.t 10,.t 11],zm.code⟩
/-! muntin/muntinref10.Nearest -/
def ZD.r0:List Oper:=[
 oD 6 (.mv (.c (.n 0)))]
def ZD.r1:List Oper:=[
 oD 7 (.mv (.c (.n (-1))))]
def ZD.r2:List Oper:=[
 oD 8 (.mv (.c (.n 0)))]
def ZD.r3:List Oper:=[
 oD 9 (.mv 8),
 oD 10 (.mv 0),
 oD 11 (.len 10),
 oD 12 (.bin .lss 9 11)]
def ZD.r5:List Oper:=[
 oD 15 (.mv 2),
 oD 16 (.eq false .sc 15 (.c (.n 0))),
 oD 17 (.mv 16),
 ⟨(some 18),.mv 0,(some (17,true))⟩,
 ⟨(some 19),.mv 8,(some (17,true))⟩,
 ⟨(some 20),.ixa 2 18 19,(some (17,true))⟩,
 ⟨(some 21),.fa 1 20,(some (17,true))⟩,
 ⟨(some 22),.ld false 1 21,(some (17,true))⟩,
 ⟨(some 23),.mv 0,(some (17,true))⟩,
 ⟨(some 24),.mv 1,(some (17,true))⟩,
 ⟨(some 25),.ixa 2 23 24,(some (17,true))⟩,
 ⟨(some 26),.fa 1 25,(some (17,true))⟩,
 ⟨(some 27),.ld false 1 26,(some (17,true))⟩,
 ⟨(some 28),.eq false .sc 22 27,(some (17,true))⟩,
 oD 29 (.pick 17 28 (.c (.b false))),
 oD 30 (.mv 29),
 ⟨(some 31),.mv 0,(some (30,true))⟩,
 ⟨(some 32),.mv 8,(some (30,true))⟩,
 ⟨(some 33),.ixa 2 31 32,(some (30,true))⟩,
 ⟨(some 34),.fa 0 33,(some (30,true))⟩,
 ⟨(some 35),.ld false 1 34,(some (30,true))⟩,
 ⟨(some 36),.mv 0,(some (30,true))⟩,
 ⟨(some 37),.mv 1,(some (30,true))⟩,
 ⟨(some 38),.ixa 2 36 37,(some (30,true))⟩,
 ⟨(some 39),.fa 0 38,(some (30,true))⟩,
 ⟨(some 40),.ld false 1 39,(some (30,true))⟩,
 ⟨(some 41),.bin .gtr 35 40,(some (30,true))⟩,
 oD 42 (.pick 30 41 (.c (.b false))),
 oD 43 (.mv 42),
 ⟨(some 44),.mv 7,(some (43,true))⟩,
 ⟨(some 45),.bin .lss 44 (.c (.n 0)),(some (43,true))⟩,
 ⟨(some 46),.mv 45,(some (43,true))⟩,
 ⟨(some 47),.mv 0,(some (46,false))⟩,
 ⟨(some 48),.mv 8,(some (46,false))⟩,
 ⟨(some 49),.ixa 2 47 48,(some (46,false))⟩,
 ⟨(some 50),.fa 0 49,(some (46,false))⟩,
 ⟨(some 51),.ld false 1 50,(some (46,false))⟩,
 ⟨(some 52),.mv 0,(some (46,false))⟩,
 ⟨(some 53),.mv 7,(some (46,false))⟩,
 ⟨(some 54),.ixa 2 52 53,(some (46,false))⟩,
 ⟨(some 55),.fa 0 54,(some (46,false))⟩,
 ⟨(some 56),.ld false 1 55,(some (46,false))⟩,
 ⟨(some 57),.bin .lss 51 56,(some (46,false))⟩,
 ⟨(some 58),.pick 46 (.c (.b true)) 57,(some (43,true))⟩,
 oD 59 (.pick 43 58 (.c (.b false)))]
def ZD.r6:List Oper:=[
 oD 60 (.mv 8),
 oD 7 (.mv 60)]
def ZD.r7:List Oper:=[
 oD 61 (.mv 2),
 oD 62 (.eq false .sc 61 (.c (.n 1))),
 oD 63 (.mv 62),
 ⟨(some 64),.mv 0,(some (63,true))⟩,
 ⟨(some 65),.mv 8,(some (63,true))⟩,
 ⟨(some 66),.ixa 2 64 65,(some (63,true))⟩,
 ⟨(some 67),.fa 0 66,(some (63,true))⟩,
 ⟨(some 68),.ld false 1 67,(some (63,true))⟩,
 ⟨(some 69),.mv 0,(some (63,true))⟩,
 ⟨(some 70),.mv 1,(some (63,true))⟩,
 ⟨(some 71),.ixa 2 69 70,(some (63,true))⟩,
 ⟨(some 72),.fa 0 71,(some (63,true))⟩,
 ⟨(some 73),.ld false 1 72,(some (63,true))⟩,
 ⟨(some 74),.eq false .sc 68 73,(some (63,true))⟩,
 oD 75 (.pick 63 74 (.c (.b false))),
 oD 76 (.mv 75),
 ⟨(some 77),.mv 0,(some (76,true))⟩,
 ⟨(some 78),.mv 8,(some (76,true))⟩,
 ⟨(some 79),.ixa 2 77 78,(some (76,true))⟩,
 ⟨(some 80),.fa 1 79,(some (76,true))⟩,
 ⟨(some 81),.ld false 1 80,(some (76,true))⟩,
 ⟨(some 82),.mv 0,(some (76,true))⟩,
 ⟨(some 83),.mv 1,(some (76,true))⟩,
 ⟨(some 84),.ixa 2 82 83,(some (76,true))⟩,
 ⟨(some 85),.fa 1 84,(some (76,true))⟩,
 ⟨(some 86),.ld false 1 85,(some (76,true))⟩,
 ⟨(some 87),.bin .gtr 81 86,(some (76,true))⟩,
 oD 88 (.pick 76 87 (.c (.b false))),
 oD 89 (.mv 88),
 ⟨(some 90),.mv 7,(some (89,true))⟩,
 ⟨(some 91),.bin .lss 90 (.c (.n 0)),(some (89,true))⟩,
 ⟨(some 92),.mv 91,(some (89,true))⟩,
 ⟨(some 93),.mv 0,(some (92,false))⟩,
 ⟨(some 94),.mv 8,(some (92,false))⟩,
 ⟨(some 95),.ixa 2 93 94,(some (92,false))⟩,
 ⟨(some 96),.fa 1 95,(some (92,false))⟩,
 ⟨(some 97),.ld false 1 96,(some (92,false))⟩,
 ⟨(some 98),.mv 0,(some (92,false))⟩,
 ⟨(some 99),.mv 7,(some (92,false))⟩,
 ⟨(some 100),.ixa 2 98 99,(some (92,false))⟩,
 ⟨(some 101),.fa 1 100,(some (92,false))⟩,
 ⟨(some 102),.ld false 1 101,(some (92,false))⟩,
 ⟨(some 103),.bin .lss 97 102,(some (92,false))⟩,
 ⟨(some 104),.pick 92 (.c (.b true)) 103,(some (89,true))⟩,
 oD 105 (.pick 89 104 (.c (.b false)))]
def ZD.r8:List Oper:=[
 oD 106 (.mv 8),
 oD 7 (.mv 106)]
def ZD.r4:List Oper:=[
 oD 13 (.mv 8),
 oD 14 (.bin .add 13 (.c (.n 1))),
 oD 8 (.mv 14)]
def ZD.l0:Code:=.seq (.seq (.region ZD.r3) (.cond 12 (.skip) (.exit 0))) (.seq (.block 1 (.seq (.seq (.draw ZD.r5 [(7,12),(20,25),(36,41)]) (.cond 59 (.region ZD.r6) (.skip))) (.seq (.draw ZD.r7 [(7,12),(20,25),(36,41)]) (.cond 105 (.region ZD.r8) (.skip))))) (.region ZD.r4))
def ZD.r9:List Oper:=[
 oD 107 (.mv 7),
 oD 6 (.mv 107)]
def ZD.code:Code:=.seq (.region ZD.r0) (.seq (.region ZD.r1) (.seq (.seq (.region ZD.r2) (.block 0 (.loop ZD.l0))) (.seq (.region ZD.r9) (.ret))))
def ZD:Func:=⟨108,[.t 6],ZD.code⟩
/-! muntin/muntinref10.Crossed -/
def Zz.r0:List Oper:=[
 oD 8 (.mv (.c (.b false)))]
def Zz.r1:List Oper:=[
 oD 9 (.mv (.c (.n 0)))]
def Zz.r2:List Oper:=[
 oD 14 (.mv 9),
 oD 15 (.mv 1),
 oD 16 (.len 15),
 oD 17 (.bin .lss 14 16)]
def Zz.r4:List Oper:=[
 oD 10 (.mv (.c (.n 0)))]
def Zz.r5:List Oper:=[
 oD 20 (.mv 10),
 oD 21 (.bin .lss 20 (.c (.n 2)))]
def Zz.r7:List Oper:=[
 oD 24 (.mv 1),
 oD 25 (.mv 9),
 oD 26 (.mv 10),
 oD 27 (.ixa 8 24 25),
 oD 28 (.fa 0 27),
 oD 29 (.ixaa 1 4 28 26),
 oD 30 (.ld false 1 29),
 oD 11 (.mv 30)]
def Zz.r8:List Oper:=[
 oD 31 (.mv 11),
 oD 32 (.bin .lss 31 (.c (.n 0)))]
def Zz.r9:List Oper:=[
 oD 33 (.mv 0),
 oD 34 (.mv 9),
 oD 35 (.ixa 2 33 34),
 oD 36 (.ld true 2 35),
 oD 12 (.alloc [.n 0,.n 0]),
 oN (.st 2 12 36)]
def Zz.r10:List Oper:=[
 oD 37 (.mv 0),
 oD 38 (.mv 11),
 oD 39 (.ixa 2 37 38),
 oD 40 (.ld true 2 39),
 oD 13 (.alloc [.n 0,.n 0]),
 oN (.st 2 13 40)]
def Zz.r11:List Oper:=[
 oD 41 (.fa 1 12),
 oD 42 (.ld false 1 41),
 oD 43 (.fa 1 13),
 oD 44 (.ld false 1 43),
 oD 45 (.eq false .sc 42 44),
 oD 46 (.mv 45),
 ⟨(some 47),.mv 0,(some (46,true))⟩,
 ⟨(some 48),.mv 2,(some (46,true))⟩,
 ⟨(some 49),.ixa 2 47 48,(some (46,true))⟩,
 ⟨(some 50),.fa 0 49,(some (46,true))⟩,
 ⟨(some 51),.ld false 1 50,(some (46,true))⟩,
 ⟨(some 52),.mv 0,(some (46,true))⟩,
 ⟨(some 53),.mv 3,(some (46,true))⟩,
 ⟨(some 54),.ixa 2 52 53,(some (46,true))⟩,
 ⟨(some 55),.fa 0 54,(some (46,true))⟩,
 ⟨(some 56),.ld false 1 55,(some (46,true))⟩,
 ⟨(some 57),.eq false .sc 51 56,(some (46,true))⟩,
 oD 58 (.pick 46 57 (.c (.b false))),
 oD 59 (.mv 58),
 ⟨(some 60),.fa 0 12,(some (59,true))⟩,
 ⟨(some 61),.ld false 1 60,(some (59,true))⟩,
 ⟨(some 62),.mv 0,(some (59,true))⟩,
 ⟨(some 63),.mv 2,(some (59,true))⟩,
 ⟨(some 64),.ixa 2 62 63,(some (59,true))⟩,
 ⟨(some 65),.fa 0 64,(some (59,true))⟩,
 ⟨(some 66),.ld false 1 65,(some (59,true))⟩,
 ⟨(some 67),.bin .lss 61 66,(some (59,true))⟩,
 oD 68 (.pick 59 67 (.c (.b false))),
 oD 69 (.mv 68),
 ⟨(some 70),.mv 0,(some (69,true))⟩,
 ⟨(some 71),.mv 2,(some (69,true))⟩,
 ⟨(some 72),.ixa 2 70 71,(some (69,true))⟩,
 ⟨(some 73),.fa 0 72,(some (69,true))⟩,
 ⟨(some 74),.ld false 1 73,(some (69,true))⟩,
 ⟨(some 75),.fa 0 13,(some (69,true))⟩,
 ⟨(some 76),.ld false 1 75,(some (69,true))⟩,
 ⟨(some 77),.bin .lss 74 76,(some (69,true))⟩,
 oD 78 (.pick 69 77 (.c (.b false))),
 oD 79 (.mv 78),
 ⟨(some 80),.mv 0,(some (79,true))⟩,
 ⟨(some 81),.mv 2,(some (79,true))⟩,
 ⟨(some 82),.ixa 2 80 81,(some (79,true))⟩,
 ⟨(some 83),.fa 1 82,(some (79,true))⟩,
 ⟨(some 84),.ld false 1 83,(some (79,true))⟩,
 ⟨(some 85),.fa 1 12,(some (79,true))⟩,
 ⟨(some 86),.ld false 1 85,(some (79,true))⟩,
 ⟨(some 87),.bin .lss 84 86,(some (79,true))⟩,
 oD 88 (.pick 79 87 (.c (.b false))),
 oD 89 (.mv 88),
 ⟨(some 90),.fa 1 12,(some (89,true))⟩,
 ⟨(some 91),.ld false 1 90,(some (89,true))⟩,
 ⟨(some 92),.mv 0,(some (89,true))⟩,
 ⟨(some 93),.mv 3,(some (89,true))⟩,
 ⟨(some 94),.ixa 2 92 93,(some (89,true))⟩,
 ⟨(some 95),.fa 1 94,(some (89,true))⟩,
 ⟨(some 96),.ld false 1 95,(some (89,true))⟩,
 ⟨(some 97),.bin .lss 91 96,(some (89,true))⟩,
 oD 98 (.pick 89 97 (.c (.b false)))]
def Zz.r12:List Oper:=[
 oD 8 (.mv (.c (.b true)))]
def Zz.r13:List Oper:=[
 oD 99 (.fa 0 12),
 oD 100 (.ld false 1 99),
 oD 101 (.fa 0 13),
 oD 102 (.ld false 1 101),
 oD 103 (.eq false .sc 100 102),
 oD 104 (.mv 103),
 ⟨(some 105),.mv 0,(some (104,true))⟩,
 ⟨(some 106),.mv 2,(some (104,true))⟩,
 ⟨(some 107),.ixa 2 105 106,(some (104,true))⟩,
 ⟨(some 108),.fa 1 107,(some (104,true))⟩,
 ⟨(some 109),.ld false 1 108,(some (104,true))⟩,
 ⟨(some 110),.mv 0,(some (104,true))⟩,
 ⟨(some 111),.mv 3,(some (104,true))⟩,
 ⟨(some 112),.ixa 2 110 111,(some (104,true))⟩,
 ⟨(some 113),.fa 1 112,(some (104,true))⟩,
 ⟨(some 114),.ld false 1 113,(some (104,true))⟩,
 ⟨(some 115),.eq false .sc 109 114,(some (104,true))⟩,
 oD 116 (.pick 104 115 (.c (.b false))),
 oD 117 (.mv 116),
 ⟨(some 118),.mv 0,(some (117,true))⟩,
 ⟨(some 119),.mv 2,(some (117,true))⟩,
 ⟨(some 120),.ixa 2 118 119,(some (117,true))⟩,
 ⟨(some 121),.fa 0 120,(some (117,true))⟩,
 ⟨(some 122),.ld false 1 121,(some (117,true))⟩,
 ⟨(some 123),.fa 0 12,(some (117,true))⟩,
 ⟨(some 124),.ld false 1 123,(some (117,true))⟩,
 ⟨(some 125),.bin .lss 122 124,(some (117,true))⟩,
 oD 126 (.pick 117 125 (.c (.b false))),
 oD 127 (.mv 126),
 ⟨(some 128),.fa 0 12,(some (127,true))⟩,
 ⟨(some 129),.ld false 1 128,(some (127,true))⟩,
 ⟨(some 130),.mv 0,(some (127,true))⟩,
 ⟨(some 131),.mv 3,(some (127,true))⟩,
 ⟨(some 132),.ixa 2 130 131,(some (127,true))⟩,
 ⟨(some 133),.fa 0 132,(some (127,true))⟩,
 ⟨(some 134),.ld false 1 133,(some (127,true))⟩,
 ⟨(some 135),.bin .lss 129 134,(some (127,true))⟩,
 oD 136 (.pick 127 135 (.c (.b false))),
 oD 137 (.mv 136),
 ⟨(some 138),.fa 1 12,(some (137,true))⟩,
 ⟨(some 139),.ld false 1 138,(some (137,true))⟩,
 ⟨(some 140),.mv 0,(some (137,true))⟩,
 ⟨(some 141),.mv 2,(some (137,true))⟩,
 ⟨(some 142),.ixa 2 140 141,(some (137,true))⟩,
 ⟨(some 143),.fa 1 142,(some (137,true))⟩,
 ⟨(some 144),.ld false 1 143,(some (137,true))⟩,
 ⟨(some 145),.bin .lss 139 144,(some (137,true))⟩,
 oD 146 (.pick 137 145 (.c (.b false))),
 oD 147 (.mv 146),
 ⟨(some 148),.mv 0,(some (147,true))⟩,
 ⟨(some 149),.mv 2,(some (147,true))⟩,
 ⟨(some 150),.ixa 2 148 149,(some (147,true))⟩,
 ⟨(some 151),.fa 1 150,(some (147,true))⟩,
 ⟨(some 152),.ld false 1 151,(some (147,true))⟩,
 ⟨(some 153),.fa 1 13,(some (147,true))⟩,
 ⟨(some 154),.ld false 1 153,(some (147,true))⟩,
 ⟨(some 155),.bin .lss 152 154,(some (147,true))⟩,
 oD 156 (.pick 147 155 (.c (.b false)))]
def Zz.r14:List Oper:=[
 oD 8 (.mv (.c (.b true)))]
def Zz.r6:List Oper:=[
 oD 22 (.mv 10),
 oD 23 (.bin .add 22 (.c (.n 1))),
 oD 10 (.mv 23)]
def Zz.l0:Code:=.seq (.seq (.region Zz.r5) (.cond 21 (.skip) (.exit 2))) (.seq (.block 3 (.seq (.region Zz.r7) (.seq (.seq (.region Zz.r8) (.cond 32 (.exit 3) (.skip))) (.seq (.region Zz.r9) (.seq (.region Zz.r10) (.seq (.seq (.draw Zz.r11 [(1,3),(10,15),(20,25),(33,35),(43,45),(50,55)]) (.cond 98 (.seq (.region Zz.r12) (.ret)) (.skip))) (.seq (.draw Zz.r13 [(1,3),(10,15),(23,25),(30,35),(40,45),(53,55)]) (.cond 156 (.seq (.region Zz.r14) (.ret)) (.skip))))))))) (.region Zz.r6))
def Zz.r3:List Oper:=[
 oD 18 (.mv 9),
 oD 19 (.bin .add 18 (.c (.n 1))),
 oD 9 (.mv 19)]
def Zz.l1:Code:=.seq (.seq (.region Zz.r2) (.cond 17 (.skip) (.exit 0))) (.seq (.block 1 (.seq (.region Zz.r4) (.block 2 (.loop Zz.l0)))) (.region Zz.r3))
def Zz.r15:List Oper:=[
 oD 8 (.mv (.c (.b false)))]
def Zz.code:Code:=.seq (.region Zz.r0) (.seq (.seq (.region Zz.r1) (.block 0 (.loop Zz.l1))) (.seq (.region Zz.r15) (.ret)))
def Zz:Func:=⟨157,[.t 8],Zz.code⟩
/-! muntin/muntinref10.with -/
def ZA.r0:List Oper:=[
 oD 10 (.mv (.c (.sn)))]
def ZA.r1:List Oper:=[
 oD 11 (.mv (.c (.sn)))]
def ZA.r2:List Oper:=[
 oD 12 (.mv (.c (.n 0)))]
def ZA.r3:List Oper:=[
 oD 14 (.mv 12),
 oD 15 (.mv 0),
 oD 16 (.len 15),
 oD 17 (.bin .lss 14 16)]
def ZA.r5:List Oper:=[
 oD 20 (.mv 0),
 oD 21 (.mv 12),
 oD 22 (.ixa 8 20 21),
 oD 23 (.ld true 8 22),
 oD 13 (.alloc [.n 0,.n 0,.n 0,.n 0,.n 0,.n 0,.n 0,.n 0]),
 oN (.st 8 13 23)]
def ZA.r6:List Oper:=[
 oD 24 (.mv 12),
 oD 25 (.mv 1),
 oD 26 (.eq false .sc 24 25)]
def ZA.r7:List Oper:=[
 oD 27 (.mv 2),
 oD 28 (.mv 3),
 oD 29 (.fa 0 13),
 oD 30 (.ixaa 1 4 29 27),
 oN (.st 1 30 28)]
def ZA.r8:List Oper:=[
 oD 31 (.mv 2),
 oD 32 (.mv 4),
 oD 33 (.fa 4 13),
 oD 34 (.ixaa 1 4 33 31),
 oN (.st 1 34 32)]
def ZA.r9:List Oper:=[
 oD 35 (.mv 12),
 oD 36 (.mv 3),
 oD 37 (.eq false .sc 35 36)]
def ZA.r10:List Oper:=[
 oD 38 (.mv 2),
 oD 39 (.bin .add 38 (.c (.n 2))),
 oD 40 (.bin .rem 39 (.c (.n 4))),
 oD 41 (.mv 1),
 oD 42 (.fa 0 13),
 oD 43 (.ixaa 1 4 42 40),
 oN (.st 1 43 41)]
def ZA.r11:List Oper:=[
 oD 44 (.mv 2),
 oD 45 (.bin .add 44 (.c (.n 2))),
 oD 46 (.bin .rem 45 (.c (.n 4))),
 oD 47 (.mv 4),
 oD 48 (.fa 4 13),
 oD 49 (.ixaa 1 4 48 46),
 oN (.st 1 49 47)]
def ZA.r12:List Oper:=[
 oD 50 (.mv 11),
 oD 51 (.ld true 8 13),
 oD 52 (.bsl 8 1 [.n 0,.n 0,.n 0,.n 0,.n 0,.n 0,.n 0,.n 0] [(0,8,.t 51)]),
 oD 53 (.app 8 64 50 52),
 oD 11 (.mv 53)]
def ZA.r4:List Oper:=[
 oD 18 (.mv 12),
 oD 19 (.bin .add 18 (.c (.n 1))),
 oD 12 (.mv 19)]
def ZA.l0:Code:=.seq (.seq (.region ZA.r3) (.cond 17 (.skip) (.exit 0))) (.seq (.block 1 (.seq (.region ZA.r5) (.seq (.seq (.region ZA.r6) (.cond 26 (.seq (.region ZA.r7) (.region ZA.r8)) (.skip))) (.seq (.seq (.region ZA.r9) (.cond 37 (.seq (.region ZA.r10) (.region ZA.r11)) (.skip))) (.region ZA.r12))))) (.region ZA.r4))
def ZA.r13:List Oper:=[
 oD 54 (.mv 11),
 oD 10 (.mv 54)]
def ZA.code:Code:=.seq (.region ZA.r0) (.seq (.region ZA.r1) (.seq (.seq (.region ZA.r2) (.block 0 (.loop ZA.l0))) (.seq (.region ZA.r13) (.ret))))
def ZA:Func:=⟨55,[.t 10],ZA.code⟩
/-! muntin/grid.Check -/
def ZY.r0:List Oper:=[
 oD 2 (.mv (.c (.n 0)))]
def ZY.r1:List Oper:=[
 oD 6 (.mv 0),
 oD 7 (.len 6),
 oD 8 (.bin .gtr 7 (.c (.n 4096)))]
def ZY.r2:List Oper:=[
 oD 2 (.mv (.c (.n 6)))]
def ZY.r3:List Oper:=[
 oD 9 (.mv 0),
 oD 10 (.len 9),
 oD 11 (.mv (.c (.n 0)))]
def ZY.r4:List Oper:=[
 oD 12 (.bin .lss 11 10)]
def ZY.r5:List Oper:=[
 oD 13 (.mv 11),
 oD 3 (.mv 13)]
def ZY.r6:List Oper:=[
 oD 14 (.mv (.c (.n 0)))]
def ZY.r7:List Oper:=[
 oD 15 (.bin .lss 14 (.c (.n 4)))]
def ZY.r8:List Oper:=[
 oD 16 (.mv 14),
 oD 4 (.mv 16)]
def ZY.r9:List Oper:=[
 oD 17 (.mv 0),
 oD 18 (.mv 3),
 oD 19 (.mv 4),
 oD 20 (.call (.c (.f 82 [])) [.t 17,.t 18,.t 19]),
 oD 5 (.mv 20)]
def ZY.r10:List Oper:=[
 oD 21 (.mv 5),
 oD 22 (.eq true .sc 21 (.c (.n 0)))]
def ZY.r11:List Oper:=[
 oD 23 (.mv 5),
 oD 2 (.mv 23)]
def ZY.r12:List Oper:=[
 oD 24 (.bin .add 14 (.c (.n 1))),
 oD 14 (.mv 24)]
def ZY.l0:Code:=.seq (.region ZY.r7) (.seq (.cond 15 (.skip) (.exit 2)) (.seq (.block 3 (.seq (.region ZY.r8) (.seq (.region ZY.r9) (.seq (.region ZY.r10) (.cond 22 (.seq (.region ZY.r11) (.ret)) (.skip)))))) (.region ZY.r12)))
def ZY.r13:List Oper:=[
 oD 25 (.bin .add 11 (.c (.n 1))),
 oD 11 (.mv 25)]
def ZY.l1:Code:=.seq (.region ZY.r4) (.seq (.cond 12 (.skip) (.exit 0)) (.seq (.block 1 (.seq (.region ZY.r5) (.seq (.region ZY.r6) (.block 2 (.loop ZY.l0))))) (.region ZY.r13)))
def ZY.r14:List Oper:=[
 oD 2 (.mv (.c (.n 0)))]
def ZY.code:Code:=.seq (.region ZY.r0) (.seq (.seq (.region ZY.r1) (.cond 8 (.seq (.region ZY.r2) (.ret)) (.skip))) (.seq (.seq (.region ZY.r3) (.block 0 (.loop ZY.l1))) (.seq (.region ZY.r14) (.ret))))
def ZY:Func:=⟨26,[.t 2],ZY.code⟩
/-! muntin/join.spread -/
def ZJ.r0:List Oper:=[
 oD 4 (.mv (.c (.sn))),
 oD 5 (.mv (.c (.sn)))]
def ZJ.r1:List Oper:=[
 oD 13 (.bsl 1 1 [.n 0] [(0,1,.c (.n (-1)))]),
 oD 14 (.mv 0),
 oD 15 (.len 14),
 oD 16 (.call (.c (.f 83 [])) [.t 13,.t 15]),
 oD 17 (.bsl 1 1 [.n 0] [(0,1,.c (.n (-1)))]),
 oD 18 (.mv 0),
 oD 19 (.len 18),
 oD 20 (.call (.c (.f 83 [])) [.t 17,.t 19]),
 oD 6 (.mv 16),
 oD 7 (.mv 20)]
def ZJ.r2:List Oper:=[
 oD 21 (.mv 1),
 oD 22 (.bsl 1 1 [.n 0] [(0,1,.t 21)]),
 oD 8 (.mv 22)]
def ZJ.r3:List Oper:=[
 oD 23 (.mv 0),
 oD 24 (.len 23),
 oD 25 (.mks 1 1 [.b false] 24 24),
 oD 9 (.mv 25)]
def ZJ.r4:List Oper:=[
 oD 26 (.mv 9),
 oD 27 (.mv 1),
 oD 28 (.ixa 1 26 27),
 oN (.st 1 28 (.c (.b true)))]
def ZJ.r5:List Oper:=[
 oD 29 (.mv 8),
 oD 30 (.len 29),
 oD 31 (.bin .gtr 30 (.c (.n 0)))]
def ZJ.r6:List Oper:=[
 oD 32 (.mv 8),
 oD 33 (.ixa 1 32 (.c (.n 0))),
 oD 34 (.ld false 1 33),
 oD 10 (.mv 34)]
def ZJ.r7:List Oper:=[
 oD 35 (.mv 8),
 oD 36 (.slc 1 35 (some (.c (.n 1))) none none),
 oD 8 (.mv 36)]
def ZJ.r8:List Oper:=[
 oD 37 (.mv (.c (.n 0)))]
def ZJ.r9:List Oper:=[
 oD 38 (.bin .lss 37 (.c (.n 4)))]
def ZJ.r10:List Oper:=[
 oD 39 (.mv 37),
 oD 11 (.mv 39)]
def ZJ.r11:List Oper:=[
 oD 40 (.mv 0),
 oD 41 (.mv 10),
 oD 42 (.mv 11),
 oD 43 (.ixa 8 40 41),
 oD 44 (.fa 0 43),
 oD 45 (.ixaa 1 4 44 42),
 oD 46 (.ld false 1 45),
 oD 12 (.mv 46)]
def ZJ.r12:List Oper:=[
 oD 47 (.mv 12),
 oD 48 (.bin .geq 47 (.c (.n 0))),
 oD 49 (.mv 48),
 ⟨(some 50),.mv 9,(some (49,true))⟩,
 ⟨(some 51),.mv 12,(some (49,true))⟩,
 ⟨(some 52),.ixa 1 50 51,(some (49,true))⟩,
 ⟨(some 53),.ld false 1 52,(some (49,true))⟩,
 ⟨(some 54),.un .not 53,(some (49,true))⟩,
 oD 55 (.pick 49 54 (.c (.b false)))]
def ZJ.r13:List Oper:=[
 oD 56 (.mv 9),
 oD 57 (.mv 12),
 oD 58 (.mv 6),
 oD 59 (.mv 12),
 oD 60 (.mv 7),
 oD 61 (.mv 12),
 oD 62 (.mv 10),
 oD 63 (.mv 11),
 oD 64 (.ixa 1 56 57),
 oN (.st 1 64 (.c (.b true))),
 oD 65 (.ixa 1 58 59),
 oN (.st 1 65 62),
 oD 66 (.ixa 1 60 61),
 oN (.st 1 66 63)]
def ZJ.r14:List Oper:=[
 oD 67 (.mv 8),
 oD 68 (.mv 12),
 oD 69 (.bsl 1 1 [.n 0] [(0,1,.t 68)]),
 oD 70 (.app 1 8 67 69),
 oD 8 (.mv 70)]
def ZJ.r15:List Oper:=[
 oD 71 (.bin .add 37 (.c (.n 1))),
 oD 37 (.mv 71)]
def ZJ.l0:Code:=.seq (.region ZJ.r9) (.seq (.cond 38 (.skip) (.exit 2)) (.seq (.block 3 (.seq (.region ZJ.r10) (.seq (.region ZJ.r11) (.seq (.region ZJ.r12) (.cond 55 (.seq (.region ZJ.r13) (.region ZJ.r14)) (.skip)))))) (.region ZJ.r15)))
def ZJ.l1:Code:=.seq (.seq (.region ZJ.r5) (.cond 31 (.skip) (.exit 0))) (.block 1 (.seq (.region ZJ.r6) (.seq (.region ZJ.r7) (.seq (.region ZJ.r8) (.block 2 (.loop ZJ.l0))))))
def ZJ.r16:List Oper:=[
 oD 72 (.mv 6),
 oD 73 (.mv 7),
 oD 4 (.mv 72),
 oD 5 (.mv 73)]
def ZJ.code:Code:=.seq (.region ZJ.r0) (.seq (.region ZJ.r1) (.seq (.region ZJ.r2) (.seq (.region ZJ.r3) (.seq (.region ZJ.r4) (.seq (.block 0 (.loop ZJ.l1)) (.seq (.region ZJ.r16) (.ret)))))))
def ZJ:Func:=⟨74,[.t 4,.t 5],ZJ.code⟩
/-! muntin/compass.Left -/
def Zat.r0:List Oper:=[
 oD 4 (.mv (.c (.n 0)))]
def Zat.r1:List Oper:=[
 oD 5 (.mv 0),
 oD 6 (.call (.c (.f 90 [])) [.t 5]),
 oD 7 (.un .not 6)]
def Zat.r2:List Oper:=[
 oD 4 (.mv (.c (.n 0)))]
def Zat.r3:List Oper:=[
 oD 8 (.mv 0),
 oD 9 (.mv 1),
 oD 10 (.bin .rem 9 (.c (.n 4))),
 oD 11 (.bin .add 8 10),
 oD 12 (.bin .add 11 (.c (.n 4))),
 oD 13 (.bin .rem 12 (.c (.n 4))),
 oD 4 (.mv 13)]
def Zat.code:Code:=.seq (.region Zat.r0) (.seq (.seq (.region Zat.r1) (.cond 7 (.seq (.region Zat.r2) (.ret)) (.skip))) (.seq (.region Zat.r3) (.ret)))
def Zat:Func:=⟨14,[.t 4],Zat.code⟩
/-! muntin/grid.side -/
def z3.r0:List Oper:=[
 oD 6 (.mv (.c (.n 0)))]
def z3.r1:List Oper:=[
 oD 10 (.mv 0),
 oD 11 (.mv 1),
 oD 12 (.mv 2),
 oD 13 (.ixa 8 10 11),
 oD 14 (.fa 0 13),
 oD 15 (.ixaa 1 4 14 12),
 oD 16 (.ld false 1 15),
 oD 17 (.mv 0),
 oD 18 (.mv 1),
 oD 19 (.mv 2),
 oD 20 (.ixa 8 17 18),
 oD 21 (.fa 4 20),
 oD 22 (.ixaa 1 4 21 19),
 oD 23 (.ld false 1 22),
 oD 7 (.mv 16),
 oD 8 (.mv 23)]
def z3.r2:List Oper:=[
 oD 24 (.mv 7),
 oD 25 (.eq false .sc 24 (.c (.n (-1))))]
def z3.r3:List Oper:=[
 oD 26 (.mv 8),
 oD 27 (.eq true .sc 26 (.c (.n 0)))]
def z3.r4:List Oper:=[
 oD 6 (.mv (.c (.n 9)))]
def z3.r5:List Oper:=[
 oD 6 (.mv (.c (.n 0)))]
def z3.r6:List Oper:=[
 oD 28 (.mv 7),
 oD 29 (.bin .lss 28 (.c (.n 0))),
 oD 30 (.mv 29),
 ⟨(some 31),.mv 7,(some (30,false))⟩,
 ⟨(some 32),.mv 0,(some (30,false))⟩,
 ⟨(some 33),.len 32,(some (30,false))⟩,
 ⟨(some 34),.bin .geq 31 33,(some (30,false))⟩,
 oD 35 (.pick 30 (.c (.b true)) 34),
 oD 36 (.mv 35),
 ⟨(some 37),.mv 7,(some (36,false))⟩,
 ⟨(some 38),.mv 1,(some (36,false))⟩,
 ⟨(some 39),.eq false .sc 37 38,(some (36,false))⟩,
 oD 40 (.pick 36 (.c (.b true)) 39)]
def z3.r7:List Oper:=[
 oD 6 (.mv (.c (.n 3)))]
def z3.r8:List Oper:=[
 oD 41 (.mv 2),
 oD 42 (.call (.c (.f 77 [])) [.t 41,.c (.n 2)]),
 oD 9 (.mv 42)]
def z3.r9:List Oper:=[
 oD 43 (.mv 0),
 oD 44 (.mv 7),
 oD 45 (.mv 9),
 oD 46 (.ixa 8 43 44),
 oD 47 (.fa 0 46),
 oD 48 (.ixaa 1 4 47 45),
 oD 49 (.ld false 1 48),
 oD 50 (.mv 1),
 oD 51 (.eq true .sc 49 50),
 oD 52 (.mv 51),
 ⟨(some 53),.mv 0,(some (52,false))⟩,
 ⟨(some 54),.mv 7,(some (52,false))⟩,
 ⟨(some 55),.mv 9,(some (52,false))⟩,
 ⟨(some 56),.ixa 8 53 54,(some (52,false))⟩,
 ⟨(some 57),.fa 4 56,(some (52,false))⟩,
 ⟨(some 58),.ixaa 1 4 57 55,(some (52,false))⟩,
 ⟨(some 59),.ld false 1 58,(some (52,false))⟩,
 ⟨(some 60),.mv 8,(some (52,false))⟩,
 ⟨(some 61),.eq true .sc 59 60,(some (52,false))⟩,
 oD 62 (.pick 52 (.c (.b true)) 61),
 oD 63 (.mv 62),
 ⟨(some 64),.mv 8,(some (63,false))⟩,
 ⟨(some 65),.bin .lss 64 (.c (.n (-2))),(some (63,false))⟩,
 oD 66 (.pick 63 (.c (.b true)) 65)]
def z3.r10:List Oper:=[
 oD 6 (.mv (.c (.n 9)))]
def z3.r11:List Oper:=[
 oD 6 (.mv (.c (.n 0)))]
def z3.code:Code:=.seq (.region z3.r0) (.seq (.draw z3.r1 [(6,13)]) (.seq (.seq (.region z3.r2) (.cond 25 (.seq (.seq (.region z3.r3) (.cond 27 (.seq (.region z3.r4) (.ret)) (.skip))) (.seq (.region z3.r5) (.ret))) (.skip))) (.seq (.seq (.region z3.r6) (.cond 40 (.seq (.region z3.r7) (.ret)) (.skip))) (.seq (.region z3.r8) (.seq (.seq (.region z3.r9) (.cond 66 (.seq (.region z3.r10) (.ret)) (.skip))) (.seq (.region z3.r11) (.ret)))))))
def z3:Func:=⟨67,[.t 6],z3.code⟩
/-! slices.Repeat[[]int,int] -/
def ZG.r0:List Oper:=[
 oD 4 (.mv (.c (.sn)))]
def ZG.r1:List Oper:=[
 oD 9 (.mv 1),
 oD 10 (.bin .lss 9 (.c (.n 0)))]
def ZG.r2:List Oper:=[
 oD 11 (.bad),
 oN (.bad)]
def ZG.r3:List Oper:=[
 oD 13 (.mv 0),
 oD 14 (.len 13),
 oD 15 (.conv .u64 14),
 oD 16 (.mv 1),
 oD 17 (.conv .u64 16),
 oD 18 (.call (.c (.f 89 [])) [.t 15,.t 17]),
 oD 12 (.mv 18),
 oD 19 (.ext 12 0),
 oD 20 (.ext 12 1),
 oD 5 (.mv 19),
 oD 6 (.mv 20)]
def ZG.r4:List Oper:=[
 oD 21 (.mv 5),
 oD 22 (.bin .gtr 21 (.c (.i .u64 0))),
 oD 23 (.mv 22),
 ⟨(some 24),.mv 6,(some (23,false))⟩,
 ⟨(some 25),.bin .gtr 24 (.c (.i .u64 9223372036854775807)),(some (23,false))⟩,
 oD 26 (.pick 23 (.c (.b true)) 25)]
def ZG.r5:List Oper:=[
 oD 27 (.bad),
 oN (.bad)]
def ZG.r6:List Oper:=[
 oD 28 (.mv 6),
 oD 29 (.conv .i64 28),
 oD 30 (.mks 1 8 [.n 0] 29 29),
 oD 7 (.mv 30)]
def ZG.r7:List Oper:=[
 oD 31 (.mv 7),
 oD 32 (.mv 0),
 oD 33 (.cpy 1 31 32),
 oD 8 (.mv 33)]
def ZG.r8:List Oper:=[
 oD 34 (.mv 8),
 oD 35 (.mv 7),
 oD 36 (.len 35),
 oD 37 (.bin .lss 34 36)]
def ZG.r9:List Oper:=[
 oD 38 (.mv 8),
 oD 39 (.mv 7),
 oD 40 (.mv 8),
 oD 41 (.slc 1 39 (some 40) none none),
 oD 42 (.mv 7),
 oD 43 (.mv 8),
 oD 44 (.slc 1 42 none (some 43) none),
 oD 45 (.cpy 1 41 44),
 oD 46 (.bin .add 38 45),
 oD 8 (.mv 46)]
def ZG.l0:Code:=.seq (.seq (.region ZG.r8) (.cond 37 (.skip) (.exit 0))) (.block 1 (.draw ZG.r9 []))
def ZG.r10:List Oper:=[
 oD 47 (.mv 7),
 oD 4 (.mv 47)]
def ZG.code:Code:=.seq (.region ZG.r0) (.seq (.seq (.region ZG.r1) (.cond 10 (.region ZG.r2) (.skip))) (.seq (.region ZG.r3) (.seq (.seq (.region ZG.r4) (.cond 26 (.region ZG.r5) (.skip))) (.seq (.region ZG.r6) (.seq (.region ZG.r7) (.seq (.block 0 (.loop ZG.l0)) (.seq (.region ZG.r10) (.ret))))))))
def ZG:Func:=⟨48,[.t 4],ZG.code⟩
/-! math/bits.Mul -/
def ZaJ.r0:List Oper:=[
 oD 4 (.mv (.c (.i .u64 0))),
 oD 5 (.mv (.c (.i .u64 0)))]
def ZaJ.r1:List Oper:=[
 oD 11 (.mv 0),
 oD 12 (.conv .u32 11),
 oD 13 (.mv 1),
 oD 14 (.conv .u32 13),
 oD 15 (.call (.c (.f 97 [])) [.t 12,.t 14]),
 oD 10 (.mv 15),
 oD 16 (.ext 10 0),
 oD 17 (.ext 10 1),
 oD 6 (.mv 16),
 oD 7 (.mv 17)]
def ZaJ.r2:List Oper:=[
 oD 18 (.mv 6),
 oD 19 (.conv .u64 18),
 oD 20 (.mv 7),
 oD 21 (.conv .u64 20),
 oD 4 (.mv 19),
 oD 5 (.mv 21)]
def ZaJ.r3:List Oper:=[
 oD 23 (.mv 0),
 oD 24 (.mv 1),
 oD 25 (.call (.c (.f 98 [])) [.t 23,.t 24]),
 oD 22 (.mv 25),
 oD 26 (.ext 22 0),
 oD 27 (.ext 22 1),
 oD 8 (.mv 26),
 oD 9 (.mv 27)]
def ZaJ.r4:List Oper:=[
 oD 28 (.mv 8),
 oD 29 (.mv 9),
 oD 4 (.mv 28),
 oD 5 (.mv 29)]
def ZaJ.code:Code:=.seq (.region ZaJ.r0) (.seq (.cond (.c (.b false)) (.seq (.region ZaJ.r1) (.seq (.region ZaJ.r2) (.ret))) (.skip)) (.seq (.region ZaJ.r3) (.seq (.region ZaJ.r4) (.ret))))
def ZaJ:Func:=⟨30,[.t 4,.t 5],ZaJ.code⟩
/-! muntin/compass.Good -/
def ZaO.r0:List Oper:=[
 oD 2 (.mv (.c (.b false)))]
def ZaO.r1:List Oper:=[
 oD 3 (.mv 0),
 oD 4 (.bin .geq 3 (.c (.n 0))),
 oD 5 (.mv 4),
 ⟨(some 6),.mv 0,(some (5,true))⟩,
 ⟨(some 7),.bin .leq 6 (.c (.n 3)),(some (5,true))⟩,
 oD 8 (.pick 5 7 (.c (.b false))),
 oD 2 (.mv 8)]
def ZaO.code:Code:=.seq (.region ZaO.r0) (.seq (.region ZaO.r1) (.ret))
def ZaO:Func:=⟨9,[.t 2],ZaO.code⟩
/-! math/bits.Mul32 -/
def ZaN.r0:List Oper:=[
 oD 4 (.mv (.c (.i .u32 0))),
 oD 5 (.mv (.c (.i .u32 0)))]
def ZaN.r1:List Oper:=[
 oD 7 (.mv 0),
 oD 8 (.conv .u64 7),
 oD 9 (.mv 1),
 oD 10 (.conv .u64 9),
 oD 11 (.bin .mul 8 10),
 oD 6 (.mv 11)]
def ZaN.r2:List Oper:=[
 oD 12 (.mv 6),
 oD 13 (.bin .shr 12 (.c (.i .u64 32))),
 oD 14 (.conv .u32 13),
 oD 15 (.mv 6),
 oD 16 (.conv .u32 15),
 oD 4 (.mv 14),
 oD 5 (.mv 16)]
def ZaN.code:Code:=.seq (.region ZaN.r0) (.seq (.region ZaN.r1) (.seq (.region ZaN.r2) (.ret)))
def ZaN:Func:=⟨17,[.t 4,.t 5],ZaN.code⟩
/-! math/bits.Mul64 -/
def zt.r0:List Oper:=[
 oD 4 (.mv (.c (.i .u64 0))),
 oD 5 (.mv (.c (.i .u64 0)))]
def zt.r1:List Oper:=[
 oD 14 (.mv 0),
 oD 15 (.bin .and 14 (.c (.i .u64 4294967295))),
 oD 6 (.mv 15)]
def zt.r2:List Oper:=[
 oD 16 (.mv 0),
 oD 17 (.bin .shr 16 (.c (.i .u64 32))),
 oD 7 (.mv 17)]
def zt.r3:List Oper:=[
 oD 18 (.mv 1),
 oD 19 (.bin .and 18 (.c (.i .u64 4294967295))),
 oD 8 (.mv 19)]
def zt.r4:List Oper:=[
 oD 20 (.mv 1),
 oD 21 (.bin .shr 20 (.c (.i .u64 32))),
 oD 9 (.mv 21)]
def zt.r5:List Oper:=[
 oD 22 (.mv 6),
 oD 23 (.mv 8),
 oD 24 (.bin .mul 22 23),
 oD 10 (.mv 24)]
def zt.r6:List Oper:=[
 oD 25 (.mv 7),
 oD 26 (.mv 8),
 oD 27 (.bin .mul 25 26),
 oD 28 (.mv 10),
 oD 29 (.bin .shr 28 (.c (.i .u64 32))),
 oD 30 (.bin .add 27 29),
 oD 11 (.mv 30)]
def zt.r7:List Oper:=[
 oD 31 (.mv 11),
 oD 32 (.bin .and 31 (.c (.i .u64 4294967295))),
 oD 12 (.mv 32)]
def zt.r8:List Oper:=[
 oD 33 (.mv 11),
 oD 34 (.bin .shr 33 (.c (.i .u64 32))),
 oD 13 (.mv 34)]
def zt.r9:List Oper:=[
 oD 35 (.mv 12),
 oD 36 (.mv 6),
 oD 37 (.mv 9),
 oD 38 (.bin .mul 36 37),
 oD 39 (.bin .add 35 38),
 oD 12 (.mv 39)]
def zt.r10:List Oper:=[
 oD 40 (.mv 7),
 oD 41 (.mv 9),
 oD 42 (.bin .mul 40 41),
 oD 43 (.mv 13),
 oD 44 (.bin .add 42 43),
 oD 45 (.mv 12),
 oD 46 (.bin .shr 45 (.c (.i .u64 32))),
 oD 47 (.bin .add 44 46),
 oD 4 (.mv 47)]
def zt.r11:List Oper:=[
 oD 48 (.mv 0),
 oD 49 (.mv 1),
 oD 50 (.bin .mul 48 49),
 oD 5 (.mv 50)]
def zt.code:Code:=.seq (.region zt.r0) (.seq (.region zt.r1) (.seq (.region zt.r2) (.seq (.region zt.r3) (.seq (.region zt.r4) (.seq (.region zt.r5) (.seq (.region zt.r6) (.seq (.region zt.r7) (.seq (.region zt.r8) (.seq (.region zt.r9) (.seq (.region zt.r10) (.seq (.region zt.r11) (.ret))))))))))))
def zt:Func:=⟨51,[.t 4,.t 5],zt.code⟩
/-! muntin/muntinlaw14.ValidEuler -/
def Zm.r0:List Oper:=[
 oD 2 (.box 0),
 oD 3 (.box 1),
 oD 4 (.mv (.c (.b false)))]
def Zm.r1:List Oper:=[
 oD 15 (.ld true 3 2),
 oD 16 (.call (.c (.f 28 [])) [.t 15,.c (.n 16)]),
 oD 14 (.mv 16),
 oD 17 (.ext 14 0),
 oD 18 (.ext 14 1),
 oD 5 (.mv 17),
 oD 6 (.mv 18)]
def Zm.r2:List Oper:=[
 oD 19 (.ld true 3 3),
 oD 20 (.call (.c (.f 171 [])) [.t 19,.c (.n 8)]),
 oD 7 (.alloc [.sn,.sn]),
 oN (.st 2 7 20)]
def Zm.r3:List Oper:=[
 oD 21 (.ld true 2 7),
 oD 22 (.call (.c (.f 174 [])) [.t 21]),
 oD 23 (.eq false .sc 22 (.c (.n 0)))]
def Zm.r4:List Oper:=[
 oD 24 (.ld true 2 7),
 oD 25 (.call (.c (.f 175 [])) [.t 24]),
 oD 26 (.fld false 0 1 25),
 oD 8 (.mv 26)]
def Zm.r5:List Oper:=[
 oD 27 (.mv 8),
 oD 28 (.call (.c (.f 176 [])) [.t 27]),
 oD 29 (.eq false .sc 28 (.c (.n 0)))]
def Zm.r6:List Oper:=[
 oD 30 (.mv 8),
 oD 5 (.mv 30)]
def Zm.r7:List Oper:=[
 oD 31 (.mv 5),
 oD 32 (.call (.c (.f 176 [])) [.t 31]),
 oD 33 (.eq true .sc 32 (.c (.n 0))),
 oD 34 (.mv 33),
 ⟨(some 35),.mv 5,(some (34,false))⟩,
 ⟨(some 36),.len 35,(some (34,false))⟩,
 ⟨(some 37),.bin .lss 36 (.c (.n 2)),(some (34,false))⟩,
 oD 38 (.pick 34 (.c (.b true)) 37)]
def Zm.r8:List Oper:=[
 oD 39 (.call (.c (.f 172 [])) []),
 oD 4 (.mv 39)]
def Zm.r9:List Oper:=[
 oD 9 (.mv (.c (.n 0)))]
def Zm.r10:List Oper:=[
 oD 40 (.mv 5),
 oD 41 (.len 40),
 oD 42 (.mv (.c (.n 0)))]
def Zm.r11:List Oper:=[
 oD 43 (.bin .lss 42 41)]
def Zm.r12:List Oper:=[
 oD 44 (.ixa 8 40 42),
 oD 45 (.ld true 8 44),
 oD 11 (.alloc [.n 0,.n 0,.n 0,.n 0,.n 0,.n 0,.n 0,.n 0]),
 oN (.st 8 11 45)]
def Zm.r13:List Oper:=[
 oD 46 (.fa 0 11),
 oD 47 (.ld true 4 46),
 oD 48 (.mv (.c (.n 0)))]
def Zm.r14:List Oper:=[
 oD 49 (.bin .lss 48 (.c (.n 4)))]
def Zm.r15:List Oper:=[
 oD 50 (.ix false 1 4 47 48),
 oD 13 (.mv 50)]
def Zm.r16:List Oper:=[
 oD 51 (.mv 13),
 oD 52 (.bin .geq 51 (.c (.n 0)))]
def Zm.r17:List Oper:=[
 oD 53 (.mv 9),
 oD 54 (.bin .add 53 (.c (.n 1))),
 oD 9 (.mv 54)]
def Zm.r18:List Oper:=[
 oD 55 (.bin .add 48 (.c (.n 1))),
 oD 48 (.mv 55)]
def Zm.l0:Code:=.seq (.region Zm.r14) (.seq (.cond 49 (.skip) (.exit 2)) (.seq (.block 3 (.seq (.region Zm.r15) (.seq (.region Zm.r16) (.cond 52 (.region Zm.r17) (.skip))))) (.region Zm.r18)))
def Zm.r19:List Oper:=[
 oD 56 (.bin .add 42 (.c (.n 1))),
 oD 42 (.mv 56)]
def Zm.l1:Code:=.seq (.region Zm.r11) (.seq (.cond 43 (.skip) (.exit 0)) (.seq (.block 1 (.seq (.region Zm.r12) (.seq (.region Zm.r13) (.block 2 (.loop Zm.l0))))) (.region Zm.r19)))
def Zm.r20:List Oper:=[
 oD 57 (.call (.c (.f 172 [])) []),
 oD 58 (.mv 57),
 ⟨(some 59),.mv 5,(some (58,true))⟩,
 ⟨(some 60),.call (.c (.f 177 [])) [.t 59],(some (58,true))⟩,
 ⟨(some 61),.len 60,(some (58,true))⟩,
 ⟨(some 62),.mv 5,(some (58,true))⟩,
 ⟨(some 63),.len 62,(some (58,true))⟩,
 ⟨(some 64),.bin .add 61 63,(some (58,true))⟩,
 ⟨(some 65),.mv 9,(some (58,true))⟩,
 ⟨(some 66),.bin .quo 65 (.c (.n 2)),(some (58,true))⟩,
 ⟨(some 67),.bin .add 66 (.c (.n 2)),(some (58,true))⟩,
 ⟨(some 68),.eq false .sc 64 67,(some (58,true))⟩,
 oD 69 (.pick 58 68 (.c (.b false))),
 oD 4 (.mv 69)]
def Zm.code:Code:=.seq (.region Zm.r0) (.seq (.region Zm.r1) (.seq (.region Zm.r2) (.seq (.seq (.region Zm.r3) (.cond 23 (.seq (.region Zm.r4) (.seq (.region Zm.r5) (.cond 29 (.region Zm.r6) (.skip)))) (.skip))) (.seq (.seq (.region Zm.r7) (.cond 38 (.seq (.region Zm.r8) (.ret)) (.skip))) (.seq (.region Zm.r9) (.seq (.seq (.region Zm.r10) (.block 0 (.loop Zm.l1))) (.seq (.region Zm.r20) (.ret))))))))
def Zm:Func:=⟨70,[.t 4],Zm.code⟩
/-! muntin/muntinref08.Make -/
def Zy.r0:List Oper:=[
 oD 2 (.box 0),
 oD 4 (.alloc [.sn,.sn])]
def Zy.r1:List Oper:=[
 oD 10 (.build [.sn,.sn] []),
 oD 5 (.alloc [.sn,.sn]),
 oN (.st 2 5 10)]
def Zy.r2:List Oper:=[
 oD 6 (.mv (.c (.n 0)))]
def Zy.r3:List Oper:=[
 oD 11 (.mv 6),
 oD 12 (.fa 0 2),
 oD 13 (.ld false 1 12),
 oD 14 (.len 13),
 oD 15 (.bin .lss 11 14),
 oD 16 (.mv 15),
 ⟨(some 17),.mv 6,(some (16,true))⟩,
 ⟨(some 18),.mv 1,(some (16,true))⟩,
 ⟨(some 19),.bin .lss 17 18,(some (16,true))⟩,
 oD 20 (.pick 16 19 (.c (.b false)))]
def Zy.r5:List Oper:=[
 oD 23 (.fa 0 5),
 oD 24 (.ld false 1 23),
 oD 25 (.fa 0 2),
 oD 26 (.ld false 1 25),
 oD 27 (.mv 6),
 oD 28 (.ixa 1 26 27),
 oD 29 (.ld false 1 28),
 oD 30 (.bsl 1 1 [.b false] [(0,1,.t 29)]),
 oD 31 (.app 1 1 24 30),
 oD 32 (.fa 0 5),
 oN (.st 1 32 31)]
def Zy.r4:List Oper:=[
 oD 21 (.mv 6),
 oD 22 (.bin .add 21 (.c (.n 1))),
 oD 6 (.mv 22)]
def Zy.l0:Code:=.seq (.seq (.region Zy.r3) (.cond 20 (.skip) (.exit 0))) (.seq (.block 1 (.draw Zy.r5 [(1,3),(1,6),(1,7)])) (.region Zy.r4))
def Zy.r6:List Oper:=[
 oD 7 (.mv (.c (.n 0)))]
def Zy.r7:List Oper:=[
 oD 33 (.mv 7),
 oD 34 (.fa 1 2),
 oD 35 (.ld false 1 34),
 oD 36 (.len 35),
 oD 37 (.bin .lss 33 36),
 oD 38 (.mv 37),
 ⟨(some 39),.mv 7,(some (38,true))⟩,
 ⟨(some 40),.mv 1,(some (38,true))⟩,
 ⟨(some 41),.bin .mul (.c (.n 2)) 40,(some (38,true))⟩,
 ⟨(some 42),.bin .lss 39 41,(some (38,true))⟩,
 oD 43 (.pick 38 42 (.c (.b false))),
 oD 44 (.mv 43),
 ⟨(some 45),.fa 0 5,(some (44,true))⟩,
 ⟨(some 46),.ld false 1 45,(some (44,true))⟩,
 ⟨(some 47),.len 46,(some (44,true))⟩,
 ⟨(some 48),.bin .gtr 47 (.c (.n 0)),(some (44,true))⟩,
 oD 49 (.pick 44 48 (.c (.b false)))]
def Zy.r9:List Oper:=[
 oD 52 (.fa 1 2),
 oD 53 (.ld false 1 52),
 oD 54 (.mv 7),
 oD 55 (.ixa 3 53 54),
 oD 56 (.ixaa 1 3 55 (.c (.n 0))),
 oD 57 (.ld false 1 56),
 oD 58 (.conv .i64 57),
 oD 59 (.fa 0 5),
 oD 60 (.ld false 1 59),
 oD 61 (.len 60),
 oD 62 (.bin .rem 58 61),
 oD 63 (.fa 1 2),
 oD 64 (.ld false 1 63),
 oD 65 (.mv 7),
 oD 66 (.ixa 3 64 65),
 oD 67 (.ixaa 1 3 66 (.c (.n 1))),
 oD 68 (.ld false 1 67),
 oD 69 (.conv .i64 68),
 oD 70 (.fa 0 5),
 oD 71 (.ld false 1 70),
 oD 72 (.len 71),
 oD 73 (.bin .rem 69 72),
 oD 74 (.fa 1 2),
 oD 75 (.ld false 1 74),
 oD 76 (.mv 7),
 oD 77 (.ixa 3 75 76),
 oD 78 (.ixaa 1 3 77 (.c (.n 2))),
 oD 79 (.ld false 1 78),
 oD 80 (.conv .i64 79),
 oD 81 (.bin .rem 80 (.c (.n 4))),
 oD 82 (.build [.n 0,.n 0,.n 0,.s ⟨#[]⟩] [(0,1,.t 62),(1,1,.t 73),(2,1,.t 81)]),
 oD 8 (.alloc [.n 0,.n 0,.n 0,.s ⟨#[]⟩]),
 oN (.st 4 8 82)]
def Zy.r10:List Oper:=[
 oD 83 (.mv 7),
 oD 84 (.fa 2 2),
 oD 85 (.ld false 1 84),
 oD 86 (.len 85),
 oD 87 (.bin .lss 83 86)]
def Zy.r11:List Oper:=[
 oD 9 (.mv (.c (.n 0)))]
def Zy.r12:List Oper:=[
 oD 88 (.mv 9),
 oD 89 (.fa 2 2),
 oD 90 (.ld false 1 89),
 oD 91 (.mv 7),
 oD 92 (.ixa 1 90 91),
 oD 93 (.ld false 1 92),
 oD 94 (.conv .i64 93),
 oD 95 (.bin .rem 94 (.c (.n 4))),
 oD 96 (.bin .lss 88 95)]
def Zy.r14:List Oper:=[
 oD 99 (.fa 2 2),
 oD 100 (.ld false 1 99),
 oD 101 (.mv 7),
 oD 102 (.ixa 1 100 101),
 oD 103 (.ld false 1 102),
 oD 104 (.mv 9),
 oD 105 (.bin .add (.c (.n 2)) 104),
 oD 106 (.bin .shr 103 105),
 oD 107 (.bin .and 106 (.c (.i .u8 1))),
 oD 108 (.eq false .sc 107 (.c (.i .u8 1)))]
def Zy.r15:List Oper:=[
 oD 109 (.fa 3 8),
 oD 110 (.ld false 1 109),
 oD 111 (.bin .add 110 (.c (.s ⟨#[76]⟩))),
 oD 112 (.fa 3 8),
 oN (.st 1 112 111)]
def Zy.r16:List Oper:=[
 oD 113 (.fa 3 8),
 oD 114 (.ld false 1 113),
 oD 115 (.bin .add 114 (.c (.s ⟨#[82]⟩))),
 oD 116 (.fa 3 8),
 oN (.st 1 116 115)]
def Zy.r13:List Oper:=[
 oD 97 (.mv 9),
 oD 98 (.bin .add 97 (.c (.n 1))),
 oD 9 (.mv 98)]
def Zy.l1:Code:=.seq (.seq (.region Zy.r12) (.cond 96 (.skip) (.exit 4))) (.seq (.block 5 (.seq (.region Zy.r14) (.cond 108 (.region Zy.r15) (.region Zy.r16)))) (.region Zy.r13))
def Zy.r17:List Oper:=[
 oD 117 (.fa 1 5),
 oD 118 (.ld false 1 117),
 oD 119 (.ld true 4 8),
 oD 120 (.bsl 4 1 [.n 0,.n 0,.n 0,.s ⟨#[]⟩] [(0,4,.t 119)]),
 oD 121 (.app 4 40 118 120),
 oD 122 (.fa 1 5),
 oN (.st 1 122 121)]
def Zy.r8:List Oper:=[
 oD 50 (.mv 7),
 oD 51 (.bin .add 50 (.c (.n 1))),
 oD 7 (.mv 51)]
def Zy.l2:Code:=.seq (.seq (.region Zy.r7) (.cond 49 (.skip) (.exit 2))) (.seq (.block 3 (.seq (.draw Zy.r9 [(1,8),(5,8),(1,12),(5,12),(8,12),(1,16),(5,16),(8,16),(1,19),(5,19),(8,19),(12,19),(16,19),(1,23),(5,23),(8,23),(12,23),(16,23),(19,23),(1,27),(5,27),(8,27),(12,27),(16,27),(19,27),(1,31),(5,31),(8,31),(12,31),(16,31),(19,31),(23,31),(27,31)]) (.seq (.seq (.region Zy.r10) (.cond 87 (.seq (.region Zy.r11) (.block 4 (.loop Zy.l1))) (.skip))) (.region Zy.r17)))) (.region Zy.r8))
def Zy.r18:List Oper:=[
 oD 123 (.ld true 2 5),
 oN (.st 2 4 123)]
def Zy.code:Code:=.seq (.region Zy.r0) (.seq (.region Zy.r1) (.seq (.seq (.region Zy.r2) (.block 0 (.loop Zy.l0))) (.seq (.seq (.region Zy.r6) (.block 2 (.loop Zy.l2))) (.seq (.region Zy.r18) (.ret)))))
def Zy:Func:=⟨124,[.cell 4 true 2],Zy.code⟩
/-! muntin/muntinlaw14.wakes -/
def zL.r0:List Oper:=[
 oD 0 (.mv (.c (.b false)))]
def zL.r1:List Oper:=[
 oD 6 (.call (.c (.f 196 [])) []),
 oD 7 (.call (.c (.f 195 [])) [.t 6]),
 oD 5 (.mv 7),
 oD 8 (.ext 5 0),
 oD 9 (.ext 5 1),
 oD 1 (.mv 8),
 oD 2 (.mv 9)]
def zL.r2:List Oper:=[
 oD 11 (.call (.c (.f 46 [])) [.c (.n 1)]),
 oD 12 (.call (.c (.f 195 [])) [.t 11]),
 oD 10 (.mv 12),
 oD 13 (.ext 10 0),
 oD 14 (.ext 10 1),
 oD 3 (.mv 13),
 oD 4 (.mv 14)]
def zL.r3:List Oper:=[
 oD 15 (.call (.c (.f 196 [])) []),
 oD 16 (.call (.c (.f 176 [])) [.t 15]),
 oD 17 (.eq false .sc 16 (.c (.n 0))),
 oD 18 (.mv 17),
 ⟨(some 19),.mv 1,(some (18,true))⟩,
 ⟨(some 20),.eq false .sc 19 (.c (.n 1)),(some (18,true))⟩,
 oD 21 (.pick 18 20 (.c (.b false))),
 oD 22 (.mv 21),
 ⟨(some 23),.mv 2,(some (22,true))⟩,
 ⟨(some 24),.eq false .sc 23 (.c (.n 0)),(some (22,true))⟩,
 oD 25 (.pick 22 24 (.c (.b false))),
 oD 26 (.mv 25),
 ⟨(some 27),.call (.c (.f 46 [])) [.c (.n 1)],(some (26,true))⟩,
 ⟨(some 28),.call (.c (.f 176 [])) [.t 27],(some (26,true))⟩,
 ⟨(some 29),.eq false .sc 28 (.c (.n 0)),(some (26,true))⟩,
 oD 30 (.pick 26 29 (.c (.b false))),
 oD 31 (.mv 30),
 ⟨(some 32),.mv 4,(some (31,true))⟩,
 ⟨(some 33),.eq false .sc 32 (.c (.n 2)),(some (31,true))⟩,
 oD 34 (.pick 31 33 (.c (.b false))),
 oD 35 (.mv 34),
 ⟨(some 36),.call (.c (.f 46 [])) [.c (.n 2)],(some (35,true))⟩,
 ⟨(some 37),.call (.c (.f 176 [])) [.t 36],(some (35,true))⟩,
 ⟨(some 38),.eq false .sc 37 (.c (.n 13)),(some (35,true))⟩,
 oD 39 (.pick 35 38 (.c (.b false))),
 oD 40 (.mv 39),
 ⟨(some 41),.call (.c (.f 176 [])) [.c (.sn)],(some (40,true))⟩,
 ⟨(some 42),.eq false .sc 41 (.c (.n 13)),(some (40,true))⟩,
 oD 43 (.pick 40 42 (.c (.b false))),
 oD 0 (.mv 43)]
def zL.code:Code:=.seq (.region zL.r0) (.seq (.region zL.r1) (.seq (.region zL.r2) (.seq (.region zL.r3) (.ret))))
def zL:Func:=⟨44,[.t 0],zL.code⟩
/-! muntin/muntinref11.Wrong -/
def Zq.r0:List Oper:=[
 oD 1 (.box 0),
 oD 2 (.mv (.c (.n 0)))]
def Zq.r1:List Oper:=[
 oD 10 (.ld true 2 1),
 oD 11 (.call (.c (.f 197 [])) [.t 10]),
 oD 3 (.mv 11)]
def Zq.r2:List Oper:=[
 oD 12 (.mv 3),
 oD 13 (.eq true .sc 12 (.c (.n 0)))]
def Zq.r3:List Oper:=[
 oD 14 (.mv 3),
 oD 2 (.mv 14)]
def Zq.r4:List Oper:=[
 oD 15 (.ld true 2 1),
 oD 16 (.call (.c (.f 198 [])) [.t 15]),
 oD 4 (.mv 16)]
def Zq.r5:List Oper:=[
 oD 17 (.mv 4),
 oD 18 (.bin .gtr 17 (.c (.n 4096)))]
def Zq.r6:List Oper:=[
 oD 2 (.mv (.c (.n 6)))]
def Zq.r7:List Oper:=[
 oD 5 (.mv (.c (.n 0)))]
def Zq.r8:List Oper:=[
 oD 19 (.mv 5),
 oD 20 (.fa 0 1),
 oD 21 (.ld false 1 20),
 oD 22 (.len 21),
 oD 23 (.bin .lss 19 22)]
def Zq.r10:List Oper:=[
 oD 6 (.mv (.c (.n 0)))]
def Zq.r11:List Oper:=[
 oD 26 (.mv 6),
 oD 27 (.bin .lss 26 (.c (.n 4))),
 oD 28 (.mv 27),
 ⟨(some 29),.fa 0 1,(some (28,true))⟩,
 ⟨(some 30),.ld false 1 29,(some (28,true))⟩,
 ⟨(some 31),.mv 5,(some (28,true))⟩,
 ⟨(some 32),.ixa 1 30 31,(some (28,true))⟩,
 ⟨(some 33),.ld false 1 32,(some (28,true))⟩,
 ⟨(some 34),.un .not 33,(some (28,true))⟩,
 oD 35 (.pick 28 34 (.c (.b false)))]
def Zq.r13:List Oper:=[
 oD 38 (.ld true 2 1),
 oD 39 (.mv 5),
 oD 40 (.mv 6),
 oD 41 (.call (.c (.f 199 [])) [.t 38,.t 39,.t 40]),
 oD 7 (.mv 41)]
def Zq.r14:List Oper:=[
 oD 42 (.mv 7),
 oD 43 (.len 42),
 oD 44 (.bin .gtr 43 (.c (.n 1)))]
def Zq.r15:List Oper:=[
 oD 2 (.mv (.c (.n 8)))]
def Zq.r12:List Oper:=[
 oD 36 (.mv 6),
 oD 37 (.bin .add 36 (.c (.n 1))),
 oD 6 (.mv 37)]
def Zq.l0:Code:=.seq (.seq (.region Zq.r11) (.cond 35 (.skip) (.exit 2))) (.seq (.block 3 (.seq (.region Zq.r13) (.seq (.region Zq.r14) (.cond 44 (.seq (.region Zq.r15) (.ret)) (.skip))))) (.region Zq.r12))
def Zq.r9:List Oper:=[
 oD 24 (.mv 5),
 oD 25 (.bin .add 24 (.c (.n 1))),
 oD 5 (.mv 25)]
def Zq.l1:Code:=.seq (.seq (.region Zq.r8) (.cond 23 (.skip) (.exit 0))) (.seq (.block 1 (.seq (.region Zq.r10) (.block 2 (.loop Zq.l0)))) (.region Zq.r9))
def Zq.r16:List Oper:=[
 oD 8 (.mv (.c (.n 0)))]
def Zq.r17:List Oper:=[
 oD 45 (.mv 8),
 oD 46 (.fa 1 1),
 oD 47 (.ld false 1 46),
 oD 48 (.len 47),
 oD 49 (.bin .lss 45 48)]
def Zq.r19:List Oper:=[
 oD 52 (.fa 1 1),
 oD 53 (.ld false 1 52),
 oD 54 (.mv 8),
 oD 55 (.ixa 4 53 54),
 oD 56 (.ld true 4 55),
 oD 9 (.alloc [.n 0,.n 0,.n 0,.s ⟨#[]⟩]),
 oN (.st 4 9 56)]
def Zq.r20:List Oper:=[
 oD 57 (.fa 0 9),
 oD 58 (.ld false 1 57),
 oD 59 (.fa 1 9),
 oD 60 (.ld false 1 59),
 oD 61 (.eq false .sc 58 60),
 oD 62 (.mv 61),
 ⟨(some 63),.fa 3 9,(some (62,true))⟩,
 ⟨(some 64),.ld false 1 63,(some (62,true))⟩,
 ⟨(some 65),.eq false .sc 64 (.c (.s ⟨#[]⟩)),(some (62,true))⟩,
 oD 66 (.pick 62 65 (.c (.b false))),
 oD 67 (.mv 66),
 ⟨(some 68),.fa 0 1,(some (67,true))⟩,
 ⟨(some 69),.ld false 1 68,(some (67,true))⟩,
 ⟨(some 70),.fa 0 9,(some (67,true))⟩,
 ⟨(some 71),.ld false 1 70,(some (67,true))⟩,
 ⟨(some 72),.ixa 1 69 71,(some (67,true))⟩,
 ⟨(some 73),.ld false 1 72,(some (67,true))⟩,
 ⟨(some 74),.un .not 73,(some (67,true))⟩,
 oD 75 (.pick 67 74 (.c (.b false)))]
def Zq.r21:List Oper:=[
 oD 2 (.mv (.c (.n 10)))]
def Zq.r18:List Oper:=[
 oD 50 (.mv 8),
 oD 51 (.bin .add 50 (.c (.n 1))),
 oD 8 (.mv 51)]
def Zq.l2:Code:=.seq (.seq (.region Zq.r17) (.cond 49 (.skip) (.exit 4))) (.seq (.block 5 (.seq (.region Zq.r19) (.seq (.region Zq.r20) (.cond 75 (.seq (.region Zq.r21) (.ret)) (.skip))))) (.region Zq.r18))
def Zq.r22:List Oper:=[
 oD 2 (.mv (.c (.n 0)))]
def Zq.code:Code:=.seq (.region Zq.r0) (.seq (.region Zq.r1) (.seq (.seq (.region Zq.r2) (.cond 13 (.seq (.region Zq.r3) (.ret)) (.skip))) (.seq (.region Zq.r4) (.seq (.seq (.region Zq.r5) (.cond 18 (.seq (.region Zq.r6) (.ret)) (.skip))) (.seq (.seq (.region Zq.r7) (.block 0 (.loop Zq.l1))) (.seq (.seq (.region Zq.r16) (.block 4 (.loop Zq.l2))) (.seq (.region Zq.r22) (.ret))))))))
def Zq:Func:=⟨76,[.t 2],Zq.code⟩
/-! muntin/muntinref11.Of -/
def Zh.r0:List Oper:=[
 oD 1 (.box 0),
 oD 2 (.alloc [.sn,.sn,.sn,.sn])]
def Zh.r1:List Oper:=[
 oD 17 (.fa 1 1),
 oD 18 (.ld false 1 17),
 oD 19 (.len 18),
 oD 20 (.mks 2 16 [.n 0,.n 0] 19 19),
 oD 21 (.build [.sn,.sn,.sn,.sn] [(2,1,.t 20)]),
 oD 3 (.alloc [.sn,.sn,.sn,.sn]),
 oN (.st 4 3 21)]
def Zh.r2:List Oper:=[
 oD 4 (.mv (.c (.n 0)))]
def Zh.r3:List Oper:=[
 oD 22 (.mv 4),
 oD 23 (.fa 0 1),
 oD 24 (.ld false 1 23),
 oD 25 (.len 24),
 oD 26 (.bin .lss 22 25)]
def Zh.r5:List Oper:=[
 oD 29 (.fa 0 3),
 oD 30 (.ld false 1 29),
 oD 31 (.len 30),
 oD 5 (.mv 31)]
def Zh.r6:List Oper:=[
 oD 32 (.fa 1 3),
 oD 33 (.ld false 1 32),
 oD 34 (.mv 5),
 oD 35 (.bsl 1 1 [.n 0] [(0,1,.t 34)]),
 oD 36 (.app 1 8 33 35),
 oD 37 (.fa 1 3),
 oN (.st 1 37 36)]
def Zh.r7:List Oper:=[
 oD 38 (.fa 0 1),
 oD 39 (.ld false 1 38),
 oD 40 (.mv 4),
 oD 41 (.ixa 1 39 40),
 oD 42 (.ld false 1 41)]
def Zh.r8:List Oper:=[
 oD 43 (.ld true 4 3),
 oD 44 (.ld true 2 1),
 oD 45 (.mv 4),
 oD 46 (.call (.c (.f 200 [])) [.t 43,.t 44,.t 45]),
 oN (.st 4 3 46)]
def Zh.r9:List Oper:=[
 oD 47 (.call (.c (.f 46 [])) [.c (.n 1)]),
 oD 6 (.mv 47)]
def Zh.r10:List Oper:=[
 oD 48 (.fa 0 3),
 oD 49 (.ld false 1 48),
 oD 50 (.mv 6),
 oD 51 (.app 8 64 49 50),
 oD 52 (.fa 0 3),
 oN (.st 1 52 51)]
def Zh.r11:List Oper:=[
 oD 7 (.mv (.c (.n 0)))]
def Zh.r12:List Oper:=[
 oD 53 (.mv 7),
 oD 54 (.bin .lss 53 (.c (.n 4)))]
def Zh.r14:List Oper:=[
 oD 57 (.ld true 2 1),
 oD 58 (.mv 4),
 oD 59 (.mv 7),
 oD 60 (.call (.c (.f 199 [])) [.t 57,.t 58,.t 59]),
 oD 8 (.mv 60)]
def Zh.r15:List Oper:=[
 oD 9 (.mv (.c (.n 0)))]
def Zh.r16:List Oper:=[
 oD 61 (.mv 9),
 oD 62 (.mv 8),
 oD 63 (.len 62),
 oD 64 (.bin .lss 61 63)]
def Zh.r18:List Oper:=[
 oD 67 (.fa 2 3),
 oD 68 (.ld false 1 67),
 oD 69 (.mv 8),
 oD 70 (.mv 9),
 oD 71 (.ixa 1 69 70),
 oD 72 (.ld false 1 71),
 oD 73 (.bin .quo 72 (.c (.n 2))),
 oD 74 (.mv 8),
 oD 75 (.mv 9),
 oD 76 (.ixa 1 74 75),
 oD 77 (.ld false 1 76),
 oD 78 (.bin .rem 77 (.c (.n 2))),
 oD 79 (.mv 5),
 oD 80 (.ixa 2 68 73),
 oD 81 (.ixaa 1 2 80 78),
 oN (.st 1 81 79)]
def Zh.r17:List Oper:=[
 oD 65 (.mv 9),
 oD 66 (.bin .add 65 (.c (.n 1))),
 oD 9 (.mv 66)]
def Zh.l0:Code:=.seq (.seq (.region Zh.r16) (.cond 64 (.skip) (.exit 4))) (.seq (.block 5 (.draw Zh.r18 [(1,5),(1,10),(5,10)])) (.region Zh.r17))
def Zh.r13:List Oper:=[
 oD 55 (.mv 7),
 oD 56 (.bin .add 55 (.c (.n 1))),
 oD 7 (.mv 56)]
def Zh.l1:Code:=.seq (.seq (.region Zh.r12) (.cond 54 (.skip) (.exit 2))) (.seq (.block 3 (.seq (.region Zh.r14) (.seq (.region Zh.r15) (.block 4 (.loop Zh.l0))))) (.region Zh.r13))
def Zh.r4:List Oper:=[
 oD 27 (.mv 4),
 oD 28 (.bin .add 27 (.c (.n 1))),
 oD 4 (.mv 28)]
def Zh.l2:Code:=.seq (.seq (.region Zh.r3) (.cond 26 (.skip) (.exit 0))) (.seq (.block 1 (.seq (.region Zh.r5) (.seq (.region Zh.r6) (.seq (.seq (.region Zh.r7) (.cond 42 (.seq (.region Zh.r8) (.exit 1)) (.skip))) (.seq (.region Zh.r9) (.seq (.region Zh.r10) (.seq (.region Zh.r11) (.block 2 (.loop Zh.l1))))))))) (.region Zh.r4))
def Zh.r19:List Oper:=[
 oD 10 (.mv (.c (.n 0)))]
def Zh.r20:List Oper:=[
 oD 82 (.mv 10),
 oD 83 (.fa 1 1),
 oD 84 (.ld false 1 83),
 oD 85 (.len 84),
 oD 86 (.bin .lss 82 85)]
def Zh.r22:List Oper:=[
 oD 89 (.fa 2 3),
 oD 90 (.ld false 1 89),
 oD 91 (.mv 10),
 oD 92 (.ixa 2 90 91),
 oD 93 (.ixaa 1 2 92 (.c (.n 0))),
 oD 94 (.ld false 1 93),
 oD 11 (.mv 94)]
def Zh.r23:List Oper:=[
 oD 95 (.fa 1 1),
 oD 96 (.ld false 1 95),
 oD 97 (.mv 10),
 oD 98 (.ixa 4 96 97),
 oD 99 (.fa 2 98),
 oD 100 (.ld false 1 99),
 oD 12 (.mv 100)]
def Zh.r24:List Oper:=[
 oD 101 (.mv 11),
 oD 102 (.bsl 1 1 [.n 0] [(0,1,.t 101)]),
 oD 13 (.mv 102)]
def Zh.r25:List Oper:=[
 oD 14 (.mv (.c (.n 0)))]
def Zh.r26:List Oper:=[
 oD 103 (.mv 14),
 oD 104 (.fa 1 1),
 oD 105 (.ld false 1 104),
 oD 106 (.mv 10),
 oD 107 (.ixa 4 105 106),
 oD 108 (.fa 3 107),
 oD 109 (.ld false 1 108),
 oD 110 (.slen 109),
 oD 111 (.bin .lss 103 110)]
def Zh.r28:List Oper:=[
 oD 114 (.fa 0 3),
 oD 115 (.ld false 1 114),
 oD 116 (.len 115),
 oD 15 (.mv 116)]
def Zh.r29:List Oper:=[
 oD 117 (.call (.c (.f 46 [])) [.c (.n 1)]),
 oD 16 (.mv 117)]
def Zh.r30:List Oper:=[
 oD 118 (.fa 0 3),
 oD 119 (.ld false 1 118),
 oD 120 (.mv 16),
 oD 121 (.app 8 64 119 120),
 oD 122 (.fa 0 3),
 oN (.st 1 122 121)]
def Zh.r31:List Oper:=[
 oD 124 (.fa 0 3),
 oD 125 (.ld false 1 124),
 oD 126 (.mv 11),
 oD 127 (.mv 12),
 oD 128 (.mv 15),
 oD 129 (.mv 10),
 oD 130 (.call (.c (.f 53 [])) [.t 125,.t 126,.t 127,.t 128,.t 129]),
 oD 123 (.mv 130),
 oD 131 (.ext 123 0),
 oD 132 (.ext 123 1),
 oD 133 (.fa 0 3),
 oN (.st 1 133 131)]
def Zh.r32:List Oper:=[
 oD 134 (.mv 15),
 oD 11 (.mv 134)]
def Zh.r33:List Oper:=[
 oD 135 (.mv 13),
 oD 136 (.mv 15),
 oD 137 (.bsl 1 1 [.n 0] [(0,1,.t 136)]),
 oD 138 (.app 1 8 135 137),
 oD 13 (.mv 138)]
def Zh.r34:List Oper:=[
 oD 139 (.fa 1 1),
 oD 140 (.ld false 1 139),
 oD 141 (.mv 10),
 oD 142 (.ixa 4 140 141),
 oD 143 (.fa 3 142),
 oD 144 (.ld false 1 143),
 oD 145 (.mv 14),
 oD 146 (.ixs 144 145),
 oD 147 (.eq false .sc 146 (.c (.i .u8 76)))]
def Zh.r35:List Oper:=[
 oD 148 (.mv 12),
 oD 149 (.bin .add 148 (.c (.n 1))),
 oD 150 (.bin .rem 149 (.c (.n 4))),
 oD 12 (.mv 150)]
def Zh.r36:List Oper:=[
 oD 151 (.mv 12),
 oD 152 (.bin .add 151 (.c (.n 3))),
 oD 153 (.bin .rem 152 (.c (.n 4))),
 oD 12 (.mv 153)]
def Zh.r27:List Oper:=[
 oD 112 (.mv 14),
 oD 113 (.bin .add 112 (.c (.n 1))),
 oD 14 (.mv 113)]
def Zh.l3:Code:=.seq (.seq (.region Zh.r26) (.cond 111 (.skip) (.exit 8))) (.seq (.block 9 (.seq (.region Zh.r28) (.seq (.region Zh.r29) (.seq (.region Zh.r30) (.seq (.region Zh.r31) (.seq (.region Zh.r32) (.seq (.region Zh.r33) (.seq (.region Zh.r34) (.cond 147 (.region Zh.r35) (.region Zh.r36)))))))))) (.region Zh.r27))
def Zh.r37:List Oper:=[
 oD 155 (.fa 0 3),
 oD 156 (.ld false 1 155),
 oD 157 (.mv 11),
 oD 158 (.mv 12),
 oD 159 (.fa 2 3),
 oD 160 (.ld false 1 159),
 oD 161 (.mv 10),
 oD 162 (.ixa 2 160 161),
 oD 163 (.ixaa 1 2 162 (.c (.n 1))),
 oD 164 (.ld false 1 163),
 oD 165 (.mv 10),
 oD 166 (.call (.c (.f 53 [])) [.t 156,.t 157,.t 158,.t 164,.t 165]),
 oD 154 (.mv 166),
 oD 167 (.ext 154 0),
 oD 168 (.ext 154 1),
 oD 169 (.fa 0 3),
 oN (.st 1 169 167)]
def Zh.r38:List Oper:=[
 oD 170 (.mv 13),
 oD 171 (.fa 2 3),
 oD 172 (.ld false 1 171),
 oD 173 (.mv 10),
 oD 174 (.ixa 2 172 173),
 oD 175 (.ixaa 1 2 174 (.c (.n 1))),
 oD 176 (.ld false 1 175),
 oD 177 (.bsl 1 1 [.n 0] [(0,1,.t 176)]),
 oD 178 (.app 1 8 170 177),
 oD 13 (.mv 178)]
def Zh.r39:List Oper:=[
 oD 179 (.fa 3 3),
 oD 180 (.ld false 1 179),
 oD 181 (.mv 13),
 oD 182 (.bsl 1 1 [.sn] [(0,1,.t 181)]),
 oD 183 (.app 1 24 180 182),
 oD 184 (.fa 3 3),
 oN (.st 1 184 183)]
def Zh.r21:List Oper:=[
 oD 87 (.mv 10),
 oD 88 (.bin .add 87 (.c (.n 1))),
 oD 10 (.mv 88)]
def Zh.l4:Code:=.seq (.seq (.region Zh.r20) (.cond 86 (.skip) (.exit 6))) (.seq (.block 7 (.seq (.region Zh.r22) (.seq (.region Zh.r23) (.seq (.region Zh.r24) (.seq (.seq (.region Zh.r25) (.block 8 (.loop Zh.l3))) (.seq (.draw Zh.r37 [(1,5),(1,9)]) (.seq (.region Zh.r38) (.region Zh.r39)))))))) (.region Zh.r21))
def Zh.r40:List Oper:=[
 oD 185 (.ld true 4 3),
 oN (.st 4 2 185)]
def Zh.code:Code:=.seq (.region Zh.r0) (.seq (.region Zh.r1) (.seq (.seq (.region Zh.r2) (.block 0 (.loop Zh.l2))) (.seq (.seq (.region Zh.r19) (.block 6 (.loop Zh.l4))) (.seq (.region Zh.r40) (.ret)))))
def Zh:Func:=⟨186,[.cell 2 true 4],Zh.code⟩
/-! muntin/valid.Check -/
def z2.r0:List Oper:=[
 oD 2 (.mv (.c (.n 0)))]
def z2.r1:List Oper:=[
 oD 6 (.mv 0),
 oD 7 (.call (.c (.f 66 [])) [.t 6]),
 oD 3 (.mv 7)]
def z2.r2:List Oper:=[
 oD 8 (.mv 3),
 oD 9 (.eq true .sc 8 (.c (.n 0)))]
def z2.r3:List Oper:=[
 oD 10 (.mv 3),
 oD 2 (.mv 10)]
def z2.r4:List Oper:=[
 oD 11 (.mv 0),
 oD 12 (.call (.c (.f 32 [])) [.t 11]),
 oD 13 (.un .not 12)]
def z2.r5:List Oper:=[
 oD 2 (.mv (.c (.n 13)))]
def z2.r6:List Oper:=[
 oD 15 (.mv 0),
 oD 16 (.call (.c (.f 201 [])) [.t 15]),
 oD 14 (.mv 16),
 oD 17 (.ext 14 0),
 oD 18 (.ext 14 1),
 oD 4 (.mv 17),
 oD 5 (.mv 18)]
def z2.r7:List Oper:=[
 oD 19 (.mv 5),
 oD 20 (.un .not 19),
 oD 21 (.mv 20),
 ⟨(some 22),.mv 0,(some (21,true))⟩,
 ⟨(some 23),.len 22,(some (21,true))⟩,
 ⟨(some 24),.bin .gtr 23 (.c (.n 1)),(some (21,true))⟩,
 oD 25 (.pick 21 24 (.c (.b false)))]
def z2.r8:List Oper:=[
 oD 2 (.mv (.c (.n 10)))]
def z2.r9:List Oper:=[
 oD 2 (.mv (.c (.n 0)))]
def z2.code:Code:=.seq (.region z2.r0) (.seq (.seq (.region z2.r1) (.seq (.region z2.r2) (.cond 9 (.seq (.region z2.r3) (.ret)) (.skip)))) (.seq (.seq (.region z2.r4) (.cond 13 (.seq (.region z2.r5) (.ret)) (.skip))) (.seq (.seq (.region z2.r6) (.seq (.region z2.r7) (.cond 25 (.seq (.region z2.r8) (.ret)) (.skip)))) (.seq (.region z2.r9) (.ret)))))
def z2:Func:=⟨26,[.t 2],z2.code⟩
/-! muntin/muntinref12.Faces -/
def Zv.r0:List Oper:=[
 oD 2 (.mv (.c (.sn)))]
def Zv.r1:List Oper:=[
 oD 9 (.mv 0),
 oD 10 (.len 9),
 oD 11 (.bin .mul (.c (.n 4)) 10),
 oD 12 (.mks 1 1 [.b false] 11 11),
 oD 3 (.mv 12)]
def Zv.r2:List Oper:=[
 oD 4 (.mv (.c (.sn)))]
def Zv.r3:List Oper:=[
 oD 5 (.mv (.c (.n 0)))]
def Zv.r4:List Oper:=[
 oD 13 (.mv 5),
 oD 14 (.mv 0),
 oD 15 (.len 14),
 oD 16 (.bin .lss 13 15)]
def Zv.r6:List Oper:=[
 oD 6 (.mv (.c (.n 0)))]
def Zv.r7:List Oper:=[
 oD 19 (.mv 6),
 oD 20 (.bin .lss 19 (.c (.n 4)))]
def Zv.r9:List Oper:=[
 oD 23 (.mv 0),
 oD 24 (.mv 5),
 oD 25 (.mv 6),
 oD 26 (.ixa 8 23 24),
 oD 27 (.fa 0 26),
 oD 28 (.ixaa 1 4 27 25),
 oD 29 (.ld false 1 28),
 oD 30 (.bin .lss 29 (.c (.n 0))),
 oD 31 (.mv 30),
 ⟨(some 32),.mv 3,(some (31,false))⟩,
 ⟨(some 33),.mv 5,(some (31,false))⟩,
 ⟨(some 34),.bin .mul (.c (.n 4)) 33,(some (31,false))⟩,
 ⟨(some 35),.mv 6,(some (31,false))⟩,
 ⟨(some 36),.bin .add 34 35,(some (31,false))⟩,
 ⟨(some 37),.ixa 1 32 36,(some (31,false))⟩,
 ⟨(some 38),.ld false 1 37,(some (31,false))⟩,
 oD 39 (.pick 31 (.c (.b true)) 38)]
def Zv.r10:List Oper:=[
 oD 7 (.mv (.c (.sn)))]
def Zv.r11:List Oper:=[
 oD 40 (.mv 5),
 oD 41 (.mv 6),
 oD 42 (.build [.n 0,.n 0] [(0,1,.t 40),(1,1,.t 41)]),
 oD 8 (.alloc [.n 0,.n 0]),
 oN (.st 2 8 42)]
def Zv.r12:List Oper:=[
 oD 43 (.mv 3),
 oD 44 (.fa 0 8),
 oD 45 (.ld false 1 44),
 oD 46 (.bin .mul (.c (.n 4)) 45),
 oD 47 (.fa 1 8),
 oD 48 (.ld false 1 47),
 oD 49 (.bin .add 46 48),
 oD 50 (.ixa 1 43 49),
 oD 51 (.ld false 1 50),
 oD 52 (.un .not 51)]
def Zv.r13:List Oper:=[
 oD 53 (.mv 3),
 oD 54 (.fa 0 8),
 oD 55 (.ld false 1 54),
 oD 56 (.bin .mul (.c (.n 4)) 55),
 oD 57 (.fa 1 8),
 oD 58 (.ld false 1 57),
 oD 59 (.bin .add 56 58),
 oD 60 (.ixa 1 53 59),
 oN (.st 1 60 (.c (.b true)))]
def Zv.r14:List Oper:=[
 oD 61 (.mv 7),
 oD 62 (.ld true 2 8),
 oD 63 (.bsl 2 1 [.n 0,.n 0] [(0,2,.t 62)]),
 oD 64 (.app 2 16 61 63),
 oD 7 (.mv 64)]
def Zv.r15:List Oper:=[
 oD 65 (.mv 0),
 oD 66 (.ld true 2 8),
 oD 67 (.call (.c (.f 202 [])) [.t 65,.t 66]),
 oN (.st 2 8 67)]
def Zv.l0:Code:=.seq (.seq (.region Zv.r12) (.cond 52 (.skip) (.exit 4))) (.block 5 (.seq (.region Zv.r13) (.seq (.region Zv.r14) (.region Zv.r15))))
def Zv.r16:List Oper:=[
 oD 68 (.mv 4),
 oD 69 (.mv 7),
 oD 70 (.bsl 1 1 [.sn] [(0,1,.t 69)]),
 oD 71 (.app 1 24 68 70),
 oD 4 (.mv 71)]
def Zv.r8:List Oper:=[
 oD 21 (.mv 6),
 oD 22 (.bin .add 21 (.c (.n 1))),
 oD 6 (.mv 22)]
def Zv.l1:Code:=.seq (.seq (.region Zv.r7) (.cond 20 (.skip) (.exit 2))) (.seq (.block 3 (.seq (.seq (.region Zv.r9) (.cond 39 (.exit 3) (.skip))) (.seq (.region Zv.r10) (.seq (.region Zv.r11) (.seq (.block 4 (.loop Zv.l0)) (.region Zv.r16)))))) (.region Zv.r8))
def Zv.r5:List Oper:=[
 oD 17 (.mv 5),
 oD 18 (.bin .add 17 (.c (.n 1))),
 oD 5 (.mv 18)]
def Zv.l2:Code:=.seq (.seq (.region Zv.r4) (.cond 16 (.skip) (.exit 0))) (.seq (.block 1 (.seq (.region Zv.r6) (.block 2 (.loop Zv.l1)))) (.region Zv.r5))
def Zv.r17:List Oper:=[
 oD 72 (.mv 4),
 oD 2 (.mv 72)]
def Zv.code:Code:=.seq (.region Zv.r0) (.seq (.region Zv.r1) (.seq (.region Zv.r2) (.seq (.seq (.region Zv.r3) (.block 0 (.loop Zv.l2))) (.seq (.region Zv.r17) (.ret)))))
def Zv:Func:=⟨73,[.t 2],Zv.code⟩
/-! muntin/valid.Outer -/
def zI.r0:List Oper:=[
 oD 2 (.mv (.c (.n 0))),
 oD 3 (.mv (.c (.n 0)))]
def zI.r1:List Oper:=[
 oD 7 (.mv 0),
 oD 8 (.call (.c (.f 176 [])) [.t 7]),
 oD 4 (.mv 8)]
def zI.r2:List Oper:=[
 oD 9 (.mv 4),
 oD 10 (.eq true .sc 9 (.c (.n 0)))]
def zI.r3:List Oper:=[
 oD 11 (.mv 4),
 oD 2 (.mv (.c (.n 0))),
 oD 3 (.mv 11)]
def zI.r4:List Oper:=[
 oD 13 (.mv 0),
 oD 14 (.call (.c (.f 201 [])) [.t 13]),
 oD 12 (.mv 14),
 oD 15 (.ext 12 0),
 oD 16 (.ext 12 1),
 oD 5 (.mv 15),
 oD 6 (.mv 16)]
def zI.r5:List Oper:=[
 oD 17 (.mv 6),
 oD 18 (.un .not 17)]
def zI.r6:List Oper:=[
 oD 2 (.mv (.c (.n 0))),
 oD 3 (.mv (.c (.n 2)))]
def zI.r7:List Oper:=[
 oD 19 (.mv 5),
 oD 2 (.mv 19),
 oD 3 (.mv (.c (.n 0)))]
def zI.code:Code:=.seq (.region zI.r0) (.seq (.seq (.region zI.r1) (.seq (.region zI.r2) (.cond 10 (.seq (.region zI.r3) (.ret)) (.skip)))) (.seq (.region zI.r4) (.seq (.seq (.region zI.r5) (.cond 18 (.seq (.region zI.r6) (.ret)) (.skip))) (.seq (.region zI.r7) (.ret)))))
def zI:Func:=⟨20,[.t 2,.t 3],zI.code⟩
/-! muntin/muntinlaw14.square -/
def zf.r0:List Oper:=[
 oD 0 (.mv (.c (.sn)))]
def zf.r1:List Oper:=[
 oD 2 (.call (.c (.f 46 [])) [.c (.n 4)]),
 oD 1 (.mv 2)]
def zf.r2:List Oper:=[
 oD 4 (.mv 1),
 oD 5 (.call (.c (.f 53 [])) [.t 4,.c (.n 0),.c (.n 0),.c (.n 1),.c (.n 0)]),
 oD 3 (.mv 5),
 oD 6 (.ext 3 0),
 oD 7 (.ext 3 1),
 oD 1 (.mv 6)]
def zf.r3:List Oper:=[
 oD 9 (.mv 1),
 oD 10 (.call (.c (.f 53 [])) [.t 9,.c (.n 1),.c (.n 1),.c (.n 2),.c (.n 0)]),
 oD 8 (.mv 10),
 oD 11 (.ext 8 0),
 oD 12 (.ext 8 1),
 oD 1 (.mv 11)]
def zf.r4:List Oper:=[
 oD 14 (.mv 1),
 oD 15 (.call (.c (.f 53 [])) [.t 14,.c (.n 2),.c (.n 2),.c (.n 3),.c (.n 0)]),
 oD 13 (.mv 15),
 oD 16 (.ext 13 0),
 oD 17 (.ext 13 1),
 oD 1 (.mv 16)]
def zf.r5:List Oper:=[
 oD 19 (.mv 1),
 oD 20 (.call (.c (.f 53 [])) [.t 19,.c (.n 3),.c (.n 3),.c (.n 0),.c (.n 0)]),
 oD 18 (.mv 20),
 oD 21 (.ext 18 0),
 oD 22 (.ext 18 1),
 oD 1 (.mv 21)]
def zf.r6:List Oper:=[
 oD 23 (.mv 1),
 oD 0 (.mv 23)]
def zf.code:Code:=.seq (.region zf.r0) (.seq (.region zf.r1) (.seq (.region zf.r2) (.seq (.region zf.r3) (.seq (.region zf.r4) (.seq (.region zf.r5) (.seq (.region zf.r6) (.ret)))))))
def zf:Func:=⟨24,[.t 0],zf.code⟩
/-! muntin/muntinref08.Check -/
def Z1.r0:List Oper:=[
 oD 1 (.box 0),
 oD 2 (.mv (.c (.n 0)))]
def Z1.r1:List Oper:=[
 oD 3 (.mv (.c (.n 0)))]
def Z1.r2:List Oper:=[
 oD 4 (.mv (.c (.n 0)))]
def Z1.r3:List Oper:=[
 oD 8 (.mv 4),
 oD 9 (.fa 1 1),
 oD 10 (.ld false 1 9),
 oD 11 (.len 10),
 oD 12 (.bin .lss 8 11)]
def Z1.r5:List Oper:=[
 oD 15 (.mv 3),
 oD 16 (.fa 1 1),
 oD 17 (.ld false 1 16),
 oD 18 (.mv 4),
 oD 19 (.ixa 4 17 18),
 oD 20 (.fa 3 19),
 oD 21 (.ld false 1 20),
 oD 22 (.slen 21),
 oD 23 (.bin .add 15 22),
 oD 3 (.mv 23)]
def Z1.r4:List Oper:=[
 oD 13 (.mv 4),
 oD 14 (.bin .add 13 (.c (.n 1))),
 oD 4 (.mv 14)]
def Z1.l0:Code:=.seq (.seq (.region Z1.r3) (.cond 12 (.skip) (.exit 0))) (.seq (.block 1 (.region Z1.r5)) (.region Z1.r4))
def Z1.r6:List Oper:=[
 oD 24 (.fa 0 1),
 oD 25 (.ld false 1 24),
 oD 26 (.len 25),
 oD 27 (.bin .gtr 26 (.c (.n 4096))),
 oD 28 (.mv 27),
 ⟨(some 29),.fa 1 1,(some (28,false))⟩,
 ⟨(some 30),.ld false 1 29,(some (28,false))⟩,
 ⟨(some 31),.len 30,(some (28,false))⟩,
 ⟨(some 32),.bin .gtr 31 (.c (.n 4096)),(some (28,false))⟩,
 oD 33 (.pick 28 (.c (.b true)) 32),
 oD 34 (.mv 33),
 ⟨(some 35),.mv 3,(some (34,false))⟩,
 ⟨(some 36),.bin .gtr 35 (.c (.n 4096)),(some (34,false))⟩,
 oD 37 (.pick 34 (.c (.b true)) 36)]
def Z1.r7:List Oper:=[
 oD 2 (.mv (.c (.n 6)))]
def Z1.r8:List Oper:=[
 oD 5 (.mv (.c (.n 0)))]
def Z1.r9:List Oper:=[
 oD 38 (.mv 5),
 oD 39 (.fa 1 1),
 oD 40 (.ld false 1 39),
 oD 41 (.len 40),
 oD 42 (.bin .lss 38 41)]
def Z1.r11:List Oper:=[
 oD 45 (.fa 1 1),
 oD 46 (.ld false 1 45),
 oD 47 (.mv 5),
 oD 48 (.ixa 4 46 47),
 oD 49 (.ld true 4 48),
 oD 6 (.alloc [.n 0,.n 0,.n 0,.s ⟨#[]⟩]),
 oN (.st 4 6 49)]
def Z1.r12:List Oper:=[
 oD 50 (.fa 0 6),
 oD 51 (.ld false 1 50),
 oD 52 (.bin .lss 51 (.c (.n 0))),
 oD 53 (.mv 52),
 ⟨(some 54),.fa 0 6,(some (53,false))⟩,
 ⟨(some 55),.ld false 1 54,(some (53,false))⟩,
 ⟨(some 56),.fa 0 1,(some (53,false))⟩,
 ⟨(some 57),.ld false 1 56,(some (53,false))⟩,
 ⟨(some 58),.len 57,(some (53,false))⟩,
 ⟨(some 59),.bin .geq 55 58,(some (53,false))⟩,
 oD 60 (.pick 53 (.c (.b true)) 59),
 oD 61 (.mv 60),
 ⟨(some 62),.fa 1 6,(some (61,false))⟩,
 ⟨(some 63),.ld false 1 62,(some (61,false))⟩,
 ⟨(some 64),.bin .lss 63 (.c (.n 0)),(some (61,false))⟩,
 oD 65 (.pick 61 (.c (.b true)) 64),
 oD 66 (.mv 65),
 ⟨(some 67),.fa 1 6,(some (66,false))⟩,
 ⟨(some 68),.ld false 1 67,(some (66,false))⟩,
 ⟨(some 69),.fa 0 1,(some (66,false))⟩,
 ⟨(some 70),.ld false 1 69,(some (66,false))⟩,
 ⟨(some 71),.len 70,(some (66,false))⟩,
 ⟨(some 72),.bin .geq 68 71,(some (66,false))⟩,
 oD 73 (.pick 66 (.c (.b true)) 72)]
def Z1.r13:List Oper:=[
 oD 2 (.mv (.c (.n 3)))]
def Z1.r14:List Oper:=[
 oD 74 (.fa 3 6),
 oD 75 (.ld false 1 74),
 oD 76 (.call (.c (.f 217 [])) [.t 75]),
 oD 7 (.mv 76)]
def Z1.r15:List Oper:=[
 oD 77 (.fa 2 6),
 oD 78 (.ld false 1 77),
 oD 79 (.bin .lss 78 (.c (.n 0))),
 oD 80 (.mv 79),
 ⟨(some 81),.fa 2 6,(some (80,false))⟩,
 ⟨(some 82),.ld false 1 81,(some (80,false))⟩,
 ⟨(some 83),.bin .gtr 82 (.c (.n 3)),(some (80,false))⟩,
 oD 84 (.pick 80 (.c (.b true)) 83),
 oD 85 (.mv 84),
 ⟨(some 86),.mv 7,(some (85,false))⟩,
 ⟨(some 87),.un .not 86,(some (85,false))⟩,
 oD 88 (.pick 85 (.c (.b true)) 87)]
def Z1.r16:List Oper:=[
 oD 2 (.mv (.c (.n 2)))]
def Z1.r10:List Oper:=[
 oD 43 (.mv 5),
 oD 44 (.bin .add 43 (.c (.n 1))),
 oD 5 (.mv 44)]
def Z1.l1:Code:=.seq (.seq (.region Z1.r9) (.cond 42 (.skip) (.exit 2))) (.seq (.block 3 (.seq (.region Z1.r11) (.seq (.seq (.region Z1.r12) (.cond 73 (.seq (.region Z1.r13) (.ret)) (.skip))) (.seq (.region Z1.r14) (.seq (.region Z1.r15) (.cond 88 (.seq (.region Z1.r16) (.ret)) (.skip))))))) (.region Z1.r10))
def Z1.r17:List Oper:=[
 oD 2 (.mv (.c (.n 0)))]
def Z1.code:Code:=.seq (.region Z1.r0) (.seq (.region Z1.r1) (.seq (.seq (.region Z1.r2) (.block 0 (.loop Z1.l0))) (.seq (.seq (.region Z1.r6) (.cond 37 (.seq (.region Z1.r7) (.ret)) (.skip))) (.seq (.seq (.region Z1.r8) (.block 2 (.loop Z1.l1))) (.seq (.region Z1.r17) (.ret))))))
def Z1:Func:=⟨89,[.t 2],Z1.code⟩
/-! muntin/muntinref11.Count -/
def Zu.r0:List Oper:=[
 oD 1 (.box 0),
 oD 2 (.mv (.c (.n 0)))]
def Zu.r1:List Oper:=[
 oD 3 (.mv (.c (.n 0)))]
def Zu.r2:List Oper:=[
 oD 4 (.mv (.c (.n 0)))]
def Zu.r3:List Oper:=[
 oD 8 (.mv 4),
 oD 9 (.fa 0 1),
 oD 10 (.ld false 1 9),
 oD 11 (.len 10),
 oD 12 (.bin .lss 8 11)]
def Zu.r5:List Oper:=[
 oD 15 (.mv 3),
 oD 16 (.bin .add 15 (.c (.n 1))),
 oD 3 (.mv 16)]
def Zu.r6:List Oper:=[
 oD 5 (.mv (.c (.n 0)))]
def Zu.r7:List Oper:=[
 oD 17 (.mv 5),
 oD 18 (.bin .lss 17 (.c (.n 4))),
 oD 19 (.mv 18),
 ⟨(some 20),.fa 0 1,(some (19,true))⟩,
 ⟨(some 21),.ld false 1 20,(some (19,true))⟩,
 ⟨(some 22),.mv 4,(some (19,true))⟩,
 ⟨(some 23),.ixa 1 21 22,(some (19,true))⟩,
 ⟨(some 24),.ld false 1 23,(some (19,true))⟩,
 oD 25 (.pick 19 24 (.c (.b false)))]
def Zu.r9:List Oper:=[
 oD 28 (.ld true 2 1),
 oD 29 (.mv 4),
 oD 30 (.mv 5),
 oD 31 (.call (.c (.f 199 [])) [.t 28,.t 29,.t 30]),
 oD 6 (.mv 31)]
def Zu.r10:List Oper:=[
 oD 32 (.mv 3),
 oD 33 (.mv 6),
 oD 34 (.len 33),
 oD 35 (.bin .add 32 34),
 oD 3 (.mv 35)]
def Zu.r8:List Oper:=[
 oD 26 (.mv 5),
 oD 27 (.bin .add 26 (.c (.n 1))),
 oD 5 (.mv 27)]
def Zu.l0:Code:=.seq (.seq (.region Zu.r7) (.cond 25 (.skip) (.exit 2))) (.seq (.block 3 (.seq (.region Zu.r9) (.region Zu.r10))) (.region Zu.r8))
def Zu.r11:List Oper:=[
 oD 36 (.fa 0 1),
 oD 37 (.ld false 1 36),
 oD 38 (.mv 4),
 oD 39 (.ixa 1 37 38),
 oD 40 (.ld false 1 39)]
def Zu.r12:List Oper:=[
 oD 41 (.mv 3),
 oD 42 (.bin .add 41 (.c (.n 3))),
 oD 3 (.mv 42)]
def Zu.r4:List Oper:=[
 oD 13 (.mv 4),
 oD 14 (.bin .add 13 (.c (.n 1))),
 oD 4 (.mv 14)]
def Zu.l1:Code:=.seq (.seq (.region Zu.r3) (.cond 12 (.skip) (.exit 0))) (.seq (.block 1 (.seq (.region Zu.r5) (.seq (.seq (.region Zu.r6) (.block 2 (.loop Zu.l0))) (.seq (.region Zu.r11) (.cond 40 (.region Zu.r12) (.skip)))))) (.region Zu.r4))
def Zu.r13:List Oper:=[
 oD 7 (.mv (.c (.n 0)))]
def Zu.r14:List Oper:=[
 oD 43 (.mv 7),
 oD 44 (.fa 1 1),
 oD 45 (.ld false 1 44),
 oD 46 (.len 45),
 oD 47 (.bin .lss 43 46)]
def Zu.r16:List Oper:=[
 oD 50 (.mv 3),
 oD 51 (.fa 1 1),
 oD 52 (.ld false 1 51),
 oD 53 (.mv 7),
 oD 54 (.ixa 4 52 53),
 oD 55 (.fa 3 54),
 oD 56 (.ld false 1 55),
 oD 57 (.slen 56),
 oD 58 (.bin .add 50 57),
 oD 3 (.mv 58)]
def Zu.r15:List Oper:=[
 oD 48 (.mv 7),
 oD 49 (.bin .add 48 (.c (.n 1))),
 oD 7 (.mv 49)]
def Zu.l2:Code:=.seq (.seq (.region Zu.r14) (.cond 47 (.skip) (.exit 4))) (.seq (.block 5 (.region Zu.r16)) (.region Zu.r15))
def Zu.r17:List Oper:=[
 oD 59 (.mv 3),
 oD 2 (.mv 59)]
def Zu.code:Code:=.seq (.region Zu.r0) (.seq (.region Zu.r1) (.seq (.seq (.region Zu.r2) (.block 0 (.loop Zu.l1))) (.seq (.seq (.region Zu.r13) (.block 4 (.loop Zu.l2))) (.seq (.region Zu.r17) (.ret)))))
def Zu:Func:=⟨60,[.t 2],Zu.code⟩
/-! muntin/muntinref11.On -/
def ZT.r0:List Oper:=[
 oD 3 (.box 0),
 oD 6 (.mv (.c (.sn)))]
def ZT.r1:List Oper:=[
 oD 7 (.mv (.c (.sn)))]
def ZT.r2:List Oper:=[
 oD 8 (.mv (.c (.n 0)))]
def ZT.r3:List Oper:=[
 oD 11 (.mv 8),
 oD 12 (.fa 1 3),
 oD 13 (.ld false 1 12),
 oD 14 (.len 13),
 oD 15 (.bin .lss 11 14)]
def ZT.r5:List Oper:=[
 oD 18 (.fa 1 3),
 oD 19 (.ld false 1 18),
 oD 20 (.mv 8),
 oD 21 (.ixa 4 19 20),
 oD 22 (.ld true 4 21),
 oD 9 (.alloc [.n 0,.n 0,.n 0,.s ⟨#[]⟩]),
 oN (.st 4 9 22)]
def ZT.r6:List Oper:=[
 oD 23 (.fa 0 9),
 oD 24 (.ld false 1 23),
 oD 25 (.mv 1),
 oD 26 (.eq false .sc 24 25),
 oD 27 (.mv 26),
 ⟨(some 28),.fa 2 9,(some (27,true))⟩,
 ⟨(some 29),.ld false 1 28,(some (27,true))⟩,
 ⟨(some 30),.mv 2,(some (27,true))⟩,
 ⟨(some 31),.eq false .sc 29 30,(some (27,true))⟩,
 oD 32 (.pick 27 31 (.c (.b false)))]
def ZT.r7:List Oper:=[
 oD 33 (.mv 7),
 oD 34 (.mv 8),
 oD 35 (.bin .mul (.c (.n 2)) 34),
 oD 36 (.bsl 1 1 [.n 0] [(0,1,.t 35)]),
 oD 37 (.app 1 8 33 36),
 oD 7 (.mv 37)]
def ZT.r8:List Oper:=[
 oD 38 (.ld true 4 9),
 oD 39 (.call (.c (.f 218 [])) [.t 38]),
 oD 10 (.mv 39)]
def ZT.r9:List Oper:=[
 oD 40 (.fa 1 9),
 oD 41 (.ld false 1 40),
 oD 42 (.mv 1),
 oD 43 (.eq false .sc 41 42),
 oD 44 (.mv 43),
 ⟨(some 45),.mv 10,(some (44,true))⟩,
 ⟨(some 46),.mv 2,(some (44,true))⟩,
 ⟨(some 47),.eq false .sc 45 46,(some (44,true))⟩,
 oD 48 (.pick 44 47 (.c (.b false)))]
def ZT.r10:List Oper:=[
 oD 49 (.mv 7),
 oD 50 (.mv 8),
 oD 51 (.bin .mul (.c (.n 2)) 50),
 oD 52 (.bin .add 51 (.c (.n 1))),
 oD 53 (.bsl 1 1 [.n 0] [(0,1,.t 52)]),
 oD 54 (.app 1 8 49 53),
 oD 7 (.mv 54)]
def ZT.r4:List Oper:=[
 oD 16 (.mv 8),
 oD 17 (.bin .add 16 (.c (.n 1))),
 oD 8 (.mv 17)]
def ZT.l0:Code:=.seq (.seq (.region ZT.r3) (.cond 15 (.skip) (.exit 0))) (.seq (.block 1 (.seq (.region ZT.r5) (.seq (.seq (.region ZT.r6) (.cond 32 (.region ZT.r7) (.skip))) (.seq (.region ZT.r8) (.seq (.region ZT.r9) (.cond 48 (.region ZT.r10) (.skip))))))) (.region ZT.r4))
def ZT.r11:List Oper:=[
 oD 55 (.mv 7),
 oD 6 (.mv 55)]
def ZT.code:Code:=.seq (.region ZT.r0) (.seq (.region ZT.r1) (.seq (.seq (.region ZT.r2) (.block 0 (.loop ZT.l0))) (.seq (.region ZT.r11) (.ret))))
def ZT:Func:=⟨56,[.t 6],ZT.code⟩
/-! muntin/muntinref11.box -/
def Zw.r0:List Oper:=[
 oD 3 (.box 0),
 oD 4 (.box 1),
 oD 6 (.alloc [.sn,.sn,.sn,.sn])]
def Zw.r1:List Oper:=[
 oD 17 (.fa 0 3),
 oD 18 (.ld false 1 17),
 oD 19 (.len 18),
 oD 7 (.mv 19)]
def Zw.r2:List Oper:=[
 oD 20 (.call (.c (.f 46 [])) [.c (.n 4)]),
 oD 8 (.mv 20)]
def Zw.r3:List Oper:=[
 oD 21 (.fa 0 3),
 oD 22 (.ld false 1 21),
 oD 23 (.mv 8),
 oD 24 (.app 8 64 22 23),
 oD 25 (.fa 0 3),
 oN (.st 1 25 24)]
def Zw.r4:List Oper:=[
 oD 9 (.mv (.c (.n 0)))]
def Zw.r5:List Oper:=[
 oD 26 (.mv 9),
 oD 27 (.bin .lss 26 (.c (.n 4)))]
def Zw.r7:List Oper:=[
 oD 30 (.mv 7),
 oD 31 (.bin .add 30 (.c (.n 1))),
 oD 32 (.mv 7),
 oD 33 (.bin .add 32 (.c (.n 3))),
 oD 34 (.mv 7),
 oD 35 (.mv 7),
 oD 36 (.bsl 1 4 [.n 0] [(0,1,.t 31),(1,1,.t 33),(2,1,.t 34),(3,1,.t 35)]),
 oD 37 (.mv 9),
 oD 38 (.ixa 1 36 37),
 oD 39 (.ld false 1 38),
 oD 10 (.mv 39)]
def Zw.r8:List Oper:=[
 oD 40 (.mv 7),
 oD 41 (.bin .add 40 (.c (.n 2))),
 oD 42 (.mv 7),
 oD 43 (.bin .add 42 (.c (.n 2))),
 oD 44 (.mv 7),
 oD 45 (.bin .add 44 (.c (.n 3))),
 oD 46 (.mv 7),
 oD 47 (.bin .add 46 (.c (.n 1))),
 oD 48 (.bsl 1 4 [.n 0] [(0,1,.t 41),(1,1,.t 43),(2,1,.t 45),(3,1,.t 47)]),
 oD 49 (.mv 9),
 oD 50 (.ixa 1 48 49),
 oD 51 (.ld false 1 50),
 oD 11 (.mv 51)]
def Zw.r9:List Oper:=[
 oD 52 (.bsl 1 4 [.n 0] [(0,1,.c (.n 1)),(1,1,.c (.n 0)),(2,1,.c (.n 1)),(3,1,.c (.n 0))]),
 oD 53 (.mv 9),
 oD 54 (.ixa 1 52 53),
 oD 55 (.ld false 1 54),
 oD 12 (.mv 55)]
def Zw.r10:List Oper:=[
 oD 56 (.ld true 2 4),
 oD 57 (.mv 2),
 oD 58 (.mv 9),
 oD 59 (.call (.c (.f 199 [])) [.t 56,.t 57,.t 58]),
 oD 13 (.mv 59)]
def Zw.r11:List Oper:=[
 oD 14 (.mv (.c (.n 0)))]
def Zw.r12:List Oper:=[
 oD 60 (.mv 14),
 oD 61 (.mv 13),
 oD 62 (.len 61),
 oD 63 (.bin .lss 60 62)]
def Zw.r14:List Oper:=[
 oD 66 (.fa 0 3),
 oD 67 (.ld false 1 66),
 oD 68 (.len 67),
 oD 15 (.mv 68)]
def Zw.r15:List Oper:=[
 oD 69 (.call (.c (.f 46 [])) [.c (.n 1)]),
 oD 16 (.mv 69)]
def Zw.r16:List Oper:=[
 oD 70 (.fa 0 3),
 oD 71 (.ld false 1 70),
 oD 72 (.mv 16),
 oD 73 (.app 8 64 71 72),
 oD 74 (.fa 0 3),
 oN (.st 1 74 73)]
def Zw.r17:List Oper:=[
 oD 75 (.fa 2 3),
 oD 76 (.ld false 1 75),
 oD 77 (.mv 13),
 oD 78 (.mv 14),
 oD 79 (.ixa 1 77 78),
 oD 80 (.ld false 1 79),
 oD 81 (.bin .quo 80 (.c (.n 2))),
 oD 82 (.mv 13),
 oD 83 (.mv 14),
 oD 84 (.ixa 1 82 83),
 oD 85 (.ld false 1 84),
 oD 86 (.bin .rem 85 (.c (.n 2))),
 oD 87 (.mv 15),
 oD 88 (.ixa 2 76 81),
 oD 89 (.ixaa 1 2 88 86),
 oN (.st 1 89 87)]
def Zw.r18:List Oper:=[
 oD 91 (.fa 0 3),
 oD 92 (.ld false 1 91),
 oD 93 (.mv 10),
 oD 94 (.mv 12),
 oD 95 (.mv 15),
 oD 96 (.call (.c (.f 53 [])) [.t 92,.t 93,.t 94,.t 95,.c (.n (-1))]),
 oD 90 (.mv 96),
 oD 97 (.ext 90 0),
 oD 98 (.ext 90 1),
 oD 99 (.fa 0 3),
 oN (.st 1 99 97)]
def Zw.r19:List Oper:=[
 oD 100 (.mv 15),
 oD 10 (.mv 100)]
def Zw.r13:List Oper:=[
 oD 64 (.mv 14),
 oD 65 (.bin .add 64 (.c (.n 1))),
 oD 14 (.mv 65)]
def Zw.l0:Code:=.seq (.seq (.region Zw.r12) (.cond 63 (.skip) (.exit 2))) (.seq (.block 3 (.seq (.region Zw.r14) (.seq (.region Zw.r15) (.seq (.region Zw.r16) (.seq (.draw Zw.r17 [(1,5),(1,10),(5,10)]) (.seq (.region Zw.r18) (.region Zw.r19))))))) (.region Zw.r13))
def Zw.r20:List Oper:=[
 oD 102 (.fa 0 3),
 oD 103 (.ld false 1 102),
 oD 104 (.mv 10),
 oD 105 (.mv 12),
 oD 106 (.mv 11),
 oD 107 (.call (.c (.f 53 [])) [.t 103,.t 104,.t 105,.t 106,.c (.n (-1))]),
 oD 101 (.mv 107),
 oD 108 (.ext 101 0),
 oD 109 (.ext 101 1),
 oD 110 (.fa 0 3),
 oN (.st 1 110 108)]
def Zw.r6:List Oper:=[
 oD 28 (.mv 9),
 oD 29 (.bin .add 28 (.c (.n 1))),
 oD 9 (.mv 29)]
def Zw.l1:Code:=.seq (.seq (.region Zw.r5) (.cond 27 (.skip) (.exit 0))) (.seq (.block 1 (.seq (.region Zw.r7) (.seq (.region Zw.r8) (.seq (.region Zw.r9) (.seq (.region Zw.r10) (.seq (.seq (.region Zw.r11) (.block 2 (.loop Zw.l0))) (.region Zw.r20))))))) (.region Zw.r6))
def Zw.r21:List Oper:=[
 oD 111 (.ld true 4 3),
 oN (.st 4 6 111)]
def Zw.code:Code:=.seq (.region Zw.r0) (.seq (.region Zw.r1) (.seq (.region Zw.r2) (.seq (.region Zw.r3) (.seq (.seq (.region Zw.r4) (.block 0 (.loop Zw.l1))) (.seq (.region Zw.r21) (.ret))))))
def Zw:Func:=⟨112,[.cell 6 true 4],Zw.code⟩
/-! muntin/valid.outer -/
def ZW.r0:List Oper:=[
 oD 2 (.mv (.c (.n 0))),
 oD 3 (.mv (.c (.b false)))]
def ZW.r1:List Oper:=[
 oD 10 (.mv 0),
 oD 11 (.call (.c (.f 203 [])) [.t 10]),
 oD 9 (.mv 11),
 oD 12 (.ext 9 0),
 oD 13 (.ext 9 1),
 oD 4 (.mv 12),
 oD 5 (.mv 13)]
def ZW.r2:List Oper:=[
 oD 6 (.mv (.c (.n (-1))))]
def ZW.r3:List Oper:=[
 oD 14 (.mv 4),
 oD 15 (.len 14),
 oD 16 (.mv (.c (.n 0)))]
def ZW.r4:List Oper:=[
 oD 17 (.bin .lss 16 15)]
def ZW.r5:List Oper:=[
 oD 18 (.mv 16),
 oD 19 (.ixa 1 14 16),
 oD 20 (.ld false 1 19),
 oD 7 (.mv 18),
 oD 8 (.mv 20)]
def ZW.r6:List Oper:=[
 oD 21 (.mv 0),
 oD 22 (.mv 8),
 oD 23 (.call (.c (.f 204 [])) [.t 21,.t 22]),
 oD 24 (.call (.c (.f 219 [])) [.t 23])]
def ZW.r8:List Oper:=[
 oD 26 (.eq false .sc 24 (.c (.n 4))),
 oD 25 (.mv 26)]
def ZW.r9:List Oper:=[
 oD 28 (.eq false .sc 24 (.c (.n (-4)))),
 oD 27 (.mv 28)]
def ZW.r10:List Oper:=[
 oD 29 (.mv 6),
 oD 30 (.bin .geq 29 (.c (.n 0)))]
def ZW.r11:List Oper:=[
 oD 2 (.mv (.c (.n 0))),
 oD 3 (.mv (.c (.b false)))]
def ZW.r12:List Oper:=[
 oD 31 (.mv 7),
 oD 6 (.mv 31)]
def ZW.r7:List Oper:=[
 oD 2 (.mv (.c (.n 0))),
 oD 3 (.mv (.c (.b false)))]
def ZW.r13:List Oper:=[
 oD 32 (.bin .add 16 (.c (.n 1))),
 oD 16 (.mv 32)]
def ZW.l0:Code:=.seq (.region ZW.r4) (.seq (.cond 17 (.skip) (.exit 0)) (.seq (.block 1 (.seq (.region ZW.r5) (.seq (.region ZW.r6) (.block 2 (.seq (.region ZW.r8) (.cond 25 (.skip) (.seq (.region ZW.r9) (.cond 27 (.seq (.seq (.region ZW.r10) (.cond 30 (.seq (.region ZW.r11) (.ret)) (.skip))) (.region ZW.r12)) (.seq (.region ZW.r7) (.ret)))))))))) (.region ZW.r13)))
def ZW.r14:List Oper:=[
 oD 33 (.mv 6),
 oD 34 (.mv 6),
 oD 35 (.bin .geq 34 (.c (.n 0))),
 oD 2 (.mv 33),
 oD 3 (.mv 35)]
def ZW.code:Code:=.seq (.region ZW.r0) (.seq (.region ZW.r1) (.seq (.region ZW.r2) (.seq (.seq (.region ZW.r3) (.block 0 (.loop ZW.l0))) (.seq (.region ZW.r14) (.ret)))))
def ZW:Func:=⟨36,[.t 2,.t 3],ZW.code⟩
/-! muntin/muntinref12.Behind -/
def ZI.r0:List Oper:=[
 oD 3 (.box 1),
 oD 4 (.alloc [.n 0,.n 0])]
def ZI.r1:List Oper:=[
 oD 9 (.mv 0),
 oD 10 (.fa 0 3),
 oD 11 (.ld false 1 10),
 oD 12 (.fa 1 3),
 oD 13 (.ld false 1 12),
 oD 14 (.ixa 8 9 11),
 oD 15 (.fa 0 14),
 oD 16 (.ixaa 1 4 15 13),
 oD 17 (.ld false 1 16),
 oD 5 (.mv 17)]
def ZI.r2:List Oper:=[
 oD 18 (.bsl 1 4 [.n 0] [(0,1,.c (.n 1)),(1,1,.c (.n 0)),(2,1,.c (.n 3)),(3,1,.c (.n 2))]),
 oD 6 (.mv 18)]
def ZI.r3:List Oper:=[
 oD 7 (.mv (.c (.n 0)))]
def ZI.r4:List Oper:=[
 oD 19 (.mv 7),
 oD 20 (.bin .lss 19 (.c (.n 4)))]
def ZI.r6:List Oper:=[
 oD 23 (.fa 1 3),
 oD 24 (.ld false 1 23),
 oD 25 (.mv 6),
 oD 26 (.mv 7),
 oD 27 (.ixa 1 25 26),
 oD 28 (.ld false 1 27),
 oD 29 (.bin .add 24 28),
 oD 30 (.bin .rem 29 (.c (.n 4))),
 oD 8 (.mv 30)]
def ZI.r7:List Oper:=[
 oD 31 (.mv 0),
 oD 32 (.mv 5),
 oD 33 (.mv 8),
 oD 34 (.ixa 8 31 32),
 oD 35 (.fa 0 34),
 oD 36 (.ixaa 1 4 35 33),
 oD 37 (.ld false 1 36),
 oD 38 (.bin .geq 37 (.c (.n 0)))]
def ZI.r8:List Oper:=[
 oD 39 (.mv 5),
 oD 40 (.mv 8),
 oD 41 (.build [.n 0,.n 0] [(0,1,.t 39),(1,1,.t 40)]),
 oN (.st 2 4 41)]
def ZI.r5:List Oper:=[
 oD 21 (.mv 7),
 oD 22 (.bin .add 21 (.c (.n 1))),
 oD 7 (.mv 22)]
def ZI.l0:Code:=.seq (.seq (.region ZI.r4) (.cond 20 (.skip) (.exit 0))) (.seq (.block 1 (.seq (.draw ZI.r6 [(1,5)]) (.seq (.region ZI.r7) (.cond 38 (.seq (.region ZI.r8) (.ret)) (.skip))))) (.region ZI.r5))
def ZI.r9:List Oper:=[
 oD 42 (.ld true 2 3),
 oN (.st 2 4 42)]
def ZI.code:Code:=.seq (.region ZI.r0) (.seq (.draw ZI.r1 [(2,4)]) (.seq (.region ZI.r2) (.seq (.seq (.region ZI.r3) (.block 0 (.loop ZI.l0))) (.seq (.region ZI.r9) (.ret)))))
def ZI:Func:=⟨43,[.cell 4 true 2],ZI.code⟩
/-! muntin/face.Faces -/
def Z7.r0:List Oper:=[
 oD 2 (.mv (.c (.sn))),
 oD 3 (.mv (.c (.n 0)))]
def Z7.r1:List Oper:=[
 oD 12 (.mv 0),
 oD 13 (.call (.c (.f 66 [])) [.t 12]),
 oD 4 (.mv 13)]
def Z7.r2:List Oper:=[
 oD 14 (.mv 4),
 oD 15 (.eq true .sc 14 (.c (.n 0)))]
def Z7.r3:List Oper:=[
 oD 16 (.mv 4),
 oD 2 (.mv (.c (.sn))),
 oD 3 (.mv 16)]
def Z7.r4:List Oper:=[
 oD 5 (.mv (.c (.sn)))]
def Z7.r5:List Oper:=[
 oD 17 (.mkm),
 oD 6 (.mv 17)]
def Z7.r6:List Oper:=[
 oD 18 (.mv 0),
 oD 19 (.len 18),
 oD 20 (.mv (.c (.n 0)))]
def Z7.r7:List Oper:=[
 oD 21 (.bin .lss 20 19)]
def Z7.r8:List Oper:=[
 oD 22 (.mv 20),
 oD 7 (.mv 22)]
def Z7.r9:List Oper:=[
 oD 23 (.mv (.c (.n 0)))]
def Z7.r10:List Oper:=[
 oD 24 (.bin .lss 23 (.c (.n 4)))]
def Z7.r11:List Oper:=[
 oD 25 (.mv 23),
 oD 8 (.mv 25)]
def Z7.r12:List Oper:=[
 oD 26 (.mv 7),
 oD 27 (.mv 8),
 oD 28 (.build [.n 0,.n 0] [(0,1,.t 26),(1,1,.t 27)]),
 oD 9 (.alloc [.n 0,.n 0]),
 oN (.st 2 9 28)]
def Z7.r13:List Oper:=[
 oD 29 (.ld true 2 9),
 oD 30 (.mv 0),
 oD 31 (.call (.c (.f 220 [])) [.t 29,.t 30]),
 oD 32 (.un .not 31),
 oD 33 (.mv 32),
 ⟨(some 34),.mv 6,(some (33,false))⟩,
 ⟨(some 35),.ld true 2 9,(some (33,false))⟩,
 ⟨(some 36),.mlk [.i,.i] false (.b false) 34 35,(some (33,false))⟩,
 oD 37 (.pick 33 (.c (.b true)) 36)]
def Z7.r14:List Oper:=[
 oD 10 (.mv (.c (.sn)))]
def Z7.r15:List Oper:=[
 oD 38 (.ld true 2 9),
 oD 11 (.alloc [.n 0,.n 0]),
 oN (.st 2 11 38)]
def Z7.r16:List Oper:=[
 oD 39 (.mv 6),
 oD 40 (.ld true 2 11),
 oD 41 (.mlk [.i,.i] false (.b false) 39 40),
 oD 42 (.un .not 41)]
def Z7.r18:List Oper:=[
 oD 46 (.mv 6),
 oD 47 (.ld true 2 11),
 oN (.mup [.i,.i] 46 47 (.c (.b true)))]
def Z7.r19:List Oper:=[
 oD 48 (.mv 10),
 oD 49 (.ld true 2 11),
 oD 50 (.bsl 2 1 [.n 0,.n 0] [(0,2,.t 49)]),
 oD 51 (.app 2 16 48 50),
 oD 10 (.mv 51)]
def Z7.r20:List Oper:=[
 oD 52 (.ld true 2 11)]
def Z7.r21:List Oper:=[
 oD 11 (.alloc [.n 0,.n 0]),
 oN (.st 2 11 52)]
def Z7.r17:List Oper:=[
 oD 43 (.ld true 2 11),
 oD 44 (.mv 0),
 oD 45 (.call (.c (.f 221 [])) [.t 43,.t 44]),
 oN (.st 2 11 45)]
def Z7.l0:Code:=.seq (.seq (.region Z7.r16) (.cond 42 (.skip) (.exit 4))) (.seq (.block 5 (.seq (.region Z7.r18) (.region Z7.r19))) (.seq (.seq (.region Z7.r20) (.region Z7.r21)) (.region Z7.r17)))
def Z7.r22:List Oper:=[
 oD 53 (.mv 5),
 oD 54 (.mv 10),
 oD 55 (.bsl 1 1 [.sn] [(0,1,.t 54)]),
 oD 56 (.app 1 24 53 55),
 oD 5 (.mv 56)]
def Z7.r23:List Oper:=[
 oD 57 (.bin .add 23 (.c (.n 1))),
 oD 23 (.mv 57)]
def Z7.l1:Code:=.seq (.region Z7.r10) (.seq (.cond 24 (.skip) (.exit 2)) (.seq (.block 3 (.seq (.region Z7.r11) (.seq (.region Z7.r12) (.seq (.seq (.region Z7.r13) (.cond 37 (.exit 3) (.skip))) (.seq (.region Z7.r14) (.seq (.seq (.region Z7.r15) (.block 4 (.loop Z7.l0))) (.region Z7.r22))))))) (.region Z7.r23)))
def Z7.r24:List Oper:=[
 oD 58 (.bin .add 20 (.c (.n 1))),
 oD 20 (.mv 58)]
def Z7.l2:Code:=.seq (.region Z7.r7) (.seq (.cond 21 (.skip) (.exit 0)) (.seq (.block 1 (.seq (.region Z7.r8) (.seq (.region Z7.r9) (.block 2 (.loop Z7.l1))))) (.region Z7.r24)))
def Z7.r25:List Oper:=[
 oD 59 (.mv 5),
 oD 2 (.mv 59),
 oD 3 (.mv (.c (.n 0)))]
def Z7.code:Code:=.seq (.region Z7.r0) (.seq (.seq (.region Z7.r1) (.seq (.region Z7.r2) (.cond 15 (.seq (.region Z7.r3) (.ret)) (.skip)))) (.seq (.region Z7.r4) (.seq (.region Z7.r5) (.seq (.seq (.region Z7.r6) (.block 0 (.loop Z7.l2))) (.seq (.region Z7.r25) (.ret))))))
def Z7:Func:=⟨60,[.t 2,.t 3],Z7.code⟩
/-! muntin/face.Turns -/
def zu.r0:List Oper:=[
 oD 4 (.mv (.c (.sn)))]
def zu.r1:List Oper:=[
 oD 8 (.mv 1),
 oD 9 (.len 8),
 oD 10 (.mks 1 8 [.n 0] 9 9),
 oD 5 (.mv 10)]
def zu.r2:List Oper:=[
 oD 11 (.mv 0),
 oD 12 (.call (.c (.f 66 [])) [.t 11]),
 oD 13 (.eq true .sc 12 (.c (.n 0)))]
def zu.r3:List Oper:=[
 oD 14 (.mv 5),
 oD 4 (.mv 14)]
def zu.r4:List Oper:=[
 oD 15 (.mv 1),
 oD 16 (.len 15),
 oD 17 (.mv (.c (.n 0)))]
def zu.r5:List Oper:=[
 oD 18 (.bin .lss 17 16)]
def zu.r6:List Oper:=[
 oD 19 (.mv 17),
 oD 20 (.ixa 2 15 17),
 oD 21 (.ld true 2 20),
 oD 7 (.alloc [.n 0,.n 0]),
 oD 6 (.mv 19),
 oN (.st 2 7 21)]
def zu.r7:List Oper:=[
 oD 22 (.ld true 2 7),
 oD 23 (.mv 0),
 oD 24 (.call (.c (.f 220 [])) [.t 22,.t 23])]
def zu.r8:List Oper:=[
 oD 25 (.mv 5),
 oD 26 (.mv 6),
 oD 27 (.fa 1 7),
 oD 28 (.ld false 1 27),
 oD 29 (.ld true 2 7),
 oD 30 (.mv 0),
 oD 31 (.call (.c (.f 221 [])) [.t 29,.t 30]),
 oD 32 (.fld false 1 1 31),
 oD 33 (.call (.c (.f 222 [])) [.t 28,.t 32]),
 oD 34 (.ixa 1 25 26),
 oN (.st 1 34 33)]
def zu.r9:List Oper:=[
 oD 35 (.bin .add 17 (.c (.n 1))),
 oD 17 (.mv 35)]
def zu.l0:Code:=.seq (.region zu.r5) (.seq (.cond 18 (.skip) (.exit 0)) (.seq (.block 1 (.seq (.region zu.r6) (.seq (.region zu.r7) (.cond 24 (.draw zu.r8 [(3,4),(3,6)]) (.skip))))) (.region zu.r9)))
def zu.r10:List Oper:=[
 oD 36 (.mv 5),
 oD 4 (.mv 36)]
def zu.code:Code:=.seq (.region zu.r0) (.seq (.region zu.r1) (.seq (.seq (.region zu.r2) (.cond 13 (.seq (.region zu.r3) (.ret)) (.skip))) (.seq (.seq (.region zu.r4) (.block 0 (.loop zu.l0))) (.seq (.region zu.r10) (.ret)))))
def zu:Func:=⟨37,[.t 4],zu.code⟩
/-! muntin/muntinref08.turns -/
def zd.r0:List Oper:=[
 oD 2 (.mv (.c (.b false)))]
def zd.r1:List Oper:=[
 oD 3 (.mv (.c (.n 0)))]
def zd.r2:List Oper:=[
 oD 4 (.mv 3),
 oD 5 (.mv 0),
 oD 6 (.slen 5),
 oD 7 (.bin .lss 4 6)]
def zd.r4:List Oper:=[
 oD 10 (.mv 0),
 oD 11 (.mv 3),
 oD 12 (.ixs 10 11),
 oD 13 (.eq true .sc 12 (.c (.i .u8 76))),
 oD 14 (.mv 13),
 ⟨(some 15),.mv 0,(some (14,true))⟩,
 ⟨(some 16),.mv 3,(some (14,true))⟩,
 ⟨(some 17),.ixs 15 16,(some (14,true))⟩,
 ⟨(some 18),.eq true .sc 17 (.c (.i .u8 82)),(some (14,true))⟩,
 oD 19 (.pick 14 18 (.c (.b false)))]
def zd.r5:List Oper:=[
 oD 2 (.mv (.c (.b false)))]
def zd.r3:List Oper:=[
 oD 8 (.mv 3),
 oD 9 (.bin .add 8 (.c (.n 1))),
 oD 3 (.mv 9)]
def zd.l0:Code:=.seq (.seq (.region zd.r2) (.cond 7 (.skip) (.exit 0))) (.seq (.block 1 (.seq (.region zd.r4) (.cond 19 (.seq (.region zd.r5) (.ret)) (.skip)))) (.region zd.r3))
def zd.r6:List Oper:=[
 oD 2 (.mv (.c (.b true)))]
def zd.code:Code:=.seq (.region zd.r0) (.seq (.seq (.region zd.r1) (.block 0 (.loop zd.l0))) (.seq (.region zd.r6) (.ret)))
def zd:Func:=⟨20,[.t 2],zd.code⟩
/-! muntin/muntinref11.Side -/
def Zaj.r0:List Oper:=[
 oD 1 (.box 0),
 oD 2 (.mv (.c (.n 0)))]
def Zaj.r1:List Oper:=[
 oD 4 (.ld true 4 1),
 oD 5 (.call (.c (.f 230 [])) [.t 4]),
 oD 3 (.mv 5)]
def Zaj.r2:List Oper:=[
 oD 6 (.mv 3),
 oD 7 (.bin .add 6 (.c (.n 2))),
 oD 8 (.bin .rem 7 (.c (.n 4))),
 oD 2 (.mv 8)]
def Zaj.code:Code:=.seq (.region Zaj.r0) (.seq (.region Zaj.r1) (.seq (.region Zaj.r2) (.ret)))
def Zaj:Func:=⟨9,[.t 2],Zaj.code⟩
/-! muntin/face.Rotation -/
def zj.r0:List Oper:=[
 oD 2 (.mv (.c (.n 0)))]
def zj.r1:List Oper:=[
 oD 3 (.mv (.c (.n 0)))]
def zj.r2:List Oper:=[
 oD 6 (.mv 0),
 oD 7 (.len 6),
 oD 8 (.mv (.c (.n 0)))]
def zj.r3:List Oper:=[
 oD 9 (.bin .lss 8 7)]
def zj.r4:List Oper:=[
 oD 10 (.ixa 1 6 8),
 oD 11 (.ld false 1 10),
 oD 5 (.mv 11)]
def zj.r5:List Oper:=[
 oD 12 (.mv 5),
 oD 13 (.bin .geq 12 (.c (.n (-2)))),
 oD 14 (.mv 13),
 ⟨(some 15),.mv 5,(some (14,true))⟩,
 ⟨(some 16),.bin .leq 15 (.c (.n 1)),(some (14,true))⟩,
 oD 17 (.pick 14 16 (.c (.b false)))]
def zj.r6:List Oper:=[
 oD 18 (.mv 3),
 oD 19 (.mv 5),
 oD 20 (.bin .add 18 19),
 oD 3 (.mv 20)]
def zj.r7:List Oper:=[
 oD 21 (.bin .add 8 (.c (.n 1))),
 oD 8 (.mv 21)]
def zj.l0:Code:=.seq (.region zj.r3) (.seq (.cond 9 (.skip) (.exit 0)) (.seq (.block 1 (.seq (.region zj.r4) (.seq (.region zj.r5) (.cond 17 (.region zj.r6) (.skip))))) (.region zj.r7)))
def zj.r8:List Oper:=[
 oD 22 (.mv 3),
 oD 2 (.mv 22)]
def zj.code:Code:=.seq (.region zj.r0) (.seq (.region zj.r1) (.seq (.seq (.region zj.r2) (.block 0 (.loop zj.l0))) (.seq (.region zj.r8) (.ret))))
def zj:Func:=⟨23,[.t 2],zj.code⟩
/-! (muntin/face.Dart).is -/
def ZaP.r0:List Oper:=[
 oD 2 (.box 0),
 oD 4 (.mv (.c (.b false)))]
def ZaP.r1:List Oper:=[
 oD 5 (.fa 0 2),
 oD 6 (.ld false 1 5),
 oD 7 (.bin .geq 6 (.c (.n 0))),
 oD 8 (.mv 7),
 ⟨(some 9),.fa 0 2,(some (8,true))⟩,
 ⟨(some 10),.ld false 1 9,(some (8,true))⟩,
 ⟨(some 11),.mv 1,(some (8,true))⟩,
 ⟨(some 12),.len 11,(some (8,true))⟩,
 ⟨(some 13),.bin .lss 10 12,(some (8,true))⟩,
 oD 14 (.pick 8 13 (.c (.b false))),
 oD 15 (.mv 14),
 ⟨(some 16),.fa 1 2,(some (15,true))⟩,
 ⟨(some 17),.ld false 1 16,(some (15,true))⟩,
 ⟨(some 18),.call (.c (.f 90 [])) [.t 17],(some (15,true))⟩,
 oD 19 (.pick 15 18 (.c (.b false))),
 oD 20 (.mv 19),
 ⟨(some 21),.mv 1,(some (20,true))⟩,
 ⟨(some 22),.fa 0 2,(some (20,true))⟩,
 ⟨(some 23),.ld false 1 22,(some (20,true))⟩,
 ⟨(some 24),.fa 1 2,(some (20,true))⟩,
 ⟨(some 25),.ld false 1 24,(some (20,true))⟩,
 ⟨(some 26),.ixa 8 21 23,(some (20,true))⟩,
 ⟨(some 27),.fa 0 26,(some (20,true))⟩,
 ⟨(some 28),.ixaa 1 4 27 25,(some (20,true))⟩,
 ⟨(some 29),.ld false 1 28,(some (20,true))⟩,
 ⟨(some 30),.bin .geq 29 (.c (.n 0)),(some (20,true))⟩,
 oD 31 (.pick 20 30 (.c (.b false))),
 oD 4 (.mv 31)]
def ZaP.code:Code:=.seq (.region ZaP.r0) (.seq (.draw ZaP.r1 [(18,20)]) (.ret))
def ZaP:Func:=⟨32,[.t 4],ZaP.code⟩
/-! (muntin/face.Dart).behind -/
def ZS.r0:List Oper:=[
 oD 2 (.box 0),
 oD 4 (.alloc [.n 0,.n 0])]
def ZS.r1:List Oper:=[
 oD 9 (.mv 1),
 oD 10 (.fa 0 2),
 oD 11 (.ld false 1 10),
 oD 12 (.fa 1 2),
 oD 13 (.ld false 1 12),
 oD 14 (.ixa 8 9 11),
 oD 15 (.fa 0 14),
 oD 16 (.ixaa 1 4 15 13),
 oD 17 (.ld false 1 16),
 oD 5 (.mv 17)]
def ZS.r2:List Oper:=[
 oD 18 (.build [.n 0,.n 0,.n 0,.n 0] [(0,1,.c (.n 1)),(1,1,.c (.n 0)),(2,1,.c (.n (-1))),(3,1,.c (.n 2))]),
 oD 19 (.mv (.c (.n 0)))]
def ZS.r3:List Oper:=[
 oD 20 (.bin .lss 19 (.c (.n 4)))]
def ZS.r4:List Oper:=[
 oD 21 (.ix false 1 4 18 19),
 oD 7 (.mv 21)]
def ZS.r5:List Oper:=[
 oD 22 (.mv 5),
 oD 23 (.fa 1 2),
 oD 24 (.ld false 1 23),
 oD 25 (.mv 7),
 oD 26 (.call (.c (.f 77 [])) [.t 24,.t 25]),
 oD 27 (.build [.n 0,.n 0] [(0,1,.t 22),(1,1,.t 26)]),
 oD 8 (.alloc [.n 0,.n 0]),
 oN (.st 2 8 27)]
def ZS.r6:List Oper:=[
 oD 28 (.ld true 2 8),
 oD 29 (.mv 1),
 oD 30 (.call (.c (.f 220 [])) [.t 28,.t 29])]
def ZS.r7:List Oper:=[
 oD 31 (.ld true 2 8),
 oN (.st 2 4 31)]
def ZS.r8:List Oper:=[
 oD 32 (.bin .add 19 (.c (.n 1))),
 oD 19 (.mv 32)]
def ZS.l0:Code:=.seq (.region ZS.r3) (.seq (.cond 20 (.skip) (.exit 0)) (.seq (.block 1 (.seq (.region ZS.r4) (.seq (.region ZS.r5) (.seq (.region ZS.r6) (.cond 30 (.seq (.region ZS.r7) (.ret)) (.skip)))))) (.region ZS.r8)))
def ZS.r9:List Oper:=[
 oD 33 (.ld true 2 2),
 oN (.st 2 4 33)]
def ZS.code:Code:=.seq (.region ZS.r0) (.seq (.draw ZS.r1 [(2,4)]) (.seq (.seq (.region ZS.r2) (.block 0 (.loop ZS.l0))) (.seq (.region ZS.r9) (.ret))))
def ZS:Func:=⟨34,[.cell 4 true 2],ZS.code⟩
/-! muntin/compass.Turn -/
def Zau.r0:List Oper:=[
 oD 4 (.mv (.c (.n 0)))]
def Zau.r1:List Oper:=[
 oD 5 (.mv 0),
 oD 6 (.call (.c (.f 90 [])) [.t 5]),
 oD 7 (.un .not 6),
 oD 8 (.mv 7),
 ⟨(some 9),.mv 1,(some (8,false))⟩,
 ⟨(some 10),.call (.c (.f 90 [])) [.t 9],(some (8,false))⟩,
 ⟨(some 11),.un .not 10,(some (8,false))⟩,
 oD 12 (.pick 8 (.c (.b true)) 11)]
def Zau.r2:List Oper:=[
 oD 4 (.mv (.c (.n 0)))]
def Zau.r3:List Oper:=[
 oD 13 (.build [.n 0,.n 0,.n 0,.n 0] [(0,1,.c (.n 0)),(1,1,.c (.n 1)),(2,1,.c (.n (-2))),(3,1,.c (.n (-1)))]),
 oD 14 (.mv 1),
 oD 15 (.mv 0),
 oD 16 (.bin .sub 14 15),
 oD 17 (.bin .add 16 (.c (.n 4))),
 oD 18 (.bin .rem 17 (.c (.n 4))),
 oD 19 (.ix false 1 4 13 18),
 oD 4 (.mv 19)]
def Zau.code:Code:=.seq (.region Zau.r0) (.seq (.seq (.region Zau.r1) (.cond 12 (.seq (.region Zau.r2) (.ret)) (.skip))) (.seq (.region Zau.r3) (.ret)))
def Zau:Func:=⟨20,[.t 4],Zau.code⟩
/-! muntin/muntinref09.Last -/
def ZX.r0:List Oper:=[
 oD 1 (.box 0),
 oD 2 (.mv (.c (.n 0)))]
def ZX.r1:List Oper:=[
 oD 5 (.fa 2 1),
 oD 6 (.ld false 1 5),
 oD 3 (.mv 6)]
def ZX.r2:List Oper:=[
 oD 4 (.mv (.c (.n 0)))]
def ZX.r3:List Oper:=[
 oD 7 (.mv 4),
 oD 8 (.fa 3 1),
 oD 9 (.ld false 1 8),
 oD 10 (.slen 9),
 oD 11 (.bin .lss 7 10)]
def ZX.r5:List Oper:=[
 oD 14 (.fa 3 1),
 oD 15 (.ld false 1 14),
 oD 16 (.mv 4),
 oD 17 (.ixs 15 16),
 oD 18 (.eq false .sc 17 (.c (.i .u8 76)))]
def ZX.r6:List Oper:=[
 oD 19 (.mv 3),
 oD 20 (.bin .add 19 (.c (.n 1))),
 oD 21 (.bin .rem 20 (.c (.n 4))),
 oD 3 (.mv 21)]
def ZX.r7:List Oper:=[
 oD 22 (.mv 3),
 oD 23 (.bin .add 22 (.c (.n 3))),
 oD 24 (.bin .rem 23 (.c (.n 4))),
 oD 3 (.mv 24)]
def ZX.r4:List Oper:=[
 oD 12 (.mv 4),
 oD 13 (.bin .add 12 (.c (.n 1))),
 oD 4 (.mv 13)]
def ZX.l0:Code:=.seq (.seq (.region ZX.r3) (.cond 11 (.skip) (.exit 0))) (.seq (.block 1 (.seq (.region ZX.r5) (.cond 18 (.region ZX.r6) (.region ZX.r7)))) (.region ZX.r4))
def ZX.r8:List Oper:=[
 oD 25 (.mv 3),
 oD 2 (.mv 25)]
def ZX.code:Code:=.seq (.region ZX.r0) (.seq (.region ZX.r1) (.seq (.seq (.region ZX.r2) (.block 0 (.loop ZX.l0))) (.seq (.region ZX.r8) (.ret))))
def ZX:Func:=⟨26,[.t 2],ZX.code⟩
def G:Prog:=fun i=>match i with
  | 28=>some Zi
  | 29=>some ZC
  | 32=>some ZaQ
  | 46=>some ZR
  | 53=>some zm
  | 63=>some ZD
  | 64=>some Zz
  | 65=>some ZA
  | 66=>some ZY
  | 67=>some ZJ
  | 77=>some Zat
  | 82=>some z3
  | 83=>some ZG
  | 89=>some ZaJ
  | 90=>some ZaO
  | 97=>some ZaN
  | 98=>some zt
  | 157=>some Zm
  | 171=>some Zy
  | 172=>some zL
  | 174=>some Zq
  | 175=>some Zh
  | 176=>some z2
  | 177=>some Zv
  | 195=>some zI
  | 196=>some zf
  | 197=>some Z1
  | 198=>some Zu
  | 199=>some ZT
  | 200=>some Zw
  | 201=>some ZW
  | 202=>some ZI
  | 203=>some Z7
  | 204=>some zu
  | 217=>some zd
  | 218=>some Zaj
  | 219=>some zj
  | 220=>some ZaP
  | 221=>some ZS
  | 222=>some Zau
  | 230=>some ZX
  | _=>none
theorem Zcr:G 28 = some Zi:=rfl
theorem Zd3:G 29 = some ZC:=rfl
theorem Zd4:G 32 = some ZaQ:=rfl
theorem Zc4:G 46 = some ZR:=rfl
theorem Zcq:G 53 = some zm:=rfl
theorem ZbI:G 63 = some ZD:=rfl
theorem ZbH:G 64 = some Zz:=rfl
theorem Zcs:G 65 = some ZA:=rfl
theorem Zd2:G 66 = some ZY:=rfl
theorem Zdr:G 67 = some ZJ:=rfl
theorem ZcY:G 77 = some Zat:=rfl
theorem ZdL:G 82 = some z3:=rfl
theorem Zce:G 83 = some ZG:=rfl
theorem ZdV:G 89 = some ZaJ:=rfl
theorem ZcX:G 90 = some ZaO:=rfl
theorem ZeH:G 97 = some ZaN:=rfl
theorem Zdz:G 98 = some zt:=rfl
theorem Zbx:G 157 = some Zm:=rfl
theorem Zco:G 171 = some Zy:=rfl
theorem ZbY:G 172 = some zL:=rfl
theorem Zcc:G 174 = some Zq:=rfl
theorem ZcA:G 175 = some Zh:=rfl
theorem Zds:G 176 = some z2:=rfl
theorem Zcd:G 177 = some Zv:=rfl
theorem Zdt:G 195 = some zI:=rfl
theorem ZbO:G 196 = some zf:=rfl
theorem ZbZ:G 197 = some Z1:=rfl
theorem Zcb:G 198 = some Zu:=rfl
theorem ZcB:G 199 = some ZT:=rfl
theorem Zc5:G 200 = some Zw:=rfl
theorem Zdu:G 201 = some ZW:=rfl
theorem ZbP:G 202 = some ZI:=rfl
theorem Zd0:G 203 = some Z7:=rfl
theorem Zd1:G 204 = some zu:=rfl
theorem Zca:G 217 = some zd:=rfl
theorem Zct:G 218 = some Zaj:=rfl
theorem ZcO:G 219 = some zj:=rfl
theorem Zda:G 220 = some ZaP:=rfl
theorem Zcn:G 221 = some ZS:=rfl
theorem ZcZ:G 222 = some Zau:=rfl
theorem Zcp:G 230 = some ZX:=rfl
end Mu
