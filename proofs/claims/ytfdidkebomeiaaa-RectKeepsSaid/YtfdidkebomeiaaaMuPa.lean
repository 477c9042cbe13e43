/- The functions of the program, as the evaluator has them: printed by a program; checked against the model's. -/
import Derived.Test.YtfdidkebomeiaaaMuE0
namespace Mu
instance (n:Nat):OfNat Opd n:=⟨.t n⟩
abbrev oD (d:Nat) (op:Op):Oper:=⟨some d,op,none⟩
abbrev oN (op:Op):Oper:=⟨none,op,none⟩
/-! muntin/front.Of -/
def zJ.r0:List Oper:=[
 oD 4 (.mv (.c (.n 0))),
 oD 5 (.mv (.c (.b false)))]
def zJ.r1:List Oper:=[
 oD 9 (.mv 0),
 oD 10 (.call (.c (.f 58 [])) [.t 9]),
 oD 11 (.un .not 10),
 oD 12 (.mv 11),
 ⟨(some 13),.mv 1,(some (12,false))⟩,
 ⟨(some 14),.bin .lss 13 (.c (.n 0)),(some (12,false))⟩,
 oD 15 (.pick 12 (.c (.b true)) 14),
 oD 16 (.mv 15),
 ⟨(some 17),.mv 1,(some (16,false))⟩,
 ⟨(some 18),.mv 0,(some (16,false))⟩,
 ⟨(some 19),.len 18,(some (16,false))⟩,
 ⟨(some 20),.bin .geq 17 19,(some (16,false))⟩,
 oD 21 (.pick 16 (.c (.b true)) 20),
 oD 22 (.mv 21),
 ⟨(some 23),.mv 0,(some (22,false))⟩,
 ⟨(some 24),.mv 1,(some (22,false))⟩,
 ⟨(some 25),.ixa 1 23 24,(some (22,false))⟩,
 ⟨(some 26),.ld false 1 25,(some (22,false))⟩,
 ⟨(some 27),.bin .geq 26 (.c (.n 0)),(some (22,false))⟩,
 oD 28 (.pick 22 (.c (.b true)) 27)]
def zJ.r2:List Oper:=[
 oD 4 (.mv (.c (.n 0))),
 oD 5 (.mv (.c (.b false)))]
def zJ.r3:List Oper:=[
 oD 6 (.mv (.c (.n 0)))]
def zJ.r4:List Oper:=[
 oD 29 (.mv 0),
 oD 30 (.len 29),
 oD 31 (.mv (.c (.n 0)))]
def zJ.r5:List Oper:=[
 oD 32 (.bin .lss 31 30)]
def zJ.r6:List Oper:=[
 oD 33 (.mv 31),
 oD 7 (.mv 33)]
def zJ.r7:List Oper:=[
 oD 34 (.mv 1),
 oD 35 (.mv 7),
 oD 36 (.bin .add 34 35),
 oD 37 (.mv 0),
 oD 38 (.len 37),
 oD 39 (.bin .rem 36 38),
 oD 8 (.mv 39)]
def zJ.r8:List Oper:=[
 oD 40 (.mv 6),
 oD 41 (.mv 0),
 oD 42 (.mv 8),
 oD 43 (.ixa 1 41 42),
 oD 44 (.ld false 1 43),
 oD 45 (.bin .add 40 44),
 oD 6 (.mv 45)]
def zJ.r9:List Oper:=[
 oD 46 (.mv 6),
 oD 47 (.eq false .sc 46 (.c (.n 1)))]
def zJ.r10:List Oper:=[
 oD 48 (.mv 8),
 oD 49 (.bin .add 48 (.c (.n 1))),
 oD 50 (.mv 0),
 oD 51 (.len 50),
 oD 52 (.bin .rem 49 51),
 oD 4 (.mv 52),
 oD 5 (.mv (.c (.b true)))]
def zJ.r11:List Oper:=[
 oD 53 (.bin .add 31 (.c (.n 1))),
 oD 31 (.mv 53)]
def zJ.l0:Code:=.seq (.region zJ.r5) (.seq (.cond 32 (.skip) (.exit 0)) (.seq (.block 1 (.seq (.region zJ.r6) (.seq (.region zJ.r7) (.seq (.region zJ.r8) (.seq (.region zJ.r9) (.cond 47 (.seq (.region zJ.r10) (.ret)) (.skip))))))) (.region zJ.r11)))
def zJ.r12:List Oper:=[
 oD 4 (.mv (.c (.n 0))),
 oD 5 (.mv (.c (.b false)))]
def zJ.code:Code:=.seq (.region zJ.r0) (.seq (.seq (.region zJ.r1) (.cond 28 (.seq (.region zJ.r2) (.ret)) (.skip))) (.seq (.region zJ.r3) (.seq (.seq (.region zJ.r4) (.block 0 (.loop zJ.l0))) (.seq (.region zJ.r12) (.ret)))))
def zJ:Func:=⟨54,[.t 4,.t 5],zJ.code⟩
/-! muntin/front.Open -/
def z9.r0:List Oper:=[
 oD 2 (.mv (.c (.n 0))),
 oD 3 (.mv (.c (.b false)))]
def z9.r1:List Oper:=[
 oD 8 (.mv 0),
 oD 9 (.call (.c (.f 58 [])) [.t 8]),
 oD 10 (.un .not 9)]
def z9.r2:List Oper:=[
 oD 2 (.mv (.c (.n 0))),
 oD 3 (.mv (.c (.b false)))]
def z9.r3:List Oper:=[
 oD 11 (.mv 0),
 oD 12 (.len 11),
 oD 13 (.mv (.c (.n 0)))]
def z9.r4:List Oper:=[
 oD 14 (.bin .lss 13 12)]
def z9.r5:List Oper:=[
 oD 15 (.mv 13),
 oD 16 (.ixa 1 11 13),
 oD 17 (.ld false 1 16),
 oD 4 (.mv 15),
 oD 5 (.mv 17)]
def z9.r6:List Oper:=[
 oD 19 (.mv 0),
 oD 20 (.mv 4),
 oD 21 (.call (.c (.f 13 [])) [.t 19,.t 20]),
 oD 18 (.mv 21),
 oD 22 (.ext 18 0),
 oD 23 (.ext 18 1),
 oD 6 (.mv 22),
 oD 7 (.mv 23)]
def z9.r7:List Oper:=[
 oD 24 (.mv 5),
 oD 25 (.bin .lss 24 (.c (.n 0))),
 oD 26 (.mv 25),
 ⟨(some 27),.mv 7,(some (26,true))⟩,
 ⟨(some 28),.un .not 27,(some (26,true))⟩,
 oD 29 (.pick 26 28 (.c (.b false)))]
def z9.r8:List Oper:=[
 oD 30 (.mv 4),
 oD 2 (.mv 30),
 oD 3 (.mv (.c (.b true)))]
def z9.r9:List Oper:=[
 oD 31 (.bin .add 13 (.c (.n 1))),
 oD 13 (.mv 31)]
def z9.l0:Code:=.seq (.region z9.r4) (.seq (.cond 14 (.skip) (.exit 0)) (.seq (.block 1 (.seq (.region z9.r5) (.seq (.region z9.r6) (.seq (.region z9.r7) (.cond 29 (.seq (.region z9.r8) (.ret)) (.skip)))))) (.region z9.r9)))
def z9.r10:List Oper:=[
 oD 2 (.mv (.c (.n 0))),
 oD 3 (.mv (.c (.b false)))]
def z9.code:Code:=.seq (.region z9.r0) (.seq (.seq (.region z9.r1) (.cond 10 (.seq (.region z9.r2) (.ret)) (.skip))) (.seq (.seq (.region z9.r3) (.block 0 (.loop z9.l0))) (.seq (.region z9.r10) (.ret))))
def z9:Func:=⟨32,[.t 2,.t 3],z9.code⟩
/-! muntin/muntinref10.Make -/
def Zk.r0:List Oper:=[
 oD 2 (.box 0),
 oD 4 (.mv (.c (.sn))),
 oD 5 (.mv (.c (.sn)))]
def Zk.r1:List Oper:=[
 oD 6 (.mv (.c (.sn)))]
def Zk.r2:List Oper:=[
 oD 7 (.mv (.c (.n 0)))]
def Zk.r3:List Oper:=[
 oD 18 (.mv 7),
 oD 19 (.fa 0 2),
 oD 20 (.ld false 1 19),
 oD 21 (.len 20),
 oD 22 (.bin .lss 18 21),
 oD 23 (.mv 22),
 ⟨(some 24),.mv 6,(some (23,true))⟩,
 ⟨(some 25),.len 24,(some (23,true))⟩,
 ⟨(some 26),.mv 1,(some (23,true))⟩,
 ⟨(some 27),.bin .lss 25 26,(some (23,true))⟩,
 oD 28 (.pick 23 27 (.c (.b false)))]
def Zk.r5:List Oper:=[
 oD 31 (.fa 0 2),
 oD 32 (.ld false 1 31),
 oD 33 (.mv 7),
 oD 34 (.ixa 1 32 33),
 oD 35 (.ld false 1 34),
 oD 36 (.conv .i64 35),
 oD 37 (.bin .rem 36 (.c (.n 8))),
 oD 38 (.fa 0 2),
 oD 39 (.ld false 1 38),
 oD 40 (.mv 7),
 oD 41 (.ixa 1 39 40),
 oD 42 (.ld false 1 41),
 oD 43 (.conv .i64 42),
 oD 44 (.bin .quo 43 (.c (.n 8))),
 oD 45 (.bin .rem 44 (.c (.n 8))),
 oD 46 (.build [.n 0,.n 0] [(0,1,.t 37),(1,1,.t 45)]),
 oD 8 (.alloc [.n 0,.n 0]),
 oN (.st 2 8 46)]
def Zk.r6:List Oper:=[
 oD 9 (.mv (.c (.b false)))]
def Zk.r7:List Oper:=[
 oD 10 (.mv (.c (.n 0)))]
def Zk.r8:List Oper:=[
 oD 47 (.mv 10),
 oD 48 (.mv 6),
 oD 49 (.len 48),
 oD 50 (.bin .lss 47 49)]
def Zk.r10:List Oper:=[
 oD 53 (.mv 9),
 oD 54 (.mv 53),
 ⟨(some 55),.mv 6,(some (54,false))⟩,
 ⟨(some 56),.mv 10,(some (54,false))⟩,
 ⟨(some 57),.ixa 2 55 56,(some (54,false))⟩,
 ⟨(some 58),.ld true 2 57,(some (54,false))⟩,
 ⟨(some 59),.ld true 2 8,(some (54,false))⟩,
 ⟨(some 60),.eq false (.fl [.i,.i]) 58 59,(some (54,false))⟩,
 oD 61 (.pick 54 (.c (.b true)) 60),
 oD 9 (.mv 61)]
def Zk.r9:List Oper:=[
 oD 51 (.mv 10),
 oD 52 (.bin .add 51 (.c (.n 1))),
 oD 10 (.mv 52)]
def Zk.l0:Code:=.seq (.seq (.region Zk.r8) (.cond 50 (.skip) (.exit 2))) (.seq (.block 3 (.draw Zk.r10 [(5,6)])) (.region Zk.r9))
def Zk.r11:List Oper:=[
 oD 62 (.mv 9),
 oD 63 (.un .not 62)]
def Zk.r12:List Oper:=[
 oD 64 (.mv 6),
 oD 65 (.ld true 2 8),
 oD 66 (.bsl 2 1 [.n 0,.n 0] [(0,2,.t 65)]),
 oD 67 (.app 2 16 64 66),
 oD 6 (.mv 67)]
def Zk.r4:List Oper:=[
 oD 29 (.mv 7),
 oD 30 (.bin .add 29 (.c (.n 1))),
 oD 7 (.mv 30)]
def Zk.l1:Code:=.seq (.seq (.region Zk.r3) (.cond 28 (.skip) (.exit 0))) (.seq (.block 1 (.seq (.draw Zk.r5 [(1,8),(4,8),(1,11),(4,11),(1,16),(4,16),(8,16),(11,16)]) (.seq (.region Zk.r6) (.seq (.seq (.region Zk.r7) (.block 2 (.loop Zk.l0))) (.seq (.region Zk.r11) (.cond 63 (.region Zk.r12) (.skip))))))) (.region Zk.r4))
def Zk.r13:List Oper:=[
 oD 68 (.mv 6),
 oD 69 (.len 68),
 oD 70 (.call (.c (.f 46 [])) [.t 69]),
 oD 11 (.mv 70)]
def Zk.r14:List Oper:=[
 oD 12 (.mv (.c (.n 0)))]
def Zk.r15:List Oper:=[
 oD 71 (.mv 12),
 oD 72 (.mv 6),
 oD 73 (.len 72),
 oD 74 (.bin .lss 71 73)]
def Zk.r17:List Oper:=[
 oD 13 (.mv (.c (.i .u8 3)))]
def Zk.r18:List Oper:=[
 oD 77 (.mv 12),
 oD 78 (.fa 1 2),
 oD 79 (.ld false 1 78),
 oD 80 (.len 79),
 oD 81 (.bin .lss 77 80)]
def Zk.r19:List Oper:=[
 oD 82 (.fa 1 2),
 oD 83 (.ld false 1 82),
 oD 84 (.mv 12),
 oD 85 (.ixa 1 83 84),
 oD 86 (.ld false 1 85),
 oD 13 (.mv 86)]
def Zk.r20:List Oper:=[
 oD 87 (.mv 12),
 oD 14 (.mv 87)]
def Zk.r21:List Oper:=[
 oD 88 (.mv 12),
 oD 89 (.fa 2 2),
 oD 90 (.ld false 1 89),
 oD 91 (.len 90),
 oD 92 (.bin .lss 88 91)]
def Zk.r22:List Oper:=[
 oD 93 (.fa 2 2),
 oD 94 (.ld false 1 93),
 oD 95 (.mv 12),
 oD 96 (.ixa 1 94 95),
 oD 97 (.ld false 1 96),
 oD 98 (.conv .i64 97),
 oD 14 (.mv 98)]
def Zk.r23:List Oper:=[
 oD 99 (.mv 14),
 oD 100 (.bin .lss 99 (.c (.n (-2))))]
def Zk.r24:List Oper:=[
 oD 101 (.mv 14),
 oD 102 (.un .neg 101),
 oD 14 (.mv 102)]
def Zk.r25:List Oper:=[
 oD 15 (.mv (.c (.n 0)))]
def Zk.r26:List Oper:=[
 oD 103 (.mv 15),
 oD 104 (.bin .lss 103 (.c (.n 2)))]
def Zk.r28:List Oper:=[
 oD 107 (.mv 6),
 oD 108 (.mv 12),
 oD 109 (.mv 15),
 oD 110 (.call (.c (.f 63 [])) [.t 107,.t 108,.t 109]),
 oD 16 (.mv 110)]
def Zk.r29:List Oper:=[
 oD 111 (.mv 13),
 oD 112 (.mv 15),
 oD 113 (.bin .shr 111 112),
 oD 114 (.bin .and 113 (.c (.i .u8 1))),
 oD 115 (.eq false .sc 114 (.c (.i .u8 0))),
 oD 116 (.mv 115),
 ⟨(some 117),.mv 16,(some (116,false))⟩,
 ⟨(some 118),.bin .lss 117 (.c (.n 0)),(some (116,false))⟩,
 oD 119 (.pick 116 (.c (.b true)) 118)]
def Zk.r30:List Oper:=[
 oD 120 (.mv 6),
 oD 121 (.mv 11),
 oD 122 (.mv 12),
 oD 123 (.mv 16),
 oD 124 (.call (.c (.f 64 [])) [.t 120,.t 121,.t 122,.t 123]),
 oD 17 (.mv 124)]
def Zk.r31:List Oper:=[
 oD 125 (.mv 17),
 oD 126 (.un .not 125)]
def Zk.r32:List Oper:=[
 oD 127 (.mv 11),
 oD 128 (.mv 12),
 oD 129 (.mv 15),
 oD 130 (.mv 16),
 oD 131 (.mv 14),
 oD 132 (.call (.c (.f 65 [])) [.t 127,.t 128,.t 129,.t 130,.t 131]),
 oD 11 (.mv 132)]
def Zk.r27:List Oper:=[
 oD 105 (.mv 15),
 oD 106 (.bin .add 105 (.c (.n 1))),
 oD 15 (.mv 106)]
def Zk.l2:Code:=.seq (.seq (.region Zk.r26) (.cond 104 (.skip) (.exit 6))) (.seq (.block 7 (.seq (.region Zk.r28) (.seq (.seq (.region Zk.r29) (.cond 119 (.exit 7) (.skip))) (.seq (.region Zk.r30) (.seq (.region Zk.r31) (.cond 126 (.region Zk.r32) (.skip))))))) (.region Zk.r27))
def Zk.r16:List Oper:=[
 oD 75 (.mv 12),
 oD 76 (.bin .add 75 (.c (.n 1))),
 oD 12 (.mv 76)]
def Zk.l3:Code:=.seq (.seq (.region Zk.r15) (.cond 74 (.skip) (.exit 4))) (.seq (.block 5 (.seq (.region Zk.r17) (.seq (.seq (.region Zk.r18) (.cond 81 (.region Zk.r19) (.skip))) (.seq (.region Zk.r20) (.seq (.seq (.region Zk.r21) (.cond 92 (.seq (.region Zk.r22) (.seq (.region Zk.r23) (.cond 100 (.region Zk.r24) (.skip)))) (.skip))) (.seq (.region Zk.r25) (.block 6 (.loop Zk.l2)))))))) (.region Zk.r16))
def Zk.r33:List Oper:=[
 oD 133 (.mv 11),
 oD 134 (.mv 6),
 oD 4 (.mv 133),
 oD 5 (.mv 134)]
def Zk.code:Code:=.seq (.region Zk.r0) (.seq (.region Zk.r1) (.seq (.seq (.region Zk.r2) (.block 0 (.loop Zk.l1))) (.seq (.region Zk.r13) (.seq (.seq (.region Zk.r14) (.block 4 (.loop Zk.l3))) (.seq (.region Zk.r33) (.ret))))))
def Zk:Func:=⟨135,[.t 4,.t 5],Zk.code⟩
/-! muntin/join.Parts -/
def ZB.r0:List Oper:=[
 oD 2 (.mv (.c (.sn))),
 oD 3 (.mv (.c (.n 0)))]
def ZB.r1:List Oper:=[
 oD 12 (.mv 0),
 oD 13 (.call (.c (.f 66 [])) [.t 12]),
 oD 4 (.mv 13)]
def ZB.r2:List Oper:=[
 oD 14 (.mv 4),
 oD 15 (.eq true .sc 14 (.c (.n 0)))]
def ZB.r3:List Oper:=[
 oD 16 (.mv 4),
 oD 2 (.mv (.c (.sn))),
 oD 3 (.mv 16)]
def ZB.r4:List Oper:=[
 oD 5 (.mv (.c (.sn)))]
def ZB.r5:List Oper:=[
 oD 17 (.mv 0),
 oD 18 (.len 17),
 oD 19 (.mks 1 1 [.b false] 18 18),
 oD 6 (.mv 19)]
def ZB.r6:List Oper:=[
 oD 20 (.mv 0),
 oD 21 (.len 20),
 oD 22 (.mv (.c (.n 0)))]
def ZB.r7:List Oper:=[
 oD 23 (.bin .lss 22 21)]
def ZB.r8:List Oper:=[
 oD 24 (.mv 22),
 oD 7 (.mv 24)]
def ZB.r9:List Oper:=[
 oD 25 (.mv 6),
 oD 26 (.mv 7),
 oD 27 (.ixa 1 25 26),
 oD 28 (.ld false 1 27)]
def ZB.r10:List Oper:=[
 oD 30 (.mv 0),
 oD 31 (.mv 7),
 oD 32 (.call (.c (.f 67 [])) [.t 30,.t 31]),
 oD 29 (.mv 32),
 oD 33 (.ext 29 0),
 oD 34 (.ext 29 1),
 oD 8 (.mv 33),
 oD 9 (.mv 34)]
def ZB.r11:List Oper:=[
 oD 35 (.bsl 1 0 [.n 0] []),
 oD 10 (.mv 35)]
def ZB.r12:List Oper:=[
 oD 36 (.mv 0),
 oD 37 (.len 36),
 oD 38 (.mv (.c (.n 0)))]
def ZB.r13:List Oper:=[
 oD 39 (.bin .lss 38 37)]
def ZB.r14:List Oper:=[
 oD 40 (.mv 38),
 oD 11 (.mv 40)]
def ZB.r15:List Oper:=[
 oD 41 (.mv 11),
 oD 42 (.mv 7),
 oD 43 (.eq false .sc 41 42),
 oD 44 (.mv 43),
 ⟨(some 45),.mv 9,(some (44,false))⟩,
 ⟨(some 46),.mv 11,(some (44,false))⟩,
 ⟨(some 47),.ixa 1 45 46,(some (44,false))⟩,
 ⟨(some 48),.ld false 1 47,(some (44,false))⟩,
 ⟨(some 49),.bin .geq 48 (.c (.n 0)),(some (44,false))⟩,
 oD 50 (.pick 44 (.c (.b true)) 49)]
def ZB.r16:List Oper:=[
 oD 51 (.mv 6),
 oD 52 (.mv 11),
 oD 53 (.ixa 1 51 52),
 oN (.st 1 53 (.c (.b true)))]
def ZB.r17:List Oper:=[
 oD 54 (.mv 10),
 oD 55 (.mv 11),
 oD 56 (.bsl 1 1 [.n 0] [(0,1,.t 55)]),
 oD 57 (.app 1 8 54 56),
 oD 10 (.mv 57)]
def ZB.r18:List Oper:=[
 oD 58 (.bin .add 38 (.c (.n 1))),
 oD 38 (.mv 58)]
def ZB.l0:Code:=.seq (.region ZB.r13) (.seq (.cond 39 (.skip) (.exit 2)) (.seq (.block 3 (.seq (.region ZB.r14) (.seq (.region ZB.r15) (.cond 50 (.seq (.region ZB.r16) (.region ZB.r17)) (.skip))))) (.region ZB.r18)))
def ZB.r19:List Oper:=[
 oD 59 (.mv 5),
 oD 60 (.mv 10),
 oD 61 (.bsl 1 1 [.sn] [(0,1,.t 60)]),
 oD 62 (.app 1 24 59 61),
 oD 5 (.mv 62)]
def ZB.r20:List Oper:=[
 oD 63 (.bin .add 22 (.c (.n 1))),
 oD 22 (.mv 63)]
def ZB.l1:Code:=.seq (.region ZB.r7) (.seq (.cond 23 (.skip) (.exit 0)) (.seq (.block 1 (.seq (.region ZB.r8) (.seq (.seq (.region ZB.r9) (.cond 28 (.exit 1) (.skip))) (.seq (.region ZB.r10) (.seq (.region ZB.r11) (.seq (.seq (.region ZB.r12) (.block 2 (.loop ZB.l0))) (.region ZB.r19))))))) (.region ZB.r20)))
def ZB.r21:List Oper:=[
 oD 64 (.mv 5),
 oD 2 (.mv 64),
 oD 3 (.mv (.c (.n 0)))]
def ZB.code:Code:=.seq (.region ZB.r0) (.seq (.seq (.region ZB.r1) (.seq (.region ZB.r2) (.cond 15 (.seq (.region ZB.r3) (.ret)) (.skip)))) (.seq (.region ZB.r4) (.seq (.region ZB.r5) (.seq (.seq (.region ZB.r6) (.block 0 (.loop ZB.l1))) (.seq (.region ZB.r21) (.ret))))))
def ZB:Func:=⟨65,[.t 2,.t 3],ZB.code⟩
/-! muntin/muntinref13.Parts -/
def Z4.r0:List Oper:=[
 oD 2 (.mv (.c (.sn)))]
def Z4.r1:List Oper:=[
 oD 9 (.mv 0),
 oD 10 (.len 9),
 oD 11 (.mks 1 1 [.b false] 10 10),
 oD 3 (.mv 11)]
def Z4.r2:List Oper:=[
 oD 4 (.mv (.c (.sn)))]
def Z4.r3:List Oper:=[
 oD 5 (.mv (.c (.n 0)))]
def Z4.r4:List Oper:=[
 oD 12 (.mv 5),
 oD 13 (.mv 0),
 oD 14 (.len 13),
 oD 15 (.bin .lss 12 14)]
def Z4.r6:List Oper:=[
 oD 18 (.mv 3),
 oD 19 (.mv 5),
 oD 20 (.ixa 1 18 19),
 oD 21 (.ld false 1 20)]
def Z4.r7:List Oper:=[
 oD 22 (.mv 0),
 oD 23 (.mv 5),
 oD 24 (.call (.c (.f 36 [])) [.t 22,.t 23]),
 oD 6 (.mv 24)]
def Z4.r8:List Oper:=[
 oD 7 (.mv (.c (.sn)))]
def Z4.r9:List Oper:=[
 oD 8 (.mv (.c (.n 0)))]
def Z4.r10:List Oper:=[
 oD 25 (.mv 8),
 oD 26 (.mv 0),
 oD 27 (.len 26),
 oD 28 (.bin .lss 25 27)]
def Z4.r12:List Oper:=[
 oD 31 (.mv 6),
 oD 32 (.mv 8),
 oD 33 (.ixa 1 31 32),
 oD 34 (.ld false 1 33),
 oD 35 (.bin .geq 34 (.c (.n 0)))]
def Z4.r13:List Oper:=[
 oD 36 (.mv 3),
 oD 37 (.mv 8),
 oD 38 (.ixa 1 36 37),
 oN (.st 1 38 (.c (.b true)))]
def Z4.r14:List Oper:=[
 oD 39 (.mv 7),
 oD 40 (.mv 8),
 oD 41 (.bsl 1 1 [.n 0] [(0,1,.t 40)]),
 oD 42 (.app 1 8 39 41),
 oD 7 (.mv 42)]
def Z4.r11:List Oper:=[
 oD 29 (.mv 8),
 oD 30 (.bin .add 29 (.c (.n 1))),
 oD 8 (.mv 30)]
def Z4.l0:Code:=.seq (.seq (.region Z4.r10) (.cond 28 (.skip) (.exit 2))) (.seq (.block 3 (.seq (.region Z4.r12) (.cond 35 (.seq (.region Z4.r13) (.region Z4.r14)) (.skip)))) (.region Z4.r11))
def Z4.r15:List Oper:=[
 oD 43 (.mv 4),
 oD 44 (.mv 7),
 oD 45 (.bsl 1 1 [.sn] [(0,1,.t 44)]),
 oD 46 (.app 1 24 43 45),
 oD 4 (.mv 46)]
def Z4.r5:List Oper:=[
 oD 16 (.mv 5),
 oD 17 (.bin .add 16 (.c (.n 1))),
 oD 5 (.mv 17)]
def Z4.l1:Code:=.seq (.seq (.region Z4.r4) (.cond 15 (.skip) (.exit 0))) (.seq (.block 1 (.seq (.seq (.region Z4.r6) (.cond 21 (.exit 1) (.skip))) (.seq (.region Z4.r7) (.seq (.region Z4.r8) (.seq (.seq (.region Z4.r9) (.block 2 (.loop Z4.l0))) (.region Z4.r15)))))) (.region Z4.r5))
def Z4.r16:List Oper:=[
 oD 47 (.mv 4),
 oD 2 (.mv 47)]
def Z4.code:Code:=.seq (.region Z4.r0) (.seq (.region Z4.r1) (.seq (.region Z4.r2) (.seq (.seq (.region Z4.r3) (.block 0 (.loop Z4.l1))) (.seq (.region Z4.r16) (.ret)))))
def Z4:Func:=⟨48,[.t 2],Z4.code⟩
/-! muntin/join.Whole -/
def ZbC.r0:List Oper:=[
 oD 2 (.mv (.c (.b false)))]
def ZbC.r1:List Oper:=[
 oD 6 (.mv 0),
 oD 7 (.call (.c (.f 29 [])) [.t 6]),
 oD 5 (.mv 7),
 oD 8 (.ext 5 0),
 oD 9 (.ext 5 1),
 oD 3 (.mv 8),
 oD 4 (.mv 9)]
def ZbC.r2:List Oper:=[
 oD 10 (.mv 4),
 oD 11 (.eq false .sc 10 (.c (.n 0))),
 oD 12 (.mv 11),
 ⟨(some 13),.mv 3,(some (12,true))⟩,
 ⟨(some 14),.len 13,(some (12,true))⟩,
 ⟨(some 15),.eq false .sc 14 (.c (.n 1)),(some (12,true))⟩,
 oD 16 (.pick 12 15 (.c (.b false))),
 oD 2 (.mv 16)]
def ZbC.code:Code:=.seq (.region ZbC.r0) (.seq (.region ZbC.r1) (.seq (.region ZbC.r2) (.ret)))
def ZbC:Func:=⟨17,[.t 2],ZbC.code⟩
/-! muntin/muntinref10.Check -/
def Zx.r0:List Oper:=[
 oD 2 (.mv (.c (.n 0)))]
def Zx.r1:List Oper:=[
 oD 7 (.mv 0),
 oD 8 (.len 7),
 oD 9 (.bin .gtr 8 (.c (.n 4096)))]
def Zx.r2:List Oper:=[
 oD 2 (.mv (.c (.n 6)))]
def Zx.r3:List Oper:=[
 oD 3 (.mv (.c (.n 0)))]
def Zx.r4:List Oper:=[
 oD 10 (.mv 3),
 oD 11 (.mv 0),
 oD 12 (.len 11),
 oD 13 (.bin .lss 10 12)]
def Zx.r6:List Oper:=[
 oD 4 (.mv (.c (.n 0)))]
def Zx.r7:List Oper:=[
 oD 16 (.mv 4),
 oD 17 (.bin .lss 16 (.c (.n 4)))]
def Zx.r9:List Oper:=[
 oD 20 (.mv 0),
 oD 21 (.mv 3),
 oD 22 (.mv 4),
 oD 23 (.ixa 8 20 21),
 oD 24 (.fa 0 23),
 oD 25 (.ixaa 1 4 24 22),
 oD 26 (.ld false 1 25),
 oD 5 (.mv 26)]
def Zx.r10:List Oper:=[
 oD 27 (.mv 0),
 oD 28 (.mv 3),
 oD 29 (.mv 4),
 oD 30 (.ixa 8 27 28),
 oD 31 (.fa 4 30),
 oD 32 (.ixaa 1 4 31 29),
 oD 33 (.ld false 1 32),
 oD 6 (.mv 33)]
def Zx.r11:List Oper:=[
 oD 34 (.mv 5),
 oD 35 (.eq false .sc 34 (.c (.n (-1))))]
def Zx.r12:List Oper:=[
 oD 36 (.mv 6),
 oD 37 (.eq true .sc 36 (.c (.n 0)))]
def Zx.r13:List Oper:=[
 oD 2 (.mv (.c (.n 9)))]
def Zx.r14:List Oper:=[
 oD 38 (.mv 5),
 oD 39 (.bin .lss 38 (.c (.n 0))),
 oD 40 (.mv 39),
 ⟨(some 41),.mv 5,(some (40,false))⟩,
 ⟨(some 42),.mv 0,(some (40,false))⟩,
 ⟨(some 43),.len 42,(some (40,false))⟩,
 ⟨(some 44),.bin .geq 41 43,(some (40,false))⟩,
 oD 45 (.pick 40 (.c (.b true)) 44),
 oD 46 (.mv 45),
 ⟨(some 47),.mv 5,(some (46,false))⟩,
 ⟨(some 48),.mv 3,(some (46,false))⟩,
 ⟨(some 49),.eq false .sc 47 48,(some (46,false))⟩,
 oD 50 (.pick 46 (.c (.b true)) 49)]
def Zx.r15:List Oper:=[
 oD 2 (.mv (.c (.n 3)))]
def Zx.r16:List Oper:=[
 oD 51 (.mv 0),
 oD 52 (.mv 5),
 oD 53 (.mv 4),
 oD 54 (.bin .add 53 (.c (.n 2))),
 oD 55 (.bin .rem 54 (.c (.n 4))),
 oD 56 (.ixa 8 51 52),
 oD 57 (.fa 0 56),
 oD 58 (.ixaa 1 4 57 55),
 oD 59 (.ld false 1 58),
 oD 60 (.mv 3),
 oD 61 (.eq true .sc 59 60),
 oD 62 (.mv 61),
 ⟨(some 63),.mv 0,(some (62,false))⟩,
 ⟨(some 64),.mv 5,(some (62,false))⟩,
 ⟨(some 65),.mv 4,(some (62,false))⟩,
 ⟨(some 66),.bin .add 65 (.c (.n 2)),(some (62,false))⟩,
 ⟨(some 67),.bin .rem 66 (.c (.n 4)),(some (62,false))⟩,
 ⟨(some 68),.ixa 8 63 64,(some (62,false))⟩,
 ⟨(some 69),.fa 4 68,(some (62,false))⟩,
 ⟨(some 70),.ixaa 1 4 69 67,(some (62,false))⟩,
 ⟨(some 71),.ld false 1 70,(some (62,false))⟩,
 ⟨(some 72),.mv 6,(some (62,false))⟩,
 ⟨(some 73),.eq true .sc 71 72,(some (62,false))⟩,
 oD 74 (.pick 62 (.c (.b true)) 73),
 oD 75 (.mv 74),
 ⟨(some 76),.mv 6,(some (75,false))⟩,
 ⟨(some 77),.bin .lss 76 (.c (.n (-2))),(some (75,false))⟩,
 oD 78 (.pick 75 (.c (.b true)) 77)]
def Zx.r17:List Oper:=[
 oD 2 (.mv (.c (.n 9)))]
def Zx.r8:List Oper:=[
 oD 18 (.mv 4),
 oD 19 (.bin .add 18 (.c (.n 1))),
 oD 4 (.mv 19)]
def Zx.l0:Code:=.seq (.seq (.region Zx.r7) (.cond 17 (.skip) (.exit 2))) (.seq (.block 3 (.seq (.region Zx.r9) (.seq (.region Zx.r10) (.seq (.seq (.region Zx.r11) (.cond 35 (.seq (.seq (.region Zx.r12) (.cond 37 (.seq (.region Zx.r13) (.ret)) (.skip))) (.exit 3)) (.skip))) (.seq (.seq (.region Zx.r14) (.cond 50 (.seq (.region Zx.r15) (.ret)) (.skip))) (.seq (.region Zx.r16) (.cond 78 (.seq (.region Zx.r17) (.ret)) (.skip)))))))) (.region Zx.r8))
def Zx.r5:List Oper:=[
 oD 14 (.mv 3),
 oD 15 (.bin .add 14 (.c (.n 1))),
 oD 3 (.mv 15)]
def Zx.l1:Code:=.seq (.seq (.region Zx.r4) (.cond 13 (.skip) (.exit 0))) (.seq (.block 1 (.seq (.region Zx.r6) (.block 2 (.loop Zx.l0)))) (.region Zx.r5))
def Zx.r18:List Oper:=[
 oD 2 (.mv (.c (.n 0)))]
def Zx.code:Code:=.seq (.region Zx.r0) (.seq (.seq (.region Zx.r1) (.cond 9 (.seq (.region Zx.r2) (.ret)) (.skip))) (.seq (.seq (.region Zx.r3) (.block 0 (.loop Zx.l1))) (.seq (.region Zx.r18) (.ret))))
def Zx:Func:=⟨79,[.t 2],Zx.code⟩
/-! muntin/muntinref13.Far -/
def Zz.r0:List Oper:=[
 oD 4 (.mv (.c (.sn)))]
def Zz.r1:List Oper:=[
 oD 11 (.mv 0),
 oD 12 (.len 11),
 oD 13 (.mks 1 8 [.n 0] 12 12),
 oD 5 (.mv 13)]
def Zz.r2:List Oper:=[
 oD 6 (.mv (.c (.n 0)))]
def Zz.r3:List Oper:=[
 oD 14 (.mv 6),
 oD 15 (.mv 0),
 oD 16 (.len 15),
 oD 17 (.bin .lss 14 16)]
def Zz.r5:List Oper:=[
 oD 20 (.mv 5),
 oD 21 (.mv 6),
 oD 22 (.ixa 1 20 21),
 oN (.st 1 22 (.c (.n (-1))))]
def Zz.r4:List Oper:=[
 oD 18 (.mv 6),
 oD 19 (.bin .add 18 (.c (.n 1))),
 oD 6 (.mv 19)]
def Zz.l0:Code:=.seq (.seq (.region Zz.r3) (.cond 17 (.skip) (.exit 0))) (.seq (.block 1 (.region Zz.r5)) (.region Zz.r4))
def Zz.r6:List Oper:=[
 oD 23 (.mv 5),
 oD 24 (.mv 1),
 oD 25 (.ixa 1 23 24),
 oN (.st 1 25 (.c (.n 0)))]
def Zz.r7:List Oper:=[
 oD 7 (.mv (.c (.n 0)))]
def Zz.r8:List Oper:=[
 oD 26 (.mv 7),
 oD 27 (.mv 0),
 oD 28 (.len 27),
 oD 29 (.bin .lss 26 28)]
def Zz.r10:List Oper:=[
 oD 8 (.mv (.c (.n 0)))]
def Zz.r11:List Oper:=[
 oD 32 (.mv 8),
 oD 33 (.mv 0),
 oD 34 (.len 33),
 oD 35 (.bin .lss 32 34)]
def Zz.r13:List Oper:=[
 oD 9 (.mv (.c (.n 0)))]
def Zz.r14:List Oper:=[
 oD 38 (.mv 9),
 oD 39 (.bin .lss 38 (.c (.n 4)))]
def Zz.r16:List Oper:=[
 oD 42 (.mv 0),
 oD 43 (.mv 8),
 oD 44 (.mv 9),
 oD 45 (.ixa 8 42 43),
 oD 46 (.fa 0 45),
 oD 47 (.ixaa 1 4 46 44),
 oD 48 (.ld false 1 47),
 oD 10 (.mv 48)]
def Zz.r17:List Oper:=[
 oD 49 (.mv 5),
 oD 50 (.mv 8),
 oD 51 (.ixa 1 49 50),
 oD 52 (.ld false 1 51),
 oD 53 (.mv 7),
 oD 54 (.eq false .sc 52 53),
 oD 55 (.mv 54),
 ⟨(some 56),.mv 10,(some (55,true))⟩,
 ⟨(some 57),.bin .geq 56 (.c (.n 0)),(some (55,true))⟩,
 oD 58 (.pick 55 57 (.c (.b false))),
 oD 59 (.mv 58),
 ⟨(some 60),.mv 5,(some (59,true))⟩,
 ⟨(some 61),.mv 10,(some (59,true))⟩,
 ⟨(some 62),.mx [.t 61,.c (.n 0)],(some (59,true))⟩,
 ⟨(some 63),.ixa 1 60 62,(some (59,true))⟩,
 ⟨(some 64),.ld false 1 63,(some (59,true))⟩,
 ⟨(some 65),.bin .lss 64 (.c (.n 0)),(some (59,true))⟩,
 oD 66 (.pick 59 65 (.c (.b false)))]
def Zz.r18:List Oper:=[
 oD 67 (.mv 5),
 oD 68 (.mv 10),
 oD 69 (.mv 7),
 oD 70 (.bin .add 69 (.c (.n 1))),
 oD 71 (.ixa 1 67 68),
 oN (.st 1 71 70)]
def Zz.r15:List Oper:=[
 oD 40 (.mv 9),
 oD 41 (.bin .add 40 (.c (.n 1))),
 oD 9 (.mv 41)]
def Zz.l1:Code:=.seq (.seq (.region Zz.r14) (.cond 39 (.skip) (.exit 6))) (.seq (.block 7 (.seq (.region Zz.r16) (.seq (.region Zz.r17) (.cond 66 (.region Zz.r18) (.skip))))) (.region Zz.r15))
def Zz.r12:List Oper:=[
 oD 36 (.mv 8),
 oD 37 (.bin .add 36 (.c (.n 1))),
 oD 8 (.mv 37)]
def Zz.l2:Code:=.seq (.seq (.region Zz.r11) (.cond 35 (.skip) (.exit 4))) (.seq (.block 5 (.seq (.region Zz.r13) (.block 6 (.loop Zz.l1)))) (.region Zz.r12))
def Zz.r9:List Oper:=[
 oD 30 (.mv 7),
 oD 31 (.bin .add 30 (.c (.n 1))),
 oD 7 (.mv 31)]
def Zz.l3:Code:=.seq (.seq (.region Zz.r8) (.cond 29 (.skip) (.exit 2))) (.seq (.block 3 (.seq (.region Zz.r10) (.block 4 (.loop Zz.l2)))) (.region Zz.r9))
def Zz.r19:List Oper:=[
 oD 72 (.mv 5),
 oD 4 (.mv 72)]
def Zz.code:Code:=.seq (.region Zz.r0) (.seq (.region Zz.r1) (.seq (.seq (.region Zz.r2) (.block 0 (.loop Zz.l0))) (.seq (.region Zz.r6) (.seq (.seq (.region Zz.r7) (.block 2 (.loop Zz.l3))) (.seq (.region Zz.r19) (.ret))))))
def Zz:Func:=⟨73,[.t 4],Zz.code⟩
/-! muntin/muntinref10.New -/
def ZY.r0:List Oper:=[
 oD 2 (.mv (.c (.sn)))]
def ZY.r1:List Oper:=[
 oD 6 (.mv 0),
 oD 7 (.mks 8 64 [.n 0,.n 0,.n 0,.n 0,.n 0,.n 0,.n 0,.n 0] 6 6),
 oD 3 (.mv 7)]
def ZY.r2:List Oper:=[
 oD 4 (.mv (.c (.n 0)))]
def ZY.r3:List Oper:=[
 oD 8 (.mv 4),
 oD 9 (.mv 0),
 oD 10 (.bin .lss 8 9)]
def ZY.r5:List Oper:=[
 oD 5 (.mv (.c (.n 0)))]
def ZY.r6:List Oper:=[
 oD 13 (.mv 5),
 oD 14 (.bin .lss 13 (.c (.n 4)))]
def ZY.r8:List Oper:=[
 oD 17 (.mv 3),
 oD 18 (.mv 4),
 oD 19 (.mv 5),
 oD 20 (.ixa 8 17 18),
 oD 21 (.fa 0 20),
 oD 22 (.ixaa 1 4 21 19),
 oN (.st 1 22 (.c (.n (-1))))]
def ZY.r7:List Oper:=[
 oD 15 (.mv 5),
 oD 16 (.bin .add 15 (.c (.n 1))),
 oD 5 (.mv 16)]
def ZY.l0:Code:=.seq (.seq (.region ZY.r6) (.cond 14 (.skip) (.exit 2))) (.seq (.block 3 (.region ZY.r8)) (.region ZY.r7))
def ZY.r4:List Oper:=[
 oD 11 (.mv 4),
 oD 12 (.bin .add 11 (.c (.n 1))),
 oD 4 (.mv 12)]
def ZY.l1:Code:=.seq (.seq (.region ZY.r3) (.cond 10 (.skip) (.exit 0))) (.seq (.block 1 (.seq (.region ZY.r5) (.block 2 (.loop ZY.l0)))) (.region ZY.r4))
def ZY.r9:List Oper:=[
 oD 23 (.mv 3),
 oD 2 (.mv 23)]
def ZY.code:Code:=.seq (.region ZY.r0) (.seq (.region ZY.r1) (.seq (.seq (.region ZY.r2) (.block 0 (.loop ZY.l1))) (.seq (.region ZY.r9) (.ret))))
def ZY:Func:=⟨24,[.t 2],ZY.code⟩
/-! (*muntin/grid.Grid).Split -/
def ZF.r0:List Oper:=[
 oD 6 (.mv (.c (.n 0))),
 oD 7 (.mv (.c (.n 0)))]
def ZF.r1:List Oper:=[
 oD 14 (.mv 0),
 oD 15 (.eq false .pt 14 (.c (.pn))),
 oD 13 (.mv 15)]
def ZF.r2:List Oper:=[
 oD 6 (.mv (.c (.n 0))),
 oD 7 (.mv (.c (.n 1)))]
def ZF.r3:List Oper:=[
 oD 17 (.mv 0),
 oD 18 (.mv 1),
 oD 19 (.mv 2),
 oD 20 (.call (.c (.f 75 [])) [.t 17,.t 18,.t 19]),
 oD 21 (.un .not 20),
 oD 16 (.mv 21)]
def ZF.r4:List Oper:=[
 oD 6 (.mv (.c (.n 0))),
 oD 7 (.mv (.c (.n 2)))]
def ZF.r5:List Oper:=[
 oD 23 (.mv 0),
 oD 24 (.mv 1),
 oD 25 (.mv 2),
 oD 26 (.call (.c (.f 54 [])) [.t 23,.t 24,.t 25]),
 oD 22 (.mv 26),
 oD 27 (.ext 22 0),
 oD 28 (.ext 22 1),
 oD 29 (.ext 22 2),
 oD 8 (.mv 27),
 oD 9 (.mv 28),
 oD 10 (.mv 29)]
def ZF.r6:List Oper:=[
 oD 30 (.mv 10),
 oD 31 (.un .not 30)]
def ZF.r7:List Oper:=[
 oD 6 (.mv (.c (.n 0))),
 oD 7 (.mv (.c (.n 9)))]
def ZF.r8:List Oper:=[
 oD 33 (.mv 0),
 oD 34 (.call (.c (.f 50 [])) [.t 33]),
 oD 32 (.mv 34),
 oD 35 (.ext 32 0),
 oD 36 (.ext 32 1),
 oD 11 (.mv 35),
 oD 12 (.mv 36)]
def ZF.r9:List Oper:=[
 oD 37 (.mv 12),
 oD 38 (.eq true .sc 37 (.c (.n 0)))]
def ZF.r10:List Oper:=[
 oD 39 (.mv 12),
 oD 6 (.mv (.c (.n 0))),
 oD 7 (.mv 39)]
def ZF.r11:List Oper:=[
 oD 40 (.mv 0),
 oD 41 (.mv 1),
 oD 42 (.mv 2),
 oD 43 (.mv 11),
 oD 44 (.mv 9),
 oD 45 (.call (.c (.f 76 [])) [.t 40,.t 41,.t 42,.t 43,.t 44])]
def ZF.r12:List Oper:=[
 oD 46 (.mv 0),
 oD 47 (.mv 11),
 oD 48 (.mv 2),
 oD 49 (.mv 8),
 oD 50 (.mv 9),
 oD 51 (.call (.c (.f 76 [])) [.t 46,.t 47,.t 48,.t 49,.t 50])]
def ZF.r13:List Oper:=[
 oD 52 (.mv 11),
 oD 6 (.mv 52),
 oD 7 (.mv (.c (.n 0)))]
def ZF.code:Code:=.seq (.region ZF.r0) (.seq (.block 0 (.seq (.region ZF.r1) (.cond 13 (.seq (.region ZF.r2) (.ret)) (.seq (.region ZF.r3) (.cond 16 (.seq (.region ZF.r4) (.ret)) (.skip)))))) (.seq (.region ZF.r5) (.seq (.seq (.region ZF.r6) (.cond 31 (.seq (.region ZF.r7) (.ret)) (.skip))) (.seq (.region ZF.r8) (.seq (.seq (.region ZF.r9) (.cond 38 (.seq (.region ZF.r10) (.ret)) (.skip))) (.seq (.region ZF.r11) (.seq (.region ZF.r12) (.seq (.region ZF.r13) (.ret)))))))))
def ZF:Func:=⟨53,[.t 6,.t 7],ZF.code⟩
/-! (*muntin/grid.Grid).Add -/
def zP.r0:List Oper:=[
 oD 2 (.mv (.c (.n 0))),
 oD 3 (.mv (.c (.n 0)))]
def zP.r1:List Oper:=[
 oD 5 (.mv 0),
 oD 6 (.eq false .pt 5 (.c (.pn))),
 oD 4 (.mv 6)]
def zP.r2:List Oper:=[
 oD 2 (.mv (.c (.n 0))),
 oD 3 (.mv (.c (.n 1)))]
def zP.r3:List Oper:=[
 oD 8 (.mv 0),
 oD 9 (.call (.c (.f 55 [])) [.t 8]),
 oD 10 (.eq false .sc 9 (.c (.n 4096))),
 oD 7 (.mv 10)]
def zP.r4:List Oper:=[
 oD 2 (.mv (.c (.n 0))),
 oD 3 (.mv (.c (.n 6)))]
def zP.r5:List Oper:=[
 oD 11 (.mv 0),
 oD 12 (.mv 0),
 oD 13 (.nilck 12),
 oD 14 (.fa 0 13),
 oD 15 (.ld false 1 14),
 oD 16 (.call (.c (.f 74 [])) []),
 oD 17 (.bsl 8 1 [.n 0,.n 0,.n 0,.n 0,.n 0,.n 0,.n 0,.n 0] [(0,8,.t 16)]),
 oD 18 (.app 8 64 15 17),
 oD 19 (.nilck 11),
 oD 20 (.fa 0 19),
 oN (.st 1 20 18)]
def zP.r6:List Oper:=[
 oD 21 (.mv 0),
 oD 22 (.call (.c (.f 55 [])) [.t 21]),
 oD 23 (.bin .sub 22 (.c (.n 1))),
 oD 2 (.mv 23),
 oD 3 (.mv (.c (.n 0)))]
def zP.code:Code:=.seq (.region zP.r0) (.seq (.block 0 (.seq (.region zP.r1) (.cond 4 (.seq (.region zP.r2) (.ret)) (.seq (.region zP.r3) (.cond 7 (.seq (.region zP.r4) (.ret)) (.skip)))))) (.seq (.draw zP.r5 [(4,5),(4,6)]) (.seq (.region zP.r6) (.ret))))
def zP:Func:=⟨24,[.t 2,.t 3],zP.code⟩
/-! slices.Clone[[]muntin/api.Cell,muntin/api.Cell] -/
def zA.r0:List Oper:=[
 oD 2 (.mv (.c (.sn)))]
def zA.r1:List Oper:=[
 oD 3 (.mv 0),
 oD 4 (.eq false .sl 3 (.c (.sn)))]
def zA.r2:List Oper:=[
 oD 2 (.mv (.c (.sn)))]
def zA.r3:List Oper:=[
 oD 5 (.bsl 8 0 [.n 0,.n 0,.n 0,.n 0,.n 0,.n 0,.n 0,.n 0] []),
 oD 6 (.mv 0),
 oD 7 (.app 8 64 5 6),
 oD 2 (.mv 7)]
def zA.code:Code:=.seq (.region zA.r0) (.seq (.seq (.region zA.r1) (.cond 4 (.seq (.region zA.r2) (.ret)) (.skip))) (.seq (.region zA.r3) (.ret)))
def zA:Func:=⟨8,[.t 2],zA.code⟩
/-! (*muntin/grid.Grid).Join -/
def zq.r0:List Oper:=[
 oD 10 (.mv (.c (.n 0)))]
def zq.r1:List Oper:=[
 oD 12 (.mv 0),
 oD 13 (.eq false .pt 12 (.c (.pn))),
 oD 11 (.mv 13)]
def zq.r2:List Oper:=[
 oD 10 (.mv (.c (.n 1)))]
def zq.r3:List Oper:=[
 oD 15 (.mv 0),
 oD 16 (.mv 1),
 oD 17 (.mv 2),
 oD 18 (.call (.c (.f 75 [])) [.t 15,.t 16,.t 17]),
 oD 19 (.un .not 18),
 oD 20 (.mv 19),
 ⟨(some 21),.mv 0,(some (20,false))⟩,
 ⟨(some 22),.mv 3,(some (20,false))⟩,
 ⟨(some 23),.mv 2,(some (20,false))⟩,
 ⟨(some 24),.call (.c (.f 75 [])) [.t 21,.t 22,.t 23],(some (20,false))⟩,
 ⟨(some 25),.un .not 24,(some (20,false))⟩,
 oD 26 (.pick 20 (.c (.b true)) 25),
 oD 27 (.mv 26),
 ⟨(some 28),.mv 1,(some (27,false))⟩,
 ⟨(some 29),.mv 3,(some (27,false))⟩,
 ⟨(some 30),.eq false .sc 28 29,(some (27,false))⟩,
 oD 31 (.pick 27 (.c (.b true)) 30),
 oD 32 (.mv 31),
 ⟨(some 33),.mv 4,(some (32,false))⟩,
 ⟨(some 34),.bin .lss 33 (.c (.n (-2))),(some (32,false))⟩,
 oD 35 (.pick 32 (.c (.b true)) 34),
 oD 14 (.mv 35)]
def zq.r4:List Oper:=[
 oD 10 (.mv (.c (.n 2)))]
def zq.r5:List Oper:=[
 oD 37 (.mv 0),
 oD 38 (.nilck 37),
 oD 39 (.fa 0 38),
 oD 40 (.ld false 1 39),
 oD 41 (.mv 1),
 oD 42 (.mv 2),
 oD 43 (.ixa 8 40 41),
 oD 44 (.fa 0 43),
 oD 45 (.ixaa 1 4 44 42),
 oD 46 (.ld false 1 45),
 oD 47 (.eq true .sc 46 (.c (.n (-1)))),
 oD 48 (.mv 47),
 ⟨(some 49),.mv 0,(some (48,false))⟩,
 ⟨(some 50),.nilck 49,(some (48,false))⟩,
 ⟨(some 51),.fa 0 50,(some (48,false))⟩,
 ⟨(some 52),.ld false 1 51,(some (48,false))⟩,
 ⟨(some 53),.mv 3,(some (48,false))⟩,
 ⟨(some 54),.mv 2,(some (48,false))⟩,
 ⟨(some 55),.call (.c (.f 77 [])) [.t 54,.c (.n 2)],(some (48,false))⟩,
 ⟨(some 56),.ixa 8 52 53,(some (48,false))⟩,
 ⟨(some 57),.fa 0 56,(some (48,false))⟩,
 ⟨(some 58),.ixaa 1 4 57 55,(some (48,false))⟩,
 ⟨(some 59),.ld false 1 58,(some (48,false))⟩,
 ⟨(some 60),.eq true .sc 59 (.c (.n (-1))),(some (48,false))⟩,
 oD 61 (.pick 48 (.c (.b true)) 60),
 oD 36 (.mv 61)]
def zq.r6:List Oper:=[
 oD 10 (.mv (.c (.n 9)))]
def zq.r7:List Oper:=[
 oD 62 (.mv 0),
 oD 63 (.mv 1),
 oD 64 (.mv 2),
 oD 65 (.mv 3),
 oD 66 (.mv 4),
 oD 67 (.call (.c (.f 76 [])) [.t 62,.t 63,.t 64,.t 65,.t 66])]
def zq.r8:List Oper:=[
 oD 10 (.mv (.c (.n 0)))]
def zq.code:Code:=.seq (.region zq.r0) (.seq (.block 0 (.seq (.region zq.r1) (.cond 11 (.seq (.region zq.r2) (.ret)) (.seq (.region zq.r3) (.cond 14 (.seq (.region zq.r4) (.ret)) (.seq (.draw zq.r5 [(15,18)]) (.cond 36 (.seq (.region zq.r6) (.ret)) (.skip)))))))) (.seq (.region zq.r7) (.seq (.region zq.r8) (.ret))))
def zq:Func:=⟨68,[.t 10],zq.code⟩
/-! muntin/muntinref10.Join -/
def zu.r0:List Oper:=[
 oD 10 (.mv (.c (.sn))),
 oD 11 (.mv (.c (.n 0)))]
def zu.r1:List Oper:=[
 oD 13 (.mv 1),
 oD 14 (.bin .lss 13 (.c (.n 0))),
 oD 15 (.mv 14),
 ⟨(some 16),.mv 1,(some (15,false))⟩,
 ⟨(some 17),.mv 0,(some (15,false))⟩,
 ⟨(some 18),.len 17,(some (15,false))⟩,
 ⟨(some 19),.bin .geq 16 18,(some (15,false))⟩,
 oD 20 (.pick 15 (.c (.b true)) 19),
 oD 21 (.mv 20),
 ⟨(some 22),.mv 3,(some (21,false))⟩,
 ⟨(some 23),.bin .lss 22 (.c (.n 0)),(some (21,false))⟩,
 oD 24 (.pick 21 (.c (.b true)) 23),
 oD 25 (.mv 24),
 ⟨(some 26),.mv 3,(some (25,false))⟩,
 ⟨(some 27),.mv 0,(some (25,false))⟩,
 ⟨(some 28),.len 27,(some (25,false))⟩,
 ⟨(some 29),.bin .geq 26 28,(some (25,false))⟩,
 oD 30 (.pick 25 (.c (.b true)) 29),
 oD 31 (.mv 30),
 ⟨(some 32),.mv 1,(some (31,false))⟩,
 ⟨(some 33),.mv 3,(some (31,false))⟩,
 ⟨(some 34),.eq false .sc 32 33,(some (31,false))⟩,
 oD 35 (.pick 31 (.c (.b true)) 34),
 oD 36 (.mv 35),
 ⟨(some 37),.mv 2,(some (36,false))⟩,
 ⟨(some 38),.bin .lss 37 (.c (.n 0)),(some (36,false))⟩,
 oD 39 (.pick 36 (.c (.b true)) 38),
 oD 40 (.mv 39),
 ⟨(some 41),.mv 2,(some (40,false))⟩,
 ⟨(some 42),.bin .gtr 41 (.c (.n 3)),(some (40,false))⟩,
 oD 43 (.pick 40 (.c (.b true)) 42),
 oD 44 (.mv 43),
 ⟨(some 45),.mv 4,(some (44,false))⟩,
 ⟨(some 46),.bin .lss 45 (.c (.n (-2))),(some (44,false))⟩,
 oD 47 (.pick 44 (.c (.b true)) 46)]
def zu.r2:List Oper:=[
 oD 48 (.mv 0),
 oD 10 (.mv 48),
 oD 11 (.mv (.c (.n 2)))]
def zu.r3:List Oper:=[
 oD 49 (.mv 0),
 oD 50 (.mv 1),
 oD 51 (.mv 2),
 oD 52 (.ixa 8 49 50),
 oD 53 (.fa 0 52),
 oD 54 (.ixaa 1 4 53 51),
 oD 55 (.ld false 1 54),
 oD 56 (.eq true .sc 55 (.c (.n (-1)))),
 oD 57 (.mv 56),
 ⟨(some 58),.mv 0,(some (57,false))⟩,
 ⟨(some 59),.mv 3,(some (57,false))⟩,
 ⟨(some 60),.mv 2,(some (57,false))⟩,
 ⟨(some 61),.bin .add 60 (.c (.n 2)),(some (57,false))⟩,
 ⟨(some 62),.bin .rem 61 (.c (.n 4)),(some (57,false))⟩,
 ⟨(some 63),.ixa 8 58 59,(some (57,false))⟩,
 ⟨(some 64),.fa 0 63,(some (57,false))⟩,
 ⟨(some 65),.ixaa 1 4 64 62,(some (57,false))⟩,
 ⟨(some 66),.ld false 1 65,(some (57,false))⟩,
 ⟨(some 67),.eq true .sc 66 (.c (.n (-1))),(some (57,false))⟩,
 oD 68 (.pick 57 (.c (.b true)) 67)]
def zu.r4:List Oper:=[
 oD 69 (.mv 0),
 oD 10 (.mv 69),
 oD 11 (.mv (.c (.n 9)))]
def zu.r5:List Oper:=[
 oD 70 (.mv 0),
 oD 71 (.mv 1),
 oD 72 (.mv 2),
 oD 73 (.mv 3),
 oD 74 (.mv 4),
 oD 75 (.call (.c (.f 65 [])) [.t 70,.t 71,.t 72,.t 73,.t 74]),
 oD 12 (.mv 75)]
def zu.r6:List Oper:=[
 oD 76 (.mv 12),
 oD 10 (.mv 76),
 oD 11 (.mv (.c (.n 0)))]
def zu.code:Code:=.seq (.region zu.r0) (.seq (.seq (.region zu.r1) (.cond 47 (.seq (.region zu.r2) (.ret)) (.skip))) (.seq (.seq (.region zu.r3) (.cond 68 (.seq (.region zu.r4) (.ret)) (.skip))) (.seq (.region zu.r5) (.seq (.region zu.r6) (.ret)))))
def zu:Func:=⟨77,[.t 10,.t 11],zu.code⟩
/-! (*muntin/grid.Grid).Next -/
def Za5.r0:List Oper:=[
 oD 6 (.mv (.c (.n 0))),
 oD 7 (.mv (.c (.n 0))),
 oD 8 (.mv (.c (.b false)))]
def Za5.r1:List Oper:=[
 oD 9 (.mv 0),
 oD 10 (.mv 1),
 oD 11 (.mv 2),
 oD 12 (.call (.c (.f 75 [])) [.t 9,.t 10,.t 11]),
 oD 13 (.un .not 12),
 oD 14 (.mv 13),
 ⟨(some 15),.mv 0,(some (14,false))⟩,
 ⟨(some 16),.nilck 15,(some (14,false))⟩,
 ⟨(some 17),.fa 0 16,(some (14,false))⟩,
 ⟨(some 18),.ld false 1 17,(some (14,false))⟩,
 ⟨(some 19),.mv 1,(some (14,false))⟩,
 ⟨(some 20),.mv 2,(some (14,false))⟩,
 ⟨(some 21),.ixa 8 18 19,(some (14,false))⟩,
 ⟨(some 22),.fa 0 21,(some (14,false))⟩,
 ⟨(some 23),.ixaa 1 4 22 20,(some (14,false))⟩,
 ⟨(some 24),.ld false 1 23,(some (14,false))⟩,
 ⟨(some 25),.eq false .sc 24 (.c (.n (-1))),(some (14,false))⟩,
 oD 26 (.pick 14 (.c (.b true)) 25)]
def Za5.r2:List Oper:=[
 oD 6 (.mv (.c (.n 0))),
 oD 7 (.mv (.c (.n 0))),
 oD 8 (.mv (.c (.b false)))]
def Za5.r3:List Oper:=[
 oD 27 (.mv 0),
 oD 28 (.nilck 27),
 oD 29 (.fa 0 28),
 oD 30 (.ld false 1 29),
 oD 31 (.mv 1),
 oD 32 (.mv 2),
 oD 33 (.ixa 8 30 31),
 oD 34 (.fa 0 33),
 oD 35 (.ixaa 1 4 34 32),
 oD 36 (.ld false 1 35),
 oD 37 (.mv 0),
 oD 38 (.nilck 37),
 oD 39 (.fa 0 38),
 oD 40 (.ld false 1 39),
 oD 41 (.mv 1),
 oD 42 (.mv 2),
 oD 43 (.ixa 8 40 41),
 oD 44 (.fa 4 43),
 oD 45 (.ixaa 1 4 44 42),
 oD 46 (.ld false 1 45),
 oD 6 (.mv 36),
 oD 7 (.mv 46),
 oD 8 (.mv (.c (.b true)))]
def Za5.code:Code:=.seq (.region Za5.r0) (.seq (.seq (.region Za5.r1) (.cond 26 (.seq (.region Za5.r2) (.ret)) (.skip))) (.seq (.draw Za5.r3 [(3,13),(9,13),(3,19),(9,19)]) (.ret)))
def Za5:Func:=⟨47,[.t 6,.t 7,.t 8],Za5.code⟩
/-! (*muntin/grid.Grid).Len -/
def ZaF.r0:List Oper:=[
 oD 2 (.mv (.c (.n 0)))]
def ZaF.r1:List Oper:=[
 oD 3 (.mv 0),
 oD 4 (.eq false .pt 3 (.c (.pn)))]
def ZaF.r2:List Oper:=[
 oD 2 (.mv (.c (.n 0)))]
def ZaF.r3:List Oper:=[
 oD 5 (.mv 0),
 oD 6 (.nilck 5),
 oD 7 (.fa 0 6),
 oD 8 (.ld false 1 7),
 oD 9 (.len 8),
 oD 2 (.mv 9)]
def ZaF.code:Code:=.seq (.region ZaF.r0) (.seq (.seq (.region ZaF.r1) (.cond 4 (.seq (.region ZaF.r2) (.ret)) (.skip))) (.seq (.region ZaF.r3) (.ret)))
def ZaF:Func:=⟨10,[.t 2],ZaF.code⟩
/-! (*muntin/grid.Grid).Cells -/
def Zaz.r0:List Oper:=[
 oD 2 (.mv (.c (.sn)))]
def Zaz.r1:List Oper:=[
 oD 3 (.mv 0),
 oD 4 (.eq false .pt 3 (.c (.pn)))]
def Zaz.r2:List Oper:=[
 oD 2 (.mv (.c (.sn)))]
def Zaz.r3:List Oper:=[
 oD 5 (.mv 0),
 oD 6 (.nilck 5),
 oD 7 (.fa 0 6),
 oD 8 (.ld false 1 7),
 oD 9 (.call (.c (.f 51 [])) [.t 8]),
 oD 2 (.mv 9)]
def Zaz.code:Code:=.seq (.region Zaz.r0) (.seq (.seq (.region Zaz.r1) (.cond 4 (.seq (.region Zaz.r2) (.ret)) (.skip))) (.seq (.region Zaz.r3) (.ret)))
def Zaz:Func:=⟨10,[.t 2],Zaz.code⟩
/-! muntin/front.right -/
def ZbQ.r0:List Oper:=[
 oD 2 (.mv (.c (.b false)))]
def ZbQ.r1:List Oper:=[
 oD 3 (.mv 0),
 oD 4 (.call (.c (.f 78 [])) [.t 3,.c (.f 79 [])]),
 oD 5 (.un .not 4),
 oD 2 (.mv 5)]
def ZbQ.code:Code:=.seq (.region ZbQ.r0) (.seq (.region ZbQ.r1) (.ret))
def ZbQ:Func:=⟨6,[.t 2],ZbQ.code⟩
/-! muntin/muntinref10.Nearest -/
def ZC.r0:List Oper:=[
 oD 6 (.mv (.c (.n 0)))]
def ZC.r1:List Oper:=[
 oD 7 (.mv (.c (.n (-1))))]
def ZC.r2:List Oper:=[
 oD 8 (.mv (.c (.n 0)))]
def ZC.r3:List Oper:=[
 oD 9 (.mv 8),
 oD 10 (.mv 0),
 oD 11 (.len 10),
 oD 12 (.bin .lss 9 11)]
def ZC.r5:List Oper:=[
 oD 15 (.mv 2),
 oD 16 (.eq false .sc 15 (.c (.n 0))),
 oD 17 (.mv 16),
 ⟨(some 18),.mv 0,(some (17,true))⟩,
 ⟨(some 19),.mv 8,(some (17,true))⟩,
 ⟨(some 20),.ixa 2 18 19,(some (17,true))⟩,
 ⟨(some 21),.fa 1 20,(some (17,true))⟩,
 ⟨(some 22),.ld false 1 21,(some (17,true))⟩,
 ⟨(some 23),.mv 0,(some (17,true))⟩,
 ⟨(some 24),.mv 1,(some (17,true))⟩,
 ⟨(some 25),.ixa 2 23 24,(some (17,true))⟩,
 ⟨(some 26),.fa 1 25,(some (17,true))⟩,
 ⟨(some 27),.ld false 1 26,(some (17,true))⟩,
 ⟨(some 28),.eq false .sc 22 27,(some (17,true))⟩,
 oD 29 (.pick 17 28 (.c (.b false))),
 oD 30 (.mv 29),
 ⟨(some 31),.mv 0,(some (30,true))⟩,
 ⟨(some 32),.mv 8,(some (30,true))⟩,
 ⟨(some 33),.ixa 2 31 32,(some (30,true))⟩,
 ⟨(some 34),.fa 0 33,(some (30,true))⟩,
 ⟨(some 35),.ld false 1 34,(some (30,true))⟩,
 ⟨(some 36),.mv 0,(some (30,true))⟩,
 ⟨(some 37),.mv 1,(some (30,true))⟩,
 ⟨(some 38),.ixa 2 36 37,(some (30,true))⟩,
 ⟨(some 39),.fa 0 38,(some (30,true))⟩,
 ⟨(some 40),.ld false 1 39,(some (30,true))⟩,
 ⟨(some 41),.bin .gtr 35 40,(some (30,true))⟩,
 oD 42 (.pick 30 41 (.c (.b false))),
 oD 43 (.mv 42),
 ⟨(some 44),.mv 7,(some (43,true))⟩,
 ⟨(some 45),.bin .lss 44 (.c (.n 0)),(some (43,true))⟩,
 ⟨(some 46),.mv 45,(some (43,true))⟩,
 ⟨(some 47),.mv 0,(some (46,false))⟩,
 ⟨(some 48),.mv 8,(some (46,false))⟩,
 ⟨(some 49),.ixa 2 47 48,(some (46,false))⟩,
 ⟨(some 50),.fa 0 49,(some (46,false))⟩,
 ⟨(some 51),.ld false 1 50,(some (46,false))⟩,
 ⟨(some 52),.mv 0,(some (46,false))⟩,
 ⟨(some 53),.mv 7,(some (46,false))⟩,
 ⟨(some 54),.ixa 2 52 53,(some (46,false))⟩,
 ⟨(some 55),.fa 0 54,(some (46,false))⟩,
 ⟨(some 56),.ld false 1 55,(some (46,false))⟩,
 ⟨(some 57),.bin .lss 51 56,(some (46,false))⟩,
 ⟨(some 58),.pick 46 (.c (.b true)) 57,(some (43,true))⟩,
 oD 59 (.pick 43 58 (.c (.b false)))]
def ZC.r6:List Oper:=[
 oD 60 (.mv 8),
 oD 7 (.mv 60)]
def ZC.r7:List Oper:=[
 oD 61 (.mv 2),
 oD 62 (.eq false .sc 61 (.c (.n 1))),
 oD 63 (.mv 62),
 ⟨(some 64),.mv 0,(some (63,true))⟩,
 ⟨(some 65),.mv 8,(some (63,true))⟩,
 ⟨(some 66),.ixa 2 64 65,(some (63,true))⟩,
 ⟨(some 67),.fa 0 66,(some (63,true))⟩,
 ⟨(some 68),.ld false 1 67,(some (63,true))⟩,
 ⟨(some 69),.mv 0,(some (63,true))⟩,
 ⟨(some 70),.mv 1,(some (63,true))⟩,
 ⟨(some 71),.ixa 2 69 70,(some (63,true))⟩,
 ⟨(some 72),.fa 0 71,(some (63,true))⟩,
 ⟨(some 73),.ld false 1 72,(some (63,true))⟩,
 ⟨(some 74),.eq false .sc 68 73,(some (63,true))⟩,
 oD 75 (.pick 63 74 (.c (.b false))),
 oD 76 (.mv 75),
 ⟨(some 77),.mv 0,(some (76,true))⟩,
 ⟨(some 78),.mv 8,(some (76,true))⟩,
 ⟨(some 79),.ixa 2 77 78,(some (76,true))⟩,
 ⟨(some 80),.fa 1 79,(some (76,true))⟩,
 ⟨(some 81),.ld false 1 80,(some (76,true))⟩,
 ⟨(some 82),.mv 0,(some (76,true))⟩,
 ⟨(some 83),.mv 1,(some (76,true))⟩,
 ⟨(some 84),.ixa 2 82 83,(some (76,true))⟩,
 ⟨(some 85),.fa 1 84,(some (76,true))⟩,
 ⟨(some 86),.ld false 1 85,(some (76,true))⟩,
 ⟨(some 87),.bin .gtr 81 86,(some (76,true))⟩,
 oD 88 (.pick 76 87 (.c (.b false))),
 oD 89 (.mv 88),
 ⟨(some 90),.mv 7,(some (89,true))⟩,
 ⟨(some 91),.bin .lss 90 (.c (.n 0)),(some (89,true))⟩,
 ⟨(some 92),.mv 91,(some (89,true))⟩,
 ⟨(some 93),.mv 0,(some (92,false))⟩,
 ⟨(some 94),.mv 8,(some (92,false))⟩,
 ⟨(some 95),.ixa 2 93 94,(some (92,false))⟩,
 ⟨(some 96),.fa 1 95,(some (92,false))⟩,
 ⟨(some 97),.ld false 1 96,(some (92,false))⟩,
 ⟨(some 98),.mv 0,(some (92,false))⟩,
 ⟨(some 99),.mv 7,(some (92,false))⟩,
 ⟨(some 100),.ixa 2 98 99,(some (92,false))⟩,
 ⟨(some 101),.fa 1 100,(some (92,false))⟩,
 ⟨(some 102),.ld false 1 101,(some (92,false))⟩,
 ⟨(some 103),.bin .lss 97 102,(some (92,false))⟩,
 ⟨(some 104),.pick 92 (.c (.b true)) 103,(some (89,true))⟩,
 oD 105 (.pick 89 104 (.c (.b false)))]
def ZC.r8:List Oper:=[
 oD 106 (.mv 8),
 oD 7 (.mv 106)]
def ZC.r4:List Oper:=[
 oD 13 (.mv 8),
 oD 14 (.bin .add 13 (.c (.n 1))),
 oD 8 (.mv 14)]
def ZC.l0:Code:=.seq (.seq (.region ZC.r3) (.cond 12 (.skip) (.exit 0))) (.seq (.block 1 (.seq (.seq (.draw ZC.r5 [(7,12),(20,25),(36,41)]) (.cond 59 (.region ZC.r6) (.skip))) (.seq (.draw ZC.r7 [(7,12),(20,25),(36,41)]) (.cond 105 (.region ZC.r8) (.skip))))) (.region ZC.r4))
def ZC.r9:List Oper:=[
 oD 107 (.mv 7),
 oD 6 (.mv 107)]
def ZC.code:Code:=.seq (.region ZC.r0) (.seq (.region ZC.r1) (.seq (.seq (.region ZC.r2) (.block 0 (.loop ZC.l0))) (.seq (.region ZC.r9) (.ret))))
def ZC:Func:=⟨108,[.t 6],ZC.code⟩
/-! muntin/muntinref10.Crossed -/
def Z0.r0:List Oper:=[
 oD 8 (.mv (.c (.b false)))]
def Z0.r1:List Oper:=[
 oD 9 (.mv (.c (.n 0)))]
def Z0.r2:List Oper:=[
 oD 14 (.mv 9),
 oD 15 (.mv 1),
 oD 16 (.len 15),
 oD 17 (.bin .lss 14 16)]
def Z0.r4:List Oper:=[
 oD 10 (.mv (.c (.n 0)))]
def Z0.r5:List Oper:=[
 oD 20 (.mv 10),
 oD 21 (.bin .lss 20 (.c (.n 2)))]
def Z0.r7:List Oper:=[
 oD 24 (.mv 1),
 oD 25 (.mv 9),
 oD 26 (.mv 10),
 oD 27 (.ixa 8 24 25),
 oD 28 (.fa 0 27),
 oD 29 (.ixaa 1 4 28 26),
 oD 30 (.ld false 1 29),
 oD 11 (.mv 30)]
def Z0.r8:List Oper:=[
 oD 31 (.mv 11),
 oD 32 (.bin .lss 31 (.c (.n 0)))]
def Z0.r9:List Oper:=[
 oD 33 (.mv 0),
 oD 34 (.mv 9),
 oD 35 (.ixa 2 33 34),
 oD 36 (.ld true 2 35),
 oD 12 (.alloc [.n 0,.n 0]),
 oN (.st 2 12 36)]
def Z0.r10:List Oper:=[
 oD 37 (.mv 0),
 oD 38 (.mv 11),
 oD 39 (.ixa 2 37 38),
 oD 40 (.ld true 2 39),
 oD 13 (.alloc [.n 0,.n 0]),
 oN (.st 2 13 40)]
def Z0.r11:List Oper:=[
 oD 41 (.fa 1 12),
 oD 42 (.ld false 1 41),
 oD 43 (.fa 1 13),
 oD 44 (.ld false 1 43),
 oD 45 (.eq false .sc 42 44),
 oD 46 (.mv 45),
 ⟨(some 47),.mv 0,(some (46,true))⟩,
 ⟨(some 48),.mv 2,(some (46,true))⟩,
 ⟨(some 49),.ixa 2 47 48,(some (46,true))⟩,
 ⟨(some 50),.fa 0 49,(some (46,true))⟩,
 ⟨(some 51),.ld false 1 50,(some (46,true))⟩,
 ⟨(some 52),.mv 0,(some (46,true))⟩,
 ⟨(some 53),.mv 3,(some (46,true))⟩,
 ⟨(some 54),.ixa 2 52 53,(some (46,true))⟩,
 ⟨(some 55),.fa 0 54,(some (46,true))⟩,
 ⟨(some 56),.ld false 1 55,(some (46,true))⟩,
 ⟨(some 57),.eq false .sc 51 56,(some (46,true))⟩,
 oD 58 (.pick 46 57 (.c (.b false))),
 oD 59 (.mv 58),
 ⟨(some 60),.fa 0 12,(some (59,true))⟩,
 ⟨(some 61),.ld false 1 60,(some (59,true))⟩,
 ⟨(some 62),.mv 0,(some (59,true))⟩,
 ⟨(some 63),.mv 2,(some (59,true))⟩,
 ⟨(some 64),.ixa 2 62 63,(some (59,true))⟩,
 ⟨(some 65),.fa 0 64,(some (59,true))⟩,
 ⟨(some 66),.ld false 1 65,(some (59,true))⟩,
 ⟨(some 67),.bin .lss 61 66,(some (59,true))⟩,
 oD 68 (.pick 59 67 (.c (.b false))),
 oD 69 (.mv 68),
 ⟨(some 70),.mv 0,(some (69,true))⟩,
 ⟨(some 71),.mv 2,(some (69,true))⟩,
 ⟨(some 72),.ixa 2 70 71,(some (69,true))⟩,
 ⟨(some 73),.fa 0 72,(some (69,true))⟩,
 ⟨(some 74),.ld false 1 73,(some (69,true))⟩,
 ⟨(some 75),.fa 0 13,(some (69,true))⟩,
 ⟨(some 76),.ld false 1 75,(some (69,true))⟩,
 ⟨(some 77),.bin .lss 74 76,(some (69,true))⟩,
 oD 78 (.pick 69 77 (.c (.b false))),
 oD 79 (.mv 78),
 ⟨(some 80),.mv 0,(some (79,true))⟩,
 ⟨(some 81),.mv 2,(some (79,true))⟩,
 ⟨(some 82),.ixa 2 80 81,(some (79,true))⟩,
 ⟨(some 83),.fa 1 82,(some (79,true))⟩,
 ⟨(some 84),.ld false 1 83,(some (79,true))⟩,
 ⟨(some 85),.fa 1 12,(some (79,true))⟩,
 ⟨(some 86),.ld false 1 85,(some (79,true))⟩,
 ⟨(some 87),.bin .lss 84 86,(some (79,true))⟩,
 oD 88 (.pick 79 87 (.c (.b false))),
 oD 89 (.mv 88),
 ⟨(some 90),.fa 1 12,(some (89,true))⟩,
 ⟨(some 91),.ld false 1 90,(some (89,true))⟩,
 ⟨(some 92),.mv 0,(some (89,true))⟩,
 ⟨(some 93),.mv 3,(some (89,true))⟩,
 ⟨(some 94),.ixa 2 92 93,(some (89,true))⟩,
 ⟨(some 95),.fa 1 94,(some (89,true))⟩,
 ⟨(some 96),.ld false 1 95,(some (89,true))⟩,
 ⟨(some 97),.bin .lss 91 96,(some (89,true))⟩,
 oD 98 (.pick 89 97 (.c (.b false)))]
def Z0.r12:List Oper:=[
 oD 8 (.mv (.c (.b true)))]
def Z0.r13:List Oper:=[
 oD 99 (.fa 0 12),
 oD 100 (.ld false 1 99),
 oD 101 (.fa 0 13),
 oD 102 (.ld false 1 101),
 oD 103 (.eq false .sc 100 102),
 oD 104 (.mv 103),
 ⟨(some 105),.mv 0,(some (104,true))⟩,
 ⟨(some 106),.mv 2,(some (104,true))⟩,
 ⟨(some 107),.ixa 2 105 106,(some (104,true))⟩,
 ⟨(some 108),.fa 1 107,(some (104,true))⟩,
 ⟨(some 109),.ld false 1 108,(some (104,true))⟩,
 ⟨(some 110),.mv 0,(some (104,true))⟩,
 ⟨(some 111),.mv 3,(some (104,true))⟩,
 ⟨(some 112),.ixa 2 110 111,(some (104,true))⟩,
 ⟨(some 113),.fa 1 112,(some (104,true))⟩,
 ⟨(some 114),.ld false 1 113,(some (104,true))⟩,
 ⟨(some 115),.eq false .sc 109 114,(some (104,true))⟩,
 oD 116 (.pick 104 115 (.c (.b false))),
 oD 117 (.mv 116),
 ⟨(some 118),.mv 0,(some (117,true))⟩,
 ⟨(some 119),.mv 2,(some (117,true))⟩,
 ⟨(some 120),.ixa 2 118 119,(some (117,true))⟩,
 ⟨(some 121),.fa 0 120,(some (117,true))⟩,
 ⟨(some 122),.ld false 1 121,(some (117,true))⟩,
 ⟨(some 123),.fa 0 12,(some (117,true))⟩,
 ⟨(some 124),.ld false 1 123,(some (117,true))⟩,
 ⟨(some 125),.bin .lss 122 124,(some (117,true))⟩,
 oD 126 (.pick 117 125 (.c (.b false))),
 oD 127 (.mv 126),
 ⟨(some 128),.fa 0 12,(some (127,true))⟩,
 ⟨(some 129),.ld false 1 128,(some (127,true))⟩,
 ⟨(some 130),.mv 0,(some (127,true))⟩,
 ⟨(some 131),.mv 3,(some (127,true))⟩,
 ⟨(some 132),.ixa 2 130 131,(some (127,true))⟩,
 ⟨(some 133),.fa 0 132,(some (127,true))⟩,
 ⟨(some 134),.ld false 1 133,(some (127,true))⟩,
 ⟨(some 135),.bin .lss 129 134,(some (127,true))⟩,
 oD 136 (.pick 127 135 (.c (.b false))),
 oD 137 (.mv 136),
 ⟨(some 138),.fa 1 12,(some (137,true))⟩,
 ⟨(some 139),.ld false 1 138,(some (137,true))⟩,
 ⟨(some 140),.mv 0,(some (137,true))⟩,
 ⟨(some 141),.mv 2,(some (137,true))⟩,
 ⟨(some 142),.ixa 2 140 141,(some (137,true))⟩,
 ⟨(some 143),.fa 1 142,(some (137,true))⟩,
 ⟨(some 144),.ld false 1 143,(some (137,true))⟩,
 ⟨(some 145),.bin .lss 139 144,(some (137,true))⟩,
 oD 146 (.pick 137 145 (.c (.b false))),
 oD 147 (.mv 146),
 ⟨(some 148),.mv 0,(some (147,true))⟩,
 ⟨(some 149),.mv 2,(some (147,true))⟩,
 ⟨(some 150),.ixa 2 148 149,(some (147,true))⟩,
 ⟨(some 151),.fa 1 150,(some (147,true))⟩,
 ⟨(some 152),.ld false 1 151,(some (147,true))⟩,
 ⟨(some 153),.fa 1 13,(some (147,true))⟩,
 ⟨(some 154),.ld false 1 153,(some (147,true))⟩,
 ⟨(some 155),.bin .lss 152 154,(some (147,true))⟩,
 oD 156 (.pick 147 155 (.c (.b false)))]
def Z0.r14:List Oper:=[
 oD 8 (.mv (.c (.b true)))]
def Z0.r6:List Oper:=[
 oD 22 (.mv 10),
 oD 23 (.bin .add 22 (.c (.n 1))),
 oD 10 (.mv 23)]
def Z0.l0:Code:=.seq (.seq (.region Z0.r5) (.cond 21 (.skip) (.exit 2))) (.seq (.block 3 (.seq (.region Z0.r7) (.seq (.seq (.region Z0.r8) (.cond 32 (.exit 3) (.skip))) (.seq (.region Z0.r9) (.seq (.region Z0.r10) (.seq (.seq (.draw Z0.r11 [(1,3),(10,15),(20,25),(33,35),(43,45),(50,55)]) (.cond 98 (.seq (.region Z0.r12) (.ret)) (.skip))) (.seq (.draw Z0.r13 [(1,3),(10,15),(23,25),(30,35),(40,45),(53,55)]) (.cond 156 (.seq (.region Z0.r14) (.ret)) (.skip))))))))) (.region Z0.r6))
def Z0.r3:List Oper:=[
 oD 18 (.mv 9),
 oD 19 (.bin .add 18 (.c (.n 1))),
 oD 9 (.mv 19)]
def Z0.l1:Code:=.seq (.seq (.region Z0.r2) (.cond 17 (.skip) (.exit 0))) (.seq (.block 1 (.seq (.region Z0.r4) (.block 2 (.loop Z0.l0)))) (.region Z0.r3))
def Z0.r15:List Oper:=[
 oD 8 (.mv (.c (.b false)))]
def Z0.code:Code:=.seq (.region Z0.r0) (.seq (.seq (.region Z0.r1) (.block 0 (.loop Z0.l1))) (.seq (.region Z0.r15) (.ret)))
def Z0:Func:=⟨157,[.t 8],Z0.code⟩
/-! muntin/muntinref10.with -/
def Z9.r0:List Oper:=[
 oD 10 (.mv (.c (.sn)))]
def Z9.r1:List Oper:=[
 oD 11 (.mv (.c (.sn)))]
def Z9.r2:List Oper:=[
 oD 12 (.mv (.c (.n 0)))]
def Z9.r3:List Oper:=[
 oD 14 (.mv 12),
 oD 15 (.mv 0),
 oD 16 (.len 15),
 oD 17 (.bin .lss 14 16)]
def Z9.r5:List Oper:=[
 oD 20 (.mv 0),
 oD 21 (.mv 12),
 oD 22 (.ixa 8 20 21),
 oD 23 (.ld true 8 22),
 oD 13 (.alloc [.n 0,.n 0,.n 0,.n 0,.n 0,.n 0,.n 0,.n 0]),
 oN (.st 8 13 23)]
def Z9.r6:List Oper:=[
 oD 24 (.mv 12),
 oD 25 (.mv 1),
 oD 26 (.eq false .sc 24 25)]
def Z9.r7:List Oper:=[
 oD 27 (.mv 2),
 oD 28 (.mv 3),
 oD 29 (.fa 0 13),
 oD 30 (.ixaa 1 4 29 27),
 oN (.st 1 30 28)]
def Z9.r8:List Oper:=[
 oD 31 (.mv 2),
 oD 32 (.mv 4),
 oD 33 (.fa 4 13),
 oD 34 (.ixaa 1 4 33 31),
 oN (.st 1 34 32)]
def Z9.r9:List Oper:=[
 oD 35 (.mv 12),
 oD 36 (.mv 3),
 oD 37 (.eq false .sc 35 36)]
def Z9.r10:List Oper:=[
 oD 38 (.mv 2),
 oD 39 (.bin .add 38 (.c (.n 2))),
 oD 40 (.bin .rem 39 (.c (.n 4))),
 oD 41 (.mv 1),
 oD 42 (.fa 0 13),
 oD 43 (.ixaa 1 4 42 40),
 oN (.st 1 43 41)]
def Z9.r11:List Oper:=[
 oD 44 (.mv 2),
 oD 45 (.bin .add 44 (.c (.n 2))),
 oD 46 (.bin .rem 45 (.c (.n 4))),
 oD 47 (.mv 4),
 oD 48 (.fa 4 13),
 oD 49 (.ixaa 1 4 48 46),
 oN (.st 1 49 47)]
def Z9.r12:List Oper:=[
 oD 50 (.mv 11),
 oD 51 (.ld true 8 13),
 oD 52 (.bsl 8 1 [.n 0,.n 0,.n 0,.n 0,.n 0,.n 0,.n 0,.n 0] [(0,8,.t 51)]),
 oD 53 (.app 8 64 50 52),
 oD 11 (.mv 53)]
def Z9.r4:List Oper:=[
 oD 18 (.mv 12),
 oD 19 (.bin .add 18 (.c (.n 1))),
 oD 12 (.mv 19)]
def Z9.l0:Code:=.seq (.seq (.region Z9.r3) (.cond 17 (.skip) (.exit 0))) (.seq (.block 1 (.seq (.region Z9.r5) (.seq (.seq (.region Z9.r6) (.cond 26 (.seq (.region Z9.r7) (.region Z9.r8)) (.skip))) (.seq (.seq (.region Z9.r9) (.cond 37 (.seq (.region Z9.r10) (.region Z9.r11)) (.skip))) (.region Z9.r12))))) (.region Z9.r4))
def Z9.r13:List Oper:=[
 oD 54 (.mv 11),
 oD 10 (.mv 54)]
def Z9.code:Code:=.seq (.region Z9.r0) (.seq (.region Z9.r1) (.seq (.seq (.region Z9.r2) (.block 0 (.loop Z9.l0))) (.seq (.region Z9.r13) (.ret))))
def Z9:Func:=⟨55,[.t 10],Z9.code⟩
/-! muntin/grid.Check -/
def zd.r0:List Oper:=[
 oD 2 (.mv (.c (.n 0)))]
def zd.r1:List Oper:=[
 oD 6 (.mv 0),
 oD 7 (.len 6),
 oD 8 (.bin .gtr 7 (.c (.n 4096)))]
def zd.r2:List Oper:=[
 oD 2 (.mv (.c (.n 6)))]
def zd.r3:List Oper:=[
 oD 9 (.mv 0),
 oD 10 (.len 9),
 oD 11 (.mv (.c (.n 0)))]
def zd.r4:List Oper:=[
 oD 12 (.bin .lss 11 10)]
def zd.r5:List Oper:=[
 oD 13 (.mv 11),
 oD 3 (.mv 13)]
def zd.r6:List Oper:=[
 oD 14 (.mv (.c (.n 0)))]
def zd.r7:List Oper:=[
 oD 15 (.bin .lss 14 (.c (.n 4)))]
def zd.r8:List Oper:=[
 oD 16 (.mv 14),
 oD 4 (.mv 16)]
def zd.r9:List Oper:=[
 oD 17 (.mv 0),
 oD 18 (.mv 3),
 oD 19 (.mv 4),
 oD 20 (.call (.c (.f 82 [])) [.t 17,.t 18,.t 19]),
 oD 5 (.mv 20)]
def zd.r10:List Oper:=[
 oD 21 (.mv 5),
 oD 22 (.eq true .sc 21 (.c (.n 0)))]
def zd.r11:List Oper:=[
 oD 23 (.mv 5),
 oD 2 (.mv 23)]
def zd.r12:List Oper:=[
 oD 24 (.bin .add 14 (.c (.n 1))),
 oD 14 (.mv 24)]
def zd.l0:Code:=.seq (.region zd.r7) (.seq (.cond 15 (.skip) (.exit 2)) (.seq (.block 3 (.seq (.region zd.r8) (.seq (.region zd.r9) (.seq (.region zd.r10) (.cond 22 (.seq (.region zd.r11) (.ret)) (.skip)))))) (.region zd.r12)))
def zd.r13:List Oper:=[
 oD 25 (.bin .add 11 (.c (.n 1))),
 oD 11 (.mv 25)]
def zd.l1:Code:=.seq (.region zd.r4) (.seq (.cond 12 (.skip) (.exit 0)) (.seq (.block 1 (.seq (.region zd.r5) (.seq (.region zd.r6) (.block 2 (.loop zd.l0))))) (.region zd.r13)))
def zd.r14:List Oper:=[
 oD 2 (.mv (.c (.n 0)))]
def zd.code:Code:=.seq (.region zd.r0) (.seq (.seq (.region zd.r1) (.cond 8 (.seq (.region zd.r2) (.ret)) (.skip))) (.seq (.seq (.region zd.r3) (.block 0 (.loop zd.l1))) (.seq (.region zd.r14) (.ret))))
def zd:Func:=⟨26,[.t 2],zd.code⟩
/-! muntin/join.spread -/
def ZL.r0:List Oper:=[
 oD 4 (.mv (.c (.sn))),
 oD 5 (.mv (.c (.sn)))]
def ZL.r1:List Oper:=[
 oD 13 (.bsl 1 1 [.n 0] [(0,1,.c (.n (-1)))]),
 oD 14 (.mv 0),
 oD 15 (.len 14),
 oD 16 (.call (.c (.f 83 [])) [.t 13,.t 15]),
 oD 17 (.bsl 1 1 [.n 0] [(0,1,.c (.n (-1)))]),
 oD 18 (.mv 0),
 oD 19 (.len 18),
 oD 20 (.call (.c (.f 83 [])) [.t 17,.t 19]),
 oD 6 (.mv 16),
 oD 7 (.mv 20)]
def ZL.r2:List Oper:=[
 oD 21 (.mv 1),
 oD 22 (.bsl 1 1 [.n 0] [(0,1,.t 21)]),
 oD 8 (.mv 22)]
def ZL.r3:List Oper:=[
 oD 23 (.mv 0),
 oD 24 (.len 23),
 oD 25 (.mks 1 1 [.b false] 24 24),
 oD 9 (.mv 25)]
def ZL.r4:List Oper:=[
 oD 26 (.mv 9),
 oD 27 (.mv 1),
 oD 28 (.ixa 1 26 27),
 oN (.st 1 28 (.c (.b true)))]
def ZL.r5:List Oper:=[
 oD 29 (.mv 8),
 oD 30 (.len 29),
 oD 31 (.bin .gtr 30 (.c (.n 0)))]
def ZL.r6:List Oper:=[
 oD 32 (.mv 8),
 oD 33 (.ixa 1 32 (.c (.n 0))),
 oD 34 (.ld false 1 33),
 oD 10 (.mv 34)]
def ZL.r7:List Oper:=[
 oD 35 (.mv 8),
 oD 36 (.slc 1 35 (some (.c (.n 1))) none none),
 oD 8 (.mv 36)]
def ZL.r8:List Oper:=[
 oD 37 (.mv (.c (.n 0)))]
def ZL.r9:List Oper:=[
 oD 38 (.bin .lss 37 (.c (.n 4)))]
def ZL.r10:List Oper:=[
 oD 39 (.mv 37),
 oD 11 (.mv 39)]
def ZL.r11:List Oper:=[
 oD 40 (.mv 0),
 oD 41 (.mv 10),
 oD 42 (.mv 11),
 oD 43 (.ixa 8 40 41),
 oD 44 (.fa 0 43),
 oD 45 (.ixaa 1 4 44 42),
 oD 46 (.ld false 1 45),
 oD 12 (.mv 46)]
def ZL.r12:List Oper:=[
 oD 47 (.mv 12),
 oD 48 (.bin .geq 47 (.c (.n 0))),
 oD 49 (.mv 48),
 ⟨(some 50),.mv 9,(some (49,true))⟩,
 ⟨(some 51),.mv 12,(some (49,true))⟩,
 ⟨(some 52),.ixa 1 50 51,(some (49,true))⟩,
 ⟨(some 53),.ld false 1 52,(some (49,true))⟩,
 ⟨(some 54),.un .not 53,(some (49,true))⟩,
 oD 55 (.pick 49 54 (.c (.b false)))]
def ZL.r13:List Oper:=[
 oD 56 (.mv 9),
 oD 57 (.mv 12),
 oD 58 (.mv 6),
 oD 59 (.mv 12),
 oD 60 (.mv 7),
 oD 61 (.mv 12),
 oD 62 (.mv 10),
 oD 63 (.mv 11),
 oD 64 (.ixa 1 56 57),
 oN (.st 1 64 (.c (.b true))),
 oD 65 (.ixa 1 58 59),
 oN (.st 1 65 62),
 oD 66 (.ixa 1 60 61),
 oN (.st 1 66 63)]
def ZL.r14:List Oper:=[
 oD 67 (.mv 8),
 oD 68 (.mv 12),
 oD 69 (.bsl 1 1 [.n 0] [(0,1,.t 68)]),
 oD 70 (.app 1 8 67 69),
 oD 8 (.mv 70)]
def ZL.r15:List Oper:=[
 oD 71 (.bin .add 37 (.c (.n 1))),
 oD 37 (.mv 71)]
def ZL.l0:Code:=.seq (.region ZL.r9) (.seq (.cond 38 (.skip) (.exit 2)) (.seq (.block 3 (.seq (.region ZL.r10) (.seq (.region ZL.r11) (.seq (.region ZL.r12) (.cond 55 (.seq (.region ZL.r13) (.region ZL.r14)) (.skip)))))) (.region ZL.r15)))
def ZL.l1:Code:=.seq (.seq (.region ZL.r5) (.cond 31 (.skip) (.exit 0))) (.block 1 (.seq (.region ZL.r6) (.seq (.region ZL.r7) (.seq (.region ZL.r8) (.block 2 (.loop ZL.l0))))))
def ZL.r16:List Oper:=[
 oD 72 (.mv 6),
 oD 73 (.mv 7),
 oD 4 (.mv 72),
 oD 5 (.mv 73)]
def ZL.code:Code:=.seq (.region ZL.r0) (.seq (.region ZL.r1) (.seq (.region ZL.r2) (.seq (.region ZL.r3) (.seq (.region ZL.r4) (.seq (.block 0 (.loop ZL.l1)) (.seq (.region ZL.r16) (.ret)))))))
def ZL:Func:=⟨74,[.t 4,.t 5],ZL.code⟩
/-! muntin/grid.empty -/
def ZbY.r0:List Oper:=[
 oD 0 (.alloc [.n 0,.n 0,.n 0,.n 0,.n 0,.n 0,.n 0,.n 0])]
def ZbY.r1:List Oper:=[
 oD 1 (.build [.n 0,.n 0,.n 0,.n 0] [(0,1,.c (.n (-1))),(1,1,.c (.n (-1))),(2,1,.c (.n (-1))),(3,1,.c (.n (-1)))]),
 oD 2 (.build [.n 0,.n 0,.n 0,.n 0,.n 0,.n 0,.n 0,.n 0] [(0,4,.t 1)]),
 oN (.st 8 0 2)]
def ZbY.code:Code:=.seq (.region ZbY.r0) (.seq (.region ZbY.r1) (.ret))
def ZbY:Func:=⟨3,[.cell 0 true 8],ZbY.code⟩
/-! (*muntin/grid.Grid).is -/
def ZbB.r0:List Oper:=[
 oD 6 (.mv (.c (.b false)))]
def ZbB.r1:List Oper:=[
 oD 7 (.mv 1),
 oD 8 (.bin .geq 7 (.c (.n 0))),
 oD 9 (.mv 8),
 ⟨(some 10),.mv 1,(some (9,true))⟩,
 ⟨(some 11),.mv 0,(some (9,true))⟩,
 ⟨(some 12),.call (.c (.f 55 [])) [.t 11],(some (9,true))⟩,
 ⟨(some 13),.bin .lss 10 12,(some (9,true))⟩,
 oD 14 (.pick 9 13 (.c (.b false))),
 oD 15 (.mv 14),
 ⟨(some 16),.mv 2,(some (15,true))⟩,
 ⟨(some 17),.call (.c (.f 90 [])) [.t 16],(some (15,true))⟩,
 oD 18 (.pick 15 17 (.c (.b false))),
 oD 6 (.mv 18)]
def ZbB.code:Code:=.seq (.region ZbB.r0) (.seq (.region ZbB.r1) (.ret))
def ZbB:Func:=⟨19,[.t 6],ZbB.code⟩
/-! (*muntin/grid.Grid).lay -/
def Zbc.r0:List Oper:=[
 oD 11 (.mv 2),
 oD 12 (.call (.c (.f 77 [])) [.t 11,.c (.n 2)]),
 oD 10 (.mv 12)]
def Zbc.r1:List Oper:=[
 oD 13 (.mv 0),
 oD 14 (.nilck 13),
 oD 15 (.fa 0 14),
 oD 16 (.ld false 1 15),
 oD 17 (.mv 1),
 oD 18 (.mv 2),
 oD 19 (.mv 0),
 oD 20 (.nilck 19),
 oD 21 (.fa 0 20),
 oD 22 (.ld false 1 21),
 oD 23 (.mv 1),
 oD 24 (.mv 2),
 oD 25 (.mv 3),
 oD 26 (.mv 4),
 oD 27 (.ixa 8 16 17),
 oD 28 (.fa 0 27),
 oD 29 (.ixaa 1 4 28 18),
 oN (.st 1 29 25),
 oD 30 (.ixa 8 22 23),
 oD 31 (.fa 4 30),
 oD 32 (.ixaa 1 4 31 24),
 oN (.st 1 32 26)]
def Zbc.r2:List Oper:=[
 oD 33 (.mv 0),
 oD 34 (.nilck 33),
 oD 35 (.fa 0 34),
 oD 36 (.ld false 1 35),
 oD 37 (.mv 3),
 oD 38 (.mv 10),
 oD 39 (.mv 0),
 oD 40 (.nilck 39),
 oD 41 (.fa 0 40),
 oD 42 (.ld false 1 41),
 oD 43 (.mv 3),
 oD 44 (.mv 10),
 oD 45 (.mv 1),
 oD 46 (.mv 4),
 oD 47 (.ixa 8 36 37),
 oD 48 (.fa 0 47),
 oD 49 (.ixaa 1 4 48 38),
 oN (.st 1 49 45),
 oD 50 (.ixa 8 42 43),
 oD 51 (.fa 4 50),
 oD 52 (.ixaa 1 4 51 44),
 oN (.st 1 52 46)]
def Zbc.code:Code:=.seq (.region Zbc.r0) (.seq (.draw Zbc.r1 [(3,9)]) (.draw Zbc.r2 [(3,9)]))
def Zbc:Func:=⟨53,[],Zbc.code⟩
/-! muntin/compass.Left -/
def ZaR.r0:List Oper:=[
 oD 4 (.mv (.c (.n 0)))]
def ZaR.r1:List Oper:=[
 oD 5 (.mv 0),
 oD 6 (.call (.c (.f 90 [])) [.t 5]),
 oD 7 (.un .not 6)]
def ZaR.r2:List Oper:=[
 oD 4 (.mv (.c (.n 0)))]
def ZaR.r3:List Oper:=[
 oD 8 (.mv 0),
 oD 9 (.mv 1),
 oD 10 (.bin .rem 9 (.c (.n 4))),
 oD 11 (.bin .add 8 10),
 oD 12 (.bin .add 11 (.c (.n 4))),
 oD 13 (.bin .rem 12 (.c (.n 4))),
 oD 4 (.mv 13)]
def ZaR.code:Code:=.seq (.region ZaR.r0) (.seq (.seq (.region ZaR.r1) (.cond 7 (.seq (.region ZaR.r2) (.ret)) (.skip))) (.seq (.region ZaR.r3) (.ret)))
def ZaR:Func:=⟨14,[.t 4],ZaR.code⟩
/-! slices.ContainsFunc[[]int,int] -/
def Zan.r0:List Oper:=[
 oD 4 (.mv (.c (.b false)))]
def Zan.r1:List Oper:=[
 oD 5 (.mv 0),
 oD 6 (.mv 1),
 oD 7 (.call (.c (.f 91 [])) [.t 5,.t 6]),
 oD 8 (.bin .geq 7 (.c (.n 0))),
 oD 4 (.mv 8)]
def Zan.code:Code:=.seq (.region Zan.r0) (.seq (.region Zan.r1) (.ret))
def Zan:Func:=⟨9,[.t 4],Zan.code⟩
/-! muntin/front.right$1 -/
def Zbu.r0:List Oper:=[
 oD 2 (.mv (.c (.b false)))]
def Zbu.r1:List Oper:=[
 oD 3 (.mv 0),
 oD 4 (.bin .lss 3 (.c (.n (-2)))),
 oD 5 (.mv 4),
 ⟨(some 6),.mv 0,(some (5,false))⟩,
 ⟨(some 7),.bin .gtr 6 (.c (.n 1)),(some (5,false))⟩,
 oD 8 (.pick 5 (.c (.b true)) 7),
 oD 2 (.mv 8)]
def Zbu.code:Code:=.seq (.region Zbu.r0) (.seq (.region Zbu.r1) (.ret))
def Zbu:Func:=⟨9,[.t 2],Zbu.code⟩
/-! muntin/grid.side -/
def zK.r0:List Oper:=[
 oD 6 (.mv (.c (.n 0)))]
def zK.r1:List Oper:=[
 oD 10 (.mv 0),
 oD 11 (.mv 1),
 oD 12 (.mv 2),
 oD 13 (.ixa 8 10 11),
 oD 14 (.fa 0 13),
 oD 15 (.ixaa 1 4 14 12),
 oD 16 (.ld false 1 15),
 oD 17 (.mv 0),
 oD 18 (.mv 1),
 oD 19 (.mv 2),
 oD 20 (.ixa 8 17 18),
 oD 21 (.fa 4 20),
 oD 22 (.ixaa 1 4 21 19),
 oD 23 (.ld false 1 22),
 oD 7 (.mv 16),
 oD 8 (.mv 23)]
def zK.r2:List Oper:=[
 oD 24 (.mv 7),
 oD 25 (.eq false .sc 24 (.c (.n (-1))))]
def zK.r3:List Oper:=[
 oD 26 (.mv 8),
 oD 27 (.eq true .sc 26 (.c (.n 0)))]
def zK.r4:List Oper:=[
 oD 6 (.mv (.c (.n 9)))]
def zK.r5:List Oper:=[
 oD 6 (.mv (.c (.n 0)))]
def zK.r6:List Oper:=[
 oD 28 (.mv 7),
 oD 29 (.bin .lss 28 (.c (.n 0))),
 oD 30 (.mv 29),
 ⟨(some 31),.mv 7,(some (30,false))⟩,
 ⟨(some 32),.mv 0,(some (30,false))⟩,
 ⟨(some 33),.len 32,(some (30,false))⟩,
 ⟨(some 34),.bin .geq 31 33,(some (30,false))⟩,
 oD 35 (.pick 30 (.c (.b true)) 34),
 oD 36 (.mv 35),
 ⟨(some 37),.mv 7,(some (36,false))⟩,
 ⟨(some 38),.mv 1,(some (36,false))⟩,
 ⟨(some 39),.eq false .sc 37 38,(some (36,false))⟩,
 oD 40 (.pick 36 (.c (.b true)) 39)]
def zK.r7:List Oper:=[
 oD 6 (.mv (.c (.n 3)))]
def zK.r8:List Oper:=[
 oD 41 (.mv 2),
 oD 42 (.call (.c (.f 77 [])) [.t 41,.c (.n 2)]),
 oD 9 (.mv 42)]
def zK.r9:List Oper:=[
 oD 43 (.mv 0),
 oD 44 (.mv 7),
 oD 45 (.mv 9),
 oD 46 (.ixa 8 43 44),
 oD 47 (.fa 0 46),
 oD 48 (.ixaa 1 4 47 45),
 oD 49 (.ld false 1 48),
 oD 50 (.mv 1),
 oD 51 (.eq true .sc 49 50),
 oD 52 (.mv 51),
 ⟨(some 53),.mv 0,(some (52,false))⟩,
 ⟨(some 54),.mv 7,(some (52,false))⟩,
 ⟨(some 55),.mv 9,(some (52,false))⟩,
 ⟨(some 56),.ixa 8 53 54,(some (52,false))⟩,
 ⟨(some 57),.fa 4 56,(some (52,false))⟩,
 ⟨(some 58),.ixaa 1 4 57 55,(some (52,false))⟩,
 ⟨(some 59),.ld false 1 58,(some (52,false))⟩,
 ⟨(some 60),.mv 8,(some (52,false))⟩,
 ⟨(some 61),.eq true .sc 59 60,(some (52,false))⟩,
 oD 62 (.pick 52 (.c (.b true)) 61),
 oD 63 (.mv 62),
 ⟨(some 64),.mv 8,(some (63,false))⟩,
 ⟨(some 65),.bin .lss 64 (.c (.n (-2))),(some (63,false))⟩,
 oD 66 (.pick 63 (.c (.b true)) 65)]
def zK.r10:List Oper:=[
 oD 6 (.mv (.c (.n 9)))]
def zK.r11:List Oper:=[
 oD 6 (.mv (.c (.n 0)))]
def zK.code:Code:=.seq (.region zK.r0) (.seq (.draw zK.r1 [(6,13)]) (.seq (.seq (.region zK.r2) (.cond 25 (.seq (.seq (.region zK.r3) (.cond 27 (.seq (.region zK.r4) (.ret)) (.skip))) (.seq (.region zK.r5) (.ret))) (.skip))) (.seq (.seq (.region zK.r6) (.cond 40 (.seq (.region zK.r7) (.ret)) (.skip))) (.seq (.region zK.r8) (.seq (.seq (.region zK.r9) (.cond 66 (.seq (.region zK.r10) (.ret)) (.skip))) (.seq (.region zK.r11) (.ret)))))))
def zK:Func:=⟨67,[.t 6],zK.code⟩
/-! slices.Repeat[[]int,int] -/
def ZG.r0:List Oper:=[
 oD 4 (.mv (.c (.sn)))]
def ZG.r1:List Oper:=[
 oD 9 (.mv 1),
 oD 10 (.bin .lss 9 (.c (.n 0)))]
def ZG.r2:List Oper:=[
 oD 11 (.bad),
 oN (.bad)]
def ZG.r3:List Oper:=[
 oD 13 (.mv 0),
 oD 14 (.len 13),
 oD 15 (.conv .u64 14),
 oD 16 (.mv 1),
 oD 17 (.conv .u64 16),
 oD 18 (.call (.c (.f 89 [])) [.t 15,.t 17]),
 oD 12 (.mv 18),
 oD 19 (.ext 12 0),
 oD 20 (.ext 12 1),
 oD 5 (.mv 19),
 oD 6 (.mv 20)]
def ZG.r4:List Oper:=[
 oD 21 (.mv 5),
 oD 22 (.bin .gtr 21 (.c (.i .u64 0))),
 oD 23 (.mv 22),
 ⟨(some 24),.mv 6,(some (23,false))⟩,
 ⟨(some 25),.bin .gtr 24 (.c (.i .u64 9223372036854775807)),(some (23,false))⟩,
 oD 26 (.pick 23 (.c (.b true)) 25)]
def ZG.r5:List Oper:=[
 oD 27 (.bad),
 oN (.bad)]
def ZG.r6:List Oper:=[
 oD 28 (.mv 6),
 oD 29 (.conv .i64 28),
 oD 30 (.mks 1 8 [.n 0] 29 29),
 oD 7 (.mv 30)]
def ZG.r7:List Oper:=[
 oD 31 (.mv 7),
 oD 32 (.mv 0),
 oD 33 (.cpy 1 31 32),
 oD 8 (.mv 33)]
def ZG.r8:List Oper:=[
 oD 34 (.mv 8),
 oD 35 (.mv 7),
 oD 36 (.len 35),
 oD 37 (.bin .lss 34 36)]
def ZG.r9:List Oper:=[
 oD 38 (.mv 8),
 oD 39 (.mv 7),
 oD 40 (.mv 8),
 oD 41 (.slc 1 39 (some 40) none none),
 oD 42 (.mv 7),
 oD 43 (.mv 8),
 oD 44 (.slc 1 42 none (some 43) none),
 oD 45 (.cpy 1 41 44),
 oD 46 (.bin .add 38 45),
 oD 8 (.mv 46)]
def ZG.l0:Code:=.seq (.seq (.region ZG.r8) (.cond 37 (.skip) (.exit 0))) (.block 1 (.draw ZG.r9 []))
def ZG.r10:List Oper:=[
 oD 47 (.mv 7),
 oD 4 (.mv 47)]
def ZG.code:Code:=.seq (.region ZG.r0) (.seq (.seq (.region ZG.r1) (.cond 10 (.region ZG.r2) (.skip))) (.seq (.region ZG.r3) (.seq (.seq (.region ZG.r4) (.cond 26 (.region ZG.r5) (.skip))) (.seq (.region ZG.r6) (.seq (.region ZG.r7) (.seq (.block 0 (.loop ZG.l0)) (.seq (.region ZG.r10) (.ret))))))))
def ZG:Func:=⟨48,[.t 4],ZG.code⟩
/-! math/bits.Mul -/
def Zb2.r0:List Oper:=[
 oD 4 (.mv (.c (.i .u64 0))),
 oD 5 (.mv (.c (.i .u64 0)))]
def Zb2.r1:List Oper:=[
 oD 11 (.mv 0),
 oD 12 (.conv .u32 11),
 oD 13 (.mv 1),
 oD 14 (.conv .u32 13),
 oD 15 (.call (.c (.f 97 [])) [.t 12,.t 14]),
 oD 10 (.mv 15),
 oD 16 (.ext 10 0),
 oD 17 (.ext 10 1),
 oD 6 (.mv 16),
 oD 7 (.mv 17)]
def Zb2.r2:List Oper:=[
 oD 18 (.mv 6),
 oD 19 (.conv .u64 18),
 oD 20 (.mv 7),
 oD 21 (.conv .u64 20),
 oD 4 (.mv 19),
 oD 5 (.mv 21)]
def Zb2.r3:List Oper:=[
 oD 23 (.mv 0),
 oD 24 (.mv 1),
 oD 25 (.call (.c (.f 98 [])) [.t 23,.t 24]),
 oD 22 (.mv 25),
 oD 26 (.ext 22 0),
 oD 27 (.ext 22 1),
 oD 8 (.mv 26),
 oD 9 (.mv 27)]
def Zb2.r4:List Oper:=[
 oD 28 (.mv 8),
 oD 29 (.mv 9),
 oD 4 (.mv 28),
 oD 5 (.mv 29)]
def Zb2.code:Code:=.seq (.region Zb2.r0) (.seq (.cond (.c (.b false)) (.seq (.region Zb2.r1) (.seq (.region Zb2.r2) (.ret))) (.skip)) (.seq (.region Zb2.r3) (.seq (.region Zb2.r4) (.ret))))
def Zb2:Func:=⟨30,[.t 4,.t 5],Zb2.code⟩
/-! muntin/compass.Good -/
def Zb9.r0:List Oper:=[
 oD 2 (.mv (.c (.b false)))]
def Zb9.r1:List Oper:=[
 oD 3 (.mv 0),
 oD 4 (.bin .geq 3 (.c (.n 0))),
 oD 5 (.mv 4),
 ⟨(some 6),.mv 0,(some (5,true))⟩,
 ⟨(some 7),.bin .leq 6 (.c (.n 3)),(some (5,true))⟩,
 oD 8 (.pick 5 7 (.c (.b false))),
 oD 2 (.mv 8)]
def Zb9.code:Code:=.seq (.region Zb9.r0) (.seq (.region Zb9.r1) (.ret))
def Zb9:Func:=⟨9,[.t 2],Zb9.code⟩
/-! slices.IndexFunc[[]int,int] -/
def ZO.r0:List Oper:=[
 oD 4 (.mv (.c (.n 0)))]
def ZO.r1:List Oper:=[
 oD 6 (.mv 0),
 oD 7 (.len 6),
 oD 8 (.mv (.c (.n 0)))]
def ZO.r2:List Oper:=[
 oD 9 (.bin .lss 8 7)]
def ZO.r3:List Oper:=[
 oD 10 (.mv 8),
 oD 5 (.mv 10)]
def ZO.r4:List Oper:=[
 oD 11 (.mv 1),
 oD 12 (.mv 0),
 oD 13 (.mv 5),
 oD 14 (.ixa 1 12 13),
 oD 15 (.ld false 1 14),
 oD 16 (.call 11 [.t 15])]
def ZO.r5:List Oper:=[
 oD 17 (.mv 5),
 oD 4 (.mv 17)]
def ZO.r6:List Oper:=[
 oD 18 (.bin .add 8 (.c (.n 1))),
 oD 8 (.mv 18)]
def ZO.l0:Code:=.seq (.region ZO.r2) (.seq (.cond 9 (.skip) (.exit 0)) (.seq (.block 1 (.seq (.region ZO.r3) (.seq (.region ZO.r4) (.cond 16 (.seq (.region ZO.r5) (.ret)) (.skip))))) (.region ZO.r6)))
def ZO.r7:List Oper:=[
 oD 4 (.mv (.c (.n (-1))))]
def ZO.code:Code:=.seq (.region ZO.r0) (.seq (.seq (.region ZO.r1) (.block 0 (.loop ZO.l0))) (.seq (.region ZO.r7) (.ret)))
def ZO:Func:=⟨19,[.t 4],ZO.code⟩
/-! math/bits.Mul32 -/
def Zb8.r0:List Oper:=[
 oD 4 (.mv (.c (.i .u32 0))),
 oD 5 (.mv (.c (.i .u32 0)))]
def Zb8.r1:List Oper:=[
 oD 7 (.mv 0),
 oD 8 (.conv .u64 7),
 oD 9 (.mv 1),
 oD 10 (.conv .u64 9),
 oD 11 (.bin .mul 8 10),
 oD 6 (.mv 11)]
def Zb8.r2:List Oper:=[
 oD 12 (.mv 6),
 oD 13 (.bin .shr 12 (.c (.i .u64 32))),
 oD 14 (.conv .u32 13),
 oD 15 (.mv 6),
 oD 16 (.conv .u32 15),
 oD 4 (.mv 14),
 oD 5 (.mv 16)]
def Zb8.code:Code:=.seq (.region Zb8.r0) (.seq (.region Zb8.r1) (.seq (.region Zb8.r2) (.ret)))
def Zb8:Func:=⟨17,[.t 4,.t 5],Zb8.code⟩
/-! math/bits.Mul64 -/
def z7.r0:List Oper:=[
 oD 4 (.mv (.c (.i .u64 0))),
 oD 5 (.mv (.c (.i .u64 0)))]
def z7.r1:List Oper:=[
 oD 14 (.mv 0),
 oD 15 (.bin .and 14 (.c (.i .u64 4294967295))),
 oD 6 (.mv 15)]
def z7.r2:List Oper:=[
 oD 16 (.mv 0),
 oD 17 (.bin .shr 16 (.c (.i .u64 32))),
 oD 7 (.mv 17)]
def z7.r3:List Oper:=[
 oD 18 (.mv 1),
 oD 19 (.bin .and 18 (.c (.i .u64 4294967295))),
 oD 8 (.mv 19)]
def z7.r4:List Oper:=[
 oD 20 (.mv 1),
 oD 21 (.bin .shr 20 (.c (.i .u64 32))),
 oD 9 (.mv 21)]
def z7.r5:List Oper:=[
 oD 22 (.mv 6),
 oD 23 (.mv 8),
 oD 24 (.bin .mul 22 23),
 oD 10 (.mv 24)]
def z7.r6:List Oper:=[
 oD 25 (.mv 7),
 oD 26 (.mv 8),
 oD 27 (.bin .mul 25 26),
 oD 28 (.mv 10),
 oD 29 (.bin .shr 28 (.c (.i .u64 32))),
 oD 30 (.bin .add 27 29),
 oD 11 (.mv 30)]
def z7.r7:List Oper:=[
 oD 31 (.mv 11),
 oD 32 (.bin .and 31 (.c (.i .u64 4294967295))),
 oD 12 (.mv 32)]
def z7.r8:List Oper:=[
 oD 33 (.mv 11),
 oD 34 (.bin .shr 33 (.c (.i .u64 32))),
 oD 13 (.mv 34)]
def z7.r9:List Oper:=[
 oD 35 (.mv 12),
 oD 36 (.mv 6),
 oD 37 (.mv 9),
 oD 38 (.bin .mul 36 37),
 oD 39 (.bin .add 35 38),
 oD 12 (.mv 39)]
def z7.r10:List Oper:=[
 oD 40 (.mv 7),
 oD 41 (.mv 9),
 oD 42 (.bin .mul 40 41),
 oD 43 (.mv 13),
 oD 44 (.bin .add 42 43),
 oD 45 (.mv 12),
 oD 46 (.bin .shr 45 (.c (.i .u64 32))),
 oD 47 (.bin .add 44 46),
 oD 4 (.mv 47)]
def z7.r11:List Oper:=[
 oD 48 (.mv 0),
 oD 49 (.mv 1),
 oD 50 (.bin .mul 48 49),
 oD 5 (.mv 50)]
def z7.code:Code:=.seq (.region z7.r0) (.seq (.region z7.r1) (.seq (.region z7.r2) (.seq (.region z7.r3) (.seq (.region z7.r4) (.seq (.region z7.r5) (.seq (.region z7.r6) (.seq (.region z7.r7) (.seq (.region z7.r8) (.seq (.region z7.r9) (.seq (.region z7.r10) (.seq (.region z7.r11) (.ret))))))))))))
def z7:Func:=⟨51,[.t 4,.t 5],z7.code⟩
/-! muntin/grid.Of -/
def ZbO.r0:List Oper:=[
 oD 2 (.mv (.c (.pn))),
 oD 3 (.mv (.c (.n 0)))]
def ZbO.r1:List Oper:=[
 oD 5 (.mv 0),
 oD 6 (.call (.c (.f 66 [])) [.t 5]),
 oD 4 (.mv 6)]
def ZbO.r2:List Oper:=[
 oD 7 (.mv 4),
 oD 8 (.eq true .sc 7 (.c (.n 0)))]
def ZbO.r3:List Oper:=[
 oD 9 (.mv 4),
 oD 2 (.mv (.c (.pn))),
 oD 3 (.mv 9)]
def ZbO.r4:List Oper:=[
 oD 10 (.mv 0),
 oD 11 (.call (.c (.f 51 [])) [.t 10]),
 oD 12 (.build [.sn] [(0,1,.t 11)]),
 oD 13 (.box 12),
 oD 2 (.mv 13),
 oD 3 (.mv (.c (.n 0)))]
def ZbO.code:Code:=.seq (.region ZbO.r0) (.seq (.seq (.region ZbO.r1) (.seq (.region ZbO.r2) (.cond 8 (.seq (.region ZbO.r3) (.ret)) (.skip)))) (.seq (.region ZbO.r4) (.ret)))
def ZbO:Func:=⟨14,[.t 2,.t 3],ZbO.code⟩
/-! muntin/valid.Check -/
def zH.r0:List Oper:=[
 oD 2 (.mv (.c (.n 0)))]
def zH.r1:List Oper:=[
 oD 6 (.mv 0),
 oD 7 (.call (.c (.f 66 [])) [.t 6]),
 oD 3 (.mv 7)]
def zH.r2:List Oper:=[
 oD 8 (.mv 3),
 oD 9 (.eq true .sc 8 (.c (.n 0)))]
def zH.r3:List Oper:=[
 oD 10 (.mv 3),
 oD 2 (.mv 10)]
def zH.r4:List Oper:=[
 oD 11 (.mv 0),
 oD 12 (.call (.c (.f 32 [])) [.t 11]),
 oD 13 (.un .not 12)]
def zH.r5:List Oper:=[
 oD 2 (.mv (.c (.n 13)))]
def zH.r6:List Oper:=[
 oD 15 (.mv 0),
 oD 16 (.call (.c (.f 201 [])) [.t 15]),
 oD 14 (.mv 16),
 oD 17 (.ext 14 0),
 oD 18 (.ext 14 1),
 oD 4 (.mv 17),
 oD 5 (.mv 18)]
def zH.r7:List Oper:=[
 oD 19 (.mv 5),
 oD 20 (.un .not 19),
 oD 21 (.mv 20),
 ⟨(some 22),.mv 0,(some (21,true))⟩,
 ⟨(some 23),.len 22,(some (21,true))⟩,
 ⟨(some 24),.bin .gtr 23 (.c (.n 1)),(some (21,true))⟩,
 oD 25 (.pick 21 24 (.c (.b false)))]
def zH.r8:List Oper:=[
 oD 2 (.mv (.c (.n 10)))]
def zH.r9:List Oper:=[
 oD 2 (.mv (.c (.n 0)))]
def zH.code:Code:=.seq (.region zH.r0) (.seq (.seq (.region zH.r1) (.seq (.region zH.r2) (.cond 9 (.seq (.region zH.r3) (.ret)) (.skip)))) (.seq (.seq (.region zH.r4) (.cond 13 (.seq (.region zH.r5) (.ret)) (.skip))) (.seq (.seq (.region zH.r6) (.seq (.region zH.r7) (.cond 25 (.seq (.region zH.r8) (.ret)) (.skip)))) (.seq (.region zH.r9) (.ret)))))
def zH:Func:=⟨26,[.t 2],zH.code⟩
/-! muntin/muntinref12.Faces -/
def Zy.r0:List Oper:=[
 oD 2 (.mv (.c (.sn)))]
def Zy.r1:List Oper:=[
 oD 9 (.mv 0),
 oD 10 (.len 9),
 oD 11 (.bin .mul (.c (.n 4)) 10),
 oD 12 (.mks 1 1 [.b false] 11 11),
 oD 3 (.mv 12)]
def Zy.r2:List Oper:=[
 oD 4 (.mv (.c (.sn)))]
def Zy.r3:List Oper:=[
 oD 5 (.mv (.c (.n 0)))]
def Zy.r4:List Oper:=[
 oD 13 (.mv 5),
 oD 14 (.mv 0),
 oD 15 (.len 14),
 oD 16 (.bin .lss 13 15)]
def Zy.r6:List Oper:=[
 oD 6 (.mv (.c (.n 0)))]
def Zy.r7:List Oper:=[
 oD 19 (.mv 6),
 oD 20 (.bin .lss 19 (.c (.n 4)))]
def Zy.r9:List Oper:=[
 oD 23 (.mv 0),
 oD 24 (.mv 5),
 oD 25 (.mv 6),
 oD 26 (.ixa 8 23 24),
 oD 27 (.fa 0 26),
 oD 28 (.ixaa 1 4 27 25),
 oD 29 (.ld false 1 28),
 oD 30 (.bin .lss 29 (.c (.n 0))),
 oD 31 (.mv 30),
 ⟨(some 32),.mv 3,(some (31,false))⟩,
 ⟨(some 33),.mv 5,(some (31,false))⟩,
 ⟨(some 34),.bin .mul (.c (.n 4)) 33,(some (31,false))⟩,
 ⟨(some 35),.mv 6,(some (31,false))⟩,
 ⟨(some 36),.bin .add 34 35,(some (31,false))⟩,
 ⟨(some 37),.ixa 1 32 36,(some (31,false))⟩,
 ⟨(some 38),.ld false 1 37,(some (31,false))⟩,
 oD 39 (.pick 31 (.c (.b true)) 38)]
def Zy.r10:List Oper:=[
 oD 7 (.mv (.c (.sn)))]
def Zy.r11:List Oper:=[
 oD 40 (.mv 5),
 oD 41 (.mv 6),
 oD 42 (.build [.n 0,.n 0] [(0,1,.t 40),(1,1,.t 41)]),
 oD 8 (.alloc [.n 0,.n 0]),
 oN (.st 2 8 42)]
def Zy.r12:List Oper:=[
 oD 43 (.mv 3),
 oD 44 (.fa 0 8),
 oD 45 (.ld false 1 44),
 oD 46 (.bin .mul (.c (.n 4)) 45),
 oD 47 (.fa 1 8),
 oD 48 (.ld false 1 47),
 oD 49 (.bin .add 46 48),
 oD 50 (.ixa 1 43 49),
 oD 51 (.ld false 1 50),
 oD 52 (.un .not 51)]
def Zy.r13:List Oper:=[
 oD 53 (.mv 3),
 oD 54 (.fa 0 8),
 oD 55 (.ld false 1 54),
 oD 56 (.bin .mul (.c (.n 4)) 55),
 oD 57 (.fa 1 8),
 oD 58 (.ld false 1 57),
 oD 59 (.bin .add 56 58),
 oD 60 (.ixa 1 53 59),
 oN (.st 1 60 (.c (.b true)))]
def Zy.r14:List Oper:=[
 oD 61 (.mv 7),
 oD 62 (.ld true 2 8),
 oD 63 (.bsl 2 1 [.n 0,.n 0] [(0,2,.t 62)]),
 oD 64 (.app 2 16 61 63),
 oD 7 (.mv 64)]
def Zy.r15:List Oper:=[
 oD 65 (.mv 0),
 oD 66 (.ld true 2 8),
 oD 67 (.call (.c (.f 202 [])) [.t 65,.t 66]),
 oN (.st 2 8 67)]
def Zy.l0:Code:=.seq (.seq (.region Zy.r12) (.cond 52 (.skip) (.exit 4))) (.block 5 (.seq (.region Zy.r13) (.seq (.region Zy.r14) (.region Zy.r15))))
def Zy.r16:List Oper:=[
 oD 68 (.mv 4),
 oD 69 (.mv 7),
 oD 70 (.bsl 1 1 [.sn] [(0,1,.t 69)]),
 oD 71 (.app 1 24 68 70),
 oD 4 (.mv 71)]
def Zy.r8:List Oper:=[
 oD 21 (.mv 6),
 oD 22 (.bin .add 21 (.c (.n 1))),
 oD 6 (.mv 22)]
def Zy.l1:Code:=.seq (.seq (.region Zy.r7) (.cond 20 (.skip) (.exit 2))) (.seq (.block 3 (.seq (.seq (.region Zy.r9) (.cond 39 (.exit 3) (.skip))) (.seq (.region Zy.r10) (.seq (.region Zy.r11) (.seq (.block 4 (.loop Zy.l0)) (.region Zy.r16)))))) (.region Zy.r8))
def Zy.r5:List Oper:=[
 oD 17 (.mv 5),
 oD 18 (.bin .add 17 (.c (.n 1))),
 oD 5 (.mv 18)]
def Zy.l2:Code:=.seq (.seq (.region Zy.r4) (.cond 16 (.skip) (.exit 0))) (.seq (.block 1 (.seq (.region Zy.r6) (.block 2 (.loop Zy.l1)))) (.region Zy.r5))
def Zy.r17:List Oper:=[
 oD 72 (.mv 4),
 oD 2 (.mv 72)]
def Zy.code:Code:=.seq (.region Zy.r0) (.seq (.region Zy.r1) (.seq (.region Zy.r2) (.seq (.seq (.region Zy.r3) (.block 0 (.loop Zy.l2))) (.seq (.region Zy.r17) (.ret)))))
def Zy:Func:=⟨73,[.t 2],Zy.code⟩
/-! muntin/front.First -/
def zi.r0:List Oper:=[
 oD 2 (.mv (.c (.n 0))),
 oD 3 (.mv (.c (.n 0))),
 oD 4 (.mv (.c (.b false)))]
def zi.r1:List Oper:=[
 oD 13 (.mv 0),
 oD 14 (.call (.c (.f 195 [])) [.t 13]),
 oD 12 (.mv 14),
 oD 15 (.ext 12 0),
 oD 16 (.ext 12 1),
 oD 5 (.mv 15),
 oD 6 (.mv 16)]
def zi.r2:List Oper:=[
 oD 17 (.mv 6),
 oD 18 (.eq true .sc 17 (.c (.n 0)))]
def zi.r3:List Oper:=[
 oD 2 (.mv (.c (.n 0))),
 oD 3 (.mv (.c (.n 0))),
 oD 4 (.mv (.c (.b false)))]
def zi.r4:List Oper:=[
 oD 20 (.mv 0),
 oD 21 (.call (.c (.f 203 [])) [.t 20]),
 oD 19 (.mv 21),
 oD 22 (.ext 19 0),
 oD 23 (.ext 19 1),
 oD 7 (.mv 22),
 oD 8 (.mv 23)]
def zi.r5:List Oper:=[
 oD 24 (.mv 7),
 oD 25 (.len 24),
 oD 26 (.mv (.c (.n 0)))]
def zi.r6:List Oper:=[
 oD 27 (.bin .lss 26 25)]
def zi.r7:List Oper:=[
 oD 28 (.mv 26),
 oD 29 (.ixa 1 24 26),
 oD 30 (.ld false 1 29),
 oD 9 (.mv 28),
 oD 10 (.mv 30)]
def zi.r8:List Oper:=[
 oD 31 (.mv 0),
 oD 32 (.mv 10),
 oD 33 (.call (.c (.f 204 [])) [.t 31,.t 32]),
 oD 34 (.call (.c (.f 91 [])) [.t 33,.c (.f 205 [])]),
 oD 11 (.mv 34)]
def zi.r9:List Oper:=[
 oD 35 (.mv 9),
 oD 36 (.mv 5),
 oD 37 (.eq true .sc 35 36),
 oD 38 (.mv 37),
 ⟨(some 39),.mv 11,(some (38,true))⟩,
 ⟨(some 40),.bin .geq 39 (.c (.n 0)),(some (38,true))⟩,
 oD 41 (.pick 38 40 (.c (.b false)))]
def zi.r10:List Oper:=[
 oD 42 (.mv 9),
 oD 43 (.mv 11),
 oD 2 (.mv 42),
 oD 3 (.mv 43),
 oD 4 (.mv (.c (.b true)))]
def zi.r11:List Oper:=[
 oD 44 (.bin .add 26 (.c (.n 1))),
 oD 26 (.mv 44)]
def zi.l0:Code:=.seq (.region zi.r6) (.seq (.cond 27 (.skip) (.exit 0)) (.seq (.block 1 (.seq (.region zi.r7) (.seq (.region zi.r8) (.seq (.region zi.r9) (.cond 41 (.seq (.region zi.r10) (.ret)) (.skip)))))) (.region zi.r11)))
def zi.r12:List Oper:=[
 oD 2 (.mv (.c (.n 0))),
 oD 3 (.mv (.c (.n 0))),
 oD 4 (.mv (.c (.b false)))]
def zi.code:Code:=.seq (.region zi.r0) (.seq (.region zi.r1) (.seq (.seq (.region zi.r2) (.cond 18 (.seq (.region zi.r3) (.ret)) (.skip))) (.seq (.region zi.r4) (.seq (.seq (.region zi.r5) (.block 0 (.loop zi.l0))) (.seq (.region zi.r12) (.ret))))))
def zi:Func:=⟨45,[.t 2,.t 3,.t 4],zi.code⟩
/-! muntin/muntinref14.Outer -/
def Zs.r0:List Oper:=[
 oD 2 (.mv (.c (.n 0))),
 oD 3 (.mv (.c (.n 0)))]
def Zs.r1:List Oper:=[
 oD 11 (.mv 0),
 oD 12 (.call (.c (.f 34 [])) [.t 11]),
 oD 4 (.mv 12)]
def Zs.r2:List Oper:=[
 oD 13 (.mv 4),
 oD 14 (.eq true .sc 13 (.c (.n 0)))]
def Zs.r3:List Oper:=[
 oD 15 (.mv 4),
 oD 2 (.mv (.c (.n (-1)))),
 oD 3 (.mv 15)]
def Zs.r4:List Oper:=[
 oD 16 (.mv 0),
 oD 17 (.call (.c (.f 30 [])) [.t 16]),
 oD 5 (.mv 17)]
def Zs.r5:List Oper:=[
 oD 18 (.mv 5),
 oD 19 (.len 18),
 oD 20 (.eq true .sc 19 (.c (.n 1)))]
def Zs.r6:List Oper:=[
 oD 2 (.mv (.c (.n (-1)))),
 oD 3 (.mv (.c (.n 13)))]
def Zs.r7:List Oper:=[
 oD 21 (.mv 0),
 oD 22 (.len 21),
 oD 23 (.eq false .sc 22 (.c (.n 1)))]
def Zs.r8:List Oper:=[
 oD 2 (.mv (.c (.n (-1)))),
 oD 3 (.mv (.c (.n 0)))]
def Zs.r9:List Oper:=[
 oD 24 (.mv 0),
 oD 25 (.call (.c (.f 177 [])) [.t 24]),
 oD 6 (.mv 25)]
def Zs.r10:List Oper:=[
 oD 7 (.mv (.c (.n (-1))))]
def Zs.r11:List Oper:=[
 oD 8 (.mv (.c (.n 0)))]
def Zs.r12:List Oper:=[
 oD 26 (.mv 8),
 oD 27 (.mv 6),
 oD 28 (.len 27),
 oD 29 (.bin .lss 26 28)]
def Zs.r14:List Oper:=[
 oD 32 (.mv 0),
 oD 33 (.mv 6),
 oD 34 (.mv 8),
 oD 35 (.ixa 1 33 34),
 oD 36 (.ld false 1 35),
 oD 37 (.call (.c (.f 182 [])) [.t 32,.t 36]),
 oD 9 (.mv 37)]
def Zs.r15:List Oper:=[
 oD 38 (.mv 9),
 oD 39 (.call (.c (.f 206 [])) [.t 38]),
 oD 10 (.mv 39)]
def Zs.r16:List Oper:=[
 oD 40 (.mv 10),
 oD 41 (.eq true .sc 40 (.c (.n 4))),
 oD 42 (.mv 41),
 ⟨(some 43),.mv 10,(some (42,true))⟩,
 ⟨(some 44),.eq true .sc 43 (.c (.n (-4))),(some (42,true))⟩,
 oD 45 (.pick 42 44 (.c (.b false))),
 oD 46 (.mv 45),
 ⟨(some 47),.mv 10,(some (46,false))⟩,
 ⟨(some 48),.eq false .sc 47 (.c (.n (-4))),(some (46,false))⟩,
 ⟨(some 49),.mv 48,(some (46,false))⟩,
 ⟨(some 50),.mv 7,(some (49,true))⟩,
 ⟨(some 51),.bin .geq 50 (.c (.n 0)),(some (49,true))⟩,
 ⟨(some 52),.pick 49 51 (.c (.b false)),(some (46,false))⟩,
 oD 53 (.pick 46 (.c (.b true)) 52)]
def Zs.r17:List Oper:=[
 oD 2 (.mv (.c (.n (-1)))),
 oD 3 (.mv (.c (.n 10)))]
def Zs.r18:List Oper:=[
 oD 54 (.mv 10),
 oD 55 (.eq false .sc 54 (.c (.n (-4))))]
def Zs.r19:List Oper:=[
 oD 56 (.mv 8),
 oD 7 (.mv 56)]
def Zs.r13:List Oper:=[
 oD 30 (.mv 8),
 oD 31 (.bin .add 30 (.c (.n 1))),
 oD 8 (.mv 31)]
def Zs.l0:Code:=.seq (.seq (.region Zs.r12) (.cond 29 (.skip) (.exit 0))) (.seq (.block 1 (.seq (.region Zs.r14) (.seq (.region Zs.r15) (.seq (.seq (.region Zs.r16) (.cond 53 (.seq (.region Zs.r17) (.ret)) (.skip))) (.seq (.region Zs.r18) (.cond 55 (.region Zs.r19) (.skip))))))) (.region Zs.r13))
def Zs.r20:List Oper:=[
 oD 57 (.mv 7),
 oD 58 (.bin .lss 57 (.c (.n 0)))]
def Zs.r21:List Oper:=[
 oD 2 (.mv (.c (.n (-1)))),
 oD 3 (.mv (.c (.n 10)))]
def Zs.r22:List Oper:=[
 oD 59 (.mv 7),
 oD 2 (.mv 59),
 oD 3 (.mv (.c (.n 0)))]
def Zs.code:Code:=.seq (.region Zs.r0) (.seq (.region Zs.r1) (.seq (.seq (.region Zs.r2) (.cond 14 (.seq (.region Zs.r3) (.ret)) (.skip))) (.seq (.region Zs.r4) (.seq (.seq (.region Zs.r5) (.cond 20 (.seq (.region Zs.r6) (.ret)) (.skip))) (.seq (.seq (.region Zs.r7) (.cond 23 (.seq (.region Zs.r8) (.ret)) (.skip))) (.seq (.region Zs.r9) (.seq (.region Zs.r10) (.seq (.seq (.region Zs.r11) (.block 0 (.loop Zs.l0))) (.seq (.seq (.region Zs.r20) (.cond 58 (.seq (.region Zs.r21) (.ret)) (.skip))) (.seq (.region Zs.r22) (.ret)))))))))))
def Zs:Func:=⟨60,[.t 2,.t 3],Zs.code⟩
/-! muntin/muntinref12.Turns -/
def zb.r0:List Oper:=[
 oD 4 (.mv (.c (.sn)))]
def zb.r1:List Oper:=[
 oD 5 (.mv (.c (.sn)))]
def zb.r2:List Oper:=[
 oD 6 (.mv (.c (.n 0)))]
def zb.r3:List Oper:=[
 oD 9 (.mv 6),
 oD 10 (.mv 1),
 oD 11 (.len 10),
 oD 12 (.bin .lss 9 11)]
def zb.r5:List Oper:=[
 oD 15 (.mv 0),
 oD 16 (.mv 1),
 oD 17 (.mv 6),
 oD 18 (.ixa 2 16 17),
 oD 19 (.ld true 2 18),
 oD 20 (.call (.c (.f 202 [])) [.t 15,.t 19]),
 oD 7 (.alloc [.n 0,.n 0]),
 oN (.st 2 7 20)]
def zb.r6:List Oper:=[
 oD 21 (.mv 1),
 oD 22 (.mv 6),
 oD 23 (.ixa 2 21 22),
 oD 24 (.fa 1 23),
 oD 25 (.ld false 1 24),
 oD 26 (.fa 1 7),
 oD 27 (.ld false 1 26),
 oD 28 (.call (.c (.f 207 [])) [.t 25,.t 27]),
 oD 8 (.mv 28)]
def zb.r7:List Oper:=[
 oD 29 (.mv 5),
 oD 30 (.mv 8),
 oD 31 (.bsl 1 1 [.n 0] [(0,1,.t 30)]),
 oD 32 (.app 1 8 29 31),
 oD 5 (.mv 32)]
def zb.r4:List Oper:=[
 oD 13 (.mv 6),
 oD 14 (.bin .add 13 (.c (.n 1))),
 oD 6 (.mv 14)]
def zb.l0:Code:=.seq (.seq (.region zb.r3) (.cond 12 (.skip) (.exit 0))) (.seq (.block 1 (.seq (.region zb.r5) (.seq (.draw zb.r6 [(4,6)]) (.region zb.r7)))) (.region zb.r4))
def zb.r8:List Oper:=[
 oD 33 (.mv 5),
 oD 4 (.mv 33)]
def zb.code:Code:=.seq (.region zb.r0) (.seq (.region zb.r1) (.seq (.seq (.region zb.r2) (.block 0 (.loop zb.l0))) (.seq (.region zb.r8) (.ret))))
def zb:Func:=⟨34,[.t 4],zb.code⟩
/-! muntin/valid.Outer -/
def Zab.r0:List Oper:=[
 oD 2 (.mv (.c (.n 0))),
 oD 3 (.mv (.c (.n 0)))]
def Zab.r1:List Oper:=[
 oD 7 (.mv 0),
 oD 8 (.call (.c (.f 176 [])) [.t 7]),
 oD 4 (.mv 8)]
def Zab.r2:List Oper:=[
 oD 9 (.mv 4),
 oD 10 (.eq true .sc 9 (.c (.n 0)))]
def Zab.r3:List Oper:=[
 oD 11 (.mv 4),
 oD 2 (.mv (.c (.n 0))),
 oD 3 (.mv 11)]
def Zab.r4:List Oper:=[
 oD 13 (.mv 0),
 oD 14 (.call (.c (.f 201 [])) [.t 13]),
 oD 12 (.mv 14),
 oD 15 (.ext 12 0),
 oD 16 (.ext 12 1),
 oD 5 (.mv 15),
 oD 6 (.mv 16)]
def Zab.r5:List Oper:=[
 oD 17 (.mv 6),
 oD 18 (.un .not 17)]
def Zab.r6:List Oper:=[
 oD 2 (.mv (.c (.n 0))),
 oD 3 (.mv (.c (.n 2)))]
def Zab.r7:List Oper:=[
 oD 19 (.mv 5),
 oD 2 (.mv 19),
 oD 3 (.mv (.c (.n 0)))]
def Zab.code:Code:=.seq (.region Zab.r0) (.seq (.seq (.region Zab.r1) (.seq (.region Zab.r2) (.cond 10 (.seq (.region Zab.r3) (.ret)) (.skip)))) (.seq (.region Zab.r4) (.seq (.seq (.region Zab.r5) (.cond 18 (.seq (.region Zab.r6) (.ret)) (.skip))) (.seq (.region Zab.r7) (.ret)))))
def Zab:Func:=⟨20,[.t 2,.t 3],Zab.code⟩
/-! muntin/valid.outer -/
def zc.r0:List Oper:=[
 oD 2 (.mv (.c (.n 0))),
 oD 3 (.mv (.c (.b false)))]
def zc.r1:List Oper:=[
 oD 10 (.mv 0),
 oD 11 (.call (.c (.f 203 [])) [.t 10]),
 oD 9 (.mv 11),
 oD 12 (.ext 9 0),
 oD 13 (.ext 9 1),
 oD 4 (.mv 12),
 oD 5 (.mv 13)]
def zc.r2:List Oper:=[
 oD 6 (.mv (.c (.n (-1))))]
def zc.r3:List Oper:=[
 oD 14 (.mv 4),
 oD 15 (.len 14),
 oD 16 (.mv (.c (.n 0)))]
def zc.r4:List Oper:=[
 oD 17 (.bin .lss 16 15)]
def zc.r5:List Oper:=[
 oD 18 (.mv 16),
 oD 19 (.ixa 1 14 16),
 oD 20 (.ld false 1 19),
 oD 7 (.mv 18),
 oD 8 (.mv 20)]
def zc.r6:List Oper:=[
 oD 21 (.mv 0),
 oD 22 (.mv 8),
 oD 23 (.call (.c (.f 204 [])) [.t 21,.t 22]),
 oD 24 (.call (.c (.f 219 [])) [.t 23])]
def zc.r8:List Oper:=[
 oD 26 (.eq false .sc 24 (.c (.n 4))),
 oD 25 (.mv 26)]
def zc.r9:List Oper:=[
 oD 28 (.eq false .sc 24 (.c (.n (-4)))),
 oD 27 (.mv 28)]
def zc.r10:List Oper:=[
 oD 29 (.mv 6),
 oD 30 (.bin .geq 29 (.c (.n 0)))]
def zc.r11:List Oper:=[
 oD 2 (.mv (.c (.n 0))),
 oD 3 (.mv (.c (.b false)))]
def zc.r12:List Oper:=[
 oD 31 (.mv 7),
 oD 6 (.mv 31)]
def zc.r7:List Oper:=[
 oD 2 (.mv (.c (.n 0))),
 oD 3 (.mv (.c (.b false)))]
def zc.r13:List Oper:=[
 oD 32 (.bin .add 16 (.c (.n 1))),
 oD 16 (.mv 32)]
def zc.l0:Code:=.seq (.region zc.r4) (.seq (.cond 17 (.skip) (.exit 0)) (.seq (.block 1 (.seq (.region zc.r5) (.seq (.region zc.r6) (.block 2 (.seq (.region zc.r8) (.cond 25 (.skip) (.seq (.region zc.r9) (.cond 27 (.seq (.seq (.region zc.r10) (.cond 30 (.seq (.region zc.r11) (.ret)) (.skip))) (.region zc.r12)) (.seq (.region zc.r7) (.ret)))))))))) (.region zc.r13)))
def zc.r14:List Oper:=[
 oD 33 (.mv 6),
 oD 34 (.mv 6),
 oD 35 (.bin .geq 34 (.c (.n 0))),
 oD 2 (.mv 33),
 oD 3 (.mv 35)]
def zc.code:Code:=.seq (.region zc.r0) (.seq (.region zc.r1) (.seq (.region zc.r2) (.seq (.seq (.region zc.r3) (.block 0 (.loop zc.l0))) (.seq (.region zc.r14) (.ret)))))
def zc:Func:=⟨36,[.t 2,.t 3],zc.code⟩
/-! muntin/muntinref12.Behind -/
def ZH.r0:List Oper:=[
 oD 3 (.box 1),
 oD 4 (.alloc [.n 0,.n 0])]
def ZH.r1:List Oper:=[
 oD 9 (.mv 0),
 oD 10 (.fa 0 3),
 oD 11 (.ld false 1 10),
 oD 12 (.fa 1 3),
 oD 13 (.ld false 1 12),
 oD 14 (.ixa 8 9 11),
 oD 15 (.fa 0 14),
 oD 16 (.ixaa 1 4 15 13),
 oD 17 (.ld false 1 16),
 oD 5 (.mv 17)]
def ZH.r2:List Oper:=[
 oD 18 (.bsl 1 4 [.n 0] [(0,1,.c (.n 1)),(1,1,.c (.n 0)),(2,1,.c (.n 3)),(3,1,.c (.n 2))]),
 oD 6 (.mv 18)]
def ZH.r3:List Oper:=[
 oD 7 (.mv (.c (.n 0)))]
def ZH.r4:List Oper:=[
 oD 19 (.mv 7),
 oD 20 (.bin .lss 19 (.c (.n 4)))]
def ZH.r6:List Oper:=[
 oD 23 (.fa 1 3),
 oD 24 (.ld false 1 23),
 oD 25 (.mv 6),
 oD 26 (.mv 7),
 oD 27 (.ixa 1 25 26),
 oD 28 (.ld false 1 27),
 oD 29 (.bin .add 24 28),
 oD 30 (.bin .rem 29 (.c (.n 4))),
 oD 8 (.mv 30)]
def ZH.r7:List Oper:=[
 oD 31 (.mv 0),
 oD 32 (.mv 5),
 oD 33 (.mv 8),
 oD 34 (.ixa 8 31 32),
 oD 35 (.fa 0 34),
 oD 36 (.ixaa 1 4 35 33),
 oD 37 (.ld false 1 36),
 oD 38 (.bin .geq 37 (.c (.n 0)))]
def ZH.r8:List Oper:=[
 oD 39 (.mv 5),
 oD 40 (.mv 8),
 oD 41 (.build [.n 0,.n 0] [(0,1,.t 39),(1,1,.t 40)]),
 oN (.st 2 4 41)]
def ZH.r5:List Oper:=[
 oD 21 (.mv 7),
 oD 22 (.bin .add 21 (.c (.n 1))),
 oD 7 (.mv 22)]
def ZH.l0:Code:=.seq (.seq (.region ZH.r4) (.cond 20 (.skip) (.exit 0))) (.seq (.block 1 (.seq (.draw ZH.r6 [(1,5)]) (.seq (.region ZH.r7) (.cond 38 (.seq (.region ZH.r8) (.ret)) (.skip))))) (.region ZH.r5))
def ZH.r9:List Oper:=[
 oD 42 (.ld true 2 3),
 oN (.st 2 4 42)]
def ZH.code:Code:=.seq (.region ZH.r0) (.seq (.draw ZH.r1 [(2,4)]) (.seq (.region ZH.r2) (.seq (.seq (.region ZH.r3) (.block 0 (.loop ZH.l0))) (.seq (.region ZH.r9) (.ret)))))
def ZH:Func:=⟨43,[.cell 4 true 2],ZH.code⟩
/-! muntin/face.Faces -/
def Z6.r0:List Oper:=[
 oD 2 (.mv (.c (.sn))),
 oD 3 (.mv (.c (.n 0)))]
def Z6.r1:List Oper:=[
 oD 12 (.mv 0),
 oD 13 (.call (.c (.f 66 [])) [.t 12]),
 oD 4 (.mv 13)]
def Z6.r2:List Oper:=[
 oD 14 (.mv 4),
 oD 15 (.eq true .sc 14 (.c (.n 0)))]
def Z6.r3:List Oper:=[
 oD 16 (.mv 4),
 oD 2 (.mv (.c (.sn))),
 oD 3 (.mv 16)]
def Z6.r4:List Oper:=[
 oD 5 (.mv (.c (.sn)))]
def Z6.r5:List Oper:=[
 oD 17 (.mkm),
 oD 6 (.mv 17)]
def Z6.r6:List Oper:=[
 oD 18 (.mv 0),
 oD 19 (.len 18),
 oD 20 (.mv (.c (.n 0)))]
def Z6.r7:List Oper:=[
 oD 21 (.bin .lss 20 19)]
def Z6.r8:List Oper:=[
 oD 22 (.mv 20),
 oD 7 (.mv 22)]
def Z6.r9:List Oper:=[
 oD 23 (.mv (.c (.n 0)))]
def Z6.r10:List Oper:=[
 oD 24 (.bin .lss 23 (.c (.n 4)))]
def Z6.r11:List Oper:=[
 oD 25 (.mv 23),
 oD 8 (.mv 25)]
def Z6.r12:List Oper:=[
 oD 26 (.mv 7),
 oD 27 (.mv 8),
 oD 28 (.build [.n 0,.n 0] [(0,1,.t 26),(1,1,.t 27)]),
 oD 9 (.alloc [.n 0,.n 0]),
 oN (.st 2 9 28)]
def Z6.r13:List Oper:=[
 oD 29 (.ld true 2 9),
 oD 30 (.mv 0),
 oD 31 (.call (.c (.f 220 [])) [.t 29,.t 30]),
 oD 32 (.un .not 31),
 oD 33 (.mv 32),
 ⟨(some 34),.mv 6,(some (33,false))⟩,
 ⟨(some 35),.ld true 2 9,(some (33,false))⟩,
 ⟨(some 36),.mlk [.i,.i] false (.b false) 34 35,(some (33,false))⟩,
 oD 37 (.pick 33 (.c (.b true)) 36)]
def Z6.r14:List Oper:=[
 oD 10 (.mv (.c (.sn)))]
def Z6.r15:List Oper:=[
 oD 38 (.ld true 2 9),
 oD 11 (.alloc [.n 0,.n 0]),
 oN (.st 2 11 38)]
def Z6.r16:List Oper:=[
 oD 39 (.mv 6),
 oD 40 (.ld true 2 11),
 oD 41 (.mlk [.i,.i] false (.b false) 39 40),
 oD 42 (.un .not 41)]
def Z6.r18:List Oper:=[
 oD 46 (.mv 6),
 oD 47 (.ld true 2 11),
 oN (.mup [.i,.i] 46 47 (.c (.b true)))]
def Z6.r19:List Oper:=[
 oD 48 (.mv 10),
 oD 49 (.ld true 2 11),
 oD 50 (.bsl 2 1 [.n 0,.n 0] [(0,2,.t 49)]),
 oD 51 (.app 2 16 48 50),
 oD 10 (.mv 51)]
def Z6.r20:List Oper:=[
 oD 52 (.ld true 2 11)]
def Z6.r21:List Oper:=[
 oD 11 (.alloc [.n 0,.n 0]),
 oN (.st 2 11 52)]
def Z6.r17:List Oper:=[
 oD 43 (.ld true 2 11),
 oD 44 (.mv 0),
 oD 45 (.call (.c (.f 221 [])) [.t 43,.t 44]),
 oN (.st 2 11 45)]
def Z6.l0:Code:=.seq (.seq (.region Z6.r16) (.cond 42 (.skip) (.exit 4))) (.seq (.block 5 (.seq (.region Z6.r18) (.region Z6.r19))) (.seq (.seq (.region Z6.r20) (.region Z6.r21)) (.region Z6.r17)))
def Z6.r22:List Oper:=[
 oD 53 (.mv 5),
 oD 54 (.mv 10),
 oD 55 (.bsl 1 1 [.sn] [(0,1,.t 54)]),
 oD 56 (.app 1 24 53 55),
 oD 5 (.mv 56)]
def Z6.r23:List Oper:=[
 oD 57 (.bin .add 23 (.c (.n 1))),
 oD 23 (.mv 57)]
def Z6.l1:Code:=.seq (.region Z6.r10) (.seq (.cond 24 (.skip) (.exit 2)) (.seq (.block 3 (.seq (.region Z6.r11) (.seq (.region Z6.r12) (.seq (.seq (.region Z6.r13) (.cond 37 (.exit 3) (.skip))) (.seq (.region Z6.r14) (.seq (.seq (.region Z6.r15) (.block 4 (.loop Z6.l0))) (.region Z6.r22))))))) (.region Z6.r23)))
def Z6.r24:List Oper:=[
 oD 58 (.bin .add 20 (.c (.n 1))),
 oD 20 (.mv 58)]
def Z6.l2:Code:=.seq (.region Z6.r7) (.seq (.cond 21 (.skip) (.exit 0)) (.seq (.block 1 (.seq (.region Z6.r8) (.seq (.region Z6.r9) (.block 2 (.loop Z6.l1))))) (.region Z6.r24)))
def Z6.r25:List Oper:=[
 oD 59 (.mv 5),
 oD 2 (.mv 59),
 oD 3 (.mv (.c (.n 0)))]
def Z6.code:Code:=.seq (.region Z6.r0) (.seq (.seq (.region Z6.r1) (.seq (.region Z6.r2) (.cond 15 (.seq (.region Z6.r3) (.ret)) (.skip)))) (.seq (.region Z6.r4) (.seq (.region Z6.r5) (.seq (.seq (.region Z6.r6) (.block 0 (.loop Z6.l2))) (.seq (.region Z6.r25) (.ret))))))
def Z6:Func:=⟨60,[.t 2,.t 3],Z6.code⟩
/-! muntin/face.Turns -/
def z8.r0:List Oper:=[
 oD 4 (.mv (.c (.sn)))]
def z8.r1:List Oper:=[
 oD 8 (.mv 1),
 oD 9 (.len 8),
 oD 10 (.mks 1 8 [.n 0] 9 9),
 oD 5 (.mv 10)]
def z8.r2:List Oper:=[
 oD 11 (.mv 0),
 oD 12 (.call (.c (.f 66 [])) [.t 11]),
 oD 13 (.eq true .sc 12 (.c (.n 0)))]
def z8.r3:List Oper:=[
 oD 14 (.mv 5),
 oD 4 (.mv 14)]
def z8.r4:List Oper:=[
 oD 15 (.mv 1),
 oD 16 (.len 15),
 oD 17 (.mv (.c (.n 0)))]
def z8.r5:List Oper:=[
 oD 18 (.bin .lss 17 16)]
def z8.r6:List Oper:=[
 oD 19 (.mv 17),
 oD 20 (.ixa 2 15 17),
 oD 21 (.ld true 2 20),
 oD 7 (.alloc [.n 0,.n 0]),
 oD 6 (.mv 19),
 oN (.st 2 7 21)]
def z8.r7:List Oper:=[
 oD 22 (.ld true 2 7),
 oD 23 (.mv 0),
 oD 24 (.call (.c (.f 220 [])) [.t 22,.t 23])]
def z8.r8:List Oper:=[
 oD 25 (.mv 5),
 oD 26 (.mv 6),
 oD 27 (.fa 1 7),
 oD 28 (.ld false 1 27),
 oD 29 (.ld true 2 7),
 oD 30 (.mv 0),
 oD 31 (.call (.c (.f 221 [])) [.t 29,.t 30]),
 oD 32 (.fld false 1 1 31),
 oD 33 (.call (.c (.f 222 [])) [.t 28,.t 32]),
 oD 34 (.ixa 1 25 26),
 oN (.st 1 34 33)]
def z8.r9:List Oper:=[
 oD 35 (.bin .add 17 (.c (.n 1))),
 oD 17 (.mv 35)]
def z8.l0:Code:=.seq (.region z8.r5) (.seq (.cond 18 (.skip) (.exit 0)) (.seq (.block 1 (.seq (.region z8.r6) (.seq (.region z8.r7) (.cond 24 (.draw z8.r8 [(3,4),(3,6)]) (.skip))))) (.region z8.r9)))
def z8.r10:List Oper:=[
 oD 36 (.mv 5),
 oD 4 (.mv 36)]
def z8.code:Code:=.seq (.region z8.r0) (.seq (.region z8.r1) (.seq (.seq (.region z8.r2) (.cond 13 (.seq (.region z8.r3) (.ret)) (.skip))) (.seq (.seq (.region z8.r4) (.block 0 (.loop z8.l0))) (.seq (.region z8.r10) (.ret)))))
def z8:Func:=⟨37,[.t 4],z8.code⟩
/-! muntin/front.First$1 -/
def Zbt.r0:List Oper:=[
 oD 2 (.mv (.c (.b false)))]
def Zbt.r1:List Oper:=[
 oD 3 (.mv 0),
 oD 4 (.bin .lss 3 (.c (.n 0))),
 oD 2 (.mv 4)]
def Zbt.code:Code:=.seq (.region Zbt.r0) (.seq (.region Zbt.r1) (.ret))
def Zbt:Func:=⟨5,[.t 2],Zbt.code⟩
/-! muntin/muntinref12.Rotation -/
def ZN.r0:List Oper:=[
 oD 2 (.mv (.c (.n 0)))]
def ZN.r1:List Oper:=[
 oD 3 (.mv (.c (.n 0)))]
def ZN.r2:List Oper:=[
 oD 4 (.mv (.c (.n 0)))]
def ZN.r3:List Oper:=[
 oD 5 (.mv 4),
 oD 6 (.mv 0),
 oD 7 (.len 6),
 oD 8 (.bin .lss 5 7)]
def ZN.r5:List Oper:=[
 oD 11 (.mv 0),
 oD 12 (.mv 4),
 oD 13 (.ixa 1 11 12),
 oD 14 (.ld false 1 13),
 oD 15 (.bin .geq 14 (.c (.n (-2)))),
 oD 16 (.mv 15),
 ⟨(some 17),.mv 0,(some (16,true))⟩,
 ⟨(some 18),.mv 4,(some (16,true))⟩,
 ⟨(some 19),.ixa 1 17 18,(some (16,true))⟩,
 ⟨(some 20),.ld false 1 19,(some (16,true))⟩,
 ⟨(some 21),.bin .leq 20 (.c (.n 1)),(some (16,true))⟩,
 oD 22 (.pick 16 21 (.c (.b false)))]
def ZN.r6:List Oper:=[
 oD 23 (.mv 3),
 oD 24 (.mv 0),
 oD 25 (.mv 4),
 oD 26 (.ixa 1 24 25),
 oD 27 (.ld false 1 26),
 oD 28 (.bin .add 23 27),
 oD 3 (.mv 28)]
def ZN.r4:List Oper:=[
 oD 9 (.mv 4),
 oD 10 (.bin .add 9 (.c (.n 1))),
 oD 4 (.mv 10)]
def ZN.l0:Code:=.seq (.seq (.region ZN.r3) (.cond 8 (.skip) (.exit 0))) (.seq (.block 1 (.seq (.region ZN.r5) (.cond 22 (.region ZN.r6) (.skip)))) (.region ZN.r4))
def ZN.r7:List Oper:=[
 oD 29 (.mv 3),
 oD 2 (.mv 29)]
def ZN.code:Code:=.seq (.region ZN.r0) (.seq (.region ZN.r1) (.seq (.seq (.region ZN.r2) (.block 0 (.loop ZN.l0))) (.seq (.region ZN.r7) (.ret))))
def ZN:Func:=⟨30,[.t 2],ZN.code⟩
/-! muntin/muntinref01.Turn -/
def ZM.r0:List Oper:=[
 oD 4 (.mv (.c (.n 0)))]
def ZM.r1:List Oper:=[
 oD 8 (.mv 0),
 oD 9 (.call (.c (.f 223 [])) [.t 8]),
 oD 5 (.mv 9)]
def ZM.r2:List Oper:=[
 oD 10 (.mv 1),
 oD 11 (.call (.c (.f 223 [])) [.t 10]),
 oD 6 (.mv 11)]
def ZM.r3:List Oper:=[
 oD 12 (.mv 5),
 oD 13 (.un .not 12),
 oD 14 (.mv 13),
 ⟨(some 15),.mv 6,(some (14,false))⟩,
 ⟨(some 16),.un .not 15,(some (14,false))⟩,
 oD 17 (.pick 14 (.c (.b true)) 16),
 oD 18 (.mv 17),
 ⟨(some 19),.mv 0,(some (18,false))⟩,
 ⟨(some 20),.mv 1,(some (18,false))⟩,
 ⟨(some 21),.eq false .sc 19 20,(some (18,false))⟩,
 oD 22 (.pick 18 (.c (.b true)) 21)]
def ZM.r4:List Oper:=[
 oD 4 (.mv (.c (.n 0)))]
def ZM.r5:List Oper:=[
 oD 23 (.mv 0),
 oD 24 (.call (.c (.f 224 [])) [.t 23,.c (.n 1)]),
 oD 7 (.mv 24)]
def ZM.r6:List Oper:=[
 oD 25 (.mv 7),
 oD 26 (.mv 1),
 oD 27 (.eq false .sc 25 26)]
def ZM.r7:List Oper:=[
 oD 4 (.mv (.c (.n 1)))]
def ZM.r8:List Oper:=[
 oD 28 (.mv 0),
 oD 29 (.call (.c (.f 224 [])) [.t 28,.c (.n 3)]),
 oD 7 (.mv 29)]
def ZM.r9:List Oper:=[
 oD 30 (.mv 7),
 oD 31 (.mv 1),
 oD 32 (.eq false .sc 30 31)]
def ZM.r10:List Oper:=[
 oD 4 (.mv (.c (.n (-1))))]
def ZM.r11:List Oper:=[
 oD 4 (.mv (.c (.n (-2))))]
def ZM.code:Code:=.seq (.region ZM.r0) (.seq (.region ZM.r1) (.seq (.region ZM.r2) (.seq (.seq (.region ZM.r3) (.cond 22 (.seq (.region ZM.r4) (.ret)) (.skip))) (.seq (.region ZM.r5) (.seq (.seq (.region ZM.r6) (.cond 27 (.seq (.region ZM.r7) (.ret)) (.skip))) (.seq (.region ZM.r8) (.seq (.seq (.region ZM.r9) (.cond 32 (.seq (.region ZM.r10) (.ret)) (.skip))) (.seq (.region ZM.r11) (.ret)))))))))
def ZM:Func:=⟨33,[.t 4],ZM.code⟩
/-! muntin/face.Rotation -/
def zp.r0:List Oper:=[
 oD 2 (.mv (.c (.n 0)))]
def zp.r1:List Oper:=[
 oD 3 (.mv (.c (.n 0)))]
def zp.r2:List Oper:=[
 oD 6 (.mv 0),
 oD 7 (.len 6),
 oD 8 (.mv (.c (.n 0)))]
def zp.r3:List Oper:=[
 oD 9 (.bin .lss 8 7)]
def zp.r4:List Oper:=[
 oD 10 (.ixa 1 6 8),
 oD 11 (.ld false 1 10),
 oD 5 (.mv 11)]
def zp.r5:List Oper:=[
 oD 12 (.mv 5),
 oD 13 (.bin .geq 12 (.c (.n (-2)))),
 oD 14 (.mv 13),
 ⟨(some 15),.mv 5,(some (14,true))⟩,
 ⟨(some 16),.bin .leq 15 (.c (.n 1)),(some (14,true))⟩,
 oD 17 (.pick 14 16 (.c (.b false)))]
def zp.r6:List Oper:=[
 oD 18 (.mv 3),
 oD 19 (.mv 5),
 oD 20 (.bin .add 18 19),
 oD 3 (.mv 20)]
def zp.r7:List Oper:=[
 oD 21 (.bin .add 8 (.c (.n 1))),
 oD 8 (.mv 21)]
def zp.l0:Code:=.seq (.region zp.r3) (.seq (.cond 9 (.skip) (.exit 0)) (.seq (.block 1 (.seq (.region zp.r4) (.seq (.region zp.r5) (.cond 17 (.region zp.r6) (.skip))))) (.region zp.r7)))
def zp.r8:List Oper:=[
 oD 22 (.mv 3),
 oD 2 (.mv 22)]
def zp.code:Code:=.seq (.region zp.r0) (.seq (.region zp.r1) (.seq (.seq (.region zp.r2) (.block 0 (.loop zp.l0))) (.seq (.region zp.r8) (.ret))))
def zp:Func:=⟨23,[.t 2],zp.code⟩
/-! (muntin/face.Dart).is -/
def ZbA.r0:List Oper:=[
 oD 2 (.box 0),
 oD 4 (.mv (.c (.b false)))]
def ZbA.r1:List Oper:=[
 oD 5 (.fa 0 2),
 oD 6 (.ld false 1 5),
 oD 7 (.bin .geq 6 (.c (.n 0))),
 oD 8 (.mv 7),
 ⟨(some 9),.fa 0 2,(some (8,true))⟩,
 ⟨(some 10),.ld false 1 9,(some (8,true))⟩,
 ⟨(some 11),.mv 1,(some (8,true))⟩,
 ⟨(some 12),.len 11,(some (8,true))⟩,
 ⟨(some 13),.bin .lss 10 12,(some (8,true))⟩,
 oD 14 (.pick 8 13 (.c (.b false))),
 oD 15 (.mv 14),
 ⟨(some 16),.fa 1 2,(some (15,true))⟩,
 ⟨(some 17),.ld false 1 16,(some (15,true))⟩,
 ⟨(some 18),.call (.c (.f 90 [])) [.t 17],(some (15,true))⟩,
 oD 19 (.pick 15 18 (.c (.b false))),
 oD 20 (.mv 19),
 ⟨(some 21),.mv 1,(some (20,true))⟩,
 ⟨(some 22),.fa 0 2,(some (20,true))⟩,
 ⟨(some 23),.ld false 1 22,(some (20,true))⟩,
 ⟨(some 24),.fa 1 2,(some (20,true))⟩,
 ⟨(some 25),.ld false 1 24,(some (20,true))⟩,
 ⟨(some 26),.ixa 8 21 23,(some (20,true))⟩,
 ⟨(some 27),.fa 0 26,(some (20,true))⟩,
 ⟨(some 28),.ixaa 1 4 27 25,(some (20,true))⟩,
 ⟨(some 29),.ld false 1 28,(some (20,true))⟩,
 ⟨(some 30),.bin .geq 29 (.c (.n 0)),(some (20,true))⟩,
 oD 31 (.pick 20 30 (.c (.b false))),
 oD 4 (.mv 31)]
def ZbA.code:Code:=.seq (.region ZbA.r0) (.seq (.draw ZbA.r1 [(18,20)]) (.ret))
def ZbA:Func:=⟨32,[.t 4],ZbA.code⟩
/-! (muntin/face.Dart).behind -/
def ZZ.r0:List Oper:=[
 oD 2 (.box 0),
 oD 4 (.alloc [.n 0,.n 0])]
def ZZ.r1:List Oper:=[
 oD 9 (.mv 1),
 oD 10 (.fa 0 2),
 oD 11 (.ld false 1 10),
 oD 12 (.fa 1 2),
 oD 13 (.ld false 1 12),
 oD 14 (.ixa 8 9 11),
 oD 15 (.fa 0 14),
 oD 16 (.ixaa 1 4 15 13),
 oD 17 (.ld false 1 16),
 oD 5 (.mv 17)]
def ZZ.r2:List Oper:=[
 oD 18 (.build [.n 0,.n 0,.n 0,.n 0] [(0,1,.c (.n 1)),(1,1,.c (.n 0)),(2,1,.c (.n (-1))),(3,1,.c (.n 2))]),
 oD 19 (.mv (.c (.n 0)))]
def ZZ.r3:List Oper:=[
 oD 20 (.bin .lss 19 (.c (.n 4)))]
def ZZ.r4:List Oper:=[
 oD 21 (.ix false 1 4 18 19),
 oD 7 (.mv 21)]
def ZZ.r5:List Oper:=[
 oD 22 (.mv 5),
 oD 23 (.fa 1 2),
 oD 24 (.ld false 1 23),
 oD 25 (.mv 7),
 oD 26 (.call (.c (.f 77 [])) [.t 24,.t 25]),
 oD 27 (.build [.n 0,.n 0] [(0,1,.t 22),(1,1,.t 26)]),
 oD 8 (.alloc [.n 0,.n 0]),
 oN (.st 2 8 27)]
def ZZ.r6:List Oper:=[
 oD 28 (.ld true 2 8),
 oD 29 (.mv 1),
 oD 30 (.call (.c (.f 220 [])) [.t 28,.t 29])]
def ZZ.r7:List Oper:=[
 oD 31 (.ld true 2 8),
 oN (.st 2 4 31)]
def ZZ.r8:List Oper:=[
 oD 32 (.bin .add 19 (.c (.n 1))),
 oD 19 (.mv 32)]
def ZZ.l0:Code:=.seq (.region ZZ.r3) (.seq (.cond 20 (.skip) (.exit 0)) (.seq (.block 1 (.seq (.region ZZ.r4) (.seq (.region ZZ.r5) (.seq (.region ZZ.r6) (.cond 30 (.seq (.region ZZ.r7) (.ret)) (.skip)))))) (.region ZZ.r8)))
def ZZ.r9:List Oper:=[
 oD 33 (.ld true 2 2),
 oN (.st 2 4 33)]
def ZZ.code:Code:=.seq (.region ZZ.r0) (.seq (.draw ZZ.r1 [(2,4)]) (.seq (.seq (.region ZZ.r2) (.block 0 (.loop ZZ.l0))) (.seq (.region ZZ.r9) (.ret))))
def ZZ:Func:=⟨34,[.cell 4 true 2],ZZ.code⟩
/-! muntin/compass.Turn -/
def ZaS.r0:List Oper:=[
 oD 4 (.mv (.c (.n 0)))]
def ZaS.r1:List Oper:=[
 oD 5 (.mv 0),
 oD 6 (.call (.c (.f 90 [])) [.t 5]),
 oD 7 (.un .not 6),
 oD 8 (.mv 7),
 ⟨(some 9),.mv 1,(some (8,false))⟩,
 ⟨(some 10),.call (.c (.f 90 [])) [.t 9],(some (8,false))⟩,
 ⟨(some 11),.un .not 10,(some (8,false))⟩,
 oD 12 (.pick 8 (.c (.b true)) 11)]
def ZaS.r2:List Oper:=[
 oD 4 (.mv (.c (.n 0)))]
def ZaS.r3:List Oper:=[
 oD 13 (.build [.n 0,.n 0,.n 0,.n 0] [(0,1,.c (.n 0)),(1,1,.c (.n 1)),(2,1,.c (.n (-2))),(3,1,.c (.n (-1)))]),
 oD 14 (.mv 1),
 oD 15 (.mv 0),
 oD 16 (.bin .sub 14 15),
 oD 17 (.bin .add 16 (.c (.n 4))),
 oD 18 (.bin .rem 17 (.c (.n 4))),
 oD 19 (.ix false 1 4 13 18),
 oD 4 (.mv 19)]
def ZaS.code:Code:=.seq (.region ZaS.r0) (.seq (.seq (.region ZaS.r1) (.cond 12 (.seq (.region ZaS.r2) (.ret)) (.skip))) (.seq (.region ZaS.r3) (.ret)))
def ZaS:Func:=⟨20,[.t 4],ZaS.code⟩
/-! muntin/muntinref01.Good -/
def ZaX.r0:List Oper:=[
 oD 2 (.mv (.c (.b false)))]
def ZaX.r1:List Oper:=[
 oD 3 (.mv 0),
 oD 4 (.bin .geq 3 (.c (.n 0))),
 oD 5 (.mv 4),
 ⟨(some 6),.mv 0,(some (5,true))⟩,
 ⟨(some 7),.bin .leq 6 (.c (.n 3)),(some (5,true))⟩,
 oD 8 (.pick 5 7 (.c (.b false))),
 oD 2 (.mv 8)]
def ZaX.code:Code:=.seq (.region ZaX.r0) (.seq (.region ZaX.r1) (.ret))
def ZaX:Func:=⟨9,[.t 2],ZaX.code⟩
/-! muntin/muntinref01.Left -/
def zm.r0:List Oper:=[
 oD 4 (.mv (.c (.n 0)))]
def zm.r1:List Oper:=[
 oD 7 (.mv 0),
 oD 8 (.call (.c (.f 223 [])) [.t 7]),
 oD 5 (.mv 8)]
def zm.r2:List Oper:=[
 oD 9 (.mv 5),
 oD 10 (.un .not 9)]
def zm.r3:List Oper:=[
 oD 4 (.mv (.c (.n 0)))]
def zm.r4:List Oper:=[
 oD 11 (.mv 1),
 oD 12 (.bin .rem 11 (.c (.n 4))),
 oD 6 (.mv 12)]
def zm.r5:List Oper:=[
 oD 13 (.mv 6),
 oD 14 (.bin .lss 13 (.c (.n 0)))]
def zm.r6:List Oper:=[
 oD 15 (.mv 6),
 oD 16 (.bin .add 15 (.c (.n 4))),
 oD 6 (.mv 16)]
def zm.r7:List Oper:=[
 oD 17 (.mv 0),
 oD 18 (.mv 6),
 oD 19 (.bin .add 17 18),
 oD 20 (.bin .rem 19 (.c (.n 4))),
 oD 4 (.mv 20)]
def zm.code:Code:=.seq (.region zm.r0) (.seq (.region zm.r1) (.seq (.seq (.region zm.r2) (.cond 10 (.seq (.region zm.r3) (.ret)) (.skip))) (.seq (.region zm.r4) (.seq (.seq (.region zm.r5) (.cond 14 (.region zm.r6) (.skip))) (.seq (.region zm.r7) (.ret))))))
def zm:Func:=⟨21,[.t 4],zm.code⟩
/-! muntin/muntinlaw21.RectKeeps -/
def Zh.r0:List Oper:=[
 oD 1 (.box 0),
 oD 2 (.mv (.c (.b false)))]
def Zh.r1:List Oper:=[
 oD 22 (.ld true 3 1),
 oD 23 (.call (.c (.f 28 [])) [.t 22,.c (.n 14)]),
 oD 21 (.mv 23),
 oD 24 (.ext 21 0),
 oD 25 (.ext 21 1),
 oD 3 (.mv 24),
 oD 4 (.mv 25)]
def Zh.r2:List Oper:=[
 oD 27 (.mv 3),
 oD 28 (.call (.c (.f 268 [])) [.t 27]),
 oD 26 (.mv 28),
 oD 29 (.ext 26 0),
 oD 30 (.ext 26 1),
 oD 5 (.mv 29),
 oD 6 (.mv 30)]
def Zh.r3:List Oper:=[
 oD 32 (.mv 3),
 oD 33 (.call (.c (.f 266 [])) [.t 32]),
 oD 31 (.mv 33),
 oD 34 (.ext 31 0),
 oD 35 (.ext 31 1),
 oD 7 (.mv 34),
 oD 8 (.mv 35)]
def Zh.r4:List Oper:=[
 oD 36 (.call (.c (.f 264 [])) []),
 oD 37 (.un .not 36),
 oD 38 (.mv 37),
 ⟨(some 39),.mv 8,(some (38,false))⟩,
 ⟨(some 40),.eq true .sc 39 (.c (.n 0)),(some (38,false))⟩,
 oD 41 (.pick 38 (.c (.b true)) 40),
 oD 42 (.mv 41),
 ⟨(some 43),.mv 3,(some (42,false))⟩,
 ⟨(some 44),.len 43,(some (42,false))⟩,
 ⟨(some 45),.bin .lss 44 (.c (.n 2)),(some (42,false))⟩,
 oD 46 (.pick 42 (.c (.b true)) 45)]
def Zh.r5:List Oper:=[
 oD 47 (.call (.c (.f 264 [])) []),
 oD 2 (.mv 47)]
def Zh.r6:List Oper:=[
 oD 49 (.mv 7),
 oD 50 (.call (.c (.f 269 [])) [.t 49]),
 oD 48 (.mv 50),
 oD 51 (.ext 48 0),
 oD 52 (.ext 48 1),
 oD 9 (.mv 51),
 oD 10 (.mv 52)]
def Zh.r7:List Oper:=[
 oD 53 (.mv 6),
 oD 54 (.eq true .sc 53 (.c (.n 0))),
 oD 55 (.mv 54),
 ⟨(some 56),.mv 9,(some (55,false))⟩,
 ⟨(some 57),.un .not 56,(some (55,false))⟩,
 oD 58 (.pick 55 (.c (.b true)) 57),
 oD 59 (.mv 58),
 ⟨(some 60),.mv 10,(some (59,false))⟩,
 ⟨(some 61),.eq true .sc 60 (.c (.n 0)),(some (59,false))⟩,
 oD 62 (.pick 59 (.c (.b true)) 61)]
def Zh.r8:List Oper:=[
 oD 2 (.mv (.c (.b false)))]
def Zh.r9:List Oper:=[
 oD 63 (.mv 5),
 oD 64 (.mv 7),
 oD 65 (.bsl 1 2 [.sn] [(0,1,.t 63),(1,1,.t 64)]),
 oD 66 (.len 65),
 oD 67 (.mv (.c (.n 0)))]
def Zh.r10:List Oper:=[
 oD 68 (.bin .lss 67 66)]
def Zh.r11:List Oper:=[
 oD 69 (.ixa 1 65 67),
 oD 70 (.ld false 1 69),
 oD 12 (.mv 70)]
def Zh.r12:List Oper:=[
 oD 72 (.mv 12),
 oD 73 (.call (.c (.f 181 [])) [.t 72]),
 oD 71 (.mv 73),
 oD 74 (.ext 71 0),
 oD 75 (.ext 71 1),
 oD 13 (.mv 74),
 oD 14 (.mv 75)]
def Zh.r13:List Oper:=[
 oD 76 (.mv 14),
 oD 77 (.eq true .sc 76 (.c (.n 0))),
 oD 78 (.mv 77),
 ⟨(some 79),.mv 12,(some (78,false))⟩,
 ⟨(some 80),.len 79,(some (78,false))⟩,
 ⟨(some 81),.mv 3,(some (78,false))⟩,
 ⟨(some 82),.len 81,(some (78,false))⟩,
 ⟨(some 83),.bin .lss 80 82,(some (78,false))⟩,
 oD 84 (.pick 78 (.c (.b true)) 83)]
def Zh.r14:List Oper:=[
 oD 2 (.mv (.c (.b false)))]
def Zh.r15:List Oper:=[
 oD 85 (.mv 3),
 oD 86 (.len 85),
 oD 87 (.mv (.c (.n 0)))]
def Zh.r16:List Oper:=[
 oD 88 (.bin .lss 87 86)]
def Zh.r17:List Oper:=[
 oD 89 (.mv 87),
 oD 90 (.ixa 8 85 87),
 oD 91 (.ld true 8 90),
 oD 16 (.alloc [.n 0,.n 0,.n 0,.n 0,.n 0,.n 0,.n 0,.n 0]),
 oD 15 (.mv 89),
 oN (.st 8 16 91)]
def Zh.r18:List Oper:=[
 oD 92 (.fa 0 16),
 oD 93 (.ld true 4 92),
 oD 94 (.mv (.c (.n 0)))]
def Zh.r19:List Oper:=[
 oD 95 (.bin .lss 94 (.c (.n 4)))]
def Zh.r20:List Oper:=[
 oD 96 (.mv 94),
 oD 97 (.ix false 1 4 93 94),
 oD 17 (.mv 96),
 oD 18 (.mv 97)]
def Zh.r21:List Oper:=[
 oD 98 (.mv 15),
 oD 19 (.mv 98)]
def Zh.r22:List Oper:=[
 oD 20 (.mv (.c (.n 0)))]
def Zh.r23:List Oper:=[
 oD 99 (.mv 18),
 oD 100 (.bin .geq 99 (.c (.n 0))),
 oD 101 (.mv 100),
 ⟨(some 102),.mv 19,(some (101,true))⟩,
 ⟨(some 103),.mv 18,(some (101,true))⟩,
 ⟨(some 104),.eq true .sc 102 103,(some (101,true))⟩,
 oD 105 (.pick 101 104 (.c (.b false)))]
def Zh.r25:List Oper:=[
 oD 108 (.mv 20),
 oD 109 (.mv 12),
 oD 110 (.len 109),
 oD 111 (.bin .gtr 108 110),
 oD 112 (.mv 111),
 ⟨(some 113),.mv 12,(some (112,false))⟩,
 ⟨(some 114),.mv 19,(some (112,false))⟩,
 ⟨(some 115),.mv 17,(some (112,false))⟩,
 ⟨(some 116),.ixa 8 113 114,(some (112,false))⟩,
 ⟨(some 117),.fa 0 116,(some (112,false))⟩,
 ⟨(some 118),.ixaa 1 4 117 115,(some (112,false))⟩,
 ⟨(some 119),.ld false 1 118,(some (112,false))⟩,
 ⟨(some 120),.bin .lss 119 (.c (.n 0)),(some (112,false))⟩,
 oD 121 (.pick 112 (.c (.b true)) 120),
 oD 122 (.mv 121),
 ⟨(some 123),.mv 12,(some (122,false))⟩,
 ⟨(some 124),.mv 19,(some (122,false))⟩,
 ⟨(some 125),.mv 17,(some (122,false))⟩,
 ⟨(some 126),.ixa 8 123 124,(some (122,false))⟩,
 ⟨(some 127),.fa 4 126,(some (122,false))⟩,
 ⟨(some 128),.ixaa 1 4 127 125,(some (122,false))⟩,
 ⟨(some 129),.ld false 1 128,(some (122,false))⟩,
 ⟨(some 130),.mv 17,(some (122,false))⟩,
 ⟨(some 131),.fa 4 16,(some (122,false))⟩,
 ⟨(some 132),.ixaa 1 4 131 130,(some (122,false))⟩,
 ⟨(some 133),.ld false 1 132,(some (122,false))⟩,
 ⟨(some 134),.eq true .sc 129 133,(some (122,false))⟩,
 oD 135 (.pick 122 (.c (.b true)) 134),
 oD 136 (.mv 135),
 ⟨(some 137),.mv 19,(some (136,false))⟩,
 ⟨(some 138),.mv 15,(some (136,false))⟩,
 ⟨(some 139),.eq true .sc 137 138,(some (136,false))⟩,
 ⟨(some 140),.mv 139,(some (136,false))⟩,
 ⟨(some 141),.mv 19,(some (140,true))⟩,
 ⟨(some 142),.mv 3,(some (140,true))⟩,
 ⟨(some 143),.len 142,(some (140,true))⟩,
 ⟨(some 144),.bin .lss 141 143,(some (140,true))⟩,
 ⟨(some 145),.pick 140 144 (.c (.b false)),(some (136,false))⟩,
 oD 146 (.pick 136 (.c (.b true)) 145)]
def Zh.r26:List Oper:=[
 oD 2 (.mv (.c (.b false)))]
def Zh.r27:List Oper:=[
 oD 147 (.mv 12),
 oD 148 (.mv 19),
 oD 149 (.mv 17),
 oD 150 (.ixa 8 147 148),
 oD 151 (.fa 0 150),
 oD 152 (.ixaa 1 4 151 149),
 oD 153 (.ld false 1 152),
 oD 19 (.mv 153)]
def Zh.r24:List Oper:=[
 oD 106 (.mv 20),
 oD 107 (.bin .add 106 (.c (.n 1))),
 oD 20 (.mv 107)]
def Zh.l0:Code:=.seq (.seq (.region Zh.r23) (.cond 105 (.skip) (.exit 6))) (.seq (.block 7 (.seq (.seq (.draw Zh.r25 [(21,25)]) (.cond 146 (.seq (.region Zh.r26) (.ret)) (.skip))) (.region Zh.r27))) (.region Zh.r24))
def Zh.r28:List Oper:=[
 oD 154 (.bin .add 94 (.c (.n 1))),
 oD 94 (.mv 154)]
def Zh.l1:Code:=.seq (.region Zh.r19) (.seq (.cond 95 (.skip) (.exit 4)) (.seq (.block 5 (.seq (.region Zh.r20) (.seq (.region Zh.r21) (.seq (.region Zh.r22) (.block 6 (.loop Zh.l0)))))) (.region Zh.r28)))
def Zh.r29:List Oper:=[
 oD 155 (.bin .add 87 (.c (.n 1))),
 oD 87 (.mv 155)]
def Zh.l2:Code:=.seq (.region Zh.r16) (.seq (.cond 88 (.skip) (.exit 2)) (.seq (.block 3 (.seq (.region Zh.r17) (.seq (.region Zh.r18) (.block 4 (.loop Zh.l1))))) (.region Zh.r29)))
def Zh.r30:List Oper:=[
 oD 156 (.bin .add 67 (.c (.n 1))),
 oD 67 (.mv 156)]
def Zh.l3:Code:=.seq (.region Zh.r10) (.seq (.cond 68 (.skip) (.exit 0)) (.seq (.block 1 (.seq (.region Zh.r11) (.seq (.seq (.region Zh.r12) (.seq (.region Zh.r13) (.cond 84 (.seq (.region Zh.r14) (.ret)) (.skip)))) (.seq (.region Zh.r15) (.block 2 (.loop Zh.l2)))))) (.region Zh.r30)))
def Zh.r31:List Oper:=[
 oD 2 (.mv (.c (.b true)))]
def Zh.code:Code:=.seq (.region Zh.r0) (.seq (.region Zh.r1) (.seq (.region Zh.r2) (.seq (.region Zh.r3) (.seq (.seq (.region Zh.r4) (.cond 46 (.seq (.region Zh.r5) (.ret)) (.skip))) (.seq (.region Zh.r6) (.seq (.seq (.region Zh.r7) (.cond 62 (.seq (.region Zh.r8) (.ret)) (.skip))) (.seq (.seq (.region Zh.r9) (.block 0 (.loop Zh.l3))) (.seq (.region Zh.r31) (.ret)))))))))
def Zh:Func:=⟨157,[.t 2],Zh.code⟩
/-! muntin/muntinlaw21.wakes -/
def zj.r0:List Oper:=[
 oD 0 (.mv (.c (.b false)))]
def zj.r1:List Oper:=[
 oD 10 (.call (.c (.f 46 [])) [.c (.n 2)]),
 oD 1 (.mv 10)]
def zj.r2:List Oper:=[
 oD 12 (.mv 1),
 oD 13 (.call (.c (.f 53 [])) [.t 12,.c (.n 0),.c (.n 0),.c (.n 1),.c (.n 0)]),
 oD 11 (.mv 13),
 oD 14 (.ext 11 0),
 oD 15 (.ext 11 1),
 oD 1 (.mv 14)]
def zj.r3:List Oper:=[
 oD 17 (.mv 1),
 oD 18 (.call (.c (.f 268 [])) [.t 17]),
 oD 16 (.mv 18),
 oD 19 (.ext 16 0),
 oD 20 (.ext 16 1),
 oD 2 (.mv 19),
 oD 3 (.mv 20)]
def zj.r4:List Oper:=[
 oD 22 (.mv 1),
 oD 23 (.call (.c (.f 266 [])) [.t 22]),
 oD 21 (.mv 23),
 oD 24 (.ext 21 0),
 oD 25 (.ext 21 1),
 oD 4 (.mv 24),
 oD 5 (.mv 25)]
def zj.r5:List Oper:=[
 oD 27 (.mv 4),
 oD 28 (.call (.c (.f 269 [])) [.t 27]),
 oD 26 (.mv 28),
 oD 29 (.ext 26 0),
 oD 30 (.ext 26 1),
 oD 6 (.mv 29),
 oD 7 (.mv 30)]
def zj.r6:List Oper:=[
 oD 32 (.mv 1),
 oD 33 (.slc 8 32 none (some (.c (.n 1))) none),
 oD 34 (.call (.c (.f 268 [])) [.t 33]),
 oD 31 (.mv 34),
 oD 35 (.ext 31 0),
 oD 36 (.ext 31 1),
 oD 8 (.mv 35),
 oD 9 (.mv 36)]
def zj.r7:List Oper:=[
 oD 37 (.mv 3),
 oD 38 (.eq false .sc 37 (.c (.n 0))),
 oD 39 (.mv 38),
 ⟨(some 40),.mv 2,(some (39,true))⟩,
 ⟨(some 41),.len 40,(some (39,true))⟩,
 ⟨(some 42),.eq false .sc 41 (.c (.n 7)),(some (39,true))⟩,
 oD 43 (.pick 39 42 (.c (.b false))),
 oD 44 (.mv 43),
 ⟨(some 45),.mv 5,(some (44,true))⟩,
 ⟨(some 46),.eq false .sc 45 (.c (.n 0)),(some (44,true))⟩,
 oD 47 (.pick 44 46 (.c (.b false))),
 oD 48 (.mv 47),
 ⟨(some 49),.mv 4,(some (48,true))⟩,
 ⟨(some 50),.len 49,(some (48,true))⟩,
 ⟨(some 51),.bin .gtr 50 (.c (.n 7)),(some (48,true))⟩,
 oD 52 (.pick 48 51 (.c (.b false))),
 oD 53 (.mv 52),
 ⟨(some 54),.mv 6,(some (53,true))⟩,
 oD 55 (.pick 53 54 (.c (.b false))),
 oD 56 (.mv 55),
 ⟨(some 57),.mv 7,(some (56,true))⟩,
 ⟨(some 58),.eq false .sc 57 (.c (.n 0)),(some (56,true))⟩,
 oD 59 (.pick 56 58 (.c (.b false))),
 oD 60 (.mv 59),
 ⟨(some 61),.mv 9,(some (60,true))⟩,
 ⟨(some 62),.eq false .sc 61 (.c (.n 3)),(some (60,true))⟩,
 oD 63 (.pick 60 62 (.c (.b false))),
 oD 0 (.mv 63)]
def zj.code:Code:=.seq (.region zj.r0) (.seq (.region zj.r1) (.seq (.region zj.r2) (.seq (.region zj.r3) (.seq (.region zj.r4) (.seq (.region zj.r5) (.seq (.region zj.r6) (.seq (.region zj.r7) (.ret))))))))
def zj:Func:=⟨64,[.t 0],zj.code⟩
/-! muntin/rect.Refine -/
def zn.r0:List Oper:=[
 oD 2 (.mv (.c (.sn))),
 oD 3 (.mv (.c (.n 0)))]
def zn.r1:List Oper:=[
 oD 8 (.mv 0),
 oD 9 (.call (.c (.f 275 [])) [.t 8]),
 oD 7 (.mv 9),
 oD 10 (.ext 7 0),
 oD 11 (.ext 7 1),
 oD 4 (.mv 10),
 oD 5 (.mv 11)]
def zn.r2:List Oper:=[
 oD 13 (.mv 5),
 oD 14 (.eq false .sc 13 (.c (.n 2))),
 oD 12 (.mv 14)]
def zn.r3:List Oper:=[
 oD 15 (.mv 0),
 oD 16 (.call (.c (.f 51 [])) [.t 15]),
 oD 2 (.mv 16),
 oD 3 (.mv (.c (.n 0)))]
def zn.r4:List Oper:=[
 oD 18 (.mv 5),
 oD 19 (.eq true .sc 18 (.c (.n 0))),
 oD 17 (.mv 19)]
def zn.r5:List Oper:=[
 oD 20 (.mv 5),
 oD 2 (.mv (.c (.sn))),
 oD 3 (.mv 20)]
def zn.r6:List Oper:=[
 oD 6 (.mv (.c (.b true)))]
def zn.r7:List Oper:=[
 oD 21 (.mv 6)]
def zn.r8:List Oper:=[
 oD 23 (.mv 4),
 oD 24 (.call (.c (.f 276 [])) [.t 23]),
 oD 22 (.mv 24),
 oD 25 (.ext 22 0),
 oD 26 (.ext 22 1),
 oD 6 (.mv 25),
 oD 5 (.mv 26)]
def zn.r9:List Oper:=[
 oD 27 (.mv 5),
 oD 28 (.eq true .sc 27 (.c (.n 0)))]
def zn.r10:List Oper:=[
 oD 29 (.mv 5),
 oD 2 (.mv (.c (.sn))),
 oD 3 (.mv 29)]
def zn.l0:Code:=.seq (.seq (.region zn.r7) (.cond 21 (.skip) (.exit 1))) (.block 2 (.seq (.region zn.r8) (.seq (.region zn.r9) (.cond 28 (.seq (.region zn.r10) (.ret)) (.skip)))))
def zn.r11:List Oper:=[
 oD 30 (.mv 4),
 oD 31 (.call (.c (.f 57 [])) [.t 30]),
 oD 2 (.mv 31),
 oD 3 (.mv (.c (.n 0)))]
def zn.code:Code:=.seq (.region zn.r0) (.seq (.region zn.r1) (.seq (.block 0 (.seq (.region zn.r2) (.cond 12 (.seq (.region zn.r3) (.ret)) (.seq (.region zn.r4) (.cond 17 (.seq (.region zn.r5) (.ret)) (.skip)))))) (.seq (.seq (.region zn.r6) (.block 1 (.loop zn.l0))) (.seq (.region zn.r11) (.ret)))))
def zn:Func:=⟨32,[.t 2,.t 3],zn.code⟩
/-! muntin/rect.Frame -/
def ZaY.r0:List Oper:=[
 oD 2 (.mv (.c (.sn))),
 oD 3 (.mv (.c (.n 0)))]
def ZaY.r1:List Oper:=[
 oD 7 (.mv 0),
 oD 8 (.call (.c (.f 275 [])) [.t 7]),
 oD 6 (.mv 8),
 oD 9 (.ext 6 0),
 oD 10 (.ext 6 1),
 oD 4 (.mv 9),
 oD 5 (.mv 10)]
def ZaY.r2:List Oper:=[
 oD 11 (.mv 5),
 oD 12 (.eq true .sc 11 (.c (.n 0)))]
def ZaY.r3:List Oper:=[
 oD 13 (.mv 5),
 oD 2 (.mv (.c (.sn))),
 oD 3 (.mv 13)]
def ZaY.r4:List Oper:=[
 oD 14 (.mv 4),
 oD 15 (.call (.c (.f 57 [])) [.t 14]),
 oD 2 (.mv 15),
 oD 3 (.mv (.c (.n 0)))]
def ZaY.code:Code:=.seq (.region ZaY.r0) (.seq (.region ZaY.r1) (.seq (.seq (.region ZaY.r2) (.cond 12 (.seq (.region ZaY.r3) (.ret)) (.skip))) (.seq (.region ZaY.r4) (.ret))))
def ZaY:Func:=⟨16,[.t 2,.t 3],ZaY.code⟩
/-! muntin/rect.Rectangular -/
def zF.r0:List Oper:=[
 oD 2 (.mv (.c (.b false))),
 oD 3 (.mv (.c (.n 0)))]
def zF.r1:List Oper:=[
 oD 8 (.mv 0),
 oD 9 (.call (.c (.f 176 [])) [.t 8]),
 oD 4 (.mv 9)]
def zF.r2:List Oper:=[
 oD 10 (.mv 4),
 oD 11 (.eq true .sc 10 (.c (.n 0)))]
def zF.r3:List Oper:=[
 oD 12 (.mv 4),
 oD 2 (.mv (.c (.b false))),
 oD 3 (.mv 12)]
def zF.r4:List Oper:=[
 oD 14 (.mv 0),
 oD 15 (.call (.c (.f 178 [])) [.t 14]),
 oD 13 (.mv 15),
 oD 16 (.ext 13 0),
 oD 17 (.ext 13 1),
 oD 18 (.ext 13 2),
 oD 5 (.mv 16),
 oD 6 (.mv 17),
 oD 7 (.mv 18)]
def zF.r5:List Oper:=[
 oD 19 (.mv 7),
 oD 20 (.un .not 19),
 oD 2 (.mv 20),
 oD 3 (.mv (.c (.n 0)))]
def zF.code:Code:=.seq (.region zF.r0) (.seq (.seq (.region zF.r1) (.seq (.region zF.r2) (.cond 11 (.seq (.region zF.r3) (.ret)) (.skip)))) (.seq (.region zF.r4) (.seq (.region zF.r5) (.ret))))
def zF:Func:=⟨21,[.t 2,.t 3],zF.code⟩
/-! muntin/rect.framed -/
def zN.r0:List Oper:=[
 oD 2 (.mv (.c (.pn))),
 oD 3 (.mv (.c (.n 0)))]
def zN.r1:List Oper:=[
 oD 9 (.mv 0),
 oD 10 (.call (.c (.f 278 [])) [.t 9]),
 oD 8 (.mv 10),
 oD 11 (.ext 8 0),
 oD 12 (.ext 8 1),
 oD 4 (.alloc [.n 0,.n 0]),
 oN (.st 2 4 11),
 oD 5 (.mv 12)]
def zN.r2:List Oper:=[
 oD 13 (.mv 5),
 oD 14 (.eq true .sc 13 (.c (.n 0)))]
def zN.r3:List Oper:=[
 oD 15 (.mv 5),
 oD 2 (.mv (.c (.pn))),
 oD 3 (.mv 15)]
def zN.r4:List Oper:=[
 oD 16 (.mv 0),
 oD 17 (.len 16),
 oD 18 (.bin .add 17 (.c (.n 4))),
 oD 19 (.bin .add 18 (.c (.n 1))),
 oD 20 (.bin .gtr 19 (.c (.n 4096)))]
def zN.r5:List Oper:=[
 oD 2 (.mv (.c (.pn))),
 oD 3 (.mv (.c (.n 6)))]
def zN.r6:List Oper:=[
 oD 22 (.mv 0),
 oD 23 (.call (.c (.f 119 [])) [.t 22]),
 oD 21 (.mv 23),
 oD 24 (.ext 21 0),
 oD 25 (.ext 21 1),
 oD 6 (.mv 24),
 oD 7 (.mv 25)]
def zN.r7:List Oper:=[
 oD 26 (.mv 6),
 oD 27 (.ld true 2 4),
 oD 28 (.call (.c (.f 279 [])) [.t 26,.t 27])]
def zN.r8:List Oper:=[
 oD 29 (.mv 6),
 oD 2 (.mv 29),
 oD 3 (.mv (.c (.n 0)))]
def zN.code:Code:=.seq (.region zN.r0) (.seq (.region zN.r1) (.seq (.seq (.region zN.r2) (.cond 14 (.seq (.region zN.r3) (.ret)) (.skip))) (.seq (.seq (.region zN.r4) (.cond 20 (.seq (.region zN.r5) (.ret)) (.skip))) (.seq (.region zN.r6) (.seq (.region zN.r7) (.seq (.region zN.r8) (.ret)))))))
def zN:Func:=⟨30,[.t 2,.t 3],zN.code⟩
/-! muntin/rect.cut -/
def zS.r0:List Oper:=[
 oD 2 (.mv (.c (.b false))),
 oD 3 (.mv (.c (.n 0)))]
def zS.r1:List Oper:=[
 oD 19 (.mv 0),
 oD 20 (.call (.c (.f 57 [])) [.t 19]),
 oD 4 (.mv 20)]
def zS.r2:List Oper:=[
 oD 22 (.mv 4),
 oD 23 (.call (.c (.f 178 [])) [.t 22]),
 oD 21 (.mv 23),
 oD 24 (.ext 21 0),
 oD 25 (.ext 21 1),
 oD 26 (.ext 21 2),
 oD 5 (.mv 24),
 oD 6 (.mv 25),
 oD 7 (.mv 26)]
def zS.r3:List Oper:=[
 oD 27 (.mv 7),
 oD 28 (.un .not 27)]
def zS.r4:List Oper:=[
 oD 2 (.mv (.c (.b false))),
 oD 3 (.mv (.c (.n 0)))]
def zS.r5:List Oper:=[
 oD 30 (.mv 4),
 oD 31 (.call (.c (.f 203 [])) [.t 30]),
 oD 29 (.mv 31),
 oD 32 (.ext 29 0),
 oD 33 (.ext 29 1),
 oD 8 (.mv 32),
 oD 9 (.mv 33)]
def zS.r6:List Oper:=[
 oD 35 (.mv 4),
 oD 36 (.mv 8),
 oD 37 (.mv 5),
 oD 38 (.ixa 1 36 37),
 oD 39 (.ld false 1 38),
 oD 40 (.call (.c (.f 204 [])) [.t 35,.t 39]),
 oD 41 (.mv 6),
 oD 42 (.call (.c (.f 13 [])) [.t 40,.t 41]),
 oD 34 (.mv 42),
 oD 43 (.ext 34 0),
 oD 44 (.ext 34 1),
 oD 10 (.mv 43),
 oD 11 (.mv 44)]
def zS.r7:List Oper:=[
 oD 45 (.mv 8),
 oD 46 (.mv 5),
 oD 47 (.ixa 1 45 46),
 oD 48 (.ld false 1 47),
 oD 49 (.mv 6),
 oD 50 (.ixa 2 48 49),
 oD 51 (.ld true 2 50),
 oD 52 (.mv 8),
 oD 53 (.mv 5),
 oD 54 (.ixa 1 52 53),
 oD 55 (.ld false 1 54),
 oD 56 (.mv 10),
 oD 57 (.ixa 2 55 56),
 oD 58 (.ld true 2 57),
 oD 12 (.alloc [.n 0,.n 0]),
 oD 13 (.alloc [.n 0,.n 0]),
 oN (.st 2 12 51),
 oN (.st 2 13 58)]
def zS.r8:List Oper:=[
 oD 60 (.mv 0),
 oD 61 (.fa 0 12),
 oD 62 (.ld false 1 61),
 oD 63 (.fa 1 12),
 oD 64 (.ld false 1 63),
 oD 65 (.call (.c (.f 54 [])) [.t 60,.t 62,.t 64]),
 oD 59 (.mv 65),
 oD 66 (.ext 59 0),
 oD 67 (.ext 59 1),
 oD 68 (.ext 59 2),
 oD 14 (.mv 66),
 oD 15 (.mv 67),
 oD 16 (.mv 68)]
def zS.r9:List Oper:=[
 oD 70 (.mv 0),
 oD 71 (.fa 0 13),
 oD 72 (.ld false 1 71),
 oD 73 (.fa 1 13),
 oD 74 (.ld false 1 73),
 oD 75 (.call (.c (.f 48 [])) [.t 70,.t 72,.t 74]),
 oD 69 (.mv 75),
 oD 76 (.ext 69 0),
 oD 77 (.ext 69 1),
 oD 17 (.mv 76),
 oD 18 (.mv 77)]
def zS.r10:List Oper:=[
 oD 78 (.mv 18),
 oD 79 (.eq true .sc 78 (.c (.n 0)))]
def zS.r11:List Oper:=[
 oD 80 (.mv 18),
 oD 2 (.mv (.c (.b false))),
 oD 3 (.mv 80)]
def zS.r12:List Oper:=[
 oD 81 (.mv 0),
 oD 82 (.mv 14),
 oD 83 (.fa 1 12),
 oD 84 (.ld false 1 83),
 oD 85 (.mv 17),
 oD 86 (.call (.c (.f 52 [])) [.t 81,.t 82,.t 84,.t 85,.c (.n (-2))]),
 oD 2 (.mv (.c (.b true))),
 oD 3 (.mv 86)]
def zS.code:Code:=.seq (.region zS.r0) (.seq (.region zS.r1) (.seq (.region zS.r2) (.seq (.seq (.region zS.r3) (.cond 28 (.seq (.region zS.r4) (.ret)) (.skip))) (.seq (.region zS.r5) (.seq (.region zS.r6) (.seq (.draw zS.r7 [(3,10),(6,10),(3,13),(6,13),(3,14),(6,14),(10,14),(13,14),(3,15),(6,15),(10,15),(13,15),(14,15),(10,16),(13,16)]) (.seq (.region zS.r8) (.seq (.region zS.r9) (.seq (.seq (.region zS.r10) (.cond 79 (.seq (.region zS.r11) (.ret)) (.skip))) (.seq (.region zS.r12) (.ret)))))))))))
def zS:Func:=⟨87,[.t 2,.t 3],zS.code⟩
/-! muntin/rect.outside -/
def Zac.r0:List Oper:=[
 oD 2 (.alloc [.n 0,.n 0]),
 oD 3 (.mv (.c (.n 0)))]
def Zac.r1:List Oper:=[
 oD 11 (.mv 0),
 oD 12 (.call (.c (.f 195 [])) [.t 11]),
 oD 10 (.mv 12),
 oD 13 (.ext 10 0),
 oD 14 (.ext 10 1),
 oD 4 (.mv 13),
 oD 5 (.mv 14)]
def Zac.r2:List Oper:=[
 oD 15 (.mv 5),
 oD 16 (.eq true .sc 15 (.c (.n 0)))]
def Zac.r3:List Oper:=[
 oD 17 (.build [.n 0,.n 0] []),
 oD 18 (.mv 5),
 oN (.st 2 2 17),
 oD 3 (.mv 18)]
def Zac.r4:List Oper:=[
 oD 20 (.mv 0),
 oD 21 (.call (.c (.f 203 [])) [.t 20]),
 oD 19 (.mv 21),
 oD 22 (.ext 19 0),
 oD 23 (.ext 19 1),
 oD 6 (.mv 22),
 oD 7 (.mv 23)]
def Zac.r5:List Oper:=[
 oD 25 (.mv 0),
 oD 26 (.mv 6),
 oD 27 (.mv 4),
 oD 28 (.ixa 1 26 27),
 oD 29 (.ld false 1 28),
 oD 30 (.call (.c (.f 204 [])) [.t 25,.t 29]),
 oD 31 (.call (.c (.f 15 [])) [.t 30]),
 oD 24 (.mv 31),
 oD 32 (.ext 24 0),
 oD 33 (.ext 24 1),
 oD 8 (.mv 32),
 oD 9 (.mv 33)]
def Zac.r6:List Oper:=[
 oD 34 (.mv 6),
 oD 35 (.mv 4),
 oD 36 (.ixa 1 34 35),
 oD 37 (.ld false 1 36),
 oD 38 (.mv 8),
 oD 39 (.ixa 2 37 38),
 oD 40 (.ld true 2 39),
 oN (.st 2 2 40),
 oD 3 (.mv (.c (.n 0)))]
def Zac.code:Code:=.seq (.region Zac.r0) (.seq (.region Zac.r1) (.seq (.seq (.region Zac.r2) (.cond 16 (.seq (.region Zac.r3) (.ret)) (.skip))) (.seq (.region Zac.r4) (.seq (.region Zac.r5) (.seq (.region Zac.r6) (.ret))))))
def Zac:Func:=⟨41,[.cell 2 true 2,.t 3],Zac.code⟩
/-! muntin/rect.frame -/
def ZT.r0:List Oper:=[
 oD 3 (.box 1)]
def ZT.r1:List Oper:=[
 oD 14 (.mv 0),
 oD 15 (.fa 0 3),
 oD 16 (.ld false 1 15),
 oD 17 (.fa 1 3),
 oD 18 (.ld false 1 17),
 oD 19 (.call (.c (.f 54 [])) [.t 14,.t 16,.t 18]),
 oD 13 (.mv 19),
 oD 20 (.ext 13 0),
 oD 21 (.ext 13 1),
 oD 22 (.ext 13 2),
 oD 4 (.mv 20),
 oD 5 (.mv 21),
 oD 6 (.mv 22)]
def ZT.r2:List Oper:=[
 oD 23 (.mv 0),
 oD 24 (.call (.c (.f 55 [])) [.t 23]),
 oD 7 (.mv 24)]
def ZT.r3:List Oper:=[
 oD 25 (.mv (.c (.n 0)))]
def ZT.r4:List Oper:=[
 oD 26 (.bin .lss 25 (.c (.n 5)))]
def ZT.r5:List Oper:=[
 oD 27 (.mv 0),
 oD 28 (.call (.c (.f 50 [])) [.t 27])]
def ZT.r6:List Oper:=[
 oD 29 (.bin .add 25 (.c (.n 1))),
 oD 25 (.mv 29)]
def ZT.l0:Code:=.seq (.region ZT.r4) (.seq (.cond 26 (.skip) (.exit 0)) (.seq (.block 1 (.region ZT.r5)) (.region ZT.r6)))
def ZT.r7:List Oper:=[
 oD 30 (.mv (.c (.n 0)))]
def ZT.r8:List Oper:=[
 oD 31 (.bin .lss 30 (.c (.n 4)))]
def ZT.r9:List Oper:=[
 oD 32 (.mv 30),
 oD 8 (.mv 32)]
def ZT.r10:List Oper:=[
 oD 33 (.mv 8),
 oD 34 (.bin .add 33 (.c (.n 3))),
 oD 35 (.bin .rem 34 (.c (.n 4))),
 oD 36 (.mv 8),
 oD 9 (.mv 35),
 oD 10 (.mv 36)]
def ZT.r11:List Oper:=[
 oD 37 (.mv 7),
 oD 38 (.mv 8),
 oD 39 (.bin .add 37 38),
 oD 40 (.mv 7),
 oD 41 (.mv 8),
 oD 42 (.bin .add 41 (.c (.n 1))),
 oD 43 (.bin .rem 42 (.c (.n 4))),
 oD 44 (.bin .add 40 43),
 oD 11 (.mv 39),
 oD 12 (.mv 44)]
def ZT.r12:List Oper:=[
 oD 45 (.mv 9),
 oD 46 (.fa 1 3),
 oD 47 (.ld false 1 46),
 oD 48 (.eq false .sc 45 47)]
def ZT.r13:List Oper:=[
 oD 49 (.mv 0),
 oD 50 (.mv 11),
 oD 51 (.mv 10),
 oD 52 (.mv 7),
 oD 53 (.bin .add 52 (.c (.n 4))),
 oD 54 (.call (.c (.f 52 [])) [.t 49,.t 50,.t 51,.t 53,.c (.n (-2))])]
def ZT.r14:List Oper:=[
 oD 55 (.mv 7),
 oD 56 (.bin .add 55 (.c (.n 4))),
 oD 11 (.mv 56)]
def ZT.r15:List Oper:=[
 oD 57 (.mv 0),
 oD 58 (.mv 11),
 oD 59 (.mv 10),
 oD 60 (.mv 12),
 oD 61 (.call (.c (.f 52 [])) [.t 57,.t 58,.t 59,.t 60,.c (.n (-2))])]
def ZT.r16:List Oper:=[
 oD 62 (.bin .add 30 (.c (.n 1))),
 oD 30 (.mv 62)]
def ZT.l1:Code:=.seq (.region ZT.r8) (.seq (.cond 31 (.skip) (.exit 2)) (.seq (.block 3 (.seq (.region ZT.r9) (.seq (.region ZT.r10) (.seq (.region ZT.r11) (.seq (.seq (.region ZT.r12) (.cond 48 (.seq (.region ZT.r13) (.region ZT.r14)) (.skip))) (.region ZT.r15)))))) (.region ZT.r16)))
def ZT.r17:List Oper:=[
 oD 63 (.mv 0),
 oD 64 (.mv 4),
 oD 65 (.fa 1 3),
 oD 66 (.ld false 1 65),
 oD 67 (.mv 7),
 oD 68 (.bin .add 67 (.c (.n 4))),
 oD 69 (.call (.c (.f 52 [])) [.t 63,.t 64,.t 66,.t 68,.c (.n (-2))])]
def ZT.code:Code:=.seq (.region ZT.r0) (.seq (.region ZT.r1) (.seq (.region ZT.r2) (.seq (.seq (.region ZT.r3) (.block 0 (.loop ZT.l0))) (.seq (.seq (.region ZT.r7) (.block 2 (.loop ZT.l1))) (.region ZT.r17)))))
def ZT:Func:=⟨70,[],ZT.code⟩
def G:Prog:=fun i=>match i with
  | 13=>some zJ
  | 15=>some z9
  | 28=>some Zk
  | 29=>some ZB
  | 30=>some Z4
  | 32=>some ZbC
  | 34=>some Zx
  | 36=>some Zz
  | 46=>some ZY
  | 48=>some ZF
  | 50=>some zP
  | 51=>some zA
  | 52=>some zq
  | 53=>some zu
  | 54=>some Za5
  | 55=>some ZaF
  | 57=>some Zaz
  | 58=>some ZbQ
  | 63=>some ZC
  | 64=>some Z0
  | 65=>some Z9
  | 66=>some zd
  | 67=>some ZL
  | 74=>some ZbY
  | 75=>some ZbB
  | 76=>some Zbc
  | 77=>some ZaR
  | 78=>some Zan
  | 79=>some Zbu
  | 82=>some zK
  | 83=>some ZG
  | 89=>some Zb2
  | 90=>some Zb9
  | 91=>some ZO
  | 97=>some Zb8
  | 98=>some z7
  | 119=>some ZbO
  | 176=>some zH
  | 177=>some Zy
  | 178=>some zi
  | 181=>some Zs
  | 182=>some zb
  | 195=>some Zab
  | 201=>some zc
  | 202=>some ZH
  | 203=>some Z6
  | 204=>some z8
  | 205=>some Zbt
  | 206=>some ZN
  | 207=>some ZM
  | 219=>some zp
  | 220=>some ZbA
  | 221=>some ZZ
  | 222=>some ZaS
  | 223=>some ZaX
  | 224=>some zm
  | 255=>some Zh
  | 264=>some zj
  | 266=>some zn
  | 268=>some ZaY
  | 269=>some zF
  | 275=>some zN
  | 276=>some zS
  | 278=>some Zac
  | 279=>some ZT
  | _=>none
theorem ZfZ:G 13 = some zJ:=rfl
theorem Zfn:G 15 = some z9:=rfl
theorem ZdN:G 28 = some Zk:=rfl
theorem Zfq:G 29 = some ZB:=rfl
theorem Zd3:G 30 = some Z4:=rfl
theorem Zfr:G 32 = some ZbC:=rfl
theorem Zd0:G 34 = some Zx:=rfl
theorem ZdZ:G 36 = some Zz:=rfl
theorem ZdY:G 46 = some ZY:=rfl
theorem ZdX:G 48 = some ZF:=rfl
theorem Zex:G 50 = some zP:=rfl
theorem ZcR:G 51 = some zA:=rfl
theorem Zeh:G 52 = some zq:=rfl
theorem ZdM:G 53 = some zu:=rfl
theorem Zei:G 54 = some Za5:=rfl
theorem Zey:G 55 = some ZaF:=rfl
theorem ZdW:G 57 = some Zaz:=rfl
theorem Zfb:G 58 = some ZbQ:=rfl
theorem Zde:G 63 = some ZC:=rfl
theorem Zdd:G 64 = some Z0:=rfl
theorem ZdO:G 65 = some Z9:=rfl
theorem Zfo:G 66 = some zd:=rfl
theorem Zfc:G 67 = some ZL:=rfl
theorem Zfp:G 74 = some ZbY:=rfl
theorem ZeC:G 75 = some ZbB:=rfl
theorem Zez:G 76 = some Zbc:=rfl
theorem Ze9:G 77 = some ZaR:=rfl
theorem Zc9:G 78 = some Zan:=rfl
theorem Zew:G 79 = some Zbu:=rfl
theorem ZfH:G 82 = some zK:=rfl
theorem Zd5:G 83 = some ZG:=rfl
theorem ZfY:G 89 = some Zb2:=rfl
theorem Ze8:G 90 = some Zb9:=rfl
theorem ZcU:G 91 = some ZO:=rfl
theorem ZgU:G 97 = some Zb8:=rfl
theorem Zfk:G 98 = some z7:=rfl
theorem Zg6:G 119 = some ZbO:=rfl
theorem Zff:G 176 = some zH:=rfl
theorem Zd1:G 177 = some Zy:=rfl
theorem Zfa:G 178 = some zi:=rfl
theorem Zd4:G 181 = some Zs:=rfl
theorem Zd2:G 182 = some zb:=rfl
theorem Zfg:G 195 = some Zab:=rfl
theorem Zfh:G 201 = some zc:=rfl
theorem Zdl:G 202 = some ZH:=rfl
theorem Zfl:G 203 = some Z6:=rfl
theorem Zfm:G 204 = some z8:=rfl
theorem Zev:G 205 = some Zbt:=rfl
theorem ZcT:G 206 = some ZN:=rfl
theorem ZdL:G 207 = some ZM:=rfl
theorem Zeu:G 219 = some zp:=rfl
theorem ZeB:G 220 = some ZbA:=rfl
theorem ZdI:G 221 = some ZZ:=rfl
theorem ZeA:G 222 = some ZaS:=rfl
theorem ZdJ:G 223 = some ZaX:=rfl
theorem ZdK:G 224 = some zm:=rfl
theorem ZcQ:G 255 = some Zh:=rfl
theorem Zdz:G 264 = some zj:=rfl
theorem Zfd:G 266 = some zn:=rfl
theorem Zfs:G 268 = some ZaY:=rfl
theorem ZdP:G 269 = some zF:=rfl
theorem Zfe:G 275 = some zN:=rfl
theorem Zga:G 276 = some zS:=rfl
theorem ZeD:G 278 = some Zac:=rfl
theorem Zft:G 279 = some ZT:=rfl
end Mu
