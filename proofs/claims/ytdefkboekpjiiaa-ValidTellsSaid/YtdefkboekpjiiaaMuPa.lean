/- The functions of the program, as the evaluator has them: printed by a program; checked against the model's. -/
import Derived.Test.YtdefkboekpjiiaaMuE0
namespace Mu
instance (n:Nat):OfNat Opd n:=⟨.t n⟩
abbrev oD (d:Nat) (op:Op):Oper:=⟨some d,op,none⟩
abbrev oN (op:Op):Oper:=⟨none,op,none⟩
/-! muntin/muntinref10.Make -/
def Zk.r0:List Oper:=[
 oD 2 (.box 0),
 oD 4 (.mv (.c (.sn))),
 oD 5 (.mv (.c (.sn)))]
def Zk.r1:List Oper:=[
 oD 6 (.mv (.c (.sn)))]
def Zk.r2:List Oper:=[
 oD 7 (.mv (.c (.n 0)))]
def Zk.r3:List Oper:=[
 oD 18 (.mv 7),
 oD 19 (.fa 0 2),
 oD 20 (.ld false 1 19),
 oD 21 (.len 20),
 oD 22 (.bin .lss 18 21),
 oD 23 (.mv 22),
 ⟨(some 24),.mv 6,(some (23,true))⟩,
 ⟨(some 25),.len 24,(some (23,true))⟩,
 ⟨(some 26),.mv 1,(some (23,true))⟩,
 ⟨(some 27),.bin .lss 25 26,(some (23,true))⟩,
 oD 28 (.pick 23 27 (.c (.b false)))]
def Zk.r5:List Oper:=[
 oD 31 (.fa 0 2),
 oD 32 (.ld false 1 31),
 oD 33 (.mv 7),
 oD 34 (.ixa 1 32 33),
 oD 35 (.ld false 1 34),
 oD 36 (.conv .i64 35),
 oD 37 (.bin .rem 36 (.c (.n 8))),
 oD 38 (.fa 0 2),
 oD 39 (.ld false 1 38),
 oD 40 (.mv 7),
 oD 41 (.ixa 1 39 40),
 oD 42 (.ld false 1 41),
 oD 43 (.conv .i64 42),
 oD 44 (.bin .quo 43 (.c (.n 8))),
 oD 45 (.bin .rem 44 (.c (.n 8))),
 oD 46 (.build [.n 0,.n 0] [(0,1,.t 37),(1,1,.t 45)]),
 oD 8 (.alloc [.n 0,.n 0]),
 oN (.st 2 8 46)]
def Zk.r6:List Oper:=[
 oD 9 (.mv (.c (.b false)))]
def Zk.r7:List Oper:=[
 oD 10 (.mv (.c (.n 0)))]
def Zk.r8:List Oper:=[
 oD 47 (.mv 10),
 oD 48 (.mv 6),
 oD 49 (.len 48),
 oD 50 (.bin .lss 47 49)]
def Zk.r10:List Oper:=[
 oD 53 (.mv 9),
 oD 54 (.mv 53),
 ⟨(some 55),.mv 6,(some (54,false))⟩,
 ⟨(some 56),.mv 10,(some (54,false))⟩,
 ⟨(some 57),.ixa 2 55 56,(some (54,false))⟩,
 ⟨(some 58),.ld true 2 57,(some (54,false))⟩,
 ⟨(some 59),.ld true 2 8,(some (54,false))⟩,
 ⟨(some 60),.eq false (.fl [.i,.i]) 58 59,(some (54,false))⟩,
 oD 61 (.pick 54 (.c (.b true)) 60),
 oD 9 (.mv 61)]
def Zk.r9:List Oper:=[
 oD 51 (.mv 10),
 oD 52 (.bin .add 51 (.c (.n 1))),
 oD 10 (.mv 52)]
def Zk.l0:Code:=.seq (.seq (.region Zk.r8) (.cond 50 (.skip) (.exit 2))) (.seq (.block 3 (.draw Zk.r10 [(5,6)])) (.region Zk.r9))
def Zk.r11:List Oper:=[
 oD 62 (.mv 9),
 oD 63 (.un .not 62)]
def Zk.r12:List Oper:=[
 oD 64 (.mv 6),
 oD 65 (.ld true 2 8),
 oD 66 (.bsl 2 1 [.n 0,.n 0] [(0,2,.t 65)]),
 oD 67 (.app 2 16 64 66),
 oD 6 (.mv 67)]
def Zk.r4:List Oper:=[
 oD 29 (.mv 7),
 oD 30 (.bin .add 29 (.c (.n 1))),
 oD 7 (.mv 30)]
def Zk.l1:Code:=.seq (.seq (.region Zk.r3) (.cond 28 (.skip) (.exit 0))) (.seq (.block 1 (.seq (.draw Zk.r5 [(1,8),(4,8),(1,11),(4,11),(1,16),(4,16),(8,16),(11,16)]) (.seq (.region Zk.r6) (.seq (.seq (.region Zk.r7) (.block 2 (.loop Zk.l0))) (.seq (.region Zk.r11) (.cond 63 (.region Zk.r12) (.skip))))))) (.region Zk.r4))
def Zk.r13:List Oper:=[
 oD 68 (.mv 6),
 oD 69 (.len 68),
 oD 70 (.call (.c (.f 46 [])) [.t 69]),
 oD 11 (.mv 70)]
def Zk.r14:List Oper:=[
 oD 12 (.mv (.c (.n 0)))]
def Zk.r15:List Oper:=[
 oD 71 (.mv 12),
 oD 72 (.mv 6),
 oD 73 (.len 72),
 oD 74 (.bin .lss 71 73)]
def Zk.r17:List Oper:=[
 oD 13 (.mv (.c (.i .u8 3)))]
def Zk.r18:List Oper:=[
 oD 77 (.mv 12),
 oD 78 (.fa 1 2),
 oD 79 (.ld false 1 78),
 oD 80 (.len 79),
 oD 81 (.bin .lss 77 80)]
def Zk.r19:List Oper:=[
 oD 82 (.fa 1 2),
 oD 83 (.ld false 1 82),
 oD 84 (.mv 12),
 oD 85 (.ixa 1 83 84),
 oD 86 (.ld false 1 85),
 oD 13 (.mv 86)]
def Zk.r20:List Oper:=[
 oD 87 (.mv 12),
 oD 14 (.mv 87)]
def Zk.r21:List Oper:=[
 oD 88 (.mv 12),
 oD 89 (.fa 2 2),
 oD 90 (.ld false 1 89),
 oD 91 (.len 90),
 oD 92 (.bin .lss 88 91)]
def Zk.r22:List Oper:=[
 oD 93 (.fa 2 2),
 oD 94 (.ld false 1 93),
 oD 95 (.mv 12),
 oD 96 (.ixa 1 94 95),
 oD 97 (.ld false 1 96),
 oD 98 (.conv .i64 97),
 oD 14 (.mv 98)]
def Zk.r23:List Oper:=[
 oD 99 (.mv 14),
 oD 100 (.bin .lss 99 (.c (.n (-2))))]
def Zk.r24:List Oper:=[
 oD 101 (.mv 14),
 oD 102 (.un .neg 101),
 oD 14 (.mv 102)]
def Zk.r25:List Oper:=[
 oD 15 (.mv (.c (.n 0)))]
def Zk.r26:List Oper:=[
 oD 103 (.mv 15),
 oD 104 (.bin .lss 103 (.c (.n 2)))]
def Zk.r28:List Oper:=[
 oD 107 (.mv 6),
 oD 108 (.mv 12),
 oD 109 (.mv 15),
 oD 110 (.call (.c (.f 63 [])) [.t 107,.t 108,.t 109]),
 oD 16 (.mv 110)]
def Zk.r29:List Oper:=[
 oD 111 (.mv 13),
 oD 112 (.mv 15),
 oD 113 (.bin .shr 111 112),
 oD 114 (.bin .and 113 (.c (.i .u8 1))),
 oD 115 (.eq false .sc 114 (.c (.i .u8 0))),
 oD 116 (.mv 115),
 ⟨(some 117),.mv 16,(some (116,false))⟩,
 ⟨(some 118),.bin .lss 117 (.c (.n 0)),(some (116,false))⟩,
 oD 119 (.pick 116 (.c (.b true)) 118)]
def Zk.r30:List Oper:=[
 oD 120 (.mv 6),
 oD 121 (.mv 11),
 oD 122 (.mv 12),
 oD 123 (.mv 16),
 oD 124 (.call (.c (.f 64 [])) [.t 120,.t 121,.t 122,.t 123]),
 oD 17 (.mv 124)]
def Zk.r31:List Oper:=[
 oD 125 (.mv 17),
 oD 126 (.un .not 125)]
def Zk.r32:List Oper:=[
 oD 127 (.mv 11),
 oD 128 (.mv 12),
 oD 129 (.mv 15),
 oD 130 (.mv 16),
 oD 131 (.mv 14),
 oD 132 (.call (.c (.f 65 [])) [.t 127,.t 128,.t 129,.t 130,.t 131]),
 oD 11 (.mv 132)]
def Zk.r27:List Oper:=[
 oD 105 (.mv 15),
 oD 106 (.bin .add 105 (.c (.n 1))),
 oD 15 (.mv 106)]
def Zk.l2:Code:=.seq (.seq (.region Zk.r26) (.cond 104 (.skip) (.exit 6))) (.seq (.block 7 (.seq (.region Zk.r28) (.seq (.seq (.region Zk.r29) (.cond 119 (.exit 7) (.skip))) (.seq (.region Zk.r30) (.seq (.region Zk.r31) (.cond 126 (.region Zk.r32) (.skip))))))) (.region Zk.r27))
def Zk.r16:List Oper:=[
 oD 75 (.mv 12),
 oD 76 (.bin .add 75 (.c (.n 1))),
 oD 12 (.mv 76)]
def Zk.l3:Code:=.seq (.seq (.region Zk.r15) (.cond 74 (.skip) (.exit 4))) (.seq (.block 5 (.seq (.region Zk.r17) (.seq (.seq (.region Zk.r18) (.cond 81 (.region Zk.r19) (.skip))) (.seq (.region Zk.r20) (.seq (.seq (.region Zk.r21) (.cond 92 (.seq (.region Zk.r22) (.seq (.region Zk.r23) (.cond 100 (.region Zk.r24) (.skip)))) (.skip))) (.seq (.region Zk.r25) (.block 6 (.loop Zk.l2)))))))) (.region Zk.r16))
def Zk.r33:List Oper:=[
 oD 133 (.mv 11),
 oD 134 (.mv 6),
 oD 4 (.mv 133),
 oD 5 (.mv 134)]
def Zk.code:Code:=.seq (.region Zk.r0) (.seq (.region Zk.r1) (.seq (.seq (.region Zk.r2) (.block 0 (.loop Zk.l1))) (.seq (.region Zk.r13) (.seq (.seq (.region Zk.r14) (.block 4 (.loop Zk.l3))) (.seq (.region Zk.r33) (.ret))))))
def Zk:Func:=⟨135,[.t 4,.t 5],Zk.code⟩
/-! muntin/join.Parts -/
def ZF.r0:List Oper:=[
 oD 2 (.mv (.c (.sn))),
 oD 3 (.mv (.c (.n 0)))]
def ZF.r1:List Oper:=[
 oD 12 (.mv 0),
 oD 13 (.call (.c (.f 66 [])) [.t 12]),
 oD 4 (.mv 13)]
def ZF.r2:List Oper:=[
 oD 14 (.mv 4),
 oD 15 (.eq true .sc 14 (.c (.n 0)))]
def ZF.r3:List Oper:=[
 oD 16 (.mv 4),
 oD 2 (.mv (.c (.sn))),
 oD 3 (.mv 16)]
def ZF.r4:List Oper:=[
 oD 5 (.mv (.c (.sn)))]
def ZF.r5:List Oper:=[
 oD 17 (.mv 0),
 oD 18 (.len 17),
 oD 19 (.mks 1 1 [.b false] 18 18),
 oD 6 (.mv 19)]
def ZF.r6:List Oper:=[
 oD 20 (.mv 0),
 oD 21 (.len 20),
 oD 22 (.mv (.c (.n 0)))]
def ZF.r7:List Oper:=[
 oD 23 (.bin .lss 22 21)]
def ZF.r8:List Oper:=[
 oD 24 (.mv 22),
 oD 7 (.mv 24)]
def ZF.r9:List Oper:=[
 oD 25 (.mv 6),
 oD 26 (.mv 7),
 oD 27 (.ixa 1 25 26),
 oD 28 (.ld false 1 27)]
def ZF.r10:List Oper:=[
 oD 30 (.mv 0),
 oD 31 (.mv 7),
 oD 32 (.call (.c (.f 67 [])) [.t 30,.t 31]),
 oD 29 (.mv 32),
 oD 33 (.ext 29 0),
 oD 34 (.ext 29 1),
 oD 8 (.mv 33),
 oD 9 (.mv 34)]
def ZF.r11:List Oper:=[
 oD 35 (.bsl 1 0 [.n 0] []),
 oD 10 (.mv 35)]
def ZF.r12:List Oper:=[
 oD 36 (.mv 0),
 oD 37 (.len 36),
 oD 38 (.mv (.c (.n 0)))]
def ZF.r13:List Oper:=[
 oD 39 (.bin .lss 38 37)]
def ZF.r14:List Oper:=[
 oD 40 (.mv 38),
 oD 11 (.mv 40)]
def ZF.r15:List Oper:=[
 oD 41 (.mv 11),
 oD 42 (.mv 7),
 oD 43 (.eq false .sc 41 42),
 oD 44 (.mv 43),
 ⟨(some 45),.mv 9,(some (44,false))⟩,
 ⟨(some 46),.mv 11,(some (44,false))⟩,
 ⟨(some 47),.ixa 1 45 46,(some (44,false))⟩,
 ⟨(some 48),.ld false 1 47,(some (44,false))⟩,
 ⟨(some 49),.bin .geq 48 (.c (.n 0)),(some (44,false))⟩,
 oD 50 (.pick 44 (.c (.b true)) 49)]
def ZF.r16:List Oper:=[
 oD 51 (.mv 6),
 oD 52 (.mv 11),
 oD 53 (.ixa 1 51 52),
 oN (.st 1 53 (.c (.b true)))]
def ZF.r17:List Oper:=[
 oD 54 (.mv 10),
 oD 55 (.mv 11),
 oD 56 (.bsl 1 1 [.n 0] [(0,1,.t 55)]),
 oD 57 (.app 1 8 54 56),
 oD 10 (.mv 57)]
def ZF.r18:List Oper:=[
 oD 58 (.bin .add 38 (.c (.n 1))),
 oD 38 (.mv 58)]
def ZF.l0:Code:=.seq (.region ZF.r13) (.seq (.cond 39 (.skip) (.exit 2)) (.seq (.block 3 (.seq (.region ZF.r14) (.seq (.region ZF.r15) (.cond 50 (.seq (.region ZF.r16) (.region ZF.r17)) (.skip))))) (.region ZF.r18)))
def ZF.r19:List Oper:=[
 oD 59 (.mv 5),
 oD 60 (.mv 10),
 oD 61 (.bsl 1 1 [.sn] [(0,1,.t 60)]),
 oD 62 (.app 1 24 59 61),
 oD 5 (.mv 62)]
def ZF.r20:List Oper:=[
 oD 63 (.bin .add 22 (.c (.n 1))),
 oD 22 (.mv 63)]
def ZF.l1:Code:=.seq (.region ZF.r7) (.seq (.cond 23 (.skip) (.exit 0)) (.seq (.block 1 (.seq (.region ZF.r8) (.seq (.seq (.region ZF.r9) (.cond 28 (.exit 1) (.skip))) (.seq (.region ZF.r10) (.seq (.region ZF.r11) (.seq (.seq (.region ZF.r12) (.block 2 (.loop ZF.l0))) (.region ZF.r19))))))) (.region ZF.r20)))
def ZF.r21:List Oper:=[
 oD 64 (.mv 5),
 oD 2 (.mv 64),
 oD 3 (.mv (.c (.n 0)))]
def ZF.code:Code:=.seq (.region ZF.r0) (.seq (.seq (.region ZF.r1) (.seq (.region ZF.r2) (.cond 15 (.seq (.region ZF.r3) (.ret)) (.skip)))) (.seq (.region ZF.r4) (.seq (.region ZF.r5) (.seq (.seq (.region ZF.r6) (.block 0 (.loop ZF.l1))) (.seq (.region ZF.r21) (.ret))))))
def ZF:Func:=⟨65,[.t 2,.t 3],ZF.code⟩
/-! muntin/muntinref13.Parts -/
def Z7.r0:List Oper:=[
 oD 2 (.mv (.c (.sn)))]
def Z7.r1:List Oper:=[
 oD 9 (.mv 0),
 oD 10 (.len 9),
 oD 11 (.mks 1 1 [.b false] 10 10),
 oD 3 (.mv 11)]
def Z7.r2:List Oper:=[
 oD 4 (.mv (.c (.sn)))]
def Z7.r3:List Oper:=[
 oD 5 (.mv (.c (.n 0)))]
def Z7.r4:List Oper:=[
 oD 12 (.mv 5),
 oD 13 (.mv 0),
 oD 14 (.len 13),
 oD 15 (.bin .lss 12 14)]
def Z7.r6:List Oper:=[
 oD 18 (.mv 3),
 oD 19 (.mv 5),
 oD 20 (.ixa 1 18 19),
 oD 21 (.ld false 1 20)]
def Z7.r7:List Oper:=[
 oD 22 (.mv 0),
 oD 23 (.mv 5),
 oD 24 (.call (.c (.f 36 [])) [.t 22,.t 23]),
 oD 6 (.mv 24)]
def Z7.r8:List Oper:=[
 oD 7 (.mv (.c (.sn)))]
def Z7.r9:List Oper:=[
 oD 8 (.mv (.c (.n 0)))]
def Z7.r10:List Oper:=[
 oD 25 (.mv 8),
 oD 26 (.mv 0),
 oD 27 (.len 26),
 oD 28 (.bin .lss 25 27)]
def Z7.r12:List Oper:=[
 oD 31 (.mv 6),
 oD 32 (.mv 8),
 oD 33 (.ixa 1 31 32),
 oD 34 (.ld false 1 33),
 oD 35 (.bin .geq 34 (.c (.n 0)))]
def Z7.r13:List Oper:=[
 oD 36 (.mv 3),
 oD 37 (.mv 8),
 oD 38 (.ixa 1 36 37),
 oN (.st 1 38 (.c (.b true)))]
def Z7.r14:List Oper:=[
 oD 39 (.mv 7),
 oD 40 (.mv 8),
 oD 41 (.bsl 1 1 [.n 0] [(0,1,.t 40)]),
 oD 42 (.app 1 8 39 41),
 oD 7 (.mv 42)]
def Z7.r11:List Oper:=[
 oD 29 (.mv 8),
 oD 30 (.bin .add 29 (.c (.n 1))),
 oD 8 (.mv 30)]
def Z7.l0:Code:=.seq (.seq (.region Z7.r10) (.cond 28 (.skip) (.exit 2))) (.seq (.block 3 (.seq (.region Z7.r12) (.cond 35 (.seq (.region Z7.r13) (.region Z7.r14)) (.skip)))) (.region Z7.r11))
def Z7.r15:List Oper:=[
 oD 43 (.mv 4),
 oD 44 (.mv 7),
 oD 45 (.bsl 1 1 [.sn] [(0,1,.t 44)]),
 oD 46 (.app 1 24 43 45),
 oD 4 (.mv 46)]
def Z7.r5:List Oper:=[
 oD 16 (.mv 5),
 oD 17 (.bin .add 16 (.c (.n 1))),
 oD 5 (.mv 17)]
def Z7.l1:Code:=.seq (.seq (.region Z7.r4) (.cond 15 (.skip) (.exit 0))) (.seq (.block 1 (.seq (.seq (.region Z7.r6) (.cond 21 (.exit 1) (.skip))) (.seq (.region Z7.r7) (.seq (.region Z7.r8) (.seq (.seq (.region Z7.r9) (.block 2 (.loop Z7.l0))) (.region Z7.r15)))))) (.region Z7.r5))
def Z7.r16:List Oper:=[
 oD 47 (.mv 4),
 oD 2 (.mv 47)]
def Z7.code:Code:=.seq (.region Z7.r0) (.seq (.region Z7.r1) (.seq (.region Z7.r2) (.seq (.seq (.region Z7.r3) (.block 0 (.loop Z7.l1))) (.seq (.region Z7.r16) (.ret)))))
def Z7:Func:=⟨48,[.t 2],Z7.code⟩
/-! muntin/join.Whole -/
def Zbr.r0:List Oper:=[
 oD 2 (.mv (.c (.b false)))]
def Zbr.r1:List Oper:=[
 oD 6 (.mv 0),
 oD 7 (.call (.c (.f 29 [])) [.t 6]),
 oD 5 (.mv 7),
 oD 8 (.ext 5 0),
 oD 9 (.ext 5 1),
 oD 3 (.mv 8),
 oD 4 (.mv 9)]
def Zbr.r2:List Oper:=[
 oD 10 (.mv 4),
 oD 11 (.eq false .sc 10 (.c (.n 0))),
 oD 12 (.mv 11),
 ⟨(some 13),.mv 3,(some (12,true))⟩,
 ⟨(some 14),.len 13,(some (12,true))⟩,
 ⟨(some 15),.eq false .sc 14 (.c (.n 1)),(some (12,true))⟩,
 oD 16 (.pick 12 15 (.c (.b false))),
 oD 2 (.mv 16)]
def Zbr.code:Code:=.seq (.region Zbr.r0) (.seq (.region Zbr.r1) (.seq (.region Zbr.r2) (.ret)))
def Zbr:Func:=⟨17,[.t 2],Zbr.code⟩
/-! muntin/muntinref10.Check -/
def Zy.r0:List Oper:=[
 oD 2 (.mv (.c (.n 0)))]
def Zy.r1:List Oper:=[
 oD 7 (.mv 0),
 oD 8 (.len 7),
 oD 9 (.bin .gtr 8 (.c (.n 4096)))]
def Zy.r2:List Oper:=[
 oD 2 (.mv (.c (.n 6)))]
def Zy.r3:List Oper:=[
 oD 3 (.mv (.c (.n 0)))]
def Zy.r4:List Oper:=[
 oD 10 (.mv 3),
 oD 11 (.mv 0),
 oD 12 (.len 11),
 oD 13 (.bin .lss 10 12)]
def Zy.r6:List Oper:=[
 oD 4 (.mv (.c (.n 0)))]
def Zy.r7:List Oper:=[
 oD 16 (.mv 4),
 oD 17 (.bin .lss 16 (.c (.n 4)))]
def Zy.r9:List Oper:=[
 oD 20 (.mv 0),
 oD 21 (.mv 3),
 oD 22 (.mv 4),
 oD 23 (.ixa 8 20 21),
 oD 24 (.fa 0 23),
 oD 25 (.ixaa 1 4 24 22),
 oD 26 (.ld false 1 25),
 oD 5 (.mv 26)]
def Zy.r10:List Oper:=[
 oD 27 (.mv 0),
 oD 28 (.mv 3),
 oD 29 (.mv 4),
 oD 30 (.ixa 8 27 28),
 oD 31 (.fa 4 30),
 oD 32 (.ixaa 1 4 31 29),
 oD 33 (.ld false 1 32),
 oD 6 (.mv 33)]
def Zy.r11:List Oper:=[
 oD 34 (.mv 5),
 oD 35 (.eq false .sc 34 (.c (.n (-1))))]
def Zy.r12:List Oper:=[
 oD 36 (.mv 6),
 oD 37 (.eq true .sc 36 (.c (.n 0)))]
def Zy.r13:List Oper:=[
 oD 2 (.mv (.c (.n 9)))]
def Zy.r14:List Oper:=[
 oD 38 (.mv 5),
 oD 39 (.bin .lss 38 (.c (.n 0))),
 oD 40 (.mv 39),
 ⟨(some 41),.mv 5,(some (40,false))⟩,
 ⟨(some 42),.mv 0,(some (40,false))⟩,
 ⟨(some 43),.len 42,(some (40,false))⟩,
 ⟨(some 44),.bin .geq 41 43,(some (40,false))⟩,
 oD 45 (.pick 40 (.c (.b true)) 44),
 oD 46 (.mv 45),
 ⟨(some 47),.mv 5,(some (46,false))⟩,
 ⟨(some 48),.mv 3,(some (46,false))⟩,
 ⟨(some 49),.eq false .sc 47 48,(some (46,false))⟩,
 oD 50 (.pick 46 (.c (.b true)) 49)]
def Zy.r15:List Oper:=[
 oD 2 (.mv (.c (.n 3)))]
def Zy.r16:List Oper:=[
 oD 51 (.mv 0),
 oD 52 (.mv 5),
 oD 53 (.mv 4),
 oD 54 (.bin .add 53 (.c (.n 2))),
 oD 55 (.bin .rem 54 (.c (.n 4))),
 oD 56 (.ixa 8 51 52),
 oD 57 (.fa 0 56),
 oD 58 (.ixaa 1 4 57 55),
 oD 59 (.ld false 1 58),
 oD 60 (.mv 3),
 oD 61 (.eq true .sc 59 60),
 oD 62 (.mv 61),
 ⟨(some 63),.mv 0,(some (62,false))⟩,
 ⟨(some 64),.mv 5,(some (62,false))⟩,
 ⟨(some 65),.mv 4,(some (62,false))⟩,
 ⟨(some 66),.bin .add 65 (.c (.n 2)),(some (62,false))⟩,
 ⟨(some 67),.bin .rem 66 (.c (.n 4)),(some (62,false))⟩,
 ⟨(some 68),.ixa 8 63 64,(some (62,false))⟩,
 ⟨(some 69),.fa 4 68,(some (62,false))⟩,
 ⟨(some 70),.ixaa 1 4 69 67,(some (62,false))⟩,
 ⟨(some 71),.ld false 1 70,(some (62,false))⟩,
 ⟨(some 72),.mv 6,(some (62,false))⟩,
 ⟨(some 73),.eq true .sc 71 72,(some (62,false))⟩,
 oD 74 (.pick 62 (.c (.b true)) 73),
 oD 75 (.mv 74),
 ⟨(some 76),.mv 6,(some (75,false))⟩,
 ⟨(some 77),.bin .lss 76 (.c (.n (-2))),(some (75,false))⟩,
 oD 78 (.pick 75 (.c (.b true)) 77)]
def Zy.r17:List Oper:=[
 oD 2 (.mv (.c (.n 9)))]
def Zy.r8:List Oper:=[
 oD 18 (.mv 4),
 oD 19 (.bin .add 18 (.c (.n 1))),
 oD 4 (.mv 19)]
def Zy.l0:Code:=.seq (.seq (.region Zy.r7) (.cond 17 (.skip) (.exit 2))) (.seq (.block 3 (.seq (.region Zy.r9) (.seq (.region Zy.r10) (.seq (.seq (.region Zy.r11) (.cond 35 (.seq (.seq (.region Zy.r12) (.cond 37 (.seq (.region Zy.r13) (.ret)) (.skip))) (.exit 3)) (.skip))) (.seq (.seq (.region Zy.r14) (.cond 50 (.seq (.region Zy.r15) (.ret)) (.skip))) (.seq (.region Zy.r16) (.cond 78 (.seq (.region Zy.r17) (.ret)) (.skip)))))))) (.region Zy.r8))
def Zy.r5:List Oper:=[
 oD 14 (.mv 3),
 oD 15 (.bin .add 14 (.c (.n 1))),
 oD 3 (.mv 15)]
def Zy.l1:Code:=.seq (.seq (.region Zy.r4) (.cond 13 (.skip) (.exit 0))) (.seq (.block 1 (.seq (.region Zy.r6) (.block 2 (.loop Zy.l0)))) (.region Zy.r5))
def Zy.r18:List Oper:=[
 oD 2 (.mv (.c (.n 0)))]
def Zy.code:Code:=.seq (.region Zy.r0) (.seq (.seq (.region Zy.r1) (.cond 9 (.seq (.region Zy.r2) (.ret)) (.skip))) (.seq (.seq (.region Zy.r3) (.block 0 (.loop Zy.l1))) (.seq (.region Zy.r18) (.ret))))
def Zy:Func:=⟨79,[.t 2],Zy.code⟩
/-! muntin/muntinref13.Far -/
def Z2.r0:List Oper:=[
 oD 4 (.mv (.c (.sn)))]
def Z2.r1:List Oper:=[
 oD 11 (.mv 0),
 oD 12 (.len 11),
 oD 13 (.mks 1 8 [.n 0] 12 12),
 oD 5 (.mv 13)]
def Z2.r2:List Oper:=[
 oD 6 (.mv (.c (.n 0)))]
def Z2.r3:List Oper:=[
 oD 14 (.mv 6),
 oD 15 (.mv 0),
 oD 16 (.len 15),
 oD 17 (.bin .lss 14 16)]
def Z2.r5:List Oper:=[
 oD 20 (.mv 5),
 oD 21 (.mv 6),
 oD 22 (.ixa 1 20 21),
 oN (.st 1 22 (.c (.n (-1))))]
def Z2.r4:List Oper:=[
 oD 18 (.mv 6),
 oD 19 (.bin .add 18 (.c (.n 1))),
 oD 6 (.mv 19)]
def Z2.l0:Code:=.seq (.seq (.region Z2.r3) (.cond 17 (.skip) (.exit 0))) (.seq (.block 1 (.region Z2.r5)) (.region Z2.r4))
def Z2.r6:List Oper:=[
 oD 23 (.mv 5),
 oD 24 (.mv 1),
 oD 25 (.ixa 1 23 24),
 oN (.st 1 25 (.c (.n 0)))]
def Z2.r7:List Oper:=[
 oD 7 (.mv (.c (.n 0)))]
def Z2.r8:List Oper:=[
 oD 26 (.mv 7),
 oD 27 (.mv 0),
 oD 28 (.len 27),
 oD 29 (.bin .lss 26 28)]
def Z2.r10:List Oper:=[
 oD 8 (.mv (.c (.n 0)))]
def Z2.r11:List Oper:=[
 oD 32 (.mv 8),
 oD 33 (.mv 0),
 oD 34 (.len 33),
 oD 35 (.bin .lss 32 34)]
def Z2.r13:List Oper:=[
 oD 9 (.mv (.c (.n 0)))]
def Z2.r14:List Oper:=[
 oD 38 (.mv 9),
 oD 39 (.bin .lss 38 (.c (.n 4)))]
def Z2.r16:List Oper:=[
 oD 42 (.mv 0),
 oD 43 (.mv 8),
 oD 44 (.mv 9),
 oD 45 (.ixa 8 42 43),
 oD 46 (.fa 0 45),
 oD 47 (.ixaa 1 4 46 44),
 oD 48 (.ld false 1 47),
 oD 10 (.mv 48)]
def Z2.r17:List Oper:=[
 oD 49 (.mv 5),
 oD 50 (.mv 8),
 oD 51 (.ixa 1 49 50),
 oD 52 (.ld false 1 51),
 oD 53 (.mv 7),
 oD 54 (.eq false .sc 52 53),
 oD 55 (.mv 54),
 ⟨(some 56),.mv 10,(some (55,true))⟩,
 ⟨(some 57),.bin .geq 56 (.c (.n 0)),(some (55,true))⟩,
 oD 58 (.pick 55 57 (.c (.b false))),
 oD 59 (.mv 58),
 ⟨(some 60),.mv 5,(some (59,true))⟩,
 ⟨(some 61),.mv 10,(some (59,true))⟩,
 ⟨(some 62),.mx [.t 61,.c (.n 0)],(some (59,true))⟩,
 ⟨(some 63),.ixa 1 60 62,(some (59,true))⟩,
 ⟨(some 64),.ld false 1 63,(some (59,true))⟩,
 ⟨(some 65),.bin .lss 64 (.c (.n 0)),(some (59,true))⟩,
 oD 66 (.pick 59 65 (.c (.b false)))]
def Z2.r18:List Oper:=[
 oD 67 (.mv 5),
 oD 68 (.mv 10),
 oD 69 (.mv 7),
 oD 70 (.bin .add 69 (.c (.n 1))),
 oD 71 (.ixa 1 67 68),
 oN (.st 1 71 70)]
def Z2.r15:List Oper:=[
 oD 40 (.mv 9),
 oD 41 (.bin .add 40 (.c (.n 1))),
 oD 9 (.mv 41)]
def Z2.l1:Code:=.seq (.seq (.region Z2.r14) (.cond 39 (.skip) (.exit 6))) (.seq (.block 7 (.seq (.region Z2.r16) (.seq (.region Z2.r17) (.cond 66 (.region Z2.r18) (.skip))))) (.region Z2.r15))
def Z2.r12:List Oper:=[
 oD 36 (.mv 8),
 oD 37 (.bin .add 36 (.c (.n 1))),
 oD 8 (.mv 37)]
def Z2.l2:Code:=.seq (.seq (.region Z2.r11) (.cond 35 (.skip) (.exit 4))) (.seq (.block 5 (.seq (.region Z2.r13) (.block 6 (.loop Z2.l1)))) (.region Z2.r12))
def Z2.r9:List Oper:=[
 oD 30 (.mv 7),
 oD 31 (.bin .add 30 (.c (.n 1))),
 oD 7 (.mv 31)]
def Z2.l3:Code:=.seq (.seq (.region Z2.r8) (.cond 29 (.skip) (.exit 2))) (.seq (.block 3 (.seq (.region Z2.r10) (.block 4 (.loop Z2.l2)))) (.region Z2.r9))
def Z2.r19:List Oper:=[
 oD 72 (.mv 5),
 oD 4 (.mv 72)]
def Z2.code:Code:=.seq (.region Z2.r0) (.seq (.region Z2.r1) (.seq (.seq (.region Z2.r2) (.block 0 (.loop Z2.l0))) (.seq (.region Z2.r6) (.seq (.seq (.region Z2.r7) (.block 2 (.loop Z2.l3))) (.seq (.region Z2.r19) (.ret))))))
def Z2:Func:=⟨73,[.t 4],Z2.code⟩
/-! muntin/muntinref10.New -/
def ZY.r0:List Oper:=[
 oD 2 (.mv (.c (.sn)))]
def ZY.r1:List Oper:=[
 oD 6 (.mv 0),
 oD 7 (.mks 8 64 [.n 0,.n 0,.n 0,.n 0,.n 0,.n 0,.n 0,.n 0] 6 6),
 oD 3 (.mv 7)]
def ZY.r2:List Oper:=[
 oD 4 (.mv (.c (.n 0)))]
def ZY.r3:List Oper:=[
 oD 8 (.mv 4),
 oD 9 (.mv 0),
 oD 10 (.bin .lss 8 9)]
def ZY.r5:List Oper:=[
 oD 5 (.mv (.c (.n 0)))]
def ZY.r6:List Oper:=[
 oD 13 (.mv 5),
 oD 14 (.bin .lss 13 (.c (.n 4)))]
def ZY.r8:List Oper:=[
 oD 17 (.mv 3),
 oD 18 (.mv 4),
 oD 19 (.mv 5),
 oD 20 (.ixa 8 17 18),
 oD 21 (.fa 0 20),
 oD 22 (.ixaa 1 4 21 19),
 oN (.st 1 22 (.c (.n (-1))))]
def ZY.r7:List Oper:=[
 oD 15 (.mv 5),
 oD 16 (.bin .add 15 (.c (.n 1))),
 oD 5 (.mv 16)]
def ZY.l0:Code:=.seq (.seq (.region ZY.r6) (.cond 14 (.skip) (.exit 2))) (.seq (.block 3 (.region ZY.r8)) (.region ZY.r7))
def ZY.r4:List Oper:=[
 oD 11 (.mv 4),
 oD 12 (.bin .add 11 (.c (.n 1))),
 oD 4 (.mv 12)]
def ZY.l1:Code:=.seq (.seq (.region ZY.r3) (.cond 10 (.skip) (.exit 0))) (.seq (.block 1 (.seq (.region ZY.r5) (.block 2 (.loop ZY.l0)))) (.region ZY.r4))
def ZY.r9:List Oper:=[
 oD 23 (.mv 3),
 oD 2 (.mv 23)]
def ZY.code:Code:=.seq (.region ZY.r0) (.seq (.region ZY.r1) (.seq (.seq (.region ZY.r2) (.block 0 (.loop ZY.l1))) (.seq (.region ZY.r9) (.ret))))
def ZY:Func:=⟨24,[.t 2],ZY.code⟩
/-! muntin/muntinref10.Join -/
def z8.r0:List Oper:=[
 oD 10 (.mv (.c (.sn))),
 oD 11 (.mv (.c (.n 0)))]
def z8.r1:List Oper:=[
 oD 13 (.mv 1),
 oD 14 (.bin .lss 13 (.c (.n 0))),
 oD 15 (.mv 14),
 ⟨(some 16),.mv 1,(some (15,false))⟩,
 ⟨(some 17),.mv 0,(some (15,false))⟩,
 ⟨(some 18),.len 17,(some (15,false))⟩,
 ⟨(some 19),.bin .geq 16 18,(some (15,false))⟩,
 oD 20 (.pick 15 (.c (.b true)) 19),
 oD 21 (.mv 20),
 ⟨(some 22),.mv 3,(some (21,false))⟩,
 ⟨(some 23),.bin .lss 22 (.c (.n 0)),(some (21,false))⟩,
 oD 24 (.pick 21 (.c (.b true)) 23),
 oD 25 (.mv 24),
 ⟨(some 26),.mv 3,(some (25,false))⟩,
 ⟨(some 27),.mv 0,(some (25,false))⟩,
 ⟨(some 28),.len 27,(some (25,false))⟩,
 ⟨(some 29),.bin .geq 26 28,(some (25,false))⟩,
 oD 30 (.pick 25 (.c (.b true)) 29),
 oD 31 (.mv 30),
 ⟨(some 32),.mv 1,(some (31,false))⟩,
 ⟨(some 33),.mv 3,(some (31,false))⟩,
 ⟨(some 34),.eq false .sc 32 33,(some (31,false))⟩,
 oD 35 (.pick 31 (.c (.b true)) 34),
 oD 36 (.mv 35),
 ⟨(some 37),.mv 2,(some (36,false))⟩,
 ⟨(some 38),.bin .lss 37 (.c (.n 0)),(some (36,false))⟩,
 oD 39 (.pick 36 (.c (.b true)) 38),
 oD 40 (.mv 39),
 ⟨(some 41),.mv 2,(some (40,false))⟩,
 ⟨(some 42),.bin .gtr 41 (.c (.n 3)),(some (40,false))⟩,
 oD 43 (.pick 40 (.c (.b true)) 42),
 oD 44 (.mv 43),
 ⟨(some 45),.mv 4,(some (44,false))⟩,
 ⟨(some 46),.bin .lss 45 (.c (.n (-2))),(some (44,false))⟩,
 oD 47 (.pick 44 (.c (.b true)) 46)]
def z8.r2:List Oper:=[
 oD 48 (.mv 0),
 oD 10 (.mv 48),
 oD 11 (.mv (.c (.n 2)))]
def z8.r3:List Oper:=[
 oD 49 (.mv 0),
 oD 50 (.mv 1),
 oD 51 (.mv 2),
 oD 52 (.ixa 8 49 50),
 oD 53 (.fa 0 52),
 oD 54 (.ixaa 1 4 53 51),
 oD 55 (.ld false 1 54),
 oD 56 (.eq true .sc 55 (.c (.n (-1)))),
 oD 57 (.mv 56),
 ⟨(some 58),.mv 0,(some (57,false))⟩,
 ⟨(some 59),.mv 3,(some (57,false))⟩,
 ⟨(some 60),.mv 2,(some (57,false))⟩,
 ⟨(some 61),.bin .add 60 (.c (.n 2)),(some (57,false))⟩,
 ⟨(some 62),.bin .rem 61 (.c (.n 4)),(some (57,false))⟩,
 ⟨(some 63),.ixa 8 58 59,(some (57,false))⟩,
 ⟨(some 64),.fa 0 63,(some (57,false))⟩,
 ⟨(some 65),.ixaa 1 4 64 62,(some (57,false))⟩,
 ⟨(some 66),.ld false 1 65,(some (57,false))⟩,
 ⟨(some 67),.eq true .sc 66 (.c (.n (-1))),(some (57,false))⟩,
 oD 68 (.pick 57 (.c (.b true)) 67)]
def z8.r4:List Oper:=[
 oD 69 (.mv 0),
 oD 10 (.mv 69),
 oD 11 (.mv (.c (.n 9)))]
def z8.r5:List Oper:=[
 oD 70 (.mv 0),
 oD 71 (.mv 1),
 oD 72 (.mv 2),
 oD 73 (.mv 3),
 oD 74 (.mv 4),
 oD 75 (.call (.c (.f 65 [])) [.t 70,.t 71,.t 72,.t 73,.t 74]),
 oD 12 (.mv 75)]
def z8.r6:List Oper:=[
 oD 76 (.mv 12),
 oD 10 (.mv 76),
 oD 11 (.mv (.c (.n 0)))]
def z8.code:Code:=.seq (.region z8.r0) (.seq (.seq (.region z8.r1) (.cond 47 (.seq (.region z8.r2) (.ret)) (.skip))) (.seq (.seq (.region z8.r3) (.cond 68 (.seq (.region z8.r4) (.ret)) (.skip))) (.seq (.region z8.r5) (.seq (.region z8.r6) (.ret)))))
def z8:Func:=⟨77,[.t 10,.t 11],z8.code⟩
/-! muntin/muntinref10.Nearest -/
def ZG.r0:List Oper:=[
 oD 6 (.mv (.c (.n 0)))]
def ZG.r1:List Oper:=[
 oD 7 (.mv (.c (.n (-1))))]
def ZG.r2:List Oper:=[
 oD 8 (.mv (.c (.n 0)))]
def ZG.r3:List Oper:=[
 oD 9 (.mv 8),
 oD 10 (.mv 0),
 oD 11 (.len 10),
 oD 12 (.bin .lss 9 11)]
def ZG.r5:List Oper:=[
 oD 15 (.mv 2),
 oD 16 (.eq false .sc 15 (.c (.n 0))),
 oD 17 (.mv 16),
 ⟨(some 18),.mv 0,(some (17,true))⟩,
 ⟨(some 19),.mv 8,(some (17,true))⟩,
 ⟨(some 20),.ixa 2 18 19,(some (17,true))⟩,
 ⟨(some 21),.fa 1 20,(some (17,true))⟩,
 ⟨(some 22),.ld false 1 21,(some (17,true))⟩,
 ⟨(some 23),.mv 0,(some (17,true))⟩,
 ⟨(some 24),.mv 1,(some (17,true))⟩,
 ⟨(some 25),.ixa 2 23 24,(some (17,true))⟩,
 ⟨(some 26),.fa 1 25,(some (17,true))⟩,
 ⟨(some 27),.ld false 1 26,(some (17,true))⟩,
 ⟨(some 28),.eq false .sc 22 27,(some (17,true))⟩,
 oD 29 (.pick 17 28 (.c (.b false))),
 oD 30 (.mv 29),
 ⟨(some 31),.mv 0,(some (30,true))⟩,
 ⟨(some 32),.mv 8,(some (30,true))⟩,
 ⟨(some 33),.ixa 2 31 32,(some (30,true))⟩,
 ⟨(some 34),.fa 0 33,(some (30,true))⟩,
 ⟨(some 35),.ld false 1 34,(some (30,true))⟩,
 ⟨(some 36),.mv 0,(some (30,true))⟩,
 ⟨(some 37),.mv 1,(some (30,true))⟩,
 ⟨(some 38),.ixa 2 36 37,(some (30,true))⟩,
 ⟨(some 39),.fa 0 38,(some (30,true))⟩,
 ⟨(some 40),.ld false 1 39,(some (30,true))⟩,
 ⟨(some 41),.bin .gtr 35 40,(some (30,true))⟩,
 oD 42 (.pick 30 41 (.c (.b false))),
 oD 43 (.mv 42),
 ⟨(some 44),.mv 7,(some (43,true))⟩,
 ⟨(some 45),.bin .lss 44 (.c (.n 0)),(some (43,true))⟩,
 ⟨(some 46),.mv 45,(some (43,true))⟩,
 ⟨(some 47),.mv 0,(some (46,false))⟩,
 ⟨(some 48),.mv 8,(some (46,false))⟩,
 ⟨(some 49),.ixa 2 47 48,(some (46,false))⟩,
 ⟨(some 50),.fa 0 49,(some (46,false))⟩,
 ⟨(some 51),.ld false 1 50,(some (46,false))⟩,
 ⟨(some 52),.mv 0,(some (46,false))⟩,
 ⟨(some 53),.mv 7,(some (46,false))⟩,
 ⟨(some 54),.ixa 2 52 53,(some (46,false))⟩,
 ⟨(some 55),.fa 0 54,(some (46,false))⟩,
 ⟨(some 56),.ld false 1 55,(some (46,false))⟩,
 ⟨(some 57),.bin .lss 51 56,(some (46,false))⟩,
 ⟨(some 58),.pick 46 (.c (.b true)) 57,(some (43,true))⟩,
 oD 59 (.pick 43 58 (.c (.b false)))]
def ZG.r6:List Oper:=[
 oD 60 (.mv 8),
 oD 7 (.mv 60)]
def ZG.r7:List Oper:=[
 oD 61 (.mv 2),
 oD 62 (.eq false .sc 61 (.c (.n 1))),
 oD 63 (.mv 62),
 ⟨(some 64),.mv 0,(some (63,true))⟩,
 ⟨(some 65),.mv 8,(some (63,true))⟩,
 ⟨(some 66),.ixa 2 64 65,(some (63,true))⟩,
 ⟨(some 67),.fa 0 66,(some (63,true))⟩,
 ⟨(some 68),.ld false 1 67,(some (63,true))⟩,
 ⟨(some 69),.mv 0,(some (63,true))⟩,
 ⟨(some 70),.mv 1,(some (63,true))⟩,
 ⟨(some 71),.ixa 2 69 70,(some (63,true))⟩,
 ⟨(some 72),.fa 0 71,(some (63,true))⟩,
 ⟨(some 73),.ld false 1 72,(some (63,true))⟩,
 ⟨(some 74),.eq false .sc 68 73,(some (63,true))⟩,
 oD 75 (.pick 63 74 (.c (.b false))),
 oD 76 (.mv 75),
 ⟨(some 77),.mv 0,(some (76,true))⟩,
 ⟨(some 78),.mv 8,(some (76,true))⟩,
 ⟨(some 79),.ixa 2 77 78,(some (76,true))⟩,
 ⟨(some 80),.fa 1 79,(some (76,true))⟩,
 ⟨(some 81),.ld false 1 80,(some (76,true))⟩,
 ⟨(some 82),.mv 0,(some (76,true))⟩,
 ⟨(some 83),.mv 1,(some (76,true))⟩,
 ⟨(some 84),.ixa 2 82 83,(some (76,true))⟩,
 ⟨(some 85),.fa 1 84,(some (76,true))⟩,
 ⟨(some 86),.ld false 1 85,(some (76,true))⟩,
 ⟨(some 87),.bin .gtr 81 86,(some (76,true))⟩,
 oD 88 (.pick 76 87 (.c (.b false))),
 oD 89 (.mv 88),
 ⟨(some 90),.mv 7,(some (89,true))⟩,
 ⟨(some 91),.bin .lss 90 (.c (.n 0)),(some (89,true))⟩,
 ⟨(some 92),.mv 91,(some (89,true))⟩,
 ⟨(some 93),.mv 0,(some (92,false))⟩,
 ⟨(some 94),.mv 8,(some (92,false))⟩,
 ⟨(some 95),.ixa 2 93 94,(some (92,false))⟩,
 ⟨(some 96),.fa 1 95,(some (92,false))⟩,
 ⟨(some 97),.ld false 1 96,(some (92,false))⟩,
 ⟨(some 98),.mv 0,(some (92,false))⟩,
 ⟨(some 99),.mv 7,(some (92,false))⟩,
 ⟨(some 100),.ixa 2 98 99,(some (92,false))⟩,
 ⟨(some 101),.fa 1 100,(some (92,false))⟩,
 ⟨(some 102),.ld false 1 101,(some (92,false))⟩,
 ⟨(some 103),.bin .lss 97 102,(some (92,false))⟩,
 ⟨(some 104),.pick 92 (.c (.b true)) 103,(some (89,true))⟩,
 oD 105 (.pick 89 104 (.c (.b false)))]
def ZG.r8:List Oper:=[
 oD 106 (.mv 8),
 oD 7 (.mv 106)]
def ZG.r4:List Oper:=[
 oD 13 (.mv 8),
 oD 14 (.bin .add 13 (.c (.n 1))),
 oD 8 (.mv 14)]
def ZG.l0:Code:=.seq (.seq (.region ZG.r3) (.cond 12 (.skip) (.exit 0))) (.seq (.block 1 (.seq (.seq (.draw ZG.r5 [(7,12),(20,25),(36,41)]) (.cond 59 (.region ZG.r6) (.skip))) (.seq (.draw ZG.r7 [(7,12),(20,25),(36,41)]) (.cond 105 (.region ZG.r8) (.skip))))) (.region ZG.r4))
def ZG.r9:List Oper:=[
 oD 107 (.mv 7),
 oD 6 (.mv 107)]
def ZG.code:Code:=.seq (.region ZG.r0) (.seq (.region ZG.r1) (.seq (.seq (.region ZG.r2) (.block 0 (.loop ZG.l0))) (.seq (.region ZG.r9) (.ret))))
def ZG:Func:=⟨108,[.t 6],ZG.code⟩
/-! muntin/muntinref10.Crossed -/
def Z5.r0:List Oper:=[
 oD 8 (.mv (.c (.b false)))]
def Z5.r1:List Oper:=[
 oD 9 (.mv (.c (.n 0)))]
def Z5.r2:List Oper:=[
 oD 14 (.mv 9),
 oD 15 (.mv 1),
 oD 16 (.len 15),
 oD 17 (.bin .lss 14 16)]
def Z5.r4:List Oper:=[
 oD 10 (.mv (.c (.n 0)))]
def Z5.r5:List Oper:=[
 oD 20 (.mv 10),
 oD 21 (.bin .lss 20 (.c (.n 2)))]
def Z5.r7:List Oper:=[
 oD 24 (.mv 1),
 oD 25 (.mv 9),
 oD 26 (.mv 10),
 oD 27 (.ixa 8 24 25),
 oD 28 (.fa 0 27),
 oD 29 (.ixaa 1 4 28 26),
 oD 30 (.ld false 1 29),
 oD 11 (.mv 30)]
def Z5.r8:List Oper:=[
 oD 31 (.mv 11),
 oD 32 (.bin .lss 31 (.c (.n 0)))]
def Z5.r9:List Oper:=[
 oD 33 (.mv 0),
 oD 34 (.mv 9),
 oD 35 (.ixa 2 33 34),
 oD 36 (.ld true 2 35),
 oD 12 (.alloc [.n 0,.n 0]),
 oN (.st 2 12 36)]
def Z5.r10:List Oper:=[
 oD 37 (.mv 0),
 oD 38 (.mv 11),
 oD 39 (.ixa 2 37 38),
 oD 40 (.ld true 2 39),
 oD 13 (.alloc [.n 0,.n 0]),
 oN (.st 2 13 40)]
def Z5.r11:List Oper:=[
 oD 41 (.fa 1 12),
 oD 42 (.ld false 1 41),
 oD 43 (.fa 1 13),
 oD 44 (.ld false 1 43),
 oD 45 (.eq false .sc 42 44),
 oD 46 (.mv 45),
 ⟨(some 47),.mv 0,(some (46,true))⟩,
 ⟨(some 48),.mv 2,(some (46,true))⟩,
 ⟨(some 49),.ixa 2 47 48,(some (46,true))⟩,
 ⟨(some 50),.fa 0 49,(some (46,true))⟩,
 ⟨(some 51),.ld false 1 50,(some (46,true))⟩,
 ⟨(some 52),.mv 0,(some (46,true))⟩,
 ⟨(some 53),.mv 3,(some (46,true))⟩,
 ⟨(some 54),.ixa 2 52 53,(some (46,true))⟩,
 ⟨(some 55),.fa 0 54,(some (46,true))⟩,
 ⟨(some 56),.ld false 1 55,(some (46,true))⟩,
 ⟨(some 57),.eq false .sc 51 56,(some (46,true))⟩,
 oD 58 (.pick 46 57 (.c (.b false))),
 oD 59 (.mv 58),
 ⟨(some 60),.fa 0 12,(some (59,true))⟩,
 ⟨(some 61),.ld false 1 60,(some (59,true))⟩,
 ⟨(some 62),.mv 0,(some (59,true))⟩,
 ⟨(some 63),.mv 2,(some (59,true))⟩,
 ⟨(some 64),.ixa 2 62 63,(some (59,true))⟩,
 ⟨(some 65),.fa 0 64,(some (59,true))⟩,
 ⟨(some 66),.ld false 1 65,(some (59,true))⟩,
 ⟨(some 67),.bin .lss 61 66,(some (59,true))⟩,
 oD 68 (.pick 59 67 (.c (.b false))),
 oD 69 (.mv 68),
 ⟨(some 70),.mv 0,(some (69,true))⟩,
 ⟨(some 71),.mv 2,(some (69,true))⟩,
 ⟨(some 72),.ixa 2 70 71,(some (69,true))⟩,
 ⟨(some 73),.fa 0 72,(some (69,true))⟩,
 ⟨(some 74),.ld false 1 73,(some (69,true))⟩,
 ⟨(some 75),.fa 0 13,(some (69,true))⟩,
 ⟨(some 76),.ld false 1 75,(some (69,true))⟩,
 ⟨(some 77),.bin .lss 74 76,(some (69,true))⟩,
 oD 78 (.pick 69 77 (.c (.b false))),
 oD 79 (.mv 78),
 ⟨(some 80),.mv 0,(some (79,true))⟩,
 ⟨(some 81),.mv 2,(some (79,true))⟩,
 ⟨(some 82),.ixa 2 80 81,(some (79,true))⟩,
 ⟨(some 83),.fa 1 82,(some (79,true))⟩,
 ⟨(some 84),.ld false 1 83,(some (79,true))⟩,
 ⟨(some 85),.fa 1 12,(some (79,true))⟩,
 ⟨(some 86),.ld false 1 85,(some (79,true))⟩,
 ⟨(some 87),.bin .lss 84 86,(some (79,true))⟩,
 oD 88 (.pick 79 87 (.c (.b false))),
 oD 89 (.mv 88),
 ⟨(some 90),.fa 1 12,(some (89,true))⟩,
 ⟨(some 91),.ld false 1 90,(some (89,true))⟩,
 ⟨(some 92),.mv 0,(some (89,true))⟩,
 ⟨(some 93),.mv 3,(some (89,true))⟩,
 ⟨(some 94),.ixa 2 92 93,(some (89,true))⟩,
 ⟨(some 95),.fa 1 94,(some (89,true))⟩,
 ⟨(some 96),.ld false 1 95,(some (89,true))⟩,
 ⟨(some 97),.bin .lss 91 96,(some (89,true))⟩,
 oD 98 (.pick 89 97 (.c (.b false)))]
def Z5.r12:List Oper:=[
 oD 8 (.mv (.c (.b true)))]
def Z5.r13:List Oper:=[
 oD 99 (.fa 0 12),
 oD 100 (.ld false 1 99),
 oD 101 (.fa 0 13),
 oD 102 (.ld false 1 101),
 oD 103 (.eq false .sc 100 102),
 oD 104 (.mv 103),
 ⟨(some 105),.mv 0,(some (104,true))⟩,
 ⟨(some 106),.mv 2,(some (104,true))⟩,
 ⟨(some 107),.ixa 2 105 106,(some (104,true))⟩,
 ⟨(some 108),.fa 1 107,(some (104,true))⟩,
 ⟨(some 109),.ld false 1 108,(some (104,true))⟩,
 ⟨(some 110),.mv 0,(some (104,true))⟩,
 ⟨(some 111),.mv 3,(some (104,true))⟩,
 ⟨(some 112),.ixa 2 110 111,(some (104,true))⟩,
 ⟨(some 113),.fa 1 112,(some (104,true))⟩,
 ⟨(some 114),.ld false 1 113,(some (104,true))⟩,
 ⟨(some 115),.eq false .sc 109 114,(some (104,true))⟩,
 oD 116 (.pick 104 115 (.c (.b false))),
 oD 117 (.mv 116),
 ⟨(some 118),.mv 0,(some (117,true))⟩,
 ⟨(some 119),.mv 2,(some (117,true))⟩,
 ⟨(some 120),.ixa 2 118 119,(some (117,true))⟩,
 ⟨(some 121),.fa 0 120,(some (117,true))⟩,
 ⟨(some 122),.ld false 1 121,(some (117,true))⟩,
 ⟨(some 123),.fa 0 12,(some (117,true))⟩,
 ⟨(some 124),.ld false 1 123,(some (117,true))⟩,
 ⟨(some 125),.bin .lss 122 124,(some (117,true))⟩,
 oD 126 (.pick 117 125 (.c (.b false))),
 oD 127 (.mv 126),
 ⟨(some 128),.fa 0 12,(some (127,true))⟩,
 ⟨(some 129),.ld false 1 128,(some (127,true))⟩,
 ⟨(some 130),.mv 0,(some (127,true))⟩,
 ⟨(some 131),.mv 3,(some (127,true))⟩,
 ⟨(some 132),.ixa 2 130 131,(some (127,true))⟩,
 ⟨(some 133),.fa 0 132,(some (127,true))⟩,
 ⟨(some 134),.ld false 1 133,(some (127,true))⟩,
 ⟨(some 135),.bin .lss 129 134,(some (127,true))⟩,
 oD 136 (.pick 127 135 (.c (.b false))),
 oD 137 (.mv 136),
 ⟨(some 138),.fa 1 12,(some (137,true))⟩,
 ⟨(some 139),.ld false 1 138,(some (137,true))⟩,
 ⟨(some 140),.mv 0,(some (137,true))⟩,
 ⟨(some 141),.mv 2,(some (137,true))⟩,
 ⟨(some 142),.ixa 2 140 141,(some (137,true))⟩,
 ⟨(some 143),.fa 1 142,(some (137,true))⟩,
 ⟨(some 144),.ld false 1 143,(some (137,true))⟩,
 ⟨(some 145),.bin .lss 139 144,(some (137,true))⟩,
 oD 146 (.pick 137 145 (.c (.b false))),
 oD 147 (.mv 146),
 ⟨(some 148),.mv 0,(some (147,true))⟩,
 ⟨(some 149),.mv 2,(some (147,true))⟩,
 ⟨(some 150),.ixa 2 148 149,(some (147,true))⟩,
 ⟨(some 151),.fa 1 150,(some (147,true))⟩,
 ⟨(some 152),.ld false 1 151,(some (147,true))⟩,
 ⟨(some 153),.fa 1 13,(some (147,true))⟩,
 ⟨(some 154),.ld false 1 153,(some (147,true))⟩,
 ⟨(some 155),.bin .lss 152 154,(some (147,true))⟩,
 oD 156 (.pick 147 155 (.c (.b false)))]
def Z5.r14:List Oper:=[
 oD 8 (.mv (.c (.b true)))]
def Z5.r6:List Oper:=[
 oD 22 (.mv 10),
 oD 23 (.bin .add 22 (.c (.n 1))),
 oD 10 (.mv 23)]
def Z5.l0:Code:=.seq (.seq (.region Z5.r5) (.cond 21 (.skip) (.exit 2))) (.seq (.block 3 (.seq (.region Z5.r7) (.seq (.seq (.region Z5.r8) (.cond 32 (.exit 3) (.skip))) (.seq (.region Z5.r9) (.seq (.region Z5.r10) (.seq (.seq (.draw Z5.r11 [(1,3),(10,15),(20,25),(33,35),(43,45),(50,55)]) (.cond 98 (.seq (.region Z5.r12) (.ret)) (.skip))) (.seq (.draw Z5.r13 [(1,3),(10,15),(23,25),(30,35),(40,45),(53,55)]) (.cond 156 (.seq (.region Z5.r14) (.ret)) (.skip))))))))) (.region Z5.r6))
def Z5.r3:List Oper:=[
 oD 18 (.mv 9),
 oD 19 (.bin .add 18 (.c (.n 1))),
 oD 9 (.mv 19)]
def Z5.l1:Code:=.seq (.seq (.region Z5.r2) (.cond 17 (.skip) (.exit 0))) (.seq (.block 1 (.seq (.region Z5.r4) (.block 2 (.loop Z5.l0)))) (.region Z5.r3))
def Z5.r15:List Oper:=[
 oD 8 (.mv (.c (.b false)))]
def Z5.code:Code:=.seq (.region Z5.r0) (.seq (.seq (.region Z5.r1) (.block 0 (.loop Z5.l1))) (.seq (.region Z5.r15) (.ret)))
def Z5:Func:=⟨157,[.t 8],Z5.code⟩
/-! muntin/muntinref10.with -/
def ZE.r0:List Oper:=[
 oD 10 (.mv (.c (.sn)))]
def ZE.r1:List Oper:=[
 oD 11 (.mv (.c (.sn)))]
def ZE.r2:List Oper:=[
 oD 12 (.mv (.c (.n 0)))]
def ZE.r3:List Oper:=[
 oD 14 (.mv 12),
 oD 15 (.mv 0),
 oD 16 (.len 15),
 oD 17 (.bin .lss 14 16)]
def ZE.r5:List Oper:=[
 oD 20 (.mv 0),
 oD 21 (.mv 12),
 oD 22 (.ixa 8 20 21),
 oD 23 (.ld true 8 22),
 oD 13 (.alloc [.n 0,.n 0,.n 0,.n 0,.n 0,.n 0,.n 0,.n 0]),
 oN (.st 8 13 23)]
def ZE.r6:List Oper:=[
 oD 24 (.mv 12),
 oD 25 (.mv 1),
 oD 26 (.eq false .sc 24 25)]
def ZE.r7:List Oper:=[
 oD 27 (.mv 2),
 oD 28 (.mv 3),
 oD 29 (.fa 0 13),
 oD 30 (.ixaa 1 4 29 27),
 oN (.st 1 30 28)]
def ZE.r8:List Oper:=[
 oD 31 (.mv 2),
 oD 32 (.mv 4),
 oD 33 (.fa 4 13),
 oD 34 (.ixaa 1 4 33 31),
 oN (.st 1 34 32)]
def ZE.r9:List Oper:=[
 oD 35 (.mv 12),
 oD 36 (.mv 3),
 oD 37 (.eq false .sc 35 36)]
def ZE.r10:List Oper:=[
 oD 38 (.mv 2),
 oD 39 (.bin .add 38 (.c (.n 2))),
 oD 40 (.bin .rem 39 (.c (.n 4))),
 oD 41 (.mv 1),
 oD 42 (.fa 0 13),
 oD 43 (.ixaa 1 4 42 40),
 oN (.st 1 43 41)]
def ZE.r11:List Oper:=[
 oD 44 (.mv 2),
 oD 45 (.bin .add 44 (.c (.n 2))),
 oD 46 (.bin .rem 45 (.c (.n 4))),
 oD 47 (.mv 4),
 oD 48 (.fa 4 13),
 oD 49 (.ixaa 1 4 48 46),
 oN (.st 1 49 47)]
def ZE.r12:List Oper:=[
 oD 50 (.mv 11),
 oD 51 (.ld true 8 13),
 oD 52 (.bsl 8 1 [.n 0,.n 0,.n 0,.n 0,.n 0,.n 0,.n 0,.n 0] [(0,8,.t 51)]),
 oD 53 (.app 8 64 50 52),
 oD 11 (.mv 53)]
def ZE.r4:List Oper:=[
 oD 18 (.mv 12),
 oD 19 (.bin .add 18 (.c (.n 1))),
 oD 12 (.mv 19)]
def ZE.l0:Code:=.seq (.seq (.region ZE.r3) (.cond 17 (.skip) (.exit 0))) (.seq (.block 1 (.seq (.region ZE.r5) (.seq (.seq (.region ZE.r6) (.cond 26 (.seq (.region ZE.r7) (.region ZE.r8)) (.skip))) (.seq (.seq (.region ZE.r9) (.cond 37 (.seq (.region ZE.r10) (.region ZE.r11)) (.skip))) (.region ZE.r12))))) (.region ZE.r4))
def ZE.r13:List Oper:=[
 oD 54 (.mv 11),
 oD 10 (.mv 54)]
def ZE.code:Code:=.seq (.region ZE.r0) (.seq (.region ZE.r1) (.seq (.seq (.region ZE.r2) (.block 0 (.loop ZE.l0))) (.seq (.region ZE.r13) (.ret))))
def ZE:Func:=⟨55,[.t 10],ZE.code⟩
/-! muntin/grid.Check -/
def zi.r0:List Oper:=[
 oD 2 (.mv (.c (.n 0)))]
def zi.r1:List Oper:=[
 oD 6 (.mv 0),
 oD 7 (.len 6),
 oD 8 (.bin .gtr 7 (.c (.n 4096)))]
def zi.r2:List Oper:=[
 oD 2 (.mv (.c (.n 6)))]
def zi.r3:List Oper:=[
 oD 9 (.mv 0),
 oD 10 (.len 9),
 oD 11 (.mv (.c (.n 0)))]
def zi.r4:List Oper:=[
 oD 12 (.bin .lss 11 10)]
def zi.r5:List Oper:=[
 oD 13 (.mv 11),
 oD 3 (.mv 13)]
def zi.r6:List Oper:=[
 oD 14 (.mv (.c (.n 0)))]
def zi.r7:List Oper:=[
 oD 15 (.bin .lss 14 (.c (.n 4)))]
def zi.r8:List Oper:=[
 oD 16 (.mv 14),
 oD 4 (.mv 16)]
def zi.r9:List Oper:=[
 oD 17 (.mv 0),
 oD 18 (.mv 3),
 oD 19 (.mv 4),
 oD 20 (.call (.c (.f 82 [])) [.t 17,.t 18,.t 19]),
 oD 5 (.mv 20)]
def zi.r10:List Oper:=[
 oD 21 (.mv 5),
 oD 22 (.eq true .sc 21 (.c (.n 0)))]
def zi.r11:List Oper:=[
 oD 23 (.mv 5),
 oD 2 (.mv 23)]
def zi.r12:List Oper:=[
 oD 24 (.bin .add 14 (.c (.n 1))),
 oD 14 (.mv 24)]
def zi.l0:Code:=.seq (.region zi.r7) (.seq (.cond 15 (.skip) (.exit 2)) (.seq (.block 3 (.seq (.region zi.r8) (.seq (.region zi.r9) (.seq (.region zi.r10) (.cond 22 (.seq (.region zi.r11) (.ret)) (.skip)))))) (.region zi.r12)))
def zi.r13:List Oper:=[
 oD 25 (.bin .add 11 (.c (.n 1))),
 oD 11 (.mv 25)]
def zi.l1:Code:=.seq (.region zi.r4) (.seq (.cond 12 (.skip) (.exit 0)) (.seq (.block 1 (.seq (.region zi.r5) (.seq (.region zi.r6) (.block 2 (.loop zi.l0))))) (.region zi.r13)))
def zi.r14:List Oper:=[
 oD 2 (.mv (.c (.n 0)))]
def zi.code:Code:=.seq (.region zi.r0) (.seq (.seq (.region zi.r1) (.cond 8 (.seq (.region zi.r2) (.ret)) (.skip))) (.seq (.seq (.region zi.r3) (.block 0 (.loop zi.l1))) (.seq (.region zi.r14) (.ret))))
def zi:Func:=⟨26,[.t 2],zi.code⟩
/-! muntin/join.spread -/
def ZO.r0:List Oper:=[
 oD 4 (.mv (.c (.sn))),
 oD 5 (.mv (.c (.sn)))]
def ZO.r1:List Oper:=[
 oD 13 (.bsl 1 1 [.n 0] [(0,1,.c (.n (-1)))]),
 oD 14 (.mv 0),
 oD 15 (.len 14),
 oD 16 (.call (.c (.f 83 [])) [.t 13,.t 15]),
 oD 17 (.bsl 1 1 [.n 0] [(0,1,.c (.n (-1)))]),
 oD 18 (.mv 0),
 oD 19 (.len 18),
 oD 20 (.call (.c (.f 83 [])) [.t 17,.t 19]),
 oD 6 (.mv 16),
 oD 7 (.mv 20)]
def ZO.r2:List Oper:=[
 oD 21 (.mv 1),
 oD 22 (.bsl 1 1 [.n 0] [(0,1,.t 21)]),
 oD 8 (.mv 22)]
def ZO.r3:List Oper:=[
 oD 23 (.mv 0),
 oD 24 (.len 23),
 oD 25 (.mks 1 1 [.b false] 24 24),
 oD 9 (.mv 25)]
def ZO.r4:List Oper:=[
 oD 26 (.mv 9),
 oD 27 (.mv 1),
 oD 28 (.ixa 1 26 27),
 oN (.st 1 28 (.c (.b true)))]
def ZO.r5:List Oper:=[
 oD 29 (.mv 8),
 oD 30 (.len 29),
 oD 31 (.bin .gtr 30 (.c (.n 0)))]
def ZO.r6:List Oper:=[
 oD 32 (.mv 8),
 oD 33 (.ixa 1 32 (.c (.n 0))),
 oD 34 (.ld false 1 33),
 oD 10 (.mv 34)]
def ZO.r7:List Oper:=[
 oD 35 (.mv 8),
 oD 36 (.slc 1 35 (some (.c (.n 1))) none none),
 oD 8 (.mv 36)]
def ZO.r8:List Oper:=[
 oD 37 (.mv (.c (.n 0)))]
def ZO.r9:List Oper:=[
 oD 38 (.bin .lss 37 (.c (.n 4)))]
def ZO.r10:List Oper:=[
 oD 39 (.mv 37),
 oD 11 (.mv 39)]
def ZO.r11:List Oper:=[
 oD 40 (.mv 0),
 oD 41 (.mv 10),
 oD 42 (.mv 11),
 oD 43 (.ixa 8 40 41),
 oD 44 (.fa 0 43),
 oD 45 (.ixaa 1 4 44 42),
 oD 46 (.ld false 1 45),
 oD 12 (.mv 46)]
def ZO.r12:List Oper:=[
 oD 47 (.mv 12),
 oD 48 (.bin .geq 47 (.c (.n 0))),
 oD 49 (.mv 48),
 ⟨(some 50),.mv 9,(some (49,true))⟩,
 ⟨(some 51),.mv 12,(some (49,true))⟩,
 ⟨(some 52),.ixa 1 50 51,(some (49,true))⟩,
 ⟨(some 53),.ld false 1 52,(some (49,true))⟩,
 ⟨(some 54),.un .not 53,(some (49,true))⟩,
 oD 55 (.pick 49 54 (.c (.b false)))]
def ZO.r13:List Oper:=[
 oD 56 (.mv 9),
 oD 57 (.mv 12),
 oD 58 (.mv 6),
 oD 59 (.mv 12),
 oD 60 (.mv 7),
 oD 61 (.mv 12),
 oD 62 (.mv 10),
 oD 63 (.mv 11),
 oD 64 (.ixa 1 56 57),
 oN (.st 1 64 (.c (.b true))),
 oD 65 (.ixa 1 58 59),
 oN (.st 1 65 62),
 oD 66 (.ixa 1 60 61),
 oN (.st 1 66 63)]
def ZO.r14:List Oper:=[
 oD 67 (.mv 8),
 oD 68 (.mv 12),
 oD 69 (.bsl 1 1 [.n 0] [(0,1,.t 68)]),
 oD 70 (.app 1 8 67 69),
 oD 8 (.mv 70)]
def ZO.r15:List Oper:=[
 oD 71 (.bin .add 37 (.c (.n 1))),
 oD 37 (.mv 71)]
def ZO.l0:Code:=.seq (.region ZO.r9) (.seq (.cond 38 (.skip) (.exit 2)) (.seq (.block 3 (.seq (.region ZO.r10) (.seq (.region ZO.r11) (.seq (.region ZO.r12) (.cond 55 (.seq (.region ZO.r13) (.region ZO.r14)) (.skip)))))) (.region ZO.r15)))
def ZO.l1:Code:=.seq (.seq (.region ZO.r5) (.cond 31 (.skip) (.exit 0))) (.block 1 (.seq (.region ZO.r6) (.seq (.region ZO.r7) (.seq (.region ZO.r8) (.block 2 (.loop ZO.l0))))))
def ZO.r16:List Oper:=[
 oD 72 (.mv 6),
 oD 73 (.mv 7),
 oD 4 (.mv 72),
 oD 5 (.mv 73)]
def ZO.code:Code:=.seq (.region ZO.r0) (.seq (.region ZO.r1) (.seq (.region ZO.r2) (.seq (.region ZO.r3) (.seq (.region ZO.r4) (.seq (.block 0 (.loop ZO.l1)) (.seq (.region ZO.r16) (.ret)))))))
def ZO:Func:=⟨74,[.t 4,.t 5],ZO.code⟩
/-! muntin/compass.Left -/
def ZaD.r0:List Oper:=[
 oD 4 (.mv (.c (.n 0)))]
def ZaD.r1:List Oper:=[
 oD 5 (.mv 0),
 oD 6 (.call (.c (.f 90 [])) [.t 5]),
 oD 7 (.un .not 6)]
def ZaD.r2:List Oper:=[
 oD 4 (.mv (.c (.n 0)))]
def ZaD.r3:List Oper:=[
 oD 8 (.mv 0),
 oD 9 (.mv 1),
 oD 10 (.bin .rem 9 (.c (.n 4))),
 oD 11 (.bin .add 8 10),
 oD 12 (.bin .add 11 (.c (.n 4))),
 oD 13 (.bin .rem 12 (.c (.n 4))),
 oD 4 (.mv 13)]
def ZaD.code:Code:=.seq (.region ZaD.r0) (.seq (.seq (.region ZaD.r1) (.cond 7 (.seq (.region ZaD.r2) (.ret)) (.skip))) (.seq (.region ZaD.r3) (.ret)))
def ZaD:Func:=⟨14,[.t 4],ZaD.code⟩
/-! muntin/grid.side -/
def zP.r0:List Oper:=[
 oD 6 (.mv (.c (.n 0)))]
def zP.r1:List Oper:=[
 oD 10 (.mv 0),
 oD 11 (.mv 1),
 oD 12 (.mv 2),
 oD 13 (.ixa 8 10 11),
 oD 14 (.fa 0 13),
 oD 15 (.ixaa 1 4 14 12),
 oD 16 (.ld false 1 15),
 oD 17 (.mv 0),
 oD 18 (.mv 1),
 oD 19 (.mv 2),
 oD 20 (.ixa 8 17 18),
 oD 21 (.fa 4 20),
 oD 22 (.ixaa 1 4 21 19),
 oD 23 (.ld false 1 22),
 oD 7 (.mv 16),
 oD 8 (.mv 23)]
def zP.r2:List Oper:=[
 oD 24 (.mv 7),
 oD 25 (.eq false .sc 24 (.c (.n (-1))))]
def zP.r3:List Oper:=[
 oD 26 (.mv 8),
 oD 27 (.eq true .sc 26 (.c (.n 0)))]
def zP.r4:List Oper:=[
 oD 6 (.mv (.c (.n 9)))]
def zP.r5:List Oper:=[
 oD 6 (.mv (.c (.n 0)))]
def zP.r6:List Oper:=[
 oD 28 (.mv 7),
 oD 29 (.bin .lss 28 (.c (.n 0))),
 oD 30 (.mv 29),
 ⟨(some 31),.mv 7,(some (30,false))⟩,
 ⟨(some 32),.mv 0,(some (30,false))⟩,
 ⟨(some 33),.len 32,(some (30,false))⟩,
 ⟨(some 34),.bin .geq 31 33,(some (30,false))⟩,
 oD 35 (.pick 30 (.c (.b true)) 34),
 oD 36 (.mv 35),
 ⟨(some 37),.mv 7,(some (36,false))⟩,
 ⟨(some 38),.mv 1,(some (36,false))⟩,
 ⟨(some 39),.eq false .sc 37 38,(some (36,false))⟩,
 oD 40 (.pick 36 (.c (.b true)) 39)]
def zP.r7:List Oper:=[
 oD 6 (.mv (.c (.n 3)))]
def zP.r8:List Oper:=[
 oD 41 (.mv 2),
 oD 42 (.call (.c (.f 77 [])) [.t 41,.c (.n 2)]),
 oD 9 (.mv 42)]
def zP.r9:List Oper:=[
 oD 43 (.mv 0),
 oD 44 (.mv 7),
 oD 45 (.mv 9),
 oD 46 (.ixa 8 43 44),
 oD 47 (.fa 0 46),
 oD 48 (.ixaa 1 4 47 45),
 oD 49 (.ld false 1 48),
 oD 50 (.mv 1),
 oD 51 (.eq true .sc 49 50),
 oD 52 (.mv 51),
 ⟨(some 53),.mv 0,(some (52,false))⟩,
 ⟨(some 54),.mv 7,(some (52,false))⟩,
 ⟨(some 55),.mv 9,(some (52,false))⟩,
 ⟨(some 56),.ixa 8 53 54,(some (52,false))⟩,
 ⟨(some 57),.fa 4 56,(some (52,false))⟩,
 ⟨(some 58),.ixaa 1 4 57 55,(some (52,false))⟩,
 ⟨(some 59),.ld false 1 58,(some (52,false))⟩,
 ⟨(some 60),.mv 8,(some (52,false))⟩,
 ⟨(some 61),.eq true .sc 59 60,(some (52,false))⟩,
 oD 62 (.pick 52 (.c (.b true)) 61),
 oD 63 (.mv 62),
 ⟨(some 64),.mv 8,(some (63,false))⟩,
 ⟨(some 65),.bin .lss 64 (.c (.n (-2))),(some (63,false))⟩,
 oD 66 (.pick 63 (.c (.b true)) 65)]
def zP.r10:List Oper:=[
 oD 6 (.mv (.c (.n 9)))]
def zP.r11:List Oper:=[
 oD 6 (.mv (.c (.n 0)))]
def zP.code:Code:=.seq (.region zP.r0) (.seq (.draw zP.r1 [(6,13)]) (.seq (.seq (.region zP.r2) (.cond 25 (.seq (.seq (.region zP.r3) (.cond 27 (.seq (.region zP.r4) (.ret)) (.skip))) (.seq (.region zP.r5) (.ret))) (.skip))) (.seq (.seq (.region zP.r6) (.cond 40 (.seq (.region zP.r7) (.ret)) (.skip))) (.seq (.region zP.r8) (.seq (.seq (.region zP.r9) (.cond 66 (.seq (.region zP.r10) (.ret)) (.skip))) (.seq (.region zP.r11) (.ret)))))))
def zP:Func:=⟨67,[.t 6],zP.code⟩
/-! slices.Repeat[[]int,int] -/
def ZL.r0:List Oper:=[
 oD 4 (.mv (.c (.sn)))]
def ZL.r1:List Oper:=[
 oD 9 (.mv 1),
 oD 10 (.bin .lss 9 (.c (.n 0)))]
def ZL.r2:List Oper:=[
 oD 11 (.bad),
 oN (.bad)]
def ZL.r3:List Oper:=[
 oD 13 (.mv 0),
 oD 14 (.len 13),
 oD 15 (.conv .u64 14),
 oD 16 (.mv 1),
 oD 17 (.conv .u64 16),
 oD 18 (.call (.c (.f 89 [])) [.t 15,.t 17]),
 oD 12 (.mv 18),
 oD 19 (.ext 12 0),
 oD 20 (.ext 12 1),
 oD 5 (.mv 19),
 oD 6 (.mv 20)]
def ZL.r4:List Oper:=[
 oD 21 (.mv 5),
 oD 22 (.bin .gtr 21 (.c (.i .u64 0))),
 oD 23 (.mv 22),
 ⟨(some 24),.mv 6,(some (23,false))⟩,
 ⟨(some 25),.bin .gtr 24 (.c (.i .u64 9223372036854775807)),(some (23,false))⟩,
 oD 26 (.pick 23 (.c (.b true)) 25)]
def ZL.r5:List Oper:=[
 oD 27 (.bad),
 oN (.bad)]
def ZL.r6:List Oper:=[
 oD 28 (.mv 6),
 oD 29 (.conv .i64 28),
 oD 30 (.mks 1 8 [.n 0] 29 29),
 oD 7 (.mv 30)]
def ZL.r7:List Oper:=[
 oD 31 (.mv 7),
 oD 32 (.mv 0),
 oD 33 (.cpy 1 31 32),
 oD 8 (.mv 33)]
def ZL.r8:List Oper:=[
 oD 34 (.mv 8),
 oD 35 (.mv 7),
 oD 36 (.len 35),
 oD 37 (.bin .lss 34 36)]
def ZL.r9:List Oper:=[
 oD 38 (.mv 8),
 oD 39 (.mv 7),
 oD 40 (.mv 8),
 oD 41 (.slc 1 39 (some 40) none none),
 oD 42 (.mv 7),
 oD 43 (.mv 8),
 oD 44 (.slc 1 42 none (some 43) none),
 oD 45 (.cpy 1 41 44),
 oD 46 (.bin .add 38 45),
 oD 8 (.mv 46)]
def ZL.l0:Code:=.seq (.seq (.region ZL.r8) (.cond 37 (.skip) (.exit 0))) (.block 1 (.draw ZL.r9 []))
def ZL.r10:List Oper:=[
 oD 47 (.mv 7),
 oD 4 (.mv 47)]
def ZL.code:Code:=.seq (.region ZL.r0) (.seq (.seq (.region ZL.r1) (.cond 10 (.region ZL.r2) (.skip))) (.seq (.region ZL.r3) (.seq (.seq (.region ZL.r4) (.cond 26 (.region ZL.r5) (.skip))) (.seq (.region ZL.r6) (.seq (.region ZL.r7) (.seq (.block 0 (.loop ZL.l0)) (.seq (.region ZL.r10) (.ret))))))))
def ZL:Func:=⟨48,[.t 4],ZL.code⟩
/-! math/bits.Mul -/
def Zbi.r0:List Oper:=[
 oD 4 (.mv (.c (.i .u64 0))),
 oD 5 (.mv (.c (.i .u64 0)))]
def Zbi.r1:List Oper:=[
 oD 11 (.mv 0),
 oD 12 (.conv .u32 11),
 oD 13 (.mv 1),
 oD 14 (.conv .u32 13),
 oD 15 (.call (.c (.f 97 [])) [.t 12,.t 14]),
 oD 10 (.mv 15),
 oD 16 (.ext 10 0),
 oD 17 (.ext 10 1),
 oD 6 (.mv 16),
 oD 7 (.mv 17)]
def Zbi.r2:List Oper:=[
 oD 18 (.mv 6),
 oD 19 (.conv .u64 18),
 oD 20 (.mv 7),
 oD 21 (.conv .u64 20),
 oD 4 (.mv 19),
 oD 5 (.mv 21)]
def Zbi.r3:List Oper:=[
 oD 23 (.mv 0),
 oD 24 (.mv 1),
 oD 25 (.call (.c (.f 98 [])) [.t 23,.t 24]),
 oD 22 (.mv 25),
 oD 26 (.ext 22 0),
 oD 27 (.ext 22 1),
 oD 8 (.mv 26),
 oD 9 (.mv 27)]
def Zbi.r4:List Oper:=[
 oD 28 (.mv 8),
 oD 29 (.mv 9),
 oD 4 (.mv 28),
 oD 5 (.mv 29)]
def Zbi.code:Code:=.seq (.region Zbi.r0) (.seq (.cond (.c (.b false)) (.seq (.region Zbi.r1) (.seq (.region Zbi.r2) (.ret))) (.skip)) (.seq (.region Zbi.r3) (.seq (.region Zbi.r4) (.ret))))
def Zbi:Func:=⟨30,[.t 4,.t 5],Zbi.code⟩
/-! muntin/compass.Good -/
def Zbp.r0:List Oper:=[
 oD 2 (.mv (.c (.b false)))]
def Zbp.r1:List Oper:=[
 oD 3 (.mv 0),
 oD 4 (.bin .geq 3 (.c (.n 0))),
 oD 5 (.mv 4),
 ⟨(some 6),.mv 0,(some (5,true))⟩,
 ⟨(some 7),.bin .leq 6 (.c (.n 3)),(some (5,true))⟩,
 oD 8 (.pick 5 7 (.c (.b false))),
 oD 2 (.mv 8)]
def Zbp.code:Code:=.seq (.region Zbp.r0) (.seq (.region Zbp.r1) (.ret))
def Zbp:Func:=⟨9,[.t 2],Zbp.code⟩
/-! math/bits.Mul32 -/
def Zbo.r0:List Oper:=[
 oD 4 (.mv (.c (.i .u32 0))),
 oD 5 (.mv (.c (.i .u32 0)))]
def Zbo.r1:List Oper:=[
 oD 7 (.mv 0),
 oD 8 (.conv .u64 7),
 oD 9 (.mv 1),
 oD 10 (.conv .u64 9),
 oD 11 (.bin .mul 8 10),
 oD 6 (.mv 11)]
def Zbo.r2:List Oper:=[
 oD 12 (.mv 6),
 oD 13 (.bin .shr 12 (.c (.i .u64 32))),
 oD 14 (.conv .u32 13),
 oD 15 (.mv 6),
 oD 16 (.conv .u32 15),
 oD 4 (.mv 14),
 oD 5 (.mv 16)]
def Zbo.code:Code:=.seq (.region Zbo.r0) (.seq (.region Zbo.r1) (.seq (.region Zbo.r2) (.ret)))
def Zbo:Func:=⟨17,[.t 4,.t 5],Zbo.code⟩
/-! math/bits.Mul64 -/
def zD.r0:List Oper:=[
 oD 4 (.mv (.c (.i .u64 0))),
 oD 5 (.mv (.c (.i .u64 0)))]
def zD.r1:List Oper:=[
 oD 14 (.mv 0),
 oD 15 (.bin .and 14 (.c (.i .u64 4294967295))),
 oD 6 (.mv 15)]
def zD.r2:List Oper:=[
 oD 16 (.mv 0),
 oD 17 (.bin .shr 16 (.c (.i .u64 32))),
 oD 7 (.mv 17)]
def zD.r3:List Oper:=[
 oD 18 (.mv 1),
 oD 19 (.bin .and 18 (.c (.i .u64 4294967295))),
 oD 8 (.mv 19)]
def zD.r4:List Oper:=[
 oD 20 (.mv 1),
 oD 21 (.bin .shr 20 (.c (.i .u64 32))),
 oD 9 (.mv 21)]
def zD.r5:List Oper:=[
 oD 22 (.mv 6),
 oD 23 (.mv 8),
 oD 24 (.bin .mul 22 23),
 oD 10 (.mv 24)]
def zD.r6:List Oper:=[
 oD 25 (.mv 7),
 oD 26 (.mv 8),
 oD 27 (.bin .mul 25 26),
 oD 28 (.mv 10),
 oD 29 (.bin .shr 28 (.c (.i .u64 32))),
 oD 30 (.bin .add 27 29),
 oD 11 (.mv 30)]
def zD.r7:List Oper:=[
 oD 31 (.mv 11),
 oD 32 (.bin .and 31 (.c (.i .u64 4294967295))),
 oD 12 (.mv 32)]
def zD.r8:List Oper:=[
 oD 33 (.mv 11),
 oD 34 (.bin .shr 33 (.c (.i .u64 32))),
 oD 13 (.mv 34)]
def zD.r9:List Oper:=[
 oD 35 (.mv 12),
 oD 36 (.mv 6),
 oD 37 (.mv 9),
 oD 38 (.bin .mul 36 37),
 oD 39 (.bin .add 35 38),
 oD 12 (.mv 39)]
def zD.r10:List Oper:=[
 oD 40 (.mv 7),
 oD 41 (.mv 9),
 oD 42 (.bin .mul 40 41),
 oD 43 (.mv 13),
 oD 44 (.bin .add 42 43),
 oD 45 (.mv 12),
 oD 46 (.bin .shr 45 (.c (.i .u64 32))),
 oD 47 (.bin .add 44 46),
 oD 4 (.mv 47)]
def zD.r11:List Oper:=[
 oD 48 (.mv 0),
 oD 49 (.mv 1),
 oD 50 (.bin .mul 48 49),
 oD 5 (.mv 50)]
def zD.code:Code:=.seq (.region zD.r0) (.seq (.region zD.r1) (.seq (.region zD.r2) (.seq (.region zD.r3) (.seq (.region zD.r4) (.seq (.region zD.r5) (.seq (.region zD.r6) (.seq (.region zD.r7) (.seq (.region zD.r8) (.seq (.region zD.r9) (.seq (.region zD.r10) (.seq (.region zD.r11) (.ret))))))))))))
def zD:Func:=⟨51,[.t 4,.t 5],zD.code⟩
/-! muntin/muntinlaw14.ValidTells -/
def zj.r0:List Oper:=[
 oD 3 (.box 0),
 oD 4 (.box 1),
 oD 6 (.mv (.c (.b false)))]
def zj.r1:List Oper:=[
 oD 11 (.ld true 3 3),
 oD 12 (.call (.c (.f 28 [])) [.t 11,.c (.n 16)]),
 oD 10 (.mv 12),
 oD 13 (.ext 10 0),
 oD 14 (.ext 10 1),
 oD 7 (.mv 13),
 oD 8 (.mv 14)]
def zj.r2:List Oper:=[
 oD 15 (.ld true 3 4),
 oD 16 (.call (.c (.f 171 [])) [.t 15,.c (.n 8)]),
 oD 9 (.alloc [.sn,.sn]),
 oN (.st 2 9 16)]
def zj.r3:List Oper:=[
 oD 17 (.call (.c (.f 172 [])) []),
 oD 18 (.un .not 17),
 oD 19 (.mv 18),
 ⟨(some 20),.mv 7,(some (19,false))⟩,
 ⟨(some 21),.call (.c (.f 173 [])) [.t 20],(some (19,false))⟩,
 ⟨(some 22),.un .not 21,(some (19,false))⟩,
 oD 23 (.pick 19 (.c (.b true)) 22),
 oD 24 (.mv 23),
 ⟨(some 25),.mv 2,(some (24,false))⟩,
 ⟨(some 26),.mv 2,(some (24,false))⟩,
 ⟨(some 27),.len 26,(some (24,false))⟩,
 ⟨(some 28),.mn [.t 27,.c (.n 5)],(some (24,false))⟩,
 ⟨(some 29),.slc 8 25 none (some 28) none,(some (24,false))⟩,
 ⟨(some 30),.call (.c (.f 173 [])) [.t 29],(some (24,false))⟩,
 ⟨(some 31),.un .not 30,(some (24,false))⟩,
 oD 32 (.pick 24 (.c (.b true)) 31)]
def zj.r4:List Oper:=[
 oD 6 (.mv (.c (.b false)))]
def zj.r5:List Oper:=[
 oD 33 (.ld true 2 9),
 oD 34 (.call (.c (.f 174 [])) [.t 33]),
 oD 35 (.eq true .sc 34 (.c (.n 0))),
 oD 36 (.mv 35),
 ⟨(some 37),.ld true 2 9,(some (36,false))⟩,
 ⟨(some 38),.call (.c (.f 175 [])) [.t 37],(some (36,false))⟩,
 ⟨(some 39),.fld false 0 1 38,(some (36,false))⟩,
 ⟨(some 40),.call (.c (.f 173 [])) [.t 39],(some (36,false))⟩,
 oD 41 (.pick 36 (.c (.b true)) 40),
 oD 6 (.mv 41)]
def zj.code:Code:=.seq (.region zj.r0) (.seq (.region zj.r1) (.seq (.region zj.r2) (.seq (.seq (.region zj.r3) (.cond 32 (.seq (.region zj.r4) (.ret)) (.skip))) (.seq (.region zj.r5) (.ret)))))
def zj:Func:=⟨42,[.t 6],zj.code⟩
/-! muntin/muntinref08.Make -/
def Z4.r0:List Oper:=[
 oD 2 (.box 0),
 oD 4 (.alloc [.sn,.sn])]
def Z4.r1:List Oper:=[
 oD 10 (.build [.sn,.sn] []),
 oD 5 (.alloc [.sn,.sn]),
 oN (.st 2 5 10)]
def Z4.r2:List Oper:=[
 oD 6 (.mv (.c (.n 0)))]
def Z4.r3:List Oper:=[
 oD 11 (.mv 6),
 oD 12 (.fa 0 2),
 oD 13 (.ld false 1 12),
 oD 14 (.len 13),
 oD 15 (.bin .lss 11 14),
 oD 16 (.mv 15),
 ⟨(some 17),.mv 6,(some (16,true))⟩,
 ⟨(some 18),.mv 1,(some (16,true))⟩,
 ⟨(some 19),.bin .lss 17 18,(some (16,true))⟩,
 oD 20 (.pick 16 19 (.c (.b false)))]
def Z4.r5:List Oper:=[
 oD 23 (.fa 0 5),
 oD 24 (.ld false 1 23),
 oD 25 (.fa 0 2),
 oD 26 (.ld false 1 25),
 oD 27 (.mv 6),
 oD 28 (.ixa 1 26 27),
 oD 29 (.ld false 1 28),
 oD 30 (.bsl 1 1 [.b false] [(0,1,.t 29)]),
 oD 31 (.app 1 1 24 30),
 oD 32 (.fa 0 5),
 oN (.st 1 32 31)]
def Z4.r4:List Oper:=[
 oD 21 (.mv 6),
 oD 22 (.bin .add 21 (.c (.n 1))),
 oD 6 (.mv 22)]
def Z4.l0:Code:=.seq (.seq (.region Z4.r3) (.cond 20 (.skip) (.exit 0))) (.seq (.block 1 (.draw Z4.r5 [(1,3),(1,6),(1,7)])) (.region Z4.r4))
def Z4.r6:List Oper:=[
 oD 7 (.mv (.c (.n 0)))]
def Z4.r7:List Oper:=[
 oD 33 (.mv 7),
 oD 34 (.fa 1 2),
 oD 35 (.ld false 1 34),
 oD 36 (.len 35),
 oD 37 (.bin .lss 33 36),
 oD 38 (.mv 37),
 ⟨(some 39),.mv 7,(some (38,true))⟩,
 ⟨(some 40),.mv 1,(some (38,true))⟩,
 ⟨(some 41),.bin .mul (.c (.n 2)) 40,(some (38,true))⟩,
 ⟨(some 42),.bin .lss 39 41,(some (38,true))⟩,
 oD 43 (.pick 38 42 (.c (.b false))),
 oD 44 (.mv 43),
 ⟨(some 45),.fa 0 5,(some (44,true))⟩,
 ⟨(some 46),.ld false 1 45,(some (44,true))⟩,
 ⟨(some 47),.len 46,(some (44,true))⟩,
 ⟨(some 48),.bin .gtr 47 (.c (.n 0)),(some (44,true))⟩,
 oD 49 (.pick 44 48 (.c (.b false)))]
def Z4.r9:List Oper:=[
 oD 52 (.fa 1 2),
 oD 53 (.ld false 1 52),
 oD 54 (.mv 7),
 oD 55 (.ixa 3 53 54),
 oD 56 (.ixaa 1 3 55 (.c (.n 0))),
 oD 57 (.ld false 1 56),
 oD 58 (.conv .i64 57),
 oD 59 (.fa 0 5),
 oD 60 (.ld false 1 59),
 oD 61 (.len 60),
 oD 62 (.bin .rem 58 61),
 oD 63 (.fa 1 2),
 oD 64 (.ld false 1 63),
 oD 65 (.mv 7),
 oD 66 (.ixa 3 64 65),
 oD 67 (.ixaa 1 3 66 (.c (.n 1))),
 oD 68 (.ld false 1 67),
 oD 69 (.conv .i64 68),
 oD 70 (.fa 0 5),
 oD 71 (.ld false 1 70),
 oD 72 (.len 71),
 oD 73 (.bin .rem 69 72),
 oD 74 (.fa 1 2),
 oD 75 (.ld false 1 74),
 oD 76 (.mv 7),
 oD 77 (.ixa 3 75 76),
 oD 78 (.ixaa 1 3 77 (.c (.n 2))),
 oD 79 (.ld false 1 78),
 oD 80 (.conv .i64 79),
 oD 81 (.bin .rem 80 (.c (.n 4))),
 oD 82 (.build [.n 0,.n 0,.n 0,.s ⟨#[]⟩] [(0,1,.t 62),(1,1,.t 73),(2,1,.t 81)]),
 oD 8 (.alloc [.n 0,.n 0,.n 0,.s ⟨#[]⟩]),
 oN (.st 4 8 82)]
def Z4.r10:List Oper:=[
 oD 83 (.mv 7),
 oD 84 (.fa 2 2),
 oD 85 (.ld false 1 84),
 oD 86 (.len 85),
 oD 87 (.bin .lss 83 86)]
def Z4.r11:List Oper:=[
 oD 9 (.mv (.c (.n 0)))]
def Z4.r12:List Oper:=[
 oD 88 (.mv 9),
 oD 89 (.fa 2 2),
 oD 90 (.ld false 1 89),
 oD 91 (.mv 7),
 oD 92 (.ixa 1 90 91),
 oD 93 (.ld false 1 92),
 oD 94 (.conv .i64 93),
 oD 95 (.bin .rem 94 (.c (.n 4))),
 oD 96 (.bin .lss 88 95)]
def Z4.r14:List Oper:=[
 oD 99 (.fa 2 2),
 oD 100 (.ld false 1 99),
 oD 101 (.mv 7),
 oD 102 (.ixa 1 100 101),
 oD 103 (.ld false 1 102),
 oD 104 (.mv 9),
 oD 105 (.bin .add (.c (.n 2)) 104),
 oD 106 (.bin .shr 103 105),
 oD 107 (.bin .and 106 (.c (.i .u8 1))),
 oD 108 (.eq false .sc 107 (.c (.i .u8 1)))]
def Z4.r15:List Oper:=[
 oD 109 (.fa 3 8),
 oD 110 (.ld false 1 109),
 oD 111 (.bin .add 110 (.c (.s ⟨#[76]⟩))),
 oD 112 (.fa 3 8),
 oN (.st 1 112 111)]
def Z4.r16:List Oper:=[
 oD 113 (.fa 3 8),
 oD 114 (.ld false 1 113),
 oD 115 (.bin .add 114 (.c (.s ⟨#[82]⟩))),
 oD 116 (.fa 3 8),
 oN (.st 1 116 115)]
def Z4.r13:List Oper:=[
 oD 97 (.mv 9),
 oD 98 (.bin .add 97 (.c (.n 1))),
 oD 9 (.mv 98)]
def Z4.l1:Code:=.seq (.seq (.region Z4.r12) (.cond 96 (.skip) (.exit 4))) (.seq (.block 5 (.seq (.region Z4.r14) (.cond 108 (.region Z4.r15) (.region Z4.r16)))) (.region Z4.r13))
def Z4.r17:List Oper:=[
 oD 117 (.fa 1 5),
 oD 118 (.ld false 1 117),
 oD 119 (.ld true 4 8),
 oD 120 (.bsl 4 1 [.n 0,.n 0,.n 0,.s ⟨#[]⟩] [(0,4,.t 119)]),
 oD 121 (.app 4 40 118 120),
 oD 122 (.fa 1 5),
 oN (.st 1 122 121)]
def Z4.r8:List Oper:=[
 oD 50 (.mv 7),
 oD 51 (.bin .add 50 (.c (.n 1))),
 oD 7 (.mv 51)]
def Z4.l2:Code:=.seq (.seq (.region Z4.r7) (.cond 49 (.skip) (.exit 2))) (.seq (.block 3 (.seq (.draw Z4.r9 [(1,8),(5,8),(1,12),(5,12),(8,12),(1,16),(5,16),(8,16),(1,19),(5,19),(8,19),(12,19),(16,19),(1,23),(5,23),(8,23),(12,23),(16,23),(19,23),(1,27),(5,27),(8,27),(12,27),(16,27),(19,27),(1,31),(5,31),(8,31),(12,31),(16,31),(19,31),(23,31),(27,31)]) (.seq (.seq (.region Z4.r10) (.cond 87 (.seq (.region Z4.r11) (.block 4 (.loop Z4.l1))) (.skip))) (.region Z4.r17)))) (.region Z4.r8))
def Z4.r18:List Oper:=[
 oD 123 (.ld true 2 5),
 oN (.st 2 4 123)]
def Z4.code:Code:=.seq (.region Z4.r0) (.seq (.region Z4.r1) (.seq (.seq (.region Z4.r2) (.block 0 (.loop Z4.l0))) (.seq (.seq (.region Z4.r6) (.block 2 (.loop Z4.l2))) (.seq (.region Z4.r18) (.ret)))))
def Z4:Func:=⟨124,[.cell 4 true 2],Z4.code⟩
/-! muntin/muntinlaw14.wakes -/
def Zal.r0:List Oper:=[
 oD 0 (.mv (.c (.b false)))]
def Zal.r1:List Oper:=[
 oD 6 (.call (.c (.f 196 [])) []),
 oD 7 (.call (.c (.f 195 [])) [.t 6]),
 oD 5 (.mv 7),
 oD 8 (.ext 5 0),
 oD 9 (.ext 5 1),
 oD 1 (.mv 8),
 oD 2 (.mv 9)]
def Zal.r2:List Oper:=[
 oD 11 (.call (.c (.f 46 [])) [.c (.n 1)]),
 oD 12 (.call (.c (.f 195 [])) [.t 11]),
 oD 10 (.mv 12),
 oD 13 (.ext 10 0),
 oD 14 (.ext 10 1),
 oD 3 (.mv 13),
 oD 4 (.mv 14)]
def Zal.r3:List Oper:=[
 oD 15 (.call (.c (.f 196 [])) []),
 oD 16 (.call (.c (.f 176 [])) [.t 15]),
 oD 17 (.eq false .sc 16 (.c (.n 0))),
 oD 18 (.mv 17),
 ⟨(some 19),.mv 1,(some (18,true))⟩,
 ⟨(some 20),.eq false .sc 19 (.c (.n 1)),(some (18,true))⟩,
 oD 21 (.pick 18 20 (.c (.b false))),
 oD 22 (.mv 21),
 ⟨(some 23),.mv 2,(some (22,true))⟩,
 ⟨(some 24),.eq false .sc 23 (.c (.n 0)),(some (22,true))⟩,
 oD 25 (.pick 22 24 (.c (.b false))),
 oD 26 (.mv 25),
 ⟨(some 27),.call (.c (.f 46 [])) [.c (.n 1)],(some (26,true))⟩,
 ⟨(some 28),.call (.c (.f 176 [])) [.t 27],(some (26,true))⟩,
 ⟨(some 29),.eq false .sc 28 (.c (.n 0)),(some (26,true))⟩,
 oD 30 (.pick 26 29 (.c (.b false))),
 oD 31 (.mv 30),
 ⟨(some 32),.mv 4,(some (31,true))⟩,
 ⟨(some 33),.eq false .sc 32 (.c (.n 2)),(some (31,true))⟩,
 oD 34 (.pick 31 33 (.c (.b false))),
 oD 35 (.mv 34),
 ⟨(some 36),.call (.c (.f 46 [])) [.c (.n 2)],(some (35,true))⟩,
 ⟨(some 37),.call (.c (.f 176 [])) [.t 36],(some (35,true))⟩,
 ⟨(some 38),.eq false .sc 37 (.c (.n 13)),(some (35,true))⟩,
 oD 39 (.pick 35 38 (.c (.b false))),
 oD 40 (.mv 39),
 ⟨(some 41),.call (.c (.f 176 [])) [.c (.sn)],(some (40,true))⟩,
 ⟨(some 42),.eq false .sc 41 (.c (.n 13)),(some (40,true))⟩,
 oD 43 (.pick 40 42 (.c (.b false))),
 oD 0 (.mv 43)]
def Zal.code:Code:=.seq (.region Zal.r0) (.seq (.region Zal.r1) (.seq (.region Zal.r2) (.seq (.region Zal.r3) (.ret))))
def Zal:Func:=⟨44,[.t 0],Zal.code⟩
/-! muntin/muntinlaw14.told -/
def zg.r0:List Oper:=[
 oD 2 (.mv (.c (.b false)))]
def zg.r1:List Oper:=[
 oD 8 (.mv 0),
 oD 9 (.call (.c (.f 181 [])) [.t 8]),
 oD 7 (.mv 9),
 oD 10 (.ext 7 0),
 oD 11 (.ext 7 1),
 oD 3 (.mv 10),
 oD 4 (.mv 11)]
def zg.r2:List Oper:=[
 oD 13 (.mv 0),
 oD 14 (.call (.c (.f 195 [])) [.t 13]),
 oD 12 (.mv 14),
 oD 15 (.ext 12 0),
 oD 16 (.ext 12 1),
 oD 5 (.mv 15),
 oD 6 (.mv 16)]
def zg.r3:List Oper:=[
 oD 17 (.mv 0),
 oD 18 (.call (.c (.f 176 [])) [.t 17]),
 oD 19 (.mv 4),
 oD 20 (.eq true .sc 18 19)]
def zg.r4:List Oper:=[
 oD 2 (.mv (.c (.b false)))]
def zg.r5:List Oper:=[
 oD 22 (.mv 4),
 oD 23 (.eq true .sc 22 (.c (.n 0))),
 oD 21 (.mv 23)]
def zg.r6:List Oper:=[
 oD 24 (.mv 6),
 oD 25 (.mv 4),
 oD 26 (.eq false .sc 24 25),
 oD 27 (.mv 26),
 ⟨(some 28),.mv 5,(some (27,true))⟩,
 ⟨(some 29),.eq false .sc 28 (.c (.n 0)),(some (27,true))⟩,
 oD 30 (.pick 27 29 (.c (.b false))),
 oD 2 (.mv 30)]
def zg.r7:List Oper:=[
 oD 32 (.mv 3),
 oD 33 (.bin .lss 32 (.c (.n 0))),
 oD 31 (.mv 33)]
def zg.r8:List Oper:=[
 oD 34 (.mv 6),
 oD 35 (.eq false .sc 34 (.c (.n 2))),
 oD 36 (.mv 35),
 ⟨(some 37),.mv 5,(some (36,true))⟩,
 ⟨(some 38),.eq false .sc 37 (.c (.n 0)),(some (36,true))⟩,
 oD 39 (.pick 36 38 (.c (.b false))),
 oD 2 (.mv 39)]
def zg.r9:List Oper:=[
 oD 40 (.mv 6),
 oD 41 (.eq false .sc 40 (.c (.n 0))),
 oD 42 (.mv 41),
 ⟨(some 43),.mv 5,(some (42,true))⟩,
 ⟨(some 44),.mv 3,(some (42,true))⟩,
 ⟨(some 45),.eq false .sc 43 44,(some (42,true))⟩,
 oD 46 (.pick 42 45 (.c (.b false))),
 oD 2 (.mv 46)]
def zg.code:Code:=.seq (.region zg.r0) (.seq (.region zg.r1) (.seq (.region zg.r2) (.seq (.seq (.region zg.r3) (.cond 20 (.seq (.region zg.r4) (.ret)) (.skip))) (.seq (.block 0 (.seq (.region zg.r5) (.cond 21 (.seq (.region zg.r6) (.ret)) (.seq (.region zg.r7) (.cond 31 (.seq (.region zg.r8) (.ret)) (.skip)))))) (.seq (.region zg.r9) (.ret))))))
def zg:Func:=⟨47,[.t 2],zg.code⟩
/-! muntin/muntinref11.Wrong -/
def Zq.r0:List Oper:=[
 oD 1 (.box 0),
 oD 2 (.mv (.c (.n 0)))]
def Zq.r1:List Oper:=[
 oD 10 (.ld true 2 1),
 oD 11 (.call (.c (.f 197 [])) [.t 10]),
 oD 3 (.mv 11)]
def Zq.r2:List Oper:=[
 oD 12 (.mv 3),
 oD 13 (.eq true .sc 12 (.c (.n 0)))]
def Zq.r3:List Oper:=[
 oD 14 (.mv 3),
 oD 2 (.mv 14)]
def Zq.r4:List Oper:=[
 oD 15 (.ld true 2 1),
 oD 16 (.call (.c (.f 198 [])) [.t 15]),
 oD 4 (.mv 16)]
def Zq.r5:List Oper:=[
 oD 17 (.mv 4),
 oD 18 (.bin .gtr 17 (.c (.n 4096)))]
def Zq.r6:List Oper:=[
 oD 2 (.mv (.c (.n 6)))]
def Zq.r7:List Oper:=[
 oD 5 (.mv (.c (.n 0)))]
def Zq.r8:List Oper:=[
 oD 19 (.mv 5),
 oD 20 (.fa 0 1),
 oD 21 (.ld false 1 20),
 oD 22 (.len 21),
 oD 23 (.bin .lss 19 22)]
def Zq.r10:List Oper:=[
 oD 6 (.mv (.c (.n 0)))]
def Zq.r11:List Oper:=[
 oD 26 (.mv 6),
 oD 27 (.bin .lss 26 (.c (.n 4))),
 oD 28 (.mv 27),
 ⟨(some 29),.fa 0 1,(some (28,true))⟩,
 ⟨(some 30),.ld false 1 29,(some (28,true))⟩,
 ⟨(some 31),.mv 5,(some (28,true))⟩,
 ⟨(some 32),.ixa 1 30 31,(some (28,true))⟩,
 ⟨(some 33),.ld false 1 32,(some (28,true))⟩,
 ⟨(some 34),.un .not 33,(some (28,true))⟩,
 oD 35 (.pick 28 34 (.c (.b false)))]
def Zq.r13:List Oper:=[
 oD 38 (.ld true 2 1),
 oD 39 (.mv 5),
 oD 40 (.mv 6),
 oD 41 (.call (.c (.f 199 [])) [.t 38,.t 39,.t 40]),
 oD 7 (.mv 41)]
def Zq.r14:List Oper:=[
 oD 42 (.mv 7),
 oD 43 (.len 42),
 oD 44 (.bin .gtr 43 (.c (.n 1)))]
def Zq.r15:List Oper:=[
 oD 2 (.mv (.c (.n 8)))]
def Zq.r12:List Oper:=[
 oD 36 (.mv 6),
 oD 37 (.bin .add 36 (.c (.n 1))),
 oD 6 (.mv 37)]
def Zq.l0:Code:=.seq (.seq (.region Zq.r11) (.cond 35 (.skip) (.exit 2))) (.seq (.block 3 (.seq (.region Zq.r13) (.seq (.region Zq.r14) (.cond 44 (.seq (.region Zq.r15) (.ret)) (.skip))))) (.region Zq.r12))
def Zq.r9:List Oper:=[
 oD 24 (.mv 5),
 oD 25 (.bin .add 24 (.c (.n 1))),
 oD 5 (.mv 25)]
def Zq.l1:Code:=.seq (.seq (.region Zq.r8) (.cond 23 (.skip) (.exit 0))) (.seq (.block 1 (.seq (.region Zq.r10) (.block 2 (.loop Zq.l0)))) (.region Zq.r9))
def Zq.r16:List Oper:=[
 oD 8 (.mv (.c (.n 0)))]
def Zq.r17:List Oper:=[
 oD 45 (.mv 8),
 oD 46 (.fa 1 1),
 oD 47 (.ld false 1 46),
 oD 48 (.len 47),
 oD 49 (.bin .lss 45 48)]
def Zq.r19:List Oper:=[
 oD 52 (.fa 1 1),
 oD 53 (.ld false 1 52),
 oD 54 (.mv 8),
 oD 55 (.ixa 4 53 54),
 oD 56 (.ld true 4 55),
 oD 9 (.alloc [.n 0,.n 0,.n 0,.s ⟨#[]⟩]),
 oN (.st 4 9 56)]
def Zq.r20:List Oper:=[
 oD 57 (.fa 0 9),
 oD 58 (.ld false 1 57),
 oD 59 (.fa 1 9),
 oD 60 (.ld false 1 59),
 oD 61 (.eq false .sc 58 60),
 oD 62 (.mv 61),
 ⟨(some 63),.fa 3 9,(some (62,true))⟩,
 ⟨(some 64),.ld false 1 63,(some (62,true))⟩,
 ⟨(some 65),.eq false .sc 64 (.c (.s ⟨#[]⟩)),(some (62,true))⟩,
 oD 66 (.pick 62 65 (.c (.b false))),
 oD 67 (.mv 66),
 ⟨(some 68),.fa 0 1,(some (67,true))⟩,
 ⟨(some 69),.ld false 1 68,(some (67,true))⟩,
 ⟨(some 70),.fa 0 9,(some (67,true))⟩,
 ⟨(some 71),.ld false 1 70,(some (67,true))⟩,
 ⟨(some 72),.ixa 1 69 71,(some (67,true))⟩,
 ⟨(some 73),.ld false 1 72,(some (67,true))⟩,
 ⟨(some 74),.un .not 73,(some (67,true))⟩,
 oD 75 (.pick 67 74 (.c (.b false)))]
def Zq.r21:List Oper:=[
 oD 2 (.mv (.c (.n 10)))]
def Zq.r18:List Oper:=[
 oD 50 (.mv 8),
 oD 51 (.bin .add 50 (.c (.n 1))),
 oD 8 (.mv 51)]
def Zq.l2:Code:=.seq (.seq (.region Zq.r17) (.cond 49 (.skip) (.exit 4))) (.seq (.block 5 (.seq (.region Zq.r19) (.seq (.region Zq.r20) (.cond 75 (.seq (.region Zq.r21) (.ret)) (.skip))))) (.region Zq.r18))
def Zq.r22:List Oper:=[
 oD 2 (.mv (.c (.n 0)))]
def Zq.code:Code:=.seq (.region Zq.r0) (.seq (.region Zq.r1) (.seq (.seq (.region Zq.r2) (.cond 13 (.seq (.region Zq.r3) (.ret)) (.skip))) (.seq (.region Zq.r4) (.seq (.seq (.region Zq.r5) (.cond 18 (.seq (.region Zq.r6) (.ret)) (.skip))) (.seq (.seq (.region Zq.r7) (.block 0 (.loop Zq.l1))) (.seq (.seq (.region Zq.r16) (.block 4 (.loop Zq.l2))) (.seq (.region Zq.r22) (.ret))))))))
def Zq:Func:=⟨76,[.t 2],Zq.code⟩
/-! muntin/muntinref11.Of -/
def Zj.r0:List Oper:=[
 oD 1 (.box 0),
 oD 2 (.alloc [.sn,.sn,.sn,.sn])]
def Zj.r1:List Oper:=[
 oD 17 (.fa 1 1),
 oD 18 (.ld false 1 17),
 oD 19 (.len 18),
 oD 20 (.mks 2 16 [.n 0,.n 0] 19 19),
 oD 21 (.build [.sn,.sn,.sn,.sn] [(2,1,.t 20)]),
 oD 3 (.alloc [.sn,.sn,.sn,.sn]),
 oN (.st 4 3 21)]
def Zj.r2:List Oper:=[
 oD 4 (.mv (.c (.n 0)))]
def Zj.r3:List Oper:=[
 oD 22 (.mv 4),
 oD 23 (.fa 0 1),
 oD 24 (.ld false 1 23),
 oD 25 (.len 24),
 oD 26 (.bin .lss 22 25)]
def Zj.r5:List Oper:=[
 oD 29 (.fa 0 3),
 oD 30 (.ld false 1 29),
 oD 31 (.len 30),
 oD 5 (.mv 31)]
def Zj.r6:List Oper:=[
 oD 32 (.fa 1 3),
 oD 33 (.ld false 1 32),
 oD 34 (.mv 5),
 oD 35 (.bsl 1 1 [.n 0] [(0,1,.t 34)]),
 oD 36 (.app 1 8 33 35),
 oD 37 (.fa 1 3),
 oN (.st 1 37 36)]
def Zj.r7:List Oper:=[
 oD 38 (.fa 0 1),
 oD 39 (.ld false 1 38),
 oD 40 (.mv 4),
 oD 41 (.ixa 1 39 40),
 oD 42 (.ld false 1 41)]
def Zj.r8:List Oper:=[
 oD 43 (.ld true 4 3),
 oD 44 (.ld true 2 1),
 oD 45 (.mv 4),
 oD 46 (.call (.c (.f 200 [])) [.t 43,.t 44,.t 45]),
 oN (.st 4 3 46)]
def Zj.r9:List Oper:=[
 oD 47 (.call (.c (.f 46 [])) [.c (.n 1)]),
 oD 6 (.mv 47)]
def Zj.r10:List Oper:=[
 oD 48 (.fa 0 3),
 oD 49 (.ld false 1 48),
 oD 50 (.mv 6),
 oD 51 (.app 8 64 49 50),
 oD 52 (.fa 0 3),
 oN (.st 1 52 51)]
def Zj.r11:List Oper:=[
 oD 7 (.mv (.c (.n 0)))]
def Zj.r12:List Oper:=[
 oD 53 (.mv 7),
 oD 54 (.bin .lss 53 (.c (.n 4)))]
def Zj.r14:List Oper:=[
 oD 57 (.ld true 2 1),
 oD 58 (.mv 4),
 oD 59 (.mv 7),
 oD 60 (.call (.c (.f 199 [])) [.t 57,.t 58,.t 59]),
 oD 8 (.mv 60)]
def Zj.r15:List Oper:=[
 oD 9 (.mv (.c (.n 0)))]
def Zj.r16:List Oper:=[
 oD 61 (.mv 9),
 oD 62 (.mv 8),
 oD 63 (.len 62),
 oD 64 (.bin .lss 61 63)]
def Zj.r18:List Oper:=[
 oD 67 (.fa 2 3),
 oD 68 (.ld false 1 67),
 oD 69 (.mv 8),
 oD 70 (.mv 9),
 oD 71 (.ixa 1 69 70),
 oD 72 (.ld false 1 71),
 oD 73 (.bin .quo 72 (.c (.n 2))),
 oD 74 (.mv 8),
 oD 75 (.mv 9),
 oD 76 (.ixa 1 74 75),
 oD 77 (.ld false 1 76),
 oD 78 (.bin .rem 77 (.c (.n 2))),
 oD 79 (.mv 5),
 oD 80 (.ixa 2 68 73),
 oD 81 (.ixaa 1 2 80 78),
 oN (.st 1 81 79)]
def Zj.r17:List Oper:=[
 oD 65 (.mv 9),
 oD 66 (.bin .add 65 (.c (.n 1))),
 oD 9 (.mv 66)]
def Zj.l0:Code:=.seq (.seq (.region Zj.r16) (.cond 64 (.skip) (.exit 4))) (.seq (.block 5 (.draw Zj.r18 [(1,5),(1,10),(5,10)])) (.region Zj.r17))
def Zj.r13:List Oper:=[
 oD 55 (.mv 7),
 oD 56 (.bin .add 55 (.c (.n 1))),
 oD 7 (.mv 56)]
def Zj.l1:Code:=.seq (.seq (.region Zj.r12) (.cond 54 (.skip) (.exit 2))) (.seq (.block 3 (.seq (.region Zj.r14) (.seq (.region Zj.r15) (.block 4 (.loop Zj.l0))))) (.region Zj.r13))
def Zj.r4:List Oper:=[
 oD 27 (.mv 4),
 oD 28 (.bin .add 27 (.c (.n 1))),
 oD 4 (.mv 28)]
def Zj.l2:Code:=.seq (.seq (.region Zj.r3) (.cond 26 (.skip) (.exit 0))) (.seq (.block 1 (.seq (.region Zj.r5) (.seq (.region Zj.r6) (.seq (.seq (.region Zj.r7) (.cond 42 (.seq (.region Zj.r8) (.exit 1)) (.skip))) (.seq (.region Zj.r9) (.seq (.region Zj.r10) (.seq (.region Zj.r11) (.block 2 (.loop Zj.l1))))))))) (.region Zj.r4))
def Zj.r19:List Oper:=[
 oD 10 (.mv (.c (.n 0)))]
def Zj.r20:List Oper:=[
 oD 82 (.mv 10),
 oD 83 (.fa 1 1),
 oD 84 (.ld false 1 83),
 oD 85 (.len 84),
 oD 86 (.bin .lss 82 85)]
def Zj.r22:List Oper:=[
 oD 89 (.fa 2 3),
 oD 90 (.ld false 1 89),
 oD 91 (.mv 10),
 oD 92 (.ixa 2 90 91),
 oD 93 (.ixaa 1 2 92 (.c (.n 0))),
 oD 94 (.ld false 1 93),
 oD 11 (.mv 94)]
def Zj.r23:List Oper:=[
 oD 95 (.fa 1 1),
 oD 96 (.ld false 1 95),
 oD 97 (.mv 10),
 oD 98 (.ixa 4 96 97),
 oD 99 (.fa 2 98),
 oD 100 (.ld false 1 99),
 oD 12 (.mv 100)]
def Zj.r24:List Oper:=[
 oD 101 (.mv 11),
 oD 102 (.bsl 1 1 [.n 0] [(0,1,.t 101)]),
 oD 13 (.mv 102)]
def Zj.r25:List Oper:=[
 oD 14 (.mv (.c (.n 0)))]
def Zj.r26:List Oper:=[
 oD 103 (.mv 14),
 oD 104 (.fa 1 1),
 oD 105 (.ld false 1 104),
 oD 106 (.mv 10),
 oD 107 (.ixa 4 105 106),
 oD 108 (.fa 3 107),
 oD 109 (.ld false 1 108),
 oD 110 (.slen 109),
 oD 111 (.bin .lss 103 110)]
def Zj.r28:List Oper:=[
 oD 114 (.fa 0 3),
 oD 115 (.ld false 1 114),
 oD 116 (.len 115),
 oD 15 (.mv 116)]
def Zj.r29:List Oper:=[
 oD 117 (.call (.c (.f 46 [])) [.c (.n 1)]),
 oD 16 (.mv 117)]
def Zj.r30:List Oper:=[
 oD 118 (.fa 0 3),
 oD 119 (.ld false 1 118),
 oD 120 (.mv 16),
 oD 121 (.app 8 64 119 120),
 oD 122 (.fa 0 3),
 oN (.st 1 122 121)]
def Zj.r31:List Oper:=[
 oD 124 (.fa 0 3),
 oD 125 (.ld false 1 124),
 oD 126 (.mv 11),
 oD 127 (.mv 12),
 oD 128 (.mv 15),
 oD 129 (.mv 10),
 oD 130 (.call (.c (.f 53 [])) [.t 125,.t 126,.t 127,.t 128,.t 129]),
 oD 123 (.mv 130),
 oD 131 (.ext 123 0),
 oD 132 (.ext 123 1),
 oD 133 (.fa 0 3),
 oN (.st 1 133 131)]
def Zj.r32:List Oper:=[
 oD 134 (.mv 15),
 oD 11 (.mv 134)]
def Zj.r33:List Oper:=[
 oD 135 (.mv 13),
 oD 136 (.mv 15),
 oD 137 (.bsl 1 1 [.n 0] [(0,1,.t 136)]),
 oD 138 (.app 1 8 135 137),
 oD 13 (.mv 138)]
def Zj.r34:List Oper:=[
 oD 139 (.fa 1 1),
 oD 140 (.ld false 1 139),
 oD 141 (.mv 10),
 oD 142 (.ixa 4 140 141),
 oD 143 (.fa 3 142),
 oD 144 (.ld false 1 143),
 oD 145 (.mv 14),
 oD 146 (.ixs 144 145),
 oD 147 (.eq false .sc 146 (.c (.i .u8 76)))]
def Zj.r35:List Oper:=[
 oD 148 (.mv 12),
 oD 149 (.bin .add 148 (.c (.n 1))),
 oD 150 (.bin .rem 149 (.c (.n 4))),
 oD 12 (.mv 150)]
def Zj.r36:List Oper:=[
 oD 151 (.mv 12),
 oD 152 (.bin .add 151 (.c (.n 3))),
 oD 153 (.bin .rem 152 (.c (.n 4))),
 oD 12 (.mv 153)]
def Zj.r27:List Oper:=[
 oD 112 (.mv 14),
 oD 113 (.bin .add 112 (.c (.n 1))),
 oD 14 (.mv 113)]
def Zj.l3:Code:=.seq (.seq (.region Zj.r26) (.cond 111 (.skip) (.exit 8))) (.seq (.block 9 (.seq (.region Zj.r28) (.seq (.region Zj.r29) (.seq (.region Zj.r30) (.seq (.region Zj.r31) (.seq (.region Zj.r32) (.seq (.region Zj.r33) (.seq (.region Zj.r34) (.cond 147 (.region Zj.r35) (.region Zj.r36)))))))))) (.region Zj.r27))
def Zj.r37:List Oper:=[
 oD 155 (.fa 0 3),
 oD 156 (.ld false 1 155),
 oD 157 (.mv 11),
 oD 158 (.mv 12),
 oD 159 (.fa 2 3),
 oD 160 (.ld false 1 159),
 oD 161 (.mv 10),
 oD 162 (.ixa 2 160 161),
 oD 163 (.ixaa 1 2 162 (.c (.n 1))),
 oD 164 (.ld false 1 163),
 oD 165 (.mv 10),
 oD 166 (.call (.c (.f 53 [])) [.t 156,.t 157,.t 158,.t 164,.t 165]),
 oD 154 (.mv 166),
 oD 167 (.ext 154 0),
 oD 168 (.ext 154 1),
 oD 169 (.fa 0 3),
 oN (.st 1 169 167)]
def Zj.r38:List Oper:=[
 oD 170 (.mv 13),
 oD 171 (.fa 2 3),
 oD 172 (.ld false 1 171),
 oD 173 (.mv 10),
 oD 174 (.ixa 2 172 173),
 oD 175 (.ixaa 1 2 174 (.c (.n 1))),
 oD 176 (.ld false 1 175),
 oD 177 (.bsl 1 1 [.n 0] [(0,1,.t 176)]),
 oD 178 (.app 1 8 170 177),
 oD 13 (.mv 178)]
def Zj.r39:List Oper:=[
 oD 179 (.fa 3 3),
 oD 180 (.ld false 1 179),
 oD 181 (.mv 13),
 oD 182 (.bsl 1 1 [.sn] [(0,1,.t 181)]),
 oD 183 (.app 1 24 180 182),
 oD 184 (.fa 3 3),
 oN (.st 1 184 183)]
def Zj.r21:List Oper:=[
 oD 87 (.mv 10),
 oD 88 (.bin .add 87 (.c (.n 1))),
 oD 10 (.mv 88)]
def Zj.l4:Code:=.seq (.seq (.region Zj.r20) (.cond 86 (.skip) (.exit 6))) (.seq (.block 7 (.seq (.region Zj.r22) (.seq (.region Zj.r23) (.seq (.region Zj.r24) (.seq (.seq (.region Zj.r25) (.block 8 (.loop Zj.l3))) (.seq (.draw Zj.r37 [(1,5),(1,9)]) (.seq (.region Zj.r38) (.region Zj.r39)))))))) (.region Zj.r21))
def Zj.r40:List Oper:=[
 oD 185 (.ld true 4 3),
 oN (.st 4 2 185)]
def Zj.code:Code:=.seq (.region Zj.r0) (.seq (.region Zj.r1) (.seq (.seq (.region Zj.r2) (.block 0 (.loop Zj.l2))) (.seq (.seq (.region Zj.r19) (.block 6 (.loop Zj.l4))) (.seq (.region Zj.r40) (.ret)))))
def Zj:Func:=⟨186,[.cell 2 true 4],Zj.code⟩
/-! muntin/valid.Check -/
def zL.r0:List Oper:=[
 oD 2 (.mv (.c (.n 0)))]
def zL.r1:List Oper:=[
 oD 6 (.mv 0),
 oD 7 (.call (.c (.f 66 [])) [.t 6]),
 oD 3 (.mv 7)]
def zL.r2:List Oper:=[
 oD 8 (.mv 3),
 oD 9 (.eq true .sc 8 (.c (.n 0)))]
def zL.r3:List Oper:=[
 oD 10 (.mv 3),
 oD 2 (.mv 10)]
def zL.r4:List Oper:=[
 oD 11 (.mv 0),
 oD 12 (.call (.c (.f 32 [])) [.t 11]),
 oD 13 (.un .not 12)]
def zL.r5:List Oper:=[
 oD 2 (.mv (.c (.n 13)))]
def zL.r6:List Oper:=[
 oD 15 (.mv 0),
 oD 16 (.call (.c (.f 201 [])) [.t 15]),
 oD 14 (.mv 16),
 oD 17 (.ext 14 0),
 oD 18 (.ext 14 1),
 oD 4 (.mv 17),
 oD 5 (.mv 18)]
def zL.r7:List Oper:=[
 oD 19 (.mv 5),
 oD 20 (.un .not 19),
 oD 21 (.mv 20),
 ⟨(some 22),.mv 0,(some (21,true))⟩,
 ⟨(some 23),.len 22,(some (21,true))⟩,
 ⟨(some 24),.bin .gtr 23 (.c (.n 1)),(some (21,true))⟩,
 oD 25 (.pick 21 24 (.c (.b false)))]
def zL.r8:List Oper:=[
 oD 2 (.mv (.c (.n 10)))]
def zL.r9:List Oper:=[
 oD 2 (.mv (.c (.n 0)))]
def zL.code:Code:=.seq (.region zL.r0) (.seq (.seq (.region zL.r1) (.seq (.region zL.r2) (.cond 9 (.seq (.region zL.r3) (.ret)) (.skip)))) (.seq (.seq (.region zL.r4) (.cond 13 (.seq (.region zL.r5) (.ret)) (.skip))) (.seq (.seq (.region zL.r6) (.seq (.region zL.r7) (.cond 25 (.seq (.region zL.r8) (.ret)) (.skip)))) (.seq (.region zL.r9) (.ret)))))
def zL:Func:=⟨26,[.t 2],zL.code⟩
/-! muntin/muntinref12.Faces -/
def Z0.r0:List Oper:=[
 oD 2 (.mv (.c (.sn)))]
def Z0.r1:List Oper:=[
 oD 9 (.mv 0),
 oD 10 (.len 9),
 oD 11 (.bin .mul (.c (.n 4)) 10),
 oD 12 (.mks 1 1 [.b false] 11 11),
 oD 3 (.mv 12)]
def Z0.r2:List Oper:=[
 oD 4 (.mv (.c (.sn)))]
def Z0.r3:List Oper:=[
 oD 5 (.mv (.c (.n 0)))]
def Z0.r4:List Oper:=[
 oD 13 (.mv 5),
 oD 14 (.mv 0),
 oD 15 (.len 14),
 oD 16 (.bin .lss 13 15)]
def Z0.r6:List Oper:=[
 oD 6 (.mv (.c (.n 0)))]
def Z0.r7:List Oper:=[
 oD 19 (.mv 6),
 oD 20 (.bin .lss 19 (.c (.n 4)))]
def Z0.r9:List Oper:=[
 oD 23 (.mv 0),
 oD 24 (.mv 5),
 oD 25 (.mv 6),
 oD 26 (.ixa 8 23 24),
 oD 27 (.fa 0 26),
 oD 28 (.ixaa 1 4 27 25),
 oD 29 (.ld false 1 28),
 oD 30 (.bin .lss 29 (.c (.n 0))),
 oD 31 (.mv 30),
 ⟨(some 32),.mv 3,(some (31,false))⟩,
 ⟨(some 33),.mv 5,(some (31,false))⟩,
 ⟨(some 34),.bin .mul (.c (.n 4)) 33,(some (31,false))⟩,
 ⟨(some 35),.mv 6,(some (31,false))⟩,
 ⟨(some 36),.bin .add 34 35,(some (31,false))⟩,
 ⟨(some 37),.ixa 1 32 36,(some (31,false))⟩,
 ⟨(some 38),.ld false 1 37,(some (31,false))⟩,
 oD 39 (.pick 31 (.c (.b true)) 38)]
def Z0.r10:List Oper:=[
 oD 7 (.mv (.c (.sn)))]
def Z0.r11:List Oper:=[
 oD 40 (.mv 5),
 oD 41 (.mv 6),
 oD 42 (.build [.n 0,.n 0] [(0,1,.t 40),(1,1,.t 41)]),
 oD 8 (.alloc [.n 0,.n 0]),
 oN (.st 2 8 42)]
def Z0.r12:List Oper:=[
 oD 43 (.mv 3),
 oD 44 (.fa 0 8),
 oD 45 (.ld false 1 44),
 oD 46 (.bin .mul (.c (.n 4)) 45),
 oD 47 (.fa 1 8),
 oD 48 (.ld false 1 47),
 oD 49 (.bin .add 46 48),
 oD 50 (.ixa 1 43 49),
 oD 51 (.ld false 1 50),
 oD 52 (.un .not 51)]
def Z0.r13:List Oper:=[
 oD 53 (.mv 3),
 oD 54 (.fa 0 8),
 oD 55 (.ld false 1 54),
 oD 56 (.bin .mul (.c (.n 4)) 55),
 oD 57 (.fa 1 8),
 oD 58 (.ld false 1 57),
 oD 59 (.bin .add 56 58),
 oD 60 (.ixa 1 53 59),
 oN (.st 1 60 (.c (.b true)))]
def Z0.r14:List Oper:=[
 oD 61 (.mv 7),
 oD 62 (.ld true 2 8),
 oD 63 (.bsl 2 1 [.n 0,.n 0] [(0,2,.t 62)]),
 oD 64 (.app 2 16 61 63),
 oD 7 (.mv 64)]
def Z0.r15:List Oper:=[
 oD 65 (.mv 0),
 oD 66 (.ld true 2 8),
 oD 67 (.call (.c (.f 202 [])) [.t 65,.t 66]),
 oN (.st 2 8 67)]
def Z0.l0:Code:=.seq (.seq (.region Z0.r12) (.cond 52 (.skip) (.exit 4))) (.block 5 (.seq (.region Z0.r13) (.seq (.region Z0.r14) (.region Z0.r15))))
def Z0.r16:List Oper:=[
 oD 68 (.mv 4),
 oD 69 (.mv 7),
 oD 70 (.bsl 1 1 [.sn] [(0,1,.t 69)]),
 oD 71 (.app 1 24 68 70),
 oD 4 (.mv 71)]
def Z0.r8:List Oper:=[
 oD 21 (.mv 6),
 oD 22 (.bin .add 21 (.c (.n 1))),
 oD 6 (.mv 22)]
def Z0.l1:Code:=.seq (.seq (.region Z0.r7) (.cond 20 (.skip) (.exit 2))) (.seq (.block 3 (.seq (.seq (.region Z0.r9) (.cond 39 (.exit 3) (.skip))) (.seq (.region Z0.r10) (.seq (.region Z0.r11) (.seq (.block 4 (.loop Z0.l0)) (.region Z0.r16)))))) (.region Z0.r8))
def Z0.r5:List Oper:=[
 oD 17 (.mv 5),
 oD 18 (.bin .add 17 (.c (.n 1))),
 oD 5 (.mv 18)]
def Z0.l2:Code:=.seq (.seq (.region Z0.r4) (.cond 16 (.skip) (.exit 0))) (.seq (.block 1 (.seq (.region Z0.r6) (.block 2 (.loop Z0.l1)))) (.region Z0.r5))
def Z0.r17:List Oper:=[
 oD 72 (.mv 4),
 oD 2 (.mv 72)]
def Z0.code:Code:=.seq (.region Z0.r0) (.seq (.region Z0.r1) (.seq (.region Z0.r2) (.seq (.seq (.region Z0.r3) (.block 0 (.loop Z0.l2))) (.seq (.region Z0.r17) (.ret)))))
def Z0:Func:=⟨73,[.t 2],Z0.code⟩
/-! muntin/muntinref14.Outer -/
def Zu.r0:List Oper:=[
 oD 2 (.mv (.c (.n 0))),
 oD 3 (.mv (.c (.n 0)))]
def Zu.r1:List Oper:=[
 oD 11 (.mv 0),
 oD 12 (.call (.c (.f 34 [])) [.t 11]),
 oD 4 (.mv 12)]
def Zu.r2:List Oper:=[
 oD 13 (.mv 4),
 oD 14 (.eq true .sc 13 (.c (.n 0)))]
def Zu.r3:List Oper:=[
 oD 15 (.mv 4),
 oD 2 (.mv (.c (.n (-1)))),
 oD 3 (.mv 15)]
def Zu.r4:List Oper:=[
 oD 16 (.mv 0),
 oD 17 (.call (.c (.f 30 [])) [.t 16]),
 oD 5 (.mv 17)]
def Zu.r5:List Oper:=[
 oD 18 (.mv 5),
 oD 19 (.len 18),
 oD 20 (.eq true .sc 19 (.c (.n 1)))]
def Zu.r6:List Oper:=[
 oD 2 (.mv (.c (.n (-1)))),
 oD 3 (.mv (.c (.n 13)))]
def Zu.r7:List Oper:=[
 oD 21 (.mv 0),
 oD 22 (.len 21),
 oD 23 (.eq false .sc 22 (.c (.n 1)))]
def Zu.r8:List Oper:=[
 oD 2 (.mv (.c (.n (-1)))),
 oD 3 (.mv (.c (.n 0)))]
def Zu.r9:List Oper:=[
 oD 24 (.mv 0),
 oD 25 (.call (.c (.f 177 [])) [.t 24]),
 oD 6 (.mv 25)]
def Zu.r10:List Oper:=[
 oD 7 (.mv (.c (.n (-1))))]
def Zu.r11:List Oper:=[
 oD 8 (.mv (.c (.n 0)))]
def Zu.r12:List Oper:=[
 oD 26 (.mv 8),
 oD 27 (.mv 6),
 oD 28 (.len 27),
 oD 29 (.bin .lss 26 28)]
def Zu.r14:List Oper:=[
 oD 32 (.mv 0),
 oD 33 (.mv 6),
 oD 34 (.mv 8),
 oD 35 (.ixa 1 33 34),
 oD 36 (.ld false 1 35),
 oD 37 (.call (.c (.f 182 [])) [.t 32,.t 36]),
 oD 9 (.mv 37)]
def Zu.r15:List Oper:=[
 oD 38 (.mv 9),
 oD 39 (.call (.c (.f 206 [])) [.t 38]),
 oD 10 (.mv 39)]
def Zu.r16:List Oper:=[
 oD 40 (.mv 10),
 oD 41 (.eq true .sc 40 (.c (.n 4))),
 oD 42 (.mv 41),
 ⟨(some 43),.mv 10,(some (42,true))⟩,
 ⟨(some 44),.eq true .sc 43 (.c (.n (-4))),(some (42,true))⟩,
 oD 45 (.pick 42 44 (.c (.b false))),
 oD 46 (.mv 45),
 ⟨(some 47),.mv 10,(some (46,false))⟩,
 ⟨(some 48),.eq false .sc 47 (.c (.n (-4))),(some (46,false))⟩,
 ⟨(some 49),.mv 48,(some (46,false))⟩,
 ⟨(some 50),.mv 7,(some (49,true))⟩,
 ⟨(some 51),.bin .geq 50 (.c (.n 0)),(some (49,true))⟩,
 ⟨(some 52),.pick 49 51 (.c (.b false)),(some (46,false))⟩,
 oD 53 (.pick 46 (.c (.b true)) 52)]
def Zu.r17:List Oper:=[
 oD 2 (.mv (.c (.n (-1)))),
 oD 3 (.mv (.c (.n 10)))]
def Zu.r18:List Oper:=[
 oD 54 (.mv 10),
 oD 55 (.eq false .sc 54 (.c (.n (-4))))]
def Zu.r19:List Oper:=[
 oD 56 (.mv 8),
 oD 7 (.mv 56)]
def Zu.r13:List Oper:=[
 oD 30 (.mv 8),
 oD 31 (.bin .add 30 (.c (.n 1))),
 oD 8 (.mv 31)]
def Zu.l0:Code:=.seq (.seq (.region Zu.r12) (.cond 29 (.skip) (.exit 0))) (.seq (.block 1 (.seq (.region Zu.r14) (.seq (.region Zu.r15) (.seq (.seq (.region Zu.r16) (.cond 53 (.seq (.region Zu.r17) (.ret)) (.skip))) (.seq (.region Zu.r18) (.cond 55 (.region Zu.r19) (.skip))))))) (.region Zu.r13))
def Zu.r20:List Oper:=[
 oD 57 (.mv 7),
 oD 58 (.bin .lss 57 (.c (.n 0)))]
def Zu.r21:List Oper:=[
 oD 2 (.mv (.c (.n (-1)))),
 oD 3 (.mv (.c (.n 10)))]
def Zu.r22:List Oper:=[
 oD 59 (.mv 7),
 oD 2 (.mv 59),
 oD 3 (.mv (.c (.n 0)))]
def Zu.code:Code:=.seq (.region Zu.r0) (.seq (.region Zu.r1) (.seq (.seq (.region Zu.r2) (.cond 14 (.seq (.region Zu.r3) (.ret)) (.skip))) (.seq (.region Zu.r4) (.seq (.seq (.region Zu.r5) (.cond 20 (.seq (.region Zu.r6) (.ret)) (.skip))) (.seq (.seq (.region Zu.r7) (.cond 23 (.seq (.region Zu.r8) (.ret)) (.skip))) (.seq (.region Zu.r9) (.seq (.region Zu.r10) (.seq (.seq (.region Zu.r11) (.block 0 (.loop Zu.l0))) (.seq (.seq (.region Zu.r20) (.cond 58 (.seq (.region Zu.r21) (.ret)) (.skip))) (.seq (.region Zu.r22) (.ret)))))))))))
def Zu:Func:=⟨60,[.t 2,.t 3],Zu.code⟩
/-! muntin/muntinref12.Turns -/
def zc.r0:List Oper:=[
 oD 4 (.mv (.c (.sn)))]
def zc.r1:List Oper:=[
 oD 5 (.mv (.c (.sn)))]
def zc.r2:List Oper:=[
 oD 6 (.mv (.c (.n 0)))]
def zc.r3:List Oper:=[
 oD 9 (.mv 6),
 oD 10 (.mv 1),
 oD 11 (.len 10),
 oD 12 (.bin .lss 9 11)]
def zc.r5:List Oper:=[
 oD 15 (.mv 0),
 oD 16 (.mv 1),
 oD 17 (.mv 6),
 oD 18 (.ixa 2 16 17),
 oD 19 (.ld true 2 18),
 oD 20 (.call (.c (.f 202 [])) [.t 15,.t 19]),
 oD 7 (.alloc [.n 0,.n 0]),
 oN (.st 2 7 20)]
def zc.r6:List Oper:=[
 oD 21 (.mv 1),
 oD 22 (.mv 6),
 oD 23 (.ixa 2 21 22),
 oD 24 (.fa 1 23),
 oD 25 (.ld false 1 24),
 oD 26 (.fa 1 7),
 oD 27 (.ld false 1 26),
 oD 28 (.call (.c (.f 207 [])) [.t 25,.t 27]),
 oD 8 (.mv 28)]
def zc.r7:List Oper:=[
 oD 29 (.mv 5),
 oD 30 (.mv 8),
 oD 31 (.bsl 1 1 [.n 0] [(0,1,.t 30)]),
 oD 32 (.app 1 8 29 31),
 oD 5 (.mv 32)]
def zc.r4:List Oper:=[
 oD 13 (.mv 6),
 oD 14 (.bin .add 13 (.c (.n 1))),
 oD 6 (.mv 14)]
def zc.l0:Code:=.seq (.seq (.region zc.r3) (.cond 12 (.skip) (.exit 0))) (.seq (.block 1 (.seq (.region zc.r5) (.seq (.draw zc.r6 [(4,6)]) (.region zc.r7)))) (.region zc.r4))
def zc.r8:List Oper:=[
 oD 33 (.mv 5),
 oD 4 (.mv 33)]
def zc.code:Code:=.seq (.region zc.r0) (.seq (.region zc.r1) (.seq (.seq (.region zc.r2) (.block 0 (.loop zc.l0))) (.seq (.region zc.r8) (.ret))))
def zc:Func:=⟨34,[.t 4],zc.code⟩
/-! muntin/valid.Outer -/
def Zag.r0:List Oper:=[
 oD 2 (.mv (.c (.n 0))),
 oD 3 (.mv (.c (.n 0)))]
def Zag.r1:List Oper:=[
 oD 7 (.mv 0),
 oD 8 (.call (.c (.f 176 [])) [.t 7]),
 oD 4 (.mv 8)]
def Zag.r2:List Oper:=[
 oD 9 (.mv 4),
 oD 10 (.eq true .sc 9 (.c (.n 0)))]
def Zag.r3:List Oper:=[
 oD 11 (.mv 4),
 oD 2 (.mv (.c (.n 0))),
 oD 3 (.mv 11)]
def Zag.r4:List Oper:=[
 oD 13 (.mv 0),
 oD 14 (.call (.c (.f 201 [])) [.t 13]),
 oD 12 (.mv 14),
 oD 15 (.ext 12 0),
 oD 16 (.ext 12 1),
 oD 5 (.mv 15),
 oD 6 (.mv 16)]
def Zag.r5:List Oper:=[
 oD 17 (.mv 6),
 oD 18 (.un .not 17)]
def Zag.r6:List Oper:=[
 oD 2 (.mv (.c (.n 0))),
 oD 3 (.mv (.c (.n 2)))]
def Zag.r7:List Oper:=[
 oD 19 (.mv 5),
 oD 2 (.mv 19),
 oD 3 (.mv (.c (.n 0)))]
def Zag.code:Code:=.seq (.region Zag.r0) (.seq (.seq (.region Zag.r1) (.seq (.region Zag.r2) (.cond 10 (.seq (.region Zag.r3) (.ret)) (.skip)))) (.seq (.region Zag.r4) (.seq (.seq (.region Zag.r5) (.cond 18 (.seq (.region Zag.r6) (.ret)) (.skip))) (.seq (.region Zag.r7) (.ret)))))
def Zag:Func:=⟨20,[.t 2,.t 3],Zag.code⟩
/-! muntin/muntinlaw14.square -/
def zt.r0:List Oper:=[
 oD 0 (.mv (.c (.sn)))]
def zt.r1:List Oper:=[
 oD 2 (.call (.c (.f 46 [])) [.c (.n 4)]),
 oD 1 (.mv 2)]
def zt.r2:List Oper:=[
 oD 4 (.mv 1),
 oD 5 (.call (.c (.f 53 [])) [.t 4,.c (.n 0),.c (.n 0),.c (.n 1),.c (.n 0)]),
 oD 3 (.mv 5),
 oD 6 (.ext 3 0),
 oD 7 (.ext 3 1),
 oD 1 (.mv 6)]
def zt.r3:List Oper:=[
 oD 9 (.mv 1),
 oD 10 (.call (.c (.f 53 [])) [.t 9,.c (.n 1),.c (.n 1),.c (.n 2),.c (.n 0)]),
 oD 8 (.mv 10),
 oD 11 (.ext 8 0),
 oD 12 (.ext 8 1),
 oD 1 (.mv 11)]
def zt.r4:List Oper:=[
 oD 14 (.mv 1),
 oD 15 (.call (.c (.f 53 [])) [.t 14,.c (.n 2),.c (.n 2),.c (.n 3),.c (.n 0)]),
 oD 13 (.mv 15),
 oD 16 (.ext 13 0),
 oD 17 (.ext 13 1),
 oD 1 (.mv 16)]
def zt.r5:List Oper:=[
 oD 19 (.mv 1),
 oD 20 (.call (.c (.f 53 [])) [.t 19,.c (.n 3),.c (.n 3),.c (.n 0),.c (.n 0)]),
 oD 18 (.mv 20),
 oD 21 (.ext 18 0),
 oD 22 (.ext 18 1),
 oD 1 (.mv 21)]
def zt.r6:List Oper:=[
 oD 23 (.mv 1),
 oD 0 (.mv 23)]
def zt.code:Code:=.seq (.region zt.r0) (.seq (.region zt.r1) (.seq (.region zt.r2) (.seq (.region zt.r3) (.seq (.region zt.r4) (.seq (.region zt.r5) (.seq (.region zt.r6) (.ret)))))))
def zt:Func:=⟨24,[.t 0],zt.code⟩
/-! muntin/muntinref08.Check -/
def Z6.r0:List Oper:=[
 oD 1 (.box 0),
 oD 2 (.mv (.c (.n 0)))]
def Z6.r1:List Oper:=[
 oD 3 (.mv (.c (.n 0)))]
def Z6.r2:List Oper:=[
 oD 4 (.mv (.c (.n 0)))]
def Z6.r3:List Oper:=[
 oD 8 (.mv 4),
 oD 9 (.fa 1 1),
 oD 10 (.ld false 1 9),
 oD 11 (.len 10),
 oD 12 (.bin .lss 8 11)]
def Z6.r5:List Oper:=[
 oD 15 (.mv 3),
 oD 16 (.fa 1 1),
 oD 17 (.ld false 1 16),
 oD 18 (.mv 4),
 oD 19 (.ixa 4 17 18),
 oD 20 (.fa 3 19),
 oD 21 (.ld false 1 20),
 oD 22 (.slen 21),
 oD 23 (.bin .add 15 22),
 oD 3 (.mv 23)]
def Z6.r4:List Oper:=[
 oD 13 (.mv 4),
 oD 14 (.bin .add 13 (.c (.n 1))),
 oD 4 (.mv 14)]
def Z6.l0:Code:=.seq (.seq (.region Z6.r3) (.cond 12 (.skip) (.exit 0))) (.seq (.block 1 (.region Z6.r5)) (.region Z6.r4))
def Z6.r6:List Oper:=[
 oD 24 (.fa 0 1),
 oD 25 (.ld false 1 24),
 oD 26 (.len 25),
 oD 27 (.bin .gtr 26 (.c (.n 4096))),
 oD 28 (.mv 27),
 ⟨(some 29),.fa 1 1,(some (28,false))⟩,
 ⟨(some 30),.ld false 1 29,(some (28,false))⟩,
 ⟨(some 31),.len 30,(some (28,false))⟩,
 ⟨(some 32),.bin .gtr 31 (.c (.n 4096)),(some (28,false))⟩,
 oD 33 (.pick 28 (.c (.b true)) 32),
 oD 34 (.mv 33),
 ⟨(some 35),.mv 3,(some (34,false))⟩,
 ⟨(some 36),.bin .gtr 35 (.c (.n 4096)),(some (34,false))⟩,
 oD 37 (.pick 34 (.c (.b true)) 36)]
def Z6.r7:List Oper:=[
 oD 2 (.mv (.c (.n 6)))]
def Z6.r8:List Oper:=[
 oD 5 (.mv (.c (.n 0)))]
def Z6.r9:List Oper:=[
 oD 38 (.mv 5),
 oD 39 (.fa 1 1),
 oD 40 (.ld false 1 39),
 oD 41 (.len 40),
 oD 42 (.bin .lss 38 41)]
def Z6.r11:List Oper:=[
 oD 45 (.fa 1 1),
 oD 46 (.ld false 1 45),
 oD 47 (.mv 5),
 oD 48 (.ixa 4 46 47),
 oD 49 (.ld true 4 48),
 oD 6 (.alloc [.n 0,.n 0,.n 0,.s ⟨#[]⟩]),
 oN (.st 4 6 49)]
def Z6.r12:List Oper:=[
 oD 50 (.fa 0 6),
 oD 51 (.ld false 1 50),
 oD 52 (.bin .lss 51 (.c (.n 0))),
 oD 53 (.mv 52),
 ⟨(some 54),.fa 0 6,(some (53,false))⟩,
 ⟨(some 55),.ld false 1 54,(some (53,false))⟩,
 ⟨(some 56),.fa 0 1,(some (53,false))⟩,
 ⟨(some 57),.ld false 1 56,(some (53,false))⟩,
 ⟨(some 58),.len 57,(some (53,false))⟩,
 ⟨(some 59),.bin .geq 55 58,(some (53,false))⟩,
 oD 60 (.pick 53 (.c (.b true)) 59),
 oD 61 (.mv 60),
 ⟨(some 62),.fa 1 6,(some (61,false))⟩,
 ⟨(some 63),.ld false 1 62,(some (61,false))⟩,
 ⟨(some 64),.bin .lss 63 (.c (.n 0)),(some (61,false))⟩,
 oD 65 (.pick 61 (.c (.b true)) 64),
 oD 66 (.mv 65),
 ⟨(some 67),.fa 1 6,(some (66,false))⟩,
 ⟨(some 68),.ld false 1 67,(some (66,false))⟩,
 ⟨(some 69),.fa 0 1,(some (66,false))⟩,
 ⟨(some 70),.ld false 1 69,(some (66,false))⟩,
 ⟨(some 71),.len 70,(some (66,false))⟩,
 ⟨(some 72),.bin .geq 68 71,(some (66,false))⟩,
 oD 73 (.pick 66 (.c (.b true)) 72)]
def Z6.r13:List Oper:=[
 oD 2 (.mv (.c (.n 3)))]
def Z6.r14:List Oper:=[
 oD 74 (.fa 3 6),
 oD 75 (.ld false 1 74),
 oD 76 (.call (.c (.f 217 [])) [.t 75]),
 oD 7 (.mv 76)]
def Z6.r15:List Oper:=[
 oD 77 (.fa 2 6),
 oD 78 (.ld false 1 77),
 oD 79 (.bin .lss 78 (.c (.n 0))),
 oD 80 (.mv 79),
 ⟨(some 81),.fa 2 6,(some (80,false))⟩,
 ⟨(some 82),.ld false 1 81,(some (80,false))⟩,
 ⟨(some 83),.bin .gtr 82 (.c (.n 3)),(some (80,false))⟩,
 oD 84 (.pick 80 (.c (.b true)) 83),
 oD 85 (.mv 84),
 ⟨(some 86),.mv 7,(some (85,false))⟩,
 ⟨(some 87),.un .not 86,(some (85,false))⟩,
 oD 88 (.pick 85 (.c (.b true)) 87)]
def Z6.r16:List Oper:=[
 oD 2 (.mv (.c (.n 2)))]
def Z6.r10:List Oper:=[
 oD 43 (.mv 5),
 oD 44 (.bin .add 43 (.c (.n 1))),
 oD 5 (.mv 44)]
def Z6.l1:Code:=.seq (.seq (.region Z6.r9) (.cond 42 (.skip) (.exit 2))) (.seq (.block 3 (.seq (.region Z6.r11) (.seq (.seq (.region Z6.r12) (.cond 73 (.seq (.region Z6.r13) (.ret)) (.skip))) (.seq (.region Z6.r14) (.seq (.region Z6.r15) (.cond 88 (.seq (.region Z6.r16) (.ret)) (.skip))))))) (.region Z6.r10))
def Z6.r17:List Oper:=[
 oD 2 (.mv (.c (.n 0)))]
def Z6.code:Code:=.seq (.region Z6.r0) (.seq (.region Z6.r1) (.seq (.seq (.region Z6.r2) (.block 0 (.loop Z6.l0))) (.seq (.seq (.region Z6.r6) (.cond 37 (.seq (.region Z6.r7) (.ret)) (.skip))) (.seq (.seq (.region Z6.r8) (.block 2 (.loop Z6.l1))) (.seq (.region Z6.r17) (.ret))))))
def Z6:Func:=⟨89,[.t 2],Z6.code⟩
/-! muntin/muntinref11.Count -/
def Zz.r0:List Oper:=[
 oD 1 (.box 0),
 oD 2 (.mv (.c (.n 0)))]
def Zz.r1:List Oper:=[
 oD 3 (.mv (.c (.n 0)))]
def Zz.r2:List Oper:=[
 oD 4 (.mv (.c (.n 0)))]
def Zz.r3:List Oper:=[
 oD 8 (.mv 4),
 oD 9 (.fa 0 1),
 oD 10 (.ld false 1 9),
 oD 11 (.len 10),
 oD 12 (.bin .lss 8 11)]
def Zz.r5:List Oper:=[
 oD 15 (.mv 3),
 oD 16 (.bin .add 15 (.c (.n 1))),
 oD 3 (.mv 16)]
def Zz.r6:List Oper:=[
 oD 5 (.mv (.c (.n 0)))]
def Zz.r7:List Oper:=[
 oD 17 (.mv 5),
 oD 18 (.bin .lss 17 (.c (.n 4))),
 oD 19 (.mv 18),
 ⟨(some 20),.fa 0 1,(some (19,true))⟩,
 ⟨(some 21),.ld false 1 20,(some (19,true))⟩,
 ⟨(some 22),.mv 4,(some (19,true))⟩,
 ⟨(some 23),.ixa 1 21 22,(some (19,true))⟩,
 ⟨(some 24),.ld false 1 23,(some (19,true))⟩,
 oD 25 (.pick 19 24 (.c (.b false)))]
def Zz.r9:List Oper:=[
 oD 28 (.ld true 2 1),
 oD 29 (.mv 4),
 oD 30 (.mv 5),
 oD 31 (.call (.c (.f 199 [])) [.t 28,.t 29,.t 30]),
 oD 6 (.mv 31)]
def Zz.r10:List Oper:=[
 oD 32 (.mv 3),
 oD 33 (.mv 6),
 oD 34 (.len 33),
 oD 35 (.bin .add 32 34),
 oD 3 (.mv 35)]
def Zz.r8:List Oper:=[
 oD 26 (.mv 5),
 oD 27 (.bin .add 26 (.c (.n 1))),
 oD 5 (.mv 27)]
def Zz.l0:Code:=.seq (.seq (.region Zz.r7) (.cond 25 (.skip) (.exit 2))) (.seq (.block 3 (.seq (.region Zz.r9) (.region Zz.r10))) (.region Zz.r8))
def Zz.r11:List Oper:=[
 oD 36 (.fa 0 1),
 oD 37 (.ld false 1 36),
 oD 38 (.mv 4),
 oD 39 (.ixa 1 37 38),
 oD 40 (.ld false 1 39)]
def Zz.r12:List Oper:=[
 oD 41 (.mv 3),
 oD 42 (.bin .add 41 (.c (.n 3))),
 oD 3 (.mv 42)]
def Zz.r4:List Oper:=[
 oD 13 (.mv 4),
 oD 14 (.bin .add 13 (.c (.n 1))),
 oD 4 (.mv 14)]
def Zz.l1:Code:=.seq (.seq (.region Zz.r3) (.cond 12 (.skip) (.exit 0))) (.seq (.block 1 (.seq (.region Zz.r5) (.seq (.seq (.region Zz.r6) (.block 2 (.loop Zz.l0))) (.seq (.region Zz.r11) (.cond 40 (.region Zz.r12) (.skip)))))) (.region Zz.r4))
def Zz.r13:List Oper:=[
 oD 7 (.mv (.c (.n 0)))]
def Zz.r14:List Oper:=[
 oD 43 (.mv 7),
 oD 44 (.fa 1 1),
 oD 45 (.ld false 1 44),
 oD 46 (.len 45),
 oD 47 (.bin .lss 43 46)]
def Zz.r16:List Oper:=[
 oD 50 (.mv 3),
 oD 51 (.fa 1 1),
 oD 52 (.ld false 1 51),
 oD 53 (.mv 7),
 oD 54 (.ixa 4 52 53),
 oD 55 (.fa 3 54),
 oD 56 (.ld false 1 55),
 oD 57 (.slen 56),
 oD 58 (.bin .add 50 57),
 oD 3 (.mv 58)]
def Zz.r15:List Oper:=[
 oD 48 (.mv 7),
 oD 49 (.bin .add 48 (.c (.n 1))),
 oD 7 (.mv 49)]
def Zz.l2:Code:=.seq (.seq (.region Zz.r14) (.cond 47 (.skip) (.exit 4))) (.seq (.block 5 (.region Zz.r16)) (.region Zz.r15))
def Zz.r17:List Oper:=[
 oD 59 (.mv 3),
 oD 2 (.mv 59)]
def Zz.code:Code:=.seq (.region Zz.r0) (.seq (.region Zz.r1) (.seq (.seq (.region Zz.r2) (.block 0 (.loop Zz.l1))) (.seq (.seq (.region Zz.r13) (.block 4 (.loop Zz.l2))) (.seq (.region Zz.r17) (.ret)))))
def Zz:Func:=⟨60,[.t 2],Zz.code⟩
/-! muntin/muntinref11.On -/
def za.r0:List Oper:=[
 oD 3 (.box 0),
 oD 6 (.mv (.c (.sn)))]
def za.r1:List Oper:=[
 oD 7 (.mv (.c (.sn)))]
def za.r2:List Oper:=[
 oD 8 (.mv (.c (.n 0)))]
def za.r3:List Oper:=[
 oD 11 (.mv 8),
 oD 12 (.fa 1 3),
 oD 13 (.ld false 1 12),
 oD 14 (.len 13),
 oD 15 (.bin .lss 11 14)]
def za.r5:List Oper:=[
 oD 18 (.fa 1 3),
 oD 19 (.ld false 1 18),
 oD 20 (.mv 8),
 oD 21 (.ixa 4 19 20),
 oD 22 (.ld true 4 21),
 oD 9 (.alloc [.n 0,.n 0,.n 0,.s ⟨#[]⟩]),
 oN (.st 4 9 22)]
def za.r6:List Oper:=[
 oD 23 (.fa 0 9),
 oD 24 (.ld false 1 23),
 oD 25 (.mv 1),
 oD 26 (.eq false .sc 24 25),
 oD 27 (.mv 26),
 ⟨(some 28),.fa 2 9,(some (27,true))⟩,
 ⟨(some 29),.ld false 1 28,(some (27,true))⟩,
 ⟨(some 30),.mv 2,(some (27,true))⟩,
 ⟨(some 31),.eq false .sc 29 30,(some (27,true))⟩,
 oD 32 (.pick 27 31 (.c (.b false)))]
def za.r7:List Oper:=[
 oD 33 (.mv 7),
 oD 34 (.mv 8),
 oD 35 (.bin .mul (.c (.n 2)) 34),
 oD 36 (.bsl 1 1 [.n 0] [(0,1,.t 35)]),
 oD 37 (.app 1 8 33 36),
 oD 7 (.mv 37)]
def za.r8:List Oper:=[
 oD 38 (.ld true 4 9),
 oD 39 (.call (.c (.f 218 [])) [.t 38]),
 oD 10 (.mv 39)]
def za.r9:List Oper:=[
 oD 40 (.fa 1 9),
 oD 41 (.ld false 1 40),
 oD 42 (.mv 1),
 oD 43 (.eq false .sc 41 42),
 oD 44 (.mv 43),
 ⟨(some 45),.mv 10,(some (44,true))⟩,
 ⟨(some 46),.mv 2,(some (44,true))⟩,
 ⟨(some 47),.eq false .sc 45 46,(some (44,true))⟩,
 oD 48 (.pick 44 47 (.c (.b false)))]
def za.r10:List Oper:=[
 oD 49 (.mv 7),
 oD 50 (.mv 8),
 oD 51 (.bin .mul (.c (.n 2)) 50),
 oD 52 (.bin .add 51 (.c (.n 1))),
 oD 53 (.bsl 1 1 [.n 0] [(0,1,.t 52)]),
 oD 54 (.app 1 8 49 53),
 oD 7 (.mv 54)]
def za.r4:List Oper:=[
 oD 16 (.mv 8),
 oD 17 (.bin .add 16 (.c (.n 1))),
 oD 8 (.mv 17)]
def za.l0:Code:=.seq (.seq (.region za.r3) (.cond 15 (.skip) (.exit 0))) (.seq (.block 1 (.seq (.region za.r5) (.seq (.seq (.region za.r6) (.cond 32 (.region za.r7) (.skip))) (.seq (.region za.r8) (.seq (.region za.r9) (.cond 48 (.region za.r10) (.skip))))))) (.region za.r4))
def za.r11:List Oper:=[
 oD 55 (.mv 7),
 oD 6 (.mv 55)]
def za.code:Code:=.seq (.region za.r0) (.seq (.region za.r1) (.seq (.seq (.region za.r2) (.block 0 (.loop za.l0))) (.seq (.region za.r11) (.ret))))
def za:Func:=⟨56,[.t 6],za.code⟩
/-! muntin/muntinref11.box -/
def Z1.r0:List Oper:=[
 oD 3 (.box 0),
 oD 4 (.box 1),
 oD 6 (.alloc [.sn,.sn,.sn,.sn])]
def Z1.r1:List Oper:=[
 oD 17 (.fa 0 3),
 oD 18 (.ld false 1 17),
 oD 19 (.len 18),
 oD 7 (.mv 19)]
def Z1.r2:List Oper:=[
 oD 20 (.call (.c (.f 46 [])) [.c (.n 4)]),
 oD 8 (.mv 20)]
def Z1.r3:List Oper:=[
 oD 21 (.fa 0 3),
 oD 22 (.ld false 1 21),
 oD 23 (.mv 8),
 oD 24 (.app 8 64 22 23),
 oD 25 (.fa 0 3),
 oN (.st 1 25 24)]
def Z1.r4:List Oper:=[
 oD 9 (.mv (.c (.n 0)))]
def Z1.r5:List Oper:=[
 oD 26 (.mv 9),
 oD 27 (.bin .lss 26 (.c (.n 4)))]
def Z1.r7:List Oper:=[
 oD 30 (.mv 7),
 oD 31 (.bin .add 30 (.c (.n 1))),
 oD 32 (.mv 7),
 oD 33 (.bin .add 32 (.c (.n 3))),
 oD 34 (.mv 7),
 oD 35 (.mv 7),
 oD 36 (.bsl 1 4 [.n 0] [(0,1,.t 31),(1,1,.t 33),(2,1,.t 34),(3,1,.t 35)]),
 oD 37 (.mv 9),
 oD 38 (.ixa 1 36 37),
 oD 39 (.ld false 1 38),
 oD 10 (.mv 39)]
def Z1.r8:List Oper:=[
 oD 40 (.mv 7),
 oD 41 (.bin .add 40 (.c (.n 2))),
 oD 42 (.mv 7),
 oD 43 (.bin .add 42 (.c (.n 2))),
 oD 44 (.mv 7),
 oD 45 (.bin .add 44 (.c (.n 3))),
 oD 46 (.mv 7),
 oD 47 (.bin .add 46 (.c (.n 1))),
 oD 48 (.bsl 1 4 [.n 0] [(0,1,.t 41),(1,1,.t 43),(2,1,.t 45),(3,1,.t 47)]),
 oD 49 (.mv 9),
 oD 50 (.ixa 1 48 49),
 oD 51 (.ld false 1 50),
 oD 11 (.mv 51)]
def Z1.r9:List Oper:=[
 oD 52 (.bsl 1 4 [.n 0] [(0,1,.c (.n 1)),(1,1,.c (.n 0)),(2,1,.c (.n 1)),(3,1,.c (.n 0))]),
 oD 53 (.mv 9),
 oD 54 (.ixa 1 52 53),
 oD 55 (.ld false 1 54),
 oD 12 (.mv 55)]
def Z1.r10:List Oper:=[
 oD 56 (.ld true 2 4),
 oD 57 (.mv 2),
 oD 58 (.mv 9),
 oD 59 (.call (.c (.f 199 [])) [.t 56,.t 57,.t 58]),
 oD 13 (.mv 59)]
def Z1.r11:List Oper:=[
 oD 14 (.mv (.c (.n 0)))]
def Z1.r12:List Oper:=[
 oD 60 (.mv 14),
 oD 61 (.mv 13),
 oD 62 (.len 61),
 oD 63 (.bin .lss 60 62)]
def Z1.r14:List Oper:=[
 oD 66 (.fa 0 3),
 oD 67 (.ld false 1 66),
 oD 68 (.len 67),
 oD 15 (.mv 68)]
def Z1.r15:List Oper:=[
 oD 69 (.call (.c (.f 46 [])) [.c (.n 1)]),
 oD 16 (.mv 69)]
def Z1.r16:List Oper:=[
 oD 70 (.fa 0 3),
 oD 71 (.ld false 1 70),
 oD 72 (.mv 16),
 oD 73 (.app 8 64 71 72),
 oD 74 (.fa 0 3),
 oN (.st 1 74 73)]
def Z1.r17:List Oper:=[
 oD 75 (.fa 2 3),
 oD 76 (.ld false 1 75),
 oD 77 (.mv 13),
 oD 78 (.mv 14),
 oD 79 (.ixa 1 77 78),
 oD 80 (.ld false 1 79),
 oD 81 (.bin .quo 80 (.c (.n 2))),
 oD 82 (.mv 13),
 oD 83 (.mv 14),
 oD 84 (.ixa 1 82 83),
 oD 85 (.ld false 1 84),
 oD 86 (.bin .rem 85 (.c (.n 2))),
 oD 87 (.mv 15),
 oD 88 (.ixa 2 76 81),
 oD 89 (.ixaa 1 2 88 86),
 oN (.st 1 89 87)]
def Z1.r18:List Oper:=[
 oD 91 (.fa 0 3),
 oD 92 (.ld false 1 91),
 oD 93 (.mv 10),
 oD 94 (.mv 12),
 oD 95 (.mv 15),
 oD 96 (.call (.c (.f 53 [])) [.t 92,.t 93,.t 94,.t 95,.c (.n (-1))]),
 oD 90 (.mv 96),
 oD 97 (.ext 90 0),
 oD 98 (.ext 90 1),
 oD 99 (.fa 0 3),
 oN (.st 1 99 97)]
def Z1.r19:List Oper:=[
 oD 100 (.mv 15),
 oD 10 (.mv 100)]
def Z1.r13:List Oper:=[
 oD 64 (.mv 14),
 oD 65 (.bin .add 64 (.c (.n 1))),
 oD 14 (.mv 65)]
def Z1.l0:Code:=.seq (.seq (.region Z1.r12) (.cond 63 (.skip) (.exit 2))) (.seq (.block 3 (.seq (.region Z1.r14) (.seq (.region Z1.r15) (.seq (.region Z1.r16) (.seq (.draw Z1.r17 [(1,5),(1,10),(5,10)]) (.seq (.region Z1.r18) (.region Z1.r19))))))) (.region Z1.r13))
def Z1.r20:List Oper:=[
 oD 102 (.fa 0 3),
 oD 103 (.ld false 1 102),
 oD 104 (.mv 10),
 oD 105 (.mv 12),
 oD 106 (.mv 11),
 oD 107 (.call (.c (.f 53 [])) [.t 103,.t 104,.t 105,.t 106,.c (.n (-1))]),
 oD 101 (.mv 107),
 oD 108 (.ext 101 0),
 oD 109 (.ext 101 1),
 oD 110 (.fa 0 3),
 oN (.st 1 110 108)]
def Z1.r6:List Oper:=[
 oD 28 (.mv 9),
 oD 29 (.bin .add 28 (.c (.n 1))),
 oD 9 (.mv 29)]
def Z1.l1:Code:=.seq (.seq (.region Z1.r5) (.cond 27 (.skip) (.exit 0))) (.seq (.block 1 (.seq (.region Z1.r7) (.seq (.region Z1.r8) (.seq (.region Z1.r9) (.seq (.region Z1.r10) (.seq (.seq (.region Z1.r11) (.block 2 (.loop Z1.l0))) (.region Z1.r20))))))) (.region Z1.r6))
def Z1.r21:List Oper:=[
 oD 111 (.ld true 4 3),
 oN (.st 4 6 111)]
def Z1.code:Code:=.seq (.region Z1.r0) (.seq (.region Z1.r1) (.seq (.region Z1.r2) (.seq (.region Z1.r3) (.seq (.seq (.region Z1.r4) (.block 0 (.loop Z1.l1))) (.seq (.region Z1.r21) (.ret))))))
def Z1:Func:=⟨112,[.cell 6 true 4],Z1.code⟩
/-! muntin/valid.outer -/
def zf.r0:List Oper:=[
 oD 2 (.mv (.c (.n 0))),
 oD 3 (.mv (.c (.b false)))]
def zf.r1:List Oper:=[
 oD 10 (.mv 0),
 oD 11 (.call (.c (.f 203 [])) [.t 10]),
 oD 9 (.mv 11),
 oD 12 (.ext 9 0),
 oD 13 (.ext 9 1),
 oD 4 (.mv 12),
 oD 5 (.mv 13)]
def zf.r2:List Oper:=[
 oD 6 (.mv (.c (.n (-1))))]
def zf.r3:List Oper:=[
 oD 14 (.mv 4),
 oD 15 (.len 14),
 oD 16 (.mv (.c (.n 0)))]
def zf.r4:List Oper:=[
 oD 17 (.bin .lss 16 15)]
def zf.r5:List Oper:=[
 oD 18 (.mv 16),
 oD 19 (.ixa 1 14 16),
 oD 20 (.ld false 1 19),
 oD 7 (.mv 18),
 oD 8 (.mv 20)]
def zf.r6:List Oper:=[
 oD 21 (.mv 0),
 oD 22 (.mv 8),
 oD 23 (.call (.c (.f 204 [])) [.t 21,.t 22]),
 oD 24 (.call (.c (.f 219 [])) [.t 23])]
def zf.r8:List Oper:=[
 oD 26 (.eq false .sc 24 (.c (.n 4))),
 oD 25 (.mv 26)]
def zf.r9:List Oper:=[
 oD 28 (.eq false .sc 24 (.c (.n (-4)))),
 oD 27 (.mv 28)]
def zf.r10:List Oper:=[
 oD 29 (.mv 6),
 oD 30 (.bin .geq 29 (.c (.n 0)))]
def zf.r11:List Oper:=[
 oD 2 (.mv (.c (.n 0))),
 oD 3 (.mv (.c (.b false)))]
def zf.r12:List Oper:=[
 oD 31 (.mv 7),
 oD 6 (.mv 31)]
def zf.r7:List Oper:=[
 oD 2 (.mv (.c (.n 0))),
 oD 3 (.mv (.c (.b false)))]
def zf.r13:List Oper:=[
 oD 32 (.bin .add 16 (.c (.n 1))),
 oD 16 (.mv 32)]
def zf.l0:Code:=.seq (.region zf.r4) (.seq (.cond 17 (.skip) (.exit 0)) (.seq (.block 1 (.seq (.region zf.r5) (.seq (.region zf.r6) (.block 2 (.seq (.region zf.r8) (.cond 25 (.skip) (.seq (.region zf.r9) (.cond 27 (.seq (.seq (.region zf.r10) (.cond 30 (.seq (.region zf.r11) (.ret)) (.skip))) (.region zf.r12)) (.seq (.region zf.r7) (.ret)))))))))) (.region zf.r13)))
def zf.r14:List Oper:=[
 oD 33 (.mv 6),
 oD 34 (.mv 6),
 oD 35 (.bin .geq 34 (.c (.n 0))),
 oD 2 (.mv 33),
 oD 3 (.mv 35)]
def zf.code:Code:=.seq (.region zf.r0) (.seq (.region zf.r1) (.seq (.region zf.r2) (.seq (.seq (.region zf.r3) (.block 0 (.loop zf.l0))) (.seq (.region zf.r14) (.ret)))))
def zf:Func:=⟨36,[.t 2,.t 3],zf.code⟩
/-! muntin/muntinref12.Behind -/
def ZN.r0:List Oper:=[
 oD 3 (.box 1),
 oD 4 (.alloc [.n 0,.n 0])]
def ZN.r1:List Oper:=[
 oD 9 (.mv 0),
 oD 10 (.fa 0 3),
 oD 11 (.ld false 1 10),
 oD 12 (.fa 1 3),
 oD 13 (.ld false 1 12),
 oD 14 (.ixa 8 9 11),
 oD 15 (.fa 0 14),
 oD 16 (.ixaa 1 4 15 13),
 oD 17 (.ld false 1 16),
 oD 5 (.mv 17)]
def ZN.r2:List Oper:=[
 oD 18 (.bsl 1 4 [.n 0] [(0,1,.c (.n 1)),(1,1,.c (.n 0)),(2,1,.c (.n 3)),(3,1,.c (.n 2))]),
 oD 6 (.mv 18)]
def ZN.r3:List Oper:=[
 oD 7 (.mv (.c (.n 0)))]
def ZN.r4:List Oper:=[
 oD 19 (.mv 7),
 oD 20 (.bin .lss 19 (.c (.n 4)))]
def ZN.r6:List Oper:=[
 oD 23 (.fa 1 3),
 oD 24 (.ld false 1 23),
 oD 25 (.mv 6),
 oD 26 (.mv 7),
 oD 27 (.ixa 1 25 26),
 oD 28 (.ld false 1 27),
 oD 29 (.bin .add 24 28),
 oD 30 (.bin .rem 29 (.c (.n 4))),
 oD 8 (.mv 30)]
def ZN.r7:List Oper:=[
 oD 31 (.mv 0),
 oD 32 (.mv 5),
 oD 33 (.mv 8),
 oD 34 (.ixa 8 31 32),
 oD 35 (.fa 0 34),
 oD 36 (.ixaa 1 4 35 33),
 oD 37 (.ld false 1 36),
 oD 38 (.bin .geq 37 (.c (.n 0)))]
def ZN.r8:List Oper:=[
 oD 39 (.mv 5),
 oD 40 (.mv 8),
 oD 41 (.build [.n 0,.n 0] [(0,1,.t 39),(1,1,.t 40)]),
 oN (.st 2 4 41)]
def ZN.r5:List Oper:=[
 oD 21 (.mv 7),
 oD 22 (.bin .add 21 (.c (.n 1))),
 oD 7 (.mv 22)]
def ZN.l0:Code:=.seq (.seq (.region ZN.r4) (.cond 20 (.skip) (.exit 0))) (.seq (.block 1 (.seq (.draw ZN.r6 [(1,5)]) (.seq (.region ZN.r7) (.cond 38 (.seq (.region ZN.r8) (.ret)) (.skip))))) (.region ZN.r5))
def ZN.r9:List Oper:=[
 oD 42 (.ld true 2 3),
 oN (.st 2 4 42)]
def ZN.code:Code:=.seq (.region ZN.r0) (.seq (.draw ZN.r1 [(2,4)]) (.seq (.region ZN.r2) (.seq (.seq (.region ZN.r3) (.block 0 (.loop ZN.l0))) (.seq (.region ZN.r9) (.ret)))))
def ZN:Func:=⟨43,[.cell 4 true 2],ZN.code⟩
/-! muntin/face.Faces -/
def ZC.r0:List Oper:=[
 oD 2 (.mv (.c (.sn))),
 oD 3 (.mv (.c (.n 0)))]
def ZC.r1:List Oper:=[
 oD 12 (.mv 0),
 oD 13 (.call (.c (.f 66 [])) [.t 12]),
 oD 4 (.mv 13)]
def ZC.r2:List Oper:=[
 oD 14 (.mv 4),
 oD 15 (.eq true .sc 14 (.c (.n 0)))]
def ZC.r3:List Oper:=[
 oD 16 (.mv 4),
 oD 2 (.mv (.c (.sn))),
 oD 3 (.mv 16)]
def ZC.r4:List Oper:=[
 oD 5 (.mv (.c (.sn)))]
def ZC.r5:List Oper:=[
 oD 17 (.mkm),
 oD 6 (.mv 17)]
def ZC.r6:List Oper:=[
 oD 18 (.mv 0),
 oD 19 (.len 18),
 oD 20 (.mv (.c (.n 0)))]
def ZC.r7:List Oper:=[
 oD 21 (.bin .lss 20 19)]
def ZC.r8:List Oper:=[
 oD 22 (.mv 20),
 oD 7 (.mv 22)]
def ZC.r9:List Oper:=[
 oD 23 (.mv (.c (.n 0)))]
def ZC.r10:List Oper:=[
 oD 24 (.bin .lss 23 (.c (.n 4)))]
def ZC.r11:List Oper:=[
 oD 25 (.mv 23),
 oD 8 (.mv 25)]
def ZC.r12:List Oper:=[
 oD 26 (.mv 7),
 oD 27 (.mv 8),
 oD 28 (.build [.n 0,.n 0] [(0,1,.t 26),(1,1,.t 27)]),
 oD 9 (.alloc [.n 0,.n 0]),
 oN (.st 2 9 28)]
def ZC.r13:List Oper:=[
 oD 29 (.ld true 2 9),
 oD 30 (.mv 0),
 oD 31 (.call (.c (.f 220 [])) [.t 29,.t 30]),
 oD 32 (.un .not 31),
 oD 33 (.mv 32),
 ⟨(some 34),.mv 6,(some (33,false))⟩,
 ⟨(some 35),.ld true 2 9,(some (33,false))⟩,
 ⟨(some 36),.mlk [.i,.i] false (.b false) 34 35,(some (33,false))⟩,
 oD 37 (.pick 33 (.c (.b true)) 36)]
def ZC.r14:List Oper:=[
 oD 10 (.mv (.c (.sn)))]
def ZC.r15:List Oper:=[
 oD 38 (.ld true 2 9),
 oD 11 (.alloc [.n 0,.n 0]),
 oN (.st 2 11 38)]
def ZC.r16:List Oper:=[
 oD 39 (.mv 6),
 oD 40 (.ld true 2 11),
 oD 41 (.mlk [.i,.i] false (.b false) 39 40),
 oD 42 (.un .not 41)]
def ZC.r18:List Oper:=[
 oD 46 (.mv 6),
 oD 47 (.ld true 2 11),
 oN (.mup [.i,.i] 46 47 (.c (.b true)))]
def ZC.r19:List Oper:=[
 oD 48 (.mv 10),
 oD 49 (.ld true 2 11),
 oD 50 (.bsl 2 1 [.n 0,.n 0] [(0,2,.t 49)]),
 oD 51 (.app 2 16 48 50),
 oD 10 (.mv 51)]
def ZC.r20:List Oper:=[
 oD 52 (.ld true 2 11)]
def ZC.r21:List Oper:=[
 oD 11 (.alloc [.n 0,.n 0]),
 oN (.st 2 11 52)]
def ZC.r17:List Oper:=[
 oD 43 (.ld true 2 11),
 oD 44 (.mv 0),
 oD 45 (.call (.c (.f 221 [])) [.t 43,.t 44]),
 oN (.st 2 11 45)]
def ZC.l0:Code:=.seq (.seq (.region ZC.r16) (.cond 42 (.skip) (.exit 4))) (.seq (.block 5 (.seq (.region ZC.r18) (.region ZC.r19))) (.seq (.seq (.region ZC.r20) (.region ZC.r21)) (.region ZC.r17)))
def ZC.r22:List Oper:=[
 oD 53 (.mv 5),
 oD 54 (.mv 10),
 oD 55 (.bsl 1 1 [.sn] [(0,1,.t 54)]),
 oD 56 (.app 1 24 53 55),
 oD 5 (.mv 56)]
def ZC.r23:List Oper:=[
 oD 57 (.bin .add 23 (.c (.n 1))),
 oD 23 (.mv 57)]
def ZC.l1:Code:=.seq (.region ZC.r10) (.seq (.cond 24 (.skip) (.exit 2)) (.seq (.block 3 (.seq (.region ZC.r11) (.seq (.region ZC.r12) (.seq (.seq (.region ZC.r13) (.cond 37 (.exit 3) (.skip))) (.seq (.region ZC.r14) (.seq (.seq (.region ZC.r15) (.block 4 (.loop ZC.l0))) (.region ZC.r22))))))) (.region ZC.r23)))
def ZC.r24:List Oper:=[
 oD 58 (.bin .add 20 (.c (.n 1))),
 oD 20 (.mv 58)]
def ZC.l2:Code:=.seq (.region ZC.r7) (.seq (.cond 21 (.skip) (.exit 0)) (.seq (.block 1 (.seq (.region ZC.r8) (.seq (.region ZC.r9) (.block 2 (.loop ZC.l1))))) (.region ZC.r24)))
def ZC.r25:List Oper:=[
 oD 59 (.mv 5),
 oD 2 (.mv 59),
 oD 3 (.mv (.c (.n 0)))]
def ZC.code:Code:=.seq (.region ZC.r0) (.seq (.seq (.region ZC.r1) (.seq (.region ZC.r2) (.cond 15 (.seq (.region ZC.r3) (.ret)) (.skip)))) (.seq (.region ZC.r4) (.seq (.region ZC.r5) (.seq (.seq (.region ZC.r6) (.block 0 (.loop ZC.l2))) (.seq (.region ZC.r25) (.ret))))))
def ZC:Func:=⟨60,[.t 2,.t 3],ZC.code⟩
/-! muntin/face.Turns -/
def zE.r0:List Oper:=[
 oD 4 (.mv (.c (.sn)))]
def zE.r1:List Oper:=[
 oD 8 (.mv 1),
 oD 9 (.len 8),
 oD 10 (.mks 1 8 [.n 0] 9 9),
 oD 5 (.mv 10)]
def zE.r2:List Oper:=[
 oD 11 (.mv 0),
 oD 12 (.call (.c (.f 66 [])) [.t 11]),
 oD 13 (.eq true .sc 12 (.c (.n 0)))]
def zE.r3:List Oper:=[
 oD 14 (.mv 5),
 oD 4 (.mv 14)]
def zE.r4:List Oper:=[
 oD 15 (.mv 1),
 oD 16 (.len 15),
 oD 17 (.mv (.c (.n 0)))]
def zE.r5:List Oper:=[
 oD 18 (.bin .lss 17 16)]
def zE.r6:List Oper:=[
 oD 19 (.mv 17),
 oD 20 (.ixa 2 15 17),
 oD 21 (.ld true 2 20),
 oD 7 (.alloc [.n 0,.n 0]),
 oD 6 (.mv 19),
 oN (.st 2 7 21)]
def zE.r7:List Oper:=[
 oD 22 (.ld true 2 7),
 oD 23 (.mv 0),
 oD 24 (.call (.c (.f 220 [])) [.t 22,.t 23])]
def zE.r8:List Oper:=[
 oD 25 (.mv 5),
 oD 26 (.mv 6),
 oD 27 (.fa 1 7),
 oD 28 (.ld false 1 27),
 oD 29 (.ld true 2 7),
 oD 30 (.mv 0),
 oD 31 (.call (.c (.f 221 [])) [.t 29,.t 30]),
 oD 32 (.fld false 1 1 31),
 oD 33 (.call (.c (.f 222 [])) [.t 28,.t 32]),
 oD 34 (.ixa 1 25 26),
 oN (.st 1 34 33)]
def zE.r9:List Oper:=[
 oD 35 (.bin .add 17 (.c (.n 1))),
 oD 17 (.mv 35)]
def zE.l0:Code:=.seq (.region zE.r5) (.seq (.cond 18 (.skip) (.exit 0)) (.seq (.block 1 (.seq (.region zE.r6) (.seq (.region zE.r7) (.cond 24 (.draw zE.r8 [(3,4),(3,6)]) (.skip))))) (.region zE.r9)))
def zE.r10:List Oper:=[
 oD 36 (.mv 5),
 oD 4 (.mv 36)]
def zE.code:Code:=.seq (.region zE.r0) (.seq (.region zE.r1) (.seq (.seq (.region zE.r2) (.cond 13 (.seq (.region zE.r3) (.ret)) (.skip))) (.seq (.seq (.region zE.r4) (.block 0 (.loop zE.l0))) (.seq (.region zE.r10) (.ret)))))
def zE:Func:=⟨37,[.t 4],zE.code⟩
/-! muntin/muntinref12.Rotation -/
def ZQ.r0:List Oper:=[
 oD 2 (.mv (.c (.n 0)))]
def ZQ.r1:List Oper:=[
 oD 3 (.mv (.c (.n 0)))]
def ZQ.r2:List Oper:=[
 oD 4 (.mv (.c (.n 0)))]
def ZQ.r3:List Oper:=[
 oD 5 (.mv 4),
 oD 6 (.mv 0),
 oD 7 (.len 6),
 oD 8 (.bin .lss 5 7)]
def ZQ.r5:List Oper:=[
 oD 11 (.mv 0),
 oD 12 (.mv 4),
 oD 13 (.ixa 1 11 12),
 oD 14 (.ld false 1 13),
 oD 15 (.bin .geq 14 (.c (.n (-2)))),
 oD 16 (.mv 15),
 ⟨(some 17),.mv 0,(some (16,true))⟩,
 ⟨(some 18),.mv 4,(some (16,true))⟩,
 ⟨(some 19),.ixa 1 17 18,(some (16,true))⟩,
 ⟨(some 20),.ld false 1 19,(some (16,true))⟩,
 ⟨(some 21),.bin .leq 20 (.c (.n 1)),(some (16,true))⟩,
 oD 22 (.pick 16 21 (.c (.b false)))]
def ZQ.r6:List Oper:=[
 oD 23 (.mv 3),
 oD 24 (.mv 0),
 oD 25 (.mv 4),
 oD 26 (.ixa 1 24 25),
 oD 27 (.ld false 1 26),
 oD 28 (.bin .add 23 27),
 oD 3 (.mv 28)]
def ZQ.r4:List Oper:=[
 oD 9 (.mv 4),
 oD 10 (.bin .add 9 (.c (.n 1))),
 oD 4 (.mv 10)]
def ZQ.l0:Code:=.seq (.seq (.region ZQ.r3) (.cond 8 (.skip) (.exit 0))) (.seq (.block 1 (.seq (.region ZQ.r5) (.cond 22 (.region ZQ.r6) (.skip)))) (.region ZQ.r4))
def ZQ.r7:List Oper:=[
 oD 29 (.mv 3),
 oD 2 (.mv 29)]
def ZQ.code:Code:=.seq (.region ZQ.r0) (.seq (.region ZQ.r1) (.seq (.seq (.region ZQ.r2) (.block 0 (.loop ZQ.l0))) (.seq (.region ZQ.r7) (.ret))))
def ZQ:Func:=⟨30,[.t 2],ZQ.code⟩
/-! muntin/muntinref01.Turn -/
def ZP.r0:List Oper:=[
 oD 4 (.mv (.c (.n 0)))]
def ZP.r1:List Oper:=[
 oD 8 (.mv 0),
 oD 9 (.call (.c (.f 223 [])) [.t 8]),
 oD 5 (.mv 9)]
def ZP.r2:List Oper:=[
 oD 10 (.mv 1),
 oD 11 (.call (.c (.f 223 [])) [.t 10]),
 oD 6 (.mv 11)]
def ZP.r3:List Oper:=[
 oD 12 (.mv 5),
 oD 13 (.un .not 12),
 oD 14 (.mv 13),
 ⟨(some 15),.mv 6,(some (14,false))⟩,
 ⟨(some 16),.un .not 15,(some (14,false))⟩,
 oD 17 (.pick 14 (.c (.b true)) 16),
 oD 18 (.mv 17),
 ⟨(some 19),.mv 0,(some (18,false))⟩,
 ⟨(some 20),.mv 1,(some (18,false))⟩,
 ⟨(some 21),.eq false .sc 19 20,(some (18,false))⟩,
 oD 22 (.pick 18 (.c (.b true)) 21)]
def ZP.r4:List Oper:=[
 oD 4 (.mv (.c (.n 0)))]
def ZP.r5:List Oper:=[
 oD 23 (.mv 0),
 oD 24 (.call (.c (.f 224 [])) [.t 23,.c (.n 1)]),
 oD 7 (.mv 24)]
def ZP.r6:List Oper:=[
 oD 25 (.mv 7),
 oD 26 (.mv 1),
 oD 27 (.eq false .sc 25 26)]
def ZP.r7:List Oper:=[
 oD 4 (.mv (.c (.n 1)))]
def ZP.r8:List Oper:=[
 oD 28 (.mv 0),
 oD 29 (.call (.c (.f 224 [])) [.t 28,.c (.n 3)]),
 oD 7 (.mv 29)]
def ZP.r9:List Oper:=[
 oD 30 (.mv 7),
 oD 31 (.mv 1),
 oD 32 (.eq false .sc 30 31)]
def ZP.r10:List Oper:=[
 oD 4 (.mv (.c (.n (-1))))]
def ZP.r11:List Oper:=[
 oD 4 (.mv (.c (.n (-2))))]
def ZP.code:Code:=.seq (.region ZP.r0) (.seq (.region ZP.r1) (.seq (.region ZP.r2) (.seq (.seq (.region ZP.r3) (.cond 22 (.seq (.region ZP.r4) (.ret)) (.skip))) (.seq (.region ZP.r5) (.seq (.seq (.region ZP.r6) (.cond 27 (.seq (.region ZP.r7) (.ret)) (.skip))) (.seq (.region ZP.r8) (.seq (.seq (.region ZP.r9) (.cond 32 (.seq (.region ZP.r10) (.ret)) (.skip))) (.seq (.region ZP.r11) (.ret)))))))))
def ZP:Func:=⟨33,[.t 4],ZP.code⟩
/-! muntin/muntinref08.turns -/
def zp.r0:List Oper:=[
 oD 2 (.mv (.c (.b false)))]
def zp.r1:List Oper:=[
 oD 3 (.mv (.c (.n 0)))]
def zp.r2:List Oper:=[
 oD 4 (.mv 3),
 oD 5 (.mv 0),
 oD 6 (.slen 5),
 oD 7 (.bin .lss 4 6)]
def zp.r4:List Oper:=[
 oD 10 (.mv 0),
 oD 11 (.mv 3),
 oD 12 (.ixs 10 11),
 oD 13 (.eq true .sc 12 (.c (.i .u8 76))),
 oD 14 (.mv 13),
 ⟨(some 15),.mv 0,(some (14,true))⟩,
 ⟨(some 16),.mv 3,(some (14,true))⟩,
 ⟨(some 17),.ixs 15 16,(some (14,true))⟩,
 ⟨(some 18),.eq true .sc 17 (.c (.i .u8 82)),(some (14,true))⟩,
 oD 19 (.pick 14 18 (.c (.b false)))]
def zp.r5:List Oper:=[
 oD 2 (.mv (.c (.b false)))]
def zp.r3:List Oper:=[
 oD 8 (.mv 3),
 oD 9 (.bin .add 8 (.c (.n 1))),
 oD 3 (.mv 9)]
def zp.l0:Code:=.seq (.seq (.region zp.r2) (.cond 7 (.skip) (.exit 0))) (.seq (.block 1 (.seq (.region zp.r4) (.cond 19 (.seq (.region zp.r5) (.ret)) (.skip)))) (.region zp.r3))
def zp.r6:List Oper:=[
 oD 2 (.mv (.c (.b true)))]
def zp.code:Code:=.seq (.region zp.r0) (.seq (.seq (.region zp.r1) (.block 0 (.loop zp.l0))) (.seq (.region zp.r6) (.ret)))
def zp:Func:=⟨20,[.t 2],zp.code⟩
/-! muntin/muntinref11.Side -/
def Za3.r0:List Oper:=[
 oD 1 (.box 0),
 oD 2 (.mv (.c (.n 0)))]
def Za3.r1:List Oper:=[
 oD 4 (.ld true 4 1),
 oD 5 (.call (.c (.f 230 [])) [.t 4]),
 oD 3 (.mv 5)]
def Za3.r2:List Oper:=[
 oD 6 (.mv 3),
 oD 7 (.bin .add 6 (.c (.n 2))),
 oD 8 (.bin .rem 7 (.c (.n 4))),
 oD 2 (.mv 8)]
def Za3.code:Code:=.seq (.region Za3.r0) (.seq (.region Za3.r1) (.seq (.region Za3.r2) (.ret)))
def Za3:Func:=⟨9,[.t 2],Za3.code⟩
/-! muntin/face.Rotation -/
def z5.r0:List Oper:=[
 oD 2 (.mv (.c (.n 0)))]
def z5.r1:List Oper:=[
 oD 3 (.mv (.c (.n 0)))]
def z5.r2:List Oper:=[
 oD 6 (.mv 0),
 oD 7 (.len 6),
 oD 8 (.mv (.c (.n 0)))]
def z5.r3:List Oper:=[
 oD 9 (.bin .lss 8 7)]
def z5.r4:List Oper:=[
 oD 10 (.ixa 1 6 8),
 oD 11 (.ld false 1 10),
 oD 5 (.mv 11)]
def z5.r5:List Oper:=[
 oD 12 (.mv 5),
 oD 13 (.bin .geq 12 (.c (.n (-2)))),
 oD 14 (.mv 13),
 ⟨(some 15),.mv 5,(some (14,true))⟩,
 ⟨(some 16),.bin .leq 15 (.c (.n 1)),(some (14,true))⟩,
 oD 17 (.pick 14 16 (.c (.b false)))]
def z5.r6:List Oper:=[
 oD 18 (.mv 3),
 oD 19 (.mv 5),
 oD 20 (.bin .add 18 19),
 oD 3 (.mv 20)]
def z5.r7:List Oper:=[
 oD 21 (.bin .add 8 (.c (.n 1))),
 oD 8 (.mv 21)]
def z5.l0:Code:=.seq (.region z5.r3) (.seq (.cond 9 (.skip) (.exit 0)) (.seq (.block 1 (.seq (.region z5.r4) (.seq (.region z5.r5) (.cond 17 (.region z5.r6) (.skip))))) (.region z5.r7)))
def z5.r8:List Oper:=[
 oD 22 (.mv 3),
 oD 2 (.mv 22)]
def z5.code:Code:=.seq (.region z5.r0) (.seq (.region z5.r1) (.seq (.seq (.region z5.r2) (.block 0 (.loop z5.l0))) (.seq (.region z5.r8) (.ret))))
def z5:Func:=⟨23,[.t 2],z5.code⟩
/-! (muntin/face.Dart).is -/
def Zbq.r0:List Oper:=[
 oD 2 (.box 0),
 oD 4 (.mv (.c (.b false)))]
def Zbq.r1:List Oper:=[
 oD 5 (.fa 0 2),
 oD 6 (.ld false 1 5),
 oD 7 (.bin .geq 6 (.c (.n 0))),
 oD 8 (.mv 7),
 ⟨(some 9),.fa 0 2,(some (8,true))⟩,
 ⟨(some 10),.ld false 1 9,(some (8,true))⟩,
 ⟨(some 11),.mv 1,(some (8,true))⟩,
 ⟨(some 12),.len 11,(some (8,true))⟩,
 ⟨(some 13),.bin .lss 10 12,(some (8,true))⟩,
 oD 14 (.pick 8 13 (.c (.b false))),
 oD 15 (.mv 14),
 ⟨(some 16),.fa 1 2,(some (15,true))⟩,
 ⟨(some 17),.ld false 1 16,(some (15,true))⟩,
 ⟨(some 18),.call (.c (.f 90 [])) [.t 17],(some (15,true))⟩,
 oD 19 (.pick 15 18 (.c (.b false))),
 oD 20 (.mv 19),
 ⟨(some 21),.mv 1,(some (20,true))⟩,
 ⟨(some 22),.fa 0 2,(some (20,true))⟩,
 ⟨(some 23),.ld false 1 22,(some (20,true))⟩,
 ⟨(some 24),.fa 1 2,(some (20,true))⟩,
 ⟨(some 25),.ld false 1 24,(some (20,true))⟩,
 ⟨(some 26),.ixa 8 21 23,(some (20,true))⟩,
 ⟨(some 27),.fa 0 26,(some (20,true))⟩,
 ⟨(some 28),.ixaa 1 4 27 25,(some (20,true))⟩,
 ⟨(some 29),.ld false 1 28,(some (20,true))⟩,
 ⟨(some 30),.bin .geq 29 (.c (.n 0)),(some (20,true))⟩,
 oD 31 (.pick 20 30 (.c (.b false))),
 oD 4 (.mv 31)]
def Zbq.code:Code:=.seq (.region Zbq.r0) (.seq (.draw Zbq.r1 [(18,20)]) (.ret))
def Zbq:Func:=⟨32,[.t 4],Zbq.code⟩
/-! (muntin/face.Dart).behind -/
def ZZ.r0:List Oper:=[
 oD 2 (.box 0),
 oD 4 (.alloc [.n 0,.n 0])]
def ZZ.r1:List Oper:=[
 oD 9 (.mv 1),
 oD 10 (.fa 0 2),
 oD 11 (.ld false 1 10),
 oD 12 (.fa 1 2),
 oD 13 (.ld false 1 12),
 oD 14 (.ixa 8 9 11),
 oD 15 (.fa 0 14),
 oD 16 (.ixaa 1 4 15 13),
 oD 17 (.ld false 1 16),
 oD 5 (.mv 17)]
def ZZ.r2:List Oper:=[
 oD 18 (.build [.n 0,.n 0,.n 0,.n 0] [(0,1,.c (.n 1)),(1,1,.c (.n 0)),(2,1,.c (.n (-1))),(3,1,.c (.n 2))]),
 oD 19 (.mv (.c (.n 0)))]
def ZZ.r3:List Oper:=[
 oD 20 (.bin .lss 19 (.c (.n 4)))]
def ZZ.r4:List Oper:=[
 oD 21 (.ix false 1 4 18 19),
 oD 7 (.mv 21)]
def ZZ.r5:List Oper:=[
 oD 22 (.mv 5),
 oD 23 (.fa 1 2),
 oD 24 (.ld false 1 23),
 oD 25 (.mv 7),
 oD 26 (.call (.c (.f 77 [])) [.t 24,.t 25]),
 oD 27 (.build [.n 0,.n 0] [(0,1,.t 22),(1,1,.t 26)]),
 oD 8 (.alloc [.n 0,.n 0]),
 oN (.st 2 8 27)]
def ZZ.r6:List Oper:=[
 oD 28 (.ld true 2 8),
 oD 29 (.mv 1),
 oD 30 (.call (.c (.f 220 [])) [.t 28,.t 29])]
def ZZ.r7:List Oper:=[
 oD 31 (.ld true 2 8),
 oN (.st 2 4 31)]
def ZZ.r8:List Oper:=[
 oD 32 (.bin .add 19 (.c (.n 1))),
 oD 19 (.mv 32)]
def ZZ.l0:Code:=.seq (.region ZZ.r3) (.seq (.cond 20 (.skip) (.exit 0)) (.seq (.block 1 (.seq (.region ZZ.r4) (.seq (.region ZZ.r5) (.seq (.region ZZ.r6) (.cond 30 (.seq (.region ZZ.r7) (.ret)) (.skip)))))) (.region ZZ.r8)))
def ZZ.r9:List Oper:=[
 oD 33 (.ld true 2 2),
 oN (.st 2 4 33)]
def ZZ.code:Code:=.seq (.region ZZ.r0) (.seq (.draw ZZ.r1 [(2,4)]) (.seq (.seq (.region ZZ.r2) (.block 0 (.loop ZZ.l0))) (.seq (.region ZZ.r9) (.ret))))
def ZZ:Func:=⟨34,[.cell 4 true 2],ZZ.code⟩
/-! muntin/compass.Turn -/
def ZaE.r0:List Oper:=[
 oD 4 (.mv (.c (.n 0)))]
def ZaE.r1:List Oper:=[
 oD 5 (.mv 0),
 oD 6 (.call (.c (.f 90 [])) [.t 5]),
 oD 7 (.un .not 6),
 oD 8 (.mv 7),
 ⟨(some 9),.mv 1,(some (8,false))⟩,
 ⟨(some 10),.call (.c (.f 90 [])) [.t 9],(some (8,false))⟩,
 ⟨(some 11),.un .not 10,(some (8,false))⟩,
 oD 12 (.pick 8 (.c (.b true)) 11)]
def ZaE.r2:List Oper:=[
 oD 4 (.mv (.c (.n 0)))]
def ZaE.r3:List Oper:=[
 oD 13 (.build [.n 0,.n 0,.n 0,.n 0] [(0,1,.c (.n 0)),(1,1,.c (.n 1)),(2,1,.c (.n (-2))),(3,1,.c (.n (-1)))]),
 oD 14 (.mv 1),
 oD 15 (.mv 0),
 oD 16 (.bin .sub 14 15),
 oD 17 (.bin .add 16 (.c (.n 4))),
 oD 18 (.bin .rem 17 (.c (.n 4))),
 oD 19 (.ix false 1 4 13 18),
 oD 4 (.mv 19)]
def ZaE.code:Code:=.seq (.region ZaE.r0) (.seq (.seq (.region ZaE.r1) (.cond 12 (.seq (.region ZaE.r2) (.ret)) (.skip))) (.seq (.region ZaE.r3) (.ret)))
def ZaE:Func:=⟨20,[.t 4],ZaE.code⟩
/-! muntin/muntinref01.Good -/
def ZaJ.r0:List Oper:=[
 oD 2 (.mv (.c (.b false)))]
def ZaJ.r1:List Oper:=[
 oD 3 (.mv 0),
 oD 4 (.bin .geq 3 (.c (.n 0))),
 oD 5 (.mv 4),
 ⟨(some 6),.mv 0,(some (5,true))⟩,
 ⟨(some 7),.bin .leq 6 (.c (.n 3)),(some (5,true))⟩,
 oD 8 (.pick 5 7 (.c (.b false))),
 oD 2 (.mv 8)]
def ZaJ.code:Code:=.seq (.region ZaJ.r0) (.seq (.region ZaJ.r1) (.ret))
def ZaJ:Func:=⟨9,[.t 2],ZaJ.code⟩
/-! muntin/muntinref01.Left -/
def zw.r0:List Oper:=[
 oD 4 (.mv (.c (.n 0)))]
def zw.r1:List Oper:=[
 oD 7 (.mv 0),
 oD 8 (.call (.c (.f 223 [])) [.t 7]),
 oD 5 (.mv 8)]
def zw.r2:List Oper:=[
 oD 9 (.mv 5),
 oD 10 (.un .not 9)]
def zw.r3:List Oper:=[
 oD 4 (.mv (.c (.n 0)))]
def zw.r4:List Oper:=[
 oD 11 (.mv 1),
 oD 12 (.bin .rem 11 (.c (.n 4))),
 oD 6 (.mv 12)]
def zw.r5:List Oper:=[
 oD 13 (.mv 6),
 oD 14 (.bin .lss 13 (.c (.n 0)))]
def zw.r6:List Oper:=[
 oD 15 (.mv 6),
 oD 16 (.bin .add 15 (.c (.n 4))),
 oD 6 (.mv 16)]
def zw.r7:List Oper:=[
 oD 17 (.mv 0),
 oD 18 (.mv 6),
 oD 19 (.bin .add 17 18),
 oD 20 (.bin .rem 19 (.c (.n 4))),
 oD 4 (.mv 20)]
def zw.code:Code:=.seq (.region zw.r0) (.seq (.region zw.r1) (.seq (.seq (.region zw.r2) (.cond 10 (.seq (.region zw.r3) (.ret)) (.skip))) (.seq (.region zw.r4) (.seq (.seq (.region zw.r5) (.cond 14 (.region zw.r6) (.skip))) (.seq (.region zw.r7) (.ret))))))
def zw:Func:=⟨21,[.t 4],zw.code⟩
/-! muntin/muntinref09.Last -/
def zh.r0:List Oper:=[
 oD 1 (.box 0),
 oD 2 (.mv (.c (.n 0)))]
def zh.r1:List Oper:=[
 oD 5 (.fa 2 1),
 oD 6 (.ld false 1 5),
 oD 3 (.mv 6)]
def zh.r2:List Oper:=[
 oD 4 (.mv (.c (.n 0)))]
def zh.r3:List Oper:=[
 oD 7 (.mv 4),
 oD 8 (.fa 3 1),
 oD 9 (.ld false 1 8),
 oD 10 (.slen 9),
 oD 11 (.bin .lss 7 10)]
def zh.r5:List Oper:=[
 oD 14 (.fa 3 1),
 oD 15 (.ld false 1 14),
 oD 16 (.mv 4),
 oD 17 (.ixs 15 16),
 oD 18 (.eq false .sc 17 (.c (.i .u8 76)))]
def zh.r6:List Oper:=[
 oD 19 (.mv 3),
 oD 20 (.bin .add 19 (.c (.n 1))),
 oD 21 (.bin .rem 20 (.c (.n 4))),
 oD 3 (.mv 21)]
def zh.r7:List Oper:=[
 oD 22 (.mv 3),
 oD 23 (.bin .add 22 (.c (.n 3))),
 oD 24 (.bin .rem 23 (.c (.n 4))),
 oD 3 (.mv 24)]
def zh.r4:List Oper:=[
 oD 12 (.mv 4),
 oD 13 (.bin .add 12 (.c (.n 1))),
 oD 4 (.mv 13)]
def zh.l0:Code:=.seq (.seq (.region zh.r3) (.cond 11 (.skip) (.exit 0))) (.seq (.block 1 (.seq (.region zh.r5) (.cond 18 (.region zh.r6) (.region zh.r7)))) (.region zh.r4))
def zh.r8:List Oper:=[
 oD 25 (.mv 3),
 oD 2 (.mv 25)]
def zh.code:Code:=.seq (.region zh.r0) (.seq (.region zh.r1) (.seq (.seq (.region zh.r2) (.block 0 (.loop zh.l0))) (.seq (.region zh.r8) (.ret))))
def zh:Func:=⟨26,[.t 2],zh.code⟩
def G:Prog:=fun i=>match i with
  | 28=>some Zk
  | 29=>some ZF
  | 30=>some Z7
  | 32=>some Zbr
  | 34=>some Zy
  | 36=>some Z2
  | 46=>some ZY
  | 53=>some z8
  | 63=>some ZG
  | 64=>some Z5
  | 65=>some ZE
  | 66=>some zi
  | 67=>some ZO
  | 77=>some ZaD
  | 82=>some zP
  | 83=>some ZL
  | 89=>some Zbi
  | 90=>some Zbp
  | 97=>some Zbo
  | 98=>some zD
  | 155=>some zj
  | 171=>some Z4
  | 172=>some Zal
  | 173=>some zg
  | 174=>some Zq
  | 175=>some Zj
  | 176=>some zL
  | 177=>some Z0
  | 181=>some Zu
  | 182=>some zc
  | 195=>some Zag
  | 196=>some zt
  | 197=>some Z6
  | 198=>some Zz
  | 199=>some za
  | 200=>some Z1
  | 201=>some zf
  | 202=>some ZN
  | 203=>some ZC
  | 204=>some zE
  | 206=>some ZQ
  | 207=>some ZP
  | 217=>some zp
  | 218=>some Za3
  | 219=>some z5
  | 220=>some Zbq
  | 221=>some ZZ
  | 222=>some ZaE
  | 223=>some ZaJ
  | 224=>some zw
  | 230=>some zh
  | _=>none
theorem ZcQ:G 28 = some Zk:=rfl
theorem ZdZ:G 29 = some ZF:=rfl
theorem Zc8:G 30 = some Z7:=rfl
theorem Zea:G 32 = some Zbr:=rfl
theorem Zc3:G 34 = some Zy:=rfl
theorem Zdc:G 36 = some Z2:=rfl
theorem Zda:G 46 = some ZY:=rfl
theorem ZcP:G 53 = some z8:=rfl
theorem Zck:G 63 = some ZG:=rfl
theorem Zcj:G 64 = some Z5:=rfl
theorem ZcR:G 65 = some ZE:=rfl
theorem ZdY:G 66 = some zi:=rfl
theorem ZdP:G 67 = some ZO:=rfl
theorem Zd6:G 77 = some ZaD:=rfl
theorem Zep:G 82 = some zP:=rfl
theorem ZcA:G 83 = some ZL:=rfl
theorem Ze2:G 89 = some Zbi:=rfl
theorem Zd5:G 90 = some Zbp:=rfl
theorem Zfl:G 97 = some Zbo:=rfl
theorem ZdV:G 98 = some zD:=rfl
theorem ZbM:G 155 = some zj:=rfl
theorem ZcN:G 171 = some Z4:=rfl
theorem Zc0:G 172 = some Zal:=rfl
theorem ZcJ:G 173 = some zg:=rfl
theorem Zc5:G 174 = some Zq:=rfl
theorem Zdk:G 175 = some Zj:=rfl
theorem ZdQ:G 176 = some zL:=rfl
theorem Zc6:G 177 = some Z0:=rfl
theorem Zc9:G 181 = some Zu:=rfl
theorem Zc7:G 182 = some zc:=rfl
theorem ZdR:G 195 = some Zag:=rfl
theorem Zcq:G 196 = some zt:=rfl
theorem Zc1:G 197 = some Z6:=rfl
theorem Zc4:G 198 = some Zz:=rfl
theorem Zdl:G 199 = some za:=rfl
theorem Zdb:G 200 = some Z1:=rfl
theorem ZdS:G 201 = some zf:=rfl
theorem Zcr:G 202 = some ZN:=rfl
theorem ZdW:G 203 = some ZC:=rfl
theorem ZdX:G 204 = some zE:=rfl
theorem Zca:G 206 = some ZQ:=rfl
theorem ZcM:G 207 = some ZP:=rfl
theorem Zc2:G 217 = some zp:=rfl
theorem ZcS:G 218 = some Za3:=rfl
theorem Zdv:G 219 = some z5:=rfl
theorem Zd8:G 220 = some Zbq:=rfl
theorem ZcI:G 221 = some ZZ:=rfl
theorem Zd7:G 222 = some ZaE:=rfl
theorem ZcK:G 223 = some ZaJ:=rfl
theorem ZcL:G 224 = some zw:=rfl
theorem ZcO:G 230 = some zh:=rfl
end Mu
