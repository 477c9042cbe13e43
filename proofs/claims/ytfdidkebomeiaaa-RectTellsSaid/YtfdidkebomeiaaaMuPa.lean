/- The functions of the program, as the evaluator has them: printed by a program; checked against the model's. -/
import Derived.Test.YtfdidkebomeiaaaMuE0
namespace Mu
instance (n:Nat):OfNat Opd n:=⟨.t n⟩
instance:Coe (List Oper) Code:=⟨.region⟩
abbrev oD (d:Nat) (op:Op):Oper:=⟨some d,op,none⟩
abbrev oN (op:Op):Oper:=⟨none,op,none⟩
abbrev oT (d g:Nat) (op:Op):Oper:=⟨some d,op,some (g,true)⟩
abbrev oF (d g:Nat) (op:Op):Oper:=⟨some d,op,some (g,false)⟩
abbrev oM (d:Nat) (x:Opd):Oper:=⟨some d,.mv x,none⟩
abbrev oC (d f:Nat) (l:List Opd):Oper:=⟨some d,.call (.c (.f f [])) l,none⟩
abbrev cI (n:Int):Opd:=.c (.i .i64 n)
/-! muntin/front.Of -/
def Zaz.r0:List Oper:=[
 oM 4 (cI 0),
 oM 5 (.c (.b false))]
def Zaz.r1:List Oper:=[
 oM 9 0,
 oC 10 58 [9],
 oD 11 (.un .not 10),
 oM 12 11,
 oF 13 12 (.mv 1),
 oF 14 12 (.bin .lss 13 (cI 0)),
 oD 15 (.pick 12 (.c (.b true)) 14),
 oM 16 15,
 oF 17 16 (.mv 1),
 oF 18 16 (.mv 0),
 oF 19 16 (.len 18),
 oF 20 16 (.bin .geq 17 19),
 oD 21 (.pick 16 (.c (.b true)) 20),
 oM 22 21,
 oF 23 22 (.mv 0),
 oF 24 22 (.mv 1),
 oF 25 22 (.ixa 1 23 24),
 oF 26 22 (.ld false 1 25),
 oF 27 22 (.bin .geq 26 (cI 0)),
 oD 28 (.pick 22 (.c (.b true)) 27)]
def Zaz.r2:List Oper:=[
 oM 4 (cI 0),
 oM 5 (.c (.b false))]
def Zaz.r3:List Oper:=[
 oM 6 (cI 0)]
def Zaz.r4:List Oper:=[
 oM 29 0,
 oD 30 (.len 29),
 oM 31 (cI 0)]
def Zaz.r5:List Oper:=[
 oD 32 (.bin .lss 31 30)]
def Zaz.r6:List Oper:=[
 oM 33 31,
 oM 7 33]
def Zaz.r7:List Oper:=[
 oM 34 1,
 oM 35 7,
 oD 36 (.bin .add 34 35),
 oM 37 0,
 oD 38 (.len 37),
 oD 39 (.bin .rem 36 38),
 oM 8 39]
def Zaz.r8:List Oper:=[
 oM 40 6,
 oM 41 0,
 oM 42 8,
 oD 43 (.ixa 1 41 42),
 oD 44 (.ld false 1 43),
 oD 45 (.bin .add 40 44),
 oM 6 45]
def Zaz.r9:List Oper:=[
 oM 46 6,
 oD 47 (.eq false .sc 46 (cI 1))]
def Zaz.r10:List Oper:=[
 oM 48 8,
 oD 49 (.bin .add 48 (cI 1)),
 oM 50 0,
 oD 51 (.len 50),
 oD 52 (.bin .rem 49 51),
 oM 4 52,
 oM 5 (.c (.b true))]
def Zaz.r11:List Oper:=[
 oD 53 (.bin .add 31 (cI 1)),
 oM 31 53]
def Zaz.l0:Code:=.seq Zaz.r5 (.seq (.cond 32 (.skip) (.exit 0)) (.seq (.block 1 (.seq Zaz.r6 (.seq Zaz.r7 (.seq Zaz.r8 (.seq Zaz.r9 (.cond 47 (.seq Zaz.r10 (.ret)) (.skip))))))) Zaz.r11))
def Zaz.r12:List Oper:=[
 oM 4 (cI 0),
 oM 5 (.c (.b false))]
def Zaz.code:Code:=.seq Zaz.r0 (.seq (.seq Zaz.r1 (.cond 28 (.seq Zaz.r2 (.ret)) (.skip))) (.seq Zaz.r3 (.seq (.seq Zaz.r4 (.block 0 (.loop Zaz.l0))) (.seq Zaz.r12 (.ret)))))
def Zaz:Func:=⟨54,[.t 4,.t 5],Zaz.code⟩
/-! muntin/muntinref20.Of -/
def ZC.r0:List Oper:=[
 oM 4 (cI 0)]
def ZC.r1:List Oper:=[
 oM 10 0,
 oC 11 21 [10],
 oM 5 11]
def ZC.r2:List Oper:=[
 oM 12 5,
 oD 13 (.un .not 12),
 oM 14 13,
 oF 15 14 (.mv 1),
 oF 16 14 (.bin .lss 15 (cI 0)),
 oD 17 (.pick 14 (.c (.b true)) 16),
 oM 18 17,
 oF 19 18 (.mv 1),
 oF 20 18 (.mv 0),
 oF 21 18 (.len 20),
 oF 22 18 (.bin .geq 19 21),
 oD 23 (.pick 18 (.c (.b true)) 22)]
def ZC.r3:List Oper:=[
 oM 4 (cI (-1))]
def ZC.r4:List Oper:=[
 oM 24 0,
 oM 25 1,
 oD 26 (.ixa 1 24 25),
 oD 27 (.ld false 1 26),
 oD 28 (.bin .geq 27 (cI 0))]
def ZC.r5:List Oper:=[
 oM 4 (cI (-1))]
def ZC.r6:List Oper:=[
 oM 29 0,
 oD 30 (.len 29),
 oM 6 30]
def ZC.r7:List Oper:=[
 oM 31 1,
 oD 32 (.bin .add 31 (cI 1)),
 oM 7 32]
def ZC.r8:List Oper:=[
 oM 33 7,
 oM 34 1,
 oM 35 6,
 oD 36 (.bin .add 34 35),
 oD 37 (.bin .leq 33 36)]
def ZC.r10:List Oper:=[
 oM 8 (cI 0)]
def ZC.r11:List Oper:=[
 oM 40 1,
 oM 9 40]
def ZC.r12:List Oper:=[
 oM 41 9,
 oM 42 7,
 oD 43 (.bin .lss 41 42)]
def ZC.r14:List Oper:=[
 oM 46 8,
 oM 47 0,
 oM 48 9,
 oM 49 6,
 oD 50 (.bin .rem 48 49),
 oD 51 (.ixa 1 47 50),
 oD 52 (.ld false 1 51),
 oD 53 (.bin .add 46 52),
 oM 8 53]
def ZC.r13:List Oper:=[
 oM 44 9,
 oD 45 (.bin .add 44 (cI 1)),
 oM 9 45]
def ZC.l0:Code:=.seq (.seq ZC.r12 (.cond 43 (.skip) (.exit 2))) (.seq (.block 3 ZC.r14) ZC.r13)
def ZC.r15:List Oper:=[
 oM 54 8,
 oD 55 (.eq false .sc 54 (cI 1))]
def ZC.r16:List Oper:=[
 oM 56 7,
 oM 57 6,
 oD 58 (.bin .rem 56 57),
 oM 4 58]
def ZC.r9:List Oper:=[
 oM 38 7,
 oD 39 (.bin .add 38 (cI 1)),
 oM 7 39]
def ZC.l1:Code:=.seq (.seq ZC.r8 (.cond 37 (.skip) (.exit 0))) (.seq (.block 1 (.seq ZC.r10 (.seq (.seq ZC.r11 (.block 2 (.loop ZC.l0))) (.seq ZC.r15 (.cond 55 (.seq ZC.r16 (.ret)) (.skip)))))) ZC.r9)
def ZC.r17:List Oper:=[
 oM 4 (cI (-1))]
def ZC.code:Code:=.seq ZC.r0 (.seq ZC.r1 (.seq (.seq ZC.r2 (.cond 23 (.seq ZC.r3 (.ret)) (.skip))) (.seq (.seq ZC.r4 (.cond 28 (.seq ZC.r5 (.ret)) (.skip))) (.seq ZC.r6 (.seq (.seq ZC.r7 (.block 0 (.loop ZC.l1))) (.seq ZC.r17 (.ret)))))))
def ZC:Func:=⟨59,[.t 4],ZC.code⟩
/-! muntin/front.Open -/
def Zas.r0:List Oper:=[
 oM 2 (cI 0),
 oM 3 (.c (.b false))]
def Zas.r1:List Oper:=[
 oM 8 0,
 oC 9 58 [8],
 oD 10 (.un .not 9)]
def Zas.r2:List Oper:=[
 oM 2 (cI 0),
 oM 3 (.c (.b false))]
def Zas.r3:List Oper:=[
 oM 11 0,
 oD 12 (.len 11),
 oM 13 (cI 0)]
def Zas.r4:List Oper:=[
 oD 14 (.bin .lss 13 12)]
def Zas.r5:List Oper:=[
 oM 15 13,
 oD 16 (.ixa 1 11 13),
 oD 17 (.ld false 1 16),
 oM 4 15,
 oM 5 17]
def Zas.r6:List Oper:=[
 oM 19 0,
 oM 20 4,
 oC 21 13 [19,20],
 oM 18 21,
 oD 22 (.ext 18 0),
 oD 23 (.ext 18 1),
 oM 6 22,
 oM 7 23]
def Zas.r7:List Oper:=[
 oM 24 5,
 oD 25 (.bin .lss 24 (cI 0)),
 oM 26 25,
 oT 27 26 (.mv 7),
 oT 28 26 (.un .not 27),
 oD 29 (.pick 26 28 (.c (.b false)))]
def Zas.r8:List Oper:=[
 oM 30 4,
 oM 2 30,
 oM 3 (.c (.b true))]
def Zas.r9:List Oper:=[
 oD 31 (.bin .add 13 (cI 1)),
 oM 13 31]
def Zas.l0:Code:=.seq Zas.r4 (.seq (.cond 14 (.skip) (.exit 0)) (.seq (.block 1 (.seq Zas.r5 (.seq Zas.r6 (.seq Zas.r7 (.cond 29 (.seq Zas.r8 (.ret)) (.skip)))))) Zas.r9))
def Zas.r10:List Oper:=[
 oM 2 (cI 0),
 oM 3 (.c (.b false))]
def Zas.code:Code:=.seq Zas.r0 (.seq (.seq Zas.r1 (.cond 10 (.seq Zas.r2 (.ret)) (.skip))) (.seq (.seq Zas.r3 (.block 0 (.loop Zas.l0))) (.seq Zas.r10 (.ret))))
def Zas:Func:=⟨32,[.t 2,.t 3],Zas.code⟩
/-! muntin/muntinref20.Open -/
def zd.r0:List Oper:=[
 oM 2 (cI 0)]
def zd.r1:List Oper:=[
 oM 6 0,
 oC 7 21 [6],
 oM 3 7]
def zd.r2:List Oper:=[
 oM 8 3,
 oD 9 (.un .not 8)]
def zd.r3:List Oper:=[
 oM 2 (cI (-1))]
def zd.r4:List Oper:=[
 oM 4 (cI 0)]
def zd.r5:List Oper:=[
 oM 10 4,
 oM 11 0,
 oD 12 (.len 11),
 oD 13 (.bin .lss 10 12)]
def zd.r7:List Oper:=[
 oM 16 0,
 oM 17 4,
 oC 18 14 [16,17],
 oM 5 18]
def zd.r8:List Oper:=[
 oM 19 0,
 oM 20 4,
 oD 21 (.ixa 1 19 20),
 oD 22 (.ld false 1 21),
 oD 23 (.bin .lss 22 (cI 0)),
 oM 24 23,
 oT 25 24 (.mv 5),
 oT 26 24 (.bin .lss 25 (cI 0)),
 oD 27 (.pick 24 26 (.c (.b false)))]
def zd.r9:List Oper:=[
 oM 28 4,
 oM 2 28]
def zd.r6:List Oper:=[
 oM 14 4,
 oD 15 (.bin .add 14 (cI 1)),
 oM 4 15]
def zd.l0:Code:=.seq (.seq zd.r5 (.cond 13 (.skip) (.exit 0))) (.seq (.block 1 (.seq zd.r7 (.seq zd.r8 (.cond 27 (.seq zd.r9 (.ret)) (.skip))))) zd.r6)
def zd.r10:List Oper:=[
 oM 2 (cI (-1))]
def zd.code:Code:=.seq zd.r0 (.seq zd.r1 (.seq (.seq zd.r2 (.cond 9 (.seq zd.r3 (.ret)) (.skip))) (.seq (.seq zd.r4 (.block 0 (.loop zd.l0))) (.seq zd.r10 (.ret)))))
def zd:Func:=⟨29,[.t 2],zd.code⟩
/-! muntin/muntinref15.Good -/
def zS.r0:List Oper:=[
 oM 2 (.c (.b false))]
def zS.r1:List Oper:=[
 oM 3 (cI 0)]
def zS.r2:List Oper:=[
 oM 4 3,
 oM 5 0,
 oD 6 (.len 5),
 oD 7 (.bin .lss 4 6)]
def zS.r4:List Oper:=[
 oM 10 0,
 oM 11 3,
 oD 12 (.ixa 1 10 11),
 oD 13 (.ld false 1 12),
 oD 14 (.bin .lss 13 (cI (-2))),
 oM 15 14,
 oF 16 15 (.mv 0),
 oF 17 15 (.mv 3),
 oF 18 15 (.ixa 1 16 17),
 oF 19 15 (.ld false 1 18),
 oF 20 15 (.bin .gtr 19 (cI 1)),
 oD 21 (.pick 15 (.c (.b true)) 20)]
def zS.r5:List Oper:=[
 oM 2 (.c (.b false))]
def zS.r3:List Oper:=[
 oM 8 3,
 oD 9 (.bin .add 8 (cI 1)),
 oM 3 9]
def zS.l0:Code:=.seq (.seq zS.r2 (.cond 7 (.skip) (.exit 0))) (.seq (.block 1 (.seq zS.r4 (.cond 21 (.seq zS.r5 (.ret)) (.skip)))) zS.r3)
def zS.r6:List Oper:=[
 oM 2 (.c (.b true))]
def zS.code:Code:=.seq zS.r0 (.seq (.seq zS.r1 (.block 0 (.loop zS.l0))) (.seq zS.r6 (.ret)))
def zS:Func:=⟨22,[.t 2],zS.code⟩
/-! muntin/muntinref10.Make -/
def Zk.r0:List Oper:=[
 oD 2 (.box 0),
 oM 4 (.c (.sn)),
 oM 5 (.c (.sn))]
def Zk.r1:List Oper:=[
 oM 6 (.c (.sn))]
def Zk.r2:List Oper:=[
 oM 7 (cI 0)]
def Zk.r3:List Oper:=[
 oM 18 7,
 oD 19 (.fa 0 2),
 oD 20 (.ld false 1 19),
 oD 21 (.len 20),
 oD 22 (.bin .lss 18 21),
 oM 23 22,
 oT 24 23 (.mv 6),
 oT 25 23 (.len 24),
 oT 26 23 (.mv 1),
 oT 27 23 (.bin .lss 25 26),
 oD 28 (.pick 23 27 (.c (.b false)))]
def Zk.r5:List Oper:=[
 oD 31 (.fa 0 2),
 oD 32 (.ld false 1 31),
 oM 33 7,
 oD 34 (.ixa 1 32 33),
 oD 35 (.ld false 1 34),
 oD 36 (.conv .i64 35),
 oD 37 (.bin .rem 36 (cI 8)),
 oD 38 (.fa 0 2),
 oD 39 (.ld false 1 38),
 oM 40 7,
 oD 41 (.ixa 1 39 40),
 oD 42 (.ld false 1 41),
 oD 43 (.conv .i64 42),
 oD 44 (.bin .quo 43 (cI 8)),
 oD 45 (.bin .rem 44 (cI 8)),
 oD 46 (.build [.n 0,.n 0] [(0,1,.t 37),(1,1,.t 45)]),
 oD 8 (.alloc [.n 0,.n 0]),
 oN (.st 2 8 46)]
def Zk.r6:List Oper:=[
 oM 9 (.c (.b false))]
def Zk.r7:List Oper:=[
 oM 10 (cI 0)]
def Zk.r8:List Oper:=[
 oM 47 10,
 oM 48 6,
 oD 49 (.len 48),
 oD 50 (.bin .lss 47 49)]
def Zk.r10:List Oper:=[
 oM 53 9,
 oM 54 53,
 oF 55 54 (.mv 6),
 oF 56 54 (.mv 10),
 oF 57 54 (.ixa 2 55 56),
 oF 58 54 (.ld true 2 57),
 oF 59 54 (.ld true 2 8),
 oF 60 54 (.eq false (.fl [.i,.i]) 58 59),
 oD 61 (.pick 54 (.c (.b true)) 60),
 oM 9 61]
def Zk.r9:List Oper:=[
 oM 51 10,
 oD 52 (.bin .add 51 (cI 1)),
 oM 10 52]
def Zk.l0:Code:=.seq (.seq Zk.r8 (.cond 50 (.skip) (.exit 2))) (.seq (.block 3 (.draw Zk.r10 [(5,6)])) Zk.r9)
def Zk.r11:List Oper:=[
 oM 62 9,
 oD 63 (.un .not 62)]
def Zk.r12:List Oper:=[
 oM 64 6,
 oD 65 (.ld true 2 8),
 oD 66 (.bsl 2 1 [.n 0,.n 0] [(0,2,.t 65)]),
 oD 67 (.app 2 16 64 66),
 oM 6 67]
def Zk.r4:List Oper:=[
 oM 29 7,
 oD 30 (.bin .add 29 (cI 1)),
 oM 7 30]
def Zk.l1:Code:=.seq (.seq Zk.r3 (.cond 28 (.skip) (.exit 0))) (.seq (.block 1 (.seq (.draw Zk.r5 [(1,8),(4,8),(1,11),(4,11),(1,16),(4,16),(8,16),(11,16)]) (.seq Zk.r6 (.seq (.seq Zk.r7 (.block 2 (.loop Zk.l0))) (.seq Zk.r11 (.cond 63 Zk.r12 (.skip))))))) Zk.r4)
def Zk.r13:List Oper:=[
 oM 68 6,
 oD 69 (.len 68),
 oC 70 46 [69],
 oM 11 70]
def Zk.r14:List Oper:=[
 oM 12 (cI 0)]
def Zk.r15:List Oper:=[
 oM 71 12,
 oM 72 6,
 oD 73 (.len 72),
 oD 74 (.bin .lss 71 73)]
def Zk.r17:List Oper:=[
 oM 13 (.c (.i .u8 3))]
def Zk.r18:List Oper:=[
 oM 77 12,
 oD 78 (.fa 1 2),
 oD 79 (.ld false 1 78),
 oD 80 (.len 79),
 oD 81 (.bin .lss 77 80)]
def Zk.r19:List Oper:=[
 oD 82 (.fa 1 2),
 oD 83 (.ld false 1 82),
 oM 84 12,
 oD 85 (.ixa 1 83 84),
 oD 86 (.ld false 1 85),
 oM 13 86]
def Zk.r20:List Oper:=[
 oM 87 12,
 oM 14 87]
def Zk.r21:List Oper:=[
 oM 88 12,
 oD 89 (.fa 2 2),
 oD 90 (.ld false 1 89),
 oD 91 (.len 90),
 oD 92 (.bin .lss 88 91)]
def Zk.r22:List Oper:=[
 oD 93 (.fa 2 2),
 oD 94 (.ld false 1 93),
 oM 95 12,
 oD 96 (.ixa 1 94 95),
 oD 97 (.ld false 1 96),
 oD 98 (.conv .i64 97),
 oM 14 98]
def Zk.r23:List Oper:=[
 oM 99 14,
 oD 100 (.bin .lss 99 (cI (-2)))]
def Zk.r24:List Oper:=[
 oM 101 14,
 oD 102 (.un .neg 101),
 oM 14 102]
def Zk.r25:List Oper:=[
 oM 15 (cI 0)]
def Zk.r26:List Oper:=[
 oM 103 15,
 oD 104 (.bin .lss 103 (cI 2))]
def Zk.r28:List Oper:=[
 oM 107 6,
 oM 108 12,
 oM 109 15,
 oC 110 63 [107,108,109],
 oM 16 110]
def Zk.r29:List Oper:=[
 oM 111 13,
 oM 112 15,
 oD 113 (.bin .shr 111 112),
 oD 114 (.bin .and 113 (.c (.i .u8 1))),
 oD 115 (.eq false .sc 114 (.c (.i .u8 0))),
 oM 116 115,
 oF 117 116 (.mv 16),
 oF 118 116 (.bin .lss 117 (cI 0)),
 oD 119 (.pick 116 (.c (.b true)) 118)]
def Zk.r30:List Oper:=[
 oM 120 6,
 oM 121 11,
 oM 122 12,
 oM 123 16,
 oC 124 64 [120,121,122,123],
 oM 17 124]
def Zk.r31:List Oper:=[
 oM 125 17,
 oD 126 (.un .not 125)]
def Zk.r32:List Oper:=[
 oM 127 11,
 oM 128 12,
 oM 129 15,
 oM 130 16,
 oM 131 14,
 oC 132 65 [127,128,129,130,131],
 oM 11 132]
def Zk.r27:List Oper:=[
 oM 105 15,
 oD 106 (.bin .add 105 (cI 1)),
 oM 15 106]
def Zk.l2:Code:=.seq (.seq Zk.r26 (.cond 104 (.skip) (.exit 6))) (.seq (.block 7 (.seq Zk.r28 (.seq (.seq Zk.r29 (.cond 119 (.exit 7) (.skip))) (.seq Zk.r30 (.seq Zk.r31 (.cond 126 Zk.r32 (.skip))))))) Zk.r27)
def Zk.r16:List Oper:=[
 oM 75 12,
 oD 76 (.bin .add 75 (cI 1)),
 oM 12 76]
def Zk.l3:Code:=.seq (.seq Zk.r15 (.cond 74 (.skip) (.exit 4))) (.seq (.block 5 (.seq Zk.r17 (.seq (.seq Zk.r18 (.cond 81 Zk.r19 (.skip))) (.seq Zk.r20 (.seq (.seq Zk.r21 (.cond 92 (.seq Zk.r22 (.seq Zk.r23 (.cond 100 Zk.r24 (.skip)))) (.skip))) (.seq Zk.r25 (.block 6 (.loop Zk.l2)))))))) Zk.r16)
def Zk.r33:List Oper:=[
 oM 133 11,
 oM 134 6,
 oM 4 133,
 oM 5 134]
def Zk.code:Code:=.seq Zk.r0 (.seq Zk.r1 (.seq (.seq Zk.r2 (.block 0 (.loop Zk.l1))) (.seq Zk.r13 (.seq (.seq Zk.r14 (.block 4 (.loop Zk.l3))) (.seq Zk.r33 (.ret))))))
def Zk:Func:=⟨135,[.t 4,.t 5],Zk.code⟩
/-! muntin/join.Parts -/
def ZL.r0:List Oper:=[
 oM 2 (.c (.sn)),
 oM 3 (cI 0)]
def ZL.r1:List Oper:=[
 oM 12 0,
 oC 13 66 [12],
 oM 4 13]
def ZL.r2:List Oper:=[
 oM 14 4,
 oD 15 (.eq true .sc 14 (cI 0))]
def ZL.r3:List Oper:=[
 oM 16 4,
 oM 2 (.c (.sn)),
 oM 3 16]
def ZL.r4:List Oper:=[
 oM 5 (.c (.sn))]
def ZL.r5:List Oper:=[
 oM 17 0,
 oD 18 (.len 17),
 oD 19 (.mks 1 1 [.b false] 18 18),
 oM 6 19]
def ZL.r6:List Oper:=[
 oM 20 0,
 oD 21 (.len 20),
 oM 22 (cI 0)]
def ZL.r7:List Oper:=[
 oD 23 (.bin .lss 22 21)]
def ZL.r8:List Oper:=[
 oM 24 22,
 oM 7 24]
def ZL.r9:List Oper:=[
 oM 25 6,
 oM 26 7,
 oD 27 (.ixa 1 25 26),
 oD 28 (.ld false 1 27)]
def ZL.r10:List Oper:=[
 oM 30 0,
 oM 31 7,
 oC 32 67 [30,31],
 oM 29 32,
 oD 33 (.ext 29 0),
 oD 34 (.ext 29 1),
 oM 8 33,
 oM 9 34]
def ZL.r11:List Oper:=[
 oD 35 (.bsl 1 0 [.n 0] []),
 oM 10 35]
def ZL.r12:List Oper:=[
 oM 36 0,
 oD 37 (.len 36),
 oM 38 (cI 0)]
def ZL.r13:List Oper:=[
 oD 39 (.bin .lss 38 37)]
def ZL.r14:List Oper:=[
 oM 40 38,
 oM 11 40]
def ZL.r15:List Oper:=[
 oM 41 11,
 oM 42 7,
 oD 43 (.eq false .sc 41 42),
 oM 44 43,
 oF 45 44 (.mv 9),
 oF 46 44 (.mv 11),
 oF 47 44 (.ixa 1 45 46),
 oF 48 44 (.ld false 1 47),
 oF 49 44 (.bin .geq 48 (cI 0)),
 oD 50 (.pick 44 (.c (.b true)) 49)]
def ZL.r16:List Oper:=[
 oM 51 6,
 oM 52 11,
 oD 53 (.ixa 1 51 52),
 oN (.st 1 53 (.c (.b true)))]
def ZL.r17:List Oper:=[
 oM 54 10,
 oM 55 11,
 oD 56 (.bsl 1 1 [.n 0] [(0,1,.t 55)]),
 oD 57 (.app 1 8 54 56),
 oM 10 57]
def ZL.r18:List Oper:=[
 oD 58 (.bin .add 38 (cI 1)),
 oM 38 58]
def ZL.l0:Code:=.seq ZL.r13 (.seq (.cond 39 (.skip) (.exit 2)) (.seq (.block 3 (.seq ZL.r14 (.seq ZL.r15 (.cond 50 (.seq ZL.r16 ZL.r17) (.skip))))) ZL.r18))
def ZL.r19:List Oper:=[
 oM 59 5,
 oM 60 10,
 oD 61 (.bsl 1 1 [.sn] [(0,1,.t 60)]),
 oD 62 (.app 1 24 59 61),
 oM 5 62]
def ZL.r20:List Oper:=[
 oD 63 (.bin .add 22 (cI 1)),
 oM 22 63]
def ZL.l1:Code:=.seq ZL.r7 (.seq (.cond 23 (.skip) (.exit 0)) (.seq (.block 1 (.seq ZL.r8 (.seq (.seq ZL.r9 (.cond 28 (.exit 1) (.skip))) (.seq ZL.r10 (.seq ZL.r11 (.seq (.seq ZL.r12 (.block 2 (.loop ZL.l0))) ZL.r19)))))) ZL.r20))
def ZL.r21:List Oper:=[
 oM 64 5,
 oM 2 64,
 oM 3 (cI 0)]
def ZL.code:Code:=.seq ZL.r0 (.seq (.seq ZL.r1 (.seq ZL.r2 (.cond 15 (.seq ZL.r3 (.ret)) (.skip)))) (.seq ZL.r4 (.seq ZL.r5 (.seq (.seq ZL.r6 (.block 0 (.loop ZL.l1))) (.seq ZL.r21 (.ret))))))
def ZL:Func:=⟨65,[.t 2,.t 3],ZL.code⟩
/-! muntin/muntinref13.Parts -/
def Z4.r0:List Oper:=[
 oM 2 (.c (.sn))]
def Z4.r1:List Oper:=[
 oM 9 0,
 oD 10 (.len 9),
 oD 11 (.mks 1 1 [.b false] 10 10),
 oM 3 11]
def Z4.r2:List Oper:=[
 oM 4 (.c (.sn))]
def Z4.r3:List Oper:=[
 oM 5 (cI 0)]
def Z4.r4:List Oper:=[
 oM 12 5,
 oM 13 0,
 oD 14 (.len 13),
 oD 15 (.bin .lss 12 14)]
def Z4.r6:List Oper:=[
 oM 18 3,
 oM 19 5,
 oD 20 (.ixa 1 18 19),
 oD 21 (.ld false 1 20)]
def Z4.r7:List Oper:=[
 oM 22 0,
 oM 23 5,
 oC 24 36 [22,23],
 oM 6 24]
def Z4.r8:List Oper:=[
 oM 7 (.c (.sn))]
def Z4.r9:List Oper:=[
 oM 8 (cI 0)]
def Z4.r10:List Oper:=[
 oM 25 8,
 oM 26 0,
 oD 27 (.len 26),
 oD 28 (.bin .lss 25 27)]
def Z4.r12:List Oper:=[
 oM 31 6,
 oM 32 8,
 oD 33 (.ixa 1 31 32),
 oD 34 (.ld false 1 33),
 oD 35 (.bin .geq 34 (cI 0))]
def Z4.r13:List Oper:=[
 oM 36 3,
 oM 37 8,
 oD 38 (.ixa 1 36 37),
 oN (.st 1 38 (.c (.b true)))]
def Z4.r14:List Oper:=[
 oM 39 7,
 oM 40 8,
 oD 41 (.bsl 1 1 [.n 0] [(0,1,.t 40)]),
 oD 42 (.app 1 8 39 41),
 oM 7 42]
def Z4.r11:List Oper:=[
 oM 29 8,
 oD 30 (.bin .add 29 (cI 1)),
 oM 8 30]
def Z4.l0:Code:=.seq (.seq Z4.r10 (.cond 28 (.skip) (.exit 2))) (.seq (.block 3 (.seq Z4.r12 (.cond 35 (.seq Z4.r13 Z4.r14) (.skip)))) Z4.r11)
def Z4.r15:List Oper:=[
 oM 43 4,
 oM 44 7,
 oD 45 (.bsl 1 1 [.sn] [(0,1,.t 44)]),
 oD 46 (.app 1 24 43 45),
 oM 4 46]
def Z4.r5:List Oper:=[
 oM 16 5,
 oD 17 (.bin .add 16 (cI 1)),
 oM 5 17]
def Z4.l1:Code:=.seq (.seq Z4.r4 (.cond 15 (.skip) (.exit 0))) (.seq (.block 1 (.seq (.seq Z4.r6 (.cond 21 (.exit 1) (.skip))) (.seq Z4.r7 (.seq Z4.r8 (.seq (.seq Z4.r9 (.block 2 (.loop Z4.l0))) Z4.r15))))) Z4.r5)
def Z4.r16:List Oper:=[
 oM 47 4,
 oM 2 47]
def Z4.code:Code:=.seq Z4.r0 (.seq Z4.r1 (.seq Z4.r2 (.seq (.seq Z4.r3 (.block 0 (.loop Z4.l1))) (.seq Z4.r16 (.ret)))))
def Z4:Func:=⟨48,[.t 2],Z4.code⟩
/-! muntin/join.Whole -/
def Zcz.r0:List Oper:=[
 oM 2 (.c (.b false))]
def Zcz.r1:List Oper:=[
 oM 6 0,
 oC 7 29 [6],
 oM 5 7,
 oD 8 (.ext 5 0),
 oD 9 (.ext 5 1),
 oM 3 8,
 oM 4 9]
def Zcz.r2:List Oper:=[
 oM 10 4,
 oD 11 (.eq false .sc 10 (cI 0)),
 oM 12 11,
 oT 13 12 (.mv 3),
 oT 14 12 (.len 13),
 oT 15 12 (.eq false .sc 14 (cI 1)),
 oD 16 (.pick 12 15 (.c (.b false))),
 oM 2 16]
def Zcz.code:Code:=.seq Zcz.r0 (.seq Zcz.r1 (.seq Zcz.r2 (.ret)))
def Zcz:Func:=⟨17,[.t 2],Zcz.code⟩
/-! muntin/muntinref10.Check -/
def Zu.r0:List Oper:=[
 oM 2 (cI 0)]
def Zu.r1:List Oper:=[
 oM 7 0,
 oD 8 (.len 7),
 oD 9 (.bin .gtr 8 (cI 4096))]
def Zu.r2:List Oper:=[
 oM 2 (cI 6)]
def Zu.r3:List Oper:=[
 oM 3 (cI 0)]
def Zu.r4:List Oper:=[
 oM 10 3,
 oM 11 0,
 oD 12 (.len 11),
 oD 13 (.bin .lss 10 12)]
def Zu.r6:List Oper:=[
 oM 4 (cI 0)]
def Zu.r7:List Oper:=[
 oM 16 4,
 oD 17 (.bin .lss 16 (cI 4))]
def Zu.r9:List Oper:=[
 oM 20 0,
 oM 21 3,
 oM 22 4,
 oD 23 (.ixa 8 20 21),
 oD 24 (.fa 0 23),
 oD 25 (.ixaa 1 4 24 22),
 oD 26 (.ld false 1 25),
 oM 5 26]
def Zu.r10:List Oper:=[
 oM 27 0,
 oM 28 3,
 oM 29 4,
 oD 30 (.ixa 8 27 28),
 oD 31 (.fa 4 30),
 oD 32 (.ixaa 1 4 31 29),
 oD 33 (.ld false 1 32),
 oM 6 33]
def Zu.r11:List Oper:=[
 oM 34 5,
 oD 35 (.eq false .sc 34 (cI (-1)))]
def Zu.r12:List Oper:=[
 oM 36 6,
 oD 37 (.eq true .sc 36 (cI 0))]
def Zu.r13:List Oper:=[
 oM 2 (cI 9)]
def Zu.r14:List Oper:=[
 oM 38 5,
 oD 39 (.bin .lss 38 (cI 0)),
 oM 40 39,
 oF 41 40 (.mv 5),
 oF 42 40 (.mv 0),
 oF 43 40 (.len 42),
 oF 44 40 (.bin .geq 41 43),
 oD 45 (.pick 40 (.c (.b true)) 44),
 oM 46 45,
 oF 47 46 (.mv 5),
 oF 48 46 (.mv 3),
 oF 49 46 (.eq false .sc 47 48),
 oD 50 (.pick 46 (.c (.b true)) 49)]
def Zu.r15:List Oper:=[
 oM 2 (cI 3)]
def Zu.r16:List Oper:=[
 oM 51 0,
 oM 52 5,
 oM 53 4,
 oD 54 (.bin .add 53 (cI 2)),
 oD 55 (.bin .rem 54 (cI 4)),
 oD 56 (.ixa 8 51 52),
 oD 57 (.fa 0 56),
 oD 58 (.ixaa 1 4 57 55),
 oD 59 (.ld false 1 58),
 oM 60 3,
 oD 61 (.eq true .sc 59 60),
 oM 62 61,
 oF 63 62 (.mv 0),
 oF 64 62 (.mv 5),
 oF 65 62 (.mv 4),
 oF 66 62 (.bin .add 65 (cI 2)),
 oF 67 62 (.bin .rem 66 (cI 4)),
 oF 68 62 (.ixa 8 63 64),
 oF 69 62 (.fa 4 68),
 oF 70 62 (.ixaa 1 4 69 67),
 oF 71 62 (.ld false 1 70),
 oF 72 62 (.mv 6),
 oF 73 62 (.eq true .sc 71 72),
 oD 74 (.pick 62 (.c (.b true)) 73),
 oM 75 74,
 oF 76 75 (.mv 6),
 oF 77 75 (.bin .lss 76 (cI (-2))),
 oD 78 (.pick 75 (.c (.b true)) 77)]
def Zu.r17:List Oper:=[
 oM 2 (cI 9)]
def Zu.r8:List Oper:=[
 oM 18 4,
 oD 19 (.bin .add 18 (cI 1)),
 oM 4 19]
def Zu.l0:Code:=.seq (.seq Zu.r7 (.cond 17 (.skip) (.exit 2))) (.seq (.block 3 (.seq Zu.r9 (.seq Zu.r10 (.seq (.seq Zu.r11 (.cond 35 (.seq (.seq Zu.r12 (.cond 37 (.seq Zu.r13 (.ret)) (.skip))) (.exit 3)) (.skip))) (.seq (.seq Zu.r14 (.cond 50 (.seq Zu.r15 (.ret)) (.skip))) (.seq Zu.r16 (.cond 78 (.seq Zu.r17 (.ret)) (.skip)))))))) Zu.r8)
def Zu.r5:List Oper:=[
 oM 14 3,
 oD 15 (.bin .add 14 (cI 1)),
 oM 3 15]
def Zu.l1:Code:=.seq (.seq Zu.r4 (.cond 13 (.skip) (.exit 0))) (.seq (.block 1 (.seq Zu.r6 (.block 2 (.loop Zu.l0)))) Zu.r5)
def Zu.r18:List Oper:=[
 oM 2 (cI 0)]
def Zu.code:Code:=.seq Zu.r0 (.seq (.seq Zu.r1 (.cond 9 (.seq Zu.r2 (.ret)) (.skip))) (.seq (.seq Zu.r3 (.block 0 (.loop Zu.l1))) (.seq Zu.r18 (.ret))))
def Zu:Func:=⟨79,[.t 2],Zu.code⟩
/-! muntin/muntinref13.Far -/
def Zy.r0:List Oper:=[
 oM 4 (.c (.sn))]
def Zy.r1:List Oper:=[
 oM 11 0,
 oD 12 (.len 11),
 oD 13 (.mks 1 8 [.n 0] 12 12),
 oM 5 13]
def Zy.r2:List Oper:=[
 oM 6 (cI 0)]
def Zy.r3:List Oper:=[
 oM 14 6,
 oM 15 0,
 oD 16 (.len 15),
 oD 17 (.bin .lss 14 16)]
def Zy.r5:List Oper:=[
 oM 20 5,
 oM 21 6,
 oD 22 (.ixa 1 20 21),
 oN (.st 1 22 (cI (-1)))]
def Zy.r4:List Oper:=[
 oM 18 6,
 oD 19 (.bin .add 18 (cI 1)),
 oM 6 19]
def Zy.l0:Code:=.seq (.seq Zy.r3 (.cond 17 (.skip) (.exit 0))) (.seq (.block 1 Zy.r5) Zy.r4)
def Zy.r6:List Oper:=[
 oM 23 5,
 oM 24 1,
 oD 25 (.ixa 1 23 24),
 oN (.st 1 25 (cI 0))]
def Zy.r7:List Oper:=[
 oM 7 (cI 0)]
def Zy.r8:List Oper:=[
 oM 26 7,
 oM 27 0,
 oD 28 (.len 27),
 oD 29 (.bin .lss 26 28)]
def Zy.r10:List Oper:=[
 oM 8 (cI 0)]
def Zy.r11:List Oper:=[
 oM 32 8,
 oM 33 0,
 oD 34 (.len 33),
 oD 35 (.bin .lss 32 34)]
def Zy.r13:List Oper:=[
 oM 9 (cI 0)]
def Zy.r14:List Oper:=[
 oM 38 9,
 oD 39 (.bin .lss 38 (cI 4))]
def Zy.r16:List Oper:=[
 oM 42 0,
 oM 43 8,
 oM 44 9,
 oD 45 (.ixa 8 42 43),
 oD 46 (.fa 0 45),
 oD 47 (.ixaa 1 4 46 44),
 oD 48 (.ld false 1 47),
 oM 10 48]
def Zy.r17:List Oper:=[
 oM 49 5,
 oM 50 8,
 oD 51 (.ixa 1 49 50),
 oD 52 (.ld false 1 51),
 oM 53 7,
 oD 54 (.eq false .sc 52 53),
 oM 55 54,
 oT 56 55 (.mv 10),
 oT 57 55 (.bin .geq 56 (cI 0)),
 oD 58 (.pick 55 57 (.c (.b false))),
 oM 59 58,
 oT 60 59 (.mv 5),
 oT 61 59 (.mv 10),
 oT 62 59 (.mx [61,.c (.n 0)]),
 oT 63 59 (.ixa 1 60 62),
 oT 64 59 (.ld false 1 63),
 oT 65 59 (.bin .lss 64 (cI 0)),
 oD 66 (.pick 59 65 (.c (.b false)))]
def Zy.r18:List Oper:=[
 oM 67 5,
 oM 68 10,
 oM 69 7,
 oD 70 (.bin .add 69 (cI 1)),
 oD 71 (.ixa 1 67 68),
 oN (.st 1 71 70)]
def Zy.r15:List Oper:=[
 oM 40 9,
 oD 41 (.bin .add 40 (cI 1)),
 oM 9 41]
def Zy.l1:Code:=.seq (.seq Zy.r14 (.cond 39 (.skip) (.exit 6))) (.seq (.block 7 (.seq Zy.r16 (.seq Zy.r17 (.cond 66 Zy.r18 (.skip))))) Zy.r15)
def Zy.r12:List Oper:=[
 oM 36 8,
 oD 37 (.bin .add 36 (cI 1)),
 oM 8 37]
def Zy.l2:Code:=.seq (.seq Zy.r11 (.cond 35 (.skip) (.exit 4))) (.seq (.block 5 (.seq Zy.r13 (.block 6 (.loop Zy.l1)))) Zy.r12)
def Zy.r9:List Oper:=[
 oM 30 7,
 oD 31 (.bin .add 30 (cI 1)),
 oM 7 31]
def Zy.l3:Code:=.seq (.seq Zy.r8 (.cond 29 (.skip) (.exit 2))) (.seq (.block 3 (.seq Zy.r10 (.block 4 (.loop Zy.l2)))) Zy.r9)
def Zy.r19:List Oper:=[
 oM 72 5,
 oM 4 72]
def Zy.code:Code:=.seq Zy.r0 (.seq Zy.r1 (.seq (.seq Zy.r2 (.block 0 (.loop Zy.l0))) (.seq Zy.r6 (.seq (.seq Zy.r7 (.block 2 (.loop Zy.l3))) (.seq Zy.r19 (.ret))))))
def Zy:Func:=⟨73,[.t 4],Zy.code⟩
/-! muntin/muntinref10.New -/
def zn.r0:List Oper:=[
 oM 2 (.c (.sn))]
def zn.r1:List Oper:=[
 oM 6 0,
 oD 7 (.mks 8 64 [.n 0,.n 0,.n 0,.n 0,.n 0,.n 0,.n 0,.n 0] 6 6),
 oM 3 7]
def zn.r2:List Oper:=[
 oM 4 (cI 0)]
def zn.r3:List Oper:=[
 oM 8 4,
 oM 9 0,
 oD 10 (.bin .lss 8 9)]
def zn.r5:List Oper:=[
 oM 5 (cI 0)]
def zn.r6:List Oper:=[
 oM 13 5,
 oD 14 (.bin .lss 13 (cI 4))]
def zn.r8:List Oper:=[
 oM 17 3,
 oM 18 4,
 oM 19 5,
 oD 20 (.ixa 8 17 18),
 oD 21 (.fa 0 20),
 oD 22 (.ixaa 1 4 21 19),
 oN (.st 1 22 (cI (-1)))]
def zn.r7:List Oper:=[
 oM 15 5,
 oD 16 (.bin .add 15 (cI 1)),
 oM 5 16]
def zn.l0:Code:=.seq (.seq zn.r6 (.cond 14 (.skip) (.exit 2))) (.seq (.block 3 zn.r8) zn.r7)
def zn.r4:List Oper:=[
 oM 11 4,
 oD 12 (.bin .add 11 (cI 1)),
 oM 4 12]
def zn.l1:Code:=.seq (.seq zn.r3 (.cond 10 (.skip) (.exit 0))) (.seq (.block 1 (.seq zn.r5 (.block 2 (.loop zn.l0)))) zn.r4)
def zn.r9:List Oper:=[
 oM 23 3,
 oM 2 23]
def zn.code:Code:=.seq zn.r0 (.seq zn.r1 (.seq (.seq zn.r2 (.block 0 (.loop zn.l1))) (.seq zn.r9 (.ret))))
def zn:Func:=⟨24,[.t 2],zn.code⟩
/-! (*muntin/grid.Grid).Split -/
def ZS.r0:List Oper:=[
 oM 6 (cI 0),
 oM 7 (cI 0)]
def ZS.r1:List Oper:=[
 oM 14 0,
 oD 15 (.eq false .pt 14 (.c (.pn))),
 oM 13 15]
def ZS.r2:List Oper:=[
 oM 6 (cI 0),
 oM 7 (cI 1)]
def ZS.r3:List Oper:=[
 oM 17 0,
 oM 18 1,
 oM 19 2,
 oC 20 75 [17,18,19],
 oD 21 (.un .not 20),
 oM 16 21]
def ZS.r4:List Oper:=[
 oM 6 (cI 0),
 oM 7 (cI 2)]
def ZS.r5:List Oper:=[
 oM 23 0,
 oM 24 1,
 oM 25 2,
 oC 26 54 [23,24,25],
 oM 22 26,
 oD 27 (.ext 22 0),
 oD 28 (.ext 22 1),
 oD 29 (.ext 22 2),
 oM 8 27,
 oM 9 28,
 oM 10 29]
def ZS.r6:List Oper:=[
 oM 30 10,
 oD 31 (.un .not 30)]
def ZS.r7:List Oper:=[
 oM 6 (cI 0),
 oM 7 (cI 9)]
def ZS.r8:List Oper:=[
 oM 33 0,
 oC 34 50 [33],
 oM 32 34,
 oD 35 (.ext 32 0),
 oD 36 (.ext 32 1),
 oM 11 35,
 oM 12 36]
def ZS.r9:List Oper:=[
 oM 37 12,
 oD 38 (.eq true .sc 37 (cI 0))]
def ZS.r10:List Oper:=[
 oM 39 12,
 oM 6 (cI 0),
 oM 7 39]
def ZS.r11:List Oper:=[
 oM 40 0,
 oM 41 1,
 oM 42 2,
 oM 43 11,
 oM 44 9,
 oC 45 76 [40,41,42,43,44]]
def ZS.r12:List Oper:=[
 oM 46 0,
 oM 47 11,
 oM 48 2,
 oM 49 8,
 oM 50 9,
 oC 51 76 [46,47,48,49,50]]
def ZS.r13:List Oper:=[
 oM 52 11,
 oM 6 52,
 oM 7 (cI 0)]
def ZS.code:Code:=.seq ZS.r0 (.seq (.block 0 (.seq ZS.r1 (.cond 13 (.seq ZS.r2 (.ret)) (.seq ZS.r3 (.cond 16 (.seq ZS.r4 (.ret)) (.skip)))))) (.seq ZS.r5 (.seq (.seq ZS.r6 (.cond 31 (.seq ZS.r7 (.ret)) (.skip))) (.seq ZS.r8 (.seq (.seq ZS.r9 (.cond 38 (.seq ZS.r10 (.ret)) (.skip))) (.seq ZS.r11 (.seq ZS.r12 (.seq ZS.r13 (.ret)))))))))
def ZS:Func:=⟨53,[.t 6,.t 7],ZS.code⟩
/-! muntin/muntinref10.Split -/
def ZF.r0:List Oper:=[
 oM 6 (.c (.sn)),
 oM 7 (cI 0),
 oM 8 (cI 0)]
def ZF.r1:List Oper:=[
 oM 13 1,
 oD 14 (.bin .lss 13 (cI 0)),
 oM 15 14,
 oF 16 15 (.mv 1),
 oF 17 15 (.mv 0),
 oF 18 15 (.len 17),
 oF 19 15 (.bin .geq 16 18),
 oD 20 (.pick 15 (.c (.b true)) 19),
 oM 21 20,
 oF 22 21 (.mv 2),
 oF 23 21 (.bin .lss 22 (cI 0)),
 oD 24 (.pick 21 (.c (.b true)) 23),
 oM 25 24,
 oF 26 25 (.mv 2),
 oF 27 25 (.bin .gtr 26 (cI 3)),
 oD 28 (.pick 25 (.c (.b true)) 27)]
def ZF.r2:List Oper:=[
 oM 29 0,
 oM 6 29,
 oM 7 (cI 0),
 oM 8 (cI 2)]
def ZF.r3:List Oper:=[
 oM 30 0,
 oM 31 1,
 oM 32 2,
 oD 33 (.ixa 8 30 31),
 oD 34 (.fa 0 33),
 oD 35 (.ixaa 1 4 34 32),
 oD 36 (.ld false 1 35),
 oM 9 36]
def ZF.r4:List Oper:=[
 oM 37 9,
 oD 38 (.eq false .sc 37 (cI (-1)))]
def ZF.r5:List Oper:=[
 oM 39 0,
 oM 6 39,
 oM 7 (cI 0),
 oM 8 (cI 9)]
def ZF.r6:List Oper:=[
 oM 40 0,
 oD 41 (.len 40),
 oD 42 (.bin .geq 41 (cI 4096))]
def ZF.r7:List Oper:=[
 oM 43 0,
 oM 6 43,
 oM 7 (cI 0),
 oM 8 (cI 6)]
def ZF.r8:List Oper:=[
 oM 44 0,
 oM 45 1,
 oM 46 2,
 oD 47 (.ixa 8 44 45),
 oD 48 (.fa 4 47),
 oD 49 (.ixaa 1 4 48 46),
 oD 50 (.ld false 1 49),
 oM 10 50]
def ZF.r9:List Oper:=[
 oM 51 0,
 oD 52 (.len 51),
 oM 11 52]
def ZF.r10:List Oper:=[
 oC 53 46 [.c (.n 1)],
 oM 12 53]
def ZF.r11:List Oper:=[
 oM 54 0,
 oC 55 65 [54,.c (.n (-1)),.c (.n 0),.c (.n (-1)),.c (.n 0)],
 oM 56 12,
 oD 57 (.ixa 8 56 (cI 0)),
 oD 58 (.ld true 8 57),
 oD 59 (.bsl 8 1 [.n 0,.n 0,.n 0,.n 0,.n 0,.n 0,.n 0,.n 0] [(0,8,.t 58)]),
 oD 60 (.app 8 64 55 59),
 oM 0 60]
def ZF.r12:List Oper:=[
 oM 61 0,
 oM 62 1,
 oM 63 2,
 oM 64 11,
 oM 65 10,
 oC 66 65 [61,62,63,64,65],
 oM 0 66]
def ZF.r13:List Oper:=[
 oM 67 0,
 oM 68 11,
 oM 69 2,
 oM 70 9,
 oM 71 10,
 oC 72 65 [67,68,69,70,71],
 oM 0 72]
def ZF.r14:List Oper:=[
 oM 73 0,
 oM 74 11,
 oM 6 73,
 oM 7 74,
 oM 8 (cI 0)]
def ZF.code:Code:=.seq ZF.r0 (.seq (.seq ZF.r1 (.cond 28 (.seq ZF.r2 (.ret)) (.skip))) (.seq ZF.r3 (.seq (.seq ZF.r4 (.cond 38 (.seq ZF.r5 (.ret)) (.skip))) (.seq (.seq ZF.r6 (.cond 42 (.seq ZF.r7 (.ret)) (.skip))) (.seq ZF.r8 (.seq ZF.r9 (.seq ZF.r10 (.seq (.draw ZF.r11 [(1,4),(1,5)]) (.seq ZF.r12 (.seq ZF.r13 (.seq ZF.r14 (.ret))))))))))))
def ZF:Func:=⟨75,[.t 6,.t 7,.t 8],ZF.code⟩
/-! (*muntin/grid.Grid).Add -/
def Za6.r0:List Oper:=[
 oM 2 (cI 0),
 oM 3 (cI 0)]
def Za6.r1:List Oper:=[
 oM 5 0,
 oD 6 (.eq false .pt 5 (.c (.pn))),
 oM 4 6]
def Za6.r2:List Oper:=[
 oM 2 (cI 0),
 oM 3 (cI 1)]
def Za6.r3:List Oper:=[
 oM 8 0,
 oC 9 55 [8],
 oD 10 (.eq false .sc 9 (cI 4096)),
 oM 7 10]
def Za6.r4:List Oper:=[
 oM 2 (cI 0),
 oM 3 (cI 6)]
def Za6.r5:List Oper:=[
 oM 11 0,
 oM 12 0,
 oD 13 (.nilck 12),
 oD 14 (.fa 0 13),
 oD 15 (.ld false 1 14),
 oC 16 74 [],
 oD 17 (.bsl 8 1 [.n 0,.n 0,.n 0,.n 0,.n 0,.n 0,.n 0,.n 0] [(0,8,.t 16)]),
 oD 18 (.app 8 64 15 17),
 oD 19 (.nilck 11),
 oD 20 (.fa 0 19),
 oN (.st 1 20 18)]
def Za6.r6:List Oper:=[
 oM 21 0,
 oC 22 55 [21],
 oD 23 (.bin .sub 22 (cI 1)),
 oM 2 23,
 oM 3 (cI 0)]
def Za6.code:Code:=.seq Za6.r0 (.seq (.block 0 (.seq Za6.r1 (.cond 4 (.seq Za6.r2 (.ret)) (.seq Za6.r3 (.cond 7 (.seq Za6.r4 (.ret)) (.skip)))))) (.seq (.draw Za6.r5 [(4,5),(4,6)]) (.seq Za6.r6 (.ret))))
def Za6:Func:=⟨24,[.t 2,.t 3],Za6.code⟩
/-! slices.Clone[[]muntin/api.Cell,muntin/api.Cell] -/
def Zat.r0:List Oper:=[
 oM 2 (.c (.sn))]
def Zat.r1:List Oper:=[
 oM 3 0,
 oD 4 (.eq false .sl 3 (.c (.sn)))]
def Zat.r2:List Oper:=[
 oM 2 (.c (.sn))]
def Zat.r3:List Oper:=[
 oD 5 (.bsl 8 0 [.n 0,.n 0,.n 0,.n 0,.n 0,.n 0,.n 0,.n 0] []),
 oM 6 0,
 oD 7 (.app 8 64 5 6),
 oM 2 7]
def Zat.code:Code:=.seq Zat.r0 (.seq (.seq Zat.r1 (.cond 4 (.seq Zat.r2 (.ret)) (.skip))) (.seq Zat.r3 (.ret)))
def Zat:Func:=⟨8,[.t 2],Zat.code⟩
/-! (*muntin/grid.Grid).Join -/
def Zac.r0:List Oper:=[
 oM 10 (cI 0)]
def Zac.r1:List Oper:=[
 oM 12 0,
 oD 13 (.eq false .pt 12 (.c (.pn))),
 oM 11 13]
def Zac.r2:List Oper:=[
 oM 10 (cI 1)]
def Zac.r3:List Oper:=[
 oM 15 0,
 oM 16 1,
 oM 17 2,
 oC 18 75 [15,16,17],
 oD 19 (.un .not 18),
 oM 20 19,
 oF 21 20 (.mv 0),
 oF 22 20 (.mv 3),
 oF 23 20 (.mv 2),
 oF 24 20 (.call (.c (.f 75 [])) [21,22,23]),
 oF 25 20 (.un .not 24),
 oD 26 (.pick 20 (.c (.b true)) 25),
 oM 27 26,
 oF 28 27 (.mv 1),
 oF 29 27 (.mv 3),
 oF 30 27 (.eq false .sc 28 29),
 oD 31 (.pick 27 (.c (.b true)) 30),
 oM 32 31,
 oF 33 32 (.mv 4),
 oF 34 32 (.bin .lss 33 (cI (-2))),
 oD 35 (.pick 32 (.c (.b true)) 34),
 oM 14 35]
def Zac.r4:List Oper:=[
 oM 10 (cI 2)]
def Zac.r5:List Oper:=[
 oM 37 0,
 oD 38 (.nilck 37),
 oD 39 (.fa 0 38),
 oD 40 (.ld false 1 39),
 oM 41 1,
 oM 42 2,
 oD 43 (.ixa 8 40 41),
 oD 44 (.fa 0 43),
 oD 45 (.ixaa 1 4 44 42),
 oD 46 (.ld false 1 45),
 oD 47 (.eq true .sc 46 (cI (-1))),
 oM 48 47,
 oF 49 48 (.mv 0),
 oF 50 48 (.nilck 49),
 oF 51 48 (.fa 0 50),
 oF 52 48 (.ld false 1 51),
 oF 53 48 (.mv 3),
 oF 54 48 (.mv 2),
 oF 55 48 (.call (.c (.f 77 [])) [54,.c (.n 2)]),
 oF 56 48 (.ixa 8 52 53),
 oF 57 48 (.fa 0 56),
 oF 58 48 (.ixaa 1 4 57 55),
 oF 59 48 (.ld false 1 58),
 oF 60 48 (.eq true .sc 59 (cI (-1))),
 oD 61 (.pick 48 (.c (.b true)) 60),
 oM 36 61]
def Zac.r6:List Oper:=[
 oM 10 (cI 9)]
def Zac.r7:List Oper:=[
 oM 62 0,
 oM 63 1,
 oM 64 2,
 oM 65 3,
 oM 66 4,
 oC 67 76 [62,63,64,65,66]]
def Zac.r8:List Oper:=[
 oM 10 (cI 0)]
def Zac.code:Code:=.seq Zac.r0 (.seq (.block 0 (.seq Zac.r1 (.cond 11 (.seq Zac.r2 (.ret)) (.seq Zac.r3 (.cond 14 (.seq Zac.r4 (.ret)) (.seq (.draw Zac.r5 [(15,18)]) (.cond 36 (.seq Zac.r6 (.ret)) (.skip)))))))) (.seq Zac.r7 (.seq Zac.r8 (.ret))))
def Zac:Func:=⟨68,[.t 10],Zac.code⟩
/-! muntin/muntinref10.Join -/
def Zah.r0:List Oper:=[
 oM 10 (.c (.sn)),
 oM 11 (cI 0)]
def Zah.r1:List Oper:=[
 oM 13 1,
 oD 14 (.bin .lss 13 (cI 0)),
 oM 15 14,
 oF 16 15 (.mv 1),
 oF 17 15 (.mv 0),
 oF 18 15 (.len 17),
 oF 19 15 (.bin .geq 16 18),
 oD 20 (.pick 15 (.c (.b true)) 19),
 oM 21 20,
 oF 22 21 (.mv 3),
 oF 23 21 (.bin .lss 22 (cI 0)),
 oD 24 (.pick 21 (.c (.b true)) 23),
 oM 25 24,
 oF 26 25 (.mv 3),
 oF 27 25 (.mv 0),
 oF 28 25 (.len 27),
 oF 29 25 (.bin .geq 26 28),
 oD 30 (.pick 25 (.c (.b true)) 29),
 oM 31 30,
 oF 32 31 (.mv 1),
 oF 33 31 (.mv 3),
 oF 34 31 (.eq false .sc 32 33),
 oD 35 (.pick 31 (.c (.b true)) 34),
 oM 36 35,
 oF 37 36 (.mv 2),
 oF 38 36 (.bin .lss 37 (cI 0)),
 oD 39 (.pick 36 (.c (.b true)) 38),
 oM 40 39,
 oF 41 40 (.mv 2),
 oF 42 40 (.bin .gtr 41 (cI 3)),
 oD 43 (.pick 40 (.c (.b true)) 42),
 oM 44 43,
 oF 45 44 (.mv 4),
 oF 46 44 (.bin .lss 45 (cI (-2))),
 oD 47 (.pick 44 (.c (.b true)) 46)]
def Zah.r2:List Oper:=[
 oM 48 0,
 oM 10 48,
 oM 11 (cI 2)]
def Zah.r3:List Oper:=[
 oM 49 0,
 oM 50 1,
 oM 51 2,
 oD 52 (.ixa 8 49 50),
 oD 53 (.fa 0 52),
 oD 54 (.ixaa 1 4 53 51),
 oD 55 (.ld false 1 54),
 oD 56 (.eq true .sc 55 (cI (-1))),
 oM 57 56,
 oF 58 57 (.mv 0),
 oF 59 57 (.mv 3),
 oF 60 57 (.mv 2),
 oF 61 57 (.bin .add 60 (cI 2)),
 oF 62 57 (.bin .rem 61 (cI 4)),
 oF 63 57 (.ixa 8 58 59),
 oF 64 57 (.fa 0 63),
 oF 65 57 (.ixaa 1 4 64 62),
 oF 66 57 (.ld false 1 65),
 oF 67 57 (.eq true .sc 66 (cI (-1))),
 oD 68 (.pick 57 (.c (.b true)) 67)]
def Zah.r4:List Oper:=[
 oM 69 0,
 oM 10 69,
 oM 11 (cI 9)]
def Zah.r5:List Oper:=[
 oM 70 0,
 oM 71 1,
 oM 72 2,
 oM 73 3,
 oM 74 4,
 oC 75 65 [70,71,72,73,74],
 oM 12 75]
def Zah.r6:List Oper:=[
 oM 76 12,
 oM 10 76,
 oM 11 (cI 0)]
def Zah.code:Code:=.seq Zah.r0 (.seq (.seq Zah.r1 (.cond 47 (.seq Zah.r2 (.ret)) (.skip))) (.seq (.seq Zah.r3 (.cond 68 (.seq Zah.r4 (.ret)) (.skip))) (.seq Zah.r5 (.seq Zah.r6 (.ret)))))
def Zah:Func:=⟨77,[.t 10,.t 11],Zah.code⟩
/-! (*muntin/grid.Grid).Next -/
def Zbp.r0:List Oper:=[
 oM 6 (cI 0),
 oM 7 (cI 0),
 oM 8 (.c (.b false))]
def Zbp.r1:List Oper:=[
 oM 9 0,
 oM 10 1,
 oM 11 2,
 oC 12 75 [9,10,11],
 oD 13 (.un .not 12),
 oM 14 13,
 oF 15 14 (.mv 0),
 oF 16 14 (.nilck 15),
 oF 17 14 (.fa 0 16),
 oF 18 14 (.ld false 1 17),
 oF 19 14 (.mv 1),
 oF 20 14 (.mv 2),
 oF 21 14 (.ixa 8 18 19),
 oF 22 14 (.fa 0 21),
 oF 23 14 (.ixaa 1 4 22 20),
 oF 24 14 (.ld false 1 23),
 oF 25 14 (.eq false .sc 24 (cI (-1))),
 oD 26 (.pick 14 (.c (.b true)) 25)]
def Zbp.r2:List Oper:=[
 oM 6 (cI 0),
 oM 7 (cI 0),
 oM 8 (.c (.b false))]
def Zbp.r3:List Oper:=[
 oM 27 0,
 oD 28 (.nilck 27),
 oD 29 (.fa 0 28),
 oD 30 (.ld false 1 29),
 oM 31 1,
 oM 32 2,
 oD 33 (.ixa 8 30 31),
 oD 34 (.fa 0 33),
 oD 35 (.ixaa 1 4 34 32),
 oD 36 (.ld false 1 35),
 oM 37 0,
 oD 38 (.nilck 37),
 oD 39 (.fa 0 38),
 oD 40 (.ld false 1 39),
 oM 41 1,
 oM 42 2,
 oD 43 (.ixa 8 40 41),
 oD 44 (.fa 4 43),
 oD 45 (.ixaa 1 4 44 42),
 oD 46 (.ld false 1 45),
 oM 6 36,
 oM 7 46,
 oM 8 (.c (.b true))]
def Zbp.code:Code:=.seq Zbp.r0 (.seq (.seq Zbp.r1 (.cond 26 (.seq Zbp.r2 (.ret)) (.skip))) (.seq (.draw Zbp.r3 [(3,13),(9,13),(3,19),(9,19)]) (.ret)))
def Zbp:Func:=⟨47,[.t 6,.t 7,.t 8],Zbp.code⟩
/-! (*muntin/grid.Grid).Len -/
def Zbz.r0:List Oper:=[
 oM 2 (cI 0)]
def Zbz.r1:List Oper:=[
 oM 3 0,
 oD 4 (.eq false .pt 3 (.c (.pn)))]
def Zbz.r2:List Oper:=[
 oM 2 (cI 0)]
def Zbz.r3:List Oper:=[
 oM 5 0,
 oD 6 (.nilck 5),
 oD 7 (.fa 0 6),
 oD 8 (.ld false 1 7),
 oD 9 (.len 8),
 oM 2 9]
def Zbz.code:Code:=.seq Zbz.r0 (.seq (.seq Zbz.r1 (.cond 4 (.seq Zbz.r2 (.ret)) (.skip))) (.seq Zbz.r3 (.ret)))
def Zbz:Func:=⟨10,[.t 2],Zbz.code⟩
/-! muntin/muntinref10.Same -/
def z4.r0:List Oper:=[
 oM 4 (.c (.b false))]
def z4.r1:List Oper:=[
 oM 6 0,
 oD 7 (.len 6),
 oM 8 1,
 oD 9 (.len 8),
 oD 10 (.eq true .sc 7 9)]
def z4.r2:List Oper:=[
 oM 4 (.c (.b false))]
def z4.r3:List Oper:=[
 oM 5 (cI 0)]
def z4.r4:List Oper:=[
 oM 11 5,
 oM 12 0,
 oD 13 (.len 12),
 oD 14 (.bin .lss 11 13)]
def z4.r6:List Oper:=[
 oM 17 0,
 oM 18 5,
 oD 19 (.ixa 8 17 18),
 oD 20 (.ld true 8 19),
 oM 21 1,
 oM 22 5,
 oD 23 (.ixa 8 21 22),
 oD 24 (.ld true 8 23),
 oD 25 (.eq true (.fl [.i,.i,.i,.i,.i,.i,.i,.i]) 20 24)]
def z4.r7:List Oper:=[
 oM 4 (.c (.b false))]
def z4.r5:List Oper:=[
 oM 15 5,
 oD 16 (.bin .add 15 (cI 1)),
 oM 5 16]
def z4.l0:Code:=.seq (.seq z4.r4 (.cond 14 (.skip) (.exit 0))) (.seq (.block 1 (.seq (.draw z4.r6 [(3,7)]) (.cond 25 (.seq z4.r7 (.ret)) (.skip)))) z4.r5)
def z4.r8:List Oper:=[
 oM 4 (.c (.b true))]
def z4.code:Code:=.seq z4.r0 (.seq (.seq z4.r1 (.cond 10 (.seq z4.r2 (.ret)) (.skip))) (.seq (.seq z4.r3 (.block 0 (.loop z4.l0))) (.seq z4.r8 (.ret))))
def z4:Func:=⟨26,[.t 4],z4.code⟩
/-! (*muntin/grid.Grid).Cells -/
def Zbc.r0:List Oper:=[
 oM 2 (.c (.sn))]
def Zbc.r1:List Oper:=[
 oM 3 0,
 oD 4 (.eq false .pt 3 (.c (.pn)))]
def Zbc.r2:List Oper:=[
 oM 2 (.c (.sn))]
def Zbc.r3:List Oper:=[
 oM 5 0,
 oD 6 (.nilck 5),
 oD 7 (.fa 0 6),
 oD 8 (.ld false 1 7),
 oC 9 51 [8],
 oM 2 9]
def Zbc.code:Code:=.seq Zbc.r0 (.seq (.seq Zbc.r1 (.cond 4 (.seq Zbc.r2 (.ret)) (.skip))) (.seq Zbc.r3 (.ret)))
def Zbc:Func:=⟨10,[.t 2],Zbc.code⟩
/-! muntin/front.right -/
def ZcA.r0:List Oper:=[
 oM 2 (.c (.b false))]
def ZcA.r1:List Oper:=[
 oM 3 0,
 oC 4 78 [3,.c (.f 79 [])],
 oD 5 (.un .not 4),
 oM 2 5]
def ZcA.code:Code:=.seq ZcA.r0 (.seq ZcA.r1 (.ret))
def ZcA:Func:=⟨6,[.t 2],ZcA.code⟩
/-! muntin/muntinref10.Nearest -/
def ZM.r0:List Oper:=[
 oM 6 (cI 0)]
def ZM.r1:List Oper:=[
 oM 7 (cI (-1))]
def ZM.r2:List Oper:=[
 oM 8 (cI 0)]
def ZM.r3:List Oper:=[
 oM 9 8,
 oM 10 0,
 oD 11 (.len 10),
 oD 12 (.bin .lss 9 11)]
def ZM.r5:List Oper:=[
 oM 15 2,
 oD 16 (.eq false .sc 15 (cI 0)),
 oM 17 16,
 oT 18 17 (.mv 0),
 oT 19 17 (.mv 8),
 oT 20 17 (.ixa 2 18 19),
 oT 21 17 (.fa 1 20),
 oT 22 17 (.ld false 1 21),
 oT 23 17 (.mv 0),
 oT 24 17 (.mv 1),
 oT 25 17 (.ixa 2 23 24),
 oT 26 17 (.fa 1 25),
 oT 27 17 (.ld false 1 26),
 oT 28 17 (.eq false .sc 22 27),
 oD 29 (.pick 17 28 (.c (.b false))),
 oM 30 29,
 oT 31 30 (.mv 0),
 oT 32 30 (.mv 8),
 oT 33 30 (.ixa 2 31 32),
 oT 34 30 (.fa 0 33),
 oT 35 30 (.ld false 1 34),
 oT 36 30 (.mv 0),
 oT 37 30 (.mv 1),
 oT 38 30 (.ixa 2 36 37),
 oT 39 30 (.fa 0 38),
 oT 40 30 (.ld false 1 39),
 oT 41 30 (.bin .gtr 35 40),
 oD 42 (.pick 30 41 (.c (.b false))),
 oM 43 42,
 oT 44 43 (.mv 7),
 oT 45 43 (.bin .lss 44 (cI 0)),
 oT 46 43 (.mv 45),
 oF 47 46 (.mv 0),
 oF 48 46 (.mv 8),
 oF 49 46 (.ixa 2 47 48),
 oF 50 46 (.fa 0 49),
 oF 51 46 (.ld false 1 50),
 oF 52 46 (.mv 0),
 oF 53 46 (.mv 7),
 oF 54 46 (.ixa 2 52 53),
 oF 55 46 (.fa 0 54),
 oF 56 46 (.ld false 1 55),
 oF 57 46 (.bin .lss 51 56),
 oT 58 43 (.pick 46 (.c (.b true)) 57),
 oD 59 (.pick 43 58 (.c (.b false)))]
def ZM.r6:List Oper:=[
 oM 60 8,
 oM 7 60]
def ZM.r7:List Oper:=[
 oM 61 2,
 oD 62 (.eq false .sc 61 (cI 1)),
 oM 63 62,
 oT 64 63 (.mv 0),
 oT 65 63 (.mv 8),
 oT 66 63 (.ixa 2 64 65),
 oT 67 63 (.fa 0 66),
 oT 68 63 (.ld false 1 67),
 oT 69 63 (.mv 0),
 oT 70 63 (.mv 1),
 oT 71 63 (.ixa 2 69 70),
 oT 72 63 (.fa 0 71),
 oT 73 63 (.ld false 1 72),
 oT 74 63 (.eq false .sc 68 73),
 oD 75 (.pick 63 74 (.c (.b false))),
 oM 76 75,
 oT 77 76 (.mv 0),
 oT 78 76 (.mv 8),
 oT 79 76 (.ixa 2 77 78),
 oT 80 76 (.fa 1 79),
 oT 81 76 (.ld false 1 80),
 oT 82 76 (.mv 0),
 oT 83 76 (.mv 1),
 oT 84 76 (.ixa 2 82 83),
 oT 85 76 (.fa 1 84),
 oT 86 76 (.ld false 1 85),
 oT 87 76 (.bin .gtr 81 86),
 oD 88 (.pick 76 87 (.c (.b false))),
 oM 89 88,
 oT 90 89 (.mv 7),
 oT 91 89 (.bin .lss 90 (cI 0)),
 oT 92 89 (.mv 91),
 oF 93 92 (.mv 0),
 oF 94 92 (.mv 8),
 oF 95 92 (.ixa 2 93 94),
 oF 96 92 (.fa 1 95),
 oF 97 92 (.ld false 1 96),
 oF 98 92 (.mv 0),
 oF 99 92 (.mv 7),
 oF 100 92 (.ixa 2 98 99),
 oF 101 92 (.fa 1 100),
 oF 102 92 (.ld false 1 101),
 oF 103 92 (.bin .lss 97 102),
 oT 104 89 (.pick 92 (.c (.b true)) 103),
 oD 105 (.pick 89 104 (.c (.b false)))]
def ZM.r8:List Oper:=[
 oM 106 8,
 oM 7 106]
def ZM.r4:List Oper:=[
 oM 13 8,
 oD 14 (.bin .add 13 (cI 1)),
 oM 8 14]
def ZM.l0:Code:=.seq (.seq ZM.r3 (.cond 12 (.skip) (.exit 0))) (.seq (.block 1 (.seq (.seq (.draw ZM.r5 [(7,12),(20,25),(36,41)]) (.cond 59 ZM.r6 (.skip))) (.seq (.draw ZM.r7 [(7,12),(20,25),(36,41)]) (.cond 105 ZM.r8 (.skip))))) ZM.r4)
def ZM.r9:List Oper:=[
 oM 107 7,
 oM 6 107]
def ZM.code:Code:=.seq ZM.r0 (.seq ZM.r1 (.seq (.seq ZM.r2 (.block 0 (.loop ZM.l0))) (.seq ZM.r9 (.ret))))
def ZM:Func:=⟨108,[.t 6],ZM.code⟩
/-! muntin/muntinref10.Crossed -/
def Z0.r0:List Oper:=[
 oM 8 (.c (.b false))]
def Z0.r1:List Oper:=[
 oM 9 (cI 0)]
def Z0.r2:List Oper:=[
 oM 14 9,
 oM 15 1,
 oD 16 (.len 15),
 oD 17 (.bin .lss 14 16)]
def Z0.r4:List Oper:=[
 oM 10 (cI 0)]
def Z0.r5:List Oper:=[
 oM 20 10,
 oD 21 (.bin .lss 20 (cI 2))]
def Z0.r7:List Oper:=[
 oM 24 1,
 oM 25 9,
 oM 26 10,
 oD 27 (.ixa 8 24 25),
 oD 28 (.fa 0 27),
 oD 29 (.ixaa 1 4 28 26),
 oD 30 (.ld false 1 29),
 oM 11 30]
def Z0.r8:List Oper:=[
 oM 31 11,
 oD 32 (.bin .lss 31 (cI 0))]
def Z0.r9:List Oper:=[
 oM 33 0,
 oM 34 9,
 oD 35 (.ixa 2 33 34),
 oD 36 (.ld true 2 35),
 oD 12 (.alloc [.n 0,.n 0]),
 oN (.st 2 12 36)]
def Z0.r10:List Oper:=[
 oM 37 0,
 oM 38 11,
 oD 39 (.ixa 2 37 38),
 oD 40 (.ld true 2 39),
 oD 13 (.alloc [.n 0,.n 0]),
 oN (.st 2 13 40)]
def Z0.r11:List Oper:=[
 oD 41 (.fa 1 12),
 oD 42 (.ld false 1 41),
 oD 43 (.fa 1 13),
 oD 44 (.ld false 1 43),
 oD 45 (.eq false .sc 42 44),
 oM 46 45,
 oT 47 46 (.mv 0),
 oT 48 46 (.mv 2),
 oT 49 46 (.ixa 2 47 48),
 oT 50 46 (.fa 0 49),
 oT 51 46 (.ld false 1 50),
 oT 52 46 (.mv 0),
 oT 53 46 (.mv 3),
 oT 54 46 (.ixa 2 52 53),
 oT 55 46 (.fa 0 54),
 oT 56 46 (.ld false 1 55),
 oT 57 46 (.eq false .sc 51 56),
 oD 58 (.pick 46 57 (.c (.b false))),
 oM 59 58,
 oT 60 59 (.fa 0 12),
 oT 61 59 (.ld false 1 60),
 oT 62 59 (.mv 0),
 oT 63 59 (.mv 2),
 oT 64 59 (.ixa 2 62 63),
 oT 65 59 (.fa 0 64),
 oT 66 59 (.ld false 1 65),
 oT 67 59 (.bin .lss 61 66),
 oD 68 (.pick 59 67 (.c (.b false))),
 oM 69 68,
 oT 70 69 (.mv 0),
 oT 71 69 (.mv 2),
 oT 72 69 (.ixa 2 70 71),
 oT 73 69 (.fa 0 72),
 oT 74 69 (.ld false 1 73),
 oT 75 69 (.fa 0 13),
 oT 76 69 (.ld false 1 75),
 oT 77 69 (.bin .lss 74 76),
 oD 78 (.pick 69 77 (.c (.b false))),
 oM 79 78,
 oT 80 79 (.mv 0),
 oT 81 79 (.mv 2),
 oT 82 79 (.ixa 2 80 81),
 oT 83 79 (.fa 1 82),
 oT 84 79 (.ld false 1 83),
 oT 85 79 (.fa 1 12),
 oT 86 79 (.ld false 1 85),
 oT 87 79 (.bin .lss 84 86),
 oD 88 (.pick 79 87 (.c (.b false))),
 oM 89 88,
 oT 90 89 (.fa 1 12),
 oT 91 89 (.ld false 1 90),
 oT 92 89 (.mv 0),
 oT 93 89 (.mv 3),
 oT 94 89 (.ixa 2 92 93),
 oT 95 89 (.fa 1 94),
 oT 96 89 (.ld false 1 95),
 oT 97 89 (.bin .lss 91 96),
 oD 98 (.pick 89 97 (.c (.b false)))]
def Z0.r12:List Oper:=[
 oM 8 (.c (.b true))]
def Z0.r13:List Oper:=[
 oD 99 (.fa 0 12),
 oD 100 (.ld false 1 99),
 oD 101 (.fa 0 13),
 oD 102 (.ld false 1 101),
 oD 103 (.eq false .sc 100 102),
 oM 104 103,
 oT 105 104 (.mv 0),
 oT 106 104 (.mv 2),
 oT 107 104 (.ixa 2 105 106),
 oT 108 104 (.fa 1 107),
 oT 109 104 (.ld false 1 108),
 oT 110 104 (.mv 0),
 oT 111 104 (.mv 3),
 oT 112 104 (.ixa 2 110 111),
 oT 113 104 (.fa 1 112),
 oT 114 104 (.ld false 1 113),
 oT 115 104 (.eq false .sc 109 114),
 oD 116 (.pick 104 115 (.c (.b false))),
 oM 117 116,
 oT 118 117 (.mv 0),
 oT 119 117 (.mv 2),
 oT 120 117 (.ixa 2 118 119),
 oT 121 117 (.fa 0 120),
 oT 122 117 (.ld false 1 121),
 oT 123 117 (.fa 0 12),
 oT 124 117 (.ld false 1 123),
 oT 125 117 (.bin .lss 122 124),
 oD 126 (.pick 117 125 (.c (.b false))),
 oM 127 126,
 oT 128 127 (.fa 0 12),
 oT 129 127 (.ld false 1 128),
 oT 130 127 (.mv 0),
 oT 131 127 (.mv 3),
 oT 132 127 (.ixa 2 130 131),
 oT 133 127 (.fa 0 132),
 oT 134 127 (.ld false 1 133),
 oT 135 127 (.bin .lss 129 134),
 oD 136 (.pick 127 135 (.c (.b false))),
 oM 137 136,
 oT 138 137 (.fa 1 12),
 oT 139 137 (.ld false 1 138),
 oT 140 137 (.mv 0),
 oT 141 137 (.mv 2),
 oT 142 137 (.ixa 2 140 141),
 oT 143 137 (.fa 1 142),
 oT 144 137 (.ld false 1 143),
 oT 145 137 (.bin .lss 139 144),
 oD 146 (.pick 137 145 (.c (.b false))),
 oM 147 146,
 oT 148 147 (.mv 0),
 oT 149 147 (.mv 2),
 oT 150 147 (.ixa 2 148 149),
 oT 151 147 (.fa 1 150),
 oT 152 147 (.ld false 1 151),
 oT 153 147 (.fa 1 13),
 oT 154 147 (.ld false 1 153),
 oT 155 147 (.bin .lss 152 154),
 oD 156 (.pick 147 155 (.c (.b false)))]
def Z0.r14:List Oper:=[
 oM 8 (.c (.b true))]
def Z0.r6:List Oper:=[
 oM 22 10,
 oD 23 (.bin .add 22 (cI 1)),
 oM 10 23]
def Z0.l0:Code:=.seq (.seq Z0.r5 (.cond 21 (.skip) (.exit 2))) (.seq (.block 3 (.seq Z0.r7 (.seq (.seq Z0.r8 (.cond 32 (.exit 3) (.skip))) (.seq Z0.r9 (.seq Z0.r10 (.seq (.seq (.draw Z0.r11 [(1,3),(10,15),(20,25),(33,35),(43,45),(50,55)]) (.cond 98 (.seq Z0.r12 (.ret)) (.skip))) (.seq (.draw Z0.r13 [(1,3),(10,15),(23,25),(30,35),(40,45),(53,55)]) (.cond 156 (.seq Z0.r14 (.ret)) (.skip))))))))) Z0.r6)
def Z0.r3:List Oper:=[
 oM 18 9,
 oD 19 (.bin .add 18 (cI 1)),
 oM 9 19]
def Z0.l1:Code:=.seq (.seq Z0.r2 (.cond 17 (.skip) (.exit 0))) (.seq (.block 1 (.seq Z0.r4 (.block 2 (.loop Z0.l0)))) Z0.r3)
def Z0.r15:List Oper:=[
 oM 8 (.c (.b false))]
def Z0.code:Code:=.seq Z0.r0 (.seq (.seq Z0.r1 (.block 0 (.loop Z0.l1))) (.seq Z0.r15 (.ret)))
def Z0:Func:=⟨157,[.t 8],Z0.code⟩
/-! muntin/muntinref10.with -/
def ZH.r0:List Oper:=[
 oM 10 (.c (.sn))]
def ZH.r1:List Oper:=[
 oM 11 (.c (.sn))]
def ZH.r2:List Oper:=[
 oM 12 (cI 0)]
def ZH.r3:List Oper:=[
 oM 14 12,
 oM 15 0,
 oD 16 (.len 15),
 oD 17 (.bin .lss 14 16)]
def ZH.r5:List Oper:=[
 oM 20 0,
 oM 21 12,
 oD 22 (.ixa 8 20 21),
 oD 23 (.ld true 8 22),
 oD 13 (.alloc [.n 0,.n 0,.n 0,.n 0,.n 0,.n 0,.n 0,.n 0]),
 oN (.st 8 13 23)]
def ZH.r6:List Oper:=[
 oM 24 12,
 oM 25 1,
 oD 26 (.eq false .sc 24 25)]
def ZH.r7:List Oper:=[
 oM 27 2,
 oM 28 3,
 oD 29 (.fa 0 13),
 oD 30 (.ixaa 1 4 29 27),
 oN (.st 1 30 28)]
def ZH.r8:List Oper:=[
 oM 31 2,
 oM 32 4,
 oD 33 (.fa 4 13),
 oD 34 (.ixaa 1 4 33 31),
 oN (.st 1 34 32)]
def ZH.r9:List Oper:=[
 oM 35 12,
 oM 36 3,
 oD 37 (.eq false .sc 35 36)]
def ZH.r10:List Oper:=[
 oM 38 2,
 oD 39 (.bin .add 38 (cI 2)),
 oD 40 (.bin .rem 39 (cI 4)),
 oM 41 1,
 oD 42 (.fa 0 13),
 oD 43 (.ixaa 1 4 42 40),
 oN (.st 1 43 41)]
def ZH.r11:List Oper:=[
 oM 44 2,
 oD 45 (.bin .add 44 (cI 2)),
 oD 46 (.bin .rem 45 (cI 4)),
 oM 47 4,
 oD 48 (.fa 4 13),
 oD 49 (.ixaa 1 4 48 46),
 oN (.st 1 49 47)]
def ZH.r12:List Oper:=[
 oM 50 11,
 oD 51 (.ld true 8 13),
 oD 52 (.bsl 8 1 [.n 0,.n 0,.n 0,.n 0,.n 0,.n 0,.n 0,.n 0] [(0,8,.t 51)]),
 oD 53 (.app 8 64 50 52),
 oM 11 53]
def ZH.r4:List Oper:=[
 oM 18 12,
 oD 19 (.bin .add 18 (cI 1)),
 oM 12 19]
def ZH.l0:Code:=.seq (.seq ZH.r3 (.cond 17 (.skip) (.exit 0))) (.seq (.block 1 (.seq ZH.r5 (.seq (.seq ZH.r6 (.cond 26 (.seq ZH.r7 ZH.r8) (.skip))) (.seq (.seq ZH.r9 (.cond 37 (.seq ZH.r10 ZH.r11) (.skip))) ZH.r12)))) ZH.r4)
def ZH.r13:List Oper:=[
 oM 54 11,
 oM 10 54]
def ZH.code:Code:=.seq ZH.r0 (.seq ZH.r1 (.seq (.seq ZH.r2 (.block 0 (.loop ZH.l0))) (.seq ZH.r13 (.ret))))
def ZH:Func:=⟨55,[.t 10],ZH.code⟩
/-! muntin/grid.Check -/
def z6.r0:List Oper:=[
 oM 2 (cI 0)]
def z6.r1:List Oper:=[
 oM 6 0,
 oD 7 (.len 6),
 oD 8 (.bin .gtr 7 (cI 4096))]
def z6.r2:List Oper:=[
 oM 2 (cI 6)]
def z6.r3:List Oper:=[
 oM 9 0,
 oD 10 (.len 9),
 oM 11 (cI 0)]
def z6.r4:List Oper:=[
 oD 12 (.bin .lss 11 10)]
def z6.r5:List Oper:=[
 oM 13 11,
 oM 3 13]
def z6.r6:List Oper:=[
 oM 14 (cI 0)]
def z6.r7:List Oper:=[
 oD 15 (.bin .lss 14 (cI 4))]
def z6.r8:List Oper:=[
 oM 16 14,
 oM 4 16]
def z6.r9:List Oper:=[
 oM 17 0,
 oM 18 3,
 oM 19 4,
 oC 20 82 [17,18,19],
 oM 5 20]
def z6.r10:List Oper:=[
 oM 21 5,
 oD 22 (.eq true .sc 21 (cI 0))]
def z6.r11:List Oper:=[
 oM 23 5,
 oM 2 23]
def z6.r12:List Oper:=[
 oD 24 (.bin .add 14 (cI 1)),
 oM 14 24]
def z6.l0:Code:=.seq z6.r7 (.seq (.cond 15 (.skip) (.exit 2)) (.seq (.block 3 (.seq z6.r8 (.seq z6.r9 (.seq z6.r10 (.cond 22 (.seq z6.r11 (.ret)) (.skip)))))) z6.r12))
def z6.r13:List Oper:=[
 oD 25 (.bin .add 11 (cI 1)),
 oM 11 25]
def z6.l1:Code:=.seq z6.r4 (.seq (.cond 12 (.skip) (.exit 0)) (.seq (.block 1 (.seq z6.r5 (.seq z6.r6 (.block 2 (.loop z6.l0))))) z6.r13))
def z6.r14:List Oper:=[
 oM 2 (cI 0)]
def z6.code:Code:=.seq z6.r0 (.seq (.seq z6.r1 (.cond 8 (.seq z6.r2 (.ret)) (.skip))) (.seq (.seq z6.r3 (.block 0 (.loop z6.l1))) (.seq z6.r14 (.ret))))
def z6:Func:=⟨26,[.t 2],z6.code⟩
/-! muntin/join.spread -/
def ZZ.r0:List Oper:=[
 oM 4 (.c (.sn)),
 oM 5 (.c (.sn))]
def ZZ.r1:List Oper:=[
 oD 13 (.bsl 1 1 [.n 0] [(0,1,.c (.n (-1)))]),
 oM 14 0,
 oD 15 (.len 14),
 oC 16 83 [13,15],
 oD 17 (.bsl 1 1 [.n 0] [(0,1,.c (.n (-1)))]),
 oM 18 0,
 oD 19 (.len 18),
 oC 20 83 [17,19],
 oM 6 16,
 oM 7 20]
def ZZ.r2:List Oper:=[
 oM 21 1,
 oD 22 (.bsl 1 1 [.n 0] [(0,1,.t 21)]),
 oM 8 22]
def ZZ.r3:List Oper:=[
 oM 23 0,
 oD 24 (.len 23),
 oD 25 (.mks 1 1 [.b false] 24 24),
 oM 9 25]
def ZZ.r4:List Oper:=[
 oM 26 9,
 oM 27 1,
 oD 28 (.ixa 1 26 27),
 oN (.st 1 28 (.c (.b true)))]
def ZZ.r5:List Oper:=[
 oM 29 8,
 oD 30 (.len 29),
 oD 31 (.bin .gtr 30 (cI 0))]
def ZZ.r6:List Oper:=[
 oM 32 8,
 oD 33 (.ixa 1 32 (cI 0)),
 oD 34 (.ld false 1 33),
 oM 10 34]
def ZZ.r7:List Oper:=[
 oM 35 8,
 oD 36 (.slc 1 35 (some (cI 1)) none none),
 oM 8 36]
def ZZ.r8:List Oper:=[
 oM 37 (cI 0)]
def ZZ.r9:List Oper:=[
 oD 38 (.bin .lss 37 (cI 4))]
def ZZ.r10:List Oper:=[
 oM 39 37,
 oM 11 39]
def ZZ.r11:List Oper:=[
 oM 40 0,
 oM 41 10,
 oM 42 11,
 oD 43 (.ixa 8 40 41),
 oD 44 (.fa 0 43),
 oD 45 (.ixaa 1 4 44 42),
 oD 46 (.ld false 1 45),
 oM 12 46]
def ZZ.r12:List Oper:=[
 oM 47 12,
 oD 48 (.bin .geq 47 (cI 0)),
 oM 49 48,
 oT 50 49 (.mv 9),
 oT 51 49 (.mv 12),
 oT 52 49 (.ixa 1 50 51),
 oT 53 49 (.ld false 1 52),
 oT 54 49 (.un .not 53),
 oD 55 (.pick 49 54 (.c (.b false)))]
def ZZ.r13:List Oper:=[
 oM 56 9,
 oM 57 12,
 oM 58 6,
 oM 59 12,
 oM 60 7,
 oM 61 12,
 oM 62 10,
 oM 63 11,
 oD 64 (.ixa 1 56 57),
 oN (.st 1 64 (.c (.b true))),
 oD 65 (.ixa 1 58 59),
 oN (.st 1 65 62),
 oD 66 (.ixa 1 60 61),
 oN (.st 1 66 63)]
def ZZ.r14:List Oper:=[
 oM 67 8,
 oM 68 12,
 oD 69 (.bsl 1 1 [.n 0] [(0,1,.t 68)]),
 oD 70 (.app 1 8 67 69),
 oM 8 70]
def ZZ.r15:List Oper:=[
 oD 71 (.bin .add 37 (cI 1)),
 oM 37 71]
def ZZ.l0:Code:=.seq ZZ.r9 (.seq (.cond 38 (.skip) (.exit 2)) (.seq (.block 3 (.seq ZZ.r10 (.seq ZZ.r11 (.seq ZZ.r12 (.cond 55 (.seq ZZ.r13 ZZ.r14) (.skip)))))) ZZ.r15))
def ZZ.l1:Code:=.seq (.seq ZZ.r5 (.cond 31 (.skip) (.exit 0))) (.block 1 (.seq ZZ.r6 (.seq ZZ.r7 (.seq ZZ.r8 (.block 2 (.loop ZZ.l0))))))
def ZZ.r16:List Oper:=[
 oM 72 6,
 oM 73 7,
 oM 4 72,
 oM 5 73]
def ZZ.code:Code:=.seq ZZ.r0 (.seq ZZ.r1 (.seq ZZ.r2 (.seq ZZ.r3 (.seq ZZ.r4 (.seq (.block 0 (.loop ZZ.l1)) (.seq ZZ.r16 (.ret)))))))
def ZZ:Func:=⟨74,[.t 4,.t 5],ZZ.code⟩
/-! muntin/grid.empty -/
def ZcL.r0:List Oper:=[
 oD 0 (.alloc [.n 0,.n 0,.n 0,.n 0,.n 0,.n 0,.n 0,.n 0])]
def ZcL.r1:List Oper:=[
 oD 1 (.build [.n 0,.n 0,.n 0,.n 0] [(0,1,.c (.n (-1))),(1,1,.c (.n (-1))),(2,1,.c (.n (-1))),(3,1,.c (.n (-1)))]),
 oD 2 (.build [.n 0,.n 0,.n 0,.n 0,.n 0,.n 0,.n 0,.n 0] [(0,4,.t 1)]),
 oN (.st 8 0 2)]
def ZcL.code:Code:=.seq ZcL.r0 (.seq ZcL.r1 (.ret))
def ZcL:Func:=⟨3,[.cell 0 true 8],ZcL.code⟩
/-! (*muntin/grid.Grid).is -/
def Zcy.r0:List Oper:=[
 oM 6 (.c (.b false))]
def Zcy.r1:List Oper:=[
 oM 7 1,
 oD 8 (.bin .geq 7 (cI 0)),
 oM 9 8,
 oT 10 9 (.mv 1),
 oT 11 9 (.mv 0),
 oT 12 9 (.call (.c (.f 55 [])) [11]),
 oT 13 9 (.bin .lss 10 12),
 oD 14 (.pick 9 13 (.c (.b false))),
 oM 15 14,
 oT 16 15 (.mv 2),
 oT 17 15 (.call (.c (.f 90 [])) [16]),
 oD 18 (.pick 15 17 (.c (.b false))),
 oM 6 18]
def Zcy.code:Code:=.seq Zcy.r0 (.seq Zcy.r1 (.ret))
def Zcy:Func:=⟨19,[.t 6],Zcy.code⟩
/-! (*muntin/grid.Grid).lay -/
def ZbL.r0:List Oper:=[
 oM 11 2,
 oC 12 77 [11,.c (.n 2)],
 oM 10 12]
def ZbL.r1:List Oper:=[
 oM 13 0,
 oD 14 (.nilck 13),
 oD 15 (.fa 0 14),
 oD 16 (.ld false 1 15),
 oM 17 1,
 oM 18 2,
 oM 19 0,
 oD 20 (.nilck 19),
 oD 21 (.fa 0 20),
 oD 22 (.ld false 1 21),
 oM 23 1,
 oM 24 2,
 oM 25 3,
 oM 26 4,
 oD 27 (.ixa 8 16 17),
 oD 28 (.fa 0 27),
 oD 29 (.ixaa 1 4 28 18),
 oN (.st 1 29 25),
 oD 30 (.ixa 8 22 23),
 oD 31 (.fa 4 30),
 oD 32 (.ixaa 1 4 31 24),
 oN (.st 1 32 26)]
def ZbL.r2:List Oper:=[
 oM 33 0,
 oD 34 (.nilck 33),
 oD 35 (.fa 0 34),
 oD 36 (.ld false 1 35),
 oM 37 3,
 oM 38 10,
 oM 39 0,
 oD 40 (.nilck 39),
 oD 41 (.fa 0 40),
 oD 42 (.ld false 1 41),
 oM 43 3,
 oM 44 10,
 oM 45 1,
 oM 46 4,
 oD 47 (.ixa 8 36 37),
 oD 48 (.fa 0 47),
 oD 49 (.ixaa 1 4 48 38),
 oN (.st 1 49 45),
 oD 50 (.ixa 8 42 43),
 oD 51 (.fa 4 50),
 oD 52 (.ixaa 1 4 51 44),
 oN (.st 1 52 46)]
def ZbL.code:Code:=.seq ZbL.r0 (.seq (.draw ZbL.r1 [(3,9)]) (.draw ZbL.r2 [(3,9)]))
def ZbL:Func:=⟨53,[],ZbL.code⟩
/-! muntin/compass.Left -/
def ZbB.r0:List Oper:=[
 oM 4 (cI 0)]
def ZbB.r1:List Oper:=[
 oM 5 0,
 oC 6 90 [5],
 oD 7 (.un .not 6)]
def ZbB.r2:List Oper:=[
 oM 4 (cI 0)]
def ZbB.r3:List Oper:=[
 oM 8 0,
 oM 9 1,
 oD 10 (.bin .rem 9 (cI 4)),
 oD 11 (.bin .add 8 10),
 oD 12 (.bin .add 11 (cI 4)),
 oD 13 (.bin .rem 12 (cI 4)),
 oM 4 13]
def ZbB.code:Code:=.seq ZbB.r0 (.seq (.seq ZbB.r1 (.cond 7 (.seq ZbB.r2 (.ret)) (.skip))) (.seq ZbB.r3 (.ret)))
def ZbB:Func:=⟨14,[.t 4],ZbB.code⟩
/-! slices.ContainsFunc[[]int,int] -/
def ZaS.r0:List Oper:=[
 oM 4 (.c (.b false))]
def ZaS.r1:List Oper:=[
 oM 5 0,
 oM 6 1,
 oC 7 91 [5,6],
 oD 8 (.bin .geq 7 (cI 0)),
 oM 4 8]
def ZaS.code:Code:=.seq ZaS.r0 (.seq ZaS.r1 (.ret))
def ZaS:Func:=⟨9,[.t 4],ZaS.code⟩
/-! muntin/front.right$1 -/
def Zch.r0:List Oper:=[
 oM 2 (.c (.b false))]
def Zch.r1:List Oper:=[
 oM 3 0,
 oD 4 (.bin .lss 3 (cI (-2))),
 oM 5 4,
 oF 6 5 (.mv 0),
 oF 7 5 (.bin .gtr 6 (cI 1)),
 oD 8 (.pick 5 (.c (.b true)) 7),
 oM 2 8]
def Zch.code:Code:=.seq Zch.r0 (.seq Zch.r1 (.ret))
def Zch:Func:=⟨9,[.t 2],Zch.code⟩
/-! muntin/grid.side -/
def Za0.r0:List Oper:=[
 oM 6 (cI 0)]
def Za0.r1:List Oper:=[
 oM 10 0,
 oM 11 1,
 oM 12 2,
 oD 13 (.ixa 8 10 11),
 oD 14 (.fa 0 13),
 oD 15 (.ixaa 1 4 14 12),
 oD 16 (.ld false 1 15),
 oM 17 0,
 oM 18 1,
 oM 19 2,
 oD 20 (.ixa 8 17 18),
 oD 21 (.fa 4 20),
 oD 22 (.ixaa 1 4 21 19),
 oD 23 (.ld false 1 22),
 oM 7 16,
 oM 8 23]
def Za0.r2:List Oper:=[
 oM 24 7,
 oD 25 (.eq false .sc 24 (cI (-1)))]
def Za0.r3:List Oper:=[
 oM 26 8,
 oD 27 (.eq true .sc 26 (cI 0))]
def Za0.r4:List Oper:=[
 oM 6 (cI 9)]
def Za0.r5:List Oper:=[
 oM 6 (cI 0)]
def Za0.r6:List Oper:=[
 oM 28 7,
 oD 29 (.bin .lss 28 (cI 0)),
 oM 30 29,
 oF 31 30 (.mv 7),
 oF 32 30 (.mv 0),
 oF 33 30 (.len 32),
 oF 34 30 (.bin .geq 31 33),
 oD 35 (.pick 30 (.c (.b true)) 34),
 oM 36 35,
 oF 37 36 (.mv 7),
 oF 38 36 (.mv 1),
 oF 39 36 (.eq false .sc 37 38),
 oD 40 (.pick 36 (.c (.b true)) 39)]
def Za0.r7:List Oper:=[
 oM 6 (cI 3)]
def Za0.r8:List Oper:=[
 oM 41 2,
 oC 42 77 [41,.c (.n 2)],
 oM 9 42]
def Za0.r9:List Oper:=[
 oM 43 0,
 oM 44 7,
 oM 45 9,
 oD 46 (.ixa 8 43 44),
 oD 47 (.fa 0 46),
 oD 48 (.ixaa 1 4 47 45),
 oD 49 (.ld false 1 48),
 oM 50 1,
 oD 51 (.eq true .sc 49 50),
 oM 52 51,
 oF 53 52 (.mv 0),
 oF 54 52 (.mv 7),
 oF 55 52 (.mv 9),
 oF 56 52 (.ixa 8 53 54),
 oF 57 52 (.fa 4 56),
 oF 58 52 (.ixaa 1 4 57 55),
 oF 59 52 (.ld false 1 58),
 oF 60 52 (.mv 8),
 oF 61 52 (.eq true .sc 59 60),
 oD 62 (.pick 52 (.c (.b true)) 61),
 oM 63 62,
 oF 64 63 (.mv 8),
 oF 65 63 (.bin .lss 64 (cI (-2))),
 oD 66 (.pick 63 (.c (.b true)) 65)]
def Za0.r10:List Oper:=[
 oM 6 (cI 9)]
def Za0.r11:List Oper:=[
 oM 6 (cI 0)]
def Za0.code:Code:=.seq Za0.r0 (.seq (.draw Za0.r1 [(6,13)]) (.seq (.seq Za0.r2 (.cond 25 (.seq (.seq Za0.r3 (.cond 27 (.seq Za0.r4 (.ret)) (.skip))) (.seq Za0.r5 (.ret))) (.skip))) (.seq (.seq Za0.r6 (.cond 40 (.seq Za0.r7 (.ret)) (.skip))) (.seq Za0.r8 (.seq (.seq Za0.r9 (.cond 66 (.seq Za0.r10 (.ret)) (.skip))) (.seq Za0.r11 (.ret)))))))
def Za0:Func:=⟨67,[.t 6],Za0.code⟩
/-! slices.Repeat[[]int,int] -/
def ZT.r0:List Oper:=[
 oM 4 (.c (.sn))]
def ZT.r1:List Oper:=[
 oM 9 1,
 oD 10 (.bin .lss 9 (cI 0))]
def ZT.r2:List Oper:=[
 oD 11 (.bad),
 oN (.bad)]
def ZT.r3:List Oper:=[
 oM 13 0,
 oD 14 (.len 13),
 oD 15 (.conv .u64 14),
 oM 16 1,
 oD 17 (.conv .u64 16),
 oC 18 89 [15,17],
 oM 12 18,
 oD 19 (.ext 12 0),
 oD 20 (.ext 12 1),
 oM 5 19,
 oM 6 20]
def ZT.r4:List Oper:=[
 oM 21 5,
 oD 22 (.bin .gtr 21 (.c (.i .u64 0))),
 oM 23 22,
 oF 24 23 (.mv 6),
 oF 25 23 (.bin .gtr 24 (.c (.i .u64 9223372036854775807))),
 oD 26 (.pick 23 (.c (.b true)) 25)]
def ZT.r5:List Oper:=[
 oD 27 (.bad),
 oN (.bad)]
def ZT.r6:List Oper:=[
 oM 28 6,
 oD 29 (.conv .i64 28),
 oD 30 (.mks 1 8 [.n 0] 29 29),
 oM 7 30]
def ZT.r7:List Oper:=[
 oM 31 7,
 oM 32 0,
 oD 33 (.cpy 1 31 32),
 oM 8 33]
def ZT.r8:List Oper:=[
 oM 34 8,
 oM 35 7,
 oD 36 (.len 35),
 oD 37 (.bin .lss 34 36)]
def ZT.r9:List Oper:=[
 oM 38 8,
 oM 39 7,
 oM 40 8,
 oD 41 (.slc 1 39 (some 40) none none),
 oM 42 7,
 oM 43 8,
 oD 44 (.slc 1 42 none (some 43) none),
 oD 45 (.cpy 1 41 44),
 oD 46 (.bin .add 38 45),
 oM 8 46]
def ZT.l0:Code:=.seq (.seq ZT.r8 (.cond 37 (.skip) (.exit 0))) (.block 1 (.draw ZT.r9 []))
def ZT.r10:List Oper:=[
 oM 47 7,
 oM 4 47]
def ZT.code:Code:=.seq ZT.r0 (.seq (.seq ZT.r1 (.cond 10 ZT.r2 (.skip))) (.seq ZT.r3 (.seq (.seq ZT.r4 (.cond 26 ZT.r5 (.skip))) (.seq ZT.r6 (.seq ZT.r7 (.seq (.block 0 (.loop ZT.l0)) (.seq ZT.r10 (.ret))))))))
def ZT:Func:=⟨48,[.t 4],ZT.code⟩
/-! math/bits.Mul -/
def Zco.r0:List Oper:=[
 oM 4 (.c (.i .u64 0)),
 oM 5 (.c (.i .u64 0))]
def Zco.r1:List Oper:=[
 oM 11 0,
 oD 12 (.conv .u32 11),
 oM 13 1,
 oD 14 (.conv .u32 13),
 oC 15 97 [12,14],
 oM 10 15,
 oD 16 (.ext 10 0),
 oD 17 (.ext 10 1),
 oM 6 16,
 oM 7 17]
def Zco.r2:List Oper:=[
 oM 18 6,
 oD 19 (.conv .u64 18),
 oM 20 7,
 oD 21 (.conv .u64 20),
 oM 4 19,
 oM 5 21]
def Zco.r3:List Oper:=[
 oM 23 0,
 oM 24 1,
 oC 25 98 [23,24],
 oM 22 25,
 oD 26 (.ext 22 0),
 oD 27 (.ext 22 1),
 oM 8 26,
 oM 9 27]
def Zco.r4:List Oper:=[
 oM 28 8,
 oM 29 9,
 oM 4 28,
 oM 5 29]
def Zco.code:Code:=.seq Zco.r0 (.seq (.cond (.c (.b false)) (.seq Zco.r1 (.seq Zco.r2 (.ret))) (.skip)) (.seq Zco.r3 (.seq Zco.r4 (.ret))))
def Zco:Func:=⟨30,[.t 4,.t 5],Zco.code⟩
/-! muntin/compass.Good -/
def Zcw.r0:List Oper:=[
 oM 2 (.c (.b false))]
def Zcw.r1:List Oper:=[
 oM 3 0,
 oD 4 (.bin .geq 3 (cI 0)),
 oM 5 4,
 oT 6 5 (.mv 0),
 oT 7 5 (.bin .leq 6 (cI 3)),
 oD 8 (.pick 5 7 (.c (.b false))),
 oM 2 8]
def Zcw.code:Code:=.seq Zcw.r0 (.seq Zcw.r1 (.ret))
def Zcw:Func:=⟨9,[.t 2],Zcw.code⟩
/-! slices.IndexFunc[[]int,int] -/
def ze.r0:List Oper:=[
 oM 4 (cI 0)]
def ze.r1:List Oper:=[
 oM 6 0,
 oD 7 (.len 6),
 oM 8 (cI 0)]
def ze.r2:List Oper:=[
 oD 9 (.bin .lss 8 7)]
def ze.r3:List Oper:=[
 oM 10 8,
 oM 5 10]
def ze.r4:List Oper:=[
 oM 11 1,
 oM 12 0,
 oM 13 5,
 oD 14 (.ixa 1 12 13),
 oD 15 (.ld false 1 14),
 oD 16 (.call 11 [15])]
def ze.r5:List Oper:=[
 oM 17 5,
 oM 4 17]
def ze.r6:List Oper:=[
 oD 18 (.bin .add 8 (cI 1)),
 oM 8 18]
def ze.l0:Code:=.seq ze.r2 (.seq (.cond 9 (.skip) (.exit 0)) (.seq (.block 1 (.seq ze.r3 (.seq ze.r4 (.cond 16 (.seq ze.r5 (.ret)) (.skip))))) ze.r6))
def ze.r7:List Oper:=[
 oM 4 (cI (-1))]
def ze.code:Code:=.seq ze.r0 (.seq (.seq ze.r1 (.block 0 (.loop ze.l0))) (.seq ze.r7 (.ret)))
def ze:Func:=⟨19,[.t 4],ze.code⟩
/-! math/bits.Mul32 -/
def Zcv.r0:List Oper:=[
 oM 4 (.c (.i .u32 0)),
 oM 5 (.c (.i .u32 0))]
def Zcv.r1:List Oper:=[
 oM 7 0,
 oD 8 (.conv .u64 7),
 oM 9 1,
 oD 10 (.conv .u64 9),
 oD 11 (.bin .mul 8 10),
 oM 6 11]
def Zcv.r2:List Oper:=[
 oM 12 6,
 oD 13 (.bin .shr 12 (.c (.i .u64 32))),
 oD 14 (.conv .u32 13),
 oM 15 6,
 oD 16 (.conv .u32 15),
 oM 4 14,
 oM 5 16]
def Zcv.code:Code:=.seq Zcv.r0 (.seq Zcv.r1 (.seq Zcv.r2 (.ret)))
def Zcv:Func:=⟨17,[.t 4,.t 5],Zcv.code⟩
/-! math/bits.Mul64 -/
def Zaq.r0:List Oper:=[
 oM 4 (.c (.i .u64 0)),
 oM 5 (.c (.i .u64 0))]
def Zaq.r1:List Oper:=[
 oM 14 0,
 oD 15 (.bin .and 14 (.c (.i .u64 4294967295))),
 oM 6 15]
def Zaq.r2:List Oper:=[
 oM 16 0,
 oD 17 (.bin .shr 16 (.c (.i .u64 32))),
 oM 7 17]
def Zaq.r3:List Oper:=[
 oM 18 1,
 oD 19 (.bin .and 18 (.c (.i .u64 4294967295))),
 oM 8 19]
def Zaq.r4:List Oper:=[
 oM 20 1,
 oD 21 (.bin .shr 20 (.c (.i .u64 32))),
 oM 9 21]
def Zaq.r5:List Oper:=[
 oM 22 6,
 oM 23 8,
 oD 24 (.bin .mul 22 23),
 oM 10 24]
def Zaq.r6:List Oper:=[
 oM 25 7,
 oM 26 8,
 oD 27 (.bin .mul 25 26),
 oM 28 10,
 oD 29 (.bin .shr 28 (.c (.i .u64 32))),
 oD 30 (.bin .add 27 29),
 oM 11 30]
def Zaq.r7:List Oper:=[
 oM 31 11,
 oD 32 (.bin .and 31 (.c (.i .u64 4294967295))),
 oM 12 32]
def Zaq.r8:List Oper:=[
 oM 33 11,
 oD 34 (.bin .shr 33 (.c (.i .u64 32))),
 oM 13 34]
def Zaq.r9:List Oper:=[
 oM 35 12,
 oM 36 6,
 oM 37 9,
 oD 38 (.bin .mul 36 37),
 oD 39 (.bin .add 35 38),
 oM 12 39]
def Zaq.r10:List Oper:=[
 oM 40 7,
 oM 41 9,
 oD 42 (.bin .mul 40 41),
 oM 43 13,
 oD 44 (.bin .add 42 43),
 oM 45 12,
 oD 46 (.bin .shr 45 (.c (.i .u64 32))),
 oD 47 (.bin .add 44 46),
 oM 4 47]
def Zaq.r11:List Oper:=[
 oM 48 0,
 oM 49 1,
 oD 50 (.bin .mul 48 49),
 oM 5 50]
def Zaq.code:Code:=.seq Zaq.r0 (.seq Zaq.r1 (.seq Zaq.r2 (.seq Zaq.r3 (.seq Zaq.r4 (.seq Zaq.r5 (.seq Zaq.r6 (.seq Zaq.r7 (.seq Zaq.r8 (.seq Zaq.r9 (.seq Zaq.r10 (.seq Zaq.r11 (.ret))))))))))))
def Zaq:Func:=⟨51,[.t 4,.t 5],Zaq.code⟩
/-! muntin/grid.Of -/
def Zc8.r0:List Oper:=[
 oM 2 (.c (.pn)),
 oM 3 (cI 0)]
def Zc8.r1:List Oper:=[
 oM 5 0,
 oC 6 66 [5],
 oM 4 6]
def Zc8.r2:List Oper:=[
 oM 7 4,
 oD 8 (.eq true .sc 7 (cI 0))]
def Zc8.r3:List Oper:=[
 oM 9 4,
 oM 2 (.c (.pn)),
 oM 3 9]
def Zc8.r4:List Oper:=[
 oM 10 0,
 oC 11 51 [10],
 oD 12 (.build [.sn] [(0,1,.t 11)]),
 oD 13 (.box 12),
 oM 2 13,
 oM 3 (cI 0)]
def Zc8.code:Code:=.seq Zc8.r0 (.seq (.seq Zc8.r1 (.seq Zc8.r2 (.cond 8 (.seq Zc8.r3 (.ret)) (.skip)))) (.seq Zc8.r4 (.ret)))
def Zc8:Func:=⟨14,[.t 2,.t 3],Zc8.code⟩
/-! muntin/muntinref08.Make -/
def Zz.r0:List Oper:=[
 oD 2 (.box 0),
 oD 4 (.alloc [.sn,.sn])]
def Zz.r1:List Oper:=[
 oD 10 (.build [.sn,.sn] []),
 oD 5 (.alloc [.sn,.sn]),
 oN (.st 2 5 10)]
def Zz.r2:List Oper:=[
 oM 6 (cI 0)]
def Zz.r3:List Oper:=[
 oM 11 6,
 oD 12 (.fa 0 2),
 oD 13 (.ld false 1 12),
 oD 14 (.len 13),
 oD 15 (.bin .lss 11 14),
 oM 16 15,
 oT 17 16 (.mv 6),
 oT 18 16 (.mv 1),
 oT 19 16 (.bin .lss 17 18),
 oD 20 (.pick 16 19 (.c (.b false)))]
def Zz.r5:List Oper:=[
 oD 23 (.fa 0 5),
 oD 24 (.ld false 1 23),
 oD 25 (.fa 0 2),
 oD 26 (.ld false 1 25),
 oM 27 6,
 oD 28 (.ixa 1 26 27),
 oD 29 (.ld false 1 28),
 oD 30 (.bsl 1 1 [.b false] [(0,1,.t 29)]),
 oD 31 (.app 1 1 24 30),
 oD 32 (.fa 0 5),
 oN (.st 1 32 31)]
def Zz.r4:List Oper:=[
 oM 21 6,
 oD 22 (.bin .add 21 (cI 1)),
 oM 6 22]
def Zz.l0:Code:=.seq (.seq Zz.r3 (.cond 20 (.skip) (.exit 0))) (.seq (.block 1 (.draw Zz.r5 [(1,3),(1,6),(1,7)])) Zz.r4)
def Zz.r6:List Oper:=[
 oM 7 (cI 0)]
def Zz.r7:List Oper:=[
 oM 33 7,
 oD 34 (.fa 1 2),
 oD 35 (.ld false 1 34),
 oD 36 (.len 35),
 oD 37 (.bin .lss 33 36),
 oM 38 37,
 oT 39 38 (.mv 7),
 oT 40 38 (.mv 1),
 oT 41 38 (.bin .mul (cI 2) 40),
 oT 42 38 (.bin .lss 39 41),
 oD 43 (.pick 38 42 (.c (.b false))),
 oM 44 43,
 oT 45 44 (.fa 0 5),
 oT 46 44 (.ld false 1 45),
 oT 47 44 (.len 46),
 oT 48 44 (.bin .gtr 47 (cI 0)),
 oD 49 (.pick 44 48 (.c (.b false)))]
def Zz.r9:List Oper:=[
 oD 52 (.fa 1 2),
 oD 53 (.ld false 1 52),
 oM 54 7,
 oD 55 (.ixa 3 53 54),
 oD 56 (.ixaa 1 3 55 (cI 0)),
 oD 57 (.ld false 1 56),
 oD 58 (.conv .i64 57),
 oD 59 (.fa 0 5),
 oD 60 (.ld false 1 59),
 oD 61 (.len 60),
 oD 62 (.bin .rem 58 61),
 oD 63 (.fa 1 2),
 oD 64 (.ld false 1 63),
 oM 65 7,
 oD 66 (.ixa 3 64 65),
 oD 67 (.ixaa 1 3 66 (cI 1)),
 oD 68 (.ld false 1 67),
 oD 69 (.conv .i64 68),
 oD 70 (.fa 0 5),
 oD 71 (.ld false 1 70),
 oD 72 (.len 71),
 oD 73 (.bin .rem 69 72),
 oD 74 (.fa 1 2),
 oD 75 (.ld false 1 74),
 oM 76 7,
 oD 77 (.ixa 3 75 76),
 oD 78 (.ixaa 1 3 77 (cI 2)),
 oD 79 (.ld false 1 78),
 oD 80 (.conv .i64 79),
 oD 81 (.bin .rem 80 (cI 4)),
 oD 82 (.build [.n 0,.n 0,.n 0,.s ⟨#[]⟩] [(0,1,.t 62),(1,1,.t 73),(2,1,.t 81)]),
 oD 8 (.alloc [.n 0,.n 0,.n 0,.s ⟨#[]⟩]),
 oN (.st 4 8 82)]
def Zz.r10:List Oper:=[
 oM 83 7,
 oD 84 (.fa 2 2),
 oD 85 (.ld false 1 84),
 oD 86 (.len 85),
 oD 87 (.bin .lss 83 86)]
def Zz.r11:List Oper:=[
 oM 9 (cI 0)]
def Zz.r12:List Oper:=[
 oM 88 9,
 oD 89 (.fa 2 2),
 oD 90 (.ld false 1 89),
 oM 91 7,
 oD 92 (.ixa 1 90 91),
 oD 93 (.ld false 1 92),
 oD 94 (.conv .i64 93),
 oD 95 (.bin .rem 94 (cI 4)),
 oD 96 (.bin .lss 88 95)]
def Zz.r14:List Oper:=[
 oD 99 (.fa 2 2),
 oD 100 (.ld false 1 99),
 oM 101 7,
 oD 102 (.ixa 1 100 101),
 oD 103 (.ld false 1 102),
 oM 104 9,
 oD 105 (.bin .add (cI 2) 104),
 oD 106 (.bin .shr 103 105),
 oD 107 (.bin .and 106 (.c (.i .u8 1))),
 oD 108 (.eq false .sc 107 (.c (.i .u8 1)))]
def Zz.r15:List Oper:=[
 oD 109 (.fa 3 8),
 oD 110 (.ld false 1 109),
 oD 111 (.bin .add 110 (.c (.s ⟨#[76]⟩))),
 oD 112 (.fa 3 8),
 oN (.st 1 112 111)]
def Zz.r16:List Oper:=[
 oD 113 (.fa 3 8),
 oD 114 (.ld false 1 113),
 oD 115 (.bin .add 114 (.c (.s ⟨#[82]⟩))),
 oD 116 (.fa 3 8),
 oN (.st 1 116 115)]
def Zz.r13:List Oper:=[
 oM 97 9,
 oD 98 (.bin .add 97 (cI 1)),
 oM 9 98]
def Zz.l1:Code:=.seq (.seq Zz.r12 (.cond 96 (.skip) (.exit 4))) (.seq (.block 5 (.seq Zz.r14 (.cond 108 Zz.r15 Zz.r16))) Zz.r13)
def Zz.r17:List Oper:=[
 oD 117 (.fa 1 5),
 oD 118 (.ld false 1 117),
 oD 119 (.ld true 4 8),
 oD 120 (.bsl 4 1 [.n 0,.n 0,.n 0,.s ⟨#[]⟩] [(0,4,.t 119)]),
 oD 121 (.app 4 40 118 120),
 oD 122 (.fa 1 5),
 oN (.st 1 122 121)]
def Zz.r8:List Oper:=[
 oM 50 7,
 oD 51 (.bin .add 50 (cI 1)),
 oM 7 51]
def Zz.l2:Code:=.seq (.seq Zz.r7 (.cond 49 (.skip) (.exit 2))) (.seq (.block 3 (.seq (.draw Zz.r9 [(1,8),(5,8),(1,12),(5,12),(8,12),(1,16),(5,16),(8,16),(1,19),(5,19),(8,19),(12,19),(16,19),(1,23),(5,23),(8,23),(12,23),(16,23),(19,23),(1,27),(5,27),(8,27),(12,27),(16,27),(19,27),(1,31),(5,31),(8,31),(12,31),(16,31),(19,31),(23,31),(27,31)]) (.seq (.seq Zz.r10 (.cond 87 (.seq Zz.r11 (.block 4 (.loop Zz.l1))) (.skip))) Zz.r17))) Zz.r8)
def Zz.r18:List Oper:=[
 oD 123 (.ld true 2 5),
 oN (.st 2 4 123)]
def Zz.code:Code:=.seq Zz.r0 (.seq Zz.r1 (.seq (.seq Zz.r2 (.block 0 (.loop Zz.l0))) (.seq (.seq Zz.r6 (.block 2 (.loop Zz.l2))) (.seq Zz.r18 (.ret)))))
def Zz:Func:=⟨124,[.cell 4 true 2],Zz.code⟩
/-! muntin/muntinref11.Wrong -/
def Zp.r0:List Oper:=[
 oD 1 (.box 0),
 oM 2 (cI 0)]
def Zp.r1:List Oper:=[
 oD 10 (.ld true 2 1),
 oC 11 197 [10],
 oM 3 11]
def Zp.r2:List Oper:=[
 oM 12 3,
 oD 13 (.eq true .sc 12 (cI 0))]
def Zp.r3:List Oper:=[
 oM 14 3,
 oM 2 14]
def Zp.r4:List Oper:=[
 oD 15 (.ld true 2 1),
 oC 16 198 [15],
 oM 4 16]
def Zp.r5:List Oper:=[
 oM 17 4,
 oD 18 (.bin .gtr 17 (cI 4096))]
def Zp.r6:List Oper:=[
 oM 2 (cI 6)]
def Zp.r7:List Oper:=[
 oM 5 (cI 0)]
def Zp.r8:List Oper:=[
 oM 19 5,
 oD 20 (.fa 0 1),
 oD 21 (.ld false 1 20),
 oD 22 (.len 21),
 oD 23 (.bin .lss 19 22)]
def Zp.r10:List Oper:=[
 oM 6 (cI 0)]
def Zp.r11:List Oper:=[
 oM 26 6,
 oD 27 (.bin .lss 26 (cI 4)),
 oM 28 27,
 oT 29 28 (.fa 0 1),
 oT 30 28 (.ld false 1 29),
 oT 31 28 (.mv 5),
 oT 32 28 (.ixa 1 30 31),
 oT 33 28 (.ld false 1 32),
 oT 34 28 (.un .not 33),
 oD 35 (.pick 28 34 (.c (.b false)))]
def Zp.r13:List Oper:=[
 oD 38 (.ld true 2 1),
 oM 39 5,
 oM 40 6,
 oC 41 199 [38,39,40],
 oM 7 41]
def Zp.r14:List Oper:=[
 oM 42 7,
 oD 43 (.len 42),
 oD 44 (.bin .gtr 43 (cI 1))]
def Zp.r15:List Oper:=[
 oM 2 (cI 8)]
def Zp.r12:List Oper:=[
 oM 36 6,
 oD 37 (.bin .add 36 (cI 1)),
 oM 6 37]
def Zp.l0:Code:=.seq (.seq Zp.r11 (.cond 35 (.skip) (.exit 2))) (.seq (.block 3 (.seq Zp.r13 (.seq Zp.r14 (.cond 44 (.seq Zp.r15 (.ret)) (.skip))))) Zp.r12)
def Zp.r9:List Oper:=[
 oM 24 5,
 oD 25 (.bin .add 24 (cI 1)),
 oM 5 25]
def Zp.l1:Code:=.seq (.seq Zp.r8 (.cond 23 (.skip) (.exit 0))) (.seq (.block 1 (.seq Zp.r10 (.block 2 (.loop Zp.l0)))) Zp.r9)
def Zp.r16:List Oper:=[
 oM 8 (cI 0)]
def Zp.r17:List Oper:=[
 oM 45 8,
 oD 46 (.fa 1 1),
 oD 47 (.ld false 1 46),
 oD 48 (.len 47),
 oD 49 (.bin .lss 45 48)]
def Zp.r19:List Oper:=[
 oD 52 (.fa 1 1),
 oD 53 (.ld false 1 52),
 oM 54 8,
 oD 55 (.ixa 4 53 54),
 oD 56 (.ld true 4 55),
 oD 9 (.alloc [.n 0,.n 0,.n 0,.s ⟨#[]⟩]),
 oN (.st 4 9 56)]
def Zp.r20:List Oper:=[
 oD 57 (.fa 0 9),
 oD 58 (.ld false 1 57),
 oD 59 (.fa 1 9),
 oD 60 (.ld false 1 59),
 oD 61 (.eq false .sc 58 60),
 oM 62 61,
 oT 63 62 (.fa 3 9),
 oT 64 62 (.ld false 1 63),
 oT 65 62 (.eq false .sc 64 (.c (.s ⟨#[]⟩))),
 oD 66 (.pick 62 65 (.c (.b false))),
 oM 67 66,
 oT 68 67 (.fa 0 1),
 oT 69 67 (.ld false 1 68),
 oT 70 67 (.fa 0 9),
 oT 71 67 (.ld false 1 70),
 oT 72 67 (.ixa 1 69 71),
 oT 73 67 (.ld false 1 72),
 oT 74 67 (.un .not 73),
 oD 75 (.pick 67 74 (.c (.b false)))]
def Zp.r21:List Oper:=[
 oM 2 (cI 10)]
def Zp.r18:List Oper:=[
 oM 50 8,
 oD 51 (.bin .add 50 (cI 1)),
 oM 8 51]
def Zp.l2:Code:=.seq (.seq Zp.r17 (.cond 49 (.skip) (.exit 4))) (.seq (.block 5 (.seq Zp.r19 (.seq Zp.r20 (.cond 75 (.seq Zp.r21 (.ret)) (.skip))))) Zp.r18)
def Zp.r22:List Oper:=[
 oM 2 (cI 0)]
def Zp.code:Code:=.seq Zp.r0 (.seq Zp.r1 (.seq (.seq Zp.r2 (.cond 13 (.seq Zp.r3 (.ret)) (.skip))) (.seq Zp.r4 (.seq (.seq Zp.r5 (.cond 18 (.seq Zp.r6 (.ret)) (.skip))) (.seq (.seq Zp.r7 (.block 0 (.loop Zp.l1))) (.seq (.seq Zp.r16 (.block 4 (.loop Zp.l2))) (.seq Zp.r22 (.ret))))))))
def Zp:Func:=⟨76,[.t 2],Zp.code⟩
/-! muntin/muntinref11.Of -/
def Zi.r0:List Oper:=[
 oD 1 (.box 0),
 oD 2 (.alloc [.sn,.sn,.sn,.sn])]
def Zi.r1:List Oper:=[
 oD 17 (.fa 1 1),
 oD 18 (.ld false 1 17),
 oD 19 (.len 18),
 oD 20 (.mks 2 16 [.n 0,.n 0] 19 19),
 oD 21 (.build [.sn,.sn,.sn,.sn] [(2,1,.t 20)]),
 oD 3 (.alloc [.sn,.sn,.sn,.sn]),
 oN (.st 4 3 21)]
def Zi.r2:List Oper:=[
 oM 4 (cI 0)]
def Zi.r3:List Oper:=[
 oM 22 4,
 oD 23 (.fa 0 1),
 oD 24 (.ld false 1 23),
 oD 25 (.len 24),
 oD 26 (.bin .lss 22 25)]
def Zi.r5:List Oper:=[
 oD 29 (.fa 0 3),
 oD 30 (.ld false 1 29),
 oD 31 (.len 30),
 oM 5 31]
def Zi.r6:List Oper:=[
 oD 32 (.fa 1 3),
 oD 33 (.ld false 1 32),
 oM 34 5,
 oD 35 (.bsl 1 1 [.n 0] [(0,1,.t 34)]),
 oD 36 (.app 1 8 33 35),
 oD 37 (.fa 1 3),
 oN (.st 1 37 36)]
def Zi.r7:List Oper:=[
 oD 38 (.fa 0 1),
 oD 39 (.ld false 1 38),
 oM 40 4,
 oD 41 (.ixa 1 39 40),
 oD 42 (.ld false 1 41)]
def Zi.r8:List Oper:=[
 oD 43 (.ld true 4 3),
 oD 44 (.ld true 2 1),
 oM 45 4,
 oC 46 200 [43,44,45],
 oN (.st 4 3 46)]
def Zi.r9:List Oper:=[
 oC 47 46 [.c (.n 1)],
 oM 6 47]
def Zi.r10:List Oper:=[
 oD 48 (.fa 0 3),
 oD 49 (.ld false 1 48),
 oM 50 6,
 oD 51 (.app 8 64 49 50),
 oD 52 (.fa 0 3),
 oN (.st 1 52 51)]
def Zi.r11:List Oper:=[
 oM 7 (cI 0)]
def Zi.r12:List Oper:=[
 oM 53 7,
 oD 54 (.bin .lss 53 (cI 4))]
def Zi.r14:List Oper:=[
 oD 57 (.ld true 2 1),
 oM 58 4,
 oM 59 7,
 oC 60 199 [57,58,59],
 oM 8 60]
def Zi.r15:List Oper:=[
 oM 9 (cI 0)]
def Zi.r16:List Oper:=[
 oM 61 9,
 oM 62 8,
 oD 63 (.len 62),
 oD 64 (.bin .lss 61 63)]
def Zi.r18:List Oper:=[
 oD 67 (.fa 2 3),
 oD 68 (.ld false 1 67),
 oM 69 8,
 oM 70 9,
 oD 71 (.ixa 1 69 70),
 oD 72 (.ld false 1 71),
 oD 73 (.bin .quo 72 (cI 2)),
 oM 74 8,
 oM 75 9,
 oD 76 (.ixa 1 74 75),
 oD 77 (.ld false 1 76),
 oD 78 (.bin .rem 77 (cI 2)),
 oM 79 5,
 oD 80 (.ixa 2 68 73),
 oD 81 (.ixaa 1 2 80 78),
 oN (.st 1 81 79)]
def Zi.r17:List Oper:=[
 oM 65 9,
 oD 66 (.bin .add 65 (cI 1)),
 oM 9 66]
def Zi.l0:Code:=.seq (.seq Zi.r16 (.cond 64 (.skip) (.exit 4))) (.seq (.block 5 (.draw Zi.r18 [(1,5),(1,10),(5,10)])) Zi.r17)
def Zi.r13:List Oper:=[
 oM 55 7,
 oD 56 (.bin .add 55 (cI 1)),
 oM 7 56]
def Zi.l1:Code:=.seq (.seq Zi.r12 (.cond 54 (.skip) (.exit 2))) (.seq (.block 3 (.seq Zi.r14 (.seq Zi.r15 (.block 4 (.loop Zi.l0))))) Zi.r13)
def Zi.r4:List Oper:=[
 oM 27 4,
 oD 28 (.bin .add 27 (cI 1)),
 oM 4 28]
def Zi.l2:Code:=.seq (.seq Zi.r3 (.cond 26 (.skip) (.exit 0))) (.seq (.block 1 (.seq Zi.r5 (.seq Zi.r6 (.seq (.seq Zi.r7 (.cond 42 (.seq Zi.r8 (.exit 1)) (.skip))) (.seq Zi.r9 (.seq Zi.r10 (.seq Zi.r11 (.block 2 (.loop Zi.l1))))))))) Zi.r4)
def Zi.r19:List Oper:=[
 oM 10 (cI 0)]
def Zi.r20:List Oper:=[
 oM 82 10,
 oD 83 (.fa 1 1),
 oD 84 (.ld false 1 83),
 oD 85 (.len 84),
 oD 86 (.bin .lss 82 85)]
def Zi.r22:List Oper:=[
 oD 89 (.fa 2 3),
 oD 90 (.ld false 1 89),
 oM 91 10,
 oD 92 (.ixa 2 90 91),
 oD 93 (.ixaa 1 2 92 (cI 0)),
 oD 94 (.ld false 1 93),
 oM 11 94]
def Zi.r23:List Oper:=[
 oD 95 (.fa 1 1),
 oD 96 (.ld false 1 95),
 oM 97 10,
 oD 98 (.ixa 4 96 97),
 oD 99 (.fa 2 98),
 oD 100 (.ld false 1 99),
 oM 12 100]
def Zi.r24:List Oper:=[
 oM 101 11,
 oD 102 (.bsl 1 1 [.n 0] [(0,1,.t 101)]),
 oM 13 102]
def Zi.r25:List Oper:=[
 oM 14 (cI 0)]
def Zi.r26:List Oper:=[
 oM 103 14,
 oD 104 (.fa 1 1),
 oD 105 (.ld false 1 104),
 oM 106 10,
 oD 107 (.ixa 4 105 106),
 oD 108 (.fa 3 107),
 oD 109 (.ld false 1 108),
 oD 110 (.slen 109),
 oD 111 (.bin .lss 103 110)]
def Zi.r28:List Oper:=[
 oD 114 (.fa 0 3),
 oD 115 (.ld false 1 114),
 oD 116 (.len 115),
 oM 15 116]
def Zi.r29:List Oper:=[
 oC 117 46 [.c (.n 1)],
 oM 16 117]
def Zi.r30:List Oper:=[
 oD 118 (.fa 0 3),
 oD 119 (.ld false 1 118),
 oM 120 16,
 oD 121 (.app 8 64 119 120),
 oD 122 (.fa 0 3),
 oN (.st 1 122 121)]
def Zi.r31:List Oper:=[
 oD 124 (.fa 0 3),
 oD 125 (.ld false 1 124),
 oM 126 11,
 oM 127 12,
 oM 128 15,
 oM 129 10,
 oC 130 53 [125,126,127,128,129],
 oM 123 130,
 oD 131 (.ext 123 0),
 oD 132 (.ext 123 1),
 oD 133 (.fa 0 3),
 oN (.st 1 133 131)]
def Zi.r32:List Oper:=[
 oM 134 15,
 oM 11 134]
def Zi.r33:List Oper:=[
 oM 135 13,
 oM 136 15,
 oD 137 (.bsl 1 1 [.n 0] [(0,1,.t 136)]),
 oD 138 (.app 1 8 135 137),
 oM 13 138]
def Zi.r34:List Oper:=[
 oD 139 (.fa 1 1),
 oD 140 (.ld false 1 139),
 oM 141 10,
 oD 142 (.ixa 4 140 141),
 oD 143 (.fa 3 142),
 oD 144 (.ld false 1 143),
 oM 145 14,
 oD 146 (.ixs 144 145),
 oD 147 (.eq false .sc 146 (.c (.i .u8 76)))]
def Zi.r35:List Oper:=[
 oM 148 12,
 oD 149 (.bin .add 148 (cI 1)),
 oD 150 (.bin .rem 149 (cI 4)),
 oM 12 150]
def Zi.r36:List Oper:=[
 oM 151 12,
 oD 152 (.bin .add 151 (cI 3)),
 oD 153 (.bin .rem 152 (cI 4)),
 oM 12 153]
def Zi.r27:List Oper:=[
 oM 112 14,
 oD 113 (.bin .add 112 (cI 1)),
 oM 14 113]
def Zi.l3:Code:=.seq (.seq Zi.r26 (.cond 111 (.skip) (.exit 8))) (.seq (.block 9 (.seq Zi.r28 (.seq Zi.r29 (.seq Zi.r30 (.seq Zi.r31 (.seq Zi.r32 (.seq Zi.r33 (.seq Zi.r34 (.cond 147 Zi.r35 Zi.r36))))))))) Zi.r27)
def Zi.r37:List Oper:=[
 oD 155 (.fa 0 3),
 oD 156 (.ld false 1 155),
 oM 157 11,
 oM 158 12,
 oD 159 (.fa 2 3),
 oD 160 (.ld false 1 159),
 oM 161 10,
 oD 162 (.ixa 2 160 161),
 oD 163 (.ixaa 1 2 162 (cI 1)),
 oD 164 (.ld false 1 163),
 oM 165 10,
 oC 166 53 [156,157,158,164,165],
 oM 154 166,
 oD 167 (.ext 154 0),
 oD 168 (.ext 154 1),
 oD 169 (.fa 0 3),
 oN (.st 1 169 167)]
def Zi.r38:List Oper:=[
 oM 170 13,
 oD 171 (.fa 2 3),
 oD 172 (.ld false 1 171),
 oM 173 10,
 oD 174 (.ixa 2 172 173),
 oD 175 (.ixaa 1 2 174 (cI 1)),
 oD 176 (.ld false 1 175),
 oD 177 (.bsl 1 1 [.n 0] [(0,1,.t 176)]),
 oD 178 (.app 1 8 170 177),
 oM 13 178]
def Zi.r39:List Oper:=[
 oD 179 (.fa 3 3),
 oD 180 (.ld false 1 179),
 oM 181 13,
 oD 182 (.bsl 1 1 [.sn] [(0,1,.t 181)]),
 oD 183 (.app 1 24 180 182),
 oD 184 (.fa 3 3),
 oN (.st 1 184 183)]
def Zi.r21:List Oper:=[
 oM 87 10,
 oD 88 (.bin .add 87 (cI 1)),
 oM 10 88]
def Zi.l4:Code:=.seq (.seq Zi.r20 (.cond 86 (.skip) (.exit 6))) (.seq (.block 7 (.seq Zi.r22 (.seq Zi.r23 (.seq Zi.r24 (.seq (.seq Zi.r25 (.block 8 (.loop Zi.l3))) (.seq (.draw Zi.r37 [(1,5),(1,9)]) (.seq Zi.r38 Zi.r39))))))) Zi.r21)
def Zi.r40:List Oper:=[
 oD 185 (.ld true 4 3),
 oN (.st 4 2 185)]
def Zi.code:Code:=.seq Zi.r0 (.seq Zi.r1 (.seq (.seq Zi.r2 (.block 0 (.loop Zi.l2))) (.seq (.seq Zi.r19 (.block 6 (.loop Zi.l4))) (.seq Zi.r40 (.ret)))))
def Zi:Func:=⟨186,[.cell 2 true 4],Zi.code⟩
/-! muntin/valid.Check -/
def Zax.r0:List Oper:=[
 oM 2 (cI 0)]
def Zax.r1:List Oper:=[
 oM 6 0,
 oC 7 66 [6],
 oM 3 7]
def Zax.r2:List Oper:=[
 oM 8 3,
 oD 9 (.eq true .sc 8 (cI 0))]
def Zax.r3:List Oper:=[
 oM 10 3,
 oM 2 10]
def Zax.r4:List Oper:=[
 oM 11 0,
 oC 12 32 [11],
 oD 13 (.un .not 12)]
def Zax.r5:List Oper:=[
 oM 2 (cI 13)]
def Zax.r6:List Oper:=[
 oM 15 0,
 oC 16 201 [15],
 oM 14 16,
 oD 17 (.ext 14 0),
 oD 18 (.ext 14 1),
 oM 4 17,
 oM 5 18]
def Zax.r7:List Oper:=[
 oM 19 5,
 oD 20 (.un .not 19),
 oM 21 20,
 oT 22 21 (.mv 0),
 oT 23 21 (.len 22),
 oT 24 21 (.bin .gtr 23 (cI 1)),
 oD 25 (.pick 21 24 (.c (.b false)))]
def Zax.r8:List Oper:=[
 oM 2 (cI 10)]
def Zax.r9:List Oper:=[
 oM 2 (cI 0)]
def Zax.code:Code:=.seq Zax.r0 (.seq (.seq Zax.r1 (.seq Zax.r2 (.cond 9 (.seq Zax.r3 (.ret)) (.skip)))) (.seq (.seq Zax.r4 (.cond 13 (.seq Zax.r5 (.ret)) (.skip))) (.seq (.seq Zax.r6 (.seq Zax.r7 (.cond 25 (.seq Zax.r8 (.ret)) (.skip)))) (.seq Zax.r9 (.ret)))))
def Zax:Func:=⟨26,[.t 2],Zax.code⟩
/-! muntin/muntinref12.Faces -/
def Zw.r0:List Oper:=[
 oM 2 (.c (.sn))]
def Zw.r1:List Oper:=[
 oM 9 0,
 oD 10 (.len 9),
 oD 11 (.bin .mul (cI 4) 10),
 oD 12 (.mks 1 1 [.b false] 11 11),
 oM 3 12]
def Zw.r2:List Oper:=[
 oM 4 (.c (.sn))]
def Zw.r3:List Oper:=[
 oM 5 (cI 0)]
def Zw.r4:List Oper:=[
 oM 13 5,
 oM 14 0,
 oD 15 (.len 14),
 oD 16 (.bin .lss 13 15)]
def Zw.r6:List Oper:=[
 oM 6 (cI 0)]
def Zw.r7:List Oper:=[
 oM 19 6,
 oD 20 (.bin .lss 19 (cI 4))]
def Zw.r9:List Oper:=[
 oM 23 0,
 oM 24 5,
 oM 25 6,
 oD 26 (.ixa 8 23 24),
 oD 27 (.fa 0 26),
 oD 28 (.ixaa 1 4 27 25),
 oD 29 (.ld false 1 28),
 oD 30 (.bin .lss 29 (cI 0)),
 oM 31 30,
 oF 32 31 (.mv 3),
 oF 33 31 (.mv 5),
 oF 34 31 (.bin .mul (cI 4) 33),
 oF 35 31 (.mv 6),
 oF 36 31 (.bin .add 34 35),
 oF 37 31 (.ixa 1 32 36),
 oF 38 31 (.ld false 1 37),
 oD 39 (.pick 31 (.c (.b true)) 38)]
def Zw.r10:List Oper:=[
 oM 7 (.c (.sn))]
def Zw.r11:List Oper:=[
 oM 40 5,
 oM 41 6,
 oD 42 (.build [.n 0,.n 0] [(0,1,.t 40),(1,1,.t 41)]),
 oD 8 (.alloc [.n 0,.n 0]),
 oN (.st 2 8 42)]
def Zw.r12:List Oper:=[
 oM 43 3,
 oD 44 (.fa 0 8),
 oD 45 (.ld false 1 44),
 oD 46 (.bin .mul (cI 4) 45),
 oD 47 (.fa 1 8),
 oD 48 (.ld false 1 47),
 oD 49 (.bin .add 46 48),
 oD 50 (.ixa 1 43 49),
 oD 51 (.ld false 1 50),
 oD 52 (.un .not 51)]
def Zw.r13:List Oper:=[
 oM 53 3,
 oD 54 (.fa 0 8),
 oD 55 (.ld false 1 54),
 oD 56 (.bin .mul (cI 4) 55),
 oD 57 (.fa 1 8),
 oD 58 (.ld false 1 57),
 oD 59 (.bin .add 56 58),
 oD 60 (.ixa 1 53 59),
 oN (.st 1 60 (.c (.b true)))]
def Zw.r14:List Oper:=[
 oM 61 7,
 oD 62 (.ld true 2 8),
 oD 63 (.bsl 2 1 [.n 0,.n 0] [(0,2,.t 62)]),
 oD 64 (.app 2 16 61 63),
 oM 7 64]
def Zw.r15:List Oper:=[
 oM 65 0,
 oD 66 (.ld true 2 8),
 oC 67 202 [65,66],
 oN (.st 2 8 67)]
def Zw.l0:Code:=.seq (.seq Zw.r12 (.cond 52 (.skip) (.exit 4))) (.block 5 (.seq Zw.r13 (.seq Zw.r14 Zw.r15)))
def Zw.r16:List Oper:=[
 oM 68 4,
 oM 69 7,
 oD 70 (.bsl 1 1 [.sn] [(0,1,.t 69)]),
 oD 71 (.app 1 24 68 70),
 oM 4 71]
def Zw.r8:List Oper:=[
 oM 21 6,
 oD 22 (.bin .add 21 (cI 1)),
 oM 6 22]
def Zw.l1:Code:=.seq (.seq Zw.r7 (.cond 20 (.skip) (.exit 2))) (.seq (.block 3 (.seq (.seq Zw.r9 (.cond 39 (.exit 3) (.skip))) (.seq Zw.r10 (.seq Zw.r11 (.seq (.block 4 (.loop Zw.l0)) Zw.r16))))) Zw.r8)
def Zw.r5:List Oper:=[
 oM 17 5,
 oD 18 (.bin .add 17 (cI 1)),
 oM 5 18]
def Zw.l2:Code:=.seq (.seq Zw.r4 (.cond 16 (.skip) (.exit 0))) (.seq (.block 1 (.seq Zw.r6 (.block 2 (.loop Zw.l1)))) Zw.r5)
def Zw.r17:List Oper:=[
 oM 72 4,
 oM 2 72]
def Zw.code:Code:=.seq Zw.r0 (.seq Zw.r1 (.seq Zw.r2 (.seq (.seq Zw.r3 (.block 0 (.loop Zw.l2))) (.seq Zw.r17 (.ret)))))
def Zw:Func:=⟨73,[.t 2],Zw.code⟩
/-! muntin/front.First -/
def zF.r0:List Oper:=[
 oM 2 (cI 0),
 oM 3 (cI 0),
 oM 4 (.c (.b false))]
def zF.r1:List Oper:=[
 oM 13 0,
 oC 14 195 [13],
 oM 12 14,
 oD 15 (.ext 12 0),
 oD 16 (.ext 12 1),
 oM 5 15,
 oM 6 16]
def zF.r2:List Oper:=[
 oM 17 6,
 oD 18 (.eq true .sc 17 (cI 0))]
def zF.r3:List Oper:=[
 oM 2 (cI 0),
 oM 3 (cI 0),
 oM 4 (.c (.b false))]
def zF.r4:List Oper:=[
 oM 20 0,
 oC 21 203 [20],
 oM 19 21,
 oD 22 (.ext 19 0),
 oD 23 (.ext 19 1),
 oM 7 22,
 oM 8 23]
def zF.r5:List Oper:=[
 oM 24 7,
 oD 25 (.len 24),
 oM 26 (cI 0)]
def zF.r6:List Oper:=[
 oD 27 (.bin .lss 26 25)]
def zF.r7:List Oper:=[
 oM 28 26,
 oD 29 (.ixa 1 24 26),
 oD 30 (.ld false 1 29),
 oM 9 28,
 oM 10 30]
def zF.r8:List Oper:=[
 oM 31 0,
 oM 32 10,
 oC 33 204 [31,32],
 oC 34 91 [33,.c (.f 205 [])],
 oM 11 34]
def zF.r9:List Oper:=[
 oM 35 9,
 oM 36 5,
 oD 37 (.eq true .sc 35 36),
 oM 38 37,
 oT 39 38 (.mv 11),
 oT 40 38 (.bin .geq 39 (cI 0)),
 oD 41 (.pick 38 40 (.c (.b false)))]
def zF.r10:List Oper:=[
 oM 42 9,
 oM 43 11,
 oM 2 42,
 oM 3 43,
 oM 4 (.c (.b true))]
def zF.r11:List Oper:=[
 oD 44 (.bin .add 26 (cI 1)),
 oM 26 44]
def zF.l0:Code:=.seq zF.r6 (.seq (.cond 27 (.skip) (.exit 0)) (.seq (.block 1 (.seq zF.r7 (.seq zF.r8 (.seq zF.r9 (.cond 41 (.seq zF.r10 (.ret)) (.skip)))))) zF.r11))
def zF.r12:List Oper:=[
 oM 2 (cI 0),
 oM 3 (cI 0),
 oM 4 (.c (.b false))]
def zF.code:Code:=.seq zF.r0 (.seq zF.r1 (.seq (.seq zF.r2 (.cond 18 (.seq zF.r3 (.ret)) (.skip))) (.seq zF.r4 (.seq (.seq zF.r5 (.block 0 (.loop zF.l0))) (.seq zF.r12 (.ret))))))
def zF:Func:=⟨45,[.t 2,.t 3,.t 4],zF.code⟩
/-! muntin/muntinref20.First -/
def ZA.r0:List Oper:=[
 oM 2 (cI 0),
 oM 3 (cI 0)]
def ZA.r1:List Oper:=[
 oM 11 0,
 oC 12 181 [11],
 oM 10 12,
 oD 13 (.ext 10 0),
 oD 14 (.ext 10 1),
 oM 4 13,
 oM 5 14]
def ZA.r2:List Oper:=[
 oM 15 5,
 oD 16 (.eq true .sc 15 (cI 0)),
 oM 17 16,
 oF 18 17 (.mv 4),
 oF 19 17 (.bin .lss 18 (cI 0)),
 oD 20 (.pick 17 (.c (.b true)) 19)]
def ZA.r3:List Oper:=[
 oM 2 (cI (-1)),
 oM 3 (cI 0)]
def ZA.r4:List Oper:=[
 oM 21 0,
 oC 22 177 [21],
 oM 6 22]
def ZA.r5:List Oper:=[
 oM 7 (cI 0)]
def ZA.r6:List Oper:=[
 oM 23 7,
 oM 24 6,
 oD 25 (.len 24),
 oD 26 (.bin .lss 23 25)]
def ZA.r8:List Oper:=[
 oM 29 0,
 oM 30 6,
 oM 31 7,
 oD 32 (.ixa 1 30 31),
 oD 33 (.ld false 1 32),
 oC 34 182 [29,33],
 oM 8 34]
def ZA.r9:List Oper:=[
 oM 9 (cI 0)]
def ZA.r10:List Oper:=[
 oM 35 9,
 oM 36 8,
 oD 37 (.len 36),
 oD 38 (.bin .lss 35 37),
 oM 39 38,
 oT 40 39 (.mv 7),
 oT 41 39 (.mv 4),
 oT 42 39 (.eq true .sc 40 41),
 oD 43 (.pick 39 42 (.c (.b false)))]
def ZA.r12:List Oper:=[
 oM 46 8,
 oM 47 9,
 oD 48 (.ixa 1 46 47),
 oD 49 (.ld false 1 48),
 oD 50 (.bin .lss 49 (cI 0))]
def ZA.r13:List Oper:=[
 oM 51 7,
 oM 52 9,
 oM 2 51,
 oM 3 52]
def ZA.r11:List Oper:=[
 oM 44 9,
 oD 45 (.bin .add 44 (cI 1)),
 oM 9 45]
def ZA.l0:Code:=.seq (.seq ZA.r10 (.cond 43 (.skip) (.exit 2))) (.seq (.block 3 (.seq ZA.r12 (.cond 50 (.seq ZA.r13 (.ret)) (.skip)))) ZA.r11)
def ZA.r7:List Oper:=[
 oM 27 7,
 oD 28 (.bin .add 27 (cI 1)),
 oM 7 28]
def ZA.l1:Code:=.seq (.seq ZA.r6 (.cond 26 (.skip) (.exit 0))) (.seq (.block 1 (.seq ZA.r8 (.seq ZA.r9 (.block 2 (.loop ZA.l0))))) ZA.r7)
def ZA.r14:List Oper:=[
 oM 2 (cI (-1)),
 oM 3 (cI 0)]
def ZA.code:Code:=.seq ZA.r0 (.seq ZA.r1 (.seq (.seq ZA.r2 (.cond 20 (.seq ZA.r3 (.ret)) (.skip))) (.seq ZA.r4 (.seq (.seq ZA.r5 (.block 0 (.loop ZA.l1))) (.seq ZA.r14 (.ret))))))
def ZA:Func:=⟨53,[.t 2,.t 3],ZA.code⟩
/-! muntin/muntinref14.Outer -/
def Zs.r0:List Oper:=[
 oM 2 (cI 0),
 oM 3 (cI 0)]
def Zs.r1:List Oper:=[
 oM 11 0,
 oC 12 34 [11],
 oM 4 12]
def Zs.r2:List Oper:=[
 oM 13 4,
 oD 14 (.eq true .sc 13 (cI 0))]
def Zs.r3:List Oper:=[
 oM 15 4,
 oM 2 (cI (-1)),
 oM 3 15]
def Zs.r4:List Oper:=[
 oM 16 0,
 oC 17 30 [16],
 oM 5 17]
def Zs.r5:List Oper:=[
 oM 18 5,
 oD 19 (.len 18),
 oD 20 (.eq true .sc 19 (cI 1))]
def Zs.r6:List Oper:=[
 oM 2 (cI (-1)),
 oM 3 (cI 13)]
def Zs.r7:List Oper:=[
 oM 21 0,
 oD 22 (.len 21),
 oD 23 (.eq false .sc 22 (cI 1))]
def Zs.r8:List Oper:=[
 oM 2 (cI (-1)),
 oM 3 (cI 0)]
def Zs.r9:List Oper:=[
 oM 24 0,
 oC 25 177 [24],
 oM 6 25]
def Zs.r10:List Oper:=[
 oM 7 (cI (-1))]
def Zs.r11:List Oper:=[
 oM 8 (cI 0)]
def Zs.r12:List Oper:=[
 oM 26 8,
 oM 27 6,
 oD 28 (.len 27),
 oD 29 (.bin .lss 26 28)]
def Zs.r14:List Oper:=[
 oM 32 0,
 oM 33 6,
 oM 34 8,
 oD 35 (.ixa 1 33 34),
 oD 36 (.ld false 1 35),
 oC 37 182 [32,36],
 oM 9 37]
def Zs.r15:List Oper:=[
 oM 38 9,
 oC 39 206 [38],
 oM 10 39]
def Zs.r16:List Oper:=[
 oM 40 10,
 oD 41 (.eq true .sc 40 (cI 4)),
 oM 42 41,
 oT 43 42 (.mv 10),
 oT 44 42 (.eq true .sc 43 (cI (-4))),
 oD 45 (.pick 42 44 (.c (.b false))),
 oM 46 45,
 oF 47 46 (.mv 10),
 oF 48 46 (.eq false .sc 47 (cI (-4))),
 oF 49 46 (.mv 48),
 oT 50 49 (.mv 7),
 oT 51 49 (.bin .geq 50 (cI 0)),
 oF 52 46 (.pick 49 51 (.c (.b false))),
 oD 53 (.pick 46 (.c (.b true)) 52)]
def Zs.r17:List Oper:=[
 oM 2 (cI (-1)),
 oM 3 (cI 10)]
def Zs.r18:List Oper:=[
 oM 54 10,
 oD 55 (.eq false .sc 54 (cI (-4)))]
def Zs.r19:List Oper:=[
 oM 56 8,
 oM 7 56]
def Zs.r13:List Oper:=[
 oM 30 8,
 oD 31 (.bin .add 30 (cI 1)),
 oM 8 31]
def Zs.l0:Code:=.seq (.seq Zs.r12 (.cond 29 (.skip) (.exit 0))) (.seq (.block 1 (.seq Zs.r14 (.seq Zs.r15 (.seq (.seq Zs.r16 (.cond 53 (.seq Zs.r17 (.ret)) (.skip))) (.seq Zs.r18 (.cond 55 Zs.r19 (.skip))))))) Zs.r13)
def Zs.r20:List Oper:=[
 oM 57 7,
 oD 58 (.bin .lss 57 (cI 0))]
def Zs.r21:List Oper:=[
 oM 2 (cI (-1)),
 oM 3 (cI 10)]
def Zs.r22:List Oper:=[
 oM 59 7,
 oM 2 59,
 oM 3 (cI 0)]
def Zs.code:Code:=.seq Zs.r0 (.seq Zs.r1 (.seq (.seq Zs.r2 (.cond 14 (.seq Zs.r3 (.ret)) (.skip))) (.seq Zs.r4 (.seq (.seq Zs.r5 (.cond 20 (.seq Zs.r6 (.ret)) (.skip))) (.seq (.seq Zs.r7 (.cond 23 (.seq Zs.r8 (.ret)) (.skip))) (.seq Zs.r9 (.seq Zs.r10 (.seq (.seq Zs.r11 (.block 0 (.loop Zs.l0))) (.seq (.seq Zs.r20 (.cond 58 (.seq Zs.r21 (.ret)) (.skip))) (.seq Zs.r22 (.ret)))))))))))
def Zs:Func:=⟨60,[.t 2,.t 3],Zs.code⟩
/-! muntin/muntinref12.Turns -/
def zq.r0:List Oper:=[
 oM 4 (.c (.sn))]
def zq.r1:List Oper:=[
 oM 5 (.c (.sn))]
def zq.r2:List Oper:=[
 oM 6 (cI 0)]
def zq.r3:List Oper:=[
 oM 9 6,
 oM 10 1,
 oD 11 (.len 10),
 oD 12 (.bin .lss 9 11)]
def zq.r5:List Oper:=[
 oM 15 0,
 oM 16 1,
 oM 17 6,
 oD 18 (.ixa 2 16 17),
 oD 19 (.ld true 2 18),
 oC 20 202 [15,19],
 oD 7 (.alloc [.n 0,.n 0]),
 oN (.st 2 7 20)]
def zq.r6:List Oper:=[
 oM 21 1,
 oM 22 6,
 oD 23 (.ixa 2 21 22),
 oD 24 (.fa 1 23),
 oD 25 (.ld false 1 24),
 oD 26 (.fa 1 7),
 oD 27 (.ld false 1 26),
 oC 28 207 [25,27],
 oM 8 28]
def zq.r7:List Oper:=[
 oM 29 5,
 oM 30 8,
 oD 31 (.bsl 1 1 [.n 0] [(0,1,.t 30)]),
 oD 32 (.app 1 8 29 31),
 oM 5 32]
def zq.r4:List Oper:=[
 oM 13 6,
 oD 14 (.bin .add 13 (cI 1)),
 oM 6 14]
def zq.l0:Code:=.seq (.seq zq.r3 (.cond 12 (.skip) (.exit 0))) (.seq (.block 1 (.seq zq.r5 (.seq (.draw zq.r6 [(4,6)]) zq.r7))) zq.r4)
def zq.r8:List Oper:=[
 oM 33 5,
 oM 4 33]
def zq.code:Code:=.seq zq.r0 (.seq zq.r1 (.seq (.seq zq.r2 (.block 0 (.loop zq.l0))) (.seq zq.r8 (.ret))))
def zq:Func:=⟨34,[.t 4],zq.code⟩
/-! muntin/valid.Outer -/
def ZaL.r0:List Oper:=[
 oM 2 (cI 0),
 oM 3 (cI 0)]
def ZaL.r1:List Oper:=[
 oM 7 0,
 oC 8 176 [7],
 oM 4 8]
def ZaL.r2:List Oper:=[
 oM 9 4,
 oD 10 (.eq true .sc 9 (cI 0))]
def ZaL.r3:List Oper:=[
 oM 11 4,
 oM 2 (cI 0),
 oM 3 11]
def ZaL.r4:List Oper:=[
 oM 13 0,
 oC 14 201 [13],
 oM 12 14,
 oD 15 (.ext 12 0),
 oD 16 (.ext 12 1),
 oM 5 15,
 oM 6 16]
def ZaL.r5:List Oper:=[
 oM 17 6,
 oD 18 (.un .not 17)]
def ZaL.r6:List Oper:=[
 oM 2 (cI 0),
 oM 3 (cI 2)]
def ZaL.r7:List Oper:=[
 oM 19 5,
 oM 2 19,
 oM 3 (cI 0)]
def ZaL.code:Code:=.seq ZaL.r0 (.seq (.seq ZaL.r1 (.seq ZaL.r2 (.cond 10 (.seq ZaL.r3 (.ret)) (.skip)))) (.seq ZaL.r4 (.seq (.seq ZaL.r5 (.cond 18 (.seq ZaL.r6 (.ret)) (.skip))) (.seq ZaL.r7 (.ret)))))
def ZaL:Func:=⟨20,[.t 2,.t 3],ZaL.code⟩
/-! muntin/muntinref08.Check -/
def Z1.r0:List Oper:=[
 oD 1 (.box 0),
 oM 2 (cI 0)]
def Z1.r1:List Oper:=[
 oM 3 (cI 0)]
def Z1.r2:List Oper:=[
 oM 4 (cI 0)]
def Z1.r3:List Oper:=[
 oM 8 4,
 oD 9 (.fa 1 1),
 oD 10 (.ld false 1 9),
 oD 11 (.len 10),
 oD 12 (.bin .lss 8 11)]
def Z1.r5:List Oper:=[
 oM 15 3,
 oD 16 (.fa 1 1),
 oD 17 (.ld false 1 16),
 oM 18 4,
 oD 19 (.ixa 4 17 18),
 oD 20 (.fa 3 19),
 oD 21 (.ld false 1 20),
 oD 22 (.slen 21),
 oD 23 (.bin .add 15 22),
 oM 3 23]
def Z1.r4:List Oper:=[
 oM 13 4,
 oD 14 (.bin .add 13 (cI 1)),
 oM 4 14]
def Z1.l0:Code:=.seq (.seq Z1.r3 (.cond 12 (.skip) (.exit 0))) (.seq (.block 1 Z1.r5) Z1.r4)
def Z1.r6:List Oper:=[
 oD 24 (.fa 0 1),
 oD 25 (.ld false 1 24),
 oD 26 (.len 25),
 oD 27 (.bin .gtr 26 (cI 4096)),
 oM 28 27,
 oF 29 28 (.fa 1 1),
 oF 30 28 (.ld false 1 29),
 oF 31 28 (.len 30),
 oF 32 28 (.bin .gtr 31 (cI 4096)),
 oD 33 (.pick 28 (.c (.b true)) 32),
 oM 34 33,
 oF 35 34 (.mv 3),
 oF 36 34 (.bin .gtr 35 (cI 4096)),
 oD 37 (.pick 34 (.c (.b true)) 36)]
def Z1.r7:List Oper:=[
 oM 2 (cI 6)]
def Z1.r8:List Oper:=[
 oM 5 (cI 0)]
def Z1.r9:List Oper:=[
 oM 38 5,
 oD 39 (.fa 1 1),
 oD 40 (.ld false 1 39),
 oD 41 (.len 40),
 oD 42 (.bin .lss 38 41)]
def Z1.r11:List Oper:=[
 oD 45 (.fa 1 1),
 oD 46 (.ld false 1 45),
 oM 47 5,
 oD 48 (.ixa 4 46 47),
 oD 49 (.ld true 4 48),
 oD 6 (.alloc [.n 0,.n 0,.n 0,.s ⟨#[]⟩]),
 oN (.st 4 6 49)]
def Z1.r12:List Oper:=[
 oD 50 (.fa 0 6),
 oD 51 (.ld false 1 50),
 oD 52 (.bin .lss 51 (cI 0)),
 oM 53 52,
 oF 54 53 (.fa 0 6),
 oF 55 53 (.ld false 1 54),
 oF 56 53 (.fa 0 1),
 oF 57 53 (.ld false 1 56),
 oF 58 53 (.len 57),
 oF 59 53 (.bin .geq 55 58),
 oD 60 (.pick 53 (.c (.b true)) 59),
 oM 61 60,
 oF 62 61 (.fa 1 6),
 oF 63 61 (.ld false 1 62),
 oF 64 61 (.bin .lss 63 (cI 0)),
 oD 65 (.pick 61 (.c (.b true)) 64),
 oM 66 65,
 oF 67 66 (.fa 1 6),
 oF 68 66 (.ld false 1 67),
 oF 69 66 (.fa 0 1),
 oF 70 66 (.ld false 1 69),
 oF 71 66 (.len 70),
 oF 72 66 (.bin .geq 68 71),
 oD 73 (.pick 66 (.c (.b true)) 72)]
def Z1.r13:List Oper:=[
 oM 2 (cI 3)]
def Z1.r14:List Oper:=[
 oD 74 (.fa 3 6),
 oD 75 (.ld false 1 74),
 oC 76 217 [75],
 oM 7 76]
def Z1.r15:List Oper:=[
 oD 77 (.fa 2 6),
 oD 78 (.ld false 1 77),
 oD 79 (.bin .lss 78 (cI 0)),
 oM 80 79,
 oF 81 80 (.fa 2 6),
 oF 82 80 (.ld false 1 81),
 oF 83 80 (.bin .gtr 82 (cI 3)),
 oD 84 (.pick 80 (.c (.b true)) 83),
 oM 85 84,
 oF 86 85 (.mv 7),
 oF 87 85 (.un .not 86),
 oD 88 (.pick 85 (.c (.b true)) 87)]
def Z1.r16:List Oper:=[
 oM 2 (cI 2)]
def Z1.r10:List Oper:=[
 oM 43 5,
 oD 44 (.bin .add 43 (cI 1)),
 oM 5 44]
def Z1.l1:Code:=.seq (.seq Z1.r9 (.cond 42 (.skip) (.exit 2))) (.seq (.block 3 (.seq Z1.r11 (.seq (.seq Z1.r12 (.cond 73 (.seq Z1.r13 (.ret)) (.skip))) (.seq Z1.r14 (.seq Z1.r15 (.cond 88 (.seq Z1.r16 (.ret)) (.skip))))))) Z1.r10)
def Z1.r17:List Oper:=[
 oM 2 (cI 0)]
def Z1.code:Code:=.seq Z1.r0 (.seq Z1.r1 (.seq (.seq Z1.r2 (.block 0 (.loop Z1.l0))) (.seq (.seq Z1.r6 (.cond 37 (.seq Z1.r7 (.ret)) (.skip))) (.seq (.seq Z1.r8 (.block 2 (.loop Z1.l1))) (.seq Z1.r17 (.ret))))))
def Z1:Func:=⟨89,[.t 2],Z1.code⟩
/-! muntin/muntinref11.Count -/
def Zv.r0:List Oper:=[
 oD 1 (.box 0),
 oM 2 (cI 0)]
def Zv.r1:List Oper:=[
 oM 3 (cI 0)]
def Zv.r2:List Oper:=[
 oM 4 (cI 0)]
def Zv.r3:List Oper:=[
 oM 8 4,
 oD 9 (.fa 0 1),
 oD 10 (.ld false 1 9),
 oD 11 (.len 10),
 oD 12 (.bin .lss 8 11)]
def Zv.r5:List Oper:=[
 oM 15 3,
 oD 16 (.bin .add 15 (cI 1)),
 oM 3 16]
def Zv.r6:List Oper:=[
 oM 5 (cI 0)]
def Zv.r7:List Oper:=[
 oM 17 5,
 oD 18 (.bin .lss 17 (cI 4)),
 oM 19 18,
 oT 20 19 (.fa 0 1),
 oT 21 19 (.ld false 1 20),
 oT 22 19 (.mv 4),
 oT 23 19 (.ixa 1 21 22),
 oT 24 19 (.ld false 1 23),
 oD 25 (.pick 19 24 (.c (.b false)))]
def Zv.r9:List Oper:=[
 oD 28 (.ld true 2 1),
 oM 29 4,
 oM 30 5,
 oC 31 199 [28,29,30],
 oM 6 31]
def Zv.r10:List Oper:=[
 oM 32 3,
 oM 33 6,
 oD 34 (.len 33),
 oD 35 (.bin .add 32 34),
 oM 3 35]
def Zv.r8:List Oper:=[
 oM 26 5,
 oD 27 (.bin .add 26 (cI 1)),
 oM 5 27]
def Zv.l0:Code:=.seq (.seq Zv.r7 (.cond 25 (.skip) (.exit 2))) (.seq (.block 3 (.seq Zv.r9 Zv.r10)) Zv.r8)
def Zv.r11:List Oper:=[
 oD 36 (.fa 0 1),
 oD 37 (.ld false 1 36),
 oM 38 4,
 oD 39 (.ixa 1 37 38),
 oD 40 (.ld false 1 39)]
def Zv.r12:List Oper:=[
 oM 41 3,
 oD 42 (.bin .add 41 (cI 3)),
 oM 3 42]
def Zv.r4:List Oper:=[
 oM 13 4,
 oD 14 (.bin .add 13 (cI 1)),
 oM 4 14]
def Zv.l1:Code:=.seq (.seq Zv.r3 (.cond 12 (.skip) (.exit 0))) (.seq (.block 1 (.seq Zv.r5 (.seq (.seq Zv.r6 (.block 2 (.loop Zv.l0))) (.seq Zv.r11 (.cond 40 Zv.r12 (.skip)))))) Zv.r4)
def Zv.r13:List Oper:=[
 oM 7 (cI 0)]
def Zv.r14:List Oper:=[
 oM 43 7,
 oD 44 (.fa 1 1),
 oD 45 (.ld false 1 44),
 oD 46 (.len 45),
 oD 47 (.bin .lss 43 46)]
def Zv.r16:List Oper:=[
 oM 50 3,
 oD 51 (.fa 1 1),
 oD 52 (.ld false 1 51),
 oM 53 7,
 oD 54 (.ixa 4 52 53),
 oD 55 (.fa 3 54),
 oD 56 (.ld false 1 55),
 oD 57 (.slen 56),
 oD 58 (.bin .add 50 57),
 oM 3 58]
def Zv.r15:List Oper:=[
 oM 48 7,
 oD 49 (.bin .add 48 (cI 1)),
 oM 7 49]
def Zv.l2:Code:=.seq (.seq Zv.r14 (.cond 47 (.skip) (.exit 4))) (.seq (.block 5 Zv.r16) Zv.r15)
def Zv.r17:List Oper:=[
 oM 59 3,
 oM 2 59]
def Zv.code:Code:=.seq Zv.r0 (.seq Zv.r1 (.seq (.seq Zv.r2 (.block 0 (.loop Zv.l1))) (.seq (.seq Zv.r13 (.block 4 (.loop Zv.l2))) (.seq Zv.r17 (.ret)))))
def Zv:Func:=⟨60,[.t 2],Zv.code⟩
/-! muntin/muntinref11.On -/
def zp.r0:List Oper:=[
 oD 3 (.box 0),
 oM 6 (.c (.sn))]
def zp.r1:List Oper:=[
 oM 7 (.c (.sn))]
def zp.r2:List Oper:=[
 oM 8 (cI 0)]
def zp.r3:List Oper:=[
 oM 11 8,
 oD 12 (.fa 1 3),
 oD 13 (.ld false 1 12),
 oD 14 (.len 13),
 oD 15 (.bin .lss 11 14)]
def zp.r5:List Oper:=[
 oD 18 (.fa 1 3),
 oD 19 (.ld false 1 18),
 oM 20 8,
 oD 21 (.ixa 4 19 20),
 oD 22 (.ld true 4 21),
 oD 9 (.alloc [.n 0,.n 0,.n 0,.s ⟨#[]⟩]),
 oN (.st 4 9 22)]
def zp.r6:List Oper:=[
 oD 23 (.fa 0 9),
 oD 24 (.ld false 1 23),
 oM 25 1,
 oD 26 (.eq false .sc 24 25),
 oM 27 26,
 oT 28 27 (.fa 2 9),
 oT 29 27 (.ld false 1 28),
 oT 30 27 (.mv 2),
 oT 31 27 (.eq false .sc 29 30),
 oD 32 (.pick 27 31 (.c (.b false)))]
def zp.r7:List Oper:=[
 oM 33 7,
 oM 34 8,
 oD 35 (.bin .mul (cI 2) 34),
 oD 36 (.bsl 1 1 [.n 0] [(0,1,.t 35)]),
 oD 37 (.app 1 8 33 36),
 oM 7 37]
def zp.r8:List Oper:=[
 oD 38 (.ld true 4 9),
 oC 39 218 [38],
 oM 10 39]
def zp.r9:List Oper:=[
 oD 40 (.fa 1 9),
 oD 41 (.ld false 1 40),
 oM 42 1,
 oD 43 (.eq false .sc 41 42),
 oM 44 43,
 oT 45 44 (.mv 10),
 oT 46 44 (.mv 2),
 oT 47 44 (.eq false .sc 45 46),
 oD 48 (.pick 44 47 (.c (.b false)))]
def zp.r10:List Oper:=[
 oM 49 7,
 oM 50 8,
 oD 51 (.bin .mul (cI 2) 50),
 oD 52 (.bin .add 51 (cI 1)),
 oD 53 (.bsl 1 1 [.n 0] [(0,1,.t 52)]),
 oD 54 (.app 1 8 49 53),
 oM 7 54]
def zp.r4:List Oper:=[
 oM 16 8,
 oD 17 (.bin .add 16 (cI 1)),
 oM 8 17]
def zp.l0:Code:=.seq (.seq zp.r3 (.cond 15 (.skip) (.exit 0))) (.seq (.block 1 (.seq zp.r5 (.seq (.seq zp.r6 (.cond 32 zp.r7 (.skip))) (.seq zp.r8 (.seq zp.r9 (.cond 48 zp.r10 (.skip))))))) zp.r4)
def zp.r11:List Oper:=[
 oM 55 7,
 oM 6 55]
def zp.code:Code:=.seq zp.r0 (.seq zp.r1 (.seq (.seq zp.r2 (.block 0 (.loop zp.l0))) (.seq zp.r11 (.ret))))
def zp:Func:=⟨56,[.t 6],zp.code⟩
/-! muntin/muntinref11.box -/
def Zx.r0:List Oper:=[
 oD 3 (.box 0),
 oD 4 (.box 1),
 oD 6 (.alloc [.sn,.sn,.sn,.sn])]
def Zx.r1:List Oper:=[
 oD 17 (.fa 0 3),
 oD 18 (.ld false 1 17),
 oD 19 (.len 18),
 oM 7 19]
def Zx.r2:List Oper:=[
 oC 20 46 [.c (.n 4)],
 oM 8 20]
def Zx.r3:List Oper:=[
 oD 21 (.fa 0 3),
 oD 22 (.ld false 1 21),
 oM 23 8,
 oD 24 (.app 8 64 22 23),
 oD 25 (.fa 0 3),
 oN (.st 1 25 24)]
def Zx.r4:List Oper:=[
 oM 9 (cI 0)]
def Zx.r5:List Oper:=[
 oM 26 9,
 oD 27 (.bin .lss 26 (cI 4))]
def Zx.r7:List Oper:=[
 oM 30 7,
 oD 31 (.bin .add 30 (cI 1)),
 oM 32 7,
 oD 33 (.bin .add 32 (cI 3)),
 oM 34 7,
 oM 35 7,
 oD 36 (.bsl 1 4 [.n 0] [(0,1,.t 31),(1,1,.t 33),(2,1,.t 34),(3,1,.t 35)]),
 oM 37 9,
 oD 38 (.ixa 1 36 37),
 oD 39 (.ld false 1 38),
 oM 10 39]
def Zx.r8:List Oper:=[
 oM 40 7,
 oD 41 (.bin .add 40 (cI 2)),
 oM 42 7,
 oD 43 (.bin .add 42 (cI 2)),
 oM 44 7,
 oD 45 (.bin .add 44 (cI 3)),
 oM 46 7,
 oD 47 (.bin .add 46 (cI 1)),
 oD 48 (.bsl 1 4 [.n 0] [(0,1,.t 41),(1,1,.t 43),(2,1,.t 45),(3,1,.t 47)]),
 oM 49 9,
 oD 50 (.ixa 1 48 49),
 oD 51 (.ld false 1 50),
 oM 11 51]
def Zx.r9:List Oper:=[
 oD 52 (.bsl 1 4 [.n 0] [(0,1,.c (.n 1)),(1,1,.c (.n 0)),(2,1,.c (.n 1)),(3,1,.c (.n 0))]),
 oM 53 9,
 oD 54 (.ixa 1 52 53),
 oD 55 (.ld false 1 54),
 oM 12 55]
def Zx.r10:List Oper:=[
 oD 56 (.ld true 2 4),
 oM 57 2,
 oM 58 9,
 oC 59 199 [56,57,58],
 oM 13 59]
def Zx.r11:List Oper:=[
 oM 14 (cI 0)]
def Zx.r12:List Oper:=[
 oM 60 14,
 oM 61 13,
 oD 62 (.len 61),
 oD 63 (.bin .lss 60 62)]
def Zx.r14:List Oper:=[
 oD 66 (.fa 0 3),
 oD 67 (.ld false 1 66),
 oD 68 (.len 67),
 oM 15 68]
def Zx.r15:List Oper:=[
 oC 69 46 [.c (.n 1)],
 oM 16 69]
def Zx.r16:List Oper:=[
 oD 70 (.fa 0 3),
 oD 71 (.ld false 1 70),
 oM 72 16,
 oD 73 (.app 8 64 71 72),
 oD 74 (.fa 0 3),
 oN (.st 1 74 73)]
def Zx.r17:List Oper:=[
 oD 75 (.fa 2 3),
 oD 76 (.ld false 1 75),
 oM 77 13,
 oM 78 14,
 oD 79 (.ixa 1 77 78),
 oD 80 (.ld false 1 79),
 oD 81 (.bin .quo 80 (cI 2)),
 oM 82 13,
 oM 83 14,
 oD 84 (.ixa 1 82 83),
 oD 85 (.ld false 1 84),
 oD 86 (.bin .rem 85 (cI 2)),
 oM 87 15,
 oD 88 (.ixa 2 76 81),
 oD 89 (.ixaa 1 2 88 86),
 oN (.st 1 89 87)]
def Zx.r18:List Oper:=[
 oD 91 (.fa 0 3),
 oD 92 (.ld false 1 91),
 oM 93 10,
 oM 94 12,
 oM 95 15,
 oC 96 53 [92,93,94,95,.c (.n (-1))],
 oM 90 96,
 oD 97 (.ext 90 0),
 oD 98 (.ext 90 1),
 oD 99 (.fa 0 3),
 oN (.st 1 99 97)]
def Zx.r19:List Oper:=[
 oM 100 15,
 oM 10 100]
def Zx.r13:List Oper:=[
 oM 64 14,
 oD 65 (.bin .add 64 (cI 1)),
 oM 14 65]
def Zx.l0:Code:=.seq (.seq Zx.r12 (.cond 63 (.skip) (.exit 2))) (.seq (.block 3 (.seq Zx.r14 (.seq Zx.r15 (.seq Zx.r16 (.seq (.draw Zx.r17 [(1,5),(1,10),(5,10)]) (.seq Zx.r18 Zx.r19)))))) Zx.r13)
def Zx.r20:List Oper:=[
 oD 102 (.fa 0 3),
 oD 103 (.ld false 1 102),
 oM 104 10,
 oM 105 12,
 oM 106 11,
 oC 107 53 [103,104,105,106,.c (.n (-1))],
 oM 101 107,
 oD 108 (.ext 101 0),
 oD 109 (.ext 101 1),
 oD 110 (.fa 0 3),
 oN (.st 1 110 108)]
def Zx.r6:List Oper:=[
 oM 28 9,
 oD 29 (.bin .add 28 (cI 1)),
 oM 9 29]
def Zx.l1:Code:=.seq (.seq Zx.r5 (.cond 27 (.skip) (.exit 0))) (.seq (.block 1 (.seq Zx.r7 (.seq Zx.r8 (.seq Zx.r9 (.seq Zx.r10 (.seq (.seq Zx.r11 (.block 2 (.loop Zx.l0))) Zx.r20)))))) Zx.r6)
def Zx.r21:List Oper:=[
 oD 111 (.ld true 4 3),
 oN (.st 4 6 111)]
def Zx.code:Code:=.seq Zx.r0 (.seq Zx.r1 (.seq Zx.r2 (.seq Zx.r3 (.seq (.seq Zx.r4 (.block 0 (.loop Zx.l1))) (.seq Zx.r21 (.ret))))))
def Zx:Func:=⟨112,[.cell 6 true 4],Zx.code⟩
/-! muntin/valid.outer -/
def zx.r0:List Oper:=[
 oM 2 (cI 0),
 oM 3 (.c (.b false))]
def zx.r1:List Oper:=[
 oM 10 0,
 oC 11 203 [10],
 oM 9 11,
 oD 12 (.ext 9 0),
 oD 13 (.ext 9 1),
 oM 4 12,
 oM 5 13]
def zx.r2:List Oper:=[
 oM 6 (cI (-1))]
def zx.r3:List Oper:=[
 oM 14 4,
 oD 15 (.len 14),
 oM 16 (cI 0)]
def zx.r4:List Oper:=[
 oD 17 (.bin .lss 16 15)]
def zx.r5:List Oper:=[
 oM 18 16,
 oD 19 (.ixa 1 14 16),
 oD 20 (.ld false 1 19),
 oM 7 18,
 oM 8 20]
def zx.r6:List Oper:=[
 oM 21 0,
 oM 22 8,
 oC 23 204 [21,22],
 oC 24 219 [23]]
def zx.r8:List Oper:=[
 oD 26 (.eq false .sc 24 (cI 4)),
 oM 25 26]
def zx.r9:List Oper:=[
 oD 28 (.eq false .sc 24 (cI (-4))),
 oM 27 28]
def zx.r10:List Oper:=[
 oM 29 6,
 oD 30 (.bin .geq 29 (cI 0))]
def zx.r11:List Oper:=[
 oM 2 (cI 0),
 oM 3 (.c (.b false))]
def zx.r12:List Oper:=[
 oM 31 7,
 oM 6 31]
def zx.r7:List Oper:=[
 oM 2 (cI 0),
 oM 3 (.c (.b false))]
def zx.r13:List Oper:=[
 oD 32 (.bin .add 16 (cI 1)),
 oM 16 32]
def zx.l0:Code:=.seq zx.r4 (.seq (.cond 17 (.skip) (.exit 0)) (.seq (.block 1 (.seq zx.r5 (.seq zx.r6 (.block 2 (.seq zx.r8 (.cond 25 (.skip) (.seq zx.r9 (.cond 27 (.seq (.seq zx.r10 (.cond 30 (.seq zx.r11 (.ret)) (.skip))) zx.r12) (.seq zx.r7 (.ret)))))))))) zx.r13))
def zx.r14:List Oper:=[
 oM 33 6,
 oM 34 6,
 oD 35 (.bin .geq 34 (cI 0)),
 oM 2 33,
 oM 3 35]
def zx.code:Code:=.seq zx.r0 (.seq zx.r1 (.seq zx.r2 (.seq (.seq zx.r3 (.block 0 (.loop zx.l0))) (.seq zx.r14 (.ret)))))
def zx:Func:=⟨36,[.t 2,.t 3],zx.code⟩
/-! muntin/muntinref12.Behind -/
def ZX.r0:List Oper:=[
 oD 3 (.box 1),
 oD 4 (.alloc [.n 0,.n 0])]
def ZX.r1:List Oper:=[
 oM 9 0,
 oD 10 (.fa 0 3),
 oD 11 (.ld false 1 10),
 oD 12 (.fa 1 3),
 oD 13 (.ld false 1 12),
 oD 14 (.ixa 8 9 11),
 oD 15 (.fa 0 14),
 oD 16 (.ixaa 1 4 15 13),
 oD 17 (.ld false 1 16),
 oM 5 17]
def ZX.r2:List Oper:=[
 oD 18 (.bsl 1 4 [.n 0] [(0,1,.c (.n 1)),(1,1,.c (.n 0)),(2,1,.c (.n 3)),(3,1,.c (.n 2))]),
 oM 6 18]
def ZX.r3:List Oper:=[
 oM 7 (cI 0)]
def ZX.r4:List Oper:=[
 oM 19 7,
 oD 20 (.bin .lss 19 (cI 4))]
def ZX.r6:List Oper:=[
 oD 23 (.fa 1 3),
 oD 24 (.ld false 1 23),
 oM 25 6,
 oM 26 7,
 oD 27 (.ixa 1 25 26),
 oD 28 (.ld false 1 27),
 oD 29 (.bin .add 24 28),
 oD 30 (.bin .rem 29 (cI 4)),
 oM 8 30]
def ZX.r7:List Oper:=[
 oM 31 0,
 oM 32 5,
 oM 33 8,
 oD 34 (.ixa 8 31 32),
 oD 35 (.fa 0 34),
 oD 36 (.ixaa 1 4 35 33),
 oD 37 (.ld false 1 36),
 oD 38 (.bin .geq 37 (cI 0))]
def ZX.r8:List Oper:=[
 oM 39 5,
 oM 40 8,
 oD 41 (.build [.n 0,.n 0] [(0,1,.t 39),(1,1,.t 40)]),
 oN (.st 2 4 41)]
def ZX.r5:List Oper:=[
 oM 21 7,
 oD 22 (.bin .add 21 (cI 1)),
 oM 7 22]
def ZX.l0:Code:=.seq (.seq ZX.r4 (.cond 20 (.skip) (.exit 0))) (.seq (.block 1 (.seq (.draw ZX.r6 [(1,5)]) (.seq ZX.r7 (.cond 38 (.seq ZX.r8 (.ret)) (.skip))))) ZX.r5)
def ZX.r9:List Oper:=[
 oD 42 (.ld true 2 3),
 oN (.st 2 4 42)]
def ZX.code:Code:=.seq ZX.r0 (.seq (.draw ZX.r1 [(2,4)]) (.seq ZX.r2 (.seq (.seq ZX.r3 (.block 0 (.loop ZX.l0))) (.seq ZX.r9 (.ret)))))
def ZX:Func:=⟨43,[.cell 4 true 2],ZX.code⟩
/-! muntin/face.Faces -/
def ZD.r0:List Oper:=[
 oM 2 (.c (.sn)),
 oM 3 (cI 0)]
def ZD.r1:List Oper:=[
 oM 12 0,
 oC 13 66 [12],
 oM 4 13]
def ZD.r2:List Oper:=[
 oM 14 4,
 oD 15 (.eq true .sc 14 (cI 0))]
def ZD.r3:List Oper:=[
 oM 16 4,
 oM 2 (.c (.sn)),
 oM 3 16]
def ZD.r4:List Oper:=[
 oM 5 (.c (.sn))]
def ZD.r5:List Oper:=[
 oD 17 (.mkm),
 oM 6 17]
def ZD.r6:List Oper:=[
 oM 18 0,
 oD 19 (.len 18),
 oM 20 (cI 0)]
def ZD.r7:List Oper:=[
 oD 21 (.bin .lss 20 19)]
def ZD.r8:List Oper:=[
 oM 22 20,
 oM 7 22]
def ZD.r9:List Oper:=[
 oM 23 (cI 0)]
def ZD.r10:List Oper:=[
 oD 24 (.bin .lss 23 (cI 4))]
def ZD.r11:List Oper:=[
 oM 25 23,
 oM 8 25]
def ZD.r12:List Oper:=[
 oM 26 7,
 oM 27 8,
 oD 28 (.build [.n 0,.n 0] [(0,1,.t 26),(1,1,.t 27)]),
 oD 9 (.alloc [.n 0,.n 0]),
 oN (.st 2 9 28)]
def ZD.r13:List Oper:=[
 oD 29 (.ld true 2 9),
 oM 30 0,
 oC 31 220 [29,30],
 oD 32 (.un .not 31),
 oM 33 32,
 oF 34 33 (.mv 6),
 oF 35 33 (.ld true 2 9),
 oF 36 33 (.mlk [.i,.i] false (.b false) 34 35),
 oD 37 (.pick 33 (.c (.b true)) 36)]
def ZD.r14:List Oper:=[
 oM 10 (.c (.sn))]
def ZD.r15:List Oper:=[
 oD 38 (.ld true 2 9),
 oD 11 (.alloc [.n 0,.n 0]),
 oN (.st 2 11 38)]
def ZD.r16:List Oper:=[
 oM 39 6,
 oD 40 (.ld true 2 11),
 oD 41 (.mlk [.i,.i] false (.b false) 39 40),
 oD 42 (.un .not 41)]
def ZD.r18:List Oper:=[
 oM 46 6,
 oD 47 (.ld true 2 11),
 oN (.mup [.i,.i] 46 47 (.c (.b true)))]
def ZD.r19:List Oper:=[
 oM 48 10,
 oD 49 (.ld true 2 11),
 oD 50 (.bsl 2 1 [.n 0,.n 0] [(0,2,.t 49)]),
 oD 51 (.app 2 16 48 50),
 oM 10 51]
def ZD.r20:List Oper:=[
 oD 52 (.ld true 2 11)]
def ZD.r21:List Oper:=[
 oD 11 (.alloc [.n 0,.n 0]),
 oN (.st 2 11 52)]
def ZD.r17:List Oper:=[
 oD 43 (.ld true 2 11),
 oM 44 0,
 oC 45 221 [43,44],
 oN (.st 2 11 45)]
def ZD.l0:Code:=.seq (.seq ZD.r16 (.cond 42 (.skip) (.exit 4))) (.seq (.block 5 (.seq ZD.r18 ZD.r19)) (.seq (.seq ZD.r20 ZD.r21) ZD.r17))
def ZD.r22:List Oper:=[
 oM 53 5,
 oM 54 10,
 oD 55 (.bsl 1 1 [.sn] [(0,1,.t 54)]),
 oD 56 (.app 1 24 53 55),
 oM 5 56]
def ZD.r23:List Oper:=[
 oD 57 (.bin .add 23 (cI 1)),
 oM 23 57]
def ZD.l1:Code:=.seq ZD.r10 (.seq (.cond 24 (.skip) (.exit 2)) (.seq (.block 3 (.seq ZD.r11 (.seq ZD.r12 (.seq (.seq ZD.r13 (.cond 37 (.exit 3) (.skip))) (.seq ZD.r14 (.seq (.seq ZD.r15 (.block 4 (.loop ZD.l0))) ZD.r22)))))) ZD.r23))
def ZD.r24:List Oper:=[
 oD 58 (.bin .add 20 (cI 1)),
 oM 20 58]
def ZD.l2:Code:=.seq ZD.r7 (.seq (.cond 21 (.skip) (.exit 0)) (.seq (.block 1 (.seq ZD.r8 (.seq ZD.r9 (.block 2 (.loop ZD.l1))))) ZD.r24))
def ZD.r25:List Oper:=[
 oM 59 5,
 oM 2 59,
 oM 3 (cI 0)]
def ZD.code:Code:=.seq ZD.r0 (.seq (.seq ZD.r1 (.seq ZD.r2 (.cond 15 (.seq ZD.r3 (.ret)) (.skip)))) (.seq ZD.r4 (.seq ZD.r5 (.seq (.seq ZD.r6 (.block 0 (.loop ZD.l2))) (.seq ZD.r25 (.ret))))))
def ZD:Func:=⟨60,[.t 2,.t 3],ZD.code⟩
/-! muntin/face.Turns -/
def Zar.r0:List Oper:=[
 oM 4 (.c (.sn))]
def Zar.r1:List Oper:=[
 oM 8 1,
 oD 9 (.len 8),
 oD 10 (.mks 1 8 [.n 0] 9 9),
 oM 5 10]
def Zar.r2:List Oper:=[
 oM 11 0,
 oC 12 66 [11],
 oD 13 (.eq true .sc 12 (cI 0))]
def Zar.r3:List Oper:=[
 oM 14 5,
 oM 4 14]
def Zar.r4:List Oper:=[
 oM 15 1,
 oD 16 (.len 15),
 oM 17 (cI 0)]
def Zar.r5:List Oper:=[
 oD 18 (.bin .lss 17 16)]
def Zar.r6:List Oper:=[
 oM 19 17,
 oD 20 (.ixa 2 15 17),
 oD 21 (.ld true 2 20),
 oD 7 (.alloc [.n 0,.n 0]),
 oM 6 19,
 oN (.st 2 7 21)]
def Zar.r7:List Oper:=[
 oD 22 (.ld true 2 7),
 oM 23 0,
 oC 24 220 [22,23]]
def Zar.r8:List Oper:=[
 oM 25 5,
 oM 26 6,
 oD 27 (.fa 1 7),
 oD 28 (.ld false 1 27),
 oD 29 (.ld true 2 7),
 oM 30 0,
 oC 31 221 [29,30],
 oD 32 (.fld false 1 1 31),
 oC 33 222 [28,32],
 oD 34 (.ixa 1 25 26),
 oN (.st 1 34 33)]
def Zar.r9:List Oper:=[
 oD 35 (.bin .add 17 (cI 1)),
 oM 17 35]
def Zar.l0:Code:=.seq Zar.r5 (.seq (.cond 18 (.skip) (.exit 0)) (.seq (.block 1 (.seq Zar.r6 (.seq Zar.r7 (.cond 24 (.draw Zar.r8 [(3,4),(3,6)]) (.skip))))) Zar.r9))
def Zar.r10:List Oper:=[
 oM 36 5,
 oM 4 36]
def Zar.code:Code:=.seq Zar.r0 (.seq Zar.r1 (.seq (.seq Zar.r2 (.cond 13 (.seq Zar.r3 (.ret)) (.skip))) (.seq (.seq Zar.r4 (.block 0 (.loop Zar.l0))) (.seq Zar.r10 (.ret)))))
def Zar:Func:=⟨37,[.t 4],Zar.code⟩
/-! muntin/front.First$1 -/
def Zcg.r0:List Oper:=[
 oM 2 (.c (.b false))]
def Zcg.r1:List Oper:=[
 oM 3 0,
 oD 4 (.bin .lss 3 (cI 0)),
 oM 2 4]
def Zcg.code:Code:=.seq Zcg.r0 (.seq Zcg.r1 (.ret))
def Zcg:Func:=⟨5,[.t 2],Zcg.code⟩
/-! muntin/muntinref12.Rotation -/
def zc.r0:List Oper:=[
 oM 2 (cI 0)]
def zc.r1:List Oper:=[
 oM 3 (cI 0)]
def zc.r2:List Oper:=[
 oM 4 (cI 0)]
def zc.r3:List Oper:=[
 oM 5 4,
 oM 6 0,
 oD 7 (.len 6),
 oD 8 (.bin .lss 5 7)]
def zc.r5:List Oper:=[
 oM 11 0,
 oM 12 4,
 oD 13 (.ixa 1 11 12),
 oD 14 (.ld false 1 13),
 oD 15 (.bin .geq 14 (cI (-2))),
 oM 16 15,
 oT 17 16 (.mv 0),
 oT 18 16 (.mv 4),
 oT 19 16 (.ixa 1 17 18),
 oT 20 16 (.ld false 1 19),
 oT 21 16 (.bin .leq 20 (cI 1)),
 oD 22 (.pick 16 21 (.c (.b false)))]
def zc.r6:List Oper:=[
 oM 23 3,
 oM 24 0,
 oM 25 4,
 oD 26 (.ixa 1 24 25),
 oD 27 (.ld false 1 26),
 oD 28 (.bin .add 23 27),
 oM 3 28]
def zc.r4:List Oper:=[
 oM 9 4,
 oD 10 (.bin .add 9 (cI 1)),
 oM 4 10]
def zc.l0:Code:=.seq (.seq zc.r3 (.cond 8 (.skip) (.exit 0))) (.seq (.block 1 (.seq zc.r5 (.cond 22 zc.r6 (.skip)))) zc.r4)
def zc.r7:List Oper:=[
 oM 29 3,
 oM 2 29]
def zc.code:Code:=.seq zc.r0 (.seq zc.r1 (.seq (.seq zc.r2 (.block 0 (.loop zc.l0))) (.seq zc.r7 (.ret))))
def zc:Func:=⟨30,[.t 2],zc.code⟩
/-! muntin/muntinref01.Turn -/
def zb.r0:List Oper:=[
 oM 4 (cI 0)]
def zb.r1:List Oper:=[
 oM 8 0,
 oC 9 223 [8],
 oM 5 9]
def zb.r2:List Oper:=[
 oM 10 1,
 oC 11 223 [10],
 oM 6 11]
def zb.r3:List Oper:=[
 oM 12 5,
 oD 13 (.un .not 12),
 oM 14 13,
 oF 15 14 (.mv 6),
 oF 16 14 (.un .not 15),
 oD 17 (.pick 14 (.c (.b true)) 16),
 oM 18 17,
 oF 19 18 (.mv 0),
 oF 20 18 (.mv 1),
 oF 21 18 (.eq false .sc 19 20),
 oD 22 (.pick 18 (.c (.b true)) 21)]
def zb.r4:List Oper:=[
 oM 4 (cI 0)]
def zb.r5:List Oper:=[
 oM 23 0,
 oC 24 224 [23,.c (.n 1)],
 oM 7 24]
def zb.r6:List Oper:=[
 oM 25 7,
 oM 26 1,
 oD 27 (.eq false .sc 25 26)]
def zb.r7:List Oper:=[
 oM 4 (cI 1)]
def zb.r8:List Oper:=[
 oM 28 0,
 oC 29 224 [28,.c (.n 3)],
 oM 7 29]
def zb.r9:List Oper:=[
 oM 30 7,
 oM 31 1,
 oD 32 (.eq false .sc 30 31)]
def zb.r10:List Oper:=[
 oM 4 (cI (-1))]
def zb.r11:List Oper:=[
 oM 4 (cI (-2))]
def zb.code:Code:=.seq zb.r0 (.seq zb.r1 (.seq zb.r2 (.seq (.seq zb.r3 (.cond 22 (.seq zb.r4 (.ret)) (.skip))) (.seq zb.r5 (.seq (.seq zb.r6 (.cond 27 (.seq zb.r7 (.ret)) (.skip))) (.seq zb.r8 (.seq (.seq zb.r9 (.cond 32 (.seq zb.r10 (.ret)) (.skip))) (.seq zb.r11 (.ret)))))))))
def zb:Func:=⟨33,[.t 4],zb.code⟩
/-! muntin/muntinref08.turns -/
def zH.r0:List Oper:=[
 oM 2 (.c (.b false))]
def zH.r1:List Oper:=[
 oM 3 (cI 0)]
def zH.r2:List Oper:=[
 oM 4 3,
 oM 5 0,
 oD 6 (.slen 5),
 oD 7 (.bin .lss 4 6)]
def zH.r4:List Oper:=[
 oM 10 0,
 oM 11 3,
 oD 12 (.ixs 10 11),
 oD 13 (.eq true .sc 12 (.c (.i .u8 76))),
 oM 14 13,
 oT 15 14 (.mv 0),
 oT 16 14 (.mv 3),
 oT 17 14 (.ixs 15 16),
 oT 18 14 (.eq true .sc 17 (.c (.i .u8 82))),
 oD 19 (.pick 14 18 (.c (.b false)))]
def zH.r5:List Oper:=[
 oM 2 (.c (.b false))]
def zH.r3:List Oper:=[
 oM 8 3,
 oD 9 (.bin .add 8 (cI 1)),
 oM 3 9]
def zH.l0:Code:=.seq (.seq zH.r2 (.cond 7 (.skip) (.exit 0))) (.seq (.block 1 (.seq zH.r4 (.cond 19 (.seq zH.r5 (.ret)) (.skip)))) zH.r3)
def zH.r6:List Oper:=[
 oM 2 (.c (.b true))]
def zH.code:Code:=.seq zH.r0 (.seq (.seq zH.r1 (.block 0 (.loop zH.l0))) (.seq zH.r6 (.ret)))
def zH:Func:=⟨20,[.t 2],zH.code⟩
/-! muntin/muntinref11.Side -/
def Zbu.r0:List Oper:=[
 oD 1 (.box 0),
 oM 2 (cI 0)]
def Zbu.r1:List Oper:=[
 oD 4 (.ld true 4 1),
 oC 5 230 [4],
 oM 3 5]
def Zbu.r2:List Oper:=[
 oM 6 3,
 oD 7 (.bin .add 6 (cI 2)),
 oD 8 (.bin .rem 7 (cI 4)),
 oM 2 8]
def Zbu.code:Code:=.seq Zbu.r0 (.seq Zbu.r1 (.seq Zbu.r2 (.ret)))
def Zbu:Func:=⟨9,[.t 2],Zbu.code⟩
/-! muntin/face.Rotation -/
def Zab.r0:List Oper:=[
 oM 2 (cI 0)]
def Zab.r1:List Oper:=[
 oM 3 (cI 0)]
def Zab.r2:List Oper:=[
 oM 6 0,
 oD 7 (.len 6),
 oM 8 (cI 0)]
def Zab.r3:List Oper:=[
 oD 9 (.bin .lss 8 7)]
def Zab.r4:List Oper:=[
 oD 10 (.ixa 1 6 8),
 oD 11 (.ld false 1 10),
 oM 5 11]
def Zab.r5:List Oper:=[
 oM 12 5,
 oD 13 (.bin .geq 12 (cI (-2))),
 oM 14 13,
 oT 15 14 (.mv 5),
 oT 16 14 (.bin .leq 15 (cI 1)),
 oD 17 (.pick 14 16 (.c (.b false)))]
def Zab.r6:List Oper:=[
 oM 18 3,
 oM 19 5,
 oD 20 (.bin .add 18 19),
 oM 3 20]
def Zab.r7:List Oper:=[
 oD 21 (.bin .add 8 (cI 1)),
 oM 8 21]
def Zab.l0:Code:=.seq Zab.r3 (.seq (.cond 9 (.skip) (.exit 0)) (.seq (.block 1 (.seq Zab.r4 (.seq Zab.r5 (.cond 17 Zab.r6 (.skip))))) Zab.r7))
def Zab.r8:List Oper:=[
 oM 22 3,
 oM 2 22]
def Zab.code:Code:=.seq Zab.r0 (.seq Zab.r1 (.seq (.seq Zab.r2 (.block 0 (.loop Zab.l0))) (.seq Zab.r8 (.ret))))
def Zab:Func:=⟨23,[.t 2],Zab.code⟩
/-! (muntin/face.Dart).is -/
def Zcx.r0:List Oper:=[
 oD 2 (.box 0),
 oM 4 (.c (.b false))]
def Zcx.r1:List Oper:=[
 oD 5 (.fa 0 2),
 oD 6 (.ld false 1 5),
 oD 7 (.bin .geq 6 (cI 0)),
 oM 8 7,
 oT 9 8 (.fa 0 2),
 oT 10 8 (.ld false 1 9),
 oT 11 8 (.mv 1),
 oT 12 8 (.len 11),
 oT 13 8 (.bin .lss 10 12),
 oD 14 (.pick 8 13 (.c (.b false))),
 oM 15 14,
 oT 16 15 (.fa 1 2),
 oT 17 15 (.ld false 1 16),
 oT 18 15 (.call (.c (.f 90 [])) [17]),
 oD 19 (.pick 15 18 (.c (.b false))),
 oM 20 19,
 oT 21 20 (.mv 1),
 oT 22 20 (.fa 0 2),
 oT 23 20 (.ld false 1 22),
 oT 24 20 (.fa 1 2),
 oT 25 20 (.ld false 1 24),
 oT 26 20 (.ixa 8 21 23),
 oT 27 20 (.fa 0 26),
 oT 28 20 (.ixaa 1 4 27 25),
 oT 29 20 (.ld false 1 28),
 oT 30 20 (.bin .geq 29 (cI 0)),
 oD 31 (.pick 20 30 (.c (.b false))),
 oM 4 31]
def Zcx.code:Code:=.seq Zcx.r0 (.seq (.draw Zcx.r1 [(18,20)]) (.ret))
def Zcx:Func:=⟨32,[.t 4],Zcx.code⟩
/-! (muntin/face.Dart).behind -/
def zo.r0:List Oper:=[
 oD 2 (.box 0),
 oD 4 (.alloc [.n 0,.n 0])]
def zo.r1:List Oper:=[
 oM 9 1,
 oD 10 (.fa 0 2),
 oD 11 (.ld false 1 10),
 oD 12 (.fa 1 2),
 oD 13 (.ld false 1 12),
 oD 14 (.ixa 8 9 11),
 oD 15 (.fa 0 14),
 oD 16 (.ixaa 1 4 15 13),
 oD 17 (.ld false 1 16),
 oM 5 17]
def zo.r2:List Oper:=[
 oD 18 (.build [.n 0,.n 0,.n 0,.n 0] [(0,1,.c (.n 1)),(1,1,.c (.n 0)),(2,1,.c (.n (-1))),(3,1,.c (.n 2))]),
 oM 19 (cI 0)]
def zo.r3:List Oper:=[
 oD 20 (.bin .lss 19 (cI 4))]
def zo.r4:List Oper:=[
 oD 21 (.ix false 1 4 18 19),
 oM 7 21]
def zo.r5:List Oper:=[
 oM 22 5,
 oD 23 (.fa 1 2),
 oD 24 (.ld false 1 23),
 oM 25 7,
 oC 26 77 [24,25],
 oD 27 (.build [.n 0,.n 0] [(0,1,.t 22),(1,1,.t 26)]),
 oD 8 (.alloc [.n 0,.n 0]),
 oN (.st 2 8 27)]
def zo.r6:List Oper:=[
 oD 28 (.ld true 2 8),
 oM 29 1,
 oC 30 220 [28,29]]
def zo.r7:List Oper:=[
 oD 31 (.ld true 2 8),
 oN (.st 2 4 31)]
def zo.r8:List Oper:=[
 oD 32 (.bin .add 19 (cI 1)),
 oM 19 32]
def zo.l0:Code:=.seq zo.r3 (.seq (.cond 20 (.skip) (.exit 0)) (.seq (.block 1 (.seq zo.r4 (.seq zo.r5 (.seq zo.r6 (.cond 30 (.seq zo.r7 (.ret)) (.skip)))))) zo.r8))
def zo.r9:List Oper:=[
 oD 33 (.ld true 2 2),
 oN (.st 2 4 33)]
def zo.code:Code:=.seq zo.r0 (.seq (.draw zo.r1 [(2,4)]) (.seq (.seq zo.r2 (.block 0 (.loop zo.l0))) (.seq zo.r9 (.ret))))
def zo:Func:=⟨34,[.cell 4 true 2],zo.code⟩
/-! muntin/compass.Turn -/
def ZbC.r0:List Oper:=[
 oM 4 (cI 0)]
def ZbC.r1:List Oper:=[
 oM 5 0,
 oC 6 90 [5],
 oD 7 (.un .not 6),
 oM 8 7,
 oF 9 8 (.mv 1),
 oF 10 8 (.call (.c (.f 90 [])) [9]),
 oF 11 8 (.un .not 10),
 oD 12 (.pick 8 (.c (.b true)) 11)]
def ZbC.r2:List Oper:=[
 oM 4 (cI 0)]
def ZbC.r3:List Oper:=[
 oD 13 (.build [.n 0,.n 0,.n 0,.n 0] [(0,1,.c (.n 0)),(1,1,.c (.n 1)),(2,1,.c (.n (-2))),(3,1,.c (.n (-1)))]),
 oM 14 1,
 oM 15 0,
 oD 16 (.bin .sub 14 15),
 oD 17 (.bin .add 16 (cI 4)),
 oD 18 (.bin .rem 17 (cI 4)),
 oD 19 (.ix false 1 4 13 18),
 oM 4 19]
def ZbC.code:Code:=.seq ZbC.r0 (.seq (.seq ZbC.r1 (.cond 12 (.seq ZbC.r2 (.ret)) (.skip))) (.seq ZbC.r3 (.ret)))
def ZbC:Func:=⟨20,[.t 4],ZbC.code⟩
/-! muntin/muntinref01.Good -/
def ZbG.r0:List Oper:=[
 oM 2 (.c (.b false))]
def ZbG.r1:List Oper:=[
 oM 3 0,
 oD 4 (.bin .geq 3 (cI 0)),
 oM 5 4,
 oT 6 5 (.mv 0),
 oT 7 5 (.bin .leq 6 (cI 3)),
 oD 8 (.pick 5 7 (.c (.b false))),
 oM 2 8]
def ZbG.code:Code:=.seq ZbG.r0 (.seq ZbG.r1 (.ret))
def ZbG:Func:=⟨9,[.t 2],ZbG.code⟩
/-! muntin/muntinref01.Left -/
def zR.r0:List Oper:=[
 oM 4 (cI 0)]
def zR.r1:List Oper:=[
 oM 7 0,
 oC 8 223 [7],
 oM 5 8]
def zR.r2:List Oper:=[
 oM 9 5,
 oD 10 (.un .not 9)]
def zR.r3:List Oper:=[
 oM 4 (cI 0)]
def zR.r4:List Oper:=[
 oM 11 1,
 oD 12 (.bin .rem 11 (cI 4)),
 oM 6 12]
def zR.r5:List Oper:=[
 oM 13 6,
 oD 14 (.bin .lss 13 (cI 0))]
def zR.r6:List Oper:=[
 oM 15 6,
 oD 16 (.bin .add 15 (cI 4)),
 oM 6 16]
def zR.r7:List Oper:=[
 oM 17 0,
 oM 18 6,
 oD 19 (.bin .add 17 18),
 oD 20 (.bin .rem 19 (cI 4)),
 oM 4 20]
def zR.code:Code:=.seq zR.r0 (.seq zR.r1 (.seq (.seq zR.r2 (.cond 10 (.seq zR.r3 (.ret)) (.skip))) (.seq zR.r4 (.seq (.seq zR.r5 (.cond 14 zR.r6 (.skip))) (.seq zR.r7 (.ret))))))
def zR:Func:=⟨21,[.t 4],zR.code⟩
/-! muntin/muntinref09.Last -/
def zz.r0:List Oper:=[
 oD 1 (.box 0),
 oM 2 (cI 0)]
def zz.r1:List Oper:=[
 oD 5 (.fa 2 1),
 oD 6 (.ld false 1 5),
 oM 3 6]
def zz.r2:List Oper:=[
 oM 4 (cI 0)]
def zz.r3:List Oper:=[
 oM 7 4,
 oD 8 (.fa 3 1),
 oD 9 (.ld false 1 8),
 oD 10 (.slen 9),
 oD 11 (.bin .lss 7 10)]
def zz.r5:List Oper:=[
 oD 14 (.fa 3 1),
 oD 15 (.ld false 1 14),
 oM 16 4,
 oD 17 (.ixs 15 16),
 oD 18 (.eq false .sc 17 (.c (.i .u8 76)))]
def zz.r6:List Oper:=[
 oM 19 3,
 oD 20 (.bin .add 19 (cI 1)),
 oD 21 (.bin .rem 20 (cI 4)),
 oM 3 21]
def zz.r7:List Oper:=[
 oM 22 3,
 oD 23 (.bin .add 22 (cI 3)),
 oD 24 (.bin .rem 23 (cI 4)),
 oM 3 24]
def zz.r4:List Oper:=[
 oM 12 4,
 oD 13 (.bin .add 12 (cI 1)),
 oM 4 13]
def zz.l0:Code:=.seq (.seq zz.r3 (.cond 11 (.skip) (.exit 0))) (.seq (.block 1 (.seq zz.r5 (.cond 18 zz.r6 zz.r7))) zz.r4)
def zz.r8:List Oper:=[
 oM 25 3,
 oM 2 25]
def zz.code:Code:=.seq zz.r0 (.seq zz.r1 (.seq (.seq zz.r2 (.block 0 (.loop zz.l0))) (.seq zz.r8 (.ret))))
def zz:Func:=⟨26,[.t 2],zz.code⟩
/-! muntin/muntinlaw21.RectTells -/
def ZW.r0:List Oper:=[
 oD 3 (.box 0),
 oD 4 (.box 1),
 oM 6 (.c (.b false))]
def ZW.r1:List Oper:=[
 oD 12 (.ld true 3 3),
 oC 13 28 [12,.c (.n 12)],
 oM 11 13,
 oD 14 (.ext 11 0),
 oD 15 (.ext 11 1),
 oM 7 14,
 oM 8 15]
def ZW.r2:List Oper:=[
 oD 16 (.ld true 3 4),
 oC 17 171 [16,.c (.n 4)],
 oD 9 (.alloc [.sn,.sn]),
 oN (.st 2 9 17)]
def ZW.r3:List Oper:=[
 oC 18 264 [],
 oD 19 (.un .not 18),
 oM 20 19,
 oF 21 20 (.mv 7),
 oF 22 20 (.call (.c (.f 265 [])) [21]),
 oF 23 20 (.un .not 22),
 oD 24 (.pick 20 (.c (.b true)) 23),
 oM 25 24,
 oF 26 25 (.mv 2),
 oF 27 25 (.mv 2),
 oF 28 25 (.len 27),
 oF 29 25 (.mn [28,.c (.n 4)]),
 oF 30 25 (.slc 8 26 none (some 29) none),
 oF 31 25 (.call (.c (.f 265 [])) [30]),
 oF 32 25 (.un .not 31),
 oD 33 (.pick 25 (.c (.b true)) 32)]
def ZW.r4:List Oper:=[
 oM 6 (.c (.b false))]
def ZW.r5:List Oper:=[
 oD 34 (.ld true 2 9),
 oC 35 174 [34],
 oD 36 (.eq true .sc 35 (cI 0))]
def ZW.r6:List Oper:=[
 oM 6 (.c (.b true))]
def ZW.r7:List Oper:=[
 oD 37 (.ld true 2 9),
 oC 38 175 [37],
 oD 10 (.alloc [.sn,.sn,.sn,.sn]),
 oN (.st 4 10 38)]
def ZW.r8:List Oper:=[
 oD 39 (.fa 0 10),
 oD 40 (.ld false 1 39),
 oD 41 (.len 40),
 oD 42 (.bin .gtr 41 (cI 24)),
 oM 43 42,
 oF 44 43 (.fa 0 10),
 oF 45 43 (.ld false 1 44),
 oF 46 43 (.call (.c (.f 265 [])) [45]),
 oD 47 (.pick 43 (.c (.b true)) 46),
 oM 6 47]
def ZW.code:Code:=.seq ZW.r0 (.seq ZW.r1 (.seq ZW.r2 (.seq (.seq ZW.r3 (.cond 33 (.seq ZW.r4 (.ret)) (.skip))) (.seq (.seq ZW.r5 (.cond 36 (.seq ZW.r6 (.ret)) (.skip))) (.seq ZW.r7 (.seq ZW.r8 (.ret)))))))
def ZW:Func:=⟨48,[.t 6],ZW.code⟩
/-! muntin/muntinref21.Refine -/
def Zo.r0:List Oper:=[
 oM 2 (.c (.sn)),
 oM 3 (cI 0)]
def Zo.r1:List Oper:=[
 oM 15 0,
 oD 16 (.len 15),
 oD 17 (.eq false .sc 16 (cI 1))]
def Zo.r2:List Oper:=[
 oM 19 0,
 oC 20 181 [19],
 oM 18 20,
 oD 21 (.ext 18 0),
 oD 22 (.ext 18 1),
 oM 4 21,
 oM 5 22]
def Zo.r3:List Oper:=[
 oM 23 5,
 oD 24 (.eq false .sc 23 (cI 0))]
def Zo.r4:List Oper:=[
 oM 25 0,
 oM 2 25,
 oM 3 (cI 0)]
def Zo.r5:List Oper:=[
 oM 27 0,
 oC 28 273 [27],
 oM 26 28,
 oD 29 (.ext 26 0),
 oD 30 (.ext 26 1),
 oM 0 29,
 oM 6 30]
def Zo.r6:List Oper:=[
 oM 31 6,
 oD 32 (.eq true .sc 31 (cI 0))]
def Zo.r7:List Oper:=[
 oM 33 6,
 oM 2 (.c (.sn)),
 oM 3 33]
def Zo.r8:List Oper:=[
 oM 7 (cI 0)]
def Zo.r9:List Oper:=[
 oM 34 7,
 oD 35 (.bin .lss 34 (cI 100000))]
def Zo.r11:List Oper:=[
 oM 39 0,
 oC 40 179 [39],
 oM 38 40,
 oD 41 (.ext 38 0),
 oD 42 (.ext 38 1),
 oM 8 41,
 oM 9 42]
def Zo.r12:List Oper:=[
 oM 43 8,
 oD 44 (.bin .lss 43 (cI 0))]
def Zo.r13:List Oper:=[
 oM 45 0,
 oM 2 45,
 oM 3 (cI 0)]
def Zo.r14:List Oper:=[
 oM 46 0,
 oC 47 177 [46],
 oM 48 8,
 oD 49 (.ixa 1 47 48),
 oD 50 (.ld false 1 49),
 oM 10 50]
def Zo.r15:List Oper:=[
 oM 51 0,
 oM 52 10,
 oC 53 182 [51,52],
 oM 11 53]
def Zo.r16:List Oper:=[
 oM 54 11,
 oM 55 9,
 oC 56 14 [54,55],
 oM 12 56]
def Zo.r17:List Oper:=[
 oM 57 0,
 oM 58 10,
 oM 59 9,
 oD 60 (.ixa 2 58 59),
 oD 61 (.fa 0 60),
 oD 62 (.ld false 1 61),
 oM 63 10,
 oM 64 9,
 oD 65 (.ixa 2 63 64),
 oD 66 (.fa 1 65),
 oD 67 (.ld false 1 66),
 oD 68 (.ixa 8 57 62),
 oD 69 (.fa 0 68),
 oD 70 (.ixaa 1 4 69 67),
 oD 71 (.ld false 1 70),
 oM 13 71]
def Zo.r18:List Oper:=[
 oM 14 (cI 0)]
def Zo.r19:List Oper:=[
 oM 73 0,
 oM 74 10,
 oM 75 12,
 oD 76 (.ixa 2 74 75),
 oD 77 (.fa 0 76),
 oD 78 (.ld false 1 77),
 oM 79 10,
 oM 80 12,
 oD 81 (.ixa 2 79 80),
 oD 82 (.fa 1 81),
 oD 83 (.ld false 1 82),
 oC 84 49 [73,78,83],
 oM 72 84,
 oD 85 (.ext 72 0),
 oD 86 (.ext 72 1),
 oD 87 (.ext 72 2),
 oM 0 85,
 oM 14 86,
 oM 6 87]
def Zo.r20:List Oper:=[
 oM 88 6,
 oD 89 (.eq true .sc 88 (cI 0))]
def Zo.r21:List Oper:=[
 oM 90 6,
 oM 2 (.c (.sn)),
 oM 3 90]
def Zo.r22:List Oper:=[
 oM 92 0,
 oM 93 13,
 oM 94 10,
 oM 95 9,
 oD 96 (.ixa 2 94 95),
 oD 97 (.fa 1 96),
 oD 98 (.ld false 1 97),
 oM 99 14,
 oC 100 53 [92,93,98,99,.c (.n (-2))],
 oM 91 100,
 oD 101 (.ext 91 0),
 oD 102 (.ext 91 1),
 oM 0 101]
def Zo.r10:List Oper:=[
 oM 36 7,
 oD 37 (.bin .add 36 (cI 1)),
 oM 7 37]
def Zo.l0:Code:=.seq (.seq Zo.r9 (.cond 35 (.skip) (.exit 0))) (.seq (.block 1 (.seq Zo.r11 (.seq (.seq Zo.r12 (.cond 44 (.seq Zo.r13 (.ret)) (.skip))) (.seq Zo.r14 (.seq Zo.r15 (.seq Zo.r16 (.seq (.draw Zo.r17 [(5,10)]) (.seq Zo.r18 (.seq (.draw Zo.r19 [(5,10)]) (.seq (.seq Zo.r20 (.cond 89 (.seq Zo.r21 (.ret)) (.skip))) Zo.r22)))))))))) Zo.r10)
def Zo.r23:List Oper:=[
 oM 2 (.c (.sn)),
 oM 3 (cI 6)]
def Zo.code:Code:=.seq Zo.r0 (.seq (.seq Zo.r1 (.cond 17 (.seq Zo.r2 (.seq Zo.r3 (.cond 24 (.seq Zo.r4 (.ret)) (.skip)))) (.skip))) (.seq Zo.r5 (.seq (.seq Zo.r6 (.cond 32 (.seq Zo.r7 (.ret)) (.skip))) (.seq (.seq Zo.r8 (.block 0 (.loop Zo.l0))) (.seq Zo.r23 (.ret))))))
def Zo:Func:=⟨103,[.t 2,.t 3],Zo.code⟩
/-! muntin/muntinlaw21.wakes -/
def zG.r0:List Oper:=[
 oM 0 (.c (.b false))]
def zG.r1:List Oper:=[
 oC 10 46 [.c (.n 2)],
 oM 1 10]
def zG.r2:List Oper:=[
 oM 12 1,
 oC 13 53 [12,.c (.n 0),.c (.n 0),.c (.n 1),.c (.n 0)],
 oM 11 13,
 oD 14 (.ext 11 0),
 oD 15 (.ext 11 1),
 oM 1 14]
def zG.r3:List Oper:=[
 oM 17 1,
 oC 18 268 [17],
 oM 16 18,
 oD 19 (.ext 16 0),
 oD 20 (.ext 16 1),
 oM 2 19,
 oM 3 20]
def zG.r4:List Oper:=[
 oM 22 1,
 oC 23 266 [22],
 oM 21 23,
 oD 24 (.ext 21 0),
 oD 25 (.ext 21 1),
 oM 4 24,
 oM 5 25]
def zG.r5:List Oper:=[
 oM 27 4,
 oC 28 269 [27],
 oM 26 28,
 oD 29 (.ext 26 0),
 oD 30 (.ext 26 1),
 oM 6 29,
 oM 7 30]
def zG.r6:List Oper:=[
 oM 32 1,
 oD 33 (.slc 8 32 none (some (cI 1)) none),
 oC 34 268 [33],
 oM 31 34,
 oD 35 (.ext 31 0),
 oD 36 (.ext 31 1),
 oM 8 35,
 oM 9 36]
def zG.r7:List Oper:=[
 oM 37 3,
 oD 38 (.eq false .sc 37 (cI 0)),
 oM 39 38,
 oT 40 39 (.mv 2),
 oT 41 39 (.len 40),
 oT 42 39 (.eq false .sc 41 (cI 7)),
 oD 43 (.pick 39 42 (.c (.b false))),
 oM 44 43,
 oT 45 44 (.mv 5),
 oT 46 44 (.eq false .sc 45 (cI 0)),
 oD 47 (.pick 44 46 (.c (.b false))),
 oM 48 47,
 oT 49 48 (.mv 4),
 oT 50 48 (.len 49),
 oT 51 48 (.bin .gtr 50 (cI 7)),
 oD 52 (.pick 48 51 (.c (.b false))),
 oM 53 52,
 oT 54 53 (.mv 6),
 oD 55 (.pick 53 54 (.c (.b false))),
 oM 56 55,
 oT 57 56 (.mv 7),
 oT 58 56 (.eq false .sc 57 (cI 0)),
 oD 59 (.pick 56 58 (.c (.b false))),
 oM 60 59,
 oT 61 60 (.mv 9),
 oT 62 60 (.eq false .sc 61 (cI 3)),
 oD 63 (.pick 60 62 (.c (.b false))),
 oM 0 63]
def zG.code:Code:=.seq zG.r0 (.seq zG.r1 (.seq zG.r2 (.seq zG.r3 (.seq zG.r4 (.seq zG.r5 (.seq zG.r6 (.seq zG.r7 (.ret))))))))
def zG:Func:=⟨64,[.t 0],zG.code⟩
/-! muntin/muntinlaw21.told -/
def zB.r0:List Oper:=[
 oM 2 (.c (.b false))]
def zB.r1:List Oper:=[
 oM 18 0,
 oC 19 268 [18],
 oM 17 19,
 oD 20 (.ext 17 0),
 oD 21 (.ext 17 1),
 oM 3 20,
 oM 4 21]
def zB.r2:List Oper:=[
 oM 23 0,
 oC 24 273 [23],
 oM 22 24,
 oD 25 (.ext 22 0),
 oD 26 (.ext 22 1),
 oM 5 25,
 oM 6 26]
def zB.r3:List Oper:=[
 oM 28 0,
 oC 29 266 [28],
 oM 27 29,
 oD 30 (.ext 27 0),
 oD 31 (.ext 27 1),
 oM 7 30,
 oM 8 31]
def zB.r4:List Oper:=[
 oM 33 0,
 oC 34 260 [33],
 oM 32 34,
 oD 35 (.ext 32 0),
 oD 36 (.ext 32 1),
 oM 9 35,
 oM 10 36]
def zB.r5:List Oper:=[
 oM 38 0,
 oC 39 269 [38],
 oM 37 39,
 oD 40 (.ext 37 0),
 oD 41 (.ext 37 1),
 oM 11 40,
 oM 12 41]
def zB.r6:List Oper:=[
 oM 43 0,
 oC 44 181 [43],
 oM 42 44,
 oD 45 (.ext 42 0),
 oD 46 (.ext 42 1),
 oM 13 45,
 oM 14 46]
def zB.r7:List Oper:=[
 oM 48 0,
 oC 49 179 [48],
 oM 47 49,
 oD 50 (.ext 47 0),
 oD 51 (.ext 47 1),
 oM 15 50,
 oM 16 51]
def zB.r8:List Oper:=[
 oM 52 4,
 oM 53 6,
 oD 54 (.eq false .sc 52 53),
 oM 55 54,
 oT 56 55 (.mv 3),
 oT 57 55 (.mv 5),
 oT 58 55 (.call (.c (.f 56 [])) [56,57]),
 oD 59 (.pick 55 58 (.c (.b false))),
 oM 60 59,
 oT 61 60 (.mv 8),
 oT 62 60 (.mv 10),
 oT 63 60 (.eq false .sc 61 62),
 oD 64 (.pick 60 63 (.c (.b false))),
 oM 65 64,
 oT 66 65 (.mv 7),
 oT 67 65 (.mv 9),
 oT 68 65 (.call (.c (.f 56 [])) [66,67]),
 oD 69 (.pick 65 68 (.c (.b false))),
 oM 70 69,
 oT 71 70 (.mv 12),
 oT 72 70 (.mv 14),
 oT 73 70 (.eq false .sc 71 72),
 oD 74 (.pick 70 73 (.c (.b false))),
 oM 75 74,
 oT 76 75 (.mv 11),
 oT 77 75 (.mv 14),
 oT 78 75 (.eq false .sc 77 (cI 0)),
 oT 79 75 (.mv 78),
 oT 80 79 (.mv 15),
 oT 81 79 (.bin .lss 80 (cI 0)),
 oT 82 75 (.pick 79 81 (.c (.b false))),
 oT 83 75 (.eq false .bl 76 82),
 oD 84 (.pick 75 83 (.c (.b false))),
 oM 2 84]
def zB.code:Code:=.seq zB.r0 (.seq zB.r1 (.seq zB.r2 (.seq zB.r3 (.seq zB.r4 (.seq zB.r5 (.seq zB.r6 (.seq zB.r7 (.seq zB.r8 (.ret)))))))))
def zB:Func:=⟨85,[.t 2],zB.code⟩
/-! muntin/rect.Refine -/
def zT.r0:List Oper:=[
 oM 2 (.c (.sn)),
 oM 3 (cI 0)]
def zT.r1:List Oper:=[
 oM 8 0,
 oC 9 275 [8],
 oM 7 9,
 oD 10 (.ext 7 0),
 oD 11 (.ext 7 1),
 oM 4 10,
 oM 5 11]
def zT.r2:List Oper:=[
 oM 13 5,
 oD 14 (.eq false .sc 13 (cI 2)),
 oM 12 14]
def zT.r3:List Oper:=[
 oM 15 0,
 oC 16 51 [15],
 oM 2 16,
 oM 3 (cI 0)]
def zT.r4:List Oper:=[
 oM 18 5,
 oD 19 (.eq true .sc 18 (cI 0)),
 oM 17 19]
def zT.r5:List Oper:=[
 oM 20 5,
 oM 2 (.c (.sn)),
 oM 3 20]
def zT.r6:List Oper:=[
 oM 6 (.c (.b true))]
def zT.r7:List Oper:=[
 oM 21 6]
def zT.r8:List Oper:=[
 oM 23 4,
 oC 24 276 [23],
 oM 22 24,
 oD 25 (.ext 22 0),
 oD 26 (.ext 22 1),
 oM 6 25,
 oM 5 26]
def zT.r9:List Oper:=[
 oM 27 5,
 oD 28 (.eq true .sc 27 (cI 0))]
def zT.r10:List Oper:=[
 oM 29 5,
 oM 2 (.c (.sn)),
 oM 3 29]
def zT.l0:Code:=.seq (.seq zT.r7 (.cond 21 (.skip) (.exit 1))) (.block 2 (.seq zT.r8 (.seq zT.r9 (.cond 28 (.seq zT.r10 (.ret)) (.skip)))))
def zT.r11:List Oper:=[
 oM 30 4,
 oC 31 57 [30],
 oM 2 31,
 oM 3 (cI 0)]
def zT.code:Code:=.seq zT.r0 (.seq zT.r1 (.seq (.block 0 (.seq zT.r2 (.cond 12 (.seq zT.r3 (.ret)) (.seq zT.r4 (.cond 17 (.seq zT.r5 (.ret)) (.skip)))))) (.seq (.seq zT.r6 (.block 1 (.loop zT.l0))) (.seq zT.r11 (.ret)))))
def zT:Func:=⟨32,[.t 2,.t 3],zT.code⟩
/-! muntin/rect.Frame -/
def ZbH.r0:List Oper:=[
 oM 2 (.c (.sn)),
 oM 3 (cI 0)]
def ZbH.r1:List Oper:=[
 oM 7 0,
 oC 8 275 [7],
 oM 6 8,
 oD 9 (.ext 6 0),
 oD 10 (.ext 6 1),
 oM 4 9,
 oM 5 10]
def ZbH.r2:List Oper:=[
 oM 11 5,
 oD 12 (.eq true .sc 11 (cI 0))]
def ZbH.r3:List Oper:=[
 oM 13 5,
 oM 2 (.c (.sn)),
 oM 3 13]
def ZbH.r4:List Oper:=[
 oM 14 4,
 oC 15 57 [14],
 oM 2 15,
 oM 3 (cI 0)]
def ZbH.code:Code:=.seq ZbH.r0 (.seq ZbH.r1 (.seq (.seq ZbH.r2 (.cond 12 (.seq ZbH.r3 (.ret)) (.skip))) (.seq ZbH.r4 (.ret))))
def ZbH:Func:=⟨16,[.t 2,.t 3],ZbH.code⟩
/-! muntin/rect.Rectangular -/
def Zav.r0:List Oper:=[
 oM 2 (.c (.b false)),
 oM 3 (cI 0)]
def Zav.r1:List Oper:=[
 oM 8 0,
 oC 9 176 [8],
 oM 4 9]
def Zav.r2:List Oper:=[
 oM 10 4,
 oD 11 (.eq true .sc 10 (cI 0))]
def Zav.r3:List Oper:=[
 oM 12 4,
 oM 2 (.c (.b false)),
 oM 3 12]
def Zav.r4:List Oper:=[
 oM 14 0,
 oC 15 178 [14],
 oM 13 15,
 oD 16 (.ext 13 0),
 oD 17 (.ext 13 1),
 oD 18 (.ext 13 2),
 oM 5 16,
 oM 6 17,
 oM 7 18]
def Zav.r5:List Oper:=[
 oM 19 7,
 oD 20 (.un .not 19),
 oM 2 20,
 oM 3 (cI 0)]
def Zav.code:Code:=.seq Zav.r0 (.seq (.seq Zav.r1 (.seq Zav.r2 (.cond 11 (.seq Zav.r3 (.ret)) (.skip)))) (.seq Zav.r4 (.seq Zav.r5 (.ret))))
def Zav:Func:=⟨21,[.t 2,.t 3],Zav.code⟩
/-! muntin/muntinref21.Frame -/
def Zm.r0:List Oper:=[
 oM 2 (.c (.sn)),
 oM 3 (cI 0)]
def Zm.r1:List Oper:=[
 oM 22 0,
 oC 23 181 [22],
 oM 21 23,
 oD 24 (.ext 21 0),
 oD 25 (.ext 21 1),
 oM 4 24,
 oM 5 25]
def Zm.r2:List Oper:=[
 oM 26 5,
 oD 27 (.eq true .sc 26 (cI 0))]
def Zm.r3:List Oper:=[
 oM 28 5,
 oM 2 (.c (.sn)),
 oM 3 28]
def Zm.r4:List Oper:=[
 oM 29 4,
 oD 30 (.bin .lss 29 (cI 0))]
def Zm.r5:List Oper:=[
 oM 2 (.c (.sn)),
 oM 3 (cI 2)]
def Zm.r6:List Oper:=[
 oM 31 0,
 oD 32 (.len 31),
 oD 33 (.bin .add 32 (cI 5)),
 oD 34 (.bin .gtr 33 (cI 4096))]
def Zm.r7:List Oper:=[
 oM 2 (.c (.sn)),
 oM 3 (cI 6)]
def Zm.r8:List Oper:=[
 oM 35 0,
 oC 36 177 [35],
 oM 37 4,
 oD 38 (.ixa 1 36 37),
 oD 39 (.ld false 1 38),
 oM 6 39]
def Zm.r9:List Oper:=[
 oM 40 0,
 oM 41 6,
 oC 42 182 [40,41],
 oM 7 42]
def Zm.r10:List Oper:=[
 oM 43 7,
 oC 44 16 [43],
 oM 8 44]
def Zm.r11:List Oper:=[
 oM 45 0,
 oM 46 6,
 oM 47 8,
 oD 48 (.ixa 2 46 47),
 oD 49 (.fa 0 48),
 oD 50 (.ld false 1 49),
 oM 51 6,
 oM 52 8,
 oD 53 (.ixa 2 51 52),
 oD 54 (.fa 1 53),
 oD 55 (.ld false 1 54),
 oD 56 (.ixa 8 45 50),
 oD 57 (.fa 0 56),
 oD 58 (.ixaa 1 4 57 55),
 oD 59 (.ld false 1 58),
 oM 9 59]
def Zm.r12:List Oper:=[
 oM 60 6,
 oM 61 8,
 oD 62 (.ixa 2 60 61),
 oD 63 (.fa 1 62),
 oD 64 (.ld false 1 63),
 oM 10 64]
def Zm.r13:List Oper:=[
 oM 65 0,
 oD 66 (.len 65),
 oM 11 66]
def Zm.r14:List Oper:=[
 oC 67 46 [.c (.n 5)],
 oM 12 67]
def Zm.r15:List Oper:=[
 oC 68 46 [.c (.n 0)],
 oM 69 0,
 oD 70 (.app 8 64 68 69),
 oM 13 70]
def Zm.r16:List Oper:=[
 oM 71 13,
 oM 72 12,
 oD 73 (.app 8 64 71 72),
 oM 13 73]
def Zm.r17:List Oper:=[
 oM 74 11,
 oD 75 (.bin .add 74 (cI 1)),
 oM 76 11,
 oD 77 (.bin .add 76 (cI 3)),
 oM 78 11,
 oM 79 11,
 oD 80 (.bsl 1 4 [.n 0] [(0,1,.t 75),(1,1,.t 77),(2,1,.t 78),(3,1,.t 79)]),
 oM 81 10,
 oD 82 (.ixa 1 80 81),
 oD 83 (.ld false 1 82),
 oM 14 83]
def Zm.r18:List Oper:=[
 oM 84 11,
 oD 85 (.bin .add 84 (cI 2)),
 oM 86 11,
 oD 87 (.bin .add 86 (cI 2)),
 oM 88 11,
 oD 89 (.bin .add 88 (cI 3)),
 oM 90 11,
 oD 91 (.bin .add 90 (cI 1)),
 oD 92 (.bsl 1 4 [.n 0] [(0,1,.t 85),(1,1,.t 87),(2,1,.t 89),(3,1,.t 91)]),
 oM 93 10,
 oD 94 (.ixa 1 92 93),
 oD 95 (.ld false 1 94),
 oM 15 95]
def Zm.r19:List Oper:=[
 oD 96 (.bsl 1 4 [.n 0] [(0,1,.c (.n 1)),(1,1,.c (.n 0)),(2,1,.c (.n 1)),(3,1,.c (.n 0))]),
 oM 97 10,
 oD 98 (.ixa 1 96 97),
 oD 99 (.ld false 1 98),
 oM 16 99]
def Zm.r20:List Oper:=[
 oM 17 (cI 0)]
def Zm.r21:List Oper:=[
 oM 100 17,
 oD 101 (.bin .lss 100 (cI 4))]
def Zm.r23:List Oper:=[
 oM 104 11,
 oD 105 (.bin .add 104 (cI 1)),
 oM 106 11,
 oD 107 (.bin .add 106 (cI 3)),
 oM 108 11,
 oM 109 11,
 oD 110 (.bsl 1 4 [.n 0] [(0,1,.t 105),(1,1,.t 107),(2,1,.t 108),(3,1,.t 109)]),
 oM 111 17,
 oD 112 (.ixa 1 110 111),
 oD 113 (.ld false 1 112),
 oM 18 113]
def Zm.r24:List Oper:=[
 oM 114 11,
 oD 115 (.bin .add 114 (cI 2)),
 oM 116 11,
 oD 117 (.bin .add 116 (cI 2)),
 oM 118 11,
 oD 119 (.bin .add 118 (cI 3)),
 oM 120 11,
 oD 121 (.bin .add 120 (cI 1)),
 oD 122 (.bsl 1 4 [.n 0] [(0,1,.t 115),(1,1,.t 117),(2,1,.t 119),(3,1,.t 121)]),
 oM 123 17,
 oD 124 (.ixa 1 122 123),
 oD 125 (.ld false 1 124),
 oM 19 125]
def Zm.r25:List Oper:=[
 oD 126 (.bsl 1 4 [.n 0] [(0,1,.c (.n 1)),(1,1,.c (.n 0)),(2,1,.c (.n 1)),(3,1,.c (.n 0))]),
 oM 127 17,
 oD 128 (.ixa 1 126 127),
 oD 129 (.ld false 1 128),
 oM 20 129]
def Zm.r26:List Oper:=[
 oM 130 17,
 oM 131 10,
 oD 132 (.eq true .sc 130 131)]
def Zm.r27:List Oper:=[
 oM 134 13,
 oM 135 18,
 oM 136 20,
 oM 137 19,
 oC 138 53 [134,135,136,137,.c (.n (-2))],
 oM 133 138,
 oD 139 (.ext 133 0),
 oD 140 (.ext 133 1),
 oM 13 139]
def Zm.r22:List Oper:=[
 oM 102 17,
 oD 103 (.bin .add 102 (cI 1)),
 oM 17 103]
def Zm.l0:Code:=.seq (.seq Zm.r21 (.cond 101 (.skip) (.exit 0))) (.seq (.block 1 (.seq Zm.r23 (.seq Zm.r24 (.seq Zm.r25 (.seq Zm.r26 (.cond 132 Zm.r27 (.skip))))))) Zm.r22)
def Zm.r28:List Oper:=[
 oM 142 13,
 oM 143 14,
 oM 144 16,
 oM 145 11,
 oD 146 (.bin .add 145 (cI 4)),
 oC 147 53 [142,143,144,146,.c (.n (-2))],
 oM 141 147,
 oD 148 (.ext 141 0),
 oD 149 (.ext 141 1),
 oM 13 148]
def Zm.r29:List Oper:=[
 oM 151 13,
 oM 152 11,
 oD 153 (.bin .add 152 (cI 4)),
 oM 154 16,
 oM 155 15,
 oC 156 53 [151,153,154,155,.c (.n (-2))],
 oM 150 156,
 oD 157 (.ext 150 0),
 oD 158 (.ext 150 1),
 oM 13 157]
def Zm.r30:List Oper:=[
 oM 160 13,
 oM 161 9,
 oM 162 10,
 oM 163 11,
 oD 164 (.bin .add 163 (cI 4)),
 oC 165 53 [160,161,162,164,.c (.n (-2))],
 oM 159 165,
 oD 166 (.ext 159 0),
 oD 167 (.ext 159 1),
 oM 13 166]
def Zm.r31:List Oper:=[
 oM 168 13,
 oM 2 168,
 oM 3 (cI 0)]
def Zm.code:Code:=.seq Zm.r0 (.seq Zm.r1 (.seq (.seq Zm.r2 (.cond 27 (.seq Zm.r3 (.ret)) (.skip))) (.seq (.seq Zm.r4 (.cond 30 (.seq Zm.r5 (.ret)) (.skip))) (.seq (.seq Zm.r6 (.cond 34 (.seq Zm.r7 (.ret)) (.skip))) (.seq Zm.r8 (.seq Zm.r9 (.seq Zm.r10 (.seq (.draw Zm.r11 [(5,10)]) (.seq Zm.r12 (.seq Zm.r13 (.seq Zm.r14 (.seq Zm.r15 (.seq Zm.r16 (.seq Zm.r17 (.seq Zm.r18 (.seq Zm.r19 (.seq (.seq Zm.r20 (.block 0 (.loop Zm.l0))) (.seq Zm.r28 (.seq Zm.r29 (.seq Zm.r30 (.seq Zm.r31 (.ret))))))))))))))))))))))
def Zm:Func:=⟨169,[.t 2,.t 3],Zm.code⟩
/-! muntin/rect.framed -/
def Za4.r0:List Oper:=[
 oM 2 (.c (.pn)),
 oM 3 (cI 0)]
def Za4.r1:List Oper:=[
 oM 9 0,
 oC 10 278 [9],
 oM 8 10,
 oD 11 (.ext 8 0),
 oD 12 (.ext 8 1),
 oD 4 (.alloc [.n 0,.n 0]),
 oN (.st 2 4 11),
 oM 5 12]
def Za4.r2:List Oper:=[
 oM 13 5,
 oD 14 (.eq true .sc 13 (cI 0))]
def Za4.r3:List Oper:=[
 oM 15 5,
 oM 2 (.c (.pn)),
 oM 3 15]
def Za4.r4:List Oper:=[
 oM 16 0,
 oD 17 (.len 16),
 oD 18 (.bin .add 17 (cI 4)),
 oD 19 (.bin .add 18 (cI 1)),
 oD 20 (.bin .gtr 19 (cI 4096))]
def Za4.r5:List Oper:=[
 oM 2 (.c (.pn)),
 oM 3 (cI 6)]
def Za4.r6:List Oper:=[
 oM 22 0,
 oC 23 119 [22],
 oM 21 23,
 oD 24 (.ext 21 0),
 oD 25 (.ext 21 1),
 oM 6 24,
 oM 7 25]
def Za4.r7:List Oper:=[
 oM 26 6,
 oD 27 (.ld true 2 4),
 oC 28 279 [26,27]]
def Za4.r8:List Oper:=[
 oM 29 6,
 oM 2 29,
 oM 3 (cI 0)]
def Za4.code:Code:=.seq Za4.r0 (.seq Za4.r1 (.seq (.seq Za4.r2 (.cond 14 (.seq Za4.r3 (.ret)) (.skip))) (.seq (.seq Za4.r4 (.cond 20 (.seq Za4.r5 (.ret)) (.skip))) (.seq Za4.r6 (.seq Za4.r7 (.seq Za4.r8 (.ret)))))))
def Za4:Func:=⟨30,[.t 2,.t 3],Za4.code⟩
/-! muntin/rect.cut -/
def ZaA.r0:List Oper:=[
 oM 2 (.c (.b false)),
 oM 3 (cI 0)]
def ZaA.r1:List Oper:=[
 oM 19 0,
 oC 20 57 [19],
 oM 4 20]
def ZaA.r2:List Oper:=[
 oM 22 4,
 oC 23 178 [22],
 oM 21 23,
 oD 24 (.ext 21 0),
 oD 25 (.ext 21 1),
 oD 26 (.ext 21 2),
 oM 5 24,
 oM 6 25,
 oM 7 26]
def ZaA.r3:List Oper:=[
 oM 27 7,
 oD 28 (.un .not 27)]
def ZaA.r4:List Oper:=[
 oM 2 (.c (.b false)),
 oM 3 (cI 0)]
def ZaA.r5:List Oper:=[
 oM 30 4,
 oC 31 203 [30],
 oM 29 31,
 oD 32 (.ext 29 0),
 oD 33 (.ext 29 1),
 oM 8 32,
 oM 9 33]
def ZaA.r6:List Oper:=[
 oM 35 4,
 oM 36 8,
 oM 37 5,
 oD 38 (.ixa 1 36 37),
 oD 39 (.ld false 1 38),
 oC 40 204 [35,39],
 oM 41 6,
 oC 42 13 [40,41],
 oM 34 42,
 oD 43 (.ext 34 0),
 oD 44 (.ext 34 1),
 oM 10 43,
 oM 11 44]
def ZaA.r7:List Oper:=[
 oM 45 8,
 oM 46 5,
 oD 47 (.ixa 1 45 46),
 oD 48 (.ld false 1 47),
 oM 49 6,
 oD 50 (.ixa 2 48 49),
 oD 51 (.ld true 2 50),
 oM 52 8,
 oM 53 5,
 oD 54 (.ixa 1 52 53),
 oD 55 (.ld false 1 54),
 oM 56 10,
 oD 57 (.ixa 2 55 56),
 oD 58 (.ld true 2 57),
 oD 12 (.alloc [.n 0,.n 0]),
 oD 13 (.alloc [.n 0,.n 0]),
 oN (.st 2 12 51),
 oN (.st 2 13 58)]
def ZaA.r8:List Oper:=[
 oM 60 0,
 oD 61 (.fa 0 12),
 oD 62 (.ld false 1 61),
 oD 63 (.fa 1 12),
 oD 64 (.ld false 1 63),
 oC 65 54 [60,62,64],
 oM 59 65,
 oD 66 (.ext 59 0),
 oD 67 (.ext 59 1),
 oD 68 (.ext 59 2),
 oM 14 66,
 oM 15 67,
 oM 16 68]
def ZaA.r9:List Oper:=[
 oM 70 0,
 oD 71 (.fa 0 13),
 oD 72 (.ld false 1 71),
 oD 73 (.fa 1 13),
 oD 74 (.ld false 1 73),
 oC 75 48 [70,72,74],
 oM 69 75,
 oD 76 (.ext 69 0),
 oD 77 (.ext 69 1),
 oM 17 76,
 oM 18 77]
def ZaA.r10:List Oper:=[
 oM 78 18,
 oD 79 (.eq true .sc 78 (cI 0))]
def ZaA.r11:List Oper:=[
 oM 80 18,
 oM 2 (.c (.b false)),
 oM 3 80]
def ZaA.r12:List Oper:=[
 oM 81 0,
 oM 82 14,
 oD 83 (.fa 1 12),
 oD 84 (.ld false 1 83),
 oM 85 17,
 oC 86 52 [81,82,84,85,.c (.n (-2))],
 oM 2 (.c (.b true)),
 oM 3 86]
def ZaA.code:Code:=.seq ZaA.r0 (.seq ZaA.r1 (.seq ZaA.r2 (.seq (.seq ZaA.r3 (.cond 28 (.seq ZaA.r4 (.ret)) (.skip))) (.seq ZaA.r5 (.seq ZaA.r6 (.seq (.draw ZaA.r7 [(3,10),(6,10),(3,13),(6,13),(3,14),(6,14),(10,14),(13,14),(3,15),(6,15),(10,15),(13,15),(14,15),(10,16),(13,16)]) (.seq ZaA.r8 (.seq ZaA.r9 (.seq (.seq ZaA.r10 (.cond 79 (.seq ZaA.r11 (.ret)) (.skip))) (.seq ZaA.r12 (.ret)))))))))))
def ZaA:Func:=⟨87,[.t 2,.t 3],ZaA.code⟩
/-! muntin/rect.outside -/
def ZaM.r0:List Oper:=[
 oD 2 (.alloc [.n 0,.n 0]),
 oM 3 (cI 0)]
def ZaM.r1:List Oper:=[
 oM 11 0,
 oC 12 195 [11],
 oM 10 12,
 oD 13 (.ext 10 0),
 oD 14 (.ext 10 1),
 oM 4 13,
 oM 5 14]
def ZaM.r2:List Oper:=[
 oM 15 5,
 oD 16 (.eq true .sc 15 (cI 0))]
def ZaM.r3:List Oper:=[
 oD 17 (.build [.n 0,.n 0] []),
 oM 18 5,
 oN (.st 2 2 17),
 oM 3 18]
def ZaM.r4:List Oper:=[
 oM 20 0,
 oC 21 203 [20],
 oM 19 21,
 oD 22 (.ext 19 0),
 oD 23 (.ext 19 1),
 oM 6 22,
 oM 7 23]
def ZaM.r5:List Oper:=[
 oM 25 0,
 oM 26 6,
 oM 27 4,
 oD 28 (.ixa 1 26 27),
 oD 29 (.ld false 1 28),
 oC 30 204 [25,29],
 oC 31 15 [30],
 oM 24 31,
 oD 32 (.ext 24 0),
 oD 33 (.ext 24 1),
 oM 8 32,
 oM 9 33]
def ZaM.r6:List Oper:=[
 oM 34 6,
 oM 35 4,
 oD 36 (.ixa 1 34 35),
 oD 37 (.ld false 1 36),
 oM 38 8,
 oD 39 (.ixa 2 37 38),
 oD 40 (.ld true 2 39),
 oN (.st 2 2 40),
 oM 3 (cI 0)]
def ZaM.code:Code:=.seq ZaM.r0 (.seq ZaM.r1 (.seq (.seq ZaM.r2 (.cond 16 (.seq ZaM.r3 (.ret)) (.skip))) (.seq ZaM.r4 (.seq ZaM.r5 (.seq ZaM.r6 (.ret))))))
def ZaM:Func:=⟨41,[.cell 2 true 2,.t 3],ZaM.code⟩
/-! muntin/rect.frame -/
def zk.r0:List Oper:=[
 oD 3 (.box 1)]
def zk.r1:List Oper:=[
 oM 14 0,
 oD 15 (.fa 0 3),
 oD 16 (.ld false 1 15),
 oD 17 (.fa 1 3),
 oD 18 (.ld false 1 17),
 oC 19 54 [14,16,18],
 oM 13 19,
 oD 20 (.ext 13 0),
 oD 21 (.ext 13 1),
 oD 22 (.ext 13 2),
 oM 4 20,
 oM 5 21,
 oM 6 22]
def zk.r2:List Oper:=[
 oM 23 0,
 oC 24 55 [23],
 oM 7 24]
def zk.r3:List Oper:=[
 oM 25 (cI 0)]
def zk.r4:List Oper:=[
 oD 26 (.bin .lss 25 (cI 5))]
def zk.r5:List Oper:=[
 oM 27 0,
 oC 28 50 [27]]
def zk.r6:List Oper:=[
 oD 29 (.bin .add 25 (cI 1)),
 oM 25 29]
def zk.l0:Code:=.seq zk.r4 (.seq (.cond 26 (.skip) (.exit 0)) (.seq (.block 1 zk.r5) zk.r6))
def zk.r7:List Oper:=[
 oM 30 (cI 0)]
def zk.r8:List Oper:=[
 oD 31 (.bin .lss 30 (cI 4))]
def zk.r9:List Oper:=[
 oM 32 30,
 oM 8 32]
def zk.r10:List Oper:=[
 oM 33 8,
 oD 34 (.bin .add 33 (cI 3)),
 oD 35 (.bin .rem 34 (cI 4)),
 oM 36 8,
 oM 9 35,
 oM 10 36]
def zk.r11:List Oper:=[
 oM 37 7,
 oM 38 8,
 oD 39 (.bin .add 37 38),
 oM 40 7,
 oM 41 8,
 oD 42 (.bin .add 41 (cI 1)),
 oD 43 (.bin .rem 42 (cI 4)),
 oD 44 (.bin .add 40 43),
 oM 11 39,
 oM 12 44]
def zk.r12:List Oper:=[
 oM 45 9,
 oD 46 (.fa 1 3),
 oD 47 (.ld false 1 46),
 oD 48 (.eq false .sc 45 47)]
def zk.r13:List Oper:=[
 oM 49 0,
 oM 50 11,
 oM 51 10,
 oM 52 7,
 oD 53 (.bin .add 52 (cI 4)),
 oC 54 52 [49,50,51,53,.c (.n (-2))]]
def zk.r14:List Oper:=[
 oM 55 7,
 oD 56 (.bin .add 55 (cI 4)),
 oM 11 56]
def zk.r15:List Oper:=[
 oM 57 0,
 oM 58 11,
 oM 59 10,
 oM 60 12,
 oC 61 52 [57,58,59,60,.c (.n (-2))]]
def zk.r16:List Oper:=[
 oD 62 (.bin .add 30 (cI 1)),
 oM 30 62]
def zk.l1:Code:=.seq zk.r8 (.seq (.cond 31 (.skip) (.exit 2)) (.seq (.block 3 (.seq zk.r9 (.seq zk.r10 (.seq zk.r11 (.seq (.seq zk.r12 (.cond 48 (.seq zk.r13 zk.r14) (.skip))) zk.r15))))) zk.r16))
def zk.r17:List Oper:=[
 oM 63 0,
 oM 64 4,
 oD 65 (.fa 1 3),
 oD 66 (.ld false 1 65),
 oM 67 7,
 oD 68 (.bin .add 67 (cI 4)),
 oC 69 52 [63,64,66,68,.c (.n (-2))]]
def zk.code:Code:=.seq zk.r0 (.seq zk.r1 (.seq zk.r2 (.seq (.seq zk.r3 (.block 0 (.loop zk.l0))) (.seq (.seq zk.r7 (.block 2 (.loop zk.l1))) zk.r17))))
def zk:Func:=⟨70,[],zk.code⟩
def G:Prog:=fun i=>match i with
  | 13=>some Zaz
  | 14=>some ZC
  | 15=>some Zas
  | 16=>some zd
  | 21=>some zS
  | 28=>some Zk
  | 29=>some ZL
  | 30=>some Z4
  | 32=>some Zcz
  | 34=>some Zu
  | 36=>some Zy
  | 46=>some zn
  | 48=>some ZS
  | 49=>some ZF
  | 50=>some Za6
  | 51=>some Zat
  | 52=>some Zac
  | 53=>some Zah
  | 54=>some Zbp
  | 55=>some Zbz
  | 56=>some z4
  | 57=>some Zbc
  | 58=>some ZcA
  | 63=>some ZM
  | 64=>some Z0
  | 65=>some ZH
  | 66=>some z6
  | 67=>some ZZ
  | 74=>some ZcL
  | 75=>some Zcy
  | 76=>some ZbL
  | 77=>some ZbB
  | 78=>some ZaS
  | 79=>some Zch
  | 82=>some Za0
  | 83=>some ZT
  | 89=>some Zco
  | 90=>some Zcw
  | 91=>some ze
  | 97=>some Zcv
  | 98=>some Zaq
  | 119=>some Zc8
  | 171=>some Zz
  | 174=>some Zp
  | 175=>some Zi
  | 176=>some Zax
  | 177=>some Zw
  | 178=>some zF
  | 179=>some ZA
  | 181=>some Zs
  | 182=>some zq
  | 195=>some ZaL
  | 197=>some Z1
  | 198=>some Zv
  | 199=>some zp
  | 200=>some Zx
  | 201=>some zx
  | 202=>some ZX
  | 203=>some ZD
  | 204=>some Zar
  | 205=>some Zcg
  | 206=>some zc
  | 207=>some zb
  | 217=>some zH
  | 218=>some Zbu
  | 219=>some Zab
  | 220=>some Zcx
  | 221=>some zo
  | 222=>some ZbC
  | 223=>some ZbG
  | 224=>some zR
  | 230=>some zz
  | 253=>some ZW
  | 260=>some Zo
  | 264=>some zG
  | 265=>some zB
  | 266=>some zT
  | 268=>some ZbH
  | 269=>some Zav
  | 273=>some Zm
  | 275=>some Za4
  | 276=>some ZaA
  | 278=>some ZaM
  | 279=>some zk
  | _=>none
theorem Zhi:G 13=some Zaz:=rfl
theorem Zfl:G 14=some ZC:=rfl
theorem Zgu:G 15=some Zas:=rfl
theorem ZeM:G 16=some zd:=rfl
theorem ZeL:G 21=some zS:=rfl
theorem ZeH:G 28=some Zk:=rfl
theorem Zgx:G 29=some ZL:=rfl
theorem Zet:G 30=some Z4:=rfl
theorem Zgy:G 32=some Zcz:=rfl
theorem Zen:G 34=some Zu:=rfl
theorem Zfb:G 36=some Zy:=rfl
theorem ZeZ:G 46=some zn:=rfl
theorem ZeY:G 48=some ZS:=rfl
theorem Zeo:G 49=some ZF:=rfl
theorem Zf0:G 50=some Za6:=rfl
theorem ZdI:G 51=some Zat:=rfl
theorem Zfh:G 52=some Zac:=rfl
theorem ZeG:G 53=some Zah:=rfl
theorem Zfi:G 54=some Zbp:=rfl
theorem Zf1:G 55=some Zbz:=rfl
theorem ZeI:G 56=some z4:=rfl
theorem ZeX:G 57=some Zbc:=rfl
theorem Zgg:G 58=some ZcA:=rfl
theorem ZdT:G 63=some ZM:=rfl
theorem ZdS:G 64=some Z0:=rfl
theorem ZeJ:G 65=some ZH:=rfl
theorem Zgv:G 66=some z6:=rfl
theorem Zgh:G 67=some ZZ:=rfl
theorem Zgw:G 74=some ZcL:=rfl
theorem ZfH:G 75=some Zcy:=rfl
theorem Zf2:G 76=some ZbL:=rfl
theorem ZfE:G 77=some ZbB:=rfl
theorem Zdx:G 78=some ZaS:=rfl
theorem Zfz:G 79=some Zch:=rfl
theorem ZgS:G 82=some Za0:=rfl
theorem Zex:G 83=some ZT:=rfl
theorem Zhh:G 89=some Zco:=rfl
theorem ZfD:G 90=some Zcw:=rfl
theorem ZdM:G 91=some ze:=rfl
theorem Zid:G 97=some Zcv:=rfl
theorem Zgr:G 98=some Zaq:=rfl
theorem ZhH:G 119=some Zc8:=rfl
theorem ZeE:G 171=some Zz:=rfl
theorem Zeq:G 174=some Zp:=rfl
theorem Zfj:G 175=some Zi:=rfl
theorem Zgk:G 176=some Zax:=rfl
theorem Zer:G 177=some Zw:=rfl
theorem Zgf:G 178=some zF:=rfl
theorem Zev:G 179=some ZA:=rfl
theorem Zeu:G 181=some Zs:=rfl
theorem Zes:G 182=some zq:=rfl
theorem Zgl:G 195=some ZaL:=rfl
theorem Zel:G 197=some Z1:=rfl
theorem Zep:G 198=some Zv:=rfl
theorem Zfk:G 199=some zp:=rfl
theorem Zfa:G 200=some Zx:=rfl
theorem Zgm:G 201=some zx:=rfl
theorem ZdY:G 202=some ZX:=rfl
theorem Zgs:G 203=some ZD:=rfl
theorem Zgt:G 204=some Zar:=rfl
theorem Zfy:G 205=some Zcg:=rfl
theorem ZdL:G 206=some zc:=rfl
theorem ZeD:G 207=some zb:=rfl
theorem Zem:G 217=some zH:=rfl
theorem ZeK:G 218=some Zbu:=rfl
theorem Zfx:G 219=some Zab:=rfl
theorem ZfG:G 220=some Zcx:=rfl
theorem Ze9:G 221=some zo:=rfl
theorem ZfF:G 222=some ZbC:=rfl
theorem ZeB:G 223=some ZbG:=rfl
theorem ZeC:G 224=some zR:=rfl
theorem ZeF:G 230=some zz:=rfl
theorem ZdH:G 253=some ZW:=rfl
theorem Zdl:G 260=some Zo:=rfl
theorem Zek:G 264=some zG:=rfl
theorem ZeA:G 265=some zB:=rfl
theorem Zgi:G 266=some zT:=rfl
theorem Zgz:G 268=some ZbH:=rfl
theorem ZeN:G 269=some Zav:=rfl
theorem Zew:G 273=some Zm:=rfl
theorem Zgj:G 275=some Za4:=rfl
theorem Zhj:G 276=some ZaA:=rfl
theorem ZfI:G 278=some ZaM:=rfl
theorem Zg0:G 279=some zk:=rfl
end Mu
