/- The functions of the program, as the evaluator has them: printed by a program; checked against the model's. -/
import Derived.Test.YtfdidkebomeiaaaMuE0
namespace Mu
instance (n:Nat):OfNat Opd n:=⟨.t n⟩
instance:Coe (List Oper) Code:=⟨.region⟩
abbrev oD (d:Nat) (op:Op):Oper:=⟨some d,op,none⟩
abbrev oN (op:Op):Oper:=⟨none,op,none⟩
abbrev oT (d g:Nat) (op:Op):Oper:=⟨some d,op,some (g,true)⟩
abbrev oF (d g:Nat) (op:Op):Oper:=⟨some d,op,some (g,false)⟩
abbrev oM (d:Nat) (x:Opd):Oper:=⟨some d,.mv x,none⟩
abbrev oC (d f:Nat) (l:List Opd):Oper:=⟨some d,.call (.c (.f f [])) l,none⟩
abbrev cI (n:Int):Opd:=.c (.i .i64 n)
/-! muntin/front.Of -/
def zI.r0:List Oper:=[
 oM 4 (cI 0),
 oM 5 (.c (.b false))]
def zI.r1:List Oper:=[
 oM 9 0,
 oC 10 58 [9],
 oD 11 (.un .not 10),
 oM 12 11,
 oF 13 12 (.mv 1),
 oF 14 12 (.bin .lss 13 (cI 0)),
 oD 15 (.pick 12 (.c (.b true)) 14),
 oM 16 15,
 oF 17 16 (.mv 1),
 oF 18 16 (.mv 0),
 oF 19 16 (.len 18),
 oF 20 16 (.bin .geq 17 19),
 oD 21 (.pick 16 (.c (.b true)) 20),
 oM 22 21,
 oF 23 22 (.mv 0),
 oF 24 22 (.mv 1),
 oF 25 22 (.ixa 1 23 24),
 oF 26 22 (.ld false 1 25),
 oF 27 22 (.bin .geq 26 (cI 0)),
 oD 28 (.pick 22 (.c (.b true)) 27)]
def zI.r2:List Oper:=[
 oM 4 (cI 0),
 oM 5 (.c (.b false))]
def zI.r3:List Oper:=[
 oM 6 (cI 0)]
def zI.r4:List Oper:=[
 oM 29 0,
 oD 30 (.len 29),
 oM 31 (cI 0)]
def zI.r5:List Oper:=[
 oD 32 (.bin .lss 31 30)]
def zI.r6:List Oper:=[
 oM 33 31,
 oM 7 33]
def zI.r7:List Oper:=[
 oM 34 1,
 oM 35 7,
 oD 36 (.bin .add 34 35),
 oM 37 0,
 oD 38 (.len 37),
 oD 39 (.bin .rem 36 38),
 oM 8 39]
def zI.r8:List Oper:=[
 oM 40 6,
 oM 41 0,
 oM 42 8,
 oD 43 (.ixa 1 41 42),
 oD 44 (.ld false 1 43),
 oD 45 (.bin .add 40 44),
 oM 6 45]
def zI.r9:List Oper:=[
 oM 46 6,
 oD 47 (.eq false .sc 46 (cI 1))]
def zI.r10:List Oper:=[
 oM 48 8,
 oD 49 (.bin .add 48 (cI 1)),
 oM 50 0,
 oD 51 (.len 50),
 oD 52 (.bin .rem 49 51),
 oM 4 52,
 oM 5 (.c (.b true))]
def zI.r11:List Oper:=[
 oD 53 (.bin .add 31 (cI 1)),
 oM 31 53]
def zI.l0:Code:=.seq zI.r5 (.seq (.cond 32 (.skip) (.exit 0)) (.seq (.block 1 (.seq zI.r6 (.seq zI.r7 (.seq zI.r8 (.seq zI.r9 (.cond 47 (.seq zI.r10 (.ret)) (.skip))))))) zI.r11))
def zI.r12:List Oper:=[
 oM 4 (cI 0),
 oM 5 (.c (.b false))]
def zI.code:Code:=.seq zI.r0 (.seq (.seq zI.r1 (.cond 28 (.seq zI.r2 (.ret)) (.skip))) (.seq zI.r3 (.seq (.seq zI.r4 (.block 0 (.loop zI.l0))) (.seq zI.r12 (.ret)))))
def zI:Func:=⟨54,[.t 4,.t 5],zI.code⟩
/-! muntin/front.Open -/
def z7.r0:List Oper:=[
 oM 2 (cI 0),
 oM 3 (.c (.b false))]
def z7.r1:List Oper:=[
 oM 8 0,
 oC 9 58 [8],
 oD 10 (.un .not 9)]
def z7.r2:List Oper:=[
 oM 2 (cI 0),
 oM 3 (.c (.b false))]
def z7.r3:List Oper:=[
 oM 11 0,
 oD 12 (.len 11),
 oM 13 (cI 0)]
def z7.r4:List Oper:=[
 oD 14 (.bin .lss 13 12)]
def z7.r5:List Oper:=[
 oM 15 13,
 oD 16 (.ixa 1 11 13),
 oD 17 (.ld false 1 16),
 oM 4 15,
 oM 5 17]
def z7.r6:List Oper:=[
 oM 19 0,
 oM 20 4,
 oC 21 13 [19,20],
 oM 18 21,
 oD 22 (.ext 18 0),
 oD 23 (.ext 18 1),
 oM 6 22,
 oM 7 23]
def z7.r7:List Oper:=[
 oM 24 5,
 oD 25 (.bin .lss 24 (cI 0)),
 oM 26 25,
 oT 27 26 (.mv 7),
 oT 28 26 (.un .not 27),
 oD 29 (.pick 26 28 (.c (.b false)))]
def z7.r8:List Oper:=[
 oM 30 4,
 oM 2 30,
 oM 3 (.c (.b true))]
def z7.r9:List Oper:=[
 oD 31 (.bin .add 13 (cI 1)),
 oM 13 31]
def z7.l0:Code:=.seq z7.r4 (.seq (.cond 14 (.skip) (.exit 0)) (.seq (.block 1 (.seq z7.r5 (.seq z7.r6 (.seq z7.r7 (.cond 29 (.seq z7.r8 (.ret)) (.skip)))))) z7.r9))
def z7.r10:List Oper:=[
 oM 2 (cI 0),
 oM 3 (.c (.b false))]
def z7.code:Code:=.seq z7.r0 (.seq (.seq z7.r1 (.cond 10 (.seq z7.r2 (.ret)) (.skip))) (.seq (.seq z7.r3 (.block 0 (.loop z7.l0))) (.seq z7.r10 (.ret))))
def z7:Func:=⟨32,[.t 2,.t 3],z7.code⟩
/-! muntin/muntinref10.Make -/
def Zg.r0:List Oper:=[
 oD 2 (.box 0),
 oM 4 (.c (.sn)),
 oM 5 (.c (.sn))]
def Zg.r1:List Oper:=[
 oM 6 (.c (.sn))]
def Zg.r2:List Oper:=[
 oM 7 (cI 0)]
def Zg.r3:List Oper:=[
 oM 18 7,
 oD 19 (.fa 0 2),
 oD 20 (.ld false 1 19),
 oD 21 (.len 20),
 oD 22 (.bin .lss 18 21),
 oM 23 22,
 oT 24 23 (.mv 6),
 oT 25 23 (.len 24),
 oT 26 23 (.mv 1),
 oT 27 23 (.bin .lss 25 26),
 oD 28 (.pick 23 27 (.c (.b false)))]
def Zg.r5:List Oper:=[
 oD 31 (.fa 0 2),
 oD 32 (.ld false 1 31),
 oM 33 7,
 oD 34 (.ixa 1 32 33),
 oD 35 (.ld false 1 34),
 oD 36 (.conv .i64 35),
 oD 37 (.bin .rem 36 (cI 8)),
 oD 38 (.fa 0 2),
 oD 39 (.ld false 1 38),
 oM 40 7,
 oD 41 (.ixa 1 39 40),
 oD 42 (.ld false 1 41),
 oD 43 (.conv .i64 42),
 oD 44 (.bin .quo 43 (cI 8)),
 oD 45 (.bin .rem 44 (cI 8)),
 oD 46 (.build [.n 0,.n 0] [(0,1,.t 37),(1,1,.t 45)]),
 oD 8 (.alloc [.n 0,.n 0]),
 oN (.st 2 8 46)]
def Zg.r6:List Oper:=[
 oM 9 (.c (.b false))]
def Zg.r7:List Oper:=[
 oM 10 (cI 0)]
def Zg.r8:List Oper:=[
 oM 47 10,
 oM 48 6,
 oD 49 (.len 48),
 oD 50 (.bin .lss 47 49)]
def Zg.r10:List Oper:=[
 oM 53 9,
 oM 54 53,
 oF 55 54 (.mv 6),
 oF 56 54 (.mv 10),
 oF 57 54 (.ixa 2 55 56),
 oF 58 54 (.ld true 2 57),
 oF 59 54 (.ld true 2 8),
 oF 60 54 (.eq false (.fl [.i,.i]) 58 59),
 oD 61 (.pick 54 (.c (.b true)) 60),
 oM 9 61]
def Zg.r9:List Oper:=[
 oM 51 10,
 oD 52 (.bin .add 51 (cI 1)),
 oM 10 52]
def Zg.l0:Code:=.seq (.seq Zg.r8 (.cond 50 (.skip) (.exit 2))) (.seq (.block 3 (.draw Zg.r10 [(5,6)])) Zg.r9)
def Zg.r11:List Oper:=[
 oM 62 9,
 oD 63 (.un .not 62)]
def Zg.r12:List Oper:=[
 oM 64 6,
 oD 65 (.ld true 2 8),
 oD 66 (.bsl 2 1 [.n 0,.n 0] [(0,2,.t 65)]),
 oD 67 (.app 2 16 64 66),
 oM 6 67]
def Zg.r4:List Oper:=[
 oM 29 7,
 oD 30 (.bin .add 29 (cI 1)),
 oM 7 30]
def Zg.l1:Code:=.seq (.seq Zg.r3 (.cond 28 (.skip) (.exit 0))) (.seq (.block 1 (.seq (.draw Zg.r5 [(1,8),(4,8),(1,11),(4,11),(1,16),(4,16),(8,16),(11,16)]) (.seq Zg.r6 (.seq (.seq Zg.r7 (.block 2 (.loop Zg.l0))) (.seq Zg.r11 (.cond 63 Zg.r12 (.skip))))))) Zg.r4)
def Zg.r13:List Oper:=[
 oM 68 6,
 oD 69 (.len 68),
 oC 70 46 [69],
 oM 11 70]
def Zg.r14:List Oper:=[
 oM 12 (cI 0)]
def Zg.r15:List Oper:=[
 oM 71 12,
 oM 72 6,
 oD 73 (.len 72),
 oD 74 (.bin .lss 71 73)]
def Zg.r17:List Oper:=[
 oM 13 (.c (.i .u8 3))]
def Zg.r18:List Oper:=[
 oM 77 12,
 oD 78 (.fa 1 2),
 oD 79 (.ld false 1 78),
 oD 80 (.len 79),
 oD 81 (.bin .lss 77 80)]
def Zg.r19:List Oper:=[
 oD 82 (.fa 1 2),
 oD 83 (.ld false 1 82),
 oM 84 12,
 oD 85 (.ixa 1 83 84),
 oD 86 (.ld false 1 85),
 oM 13 86]
def Zg.r20:List Oper:=[
 oM 87 12,
 oM 14 87]
def Zg.r21:List Oper:=[
 oM 88 12,
 oD 89 (.fa 2 2),
 oD 90 (.ld false 1 89),
 oD 91 (.len 90),
 oD 92 (.bin .lss 88 91)]
def Zg.r22:List Oper:=[
 oD 93 (.fa 2 2),
 oD 94 (.ld false 1 93),
 oM 95 12,
 oD 96 (.ixa 1 94 95),
 oD 97 (.ld false 1 96),
 oD 98 (.conv .i64 97),
 oM 14 98]
def Zg.r23:List Oper:=[
 oM 99 14,
 oD 100 (.bin .lss 99 (cI (-2)))]
def Zg.r24:List Oper:=[
 oM 101 14,
 oD 102 (.un .neg 101),
 oM 14 102]
def Zg.r25:List Oper:=[
 oM 15 (cI 0)]
def Zg.r26:List Oper:=[
 oM 103 15,
 oD 104 (.bin .lss 103 (cI 2))]
def Zg.r28:List Oper:=[
 oM 107 6,
 oM 108 12,
 oM 109 15,
 oC 110 63 [107,108,109],
 oM 16 110]
def Zg.r29:List Oper:=[
 oM 111 13,
 oM 112 15,
 oD 113 (.bin .shr 111 112),
 oD 114 (.bin .and 113 (.c (.i .u8 1))),
 oD 115 (.eq false .sc 114 (.c (.i .u8 0))),
 oM 116 115,
 oF 117 116 (.mv 16),
 oF 118 116 (.bin .lss 117 (cI 0)),
 oD 119 (.pick 116 (.c (.b true)) 118)]
def Zg.r30:List Oper:=[
 oM 120 6,
 oM 121 11,
 oM 122 12,
 oM 123 16,
 oC 124 64 [120,121,122,123],
 oM 17 124]
def Zg.r31:List Oper:=[
 oM 125 17,
 oD 126 (.un .not 125)]
def Zg.r32:List Oper:=[
 oM 127 11,
 oM 128 12,
 oM 129 15,
 oM 130 16,
 oM 131 14,
 oC 132 65 [127,128,129,130,131],
 oM 11 132]
def Zg.r27:List Oper:=[
 oM 105 15,
 oD 106 (.bin .add 105 (cI 1)),
 oM 15 106]
def Zg.l2:Code:=.seq (.seq Zg.r26 (.cond 104 (.skip) (.exit 6))) (.seq (.block 7 (.seq Zg.r28 (.seq (.seq Zg.r29 (.cond 119 (.exit 7) (.skip))) (.seq Zg.r30 (.seq Zg.r31 (.cond 126 Zg.r32 (.skip))))))) Zg.r27)
def Zg.r16:List Oper:=[
 oM 75 12,
 oD 76 (.bin .add 75 (cI 1)),
 oM 12 76]
def Zg.l3:Code:=.seq (.seq Zg.r15 (.cond 74 (.skip) (.exit 4))) (.seq (.block 5 (.seq Zg.r17 (.seq (.seq Zg.r18 (.cond 81 Zg.r19 (.skip))) (.seq Zg.r20 (.seq (.seq Zg.r21 (.cond 92 (.seq Zg.r22 (.seq Zg.r23 (.cond 100 Zg.r24 (.skip)))) (.skip))) (.seq Zg.r25 (.block 6 (.loop Zg.l2)))))))) Zg.r16)
def Zg.r33:List Oper:=[
 oM 133 11,
 oM 134 6,
 oM 4 133,
 oM 5 134]
def Zg.code:Code:=.seq Zg.r0 (.seq Zg.r1 (.seq (.seq Zg.r2 (.block 0 (.loop Zg.l1))) (.seq Zg.r13 (.seq (.seq Zg.r14 (.block 4 (.loop Zg.l3))) (.seq Zg.r33 (.ret))))))
def Zg:Func:=⟨135,[.t 4,.t 5],Zg.code⟩
/-! muntin/join.Parts -/
def Z5.r0:List Oper:=[
 oM 2 (.c (.sn)),
 oM 3 (cI 0)]
def Z5.r1:List Oper:=[
 oM 12 0,
 oC 13 66 [12],
 oM 4 13]
def Z5.r2:List Oper:=[
 oM 14 4,
 oD 15 (.eq true .sc 14 (cI 0))]
def Z5.r3:List Oper:=[
 oM 16 4,
 oM 2 (.c (.sn)),
 oM 3 16]
def Z5.r4:List Oper:=[
 oM 5 (.c (.sn))]
def Z5.r5:List Oper:=[
 oM 17 0,
 oD 18 (.len 17),
 oD 19 (.mks 1 1 [.b false] 18 18),
 oM 6 19]
def Z5.r6:List Oper:=[
 oM 20 0,
 oD 21 (.len 20),
 oM 22 (cI 0)]
def Z5.r7:List Oper:=[
 oD 23 (.bin .lss 22 21)]
def Z5.r8:List Oper:=[
 oM 24 22,
 oM 7 24]
def Z5.r9:List Oper:=[
 oM 25 6,
 oM 26 7,
 oD 27 (.ixa 1 25 26),
 oD 28 (.ld false 1 27)]
def Z5.r10:List Oper:=[
 oM 30 0,
 oM 31 7,
 oC 32 67 [30,31],
 oM 29 32,
 oD 33 (.ext 29 0),
 oD 34 (.ext 29 1),
 oM 8 33,
 oM 9 34]
def Z5.r11:List Oper:=[
 oD 35 (.bsl 1 0 [.n 0] []),
 oM 10 35]
def Z5.r12:List Oper:=[
 oM 36 0,
 oD 37 (.len 36),
 oM 38 (cI 0)]
def Z5.r13:List Oper:=[
 oD 39 (.bin .lss 38 37)]
def Z5.r14:List Oper:=[
 oM 40 38,
 oM 11 40]
def Z5.r15:List Oper:=[
 oM 41 11,
 oM 42 7,
 oD 43 (.eq false .sc 41 42),
 oM 44 43,
 oF 45 44 (.mv 9),
 oF 46 44 (.mv 11),
 oF 47 44 (.ixa 1 45 46),
 oF 48 44 (.ld false 1 47),
 oF 49 44 (.bin .geq 48 (cI 0)),
 oD 50 (.pick 44 (.c (.b true)) 49)]
def Z5.r16:List Oper:=[
 oM 51 6,
 oM 52 11,
 oD 53 (.ixa 1 51 52),
 oN (.st 1 53 (.c (.b true)))]
def Z5.r17:List Oper:=[
 oM 54 10,
 oM 55 11,
 oD 56 (.bsl 1 1 [.n 0] [(0,1,.t 55)]),
 oD 57 (.app 1 8 54 56),
 oM 10 57]
def Z5.r18:List Oper:=[
 oD 58 (.bin .add 38 (cI 1)),
 oM 38 58]
def Z5.l0:Code:=.seq Z5.r13 (.seq (.cond 39 (.skip) (.exit 2)) (.seq (.block 3 (.seq Z5.r14 (.seq Z5.r15 (.cond 50 (.seq Z5.r16 Z5.r17) (.skip))))) Z5.r18))
def Z5.r19:List Oper:=[
 oM 59 5,
 oM 60 10,
 oD 61 (.bsl 1 1 [.sn] [(0,1,.t 60)]),
 oD 62 (.app 1 24 59 61),
 oM 5 62]
def Z5.r20:List Oper:=[
 oD 63 (.bin .add 22 (cI 1)),
 oM 22 63]
def Z5.l1:Code:=.seq Z5.r7 (.seq (.cond 23 (.skip) (.exit 0)) (.seq (.block 1 (.seq Z5.r8 (.seq (.seq Z5.r9 (.cond 28 (.exit 1) (.skip))) (.seq Z5.r10 (.seq Z5.r11 (.seq (.seq Z5.r12 (.block 2 (.loop Z5.l0))) Z5.r19)))))) Z5.r20))
def Z5.r21:List Oper:=[
 oM 64 5,
 oM 2 64,
 oM 3 (cI 0)]
def Z5.code:Code:=.seq Z5.r0 (.seq (.seq Z5.r1 (.seq Z5.r2 (.cond 15 (.seq Z5.r3 (.ret)) (.skip)))) (.seq Z5.r4 (.seq Z5.r5 (.seq (.seq Z5.r6 (.block 0 (.loop Z5.l1))) (.seq Z5.r21 (.ret))))))
def Z5:Func:=⟨65,[.t 2,.t 3],Z5.code⟩
/-! muntin/join.Whole -/
def ZbH.r0:List Oper:=[
 oM 2 (.c (.b false))]
def ZbH.r1:List Oper:=[
 oM 6 0,
 oC 7 29 [6],
 oM 5 7,
 oD 8 (.ext 5 0),
 oD 9 (.ext 5 1),
 oM 3 8,
 oM 4 9]
def ZbH.r2:List Oper:=[
 oM 10 4,
 oD 11 (.eq false .sc 10 (cI 0)),
 oM 12 11,
 oT 13 12 (.mv 3),
 oT 14 12 (.len 13),
 oT 15 12 (.eq false .sc 14 (cI 1)),
 oD 16 (.pick 12 15 (.c (.b false))),
 oM 2 16]
def ZbH.code:Code:=.seq ZbH.r0 (.seq ZbH.r1 (.seq ZbH.r2 (.ret)))
def ZbH:Func:=⟨17,[.t 2],ZbH.code⟩
/-! muntin/muntinref10.New -/
def ZP.r0:List Oper:=[
 oM 2 (.c (.sn))]
def ZP.r1:List Oper:=[
 oM 6 0,
 oD 7 (.mks 8 64 [.n 0,.n 0,.n 0,.n 0,.n 0,.n 0,.n 0,.n 0] 6 6),
 oM 3 7]
def ZP.r2:List Oper:=[
 oM 4 (cI 0)]
def ZP.r3:List Oper:=[
 oM 8 4,
 oM 9 0,
 oD 10 (.bin .lss 8 9)]
def ZP.r5:List Oper:=[
 oM 5 (cI 0)]
def ZP.r6:List Oper:=[
 oM 13 5,
 oD 14 (.bin .lss 13 (cI 4))]
def ZP.r8:List Oper:=[
 oM 17 3,
 oM 18 4,
 oM 19 5,
 oD 20 (.ixa 8 17 18),
 oD 21 (.fa 0 20),
 oD 22 (.ixaa 1 4 21 19),
 oN (.st 1 22 (cI (-1)))]
def ZP.r7:List Oper:=[
 oM 15 5,
 oD 16 (.bin .add 15 (cI 1)),
 oM 5 16]
def ZP.l0:Code:=.seq (.seq ZP.r6 (.cond 14 (.skip) (.exit 2))) (.seq (.block 3 ZP.r8) ZP.r7)
def ZP.r4:List Oper:=[
 oM 11 4,
 oD 12 (.bin .add 11 (cI 1)),
 oM 4 12]
def ZP.l1:Code:=.seq (.seq ZP.r3 (.cond 10 (.skip) (.exit 0))) (.seq (.block 1 (.seq ZP.r5 (.block 2 (.loop ZP.l0)))) ZP.r4)
def ZP.r9:List Oper:=[
 oM 23 3,
 oM 2 23]
def ZP.code:Code:=.seq ZP.r0 (.seq ZP.r1 (.seq (.seq ZP.r2 (.block 0 (.loop ZP.l1))) (.seq ZP.r9 (.ret))))
def ZP:Func:=⟨24,[.t 2],ZP.code⟩
/-! (*muntin/grid.Grid).Split -/
def ZD.r0:List Oper:=[
 oM 6 (cI 0),
 oM 7 (cI 0)]
def ZD.r1:List Oper:=[
 oM 14 0,
 oD 15 (.eq false .pt 14 (.c (.pn))),
 oM 13 15]
def ZD.r2:List Oper:=[
 oM 6 (cI 0),
 oM 7 (cI 1)]
def ZD.r3:List Oper:=[
 oM 17 0,
 oM 18 1,
 oM 19 2,
 oC 20 75 [17,18,19],
 oD 21 (.un .not 20),
 oM 16 21]
def ZD.r4:List Oper:=[
 oM 6 (cI 0),
 oM 7 (cI 2)]
def ZD.r5:List Oper:=[
 oM 23 0,
 oM 24 1,
 oM 25 2,
 oC 26 54 [23,24,25],
 oM 22 26,
 oD 27 (.ext 22 0),
 oD 28 (.ext 22 1),
 oD 29 (.ext 22 2),
 oM 8 27,
 oM 9 28,
 oM 10 29]
def ZD.r6:List Oper:=[
 oM 30 10,
 oD 31 (.un .not 30)]
def ZD.r7:List Oper:=[
 oM 6 (cI 0),
 oM 7 (cI 9)]
def ZD.r8:List Oper:=[
 oM 33 0,
 oC 34 50 [33],
 oM 32 34,
 oD 35 (.ext 32 0),
 oD 36 (.ext 32 1),
 oM 11 35,
 oM 12 36]
def ZD.r9:List Oper:=[
 oM 37 12,
 oD 38 (.eq true .sc 37 (cI 0))]
def ZD.r10:List Oper:=[
 oM 39 12,
 oM 6 (cI 0),
 oM 7 39]
def ZD.r11:List Oper:=[
 oM 40 0,
 oM 41 1,
 oM 42 2,
 oM 43 11,
 oM 44 9,
 oC 45 76 [40,41,42,43,44]]
def ZD.r12:List Oper:=[
 oM 46 0,
 oM 47 11,
 oM 48 2,
 oM 49 8,
 oM 50 9,
 oC 51 76 [46,47,48,49,50]]
def ZD.r13:List Oper:=[
 oM 52 11,
 oM 6 52,
 oM 7 (cI 0)]
def ZD.code:Code:=.seq ZD.r0 (.seq (.block 0 (.seq ZD.r1 (.cond 13 (.seq ZD.r2 (.ret)) (.seq ZD.r3 (.cond 16 (.seq ZD.r4 (.ret)) (.skip)))))) (.seq ZD.r5 (.seq (.seq ZD.r6 (.cond 31 (.seq ZD.r7 (.ret)) (.skip))) (.seq ZD.r8 (.seq (.seq ZD.r9 (.cond 38 (.seq ZD.r10 (.ret)) (.skip))) (.seq ZD.r11 (.seq ZD.r12 (.seq ZD.r13 (.ret)))))))))
def ZD:Func:=⟨53,[.t 6,.t 7],ZD.code⟩
/-! (*muntin/grid.Grid).Add -/
def zO.r0:List Oper:=[
 oM 2 (cI 0),
 oM 3 (cI 0)]
def zO.r1:List Oper:=[
 oM 5 0,
 oD 6 (.eq false .pt 5 (.c (.pn))),
 oM 4 6]
def zO.r2:List Oper:=[
 oM 2 (cI 0),
 oM 3 (cI 1)]
def zO.r3:List Oper:=[
 oM 8 0,
 oC 9 55 [8],
 oD 10 (.eq false .sc 9 (cI 4096)),
 oM 7 10]
def zO.r4:List Oper:=[
 oM 2 (cI 0),
 oM 3 (cI 6)]
def zO.r5:List Oper:=[
 oM 11 0,
 oM 12 0,
 oD 13 (.nilck 12),
 oD 14 (.fa 0 13),
 oD 15 (.ld false 1 14),
 oC 16 74 [],
 oD 17 (.bsl 8 1 [.n 0,.n 0,.n 0,.n 0,.n 0,.n 0,.n 0,.n 0] [(0,8,.t 16)]),
 oD 18 (.app 8 64 15 17),
 oD 19 (.nilck 11),
 oD 20 (.fa 0 19),
 oN (.st 1 20 18)]
def zO.r6:List Oper:=[
 oM 21 0,
 oC 22 55 [21],
 oD 23 (.bin .sub 22 (cI 1)),
 oM 2 23,
 oM 3 (cI 0)]
def zO.code:Code:=.seq zO.r0 (.seq (.block 0 (.seq zO.r1 (.cond 4 (.seq zO.r2 (.ret)) (.seq zO.r3 (.cond 7 (.seq zO.r4 (.ret)) (.skip)))))) (.seq (.draw zO.r5 [(4,5),(4,6)]) (.seq zO.r6 (.ret))))
def zO:Func:=⟨24,[.t 2,.t 3],zO.code⟩
/-! slices.Clone[[]muntin/api.Cell,muntin/api.Cell] -/
def z8.r0:List Oper:=[
 oM 2 (.c (.sn))]
def z8.r1:List Oper:=[
 oM 3 0,
 oD 4 (.eq false .sl 3 (.c (.sn)))]
def z8.r2:List Oper:=[
 oM 2 (.c (.sn))]
def z8.r3:List Oper:=[
 oD 5 (.bsl 8 0 [.n 0,.n 0,.n 0,.n 0,.n 0,.n 0,.n 0,.n 0] []),
 oM 6 0,
 oD 7 (.app 8 64 5 6),
 oM 2 7]
def z8.code:Code:=.seq z8.r0 (.seq (.seq z8.r1 (.cond 4 (.seq z8.r2 (.ret)) (.skip))) (.seq z8.r3 (.ret)))
def z8:Func:=⟨8,[.t 2],z8.code⟩
/-! (*muntin/grid.Grid).Join -/
def zp.r0:List Oper:=[
 oM 10 (cI 0)]
def zp.r1:List Oper:=[
 oM 12 0,
 oD 13 (.eq false .pt 12 (.c (.pn))),
 oM 11 13]
def zp.r2:List Oper:=[
 oM 10 (cI 1)]
def zp.r3:List Oper:=[
 oM 15 0,
 oM 16 1,
 oM 17 2,
 oC 18 75 [15,16,17],
 oD 19 (.un .not 18),
 oM 20 19,
 oF 21 20 (.mv 0),
 oF 22 20 (.mv 3),
 oF 23 20 (.mv 2),
 oF 24 20 (.call (.c (.f 75 [])) [21,22,23]),
 oF 25 20 (.un .not 24),
 oD 26 (.pick 20 (.c (.b true)) 25),
 oM 27 26,
 oF 28 27 (.mv 1),
 oF 29 27 (.mv 3),
 oF 30 27 (.eq false .sc 28 29),
 oD 31 (.pick 27 (.c (.b true)) 30),
 oM 32 31,
 oF 33 32 (.mv 4),
 oF 34 32 (.bin .lss 33 (cI (-2))),
 oD 35 (.pick 32 (.c (.b true)) 34),
 oM 14 35]
def zp.r4:List Oper:=[
 oM 10 (cI 2)]
def zp.r5:List Oper:=[
 oM 37 0,
 oD 38 (.nilck 37),
 oD 39 (.fa 0 38),
 oD 40 (.ld false 1 39),
 oM 41 1,
 oM 42 2,
 oD 43 (.ixa 8 40 41),
 oD 44 (.fa 0 43),
 oD 45 (.ixaa 1 4 44 42),
 oD 46 (.ld false 1 45),
 oD 47 (.eq true .sc 46 (cI (-1))),
 oM 48 47,
 oF 49 48 (.mv 0),
 oF 50 48 (.nilck 49),
 oF 51 48 (.fa 0 50),
 oF 52 48 (.ld false 1 51),
 oF 53 48 (.mv 3),
 oF 54 48 (.mv 2),
 oF 55 48 (.call (.c (.f 77 [])) [54,.c (.n 2)]),
 oF 56 48 (.ixa 8 52 53),
 oF 57 48 (.fa 0 56),
 oF 58 48 (.ixaa 1 4 57 55),
 oF 59 48 (.ld false 1 58),
 oF 60 48 (.eq true .sc 59 (cI (-1))),
 oD 61 (.pick 48 (.c (.b true)) 60),
 oM 36 61]
def zp.r6:List Oper:=[
 oM 10 (cI 9)]
def zp.r7:List Oper:=[
 oM 62 0,
 oM 63 1,
 oM 64 2,
 oM 65 3,
 oM 66 4,
 oC 67 76 [62,63,64,65,66]]
def zp.r8:List Oper:=[
 oM 10 (cI 0)]
def zp.code:Code:=.seq zp.r0 (.seq (.block 0 (.seq zp.r1 (.cond 11 (.seq zp.r2 (.ret)) (.seq zp.r3 (.cond 14 (.seq zp.r4 (.ret)) (.seq (.draw zp.r5 [(15,18)]) (.cond 36 (.seq zp.r6 (.ret)) (.skip)))))))) (.seq zp.r7 (.seq zp.r8 (.ret))))
def zp:Func:=⟨68,[.t 10],zp.code⟩
/-! muntin/muntinref10.Join -/
def zq.r0:List Oper:=[
 oM 10 (.c (.sn)),
 oM 11 (cI 0)]
def zq.r1:List Oper:=[
 oM 13 1,
 oD 14 (.bin .lss 13 (cI 0)),
 oM 15 14,
 oF 16 15 (.mv 1),
 oF 17 15 (.mv 0),
 oF 18 15 (.len 17),
 oF 19 15 (.bin .geq 16 18),
 oD 20 (.pick 15 (.c (.b true)) 19),
 oM 21 20,
 oF 22 21 (.mv 3),
 oF 23 21 (.bin .lss 22 (cI 0)),
 oD 24 (.pick 21 (.c (.b true)) 23),
 oM 25 24,
 oF 26 25 (.mv 3),
 oF 27 25 (.mv 0),
 oF 28 25 (.len 27),
 oF 29 25 (.bin .geq 26 28),
 oD 30 (.pick 25 (.c (.b true)) 29),
 oM 31 30,
 oF 32 31 (.mv 1),
 oF 33 31 (.mv 3),
 oF 34 31 (.eq false .sc 32 33),
 oD 35 (.pick 31 (.c (.b true)) 34),
 oM 36 35,
 oF 37 36 (.mv 2),
 oF 38 36 (.bin .lss 37 (cI 0)),
 oD 39 (.pick 36 (.c (.b true)) 38),
 oM 40 39,
 oF 41 40 (.mv 2),
 oF 42 40 (.bin .gtr 41 (cI 3)),
 oD 43 (.pick 40 (.c (.b true)) 42),
 oM 44 43,
 oF 45 44 (.mv 4),
 oF 46 44 (.bin .lss 45 (cI (-2))),
 oD 47 (.pick 44 (.c (.b true)) 46)]
def zq.r2:List Oper:=[
 oM 48 0,
 oM 10 48,
 oM 11 (cI 2)]
def zq.r3:List Oper:=[
 oM 49 0,
 oM 50 1,
 oM 51 2,
 oD 52 (.ixa 8 49 50),
 oD 53 (.fa 0 52),
 oD 54 (.ixaa 1 4 53 51),
 oD 55 (.ld false 1 54),
 oD 56 (.eq true .sc 55 (cI (-1))),
 oM 57 56,
 oF 58 57 (.mv 0),
 oF 59 57 (.mv 3),
 oF 60 57 (.mv 2),
 oF 61 57 (.bin .add 60 (cI 2)),
 oF 62 57 (.bin .rem 61 (cI 4)),
 oF 63 57 (.ixa 8 58 59),
 oF 64 57 (.fa 0 63),
 oF 65 57 (.ixaa 1 4 64 62),
 oF 66 57 (.ld false 1 65),
 oF 67 57 (.eq true .sc 66 (cI (-1))),
 oD 68 (.pick 57 (.c (.b true)) 67)]
def zq.r4:List Oper:=[
 oM 69 0,
 oM 10 69,
 oM 11 (cI 9)]
def zq.r5:List Oper:=[
 oM 70 0,
 oM 71 1,
 oM 72 2,
 oM 73 3,
 oM 74 4,
 oC 75 65 [70,71,72,73,74],
 oM 12 75]
def zq.r6:List Oper:=[
 oM 76 12,
 oM 10 76,
 oM 11 (cI 0)]
def zq.code:Code:=.seq zq.r0 (.seq (.seq zq.r1 (.cond 47 (.seq zq.r2 (.ret)) (.skip))) (.seq (.seq zq.r3 (.cond 68 (.seq zq.r4 (.ret)) (.skip))) (.seq zq.r5 (.seq zq.r6 (.ret)))))
def zq:Func:=⟨77,[.t 10,.t 11],zq.code⟩
/-! (*muntin/grid.Grid).Next -/
def ZaE.r0:List Oper:=[
 oM 6 (cI 0),
 oM 7 (cI 0),
 oM 8 (.c (.b false))]
def ZaE.r1:List Oper:=[
 oM 9 0,
 oM 10 1,
 oM 11 2,
 oC 12 75 [9,10,11],
 oD 13 (.un .not 12),
 oM 14 13,
 oF 15 14 (.mv 0),
 oF 16 14 (.nilck 15),
 oF 17 14 (.fa 0 16),
 oF 18 14 (.ld false 1 17),
 oF 19 14 (.mv 1),
 oF 20 14 (.mv 2),
 oF 21 14 (.ixa 8 18 19),
 oF 22 14 (.fa 0 21),
 oF 23 14 (.ixaa 1 4 22 20),
 oF 24 14 (.ld false 1 23),
 oF 25 14 (.eq false .sc 24 (cI (-1))),
 oD 26 (.pick 14 (.c (.b true)) 25)]
def ZaE.r2:List Oper:=[
 oM 6 (cI 0),
 oM 7 (cI 0),
 oM 8 (.c (.b false))]
def ZaE.r3:List Oper:=[
 oM 27 0,
 oD 28 (.nilck 27),
 oD 29 (.fa 0 28),
 oD 30 (.ld false 1 29),
 oM 31 1,
 oM 32 2,
 oD 33 (.ixa 8 30 31),
 oD 34 (.fa 0 33),
 oD 35 (.ixaa 1 4 34 32),
 oD 36 (.ld false 1 35),
 oM 37 0,
 oD 38 (.nilck 37),
 oD 39 (.fa 0 38),
 oD 40 (.ld false 1 39),
 oM 41 1,
 oM 42 2,
 oD 43 (.ixa 8 40 41),
 oD 44 (.fa 4 43),
 oD 45 (.ixaa 1 4 44 42),
 oD 46 (.ld false 1 45),
 oM 6 36,
 oM 7 46,
 oM 8 (.c (.b true))]
def ZaE.code:Code:=.seq ZaE.r0 (.seq (.seq ZaE.r1 (.cond 26 (.seq ZaE.r2 (.ret)) (.skip))) (.seq (.draw ZaE.r3 [(3,13),(9,13),(3,19),(9,19)]) (.ret)))
def ZaE:Func:=⟨47,[.t 6,.t 7,.t 8],ZaE.code⟩
/-! (*muntin/grid.Grid).Len -/
def ZaP.r0:List Oper:=[
 oM 2 (cI 0)]
def ZaP.r1:List Oper:=[
 oM 3 0,
 oD 4 (.eq false .pt 3 (.c (.pn)))]
def ZaP.r2:List Oper:=[
 oM 2 (cI 0)]
def ZaP.r3:List Oper:=[
 oM 5 0,
 oD 6 (.nilck 5),
 oD 7 (.fa 0 6),
 oD 8 (.ld false 1 7),
 oD 9 (.len 8),
 oM 2 9]
def ZaP.code:Code:=.seq ZaP.r0 (.seq (.seq ZaP.r1 (.cond 4 (.seq ZaP.r2 (.ret)) (.skip))) (.seq ZaP.r3 (.ret)))
def ZaP:Func:=⟨10,[.t 2],ZaP.code⟩
/-! (*muntin/grid.Grid).Cells -/
def Zaz.r0:List Oper:=[
 oM 2 (.c (.sn))]
def Zaz.r1:List Oper:=[
 oM 3 0,
 oD 4 (.eq false .pt 3 (.c (.pn)))]
def Zaz.r2:List Oper:=[
 oM 2 (.c (.sn))]
def Zaz.r3:List Oper:=[
 oM 5 0,
 oD 6 (.nilck 5),
 oD 7 (.fa 0 6),
 oD 8 (.ld false 1 7),
 oC 9 51 [8],
 oM 2 9]
def Zaz.code:Code:=.seq Zaz.r0 (.seq (.seq Zaz.r1 (.cond 4 (.seq Zaz.r2 (.ret)) (.skip))) (.seq Zaz.r3 (.ret)))
def Zaz:Func:=⟨10,[.t 2],Zaz.code⟩
/-! muntin/front.right -/
def ZbT.r0:List Oper:=[
 oM 2 (.c (.b false))]
def ZbT.r1:List Oper:=[
 oM 3 0,
 oC 4 78 [3,.c (.f 79 [])],
 oD 5 (.un .not 4),
 oM 2 5]
def ZbT.code:Code:=.seq ZbT.r0 (.seq ZbT.r1 (.ret))
def ZbT:Func:=⟨6,[.t 2],ZbT.code⟩
/-! muntin/muntinref10.Nearest -/
def Z7.r0:List Oper:=[
 oM 6 (cI 0)]
def Z7.r1:List Oper:=[
 oM 7 (cI (-1))]
def Z7.r2:List Oper:=[
 oM 8 (cI 0)]
def Z7.r3:List Oper:=[
 oM 9 8,
 oM 10 0,
 oD 11 (.len 10),
 oD 12 (.bin .lss 9 11)]
def Z7.r5:List Oper:=[
 oM 15 2,
 oD 16 (.eq false .sc 15 (cI 0)),
 oM 17 16,
 oT 18 17 (.mv 0),
 oT 19 17 (.mv 8),
 oT 20 17 (.ixa 2 18 19),
 oT 21 17 (.fa 1 20),
 oT 22 17 (.ld false 1 21),
 oT 23 17 (.mv 0),
 oT 24 17 (.mv 1),
 oT 25 17 (.ixa 2 23 24),
 oT 26 17 (.fa 1 25),
 oT 27 17 (.ld false 1 26),
 oT 28 17 (.eq false .sc 22 27),
 oD 29 (.pick 17 28 (.c (.b false))),
 oM 30 29,
 oT 31 30 (.mv 0),
 oT 32 30 (.mv 8),
 oT 33 30 (.ixa 2 31 32),
 oT 34 30 (.fa 0 33),
 oT 35 30 (.ld false 1 34),
 oT 36 30 (.mv 0),
 oT 37 30 (.mv 1),
 oT 38 30 (.ixa 2 36 37),
 oT 39 30 (.fa 0 38),
 oT 40 30 (.ld false 1 39),
 oT 41 30 (.bin .gtr 35 40),
 oD 42 (.pick 30 41 (.c (.b false))),
 oM 43 42,
 oT 44 43 (.mv 7),
 oT 45 43 (.bin .lss 44 (cI 0)),
 oT 46 43 (.mv 45),
 oF 47 46 (.mv 0),
 oF 48 46 (.mv 8),
 oF 49 46 (.ixa 2 47 48),
 oF 50 46 (.fa 0 49),
 oF 51 46 (.ld false 1 50),
 oF 52 46 (.mv 0),
 oF 53 46 (.mv 7),
 oF 54 46 (.ixa 2 52 53),
 oF 55 46 (.fa 0 54),
 oF 56 46 (.ld false 1 55),
 oF 57 46 (.bin .lss 51 56),
 oT 58 43 (.pick 46 (.c (.b true)) 57),
 oD 59 (.pick 43 58 (.c (.b false)))]
def Z7.r6:List Oper:=[
 oM 60 8,
 oM 7 60]
def Z7.r7:List Oper:=[
 oM 61 2,
 oD 62 (.eq false .sc 61 (cI 1)),
 oM 63 62,
 oT 64 63 (.mv 0),
 oT 65 63 (.mv 8),
 oT 66 63 (.ixa 2 64 65),
 oT 67 63 (.fa 0 66),
 oT 68 63 (.ld false 1 67),
 oT 69 63 (.mv 0),
 oT 70 63 (.mv 1),
 oT 71 63 (.ixa 2 69 70),
 oT 72 63 (.fa 0 71),
 oT 73 63 (.ld false 1 72),
 oT 74 63 (.eq false .sc 68 73),
 oD 75 (.pick 63 74 (.c (.b false))),
 oM 76 75,
 oT 77 76 (.mv 0),
 oT 78 76 (.mv 8),
 oT 79 76 (.ixa 2 77 78),
 oT 80 76 (.fa 1 79),
 oT 81 76 (.ld false 1 80),
 oT 82 76 (.mv 0),
 oT 83 76 (.mv 1),
 oT 84 76 (.ixa 2 82 83),
 oT 85 76 (.fa 1 84),
 oT 86 76 (.ld false 1 85),
 oT 87 76 (.bin .gtr 81 86),
 oD 88 (.pick 76 87 (.c (.b false))),
 oM 89 88,
 oT 90 89 (.mv 7),
 oT 91 89 (.bin .lss 90 (cI 0)),
 oT 92 89 (.mv 91),
 oF 93 92 (.mv 0),
 oF 94 92 (.mv 8),
 oF 95 92 (.ixa 2 93 94),
 oF 96 92 (.fa 1 95),
 oF 97 92 (.ld false 1 96),
 oF 98 92 (.mv 0),
 oF 99 92 (.mv 7),
 oF 100 92 (.ixa 2 98 99),
 oF 101 92 (.fa 1 100),
 oF 102 92 (.ld false 1 101),
 oF 103 92 (.bin .lss 97 102),
 oT 104 89 (.pick 92 (.c (.b true)) 103),
 oD 105 (.pick 89 104 (.c (.b false)))]
def Z7.r8:List Oper:=[
 oM 106 8,
 oM 7 106]
def Z7.r4:List Oper:=[
 oM 13 8,
 oD 14 (.bin .add 13 (cI 1)),
 oM 8 14]
def Z7.l0:Code:=.seq (.seq Z7.r3 (.cond 12 (.skip) (.exit 0))) (.seq (.block 1 (.seq (.seq (.draw Z7.r5 [(7,12),(20,25),(36,41)]) (.cond 59 Z7.r6 (.skip))) (.seq (.draw Z7.r7 [(7,12),(20,25),(36,41)]) (.cond 105 Z7.r8 (.skip))))) Z7.r4)
def Z7.r9:List Oper:=[
 oM 107 7,
 oM 6 107]
def Z7.code:Code:=.seq Z7.r0 (.seq Z7.r1 (.seq (.seq Z7.r2 (.block 0 (.loop Z7.l0))) (.seq Z7.r9 (.ret))))
def Z7:Func:=⟨108,[.t 6],Z7.code⟩
/-! muntin/muntinref10.Crossed -/
def Zq.r0:List Oper:=[
 oM 8 (.c (.b false))]
def Zq.r1:List Oper:=[
 oM 9 (cI 0)]
def Zq.r2:List Oper:=[
 oM 14 9,
 oM 15 1,
 oD 16 (.len 15),
 oD 17 (.bin .lss 14 16)]
def Zq.r4:List Oper:=[
 oM 10 (cI 0)]
def Zq.r5:List Oper:=[
 oM 20 10,
 oD 21 (.bin .lss 20 (cI 2))]
def Zq.r7:List Oper:=[
 oM 24 1,
 oM 25 9,
 oM 26 10,
 oD 27 (.ixa 8 24 25),
 oD 28 (.fa 0 27),
 oD 29 (.ixaa 1 4 28 26),
 oD 30 (.ld false 1 29),
 oM 11 30]
def Zq.r8:List Oper:=[
 oM 31 11,
 oD 32 (.bin .lss 31 (cI 0))]
def Zq.r9:List Oper:=[
 oM 33 0,
 oM 34 9,
 oD 35 (.ixa 2 33 34),
 oD 36 (.ld true 2 35),
 oD 12 (.alloc [.n 0,.n 0]),
 oN (.st 2 12 36)]
def Zq.r10:List Oper:=[
 oM 37 0,
 oM 38 11,
 oD 39 (.ixa 2 37 38),
 oD 40 (.ld true 2 39),
 oD 13 (.alloc [.n 0,.n 0]),
 oN (.st 2 13 40)]
def Zq.r11:List Oper:=[
 oD 41 (.fa 1 12),
 oD 42 (.ld false 1 41),
 oD 43 (.fa 1 13),
 oD 44 (.ld false 1 43),
 oD 45 (.eq false .sc 42 44),
 oM 46 45,
 oT 47 46 (.mv 0),
 oT 48 46 (.mv 2),
 oT 49 46 (.ixa 2 47 48),
 oT 50 46 (.fa 0 49),
 oT 51 46 (.ld false 1 50),
 oT 52 46 (.mv 0),
 oT 53 46 (.mv 3),
 oT 54 46 (.ixa 2 52 53),
 oT 55 46 (.fa 0 54),
 oT 56 46 (.ld false 1 55),
 oT 57 46 (.eq false .sc 51 56),
 oD 58 (.pick 46 57 (.c (.b false))),
 oM 59 58,
 oT 60 59 (.fa 0 12),
 oT 61 59 (.ld false 1 60),
 oT 62 59 (.mv 0),
 oT 63 59 (.mv 2),
 oT 64 59 (.ixa 2 62 63),
 oT 65 59 (.fa 0 64),
 oT 66 59 (.ld false 1 65),
 oT 67 59 (.bin .lss 61 66),
 oD 68 (.pick 59 67 (.c (.b false))),
 oM 69 68,
 oT 70 69 (.mv 0),
 oT 71 69 (.mv 2),
 oT 72 69 (.ixa 2 70 71),
 oT 73 69 (.fa 0 72),
 oT 74 69 (.ld false 1 73),
 oT 75 69 (.fa 0 13),
 oT 76 69 (.ld false 1 75),
 oT 77 69 (.bin .lss 74 76),
 oD 78 (.pick 69 77 (.c (.b false))),
 oM 79 78,
 oT 80 79 (.mv 0),
 oT 81 79 (.mv 2),
 oT 82 79 (.ixa 2 80 81),
 oT 83 79 (.fa 1 82),
 oT 84 79 (.ld false 1 83),
 oT 85 79 (.fa 1 12),
 oT 86 79 (.ld false 1 85),
 oT 87 79 (.bin .lss 84 86),
 oD 88 (.pick 79 87 (.c (.b false))),
 oM 89 88,
 oT 90 89 (.fa 1 12),
 oT 91 89 (.ld false 1 90),
 oT 92 89 (.mv 0),
 oT 93 89 (.mv 3),
 oT 94 89 (.ixa 2 92 93),
 oT 95 89 (.fa 1 94),
 oT 96 89 (.ld false 1 95),
 oT 97 89 (.bin .lss 91 96),
 oD 98 (.pick 89 97 (.c (.b false)))]
def Zq.r12:List Oper:=[
 oM 8 (.c (.b true))]
def Zq.r13:List Oper:=[
 oD 99 (.fa 0 12),
 oD 100 (.ld false 1 99),
 oD 101 (.fa 0 13),
 oD 102 (.ld false 1 101),
 oD 103 (.eq false .sc 100 102),
 oM 104 103,
 oT 105 104 (.mv 0),
 oT 106 104 (.mv 2),
 oT 107 104 (.ixa 2 105 106),
 oT 108 104 (.fa 1 107),
 oT 109 104 (.ld false 1 108),
 oT 110 104 (.mv 0),
 oT 111 104 (.mv 3),
 oT 112 104 (.ixa 2 110 111),
 oT 113 104 (.fa 1 112),
 oT 114 104 (.ld false 1 113),
 oT 115 104 (.eq false .sc 109 114),
 oD 116 (.pick 104 115 (.c (.b false))),
 oM 117 116,
 oT 118 117 (.mv 0),
 oT 119 117 (.mv 2),
 oT 120 117 (.ixa 2 118 119),
 oT 121 117 (.fa 0 120),
 oT 122 117 (.ld false 1 121),
 oT 123 117 (.fa 0 12),
 oT 124 117 (.ld false 1 123),
 oT 125 117 (.bin .lss 122 124),
 oD 126 (.pick 117 125 (.c (.b false))),
 oM 127 126,
 oT 128 127 (.fa 0 12),
 oT 129 127 (.ld false 1 128),
 oT 130 127 (.mv 0),
 oT 131 127 (.mv 3),
 oT 132 127 (.ixa 2 130 131),
 oT 133 127 (.fa 0 132),
 oT 134 127 (.ld false 1 133),
 oT 135 127 (.bin .lss 129 134),
 oD 136 (.pick 127 135 (.c (.b false))),
 oM 137 136,
 oT 138 137 (.fa 1 12),
 oT 139 137 (.ld false 1 138),
 oT 140 137 (.mv 0),
 oT 141 137 (.mv 2),
 oT 142 137 (.ixa 2 140 141),
 oT 143 137 (.fa 1 142),
 oT 144 137 (.ld false 1 143),
 oT 145 137 (.bin .lss 139 144),
 oD 146 (.pick 137 145 (.c (.b false))),
 oM 147 146,
 oT 148 147 (.mv 0),
 oT 149 147 (.mv 2),
 oT 150 147 (.ixa 2 148 149),
 oT 151 147 (.fa 1 150),
 oT 152 147 (.ld false 1 151),
 oT 153 147 (.fa 1 13),
 oT 154 147 (.ld false 1 153),
 oT 155 147 (.bin .lss 152 154),
 oD 156 (.pick 147 155 (.c (.b false)))]
def Zq.r14:List Oper:=[
 oM 8 (.c (.b true))]
def Zq.r6:List Oper:=[
 oM 22 10,
 oD 23 (.bin .add 22 (cI 1)),
 oM 10 23]
def Zq.l0:Code:=.seq (.seq Zq.r5 (.cond 21 (.skip) (.exit 2))) (.seq (.block 3 (.seq Zq.r7 (.seq (.seq Zq.r8 (.cond 32 (.exit 3) (.skip))) (.seq Zq.r9 (.seq Zq.r10 (.seq (.seq (.draw Zq.r11 [(1,3),(10,15),(20,25),(33,35),(43,45),(50,55)]) (.cond 98 (.seq Zq.r12 (.ret)) (.skip))) (.seq (.draw Zq.r13 [(1,3),(10,15),(23,25),(30,35),(40,45),(53,55)]) (.cond 156 (.seq Zq.r14 (.ret)) (.skip))))))))) Zq.r6)
def Zq.r3:List Oper:=[
 oM 18 9,
 oD 19 (.bin .add 18 (cI 1)),
 oM 9 19]
def Zq.l1:Code:=.seq (.seq Zq.r2 (.cond 17 (.skip) (.exit 0))) (.seq (.block 1 (.seq Zq.r4 (.block 2 (.loop Zq.l0)))) Zq.r3)
def Zq.r15:List Oper:=[
 oM 8 (.c (.b false))]
def Zq.code:Code:=.seq Zq.r0 (.seq (.seq Zq.r1 (.block 0 (.loop Zq.l1))) (.seq Zq.r15 (.ret)))
def Zq:Func:=⟨157,[.t 8],Zq.code⟩
/-! muntin/muntinref10.with -/
def Z2.r0:List Oper:=[
 oM 10 (.c (.sn))]
def Z2.r1:List Oper:=[
 oM 11 (.c (.sn))]
def Z2.r2:List Oper:=[
 oM 12 (cI 0)]
def Z2.r3:List Oper:=[
 oM 14 12,
 oM 15 0,
 oD 16 (.len 15),
 oD 17 (.bin .lss 14 16)]
def Z2.r5:List Oper:=[
 oM 20 0,
 oM 21 12,
 oD 22 (.ixa 8 20 21),
 oD 23 (.ld true 8 22),
 oD 13 (.alloc [.n 0,.n 0,.n 0,.n 0,.n 0,.n 0,.n 0,.n 0]),
 oN (.st 8 13 23)]
def Z2.r6:List Oper:=[
 oM 24 12,
 oM 25 1,
 oD 26 (.eq false .sc 24 25)]
def Z2.r7:List Oper:=[
 oM 27 2,
 oM 28 3,
 oD 29 (.fa 0 13),
 oD 30 (.ixaa 1 4 29 27),
 oN (.st 1 30 28)]
def Z2.r8:List Oper:=[
 oM 31 2,
 oM 32 4,
 oD 33 (.fa 4 13),
 oD 34 (.ixaa 1 4 33 31),
 oN (.st 1 34 32)]
def Z2.r9:List Oper:=[
 oM 35 12,
 oM 36 3,
 oD 37 (.eq false .sc 35 36)]
def Z2.r10:List Oper:=[
 oM 38 2,
 oD 39 (.bin .add 38 (cI 2)),
 oD 40 (.bin .rem 39 (cI 4)),
 oM 41 1,
 oD 42 (.fa 0 13),
 oD 43 (.ixaa 1 4 42 40),
 oN (.st 1 43 41)]
def Z2.r11:List Oper:=[
 oM 44 2,
 oD 45 (.bin .add 44 (cI 2)),
 oD 46 (.bin .rem 45 (cI 4)),
 oM 47 4,
 oD 48 (.fa 4 13),
 oD 49 (.ixaa 1 4 48 46),
 oN (.st 1 49 47)]
def Z2.r12:List Oper:=[
 oM 50 11,
 oD 51 (.ld true 8 13),
 oD 52 (.bsl 8 1 [.n 0,.n 0,.n 0,.n 0,.n 0,.n 0,.n 0,.n 0] [(0,8,.t 51)]),
 oD 53 (.app 8 64 50 52),
 oM 11 53]
def Z2.r4:List Oper:=[
 oM 18 12,
 oD 19 (.bin .add 18 (cI 1)),
 oM 12 19]
def Z2.l0:Code:=.seq (.seq Z2.r3 (.cond 17 (.skip) (.exit 0))) (.seq (.block 1 (.seq Z2.r5 (.seq (.seq Z2.r6 (.cond 26 (.seq Z2.r7 Z2.r8) (.skip))) (.seq (.seq Z2.r9 (.cond 37 (.seq Z2.r10 Z2.r11) (.skip))) Z2.r12)))) Z2.r4)
def Z2.r13:List Oper:=[
 oM 54 11,
 oM 10 54]
def Z2.code:Code:=.seq Z2.r0 (.seq Z2.r1 (.seq (.seq Z2.r2 (.block 0 (.loop Z2.l0))) (.seq Z2.r13 (.ret))))
def Z2:Func:=⟨55,[.t 10],Z2.code⟩
/-! muntin/grid.Check -/
def ZV.r0:List Oper:=[
 oM 2 (cI 0)]
def ZV.r1:List Oper:=[
 oM 6 0,
 oD 7 (.len 6),
 oD 8 (.bin .gtr 7 (cI 4096))]
def ZV.r2:List Oper:=[
 oM 2 (cI 6)]
def ZV.r3:List Oper:=[
 oM 9 0,
 oD 10 (.len 9),
 oM 11 (cI 0)]
def ZV.r4:List Oper:=[
 oD 12 (.bin .lss 11 10)]
def ZV.r5:List Oper:=[
 oM 13 11,
 oM 3 13]
def ZV.r6:List Oper:=[
 oM 14 (cI 0)]
def ZV.r7:List Oper:=[
 oD 15 (.bin .lss 14 (cI 4))]
def ZV.r8:List Oper:=[
 oM 16 14,
 oM 4 16]
def ZV.r9:List Oper:=[
 oM 17 0,
 oM 18 3,
 oM 19 4,
 oC 20 82 [17,18,19],
 oM 5 20]
def ZV.r10:List Oper:=[
 oM 21 5,
 oD 22 (.eq true .sc 21 (cI 0))]
def ZV.r11:List Oper:=[
 oM 23 5,
 oM 2 23]
def ZV.r12:List Oper:=[
 oD 24 (.bin .add 14 (cI 1)),
 oM 14 24]
def ZV.l0:Code:=.seq ZV.r7 (.seq (.cond 15 (.skip) (.exit 2)) (.seq (.block 3 (.seq ZV.r8 (.seq ZV.r9 (.seq ZV.r10 (.cond 22 (.seq ZV.r11 (.ret)) (.skip)))))) ZV.r12))
def ZV.r13:List Oper:=[
 oD 25 (.bin .add 11 (cI 1)),
 oM 11 25]
def ZV.l1:Code:=.seq ZV.r4 (.seq (.cond 12 (.skip) (.exit 0)) (.seq (.block 1 (.seq ZV.r5 (.seq ZV.r6 (.block 2 (.loop ZV.l0))))) ZV.r13))
def ZV.r14:List Oper:=[
 oM 2 (cI 0)]
def ZV.code:Code:=.seq ZV.r0 (.seq (.seq ZV.r1 (.cond 8 (.seq ZV.r2 (.ret)) (.skip))) (.seq (.seq ZV.r3 (.block 0 (.loop ZV.l1))) (.seq ZV.r14 (.ret))))
def ZV:Func:=⟨26,[.t 2],ZV.code⟩
/-! muntin/join.spread -/
def ZH.r0:List Oper:=[
 oM 4 (.c (.sn)),
 oM 5 (.c (.sn))]
def ZH.r1:List Oper:=[
 oD 13 (.bsl 1 1 [.n 0] [(0,1,.c (.n (-1)))]),
 oM 14 0,
 oD 15 (.len 14),
 oC 16 83 [13,15],
 oD 17 (.bsl 1 1 [.n 0] [(0,1,.c (.n (-1)))]),
 oM 18 0,
 oD 19 (.len 18),
 oC 20 83 [17,19],
 oM 6 16,
 oM 7 20]
def ZH.r2:List Oper:=[
 oM 21 1,
 oD 22 (.bsl 1 1 [.n 0] [(0,1,.t 21)]),
 oM 8 22]
def ZH.r3:List Oper:=[
 oM 23 0,
 oD 24 (.len 23),
 oD 25 (.mks 1 1 [.b false] 24 24),
 oM 9 25]
def ZH.r4:List Oper:=[
 oM 26 9,
 oM 27 1,
 oD 28 (.ixa 1 26 27),
 oN (.st 1 28 (.c (.b true)))]
def ZH.r5:List Oper:=[
 oM 29 8,
 oD 30 (.len 29),
 oD 31 (.bin .gtr 30 (cI 0))]
def ZH.r6:List Oper:=[
 oM 32 8,
 oD 33 (.ixa 1 32 (cI 0)),
 oD 34 (.ld false 1 33),
 oM 10 34]
def ZH.r7:List Oper:=[
 oM 35 8,
 oD 36 (.slc 1 35 (some (cI 1)) none none),
 oM 8 36]
def ZH.r8:List Oper:=[
 oM 37 (cI 0)]
def ZH.r9:List Oper:=[
 oD 38 (.bin .lss 37 (cI 4))]
def ZH.r10:List Oper:=[
 oM 39 37,
 oM 11 39]
def ZH.r11:List Oper:=[
 oM 40 0,
 oM 41 10,
 oM 42 11,
 oD 43 (.ixa 8 40 41),
 oD 44 (.fa 0 43),
 oD 45 (.ixaa 1 4 44 42),
 oD 46 (.ld false 1 45),
 oM 12 46]
def ZH.r12:List Oper:=[
 oM 47 12,
 oD 48 (.bin .geq 47 (cI 0)),
 oM 49 48,
 oT 50 49 (.mv 9),
 oT 51 49 (.mv 12),
 oT 52 49 (.ixa 1 50 51),
 oT 53 49 (.ld false 1 52),
 oT 54 49 (.un .not 53),
 oD 55 (.pick 49 54 (.c (.b false)))]
def ZH.r13:List Oper:=[
 oM 56 9,
 oM 57 12,
 oM 58 6,
 oM 59 12,
 oM 60 7,
 oM 61 12,
 oM 62 10,
 oM 63 11,
 oD 64 (.ixa 1 56 57),
 oN (.st 1 64 (.c (.b true))),
 oD 65 (.ixa 1 58 59),
 oN (.st 1 65 62),
 oD 66 (.ixa 1 60 61),
 oN (.st 1 66 63)]
def ZH.r14:List Oper:=[
 oM 67 8,
 oM 68 12,
 oD 69 (.bsl 1 1 [.n 0] [(0,1,.t 68)]),
 oD 70 (.app 1 8 67 69),
 oM 8 70]
def ZH.r15:List Oper:=[
 oD 71 (.bin .add 37 (cI 1)),
 oM 37 71]
def ZH.l0:Code:=.seq ZH.r9 (.seq (.cond 38 (.skip) (.exit 2)) (.seq (.block 3 (.seq ZH.r10 (.seq ZH.r11 (.seq ZH.r12 (.cond 55 (.seq ZH.r13 ZH.r14) (.skip)))))) ZH.r15))
def ZH.l1:Code:=.seq (.seq ZH.r5 (.cond 31 (.skip) (.exit 0))) (.block 1 (.seq ZH.r6 (.seq ZH.r7 (.seq ZH.r8 (.block 2 (.loop ZH.l0))))))
def ZH.r16:List Oper:=[
 oM 72 6,
 oM 73 7,
 oM 4 72,
 oM 5 73]
def ZH.code:Code:=.seq ZH.r0 (.seq ZH.r1 (.seq ZH.r2 (.seq ZH.r3 (.seq ZH.r4 (.seq (.block 0 (.loop ZH.l1)) (.seq ZH.r16 (.ret)))))))
def ZH:Func:=⟨74,[.t 4,.t 5],ZH.code⟩
/-! muntin/grid.empty -/
def Zcg.r0:List Oper:=[
 oD 0 (.alloc [.n 0,.n 0,.n 0,.n 0,.n 0,.n 0,.n 0,.n 0])]
def Zcg.r1:List Oper:=[
 oD 1 (.build [.n 0,.n 0,.n 0,.n 0] [(0,1,.c (.n (-1))),(1,1,.c (.n (-1))),(2,1,.c (.n (-1))),(3,1,.c (.n (-1)))]),
 oD 2 (.build [.n 0,.n 0,.n 0,.n 0,.n 0,.n 0,.n 0,.n 0] [(0,4,.t 1)]),
 oN (.st 8 0 2)]
def Zcg.code:Code:=.seq Zcg.r0 (.seq Zcg.r1 (.ret))
def Zcg:Func:=⟨3,[.cell 0 true 8],Zcg.code⟩
/-! (*muntin/grid.Grid).is -/
def ZbG.r0:List Oper:=[
 oM 6 (.c (.b false))]
def ZbG.r1:List Oper:=[
 oM 7 1,
 oD 8 (.bin .geq 7 (cI 0)),
 oM 9 8,
 oT 10 9 (.mv 1),
 oT 11 9 (.mv 0),
 oT 12 9 (.call (.c (.f 55 [])) [11]),
 oT 13 9 (.bin .lss 10 12),
 oD 14 (.pick 9 13 (.c (.b false))),
 oM 15 14,
 oT 16 15 (.mv 2),
 oT 17 15 (.call (.c (.f 90 [])) [16]),
 oD 18 (.pick 15 17 (.c (.b false))),
 oM 6 18]
def ZbG.code:Code:=.seq ZbG.r0 (.seq ZbG.r1 (.ret))
def ZbG:Func:=⟨19,[.t 6],ZbG.code⟩
/-! (*muntin/grid.Grid).lay -/
def Zbk.r0:List Oper:=[
 oM 11 2,
 oC 12 77 [11,.c (.n 2)],
 oM 10 12]
def Zbk.r1:List Oper:=[
 oM 13 0,
 oD 14 (.nilck 13),
 oD 15 (.fa 0 14),
 oD 16 (.ld false 1 15),
 oM 17 1,
 oM 18 2,
 oM 19 0,
 oD 20 (.nilck 19),
 oD 21 (.fa 0 20),
 oD 22 (.ld false 1 21),
 oM 23 1,
 oM 24 2,
 oM 25 3,
 oM 26 4,
 oD 27 (.ixa 8 16 17),
 oD 28 (.fa 0 27),
 oD 29 (.ixaa 1 4 28 18),
 oN (.st 1 29 25),
 oD 30 (.ixa 8 22 23),
 oD 31 (.fa 4 30),
 oD 32 (.ixaa 1 4 31 24),
 oN (.st 1 32 26)]
def Zbk.r2:List Oper:=[
 oM 33 0,
 oD 34 (.nilck 33),
 oD 35 (.fa 0 34),
 oD 36 (.ld false 1 35),
 oM 37 3,
 oM 38 10,
 oM 39 0,
 oD 40 (.nilck 39),
 oD 41 (.fa 0 40),
 oD 42 (.ld false 1 41),
 oM 43 3,
 oM 44 10,
 oM 45 1,
 oM 46 4,
 oD 47 (.ixa 8 36 37),
 oD 48 (.fa 0 47),
 oD 49 (.ixaa 1 4 48 38),
 oN (.st 1 49 45),
 oD 50 (.ixa 8 42 43),
 oD 51 (.fa 4 50),
 oD 52 (.ixaa 1 4 51 44),
 oN (.st 1 52 46)]
def Zbk.code:Code:=.seq Zbk.r0 (.seq (.draw Zbk.r1 [(3,9)]) (.draw Zbk.r2 [(3,9)]))
def Zbk:Func:=⟨53,[],Zbk.code⟩
/-! muntin/compass.Left -/
def ZaY.r0:List Oper:=[
 oM 4 (cI 0)]
def ZaY.r1:List Oper:=[
 oM 5 0,
 oC 6 90 [5],
 oD 7 (.un .not 6)]
def ZaY.r2:List Oper:=[
 oM 4 (cI 0)]
def ZaY.r3:List Oper:=[
 oM 8 0,
 oM 9 1,
 oD 10 (.bin .rem 9 (cI 4)),
 oD 11 (.bin .add 8 10),
 oD 12 (.bin .add 11 (cI 4)),
 oD 13 (.bin .rem 12 (cI 4)),
 oM 4 13]
def ZaY.code:Code:=.seq ZaY.r0 (.seq (.seq ZaY.r1 (.cond 7 (.seq ZaY.r2 (.ret)) (.skip))) (.seq ZaY.r3 (.ret)))
def ZaY:Func:=⟨14,[.t 4],ZaY.code⟩
/-! slices.ContainsFunc[[]int,int] -/
def Zam.r0:List Oper:=[
 oM 4 (.c (.b false))]
def Zam.r1:List Oper:=[
 oM 5 0,
 oM 6 1,
 oC 7 91 [5,6],
 oD 8 (.bin .geq 7 (cI 0)),
 oM 4 8]
def Zam.code:Code:=.seq Zam.r0 (.seq Zam.r1 (.ret))
def Zam:Func:=⟨9,[.t 4],Zam.code⟩
/-! muntin/front.right$1 -/
def Zb2.r0:List Oper:=[
 oM 2 (.c (.b false))]
def Zb2.r1:List Oper:=[
 oM 3 0,
 oD 4 (.bin .lss 3 (cI (-2))),
 oM 5 4,
 oF 6 5 (.mv 0),
 oF 7 5 (.bin .gtr 6 (cI 1)),
 oD 8 (.pick 5 (.c (.b true)) 7),
 oM 2 8]
def Zb2.code:Code:=.seq Zb2.r0 (.seq Zb2.r1 (.ret))
def Zb2:Func:=⟨9,[.t 2],Zb2.code⟩
/-! muntin/grid.side -/
def zJ.r0:List Oper:=[
 oM 6 (cI 0)]
def zJ.r1:List Oper:=[
 oM 10 0,
 oM 11 1,
 oM 12 2,
 oD 13 (.ixa 8 10 11),
 oD 14 (.fa 0 13),
 oD 15 (.ixaa 1 4 14 12),
 oD 16 (.ld false 1 15),
 oM 17 0,
 oM 18 1,
 oM 19 2,
 oD 20 (.ixa 8 17 18),
 oD 21 (.fa 4 20),
 oD 22 (.ixaa 1 4 21 19),
 oD 23 (.ld false 1 22),
 oM 7 16,
 oM 8 23]
def zJ.r2:List Oper:=[
 oM 24 7,
 oD 25 (.eq false .sc 24 (cI (-1)))]
def zJ.r3:List Oper:=[
 oM 26 8,
 oD 27 (.eq true .sc 26 (cI 0))]
def zJ.r4:List Oper:=[
 oM 6 (cI 9)]
def zJ.r5:List Oper:=[
 oM 6 (cI 0)]
def zJ.r6:List Oper:=[
 oM 28 7,
 oD 29 (.bin .lss 28 (cI 0)),
 oM 30 29,
 oF 31 30 (.mv 7),
 oF 32 30 (.mv 0),
 oF 33 30 (.len 32),
 oF 34 30 (.bin .geq 31 33),
 oD 35 (.pick 30 (.c (.b true)) 34),
 oM 36 35,
 oF 37 36 (.mv 7),
 oF 38 36 (.mv 1),
 oF 39 36 (.eq false .sc 37 38),
 oD 40 (.pick 36 (.c (.b true)) 39)]
def zJ.r7:List Oper:=[
 oM 6 (cI 3)]
def zJ.r8:List Oper:=[
 oM 41 2,
 oC 42 77 [41,.c (.n 2)],
 oM 9 42]
def zJ.r9:List Oper:=[
 oM 43 0,
 oM 44 7,
 oM 45 9,
 oD 46 (.ixa 8 43 44),
 oD 47 (.fa 0 46),
 oD 48 (.ixaa 1 4 47 45),
 oD 49 (.ld false 1 48),
 oM 50 1,
 oD 51 (.eq true .sc 49 50),
 oM 52 51,
 oF 53 52 (.mv 0),
 oF 54 52 (.mv 7),
 oF 55 52 (.mv 9),
 oF 56 52 (.ixa 8 53 54),
 oF 57 52 (.fa 4 56),
 oF 58 52 (.ixaa 1 4 57 55),
 oF 59 52 (.ld false 1 58),
 oF 60 52 (.mv 8),
 oF 61 52 (.eq true .sc 59 60),
 oD 62 (.pick 52 (.c (.b true)) 61),
 oM 63 62,
 oF 64 63 (.mv 8),
 oF 65 63 (.bin .lss 64 (cI (-2))),
 oD 66 (.pick 63 (.c (.b true)) 65)]
def zJ.r10:List Oper:=[
 oM 6 (cI 9)]
def zJ.r11:List Oper:=[
 oM 6 (cI 0)]
def zJ.code:Code:=.seq zJ.r0 (.seq (.draw zJ.r1 [(6,13)]) (.seq (.seq zJ.r2 (.cond 25 (.seq (.seq zJ.r3 (.cond 27 (.seq zJ.r4 (.ret)) (.skip))) (.seq zJ.r5 (.ret))) (.skip))) (.seq (.seq zJ.r6 (.cond 40 (.seq zJ.r7 (.ret)) (.skip))) (.seq zJ.r8 (.seq (.seq zJ.r9 (.cond 66 (.seq zJ.r10 (.ret)) (.skip))) (.seq zJ.r11 (.ret)))))))
def zJ:Func:=⟨67,[.t 6],zJ.code⟩
/-! slices.Repeat[[]int,int] -/
def ZE.r0:List Oper:=[
 oM 4 (.c (.sn))]
def ZE.r1:List Oper:=[
 oM 9 1,
 oD 10 (.bin .lss 9 (cI 0))]
def ZE.r2:List Oper:=[
 oD 11 (.bad),
 oN (.bad)]
def ZE.r3:List Oper:=[
 oM 13 0,
 oD 14 (.len 13),
 oD 15 (.conv .u64 14),
 oM 16 1,
 oD 17 (.conv .u64 16),
 oC 18 89 [15,17],
 oM 12 18,
 oD 19 (.ext 12 0),
 oD 20 (.ext 12 1),
 oM 5 19,
 oM 6 20]
def ZE.r4:List Oper:=[
 oM 21 5,
 oD 22 (.bin .gtr 21 (.c (.i .u64 0))),
 oM 23 22,
 oF 24 23 (.mv 6),
 oF 25 23 (.bin .gtr 24 (.c (.i .u64 9223372036854775807))),
 oD 26 (.pick 23 (.c (.b true)) 25)]
def ZE.r5:List Oper:=[
 oD 27 (.bad),
 oN (.bad)]
def ZE.r6:List Oper:=[
 oM 28 6,
 oD 29 (.conv .i64 28),
 oD 30 (.mks 1 8 [.n 0] 29 29),
 oM 7 30]
def ZE.r7:List Oper:=[
 oM 31 7,
 oM 32 0,
 oD 33 (.cpy 1 31 32),
 oM 8 33]
def ZE.r8:List Oper:=[
 oM 34 8,
 oM 35 7,
 oD 36 (.len 35),
 oD 37 (.bin .lss 34 36)]
def ZE.r9:List Oper:=[
 oM 38 8,
 oM 39 7,
 oM 40 8,
 oD 41 (.slc 1 39 (some 40) none none),
 oM 42 7,
 oM 43 8,
 oD 44 (.slc 1 42 none (some 43) none),
 oD 45 (.cpy 1 41 44),
 oD 46 (.bin .add 38 45),
 oM 8 46]
def ZE.l0:Code:=.seq (.seq ZE.r8 (.cond 37 (.skip) (.exit 0))) (.block 1 (.draw ZE.r9 []))
def ZE.r10:List Oper:=[
 oM 47 7,
 oM 4 47]
def ZE.code:Code:=.seq ZE.r0 (.seq (.seq ZE.r1 (.cond 10 ZE.r2 (.skip))) (.seq ZE.r3 (.seq (.seq ZE.r4 (.cond 26 ZE.r5 (.skip))) (.seq ZE.r6 (.seq ZE.r7 (.seq (.block 0 (.loop ZE.l0)) (.seq ZE.r10 (.ret))))))))
def ZE:Func:=⟨48,[.t 4],ZE.code⟩
/-! math/bits.Mul -/
def Zb9.r0:List Oper:=[
 oM 4 (.c (.i .u64 0)),
 oM 5 (.c (.i .u64 0))]
def Zb9.r1:List Oper:=[
 oM 11 0,
 oD 12 (.conv .u32 11),
 oM 13 1,
 oD 14 (.conv .u32 13),
 oC 15 97 [12,14],
 oM 10 15,
 oD 16 (.ext 10 0),
 oD 17 (.ext 10 1),
 oM 6 16,
 oM 7 17]
def Zb9.r2:List Oper:=[
 oM 18 6,
 oD 19 (.conv .u64 18),
 oM 20 7,
 oD 21 (.conv .u64 20),
 oM 4 19,
 oM 5 21]
def Zb9.r3:List Oper:=[
 oM 23 0,
 oM 24 1,
 oC 25 98 [23,24],
 oM 22 25,
 oD 26 (.ext 22 0),
 oD 27 (.ext 22 1),
 oM 8 26,
 oM 9 27]
def Zb9.r4:List Oper:=[
 oM 28 8,
 oM 29 9,
 oM 4 28,
 oM 5 29]
def Zb9.code:Code:=.seq Zb9.r0 (.seq (.cond (.c (.b false)) (.seq Zb9.r1 (.seq Zb9.r2 (.ret))) (.skip)) (.seq Zb9.r3 (.seq Zb9.r4 (.ret))))
def Zb9:Func:=⟨30,[.t 4,.t 5],Zb9.code⟩
/-! muntin/compass.Good -/
def ZbE.r0:List Oper:=[
 oM 2 (.c (.b false))]
def ZbE.r1:List Oper:=[
 oM 3 0,
 oD 4 (.bin .geq 3 (cI 0)),
 oM 5 4,
 oT 6 5 (.mv 0),
 oT 7 5 (.bin .leq 6 (cI 3)),
 oD 8 (.pick 5 7 (.c (.b false))),
 oM 2 8]
def ZbE.code:Code:=.seq ZbE.r0 (.seq ZbE.r1 (.ret))
def ZbE:Func:=⟨9,[.t 2],ZbE.code⟩
/-! slices.IndexFunc[[]int,int] -/
def ZI.r0:List Oper:=[
 oM 4 (cI 0)]
def ZI.r1:List Oper:=[
 oM 6 0,
 oD 7 (.len 6),
 oM 8 (cI 0)]
def ZI.r2:List Oper:=[
 oD 9 (.bin .lss 8 7)]
def ZI.r3:List Oper:=[
 oM 10 8,
 oM 5 10]
def ZI.r4:List Oper:=[
 oM 11 1,
 oM 12 0,
 oM 13 5,
 oD 14 (.ixa 1 12 13),
 oD 15 (.ld false 1 14),
 oD 16 (.call 11 [15])]
def ZI.r5:List Oper:=[
 oM 17 5,
 oM 4 17]
def ZI.r6:List Oper:=[
 oD 18 (.bin .add 8 (cI 1)),
 oM 8 18]
def ZI.l0:Code:=.seq ZI.r2 (.seq (.cond 9 (.skip) (.exit 0)) (.seq (.block 1 (.seq ZI.r3 (.seq ZI.r4 (.cond 16 (.seq ZI.r5 (.ret)) (.skip))))) ZI.r6))
def ZI.r7:List Oper:=[
 oM 4 (cI (-1))]
def ZI.code:Code:=.seq ZI.r0 (.seq (.seq ZI.r1 (.block 0 (.loop ZI.l0))) (.seq ZI.r7 (.ret)))
def ZI:Func:=⟨19,[.t 4],ZI.code⟩
/-! math/bits.Mul32 -/
def ZbD.r0:List Oper:=[
 oM 4 (.c (.i .u32 0)),
 oM 5 (.c (.i .u32 0))]
def ZbD.r1:List Oper:=[
 oM 7 0,
 oD 8 (.conv .u64 7),
 oM 9 1,
 oD 10 (.conv .u64 9),
 oD 11 (.bin .mul 8 10),
 oM 6 11]
def ZbD.r2:List Oper:=[
 oM 12 6,
 oD 13 (.bin .shr 12 (.c (.i .u64 32))),
 oD 14 (.conv .u32 13),
 oM 15 6,
 oD 16 (.conv .u32 15),
 oM 4 14,
 oM 5 16]
def ZbD.code:Code:=.seq ZbD.r0 (.seq ZbD.r1 (.seq ZbD.r2 (.ret)))
def ZbD:Func:=⟨17,[.t 4,.t 5],ZbD.code⟩
/-! math/bits.Mul64 -/
def zy.r0:List Oper:=[
 oM 4 (.c (.i .u64 0)),
 oM 5 (.c (.i .u64 0))]
def zy.r1:List Oper:=[
 oM 14 0,
 oD 15 (.bin .and 14 (.c (.i .u64 4294967295))),
 oM 6 15]
def zy.r2:List Oper:=[
 oM 16 0,
 oD 17 (.bin .shr 16 (.c (.i .u64 32))),
 oM 7 17]
def zy.r3:List Oper:=[
 oM 18 1,
 oD 19 (.bin .and 18 (.c (.i .u64 4294967295))),
 oM 8 19]
def zy.r4:List Oper:=[
 oM 20 1,
 oD 21 (.bin .shr 20 (.c (.i .u64 32))),
 oM 9 21]
def zy.r5:List Oper:=[
 oM 22 6,
 oM 23 8,
 oD 24 (.bin .mul 22 23),
 oM 10 24]
def zy.r6:List Oper:=[
 oM 25 7,
 oM 26 8,
 oD 27 (.bin .mul 25 26),
 oM 28 10,
 oD 29 (.bin .shr 28 (.c (.i .u64 32))),
 oD 30 (.bin .add 27 29),
 oM 11 30]
def zy.r7:List Oper:=[
 oM 31 11,
 oD 32 (.bin .and 31 (.c (.i .u64 4294967295))),
 oM 12 32]
def zy.r8:List Oper:=[
 oM 33 11,
 oD 34 (.bin .shr 33 (.c (.i .u64 32))),
 oM 13 34]
def zy.r9:List Oper:=[
 oM 35 12,
 oM 36 6,
 oM 37 9,
 oD 38 (.bin .mul 36 37),
 oD 39 (.bin .add 35 38),
 oM 12 39]
def zy.r10:List Oper:=[
 oM 40 7,
 oM 41 9,
 oD 42 (.bin .mul 40 41),
 oM 43 13,
 oD 44 (.bin .add 42 43),
 oM 45 12,
 oD 46 (.bin .shr 45 (.c (.i .u64 32))),
 oD 47 (.bin .add 44 46),
 oM 4 47]
def zy.r11:List Oper:=[
 oM 48 0,
 oM 49 1,
 oD 50 (.bin .mul 48 49),
 oM 5 50]
def zy.code:Code:=.seq zy.r0 (.seq zy.r1 (.seq zy.r2 (.seq zy.r3 (.seq zy.r4 (.seq zy.r5 (.seq zy.r6 (.seq zy.r7 (.seq zy.r8 (.seq zy.r9 (.seq zy.r10 (.seq zy.r11 (.ret))))))))))))
def zy:Func:=⟨51,[.t 4,.t 5],zy.code⟩
/-! muntin/muntinref04.Layers -/
def Z1.r0:List Oper:=[
 oM 4 (.c (.sn))]
def Z1.r1:List Oper:=[
 oM 8 0,
 oD 9 (.mks 1 8 [.n 0] 8 8),
 oM 5 9]
def Z1.r2:List Oper:=[
 oM 6 (cI 0)]
def Z1.r3:List Oper:=[
 oM 10 6,
 oM 11 0,
 oD 12 (.bin .leq 10 11)]
def Z1.r5:List Oper:=[
 oM 7 (cI 0)]
def Z1.r6:List Oper:=[
 oM 15 7,
 oM 16 1,
 oD 17 (.len 16),
 oD 18 (.bin .lss 15 17)]
def Z1.r8:List Oper:=[
 oM 21 5,
 oM 22 1,
 oM 23 7,
 oD 24 (.ixa 3 22 23),
 oD 25 (.fa 1 24),
 oD 26 (.ld false 1 25),
 oD 27 (.ixa 1 21 26),
 oD 28 (.ld false 1 27),
 oM 29 5,
 oM 30 1,
 oM 31 7,
 oD 32 (.ixa 3 30 31),
 oD 33 (.fa 0 32),
 oD 34 (.ld false 1 33),
 oD 35 (.ixa 1 29 34),
 oD 36 (.ld false 1 35),
 oD 37 (.bin .leq 28 36)]
def Z1.r9:List Oper:=[
 oM 38 5,
 oM 39 1,
 oM 40 7,
 oD 41 (.ixa 3 39 40),
 oD 42 (.fa 1 41),
 oD 43 (.ld false 1 42),
 oM 44 5,
 oM 45 1,
 oM 46 7,
 oD 47 (.ixa 3 45 46),
 oD 48 (.fa 0 47),
 oD 49 (.ld false 1 48),
 oD 50 (.ixa 1 44 49),
 oD 51 (.ld false 1 50),
 oD 52 (.bin .add 51 (cI 1)),
 oD 53 (.ixa 1 38 43),
 oN (.st 1 53 52)]
def Z1.r7:List Oper:=[
 oM 19 7,
 oD 20 (.bin .add 19 (cI 1)),
 oM 7 20]
def Z1.l0:Code:=.seq (.seq Z1.r6 (.cond 18 (.skip) (.exit 2))) (.seq (.block 3 (.seq (.draw Z1.r8 [(5,13),(7,13),(5,15),(7,15)]) (.cond 37 (.draw Z1.r9 [(5,11),(5,13)]) (.skip)))) Z1.r7)
def Z1.r4:List Oper:=[
 oM 13 6,
 oD 14 (.bin .add 13 (cI 1)),
 oM 6 14]
def Z1.l1:Code:=.seq (.seq Z1.r3 (.cond 12 (.skip) (.exit 0))) (.seq (.block 1 (.seq Z1.r5 (.block 2 (.loop Z1.l0)))) Z1.r4)
def Z1.r10:List Oper:=[
 oM 54 5,
 oM 4 54]
def Z1.code:Code:=.seq Z1.r0 (.seq Z1.r1 (.seq (.seq Z1.r2 (.block 0 (.loop Z1.l1))) (.seq Z1.r10 (.ret))))
def Z1:Func:=⟨55,[.t 4],Z1.code⟩
/-! muntin/grid.Of -/
def ZbR.r0:List Oper:=[
 oM 2 (.c (.pn)),
 oM 3 (cI 0)]
def ZbR.r1:List Oper:=[
 oM 5 0,
 oC 6 66 [5],
 oM 4 6]
def ZbR.r2:List Oper:=[
 oM 7 4,
 oD 8 (.eq true .sc 7 (cI 0))]
def ZbR.r3:List Oper:=[
 oM 9 4,
 oM 2 (.c (.pn)),
 oM 3 9]
def ZbR.r4:List Oper:=[
 oM 10 0,
 oC 11 51 [10],
 oD 12 (.build [.sn] [(0,1,.t 11)]),
 oD 13 (.box 12),
 oM 2 13,
 oM 3 (cI 0)]
def ZbR.code:Code:=.seq ZbR.r0 (.seq (.seq ZbR.r1 (.seq ZbR.r2 (.cond 8 (.seq ZbR.r3 (.ret)) (.skip)))) (.seq ZbR.r4 (.ret)))
def ZbR:Func:=⟨14,[.t 2,.t 3],ZbR.code⟩
/-! muntin/muntinref16.Of -/
def zY.r0:List Oper:=[
 oD 2 (.alloc [.sn,.sn,.sn,.sn]),
 oM 3 (.c (.b false))]
def zY.r1:List Oper:=[
 oM 11 0,
 oC 12 138 [11,.c (.n 1)],
 oM 10 12,
 oD 13 (.ext 10 0),
 oD 14 (.ext 10 1),
 oD 15 (.ext 10 2),
 oM 4 13,
 oM 5 14,
 oM 6 15]
def zY.r2:List Oper:=[
 oM 17 0,
 oC 18 138 [17,.c (.n 0)],
 oM 16 18,
 oD 19 (.ext 16 0),
 oD 20 (.ext 16 1),
 oD 21 (.ext 16 2),
 oM 7 19,
 oM 8 20,
 oM 9 21]
def zY.r3:List Oper:=[
 oM 22 6,
 oD 23 (.un .not 22),
 oM 24 23,
 oF 25 24 (.mv 9),
 oF 26 24 (.un .not 25),
 oD 27 (.pick 24 (.c (.b true)) 26)]
def zY.r4:List Oper:=[
 oD 28 (.build [.sn,.sn,.sn,.sn] []),
 oN (.st 4 2 28),
 oM 3 (.c (.b false))]
def zY.r5:List Oper:=[
 oM 29 4,
 oM 30 7,
 oM 31 5,
 oM 32 8,
 oD 33 (.build [.sn,.sn,.sn,.sn] [(0,1,.t 29),(1,1,.t 30),(2,1,.t 31),(3,1,.t 32)]),
 oN (.st 4 2 33),
 oM 3 (.c (.b true))]
def zY.code:Code:=.seq zY.r0 (.seq zY.r1 (.seq zY.r2 (.seq (.seq zY.r3 (.cond 27 (.seq zY.r4 (.ret)) (.skip))) (.seq zY.r5 (.ret)))))
def zY:Func:=⟨34,[.cell 2 true 4,.t 3],zY.code⟩
/-! muntin/muntinref16.Meet -/
def Z3.r0:List Oper:=[
 oD 5 (.box 0),
 oM 10 (.c (.b false))]
def Z3.r1:List Oper:=[
 oM 11 (cI 0)]
def Z3.r2:List Oper:=[
 oM 14 11,
 oD 15 (.fa 0 5),
 oD 16 (.ld false 1 15),
 oD 17 (.len 16),
 oD 18 (.bin .lss 14 17)]
def Z3.r4:List Oper:=[
 oD 21 (.fa 1 5),
 oD 22 (.ld false 1 21),
 oM 23 11,
 oD 24 (.ixa 1 22 23),
 oD 25 (.ld false 1 24),
 oM 26 2,
 oD 27 (.eq false .sc 25 26),
 oM 12 27]
def Z3.r5:List Oper:=[
 oM 28 1]
def Z3.r6:List Oper:=[
 oD 29 (.fa 0 5),
 oD 30 (.ld false 1 29),
 oM 31 11,
 oD 32 (.ixa 1 30 31),
 oD 33 (.ld false 1 32),
 oM 34 2,
 oD 35 (.eq false .sc 33 34),
 oM 12 35]
def Z3.r7:List Oper:=[
 oD 36 (.fa 1 5),
 oD 37 (.ld false 1 36),
 oM 38 11,
 oD 39 (.ixa 1 37 38),
 oD 40 (.ld false 1 39),
 oM 41 4,
 oD 42 (.eq false .sc 40 41),
 oM 13 42]
def Z3.r8:List Oper:=[
 oM 43 3]
def Z3.r9:List Oper:=[
 oD 44 (.fa 0 5),
 oD 45 (.ld false 1 44),
 oM 46 11,
 oD 47 (.ixa 1 45 46),
 oD 48 (.ld false 1 47),
 oM 49 4,
 oD 50 (.eq false .sc 48 49),
 oM 13 50]
def Z3.r10:List Oper:=[
 oM 51 12,
 oM 52 51,
 oT 53 52 (.mv 13),
 oD 54 (.pick 52 53 (.c (.b false)))]
def Z3.r11:List Oper:=[
 oM 10 (.c (.b true))]
def Z3.r3:List Oper:=[
 oM 19 11,
 oD 20 (.bin .add 19 (cI 1)),
 oM 11 20]
def Z3.l0:Code:=.seq (.seq Z3.r2 (.cond 18 (.skip) (.exit 0))) (.seq (.block 1 (.seq Z3.r4 (.seq (.seq Z3.r5 (.cond 28 Z3.r6 (.skip))) (.seq Z3.r7 (.seq (.seq Z3.r8 (.cond 43 Z3.r9 (.skip))) (.seq Z3.r10 (.cond 54 (.seq Z3.r11 (.ret)) (.skip)))))))) Z3.r3)
def Z3.r12:List Oper:=[
 oM 10 (.c (.b false))]
def Z3.code:Code:=.seq Z3.r0 (.seq (.seq Z3.r1 (.block 0 (.loop Z3.l0))) (.seq Z3.r12 (.ret)))
def Z3:Func:=⟨55,[.t 10],Z3.code⟩
/-! muntin/muntinref16.chains -/
def Zk.r0:List Oper:=[
 oM 4 (.c (.sn)),
 oM 5 (.c (.sn)),
 oM 6 (.c (.b false))]
def Zk.r1:List Oper:=[
 oM 15 0,
 oD 16 (.len 15),
 oD 17 (.mks 1 8 [.n 0] 16 16),
 oM 7 17]
def Zk.r2:List Oper:=[
 oM 8 (.c (.sn))]
def Zk.r3:List Oper:=[
 oM 9 (.c (.sn))]
def Zk.r4:List Oper:=[
 oM 10 (cI 0)]
def Zk.r5:List Oper:=[
 oM 18 10,
 oM 19 0,
 oD 20 (.len 19),
 oD 21 (.bin .lss 18 20)]
def Zk.r7:List Oper:=[
 oM 24 0,
 oM 25 10,
 oM 26 1,
 oC 27 150 [24,25,26],
 oM 11 27]
def Zk.r8:List Oper:=[
 oM 28 11,
 oD 29 (.bin .lss 28 (cI 0))]
def Zk.r9:List Oper:=[
 oM 4 (.c (.sn)),
 oM 5 (.c (.sn)),
 oM 6 (.c (.b false))]
def Zk.r10:List Oper:=[
 oM 12 (cI 0)]
def Zk.r11:List Oper:=[
 oM 30 12,
 oM 31 8,
 oD 32 (.len 31),
 oD 33 (.bin .lss 30 32),
 oM 34 33,
 oT 35 34 (.mv 8),
 oT 36 34 (.mv 12),
 oT 37 34 (.ixa 1 35 36),
 oT 38 34 (.ld false 1 37),
 oT 39 34 (.mv 11),
 oT 40 34 (.eq true .sc 38 39),
 oD 41 (.pick 34 40 (.c (.b false)))]
def Zk.r12:List Oper:=[
 oM 42 12,
 oD 43 (.bin .add 42 (cI 1)),
 oM 12 43]
def Zk.l0:Code:=.seq (.seq Zk.r11 (.cond 41 (.skip) (.exit 2))) (.block 3 Zk.r12)
def Zk.r13:List Oper:=[
 oM 44 7,
 oM 45 10,
 oM 46 12,
 oD 47 (.ixa 1 44 45),
 oN (.st 1 47 46)]
def Zk.r14:List Oper:=[
 oM 48 12,
 oM 49 8,
 oD 50 (.len 49),
 oD 51 (.eq false .sc 48 50)]
def Zk.r15:List Oper:=[
 oM 52 8,
 oM 53 11,
 oD 54 (.bsl 1 1 [.n 0] [(0,1,.t 53)]),
 oD 55 (.app 1 8 52 54),
 oM 8 55]
def Zk.r16:List Oper:=[
 oM 13 (.c (.sn))]
def Zk.r17:List Oper:=[
 oM 56 11,
 oM 14 56]
def Zk.r18:List Oper:=[
 oM 57 14,
 oD 58 (.bin .geq 57 (cI 0))]
def Zk.r20:List Oper:=[
 oM 66 13,
 oM 67 14,
 oD 68 (.bsl 1 1 [.n 0] [(0,1,.t 67)]),
 oD 69 (.app 1 8 66 68),
 oM 13 69]
def Zk.r19:List Oper:=[
 oM 59 0,
 oM 60 14,
 oM 61 1,
 oD 62 (.ixa 8 59 60),
 oD 63 (.fa 0 62),
 oD 64 (.ixaa 1 4 63 61),
 oD 65 (.ld false 1 64),
 oM 14 65]
def Zk.l1:Code:=.seq (.seq Zk.r18 (.cond 58 (.skip) (.exit 4))) (.seq (.block 5 Zk.r20) Zk.r19)
def Zk.r21:List Oper:=[
 oM 70 9,
 oM 71 13,
 oD 72 (.bsl 1 1 [.sn] [(0,1,.t 71)]),
 oD 73 (.app 1 24 70 72),
 oM 9 73]
def Zk.r6:List Oper:=[
 oM 22 10,
 oD 23 (.bin .add 22 (cI 1)),
 oM 10 23]
def Zk.l2:Code:=.seq (.seq Zk.r5 (.cond 21 (.skip) (.exit 0))) (.seq (.block 1 (.seq Zk.r7 (.seq (.seq Zk.r8 (.cond 29 (.seq Zk.r9 (.ret)) (.skip))) (.seq Zk.r10 (.seq (.block 2 (.loop Zk.l0)) (.seq Zk.r13 (.seq Zk.r14 (.cond 51 (.seq Zk.r15 (.seq Zk.r16 (.seq (.seq Zk.r17 (.block 4 (.loop Zk.l1))) Zk.r21))) (.skip))))))))) Zk.r6)
def Zk.r22:List Oper:=[
 oM 74 7,
 oM 75 9,
 oM 4 74,
 oM 5 75,
 oM 6 (.c (.b true))]
def Zk.code:Code:=.seq Zk.r0 (.seq Zk.r1 (.seq Zk.r2 (.seq Zk.r3 (.seq (.seq Zk.r4 (.block 0 (.loop Zk.l2))) (.seq Zk.r22 (.ret))))))
def Zk:Func:=⟨76,[.t 4,.t 5,.t 6],Zk.code⟩
/-! muntin/muntinref16.First -/
def ZS.r0:List Oper:=[
 oM 6 (cI 0)]
def ZS.r1:List Oper:=[
 oM 7 (cI 0)]
def ZS.r2:List Oper:=[
 oM 9 7,
 oM 10 0,
 oD 11 (.len 10),
 oD 12 (.bin .leq 9 11)]
def ZS.r4:List Oper:=[
 oM 15 0,
 oM 16 1,
 oM 17 2,
 oD 18 (.bin .add 17 (cI 2)),
 oD 19 (.bin .rem 18 (cI 4)),
 oD 20 (.ixa 8 15 16),
 oD 21 (.fa 0 20),
 oD 22 (.ixaa 1 4 21 19),
 oD 23 (.ld false 1 22),
 oM 8 23]
def ZS.r5:List Oper:=[
 oM 24 8,
 oD 25 (.bin .lss 24 (cI 0))]
def ZS.r6:List Oper:=[
 oM 26 1,
 oM 6 26]
def ZS.r7:List Oper:=[
 oM 27 8,
 oM 1 27]
def ZS.r3:List Oper:=[
 oM 13 7,
 oD 14 (.bin .add 13 (cI 1)),
 oM 7 14]
def ZS.l0:Code:=.seq (.seq ZS.r2 (.cond 12 (.skip) (.exit 0))) (.seq (.block 1 (.seq ZS.r4 (.seq (.seq ZS.r5 (.cond 25 (.seq ZS.r6 (.ret)) (.skip))) ZS.r7))) ZS.r3)
def ZS.r8:List Oper:=[
 oM 6 (cI (-1))]
def ZS.code:Code:=.seq ZS.r0 (.seq (.seq ZS.r1 (.block 0 (.loop ZS.l0))) (.seq ZS.r8 (.ret)))
def ZS:Func:=⟨28,[.t 6],ZS.code⟩
/-! muntin/muntinref17.Graph -/
def Z4.r0:List Oper:=[
 oM 6 (.c (.sn))]
def Z4.r1:List Oper:=[
 oM 7 (.c (.sn))]
def Z4.r2:List Oper:=[
 oM 8 (cI 0)]
def Z4.r3:List Oper:=[
 oM 11 8,
 oM 12 0,
 oD 13 (.len 12),
 oD 14 (.bin .lss 11 13)]
def Z4.r5:List Oper:=[
 oM 17 0,
 oM 18 8,
 oM 19 1,
 oD 20 (.ixa 8 17 18),
 oD 21 (.fa 0 20),
 oD 22 (.ixaa 1 4 21 19),
 oD 23 (.ld false 1 22),
 oM 9 23]
def Z4.r6:List Oper:=[
 oM 24 9,
 oD 25 (.bin .lss 24 (cI 0))]
def Z4.r7:List Oper:=[
 oM 26 2,
 oM 27 8,
 oD 28 (.ixa 1 26 27),
 oD 29 (.ld false 1 28),
 oM 30 2,
 oM 31 9,
 oD 32 (.ixa 1 30 31),
 oD 33 (.ld false 1 32),
 oD 34 (.build [.n 0,.n 0,.n 0] [(0,1,.t 29),(1,1,.t 33)]),
 oD 10 (.alloc [.n 0,.n 0,.n 0]),
 oN (.st 3 10 34)]
def Z4.r8:List Oper:=[
 oM 35 0,
 oM 36 8,
 oM 37 1,
 oD 38 (.ixa 8 35 36),
 oD 39 (.fa 4 38),
 oD 40 (.ixaa 1 4 39 37),
 oD 41 (.ld false 1 40),
 oD 42 (.bin .geq 41 (cI 0))]
def Z4.r9:List Oper:=[
 oD 43 (.fa 2 10),
 oN (.st 1 43 (cI 1))]
def Z4.r10:List Oper:=[
 oM 44 7,
 oD 45 (.ld true 3 10),
 oD 46 (.bsl 3 1 [.n 0,.n 0,.n 0] [(0,3,.t 45)]),
 oD 47 (.app 3 24 44 46),
 oM 7 47]
def Z4.r4:List Oper:=[
 oM 15 8,
 oD 16 (.bin .add 15 (cI 1)),
 oM 8 16]
def Z4.l0:Code:=.seq (.seq Z4.r3 (.cond 14 (.skip) (.exit 0))) (.seq (.block 1 (.seq Z4.r5 (.seq (.seq Z4.r6 (.cond 25 (.exit 1) (.skip))) (.seq (.draw Z4.r7 [(3,7),(3,9),(7,9)]) (.seq (.seq Z4.r8 (.cond 42 Z4.r9 (.skip))) Z4.r10))))) Z4.r4)
def Z4.r11:List Oper:=[
 oM 48 7,
 oM 6 48]
def Z4.code:Code:=.seq Z4.r0 (.seq Z4.r1 (.seq (.seq Z4.r2 (.block 0 (.loop Z4.l0))) (.seq Z4.r11 (.ret))))
def Z4:Func:=⟨49,[.t 6],Z4.code⟩
/-! muntin/muntinref17.Place -/
def ze.r0:List Oper:=[
 oD 3 (.box 0),
 oM 6 (.c (.sn))]
def ze.r1:List Oper:=[
 oM 7 (.c (.sn))]
def ze.r2:List Oper:=[
 oM 8 (cI 0)]
def ze.r3:List Oper:=[
 oM 9 8,
 oD 10 (.fa 0 3),
 oD 11 (.ld false 1 10),
 oD 12 (.len 11),
 oD 13 (.bin .lss 9 12)]
def ze.r5:List Oper:=[
 oM 16 7,
 oM 17 1,
 oD 18 (.fa 0 3),
 oD 19 (.ld false 1 18),
 oM 20 8,
 oD 21 (.ixa 1 19 20),
 oD 22 (.ld false 1 21),
 oD 23 (.ixa 1 17 22),
 oD 24 (.ld false 1 23),
 oM 25 2,
 oD 26 (.fa 1 3),
 oD 27 (.ld false 1 26),
 oM 28 8,
 oD 29 (.ixa 1 27 28),
 oD 30 (.ld false 1 29),
 oD 31 (.ixa 1 25 30),
 oD 32 (.ld false 1 31),
 oD 33 (.build [.n 0,.n 0] [(0,1,.t 24),(1,1,.t 32)]),
 oD 34 (.bsl 2 1 [.n 0,.n 0] [(0,2,.t 33)]),
 oD 35 (.app 2 16 16 34),
 oM 7 35]
def ze.r4:List Oper:=[
 oM 14 8,
 oD 15 (.bin .add 14 (cI 1)),
 oM 8 15]
def ze.l0:Code:=.seq (.seq ze.r3 (.cond 13 (.skip) (.exit 0))) (.seq (.block 1 (.draw ze.r5 [(3,11),(6,11),(8,11),(3,14),(6,14),(8,14),(3,16),(6,16),(8,16)])) ze.r4)
def ze.r6:List Oper:=[
 oM 36 7,
 oM 6 36]
def ze.code:Code:=.seq ze.r0 (.seq ze.r1 (.seq (.seq ze.r2 (.block 0 (.loop ze.l0))) (.seq ze.r6 (.ret))))
def ze:Func:=⟨37,[.t 6],ze.code⟩
/-! muntin/valid.Check -/
def zC.r0:List Oper:=[
 oM 2 (cI 0)]
def zC.r1:List Oper:=[
 oM 6 0,
 oC 7 66 [6],
 oM 3 7]
def zC.r2:List Oper:=[
 oM 8 3,
 oD 9 (.eq true .sc 8 (cI 0))]
def zC.r3:List Oper:=[
 oM 10 3,
 oM 2 10]
def zC.r4:List Oper:=[
 oM 11 0,
 oC 12 32 [11],
 oD 13 (.un .not 12)]
def zC.r5:List Oper:=[
 oM 2 (cI 13)]
def zC.r6:List Oper:=[
 oM 15 0,
 oC 16 201 [15],
 oM 14 16,
 oD 17 (.ext 14 0),
 oD 18 (.ext 14 1),
 oM 4 17,
 oM 5 18]
def zC.r7:List Oper:=[
 oM 19 5,
 oD 20 (.un .not 19),
 oM 21 20,
 oT 22 21 (.mv 0),
 oT 23 21 (.len 22),
 oT 24 21 (.bin .gtr 23 (cI 1)),
 oD 25 (.pick 21 24 (.c (.b false)))]
def zC.r8:List Oper:=[
 oM 2 (cI 10)]
def zC.r9:List Oper:=[
 oM 2 (cI 0)]
def zC.code:Code:=.seq zC.r0 (.seq (.seq zC.r1 (.seq zC.r2 (.cond 9 (.seq zC.r3 (.ret)) (.skip)))) (.seq (.seq zC.r4 (.cond 13 (.seq zC.r5 (.ret)) (.skip))) (.seq (.seq zC.r6 (.seq zC.r7 (.cond 25 (.seq zC.r8 (.ret)) (.skip)))) (.seq zC.r9 (.ret)))))
def zC:Func:=⟨26,[.t 2],zC.code⟩
/-! muntin/front.First -/
def zc.r0:List Oper:=[
 oM 2 (cI 0),
 oM 3 (cI 0),
 oM 4 (.c (.b false))]
def zc.r1:List Oper:=[
 oM 13 0,
 oC 14 195 [13],
 oM 12 14,
 oD 15 (.ext 12 0),
 oD 16 (.ext 12 1),
 oM 5 15,
 oM 6 16]
def zc.r2:List Oper:=[
 oM 17 6,
 oD 18 (.eq true .sc 17 (cI 0))]
def zc.r3:List Oper:=[
 oM 2 (cI 0),
 oM 3 (cI 0),
 oM 4 (.c (.b false))]
def zc.r4:List Oper:=[
 oM 20 0,
 oC 21 203 [20],
 oM 19 21,
 oD 22 (.ext 19 0),
 oD 23 (.ext 19 1),
 oM 7 22,
 oM 8 23]
def zc.r5:List Oper:=[
 oM 24 7,
 oD 25 (.len 24),
 oM 26 (cI 0)]
def zc.r6:List Oper:=[
 oD 27 (.bin .lss 26 25)]
def zc.r7:List Oper:=[
 oM 28 26,
 oD 29 (.ixa 1 24 26),
 oD 30 (.ld false 1 29),
 oM 9 28,
 oM 10 30]
def zc.r8:List Oper:=[
 oM 31 0,
 oM 32 10,
 oC 33 204 [31,32],
 oC 34 91 [33,.c (.f 205 [])],
 oM 11 34]
def zc.r9:List Oper:=[
 oM 35 9,
 oM 36 5,
 oD 37 (.eq true .sc 35 36),
 oM 38 37,
 oT 39 38 (.mv 11),
 oT 40 38 (.bin .geq 39 (cI 0)),
 oD 41 (.pick 38 40 (.c (.b false)))]
def zc.r10:List Oper:=[
 oM 42 9,
 oM 43 11,
 oM 2 42,
 oM 3 43,
 oM 4 (.c (.b true))]
def zc.r11:List Oper:=[
 oD 44 (.bin .add 26 (cI 1)),
 oM 26 44]
def zc.l0:Code:=.seq zc.r6 (.seq (.cond 27 (.skip) (.exit 0)) (.seq (.block 1 (.seq zc.r7 (.seq zc.r8 (.seq zc.r9 (.cond 41 (.seq zc.r10 (.ret)) (.skip)))))) zc.r11))
def zc.r12:List Oper:=[
 oM 2 (cI 0),
 oM 3 (cI 0),
 oM 4 (.c (.b false))]
def zc.code:Code:=.seq zc.r0 (.seq zc.r1 (.seq (.seq zc.r2 (.cond 18 (.seq zc.r3 (.ret)) (.skip))) (.seq zc.r4 (.seq (.seq zc.r5 (.block 0 (.loop zc.l0))) (.seq zc.r12 (.ret))))))
def zc:Func:=⟨45,[.t 2,.t 3,.t 4],zc.code⟩
/-! muntin/muntinref19.Lines -/
def Zy.r0:List Oper:=[
 oD 1 (.box 0),
 oM 2 (.c (.sn))]
def Zy.r1:List Oper:=[
 oM 3 (.c (.sn))]
def Zy.r2:List Oper:=[
 oM 4 (cI 0)]
def Zy.r3:List Oper:=[
 oM 6 4,
 oD 7 (.fa 2 1),
 oD 8 (.ld false 1 7),
 oD 9 (.len 8),
 oD 10 (.bin .lss 6 9)]
def Zy.r5:List Oper:=[
 oD 13 (.fa 2 1),
 oD 14 (.ld false 1 13),
 oM 15 4,
 oD 16 (.ixa 1 14 15),
 oD 17 (.ld false 1 16),
 oD 18 (.len 17),
 oD 19 (.bin .gtr 18 (cI 1))]
def Zy.r6:List Oper:=[
 oM 20 3,
 oM 21 4,
 oD 22 (.build [.b false,.n 0] [(0,1,.c (.b true)),(1,1,.t 21)]),
 oD 23 (.bsl 2 1 [.b false,.n 0] [(0,2,.t 22)]),
 oD 24 (.app 2 16 20 23),
 oM 3 24]
def Zy.r4:List Oper:=[
 oM 11 4,
 oD 12 (.bin .add 11 (cI 1)),
 oM 4 12]
def Zy.l0:Code:=.seq (.seq Zy.r3 (.cond 10 (.skip) (.exit 0))) (.seq (.block 1 (.seq Zy.r5 (.cond 19 Zy.r6 (.skip)))) Zy.r4)
def Zy.r7:List Oper:=[
 oM 5 (cI 0)]
def Zy.r8:List Oper:=[
 oM 25 5,
 oD 26 (.fa 3 1),
 oD 27 (.ld false 1 26),
 oD 28 (.len 27),
 oD 29 (.bin .lss 25 28)]
def Zy.r10:List Oper:=[
 oD 32 (.fa 3 1),
 oD 33 (.ld false 1 32),
 oM 34 5,
 oD 35 (.ixa 1 33 34),
 oD 36 (.ld false 1 35),
 oD 37 (.len 36),
 oD 38 (.bin .gtr 37 (cI 1))]
def Zy.r11:List Oper:=[
 oM 39 3,
 oM 40 5,
 oD 41 (.build [.b false,.n 0] [(1,1,.t 40)]),
 oD 42 (.bsl 2 1 [.b false,.n 0] [(0,2,.t 41)]),
 oD 43 (.app 2 16 39 42),
 oM 3 43]
def Zy.r9:List Oper:=[
 oM 30 5,
 oD 31 (.bin .add 30 (cI 1)),
 oM 5 31]
def Zy.l1:Code:=.seq (.seq Zy.r8 (.cond 29 (.skip) (.exit 2))) (.seq (.block 3 (.seq Zy.r10 (.cond 38 Zy.r11 (.skip)))) Zy.r9)
def Zy.r12:List Oper:=[
 oM 44 3,
 oM 2 44]
def Zy.code:Code:=.seq Zy.r0 (.seq Zy.r1 (.seq (.seq Zy.r2 (.block 0 (.loop Zy.l0))) (.seq (.seq Zy.r7 (.block 2 (.loop Zy.l1))) (.seq Zy.r12 (.ret)))))
def Zy:Func:=⟨45,[.t 2],Zy.code⟩
/-! muntin/muntinref17.Straight -/
def Zz.r0:List Oper:=[
 oM 4 (.c (.b false))]
def Zz.r1:List Oper:=[
 oM 5 (cI 0)]
def Zz.r2:List Oper:=[
 oM 8 5,
 oM 9 0,
 oD 10 (.len 9),
 oD 11 (.bin .lss 8 10)]
def Zz.r4:List Oper:=[
 oM 14 0,
 oM 15 5,
 oD 16 (.ixa 8 14 15),
 oD 17 (.fa 0 16),
 oD 18 (.ixaa 1 4 17 (cI 0)),
 oD 19 (.ld false 1 18),
 oM 6 19]
def Zz.r5:List Oper:=[
 oM 20 6,
 oD 21 (.bin .geq 20 (cI 0)),
 oM 22 21,
 oT 23 22 (.mv 1),
 oT 24 22 (.mv 6),
 oT 25 22 (.mx [24,.c (.n 0)]),
 oT 26 22 (.ixa 2 23 25),
 oT 27 22 (.fa 1 26),
 oT 28 22 (.ld false 1 27),
 oT 29 22 (.mv 1),
 oT 30 22 (.mv 5),
 oT 31 22 (.ixa 2 29 30),
 oT 32 22 (.fa 1 31),
 oT 33 22 (.ld false 1 32),
 oT 34 22 (.eq true .sc 28 33),
 oT 35 22 (.mv 34),
 oF 36 35 (.mv 1),
 oF 37 35 (.mv 6),
 oF 38 35 (.mx [37,.c (.n 0)]),
 oF 39 35 (.ixa 2 36 38),
 oF 40 35 (.fa 0 39),
 oF 41 35 (.ld false 1 40),
 oF 42 35 (.mv 1),
 oF 43 35 (.mv 5),
 oF 44 35 (.ixa 2 42 43),
 oF 45 35 (.fa 0 44),
 oF 46 35 (.ld false 1 45),
 oF 47 35 (.bin .leq 41 46),
 oT 48 22 (.pick 35 (.c (.b true)) 47),
 oD 49 (.pick 22 48 (.c (.b false)))]
def Zz.r6:List Oper:=[
 oM 4 (.c (.b false))]
def Zz.r7:List Oper:=[
 oM 50 0,
 oM 51 5,
 oD 52 (.ixa 8 50 51),
 oD 53 (.fa 0 52),
 oD 54 (.ixaa 1 4 53 (cI 1)),
 oD 55 (.ld false 1 54),
 oM 7 55]
def Zz.r8:List Oper:=[
 oM 56 7,
 oD 57 (.bin .geq 56 (cI 0)),
 oM 58 57,
 oT 59 58 (.mv 1),
 oT 60 58 (.mv 7),
 oT 61 58 (.mx [60,.c (.n 0)]),
 oT 62 58 (.ixa 2 59 61),
 oT 63 58 (.fa 0 62),
 oT 64 58 (.ld false 1 63),
 oT 65 58 (.mv 1),
 oT 66 58 (.mv 5),
 oT 67 58 (.ixa 2 65 66),
 oT 68 58 (.fa 0 67),
 oT 69 58 (.ld false 1 68),
 oT 70 58 (.eq true .sc 64 69),
 oT 71 58 (.mv 70),
 oF 72 71 (.mv 1),
 oF 73 71 (.mv 7),
 oF 74 71 (.mx [73,.c (.n 0)]),
 oF 75 71 (.ixa 2 72 74),
 oF 76 71 (.fa 1 75),
 oF 77 71 (.ld false 1 76),
 oF 78 71 (.mv 1),
 oF 79 71 (.mv 5),
 oF 80 71 (.ixa 2 78 79),
 oF 81 71 (.fa 1 80),
 oF 82 71 (.ld false 1 81),
 oF 83 71 (.bin .leq 77 82),
 oT 84 58 (.pick 71 (.c (.b true)) 83),
 oD 85 (.pick 58 84 (.c (.b false)))]
def Zz.r9:List Oper:=[
 oM 4 (.c (.b false))]
def Zz.r3:List Oper:=[
 oM 12 5,
 oD 13 (.bin .add 12 (cI 1)),
 oM 5 13]
def Zz.l0:Code:=.seq (.seq Zz.r2 (.cond 11 (.skip) (.exit 0))) (.seq (.block 1 (.seq Zz.r4 (.seq (.seq (.draw Zz.r5 [(8,13),(21,26)]) (.cond 49 (.seq Zz.r6 (.ret)) (.skip))) (.seq Zz.r7 (.seq (.draw Zz.r8 [(8,13),(21,26)]) (.cond 85 (.seq Zz.r9 (.ret)) (.skip))))))) Zz.r3)
def Zz.r10:List Oper:=[
 oM 4 (.c (.b true))]
def Zz.code:Code:=.seq Zz.r0 (.seq (.seq Zz.r1 (.block 0 (.loop Zz.l0))) (.seq Zz.r10 (.ret)))
def Zz:Func:=⟨86,[.t 4],Zz.code⟩
/-! muntin/valid.Outer -/
def Zae.r0:List Oper:=[
 oM 2 (cI 0),
 oM 3 (cI 0)]
def Zae.r1:List Oper:=[
 oM 7 0,
 oC 8 176 [7],
 oM 4 8]
def Zae.r2:List Oper:=[
 oM 9 4,
 oD 10 (.eq true .sc 9 (cI 0))]
def Zae.r3:List Oper:=[
 oM 11 4,
 oM 2 (cI 0),
 oM 3 11]
def Zae.r4:List Oper:=[
 oM 13 0,
 oC 14 201 [13],
 oM 12 14,
 oD 15 (.ext 12 0),
 oD 16 (.ext 12 1),
 oM 5 15,
 oM 6 16]
def Zae.r5:List Oper:=[
 oM 17 6,
 oD 18 (.un .not 17)]
def Zae.r6:List Oper:=[
 oM 2 (cI 0),
 oM 3 (cI 2)]
def Zae.r7:List Oper:=[
 oM 19 5,
 oM 2 19,
 oM 3 (cI 0)]
def Zae.code:Code:=.seq Zae.r0 (.seq (.seq Zae.r1 (.seq Zae.r2 (.cond 10 (.seq Zae.r3 (.ret)) (.skip)))) (.seq Zae.r4 (.seq (.seq Zae.r5 (.cond 18 (.seq Zae.r6 (.ret)) (.skip))) (.seq Zae.r7 (.ret)))))
def Zae:Func:=⟨20,[.t 2,.t 3],Zae.code⟩
/-! muntin/valid.outer -/
def ZU.r0:List Oper:=[
 oM 2 (cI 0),
 oM 3 (.c (.b false))]
def ZU.r1:List Oper:=[
 oM 10 0,
 oC 11 203 [10],
 oM 9 11,
 oD 12 (.ext 9 0),
 oD 13 (.ext 9 1),
 oM 4 12,
 oM 5 13]
def ZU.r2:List Oper:=[
 oM 6 (cI (-1))]
def ZU.r3:List Oper:=[
 oM 14 4,
 oD 15 (.len 14),
 oM 16 (cI 0)]
def ZU.r4:List Oper:=[
 oD 17 (.bin .lss 16 15)]
def ZU.r5:List Oper:=[
 oM 18 16,
 oD 19 (.ixa 1 14 16),
 oD 20 (.ld false 1 19),
 oM 7 18,
 oM 8 20]
def ZU.r6:List Oper:=[
 oM 21 0,
 oM 22 8,
 oC 23 204 [21,22],
 oC 24 219 [23]]
def ZU.r8:List Oper:=[
 oD 26 (.eq false .sc 24 (cI 4)),
 oM 25 26]
def ZU.r9:List Oper:=[
 oD 28 (.eq false .sc 24 (cI (-4))),
 oM 27 28]
def ZU.r10:List Oper:=[
 oM 29 6,
 oD 30 (.bin .geq 29 (cI 0))]
def ZU.r11:List Oper:=[
 oM 2 (cI 0),
 oM 3 (.c (.b false))]
def ZU.r12:List Oper:=[
 oM 31 7,
 oM 6 31]
def ZU.r7:List Oper:=[
 oM 2 (cI 0),
 oM 3 (.c (.b false))]
def ZU.r13:List Oper:=[
 oD 32 (.bin .add 16 (cI 1)),
 oM 16 32]
def ZU.l0:Code:=.seq ZU.r4 (.seq (.cond 17 (.skip) (.exit 0)) (.seq (.block 1 (.seq ZU.r5 (.seq ZU.r6 (.block 2 (.seq ZU.r8 (.cond 25 (.skip) (.seq ZU.r9 (.cond 27 (.seq (.seq ZU.r10 (.cond 30 (.seq ZU.r11 (.ret)) (.skip))) ZU.r12) (.seq ZU.r7 (.ret)))))))))) ZU.r13))
def ZU.r14:List Oper:=[
 oM 33 6,
 oM 34 6,
 oD 35 (.bin .geq 34 (cI 0)),
 oM 2 33,
 oM 3 35]
def ZU.code:Code:=.seq ZU.r0 (.seq ZU.r1 (.seq ZU.r2 (.seq (.seq ZU.r3 (.block 0 (.loop ZU.l0))) (.seq ZU.r14 (.ret)))))
def ZU:Func:=⟨36,[.t 2,.t 3],ZU.code⟩
/-! muntin/face.Faces -/
def Zw.r0:List Oper:=[
 oM 2 (.c (.sn)),
 oM 3 (cI 0)]
def Zw.r1:List Oper:=[
 oM 12 0,
 oC 13 66 [12],
 oM 4 13]
def Zw.r2:List Oper:=[
 oM 14 4,
 oD 15 (.eq true .sc 14 (cI 0))]
def Zw.r3:List Oper:=[
 oM 16 4,
 oM 2 (.c (.sn)),
 oM 3 16]
def Zw.r4:List Oper:=[
 oM 5 (.c (.sn))]
def Zw.r5:List Oper:=[
 oD 17 (.mkm),
 oM 6 17]
def Zw.r6:List Oper:=[
 oM 18 0,
 oD 19 (.len 18),
 oM 20 (cI 0)]
def Zw.r7:List Oper:=[
 oD 21 (.bin .lss 20 19)]
def Zw.r8:List Oper:=[
 oM 22 20,
 oM 7 22]
def Zw.r9:List Oper:=[
 oM 23 (cI 0)]
def Zw.r10:List Oper:=[
 oD 24 (.bin .lss 23 (cI 4))]
def Zw.r11:List Oper:=[
 oM 25 23,
 oM 8 25]
def Zw.r12:List Oper:=[
 oM 26 7,
 oM 27 8,
 oD 28 (.build [.n 0,.n 0] [(0,1,.t 26),(1,1,.t 27)]),
 oD 9 (.alloc [.n 0,.n 0]),
 oN (.st 2 9 28)]
def Zw.r13:List Oper:=[
 oD 29 (.ld true 2 9),
 oM 30 0,
 oC 31 220 [29,30],
 oD 32 (.un .not 31),
 oM 33 32,
 oF 34 33 (.mv 6),
 oF 35 33 (.ld true 2 9),
 oF 36 33 (.mlk [.i,.i] false (.b false) 34 35),
 oD 37 (.pick 33 (.c (.b true)) 36)]
def Zw.r14:List Oper:=[
 oM 10 (.c (.sn))]
def Zw.r15:List Oper:=[
 oD 38 (.ld true 2 9),
 oD 11 (.alloc [.n 0,.n 0]),
 oN (.st 2 11 38)]
def Zw.r16:List Oper:=[
 oM 39 6,
 oD 40 (.ld true 2 11),
 oD 41 (.mlk [.i,.i] false (.b false) 39 40),
 oD 42 (.un .not 41)]
def Zw.r18:List Oper:=[
 oM 46 6,
 oD 47 (.ld true 2 11),
 oN (.mup [.i,.i] 46 47 (.c (.b true)))]
def Zw.r19:List Oper:=[
 oM 48 10,
 oD 49 (.ld true 2 11),
 oD 50 (.bsl 2 1 [.n 0,.n 0] [(0,2,.t 49)]),
 oD 51 (.app 2 16 48 50),
 oM 10 51]
def Zw.r20:List Oper:=[
 oD 52 (.ld true 2 11)]
def Zw.r21:List Oper:=[
 oD 11 (.alloc [.n 0,.n 0]),
 oN (.st 2 11 52)]
def Zw.r17:List Oper:=[
 oD 43 (.ld true 2 11),
 oM 44 0,
 oC 45 221 [43,44],
 oN (.st 2 11 45)]
def Zw.l0:Code:=.seq (.seq Zw.r16 (.cond 42 (.skip) (.exit 4))) (.seq (.block 5 (.seq Zw.r18 Zw.r19)) (.seq (.seq Zw.r20 Zw.r21) Zw.r17))
def Zw.r22:List Oper:=[
 oM 53 5,
 oM 54 10,
 oD 55 (.bsl 1 1 [.sn] [(0,1,.t 54)]),
 oD 56 (.app 1 24 53 55),
 oM 5 56]
def Zw.r23:List Oper:=[
 oD 57 (.bin .add 23 (cI 1)),
 oM 23 57]
def Zw.l1:Code:=.seq Zw.r10 (.seq (.cond 24 (.skip) (.exit 2)) (.seq (.block 3 (.seq Zw.r11 (.seq Zw.r12 (.seq (.seq Zw.r13 (.cond 37 (.exit 3) (.skip))) (.seq Zw.r14 (.seq (.seq Zw.r15 (.block 4 (.loop Zw.l0))) Zw.r22)))))) Zw.r23))
def Zw.r24:List Oper:=[
 oD 58 (.bin .add 20 (cI 1)),
 oM 20 58]
def Zw.l2:Code:=.seq Zw.r7 (.seq (.cond 21 (.skip) (.exit 0)) (.seq (.block 1 (.seq Zw.r8 (.seq Zw.r9 (.block 2 (.loop Zw.l1))))) Zw.r24))
def Zw.r25:List Oper:=[
 oM 59 5,
 oM 2 59,
 oM 3 (cI 0)]
def Zw.code:Code:=.seq Zw.r0 (.seq (.seq Zw.r1 (.seq Zw.r2 (.cond 15 (.seq Zw.r3 (.ret)) (.skip)))) (.seq Zw.r4 (.seq Zw.r5 (.seq (.seq Zw.r6 (.block 0 (.loop Zw.l2))) (.seq Zw.r25 (.ret))))))
def Zw:Func:=⟨60,[.t 2,.t 3],Zw.code⟩
/-! muntin/face.Turns -/
def zz.r0:List Oper:=[
 oM 4 (.c (.sn))]
def zz.r1:List Oper:=[
 oM 8 1,
 oD 9 (.len 8),
 oD 10 (.mks 1 8 [.n 0] 9 9),
 oM 5 10]
def zz.r2:List Oper:=[
 oM 11 0,
 oC 12 66 [11],
 oD 13 (.eq true .sc 12 (cI 0))]
def zz.r3:List Oper:=[
 oM 14 5,
 oM 4 14]
def zz.r4:List Oper:=[
 oM 15 1,
 oD 16 (.len 15),
 oM 17 (cI 0)]
def zz.r5:List Oper:=[
 oD 18 (.bin .lss 17 16)]
def zz.r6:List Oper:=[
 oM 19 17,
 oD 20 (.ixa 2 15 17),
 oD 21 (.ld true 2 20),
 oD 7 (.alloc [.n 0,.n 0]),
 oM 6 19,
 oN (.st 2 7 21)]
def zz.r7:List Oper:=[
 oD 22 (.ld true 2 7),
 oM 23 0,
 oC 24 220 [22,23]]
def zz.r8:List Oper:=[
 oM 25 5,
 oM 26 6,
 oD 27 (.fa 1 7),
 oD 28 (.ld false 1 27),
 oD 29 (.ld true 2 7),
 oM 30 0,
 oC 31 221 [29,30],
 oD 32 (.fld false 1 1 31),
 oC 33 222 [28,32],
 oD 34 (.ixa 1 25 26),
 oN (.st 1 34 33)]
def zz.r9:List Oper:=[
 oD 35 (.bin .add 17 (cI 1)),
 oM 17 35]
def zz.l0:Code:=.seq zz.r5 (.seq (.cond 18 (.skip) (.exit 0)) (.seq (.block 1 (.seq zz.r6 (.seq zz.r7 (.cond 24 (.draw zz.r8 [(3,4),(3,6)]) (.skip))))) zz.r9))
def zz.r10:List Oper:=[
 oM 36 5,
 oM 4 36]
def zz.code:Code:=.seq zz.r0 (.seq zz.r1 (.seq (.seq zz.r2 (.cond 13 (.seq zz.r3 (.ret)) (.skip))) (.seq (.seq zz.r4 (.block 0 (.loop zz.l0))) (.seq zz.r10 (.ret)))))
def zz:Func:=⟨37,[.t 4],zz.code⟩
/-! muntin/front.First$1 -/
def Zb1.r0:List Oper:=[
 oM 2 (.c (.b false))]
def Zb1.r1:List Oper:=[
 oM 3 0,
 oD 4 (.bin .lss 3 (cI 0)),
 oM 2 4]
def Zb1.code:Code:=.seq Zb1.r0 (.seq Zb1.r1 (.ret))
def Zb1:Func:=⟨5,[.t 2],Zb1.code⟩
/-! muntin/face.Rotation -/
def zn.r0:List Oper:=[
 oM 2 (cI 0)]
def zn.r1:List Oper:=[
 oM 3 (cI 0)]
def zn.r2:List Oper:=[
 oM 6 0,
 oD 7 (.len 6),
 oM 8 (cI 0)]
def zn.r3:List Oper:=[
 oD 9 (.bin .lss 8 7)]
def zn.r4:List Oper:=[
 oD 10 (.ixa 1 6 8),
 oD 11 (.ld false 1 10),
 oM 5 11]
def zn.r5:List Oper:=[
 oM 12 5,
 oD 13 (.bin .geq 12 (cI (-2))),
 oM 14 13,
 oT 15 14 (.mv 5),
 oT 16 14 (.bin .leq 15 (cI 1)),
 oD 17 (.pick 14 16 (.c (.b false)))]
def zn.r6:List Oper:=[
 oM 18 3,
 oM 19 5,
 oD 20 (.bin .add 18 19),
 oM 3 20]
def zn.r7:List Oper:=[
 oD 21 (.bin .add 8 (cI 1)),
 oM 8 21]
def zn.l0:Code:=.seq zn.r3 (.seq (.cond 9 (.skip) (.exit 0)) (.seq (.block 1 (.seq zn.r4 (.seq zn.r5 (.cond 17 zn.r6 (.skip))))) zn.r7))
def zn.r8:List Oper:=[
 oM 22 3,
 oM 2 22]
def zn.code:Code:=.seq zn.r0 (.seq zn.r1 (.seq (.seq zn.r2 (.block 0 (.loop zn.l0))) (.seq zn.r8 (.ret))))
def zn:Func:=⟨23,[.t 2],zn.code⟩
/-! (muntin/face.Dart).is -/
def ZbF.r0:List Oper:=[
 oD 2 (.box 0),
 oM 4 (.c (.b false))]
def ZbF.r1:List Oper:=[
 oD 5 (.fa 0 2),
 oD 6 (.ld false 1 5),
 oD 7 (.bin .geq 6 (cI 0)),
 oM 8 7,
 oT 9 8 (.fa 0 2),
 oT 10 8 (.ld false 1 9),
 oT 11 8 (.mv 1),
 oT 12 8 (.len 11),
 oT 13 8 (.bin .lss 10 12),
 oD 14 (.pick 8 13 (.c (.b false))),
 oM 15 14,
 oT 16 15 (.fa 1 2),
 oT 17 15 (.ld false 1 16),
 oT 18 15 (.call (.c (.f 90 [])) [17]),
 oD 19 (.pick 15 18 (.c (.b false))),
 oM 20 19,
 oT 21 20 (.mv 1),
 oT 22 20 (.fa 0 2),
 oT 23 20 (.ld false 1 22),
 oT 24 20 (.fa 1 2),
 oT 25 20 (.ld false 1 24),
 oT 26 20 (.ixa 8 21 23),
 oT 27 20 (.fa 0 26),
 oT 28 20 (.ixaa 1 4 27 25),
 oT 29 20 (.ld false 1 28),
 oT 30 20 (.bin .geq 29 (cI 0)),
 oD 31 (.pick 20 30 (.c (.b false))),
 oM 4 31]
def ZbF.code:Code:=.seq ZbF.r0 (.seq (.draw ZbF.r1 [(18,20)]) (.ret))
def ZbF:Func:=⟨32,[.t 4],ZbF.code⟩
/-! (muntin/face.Dart).behind -/
def ZQ.r0:List Oper:=[
 oD 2 (.box 0),
 oD 4 (.alloc [.n 0,.n 0])]
def ZQ.r1:List Oper:=[
 oM 9 1,
 oD 10 (.fa 0 2),
 oD 11 (.ld false 1 10),
 oD 12 (.fa 1 2),
 oD 13 (.ld false 1 12),
 oD 14 (.ixa 8 9 11),
 oD 15 (.fa 0 14),
 oD 16 (.ixaa 1 4 15 13),
 oD 17 (.ld false 1 16),
 oM 5 17]
def ZQ.r2:List Oper:=[
 oD 18 (.build [.n 0,.n 0,.n 0,.n 0] [(0,1,.c (.n 1)),(1,1,.c (.n 0)),(2,1,.c (.n (-1))),(3,1,.c (.n 2))]),
 oM 19 (cI 0)]
def ZQ.r3:List Oper:=[
 oD 20 (.bin .lss 19 (cI 4))]
def ZQ.r4:List Oper:=[
 oD 21 (.ix false 1 4 18 19),
 oM 7 21]
def ZQ.r5:List Oper:=[
 oM 22 5,
 oD 23 (.fa 1 2),
 oD 24 (.ld false 1 23),
 oM 25 7,
 oC 26 77 [24,25],
 oD 27 (.build [.n 0,.n 0] [(0,1,.t 22),(1,1,.t 26)]),
 oD 8 (.alloc [.n 0,.n 0]),
 oN (.st 2 8 27)]
def ZQ.r6:List Oper:=[
 oD 28 (.ld true 2 8),
 oM 29 1,
 oC 30 220 [28,29]]
def ZQ.r7:List Oper:=[
 oD 31 (.ld true 2 8),
 oN (.st 2 4 31)]
def ZQ.r8:List Oper:=[
 oD 32 (.bin .add 19 (cI 1)),
 oM 19 32]
def ZQ.l0:Code:=.seq ZQ.r3 (.seq (.cond 20 (.skip) (.exit 0)) (.seq (.block 1 (.seq ZQ.r4 (.seq ZQ.r5 (.seq ZQ.r6 (.cond 30 (.seq ZQ.r7 (.ret)) (.skip)))))) ZQ.r8))
def ZQ.r9:List Oper:=[
 oD 33 (.ld true 2 2),
 oN (.st 2 4 33)]
def ZQ.code:Code:=.seq ZQ.r0 (.seq (.draw ZQ.r1 [(2,4)]) (.seq (.seq ZQ.r2 (.block 0 (.loop ZQ.l0))) (.seq ZQ.r9 (.ret))))
def ZQ:Func:=⟨34,[.cell 4 true 2],ZQ.code⟩
/-! muntin/compass.Turn -/
def ZaZ.r0:List Oper:=[
 oM 4 (cI 0)]
def ZaZ.r1:List Oper:=[
 oM 5 0,
 oC 6 90 [5],
 oD 7 (.un .not 6),
 oM 8 7,
 oF 9 8 (.mv 1),
 oF 10 8 (.call (.c (.f 90 [])) [9]),
 oF 11 8 (.un .not 10),
 oD 12 (.pick 8 (.c (.b true)) 11)]
def ZaZ.r2:List Oper:=[
 oM 4 (cI 0)]
def ZaZ.r3:List Oper:=[
 oD 13 (.build [.n 0,.n 0,.n 0,.n 0] [(0,1,.c (.n 0)),(1,1,.c (.n 1)),(2,1,.c (.n (-2))),(3,1,.c (.n (-1)))]),
 oM 14 1,
 oM 15 0,
 oD 16 (.bin .sub 14 15),
 oD 17 (.bin .add 16 (cI 4)),
 oD 18 (.bin .rem 17 (cI 4)),
 oD 19 (.ix false 1 4 13 18),
 oM 4 19]
def ZaZ.code:Code:=.seq ZaZ.r0 (.seq (.seq ZaZ.r1 (.cond 12 (.seq ZaZ.r2 (.ret)) (.skip))) (.seq ZaZ.r3 (.ret)))
def ZaZ:Func:=⟨20,[.t 4],ZaZ.code⟩
/-! muntin/muntinlaw21.RectMakes -/
def Zm.r0:List Oper:=[
 oD 3 (.box 0),
 oM 6 (.c (.b false))]
def Zm.r1:List Oper:=[
 oD 19 (.ld true 3 3),
 oC 20 28 [19,.c (.n 10)],
 oM 18 20,
 oD 21 (.ext 18 0),
 oD 22 (.ext 18 1),
 oM 7 21,
 oM 8 22]
def Zm.r2:List Oper:=[
 oM 24 7,
 oC 25 266 [24],
 oM 23 25,
 oD 26 (.ext 23 0),
 oD 27 (.ext 23 1),
 oM 9 26,
 oM 10 27]
def Zm.r3:List Oper:=[
 oC 28 264 [],
 oD 29 (.un .not 28),
 oM 30 29,
 oF 31 30 (.mv 10),
 oF 32 30 (.eq true .sc 31 (cI 0)),
 oD 33 (.pick 30 (.c (.b true)) 32)]
def Zm.r4:List Oper:=[
 oC 34 264 [],
 oM 6 34]
def Zm.r5:List Oper:=[
 oM 36 9,
 oC 37 121 [36],
 oM 35 37,
 oD 38 (.ext 35 0),
 oD 39 (.ext 35 1),
 oD 11 (.alloc [.sn,.sn,.sn,.sn]),
 oN (.st 4 11 38),
 oM 12 39]
def Zm.r6:List Oper:=[
 oM 40 12,
 oD 41 (.un .not 40),
 oM 42 41,
 oF 43 42 (.mv 9),
 oF 44 42 (.len 43),
 oF 45 42 (.mv 7),
 oF 46 42 (.len 45),
 oF 47 42 (.bin .lss 44 46),
 oD 48 (.pick 42 (.c (.b true)) 47)]
def Zm.r7:List Oper:=[
 oM 6 (.c (.b false))]
def Zm.r8:List Oper:=[
 oM 49 9,
 oD 50 (.fa 0 11),
 oD 51 (.ld false 1 50),
 oC 52 167 [49,.c (.n 0),51],
 oM 53 9,
 oD 54 (.fa 1 11),
 oD 55 (.ld false 1 54),
 oC 56 167 [53,.c (.n 1),55],
 oM 13 52,
 oM 14 56]
def Zm.r9:List Oper:=[
 oD 57 (.fa 2 11),
 oD 58 (.ld false 1 57),
 oD 59 (.len 58),
 oM 60 13,
 oC 61 112 [59,60],
 oD 62 (.fa 3 11),
 oD 63 (.ld false 1 62),
 oD 64 (.len 63),
 oM 65 14,
 oC 66 112 [64,65],
 oM 15 61,
 oM 16 66]
def Zm.r10:List Oper:=[
 oM 67 (cI 0)]
def Zm.r11:List Oper:=[
 oD 68 (.bin .lss 67 (cI 2))]
def Zm.r12:List Oper:=[
 oD 69 (.ld true 4 11),
 oM 70 15,
 oM 71 16,
 oC 72 169 [69,70,71],
 oM 17 72]
def Zm.r13:List Oper:=[
 oM 73 9,
 oM 74 17,
 oC 75 261 [73,74],
 oD 76 (.un .not 75),
 oM 77 76,
 oF 78 77 (.mv 7),
 oF 79 77 (.mv 17),
 oF 80 77 (.mv 7),
 oF 81 77 (.len 80),
 oF 82 77 (.slc 2 79 none (some 81) none),
 oF 83 77 (.call (.c (.f 261 [])) [78,82]),
 oF 84 77 (.un .not 83),
 oD 85 (.pick 77 (.c (.b true)) 84)]
def Zm.r14:List Oper:=[
 oM 6 (.c (.b false))]
def Zm.r15:List Oper:=[
 oM 86 15,
 oM 87 1,
 oM 88 13,
 oC 89 267 [86,87,88]]
def Zm.r16:List Oper:=[
 oM 90 16,
 oM 91 2,
 oM 92 14,
 oC 93 267 [90,91,92]]
def Zm.r17:List Oper:=[
 oD 94 (.bin .add 67 (cI 1)),
 oM 67 94]
def Zm.l0:Code:=.seq Zm.r11 (.seq (.cond 68 (.skip) (.exit 0)) (.seq (.block 1 (.seq Zm.r12 (.seq (.seq Zm.r13 (.cond 85 (.seq Zm.r14 (.ret)) (.skip))) (.seq Zm.r15 Zm.r16)))) Zm.r17))
def Zm.r18:List Oper:=[
 oM 6 (.c (.b true))]
def Zm.code:Code:=.seq Zm.r0 (.seq Zm.r1 (.seq Zm.r2 (.seq (.seq Zm.r3 (.cond 33 (.seq Zm.r4 (.ret)) (.skip))) (.seq Zm.r5 (.seq (.seq Zm.r6 (.cond 48 (.seq Zm.r7 (.ret)) (.skip))) (.seq (.draw Zm.r8 [(2,6),(3,6)]) (.seq (.draw Zm.r9 [(1,6),(4,6)]) (.seq (.seq Zm.r10 (.block 0 (.loop Zm.l0))) (.seq Zm.r18 (.ret))))))))))
def Zm:Func:=⟨95,[.t 6],Zm.code⟩
/-! muntin/muntinref19.Real -/
def Zp.r0:List Oper:=[
 oM 4 (.c (.b false))]
def Zp.r1:List Oper:=[
 oM 17 1,
 oD 18 (.len 17),
 oM 19 0,
 oD 20 (.len 19),
 oD 21 (.eq true .sc 18 20)]
def Zp.r2:List Oper:=[
 oM 4 (.c (.b false))]
def Zp.r3:List Oper:=[
 oM 22 0,
 oM 23 1,
 oC 24 193 [22,23],
 oM 5 24]
def Zp.r4:List Oper:=[
 oM 25 5,
 oD 26 (.un .not 25)]
def Zp.r5:List Oper:=[
 oM 4 (.c (.b false))]
def Zp.r6:List Oper:=[
 oM 28 0,
 oC 29 121 [28],
 oM 27 29,
 oD 30 (.ext 27 0),
 oD 31 (.ext 27 1),
 oD 6 (.alloc [.sn,.sn,.sn,.sn]),
 oN (.st 4 6 30),
 oM 7 31]
def Zp.r7:List Oper:=[
 oD 32 (.ld true 4 6),
 oC 33 188 [32],
 oM 8 33]
def Zp.r8:List Oper:=[
 oM 9 (cI 0)]
def Zp.r9:List Oper:=[
 oM 34 9,
 oM 35 8,
 oD 36 (.len 35),
 oD 37 (.bin .lss 34 36)]
def Zp.r11:List Oper:=[
 oM 40 9,
 oD 41 (.bin .add 40 (cI 1)),
 oM 10 41]
def Zp.r12:List Oper:=[
 oM 42 10,
 oM 43 8,
 oD 44 (.len 43),
 oD 45 (.bin .lss 42 44)]
def Zp.r14:List Oper:=[
 oD 48 (.ld true 4 6),
 oM 49 8,
 oM 50 9,
 oD 51 (.ixa 2 49 50),
 oD 52 (.fa 0 51),
 oD 53 (.ld false 1 52),
 oM 54 8,
 oM 55 9,
 oD 56 (.ixa 2 54 55),
 oD 57 (.fa 1 56),
 oD 58 (.ld false 1 57),
 oM 59 8,
 oM 60 10,
 oD 61 (.ixa 2 59 60),
 oD 62 (.fa 0 61),
 oD 63 (.ld false 1 62),
 oM 64 8,
 oM 65 10,
 oD 66 (.ixa 2 64 65),
 oD 67 (.fa 1 66),
 oD 68 (.ld false 1 67),
 oC 69 124 [48,53,58,63,68],
 oM 11 69]
def Zp.r15:List Oper:=[
 oD 71 (.ld true 4 6),
 oM 72 8,
 oM 73 9,
 oD 74 (.ixa 2 72 73),
 oD 75 (.ld true 2 74),
 oM 76 1,
 oC 77 274 [71,75,76],
 oM 70 77,
 oD 78 (.ext 70 0),
 oD 79 (.ext 70 1),
 oD 12 (.alloc [.n 0,.n 0]),
 oD 13 (.alloc [.n 0,.n 0]),
 oN (.st 2 12 78),
 oN (.st 2 13 79)]
def Zp.r16:List Oper:=[
 oD 81 (.ld true 4 6),
 oM 82 8,
 oM 83 10,
 oD 84 (.ixa 2 82 83),
 oD 85 (.ld true 2 84),
 oM 86 1,
 oC 87 274 [81,85,86],
 oM 80 87,
 oD 88 (.ext 80 0),
 oD 89 (.ext 80 1),
 oD 14 (.alloc [.n 0,.n 0]),
 oD 15 (.alloc [.n 0,.n 0]),
 oN (.st 2 14 88),
 oN (.st 2 15 89)]
def Zp.r17:List Oper:=[
 oD 90 (.fa 0 13),
 oD 91 (.ld false 1 90),
 oD 92 (.fa 0 14),
 oD 93 (.ld false 1 92),
 oD 94 (.bin .lss 91 93),
 oM 95 94,
 oF 96 95 (.fa 0 15),
 oF 97 95 (.ld false 1 96),
 oF 98 95 (.fa 0 12),
 oF 99 95 (.ld false 1 98),
 oF 100 95 (.bin .lss 97 99),
 oD 101 (.pick 95 (.c (.b true)) 100),
 oM 102 101,
 oF 103 102 (.fa 1 13),
 oF 104 102 (.ld false 1 103),
 oF 105 102 (.fa 1 14),
 oF 106 102 (.ld false 1 105),
 oF 107 102 (.bin .lss 104 106),
 oD 108 (.pick 102 (.c (.b true)) 107),
 oM 109 108,
 oF 110 109 (.fa 1 15),
 oF 111 109 (.ld false 1 110),
 oF 112 109 (.fa 1 12),
 oF 113 109 (.ld false 1 112),
 oF 114 109 (.bin .lss 111 113),
 oD 115 (.pick 109 (.c (.b true)) 114),
 oM 16 115]
def Zp.r18:List Oper:=[
 oM 116 11,
 oD 117 (.un .not 116),
 oM 118 117,
 oT 119 118 (.mv 16),
 oT 120 118 (.un .not 119),
 oD 121 (.pick 118 120 (.c (.b false)))]
def Zp.r19:List Oper:=[
 oM 4 (.c (.b false))]
def Zp.r13:List Oper:=[
 oM 46 10,
 oD 47 (.bin .add 46 (cI 1)),
 oM 10 47]
def Zp.l0:Code:=.seq (.seq Zp.r12 (.cond 45 (.skip) (.exit 2))) (.seq (.block 3 (.seq (.draw Zp.r14 [(0,5),(0,10),(5,10),(0,15),(5,15),(10,15),(0,20),(5,20),(10,20),(15,20)]) (.seq (.draw Zp.r15 [(0,4),(0,10),(4,10),(6,10),(0,11),(4,11),(6,11),(10,11)]) (.seq (.draw Zp.r16 [(0,4),(0,10),(4,10),(6,10),(0,11),(4,11),(6,11),(10,11)]) (.seq Zp.r17 (.seq Zp.r18 (.cond 121 (.seq Zp.r19 (.ret)) (.skip)))))))) Zp.r13)
def Zp.r10:List Oper:=[
 oM 38 9,
 oD 39 (.bin .add 38 (cI 1)),
 oM 9 39]
def Zp.l1:Code:=.seq (.seq Zp.r9 (.cond 37 (.skip) (.exit 0))) (.seq (.block 1 (.seq Zp.r11 (.block 2 (.loop Zp.l0)))) Zp.r10)
def Zp.r20:List Oper:=[
 oM 4 (.c (.b true))]
def Zp.code:Code:=.seq Zp.r0 (.seq (.seq Zp.r1 (.cond 21 (.seq Zp.r2 (.ret)) (.skip))) (.seq Zp.r3 (.seq (.seq Zp.r4 (.cond 26 (.seq Zp.r5 (.ret)) (.skip))) (.seq Zp.r6 (.seq Zp.r7 (.seq (.seq Zp.r8 (.block 0 (.loop Zp.l1))) (.seq Zp.r20 (.ret))))))))
def Zp:Func:=⟨122,[.t 4],Zp.code⟩
/-! muntin/muntinlaw21.wakes -/
def zd.r0:List Oper:=[
 oM 0 (.c (.b false))]
def zd.r1:List Oper:=[
 oC 10 46 [.c (.n 2)],
 oM 1 10]
def zd.r2:List Oper:=[
 oM 12 1,
 oC 13 53 [12,.c (.n 0),.c (.n 0),.c (.n 1),.c (.n 0)],
 oM 11 13,
 oD 14 (.ext 11 0),
 oD 15 (.ext 11 1),
 oM 1 14]
def zd.r3:List Oper:=[
 oM 17 1,
 oC 18 268 [17],
 oM 16 18,
 oD 19 (.ext 16 0),
 oD 20 (.ext 16 1),
 oM 2 19,
 oM 3 20]
def zd.r4:List Oper:=[
 oM 22 1,
 oC 23 266 [22],
 oM 21 23,
 oD 24 (.ext 21 0),
 oD 25 (.ext 21 1),
 oM 4 24,
 oM 5 25]
def zd.r5:List Oper:=[
 oM 27 4,
 oC 28 269 [27],
 oM 26 28,
 oD 29 (.ext 26 0),
 oD 30 (.ext 26 1),
 oM 6 29,
 oM 7 30]
def zd.r6:List Oper:=[
 oM 32 1,
 oD 33 (.slc 8 32 none (some (cI 1)) none),
 oC 34 268 [33],
 oM 31 34,
 oD 35 (.ext 31 0),
 oD 36 (.ext 31 1),
 oM 8 35,
 oM 9 36]
def zd.r7:List Oper:=[
 oM 37 3,
 oD 38 (.eq false .sc 37 (cI 0)),
 oM 39 38,
 oT 40 39 (.mv 2),
 oT 41 39 (.len 40),
 oT 42 39 (.eq false .sc 41 (cI 7)),
 oD 43 (.pick 39 42 (.c (.b false))),
 oM 44 43,
 oT 45 44 (.mv 5),
 oT 46 44 (.eq false .sc 45 (cI 0)),
 oD 47 (.pick 44 46 (.c (.b false))),
 oM 48 47,
 oT 49 48 (.mv 4),
 oT 50 48 (.len 49),
 oT 51 48 (.bin .gtr 50 (cI 7)),
 oD 52 (.pick 48 51 (.c (.b false))),
 oM 53 52,
 oT 54 53 (.mv 6),
 oD 55 (.pick 53 54 (.c (.b false))),
 oM 56 55,
 oT 57 56 (.mv 7),
 oT 58 56 (.eq false .sc 57 (cI 0)),
 oD 59 (.pick 56 58 (.c (.b false))),
 oM 60 59,
 oT 61 60 (.mv 9),
 oT 62 60 (.eq false .sc 61 (cI 3)),
 oD 63 (.pick 60 62 (.c (.b false))),
 oM 0 63]
def zd.code:Code:=.seq zd.r0 (.seq zd.r1 (.seq zd.r2 (.seq zd.r3 (.seq zd.r4 (.seq zd.r5 (.seq zd.r6 (.seq zd.r7 (.ret))))))))
def zd:Func:=⟨64,[.t 0],zd.code⟩
/-! muntin/rect.Refine -/
def zk.r0:List Oper:=[
 oM 2 (.c (.sn)),
 oM 3 (cI 0)]
def zk.r1:List Oper:=[
 oM 8 0,
 oC 9 275 [8],
 oM 7 9,
 oD 10 (.ext 7 0),
 oD 11 (.ext 7 1),
 oM 4 10,
 oM 5 11]
def zk.r2:List Oper:=[
 oM 13 5,
 oD 14 (.eq false .sc 13 (cI 2)),
 oM 12 14]
def zk.r3:List Oper:=[
 oM 15 0,
 oC 16 51 [15],
 oM 2 16,
 oM 3 (cI 0)]
def zk.r4:List Oper:=[
 oM 18 5,
 oD 19 (.eq true .sc 18 (cI 0)),
 oM 17 19]
def zk.r5:List Oper:=[
 oM 20 5,
 oM 2 (.c (.sn)),
 oM 3 20]
def zk.r6:List Oper:=[
 oM 6 (.c (.b true))]
def zk.r7:List Oper:=[
 oM 21 6]
def zk.r8:List Oper:=[
 oM 23 4,
 oC 24 276 [23],
 oM 22 24,
 oD 25 (.ext 22 0),
 oD 26 (.ext 22 1),
 oM 6 25,
 oM 5 26]
def zk.r9:List Oper:=[
 oM 27 5,
 oD 28 (.eq true .sc 27 (cI 0))]
def zk.r10:List Oper:=[
 oM 29 5,
 oM 2 (.c (.sn)),
 oM 3 29]
def zk.l0:Code:=.seq (.seq zk.r7 (.cond 21 (.skip) (.exit 1))) (.block 2 (.seq zk.r8 (.seq zk.r9 (.cond 28 (.seq zk.r10 (.ret)) (.skip)))))
def zk.r11:List Oper:=[
 oM 30 4,
 oC 31 57 [30],
 oM 2 31,
 oM 3 (cI 0)]
def zk.code:Code:=.seq zk.r0 (.seq zk.r1 (.seq (.block 0 (.seq zk.r2 (.cond 12 (.seq zk.r3 (.ret)) (.seq zk.r4 (.cond 17 (.seq zk.r5 (.ret)) (.skip)))))) (.seq (.seq zk.r6 (.block 1 (.loop zk.l0))) (.seq zk.r11 (.ret)))))
def zk:Func:=⟨32,[.t 2,.t 3],zk.code⟩
/-! muntin/muntinlaw21.raise -/
def Zu.r0:List Oper:=[
 oM 9 0,
 oD 10 (.len 9),
 oM 11 (cI 0)]
def Zu.r1:List Oper:=[
 oD 12 (.bin .lss 11 10)]
def Zu.r2:List Oper:=[
 oM 13 11,
 oM 6 13]
def Zu.r3:List Oper:=[
 oM 14 6,
 oM 15 1,
 oD 16 (.len 15),
 oD 17 (.bin .lss 14 16)]
def Zu.r4:List Oper:=[
 oM 18 0,
 oM 19 6,
 oD 20 (.ixa 1 18 19),
 oD 21 (.ld false 1 20),
 oM 22 1,
 oM 23 6,
 oD 24 (.ixa 1 22 23),
 oD 25 (.ld false 1 24),
 oD 26 (.bin .rem 25 (.c (.i .u8 6))),
 oD 27 (.conv .i64 26),
 oD 28 (.bin .add 21 27),
 oD 29 (.ixa 1 18 19),
 oN (.st 1 29 28)]
def Zu.r5:List Oper:=[
 oD 30 (.bin .add 11 (cI 1)),
 oM 11 30]
def Zu.l0:Code:=.seq Zu.r1 (.seq (.cond 12 (.skip) (.exit 0)) (.seq (.block 1 (.seq Zu.r2 (.seq Zu.r3 (.cond 17 (.draw Zu.r4 [(3,7)]) (.skip))))) Zu.r5))
def Zu.r6:List Oper:=[
 oM 31 0,
 oD 32 (.len 31),
 oM 33 (cI 0)]
def Zu.r7:List Oper:=[
 oD 34 (.bin .lss 33 32)]
def Zu.r8:List Oper:=[
 oM 35 2,
 oD 36 (.len 35),
 oM 37 (cI 0)]
def Zu.r9:List Oper:=[
 oD 38 (.bin .lss 37 36)]
def Zu.r10:List Oper:=[
 oD 39 (.ixa 3 35 37),
 oD 40 (.ld true 3 39),
 oD 8 (.alloc [.n 0,.n 0,.n 0]),
 oN (.st 3 8 40)]
def Zu.r11:List Oper:=[
 oM 41 0,
 oD 42 (.fa 1 8),
 oD 43 (.ld false 1 42),
 oM 44 0,
 oD 45 (.fa 1 8),
 oD 46 (.ld false 1 45),
 oD 47 (.ixa 1 44 46),
 oD 48 (.ld false 1 47),
 oM 49 0,
 oD 50 (.fa 0 8),
 oD 51 (.ld false 1 50),
 oD 52 (.ixa 1 49 51),
 oD 53 (.ld false 1 52),
 oD 54 (.bin .add 53 (cI 1)),
 oD 55 (.mx [48,54]),
 oD 56 (.ixa 1 41 43),
 oN (.st 1 56 55)]
def Zu.r12:List Oper:=[
 oD 57 (.bin .add 37 (cI 1)),
 oM 37 57]
def Zu.l1:Code:=.seq Zu.r9 (.seq (.cond 38 (.skip) (.exit 4)) (.seq (.block 5 (.seq Zu.r10 (.draw Zu.r11 [(2,5),(2,7),(2,10),(5,10),(7,10),(2,12),(5,12),(7,12)]))) Zu.r12))
def Zu.r13:List Oper:=[
 oD 58 (.bin .add 33 (cI 1)),
 oM 33 58]
def Zu.l2:Code:=.seq Zu.r7 (.seq (.cond 34 (.skip) (.exit 2)) (.seq (.block 3 (.seq Zu.r8 (.block 4 (.loop Zu.l1)))) Zu.r13))
def Zu.code:Code:=.seq (.seq Zu.r0 (.block 0 (.loop Zu.l0))) (.seq Zu.r6 (.block 2 (.loop Zu.l2)))
def Zu:Func:=⟨59,[],Zu.code⟩
/-! muntin/rect.Frame -/
def Zbh.r0:List Oper:=[
 oM 2 (.c (.sn)),
 oM 3 (cI 0)]
def Zbh.r1:List Oper:=[
 oM 7 0,
 oC 8 275 [7],
 oM 6 8,
 oD 9 (.ext 6 0),
 oD 10 (.ext 6 1),
 oM 4 9,
 oM 5 10]
def Zbh.r2:List Oper:=[
 oM 11 5,
 oD 12 (.eq true .sc 11 (cI 0))]
def Zbh.r3:List Oper:=[
 oM 13 5,
 oM 2 (.c (.sn)),
 oM 3 13]
def Zbh.r4:List Oper:=[
 oM 14 4,
 oC 15 57 [14],
 oM 2 15,
 oM 3 (cI 0)]
def Zbh.code:Code:=.seq Zbh.r0 (.seq Zbh.r1 (.seq (.seq Zbh.r2 (.cond 12 (.seq Zbh.r3 (.ret)) (.skip))) (.seq Zbh.r4 (.ret))))
def Zbh:Func:=⟨16,[.t 2,.t 3],Zbh.code⟩
/-! muntin/rect.Rectangular -/
def zB.r0:List Oper:=[
 oM 2 (.c (.b false)),
 oM 3 (cI 0)]
def zB.r1:List Oper:=[
 oM 8 0,
 oC 9 176 [8],
 oM 4 9]
def zB.r2:List Oper:=[
 oM 10 4,
 oD 11 (.eq true .sc 10 (cI 0))]
def zB.r3:List Oper:=[
 oM 12 4,
 oM 2 (.c (.b false)),
 oM 3 12]
def zB.r4:List Oper:=[
 oM 14 0,
 oC 15 178 [14],
 oM 13 15,
 oD 16 (.ext 13 0),
 oD 17 (.ext 13 1),
 oD 18 (.ext 13 2),
 oM 5 16,
 oM 6 17,
 oM 7 18]
def zB.r5:List Oper:=[
 oM 19 7,
 oD 20 (.un .not 19),
 oM 2 20,
 oM 3 (cI 0)]
def zB.code:Code:=.seq zB.r0 (.seq (.seq zB.r1 (.seq zB.r2 (.cond 11 (.seq zB.r3 (.ret)) (.skip)))) (.seq zB.r4 (.seq zB.r5 (.ret))))
def zB:Func:=⟨21,[.t 2,.t 3],zB.code⟩
/-! muntin/muntinref19.ends -/
def zA.r0:List Oper:=[
 oD 3 (.box 0),
 oD 4 (.box 1),
 oD 6 (.alloc [.n 0,.n 0]),
 oD 7 (.alloc [.n 0,.n 0])]
def zA.r1:List Oper:=[
 oD 10 (.fa 3 3),
 oD 11 (.ld false 1 10),
 oM 8 11]
def zA.r2:List Oper:=[
 oD 12 (.fa 0 4),
 oD 13 (.ld false 1 12)]
def zA.r3:List Oper:=[
 oD 14 (.fa 2 3),
 oD 15 (.ld false 1 14),
 oM 8 15]
def zA.r4:List Oper:=[
 oM 16 8,
 oD 17 (.fa 1 4),
 oD 18 (.ld false 1 17),
 oD 19 (.ixa 1 16 18),
 oD 20 (.ld false 1 19),
 oM 9 20]
def zA.r5:List Oper:=[
 oM 21 2,
 oM 22 9,
 oD 23 (.ixa 1 22 (cI 0)),
 oD 24 (.ld false 1 23),
 oD 25 (.ixa 2 21 24),
 oD 26 (.ld true 2 25),
 oM 27 2,
 oM 28 9,
 oM 29 9,
 oD 30 (.len 29),
 oD 31 (.bin .sub 30 (cI 1)),
 oD 32 (.ixa 1 28 31),
 oD 33 (.ld false 1 32),
 oD 34 (.ixa 2 27 33),
 oD 35 (.ld true 2 34),
 oN (.st 2 6 26),
 oN (.st 2 7 35)]
def zA.code:Code:=.seq zA.r0 (.seq zA.r1 (.seq (.seq zA.r2 (.cond 13 zA.r3 (.skip))) (.seq zA.r4 (.seq (.draw zA.r5 [(3,12),(5,12),(3,14),(5,14),(12,15),(14,15)]) (.ret)))))
def zA:Func:=⟨36,[.cell 6 true 2,.cell 7 true 2],zA.code⟩
/-! muntin/rect.framed -/
def zL.r0:List Oper:=[
 oM 2 (.c (.pn)),
 oM 3 (cI 0)]
def zL.r1:List Oper:=[
 oM 9 0,
 oC 10 278 [9],
 oM 8 10,
 oD 11 (.ext 8 0),
 oD 12 (.ext 8 1),
 oD 4 (.alloc [.n 0,.n 0]),
 oN (.st 2 4 11),
 oM 5 12]
def zL.r2:List Oper:=[
 oM 13 5,
 oD 14 (.eq true .sc 13 (cI 0))]
def zL.r3:List Oper:=[
 oM 15 5,
 oM 2 (.c (.pn)),
 oM 3 15]
def zL.r4:List Oper:=[
 oM 16 0,
 oD 17 (.len 16),
 oD 18 (.bin .add 17 (cI 4)),
 oD 19 (.bin .add 18 (cI 1)),
 oD 20 (.bin .gtr 19 (cI 4096))]
def zL.r5:List Oper:=[
 oM 2 (.c (.pn)),
 oM 3 (cI 6)]
def zL.r6:List Oper:=[
 oM 22 0,
 oC 23 119 [22],
 oM 21 23,
 oD 24 (.ext 21 0),
 oD 25 (.ext 21 1),
 oM 6 24,
 oM 7 25]
def zL.r7:List Oper:=[
 oM 26 6,
 oD 27 (.ld true 2 4),
 oC 28 279 [26,27]]
def zL.r8:List Oper:=[
 oM 29 6,
 oM 2 29,
 oM 3 (cI 0)]
def zL.code:Code:=.seq zL.r0 (.seq zL.r1 (.seq (.seq zL.r2 (.cond 14 (.seq zL.r3 (.ret)) (.skip))) (.seq (.seq zL.r4 (.cond 20 (.seq zL.r5 (.ret)) (.skip))) (.seq zL.r6 (.seq zL.r7 (.seq zL.r8 (.ret)))))))
def zL:Func:=⟨30,[.t 2,.t 3],zL.code⟩
/-! muntin/rect.cut -/
def zQ.r0:List Oper:=[
 oM 2 (.c (.b false)),
 oM 3 (cI 0)]
def zQ.r1:List Oper:=[
 oM 19 0,
 oC 20 57 [19],
 oM 4 20]
def zQ.r2:List Oper:=[
 oM 22 4,
 oC 23 178 [22],
 oM 21 23,
 oD 24 (.ext 21 0),
 oD 25 (.ext 21 1),
 oD 26 (.ext 21 2),
 oM 5 24,
 oM 6 25,
 oM 7 26]
def zQ.r3:List Oper:=[
 oM 27 7,
 oD 28 (.un .not 27)]
def zQ.r4:List Oper:=[
 oM 2 (.c (.b false)),
 oM 3 (cI 0)]
def zQ.r5:List Oper:=[
 oM 30 4,
 oC 31 203 [30],
 oM 29 31,
 oD 32 (.ext 29 0),
 oD 33 (.ext 29 1),
 oM 8 32,
 oM 9 33]
def zQ.r6:List Oper:=[
 oM 35 4,
 oM 36 8,
 oM 37 5,
 oD 38 (.ixa 1 36 37),
 oD 39 (.ld false 1 38),
 oC 40 204 [35,39],
 oM 41 6,
 oC 42 13 [40,41],
 oM 34 42,
 oD 43 (.ext 34 0),
 oD 44 (.ext 34 1),
 oM 10 43,
 oM 11 44]
def zQ.r7:List Oper:=[
 oM 45 8,
 oM 46 5,
 oD 47 (.ixa 1 45 46),
 oD 48 (.ld false 1 47),
 oM 49 6,
 oD 50 (.ixa 2 48 49),
 oD 51 (.ld true 2 50),
 oM 52 8,
 oM 53 5,
 oD 54 (.ixa 1 52 53),
 oD 55 (.ld false 1 54),
 oM 56 10,
 oD 57 (.ixa 2 55 56),
 oD 58 (.ld true 2 57),
 oD 12 (.alloc [.n 0,.n 0]),
 oD 13 (.alloc [.n 0,.n 0]),
 oN (.st 2 12 51),
 oN (.st 2 13 58)]
def zQ.r8:List Oper:=[
 oM 60 0,
 oD 61 (.fa 0 12),
 oD 62 (.ld false 1 61),
 oD 63 (.fa 1 12),
 oD 64 (.ld false 1 63),
 oC 65 54 [60,62,64],
 oM 59 65,
 oD 66 (.ext 59 0),
 oD 67 (.ext 59 1),
 oD 68 (.ext 59 2),
 oM 14 66,
 oM 15 67,
 oM 16 68]
def zQ.r9:List Oper:=[
 oM 70 0,
 oD 71 (.fa 0 13),
 oD 72 (.ld false 1 71),
 oD 73 (.fa 1 13),
 oD 74 (.ld false 1 73),
 oC 75 48 [70,72,74],
 oM 69 75,
 oD 76 (.ext 69 0),
 oD 77 (.ext 69 1),
 oM 17 76,
 oM 18 77]
def zQ.r10:List Oper:=[
 oM 78 18,
 oD 79 (.eq true .sc 78 (cI 0))]
def zQ.r11:List Oper:=[
 oM 80 18,
 oM 2 (.c (.b false)),
 oM 3 80]
def zQ.r12:List Oper:=[
 oM 81 0,
 oM 82 14,
 oD 83 (.fa 1 12),
 oD 84 (.ld false 1 83),
 oM 85 17,
 oC 86 52 [81,82,84,85,.c (.n (-2))],
 oM 2 (.c (.b true)),
 oM 3 86]
def zQ.code:Code:=.seq zQ.r0 (.seq zQ.r1 (.seq zQ.r2 (.seq (.seq zQ.r3 (.cond 28 (.seq zQ.r4 (.ret)) (.skip))) (.seq zQ.r5 (.seq zQ.r6 (.seq (.draw zQ.r7 [(3,10),(6,10),(3,13),(6,13),(3,14),(6,14),(10,14),(13,14),(3,15),(6,15),(10,15),(13,15),(14,15),(10,16),(13,16)]) (.seq zQ.r8 (.seq zQ.r9 (.seq (.seq zQ.r10 (.cond 79 (.seq zQ.r11 (.ret)) (.skip))) (.seq zQ.r12 (.ret)))))))))))
def zQ:Func:=⟨87,[.t 2,.t 3],zQ.code⟩
/-! muntin/rect.outside -/
def Zag.r0:List Oper:=[
 oD 2 (.alloc [.n 0,.n 0]),
 oM 3 (cI 0)]
def Zag.r1:List Oper:=[
 oM 11 0,
 oC 12 195 [11],
 oM 10 12,
 oD 13 (.ext 10 0),
 oD 14 (.ext 10 1),
 oM 4 13,
 oM 5 14]
def Zag.r2:List Oper:=[
 oM 15 5,
 oD 16 (.eq true .sc 15 (cI 0))]
def Zag.r3:List Oper:=[
 oD 17 (.build [.n 0,.n 0] []),
 oM 18 5,
 oN (.st 2 2 17),
 oM 3 18]
def Zag.r4:List Oper:=[
 oM 20 0,
 oC 21 203 [20],
 oM 19 21,
 oD 22 (.ext 19 0),
 oD 23 (.ext 19 1),
 oM 6 22,
 oM 7 23]
def Zag.r5:List Oper:=[
 oM 25 0,
 oM 26 6,
 oM 27 4,
 oD 28 (.ixa 1 26 27),
 oD 29 (.ld false 1 28),
 oC 30 204 [25,29],
 oC 31 15 [30],
 oM 24 31,
 oD 32 (.ext 24 0),
 oD 33 (.ext 24 1),
 oM 8 32,
 oM 9 33]
def Zag.r6:List Oper:=[
 oM 34 6,
 oM 35 4,
 oD 36 (.ixa 1 34 35),
 oD 37 (.ld false 1 36),
 oM 38 8,
 oD 39 (.ixa 2 37 38),
 oD 40 (.ld true 2 39),
 oN (.st 2 2 40),
 oM 3 (cI 0)]
def Zag.code:Code:=.seq Zag.r0 (.seq Zag.r1 (.seq (.seq Zag.r2 (.cond 16 (.seq Zag.r3 (.ret)) (.skip))) (.seq Zag.r4 (.seq Zag.r5 (.seq Zag.r6 (.ret))))))
def Zag:Func:=⟨41,[.cell 2 true 2,.t 3],Zag.code⟩
/-! muntin/rect.frame -/
def ZL.r0:List Oper:=[
 oD 3 (.box 1)]
def ZL.r1:List Oper:=[
 oM 14 0,
 oD 15 (.fa 0 3),
 oD 16 (.ld false 1 15),
 oD 17 (.fa 1 3),
 oD 18 (.ld false 1 17),
 oC 19 54 [14,16,18],
 oM 13 19,
 oD 20 (.ext 13 0),
 oD 21 (.ext 13 1),
 oD 22 (.ext 13 2),
 oM 4 20,
 oM 5 21,
 oM 6 22]
def ZL.r2:List Oper:=[
 oM 23 0,
 oC 24 55 [23],
 oM 7 24]
def ZL.r3:List Oper:=[
 oM 25 (cI 0)]
def ZL.r4:List Oper:=[
 oD 26 (.bin .lss 25 (cI 5))]
def ZL.r5:List Oper:=[
 oM 27 0,
 oC 28 50 [27]]
def ZL.r6:List Oper:=[
 oD 29 (.bin .add 25 (cI 1)),
 oM 25 29]
def ZL.l0:Code:=.seq ZL.r4 (.seq (.cond 26 (.skip) (.exit 0)) (.seq (.block 1 ZL.r5) ZL.r6))
def ZL.r7:List Oper:=[
 oM 30 (cI 0)]
def ZL.r8:List Oper:=[
 oD 31 (.bin .lss 30 (cI 4))]
def ZL.r9:List Oper:=[
 oM 32 30,
 oM 8 32]
def ZL.r10:List Oper:=[
 oM 33 8,
 oD 34 (.bin .add 33 (cI 3)),
 oD 35 (.bin .rem 34 (cI 4)),
 oM 36 8,
 oM 9 35,
 oM 10 36]
def ZL.r11:List Oper:=[
 oM 37 7,
 oM 38 8,
 oD 39 (.bin .add 37 38),
 oM 40 7,
 oM 41 8,
 oD 42 (.bin .add 41 (cI 1)),
 oD 43 (.bin .rem 42 (cI 4)),
 oD 44 (.bin .add 40 43),
 oM 11 39,
 oM 12 44]
def ZL.r12:List Oper:=[
 oM 45 9,
 oD 46 (.fa 1 3),
 oD 47 (.ld false 1 46),
 oD 48 (.eq false .sc 45 47)]
def ZL.r13:List Oper:=[
 oM 49 0,
 oM 50 11,
 oM 51 10,
 oM 52 7,
 oD 53 (.bin .add 52 (cI 4)),
 oC 54 52 [49,50,51,53,.c (.n (-2))]]
def ZL.r14:List Oper:=[
 oM 55 7,
 oD 56 (.bin .add 55 (cI 4)),
 oM 11 56]
def ZL.r15:List Oper:=[
 oM 57 0,
 oM 58 11,
 oM 59 10,
 oM 60 12,
 oC 61 52 [57,58,59,60,.c (.n (-2))]]
def ZL.r16:List Oper:=[
 oD 62 (.bin .add 30 (cI 1)),
 oM 30 62]
def ZL.l1:Code:=.seq ZL.r8 (.seq (.cond 31 (.skip) (.exit 2)) (.seq (.block 3 (.seq ZL.r9 (.seq ZL.r10 (.seq ZL.r11 (.seq (.seq ZL.r12 (.cond 48 (.seq ZL.r13 ZL.r14) (.skip))) ZL.r15))))) ZL.r16))
def ZL.r17:List Oper:=[
 oM 63 0,
 oM 64 4,
 oD 65 (.fa 1 3),
 oD 66 (.ld false 1 65),
 oM 67 7,
 oD 68 (.bin .add 67 (cI 4)),
 oC 69 52 [63,64,66,68,.c (.n (-2))]]
def ZL.code:Code:=.seq ZL.r0 (.seq ZL.r1 (.seq ZL.r2 (.seq (.seq ZL.r3 (.block 0 (.loop ZL.l0))) (.seq (.seq ZL.r7 (.block 2 (.loop ZL.l1))) ZL.r17))))
def ZL:Func:=⟨70,[],ZL.code⟩
def G:Prog:=fun i=>match i with
  | 13=>some zI
  | 15=>some z7
  | 28=>some Zg
  | 29=>some Z5
  | 32=>some ZbH
  | 46=>some ZP
  | 48=>some ZD
  | 50=>some zO
  | 51=>some z8
  | 52=>some zp
  | 53=>some zq
  | 54=>some ZaE
  | 55=>some ZaP
  | 57=>some Zaz
  | 58=>some ZbT
  | 63=>some Z7
  | 64=>some Zq
  | 65=>some Z2
  | 66=>some ZV
  | 67=>some ZH
  | 74=>some Zcg
  | 75=>some ZbG
  | 76=>some Zbk
  | 77=>some ZaY
  | 78=>some Zam
  | 79=>some Zb2
  | 82=>some zJ
  | 83=>some ZE
  | 89=>some Zb9
  | 90=>some ZbE
  | 91=>some ZI
  | 97=>some ZbD
  | 98=>some zy
  | 112=>some Z1
  | 119=>some ZbR
  | 121=>some zY
  | 124=>some Z3
  | 138=>some Zk
  | 150=>some ZS
  | 167=>some Z4
  | 169=>some ze
  | 176=>some zC
  | 178=>some zc
  | 188=>some Zy
  | 193=>some Zz
  | 195=>some Zae
  | 201=>some ZU
  | 203=>some Zw
  | 204=>some zz
  | 205=>some Zb1
  | 219=>some zn
  | 220=>some ZbF
  | 221=>some ZQ
  | 222=>some ZaZ
  | 254=>some Zm
  | 261=>some Zp
  | 264=>some zd
  | 266=>some zk
  | 267=>some Zu
  | 268=>some Zbh
  | 269=>some zB
  | 274=>some zA
  | 275=>some zL
  | 276=>some zQ
  | 278=>some Zag
  | 279=>some ZL
  | _=>none
theorem Zgu:G 13=some zI:=rfl
theorem Zf5:G 15=some z7:=rfl
theorem ZdU:G 28=some Zg:=rfl
theorem Zf8:G 29=some Z5:=rfl
theorem Zf9:G 32=some ZbH:=rfl
theorem Zej:G 46=some ZP:=rfl
theorem Zei:G 48=some ZD:=rfl
theorem ZeC:G 50=some zO:=rfl
theorem ZcZ:G 51=some z8:=rfl
theorem Zeu:G 52=some zp:=rfl
theorem ZdT:G 53=some zq:=rfl
theorem Zev:G 54=some ZaE:=rfl
theorem ZeD:G 55=some ZaP:=rfl
theorem Zeh:G 57=some Zaz:=rfl
theorem Zfs:G 58=some ZbT:=rfl
theorem Zdr:G 63=some Z7:=rfl
theorem Zdq:G 64=some Zq:=rfl
theorem ZdV:G 65=some Z2:=rfl
theorem Zf6:G 66=some ZV:=rfl
theorem Zft:G 67=some ZH:=rfl
theorem Zf7:G 74=some Zcg:=rfl
theorem ZeQ:G 75=some ZbG:=rfl
theorem ZeE:G 76=some Zbk:=rfl
theorem ZeN:G 77=some ZaY:=rfl
theorem ZcL:G 78=some Zam:=rfl
theorem ZeB:G 79=some Zb2:=rfl
theorem Zgg:G 82=some zJ:=rfl
theorem ZdG:G 83=some ZE:=rfl
theorem Zgt:G 89=some Zb9:=rfl
theorem ZeM:G 90=some ZbE:=rfl
theorem Zde:G 91=some ZI:=rfl
theorem Zhx:G 97=some ZbD:=rfl
theorem Zf2:G 98=some zy:=rfl
theorem Zdz:G 112=some Z1:=rfl
theorem ZgV:G 119=some ZbR:=rfl
theorem Zew:G 121=some zY:=rfl
theorem ZdW:G 124=some Z3:=rfl
theorem Zd0:G 138=some Zk:=rfl
theorem ZdC:G 150=some ZS:=rfl
theorem ZdD:G 167=some Z4:=rfl
theorem ZdE:G 169=some ze:=rfl
theorem Zfw:G 176=some zC:=rfl
theorem Zfr:G 178=some zc:=rfl
theorem ZdF:G 188=some Zy:=rfl
theorem Zdd:G 193=some Zz:=rfl
theorem Zfx:G 195=some Zae:=rfl
theorem Zfy:G 201=some ZU:=rfl
theorem Zf3:G 203=some Zw:=rfl
theorem Zf4:G 204=some zz:=rfl
theorem ZeA:G 205=some Zb1:=rfl
theorem Ze9:G 219=some zn:=rfl
theorem ZeP:G 220=some ZbF:=rfl
theorem ZdS:G 221=some ZQ:=rfl
theorem ZeO:G 222=some ZaZ:=rfl
theorem ZcY:G 254=some Zm:=rfl
theorem ZdX:G 261=some Zp:=rfl
theorem ZdB:G 264=some zd:=rfl
theorem Zfu:G 266=some zk:=rfl
theorem ZdA:G 267=some Zu:=rfl
theorem ZfA:G 268=some Zbh:=rfl
theorem ZdZ:G 269=some zB:=rfl
theorem ZdY:G 274=some zA:=rfl
theorem Zfv:G 275=some zL:=rfl
theorem Zgv:G 276=some zQ:=rfl
theorem ZeR:G 278=some Zag:=rfl
theorem ZfB:G 279=some ZL:=rfl
end Mu
