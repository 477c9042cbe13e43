/- The functions of the program, as the evaluator has them: printed by a program; checked against the model's. -/
import Derived.Test.YtdefkboekpjiiaaMuE0
namespace Mu
instance (n:Nat):OfNat Opd n:=⟨.t n⟩
instance:Coe (List Oper) Code:=⟨.region⟩
abbrev oD (d:Nat) (op:Op):Oper:=⟨some d,op,none⟩
abbrev oN (op:Op):Oper:=⟨none,op,none⟩
abbrev oT (d g:Nat) (op:Op):Oper:=⟨some d,op,some (g,true)⟩
abbrev oF (d g:Nat) (op:Op):Oper:=⟨some d,op,some (g,false)⟩
abbrev oM (d:Nat) (x:Opd):Oper:=⟨some d,.mv x,none⟩
abbrev oC (d f:Nat) (l:List Opd):Oper:=⟨some d,.call (.c (.f f [])) l,none⟩
abbrev cI (n:Int):Opd:=.c (.i .i64 n)
/-! muntin/muntinref10.Make -/
def Zf.r0:List Oper:=[
 oD 2 (.box 0),
 oM 4 (.c (.sn)),
 oM 5 (.c (.sn))]
def Zf.r1:List Oper:=[
 oM 6 (.c (.sn))]
def Zf.r2:List Oper:=[
 oM 7 (cI 0)]
def Zf.r3:List Oper:=[
 oM 18 7,
 oD 19 (.fa 0 2),
 oD 20 (.ld false 1 19),
 oD 21 (.len 20),
 oD 22 (.bin .lss 18 21),
 oM 23 22,
 oT 24 23 (.mv 6),
 oT 25 23 (.len 24),
 oT 26 23 (.mv 1),
 oT 27 23 (.bin .lss 25 26),
 oD 28 (.pick 23 27 (.c (.b false)))]
def Zf.r5:List Oper:=[
 oD 31 (.fa 0 2),
 oD 32 (.ld false 1 31),
 oM 33 7,
 oD 34 (.ixa 1 32 33),
 oD 35 (.ld false 1 34),
 oD 36 (.conv .i64 35),
 oD 37 (.bin .rem 36 (cI 8)),
 oD 38 (.fa 0 2),
 oD 39 (.ld false 1 38),
 oM 40 7,
 oD 41 (.ixa 1 39 40),
 oD 42 (.ld false 1 41),
 oD 43 (.conv .i64 42),
 oD 44 (.bin .quo 43 (cI 8)),
 oD 45 (.bin .rem 44 (cI 8)),
 oD 46 (.build [.n 0,.n 0] [(0,1,.t 37),(1,1,.t 45)]),
 oD 8 (.alloc [.n 0,.n 0]),
 oN (.st 2 8 46)]
def Zf.r6:List Oper:=[
 oM 9 (.c (.b false))]
def Zf.r7:List Oper:=[
 oM 10 (cI 0)]
def Zf.r8:List Oper:=[
 oM 47 10,
 oM 48 6,
 oD 49 (.len 48),
 oD 50 (.bin .lss 47 49)]
def Zf.r10:List Oper:=[
 oM 53 9,
 oM 54 53,
 oF 55 54 (.mv 6),
 oF 56 54 (.mv 10),
 oF 57 54 (.ixa 2 55 56),
 oF 58 54 (.ld true 2 57),
 oF 59 54 (.ld true 2 8),
 oF 60 54 (.eq false (.fl [.i,.i]) 58 59),
 oD 61 (.pick 54 (.c (.b true)) 60),
 oM 9 61]
def Zf.r9:List Oper:=[
 oM 51 10,
 oD 52 (.bin .add 51 (cI 1)),
 oM 10 52]
def Zf.l0:Code:=.seq (.seq Zf.r8 (.cond 50 (.skip) (.exit 2))) (.seq (.block 3 (.draw Zf.r10 [(5,6)])) Zf.r9)
def Zf.r11:List Oper:=[
 oM 62 9,
 oD 63 (.un .not 62)]
def Zf.r12:List Oper:=[
 oM 64 6,
 oD 65 (.ld true 2 8),
 oD 66 (.bsl 2 1 [.n 0,.n 0] [(0,2,.t 65)]),
 oD 67 (.app 2 16 64 66),
 oM 6 67]
def Zf.r4:List Oper:=[
 oM 29 7,
 oD 30 (.bin .add 29 (cI 1)),
 oM 7 30]
def Zf.l1:Code:=.seq (.seq Zf.r3 (.cond 28 (.skip) (.exit 0))) (.seq (.block 1 (.seq (.draw Zf.r5 [(1,8),(4,8),(1,11),(4,11),(1,16),(4,16),(8,16),(11,16)]) (.seq Zf.r6 (.seq (.seq Zf.r7 (.block 2 (.loop Zf.l0))) (.seq Zf.r11 (.cond 63 Zf.r12 (.skip))))))) Zf.r4)
def Zf.r13:List Oper:=[
 oM 68 6,
 oD 69 (.len 68),
 oC 70 46 [69],
 oM 11 70]
def Zf.r14:List Oper:=[
 oM 12 (cI 0)]
def Zf.r15:List Oper:=[
 oM 71 12,
 oM 72 6,
 oD 73 (.len 72),
 oD 74 (.bin .lss 71 73)]
def Zf.r17:List Oper:=[
 oM 13 (.c (.i .u8 3))]
def Zf.r18:List Oper:=[
 oM 77 12,
 oD 78 (.fa 1 2),
 oD 79 (.ld false 1 78),
 oD 80 (.len 79),
 oD 81 (.bin .lss 77 80)]
def Zf.r19:List Oper:=[
 oD 82 (.fa 1 2),
 oD 83 (.ld false 1 82),
 oM 84 12,
 oD 85 (.ixa 1 83 84),
 oD 86 (.ld false 1 85),
 oM 13 86]
def Zf.r20:List Oper:=[
 oM 87 12,
 oM 14 87]
def Zf.r21:List Oper:=[
 oM 88 12,
 oD 89 (.fa 2 2),
 oD 90 (.ld false 1 89),
 oD 91 (.len 90),
 oD 92 (.bin .lss 88 91)]
def Zf.r22:List Oper:=[
 oD 93 (.fa 2 2),
 oD 94 (.ld false 1 93),
 oM 95 12,
 oD 96 (.ixa 1 94 95),
 oD 97 (.ld false 1 96),
 oD 98 (.conv .i64 97),
 oM 14 98]
def Zf.r23:List Oper:=[
 oM 99 14,
 oD 100 (.bin .lss 99 (cI (-2)))]
def Zf.r24:List Oper:=[
 oM 101 14,
 oD 102 (.un .neg 101),
 oM 14 102]
def Zf.r25:List Oper:=[
 oM 15 (cI 0)]
def Zf.r26:List Oper:=[
 oM 103 15,
 oD 104 (.bin .lss 103 (cI 2))]
def Zf.r28:List Oper:=[
 oM 107 6,
 oM 108 12,
 oM 109 15,
 oC 110 63 [107,108,109],
 oM 16 110]
def Zf.r29:List Oper:=[
 oM 111 13,
 oM 112 15,
 oD 113 (.bin .shr 111 112),
 oD 114 (.bin .and 113 (.c (.i .u8 1))),
 oD 115 (.eq false .sc 114 (.c (.i .u8 0))),
 oM 116 115,
 oF 117 116 (.mv 16),
 oF 118 116 (.bin .lss 117 (cI 0)),
 oD 119 (.pick 116 (.c (.b true)) 118)]
def Zf.r30:List Oper:=[
 oM 120 6,
 oM 121 11,
 oM 122 12,
 oM 123 16,
 oC 124 64 [120,121,122,123],
 oM 17 124]
def Zf.r31:List Oper:=[
 oM 125 17,
 oD 126 (.un .not 125)]
def Zf.r32:List Oper:=[
 oM 127 11,
 oM 128 12,
 oM 129 15,
 oM 130 16,
 oM 131 14,
 oC 132 65 [127,128,129,130,131],
 oM 11 132]
def Zf.r27:List Oper:=[
 oM 105 15,
 oD 106 (.bin .add 105 (cI 1)),
 oM 15 106]
def Zf.l2:Code:=.seq (.seq Zf.r26 (.cond 104 (.skip) (.exit 6))) (.seq (.block 7 (.seq Zf.r28 (.seq (.seq Zf.r29 (.cond 119 (.exit 7) (.skip))) (.seq Zf.r30 (.seq Zf.r31 (.cond 126 Zf.r32 (.skip))))))) Zf.r27)
def Zf.r16:List Oper:=[
 oM 75 12,
 oD 76 (.bin .add 75 (cI 1)),
 oM 12 76]
def Zf.l3:Code:=.seq (.seq Zf.r15 (.cond 74 (.skip) (.exit 4))) (.seq (.block 5 (.seq Zf.r17 (.seq (.seq Zf.r18 (.cond 81 Zf.r19 (.skip))) (.seq Zf.r20 (.seq (.seq Zf.r21 (.cond 92 (.seq Zf.r22 (.seq Zf.r23 (.cond 100 Zf.r24 (.skip)))) (.skip))) (.seq Zf.r25 (.block 6 (.loop Zf.l2)))))))) Zf.r16)
def Zf.r33:List Oper:=[
 oM 133 11,
 oM 134 6,
 oM 4 133,
 oM 5 134]
def Zf.code:Code:=.seq Zf.r0 (.seq Zf.r1 (.seq (.seq Zf.r2 (.block 0 (.loop Zf.l1))) (.seq Zf.r13 (.seq (.seq Zf.r14 (.block 4 (.loop Zf.l3))) (.seq Zf.r33 (.ret))))))
def Zf:Func:=⟨135,[.t 4,.t 5],Zf.code⟩
/-! muntin/join.Parts -/
def Z6.r0:List Oper:=[
 oM 2 (.c (.sn)),
 oM 3 (cI 0)]
def Z6.r1:List Oper:=[
 oM 12 0,
 oC 13 66 [12],
 oM 4 13]
def Z6.r2:List Oper:=[
 oM 14 4,
 oD 15 (.eq true .sc 14 (cI 0))]
def Z6.r3:List Oper:=[
 oM 16 4,
 oM 2 (.c (.sn)),
 oM 3 16]
def Z6.r4:List Oper:=[
 oM 5 (.c (.sn))]
def Z6.r5:List Oper:=[
 oM 17 0,
 oD 18 (.len 17),
 oD 19 (.mks 1 1 [.b false] 18 18),
 oM 6 19]
def Z6.r6:List Oper:=[
 oM 20 0,
 oD 21 (.len 20),
 oM 22 (cI 0)]
def Z6.r7:List Oper:=[
 oD 23 (.bin .lss 22 21)]
def Z6.r8:List Oper:=[
 oM 24 22,
 oM 7 24]
def Z6.r9:List Oper:=[
 oM 25 6,
 oM 26 7,
 oD 27 (.ixa 1 25 26),
 oD 28 (.ld false 1 27)]
def Z6.r10:List Oper:=[
 oM 30 0,
 oM 31 7,
 oC 32 67 [30,31],
 oM 29 32,
 oD 33 (.ext 29 0),
 oD 34 (.ext 29 1),
 oM 8 33,
 oM 9 34]
def Z6.r11:List Oper:=[
 oD 35 (.bsl 1 0 [.n 0] []),
 oM 10 35]
def Z6.r12:List Oper:=[
 oM 36 0,
 oD 37 (.len 36),
 oM 38 (cI 0)]
def Z6.r13:List Oper:=[
 oD 39 (.bin .lss 38 37)]
def Z6.r14:List Oper:=[
 oM 40 38,
 oM 11 40]
def Z6.r15:List Oper:=[
 oM 41 11,
 oM 42 7,
 oD 43 (.eq false .sc 41 42),
 oM 44 43,
 oF 45 44 (.mv 9),
 oF 46 44 (.mv 11),
 oF 47 44 (.ixa 1 45 46),
 oF 48 44 (.ld false 1 47),
 oF 49 44 (.bin .geq 48 (cI 0)),
 oD 50 (.pick 44 (.c (.b true)) 49)]
def Z6.r16:List Oper:=[
 oM 51 6,
 oM 52 11,
 oD 53 (.ixa 1 51 52),
 oN (.st 1 53 (.c (.b true)))]
def Z6.r17:List Oper:=[
 oM 54 10,
 oM 55 11,
 oD 56 (.bsl 1 1 [.n 0] [(0,1,.t 55)]),
 oD 57 (.app 1 8 54 56),
 oM 10 57]
def Z6.r18:List Oper:=[
 oD 58 (.bin .add 38 (cI 1)),
 oM 38 58]
def Z6.l0:Code:=.seq Z6.r13 (.seq (.cond 39 (.skip) (.exit 2)) (.seq (.block 3 (.seq Z6.r14 (.seq Z6.r15 (.cond 50 (.seq Z6.r16 Z6.r17) (.skip))))) Z6.r18))
def Z6.r19:List Oper:=[
 oM 59 5,
 oM 60 10,
 oD 61 (.bsl 1 1 [.sn] [(0,1,.t 60)]),
 oD 62 (.app 1 24 59 61),
 oM 5 62]
def Z6.r20:List Oper:=[
 oD 63 (.bin .add 22 (cI 1)),
 oM 22 63]
def Z6.l1:Code:=.seq Z6.r7 (.seq (.cond 23 (.skip) (.exit 0)) (.seq (.block 1 (.seq Z6.r8 (.seq (.seq Z6.r9 (.cond 28 (.exit 1) (.skip))) (.seq Z6.r10 (.seq Z6.r11 (.seq (.seq Z6.r12 (.block 2 (.loop Z6.l0))) Z6.r19)))))) Z6.r20))
def Z6.r21:List Oper:=[
 oM 64 5,
 oM 2 64,
 oM 3 (cI 0)]
def Z6.code:Code:=.seq Z6.r0 (.seq (.seq Z6.r1 (.seq Z6.r2 (.cond 15 (.seq Z6.r3 (.ret)) (.skip)))) (.seq Z6.r4 (.seq Z6.r5 (.seq (.seq Z6.r6 (.block 0 (.loop Z6.l1))) (.seq Z6.r21 (.ret))))))
def Z6:Func:=⟨65,[.t 2,.t 3],Z6.code⟩
/-! muntin/join.Whole -/
def ZaS.r0:List Oper:=[
 oM 2 (.c (.b false))]
def ZaS.r1:List Oper:=[
 oM 6 0,
 oC 7 29 [6],
 oM 5 7,
 oD 8 (.ext 5 0),
 oD 9 (.ext 5 1),
 oM 3 8,
 oM 4 9]
def ZaS.r2:List Oper:=[
 oM 10 4,
 oD 11 (.eq false .sc 10 (cI 0)),
 oM 12 11,
 oT 13 12 (.mv 3),
 oT 14 12 (.len 13),
 oT 15 12 (.eq false .sc 14 (cI 1)),
 oD 16 (.pick 12 15 (.c (.b false))),
 oM 2 16]
def ZaS.code:Code:=.seq ZaS.r0 (.seq ZaS.r1 (.seq ZaS.r2 (.ret)))
def ZaS:Func:=⟨17,[.t 2],ZaS.code⟩
/-! muntin/muntinref10.New -/
def ZF.r0:List Oper:=[
 oM 2 (.c (.sn))]
def ZF.r1:List Oper:=[
 oM 6 0,
 oD 7 (.mks 8 64 [.n 0,.n 0,.n 0,.n 0,.n 0,.n 0,.n 0,.n 0] 6 6),
 oM 3 7]
def ZF.r2:List Oper:=[
 oM 4 (cI 0)]
def ZF.r3:List Oper:=[
 oM 8 4,
 oM 9 0,
 oD 10 (.bin .lss 8 9)]
def ZF.r5:List Oper:=[
 oM 5 (cI 0)]
def ZF.r6:List Oper:=[
 oM 13 5,
 oD 14 (.bin .lss 13 (cI 4))]
def ZF.r8:List Oper:=[
 oM 17 3,
 oM 18 4,
 oM 19 5,
 oD 20 (.ixa 8 17 18),
 oD 21 (.fa 0 20),
 oD 22 (.ixaa 1 4 21 19),
 oN (.st 1 22 (cI (-1)))]
def ZF.r7:List Oper:=[
 oM 15 5,
 oD 16 (.bin .add 15 (cI 1)),
 oM 5 16]
def ZF.l0:Code:=.seq (.seq ZF.r6 (.cond 14 (.skip) (.exit 2))) (.seq (.block 3 ZF.r8) ZF.r7)
def ZF.r4:List Oper:=[
 oM 11 4,
 oD 12 (.bin .add 11 (cI 1)),
 oM 4 12]
def ZF.l1:Code:=.seq (.seq ZF.r3 (.cond 10 (.skip) (.exit 0))) (.seq (.block 1 (.seq ZF.r5 (.block 2 (.loop ZF.l0)))) ZF.r4)
def ZF.r9:List Oper:=[
 oM 23 3,
 oM 2 23]
def ZF.code:Code:=.seq ZF.r0 (.seq ZF.r1 (.seq (.seq ZF.r2 (.block 0 (.loop ZF.l1))) (.seq ZF.r9 (.ret))))
def ZF:Func:=⟨24,[.t 2],ZF.code⟩
/-! muntin/muntinref10.Split -/
def Zy.r0:List Oper:=[
 oM 6 (.c (.sn)),
 oM 7 (cI 0),
 oM 8 (cI 0)]
def Zy.r1:List Oper:=[
 oM 13 1,
 oD 14 (.bin .lss 13 (cI 0)),
 oM 15 14,
 oF 16 15 (.mv 1),
 oF 17 15 (.mv 0),
 oF 18 15 (.len 17),
 oF 19 15 (.bin .geq 16 18),
 oD 20 (.pick 15 (.c (.b true)) 19),
 oM 21 20,
 oF 22 21 (.mv 2),
 oF 23 21 (.bin .lss 22 (cI 0)),
 oD 24 (.pick 21 (.c (.b true)) 23),
 oM 25 24,
 oF 26 25 (.mv 2),
 oF 27 25 (.bin .gtr 26 (cI 3)),
 oD 28 (.pick 25 (.c (.b true)) 27)]
def Zy.r2:List Oper:=[
 oM 29 0,
 oM 6 29,
 oM 7 (cI 0),
 oM 8 (cI 2)]
def Zy.r3:List Oper:=[
 oM 30 0,
 oM 31 1,
 oM 32 2,
 oD 33 (.ixa 8 30 31),
 oD 34 (.fa 0 33),
 oD 35 (.ixaa 1 4 34 32),
 oD 36 (.ld false 1 35),
 oM 9 36]
def Zy.r4:List Oper:=[
 oM 37 9,
 oD 38 (.eq false .sc 37 (cI (-1)))]
def Zy.r5:List Oper:=[
 oM 39 0,
 oM 6 39,
 oM 7 (cI 0),
 oM 8 (cI 9)]
def Zy.r6:List Oper:=[
 oM 40 0,
 oD 41 (.len 40),
 oD 42 (.bin .geq 41 (cI 4096))]
def Zy.r7:List Oper:=[
 oM 43 0,
 oM 6 43,
 oM 7 (cI 0),
 oM 8 (cI 6)]
def Zy.r8:List Oper:=[
 oM 44 0,
 oM 45 1,
 oM 46 2,
 oD 47 (.ixa 8 44 45),
 oD 48 (.fa 4 47),
 oD 49 (.ixaa 1 4 48 46),
 oD 50 (.ld false 1 49),
 oM 10 50]
def Zy.r9:List Oper:=[
 oM 51 0,
 oD 52 (.len 51),
 oM 11 52]
def Zy.r10:List Oper:=[
 oC 53 46 [.c (.n 1)],
 oM 12 53]
def Zy.r11:List Oper:=[
 oM 54 0,
 oC 55 65 [54,.c (.n (-1)),.c (.n 0),.c (.n (-1)),.c (.n 0)],
 oM 56 12,
 oD 57 (.ixa 8 56 (cI 0)),
 oD 58 (.ld true 8 57),
 oD 59 (.bsl 8 1 [.n 0,.n 0,.n 0,.n 0,.n 0,.n 0,.n 0,.n 0] [(0,8,.t 58)]),
 oD 60 (.app 8 64 55 59),
 oM 0 60]
def Zy.r12:List Oper:=[
 oM 61 0,
 oM 62 1,
 oM 63 2,
 oM 64 11,
 oM 65 10,
 oC 66 65 [61,62,63,64,65],
 oM 0 66]
def Zy.r13:List Oper:=[
 oM 67 0,
 oM 68 11,
 oM 69 2,
 oM 70 9,
 oM 71 10,
 oC 72 65 [67,68,69,70,71],
 oM 0 72]
def Zy.r14:List Oper:=[
 oM 73 0,
 oM 74 11,
 oM 6 73,
 oM 7 74,
 oM 8 (cI 0)]
def Zy.code:Code:=.seq Zy.r0 (.seq (.seq Zy.r1 (.cond 28 (.seq Zy.r2 (.ret)) (.skip))) (.seq Zy.r3 (.seq (.seq Zy.r4 (.cond 38 (.seq Zy.r5 (.ret)) (.skip))) (.seq (.seq Zy.r6 (.cond 42 (.seq Zy.r7 (.ret)) (.skip))) (.seq Zy.r8 (.seq Zy.r9 (.seq Zy.r10 (.seq (.draw Zy.r11 [(1,4),(1,5)]) (.seq Zy.r12 (.seq Zy.r13 (.seq Zy.r14 (.ret))))))))))))
def Zy:Func:=⟨75,[.t 6,.t 7,.t 8],Zy.code⟩
/-! muntin/muntinref10.Join -/
def zg.r0:List Oper:=[
 oM 10 (.c (.sn)),
 oM 11 (cI 0)]
def zg.r1:List Oper:=[
 oM 13 1,
 oD 14 (.bin .lss 13 (cI 0)),
 oM 15 14,
 oF 16 15 (.mv 1),
 oF 17 15 (.mv 0),
 oF 18 15 (.len 17),
 oF 19 15 (.bin .geq 16 18),
 oD 20 (.pick 15 (.c (.b true)) 19),
 oM 21 20,
 oF 22 21 (.mv 3),
 oF 23 21 (.bin .lss 22 (cI 0)),
 oD 24 (.pick 21 (.c (.b true)) 23),
 oM 25 24,
 oF 26 25 (.mv 3),
 oF 27 25 (.mv 0),
 oF 28 25 (.len 27),
 oF 29 25 (.bin .geq 26 28),
 oD 30 (.pick 25 (.c (.b true)) 29),
 oM 31 30,
 oF 32 31 (.mv 1),
 oF 33 31 (.mv 3),
 oF 34 31 (.eq false .sc 32 33),
 oD 35 (.pick 31 (.c (.b true)) 34),
 oM 36 35,
 oF 37 36 (.mv 2),
 oF 38 36 (.bin .lss 37 (cI 0)),
 oD 39 (.pick 36 (.c (.b true)) 38),
 oM 40 39,
 oF 41 40 (.mv 2),
 oF 42 40 (.bin .gtr 41 (cI 3)),
 oD 43 (.pick 40 (.c (.b true)) 42),
 oM 44 43,
 oF 45 44 (.mv 4),
 oF 46 44 (.bin .lss 45 (cI (-2))),
 oD 47 (.pick 44 (.c (.b true)) 46)]
def zg.r2:List Oper:=[
 oM 48 0,
 oM 10 48,
 oM 11 (cI 2)]
def zg.r3:List Oper:=[
 oM 49 0,
 oM 50 1,
 oM 51 2,
 oD 52 (.ixa 8 49 50),
 oD 53 (.fa 0 52),
 oD 54 (.ixaa 1 4 53 51),
 oD 55 (.ld false 1 54),
 oD 56 (.eq true .sc 55 (cI (-1))),
 oM 57 56,
 oF 58 57 (.mv 0),
 oF 59 57 (.mv 3),
 oF 60 57 (.mv 2),
 oF 61 57 (.bin .add 60 (cI 2)),
 oF 62 57 (.bin .rem 61 (cI 4)),
 oF 63 57 (.ixa 8 58 59),
 oF 64 57 (.fa 0 63),
 oF 65 57 (.ixaa 1 4 64 62),
 oF 66 57 (.ld false 1 65),
 oF 67 57 (.eq true .sc 66 (cI (-1))),
 oD 68 (.pick 57 (.c (.b true)) 67)]
def zg.r4:List Oper:=[
 oM 69 0,
 oM 10 69,
 oM 11 (cI 9)]
def zg.r5:List Oper:=[
 oM 70 0,
 oM 71 1,
 oM 72 2,
 oM 73 3,
 oM 74 4,
 oC 75 65 [70,71,72,73,74],
 oM 12 75]
def zg.r6:List Oper:=[
 oM 76 12,
 oM 10 76,
 oM 11 (cI 0)]
def zg.code:Code:=.seq zg.r0 (.seq (.seq zg.r1 (.cond 47 (.seq zg.r2 (.ret)) (.skip))) (.seq (.seq zg.r3 (.cond 68 (.seq zg.r4 (.ret)) (.skip))) (.seq zg.r5 (.seq zg.r6 (.ret)))))
def zg:Func:=⟨77,[.t 10,.t 11],zg.code⟩
/-! muntin/muntinref10.Nearest -/
def Z7.r0:List Oper:=[
 oM 6 (cI 0)]
def Z7.r1:List Oper:=[
 oM 7 (cI (-1))]
def Z7.r2:List Oper:=[
 oM 8 (cI 0)]
def Z7.r3:List Oper:=[
 oM 9 8,
 oM 10 0,
 oD 11 (.len 10),
 oD 12 (.bin .lss 9 11)]
def Z7.r5:List Oper:=[
 oM 15 2,
 oD 16 (.eq false .sc 15 (cI 0)),
 oM 17 16,
 oT 18 17 (.mv 0),
 oT 19 17 (.mv 8),
 oT 20 17 (.ixa 2 18 19),
 oT 21 17 (.fa 1 20),
 oT 22 17 (.ld false 1 21),
 oT 23 17 (.mv 0),
 oT 24 17 (.mv 1),
 oT 25 17 (.ixa 2 23 24),
 oT 26 17 (.fa 1 25),
 oT 27 17 (.ld false 1 26),
 oT 28 17 (.eq false .sc 22 27),
 oD 29 (.pick 17 28 (.c (.b false))),
 oM 30 29,
 oT 31 30 (.mv 0),
 oT 32 30 (.mv 8),
 oT 33 30 (.ixa 2 31 32),
 oT 34 30 (.fa 0 33),
 oT 35 30 (.ld false 1 34),
 oT 36 30 (.mv 0),
 oT 37 30 (.mv 1),
 oT 38 30 (.ixa 2 36 37),
 oT 39 30 (.fa 0 38),
 oT 40 30 (.ld false 1 39),
 oT 41 30 (.bin .gtr 35 40),
 oD 42 (.pick 30 41 (.c (.b false))),
 oM 43 42,
 oT 44 43 (.mv 7),
 oT 45 43 (.bin .lss 44 (cI 0)),
 oT 46 43 (.mv 45),
 oF 47 46 (.mv 0),
 oF 48 46 (.mv 8),
 oF 49 46 (.ixa 2 47 48),
 oF 50 46 (.fa 0 49),
 oF 51 46 (.ld false 1 50),
 oF 52 46 (.mv 0),
 oF 53 46 (.mv 7),
 oF 54 46 (.ixa 2 52 53),
 oF 55 46 (.fa 0 54),
 oF 56 46 (.ld false 1 55),
 oF 57 46 (.bin .lss 51 56),
 oT 58 43 (.pick 46 (.c (.b true)) 57),
 oD 59 (.pick 43 58 (.c (.b false)))]
def Z7.r6:List Oper:=[
 oM 60 8,
 oM 7 60]
def Z7.r7:List Oper:=[
 oM 61 2,
 oD 62 (.eq false .sc 61 (cI 1)),
 oM 63 62,
 oT 64 63 (.mv 0),
 oT 65 63 (.mv 8),
 oT 66 63 (.ixa 2 64 65),
 oT 67 63 (.fa 0 66),
 oT 68 63 (.ld false 1 67),
 oT 69 63 (.mv 0),
 oT 70 63 (.mv 1),
 oT 71 63 (.ixa 2 69 70),
 oT 72 63 (.fa 0 71),
 oT 73 63 (.ld false 1 72),
 oT 74 63 (.eq false .sc 68 73),
 oD 75 (.pick 63 74 (.c (.b false))),
 oM 76 75,
 oT 77 76 (.mv 0),
 oT 78 76 (.mv 8),
 oT 79 76 (.ixa 2 77 78),
 oT 80 76 (.fa 1 79),
 oT 81 76 (.ld false 1 80),
 oT 82 76 (.mv 0),
 oT 83 76 (.mv 1),
 oT 84 76 (.ixa 2 82 83),
 oT 85 76 (.fa 1 84),
 oT 86 76 (.ld false 1 85),
 oT 87 76 (.bin .gtr 81 86),
 oD 88 (.pick 76 87 (.c (.b false))),
 oM 89 88,
 oT 90 89 (.mv 7),
 oT 91 89 (.bin .lss 90 (cI 0)),
 oT 92 89 (.mv 91),
 oF 93 92 (.mv 0),
 oF 94 92 (.mv 8),
 oF 95 92 (.ixa 2 93 94),
 oF 96 92 (.fa 1 95),
 oF 97 92 (.ld false 1 96),
 oF 98 92 (.mv 0),
 oF 99 92 (.mv 7),
 oF 100 92 (.ixa 2 98 99),
 oF 101 92 (.fa 1 100),
 oF 102 92 (.ld false 1 101),
 oF 103 92 (.bin .lss 97 102),
 oT 104 89 (.pick 92 (.c (.b true)) 103),
 oD 105 (.pick 89 104 (.c (.b false)))]
def Z7.r8:List Oper:=[
 oM 106 8,
 oM 7 106]
def Z7.r4:List Oper:=[
 oM 13 8,
 oD 14 (.bin .add 13 (cI 1)),
 oM 8 14]
def Z7.l0:Code:=.seq (.seq Z7.r3 (.cond 12 (.skip) (.exit 0))) (.seq (.block 1 (.seq (.seq (.draw Z7.r5 [(7,12),(20,25),(36,41)]) (.cond 59 Z7.r6 (.skip))) (.seq (.draw Z7.r7 [(7,12),(20,25),(36,41)]) (.cond 105 Z7.r8 (.skip))))) Z7.r4)
def Z7.r9:List Oper:=[
 oM 107 7,
 oM 6 107]
def Z7.code:Code:=.seq Z7.r0 (.seq Z7.r1 (.seq (.seq Z7.r2 (.block 0 (.loop Z7.l0))) (.seq Z7.r9 (.ret))))
def Z7:Func:=⟨108,[.t 6],Z7.code⟩
/-! muntin/muntinref10.Crossed -/
def Zp.r0:List Oper:=[
 oM 8 (.c (.b false))]
def Zp.r1:List Oper:=[
 oM 9 (cI 0)]
def Zp.r2:List Oper:=[
 oM 14 9,
 oM 15 1,
 oD 16 (.len 15),
 oD 17 (.bin .lss 14 16)]
def Zp.r4:List Oper:=[
 oM 10 (cI 0)]
def Zp.r5:List Oper:=[
 oM 20 10,
 oD 21 (.bin .lss 20 (cI 2))]
def Zp.r7:List Oper:=[
 oM 24 1,
 oM 25 9,
 oM 26 10,
 oD 27 (.ixa 8 24 25),
 oD 28 (.fa 0 27),
 oD 29 (.ixaa 1 4 28 26),
 oD 30 (.ld false 1 29),
 oM 11 30]
def Zp.r8:List Oper:=[
 oM 31 11,
 oD 32 (.bin .lss 31 (cI 0))]
def Zp.r9:List Oper:=[
 oM 33 0,
 oM 34 9,
 oD 35 (.ixa 2 33 34),
 oD 36 (.ld true 2 35),
 oD 12 (.alloc [.n 0,.n 0]),
 oN (.st 2 12 36)]
def Zp.r10:List Oper:=[
 oM 37 0,
 oM 38 11,
 oD 39 (.ixa 2 37 38),
 oD 40 (.ld true 2 39),
 oD 13 (.alloc [.n 0,.n 0]),
 oN (.st 2 13 40)]
def Zp.r11:List Oper:=[
 oD 41 (.fa 1 12),
 oD 42 (.ld false 1 41),
 oD 43 (.fa 1 13),
 oD 44 (.ld false 1 43),
 oD 45 (.eq false .sc 42 44),
 oM 46 45,
 oT 47 46 (.mv 0),
 oT 48 46 (.mv 2),
 oT 49 46 (.ixa 2 47 48),
 oT 50 46 (.fa 0 49),
 oT 51 46 (.ld false 1 50),
 oT 52 46 (.mv 0),
 oT 53 46 (.mv 3),
 oT 54 46 (.ixa 2 52 53),
 oT 55 46 (.fa 0 54),
 oT 56 46 (.ld false 1 55),
 oT 57 46 (.eq false .sc 51 56),
 oD 58 (.pick 46 57 (.c (.b false))),
 oM 59 58,
 oT 60 59 (.fa 0 12),
 oT 61 59 (.ld false 1 60),
 oT 62 59 (.mv 0),
 oT 63 59 (.mv 2),
 oT 64 59 (.ixa 2 62 63),
 oT 65 59 (.fa 0 64),
 oT 66 59 (.ld false 1 65),
 oT 67 59 (.bin .lss 61 66),
 oD 68 (.pick 59 67 (.c (.b false))),
 oM 69 68,
 oT 70 69 (.mv 0),
 oT 71 69 (.mv 2),
 oT 72 69 (.ixa 2 70 71),
 oT 73 69 (.fa 0 72),
 oT 74 69 (.ld false 1 73),
 oT 75 69 (.fa 0 13),
 oT 76 69 (.ld false 1 75),
 oT 77 69 (.bin .lss 74 76),
 oD 78 (.pick 69 77 (.c (.b false))),
 oM 79 78,
 oT 80 79 (.mv 0),
 oT 81 79 (.mv 2),
 oT 82 79 (.ixa 2 80 81),
 oT 83 79 (.fa 1 82),
 oT 84 79 (.ld false 1 83),
 oT 85 79 (.fa 1 12),
 oT 86 79 (.ld false 1 85),
 oT 87 79 (.bin .lss 84 86),
 oD 88 (.pick 79 87 (.c (.b false))),
 oM 89 88,
 oT 90 89 (.fa 1 12),
 oT 91 89 (.ld false 1 90),
 oT 92 89 (.mv 0),
 oT 93 89 (.mv 3),
 oT 94 89 (.ixa 2 92 93),
 oT 95 89 (.fa 1 94),
 oT 96 89 (.ld false 1 95),
 oT 97 89 (.bin .lss 91 96),
 oD 98 (.pick 89 97 (.c (.b false)))]
def Zp.r12:List Oper:=[
 oM 8 (.c (.b true))]
def Zp.r13:List Oper:=[
 oD 99 (.fa 0 12),
 oD 100 (.ld false 1 99),
 oD 101 (.fa 0 13),
 oD 102 (.ld false 1 101),
 oD 103 (.eq false .sc 100 102),
 oM 104 103,
 oT 105 104 (.mv 0),
 oT 106 104 (.mv 2),
 oT 107 104 (.ixa 2 105 106),
 oT 108 104 (.fa 1 107),
 oT 109 104 (.ld false 1 108),
 oT 110 104 (.mv 0),
 oT 111 104 (.mv 3),
 oT 112 104 (.ixa 2 110 111),
 oT 113 104 (.fa 1 112),
 oT 114 104 (.ld false 1 113),
 oT 115 104 (.eq false .sc 109 114),
 oD 116 (.pick 104 115 (.c (.b false))),
 oM 117 116,
 oT 118 117 (.mv 0),
 oT 119 117 (.mv 2),
 oT 120 117 (.ixa 2 118 119),
 oT 121 117 (.fa 0 120),
 oT 122 117 (.ld false 1 121),
 oT 123 117 (.fa 0 12),
 oT 124 117 (.ld false 1 123),
 oT 125 117 (.bin .lss 122 124),
 oD 126 (.pick 117 125 (.c (.b false))),
 oM 127 126,
 oT 128 127 (.fa 0 12),
 oT 129 127 (.ld false 1 128),
 oT 130 127 (.mv 0),
 oT 131 127 (.mv 3),
 oT 132 127 (.ixa 2 130 131),
 oT 133 127 (.fa 0 132),
 oT 134 127 (.ld false 1 133),
 oT 135 127 (.bin .lss 129 134),
 oD 136 (.pick 127 135 (.c (.b false))),
 oM 137 136,
 oT 138 137 (.fa 1 12),
 oT 139 137 (.ld false 1 138),
 oT 140 137 (.mv 0),
 oT 141 137 (.mv 2),
 oT 142 137 (.ixa 2 140 141),
 oT 143 137 (.fa 1 142),
 oT 144 137 (.ld false 1 143),
 oT 145 137 (.bin .lss 139 144),
 oD 146 (.pick 137 145 (.c (.b false))),
 oM 147 146,
 oT 148 147 (.mv 0),
 oT 149 147 (.mv 2),
 oT 150 147 (.ixa 2 148 149),
 oT 151 147 (.fa 1 150),
 oT 152 147 (.ld false 1 151),
 oT 153 147 (.fa 1 13),
 oT 154 147 (.ld false 1 153),
 oT 155 147 (.bin .lss 152 154),
 oD 156 (.pick 147 155 (.c (.b false)))]
def Zp.r14:List Oper:=[
 oM 8 (.c (.b true))]
def Zp.r6:List Oper:=[
 oM 22 10,
 oD 23 (.bin .add 22 (cI 1)),
 oM 10 23]
def Zp.l0:Code:=.seq (.seq Zp.r5 (.cond 21 (.skip) (.exit 2))) (.seq (.block 3 (.seq Zp.r7 (.seq (.seq Zp.r8 (.cond 32 (.exit 3) (.skip))) (.seq Zp.r9 (.seq Zp.r10 (.seq (.seq (.draw Zp.r11 [(1,3),(10,15),(20,25),(33,35),(43,45),(50,55)]) (.cond 98 (.seq Zp.r12 (.ret)) (.skip))) (.seq (.draw Zp.r13 [(1,3),(10,15),(23,25),(30,35),(40,45),(53,55)]) (.cond 156 (.seq Zp.r14 (.ret)) (.skip))))))))) Zp.r6)
def Zp.r3:List Oper:=[
 oM 18 9,
 oD 19 (.bin .add 18 (cI 1)),
 oM 9 19]
def Zp.l1:Code:=.seq (.seq Zp.r2 (.cond 17 (.skip) (.exit 0))) (.seq (.block 1 (.seq Zp.r4 (.block 2 (.loop Zp.l0)))) Zp.r3)
def Zp.r15:List Oper:=[
 oM 8 (.c (.b false))]
def Zp.code:Code:=.seq Zp.r0 (.seq (.seq Zp.r1 (.block 0 (.loop Zp.l1))) (.seq Zp.r15 (.ret)))
def Zp:Func:=⟨157,[.t 8],Zp.code⟩
/-! muntin/muntinref10.with -/
def Z2.r0:List Oper:=[
 oM 10 (.c (.sn))]
def Z2.r1:List Oper:=[
 oM 11 (.c (.sn))]
def Z2.r2:List Oper:=[
 oM 12 (cI 0)]
def Z2.r3:List Oper:=[
 oM 14 12,
 oM 15 0,
 oD 16 (.len 15),
 oD 17 (.bin .lss 14 16)]
def Z2.r5:List Oper:=[
 oM 20 0,
 oM 21 12,
 oD 22 (.ixa 8 20 21),
 oD 23 (.ld true 8 22),
 oD 13 (.alloc [.n 0,.n 0,.n 0,.n 0,.n 0,.n 0,.n 0,.n 0]),
 oN (.st 8 13 23)]
def Z2.r6:List Oper:=[
 oM 24 12,
 oM 25 1,
 oD 26 (.eq false .sc 24 25)]
def Z2.r7:List Oper:=[
 oM 27 2,
 oM 28 3,
 oD 29 (.fa 0 13),
 oD 30 (.ixaa 1 4 29 27),
 oN (.st 1 30 28)]
def Z2.r8:List Oper:=[
 oM 31 2,
 oM 32 4,
 oD 33 (.fa 4 13),
 oD 34 (.ixaa 1 4 33 31),
 oN (.st 1 34 32)]
def Z2.r9:List Oper:=[
 oM 35 12,
 oM 36 3,
 oD 37 (.eq false .sc 35 36)]
def Z2.r10:List Oper:=[
 oM 38 2,
 oD 39 (.bin .add 38 (cI 2)),
 oD 40 (.bin .rem 39 (cI 4)),
 oM 41 1,
 oD 42 (.fa 0 13),
 oD 43 (.ixaa 1 4 42 40),
 oN (.st 1 43 41)]
def Z2.r11:List Oper:=[
 oM 44 2,
 oD 45 (.bin .add 44 (cI 2)),
 oD 46 (.bin .rem 45 (cI 4)),
 oM 47 4,
 oD 48 (.fa 4 13),
 oD 49 (.ixaa 1 4 48 46),
 oN (.st 1 49 47)]
def Z2.r12:List Oper:=[
 oM 50 11,
 oD 51 (.ld true 8 13),
 oD 52 (.bsl 8 1 [.n 0,.n 0,.n 0,.n 0,.n 0,.n 0,.n 0,.n 0] [(0,8,.t 51)]),
 oD 53 (.app 8 64 50 52),
 oM 11 53]
def Z2.r4:List Oper:=[
 oM 18 12,
 oD 19 (.bin .add 18 (cI 1)),
 oM 12 19]
def Z2.l0:Code:=.seq (.seq Z2.r3 (.cond 17 (.skip) (.exit 0))) (.seq (.block 1 (.seq Z2.r5 (.seq (.seq Z2.r6 (.cond 26 (.seq Z2.r7 Z2.r8) (.skip))) (.seq (.seq Z2.r9 (.cond 37 (.seq Z2.r10 Z2.r11) (.skip))) Z2.r12)))) Z2.r4)
def Z2.r13:List Oper:=[
 oM 54 11,
 oM 10 54]
def Z2.code:Code:=.seq Z2.r0 (.seq Z2.r1 (.seq (.seq Z2.r2 (.block 0 (.loop Z2.l0))) (.seq Z2.r13 (.ret))))
def Z2:Func:=⟨55,[.t 10],Z2.code⟩
/-! muntin/grid.Check -/
def ZO.r0:List Oper:=[
 oM 2 (cI 0)]
def ZO.r1:List Oper:=[
 oM 6 0,
 oD 7 (.len 6),
 oD 8 (.bin .gtr 7 (cI 4096))]
def ZO.r2:List Oper:=[
 oM 2 (cI 6)]
def ZO.r3:List Oper:=[
 oM 9 0,
 oD 10 (.len 9),
 oM 11 (cI 0)]
def ZO.r4:List Oper:=[
 oD 12 (.bin .lss 11 10)]
def ZO.r5:List Oper:=[
 oM 13 11,
 oM 3 13]
def ZO.r6:List Oper:=[
 oM 14 (cI 0)]
def ZO.r7:List Oper:=[
 oD 15 (.bin .lss 14 (cI 4))]
def ZO.r8:List Oper:=[
 oM 16 14,
 oM 4 16]
def ZO.r9:List Oper:=[
 oM 17 0,
 oM 18 3,
 oM 19 4,
 oC 20 82 [17,18,19],
 oM 5 20]
def ZO.r10:List Oper:=[
 oM 21 5,
 oD 22 (.eq true .sc 21 (cI 0))]
def ZO.r11:List Oper:=[
 oM 23 5,
 oM 2 23]
def ZO.r12:List Oper:=[
 oD 24 (.bin .add 14 (cI 1)),
 oM 14 24]
def ZO.l0:Code:=.seq ZO.r7 (.seq (.cond 15 (.skip) (.exit 2)) (.seq (.block 3 (.seq ZO.r8 (.seq ZO.r9 (.seq ZO.r10 (.cond 22 (.seq ZO.r11 (.ret)) (.skip)))))) ZO.r12))
def ZO.r13:List Oper:=[
 oD 25 (.bin .add 11 (cI 1)),
 oM 11 25]
def ZO.l1:Code:=.seq ZO.r4 (.seq (.cond 12 (.skip) (.exit 0)) (.seq (.block 1 (.seq ZO.r5 (.seq ZO.r6 (.block 2 (.loop ZO.l0))))) ZO.r13))
def ZO.r14:List Oper:=[
 oM 2 (cI 0)]
def ZO.code:Code:=.seq ZO.r0 (.seq (.seq ZO.r1 (.cond 8 (.seq ZO.r2 (.ret)) (.skip))) (.seq (.seq ZO.r3 (.block 0 (.loop ZO.l1))) (.seq ZO.r14 (.ret))))
def ZO:Func:=⟨26,[.t 2],ZO.code⟩
/-! muntin/join.spread -/
def ZB.r0:List Oper:=[
 oM 4 (.c (.sn)),
 oM 5 (.c (.sn))]
def ZB.r1:List Oper:=[
 oD 13 (.bsl 1 1 [.n 0] [(0,1,.c (.n (-1)))]),
 oM 14 0,
 oD 15 (.len 14),
 oC 16 83 [13,15],
 oD 17 (.bsl 1 1 [.n 0] [(0,1,.c (.n (-1)))]),
 oM 18 0,
 oD 19 (.len 18),
 oC 20 83 [17,19],
 oM 6 16,
 oM 7 20]
def ZB.r2:List Oper:=[
 oM 21 1,
 oD 22 (.bsl 1 1 [.n 0] [(0,1,.t 21)]),
 oM 8 22]
def ZB.r3:List Oper:=[
 oM 23 0,
 oD 24 (.len 23),
 oD 25 (.mks 1 1 [.b false] 24 24),
 oM 9 25]
def ZB.r4:List Oper:=[
 oM 26 9,
 oM 27 1,
 oD 28 (.ixa 1 26 27),
 oN (.st 1 28 (.c (.b true)))]
def ZB.r5:List Oper:=[
 oM 29 8,
 oD 30 (.len 29),
 oD 31 (.bin .gtr 30 (cI 0))]
def ZB.r6:List Oper:=[
 oM 32 8,
 oD 33 (.ixa 1 32 (cI 0)),
 oD 34 (.ld false 1 33),
 oM 10 34]
def ZB.r7:List Oper:=[
 oM 35 8,
 oD 36 (.slc 1 35 (some (cI 1)) none none),
 oM 8 36]
def ZB.r8:List Oper:=[
 oM 37 (cI 0)]
def ZB.r9:List Oper:=[
 oD 38 (.bin .lss 37 (cI 4))]
def ZB.r10:List Oper:=[
 oM 39 37,
 oM 11 39]
def ZB.r11:List Oper:=[
 oM 40 0,
 oM 41 10,
 oM 42 11,
 oD 43 (.ixa 8 40 41),
 oD 44 (.fa 0 43),
 oD 45 (.ixaa 1 4 44 42),
 oD 46 (.ld false 1 45),
 oM 12 46]
def ZB.r12:List Oper:=[
 oM 47 12,
 oD 48 (.bin .geq 47 (cI 0)),
 oM 49 48,
 oT 50 49 (.mv 9),
 oT 51 49 (.mv 12),
 oT 52 49 (.ixa 1 50 51),
 oT 53 49 (.ld false 1 52),
 oT 54 49 (.un .not 53),
 oD 55 (.pick 49 54 (.c (.b false)))]
def ZB.r13:List Oper:=[
 oM 56 9,
 oM 57 12,
 oM 58 6,
 oM 59 12,
 oM 60 7,
 oM 61 12,
 oM 62 10,
 oM 63 11,
 oD 64 (.ixa 1 56 57),
 oN (.st 1 64 (.c (.b true))),
 oD 65 (.ixa 1 58 59),
 oN (.st 1 65 62),
 oD 66 (.ixa 1 60 61),
 oN (.st 1 66 63)]
def ZB.r14:List Oper:=[
 oM 67 8,
 oM 68 12,
 oD 69 (.bsl 1 1 [.n 0] [(0,1,.t 68)]),
 oD 70 (.app 1 8 67 69),
 oM 8 70]
def ZB.r15:List Oper:=[
 oD 71 (.bin .add 37 (cI 1)),
 oM 37 71]
def ZB.l0:Code:=.seq ZB.r9 (.seq (.cond 38 (.skip) (.exit 2)) (.seq (.block 3 (.seq ZB.r10 (.seq ZB.r11 (.seq ZB.r12 (.cond 55 (.seq ZB.r13 ZB.r14) (.skip)))))) ZB.r15))
def ZB.l1:Code:=.seq (.seq ZB.r5 (.cond 31 (.skip) (.exit 0))) (.block 1 (.seq ZB.r6 (.seq ZB.r7 (.seq ZB.r8 (.block 2 (.loop ZB.l0))))))
def ZB.r16:List Oper:=[
 oM 72 6,
 oM 73 7,
 oM 4 72,
 oM 5 73]
def ZB.code:Code:=.seq ZB.r0 (.seq ZB.r1 (.seq ZB.r2 (.seq ZB.r3 (.seq ZB.r4 (.seq (.block 0 (.loop ZB.l1)) (.seq ZB.r16 (.ret)))))))
def ZB:Func:=⟨74,[.t 4,.t 5],ZB.code⟩
/-! muntin/compass.Left -/
def Zap.r0:List Oper:=[
 oM 4 (cI 0)]
def Zap.r1:List Oper:=[
 oM 5 0,
 oC 6 90 [5],
 oD 7 (.un .not 6)]
def Zap.r2:List Oper:=[
 oM 4 (cI 0)]
def Zap.r3:List Oper:=[
 oM 8 0,
 oM 9 1,
 oD 10 (.bin .rem 9 (cI 4)),
 oD 11 (.bin .add 8 10),
 oD 12 (.bin .add 11 (cI 4)),
 oD 13 (.bin .rem 12 (cI 4)),
 oM 4 13]
def Zap.code:Code:=.seq Zap.r0 (.seq (.seq Zap.r1 (.cond 7 (.seq Zap.r2 (.ret)) (.skip))) (.seq Zap.r3 (.ret)))
def Zap:Func:=⟨14,[.t 4],Zap.code⟩
/-! muntin/grid.side -/
def zt.r0:List Oper:=[
 oM 6 (cI 0)]
def zt.r1:List Oper:=[
 oM 10 0,
 oM 11 1,
 oM 12 2,
 oD 13 (.ixa 8 10 11),
 oD 14 (.fa 0 13),
 oD 15 (.ixaa 1 4 14 12),
 oD 16 (.ld false 1 15),
 oM 17 0,
 oM 18 1,
 oM 19 2,
 oD 20 (.ixa 8 17 18),
 oD 21 (.fa 4 20),
 oD 22 (.ixaa 1 4 21 19),
 oD 23 (.ld false 1 22),
 oM 7 16,
 oM 8 23]
def zt.r2:List Oper:=[
 oM 24 7,
 oD 25 (.eq false .sc 24 (cI (-1)))]
def zt.r3:List Oper:=[
 oM 26 8,
 oD 27 (.eq true .sc 26 (cI 0))]
def zt.r4:List Oper:=[
 oM 6 (cI 9)]
def zt.r5:List Oper:=[
 oM 6 (cI 0)]
def zt.r6:List Oper:=[
 oM 28 7,
 oD 29 (.bin .lss 28 (cI 0)),
 oM 30 29,
 oF 31 30 (.mv 7),
 oF 32 30 (.mv 0),
 oF 33 30 (.len 32),
 oF 34 30 (.bin .geq 31 33),
 oD 35 (.pick 30 (.c (.b true)) 34),
 oM 36 35,
 oF 37 36 (.mv 7),
 oF 38 36 (.mv 1),
 oF 39 36 (.eq false .sc 37 38),
 oD 40 (.pick 36 (.c (.b true)) 39)]
def zt.r7:List Oper:=[
 oM 6 (cI 3)]
def zt.r8:List Oper:=[
 oM 41 2,
 oC 42 77 [41,.c (.n 2)],
 oM 9 42]
def zt.r9:List Oper:=[
 oM 43 0,
 oM 44 7,
 oM 45 9,
 oD 46 (.ixa 8 43 44),
 oD 47 (.fa 0 46),
 oD 48 (.ixaa 1 4 47 45),
 oD 49 (.ld false 1 48),
 oM 50 1,
 oD 51 (.eq true .sc 49 50),
 oM 52 51,
 oF 53 52 (.mv 0),
 oF 54 52 (.mv 7),
 oF 55 52 (.mv 9),
 oF 56 52 (.ixa 8 53 54),
 oF 57 52 (.fa 4 56),
 oF 58 52 (.ixaa 1 4 57 55),
 oF 59 52 (.ld false 1 58),
 oF 60 52 (.mv 8),
 oF 61 52 (.eq true .sc 59 60),
 oD 62 (.pick 52 (.c (.b true)) 61),
 oM 63 62,
 oF 64 63 (.mv 8),
 oF 65 63 (.bin .lss 64 (cI (-2))),
 oD 66 (.pick 63 (.c (.b true)) 65)]
def zt.r10:List Oper:=[
 oM 6 (cI 9)]
def zt.r11:List Oper:=[
 oM 6 (cI 0)]
def zt.code:Code:=.seq zt.r0 (.seq (.draw zt.r1 [(6,13)]) (.seq (.seq zt.r2 (.cond 25 (.seq (.seq zt.r3 (.cond 27 (.seq zt.r4 (.ret)) (.skip))) (.seq zt.r5 (.ret))) (.skip))) (.seq (.seq zt.r6 (.cond 40 (.seq zt.r7 (.ret)) (.skip))) (.seq zt.r8 (.seq (.seq zt.r9 (.cond 66 (.seq zt.r10 (.ret)) (.skip))) (.seq zt.r11 (.ret)))))))
def zt:Func:=⟨67,[.t 6],zt.code⟩
/-! slices.Repeat[[]int,int] -/
def Z9.r0:List Oper:=[
 oM 4 (.c (.sn))]
def Z9.r1:List Oper:=[
 oM 9 1,
 oD 10 (.bin .lss 9 (cI 0))]
def Z9.r2:List Oper:=[
 oD 11 (.bad),
 oN (.bad)]
def Z9.r3:List Oper:=[
 oM 13 0,
 oD 14 (.len 13),
 oD 15 (.conv .u64 14),
 oM 16 1,
 oD 17 (.conv .u64 16),
 oC 18 89 [15,17],
 oM 12 18,
 oD 19 (.ext 12 0),
 oD 20 (.ext 12 1),
 oM 5 19,
 oM 6 20]
def Z9.r4:List Oper:=[
 oM 21 5,
 oD 22 (.bin .gtr 21 (.c (.i .u64 0))),
 oM 23 22,
 oF 24 23 (.mv 6),
 oF 25 23 (.bin .gtr 24 (.c (.i .u64 9223372036854775807))),
 oD 26 (.pick 23 (.c (.b true)) 25)]
def Z9.r5:List Oper:=[
 oD 27 (.bad),
 oN (.bad)]
def Z9.r6:List Oper:=[
 oM 28 6,
 oD 29 (.conv .i64 28),
 oD 30 (.mks 1 8 [.n 0] 29 29),
 oM 7 30]
def Z9.r7:List Oper:=[
 oM 31 7,
 oM 32 0,
 oD 33 (.cpy 1 31 32),
 oM 8 33]
def Z9.r8:List Oper:=[
 oM 34 8,
 oM 35 7,
 oD 36 (.len 35),
 oD 37 (.bin .lss 34 36)]
def Z9.r9:List Oper:=[
 oM 38 8,
 oM 39 7,
 oM 40 8,
 oD 41 (.slc 1 39 (some 40) none none),
 oM 42 7,
 oM 43 8,
 oD 44 (.slc 1 42 none (some 43) none),
 oD 45 (.cpy 1 41 44),
 oD 46 (.bin .add 38 45),
 oM 8 46]
def Z9.l0:Code:=.seq (.seq Z9.r8 (.cond 37 (.skip) (.exit 0))) (.block 1 (.draw Z9.r9 []))
def Z9.r10:List Oper:=[
 oM 47 7,
 oM 4 47]
def Z9.code:Code:=.seq Z9.r0 (.seq (.seq Z9.r1 (.cond 10 Z9.r2 (.skip))) (.seq Z9.r3 (.seq (.seq Z9.r4 (.cond 26 Z9.r5 (.skip))) (.seq Z9.r6 (.seq Z9.r7 (.seq (.block 0 (.loop Z9.l0)) (.seq Z9.r10 (.ret))))))))
def Z9:Func:=⟨48,[.t 4],Z9.code⟩
/-! math/bits.Mul -/
def ZaL.r0:List Oper:=[
 oM 4 (.c (.i .u64 0)),
 oM 5 (.c (.i .u64 0))]
def ZaL.r1:List Oper:=[
 oM 11 0,
 oD 12 (.conv .u32 11),
 oM 13 1,
 oD 14 (.conv .u32 13),
 oC 15 97 [12,14],
 oM 10 15,
 oD 16 (.ext 10 0),
 oD 17 (.ext 10 1),
 oM 6 16,
 oM 7 17]
def ZaL.r2:List Oper:=[
 oM 18 6,
 oD 19 (.conv .u64 18),
 oM 20 7,
 oD 21 (.conv .u64 20),
 oM 4 19,
 oM 5 21]
def ZaL.r3:List Oper:=[
 oM 23 0,
 oM 24 1,
 oC 25 98 [23,24],
 oM 22 25,
 oD 26 (.ext 22 0),
 oD 27 (.ext 22 1),
 oM 8 26,
 oM 9 27]
def ZaL.r4:List Oper:=[
 oM 28 8,
 oM 29 9,
 oM 4 28,
 oM 5 29]
def ZaL.code:Code:=.seq ZaL.r0 (.seq (.cond (.c (.b false)) (.seq ZaL.r1 (.seq ZaL.r2 (.ret))) (.skip)) (.seq ZaL.r3 (.seq ZaL.r4 (.ret))))
def ZaL:Func:=⟨30,[.t 4,.t 5],ZaL.code⟩
/-! muntin/compass.Good -/
def ZaQ.r0:List Oper:=[
 oM 2 (.c (.b false))]
def ZaQ.r1:List Oper:=[
 oM 3 0,
 oD 4 (.bin .geq 3 (cI 0)),
 oM 5 4,
 oT 6 5 (.mv 0),
 oT 7 5 (.bin .leq 6 (cI 3)),
 oD 8 (.pick 5 7 (.c (.b false))),
 oM 2 8]
def ZaQ.code:Code:=.seq ZaQ.r0 (.seq ZaQ.r1 (.ret))
def ZaQ:Func:=⟨9,[.t 2],ZaQ.code⟩
/-! math/bits.Mul32 -/
def ZaP.r0:List Oper:=[
 oM 4 (.c (.i .u32 0)),
 oM 5 (.c (.i .u32 0))]
def ZaP.r1:List Oper:=[
 oM 7 0,
 oD 8 (.conv .u64 7),
 oM 9 1,
 oD 10 (.conv .u64 9),
 oD 11 (.bin .mul 8 10),
 oM 6 11]
def ZaP.r2:List Oper:=[
 oM 12 6,
 oD 13 (.bin .shr 12 (.c (.i .u64 32))),
 oD 14 (.conv .u32 13),
 oM 15 6,
 oD 16 (.conv .u32 15),
 oM 4 14,
 oM 5 16]
def ZaP.code:Code:=.seq ZaP.r0 (.seq ZaP.r1 (.seq ZaP.r2 (.ret)))
def ZaP:Func:=⟨17,[.t 4,.t 5],ZaP.code⟩
/-! math/bits.Mul64 -/
def zk.r0:List Oper:=[
 oM 4 (.c (.i .u64 0)),
 oM 5 (.c (.i .u64 0))]
def zk.r1:List Oper:=[
 oM 14 0,
 oD 15 (.bin .and 14 (.c (.i .u64 4294967295))),
 oM 6 15]
def zk.r2:List Oper:=[
 oM 16 0,
 oD 17 (.bin .shr 16 (.c (.i .u64 32))),
 oM 7 17]
def zk.r3:List Oper:=[
 oM 18 1,
 oD 19 (.bin .and 18 (.c (.i .u64 4294967295))),
 oM 8 19]
def zk.r4:List Oper:=[
 oM 20 1,
 oD 21 (.bin .shr 20 (.c (.i .u64 32))),
 oM 9 21]
def zk.r5:List Oper:=[
 oM 22 6,
 oM 23 8,
 oD 24 (.bin .mul 22 23),
 oM 10 24]
def zk.r6:List Oper:=[
 oM 25 7,
 oM 26 8,
 oD 27 (.bin .mul 25 26),
 oM 28 10,
 oD 29 (.bin .shr 28 (.c (.i .u64 32))),
 oD 30 (.bin .add 27 29),
 oM 11 30]
def zk.r7:List Oper:=[
 oM 31 11,
 oD 32 (.bin .and 31 (.c (.i .u64 4294967295))),
 oM 12 32]
def zk.r8:List Oper:=[
 oM 33 11,
 oD 34 (.bin .shr 33 (.c (.i .u64 32))),
 oM 13 34]
def zk.r9:List Oper:=[
 oM 35 12,
 oM 36 6,
 oM 37 9,
 oD 38 (.bin .mul 36 37),
 oD 39 (.bin .add 35 38),
 oM 12 39]
def zk.r10:List Oper:=[
 oM 40 7,
 oM 41 9,
 oD 42 (.bin .mul 40 41),
 oM 43 13,
 oD 44 (.bin .add 42 43),
 oM 45 12,
 oD 46 (.bin .shr 45 (.c (.i .u64 32))),
 oD 47 (.bin .add 44 46),
 oM 4 47]
def zk.r11:List Oper:=[
 oM 48 0,
 oM 49 1,
 oD 50 (.bin .mul 48 49),
 oM 5 50]
def zk.code:Code:=.seq zk.r0 (.seq zk.r1 (.seq zk.r2 (.seq zk.r3 (.seq zk.r4 (.seq zk.r5 (.seq zk.r6 (.seq zk.r7 (.seq zk.r8 (.seq zk.r9 (.seq zk.r10 (.seq zk.r11 (.ret))))))))))))
def zk:Func:=⟨51,[.t 4,.t 5],zk.code⟩
/-! muntin/muntinref10.Turned -/
def Zw.r0:List Oper:=[
 oM 2 (.c (.sn))]
def Zw.r1:List Oper:=[
 oM 3 (.c (.sn))]
def Zw.r2:List Oper:=[
 oM 4 (cI 0)]
def Zw.r3:List Oper:=[
 oM 7 4,
 oM 8 0,
 oD 9 (.len 8),
 oD 10 (.bin .lss 7 9)]
def Zw.r5:List Oper:=[
 oM 13 0,
 oM 14 4,
 oD 15 (.ixa 8 13 14),
 oD 16 (.ld true 8 15),
 oD 5 (.alloc [.n 0,.n 0,.n 0,.n 0,.n 0,.n 0,.n 0,.n 0]),
 oN (.st 8 5 16)]
def Zw.r6:List Oper:=[
 oM 6 (cI 0)]
def Zw.r7:List Oper:=[
 oM 17 6,
 oD 18 (.bin .lss 17 (cI 4))]
def Zw.r9:List Oper:=[
 oM 21 6,
 oD 22 (.bin .add 21 (cI 1)),
 oD 23 (.bin .rem 22 (cI 4)),
 oM 24 0,
 oM 25 4,
 oM 26 6,
 oD 27 (.ixa 8 24 25),
 oD 28 (.fa 0 27),
 oD 29 (.ixaa 1 4 28 26),
 oD 30 (.ld false 1 29),
 oD 31 (.fa 0 5),
 oD 32 (.ixaa 1 4 31 23),
 oN (.st 1 32 30)]
def Zw.r10:List Oper:=[
 oM 33 6,
 oD 34 (.bin .add 33 (cI 1)),
 oD 35 (.bin .rem 34 (cI 4)),
 oM 36 0,
 oM 37 4,
 oM 38 6,
 oD 39 (.ixa 8 36 37),
 oD 40 (.fa 4 39),
 oD 41 (.ixaa 1 4 40 38),
 oD 42 (.ld false 1 41),
 oD 43 (.fa 4 5),
 oD 44 (.ixaa 1 4 43 35),
 oN (.st 1 44 42)]
def Zw.r8:List Oper:=[
 oM 19 6,
 oD 20 (.bin .add 19 (cI 1)),
 oM 6 20]
def Zw.l0:Code:=.seq (.seq Zw.r7 (.cond 18 (.skip) (.exit 2))) (.seq (.block 3 (.seq Zw.r9 Zw.r10)) Zw.r8)
def Zw.r11:List Oper:=[
 oM 45 3,
 oD 46 (.ld true 8 5),
 oD 47 (.bsl 8 1 [.n 0,.n 0,.n 0,.n 0,.n 0,.n 0,.n 0,.n 0] [(0,8,.t 46)]),
 oD 48 (.app 8 64 45 47),
 oM 3 48]
def Zw.r4:List Oper:=[
 oM 11 4,
 oD 12 (.bin .add 11 (cI 1)),
 oM 4 12]
def Zw.l1:Code:=.seq (.seq Zw.r3 (.cond 10 (.skip) (.exit 0))) (.seq (.block 1 (.seq Zw.r5 (.seq (.seq Zw.r6 (.block 2 (.loop Zw.l0))) Zw.r11))) Zw.r4)
def Zw.r12:List Oper:=[
 oM 49 3,
 oM 2 49]
def Zw.code:Code:=.seq Zw.r0 (.seq Zw.r1 (.seq (.seq Zw.r2 (.block 0 (.loop Zw.l1))) (.seq Zw.r12 (.ret))))
def Zw:Func:=⟨50,[.t 2],Zw.code⟩
/-! muntin/muntinref10.Edge -/
def ZR.r0:List Oper:=[
 oM 6 (cI 0),
 oM 7 (cI 0),
 oM 8 (.c (.b false))]
def ZR.r1:List Oper:=[
 oM 9 (cI 0)]
def ZR.r2:List Oper:=[
 oM 11 9,
 oM 12 0,
 oD 13 (.len 12),
 oD 14 (.bin .mul (cI 4) 13),
 oD 15 (.bin .lss 11 14)]
def ZR.r4:List Oper:=[
 oM 18 1,
 oM 19 0,
 oD 20 (.len 19),
 oD 21 (.mx [20,.c (.n 1)]),
 oD 22 (.bin .rem 18 21),
 oD 23 (.bin .mul (cI 4) 22),
 oM 24 2,
 oD 25 (.bin .rem 24 (cI 4)),
 oD 26 (.bin .add 23 25),
 oM 27 9,
 oD 28 (.bin .add 26 27),
 oM 29 0,
 oD 30 (.len 29),
 oD 31 (.bin .mul (cI 4) 30),
 oD 32 (.bin .rem 28 31),
 oM 10 32]
def ZR.r5:List Oper:=[
 oM 33 0,
 oM 34 10,
 oD 35 (.bin .quo 34 (cI 4)),
 oM 36 10,
 oD 37 (.bin .rem 36 (cI 4)),
 oD 38 (.ixa 8 33 35),
 oD 39 (.fa 0 38),
 oD 40 (.ixaa 1 4 39 37),
 oD 41 (.ld false 1 40),
 oD 42 (.bin .geq 41 (cI 0))]
def ZR.r6:List Oper:=[
 oM 43 10,
 oD 44 (.bin .quo 43 (cI 4)),
 oM 45 10,
 oD 46 (.bin .rem 45 (cI 4)),
 oM 6 44,
 oM 7 46,
 oM 8 (.c (.b true))]
def ZR.r3:List Oper:=[
 oM 16 9,
 oD 17 (.bin .add 16 (cI 1)),
 oM 9 17]
def ZR.l0:Code:=.seq (.seq ZR.r2 (.cond 15 (.skip) (.exit 0))) (.seq (.block 1 (.seq ZR.r4 (.seq ZR.r5 (.cond 42 (.seq ZR.r6 (.ret)) (.skip))))) ZR.r3)
def ZR.r7:List Oper:=[
 oM 6 (cI 0),
 oM 7 (cI 0),
 oM 8 (.c (.b false))]
def ZR.code:Code:=.seq ZR.r0 (.seq (.seq ZR.r1 (.block 0 (.loop ZR.l0))) (.seq ZR.r7 (.ret)))
def ZR:Func:=⟨47,[.t 6,.t 7,.t 8],ZR.code⟩
/-! muntin/muntinlaw14.ValidTurns -/
def Zi.r0:List Oper:=[
 oD 3 (.box 0),
 oD 4 (.box 1),
 oD 5 (.box 2),
 oM 6 (.c (.b false))]
def Zi.r1:List Oper:=[
 oD 21 (.ld true 3 3),
 oC 22 28 [21,.c (.n 16)],
 oM 20 22,
 oD 23 (.ext 20 0),
 oD 24 (.ext 20 1),
 oM 7 23,
 oM 8 24]
def Zi.r2:List Oper:=[
 oM 25 7,
 oD 26 (.bsl 1 1 [.sn] [(0,1,.t 25)]),
 oM 9 26]
def Zi.r3:List Oper:=[
 oD 27 (.ld true 3 4),
 oC 28 171 [27,.c (.n 6)],
 oD 10 (.alloc [.sn,.sn]),
 oN (.st 2 10 28)]
def Zi.r4:List Oper:=[
 oD 29 (.ld true 2 10),
 oC 30 174 [29],
 oD 31 (.eq false .sc 30 (cI 0))]
def Zi.r5:List Oper:=[
 oM 32 9,
 oD 33 (.ld true 2 10),
 oC 34 175 [33],
 oD 35 (.fld false 0 1 34),
 oD 36 (.bsl 1 1 [.sn] [(0,1,.t 35)]),
 oD 37 (.app 1 24 32 36),
 oM 9 37]
def Zi.r6:List Oper:=[
 oM 38 9,
 oD 39 (.len 38),
 oM 40 (cI 0)]
def Zi.r7:List Oper:=[
 oD 41 (.bin .lss 40 39)]
def Zi.r8:List Oper:=[
 oD 42 (.ixa 1 38 40),
 oD 43 (.ld false 1 42),
 oM 12 43]
def Zi.r9:List Oper:=[
 oM 44 12,
 oC 45 176 [44],
 oM 13 45]
def Zi.r10:List Oper:=[
 oM 46 12,
 oC 47 116 [46],
 oC 48 176 [47],
 oM 49 13,
 oD 50 (.eq true .sc 48 49)]
def Zi.r11:List Oper:=[
 oM 6 (.c (.b false))]
def Zi.r12:List Oper:=[
 oM 52 12,
 oD 53 (.ixaa 1 2 5 (cI 0)),
 oD 54 (.ld false 1 53),
 oD 55 (.conv .i64 54),
 oD 56 (.ixaa 1 2 5 (cI 1)),
 oD 57 (.ld false 1 56),
 oD 58 (.conv .i64 57),
 oC 59 117 [52,55,58],
 oM 51 59,
 oD 60 (.ext 51 0),
 oD 61 (.ext 51 1),
 oD 62 (.ext 51 2),
 oM 14 60,
 oM 15 61,
 oM 16 62]
def Zi.r13:List Oper:=[
 oM 63 16]
def Zi.r14:List Oper:=[
 oM 65 12,
 oM 66 14,
 oM 67 15,
 oC 68 49 [65,66,67],
 oM 64 68,
 oD 69 (.ext 64 0),
 oD 70 (.ext 64 1),
 oD 71 (.ext 64 2),
 oM 17 69,
 oM 18 70,
 oM 19 71]
def Zi.r15:List Oper:=[
 oM 72 17,
 oC 73 176 [72],
 oM 74 13,
 oD 75 (.eq true .sc 73 74)]
def Zi.r16:List Oper:=[
 oM 6 (.c (.b false))]
def Zi.r17:List Oper:=[
 oD 76 (.bin .add 40 (cI 1)),
 oM 40 76]
def Zi.l0:Code:=.seq Zi.r7 (.seq (.cond 41 (.skip) (.exit 0)) (.seq (.block 1 (.seq Zi.r8 (.seq Zi.r9 (.seq (.seq Zi.r10 (.cond 50 (.seq Zi.r11 (.ret)) (.skip))) (.seq Zi.r12 (.seq Zi.r13 (.cond 63 (.seq Zi.r14 (.seq Zi.r15 (.cond 75 (.seq Zi.r16 (.ret)) (.skip)))) (.skip)))))))) Zi.r17))
def Zi.r18:List Oper:=[
 oC 77 172 [],
 oM 6 77]
def Zi.code:Code:=.seq Zi.r0 (.seq Zi.r1 (.seq Zi.r2 (.seq (.seq Zi.r3 (.seq Zi.r4 (.cond 31 Zi.r5 (.skip)))) (.seq (.seq Zi.r6 (.block 0 (.loop Zi.l0))) (.seq Zi.r18 (.ret))))))
def Zi:Func:=⟨78,[.t 6],Zi.code⟩
/-! muntin/muntinref08.Make -/
def Zo.r0:List Oper:=[
 oD 2 (.box 0),
 oD 4 (.alloc [.sn,.sn])]
def Zo.r1:List Oper:=[
 oD 10 (.build [.sn,.sn] []),
 oD 5 (.alloc [.sn,.sn]),
 oN (.st 2 5 10)]
def Zo.r2:List Oper:=[
 oM 6 (cI 0)]
def Zo.r3:List Oper:=[
 oM 11 6,
 oD 12 (.fa 0 2),
 oD 13 (.ld false 1 12),
 oD 14 (.len 13),
 oD 15 (.bin .lss 11 14),
 oM 16 15,
 oT 17 16 (.mv 6),
 oT 18 16 (.mv 1),
 oT 19 16 (.bin .lss 17 18),
 oD 20 (.pick 16 19 (.c (.b false)))]
def Zo.r5:List Oper:=[
 oD 23 (.fa 0 5),
 oD 24 (.ld false 1 23),
 oD 25 (.fa 0 2),
 oD 26 (.ld false 1 25),
 oM 27 6,
 oD 28 (.ixa 1 26 27),
 oD 29 (.ld false 1 28),
 oD 30 (.bsl 1 1 [.b false] [(0,1,.t 29)]),
 oD 31 (.app 1 1 24 30),
 oD 32 (.fa 0 5),
 oN (.st 1 32 31)]
def Zo.r4:List Oper:=[
 oM 21 6,
 oD 22 (.bin .add 21 (cI 1)),
 oM 6 22]
def Zo.l0:Code:=.seq (.seq Zo.r3 (.cond 20 (.skip) (.exit 0))) (.seq (.block 1 (.draw Zo.r5 [(1,3),(1,6),(1,7)])) Zo.r4)
def Zo.r6:List Oper:=[
 oM 7 (cI 0)]
def Zo.r7:List Oper:=[
 oM 33 7,
 oD 34 (.fa 1 2),
 oD 35 (.ld false 1 34),
 oD 36 (.len 35),
 oD 37 (.bin .lss 33 36),
 oM 38 37,
 oT 39 38 (.mv 7),
 oT 40 38 (.mv 1),
 oT 41 38 (.bin .mul (cI 2) 40),
 oT 42 38 (.bin .lss 39 41),
 oD 43 (.pick 38 42 (.c (.b false))),
 oM 44 43,
 oT 45 44 (.fa 0 5),
 oT 46 44 (.ld false 1 45),
 oT 47 44 (.len 46),
 oT 48 44 (.bin .gtr 47 (cI 0)),
 oD 49 (.pick 44 48 (.c (.b false)))]
def Zo.r9:List Oper:=[
 oD 52 (.fa 1 2),
 oD 53 (.ld false 1 52),
 oM 54 7,
 oD 55 (.ixa 3 53 54),
 oD 56 (.ixaa 1 3 55 (cI 0)),
 oD 57 (.ld false 1 56),
 oD 58 (.conv .i64 57),
 oD 59 (.fa 0 5),
 oD 60 (.ld false 1 59),
 oD 61 (.len 60),
 oD 62 (.bin .rem 58 61),
 oD 63 (.fa 1 2),
 oD 64 (.ld false 1 63),
 oM 65 7,
 oD 66 (.ixa 3 64 65),
 oD 67 (.ixaa 1 3 66 (cI 1)),
 oD 68 (.ld false 1 67),
 oD 69 (.conv .i64 68),
 oD 70 (.fa 0 5),
 oD 71 (.ld false 1 70),
 oD 72 (.len 71),
 oD 73 (.bin .rem 69 72),
 oD 74 (.fa 1 2),
 oD 75 (.ld false 1 74),
 oM 76 7,
 oD 77 (.ixa 3 75 76),
 oD 78 (.ixaa 1 3 77 (cI 2)),
 oD 79 (.ld false 1 78),
 oD 80 (.conv .i64 79),
 oD 81 (.bin .rem 80 (cI 4)),
 oD 82 (.build [.n 0,.n 0,.n 0,.s ⟨#[]⟩] [(0,1,.t 62),(1,1,.t 73),(2,1,.t 81)]),
 oD 8 (.alloc [.n 0,.n 0,.n 0,.s ⟨#[]⟩]),
 oN (.st 4 8 82)]
def Zo.r10:List Oper:=[
 oM 83 7,
 oD 84 (.fa 2 2),
 oD 85 (.ld false 1 84),
 oD 86 (.len 85),
 oD 87 (.bin .lss 83 86)]
def Zo.r11:List Oper:=[
 oM 9 (cI 0)]
def Zo.r12:List Oper:=[
 oM 88 9,
 oD 89 (.fa 2 2),
 oD 90 (.ld false 1 89),
 oM 91 7,
 oD 92 (.ixa 1 90 91),
 oD 93 (.ld false 1 92),
 oD 94 (.conv .i64 93),
 oD 95 (.bin .rem 94 (cI 4)),
 oD 96 (.bin .lss 88 95)]
def Zo.r14:List Oper:=[
 oD 99 (.fa 2 2),
 oD 100 (.ld false 1 99),
 oM 101 7,
 oD 102 (.ixa 1 100 101),
 oD 103 (.ld false 1 102),
 oM 104 9,
 oD 105 (.bin .add (cI 2) 104),
 oD 106 (.bin .shr 103 105),
 oD 107 (.bin .and 106 (.c (.i .u8 1))),
 oD 108 (.eq false .sc 107 (.c (.i .u8 1)))]
def Zo.r15:List Oper:=[
 oD 109 (.fa 3 8),
 oD 110 (.ld false 1 109),
 oD 111 (.bin .add 110 (.c (.s ⟨#[76]⟩))),
 oD 112 (.fa 3 8),
 oN (.st 1 112 111)]
def Zo.r16:List Oper:=[
 oD 113 (.fa 3 8),
 oD 114 (.ld false 1 113),
 oD 115 (.bin .add 114 (.c (.s ⟨#[82]⟩))),
 oD 116 (.fa 3 8),
 oN (.st 1 116 115)]
def Zo.r13:List Oper:=[
 oM 97 9,
 oD 98 (.bin .add 97 (cI 1)),
 oM 9 98]
def Zo.l1:Code:=.seq (.seq Zo.r12 (.cond 96 (.skip) (.exit 4))) (.seq (.block 5 (.seq Zo.r14 (.cond 108 Zo.r15 Zo.r16))) Zo.r13)
def Zo.r17:List Oper:=[
 oD 117 (.fa 1 5),
 oD 118 (.ld false 1 117),
 oD 119 (.ld true 4 8),
 oD 120 (.bsl 4 1 [.n 0,.n 0,.n 0,.s ⟨#[]⟩] [(0,4,.t 119)]),
 oD 121 (.app 4 40 118 120),
 oD 122 (.fa 1 5),
 oN (.st 1 122 121)]
def Zo.r8:List Oper:=[
 oM 50 7,
 oD 51 (.bin .add 50 (cI 1)),
 oM 7 51]
def Zo.l2:Code:=.seq (.seq Zo.r7 (.cond 49 (.skip) (.exit 2))) (.seq (.block 3 (.seq (.draw Zo.r9 [(1,8),(5,8),(1,12),(5,12),(8,12),(1,16),(5,16),(8,16),(1,19),(5,19),(8,19),(12,19),(16,19),(1,23),(5,23),(8,23),(12,23),(16,23),(19,23),(1,27),(5,27),(8,27),(12,27),(16,27),(19,27),(1,31),(5,31),(8,31),(12,31),(16,31),(19,31),(23,31),(27,31)]) (.seq (.seq Zo.r10 (.cond 87 (.seq Zo.r11 (.block 4 (.loop Zo.l1))) (.skip))) Zo.r17))) Zo.r8)
def Zo.r18:List Oper:=[
 oD 123 (.ld true 2 5),
 oN (.st 2 4 123)]
def Zo.code:Code:=.seq Zo.r0 (.seq Zo.r1 (.seq (.seq Zo.r2 (.block 0 (.loop Zo.l0))) (.seq (.seq Zo.r6 (.block 2 (.loop Zo.l2))) (.seq Zo.r18 (.ret)))))
def Zo:Func:=⟨124,[.cell 4 true 2],Zo.code⟩
/-! muntin/muntinlaw14.wakes -/
def zC.r0:List Oper:=[
 oM 0 (.c (.b false))]
def zC.r1:List Oper:=[
 oC 6 196 [],
 oC 7 195 [6],
 oM 5 7,
 oD 8 (.ext 5 0),
 oD 9 (.ext 5 1),
 oM 1 8,
 oM 2 9]
def zC.r2:List Oper:=[
 oC 11 46 [.c (.n 1)],
 oC 12 195 [11],
 oM 10 12,
 oD 13 (.ext 10 0),
 oD 14 (.ext 10 1),
 oM 3 13,
 oM 4 14]
def zC.r3:List Oper:=[
 oC 15 196 [],
 oC 16 176 [15],
 oD 17 (.eq false .sc 16 (cI 0)),
 oM 18 17,
 oT 19 18 (.mv 1),
 oT 20 18 (.eq false .sc 19 (cI 1)),
 oD 21 (.pick 18 20 (.c (.b false))),
 oM 22 21,
 oT 23 22 (.mv 2),
 oT 24 22 (.eq false .sc 23 (cI 0)),
 oD 25 (.pick 22 24 (.c (.b false))),
 oM 26 25,
 oT 27 26 (.call (.c (.f 46 [])) [.c (.n 1)]),
 oT 28 26 (.call (.c (.f 176 [])) [27]),
 oT 29 26 (.eq false .sc 28 (cI 0)),
 oD 30 (.pick 26 29 (.c (.b false))),
 oM 31 30,
 oT 32 31 (.mv 4),
 oT 33 31 (.eq false .sc 32 (cI 2)),
 oD 34 (.pick 31 33 (.c (.b false))),
 oM 35 34,
 oT 36 35 (.call (.c (.f 46 [])) [.c (.n 2)]),
 oT 37 35 (.call (.c (.f 176 [])) [36]),
 oT 38 35 (.eq false .sc 37 (cI 13)),
 oD 39 (.pick 35 38 (.c (.b false))),
 oM 40 39,
 oT 41 40 (.call (.c (.f 176 [])) [.c (.sn)]),
 oT 42 40 (.eq false .sc 41 (cI 13)),
 oD 43 (.pick 40 42 (.c (.b false))),
 oM 0 43]
def zC.code:Code:=.seq zC.r0 (.seq zC.r1 (.seq zC.r2 (.seq zC.r3 (.ret))))
def zC:Func:=⟨44,[.t 0],zC.code⟩
/-! muntin/muntinref11.Wrong -/
def Zk.r0:List Oper:=[
 oD 1 (.box 0),
 oM 2 (cI 0)]
def Zk.r1:List Oper:=[
 oD 10 (.ld true 2 1),
 oC 11 197 [10],
 oM 3 11]
def Zk.r2:List Oper:=[
 oM 12 3,
 oD 13 (.eq true .sc 12 (cI 0))]
def Zk.r3:List Oper:=[
 oM 14 3,
 oM 2 14]
def Zk.r4:List Oper:=[
 oD 15 (.ld true 2 1),
 oC 16 198 [15],
 oM 4 16]
def Zk.r5:List Oper:=[
 oM 17 4,
 oD 18 (.bin .gtr 17 (cI 4096))]
def Zk.r6:List Oper:=[
 oM 2 (cI 6)]
def Zk.r7:List Oper:=[
 oM 5 (cI 0)]
def Zk.r8:List Oper:=[
 oM 19 5,
 oD 20 (.fa 0 1),
 oD 21 (.ld false 1 20),
 oD 22 (.len 21),
 oD 23 (.bin .lss 19 22)]
def Zk.r10:List Oper:=[
 oM 6 (cI 0)]
def Zk.r11:List Oper:=[
 oM 26 6,
 oD 27 (.bin .lss 26 (cI 4)),
 oM 28 27,
 oT 29 28 (.fa 0 1),
 oT 30 28 (.ld false 1 29),
 oT 31 28 (.mv 5),
 oT 32 28 (.ixa 1 30 31),
 oT 33 28 (.ld false 1 32),
 oT 34 28 (.un .not 33),
 oD 35 (.pick 28 34 (.c (.b false)))]
def Zk.r13:List Oper:=[
 oD 38 (.ld true 2 1),
 oM 39 5,
 oM 40 6,
 oC 41 199 [38,39,40],
 oM 7 41]
def Zk.r14:List Oper:=[
 oM 42 7,
 oD 43 (.len 42),
 oD 44 (.bin .gtr 43 (cI 1))]
def Zk.r15:List Oper:=[
 oM 2 (cI 8)]
def Zk.r12:List Oper:=[
 oM 36 6,
 oD 37 (.bin .add 36 (cI 1)),
 oM 6 37]
def Zk.l0:Code:=.seq (.seq Zk.r11 (.cond 35 (.skip) (.exit 2))) (.seq (.block 3 (.seq Zk.r13 (.seq Zk.r14 (.cond 44 (.seq Zk.r15 (.ret)) (.skip))))) Zk.r12)
def Zk.r9:List Oper:=[
 oM 24 5,
 oD 25 (.bin .add 24 (cI 1)),
 oM 5 25]
def Zk.l1:Code:=.seq (.seq Zk.r8 (.cond 23 (.skip) (.exit 0))) (.seq (.block 1 (.seq Zk.r10 (.block 2 (.loop Zk.l0)))) Zk.r9)
def Zk.r16:List Oper:=[
 oM 8 (cI 0)]
def Zk.r17:List Oper:=[
 oM 45 8,
 oD 46 (.fa 1 1),
 oD 47 (.ld false 1 46),
 oD 48 (.len 47),
 oD 49 (.bin .lss 45 48)]
def Zk.r19:List Oper:=[
 oD 52 (.fa 1 1),
 oD 53 (.ld false 1 52),
 oM 54 8,
 oD 55 (.ixa 4 53 54),
 oD 56 (.ld true 4 55),
 oD 9 (.alloc [.n 0,.n 0,.n 0,.s ⟨#[]⟩]),
 oN (.st 4 9 56)]
def Zk.r20:List Oper:=[
 oD 57 (.fa 0 9),
 oD 58 (.ld false 1 57),
 oD 59 (.fa 1 9),
 oD 60 (.ld false 1 59),
 oD 61 (.eq false .sc 58 60),
 oM 62 61,
 oT 63 62 (.fa 3 9),
 oT 64 62 (.ld false 1 63),
 oT 65 62 (.eq false .sc 64 (.c (.s ⟨#[]⟩))),
 oD 66 (.pick 62 65 (.c (.b false))),
 oM 67 66,
 oT 68 67 (.fa 0 1),
 oT 69 67 (.ld false 1 68),
 oT 70 67 (.fa 0 9),
 oT 71 67 (.ld false 1 70),
 oT 72 67 (.ixa 1 69 71),
 oT 73 67 (.ld false 1 72),
 oT 74 67 (.un .not 73),
 oD 75 (.pick 67 74 (.c (.b false)))]
def Zk.r21:List Oper:=[
 oM 2 (cI 10)]
def Zk.r18:List Oper:=[
 oM 50 8,
 oD 51 (.bin .add 50 (cI 1)),
 oM 8 51]
def Zk.l2:Code:=.seq (.seq Zk.r17 (.cond 49 (.skip) (.exit 4))) (.seq (.block 5 (.seq Zk.r19 (.seq Zk.r20 (.cond 75 (.seq Zk.r21 (.ret)) (.skip))))) Zk.r18)
def Zk.r22:List Oper:=[
 oM 2 (cI 0)]
def Zk.code:Code:=.seq Zk.r0 (.seq Zk.r1 (.seq (.seq Zk.r2 (.cond 13 (.seq Zk.r3 (.ret)) (.skip))) (.seq Zk.r4 (.seq (.seq Zk.r5 (.cond 18 (.seq Zk.r6 (.ret)) (.skip))) (.seq (.seq Zk.r7 (.block 0 (.loop Zk.l1))) (.seq (.seq Zk.r16 (.block 4 (.loop Zk.l2))) (.seq Zk.r22 (.ret))))))))
def Zk:Func:=⟨76,[.t 2],Zk.code⟩
/-! muntin/muntinref11.Of -/
def Ze.r0:List Oper:=[
 oD 1 (.box 0),
 oD 2 (.alloc [.sn,.sn,.sn,.sn])]
def Ze.r1:List Oper:=[
 oD 17 (.fa 1 1),
 oD 18 (.ld false 1 17),
 oD 19 (.len 18),
 oD 20 (.mks 2 16 [.n 0,.n 0] 19 19),
 oD 21 (.build [.sn,.sn,.sn,.sn] [(2,1,.t 20)]),
 oD 3 (.alloc [.sn,.sn,.sn,.sn]),
 oN (.st 4 3 21)]
def Ze.r2:List Oper:=[
 oM 4 (cI 0)]
def Ze.r3:List Oper:=[
 oM 22 4,
 oD 23 (.fa 0 1),
 oD 24 (.ld false 1 23),
 oD 25 (.len 24),
 oD 26 (.bin .lss 22 25)]
def Ze.r5:List Oper:=[
 oD 29 (.fa 0 3),
 oD 30 (.ld false 1 29),
 oD 31 (.len 30),
 oM 5 31]
def Ze.r6:List Oper:=[
 oD 32 (.fa 1 3),
 oD 33 (.ld false 1 32),
 oM 34 5,
 oD 35 (.bsl 1 1 [.n 0] [(0,1,.t 34)]),
 oD 36 (.app 1 8 33 35),
 oD 37 (.fa 1 3),
 oN (.st 1 37 36)]
def Ze.r7:List Oper:=[
 oD 38 (.fa 0 1),
 oD 39 (.ld false 1 38),
 oM 40 4,
 oD 41 (.ixa 1 39 40),
 oD 42 (.ld false 1 41)]
def Ze.r8:List Oper:=[
 oD 43 (.ld true 4 3),
 oD 44 (.ld true 2 1),
 oM 45 4,
 oC 46 200 [43,44,45],
 oN (.st 4 3 46)]
def Ze.r9:List Oper:=[
 oC 47 46 [.c (.n 1)],
 oM 6 47]
def Ze.r10:List Oper:=[
 oD 48 (.fa 0 3),
 oD 49 (.ld false 1 48),
 oM 50 6,
 oD 51 (.app 8 64 49 50),
 oD 52 (.fa 0 3),
 oN (.st 1 52 51)]
def Ze.r11:List Oper:=[
 oM 7 (cI 0)]
def Ze.r12:List Oper:=[
 oM 53 7,
 oD 54 (.bin .lss 53 (cI 4))]
def Ze.r14:List Oper:=[
 oD 57 (.ld true 2 1),
 oM 58 4,
 oM 59 7,
 oC 60 199 [57,58,59],
 oM 8 60]
def Ze.r15:List Oper:=[
 oM 9 (cI 0)]
def Ze.r16:List Oper:=[
 oM 61 9,
 oM 62 8,
 oD 63 (.len 62),
 oD 64 (.bin .lss 61 63)]
def Ze.r18:List Oper:=[
 oD 67 (.fa 2 3),
 oD 68 (.ld false 1 67),
 oM 69 8,
 oM 70 9,
 oD 71 (.ixa 1 69 70),
 oD 72 (.ld false 1 71),
 oD 73 (.bin .quo 72 (cI 2)),
 oM 74 8,
 oM 75 9,
 oD 76 (.ixa 1 74 75),
 oD 77 (.ld false 1 76),
 oD 78 (.bin .rem 77 (cI 2)),
 oM 79 5,
 oD 80 (.ixa 2 68 73),
 oD 81 (.ixaa 1 2 80 78),
 oN (.st 1 81 79)]
def Ze.r17:List Oper:=[
 oM 65 9,
 oD 66 (.bin .add 65 (cI 1)),
 oM 9 66]
def Ze.l0:Code:=.seq (.seq Ze.r16 (.cond 64 (.skip) (.exit 4))) (.seq (.block 5 (.draw Ze.r18 [(1,5),(1,10),(5,10)])) Ze.r17)
def Ze.r13:List Oper:=[
 oM 55 7,
 oD 56 (.bin .add 55 (cI 1)),
 oM 7 56]
def Ze.l1:Code:=.seq (.seq Ze.r12 (.cond 54 (.skip) (.exit 2))) (.seq (.block 3 (.seq Ze.r14 (.seq Ze.r15 (.block 4 (.loop Ze.l0))))) Ze.r13)
def Ze.r4:List Oper:=[
 oM 27 4,
 oD 28 (.bin .add 27 (cI 1)),
 oM 4 28]
def Ze.l2:Code:=.seq (.seq Ze.r3 (.cond 26 (.skip) (.exit 0))) (.seq (.block 1 (.seq Ze.r5 (.seq Ze.r6 (.seq (.seq Ze.r7 (.cond 42 (.seq Ze.r8 (.exit 1)) (.skip))) (.seq Ze.r9 (.seq Ze.r10 (.seq Ze.r11 (.block 2 (.loop Ze.l1))))))))) Ze.r4)
def Ze.r19:List Oper:=[
 oM 10 (cI 0)]
def Ze.r20:List Oper:=[
 oM 82 10,
 oD 83 (.fa 1 1),
 oD 84 (.ld false 1 83),
 oD 85 (.len 84),
 oD 86 (.bin .lss 82 85)]
def Ze.r22:List Oper:=[
 oD 89 (.fa 2 3),
 oD 90 (.ld false 1 89),
 oM 91 10,
 oD 92 (.ixa 2 90 91),
 oD 93 (.ixaa 1 2 92 (cI 0)),
 oD 94 (.ld false 1 93),
 oM 11 94]
def Ze.r23:List Oper:=[
 oD 95 (.fa 1 1),
 oD 96 (.ld false 1 95),
 oM 97 10,
 oD 98 (.ixa 4 96 97),
 oD 99 (.fa 2 98),
 oD 100 (.ld false 1 99),
 oM 12 100]
def Ze.r24:List Oper:=[
 oM 101 11,
 oD 102 (.bsl 1 1 [.n 0] [(0,1,.t 101)]),
 oM 13 102]
def Ze.r25:List Oper:=[
 oM 14 (cI 0)]
def Ze.r26:List Oper:=[
 oM 103 14,
 oD 104 (.fa 1 1),
 oD 105 (.ld false 1 104),
 oM 106 10,
 oD 107 (.ixa 4 105 106),
 oD 108 (.fa 3 107),
 oD 109 (.ld false 1 108),
 oD 110 (.slen 109),
 oD 111 (.bin .lss 103 110)]
def Ze.r28:List Oper:=[
 oD 114 (.fa 0 3),
 oD 115 (.ld false 1 114),
 oD 116 (.len 115),
 oM 15 116]
def Ze.r29:List Oper:=[
 oC 117 46 [.c (.n 1)],
 oM 16 117]
def Ze.r30:List Oper:=[
 oD 118 (.fa 0 3),
 oD 119 (.ld false 1 118),
 oM 120 16,
 oD 121 (.app 8 64 119 120),
 oD 122 (.fa 0 3),
 oN (.st 1 122 121)]
def Ze.r31:List Oper:=[
 oD 124 (.fa 0 3),
 oD 125 (.ld false 1 124),
 oM 126 11,
 oM 127 12,
 oM 128 15,
 oM 129 10,
 oC 130 53 [125,126,127,128,129],
 oM 123 130,
 oD 131 (.ext 123 0),
 oD 132 (.ext 123 1),
 oD 133 (.fa 0 3),
 oN (.st 1 133 131)]
def Ze.r32:List Oper:=[
 oM 134 15,
 oM 11 134]
def Ze.r33:List Oper:=[
 oM 135 13,
 oM 136 15,
 oD 137 (.bsl 1 1 [.n 0] [(0,1,.t 136)]),
 oD 138 (.app 1 8 135 137),
 oM 13 138]
def Ze.r34:List Oper:=[
 oD 139 (.fa 1 1),
 oD 140 (.ld false 1 139),
 oM 141 10,
 oD 142 (.ixa 4 140 141),
 oD 143 (.fa 3 142),
 oD 144 (.ld false 1 143),
 oM 145 14,
 oD 146 (.ixs 144 145),
 oD 147 (.eq false .sc 146 (.c (.i .u8 76)))]
def Ze.r35:List Oper:=[
 oM 148 12,
 oD 149 (.bin .add 148 (cI 1)),
 oD 150 (.bin .rem 149 (cI 4)),
 oM 12 150]
def Ze.r36:List Oper:=[
 oM 151 12,
 oD 152 (.bin .add 151 (cI 3)),
 oD 153 (.bin .rem 152 (cI 4)),
 oM 12 153]
def Ze.r27:List Oper:=[
 oM 112 14,
 oD 113 (.bin .add 112 (cI 1)),
 oM 14 113]
def Ze.l3:Code:=.seq (.seq Ze.r26 (.cond 111 (.skip) (.exit 8))) (.seq (.block 9 (.seq Ze.r28 (.seq Ze.r29 (.seq Ze.r30 (.seq Ze.r31 (.seq Ze.r32 (.seq Ze.r33 (.seq Ze.r34 (.cond 147 Ze.r35 Ze.r36))))))))) Ze.r27)
def Ze.r37:List Oper:=[
 oD 155 (.fa 0 3),
 oD 156 (.ld false 1 155),
 oM 157 11,
 oM 158 12,
 oD 159 (.fa 2 3),
 oD 160 (.ld false 1 159),
 oM 161 10,
 oD 162 (.ixa 2 160 161),
 oD 163 (.ixaa 1 2 162 (cI 1)),
 oD 164 (.ld false 1 163),
 oM 165 10,
 oC 166 53 [156,157,158,164,165],
 oM 154 166,
 oD 167 (.ext 154 0),
 oD 168 (.ext 154 1),
 oD 169 (.fa 0 3),
 oN (.st 1 169 167)]
def Ze.r38:List Oper:=[
 oM 170 13,
 oD 171 (.fa 2 3),
 oD 172 (.ld false 1 171),
 oM 173 10,
 oD 174 (.ixa 2 172 173),
 oD 175 (.ixaa 1 2 174 (cI 1)),
 oD 176 (.ld false 1 175),
 oD 177 (.bsl 1 1 [.n 0] [(0,1,.t 176)]),
 oD 178 (.app 1 8 170 177),
 oM 13 178]
def Ze.r39:List Oper:=[
 oD 179 (.fa 3 3),
 oD 180 (.ld false 1 179),
 oM 181 13,
 oD 182 (.bsl 1 1 [.sn] [(0,1,.t 181)]),
 oD 183 (.app 1 24 180 182),
 oD 184 (.fa 3 3),
 oN (.st 1 184 183)]
def Ze.r21:List Oper:=[
 oM 87 10,
 oD 88 (.bin .add 87 (cI 1)),
 oM 10 88]
def Ze.l4:Code:=.seq (.seq Ze.r20 (.cond 86 (.skip) (.exit 6))) (.seq (.block 7 (.seq Ze.r22 (.seq Ze.r23 (.seq Ze.r24 (.seq (.seq Ze.r25 (.block 8 (.loop Ze.l3))) (.seq (.draw Ze.r37 [(1,5),(1,9)]) (.seq Ze.r38 Ze.r39))))))) Ze.r21)
def Ze.r40:List Oper:=[
 oD 185 (.ld true 4 3),
 oN (.st 4 2 185)]
def Ze.code:Code:=.seq Ze.r0 (.seq Ze.r1 (.seq (.seq Ze.r2 (.block 0 (.loop Ze.l2))) (.seq (.seq Ze.r19 (.block 6 (.loop Ze.l4))) (.seq Ze.r40 (.ret)))))
def Ze:Func:=⟨186,[.cell 2 true 4],Ze.code⟩
/-! muntin/valid.Check -/
def zo.r0:List Oper:=[
 oM 2 (cI 0)]
def zo.r1:List Oper:=[
 oM 6 0,
 oC 7 66 [6],
 oM 3 7]
def zo.r2:List Oper:=[
 oM 8 3,
 oD 9 (.eq true .sc 8 (cI 0))]
def zo.r3:List Oper:=[
 oM 10 3,
 oM 2 10]
def zo.r4:List Oper:=[
 oM 11 0,
 oC 12 32 [11],
 oD 13 (.un .not 12)]
def zo.r5:List Oper:=[
 oM 2 (cI 13)]
def zo.r6:List Oper:=[
 oM 15 0,
 oC 16 201 [15],
 oM 14 16,
 oD 17 (.ext 14 0),
 oD 18 (.ext 14 1),
 oM 4 17,
 oM 5 18]
def zo.r7:List Oper:=[
 oM 19 5,
 oD 20 (.un .not 19),
 oM 21 20,
 oT 22 21 (.mv 0),
 oT 23 21 (.len 22),
 oT 24 21 (.bin .gtr 23 (cI 1)),
 oD 25 (.pick 21 24 (.c (.b false)))]
def zo.r8:List Oper:=[
 oM 2 (cI 10)]
def zo.r9:List Oper:=[
 oM 2 (cI 0)]
def zo.code:Code:=.seq zo.r0 (.seq (.seq zo.r1 (.seq zo.r2 (.cond 9 (.seq zo.r3 (.ret)) (.skip)))) (.seq (.seq zo.r4 (.cond 13 (.seq zo.r5 (.ret)) (.skip))) (.seq (.seq zo.r6 (.seq zo.r7 (.cond 25 (.seq zo.r8 (.ret)) (.skip)))) (.seq zo.r9 (.ret)))))
def zo:Func:=⟨26,[.t 2],zo.code⟩
/-! muntin/valid.Outer -/
def z8.r0:List Oper:=[
 oM 2 (cI 0),
 oM 3 (cI 0)]
def z8.r1:List Oper:=[
 oM 7 0,
 oC 8 176 [7],
 oM 4 8]
def z8.r2:List Oper:=[
 oM 9 4,
 oD 10 (.eq true .sc 9 (cI 0))]
def z8.r3:List Oper:=[
 oM 11 4,
 oM 2 (cI 0),
 oM 3 11]
def z8.r4:List Oper:=[
 oM 13 0,
 oC 14 201 [13],
 oM 12 14,
 oD 15 (.ext 12 0),
 oD 16 (.ext 12 1),
 oM 5 15,
 oM 6 16]
def z8.r5:List Oper:=[
 oM 17 6,
 oD 18 (.un .not 17)]
def z8.r6:List Oper:=[
 oM 2 (cI 0),
 oM 3 (cI 2)]
def z8.r7:List Oper:=[
 oM 19 5,
 oM 2 19,
 oM 3 (cI 0)]
def z8.code:Code:=.seq z8.r0 (.seq (.seq z8.r1 (.seq z8.r2 (.cond 10 (.seq z8.r3 (.ret)) (.skip)))) (.seq z8.r4 (.seq (.seq z8.r5 (.cond 18 (.seq z8.r6 (.ret)) (.skip))) (.seq z8.r7 (.ret)))))
def z8:Func:=⟨20,[.t 2,.t 3],z8.code⟩
/-! muntin/muntinlaw14.square -/
def ZX.r0:List Oper:=[
 oM 0 (.c (.sn))]
def ZX.r1:List Oper:=[
 oC 2 46 [.c (.n 4)],
 oM 1 2]
def ZX.r2:List Oper:=[
 oM 4 1,
 oC 5 53 [4,.c (.n 0),.c (.n 0),.c (.n 1),.c (.n 0)],
 oM 3 5,
 oD 6 (.ext 3 0),
 oD 7 (.ext 3 1),
 oM 1 6]
def ZX.r3:List Oper:=[
 oM 9 1,
 oC 10 53 [9,.c (.n 1),.c (.n 1),.c (.n 2),.c (.n 0)],
 oM 8 10,
 oD 11 (.ext 8 0),
 oD 12 (.ext 8 1),
 oM 1 11]
def ZX.r4:List Oper:=[
 oM 14 1,
 oC 15 53 [14,.c (.n 2),.c (.n 2),.c (.n 3),.c (.n 0)],
 oM 13 15,
 oD 16 (.ext 13 0),
 oD 17 (.ext 13 1),
 oM 1 16]
def ZX.r5:List Oper:=[
 oM 19 1,
 oC 20 53 [19,.c (.n 3),.c (.n 3),.c (.n 0),.c (.n 0)],
 oM 18 20,
 oD 21 (.ext 18 0),
 oD 22 (.ext 18 1),
 oM 1 21]
def ZX.r6:List Oper:=[
 oM 23 1,
 oM 0 23]
def ZX.code:Code:=.seq ZX.r0 (.seq ZX.r1 (.seq ZX.r2 (.seq ZX.r3 (.seq ZX.r4 (.seq ZX.r5 (.seq ZX.r6 (.ret)))))))
def ZX:Func:=⟨24,[.t 0],ZX.code⟩
/-! muntin/muntinref08.Check -/
def Zq.r0:List Oper:=[
 oD 1 (.box 0),
 oM 2 (cI 0)]
def Zq.r1:List Oper:=[
 oM 3 (cI 0)]
def Zq.r2:List Oper:=[
 oM 4 (cI 0)]
def Zq.r3:List Oper:=[
 oM 8 4,
 oD 9 (.fa 1 1),
 oD 10 (.ld false 1 9),
 oD 11 (.len 10),
 oD 12 (.bin .lss 8 11)]
def Zq.r5:List Oper:=[
 oM 15 3,
 oD 16 (.fa 1 1),
 oD 17 (.ld false 1 16),
 oM 18 4,
 oD 19 (.ixa 4 17 18),
 oD 20 (.fa 3 19),
 oD 21 (.ld false 1 20),
 oD 22 (.slen 21),
 oD 23 (.bin .add 15 22),
 oM 3 23]
def Zq.r4:List Oper:=[
 oM 13 4,
 oD 14 (.bin .add 13 (cI 1)),
 oM 4 14]
def Zq.l0:Code:=.seq (.seq Zq.r3 (.cond 12 (.skip) (.exit 0))) (.seq (.block 1 Zq.r5) Zq.r4)
def Zq.r6:List Oper:=[
 oD 24 (.fa 0 1),
 oD 25 (.ld false 1 24),
 oD 26 (.len 25),
 oD 27 (.bin .gtr 26 (cI 4096)),
 oM 28 27,
 oF 29 28 (.fa 1 1),
 oF 30 28 (.ld false 1 29),
 oF 31 28 (.len 30),
 oF 32 28 (.bin .gtr 31 (cI 4096)),
 oD 33 (.pick 28 (.c (.b true)) 32),
 oM 34 33,
 oF 35 34 (.mv 3),
 oF 36 34 (.bin .gtr 35 (cI 4096)),
 oD 37 (.pick 34 (.c (.b true)) 36)]
def Zq.r7:List Oper:=[
 oM 2 (cI 6)]
def Zq.r8:List Oper:=[
 oM 5 (cI 0)]
def Zq.r9:List Oper:=[
 oM 38 5,
 oD 39 (.fa 1 1),
 oD 40 (.ld false 1 39),
 oD 41 (.len 40),
 oD 42 (.bin .lss 38 41)]
def Zq.r11:List Oper:=[
 oD 45 (.fa 1 1),
 oD 46 (.ld false 1 45),
 oM 47 5,
 oD 48 (.ixa 4 46 47),
 oD 49 (.ld true 4 48),
 oD 6 (.alloc [.n 0,.n 0,.n 0,.s ⟨#[]⟩]),
 oN (.st 4 6 49)]
def Zq.r12:List Oper:=[
 oD 50 (.fa 0 6),
 oD 51 (.ld false 1 50),
 oD 52 (.bin .lss 51 (cI 0)),
 oM 53 52,
 oF 54 53 (.fa 0 6),
 oF 55 53 (.ld false 1 54),
 oF 56 53 (.fa 0 1),
 oF 57 53 (.ld false 1 56),
 oF 58 53 (.len 57),
 oF 59 53 (.bin .geq 55 58),
 oD 60 (.pick 53 (.c (.b true)) 59),
 oM 61 60,
 oF 62 61 (.fa 1 6),
 oF 63 61 (.ld false 1 62),
 oF 64 61 (.bin .lss 63 (cI 0)),
 oD 65 (.pick 61 (.c (.b true)) 64),
 oM 66 65,
 oF 67 66 (.fa 1 6),
 oF 68 66 (.ld false 1 67),
 oF 69 66 (.fa 0 1),
 oF 70 66 (.ld false 1 69),
 oF 71 66 (.len 70),
 oF 72 66 (.bin .geq 68 71),
 oD 73 (.pick 66 (.c (.b true)) 72)]
def Zq.r13:List Oper:=[
 oM 2 (cI 3)]
def Zq.r14:List Oper:=[
 oD 74 (.fa 3 6),
 oD 75 (.ld false 1 74),
 oC 76 217 [75],
 oM 7 76]
def Zq.r15:List Oper:=[
 oD 77 (.fa 2 6),
 oD 78 (.ld false 1 77),
 oD 79 (.bin .lss 78 (cI 0)),
 oM 80 79,
 oF 81 80 (.fa 2 6),
 oF 82 80 (.ld false 1 81),
 oF 83 80 (.bin .gtr 82 (cI 3)),
 oD 84 (.pick 80 (.c (.b true)) 83),
 oM 85 84,
 oF 86 85 (.mv 7),
 oF 87 85 (.un .not 86),
 oD 88 (.pick 85 (.c (.b true)) 87)]
def Zq.r16:List Oper:=[
 oM 2 (cI 2)]
def Zq.r10:List Oper:=[
 oM 43 5,
 oD 44 (.bin .add 43 (cI 1)),
 oM 5 44]
def Zq.l1:Code:=.seq (.seq Zq.r9 (.cond 42 (.skip) (.exit 2))) (.seq (.block 3 (.seq Zq.r11 (.seq (.seq Zq.r12 (.cond 73 (.seq Zq.r13 (.ret)) (.skip))) (.seq Zq.r14 (.seq Zq.r15 (.cond 88 (.seq Zq.r16 (.ret)) (.skip))))))) Zq.r10)
def Zq.r17:List Oper:=[
 oM 2 (cI 0)]
def Zq.code:Code:=.seq Zq.r0 (.seq Zq.r1 (.seq (.seq Zq.r2 (.block 0 (.loop Zq.l0))) (.seq (.seq Zq.r6 (.cond 37 (.seq Zq.r7 (.ret)) (.skip))) (.seq (.seq Zq.r8 (.block 2 (.loop Zq.l1))) (.seq Zq.r17 (.ret))))))
def Zq:Func:=⟨89,[.t 2],Zq.code⟩
/-! muntin/muntinref11.Count -/
def Zm.r0:List Oper:=[
 oD 1 (.box 0),
 oM 2 (cI 0)]
def Zm.r1:List Oper:=[
 oM 3 (cI 0)]
def Zm.r2:List Oper:=[
 oM 4 (cI 0)]
def Zm.r3:List Oper:=[
 oM 8 4,
 oD 9 (.fa 0 1),
 oD 10 (.ld false 1 9),
 oD 11 (.len 10),
 oD 12 (.bin .lss 8 11)]
def Zm.r5:List Oper:=[
 oM 15 3,
 oD 16 (.bin .add 15 (cI 1)),
 oM 3 16]
def Zm.r6:List Oper:=[
 oM 5 (cI 0)]
def Zm.r7:List Oper:=[
 oM 17 5,
 oD 18 (.bin .lss 17 (cI 4)),
 oM 19 18,
 oT 20 19 (.fa 0 1),
 oT 21 19 (.ld false 1 20),
 oT 22 19 (.mv 4),
 oT 23 19 (.ixa 1 21 22),
 oT 24 19 (.ld false 1 23),
 oD 25 (.pick 19 24 (.c (.b false)))]
def Zm.r9:List Oper:=[
 oD 28 (.ld true 2 1),
 oM 29 4,
 oM 30 5,
 oC 31 199 [28,29,30],
 oM 6 31]
def Zm.r10:List Oper:=[
 oM 32 3,
 oM 33 6,
 oD 34 (.len 33),
 oD 35 (.bin .add 32 34),
 oM 3 35]
def Zm.r8:List Oper:=[
 oM 26 5,
 oD 27 (.bin .add 26 (cI 1)),
 oM 5 27]
def Zm.l0:Code:=.seq (.seq Zm.r7 (.cond 25 (.skip) (.exit 2))) (.seq (.block 3 (.seq Zm.r9 Zm.r10)) Zm.r8)
def Zm.r11:List Oper:=[
 oD 36 (.fa 0 1),
 oD 37 (.ld false 1 36),
 oM 38 4,
 oD 39 (.ixa 1 37 38),
 oD 40 (.ld false 1 39)]
def Zm.r12:List Oper:=[
 oM 41 3,
 oD 42 (.bin .add 41 (cI 3)),
 oM 3 42]
def Zm.r4:List Oper:=[
 oM 13 4,
 oD 14 (.bin .add 13 (cI 1)),
 oM 4 14]
def Zm.l1:Code:=.seq (.seq Zm.r3 (.cond 12 (.skip) (.exit 0))) (.seq (.block 1 (.seq Zm.r5 (.seq (.seq Zm.r6 (.block 2 (.loop Zm.l0))) (.seq Zm.r11 (.cond 40 Zm.r12 (.skip)))))) Zm.r4)
def Zm.r13:List Oper:=[
 oM 7 (cI 0)]
def Zm.r14:List Oper:=[
 oM 43 7,
 oD 44 (.fa 1 1),
 oD 45 (.ld false 1 44),
 oD 46 (.len 45),
 oD 47 (.bin .lss 43 46)]
def Zm.r16:List Oper:=[
 oM 50 3,
 oD 51 (.fa 1 1),
 oD 52 (.ld false 1 51),
 oM 53 7,
 oD 54 (.ixa 4 52 53),
 oD 55 (.fa 3 54),
 oD 56 (.ld false 1 55),
 oD 57 (.slen 56),
 oD 58 (.bin .add 50 57),
 oM 3 58]
def Zm.r15:List Oper:=[
 oM 48 7,
 oD 49 (.bin .add 48 (cI 1)),
 oM 7 49]
def Zm.l2:Code:=.seq (.seq Zm.r14 (.cond 47 (.skip) (.exit 4))) (.seq (.block 5 Zm.r16) Zm.r15)
def Zm.r17:List Oper:=[
 oM 59 3,
 oM 2 59]
def Zm.code:Code:=.seq Zm.r0 (.seq Zm.r1 (.seq (.seq Zm.r2 (.block 0 (.loop Zm.l1))) (.seq (.seq Zm.r13 (.block 4 (.loop Zm.l2))) (.seq Zm.r17 (.ret)))))
def Zm:Func:=⟨60,[.t 2],Zm.code⟩
/-! muntin/muntinref11.On -/
def ZI.r0:List Oper:=[
 oD 3 (.box 0),
 oM 6 (.c (.sn))]
def ZI.r1:List Oper:=[
 oM 7 (.c (.sn))]
def ZI.r2:List Oper:=[
 oM 8 (cI 0)]
def ZI.r3:List Oper:=[
 oM 11 8,
 oD 12 (.fa 1 3),
 oD 13 (.ld false 1 12),
 oD 14 (.len 13),
 oD 15 (.bin .lss 11 14)]
def ZI.r5:List Oper:=[
 oD 18 (.fa 1 3),
 oD 19 (.ld false 1 18),
 oM 20 8,
 oD 21 (.ixa 4 19 20),
 oD 22 (.ld true 4 21),
 oD 9 (.alloc [.n 0,.n 0,.n 0,.s ⟨#[]⟩]),
 oN (.st 4 9 22)]
def ZI.r6:List Oper:=[
 oD 23 (.fa 0 9),
 oD 24 (.ld false 1 23),
 oM 25 1,
 oD 26 (.eq false .sc 24 25),
 oM 27 26,
 oT 28 27 (.fa 2 9),
 oT 29 27 (.ld false 1 28),
 oT 30 27 (.mv 2),
 oT 31 27 (.eq false .sc 29 30),
 oD 32 (.pick 27 31 (.c (.b false)))]
def ZI.r7:List Oper:=[
 oM 33 7,
 oM 34 8,
 oD 35 (.bin .mul (cI 2) 34),
 oD 36 (.bsl 1 1 [.n 0] [(0,1,.t 35)]),
 oD 37 (.app 1 8 33 36),
 oM 7 37]
def ZI.r8:List Oper:=[
 oD 38 (.ld true 4 9),
 oC 39 218 [38],
 oM 10 39]
def ZI.r9:List Oper:=[
 oD 40 (.fa 1 9),
 oD 41 (.ld false 1 40),
 oM 42 1,
 oD 43 (.eq false .sc 41 42),
 oM 44 43,
 oT 45 44 (.mv 10),
 oT 46 44 (.mv 2),
 oT 47 44 (.eq false .sc 45 46),
 oD 48 (.pick 44 47 (.c (.b false)))]
def ZI.r10:List Oper:=[
 oM 49 7,
 oM 50 8,
 oD 51 (.bin .mul (cI 2) 50),
 oD 52 (.bin .add 51 (cI 1)),
 oD 53 (.bsl 1 1 [.n 0] [(0,1,.t 52)]),
 oD 54 (.app 1 8 49 53),
 oM 7 54]
def ZI.r4:List Oper:=[
 oM 16 8,
 oD 17 (.bin .add 16 (cI 1)),
 oM 8 17]
def ZI.l0:Code:=.seq (.seq ZI.r3 (.cond 15 (.skip) (.exit 0))) (.seq (.block 1 (.seq ZI.r5 (.seq (.seq ZI.r6 (.cond 32 ZI.r7 (.skip))) (.seq ZI.r8 (.seq ZI.r9 (.cond 48 ZI.r10 (.skip))))))) ZI.r4)
def ZI.r11:List Oper:=[
 oM 55 7,
 oM 6 55]
def ZI.code:Code:=.seq ZI.r0 (.seq ZI.r1 (.seq (.seq ZI.r2 (.block 0 (.loop ZI.l0))) (.seq ZI.r11 (.ret))))
def ZI:Func:=⟨56,[.t 6],ZI.code⟩
/-! muntin/muntinref11.box -/
def Zn.r0:List Oper:=[
 oD 3 (.box 0),
 oD 4 (.box 1),
 oD 6 (.alloc [.sn,.sn,.sn,.sn])]
def Zn.r1:List Oper:=[
 oD 17 (.fa 0 3),
 oD 18 (.ld false 1 17),
 oD 19 (.len 18),
 oM 7 19]
def Zn.r2:List Oper:=[
 oC 20 46 [.c (.n 4)],
 oM 8 20]
def Zn.r3:List Oper:=[
 oD 21 (.fa 0 3),
 oD 22 (.ld false 1 21),
 oM 23 8,
 oD 24 (.app 8 64 22 23),
 oD 25 (.fa 0 3),
 oN (.st 1 25 24)]
def Zn.r4:List Oper:=[
 oM 9 (cI 0)]
def Zn.r5:List Oper:=[
 oM 26 9,
 oD 27 (.bin .lss 26 (cI 4))]
def Zn.r7:List Oper:=[
 oM 30 7,
 oD 31 (.bin .add 30 (cI 1)),
 oM 32 7,
 oD 33 (.bin .add 32 (cI 3)),
 oM 34 7,
 oM 35 7,
 oD 36 (.bsl 1 4 [.n 0] [(0,1,.t 31),(1,1,.t 33),(2,1,.t 34),(3,1,.t 35)]),
 oM 37 9,
 oD 38 (.ixa 1 36 37),
 oD 39 (.ld false 1 38),
 oM 10 39]
def Zn.r8:List Oper:=[
 oM 40 7,
 oD 41 (.bin .add 40 (cI 2)),
 oM 42 7,
 oD 43 (.bin .add 42 (cI 2)),
 oM 44 7,
 oD 45 (.bin .add 44 (cI 3)),
 oM 46 7,
 oD 47 (.bin .add 46 (cI 1)),
 oD 48 (.bsl 1 4 [.n 0] [(0,1,.t 41),(1,1,.t 43),(2,1,.t 45),(3,1,.t 47)]),
 oM 49 9,
 oD 50 (.ixa 1 48 49),
 oD 51 (.ld false 1 50),
 oM 11 51]
def Zn.r9:List Oper:=[
 oD 52 (.bsl 1 4 [.n 0] [(0,1,.c (.n 1)),(1,1,.c (.n 0)),(2,1,.c (.n 1)),(3,1,.c (.n 0))]),
 oM 53 9,
 oD 54 (.ixa 1 52 53),
 oD 55 (.ld false 1 54),
 oM 12 55]
def Zn.r10:List Oper:=[
 oD 56 (.ld true 2 4),
 oM 57 2,
 oM 58 9,
 oC 59 199 [56,57,58],
 oM 13 59]
def Zn.r11:List Oper:=[
 oM 14 (cI 0)]
def Zn.r12:List Oper:=[
 oM 60 14,
 oM 61 13,
 oD 62 (.len 61),
 oD 63 (.bin .lss 60 62)]
def Zn.r14:List Oper:=[
 oD 66 (.fa 0 3),
 oD 67 (.ld false 1 66),
 oD 68 (.len 67),
 oM 15 68]
def Zn.r15:List Oper:=[
 oC 69 46 [.c (.n 1)],
 oM 16 69]
def Zn.r16:List Oper:=[
 oD 70 (.fa 0 3),
 oD 71 (.ld false 1 70),
 oM 72 16,
 oD 73 (.app 8 64 71 72),
 oD 74 (.fa 0 3),
 oN (.st 1 74 73)]
def Zn.r17:List Oper:=[
 oD 75 (.fa 2 3),
 oD 76 (.ld false 1 75),
 oM 77 13,
 oM 78 14,
 oD 79 (.ixa 1 77 78),
 oD 80 (.ld false 1 79),
 oD 81 (.bin .quo 80 (cI 2)),
 oM 82 13,
 oM 83 14,
 oD 84 (.ixa 1 82 83),
 oD 85 (.ld false 1 84),
 oD 86 (.bin .rem 85 (cI 2)),
 oM 87 15,
 oD 88 (.ixa 2 76 81),
 oD 89 (.ixaa 1 2 88 86),
 oN (.st 1 89 87)]
def Zn.r18:List Oper:=[
 oD 91 (.fa 0 3),
 oD 92 (.ld false 1 91),
 oM 93 10,
 oM 94 12,
 oM 95 15,
 oC 96 53 [92,93,94,95,.c (.n (-1))],
 oM 90 96,
 oD 97 (.ext 90 0),
 oD 98 (.ext 90 1),
 oD 99 (.fa 0 3),
 oN (.st 1 99 97)]
def Zn.r19:List Oper:=[
 oM 100 15,
 oM 10 100]
def Zn.r13:List Oper:=[
 oM 64 14,
 oD 65 (.bin .add 64 (cI 1)),
 oM 14 65]
def Zn.l0:Code:=.seq (.seq Zn.r12 (.cond 63 (.skip) (.exit 2))) (.seq (.block 3 (.seq Zn.r14 (.seq Zn.r15 (.seq Zn.r16 (.seq (.draw Zn.r17 [(1,5),(1,10),(5,10)]) (.seq Zn.r18 Zn.r19)))))) Zn.r13)
def Zn.r20:List Oper:=[
 oD 102 (.fa 0 3),
 oD 103 (.ld false 1 102),
 oM 104 10,
 oM 105 12,
 oM 106 11,
 oC 107 53 [103,104,105,106,.c (.n (-1))],
 oM 101 107,
 oD 108 (.ext 101 0),
 oD 109 (.ext 101 1),
 oD 110 (.fa 0 3),
 oN (.st 1 110 108)]
def Zn.r6:List Oper:=[
 oM 28 9,
 oD 29 (.bin .add 28 (cI 1)),
 oM 9 29]
def Zn.l1:Code:=.seq (.seq Zn.r5 (.cond 27 (.skip) (.exit 0))) (.seq (.block 1 (.seq Zn.r7 (.seq Zn.r8 (.seq Zn.r9 (.seq Zn.r10 (.seq (.seq Zn.r11 (.block 2 (.loop Zn.l0))) Zn.r20)))))) Zn.r6)
def Zn.r21:List Oper:=[
 oD 111 (.ld true 4 3),
 oN (.st 4 6 111)]
def Zn.code:Code:=.seq Zn.r0 (.seq Zn.r1 (.seq Zn.r2 (.seq Zn.r3 (.seq (.seq Zn.r4 (.block 0 (.loop Zn.l1))) (.seq Zn.r21 (.ret))))))
def Zn:Func:=⟨112,[.cell 6 true 4],Zn.code⟩
/-! muntin/valid.outer -/
def ZL.r0:List Oper:=[
 oM 2 (cI 0),
 oM 3 (.c (.b false))]
def ZL.r1:List Oper:=[
 oM 10 0,
 oC 11 203 [10],
 oM 9 11,
 oD 12 (.ext 9 0),
 oD 13 (.ext 9 1),
 oM 4 12,
 oM 5 13]
def ZL.r2:List Oper:=[
 oM 6 (cI (-1))]
def ZL.r3:List Oper:=[
 oM 14 4,
 oD 15 (.len 14),
 oM 16 (cI 0)]
def ZL.r4:List Oper:=[
 oD 17 (.bin .lss 16 15)]
def ZL.r5:List Oper:=[
 oM 18 16,
 oD 19 (.ixa 1 14 16),
 oD 20 (.ld false 1 19),
 oM 7 18,
 oM 8 20]
def ZL.r6:List Oper:=[
 oM 21 0,
 oM 22 8,
 oC 23 204 [21,22],
 oC 24 219 [23]]
def ZL.r8:List Oper:=[
 oD 26 (.eq false .sc 24 (cI 4)),
 oM 25 26]
def ZL.r9:List Oper:=[
 oD 28 (.eq false .sc 24 (cI (-4))),
 oM 27 28]
def ZL.r10:List Oper:=[
 oM 29 6,
 oD 30 (.bin .geq 29 (cI 0))]
def ZL.r11:List Oper:=[
 oM 2 (cI 0),
 oM 3 (.c (.b false))]
def ZL.r12:List Oper:=[
 oM 31 7,
 oM 6 31]
def ZL.r7:List Oper:=[
 oM 2 (cI 0),
 oM 3 (.c (.b false))]
def ZL.r13:List Oper:=[
 oD 32 (.bin .add 16 (cI 1)),
 oM 16 32]
def ZL.l0:Code:=.seq ZL.r4 (.seq (.cond 17 (.skip) (.exit 0)) (.seq (.block 1 (.seq ZL.r5 (.seq ZL.r6 (.block 2 (.seq ZL.r8 (.cond 25 (.skip) (.seq ZL.r9 (.cond 27 (.seq (.seq ZL.r10 (.cond 30 (.seq ZL.r11 (.ret)) (.skip))) ZL.r12) (.seq ZL.r7 (.ret)))))))))) ZL.r13))
def ZL.r14:List Oper:=[
 oM 33 6,
 oM 34 6,
 oD 35 (.bin .geq 34 (cI 0)),
 oM 2 33,
 oM 3 35]
def ZL.code:Code:=.seq ZL.r0 (.seq ZL.r1 (.seq ZL.r2 (.seq (.seq ZL.r3 (.block 0 (.loop ZL.l0))) (.seq ZL.r14 (.ret)))))
def ZL:Func:=⟨36,[.t 2,.t 3],ZL.code⟩
/-! muntin/face.Faces -/
def Zx.r0:List Oper:=[
 oM 2 (.c (.sn)),
 oM 3 (cI 0)]
def Zx.r1:List Oper:=[
 oM 12 0,
 oC 13 66 [12],
 oM 4 13]
def Zx.r2:List Oper:=[
 oM 14 4,
 oD 15 (.eq true .sc 14 (cI 0))]
def Zx.r3:List Oper:=[
 oM 16 4,
 oM 2 (.c (.sn)),
 oM 3 16]
def Zx.r4:List Oper:=[
 oM 5 (.c (.sn))]
def Zx.r5:List Oper:=[
 oD 17 (.mkm),
 oM 6 17]
def Zx.r6:List Oper:=[
 oM 18 0,
 oD 19 (.len 18),
 oM 20 (cI 0)]
def Zx.r7:List Oper:=[
 oD 21 (.bin .lss 20 19)]
def Zx.r8:List Oper:=[
 oM 22 20,
 oM 7 22]
def Zx.r9:List Oper:=[
 oM 23 (cI 0)]
def Zx.r10:List Oper:=[
 oD 24 (.bin .lss 23 (cI 4))]
def Zx.r11:List Oper:=[
 oM 25 23,
 oM 8 25]
def Zx.r12:List Oper:=[
 oM 26 7,
 oM 27 8,
 oD 28 (.build [.n 0,.n 0] [(0,1,.t 26),(1,1,.t 27)]),
 oD 9 (.alloc [.n 0,.n 0]),
 oN (.st 2 9 28)]
def Zx.r13:List Oper:=[
 oD 29 (.ld true 2 9),
 oM 30 0,
 oC 31 220 [29,30],
 oD 32 (.un .not 31),
 oM 33 32,
 oF 34 33 (.mv 6),
 oF 35 33 (.ld true 2 9),
 oF 36 33 (.mlk [.i,.i] false (.b false) 34 35),
 oD 37 (.pick 33 (.c (.b true)) 36)]
def Zx.r14:List Oper:=[
 oM 10 (.c (.sn))]
def Zx.r15:List Oper:=[
 oD 38 (.ld true 2 9),
 oD 11 (.alloc [.n 0,.n 0]),
 oN (.st 2 11 38)]
def Zx.r16:List Oper:=[
 oM 39 6,
 oD 40 (.ld true 2 11),
 oD 41 (.mlk [.i,.i] false (.b false) 39 40),
 oD 42 (.un .not 41)]
def Zx.r18:List Oper:=[
 oM 46 6,
 oD 47 (.ld true 2 11),
 oN (.mup [.i,.i] 46 47 (.c (.b true)))]
def Zx.r19:List Oper:=[
 oM 48 10,
 oD 49 (.ld true 2 11),
 oD 50 (.bsl 2 1 [.n 0,.n 0] [(0,2,.t 49)]),
 oD 51 (.app 2 16 48 50),
 oM 10 51]
def Zx.r20:List Oper:=[
 oD 52 (.ld true 2 11)]
def Zx.r21:List Oper:=[
 oD 11 (.alloc [.n 0,.n 0]),
 oN (.st 2 11 52)]
def Zx.r17:List Oper:=[
 oD 43 (.ld true 2 11),
 oM 44 0,
 oC 45 221 [43,44],
 oN (.st 2 11 45)]
def Zx.l0:Code:=.seq (.seq Zx.r16 (.cond 42 (.skip) (.exit 4))) (.seq (.block 5 (.seq Zx.r18 Zx.r19)) (.seq (.seq Zx.r20 Zx.r21) Zx.r17))
def Zx.r22:List Oper:=[
 oM 53 5,
 oM 54 10,
 oD 55 (.bsl 1 1 [.sn] [(0,1,.t 54)]),
 oD 56 (.app 1 24 53 55),
 oM 5 56]
def Zx.r23:List Oper:=[
 oD 57 (.bin .add 23 (cI 1)),
 oM 23 57]
def Zx.l1:Code:=.seq Zx.r10 (.seq (.cond 24 (.skip) (.exit 2)) (.seq (.block 3 (.seq Zx.r11 (.seq Zx.r12 (.seq (.seq Zx.r13 (.cond 37 (.exit 3) (.skip))) (.seq Zx.r14 (.seq (.seq Zx.r15 (.block 4 (.loop Zx.l0))) Zx.r22)))))) Zx.r23))
def Zx.r24:List Oper:=[
 oD 58 (.bin .add 20 (cI 1)),
 oM 20 58]
def Zx.l2:Code:=.seq Zx.r7 (.seq (.cond 21 (.skip) (.exit 0)) (.seq (.block 1 (.seq Zx.r8 (.seq Zx.r9 (.block 2 (.loop Zx.l1))))) Zx.r24))
def Zx.r25:List Oper:=[
 oM 59 5,
 oM 2 59,
 oM 3 (cI 0)]
def Zx.code:Code:=.seq Zx.r0 (.seq (.seq Zx.r1 (.seq Zx.r2 (.cond 15 (.seq Zx.r3 (.ret)) (.skip)))) (.seq Zx.r4 (.seq Zx.r5 (.seq (.seq Zx.r6 (.block 0 (.loop Zx.l2))) (.seq Zx.r25 (.ret))))))
def Zx:Func:=⟨60,[.t 2,.t 3],Zx.code⟩
/-! muntin/face.Turns -/
def zl.r0:List Oper:=[
 oM 4 (.c (.sn))]
def zl.r1:List Oper:=[
 oM 8 1,
 oD 9 (.len 8),
 oD 10 (.mks 1 8 [.n 0] 9 9),
 oM 5 10]
def zl.r2:List Oper:=[
 oM 11 0,
 oC 12 66 [11],
 oD 13 (.eq true .sc 12 (cI 0))]
def zl.r3:List Oper:=[
 oM 14 5,
 oM 4 14]
def zl.r4:List Oper:=[
 oM 15 1,
 oD 16 (.len 15),
 oM 17 (cI 0)]
def zl.r5:List Oper:=[
 oD 18 (.bin .lss 17 16)]
def zl.r6:List Oper:=[
 oM 19 17,
 oD 20 (.ixa 2 15 17),
 oD 21 (.ld true 2 20),
 oD 7 (.alloc [.n 0,.n 0]),
 oM 6 19,
 oN (.st 2 7 21)]
def zl.r7:List Oper:=[
 oD 22 (.ld true 2 7),
 oM 23 0,
 oC 24 220 [22,23]]
def zl.r8:List Oper:=[
 oM 25 5,
 oM 26 6,
 oD 27 (.fa 1 7),
 oD 28 (.ld false 1 27),
 oD 29 (.ld true 2 7),
 oM 30 0,
 oC 31 221 [29,30],
 oD 32 (.fld false 1 1 31),
 oC 33 222 [28,32],
 oD 34 (.ixa 1 25 26),
 oN (.st 1 34 33)]
def zl.r9:List Oper:=[
 oD 35 (.bin .add 17 (cI 1)),
 oM 17 35]
def zl.l0:Code:=.seq zl.r5 (.seq (.cond 18 (.skip) (.exit 0)) (.seq (.block 1 (.seq zl.r6 (.seq zl.r7 (.cond 24 (.draw zl.r8 [(3,4),(3,6)]) (.skip))))) zl.r9))
def zl.r10:List Oper:=[
 oM 36 5,
 oM 4 36]
def zl.code:Code:=.seq zl.r0 (.seq zl.r1 (.seq (.seq zl.r2 (.cond 13 (.seq zl.r3 (.ret)) (.skip))) (.seq (.seq zl.r4 (.block 0 (.loop zl.l0))) (.seq zl.r10 (.ret)))))
def zl:Func:=⟨37,[.t 4],zl.code⟩
/-! muntin/muntinref08.turns -/
def ZU.r0:List Oper:=[
 oM 2 (.c (.b false))]
def ZU.r1:List Oper:=[
 oM 3 (cI 0)]
def ZU.r2:List Oper:=[
 oM 4 3,
 oM 5 0,
 oD 6 (.slen 5),
 oD 7 (.bin .lss 4 6)]
def ZU.r4:List Oper:=[
 oM 10 0,
 oM 11 3,
 oD 12 (.ixs 10 11),
 oD 13 (.eq true .sc 12 (.c (.i .u8 76))),
 oM 14 13,
 oT 15 14 (.mv 0),
 oT 16 14 (.mv 3),
 oT 17 14 (.ixs 15 16),
 oT 18 14 (.eq true .sc 17 (.c (.i .u8 82))),
 oD 19 (.pick 14 18 (.c (.b false)))]
def ZU.r5:List Oper:=[
 oM 2 (.c (.b false))]
def ZU.r3:List Oper:=[
 oM 8 3,
 oD 9 (.bin .add 8 (cI 1)),
 oM 3 9]
def ZU.l0:Code:=.seq (.seq ZU.r2 (.cond 7 (.skip) (.exit 0))) (.seq (.block 1 (.seq ZU.r4 (.cond 19 (.seq ZU.r5 (.ret)) (.skip)))) ZU.r3)
def ZU.r6:List Oper:=[
 oM 2 (.c (.b true))]
def ZU.code:Code:=.seq ZU.r0 (.seq (.seq ZU.r1 (.block 0 (.loop ZU.l0))) (.seq ZU.r6 (.ret)))
def ZU:Func:=⟨20,[.t 2],ZU.code⟩
/-! muntin/muntinref11.Side -/
def Zad.r0:List Oper:=[
 oD 1 (.box 0),
 oM 2 (cI 0)]
def Zad.r1:List Oper:=[
 oD 4 (.ld true 4 1),
 oC 5 230 [4],
 oM 3 5]
def Zad.r2:List Oper:=[
 oM 6 3,
 oD 7 (.bin .add 6 (cI 2)),
 oD 8 (.bin .rem 7 (cI 4)),
 oM 2 8]
def Zad.code:Code:=.seq Zad.r0 (.seq Zad.r1 (.seq Zad.r2 (.ret)))
def Zad:Func:=⟨9,[.t 2],Zad.code⟩
/-! muntin/face.Rotation -/
def zb.r0:List Oper:=[
 oM 2 (cI 0)]
def zb.r1:List Oper:=[
 oM 3 (cI 0)]
def zb.r2:List Oper:=[
 oM 6 0,
 oD 7 (.len 6),
 oM 8 (cI 0)]
def zb.r3:List Oper:=[
 oD 9 (.bin .lss 8 7)]
def zb.r4:List Oper:=[
 oD 10 (.ixa 1 6 8),
 oD 11 (.ld false 1 10),
 oM 5 11]
def zb.r5:List Oper:=[
 oM 12 5,
 oD 13 (.bin .geq 12 (cI (-2))),
 oM 14 13,
 oT 15 14 (.mv 5),
 oT 16 14 (.bin .leq 15 (cI 1)),
 oD 17 (.pick 14 16 (.c (.b false)))]
def zb.r6:List Oper:=[
 oM 18 3,
 oM 19 5,
 oD 20 (.bin .add 18 19),
 oM 3 20]
def zb.r7:List Oper:=[
 oD 21 (.bin .add 8 (cI 1)),
 oM 8 21]
def zb.l0:Code:=.seq zb.r3 (.seq (.cond 9 (.skip) (.exit 0)) (.seq (.block 1 (.seq zb.r4 (.seq zb.r5 (.cond 17 zb.r6 (.skip))))) zb.r7))
def zb.r8:List Oper:=[
 oM 22 3,
 oM 2 22]
def zb.code:Code:=.seq zb.r0 (.seq zb.r1 (.seq (.seq zb.r2 (.block 0 (.loop zb.l0))) (.seq zb.r8 (.ret))))
def zb:Func:=⟨23,[.t 2],zb.code⟩
/-! (muntin/face.Dart).is -/
def ZaR.r0:List Oper:=[
 oD 2 (.box 0),
 oM 4 (.c (.b false))]
def ZaR.r1:List Oper:=[
 oD 5 (.fa 0 2),
 oD 6 (.ld false 1 5),
 oD 7 (.bin .geq 6 (cI 0)),
 oM 8 7,
 oT 9 8 (.fa 0 2),
 oT 10 8 (.ld false 1 9),
 oT 11 8 (.mv 1),
 oT 12 8 (.len 11),
 oT 13 8 (.bin .lss 10 12),
 oD 14 (.pick 8 13 (.c (.b false))),
 oM 15 14,
 oT 16 15 (.fa 1 2),
 oT 17 15 (.ld false 1 16),
 oT 18 15 (.call (.c (.f 90 [])) [17]),
 oD 19 (.pick 15 18 (.c (.b false))),
 oM 20 19,
 oT 21 20 (.mv 1),
 oT 22 20 (.fa 0 2),
 oT 23 20 (.ld false 1 22),
 oT 24 20 (.fa 1 2),
 oT 25 20 (.ld false 1 24),
 oT 26 20 (.ixa 8 21 23),
 oT 27 20 (.fa 0 26),
 oT 28 20 (.ixaa 1 4 27 25),
 oT 29 20 (.ld false 1 28),
 oT 30 20 (.bin .geq 29 (cI 0)),
 oD 31 (.pick 20 30 (.c (.b false))),
 oM 4 31]
def ZaR.code:Code:=.seq ZaR.r0 (.seq (.draw ZaR.r1 [(18,20)]) (.ret))
def ZaR:Func:=⟨32,[.t 4],ZaR.code⟩
/-! (muntin/face.Dart).behind -/
def ZH.r0:List Oper:=[
 oD 2 (.box 0),
 oD 4 (.alloc [.n 0,.n 0])]
def ZH.r1:List Oper:=[
 oM 9 1,
 oD 10 (.fa 0 2),
 oD 11 (.ld false 1 10),
 oD 12 (.fa 1 2),
 oD 13 (.ld false 1 12),
 oD 14 (.ixa 8 9 11),
 oD 15 (.fa 0 14),
 oD 16 (.ixaa 1 4 15 13),
 oD 17 (.ld false 1 16),
 oM 5 17]
def ZH.r2:List Oper:=[
 oD 18 (.build [.n 0,.n 0,.n 0,.n 0] [(0,1,.c (.n 1)),(1,1,.c (.n 0)),(2,1,.c (.n (-1))),(3,1,.c (.n 2))]),
 oM 19 (cI 0)]
def ZH.r3:List Oper:=[
 oD 20 (.bin .lss 19 (cI 4))]
def ZH.r4:List Oper:=[
 oD 21 (.ix false 1 4 18 19),
 oM 7 21]
def ZH.r5:List Oper:=[
 oM 22 5,
 oD 23 (.fa 1 2),
 oD 24 (.ld false 1 23),
 oM 25 7,
 oC 26 77 [24,25],
 oD 27 (.build [.n 0,.n 0] [(0,1,.t 22),(1,1,.t 26)]),
 oD 8 (.alloc [.n 0,.n 0]),
 oN (.st 2 8 27)]
def ZH.r6:List Oper:=[
 oD 28 (.ld true 2 8),
 oM 29 1,
 oC 30 220 [28,29]]
def ZH.r7:List Oper:=[
 oD 31 (.ld true 2 8),
 oN (.st 2 4 31)]
def ZH.r8:List Oper:=[
 oD 32 (.bin .add 19 (cI 1)),
 oM 19 32]
def ZH.l0:Code:=.seq ZH.r3 (.seq (.cond 20 (.skip) (.exit 0)) (.seq (.block 1 (.seq ZH.r4 (.seq ZH.r5 (.seq ZH.r6 (.cond 30 (.seq ZH.r7 (.ret)) (.skip)))))) ZH.r8))
def ZH.r9:List Oper:=[
 oD 33 (.ld true 2 2),
 oN (.st 2 4 33)]
def ZH.code:Code:=.seq ZH.r0 (.seq (.draw ZH.r1 [(2,4)]) (.seq (.seq ZH.r2 (.block 0 (.loop ZH.l0))) (.seq ZH.r9 (.ret))))
def ZH:Func:=⟨34,[.cell 4 true 2],ZH.code⟩
/-! muntin/compass.Turn -/
def Zaq.r0:List Oper:=[
 oM 4 (cI 0)]
def Zaq.r1:List Oper:=[
 oM 5 0,
 oC 6 90 [5],
 oD 7 (.un .not 6),
 oM 8 7,
 oF 9 8 (.mv 1),
 oF 10 8 (.call (.c (.f 90 [])) [9]),
 oF 11 8 (.un .not 10),
 oD 12 (.pick 8 (.c (.b true)) 11)]
def Zaq.r2:List Oper:=[
 oM 4 (cI 0)]
def Zaq.r3:List Oper:=[
 oD 13 (.build [.n 0,.n 0,.n 0,.n 0] [(0,1,.c (.n 0)),(1,1,.c (.n 1)),(2,1,.c (.n (-2))),(3,1,.c (.n (-1)))]),
 oM 14 1,
 oM 15 0,
 oD 16 (.bin .sub 14 15),
 oD 17 (.bin .add 16 (cI 4)),
 oD 18 (.bin .rem 17 (cI 4)),
 oD 19 (.ix false 1 4 13 18),
 oM 4 19]
def Zaq.code:Code:=.seq Zaq.r0 (.seq (.seq Zaq.r1 (.cond 12 (.seq Zaq.r2 (.ret)) (.skip))) (.seq Zaq.r3 (.ret)))
def Zaq:Func:=⟨20,[.t 4],Zaq.code⟩
/-! muntin/muntinref09.Last -/
def ZM.r0:List Oper:=[
 oD 1 (.box 0),
 oM 2 (cI 0)]
def ZM.r1:List Oper:=[
 oD 5 (.fa 2 1),
 oD 6 (.ld false 1 5),
 oM 3 6]
def ZM.r2:List Oper:=[
 oM 4 (cI 0)]
def ZM.r3:List Oper:=[
 oM 7 4,
 oD 8 (.fa 3 1),
 oD 9 (.ld false 1 8),
 oD 10 (.slen 9),
 oD 11 (.bin .lss 7 10)]
def ZM.r5:List Oper:=[
 oD 14 (.fa 3 1),
 oD 15 (.ld false 1 14),
 oM 16 4,
 oD 17 (.ixs 15 16),
 oD 18 (.eq false .sc 17 (.c (.i .u8 76)))]
def ZM.r6:List Oper:=[
 oM 19 3,
 oD 20 (.bin .add 19 (cI 1)),
 oD 21 (.bin .rem 20 (cI 4)),
 oM 3 21]
def ZM.r7:List Oper:=[
 oM 22 3,
 oD 23 (.bin .add 22 (cI 3)),
 oD 24 (.bin .rem 23 (cI 4)),
 oM 3 24]
def ZM.r4:List Oper:=[
 oM 12 4,
 oD 13 (.bin .add 12 (cI 1)),
 oM 4 13]
def ZM.l0:Code:=.seq (.seq ZM.r3 (.cond 11 (.skip) (.exit 0))) (.seq (.block 1 (.seq ZM.r5 (.cond 18 ZM.r6 ZM.r7))) ZM.r4)
def ZM.r8:List Oper:=[
 oM 25 3,
 oM 2 25]
def ZM.code:Code:=.seq ZM.r0 (.seq ZM.r1 (.seq (.seq ZM.r2 (.block 0 (.loop ZM.l0))) (.seq ZM.r8 (.ret))))
def ZM:Func:=⟨26,[.t 2],ZM.code⟩
def G:Prog:=fun i=>match i with
  | 28=>some Zf
  | 29=>some Z6
  | 32=>some ZaS
  | 46=>some ZF
  | 49=>some Zy
  | 53=>some zg
  | 63=>some Z7
  | 64=>some Zp
  | 65=>some Z2
  | 66=>some ZO
  | 67=>some ZB
  | 77=>some Zap
  | 82=>some zt
  | 83=>some Z9
  | 89=>some ZaL
  | 90=>some ZaQ
  | 97=>some ZaP
  | 98=>some zk
  | 116=>some Zw
  | 117=>some ZR
  | 158=>some Zi
  | 171=>some Zo
  | 172=>some zC
  | 174=>some Zk
  | 175=>some Ze
  | 176=>some zo
  | 195=>some z8
  | 196=>some ZX
  | 197=>some Zq
  | 198=>some Zm
  | 199=>some ZI
  | 200=>some Zn
  | 201=>some ZL
  | 203=>some Zx
  | 204=>some zl
  | 217=>some ZU
  | 218=>some Zad
  | 219=>some zb
  | 220=>some ZaR
  | 221=>some ZH
  | 222=>some Zaq
  | 230=>some ZM
  | _=>none
theorem Zc3:G 28=some Zf:=rfl
theorem ZdN:G 29=some Z6:=rfl
theorem ZdO:G 32=some ZaS:=rfl
theorem ZcF:G 46=some ZF:=rfl
theorem Zb5:G 49=some Zy:=rfl
theorem Zc2:G 53=some zg:=rfl
theorem ZbT:G 63=some Z7:=rfl
theorem ZbS:G 64=some Zp:=rfl
theorem Zc4:G 65=some Z2:=rfl
theorem ZdM:G 66=some ZO:=rfl
theorem ZdA:G 67=some ZB:=rfl
theorem Zdl:G 77=some Zap:=rfl
theorem Zej:G 82=some zt:=rfl
theorem Zcp:G 83=some Z9:=rfl
theorem Zex:G 89=some ZaL:=rfl
theorem Zdk:G 90=some ZaQ:=rfl
theorem Zft:G 97=some ZaP:=rfl
theorem ZdJ:G 98=some zk:=rfl
theorem Zcb:G 116=some Zw:=rfl
theorem Zc1:G 117=some ZR:=rfl
theorem Zb7:G 158=some Zi:=rfl
theorem Zcz:G 171=some Zo:=rfl
theorem Zck:G 172=some zC:=rfl
theorem Zco:G 174=some Zk:=rfl
theorem ZcL:G 175=some Ze:=rfl
theorem ZdB:G 176=some zo:=rfl
theorem ZdC:G 195=some z8:=rfl
theorem Zca:G 196=some ZX:=rfl
theorem Zcl:G 197=some Zq:=rfl
theorem Zcn:G 198=some Zm:=rfl
theorem ZcM:G 199=some ZI:=rfl
theorem ZcG:G 200=some Zn:=rfl
theorem ZdD:G 201=some ZL:=rfl
theorem ZdK:G 203=some Zx:=rfl
theorem ZdL:G 204=some zl:=rfl
theorem Zcm:G 217=some ZU:=rfl
theorem Zc5:G 218=some Zad:=rfl
theorem ZcY:G 219=some zb:=rfl
theorem Zdn:G 220=some ZaR:=rfl
theorem Zcy:G 221=some ZH:=rfl
theorem Zdm:G 222=some Zaq:=rfl
theorem Zc0:G 230=some ZM:=rfl
end Mu
