/- The functions of the program, as the evaluator has them: printed by a program; checked against the model's. -/
import Derived.Test.YtfdidkebomeiaaaMuE0
namespace Mu
instance (n:Nat):OfNat Opd n:=⟨.t n⟩
instance:Coe (List Oper) Code:=⟨.region⟩
abbrev oD (d:Nat) (op:Op):Oper:=⟨some d,op,none⟩
abbrev oN (op:Op):Oper:=⟨none,op,none⟩
abbrev oT (d g:Nat) (op:Op):Oper:=⟨some d,op,some (g,true)⟩
abbrev oF (d g:Nat) (op:Op):Oper:=⟨some d,op,some (g,false)⟩
abbrev oM (d:Nat) (x:Opd):Oper:=⟨some d,.mv x,none⟩
abbrev oC (d f:Nat) (l:List Opd):Oper:=⟨some d,.call (.c (.f f [])) l,none⟩
abbrev cI (n:Int):Opd:=.c (.i .i64 n)
/-! muntin/kitty.Corners -/
def Z6.r0:List Oper:=[oM 2 (.c (.sn))]
def Z6.r1:List Oper:=[oM 3 (.c (.sn))]
def Z6.r2:List Oper:=[oM 7 0,oD 8 (.len 7),oM 9 (cI 0)]
def Z6.r3:List Oper:=[oD 10 (.bin .lss 9 8)]
def Z6.r4:List Oper:=[oM 11 9,oD 12 (.ixa 1 7 9),oD 13 (.ld false 1 12),oM 4 11,oM 5 13]
def Z6.r5:List Oper:=[oM 14 5,oD 15 (.bin .lss 14 (cI (-2)))]
def Z6.r6:List Oper:=[oM 16 5,oD 17 (.un .neg 16),oM 18 (cI 0)]
def Z6.r7:List Oper:=[oD 19 (.bin .lss 18 17)]
def Z6.r8:List Oper:=[oM 20 18,oM 6 20]
def Z6.r9:List Oper:=[oM 21 3,oM 22 4,oM 23 6,oD 24 (.build [.n 0,.n 0] [(0,1,.t 22),(1,1,.t 23)]),oD 25 (.bsl 2 1 [.n 0,.n 0] [(0,2,.t 24)]),oD 26 (.app 2 16 21 25),oM 3 26]
def Z6.r10:List Oper:=[oD 27 (.bin .add 18 (cI 1)),oM 18 27]
def Z6.l0:Code:=.seq Z6.r7 (.seq (.cond 19 (.skip) (.exit 2)) (.seq (.block 3 (.seq Z6.r8 Z6.r9)) Z6.r10))
def Z6.r11:List Oper:=[oD 28 (.bin .add 9 (cI 1)),oM 9 28]
def Z6.l1:Code:=.seq Z6.r3 (.seq (.cond 10 (.skip) (.exit 0)) (.seq (.block 1 (.seq Z6.r4 (.seq (.seq Z6.r5 (.cond 15 (.exit 1) (.skip))) (.seq Z6.r6 (.block 2 (.loop Z6.l0)))))) Z6.r11))
def Z6.r12:List Oper:=[oM 29 3,oM 2 29]
def Z6.code:Code:=.seq Z6.r0 (.seq Z6.r1 (.seq (.seq Z6.r2 (.block 0 (.loop Z6.l1))) (.seq Z6.r12 (.ret))))
def Z6:Func:=⟨30,[.t 2],Z6.code⟩
/-! muntin/kitty.Pair -/
def ZG.r0:List Oper:=[oD 2 (.alloc [.n 0,.n 0]),oD 3 (.alloc [.n 0,.n 0]),oM 4 (.c (.b false))]
def ZG.r1:List Oper:=[oM 11 0,oC 12 59 [11],oD 13 (.un .not 12)]
def ZG.r2:List Oper:=[oD 14 (.build [.n 0,.n 0] []),oD 15 (.build [.n 0,.n 0] []),oN (.st 2 2 14),oN (.st 2 3 15),oM 4 (.c (.b false))]
def ZG.r3:List Oper:=[oM 16 0,oC 17 19 [16],oM 18 0,oC 19 62 [18],oM 5 17,oM 6 19]
def ZG.r4:List Oper:=[oM 20 5,oD 21 (.len 20),oM 22 (cI 0)]
def ZG.r5:List Oper:=[oD 23 (.bin .lss 22 21)]
def ZG.r6:List Oper:=[oD 24 (.ixa 2 20 22),oD 25 (.ld true 2 24),oD 8 (.alloc [.n 0,.n 0]),oN (.st 2 8 25)]
def ZG.r7:List Oper:=[oM 26 5,oD 27 (.len 26),oM 28 (cI 0)]
def ZG.r8:List Oper:=[oD 29 (.bin .lss 28 27)]
def ZG.r9:List Oper:=[oD 30 (.ixa 2 26 28),oD 31 (.ld true 2 30),oD 10 (.alloc [.n 0,.n 0]),oN (.st 2 10 31)]
def ZG.r10:List Oper:=[oM 32 6,oD 33 (.ld true 2 8),oD 34 (.ld true 2 10),oC 35 61 [32,33,34],oD 36 (.eq false .sc 35 (cI 2))]
def ZG.r11:List Oper:=[oD 37 (.ld true 2 8),oD 38 (.ld true 2 10),oN (.st 2 2 37),oN (.st 2 3 38),oM 4 (.c (.b true))]
def ZG.r12:List Oper:=[oD 39 (.bin .add 28 (cI 1)),oM 28 39]
def ZG.l0:Code:=.seq ZG.r8 (.seq (.cond 29 (.skip) (.exit 2)) (.seq (.block 3 (.seq ZG.r9 (.seq ZG.r10 (.cond 36 (.seq (.draw ZG.r11 [(0,1),(1,2)]) (.ret)) (.skip))))) ZG.r12))
def ZG.r13:List Oper:=[oD 40 (.bin .add 22 (cI 1)),oM 22 40]
def ZG.l1:Code:=.seq ZG.r5 (.seq (.cond 23 (.skip) (.exit 0)) (.seq (.block 1 (.seq ZG.r6 (.seq ZG.r7 (.block 2 (.loop ZG.l0))))) ZG.r13))
def ZG.r14:List Oper:=[oD 41 (.build [.n 0,.n 0] []),oD 42 (.build [.n 0,.n 0] []),oN (.st 2 2 41),oN (.st 2 3 42),oM 4 (.c (.b false))]
def ZG.code:Code:=.seq ZG.r0 (.seq (.seq ZG.r1 (.cond 13 (.seq ZG.r2 (.ret)) (.skip))) (.seq ZG.r3 (.seq (.seq ZG.r4 (.block 0 (.loop ZG.l1))) (.seq ZG.r14 (.ret)))))
def ZG:Func:=⟨43,[.cell 2 true 2,.cell 3 true 2,.t 4],ZG.code⟩
/-! muntin/muntinref10.Make -/
def Zd.r0:List Oper:=[oD 2 (.box 0),oM 4 (.c (.sn)),oM 5 (.c (.sn))]
def Zd.r1:List Oper:=[oM 6 (.c (.sn))]
def Zd.r2:List Oper:=[oM 7 (cI 0)]
def Zd.r3:List Oper:=[oM 18 7,oD 19 (.fa 0 2),oD 20 (.ld false 1 19),oD 21 (.len 20),oD 22 (.bin .lss 18 21),oM 23 22,oT 24 23 (.mv 6),oT 25 23 (.len 24),oT 26 23 (.mv 1),oT 27 23 (.bin .lss 25 26),oD 28 (.pick 23 27 (.c (.b false)))]
def Zd.r5:List Oper:=[oD 31 (.fa 0 2),oD 32 (.ld false 1 31),oM 33 7,oD 34 (.ixa 1 32 33),oD 35 (.ld false 1 34),oD 36 (.conv .i64 35),oD 37 (.bin .rem 36 (cI 8)),oD 38 (.fa 0 2),oD 39 (.ld false 1 38),oM 40 7,oD 41 (.ixa 1 39 40),oD 42 (.ld false 1 41),oD 43 (.conv .i64 42),oD 44 (.bin .quo 43 (cI 8)),oD 45 (.bin .rem 44 (cI 8)),oD 46 (.build [.n 0,.n 0] [(0,1,.t 37),(1,1,.t 45)]),oD 8 (.alloc [.n 0,.n 0]),oN (.st 2 8 46)]
def Zd.r6:List Oper:=[oM 9 (.c (.b false))]
def Zd.r7:List Oper:=[oM 10 (cI 0)]
def Zd.r8:List Oper:=[oM 47 10,oM 48 6,oD 49 (.len 48),oD 50 (.bin .lss 47 49)]
def Zd.r10:List Oper:=[oM 53 9,oM 54 53,oF 55 54 (.mv 6),oF 56 54 (.mv 10),oF 57 54 (.ixa 2 55 56),oF 58 54 (.ld true 2 57),oF 59 54 (.ld true 2 8),oF 60 54 (.eq false (.fl [.i,.i]) 58 59),oD 61 (.pick 54 (.c (.b true)) 60),oM 9 61]
def Zd.r9:List Oper:=[oM 51 10,oD 52 (.bin .add 51 (cI 1)),oM 10 52]
def Zd.l0:Code:=.seq (.seq Zd.r8 (.cond 50 (.skip) (.exit 2))) (.seq (.block 3 (.draw Zd.r10 [(5,6)])) Zd.r9)
def Zd.r11:List Oper:=[oM 62 9,oD 63 (.un .not 62)]
def Zd.r12:List Oper:=[oM 64 6,oD 65 (.ld true 2 8),oD 66 (.bsl 2 1 [.n 0,.n 0] [(0,2,.t 65)]),oD 67 (.app 2 16 64 66),oM 6 67]
def Zd.r4:List Oper:=[oM 29 7,oD 30 (.bin .add 29 (cI 1)),oM 7 30]
def Zd.l1:Code:=.seq (.seq Zd.r3 (.cond 28 (.skip) (.exit 0))) (.seq (.block 1 (.seq (.draw Zd.r5 [(1,8),(4,8),(1,11),(4,11),(1,16),(4,16),(8,16),(11,16)]) (.seq Zd.r6 (.seq (.seq Zd.r7 (.block 2 (.loop Zd.l0))) (.seq Zd.r11 (.cond 63 Zd.r12 (.skip))))))) Zd.r4)
def Zd.r13:List Oper:=[oM 68 6,oD 69 (.len 68),oC 70 46 [69],oM 11 70]
def Zd.r14:List Oper:=[oM 12 (cI 0)]
def Zd.r15:List Oper:=[oM 71 12,oM 72 6,oD 73 (.len 72),oD 74 (.bin .lss 71 73)]
def Zd.r17:List Oper:=[oM 13 (.c (.i .u8 3))]
def Zd.r18:List Oper:=[oM 77 12,oD 78 (.fa 1 2),oD 79 (.ld false 1 78),oD 80 (.len 79),oD 81 (.bin .lss 77 80)]
def Zd.r19:List Oper:=[oD 82 (.fa 1 2),oD 83 (.ld false 1 82),oM 84 12,oD 85 (.ixa 1 83 84),oD 86 (.ld false 1 85),oM 13 86]
def Zd.r20:List Oper:=[oM 87 12,oM 14 87]
def Zd.r21:List Oper:=[oM 88 12,oD 89 (.fa 2 2),oD 90 (.ld false 1 89),oD 91 (.len 90),oD 92 (.bin .lss 88 91)]
def Zd.r22:List Oper:=[oD 93 (.fa 2 2),oD 94 (.ld false 1 93),oM 95 12,oD 96 (.ixa 1 94 95),oD 97 (.ld false 1 96),oD 98 (.conv .i64 97),oM 14 98]
def Zd.r23:List Oper:=[oM 99 14,oD 100 (.bin .lss 99 (cI (-2)))]
def Zd.r24:List Oper:=[oM 101 14,oD 102 (.un .neg 101),oM 14 102]
def Zd.r25:List Oper:=[oM 15 (cI 0)]
def Zd.r26:List Oper:=[oM 103 15,oD 104 (.bin .lss 103 (cI 2))]
def Zd.r28:List Oper:=[oM 107 6,oM 108 12,oM 109 15,oC 110 63 [107,108,109],oM 16 110]
def Zd.r29:List Oper:=[oM 111 13,oM 112 15,oD 113 (.bin .shr 111 112),oD 114 (.bin .and 113 (.c (.i .u8 1))),oD 115 (.eq false .sc 114 (.c (.i .u8 0))),oM 116 115,oF 117 116 (.mv 16),oF 118 116 (.bin .lss 117 (cI 0)),oD 119 (.pick 116 (.c (.b true)) 118)]
def Zd.r30:List Oper:=[oM 120 6,oM 121 11,oM 122 12,oM 123 16,oC 124 64 [120,121,122,123],oM 17 124]
def Zd.r31:List Oper:=[oM 125 17,oD 126 (.un .not 125)]
def Zd.r32:List Oper:=[oM 127 11,oM 128 12,oM 129 15,oM 130 16,oM 131 14,oC 132 65 [127,128,129,130,131],oM 11 132]
def Zd.r27:List Oper:=[oM 105 15,oD 106 (.bin .add 105 (cI 1)),oM 15 106]
def Zd.l2:Code:=.seq (.seq Zd.r26 (.cond 104 (.skip) (.exit 6))) (.seq (.block 7 (.seq Zd.r28 (.seq (.seq Zd.r29 (.cond 119 (.exit 7) (.skip))) (.seq Zd.r30 (.seq Zd.r31 (.cond 126 Zd.r32 (.skip))))))) Zd.r27)
def Zd.r16:List Oper:=[oM 75 12,oD 76 (.bin .add 75 (cI 1)),oM 12 76]
def Zd.l3:Code:=.seq (.seq Zd.r15 (.cond 74 (.skip) (.exit 4))) (.seq (.block 5 (.seq Zd.r17 (.seq (.seq Zd.r18 (.cond 81 Zd.r19 (.skip))) (.seq Zd.r20 (.seq (.seq Zd.r21 (.cond 92 (.seq Zd.r22 (.seq Zd.r23 (.cond 100 Zd.r24 (.skip)))) (.skip))) (.seq Zd.r25 (.block 6 (.loop Zd.l2)))))))) Zd.r16)
def Zd.r33:List Oper:=[oM 133 11,oM 134 6,oM 4 133,oM 5 134]
def Zd.code:Code:=.seq Zd.r0 (.seq Zd.r1 (.seq (.seq Zd.r2 (.block 0 (.loop Zd.l1))) (.seq Zd.r13 (.seq (.seq Zd.r14 (.block 4 (.loop Zd.l3))) (.seq Zd.r33 (.ret))))))
def Zd:Func:=⟨135,[.t 4,.t 5],Zd.code⟩
/-! muntin/join.Parts -/
def Zv.r0:List Oper:=[oM 2 (.c (.sn)),oM 3 (cI 0)]
def Zv.r1:List Oper:=[oM 12 0,oC 13 66 [12],oM 4 13]
def Zv.r2:List Oper:=[oM 14 4,oD 15 (.eq true .sc 14 (cI 0))]
def Zv.r3:List Oper:=[oM 16 4,oM 2 (.c (.sn)),oM 3 16]
def Zv.r4:List Oper:=[oM 5 (.c (.sn))]
def Zv.r5:List Oper:=[oM 17 0,oD 18 (.len 17),oD 19 (.mks 1 1 [.b false] 18 18),oM 6 19]
def Zv.r6:List Oper:=[oM 20 0,oD 21 (.len 20),oM 22 (cI 0)]
def Zv.r7:List Oper:=[oD 23 (.bin .lss 22 21)]
def Zv.r8:List Oper:=[oM 24 22,oM 7 24]
def Zv.r9:List Oper:=[oM 25 6,oM 26 7,oD 27 (.ixa 1 25 26),oD 28 (.ld false 1 27)]
def Zv.r10:List Oper:=[oM 30 0,oM 31 7,oC 32 67 [30,31],oM 29 32,oD 33 (.ext 29 0),oD 34 (.ext 29 1),oM 8 33,oM 9 34]
def Zv.r11:List Oper:=[oD 35 (.bsl 1 0 [.n 0] []),oM 10 35]
def Zv.r12:List Oper:=[oM 36 0,oD 37 (.len 36),oM 38 (cI 0)]
def Zv.r13:List Oper:=[oD 39 (.bin .lss 38 37)]
def Zv.r14:List Oper:=[oM 40 38,oM 11 40]
def Zv.r15:List Oper:=[oM 41 11,oM 42 7,oD 43 (.eq false .sc 41 42),oM 44 43,oF 45 44 (.mv 9),oF 46 44 (.mv 11),oF 47 44 (.ixa 1 45 46),oF 48 44 (.ld false 1 47),oF 49 44 (.bin .geq 48 (cI 0)),oD 50 (.pick 44 (.c (.b true)) 49)]
def Zv.r16:List Oper:=[oM 51 6,oM 52 11,oD 53 (.ixa 1 51 52),oN (.st 1 53 (.c (.b true)))]
def Zv.r17:List Oper:=[oM 54 10,oM 55 11,oD 56 (.bsl 1 1 [.n 0] [(0,1,.t 55)]),oD 57 (.app 1 8 54 56),oM 10 57]
def Zv.r18:List Oper:=[oD 58 (.bin .add 38 (cI 1)),oM 38 58]
def Zv.l0:Code:=.seq Zv.r13 (.seq (.cond 39 (.skip) (.exit 2)) (.seq (.block 3 (.seq Zv.r14 (.seq Zv.r15 (.cond 50 (.seq Zv.r16 Zv.r17) (.skip))))) Zv.r18))
def Zv.r19:List Oper:=[oM 59 5,oM 60 10,oD 61 (.bsl 1 1 [.sn] [(0,1,.t 60)]),oD 62 (.app 1 24 59 61),oM 5 62]
def Zv.r20:List Oper:=[oD 63 (.bin .add 22 (cI 1)),oM 22 63]
def Zv.l1:Code:=.seq Zv.r7 (.seq (.cond 23 (.skip) (.exit 0)) (.seq (.block 1 (.seq Zv.r8 (.seq (.seq Zv.r9 (.cond 28 (.exit 1) (.skip))) (.seq Zv.r10 (.seq Zv.r11 (.seq (.seq Zv.r12 (.block 2 (.loop Zv.l0))) Zv.r19)))))) Zv.r20))
def Zv.r21:List Oper:=[oM 64 5,oM 2 64,oM 3 (cI 0)]
def Zv.code:Code:=.seq Zv.r0 (.seq (.seq Zv.r1 (.seq Zv.r2 (.cond 15 (.seq Zv.r3 (.ret)) (.skip)))) (.seq Zv.r4 (.seq Zv.r5 (.seq (.seq Zv.r6 (.block 0 (.loop Zv.l1))) (.seq Zv.r21 (.ret))))))
def Zv:Func:=⟨65,[.t 2,.t 3],Zv.code⟩
/-! muntin/join.Whole -/
def ZaQ.r0:List Oper:=[oM 2 (.c (.b false))]
def ZaQ.r1:List Oper:=[oM 6 0,oC 7 29 [6],oM 5 7,oD 8 (.ext 5 0),oD 9 (.ext 5 1),oM 3 8,oM 4 9]
def ZaQ.r2:List Oper:=[oM 10 4,oD 11 (.eq false .sc 10 (cI 0)),oM 12 11,oT 13 12 (.mv 3),oT 14 12 (.len 13),oT 15 12 (.eq false .sc 14 (cI 1)),oD 16 (.pick 12 15 (.c (.b false))),oM 2 16]
def ZaQ.code:Code:=.seq ZaQ.r0 (.seq ZaQ.r1 (.seq ZaQ.r2 (.ret)))
def ZaQ:Func:=⟨17,[.t 2],ZaQ.code⟩
/-! muntin/muntinref10.New -/
def ZA.r0:List Oper:=[oM 2 (.c (.sn))]
def ZA.r1:List Oper:=[oM 6 0,oD 7 (.mks 8 64 [.n 0,.n 0,.n 0,.n 0,.n 0,.n 0,.n 0,.n 0] 6 6),oM 3 7]
def ZA.r2:List Oper:=[oM 4 (cI 0)]
def ZA.r3:List Oper:=[oM 8 4,oM 9 0,oD 10 (.bin .lss 8 9)]
def ZA.r5:List Oper:=[oM 5 (cI 0)]
def ZA.r6:List Oper:=[oM 13 5,oD 14 (.bin .lss 13 (cI 4))]
def ZA.r8:List Oper:=[oM 17 3,oM 18 4,oM 19 5,oD 20 (.ixa 8 17 18),oD 21 (.fa 0 20),oD 22 (.ixaa 1 4 21 19),oN (.st 1 22 (cI (-1)))]
def ZA.r7:List Oper:=[oM 15 5,oD 16 (.bin .add 15 (cI 1)),oM 5 16]
def ZA.l0:Code:=.seq (.seq ZA.r6 (.cond 14 (.skip) (.exit 2))) (.seq (.block 3 ZA.r8) ZA.r7)
def ZA.r4:List Oper:=[oM 11 4,oD 12 (.bin .add 11 (cI 1)),oM 4 12]
def ZA.l1:Code:=.seq (.seq ZA.r3 (.cond 10 (.skip) (.exit 0))) (.seq (.block 1 (.seq ZA.r5 (.block 2 (.loop ZA.l0)))) ZA.r4)
def ZA.r9:List Oper:=[oM 23 3,oM 2 23]
def ZA.code:Code:=.seq ZA.r0 (.seq ZA.r1 (.seq (.seq ZA.r2 (.block 0 (.loop ZA.l1))) (.seq ZA.r9 (.ret))))
def ZA:Func:=⟨24,[.t 2],ZA.code⟩
/-! slices.Clone[[]muntin/api.Cell,muntin/api.Cell] -/
def ZX.r0:List Oper:=[oM 2 (.c (.sn))]
def ZX.r1:List Oper:=[oM 3 0,oD 4 (.eq false .sl 3 (.c (.sn)))]
def ZX.r2:List Oper:=[oM 2 (.c (.sn))]
def ZX.r3:List Oper:=[oD 5 (.bsl 8 0 [.n 0,.n 0,.n 0,.n 0,.n 0,.n 0,.n 0,.n 0] []),oM 6 0,oD 7 (.app 8 64 5 6),oM 2 7]
def ZX.code:Code:=.seq ZX.r0 (.seq (.seq ZX.r1 (.cond 4 (.seq ZX.r2 (.ret)) (.skip))) (.seq ZX.r3 (.ret)))
def ZX:Func:=⟨8,[.t 2],ZX.code⟩
/-! (*muntin/grid.Grid).Join -/
def ZP.r0:List Oper:=[oM 10 (cI 0)]
def ZP.r1:List Oper:=[oM 12 0,oD 13 (.eq false .pt 12 (.c (.pn))),oM 11 13]
def ZP.r2:List Oper:=[oM 10 (cI 1)]
def ZP.r3:List Oper:=[oM 15 0,oM 16 1,oM 17 2,oC 18 75 [15,16,17],oD 19 (.un .not 18),oM 20 19,oF 21 20 (.mv 0),oF 22 20 (.mv 3),oF 23 20 (.mv 2),oF 24 20 (.call (.c (.f 75 [])) [21,22,23]),oF 25 20 (.un .not 24),oD 26 (.pick 20 (.c (.b true)) 25),oM 27 26,oF 28 27 (.mv 1),oF 29 27 (.mv 3),oF 30 27 (.eq false .sc 28 29),oD 31 (.pick 27 (.c (.b true)) 30),oM 32 31,oF 33 32 (.mv 4),oF 34 32 (.bin .lss 33 (cI (-2))),oD 35 (.pick 32 (.c (.b true)) 34),oM 14 35]
def ZP.r4:List Oper:=[oM 10 (cI 2)]
def ZP.r5:List Oper:=[oM 37 0,oD 38 (.nilck 37),oD 39 (.fa 0 38),oD 40 (.ld false 1 39),oM 41 1,oM 42 2,oD 43 (.ixa 8 40 41),oD 44 (.fa 0 43),oD 45 (.ixaa 1 4 44 42),oD 46 (.ld false 1 45),oD 47 (.eq true .sc 46 (cI (-1))),oM 48 47,oF 49 48 (.mv 0),oF 50 48 (.nilck 49),oF 51 48 (.fa 0 50),oF 52 48 (.ld false 1 51),oF 53 48 (.mv 3),oF 54 48 (.mv 2),oF 55 48 (.call (.c (.f 77 [])) [54,.c (.n 2)]),oF 56 48 (.ixa 8 52 53),oF 57 48 (.fa 0 56),oF 58 48 (.ixaa 1 4 57 55),oF 59 48 (.ld false 1 58),oF 60 48 (.eq true .sc 59 (cI (-1))),oD 61 (.pick 48 (.c (.b true)) 60),oM 36 61]
def ZP.r6:List Oper:=[oM 10 (cI 9)]
def ZP.r7:List Oper:=[oM 62 0,oM 63 1,oM 64 2,oM 65 3,oM 66 4,oC 67 76 [62,63,64,65,66]]
def ZP.r8:List Oper:=[oM 10 (cI 0)]
def ZP.code:Code:=.seq ZP.r0 (.seq (.block 0 (.seq ZP.r1 (.cond 11 (.seq ZP.r2 (.ret)) (.seq ZP.r3 (.cond 14 (.seq ZP.r4 (.ret)) (.seq (.draw ZP.r5 [(15,18)]) (.cond 36 (.seq ZP.r6 (.ret)) (.skip)))))))) (.seq ZP.r7 (.seq ZP.r8 (.ret))))
def ZP:Func:=⟨68,[.t 10],ZP.code⟩
/-! muntin/muntinref10.Join -/
def ZR.r0:List Oper:=[oM 10 (.c (.sn)),oM 11 (cI 0)]
def ZR.r1:List Oper:=[oM 13 1,oD 14 (.bin .lss 13 (cI 0)),oM 15 14,oF 16 15 (.mv 1),oF 17 15 (.mv 0),oF 18 15 (.len 17),oF 19 15 (.bin .geq 16 18),oD 20 (.pick 15 (.c (.b true)) 19),oM 21 20,oF 22 21 (.mv 3),oF 23 21 (.bin .lss 22 (cI 0)),oD 24 (.pick 21 (.c (.b true)) 23),oM 25 24,oF 26 25 (.mv 3),oF 27 25 (.mv 0),oF 28 25 (.len 27),oF 29 25 (.bin .geq 26 28),oD 30 (.pick 25 (.c (.b true)) 29),oM 31 30,oF 32 31 (.mv 1),oF 33 31 (.mv 3),oF 34 31 (.eq false .sc 32 33),oD 35 (.pick 31 (.c (.b true)) 34),oM 36 35,oF 37 36 (.mv 2),oF 38 36 (.bin .lss 37 (cI 0)),oD 39 (.pick 36 (.c (.b true)) 38),oM 40 39,oF 41 40 (.mv 2),oF 42 40 (.bin .gtr 41 (cI 3)),oD 43 (.pick 40 (.c (.b true)) 42),oM 44 43,oF 45 44 (.mv 4),oF 46 44 (.bin .lss 45 (cI (-2))),oD 47 (.pick 44 (.c (.b true)) 46)]
def ZR.r2:List Oper:=[oM 48 0,oM 10 48,oM 11 (cI 2)]
def ZR.r3:List Oper:=[oM 49 0,oM 50 1,oM 51 2,oD 52 (.ixa 8 49 50),oD 53 (.fa 0 52),oD 54 (.ixaa 1 4 53 51),oD 55 (.ld false 1 54),oD 56 (.eq true .sc 55 (cI (-1))),oM 57 56,oF 58 57 (.mv 0),oF 59 57 (.mv 3),oF 60 57 (.mv 2),oF 61 57 (.bin .add 60 (cI 2)),oF 62 57 (.bin .rem 61 (cI 4)),oF 63 57 (.ixa 8 58 59),oF 64 57 (.fa 0 63),oF 65 57 (.ixaa 1 4 64 62),oF 66 57 (.ld false 1 65),oF 67 57 (.eq true .sc 66 (cI (-1))),oD 68 (.pick 57 (.c (.b true)) 67)]
def ZR.r4:List Oper:=[oM 69 0,oM 10 69,oM 11 (cI 9)]
def ZR.r5:List Oper:=[oM 70 0,oM 71 1,oM 72 2,oM 73 3,oM 74 4,oC 75 65 [70,71,72,73,74],oM 12 75]
def ZR.r6:List Oper:=[oM 76 12,oM 10 76,oM 11 (cI 0)]
def ZR.code:Code:=.seq ZR.r0 (.seq (.seq ZR.r1 (.cond 47 (.seq ZR.r2 (.ret)) (.skip))) (.seq (.seq ZR.r3 (.cond 68 (.seq ZR.r4 (.ret)) (.skip))) (.seq ZR.r5 (.seq ZR.r6 (.ret)))))
def ZR:Func:=⟨77,[.t 10,.t 11],ZR.code⟩
/-! (*muntin/grid.Grid).Len -/
def zP.r0:List Oper:=[oM 2 (cI 0)]
def zP.r1:List Oper:=[oM 3 0,oD 4 (.eq false .pt 3 (.c (.pn)))]
def zP.r2:List Oper:=[oM 2 (cI 0)]
def zP.r3:List Oper:=[oM 5 0,oD 6 (.nilck 5),oD 7 (.fa 0 6),oD 8 (.ld false 1 7),oD 9 (.len 8),oM 2 9]
def zP.code:Code:=.seq zP.r0 (.seq (.seq zP.r1 (.cond 4 (.seq zP.r2 (.ret)) (.skip))) (.seq zP.r3 (.ret)))
def zP:Func:=⟨10,[.t 2],zP.code⟩
/-! muntin/muntinref10.Same -/
def ZE.r0:List Oper:=[oM 4 (.c (.b false))]
def ZE.r1:List Oper:=[oM 6 0,oD 7 (.len 6),oM 8 1,oD 9 (.len 8),oD 10 (.eq true .sc 7 9)]
def ZE.r2:List Oper:=[oM 4 (.c (.b false))]
def ZE.r3:List Oper:=[oM 5 (cI 0)]
def ZE.r4:List Oper:=[oM 11 5,oM 12 0,oD 13 (.len 12),oD 14 (.bin .lss 11 13)]
def ZE.r6:List Oper:=[oM 17 0,oM 18 5,oD 19 (.ixa 8 17 18),oD 20 (.ld true 8 19),oM 21 1,oM 22 5,oD 23 (.ixa 8 21 22),oD 24 (.ld true 8 23),oD 25 (.eq true (.fl [.i,.i,.i,.i,.i,.i,.i,.i]) 20 24)]
def ZE.r7:List Oper:=[oM 4 (.c (.b false))]
def ZE.r5:List Oper:=[oM 15 5,oD 16 (.bin .add 15 (cI 1)),oM 5 16]
def ZE.l0:Code:=.seq (.seq ZE.r4 (.cond 14 (.skip) (.exit 0))) (.seq (.block 1 (.seq (.draw ZE.r6 [(3,7)]) (.cond 25 (.seq ZE.r7 (.ret)) (.skip)))) ZE.r5)
def ZE.r8:List Oper:=[oM 4 (.c (.b true))]
def ZE.code:Code:=.seq ZE.r0 (.seq (.seq ZE.r1 (.cond 10 (.seq ZE.r2 (.ret)) (.skip))) (.seq (.seq ZE.r3 (.block 0 (.loop ZE.l0))) (.seq ZE.r8 (.ret))))
def ZE:Func:=⟨26,[.t 4],ZE.code⟩
/-! (*muntin/grid.Grid).Cells -/
def z7.r0:List Oper:=[oM 2 (.c (.sn))]
def z7.r1:List Oper:=[oM 3 0,oD 4 (.eq false .pt 3 (.c (.pn)))]
def z7.r2:List Oper:=[oM 2 (.c (.sn))]
def z7.r3:List Oper:=[oM 5 0,oD 6 (.nilck 5),oD 7 (.fa 0 6),oD 8 (.ld false 1 7),oC 9 51 [8],oM 2 9]
def z7.code:Code:=.seq z7.r0 (.seq (.seq z7.r1 (.cond 4 (.seq z7.r2 (.ret)) (.skip))) (.seq z7.r3 (.ret)))
def z7:Func:=⟨10,[.t 2],z7.code⟩
/-! muntin/kitty.right -/
def Zba.r0:List Oper:=[oM 2 (.c (.b false))]
def Zba.r1:List Oper:=[oM 3 0,oC 4 78 [3,.c (.f 80 [])],oD 5 (.un .not 4),oM 2 5]
def Zba.code:Code:=.seq Zba.r0 (.seq Zba.r1 (.ret))
def Zba:Func:=⟨6,[.t 2],Zba.code⟩
/-! muntin/kitty.rot -/
def Za0.r0:List Oper:=[oD 4 (.box 1),oD 5 (.box 2),oM 6 (cI 0)]
def Za0.r1:List Oper:=[oM 8 0,oD 9 (.fa 0 5),oD 10 (.ld false 1 9),oD 11 (.ixa 1 8 10),oD 12 (.ld false 1 11),oD 13 (.fa 1 5),oD 14 (.ld false 1 13),oD 15 (.bin .sub 12 14),oM 16 0,oD 17 (.fa 0 4),oD 18 (.ld false 1 17),oD 19 (.ixa 1 16 18),oD 20 (.ld false 1 19),oD 21 (.fa 1 4),oD 22 (.ld false 1 21),oD 23 (.bin .sub 20 22),oD 24 (.bin .sub 15 23),oM 7 24]
def Za0.r2:List Oper:=[oD 25 (.fa 0 5),oD 26 (.ld false 1 25),oD 27 (.fa 0 4),oD 28 (.ld false 1 27),oD 29 (.bin .lss 26 28),oM 30 29,oF 31 30 (.fa 0 5),oF 32 30 (.ld false 1 31),oF 33 30 (.fa 0 4),oF 34 30 (.ld false 1 33),oF 35 30 (.eq false .sc 32 34),oF 36 30 (.mv 35),oT 37 36 (.fa 1 5),oT 38 36 (.ld false 1 37),oT 39 36 (.fa 1 4),oT 40 36 (.ld false 1 39),oT 41 36 (.bin .lss 38 40),oF 42 30 (.pick 36 41 (.c (.b false))),oD 43 (.pick 30 (.c (.b true)) 42)]
def Za0.r3:List Oper:=[oM 44 7,oM 45 0,oM 46 0,oD 47 (.len 46),oD 48 (.bin .sub 47 (cI 1)),oD 49 (.ixa 1 45 48),oD 50 (.ld false 1 49),oD 51 (.bin .add 44 50),oM 7 51]
def Za0.r4:List Oper:=[oM 52 7,oM 6 52]
def Za0.code:Code:=.seq Za0.r0 (.seq (.draw Za0.r1 [(2,6),(4,6),(2,10),(4,10),(6,10),(2,12),(4,12),(6,12),(2,14),(4,14),(6,14),(10,14),(12,14)]) (.seq (.seq Za0.r2 (.cond 43 Za0.r3 (.skip))) (.seq Za0.r4 (.ret))))
def Za0:Func:=⟨53,[.t 6],Za0.code⟩
/-! muntin/kitty.sums -/
def zo.r0:List Oper:=[oM 2 (.c (.sn))]
def zo.r1:List Oper:=[oM 6 0,oD 7 (.len 6),oD 8 (.bin .add 7 (cI 1)),oD 9 (.mks 1 8 [.n 0] 8 8),oM 3 9]
def zo.r2:List Oper:=[oM 10 0,oD 11 (.len 10),oM 12 (cI 0)]
def zo.r3:List Oper:=[oD 13 (.bin .lss 12 11)]
def zo.r4:List Oper:=[oM 14 12,oD 15 (.ixa 1 10 12),oD 16 (.ld false 1 15),oM 4 14,oM 5 16]
def zo.r5:List Oper:=[oM 17 3,oM 18 4,oD 19 (.bin .add 18 (cI 1)),oM 20 3,oM 21 4,oD 22 (.ixa 1 20 21),oD 23 (.ld false 1 22),oM 24 5,oD 25 (.bin .add 23 24),oD 26 (.ixa 1 17 19),oN (.st 1 26 25)]
def zo.r6:List Oper:=[oD 27 (.bin .add 12 (cI 1)),oM 12 27]
def zo.l0:Code:=.seq zo.r3 (.seq (.cond 13 (.skip) (.exit 0)) (.seq (.block 1 (.seq zo.r4 zo.r5)) zo.r6))
def zo.r7:List Oper:=[oM 28 3,oM 2 28]
def zo.code:Code:=.seq zo.r0 (.seq zo.r1 (.seq (.seq zo.r2 (.block 0 (.loop zo.l0))) (.seq zo.r7 (.ret))))
def zo:Func:=⟨29,[.t 2],zo.code⟩
/-! muntin/muntinref10.Nearest -/
def Zw.r0:List Oper:=[oM 6 (cI 0)]
def Zw.r1:List Oper:=[oM 7 (cI (-1))]
def Zw.r2:List Oper:=[oM 8 (cI 0)]
def Zw.r3:List Oper:=[oM 9 8,oM 10 0,oD 11 (.len 10),oD 12 (.bin .lss 9 11)]
def Zw.r5:List Oper:=[oM 15 2,oD 16 (.eq false .sc 15 (cI 0)),oM 17 16,oT 18 17 (.mv 0),oT 19 17 (.mv 8),oT 20 17 (.ixa 2 18 19),oT 21 17 (.fa 1 20),oT 22 17 (.ld false 1 21),oT 23 17 (.mv 0),oT 24 17 (.mv 1),oT 25 17 (.ixa 2 23 24),oT 26 17 (.fa 1 25),oT 27 17 (.ld false 1 26),oT 28 17 (.eq false .sc 22 27),oD 29 (.pick 17 28 (.c (.b false))),oM 30 29,oT 31 30 (.mv 0),oT 32 30 (.mv 8),oT 33 30 (.ixa 2 31 32),oT 34 30 (.fa 0 33),oT 35 30 (.ld false 1 34),oT 36 30 (.mv 0),oT 37 30 (.mv 1),oT 38 30 (.ixa 2 36 37),oT 39 30 (.fa 0 38),oT 40 30 (.ld false 1 39),oT 41 30 (.bin .gtr 35 40),oD 42 (.pick 30 41 (.c (.b false))),oM 43 42,oT 44 43 (.mv 7),oT 45 43 (.bin .lss 44 (cI 0)),oT 46 43 (.mv 45),oF 47 46 (.mv 0),oF 48 46 (.mv 8),oF 49 46 (.ixa 2 47 48),oF 50 46 (.fa 0 49),oF 51 46 (.ld false 1 50),oF 52 46 (.mv 0),oF 53 46 (.mv 7),oF 54 46 (.ixa 2 52 53),oF 55 46 (.fa 0 54),oF 56 46 (.ld false 1 55),oF 57 46 (.bin .lss 51 56),oT 58 43 (.pick 46 (.c (.b true)) 57),oD 59 (.pick 43 58 (.c (.b false)))]
def Zw.r6:List Oper:=[oM 60 8,oM 7 60]
def Zw.r7:List Oper:=[oM 61 2,oD 62 (.eq false .sc 61 (cI 1)),oM 63 62,oT 64 63 (.mv 0),oT 65 63 (.mv 8),oT 66 63 (.ixa 2 64 65),oT 67 63 (.fa 0 66),oT 68 63 (.ld false 1 67),oT 69 63 (.mv 0),oT 70 63 (.mv 1),oT 71 63 (.ixa 2 69 70),oT 72 63 (.fa 0 71),oT 73 63 (.ld false 1 72),oT 74 63 (.eq false .sc 68 73),oD 75 (.pick 63 74 (.c (.b false))),oM 76 75,oT 77 76 (.mv 0),oT 78 76 (.mv 8),oT 79 76 (.ixa 2 77 78),oT 80 76 (.fa 1 79),oT 81 76 (.ld false 1 80),oT 82 76 (.mv 0),oT 83 76 (.mv 1),oT 84 76 (.ixa 2 82 83),oT 85 76 (.fa 1 84),oT 86 76 (.ld false 1 85),oT 87 76 (.bin .gtr 81 86),oD 88 (.pick 76 87 (.c (.b false))),oM 89 88,oT 90 89 (.mv 7),oT 91 89 (.bin .lss 90 (cI 0)),oT 92 89 (.mv 91),oF 93 92 (.mv 0),oF 94 92 (.mv 8),oF 95 92 (.ixa 2 93 94),oF 96 92 (.fa 1 95),oF 97 92 (.ld false 1 96),oF 98 92 (.mv 0),oF 99 92 (.mv 7),oF 100 92 (.ixa 2 98 99),oF 101 92 (.fa 1 100),oF 102 92 (.ld false 1 101),oF 103 92 (.bin .lss 97 102),oT 104 89 (.pick 92 (.c (.b true)) 103),oD 105 (.pick 89 104 (.c (.b false)))]
def Zw.r8:List Oper:=[oM 106 8,oM 7 106]
def Zw.r4:List Oper:=[oM 13 8,oD 14 (.bin .add 13 (cI 1)),oM 8 14]
def Zw.l0:Code:=.seq (.seq Zw.r3 (.cond 12 (.skip) (.exit 0))) (.seq (.block 1 (.seq (.seq (.draw Zw.r5 [(7,12),(20,25),(36,41)]) (.cond 59 Zw.r6 (.skip))) (.seq (.draw Zw.r7 [(7,12),(20,25),(36,41)]) (.cond 105 Zw.r8 (.skip))))) Zw.r4)
def Zw.r9:List Oper:=[oM 107 7,oM 6 107]
def Zw.code:Code:=.seq Zw.r0 (.seq Zw.r1 (.seq (.seq Zw.r2 (.block 0 (.loop Zw.l0))) (.seq Zw.r9 (.ret))))
def Zw:Func:=⟨108,[.t 6],Zw.code⟩
/-! muntin/muntinref10.Crossed -/
def Zi.r0:List Oper:=[oM 8 (.c (.b false))]
def Zi.r1:List Oper:=[oM 9 (cI 0)]
def Zi.r2:List Oper:=[oM 14 9,oM 15 1,oD 16 (.len 15),oD 17 (.bin .lss 14 16)]
def Zi.r4:List Oper:=[oM 10 (cI 0)]
def Zi.r5:List Oper:=[oM 20 10,oD 21 (.bin .lss 20 (cI 2))]
def Zi.r7:List Oper:=[oM 24 1,oM 25 9,oM 26 10,oD 27 (.ixa 8 24 25),oD 28 (.fa 0 27),oD 29 (.ixaa 1 4 28 26),oD 30 (.ld false 1 29),oM 11 30]
def Zi.r8:List Oper:=[oM 31 11,oD 32 (.bin .lss 31 (cI 0))]
def Zi.r9:List Oper:=[oM 33 0,oM 34 9,oD 35 (.ixa 2 33 34),oD 36 (.ld true 2 35),oD 12 (.alloc [.n 0,.n 0]),oN (.st 2 12 36)]
def Zi.r10:List Oper:=[oM 37 0,oM 38 11,oD 39 (.ixa 2 37 38),oD 40 (.ld true 2 39),oD 13 (.alloc [.n 0,.n 0]),oN (.st 2 13 40)]
def Zi.r11:List Oper:=[oD 41 (.fa 1 12),oD 42 (.ld false 1 41),oD 43 (.fa 1 13),oD 44 (.ld false 1 43),oD 45 (.eq false .sc 42 44),oM 46 45,oT 47 46 (.mv 0),oT 48 46 (.mv 2),oT 49 46 (.ixa 2 47 48),oT 50 46 (.fa 0 49),oT 51 46 (.ld false 1 50),oT 52 46 (.mv 0),oT 53 46 (.mv 3),oT 54 46 (.ixa 2 52 53),oT 55 46 (.fa 0 54),oT 56 46 (.ld false 1 55),oT 57 46 (.eq false .sc 51 56),oD 58 (.pick 46 57 (.c (.b false))),oM 59 58,oT 60 59 (.fa 0 12),oT 61 59 (.ld false 1 60),oT 62 59 (.mv 0),oT 63 59 (.mv 2),oT 64 59 (.ixa 2 62 63),oT 65 59 (.fa 0 64),oT 66 59 (.ld false 1 65),oT 67 59 (.bin .lss 61 66),oD 68 (.pick 59 67 (.c (.b false))),oM 69 68,oT 70 69 (.mv 0),oT 71 69 (.mv 2),oT 72 69 (.ixa 2 70 71),oT 73 69 (.fa 0 72),oT 74 69 (.ld false 1 73),oT 75 69 (.fa 0 13),oT 76 69 (.ld false 1 75),oT 77 69 (.bin .lss 74 76),oD 78 (.pick 69 77 (.c (.b false))),oM 79 78,oT 80 79 (.mv 0),oT 81 79 (.mv 2),oT 82 79 (.ixa 2 80 81),oT 83 79 (.fa 1 82),oT 84 79 (.ld false 1 83),oT 85 79 (.fa 1 12),oT 86 79 (.ld false 1 85),oT 87 79 (.bin .lss 84 86),oD 88 (.pick 79 87 (.c (.b false))),oM 89 88,oT 90 89 (.fa 1 12),oT 91 89 (.ld false 1 90),oT 92 89 (.mv 0),oT 93 89 (.mv 3),oT 94 89 (.ixa 2 92 93),oT 95 89 (.fa 1 94),oT 96 89 (.ld false 1 95),oT 97 89 (.bin .lss 91 96),oD 98 (.pick 89 97 (.c (.b false)))]
def Zi.r12:List Oper:=[oM 8 (.c (.b true))]
def Zi.r13:List Oper:=[oD 99 (.fa 0 12),oD 100 (.ld false 1 99),oD 101 (.fa 0 13),oD 102 (.ld false 1 101),oD 103 (.eq false .sc 100 102),oM 104 103,oT 105 104 (.mv 0),oT 106 104 (.mv 2),oT 107 104 (.ixa 2 105 106),oT 108 104 (.fa 1 107),oT 109 104 (.ld false 1 108),oT 110 104 (.mv 0),oT 111 104 (.mv 3),oT 112 104 (.ixa 2 110 111),oT 113 104 (.fa 1 112),oT 114 104 (.ld false 1 113),oT 115 104 (.eq false .sc 109 114),oD 116 (.pick 104 115 (.c (.b false))),oM 117 116,oT 118 117 (.mv 0),oT 119 117 (.mv 2),oT 120 117 (.ixa 2 118 119),oT 121 117 (.fa 0 120),oT 122 117 (.ld false 1 121),oT 123 117 (.fa 0 12),oT 124 117 (.ld false 1 123),oT 125 117 (.bin .lss 122 124),oD 126 (.pick 117 125 (.c (.b false))),oM 127 126,oT 128 127 (.fa 0 12),oT 129 127 (.ld false 1 128),oT 130 127 (.mv 0),oT 131 127 (.mv 3),oT 132 127 (.ixa 2 130 131),oT 133 127 (.fa 0 132),oT 134 127 (.ld false 1 133),oT 135 127 (.bin .lss 129 134),oD 136 (.pick 127 135 (.c (.b false))),oM 137 136,oT 138 137 (.fa 1 12),oT 139 137 (.ld false 1 138),oT 140 137 (.mv 0),oT 141 137 (.mv 2),oT 142 137 (.ixa 2 140 141),oT 143 137 (.fa 1 142),oT 144 137 (.ld false 1 143),oT 145 137 (.bin .lss 139 144),oD 146 (.pick 137 145 (.c (.b false))),oM 147 146,oT 148 147 (.mv 0),oT 149 147 (.mv 2),oT 150 147 (.ixa 2 148 149),oT 151 147 (.fa 1 150),oT 152 147 (.ld false 1 151),oT 153 147 (.fa 1 13),oT 154 147 (.ld false 1 153),oT 155 147 (.bin .lss 152 154),oD 156 (.pick 147 155 (.c (.b false)))]
def Zi.r14:List Oper:=[oM 8 (.c (.b true))]
def Zi.r6:List Oper:=[oM 22 10,oD 23 (.bin .add 22 (cI 1)),oM 10 23]
def Zi.l0:Code:=.seq (.seq Zi.r5 (.cond 21 (.skip) (.exit 2))) (.seq (.block 3 (.seq Zi.r7 (.seq (.seq Zi.r8 (.cond 32 (.exit 3) (.skip))) (.seq Zi.r9 (.seq Zi.r10 (.seq (.seq (.draw Zi.r11 [(1,3),(10,15),(20,25),(33,35),(43,45),(50,55)]) (.cond 98 (.seq Zi.r12 (.ret)) (.skip))) (.seq (.draw Zi.r13 [(1,3),(10,15),(23,25),(30,35),(40,45),(53,55)]) (.cond 156 (.seq Zi.r14 (.ret)) (.skip))))))))) Zi.r6)
def Zi.r3:List Oper:=[oM 18 9,oD 19 (.bin .add 18 (cI 1)),oM 9 19]
def Zi.l1:Code:=.seq (.seq Zi.r2 (.cond 17 (.skip) (.exit 0))) (.seq (.block 1 (.seq Zi.r4 (.block 2 (.loop Zi.l0)))) Zi.r3)
def Zi.r15:List Oper:=[oM 8 (.c (.b false))]
def Zi.code:Code:=.seq Zi.r0 (.seq (.seq Zi.r1 (.block 0 (.loop Zi.l1))) (.seq Zi.r15 (.ret)))
def Zi:Func:=⟨157,[.t 8],Zi.code⟩
/-! muntin/muntinref10.with -/
def Zu.r0:List Oper:=[oM 10 (.c (.sn))]
def Zu.r1:List Oper:=[oM 11 (.c (.sn))]
def Zu.r2:List Oper:=[oM 12 (cI 0)]
def Zu.r3:List Oper:=[oM 14 12,oM 15 0,oD 16 (.len 15),oD 17 (.bin .lss 14 16)]
def Zu.r5:List Oper:=[oM 20 0,oM 21 12,oD 22 (.ixa 8 20 21),oD 23 (.ld true 8 22),oD 13 (.alloc [.n 0,.n 0,.n 0,.n 0,.n 0,.n 0,.n 0,.n 0]),oN (.st 8 13 23)]
def Zu.r6:List Oper:=[oM 24 12,oM 25 1,oD 26 (.eq false .sc 24 25)]
def Zu.r7:List Oper:=[oM 27 2,oM 28 3,oD 29 (.fa 0 13),oD 30 (.ixaa 1 4 29 27),oN (.st 1 30 28)]
def Zu.r8:List Oper:=[oM 31 2,oM 32 4,oD 33 (.fa 4 13),oD 34 (.ixaa 1 4 33 31),oN (.st 1 34 32)]
def Zu.r9:List Oper:=[oM 35 12,oM 36 3,oD 37 (.eq false .sc 35 36)]
def Zu.r10:List Oper:=[oM 38 2,oD 39 (.bin .add 38 (cI 2)),oD 40 (.bin .rem 39 (cI 4)),oM 41 1,oD 42 (.fa 0 13),oD 43 (.ixaa 1 4 42 40),oN (.st 1 43 41)]
def Zu.r11:List Oper:=[oM 44 2,oD 45 (.bin .add 44 (cI 2)),oD 46 (.bin .rem 45 (cI 4)),oM 47 4,oD 48 (.fa 4 13),oD 49 (.ixaa 1 4 48 46),oN (.st 1 49 47)]
def Zu.r12:List Oper:=[oM 50 11,oD 51 (.ld true 8 13),oD 52 (.bsl 8 1 [.n 0,.n 0,.n 0,.n 0,.n 0,.n 0,.n 0,.n 0] [(0,8,.t 51)]),oD 53 (.app 8 64 50 52),oM 11 53]
def Zu.r4:List Oper:=[oM 18 12,oD 19 (.bin .add 18 (cI 1)),oM 12 19]
def Zu.l0:Code:=.seq (.seq Zu.r3 (.cond 17 (.skip) (.exit 0))) (.seq (.block 1 (.seq Zu.r5 (.seq (.seq Zu.r6 (.cond 26 (.seq Zu.r7 Zu.r8) (.skip))) (.seq (.seq Zu.r9 (.cond 37 (.seq Zu.r10 Zu.r11) (.skip))) Zu.r12)))) Zu.r4)
def Zu.r13:List Oper:=[oM 54 11,oM 10 54]
def Zu.code:Code:=.seq Zu.r0 (.seq Zu.r1 (.seq (.seq Zu.r2 (.block 0 (.loop Zu.l0))) (.seq Zu.r13 (.ret))))
def Zu:Func:=⟨55,[.t 10],Zu.code⟩
/-! muntin/grid.Check -/
def ZF.r0:List Oper:=[oM 2 (cI 0)]
def ZF.r1:List Oper:=[oM 6 0,oD 7 (.len 6),oD 8 (.bin .gtr 7 (cI 4096))]
def ZF.r2:List Oper:=[oM 2 (cI 6)]
def ZF.r3:List Oper:=[oM 9 0,oD 10 (.len 9),oM 11 (cI 0)]
def ZF.r4:List Oper:=[oD 12 (.bin .lss 11 10)]
def ZF.r5:List Oper:=[oM 13 11,oM 3 13]
def ZF.r6:List Oper:=[oM 14 (cI 0)]
def ZF.r7:List Oper:=[oD 15 (.bin .lss 14 (cI 4))]
def ZF.r8:List Oper:=[oM 16 14,oM 4 16]
def ZF.r9:List Oper:=[oM 17 0,oM 18 3,oM 19 4,oC 20 82 [17,18,19],oM 5 20]
def ZF.r10:List Oper:=[oM 21 5,oD 22 (.eq true .sc 21 (cI 0))]
def ZF.r11:List Oper:=[oM 23 5,oM 2 23]
def ZF.r12:List Oper:=[oD 24 (.bin .add 14 (cI 1)),oM 14 24]
def ZF.l0:Code:=.seq ZF.r7 (.seq (.cond 15 (.skip) (.exit 2)) (.seq (.block 3 (.seq ZF.r8 (.seq ZF.r9 (.seq ZF.r10 (.cond 22 (.seq ZF.r11 (.ret)) (.skip)))))) ZF.r12))
def ZF.r13:List Oper:=[oD 25 (.bin .add 11 (cI 1)),oM 11 25]
def ZF.l1:Code:=.seq ZF.r4 (.seq (.cond 12 (.skip) (.exit 0)) (.seq (.block 1 (.seq ZF.r5 (.seq ZF.r6 (.block 2 (.loop ZF.l0))))) ZF.r13))
def ZF.r14:List Oper:=[oM 2 (cI 0)]
def ZF.code:Code:=.seq ZF.r0 (.seq (.seq ZF.r1 (.cond 8 (.seq ZF.r2 (.ret)) (.skip))) (.seq (.seq ZF.r3 (.block 0 (.loop ZF.l1))) (.seq ZF.r14 (.ret))))
def ZF:Func:=⟨26,[.t 2],ZF.code⟩
/-! muntin/join.spread -/
def Z2.r0:List Oper:=[oM 4 (.c (.sn)),oM 5 (.c (.sn))]
def Z2.r1:List Oper:=[oD 13 (.bsl 1 1 [.n 0] [(0,1,.c (.n (-1)))]),oM 14 0,oD 15 (.len 14),oC 16 83 [13,15],oD 17 (.bsl 1 1 [.n 0] [(0,1,.c (.n (-1)))]),oM 18 0,oD 19 (.len 18),oC 20 83 [17,19],oM 6 16,oM 7 20]
def Z2.r2:List Oper:=[oM 21 1,oD 22 (.bsl 1 1 [.n 0] [(0,1,.t 21)]),oM 8 22]
def Z2.r3:List Oper:=[oM 23 0,oD 24 (.len 23),oD 25 (.mks 1 1 [.b false] 24 24),oM 9 25]
def Z2.r4:List Oper:=[oM 26 9,oM 27 1,oD 28 (.ixa 1 26 27),oN (.st 1 28 (.c (.b true)))]
def Z2.r5:List Oper:=[oM 29 8,oD 30 (.len 29),oD 31 (.bin .gtr 30 (cI 0))]
def Z2.r6:List Oper:=[oM 32 8,oD 33 (.ixa 1 32 (cI 0)),oD 34 (.ld false 1 33),oM 10 34]
def Z2.r7:List Oper:=[oM 35 8,oD 36 (.slc 1 35 (some (cI 1)) none none),oM 8 36]
def Z2.r8:List Oper:=[oM 37 (cI 0)]
def Z2.r9:List Oper:=[oD 38 (.bin .lss 37 (cI 4))]
def Z2.r10:List Oper:=[oM 39 37,oM 11 39]
def Z2.r11:List Oper:=[oM 40 0,oM 41 10,oM 42 11,oD 43 (.ixa 8 40 41),oD 44 (.fa 0 43),oD 45 (.ixaa 1 4 44 42),oD 46 (.ld false 1 45),oM 12 46]
def Z2.r12:List Oper:=[oM 47 12,oD 48 (.bin .geq 47 (cI 0)),oM 49 48,oT 50 49 (.mv 9),oT 51 49 (.mv 12),oT 52 49 (.ixa 1 50 51),oT 53 49 (.ld false 1 52),oT 54 49 (.un .not 53),oD 55 (.pick 49 54 (.c (.b false)))]
def Z2.r13:List Oper:=[oM 56 9,oM 57 12,oM 58 6,oM 59 12,oM 60 7,oM 61 12,oM 62 10,oM 63 11,oD 64 (.ixa 1 56 57),oN (.st 1 64 (.c (.b true))),oD 65 (.ixa 1 58 59),oN (.st 1 65 62),oD 66 (.ixa 1 60 61),oN (.st 1 66 63)]
def Z2.r14:List Oper:=[oM 67 8,oM 68 12,oD 69 (.bsl 1 1 [.n 0] [(0,1,.t 68)]),oD 70 (.app 1 8 67 69),oM 8 70]
def Z2.r15:List Oper:=[oD 71 (.bin .add 37 (cI 1)),oM 37 71]
def Z2.l0:Code:=.seq Z2.r9 (.seq (.cond 38 (.skip) (.exit 2)) (.seq (.block 3 (.seq Z2.r10 (.seq Z2.r11 (.seq Z2.r12 (.cond 55 (.seq Z2.r13 Z2.r14) (.skip)))))) Z2.r15))
def Z2.l1:Code:=.seq (.seq Z2.r5 (.cond 31 (.skip) (.exit 0))) (.block 1 (.seq Z2.r6 (.seq Z2.r7 (.seq Z2.r8 (.block 2 (.loop Z2.l0))))))
def Z2.r16:List Oper:=[oM 72 6,oM 73 7,oM 4 72,oM 5 73]
def Z2.code:Code:=.seq Z2.r0 (.seq Z2.r1 (.seq Z2.r2 (.seq Z2.r3 (.seq Z2.r4 (.seq (.block 0 (.loop Z2.l1)) (.seq Z2.r16 (.ret)))))))
def Z2:Func:=⟨74,[.t 4,.t 5],Z2.code⟩
/-! (*muntin/grid.Grid).is -/
def ZaP.r0:List Oper:=[oM 6 (.c (.b false))]
def ZaP.r1:List Oper:=[oM 7 1,oD 8 (.bin .geq 7 (cI 0)),oM 9 8,oT 10 9 (.mv 1),oT 11 9 (.mv 0),oT 12 9 (.call (.c (.f 55 [])) [11]),oT 13 9 (.bin .lss 10 12),oD 14 (.pick 9 13 (.c (.b false))),oM 15 14,oT 16 15 (.mv 2),oT 17 15 (.call (.c (.f 90 [])) [16]),oD 18 (.pick 15 17 (.c (.b false))),oM 6 18]
def ZaP.code:Code:=.seq ZaP.r0 (.seq ZaP.r1 (.ret))
def ZaP:Func:=⟨19,[.t 6],ZaP.code⟩
/-! (*muntin/grid.Grid).lay -/
def Zal.r0:List Oper:=[oM 11 2,oC 12 77 [11,.c (.n 2)],oM 10 12]
def Zal.r1:List Oper:=[oM 13 0,oD 14 (.nilck 13),oD 15 (.fa 0 14),oD 16 (.ld false 1 15),oM 17 1,oM 18 2,oM 19 0,oD 20 (.nilck 19),oD 21 (.fa 0 20),oD 22 (.ld false 1 21),oM 23 1,oM 24 2,oM 25 3,oM 26 4,oD 27 (.ixa 8 16 17),oD 28 (.fa 0 27),oD 29 (.ixaa 1 4 28 18),oN (.st 1 29 25),oD 30 (.ixa 8 22 23),oD 31 (.fa 4 30),oD 32 (.ixaa 1 4 31 24),oN (.st 1 32 26)]
def Zal.r2:List Oper:=[oM 33 0,oD 34 (.nilck 33),oD 35 (.fa 0 34),oD 36 (.ld false 1 35),oM 37 3,oM 38 10,oM 39 0,oD 40 (.nilck 39),oD 41 (.fa 0 40),oD 42 (.ld false 1 41),oM 43 3,oM 44 10,oM 45 1,oM 46 4,oD 47 (.ixa 8 36 37),oD 48 (.fa 0 47),oD 49 (.ixaa 1 4 48 38),oN (.st 1 49 45),oD 50 (.ixa 8 42 43),oD 51 (.fa 4 50),oD 52 (.ixaa 1 4 51 44),oN (.st 1 52 46)]
def Zal.code:Code:=.seq Zal.r0 (.seq (.draw Zal.r1 [(3,9)]) (.draw Zal.r2 [(3,9)]))
def Zal:Func:=⟨53,[],Zal.code⟩
/-! muntin/compass.Left -/
def Zaa.r0:List Oper:=[oM 4 (cI 0)]
def Zaa.r1:List Oper:=[oM 5 0,oC 6 90 [5],oD 7 (.un .not 6)]
def Zaa.r2:List Oper:=[oM 4 (cI 0)]
def Zaa.r3:List Oper:=[oM 8 0,oM 9 1,oD 10 (.bin .rem 9 (cI 4)),oD 11 (.bin .add 8 10),oD 12 (.bin .add 11 (cI 4)),oD 13 (.bin .rem 12 (cI 4)),oM 4 13]
def Zaa.code:Code:=.seq Zaa.r0 (.seq (.seq Zaa.r1 (.cond 7 (.seq Zaa.r2 (.ret)) (.skip))) (.seq Zaa.r3 (.ret)))
def Zaa:Func:=⟨14,[.t 4],Zaa.code⟩
/-! slices.ContainsFunc[[]int,int] -/
def zt.r0:List Oper:=[oM 4 (.c (.b false))]
def zt.r1:List Oper:=[oM 5 0,oM 6 1,oC 7 91 [5,6],oD 8 (.bin .geq 7 (cI 0)),oM 4 8]
def zt.code:Code:=.seq zt.r0 (.seq zt.r1 (.ret))
def zt:Func:=⟨9,[.t 4],zt.code⟩
/-! muntin/kitty.right$1 -/
def Za8.r0:List Oper:=[oM 2 (.c (.b false))]
def Za8.r1:List Oper:=[oM 3 0,oD 4 (.bin .lss 3 (cI (-2))),oM 5 4,oF 6 5 (.mv 0),oF 7 5 (.bin .gtr 6 (cI 1)),oD 8 (.pick 5 (.c (.b true)) 7),oM 2 8]
def Za8.code:Code:=.seq Za8.r0 (.seq Za8.r1 (.ret))
def Za8:Func:=⟨9,[.t 2],Za8.code⟩
/-! muntin/grid.side -/
def zd.r0:List Oper:=[oM 6 (cI 0)]
def zd.r1:List Oper:=[oM 10 0,oM 11 1,oM 12 2,oD 13 (.ixa 8 10 11),oD 14 (.fa 0 13),oD 15 (.ixaa 1 4 14 12),oD 16 (.ld false 1 15),oM 17 0,oM 18 1,oM 19 2,oD 20 (.ixa 8 17 18),oD 21 (.fa 4 20),oD 22 (.ixaa 1 4 21 19),oD 23 (.ld false 1 22),oM 7 16,oM 8 23]
def zd.r2:List Oper:=[oM 24 7,oD 25 (.eq false .sc 24 (cI (-1)))]
def zd.r3:List Oper:=[oM 26 8,oD 27 (.eq true .sc 26 (cI 0))]
def zd.r4:List Oper:=[oM 6 (cI 9)]
def zd.r5:List Oper:=[oM 6 (cI 0)]
def zd.r6:List Oper:=[oM 28 7,oD 29 (.bin .lss 28 (cI 0)),oM 30 29,oF 31 30 (.mv 7),oF 32 30 (.mv 0),oF 33 30 (.len 32),oF 34 30 (.bin .geq 31 33),oD 35 (.pick 30 (.c (.b true)) 34),oM 36 35,oF 37 36 (.mv 7),oF 38 36 (.mv 1),oF 39 36 (.eq false .sc 37 38),oD 40 (.pick 36 (.c (.b true)) 39)]
def zd.r7:List Oper:=[oM 6 (cI 3)]
def zd.r8:List Oper:=[oM 41 2,oC 42 77 [41,.c (.n 2)],oM 9 42]
def zd.r9:List Oper:=[oM 43 0,oM 44 7,oM 45 9,oD 46 (.ixa 8 43 44),oD 47 (.fa 0 46),oD 48 (.ixaa 1 4 47 45),oD 49 (.ld false 1 48),oM 50 1,oD 51 (.eq true .sc 49 50),oM 52 51,oF 53 52 (.mv 0),oF 54 52 (.mv 7),oF 55 52 (.mv 9),oF 56 52 (.ixa 8 53 54),oF 57 52 (.fa 4 56),oF 58 52 (.ixaa 1 4 57 55),oF 59 52 (.ld false 1 58),oF 60 52 (.mv 8),oF 61 52 (.eq true .sc 59 60),oD 62 (.pick 52 (.c (.b true)) 61),oM 63 62,oF 64 63 (.mv 8),oF 65 63 (.bin .lss 64 (cI (-2))),oD 66 (.pick 63 (.c (.b true)) 65)]
def zd.r10:List Oper:=[oM 6 (cI 9)]
def zd.r11:List Oper:=[oM 6 (cI 0)]
def zd.code:Code:=.seq zd.r0 (.seq (.draw zd.r1 [(6,13)]) (.seq (.seq zd.r2 (.cond 25 (.seq (.seq zd.r3 (.cond 27 (.seq zd.r4 (.ret)) (.skip))) (.seq zd.r5 (.ret))) (.skip))) (.seq (.seq zd.r6 (.cond 40 (.seq zd.r7 (.ret)) (.skip))) (.seq zd.r8 (.seq (.seq zd.r9 (.cond 66 (.seq zd.r10 (.ret)) (.skip))) (.seq zd.r11 (.ret)))))))
def zd:Func:=⟨67,[.t 6],zd.code⟩
/-! slices.Repeat[[]int,int] -/
def Z0.r0:List Oper:=[oM 4 (.c (.sn))]
def Z0.r1:List Oper:=[oM 9 1,oD 10 (.bin .lss 9 (cI 0))]
def Z0.r2:List Oper:=[oD 11 (.bad),oN (.bad)]
def Z0.r3:List Oper:=[oM 13 0,oD 14 (.len 13),oD 15 (.conv .u64 14),oM 16 1,oD 17 (.conv .u64 16),oC 18 89 [15,17],oM 12 18,oD 19 (.ext 12 0),oD 20 (.ext 12 1),oM 5 19,oM 6 20]
def Z0.r4:List Oper:=[oM 21 5,oD 22 (.bin .gtr 21 (.c (.i .u64 0))),oM 23 22,oF 24 23 (.mv 6),oF 25 23 (.bin .gtr 24 (.c (.i .u64 9223372036854775807))),oD 26 (.pick 23 (.c (.b true)) 25)]
def Z0.r5:List Oper:=[oD 27 (.bad),oN (.bad)]
def Z0.r6:List Oper:=[oM 28 6,oD 29 (.conv .i64 28),oD 30 (.mks 1 8 [.n 0] 29 29),oM 7 30]
def Z0.r7:List Oper:=[oM 31 7,oM 32 0,oD 33 (.cpy 1 31 32),oM 8 33]
def Z0.r8:List Oper:=[oM 34 8,oM 35 7,oD 36 (.len 35),oD 37 (.bin .lss 34 36)]
def Z0.r9:List Oper:=[oM 38 8,oM 39 7,oM 40 8,oD 41 (.slc 1 39 (some 40) none none),oM 42 7,oM 43 8,oD 44 (.slc 1 42 none (some 43) none),oD 45 (.cpy 1 41 44),oD 46 (.bin .add 38 45),oM 8 46]
def Z0.l0:Code:=.seq (.seq Z0.r8 (.cond 37 (.skip) (.exit 0))) (.block 1 (.draw Z0.r9 []))
def Z0.r10:List Oper:=[oM 47 7,oM 4 47]
def Z0.code:Code:=.seq Z0.r0 (.seq (.seq Z0.r1 (.cond 10 Z0.r2 (.skip))) (.seq Z0.r3 (.seq (.seq Z0.r4 (.cond 26 Z0.r5 (.skip))) (.seq Z0.r6 (.seq Z0.r7 (.seq (.block 0 (.loop Z0.l0)) (.seq Z0.r10 (.ret))))))))
def Z0:Func:=⟨48,[.t 4],Z0.code⟩
/-! math/bits.Mul -/
def ZaF.r0:List Oper:=[oM 4 (.c (.i .u64 0)),oM 5 (.c (.i .u64 0))]
def ZaF.r1:List Oper:=[oM 11 0,oD 12 (.conv .u32 11),oM 13 1,oD 14 (.conv .u32 13),oC 15 97 [12,14],oM 10 15,oD 16 (.ext 10 0),oD 17 (.ext 10 1),oM 6 16,oM 7 17]
def ZaF.r2:List Oper:=[oM 18 6,oD 19 (.conv .u64 18),oM 20 7,oD 21 (.conv .u64 20),oM 4 19,oM 5 21]
def ZaF.r3:List Oper:=[oM 23 0,oM 24 1,oC 25 98 [23,24],oM 22 25,oD 26 (.ext 22 0),oD 27 (.ext 22 1),oM 8 26,oM 9 27]
def ZaF.r4:List Oper:=[oM 28 8,oM 29 9,oM 4 28,oM 5 29]
def ZaF.code:Code:=.seq ZaF.r0 (.seq (.cond (.c (.b false)) (.seq ZaF.r1 (.seq ZaF.r2 (.ret))) (.skip)) (.seq ZaF.r3 (.seq ZaF.r4 (.ret))))
def ZaF:Func:=⟨30,[.t 4,.t 5],ZaF.code⟩
/-! muntin/compass.Good -/
def ZaN.r0:List Oper:=[oM 2 (.c (.b false))]
def ZaN.r1:List Oper:=[oM 3 0,oD 4 (.bin .geq 3 (cI 0)),oM 5 4,oT 6 5 (.mv 0),oT 7 5 (.bin .leq 6 (cI 3)),oD 8 (.pick 5 7 (.c (.b false))),oM 2 8]
def ZaN.code:Code:=.seq ZaN.r0 (.seq ZaN.r1 (.ret))
def ZaN:Func:=⟨9,[.t 2],ZaN.code⟩
/-! slices.IndexFunc[[]int,int] -/
def Z5.r0:List Oper:=[oM 4 (cI 0)]
def Z5.r1:List Oper:=[oM 6 0,oD 7 (.len 6),oM 8 (cI 0)]
def Z5.r2:List Oper:=[oD 9 (.bin .lss 8 7)]
def Z5.r3:List Oper:=[oM 10 8,oM 5 10]
def Z5.r4:List Oper:=[oM 11 1,oM 12 0,oM 13 5,oD 14 (.ixa 1 12 13),oD 15 (.ld false 1 14),oD 16 (.call 11 [15])]
def Z5.r5:List Oper:=[oM 17 5,oM 4 17]
def Z5.r6:List Oper:=[oD 18 (.bin .add 8 (cI 1)),oM 8 18]
def Z5.l0:Code:=.seq Z5.r2 (.seq (.cond 9 (.skip) (.exit 0)) (.seq (.block 1 (.seq Z5.r3 (.seq Z5.r4 (.cond 16 (.seq Z5.r5 (.ret)) (.skip))))) Z5.r6))
def Z5.r7:List Oper:=[oM 4 (cI (-1))]
def Z5.code:Code:=.seq Z5.r0 (.seq (.seq Z5.r1 (.block 0 (.loop Z5.l0))) (.seq Z5.r7 (.ret)))
def Z5:Func:=⟨19,[.t 4],Z5.code⟩
/-! math/bits.Mul32 -/
def ZaM.r0:List Oper:=[oM 4 (.c (.i .u32 0)),oM 5 (.c (.i .u32 0))]
def ZaM.r1:List Oper:=[oM 7 0,oD 8 (.conv .u64 7),oM 9 1,oD 10 (.conv .u64 9),oD 11 (.bin .mul 8 10),oM 6 11]
def ZaM.r2:List Oper:=[oM 12 6,oD 13 (.bin .shr 12 (.c (.i .u64 32))),oD 14 (.conv .u32 13),oM 15 6,oD 16 (.conv .u32 15),oM 4 14,oM 5 16]
def ZaM.code:Code:=.seq ZaM.r0 (.seq ZaM.r1 (.seq ZaM.r2 (.ret)))
def ZaM:Func:=⟨17,[.t 4,.t 5],ZaM.code⟩
/-! math/bits.Mul64 -/
def ZV.r0:List Oper:=[oM 4 (.c (.i .u64 0)),oM 5 (.c (.i .u64 0))]
def ZV.r1:List Oper:=[oM 14 0,oD 15 (.bin .and 14 (.c (.i .u64 4294967295))),oM 6 15]
def ZV.r2:List Oper:=[oM 16 0,oD 17 (.bin .shr 16 (.c (.i .u64 32))),oM 7 17]
def ZV.r3:List Oper:=[oM 18 1,oD 19 (.bin .and 18 (.c (.i .u64 4294967295))),oM 8 19]
def ZV.r4:List Oper:=[oM 20 1,oD 21 (.bin .shr 20 (.c (.i .u64 32))),oM 9 21]
def ZV.r5:List Oper:=[oM 22 6,oM 23 8,oD 24 (.bin .mul 22 23),oM 10 24]
def ZV.r6:List Oper:=[oM 25 7,oM 26 8,oD 27 (.bin .mul 25 26),oM 28 10,oD 29 (.bin .shr 28 (.c (.i .u64 32))),oD 30 (.bin .add 27 29),oM 11 30]
def ZV.r7:List Oper:=[oM 31 11,oD 32 (.bin .and 31 (.c (.i .u64 4294967295))),oM 12 32]
def ZV.r8:List Oper:=[oM 33 11,oD 34 (.bin .shr 33 (.c (.i .u64 32))),oM 13 34]
def ZV.r9:List Oper:=[oM 35 12,oM 36 6,oM 37 9,oD 38 (.bin .mul 36 37),oD 39 (.bin .add 35 38),oM 12 39]
def ZV.r10:List Oper:=[oM 40 7,oM 41 9,oD 42 (.bin .mul 40 41),oM 43 13,oD 44 (.bin .add 42 43),oM 45 12,oD 46 (.bin .shr 45 (.c (.i .u64 32))),oD 47 (.bin .add 44 46),oM 4 47]
def ZV.r11:List Oper:=[oM 48 0,oM 49 1,oD 50 (.bin .mul 48 49),oM 5 50]
def ZV.code:Code:=.seq ZV.r0 (.seq ZV.r1 (.seq ZV.r2 (.seq ZV.r3 (.seq ZV.r4 (.seq ZV.r5 (.seq ZV.r6 (.seq ZV.r7 (.seq ZV.r8 (.seq ZV.r9 (.seq ZV.r10 (.seq ZV.r11 (.ret))))))))))))
def ZV:Func:=⟨51,[.t 4,.t 5],ZV.code⟩
/-! muntin/grid.Of -/
def ZaX.r0:List Oper:=[oM 2 (.c (.pn)),oM 3 (cI 0)]
def ZaX.r1:List Oper:=[oM 5 0,oC 6 66 [5],oM 4 6]
def ZaX.r2:List Oper:=[oM 7 4,oD 8 (.eq true .sc 7 (cI 0))]
def ZaX.r3:List Oper:=[oM 9 4,oM 2 (.c (.pn)),oM 3 9]
def ZaX.r4:List Oper:=[oM 10 0,oC 11 51 [10],oD 12 (.build [.sn] [(0,1,.t 11)]),oD 13 (.box 12),oM 2 13,oM 3 (cI 0)]
def ZaX.code:Code:=.seq ZaX.r0 (.seq (.seq ZaX.r1 (.seq ZaX.r2 (.cond 8 (.seq ZaX.r3 (.ret)) (.skip)))) (.seq ZaX.r4 (.ret)))
def ZaX:Func:=⟨14,[.t 2,.t 3],ZaX.code⟩
/-! muntin/valid.Check -/
def ZZ.r0:List Oper:=[oM 2 (cI 0)]
def ZZ.r1:List Oper:=[oM 6 0,oC 7 66 [6],oM 3 7]
def ZZ.r2:List Oper:=[oM 8 3,oD 9 (.eq true .sc 8 (cI 0))]
def ZZ.r3:List Oper:=[oM 10 3,oM 2 10]
def ZZ.r4:List Oper:=[oM 11 0,oC 12 32 [11],oD 13 (.un .not 12)]
def ZZ.r5:List Oper:=[oM 2 (cI 13)]
def ZZ.r6:List Oper:=[oM 15 0,oC 16 201 [15],oM 14 16,oD 17 (.ext 14 0),oD 18 (.ext 14 1),oM 4 17,oM 5 18]
def ZZ.r7:List Oper:=[oM 19 5,oD 20 (.un .not 19),oM 21 20,oT 22 21 (.mv 0),oT 23 21 (.len 22),oT 24 21 (.bin .gtr 23 (cI 1)),oD 25 (.pick 21 24 (.c (.b false)))]
def ZZ.r8:List Oper:=[oM 2 (cI 10)]
def ZZ.r9:List Oper:=[oM 2 (cI 0)]
def ZZ.code:Code:=.seq ZZ.r0 (.seq (.seq ZZ.r1 (.seq ZZ.r2 (.cond 9 (.seq ZZ.r3 (.ret)) (.skip)))) (.seq (.seq ZZ.r4 (.cond 13 (.seq ZZ.r5 (.ret)) (.skip))) (.seq (.seq ZZ.r6 (.seq ZZ.r7 (.cond 25 (.seq ZZ.r8 (.ret)) (.skip)))) (.seq ZZ.r9 (.ret)))))
def ZZ:Func:=⟨26,[.t 2],ZZ.code⟩
/-! muntin/muntinlaw22.wakes -/
def zc.r0:List Oper:=[oM 0 (.c (.b false))]
def zc.r1:List Oper:=[oC 10 213 [],oC 11 212 [10,.c (.sn)],oM 9 11,oD 12 (.ext 9 0),oD 13 (.ext 9 1),oD 14 (.ext 9 2),oM 1 12,oM 2 13,oM 3 14]
def zc.r2:List Oper:=[oM 16 1,oC 17 214 [16],oM 15 17,oD 18 (.ext 15 0),oD 19 (.ext 15 1),oM 4 18,oM 5 19]
def zc.r3:List Oper:=[oC 21 46 [.c (.n 2)],oC 22 212 [21,.c (.sn)],oM 20 22,oD 23 (.ext 20 0),oD 24 (.ext 20 1),oD 25 (.ext 20 2),oM 6 23,oM 7 24,oM 8 25]
def zc.r4:List Oper:=[oM 26 3,oD 27 (.eq false .sc 26 (cI 0)),oM 28 27,oT 29 28 (.mv 2),oT 30 28 (.bin .gtr 29 (cI 0)),oD 31 (.pick 28 30 (.c (.b false))),oM 32 31,oT 33 32 (.mv 2),oT 34 32 (.bin .lss 33 (cI 3)),oD 35 (.pick 32 34 (.c (.b false))),oM 36 35,oT 37 36 (.mv 5),oT 38 36 (.eq false .sc 37 (cI 0)),oD 39 (.pick 36 38 (.c (.b false))),oM 40 39,oT 41 40 (.mv 4),oT 42 40 (.call (.c (.f 213 [])) []),oT 43 40 (.call (.c (.f 56 [])) [41,42]),oD 44 (.pick 40 43 (.c (.b false))),oM 45 44,oT 46 45 (.mv 8),oT 47 45 (.eq false .sc 46 (cI 13)),oD 48 (.pick 45 47 (.c (.b false))),oM 0 48]
def zc.code:Code:=.seq zc.r0 (.seq zc.r1 (.seq zc.r2 (.seq zc.r3 (.seq zc.r4 (.ret)))))
def zc:Func:=⟨49,[.t 0],zc.code⟩
/-! muntin/valid.outer -/
def ZD.r0:List Oper:=[oM 2 (cI 0),oM 3 (.c (.b false))]
def ZD.r1:List Oper:=[oM 10 0,oC 11 203 [10],oM 9 11,oD 12 (.ext 9 0),oD 13 (.ext 9 1),oM 4 12,oM 5 13]
def ZD.r2:List Oper:=[oM 6 (cI (-1))]
def ZD.r3:List Oper:=[oM 14 4,oD 15 (.len 14),oM 16 (cI 0)]
def ZD.r4:List Oper:=[oD 17 (.bin .lss 16 15)]
def ZD.r5:List Oper:=[oM 18 16,oD 19 (.ixa 1 14 16),oD 20 (.ld false 1 19),oM 7 18,oM 8 20]
def ZD.r6:List Oper:=[oM 21 0,oM 22 8,oC 23 204 [21,22],oC 24 219 [23]]
def ZD.r8:List Oper:=[oD 26 (.eq false .sc 24 (cI 4)),oM 25 26]
def ZD.r9:List Oper:=[oD 28 (.eq false .sc 24 (cI (-4))),oM 27 28]
def ZD.r10:List Oper:=[oM 29 6,oD 30 (.bin .geq 29 (cI 0))]
def ZD.r11:List Oper:=[oM 2 (cI 0),oM 3 (.c (.b false))]
def ZD.r12:List Oper:=[oM 31 7,oM 6 31]
def ZD.r7:List Oper:=[oM 2 (cI 0),oM 3 (.c (.b false))]
def ZD.r13:List Oper:=[oD 32 (.bin .add 16 (cI 1)),oM 16 32]
def ZD.l0:Code:=.seq ZD.r4 (.seq (.cond 17 (.skip) (.exit 0)) (.seq (.block 1 (.seq ZD.r5 (.seq ZD.r6 (.block 2 (.seq ZD.r8 (.cond 25 (.skip) (.seq ZD.r9 (.cond 27 (.seq (.seq ZD.r10 (.cond 30 (.seq ZD.r11 (.ret)) (.skip))) ZD.r12) (.seq ZD.r7 (.ret)))))))))) ZD.r13))
def ZD.r14:List Oper:=[oM 33 6,oM 34 6,oD 35 (.bin .geq 34 (cI 0)),oM 2 33,oM 3 35]
def ZD.code:Code:=.seq ZD.r0 (.seq ZD.r1 (.seq ZD.r2 (.seq (.seq ZD.r3 (.block 0 (.loop ZD.l0))) (.seq ZD.r14 (.ret)))))
def ZD:Func:=⟨36,[.t 2,.t 3],ZD.code⟩
/-! muntin/face.Faces -/
def Zq.r0:List Oper:=[oM 2 (.c (.sn)),oM 3 (cI 0)]
def Zq.r1:List Oper:=[oM 12 0,oC 13 66 [12],oM 4 13]
def Zq.r2:List Oper:=[oM 14 4,oD 15 (.eq true .sc 14 (cI 0))]
def Zq.r3:List Oper:=[oM 16 4,oM 2 (.c (.sn)),oM 3 16]
def Zq.r4:List Oper:=[oM 5 (.c (.sn))]
def Zq.r5:List Oper:=[oD 17 (.mkm),oM 6 17]
def Zq.r6:List Oper:=[oM 18 0,oD 19 (.len 18),oM 20 (cI 0)]
def Zq.r7:List Oper:=[oD 21 (.bin .lss 20 19)]
def Zq.r8:List Oper:=[oM 22 20,oM 7 22]
def Zq.r9:List Oper:=[oM 23 (cI 0)]
def Zq.r10:List Oper:=[oD 24 (.bin .lss 23 (cI 4))]
def Zq.r11:List Oper:=[oM 25 23,oM 8 25]
def Zq.r12:List Oper:=[oM 26 7,oM 27 8,oD 28 (.build [.n 0,.n 0] [(0,1,.t 26),(1,1,.t 27)]),oD 9 (.alloc [.n 0,.n 0]),oN (.st 2 9 28)]
def Zq.r13:List Oper:=[oD 29 (.ld true 2 9),oM 30 0,oC 31 220 [29,30],oD 32 (.un .not 31),oM 33 32,oF 34 33 (.mv 6),oF 35 33 (.ld true 2 9),oF 36 33 (.mlk [.i,.i] false (.b false) 34 35),oD 37 (.pick 33 (.c (.b true)) 36)]
def Zq.r14:List Oper:=[oM 10 (.c (.sn))]
def Zq.r15:List Oper:=[oD 38 (.ld true 2 9),oD 11 (.alloc [.n 0,.n 0]),oN (.st 2 11 38)]
def Zq.r16:List Oper:=[oM 39 6,oD 40 (.ld true 2 11),oD 41 (.mlk [.i,.i] false (.b false) 39 40),oD 42 (.un .not 41)]
def Zq.r18:List Oper:=[oM 46 6,oD 47 (.ld true 2 11),oN (.mup [.i,.i] 46 47 (.c (.b true)))]
def Zq.r19:List Oper:=[oM 48 10,oD 49 (.ld true 2 11),oD 50 (.bsl 2 1 [.n 0,.n 0] [(0,2,.t 49)]),oD 51 (.app 2 16 48 50),oM 10 51]
def Zq.r20:List Oper:=[oD 52 (.ld true 2 11)]
def Zq.r21:List Oper:=[oD 11 (.alloc [.n 0,.n 0]),oN (.st 2 11 52)]
def Zq.r17:List Oper:=[oD 43 (.ld true 2 11),oM 44 0,oC 45 221 [43,44],oN (.st 2 11 45)]
def Zq.l0:Code:=.seq (.seq Zq.r16 (.cond 42 (.skip) (.exit 4))) (.seq (.block 5 (.seq Zq.r18 Zq.r19)) (.seq (.seq Zq.r20 Zq.r21) Zq.r17))
def Zq.r22:List Oper:=[oM 53 5,oM 54 10,oD 55 (.bsl 1 1 [.sn] [(0,1,.t 54)]),oD 56 (.app 1 24 53 55),oM 5 56]
def Zq.r23:List Oper:=[oD 57 (.bin .add 23 (cI 1)),oM 23 57]
def Zq.l1:Code:=.seq Zq.r10 (.seq (.cond 24 (.skip) (.exit 2)) (.seq (.block 3 (.seq Zq.r11 (.seq Zq.r12 (.seq (.seq Zq.r13 (.cond 37 (.exit 3) (.skip))) (.seq Zq.r14 (.seq (.seq Zq.r15 (.block 4 (.loop Zq.l0))) Zq.r22)))))) Zq.r23))
def Zq.r24:List Oper:=[oD 58 (.bin .add 20 (cI 1)),oM 20 58]
def Zq.l2:Code:=.seq Zq.r7 (.seq (.cond 21 (.skip) (.exit 0)) (.seq (.block 1 (.seq Zq.r8 (.seq Zq.r9 (.block 2 (.loop Zq.l1))))) Zq.r24))
def Zq.r25:List Oper:=[oM 59 5,oM 2 59,oM 3 (cI 0)]
def Zq.code:Code:=.seq Zq.r0 (.seq (.seq Zq.r1 (.seq Zq.r2 (.cond 15 (.seq Zq.r3 (.ret)) (.skip)))) (.seq Zq.r4 (.seq Zq.r5 (.seq (.seq Zq.r6 (.block 0 (.loop Zq.l2))) (.seq Zq.r25 (.ret))))))
def Zq:Func:=⟨60,[.t 2,.t 3],Zq.code⟩
/-! muntin/face.Turns -/
def ZW.r0:List Oper:=[oM 4 (.c (.sn))]
def ZW.r1:List Oper:=[oM 8 1,oD 9 (.len 8),oD 10 (.mks 1 8 [.n 0] 9 9),oM 5 10]
def ZW.r2:List Oper:=[oM 11 0,oC 12 66 [11],oD 13 (.eq true .sc 12 (cI 0))]
def ZW.r3:List Oper:=[oM 14 5,oM 4 14]
def ZW.r4:List Oper:=[oM 15 1,oD 16 (.len 15),oM 17 (cI 0)]
def ZW.r5:List Oper:=[oD 18 (.bin .lss 17 16)]
def ZW.r6:List Oper:=[oM 19 17,oD 20 (.ixa 2 15 17),oD 21 (.ld true 2 20),oD 7 (.alloc [.n 0,.n 0]),oM 6 19,oN (.st 2 7 21)]
def ZW.r7:List Oper:=[oD 22 (.ld true 2 7),oM 23 0,oC 24 220 [22,23]]
def ZW.r8:List Oper:=[oM 25 5,oM 26 6,oD 27 (.fa 1 7),oD 28 (.ld false 1 27),oD 29 (.ld true 2 7),oM 30 0,oC 31 221 [29,30],oD 32 (.fld false 1 1 31),oC 33 222 [28,32],oD 34 (.ixa 1 25 26),oN (.st 1 34 33)]
def ZW.r9:List Oper:=[oD 35 (.bin .add 17 (cI 1)),oM 17 35]
def ZW.l0:Code:=.seq ZW.r5 (.seq (.cond 18 (.skip) (.exit 0)) (.seq (.block 1 (.seq ZW.r6 (.seq ZW.r7 (.cond 24 (.draw ZW.r8 [(3,4),(3,6)]) (.skip))))) ZW.r9))
def ZW.r10:List Oper:=[oM 36 5,oM 4 36]
def ZW.code:Code:=.seq ZW.r0 (.seq ZW.r1 (.seq (.seq ZW.r2 (.cond 13 (.seq ZW.r3 (.ret)) (.skip))) (.seq (.seq ZW.r4 (.block 0 (.loop ZW.l0))) (.seq ZW.r10 (.ret)))))
def ZW:Func:=⟨37,[.t 4],ZW.code⟩
/-! muntin/regular.Make -/
def Z3.r0:List Oper:=[oM 4 (.c (.sn)),oM 5 (cI 0),oM 6 (cI 0)]
def Z3.r1:List Oper:=[oM 17 0,oC 18 176 [17],oM 7 18]
def Z3.r2:List Oper:=[oM 19 7,oD 20 (.eq true .sc 19 (cI 0))]
def Z3.r3:List Oper:=[oM 21 7,oM 4 (.c (.sn)),oM 5 (cI 0),oM 6 21]
def Z3.r4:List Oper:=[oM 23 0,oC 24 119 [23],oM 22 24,oD 25 (.ext 22 0),oD 26 (.ext 22 1),oM 8 25,oM 9 26]
def Z3.r5:List Oper:=[oM 10 (cI 0)]
def Z3.r7:List Oper:=[oM 30 8,oC 31 57 [30],oC 32 228 [31],oM 29 32,oD 33 (.ext 29 0),oD 34 (.ext 29 1),oD 35 (.ext 29 2),oD 36 (.ext 29 3),oM 11 33,oM 12 34,oM 13 35,oM 14 36]
def Z3.r8:List Oper:=[oM 37 14,oD 38 (.un .not 37)]
def Z3.r9:List Oper:=[oM 39 8,oC 40 57 [39],oM 41 10,oM 4 40,oM 5 41,oM 6 (cI 0)]
def Z3.r10:List Oper:=[oM 42 10,oM 43 1,oD 44 (.len 43),oD 45 (.bin .lss 42 44),oM 46 45,oT 47 46 (.mv 1),oT 48 46 (.mv 10),oT 49 46 (.ixa 1 47 48),oT 50 46 (.ld false 1 49),oD 51 (.pick 46 50 (.c (.b false))),oM 15 51]
def Z3.r11:List Oper:=[oM 52 12,oC 53 229 [52],oM 54 15,oD 55 (.eq false .bl 53 54)]
def Z3.r12:List Oper:=[oM 56 12,oC 57 77 [56,.c (.n 1)],oM 12 57]
def Z3.r13:List Oper:=[oM 58 8,oM 59 11,oM 60 12,oM 61 13,oC 62 52 [58,59,60,61,.c (.n (-2))],oM 16 62]
def Z3.r14:List Oper:=[oM 63 16,oD 64 (.eq true .sc 63 (cI 0))]
def Z3.r15:List Oper:=[oM 65 16,oM 4 (.c (.sn)),oM 5 (cI 0),oM 6 65]
def Z3.r6:List Oper:=[oM 27 10,oD 28 (.bin .add 27 (cI 1)),oM 10 28]
def Z3.l0:Code:=.seq (.block 1 (.seq Z3.r7 (.seq (.seq Z3.r8 (.cond 38 (.seq Z3.r9 (.ret)) (.skip))) (.seq Z3.r10 (.seq (.seq Z3.r11 (.cond 55 Z3.r12 (.skip))) (.seq Z3.r13 (.seq Z3.r14 (.cond 64 (.seq Z3.r15 (.ret)) (.skip))))))))) Z3.r6
def Z3.code:Code:=.seq Z3.r0 (.seq (.seq Z3.r1 (.seq Z3.r2 (.cond 20 (.seq Z3.r3 (.ret)) (.skip)))) (.seq Z3.r4 (.seq Z3.r5 (.block 0 (.loop Z3.l0)))))
def Z3:Func:=⟨66,[.t 4,.t 5,.t 6],Z3.code⟩
/-! muntin/muntinlaw22.plus -/
def ZI.r0:List Oper:=[oM 0 (.c (.sn))]
def ZI.r1:List Oper:=[oC 4 46 [.c (.n 12)],oM 1 4]
def ZI.r2:List Oper:=[oD 5 (.bsl 1 12 [.n 0] [(0,1,.c (.n 0)),(1,1,.c (.n 1)),(2,1,.c (.n 0)),(3,1,.c (.n 1)),(4,1,.c (.n 2)),(5,1,.c (.n 1)),(6,1,.c (.n 2)),(7,1,.c (.n 3)),(8,1,.c (.n 2)),(9,1,.c (.n 3)),(10,1,.c (.n 0)),(11,1,.c (.n 3))]),oD 6 (.len 5),oM 7 (cI 0)]
def ZI.r3:List Oper:=[oD 8 (.bin .lss 7 6)]
def ZI.r4:List Oper:=[oM 9 7,oD 10 (.ixa 1 5 7),oD 11 (.ld false 1 10),oM 2 9,oM 3 11]
def ZI.r5:List Oper:=[oM 13 1,oM 14 2,oM 15 3,oM 16 2,oD 17 (.bin .add 16 (cI 1)),oD 18 (.bin .rem 17 (cI 12)),oC 19 53 [13,14,15,18,.c (.n 0)],oM 12 19,oD 20 (.ext 12 0),oD 21 (.ext 12 1),oM 1 20]
def ZI.r6:List Oper:=[oD 22 (.bin .add 7 (cI 1)),oM 7 22]
def ZI.l0:Code:=.seq ZI.r3 (.seq (.cond 8 (.skip) (.exit 0)) (.seq (.block 1 (.seq ZI.r4 ZI.r5)) ZI.r6))
def ZI.r7:List Oper:=[oM 23 1,oM 0 23]
def ZI.code:Code:=.seq ZI.r0 (.seq ZI.r1 (.seq (.seq ZI.r2 (.block 0 (.loop ZI.l0))) (.seq ZI.r7 (.ret))))
def ZI:Func:=⟨24,[.t 0],ZI.code⟩
/-! muntin/regular.Bare -/
def Zy.r0:List Oper:=[oM 2 (.c (.sn)),oM 3 (cI 0)]
def Zy.r1:List Oper:=[oM 9 0,oC 10 66 [9],oM 4 10]
def Zy.r2:List Oper:=[oM 11 4,oD 12 (.eq true .sc 11 (cI 0))]
def Zy.r3:List Oper:=[oM 13 4,oM 2 (.c (.sn)),oM 3 13]
def Zy.r4:List Oper:=[oM 5 (.c (.sn))]
def Zy.r5:List Oper:=[oM 14 0,oD 15 (.len 14),oM 16 (cI 0)]
def Zy.r6:List Oper:=[oD 17 (.bin .lss 16 15)]
def Zy.r7:List Oper:=[oD 18 (.ixa 8 14 16),oD 19 (.ld true 8 18),oD 7 (.alloc [.n 0,.n 0,.n 0,.n 0,.n 0,.n 0,.n 0,.n 0]),oN (.st 8 7 19)]
def Zy.r8:List Oper:=[oM 20 (cI 0)]
def Zy.r9:List Oper:=[oD 21 (.bin .lss 20 (cI 4))]
def Zy.r10:List Oper:=[oM 22 20,oM 8 22]
def Zy.r11:List Oper:=[oM 23 8,oD 24 (.fa 0 7),oD 25 (.ixaa 1 4 24 23),oD 26 (.ld false 1 25),oD 27 (.bin .geq 26 (cI 0)),oM 28 27,oT 29 28 (.mv 8),oT 30 28 (.fa 4 7),oT 31 28 (.ixaa 1 4 30 29),oT 32 28 (.ld false 1 31),oT 33 28 (.eq false .sc 32 (cI (-2))),oD 34 (.pick 28 33 (.c (.b false)))]
def Zy.r12:List Oper:=[oM 35 8,oM 36 8,oD 37 (.fa 0 7),oD 38 (.ixaa 1 4 37 35),oN (.st 1 38 (cI (-1))),oD 39 (.fa 4 7),oD 40 (.ixaa 1 4 39 36),oN (.st 1 40 (cI 0))]
def Zy.r13:List Oper:=[oD 41 (.bin .add 20 (cI 1)),oM 20 41]
def Zy.l0:Code:=.seq Zy.r9 (.seq (.cond 21 (.skip) (.exit 2)) (.seq (.block 3 (.seq Zy.r10 (.seq Zy.r11 (.cond 34 Zy.r12 (.skip))))) Zy.r13))
def Zy.r14:List Oper:=[oM 42 5,oD 43 (.ld true 8 7),oD 44 (.bsl 8 1 [.n 0,.n 0,.n 0,.n 0,.n 0,.n 0,.n 0,.n 0] [(0,8,.t 43)]),oD 45 (.app 8 64 42 44),oM 5 45]
def Zy.r15:List Oper:=[oD 46 (.bin .add 16 (cI 1)),oM 16 46]
def Zy.l1:Code:=.seq Zy.r6 (.seq (.cond 17 (.skip) (.exit 0)) (.seq (.block 1 (.seq Zy.r7 (.seq (.seq Zy.r8 (.block 2 (.loop Zy.l0))) Zy.r14))) Zy.r15))
def Zy.r16:List Oper:=[oM 47 5,oM 2 47,oM 3 (cI 0)]
def Zy.code:Code:=.seq Zy.r0 (.seq (.seq Zy.r1 (.seq Zy.r2 (.cond 12 (.seq Zy.r3 (.ret)) (.skip)))) (.seq Zy.r4 (.seq (.seq Zy.r5 (.block 0 (.loop Zy.l1))) (.seq Zy.r16 (.ret)))))
def Zy:Func:=⟨48,[.t 2,.t 3],Zy.code⟩
/-! muntin/face.Rotation -/
def ZO.r0:List Oper:=[oM 2 (cI 0)]
def ZO.r1:List Oper:=[oM 3 (cI 0)]
def ZO.r2:List Oper:=[oM 6 0,oD 7 (.len 6),oM 8 (cI 0)]
def ZO.r3:List Oper:=[oD 9 (.bin .lss 8 7)]
def ZO.r4:List Oper:=[oD 10 (.ixa 1 6 8),oD 11 (.ld false 1 10),oM 5 11]
def ZO.r5:List Oper:=[oM 12 5,oD 13 (.bin .geq 12 (cI (-2))),oM 14 13,oT 15 14 (.mv 5),oT 16 14 (.bin .leq 15 (cI 1)),oD 17 (.pick 14 16 (.c (.b false)))]
def ZO.r6:List Oper:=[oM 18 3,oM 19 5,oD 20 (.bin .add 18 19),oM 3 20]
def ZO.r7:List Oper:=[oD 21 (.bin .add 8 (cI 1)),oM 8 21]
def ZO.l0:Code:=.seq ZO.r3 (.seq (.cond 9 (.skip) (.exit 0)) (.seq (.block 1 (.seq ZO.r4 (.seq ZO.r5 (.cond 17 ZO.r6 (.skip))))) ZO.r7))
def ZO.r8:List Oper:=[oM 22 3,oM 2 22]
def ZO.code:Code:=.seq ZO.r0 (.seq ZO.r1 (.seq (.seq ZO.r2 (.block 0 (.loop ZO.l0))) (.seq ZO.r8 (.ret))))
def ZO:Func:=⟨23,[.t 2],ZO.code⟩
/-! (muntin/face.Dart).is -/
def ZaO.r0:List Oper:=[oD 2 (.box 0),oM 4 (.c (.b false))]
def ZaO.r1:List Oper:=[oD 5 (.fa 0 2),oD 6 (.ld false 1 5),oD 7 (.bin .geq 6 (cI 0)),oM 8 7,oT 9 8 (.fa 0 2),oT 10 8 (.ld false 1 9),oT 11 8 (.mv 1),oT 12 8 (.len 11),oT 13 8 (.bin .lss 10 12),oD 14 (.pick 8 13 (.c (.b false))),oM 15 14,oT 16 15 (.fa 1 2),oT 17 15 (.ld false 1 16),oT 18 15 (.call (.c (.f 90 [])) [17]),oD 19 (.pick 15 18 (.c (.b false))),oM 20 19,oT 21 20 (.mv 1),oT 22 20 (.fa 0 2),oT 23 20 (.ld false 1 22),oT 24 20 (.fa 1 2),oT 25 20 (.ld false 1 24),oT 26 20 (.ixa 8 21 23),oT 27 20 (.fa 0 26),oT 28 20 (.ixaa 1 4 27 25),oT 29 20 (.ld false 1 28),oT 30 20 (.bin .geq 29 (cI 0)),oD 31 (.pick 20 30 (.c (.b false))),oM 4 31]
def ZaO.code:Code:=.seq ZaO.r0 (.seq (.draw ZaO.r1 [(18,20)]) (.ret))
def ZaO:Func:=⟨32,[.t 4],ZaO.code⟩
/-! (muntin/face.Dart).behind -/
def ZB.r0:List Oper:=[oD 2 (.box 0),oD 4 (.alloc [.n 0,.n 0])]
def ZB.r1:List Oper:=[oM 9 1,oD 10 (.fa 0 2),oD 11 (.ld false 1 10),oD 12 (.fa 1 2),oD 13 (.ld false 1 12),oD 14 (.ixa 8 9 11),oD 15 (.fa 0 14),oD 16 (.ixaa 1 4 15 13),oD 17 (.ld false 1 16),oM 5 17]
def ZB.r2:List Oper:=[oD 18 (.build [.n 0,.n 0,.n 0,.n 0] [(0,1,.c (.n 1)),(1,1,.c (.n 0)),(2,1,.c (.n (-1))),(3,1,.c (.n 2))]),oM 19 (cI 0)]
def ZB.r3:List Oper:=[oD 20 (.bin .lss 19 (cI 4))]
def ZB.r4:List Oper:=[oD 21 (.ix false 1 4 18 19),oM 7 21]
def ZB.r5:List Oper:=[oM 22 5,oD 23 (.fa 1 2),oD 24 (.ld false 1 23),oM 25 7,oC 26 77 [24,25],oD 27 (.build [.n 0,.n 0] [(0,1,.t 22),(1,1,.t 26)]),oD 8 (.alloc [.n 0,.n 0]),oN (.st 2 8 27)]
def ZB.r6:List Oper:=[oD 28 (.ld true 2 8),oM 29 1,oC 30 220 [28,29]]
def ZB.r7:List Oper:=[oD 31 (.ld true 2 8),oN (.st 2 4 31)]
def ZB.r8:List Oper:=[oD 32 (.bin .add 19 (cI 1)),oM 19 32]
def ZB.l0:Code:=.seq ZB.r3 (.seq (.cond 20 (.skip) (.exit 0)) (.seq (.block 1 (.seq ZB.r4 (.seq ZB.r5 (.seq ZB.r6 (.cond 30 (.seq ZB.r7 (.ret)) (.skip)))))) ZB.r8))
def ZB.r9:List Oper:=[oD 33 (.ld true 2 2),oN (.st 2 4 33)]
def ZB.code:Code:=.seq ZB.r0 (.seq (.draw ZB.r1 [(2,4)]) (.seq (.seq ZB.r2 (.block 0 (.loop ZB.l0))) (.seq ZB.r9 (.ret))))
def ZB:Func:=⟨34,[.cell 4 true 2],ZB.code⟩
/-! muntin/compass.Turn -/
def Zab.r0:List Oper:=[oM 4 (cI 0)]
def Zab.r1:List Oper:=[oM 5 0,oC 6 90 [5],oD 7 (.un .not 6),oM 8 7,oF 9 8 (.mv 1),oF 10 8 (.call (.c (.f 90 [])) [9]),oF 11 8 (.un .not 10),oD 12 (.pick 8 (.c (.b true)) 11)]
def Zab.r2:List Oper:=[oM 4 (cI 0)]
def Zab.r3:List Oper:=[oD 13 (.build [.n 0,.n 0,.n 0,.n 0] [(0,1,.c (.n 0)),(1,1,.c (.n 1)),(2,1,.c (.n (-2))),(3,1,.c (.n (-1)))]),oM 14 1,oM 15 0,oD 16 (.bin .sub 14 15),oD 17 (.bin .add 16 (cI 4)),oD 18 (.bin .rem 17 (cI 4)),oD 19 (.ix false 1 4 13 18),oM 4 19]
def Zab.code:Code:=.seq Zab.r0 (.seq (.seq Zab.r1 (.cond 12 (.seq Zab.r2 (.ret)) (.skip))) (.seq Zab.r3 (.ret)))
def Zab:Func:=⟨20,[.t 4],Zab.code⟩
/-! muntin/regular.pair -/
def ZL.r0:List Oper:=[oM 2 (cI 0),oM 3 (cI 0),oM 4 (cI 0),oM 5 (.c (.b false))]
def ZL.r1:List Oper:=[oM 16 0,oC 17 203 [16],oM 15 17,oD 18 (.ext 15 0),oD 19 (.ext 15 1),oM 6 18,oM 7 19]
def ZL.r2:List Oper:=[oM 20 6,oD 21 (.len 20),oM 22 (cI 0)]
def ZL.r3:List Oper:=[oD 23 (.bin .lss 22 21)]
def ZL.r4:List Oper:=[oD 24 (.ixa 1 20 22),oD 25 (.ld false 1 24),oM 9 25]
def ZL.r5:List Oper:=[oM 27 0,oM 28 9,oC 29 204 [27,28],oC 30 24 [29],oM 26 30,oD 31 (.ext 26 0),oD 32 (.ext 26 1),oD 33 (.ext 26 2),oD 10 (.alloc [.n 0,.n 0]),oD 11 (.alloc [.n 0,.n 0]),oN (.st 2 10 31),oN (.st 2 11 32),oM 12 33]
def ZL.r6:List Oper:=[oM 34 12,oD 35 (.un .not 34)]
def ZL.r7:List Oper:=[oM 36 9,oD 37 (.fa 0 10),oD 38 (.ld false 1 37),oD 39 (.ixa 2 36 38),oD 40 (.ld true 2 39),oM 41 9,oD 42 (.fa 0 11),oD 43 (.ld false 1 42),oD 44 (.ixa 2 41 43),oD 45 (.ld true 2 44),oD 13 (.alloc [.n 0,.n 0]),oD 14 (.alloc [.n 0,.n 0]),oN (.st 2 13 40),oN (.st 2 14 45)]
def ZL.r8:List Oper:=[oM 46 0,oD 47 (.fa 0 13),oD 48 (.ld false 1 47),oD 49 (.fa 1 13),oD 50 (.ld false 1 49),oD 51 (.ixa 8 46 48),oD 52 (.fa 0 51),oD 53 (.ixaa 1 4 52 50),oD 54 (.ld false 1 53),oD 55 (.fa 1 13),oD 56 (.ld false 1 55),oD 57 (.fa 1 10),oD 58 (.ld false 1 57),oD 59 (.un .neg 58),oC 60 77 [56,59],oM 61 0,oD 62 (.fa 0 14),oD 63 (.ld false 1 62),oD 64 (.fa 1 14),oD 65 (.ld false 1 64),oD 66 (.ixa 8 61 63),oD 67 (.fa 0 66),oD 68 (.ixaa 1 4 67 65),oD 69 (.ld false 1 68),oM 2 54,oM 3 60,oM 4 69,oM 5 (.c (.b true))]
def ZL.r9:List Oper:=[oD 70 (.bin .add 22 (cI 1)),oM 22 70]
def ZL.l0:Code:=.seq ZL.r3 (.seq (.cond 23 (.skip) (.exit 0)) (.seq (.block 1 (.seq ZL.r4 (.seq ZL.r5 (.seq (.seq ZL.r6 (.cond 35 (.exit 1) (.skip))) (.seq (.draw ZL.r7 [(2,7),(4,7),(2,9),(4,9),(2,10),(4,10),(7,10),(9,10),(2,11),(4,11),(7,11),(9,11),(10,11),(7,12),(9,12)]) (.seq (.draw ZL.r8 [(2,4),(2,10),(4,10),(8,10),(2,12),(4,12),(8,12),(10,12),(2,14),(4,14),(8,14),(2,17),(4,17),(8,17),(10,17),(12,17),(14,17),(2,19),(4,19),(8,19),(10,19),(12,19),(14,19),(17,19),(2,23),(4,23),(8,23),(10,23),(12,23),(14,23)]) (.ret))))))) ZL.r9))
def ZL.r10:List Oper:=[oM 2 (cI 0),oM 3 (cI 0),oM 4 (cI 0),oM 5 (.c (.b false))]
def ZL.code:Code:=.seq ZL.r0 (.seq ZL.r1 (.seq (.seq ZL.r2 (.block 0 (.loop ZL.l0))) (.seq ZL.r10 (.ret))))
def ZL:Func:=⟨71,[.t 2,.t 3,.t 4,.t 5],ZL.code⟩
/-! muntin/regular.horizontal -/
def zQ.r0:List Oper:=[oM 2 (.c (.b false))]
def zQ.r1:List Oper:=[oM 3 0,oD 4 (.eq false .sc 3 (cI 0)),oM 5 4,oF 6 5 (.mv 0),oF 7 5 (.eq false .sc 6 (cI 2)),oD 8 (.pick 5 (.c (.b true)) 7),oM 2 8]
def zQ.code:Code:=.seq zQ.r0 (.seq zQ.r1 (.ret))
def zQ:Func:=⟨9,[.t 2],zQ.code⟩
/-! muntin/muntinlaw22.RegularAgain -/
def Zm.r0:List Oper:=[oD 3 (.box 0),oM 6 (.c (.b false))]
def Zm.r1:List Oper:=[oD 19 (.ld true 3 3),oC 20 28 [19,.c (.n 14)],oM 18 20,oD 21 (.ext 18 0),oD 22 (.ext 18 1),oM 7 21,oM 8 22]
def Zm.r2:List Oper:=[oM 24 7,oM 25 1,oC 26 212 [24,25],oM 23 26,oD 27 (.ext 23 0),oD 28 (.ext 23 1),oD 29 (.ext 23 2),oM 9 27,oM 10 28,oM 11 29]
def Zm.r3:List Oper:=[oC 30 190 [],oD 31 (.un .not 30),oM 32 31,oF 33 32 (.mv 11),oF 34 32 (.eq true .sc 33 (cI 0)),oD 35 (.pick 32 (.c (.b true)) 34)]
def Zm.r4:List Oper:=[oC 36 190 [],oM 6 36]
def Zm.r5:List Oper:=[oM 38 9,oM 39 2,oC 40 212 [38,39],oM 37 40,oD 41 (.ext 37 0),oD 42 (.ext 37 1),oD 43 (.ext 37 2),oM 12 41,oM 13 42,oM 14 43]
def Zm.r6:List Oper:=[oM 44 14,oD 45 (.eq true .sc 44 (cI 0)),oM 46 45,oF 47 46 (.mv 13),oF 48 46 (.eq true .sc 47 (cI 0)),oD 49 (.pick 46 (.c (.b true)) 48),oM 50 49,oF 51 50 (.mv 12),oF 52 50 (.mv 9),oF 53 50 (.call (.c (.f 56 [])) [51,52]),oF 54 50 (.un .not 53),oD 55 (.pick 50 (.c (.b true)) 54)]
def Zm.r7:List Oper:=[oM 6 (.c (.b false))]
def Zm.r8:List Oper:=[oM 56 10,oM 57 1,oD 58 (.len 57),oD 59 (.bin .gtr 56 58)]
def Zm.r9:List Oper:=[oM 6 (.c (.b true))]
def Zm.r10:List Oper:=[oM 61 7,oM 62 1,oM 63 10,oM 64 10,oD 65 (.slc 1 62 none (some 63) (some 64)),oM 66 2,oD 67 (.app 1 1 65 66),oC 68 212 [61,67],oM 60 68,oD 69 (.ext 60 0),oD 70 (.ext 60 1),oD 71 (.ext 60 2),oM 15 69,oM 16 70,oM 17 71]
def Zm.r11:List Oper:=[oM 72 17,oD 73 (.eq false .sc 72 (cI 0)),oM 74 73,oT 75 74 (.mv 16),oT 76 74 (.mv 10),oT 77 74 (.eq false .sc 75 76),oD 78 (.pick 74 77 (.c (.b false))),oM 79 78,oT 80 79 (.mv 15),oT 81 79 (.mv 9),oT 82 79 (.call (.c (.f 56 [])) [80,81]),oD 83 (.pick 79 82 (.c (.b false))),oM 6 83]
def Zm.code:Code:=.seq Zm.r0 (.seq Zm.r1 (.seq Zm.r2 (.seq (.seq Zm.r3 (.cond 35 (.seq Zm.r4 (.ret)) (.skip))) (.seq Zm.r5 (.seq (.seq Zm.r6 (.cond 55 (.seq Zm.r7 (.ret)) (.skip))) (.seq (.seq Zm.r8 (.cond 59 (.seq Zm.r9 (.ret)) (.skip))) (.seq Zm.r10 (.seq Zm.r11 (.ret)))))))))
def Zm:Func:=⟨84,[.t 6],Zm.code⟩
def G:Prog:=fun i=>match i with
  | 19=>some Z6
  | 24=>some ZG
  | 28=>some Zd
  | 29=>some Zv
  | 32=>some ZaQ
  | 46=>some ZA
  | 51=>some ZX
  | 52=>some ZP
  | 53=>some ZR
  | 55=>some zP
  | 56=>some ZE
  | 57=>some z7
  | 59=>some Zba
  | 61=>some Za0
  | 62=>some zo
  | 63=>some Zw
  | 64=>some Zi
  | 65=>some Zu
  | 66=>some ZF
  | 67=>some Z2
  | 75=>some ZaP
  | 76=>some Zal
  | 77=>some Zaa
  | 78=>some zt
  | 80=>some Za8
  | 82=>some zd
  | 83=>some Z0
  | 89=>some ZaF
  | 90=>some ZaN
  | 91=>some Z5
  | 97=>some ZaM
  | 98=>some ZV
  | 119=>some ZaX
  | 176=>some ZZ
  | 190=>some zc
  | 201=>some ZD
  | 203=>some Zq
  | 204=>some ZW
  | 212=>some Z3
  | 213=>some ZI
  | 214=>some Zy
  | 219=>some ZO
  | 220=>some ZaO
  | 221=>some ZB
  | 222=>some Zab
  | 228=>some ZL
  | 229=>some zQ
  | 250=>some Zm
  | _=>none
theorem Zds:G 19=some Z6:=rfl
theorem Zes:G 24=some ZG:=rfl
theorem ZcC:G 28=some Zd:=rfl
theorem Zeq:G 29=some Zv:=rfl
theorem Zer:G 32=some ZaQ:=rfl
theorem ZcN:G 46=some ZA:=rfl
theorem ZbS:G 51=some ZX:=rfl
theorem ZcZ:G 52=some ZP:=rfl
theorem ZcB:G 53=some ZR:=rfl
theorem Zdq:G 55=some zP:=rfl
theorem ZcD:G 56=some ZE:=rfl
theorem ZcM:G 57=some z7:=rfl
theorem Zeb:G 59=some Zba:=rfl
theorem ZeG:G 61=some Za0:=rfl
theorem Zet:G 62=some zo:=rfl
theorem Zch:G 63=some Zw:=rfl
theorem Zcg:G 64=some Zi:=rfl
theorem ZcE:G 65=some Zu:=rfl
theorem Zep:G 66=some ZF:=rfl
theorem Zea:G 67=some Z2:=rfl
theorem Zd8:G 75=some ZaP:=rfl
theorem Zdr:G 76=some Zal:=rfl
theorem Zd5:G 77=some Zaa:=rfl
theorem ZbB:G 78=some zt:=rfl
theorem Zdt:G 80=some Za8:=rfl
theorem ZeF:G 82=some zd:=rfl
theorem Zc2:G 83=some Z0:=rfl
theorem ZeT:G 89=some ZaF:=rfl
theorem Zd4:G 90=some ZaN:=rfl
theorem ZbX:G 91=some Z5:=rfl
theorem ZfU:G 97=some ZaM:=rfl
theorem Zem:G 98=some ZV:=rfl
theorem Zf7:G 119=some ZaX:=rfl
theorem Zec:G 176=some ZZ:=rfl
theorem Zc1:G 190=some zc:=rfl
theorem Zed:G 201=some ZD:=rfl
theorem Zen:G 203=some Zq:=rfl
theorem Zeo:G 204=some ZW:=rfl
theorem ZdA:G 212=some Z3:=rfl
theorem ZcA:G 213=some ZI:=rfl
theorem Zd9:G 214=some Zy:=rfl
theorem Zdp:G 219=some ZO:=rfl
theorem Zd7:G 220=some ZaO:=rfl
theorem Zc9:G 221=some ZB:=rfl
theorem Zd6:G 222=some Zab:=rfl
theorem ZdB:G 228=some ZL:=rfl
theorem Zco:G 229=some zQ:=rfl
theorem Zb7:G 250=some Zm:=rfl
end Mu
