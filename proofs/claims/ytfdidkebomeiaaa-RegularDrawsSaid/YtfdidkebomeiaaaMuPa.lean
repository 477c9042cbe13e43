/- The functions of the program, as the evaluator has them: printed by a program; checked against the model's. -/
import Derived.Test.YtfdidkebomeiaaaMuE0
namespace Mu
instance (n:Nat):OfNat Opd n:=⟨.t n⟩
instance:Coe (List Oper) Code:=⟨.region⟩
abbrev oD (d:Nat) (op:Op):Oper:=⟨some d,op,none⟩
abbrev oN (op:Op):Oper:=⟨none,op,none⟩
abbrev oT (d g:Nat) (op:Op):Oper:=⟨some d,op,some (g,true)⟩
abbrev oF (d g:Nat) (op:Op):Oper:=⟨some d,op,some (g,false)⟩
abbrev oM (d:Nat) (x:Opd):Oper:=⟨some d,.mv x,none⟩
abbrev oC (d f:Nat) (l:List Opd):Oper:=⟨some d,.call (.c (.f f [])) l,none⟩
abbrev cI (n:Int):Opd:=.c (.i .i64 n)
/-! muntin/muntinref20.Of -/
def ZA.r0:List Oper:=[oM 4 (cI 0)]
def ZA.r1:List Oper:=[oM 10 0,oC 11 21 [10],oM 5 11]
def ZA.r2:List Oper:=[oM 12 5,oD 13 (.un .not 12),oM 14 13,oF 15 14 (.mv 1),oF 16 14 (.bin .lss 15 (cI 0)),oD 17 (.pick 14 (.c (.b true)) 16),oM 18 17,oF 19 18 (.mv 1),oF 20 18 (.mv 0),oF 21 18 (.len 20),oF 22 18 (.bin .geq 19 21),oD 23 (.pick 18 (.c (.b true)) 22)]
def ZA.r3:List Oper:=[oM 4 (cI (-1))]
def ZA.r4:List Oper:=[oM 24 0,oM 25 1,oD 26 (.ixa 1 24 25),oD 27 (.ld false 1 26),oD 28 (.bin .geq 27 (cI 0))]
def ZA.r5:List Oper:=[oM 4 (cI (-1))]
def ZA.r6:List Oper:=[oM 29 0,oD 30 (.len 29),oM 6 30]
def ZA.r7:List Oper:=[oM 31 1,oD 32 (.bin .add 31 (cI 1)),oM 7 32]
def ZA.r8:List Oper:=[oM 33 7,oM 34 1,oM 35 6,oD 36 (.bin .add 34 35),oD 37 (.bin .leq 33 36)]
def ZA.r10:List Oper:=[oM 8 (cI 0)]
def ZA.r11:List Oper:=[oM 40 1,oM 9 40]
def ZA.r12:List Oper:=[oM 41 9,oM 42 7,oD 43 (.bin .lss 41 42)]
def ZA.r14:List Oper:=[oM 46 8,oM 47 0,oM 48 9,oM 49 6,oD 50 (.bin .rem 48 49),oD 51 (.ixa 1 47 50),oD 52 (.ld false 1 51),oD 53 (.bin .add 46 52),oM 8 53]
def ZA.r13:List Oper:=[oM 44 9,oD 45 (.bin .add 44 (cI 1)),oM 9 45]
def ZA.l0:Code:=.seq (.seq ZA.r12 (.cond 43 (.skip) (.exit 2))) (.seq (.block 3 ZA.r14) ZA.r13)
def ZA.r15:List Oper:=[oM 54 8,oD 55 (.eq false .sc 54 (cI 1))]
def ZA.r16:List Oper:=[oM 56 7,oM 57 6,oD 58 (.bin .rem 56 57),oM 4 58]
def ZA.r9:List Oper:=[oM 38 7,oD 39 (.bin .add 38 (cI 1)),oM 7 39]
def ZA.l1:Code:=.seq (.seq ZA.r8 (.cond 37 (.skip) (.exit 0))) (.seq (.block 1 (.seq ZA.r10 (.seq (.seq ZA.r11 (.block 2 (.loop ZA.l0))) (.seq ZA.r15 (.cond 55 (.seq ZA.r16 (.ret)) (.skip)))))) ZA.r9)
def ZA.r17:List Oper:=[oM 4 (cI (-1))]
def ZA.code:Code:=.seq ZA.r0 (.seq ZA.r1 (.seq (.seq ZA.r2 (.cond 23 (.seq ZA.r3 (.ret)) (.skip))) (.seq (.seq ZA.r4 (.cond 28 (.seq ZA.r5 (.ret)) (.skip))) (.seq ZA.r6 (.seq (.seq ZA.r7 (.block 0 (.loop ZA.l1))) (.seq ZA.r17 (.ret)))))))
def ZA:Func:=⟨59,[.t 4],ZA.code⟩
/-! muntin/muntinref20.Open -/
def ze.r0:List Oper:=[oM 2 (cI 0)]
def ze.r1:List Oper:=[oM 6 0,oC 7 21 [6],oM 3 7]
def ze.r2:List Oper:=[oM 8 3,oD 9 (.un .not 8)]
def ze.r3:List Oper:=[oM 2 (cI (-1))]
def ze.r4:List Oper:=[oM 4 (cI 0)]
def ze.r5:List Oper:=[oM 10 4,oM 11 0,oD 12 (.len 11),oD 13 (.bin .lss 10 12)]
def ze.r7:List Oper:=[oM 16 0,oM 17 4,oC 18 14 [16,17],oM 5 18]
def ze.r8:List Oper:=[oM 19 0,oM 20 4,oD 21 (.ixa 1 19 20),oD 22 (.ld false 1 21),oD 23 (.bin .lss 22 (cI 0)),oM 24 23,oT 25 24 (.mv 5),oT 26 24 (.bin .lss 25 (cI 0)),oD 27 (.pick 24 26 (.c (.b false)))]
def ze.r9:List Oper:=[oM 28 4,oM 2 28]
def ze.r6:List Oper:=[oM 14 4,oD 15 (.bin .add 14 (cI 1)),oM 4 15]
def ze.l0:Code:=.seq (.seq ze.r5 (.cond 13 (.skip) (.exit 0))) (.seq (.block 1 (.seq ze.r7 (.seq ze.r8 (.cond 27 (.seq ze.r9 (.ret)) (.skip))))) ze.r6)
def ze.r10:List Oper:=[oM 2 (cI (-1))]
def ze.code:Code:=.seq ze.r0 (.seq ze.r1 (.seq (.seq ze.r2 (.cond 9 (.seq ze.r3 (.ret)) (.skip))) (.seq (.seq ze.r4 (.block 0 (.loop ze.l0))) (.seq ze.r10 (.ret)))))
def ze:Func:=⟨29,[.t 2],ze.code⟩
/-! muntin/kitty.Corners -/
def zi.r0:List Oper:=[oM 2 (.c (.sn))]
def zi.r1:List Oper:=[oM 3 (.c (.sn))]
def zi.r2:List Oper:=[oM 7 0,oD 8 (.len 7),oM 9 (cI 0)]
def zi.r3:List Oper:=[oD 10 (.bin .lss 9 8)]
def zi.r4:List Oper:=[oM 11 9,oD 12 (.ixa 1 7 9),oD 13 (.ld false 1 12),oM 4 11,oM 5 13]
def zi.r5:List Oper:=[oM 14 5,oD 15 (.bin .lss 14 (cI (-2)))]
def zi.r6:List Oper:=[oM 16 5,oD 17 (.un .neg 16),oM 18 (cI 0)]
def zi.r7:List Oper:=[oD 19 (.bin .lss 18 17)]
def zi.r8:List Oper:=[oM 20 18,oM 6 20]
def zi.r9:List Oper:=[oM 21 3,oM 22 4,oM 23 6,oD 24 (.build [.n 0,.n 0] [(0,1,.t 22),(1,1,.t 23)]),oD 25 (.bsl 2 1 [.n 0,.n 0] [(0,2,.t 24)]),oD 26 (.app 2 16 21 25),oM 3 26]
def zi.r10:List Oper:=[oD 27 (.bin .add 18 (cI 1)),oM 18 27]
def zi.l0:Code:=.seq zi.r7 (.seq (.cond 19 (.skip) (.exit 2)) (.seq (.block 3 (.seq zi.r8 zi.r9)) zi.r10))
def zi.r11:List Oper:=[oD 28 (.bin .add 9 (cI 1)),oM 9 28]
def zi.l1:Code:=.seq zi.r3 (.seq (.cond 10 (.skip) (.exit 0)) (.seq (.block 1 (.seq zi.r4 (.seq (.seq zi.r5 (.cond 15 (.exit 1) (.skip))) (.seq zi.r6 (.block 2 (.loop zi.l0)))))) zi.r11))
def zi.r12:List Oper:=[oM 29 3,oM 2 29]
def zi.code:Code:=.seq zi.r0 (.seq zi.r1 (.seq (.seq zi.r2 (.block 0 (.loop zi.l1))) (.seq zi.r12 (.ret))))
def zi:Func:=⟨30,[.t 2],zi.code⟩
/-! muntin/muntinref15.Good -/
def zN.r0:List Oper:=[oM 2 (.c (.b false))]
def zN.r1:List Oper:=[oM 3 (cI 0)]
def zN.r2:List Oper:=[oM 4 3,oM 5 0,oD 6 (.len 5),oD 7 (.bin .lss 4 6)]
def zN.r4:List Oper:=[oM 10 0,oM 11 3,oD 12 (.ixa 1 10 11),oD 13 (.ld false 1 12),oD 14 (.bin .lss 13 (cI (-2))),oM 15 14,oF 16 15 (.mv 0),oF 17 15 (.mv 3),oF 18 15 (.ixa 1 16 17),oF 19 15 (.ld false 1 18),oF 20 15 (.bin .gtr 19 (cI 1)),oD 21 (.pick 15 (.c (.b true)) 20)]
def zN.r5:List Oper:=[oM 2 (.c (.b false))]
def zN.r3:List Oper:=[oM 8 3,oD 9 (.bin .add 8 (cI 1)),oM 3 9]
def zN.l0:Code:=.seq (.seq zN.r2 (.cond 7 (.skip) (.exit 0))) (.seq (.block 1 (.seq zN.r4 (.cond 21 (.seq zN.r5 (.ret)) (.skip)))) zN.r3)
def zN.r6:List Oper:=[oM 2 (.c (.b true))]
def zN.code:Code:=.seq zN.r0 (.seq (.seq zN.r1 (.block 0 (.loop zN.l0))) (.seq zN.r6 (.ret)))
def zN:Func:=⟨22,[.t 2],zN.code⟩
/-! muntin/kitty.Pair -/
def zA.r0:List Oper:=[oD 2 (.alloc [.n 0,.n 0]),oD 3 (.alloc [.n 0,.n 0]),oM 4 (.c (.b false))]
def zA.r1:List Oper:=[oM 11 0,oC 12 59 [11],oD 13 (.un .not 12)]
def zA.r2:List Oper:=[oD 14 (.build [.n 0,.n 0] []),oD 15 (.build [.n 0,.n 0] []),oN (.st 2 2 14),oN (.st 2 3 15),oM 4 (.c (.b false))]
def zA.r3:List Oper:=[oM 16 0,oC 17 19 [16],oM 18 0,oC 19 62 [18],oM 5 17,oM 6 19]
def zA.r4:List Oper:=[oM 20 5,oD 21 (.len 20),oM 22 (cI 0)]
def zA.r5:List Oper:=[oD 23 (.bin .lss 22 21)]
def zA.r6:List Oper:=[oD 24 (.ixa 2 20 22),oD 25 (.ld true 2 24),oD 8 (.alloc [.n 0,.n 0]),oN (.st 2 8 25)]
def zA.r7:List Oper:=[oM 26 5,oD 27 (.len 26),oM 28 (cI 0)]
def zA.r8:List Oper:=[oD 29 (.bin .lss 28 27)]
def zA.r9:List Oper:=[oD 30 (.ixa 2 26 28),oD 31 (.ld true 2 30),oD 10 (.alloc [.n 0,.n 0]),oN (.st 2 10 31)]
def zA.r10:List Oper:=[oM 32 6,oD 33 (.ld true 2 8),oD 34 (.ld true 2 10),oC 35 61 [32,33,34],oD 36 (.eq false .sc 35 (cI 2))]
def zA.r11:List Oper:=[oD 37 (.ld true 2 8),oD 38 (.ld true 2 10),oN (.st 2 2 37),oN (.st 2 3 38),oM 4 (.c (.b true))]
def zA.r12:List Oper:=[oD 39 (.bin .add 28 (cI 1)),oM 28 39]
def zA.l0:Code:=.seq zA.r8 (.seq (.cond 29 (.skip) (.exit 2)) (.seq (.block 3 (.seq zA.r9 (.seq zA.r10 (.cond 36 (.seq (.draw zA.r11 [(0,1),(1,2)]) (.ret)) (.skip))))) zA.r12))
def zA.r13:List Oper:=[oD 40 (.bin .add 22 (cI 1)),oM 22 40]
def zA.l1:Code:=.seq zA.r5 (.seq (.cond 23 (.skip) (.exit 0)) (.seq (.block 1 (.seq zA.r6 (.seq zA.r7 (.block 2 (.loop zA.l0))))) zA.r13))
def zA.r14:List Oper:=[oD 41 (.build [.n 0,.n 0] []),oD 42 (.build [.n 0,.n 0] []),oN (.st 2 2 41),oN (.st 2 3 42),oM 4 (.c (.b false))]
def zA.code:Code:=.seq zA.r0 (.seq (.seq zA.r1 (.cond 13 (.seq zA.r2 (.ret)) (.skip))) (.seq zA.r3 (.seq (.seq zA.r4 (.block 0 (.loop zA.l1))) (.seq zA.r14 (.ret)))))
def zA:Func:=⟨43,[.cell 2 true 2,.cell 3 true 2,.t 4],zA.code⟩
/-! muntin/muntinref10.Make -/
def Zi.r0:List Oper:=[oD 2 (.box 0),oM 4 (.c (.sn)),oM 5 (.c (.sn))]
def Zi.r1:List Oper:=[oM 6 (.c (.sn))]
def Zi.r2:List Oper:=[oM 7 (cI 0)]
def Zi.r3:List Oper:=[oM 18 7,oD 19 (.fa 0 2),oD 20 (.ld false 1 19),oD 21 (.len 20),oD 22 (.bin .lss 18 21),oM 23 22,oT 24 23 (.mv 6),oT 25 23 (.len 24),oT 26 23 (.mv 1),oT 27 23 (.bin .lss 25 26),oD 28 (.pick 23 27 (.c (.b false)))]
def Zi.r5:List Oper:=[oD 31 (.fa 0 2),oD 32 (.ld false 1 31),oM 33 7,oD 34 (.ixa 1 32 33),oD 35 (.ld false 1 34),oD 36 (.conv .i64 35),oD 37 (.bin .rem 36 (cI 8)),oD 38 (.fa 0 2),oD 39 (.ld false 1 38),oM 40 7,oD 41 (.ixa 1 39 40),oD 42 (.ld false 1 41),oD 43 (.conv .i64 42),oD 44 (.bin .quo 43 (cI 8)),oD 45 (.bin .rem 44 (cI 8)),oD 46 (.build [.n 0,.n 0] [(0,1,.t 37),(1,1,.t 45)]),oD 8 (.alloc [.n 0,.n 0]),oN (.st 2 8 46)]
def Zi.r6:List Oper:=[oM 9 (.c (.b false))]
def Zi.r7:List Oper:=[oM 10 (cI 0)]
def Zi.r8:List Oper:=[oM 47 10,oM 48 6,oD 49 (.len 48),oD 50 (.bin .lss 47 49)]
def Zi.r10:List Oper:=[oM 53 9,oM 54 53,oF 55 54 (.mv 6),oF 56 54 (.mv 10),oF 57 54 (.ixa 2 55 56),oF 58 54 (.ld true 2 57),oF 59 54 (.ld true 2 8),oF 60 54 (.eq false (.fl [.i,.i]) 58 59),oD 61 (.pick 54 (.c (.b true)) 60),oM 9 61]
def Zi.r9:List Oper:=[oM 51 10,oD 52 (.bin .add 51 (cI 1)),oM 10 52]
def Zi.l0:Code:=.seq (.seq Zi.r8 (.cond 50 (.skip) (.exit 2))) (.seq (.block 3 (.draw Zi.r10 [(5,6)])) Zi.r9)
def Zi.r11:List Oper:=[oM 62 9,oD 63 (.un .not 62)]
def Zi.r12:List Oper:=[oM 64 6,oD 65 (.ld true 2 8),oD 66 (.bsl 2 1 [.n 0,.n 0] [(0,2,.t 65)]),oD 67 (.app 2 16 64 66),oM 6 67]
def Zi.r4:List Oper:=[oM 29 7,oD 30 (.bin .add 29 (cI 1)),oM 7 30]
def Zi.l1:Code:=.seq (.seq Zi.r3 (.cond 28 (.skip) (.exit 0))) (.seq (.block 1 (.seq (.draw Zi.r5 [(1,8),(4,8),(1,11),(4,11),(1,16),(4,16),(8,16),(11,16)]) (.seq Zi.r6 (.seq (.seq Zi.r7 (.block 2 (.loop Zi.l0))) (.seq Zi.r11 (.cond 63 Zi.r12 (.skip))))))) Zi.r4)
def Zi.r13:List Oper:=[oM 68 6,oD 69 (.len 68),oC 70 46 [69],oM 11 70]
def Zi.r14:List Oper:=[oM 12 (cI 0)]
def Zi.r15:List Oper:=[oM 71 12,oM 72 6,oD 73 (.len 72),oD 74 (.bin .lss 71 73)]
def Zi.r17:List Oper:=[oM 13 (.c (.i .u8 3))]
def Zi.r18:List Oper:=[oM 77 12,oD 78 (.fa 1 2),oD 79 (.ld false 1 78),oD 80 (.len 79),oD 81 (.bin .lss 77 80)]
def Zi.r19:List Oper:=[oD 82 (.fa 1 2),oD 83 (.ld false 1 82),oM 84 12,oD 85 (.ixa 1 83 84),oD 86 (.ld false 1 85),oM 13 86]
def Zi.r20:List Oper:=[oM 87 12,oM 14 87]
def Zi.r21:List Oper:=[oM 88 12,oD 89 (.fa 2 2),oD 90 (.ld false 1 89),oD 91 (.len 90),oD 92 (.bin .lss 88 91)]
def Zi.r22:List Oper:=[oD 93 (.fa 2 2),oD 94 (.ld false 1 93),oM 95 12,oD 96 (.ixa 1 94 95),oD 97 (.ld false 1 96),oD 98 (.conv .i64 97),oM 14 98]
def Zi.r23:List Oper:=[oM 99 14,oD 100 (.bin .lss 99 (cI (-2)))]
def Zi.r24:List Oper:=[oM 101 14,oD 102 (.un .neg 101),oM 14 102]
def Zi.r25:List Oper:=[oM 15 (cI 0)]
def Zi.r26:List Oper:=[oM 103 15,oD 104 (.bin .lss 103 (cI 2))]
def Zi.r28:List Oper:=[oM 107 6,oM 108 12,oM 109 15,oC 110 63 [107,108,109],oM 16 110]
def Zi.r29:List Oper:=[oM 111 13,oM 112 15,oD 113 (.bin .shr 111 112),oD 114 (.bin .and 113 (.c (.i .u8 1))),oD 115 (.eq false .sc 114 (.c (.i .u8 0))),oM 116 115,oF 117 116 (.mv 16),oF 118 116 (.bin .lss 117 (cI 0)),oD 119 (.pick 116 (.c (.b true)) 118)]
def Zi.r30:List Oper:=[oM 120 6,oM 121 11,oM 122 12,oM 123 16,oC 124 64 [120,121,122,123],oM 17 124]
def Zi.r31:List Oper:=[oM 125 17,oD 126 (.un .not 125)]
def Zi.r32:List Oper:=[oM 127 11,oM 128 12,oM 129 15,oM 130 16,oM 131 14,oC 132 65 [127,128,129,130,131],oM 11 132]
def Zi.r27:List Oper:=[oM 105 15,oD 106 (.bin .add 105 (cI 1)),oM 15 106]
def Zi.l2:Code:=.seq (.seq Zi.r26 (.cond 104 (.skip) (.exit 6))) (.seq (.block 7 (.seq Zi.r28 (.seq (.seq Zi.r29 (.cond 119 (.exit 7) (.skip))) (.seq Zi.r30 (.seq Zi.r31 (.cond 126 Zi.r32 (.skip))))))) Zi.r27)
def Zi.r16:List Oper:=[oM 75 12,oD 76 (.bin .add 75 (cI 1)),oM 12 76]
def Zi.l3:Code:=.seq (.seq Zi.r15 (.cond 74 (.skip) (.exit 4))) (.seq (.block 5 (.seq Zi.r17 (.seq (.seq Zi.r18 (.cond 81 Zi.r19 (.skip))) (.seq Zi.r20 (.seq (.seq Zi.r21 (.cond 92 (.seq Zi.r22 (.seq Zi.r23 (.cond 100 Zi.r24 (.skip)))) (.skip))) (.seq Zi.r25 (.block 6 (.loop Zi.l2)))))))) Zi.r16)
def Zi.r33:List Oper:=[oM 133 11,oM 134 6,oM 4 133,oM 5 134]
def Zi.code:Code:=.seq Zi.r0 (.seq Zi.r1 (.seq (.seq Zi.r2 (.block 0 (.loop Zi.l1))) (.seq Zi.r13 (.seq (.seq Zi.r14 (.block 4 (.loop Zi.l3))) (.seq Zi.r33 (.ret))))))
def Zi:Func:=⟨135,[.t 4,.t 5],Zi.code⟩
/-! muntin/join.Parts -/
def ZP.r0:List Oper:=[oM 2 (.c (.sn)),oM 3 (cI 0)]
def ZP.r1:List Oper:=[oM 12 0,oC 13 66 [12],oM 4 13]
def ZP.r2:List Oper:=[oM 14 4,oD 15 (.eq true .sc 14 (cI 0))]
def ZP.r3:List Oper:=[oM 16 4,oM 2 (.c (.sn)),oM 3 16]
def ZP.r4:List Oper:=[oM 5 (.c (.sn))]
def ZP.r5:List Oper:=[oM 17 0,oD 18 (.len 17),oD 19 (.mks 1 1 [.b false] 18 18),oM 6 19]
def ZP.r6:List Oper:=[oM 20 0,oD 21 (.len 20),oM 22 (cI 0)]
def ZP.r7:List Oper:=[oD 23 (.bin .lss 22 21)]
def ZP.r8:List Oper:=[oM 24 22,oM 7 24]
def ZP.r9:List Oper:=[oM 25 6,oM 26 7,oD 27 (.ixa 1 25 26),oD 28 (.ld false 1 27)]
def ZP.r10:List Oper:=[oM 30 0,oM 31 7,oC 32 67 [30,31],oM 29 32,oD 33 (.ext 29 0),oD 34 (.ext 29 1),oM 8 33,oM 9 34]
def ZP.r11:List Oper:=[oD 35 (.bsl 1 0 [.n 0] []),oM 10 35]
def ZP.r12:List Oper:=[oM 36 0,oD 37 (.len 36),oM 38 (cI 0)]
def ZP.r13:List Oper:=[oD 39 (.bin .lss 38 37)]
def ZP.r14:List Oper:=[oM 40 38,oM 11 40]
def ZP.r15:List Oper:=[oM 41 11,oM 42 7,oD 43 (.eq false .sc 41 42),oM 44 43,oF 45 44 (.mv 9),oF 46 44 (.mv 11),oF 47 44 (.ixa 1 45 46),oF 48 44 (.ld false 1 47),oF 49 44 (.bin .geq 48 (cI 0)),oD 50 (.pick 44 (.c (.b true)) 49)]
def ZP.r16:List Oper:=[oM 51 6,oM 52 11,oD 53 (.ixa 1 51 52),oN (.st 1 53 (.c (.b true)))]
def ZP.r17:List Oper:=[oM 54 10,oM 55 11,oD 56 (.bsl 1 1 [.n 0] [(0,1,.t 55)]),oD 57 (.app 1 8 54 56),oM 10 57]
def ZP.r18:List Oper:=[oD 58 (.bin .add 38 (cI 1)),oM 38 58]
def ZP.l0:Code:=.seq ZP.r13 (.seq (.cond 39 (.skip) (.exit 2)) (.seq (.block 3 (.seq ZP.r14 (.seq ZP.r15 (.cond 50 (.seq ZP.r16 ZP.r17) (.skip))))) ZP.r18))
def ZP.r19:List Oper:=[oM 59 5,oM 60 10,oD 61 (.bsl 1 1 [.sn] [(0,1,.t 60)]),oD 62 (.app 1 24 59 61),oM 5 62]
def ZP.r20:List Oper:=[oD 63 (.bin .add 22 (cI 1)),oM 22 63]
def ZP.l1:Code:=.seq ZP.r7 (.seq (.cond 23 (.skip) (.exit 0)) (.seq (.block 1 (.seq ZP.r8 (.seq (.seq ZP.r9 (.cond 28 (.exit 1) (.skip))) (.seq ZP.r10 (.seq ZP.r11 (.seq (.seq ZP.r12 (.block 2 (.loop ZP.l0))) ZP.r19)))))) ZP.r20))
def ZP.r21:List Oper:=[oM 64 5,oM 2 64,oM 3 (cI 0)]
def ZP.code:Code:=.seq ZP.r0 (.seq (.seq ZP.r1 (.seq ZP.r2 (.cond 15 (.seq ZP.r3 (.ret)) (.skip)))) (.seq ZP.r4 (.seq ZP.r5 (.seq (.seq ZP.r6 (.block 0 (.loop ZP.l1))) (.seq ZP.r21 (.ret))))))
def ZP:Func:=⟨65,[.t 2,.t 3],ZP.code⟩
/-! muntin/muntinref13.Parts -/
def Z3.r0:List Oper:=[oM 2 (.c (.sn))]
def Z3.r1:List Oper:=[oM 9 0,oD 10 (.len 9),oD 11 (.mks 1 1 [.b false] 10 10),oM 3 11]
def Z3.r2:List Oper:=[oM 4 (.c (.sn))]
def Z3.r3:List Oper:=[oM 5 (cI 0)]
def Z3.r4:List Oper:=[oM 12 5,oM 13 0,oD 14 (.len 13),oD 15 (.bin .lss 12 14)]
def Z3.r6:List Oper:=[oM 18 3,oM 19 5,oD 20 (.ixa 1 18 19),oD 21 (.ld false 1 20)]
def Z3.r7:List Oper:=[oM 22 0,oM 23 5,oC 24 36 [22,23],oM 6 24]
def Z3.r8:List Oper:=[oM 7 (.c (.sn))]
def Z3.r9:List Oper:=[oM 8 (cI 0)]
def Z3.r10:List Oper:=[oM 25 8,oM 26 0,oD 27 (.len 26),oD 28 (.bin .lss 25 27)]
def Z3.r12:List Oper:=[oM 31 6,oM 32 8,oD 33 (.ixa 1 31 32),oD 34 (.ld false 1 33),oD 35 (.bin .geq 34 (cI 0))]
def Z3.r13:List Oper:=[oM 36 3,oM 37 8,oD 38 (.ixa 1 36 37),oN (.st 1 38 (.c (.b true)))]
def Z3.r14:List Oper:=[oM 39 7,oM 40 8,oD 41 (.bsl 1 1 [.n 0] [(0,1,.t 40)]),oD 42 (.app 1 8 39 41),oM 7 42]
def Z3.r11:List Oper:=[oM 29 8,oD 30 (.bin .add 29 (cI 1)),oM 8 30]
def Z3.l0:Code:=.seq (.seq Z3.r10 (.cond 28 (.skip) (.exit 2))) (.seq (.block 3 (.seq Z3.r12 (.cond 35 (.seq Z3.r13 Z3.r14) (.skip)))) Z3.r11)
def Z3.r15:List Oper:=[oM 43 4,oM 44 7,oD 45 (.bsl 1 1 [.sn] [(0,1,.t 44)]),oD 46 (.app 1 24 43 45),oM 4 46]
def Z3.r5:List Oper:=[oM 16 5,oD 17 (.bin .add 16 (cI 1)),oM 5 17]
def Z3.l1:Code:=.seq (.seq Z3.r4 (.cond 15 (.skip) (.exit 0))) (.seq (.block 1 (.seq (.seq Z3.r6 (.cond 21 (.exit 1) (.skip))) (.seq Z3.r7 (.seq Z3.r8 (.seq (.seq Z3.r9 (.block 2 (.loop Z3.l0))) Z3.r15))))) Z3.r5)
def Z3.r16:List Oper:=[oM 47 4,oM 2 47]
def Z3.code:Code:=.seq Z3.r0 (.seq Z3.r1 (.seq Z3.r2 (.seq (.seq Z3.r3 (.block 0 (.loop Z3.l1))) (.seq Z3.r16 (.ret)))))
def Z3:Func:=⟨48,[.t 2],Z3.code⟩
/-! muntin/join.Whole -/
def Zct.r0:List Oper:=[oM 2 (.c (.b false))]
def Zct.r1:List Oper:=[oM 6 0,oC 7 29 [6],oM 5 7,oD 8 (.ext 5 0),oD 9 (.ext 5 1),oM 3 8,oM 4 9]
def Zct.r2:List Oper:=[oM 10 4,oD 11 (.eq false .sc 10 (cI 0)),oM 12 11,oT 13 12 (.mv 3),oT 14 12 (.len 13),oT 15 12 (.eq false .sc 14 (cI 1)),oD 16 (.pick 12 15 (.c (.b false))),oM 2 16]
def Zct.code:Code:=.seq Zct.r0 (.seq Zct.r1 (.seq Zct.r2 (.ret)))
def Zct:Func:=⟨17,[.t 2],Zct.code⟩
/-! muntin/muntinref10.Check -/
def Zv.r0:List Oper:=[oM 2 (cI 0)]
def Zv.r1:List Oper:=[oM 7 0,oD 8 (.len 7),oD 9 (.bin .gtr 8 (cI 4096))]
def Zv.r2:List Oper:=[oM 2 (cI 6)]
def Zv.r3:List Oper:=[oM 3 (cI 0)]
def Zv.r4:List Oper:=[oM 10 3,oM 11 0,oD 12 (.len 11),oD 13 (.bin .lss 10 12)]
def Zv.r6:List Oper:=[oM 4 (cI 0)]
def Zv.r7:List Oper:=[oM 16 4,oD 17 (.bin .lss 16 (cI 4))]
def Zv.r9:List Oper:=[oM 20 0,oM 21 3,oM 22 4,oD 23 (.ixa 8 20 21),oD 24 (.fa 0 23),oD 25 (.ixaa 1 4 24 22),oD 26 (.ld false 1 25),oM 5 26]
def Zv.r10:List Oper:=[oM 27 0,oM 28 3,oM 29 4,oD 30 (.ixa 8 27 28),oD 31 (.fa 4 30),oD 32 (.ixaa 1 4 31 29),oD 33 (.ld false 1 32),oM 6 33]
def Zv.r11:List Oper:=[oM 34 5,oD 35 (.eq false .sc 34 (cI (-1)))]
def Zv.r12:List Oper:=[oM 36 6,oD 37 (.eq true .sc 36 (cI 0))]
def Zv.r13:List Oper:=[oM 2 (cI 9)]
def Zv.r14:List Oper:=[oM 38 5,oD 39 (.bin .lss 38 (cI 0)),oM 40 39,oF 41 40 (.mv 5),oF 42 40 (.mv 0),oF 43 40 (.len 42),oF 44 40 (.bin .geq 41 43),oD 45 (.pick 40 (.c (.b true)) 44),oM 46 45,oF 47 46 (.mv 5),oF 48 46 (.mv 3),oF 49 46 (.eq false .sc 47 48),oD 50 (.pick 46 (.c (.b true)) 49)]
def Zv.r15:List Oper:=[oM 2 (cI 3)]
def Zv.r16:List Oper:=[oM 51 0,oM 52 5,oM 53 4,oD 54 (.bin .add 53 (cI 2)),oD 55 (.bin .rem 54 (cI 4)),oD 56 (.ixa 8 51 52),oD 57 (.fa 0 56),oD 58 (.ixaa 1 4 57 55),oD 59 (.ld false 1 58),oM 60 3,oD 61 (.eq true .sc 59 60),oM 62 61,oF 63 62 (.mv 0),oF 64 62 (.mv 5),oF 65 62 (.mv 4),oF 66 62 (.bin .add 65 (cI 2)),oF 67 62 (.bin .rem 66 (cI 4)),oF 68 62 (.ixa 8 63 64),oF 69 62 (.fa 4 68),oF 70 62 (.ixaa 1 4 69 67),oF 71 62 (.ld false 1 70),oF 72 62 (.mv 6),oF 73 62 (.eq true .sc 71 72),oD 74 (.pick 62 (.c (.b true)) 73),oM 75 74,oF 76 75 (.mv 6),oF 77 75 (.bin .lss 76 (cI (-2))),oD 78 (.pick 75 (.c (.b true)) 77)]
def Zv.r17:List Oper:=[oM 2 (cI 9)]
def Zv.r8:List Oper:=[oM 18 4,oD 19 (.bin .add 18 (cI 1)),oM 4 19]
def Zv.l0:Code:=.seq (.seq Zv.r7 (.cond 17 (.skip) (.exit 2))) (.seq (.block 3 (.seq Zv.r9 (.seq Zv.r10 (.seq (.seq Zv.r11 (.cond 35 (.seq (.seq Zv.r12 (.cond 37 (.seq Zv.r13 (.ret)) (.skip))) (.exit 3)) (.skip))) (.seq (.seq Zv.r14 (.cond 50 (.seq Zv.r15 (.ret)) (.skip))) (.seq Zv.r16 (.cond 78 (.seq Zv.r17 (.ret)) (.skip)))))))) Zv.r8)
def Zv.r5:List Oper:=[oM 14 3,oD 15 (.bin .add 14 (cI 1)),oM 3 15]
def Zv.l1:Code:=.seq (.seq Zv.r4 (.cond 13 (.skip) (.exit 0))) (.seq (.block 1 (.seq Zv.r6 (.block 2 (.loop Zv.l0)))) Zv.r5)
def Zv.r18:List Oper:=[oM 2 (cI 0)]
def Zv.code:Code:=.seq Zv.r0 (.seq (.seq Zv.r1 (.cond 9 (.seq Zv.r2 (.ret)) (.skip))) (.seq (.seq Zv.r3 (.block 0 (.loop Zv.l1))) (.seq Zv.r18 (.ret))))
def Zv:Func:=⟨79,[.t 2],Zv.code⟩
/-! muntin/muntinref13.Far -/
def Zx.r0:List Oper:=[oM 4 (.c (.sn))]
def Zx.r1:List Oper:=[oM 11 0,oD 12 (.len 11),oD 13 (.mks 1 8 [.n 0] 12 12),oM 5 13]
def Zx.r2:List Oper:=[oM 6 (cI 0)]
def Zx.r3:List Oper:=[oM 14 6,oM 15 0,oD 16 (.len 15),oD 17 (.bin .lss 14 16)]
def Zx.r5:List Oper:=[oM 20 5,oM 21 6,oD 22 (.ixa 1 20 21),oN (.st 1 22 (cI (-1)))]
def Zx.r4:List Oper:=[oM 18 6,oD 19 (.bin .add 18 (cI 1)),oM 6 19]
def Zx.l0:Code:=.seq (.seq Zx.r3 (.cond 17 (.skip) (.exit 0))) (.seq (.block 1 Zx.r5) Zx.r4)
def Zx.r6:List Oper:=[oM 23 5,oM 24 1,oD 25 (.ixa 1 23 24),oN (.st 1 25 (cI 0))]
def Zx.r7:List Oper:=[oM 7 (cI 0)]
def Zx.r8:List Oper:=[oM 26 7,oM 27 0,oD 28 (.len 27),oD 29 (.bin .lss 26 28)]
def Zx.r10:List Oper:=[oM 8 (cI 0)]
def Zx.r11:List Oper:=[oM 32 8,oM 33 0,oD 34 (.len 33),oD 35 (.bin .lss 32 34)]
def Zx.r13:List Oper:=[oM 9 (cI 0)]
def Zx.r14:List Oper:=[oM 38 9,oD 39 (.bin .lss 38 (cI 4))]
def Zx.r16:List Oper:=[oM 42 0,oM 43 8,oM 44 9,oD 45 (.ixa 8 42 43),oD 46 (.fa 0 45),oD 47 (.ixaa 1 4 46 44),oD 48 (.ld false 1 47),oM 10 48]
def Zx.r17:List Oper:=[oM 49 5,oM 50 8,oD 51 (.ixa 1 49 50),oD 52 (.ld false 1 51),oM 53 7,oD 54 (.eq false .sc 52 53),oM 55 54,oT 56 55 (.mv 10),oT 57 55 (.bin .geq 56 (cI 0)),oD 58 (.pick 55 57 (.c (.b false))),oM 59 58,oT 60 59 (.mv 5),oT 61 59 (.mv 10),oT 62 59 (.mx [61,.c (.n 0)]),oT 63 59 (.ixa 1 60 62),oT 64 59 (.ld false 1 63),oT 65 59 (.bin .lss 64 (cI 0)),oD 66 (.pick 59 65 (.c (.b false)))]
def Zx.r18:List Oper:=[oM 67 5,oM 68 10,oM 69 7,oD 70 (.bin .add 69 (cI 1)),oD 71 (.ixa 1 67 68),oN (.st 1 71 70)]
def Zx.r15:List Oper:=[oM 40 9,oD 41 (.bin .add 40 (cI 1)),oM 9 41]
def Zx.l1:Code:=.seq (.seq Zx.r14 (.cond 39 (.skip) (.exit 6))) (.seq (.block 7 (.seq Zx.r16 (.seq Zx.r17 (.cond 66 Zx.r18 (.skip))))) Zx.r15)
def Zx.r12:List Oper:=[oM 36 8,oD 37 (.bin .add 36 (cI 1)),oM 8 37]
def Zx.l2:Code:=.seq (.seq Zx.r11 (.cond 35 (.skip) (.exit 4))) (.seq (.block 5 (.seq Zx.r13 (.block 6 (.loop Zx.l1)))) Zx.r12)
def Zx.r9:List Oper:=[oM 30 7,oD 31 (.bin .add 30 (cI 1)),oM 7 31]
def Zx.l3:Code:=.seq (.seq Zx.r8 (.cond 29 (.skip) (.exit 2))) (.seq (.block 3 (.seq Zx.r10 (.block 4 (.loop Zx.l2)))) Zx.r9)
def Zx.r19:List Oper:=[oM 72 5,oM 4 72]
def Zx.code:Code:=.seq Zx.r0 (.seq Zx.r1 (.seq (.seq Zx.r2 (.block 0 (.loop Zx.l0))) (.seq Zx.r6 (.seq (.seq Zx.r7 (.block 2 (.loop Zx.l3))) (.seq Zx.r19 (.ret))))))
def Zx:Func:=⟨73,[.t 4],Zx.code⟩
/-! muntin/muntinref10.New -/
def zn.r0:List Oper:=[oM 2 (.c (.sn))]
def zn.r1:List Oper:=[oM 6 0,oD 7 (.mks 8 64 [.n 0,.n 0,.n 0,.n 0,.n 0,.n 0,.n 0,.n 0] 6 6),oM 3 7]
def zn.r2:List Oper:=[oM 4 (cI 0)]
def zn.r3:List Oper:=[oM 8 4,oM 9 0,oD 10 (.bin .lss 8 9)]
def zn.r5:List Oper:=[oM 5 (cI 0)]
def zn.r6:List Oper:=[oM 13 5,oD 14 (.bin .lss 13 (cI 4))]
def zn.r8:List Oper:=[oM 17 3,oM 18 4,oM 19 5,oD 20 (.ixa 8 17 18),oD 21 (.fa 0 20),oD 22 (.ixaa 1 4 21 19),oN (.st 1 22 (cI (-1)))]
def zn.r7:List Oper:=[oM 15 5,oD 16 (.bin .add 15 (cI 1)),oM 5 16]
def zn.l0:Code:=.seq (.seq zn.r6 (.cond 14 (.skip) (.exit 2))) (.seq (.block 3 zn.r8) zn.r7)
def zn.r4:List Oper:=[oM 11 4,oD 12 (.bin .add 11 (cI 1)),oM 4 12]
def zn.l1:Code:=.seq (.seq zn.r3 (.cond 10 (.skip) (.exit 0))) (.seq (.block 1 (.seq zn.r5 (.block 2 (.loop zn.l0)))) zn.r4)
def zn.r9:List Oper:=[oM 23 3,oM 2 23]
def zn.code:Code:=.seq zn.r0 (.seq zn.r1 (.seq (.seq zn.r2 (.block 0 (.loop zn.l1))) (.seq zn.r9 (.ret))))
def zn:Func:=⟨24,[.t 2],zn.code⟩
/-! muntin/muntinref10.Split -/
def ZE.r0:List Oper:=[oM 6 (.c (.sn)),oM 7 (cI 0),oM 8 (cI 0)]
def ZE.r1:List Oper:=[oM 13 1,oD 14 (.bin .lss 13 (cI 0)),oM 15 14,oF 16 15 (.mv 1),oF 17 15 (.mv 0),oF 18 15 (.len 17),oF 19 15 (.bin .geq 16 18),oD 20 (.pick 15 (.c (.b true)) 19),oM 21 20,oF 22 21 (.mv 2),oF 23 21 (.bin .lss 22 (cI 0)),oD 24 (.pick 21 (.c (.b true)) 23),oM 25 24,oF 26 25 (.mv 2),oF 27 25 (.bin .gtr 26 (cI 3)),oD 28 (.pick 25 (.c (.b true)) 27)]
def ZE.r2:List Oper:=[oM 29 0,oM 6 29,oM 7 (cI 0),oM 8 (cI 2)]
def ZE.r3:List Oper:=[oM 30 0,oM 31 1,oM 32 2,oD 33 (.ixa 8 30 31),oD 34 (.fa 0 33),oD 35 (.ixaa 1 4 34 32),oD 36 (.ld false 1 35),oM 9 36]
def ZE.r4:List Oper:=[oM 37 9,oD 38 (.eq false .sc 37 (cI (-1)))]
def ZE.r5:List Oper:=[oM 39 0,oM 6 39,oM 7 (cI 0),oM 8 (cI 9)]
def ZE.r6:List Oper:=[oM 40 0,oD 41 (.len 40),oD 42 (.bin .geq 41 (cI 4096))]
def ZE.r7:List Oper:=[oM 43 0,oM 6 43,oM 7 (cI 0),oM 8 (cI 6)]
def ZE.r8:List Oper:=[oM 44 0,oM 45 1,oM 46 2,oD 47 (.ixa 8 44 45),oD 48 (.fa 4 47),oD 49 (.ixaa 1 4 48 46),oD 50 (.ld false 1 49),oM 10 50]
def ZE.r9:List Oper:=[oM 51 0,oD 52 (.len 51),oM 11 52]
def ZE.r10:List Oper:=[oC 53 46 [.c (.n 1)],oM 12 53]
def ZE.r11:List Oper:=[oM 54 0,oC 55 65 [54,.c (.n (-1)),.c (.n 0),.c (.n (-1)),.c (.n 0)],oM 56 12,oD 57 (.ixa 8 56 (cI 0)),oD 58 (.ld true 8 57),oD 59 (.bsl 8 1 [.n 0,.n 0,.n 0,.n 0,.n 0,.n 0,.n 0,.n 0] [(0,8,.t 58)]),oD 60 (.app 8 64 55 59),oM 0 60]
def ZE.r12:List Oper:=[oM 61 0,oM 62 1,oM 63 2,oM 64 11,oM 65 10,oC 66 65 [61,62,63,64,65],oM 0 66]
def ZE.r13:List Oper:=[oM 67 0,oM 68 11,oM 69 2,oM 70 9,oM 71 10,oC 72 65 [67,68,69,70,71],oM 0 72]
def ZE.r14:List Oper:=[oM 73 0,oM 74 11,oM 6 73,oM 7 74,oM 8 (cI 0)]
def ZE.code:Code:=.seq ZE.r0 (.seq (.seq ZE.r1 (.cond 28 (.seq ZE.r2 (.ret)) (.skip))) (.seq ZE.r3 (.seq (.seq ZE.r4 (.cond 38 (.seq ZE.r5 (.ret)) (.skip))) (.seq (.seq ZE.r6 (.cond 42 (.seq ZE.r7 (.ret)) (.skip))) (.seq ZE.r8 (.seq ZE.r9 (.seq ZE.r10 (.seq (.draw ZE.r11 [(1,4),(1,5)]) (.seq ZE.r12 (.seq ZE.r13 (.seq ZE.r14 (.ret))))))))))))
def ZE:Func:=⟨75,[.t 6,.t 7,.t 8],ZE.code⟩
/-! slices.Clone[[]muntin/api.Cell,muntin/api.Cell] -/
def Zao.r0:List Oper:=[oM 2 (.c (.sn))]
def Zao.r1:List Oper:=[oM 3 0,oD 4 (.eq false .sl 3 (.c (.sn)))]
def Zao.r2:List Oper:=[oM 2 (.c (.sn))]
def Zao.r3:List Oper:=[oD 5 (.bsl 8 0 [.n 0,.n 0,.n 0,.n 0,.n 0,.n 0,.n 0,.n 0] []),oM 6 0,oD 7 (.app 8 64 5 6),oM 2 7]
def Zao.code:Code:=.seq Zao.r0 (.seq (.seq Zao.r1 (.cond 4 (.seq Zao.r2 (.ret)) (.skip))) (.seq Zao.r3 (.ret)))
def Zao:Func:=⟨8,[.t 2],Zao.code⟩
/-! (*muntin/grid.Grid).Join -/
def zW.r0:List Oper:=[oM 10 (cI 0)]
def zW.r1:List Oper:=[oM 12 0,oD 13 (.eq false .pt 12 (.c (.pn))),oM 11 13]
def zW.r2:List Oper:=[oM 10 (cI 1)]
def zW.r3:List Oper:=[oM 15 0,oM 16 1,oM 17 2,oC 18 75 [15,16,17],oD 19 (.un .not 18),oM 20 19,oF 21 20 (.mv 0),oF 22 20 (.mv 3),oF 23 20 (.mv 2),oF 24 20 (.call (.c (.f 75 [])) [21,22,23]),oF 25 20 (.un .not 24),oD 26 (.pick 20 (.c (.b true)) 25),oM 27 26,oF 28 27 (.mv 1),oF 29 27 (.mv 3),oF 30 27 (.eq false .sc 28 29),oD 31 (.pick 27 (.c (.b true)) 30),oM 32 31,oF 33 32 (.mv 4),oF 34 32 (.bin .lss 33 (cI (-2))),oD 35 (.pick 32 (.c (.b true)) 34),oM 14 35]
def zW.r4:List Oper:=[oM 10 (cI 2)]
def zW.r5:List Oper:=[oM 37 0,oD 38 (.nilck 37),oD 39 (.fa 0 38),oD 40 (.ld false 1 39),oM 41 1,oM 42 2,oD 43 (.ixa 8 40 41),oD 44 (.fa 0 43),oD 45 (.ixaa 1 4 44 42),oD 46 (.ld false 1 45),oD 47 (.eq true .sc 46 (cI (-1))),oM 48 47,oF 49 48 (.mv 0),oF 50 48 (.nilck 49),oF 51 48 (.fa 0 50),oF 52 48 (.ld false 1 51),oF 53 48 (.mv 3),oF 54 48 (.mv 2),oF 55 48 (.call (.c (.f 77 [])) [54,.c (.n 2)]),oF 56 48 (.ixa 8 52 53),oF 57 48 (.fa 0 56),oF 58 48 (.ixaa 1 4 57 55),oF 59 48 (.ld false 1 58),oF 60 48 (.eq true .sc 59 (cI (-1))),oD 61 (.pick 48 (.c (.b true)) 60),oM 36 61]
def zW.r6:List Oper:=[oM 10 (cI 9)]
def zW.r7:List Oper:=[oM 62 0,oM 63 1,oM 64 2,oM 65 3,oM 66 4,oC 67 76 [62,63,64,65,66]]
def zW.r8:List Oper:=[oM 10 (cI 0)]
def zW.code:Code:=.seq zW.r0 (.seq (.block 0 (.seq zW.r1 (.cond 11 (.seq zW.r2 (.ret)) (.seq zW.r3 (.cond 14 (.seq zW.r4 (.ret)) (.seq (.draw zW.r5 [(15,18)]) (.cond 36 (.seq zW.r6 (.ret)) (.skip)))))))) (.seq zW.r7 (.seq zW.r8 (.ret))))
def zW:Func:=⟨68,[.t 10],zW.code⟩
/-! muntin/muntinref10.Join -/
def Zad.r0:List Oper:=[oM 10 (.c (.sn)),oM 11 (cI 0)]
def Zad.r1:List Oper:=[oM 13 1,oD 14 (.bin .lss 13 (cI 0)),oM 15 14,oF 16 15 (.mv 1),oF 17 15 (.mv 0),oF 18 15 (.len 17),oF 19 15 (.bin .geq 16 18),oD 20 (.pick 15 (.c (.b true)) 19),oM 21 20,oF 22 21 (.mv 3),oF 23 21 (.bin .lss 22 (cI 0)),oD 24 (.pick 21 (.c (.b true)) 23),oM 25 24,oF 26 25 (.mv 3),oF 27 25 (.mv 0),oF 28 25 (.len 27),oF 29 25 (.bin .geq 26 28),oD 30 (.pick 25 (.c (.b true)) 29),oM 31 30,oF 32 31 (.mv 1),oF 33 31 (.mv 3),oF 34 31 (.eq false .sc 32 33),oD 35 (.pick 31 (.c (.b true)) 34),oM 36 35,oF 37 36 (.mv 2),oF 38 36 (.bin .lss 37 (cI 0)),oD 39 (.pick 36 (.c (.b true)) 38),oM 40 39,oF 41 40 (.mv 2),oF 42 40 (.bin .gtr 41 (cI 3)),oD 43 (.pick 40 (.c (.b true)) 42),oM 44 43,oF 45 44 (.mv 4),oF 46 44 (.bin .lss 45 (cI (-2))),oD 47 (.pick 44 (.c (.b true)) 46)]
def Zad.r2:List Oper:=[oM 48 0,oM 10 48,oM 11 (cI 2)]
def Zad.r3:List Oper:=[oM 49 0,oM 50 1,oM 51 2,oD 52 (.ixa 8 49 50),oD 53 (.fa 0 52),oD 54 (.ixaa 1 4 53 51),oD 55 (.ld false 1 54),oD 56 (.eq true .sc 55 (cI (-1))),oM 57 56,oF 58 57 (.mv 0),oF 59 57 (.mv 3),oF 60 57 (.mv 2),oF 61 57 (.bin .add 60 (cI 2)),oF 62 57 (.bin .rem 61 (cI 4)),oF 63 57 (.ixa 8 58 59),oF 64 57 (.fa 0 63),oF 65 57 (.ixaa 1 4 64 62),oF 66 57 (.ld false 1 65),oF 67 57 (.eq true .sc 66 (cI (-1))),oD 68 (.pick 57 (.c (.b true)) 67)]
def Zad.r4:List Oper:=[oM 69 0,oM 10 69,oM 11 (cI 9)]
def Zad.r5:List Oper:=[oM 70 0,oM 71 1,oM 72 2,oM 73 3,oM 74 4,oC 75 65 [70,71,72,73,74],oM 12 75]
def Zad.r6:List Oper:=[oM 76 12,oM 10 76,oM 11 (cI 0)]
def Zad.code:Code:=.seq Zad.r0 (.seq (.seq Zad.r1 (.cond 47 (.seq Zad.r2 (.ret)) (.skip))) (.seq (.seq Zad.r3 (.cond 68 (.seq Zad.r4 (.ret)) (.skip))) (.seq Zad.r5 (.seq Zad.r6 (.ret)))))
def Zad:Func:=⟨77,[.t 10,.t 11],Zad.code⟩
/-! (*muntin/grid.Grid).Len -/
def Zbq.r0:List Oper:=[oM 2 (cI 0)]
def Zbq.r1:List Oper:=[oM 3 0,oD 4 (.eq false .pt 3 (.c (.pn)))]
def Zbq.r2:List Oper:=[oM 2 (cI 0)]
def Zbq.r3:List Oper:=[oM 5 0,oD 6 (.nilck 5),oD 7 (.fa 0 6),oD 8 (.ld false 1 7),oD 9 (.len 8),oM 2 9]
def Zbq.code:Code:=.seq Zbq.r0 (.seq (.seq Zbq.r1 (.cond 4 (.seq Zbq.r2 (.ret)) (.skip))) (.seq Zbq.r3 (.ret)))
def Zbq:Func:=⟨10,[.t 2],Zbq.code⟩
/-! muntin/muntinref10.Same -/
def z7.r0:List Oper:=[oM 4 (.c (.b false))]
def z7.r1:List Oper:=[oM 6 0,oD 7 (.len 6),oM 8 1,oD 9 (.len 8),oD 10 (.eq true .sc 7 9)]
def z7.r2:List Oper:=[oM 4 (.c (.b false))]
def z7.r3:List Oper:=[oM 5 (cI 0)]
def z7.r4:List Oper:=[oM 11 5,oM 12 0,oD 13 (.len 12),oD 14 (.bin .lss 11 13)]
def z7.r6:List Oper:=[oM 17 0,oM 18 5,oD 19 (.ixa 8 17 18),oD 20 (.ld true 8 19),oM 21 1,oM 22 5,oD 23 (.ixa 8 21 22),oD 24 (.ld true 8 23),oD 25 (.eq true (.fl [.i,.i,.i,.i,.i,.i,.i,.i]) 20 24)]
def z7.r7:List Oper:=[oM 4 (.c (.b false))]
def z7.r5:List Oper:=[oM 15 5,oD 16 (.bin .add 15 (cI 1)),oM 5 16]
def z7.l0:Code:=.seq (.seq z7.r4 (.cond 14 (.skip) (.exit 0))) (.seq (.block 1 (.seq (.draw z7.r6 [(3,7)]) (.cond 25 (.seq z7.r7 (.ret)) (.skip)))) z7.r5)
def z7.r8:List Oper:=[oM 4 (.c (.b true))]
def z7.code:Code:=.seq z7.r0 (.seq (.seq z7.r1 (.cond 10 (.seq z7.r2 (.ret)) (.skip))) (.seq (.seq z7.r3 (.block 0 (.loop z7.l0))) (.seq z7.r8 (.ret))))
def z7:Func:=⟨26,[.t 4],z7.code⟩
/-! (*muntin/grid.Grid).Cells -/
def Zbe.r0:List Oper:=[oM 2 (.c (.sn))]
def Zbe.r1:List Oper:=[oM 3 0,oD 4 (.eq false .pt 3 (.c (.pn)))]
def Zbe.r2:List Oper:=[oM 2 (.c (.sn))]
def Zbe.r3:List Oper:=[oM 5 0,oD 6 (.nilck 5),oD 7 (.fa 0 6),oD 8 (.ld false 1 7),oC 9 51 [8],oM 2 9]
def Zbe.code:Code:=.seq Zbe.r0 (.seq (.seq Zbe.r1 (.cond 4 (.seq Zbe.r2 (.ret)) (.skip))) (.seq Zbe.r3 (.ret)))
def Zbe:Func:=⟨10,[.t 2],Zbe.code⟩
/-! muntin/kitty.right -/
def Zc4.r0:List Oper:=[oM 2 (.c (.b false))]
def Zc4.r1:List Oper:=[oM 3 0,oC 4 78 [3,.c (.f 80 [])],oD 5 (.un .not 4),oM 2 5]
def Zc4.code:Code:=.seq Zc4.r0 (.seq Zc4.r1 (.ret))
def Zc4:Func:=⟨6,[.t 2],Zc4.code⟩
/-! muntin/kitty.rot -/
def ZbN.r0:List Oper:=[oD 4 (.box 1),oD 5 (.box 2),oM 6 (cI 0)]
def ZbN.r1:List Oper:=[oM 8 0,oD 9 (.fa 0 5),oD 10 (.ld false 1 9),oD 11 (.ixa 1 8 10),oD 12 (.ld false 1 11),oD 13 (.fa 1 5),oD 14 (.ld false 1 13),oD 15 (.bin .sub 12 14),oM 16 0,oD 17 (.fa 0 4),oD 18 (.ld false 1 17),oD 19 (.ixa 1 16 18),oD 20 (.ld false 1 19),oD 21 (.fa 1 4),oD 22 (.ld false 1 21),oD 23 (.bin .sub 20 22),oD 24 (.bin .sub 15 23),oM 7 24]
def ZbN.r2:List Oper:=[oD 25 (.fa 0 5),oD 26 (.ld false 1 25),oD 27 (.fa 0 4),oD 28 (.ld false 1 27),oD 29 (.bin .lss 26 28),oM 30 29,oF 31 30 (.fa 0 5),oF 32 30 (.ld false 1 31),oF 33 30 (.fa 0 4),oF 34 30 (.ld false 1 33),oF 35 30 (.eq false .sc 32 34),oF 36 30 (.mv 35),oT 37 36 (.fa 1 5),oT 38 36 (.ld false 1 37),oT 39 36 (.fa 1 4),oT 40 36 (.ld false 1 39),oT 41 36 (.bin .lss 38 40),oF 42 30 (.pick 36 41 (.c (.b false))),oD 43 (.pick 30 (.c (.b true)) 42)]
def ZbN.r3:List Oper:=[oM 44 7,oM 45 0,oM 46 0,oD 47 (.len 46),oD 48 (.bin .sub 47 (cI 1)),oD 49 (.ixa 1 45 48),oD 50 (.ld false 1 49),oD 51 (.bin .add 44 50),oM 7 51]
def ZbN.r4:List Oper:=[oM 52 7,oM 6 52]
def ZbN.code:Code:=.seq ZbN.r0 (.seq (.draw ZbN.r1 [(2,6),(4,6),(2,10),(4,10),(6,10),(2,12),(4,12),(6,12),(2,14),(4,14),(6,14),(10,14),(12,14)]) (.seq (.seq ZbN.r2 (.cond 43 ZbN.r3 (.skip))) (.seq ZbN.r4 (.ret))))
def ZbN:Func:=⟨53,[.t 6],ZbN.code⟩
/-! muntin/kitty.sums -/
def ZaM.r0:List Oper:=[oM 2 (.c (.sn))]
def ZaM.r1:List Oper:=[oM 6 0,oD 7 (.len 6),oD 8 (.bin .add 7 (cI 1)),oD 9 (.mks 1 8 [.n 0] 8 8),oM 3 9]
def ZaM.r2:List Oper:=[oM 10 0,oD 11 (.len 10),oM 12 (cI 0)]
def ZaM.r3:List Oper:=[oD 13 (.bin .lss 12 11)]
def ZaM.r4:List Oper:=[oM 14 12,oD 15 (.ixa 1 10 12),oD 16 (.ld false 1 15),oM 4 14,oM 5 16]
def ZaM.r5:List Oper:=[oM 17 3,oM 18 4,oD 19 (.bin .add 18 (cI 1)),oM 20 3,oM 21 4,oD 22 (.ixa 1 20 21),oD 23 (.ld false 1 22),oM 24 5,oD 25 (.bin .add 23 24),oD 26 (.ixa 1 17 19),oN (.st 1 26 25)]
def ZaM.r6:List Oper:=[oD 27 (.bin .add 12 (cI 1)),oM 12 27]
def ZaM.l0:Code:=.seq ZaM.r3 (.seq (.cond 13 (.skip) (.exit 0)) (.seq (.block 1 (.seq ZaM.r4 ZaM.r5)) ZaM.r6))
def ZaM.r7:List Oper:=[oM 28 3,oM 2 28]
def ZaM.code:Code:=.seq ZaM.r0 (.seq ZaM.r1 (.seq (.seq ZaM.r2 (.block 0 (.loop ZaM.l0))) (.seq ZaM.r7 (.ret))))
def ZaM:Func:=⟨29,[.t 2],ZaM.code⟩
/-! muntin/muntinref10.Nearest -/
def ZQ.r0:List Oper:=[oM 6 (cI 0)]
def ZQ.r1:List Oper:=[oM 7 (cI (-1))]
def ZQ.r2:List Oper:=[oM 8 (cI 0)]
def ZQ.r3:List Oper:=[oM 9 8,oM 10 0,oD 11 (.len 10),oD 12 (.bin .lss 9 11)]
def ZQ.r5:List Oper:=[oM 15 2,oD 16 (.eq false .sc 15 (cI 0)),oM 17 16,oT 18 17 (.mv 0),oT 19 17 (.mv 8),oT 20 17 (.ixa 2 18 19),oT 21 17 (.fa 1 20),oT 22 17 (.ld false 1 21),oT 23 17 (.mv 0),oT 24 17 (.mv 1),oT 25 17 (.ixa 2 23 24),oT 26 17 (.fa 1 25),oT 27 17 (.ld false 1 26),oT 28 17 (.eq false .sc 22 27),oD 29 (.pick 17 28 (.c (.b false))),oM 30 29,oT 31 30 (.mv 0),oT 32 30 (.mv 8),oT 33 30 (.ixa 2 31 32),oT 34 30 (.fa 0 33),oT 35 30 (.ld false 1 34),oT 36 30 (.mv 0),oT 37 30 (.mv 1),oT 38 30 (.ixa 2 36 37),oT 39 30 (.fa 0 38),oT 40 30 (.ld false 1 39),oT 41 30 (.bin .gtr 35 40),oD 42 (.pick 30 41 (.c (.b false))),oM 43 42,oT 44 43 (.mv 7),oT 45 43 (.bin .lss 44 (cI 0)),oT 46 43 (.mv 45),oF 47 46 (.mv 0),oF 48 46 (.mv 8),oF 49 46 (.ixa 2 47 48),oF 50 46 (.fa 0 49),oF 51 46 (.ld false 1 50),oF 52 46 (.mv 0),oF 53 46 (.mv 7),oF 54 46 (.ixa 2 52 53),oF 55 46 (.fa 0 54),oF 56 46 (.ld false 1 55),oF 57 46 (.bin .lss 51 56),oT 58 43 (.pick 46 (.c (.b true)) 57),oD 59 (.pick 43 58 (.c (.b false)))]
def ZQ.r6:List Oper:=[oM 60 8,oM 7 60]
def ZQ.r7:List Oper:=[oM 61 2,oD 62 (.eq false .sc 61 (cI 1)),oM 63 62,oT 64 63 (.mv 0),oT 65 63 (.mv 8),oT 66 63 (.ixa 2 64 65),oT 67 63 (.fa 0 66),oT 68 63 (.ld false 1 67),oT 69 63 (.mv 0),oT 70 63 (.mv 1),oT 71 63 (.ixa 2 69 70),oT 72 63 (.fa 0 71),oT 73 63 (.ld false 1 72),oT 74 63 (.eq false .sc 68 73),oD 75 (.pick 63 74 (.c (.b false))),oM 76 75,oT 77 76 (.mv 0),oT 78 76 (.mv 8),oT 79 76 (.ixa 2 77 78),oT 80 76 (.fa 1 79),oT 81 76 (.ld false 1 80),oT 82 76 (.mv 0),oT 83 76 (.mv 1),oT 84 76 (.ixa 2 82 83),oT 85 76 (.fa 1 84),oT 86 76 (.ld false 1 85),oT 87 76 (.bin .gtr 81 86),oD 88 (.pick 76 87 (.c (.b false))),oM 89 88,oT 90 89 (.mv 7),oT 91 89 (.bin .lss 90 (cI 0)),oT 92 89 (.mv 91),oF 93 92 (.mv 0),oF 94 92 (.mv 8),oF 95 92 (.ixa 2 93 94),oF 96 92 (.fa 1 95),oF 97 92 (.ld false 1 96),oF 98 92 (.mv 0),oF 99 92 (.mv 7),oF 100 92 (.ixa 2 98 99),oF 101 92 (.fa 1 100),oF 102 92 (.ld false 1 101),oF 103 92 (.bin .lss 97 102),oT 104 89 (.pick 92 (.c (.b true)) 103),oD 105 (.pick 89 104 (.c (.b false)))]
def ZQ.r8:List Oper:=[oM 106 8,oM 7 106]
def ZQ.r4:List Oper:=[oM 13 8,oD 14 (.bin .add 13 (cI 1)),oM 8 14]
def ZQ.l0:Code:=.seq (.seq ZQ.r3 (.cond 12 (.skip) (.exit 0))) (.seq (.block 1 (.seq (.seq (.draw ZQ.r5 [(7,12),(20,25),(36,41)]) (.cond 59 ZQ.r6 (.skip))) (.seq (.draw ZQ.r7 [(7,12),(20,25),(36,41)]) (.cond 105 ZQ.r8 (.skip))))) ZQ.r4)
def ZQ.r9:List Oper:=[oM 107 7,oM 6 107]
def ZQ.code:Code:=.seq ZQ.r0 (.seq ZQ.r1 (.seq (.seq ZQ.r2 (.block 0 (.loop ZQ.l0))) (.seq ZQ.r9 (.ret))))
def ZQ:Func:=⟨108,[.t 6],ZQ.code⟩
/-! muntin/muntinref10.Crossed -/
def Z0.r0:List Oper:=[oM 8 (.c (.b false))]
def Z0.r1:List Oper:=[oM 9 (cI 0)]
def Z0.r2:List Oper:=[oM 14 9,oM 15 1,oD 16 (.len 15),oD 17 (.bin .lss 14 16)]
def Z0.r4:List Oper:=[oM 10 (cI 0)]
def Z0.r5:List Oper:=[oM 20 10,oD 21 (.bin .lss 20 (cI 2))]
def Z0.r7:List Oper:=[oM 24 1,oM 25 9,oM 26 10,oD 27 (.ixa 8 24 25),oD 28 (.fa 0 27),oD 29 (.ixaa 1 4 28 26),oD 30 (.ld false 1 29),oM 11 30]
def Z0.r8:List Oper:=[oM 31 11,oD 32 (.bin .lss 31 (cI 0))]
def Z0.r9:List Oper:=[oM 33 0,oM 34 9,oD 35 (.ixa 2 33 34),oD 36 (.ld true 2 35),oD 12 (.alloc [.n 0,.n 0]),oN (.st 2 12 36)]
def Z0.r10:List Oper:=[oM 37 0,oM 38 11,oD 39 (.ixa 2 37 38),oD 40 (.ld true 2 39),oD 13 (.alloc [.n 0,.n 0]),oN (.st 2 13 40)]
def Z0.r11:List Oper:=[oD 41 (.fa 1 12),oD 42 (.ld false 1 41),oD 43 (.fa 1 13),oD 44 (.ld false 1 43),oD 45 (.eq false .sc 42 44),oM 46 45,oT 47 46 (.mv 0),oT 48 46 (.mv 2),oT 49 46 (.ixa 2 47 48),oT 50 46 (.fa 0 49),oT 51 46 (.ld false 1 50),oT 52 46 (.mv 0),oT 53 46 (.mv 3),oT 54 46 (.ixa 2 52 53),oT 55 46 (.fa 0 54),oT 56 46 (.ld false 1 55),oT 57 46 (.eq false .sc 51 56),oD 58 (.pick 46 57 (.c (.b false))),oM 59 58,oT 60 59 (.fa 0 12),oT 61 59 (.ld false 1 60),oT 62 59 (.mv 0),oT 63 59 (.mv 2),oT 64 59 (.ixa 2 62 63),oT 65 59 (.fa 0 64),oT 66 59 (.ld false 1 65),oT 67 59 (.bin .lss 61 66),oD 68 (.pick 59 67 (.c (.b false))),oM 69 68,oT 70 69 (.mv 0),oT 71 69 (.mv 2),oT 72 69 (.ixa 2 70 71),oT 73 69 (.fa 0 72),oT 74 69 (.ld false 1 73),oT 75 69 (.fa 0 13),oT 76 69 (.ld false 1 75),oT 77 69 (.bin .lss 74 76),oD 78 (.pick 69 77 (.c (.b false))),oM 79 78,oT 80 79 (.mv 0),oT 81 79 (.mv 2),oT 82 79 (.ixa 2 80 81),oT 83 79 (.fa 1 82),oT 84 79 (.ld false 1 83),oT 85 79 (.fa 1 12),oT 86 79 (.ld false 1 85),oT 87 79 (.bin .lss 84 86),oD 88 (.pick 79 87 (.c (.b false))),oM 89 88,oT 90 89 (.fa 1 12),oT 91 89 (.ld false 1 90),oT 92 89 (.mv 0),oT 93 89 (.mv 3),oT 94 89 (.ixa 2 92 93),oT 95 89 (.fa 1 94),oT 96 89 (.ld false 1 95),oT 97 89 (.bin .lss 91 96),oD 98 (.pick 89 97 (.c (.b false)))]
def Z0.r12:List Oper:=[oM 8 (.c (.b true))]
def Z0.r13:List Oper:=[oD 99 (.fa 0 12),oD 100 (.ld false 1 99),oD 101 (.fa 0 13),oD 102 (.ld false 1 101),oD 103 (.eq false .sc 100 102),oM 104 103,oT 105 104 (.mv 0),oT 106 104 (.mv 2),oT 107 104 (.ixa 2 105 106),oT 108 104 (.fa 1 107),oT 109 104 (.ld false 1 108),oT 110 104 (.mv 0),oT 111 104 (.mv 3),oT 112 104 (.ixa 2 110 111),oT 113 104 (.fa 1 112),oT 114 104 (.ld false 1 113),oT 115 104 (.eq false .sc 109 114),oD 116 (.pick 104 115 (.c (.b false))),oM 117 116,oT 118 117 (.mv 0),oT 119 117 (.mv 2),oT 120 117 (.ixa 2 118 119),oT 121 117 (.fa 0 120),oT 122 117 (.ld false 1 121),oT 123 117 (.fa 0 12),oT 124 117 (.ld false 1 123),oT 125 117 (.bin .lss 122 124),oD 126 (.pick 117 125 (.c (.b false))),oM 127 126,oT 128 127 (.fa 0 12),oT 129 127 (.ld false 1 128),oT 130 127 (.mv 0),oT 131 127 (.mv 3),oT 132 127 (.ixa 2 130 131),oT 133 127 (.fa 0 132),oT 134 127 (.ld false 1 133),oT 135 127 (.bin .lss 129 134),oD 136 (.pick 127 135 (.c (.b false))),oM 137 136,oT 138 137 (.fa 1 12),oT 139 137 (.ld false 1 138),oT 140 137 (.mv 0),oT 141 137 (.mv 2),oT 142 137 (.ixa 2 140 141),oT 143 137 (.fa 1 142),oT 144 137 (.ld false 1 143),oT 145 137 (.bin .lss 139 144),oD 146 (.pick 137 145 (.c (.b false))),oM 147 146,oT 148 147 (.mv 0),oT 149 147 (.mv 2),oT 150 147 (.ixa 2 148 149),oT 151 147 (.fa 1 150),oT 152 147 (.ld false 1 151),oT 153 147 (.fa 1 13),oT 154 147 (.ld false 1 153),oT 155 147 (.bin .lss 152 154),oD 156 (.pick 147 155 (.c (.b false)))]
def Z0.r14:List Oper:=[oM 8 (.c (.b true))]
def Z0.r6:List Oper:=[oM 22 10,oD 23 (.bin .add 22 (cI 1)),oM 10 23]
def Z0.l0:Code:=.seq (.seq Z0.r5 (.cond 21 (.skip) (.exit 2))) (.seq (.block 3 (.seq Z0.r7 (.seq (.seq Z0.r8 (.cond 32 (.exit 3) (.skip))) (.seq Z0.r9 (.seq Z0.r10 (.seq (.seq (.draw Z0.r11 [(1,3),(10,15),(20,25),(33,35),(43,45),(50,55)]) (.cond 98 (.seq Z0.r12 (.ret)) (.skip))) (.seq (.draw Z0.r13 [(1,3),(10,15),(23,25),(30,35),(40,45),(53,55)]) (.cond 156 (.seq Z0.r14 (.ret)) (.skip))))))))) Z0.r6)
def Z0.r3:List Oper:=[oM 18 9,oD 19 (.bin .add 18 (cI 1)),oM 9 19]
def Z0.l1:Code:=.seq (.seq Z0.r2 (.cond 17 (.skip) (.exit 0))) (.seq (.block 1 (.seq Z0.r4 (.block 2 (.loop Z0.l0)))) Z0.r3)
def Z0.r15:List Oper:=[oM 8 (.c (.b false))]
def Z0.code:Code:=.seq Z0.r0 (.seq (.seq Z0.r1 (.block 0 (.loop Z0.l1))) (.seq Z0.r15 (.ret)))
def Z0:Func:=⟨157,[.t 8],Z0.code⟩
/-! muntin/muntinref10.with -/
def ZL.r0:List Oper:=[oM 10 (.c (.sn))]
def ZL.r1:List Oper:=[oM 11 (.c (.sn))]
def ZL.r2:List Oper:=[oM 12 (cI 0)]
def ZL.r3:List Oper:=[oM 14 12,oM 15 0,oD 16 (.len 15),oD 17 (.bin .lss 14 16)]
def ZL.r5:List Oper:=[oM 20 0,oM 21 12,oD 22 (.ixa 8 20 21),oD 23 (.ld true 8 22),oD 13 (.alloc [.n 0,.n 0,.n 0,.n 0,.n 0,.n 0,.n 0,.n 0]),oN (.st 8 13 23)]
def ZL.r6:List Oper:=[oM 24 12,oM 25 1,oD 26 (.eq false .sc 24 25)]
def ZL.r7:List Oper:=[oM 27 2,oM 28 3,oD 29 (.fa 0 13),oD 30 (.ixaa 1 4 29 27),oN (.st 1 30 28)]
def ZL.r8:List Oper:=[oM 31 2,oM 32 4,oD 33 (.fa 4 13),oD 34 (.ixaa 1 4 33 31),oN (.st 1 34 32)]
def ZL.r9:List Oper:=[oM 35 12,oM 36 3,oD 37 (.eq false .sc 35 36)]
def ZL.r10:List Oper:=[oM 38 2,oD 39 (.bin .add 38 (cI 2)),oD 40 (.bin .rem 39 (cI 4)),oM 41 1,oD 42 (.fa 0 13),oD 43 (.ixaa 1 4 42 40),oN (.st 1 43 41)]
def ZL.r11:List Oper:=[oM 44 2,oD 45 (.bin .add 44 (cI 2)),oD 46 (.bin .rem 45 (cI 4)),oM 47 4,oD 48 (.fa 4 13),oD 49 (.ixaa 1 4 48 46),oN (.st 1 49 47)]
def ZL.r12:List Oper:=[oM 50 11,oD 51 (.ld true 8 13),oD 52 (.bsl 8 1 [.n 0,.n 0,.n 0,.n 0,.n 0,.n 0,.n 0,.n 0] [(0,8,.t 51)]),oD 53 (.app 8 64 50 52),oM 11 53]
def ZL.r4:List Oper:=[oM 18 12,oD 19 (.bin .add 18 (cI 1)),oM 12 19]
def ZL.l0:Code:=.seq (.seq ZL.r3 (.cond 17 (.skip) (.exit 0))) (.seq (.block 1 (.seq ZL.r5 (.seq (.seq ZL.r6 (.cond 26 (.seq ZL.r7 ZL.r8) (.skip))) (.seq (.seq ZL.r9 (.cond 37 (.seq ZL.r10 ZL.r11) (.skip))) ZL.r12)))) ZL.r4)
def ZL.r13:List Oper:=[oM 54 11,oM 10 54]
def ZL.code:Code:=.seq ZL.r0 (.seq ZL.r1 (.seq (.seq ZL.r2 (.block 0 (.loop ZL.l0))) (.seq ZL.r13 (.ret))))
def ZL:Func:=⟨55,[.t 10],ZL.code⟩
/-! muntin/grid.Check -/
def z9.r0:List Oper:=[oM 2 (cI 0)]
def z9.r1:List Oper:=[oM 6 0,oD 7 (.len 6),oD 8 (.bin .gtr 7 (cI 4096))]
def z9.r2:List Oper:=[oM 2 (cI 6)]
def z9.r3:List Oper:=[oM 9 0,oD 10 (.len 9),oM 11 (cI 0)]
def z9.r4:List Oper:=[oD 12 (.bin .lss 11 10)]
def z9.r5:List Oper:=[oM 13 11,oM 3 13]
def z9.r6:List Oper:=[oM 14 (cI 0)]
def z9.r7:List Oper:=[oD 15 (.bin .lss 14 (cI 4))]
def z9.r8:List Oper:=[oM 16 14,oM 4 16]
def z9.r9:List Oper:=[oM 17 0,oM 18 3,oM 19 4,oC 20 82 [17,18,19],oM 5 20]
def z9.r10:List Oper:=[oM 21 5,oD 22 (.eq true .sc 21 (cI 0))]
def z9.r11:List Oper:=[oM 23 5,oM 2 23]
def z9.r12:List Oper:=[oD 24 (.bin .add 14 (cI 1)),oM 14 24]
def z9.l0:Code:=.seq z9.r7 (.seq (.cond 15 (.skip) (.exit 2)) (.seq (.block 3 (.seq z9.r8 (.seq z9.r9 (.seq z9.r10 (.cond 22 (.seq z9.r11 (.ret)) (.skip)))))) z9.r12))
def z9.r13:List Oper:=[oD 25 (.bin .add 11 (cI 1)),oM 11 25]
def z9.l1:Code:=.seq z9.r4 (.seq (.cond 12 (.skip) (.exit 0)) (.seq (.block 1 (.seq z9.r5 (.seq z9.r6 (.block 2 (.loop z9.l0))))) z9.r13))
def z9.r14:List Oper:=[oM 2 (cI 0)]
def z9.code:Code:=.seq z9.r0 (.seq (.seq z9.r1 (.cond 8 (.seq z9.r2 (.ret)) (.skip))) (.seq (.seq z9.r3 (.block 0 (.loop z9.l1))) (.seq z9.r14 (.ret))))
def z9:Func:=⟨26,[.t 2],z9.code⟩
/-! muntin/join.spread -/
def zb.r0:List Oper:=[oM 4 (.c (.sn)),oM 5 (.c (.sn))]
def zb.r1:List Oper:=[oD 13 (.bsl 1 1 [.n 0] [(0,1,.c (.n (-1)))]),oM 14 0,oD 15 (.len 14),oC 16 83 [13,15],oD 17 (.bsl 1 1 [.n 0] [(0,1,.c (.n (-1)))]),oM 18 0,oD 19 (.len 18),oC 20 83 [17,19],oM 6 16,oM 7 20]
def zb.r2:List Oper:=[oM 21 1,oD 22 (.bsl 1 1 [.n 0] [(0,1,.t 21)]),oM 8 22]
def zb.r3:List Oper:=[oM 23 0,oD 24 (.len 23),oD 25 (.mks 1 1 [.b false] 24 24),oM 9 25]
def zb.r4:List Oper:=[oM 26 9,oM 27 1,oD 28 (.ixa 1 26 27),oN (.st 1 28 (.c (.b true)))]
def zb.r5:List Oper:=[oM 29 8,oD 30 (.len 29),oD 31 (.bin .gtr 30 (cI 0))]
def zb.r6:List Oper:=[oM 32 8,oD 33 (.ixa 1 32 (cI 0)),oD 34 (.ld false 1 33),oM 10 34]
def zb.r7:List Oper:=[oM 35 8,oD 36 (.slc 1 35 (some (cI 1)) none none),oM 8 36]
def zb.r8:List Oper:=[oM 37 (cI 0)]
def zb.r9:List Oper:=[oD 38 (.bin .lss 37 (cI 4))]
def zb.r10:List Oper:=[oM 39 37,oM 11 39]
def zb.r11:List Oper:=[oM 40 0,oM 41 10,oM 42 11,oD 43 (.ixa 8 40 41),oD 44 (.fa 0 43),oD 45 (.ixaa 1 4 44 42),oD 46 (.ld false 1 45),oM 12 46]
def zb.r12:List Oper:=[oM 47 12,oD 48 (.bin .geq 47 (cI 0)),oM 49 48,oT 50 49 (.mv 9),oT 51 49 (.mv 12),oT 52 49 (.ixa 1 50 51),oT 53 49 (.ld false 1 52),oT 54 49 (.un .not 53),oD 55 (.pick 49 54 (.c (.b false)))]
def zb.r13:List Oper:=[oM 56 9,oM 57 12,oM 58 6,oM 59 12,oM 60 7,oM 61 12,oM 62 10,oM 63 11,oD 64 (.ixa 1 56 57),oN (.st 1 64 (.c (.b true))),oD 65 (.ixa 1 58 59),oN (.st 1 65 62),oD 66 (.ixa 1 60 61),oN (.st 1 66 63)]
def zb.r14:List Oper:=[oM 67 8,oM 68 12,oD 69 (.bsl 1 1 [.n 0] [(0,1,.t 68)]),oD 70 (.app 1 8 67 69),oM 8 70]
def zb.r15:List Oper:=[oD 71 (.bin .add 37 (cI 1)),oM 37 71]
def zb.l0:Code:=.seq zb.r9 (.seq (.cond 38 (.skip) (.exit 2)) (.seq (.block 3 (.seq zb.r10 (.seq zb.r11 (.seq zb.r12 (.cond 55 (.seq zb.r13 zb.r14) (.skip)))))) zb.r15))
def zb.l1:Code:=.seq (.seq zb.r5 (.cond 31 (.skip) (.exit 0))) (.block 1 (.seq zb.r6 (.seq zb.r7 (.seq zb.r8 (.block 2 (.loop zb.l0))))))
def zb.r16:List Oper:=[oM 72 6,oM 73 7,oM 4 72,oM 5 73]
def zb.code:Code:=.seq zb.r0 (.seq zb.r1 (.seq zb.r2 (.seq zb.r3 (.seq zb.r4 (.seq (.block 0 (.loop zb.l1)) (.seq zb.r16 (.ret)))))))
def zb:Func:=⟨74,[.t 4,.t 5],zb.code⟩
/-! (*muntin/grid.Grid).is -/
def Zcs.r0:List Oper:=[oM 6 (.c (.b false))]
def Zcs.r1:List Oper:=[oM 7 1,oD 8 (.bin .geq 7 (cI 0)),oM 9 8,oT 10 9 (.mv 1),oT 11 9 (.mv 0),oT 12 9 (.call (.c (.f 55 [])) [11]),oT 13 9 (.bin .lss 10 12),oD 14 (.pick 9 13 (.c (.b false))),oM 15 14,oT 16 15 (.mv 2),oT 17 15 (.call (.c (.f 90 [])) [16]),oD 18 (.pick 15 17 (.c (.b false))),oM 6 18]
def Zcs.code:Code:=.seq Zcs.r0 (.seq Zcs.r1 (.ret))
def Zcs:Func:=⟨19,[.t 6],Zcs.code⟩
/-! (*muntin/grid.Grid).lay -/
def ZbA.r0:List Oper:=[oM 11 2,oC 12 77 [11,.c (.n 2)],oM 10 12]
def ZbA.r1:List Oper:=[oM 13 0,oD 14 (.nilck 13),oD 15 (.fa 0 14),oD 16 (.ld false 1 15),oM 17 1,oM 18 2,oM 19 0,oD 20 (.nilck 19),oD 21 (.fa 0 20),oD 22 (.ld false 1 21),oM 23 1,oM 24 2,oM 25 3,oM 26 4,oD 27 (.ixa 8 16 17),oD 28 (.fa 0 27),oD 29 (.ixaa 1 4 28 18),oN (.st 1 29 25),oD 30 (.ixa 8 22 23),oD 31 (.fa 4 30),oD 32 (.ixaa 1 4 31 24),oN (.st 1 32 26)]
def ZbA.r2:List Oper:=[oM 33 0,oD 34 (.nilck 33),oD 35 (.fa 0 34),oD 36 (.ld false 1 35),oM 37 3,oM 38 10,oM 39 0,oD 40 (.nilck 39),oD 41 (.fa 0 40),oD 42 (.ld false 1 41),oM 43 3,oM 44 10,oM 45 1,oM 46 4,oD 47 (.ixa 8 36 37),oD 48 (.fa 0 47),oD 49 (.ixaa 1 4 48 38),oN (.st 1 49 45),oD 50 (.ixa 8 42 43),oD 51 (.fa 4 50),oD 52 (.ixaa 1 4 51 44),oN (.st 1 52 46)]
def ZbA.code:Code:=.seq ZbA.r0 (.seq (.draw ZbA.r1 [(3,9)]) (.draw ZbA.r2 [(3,9)]))
def ZbA:Func:=⟨53,[],ZbA.code⟩
/-! muntin/compass.Left -/
def Zbw.r0:List Oper:=[oM 4 (cI 0)]
def Zbw.r1:List Oper:=[oM 5 0,oC 6 90 [5],oD 7 (.un .not 6)]
def Zbw.r2:List Oper:=[oM 4 (cI 0)]
def Zbw.r3:List Oper:=[oM 8 0,oM 9 1,oD 10 (.bin .rem 9 (cI 4)),oD 11 (.bin .add 8 10),oD 12 (.bin .add 11 (cI 4)),oD 13 (.bin .rem 12 (cI 4)),oM 4 13]
def Zbw.code:Code:=.seq Zbw.r0 (.seq (.seq Zbw.r1 (.cond 7 (.seq Zbw.r2 (.ret)) (.skip))) (.seq Zbw.r3 (.ret)))
def Zbw:Func:=⟨14,[.t 4],Zbw.code⟩
/-! slices.ContainsFunc[[]int,int] -/
def ZaV.r0:List Oper:=[oM 4 (.c (.b false))]
def ZaV.r1:List Oper:=[oM 5 0,oM 6 1,oC 7 91 [5,6],oD 8 (.bin .geq 7 (cI 0)),oM 4 8]
def ZaV.code:Code:=.seq ZaV.r0 (.seq ZaV.r1 (.ret))
def ZaV:Func:=⟨9,[.t 4],ZaV.code⟩
/-! muntin/kitty.right$1 -/
def ZbY.r0:List Oper:=[oM 2 (.c (.b false))]
def ZbY.r1:List Oper:=[oM 3 0,oD 4 (.bin .lss 3 (cI (-2))),oM 5 4,oF 6 5 (.mv 0),oF 7 5 (.bin .gtr 6 (cI 1)),oD 8 (.pick 5 (.c (.b true)) 7),oM 2 8]
def ZbY.code:Code:=.seq ZbY.r0 (.seq ZbY.r1 (.ret))
def ZbY:Func:=⟨9,[.t 2],ZbY.code⟩
/-! muntin/grid.side -/
def Za1.r0:List Oper:=[oM 6 (cI 0)]
def Za1.r1:List Oper:=[oM 10 0,oM 11 1,oM 12 2,oD 13 (.ixa 8 10 11),oD 14 (.fa 0 13),oD 15 (.ixaa 1 4 14 12),oD 16 (.ld false 1 15),oM 17 0,oM 18 1,oM 19 2,oD 20 (.ixa 8 17 18),oD 21 (.fa 4 20),oD 22 (.ixaa 1 4 21 19),oD 23 (.ld false 1 22),oM 7 16,oM 8 23]
def Za1.r2:List Oper:=[oM 24 7,oD 25 (.eq false .sc 24 (cI (-1)))]
def Za1.r3:List Oper:=[oM 26 8,oD 27 (.eq true .sc 26 (cI 0))]
def Za1.r4:List Oper:=[oM 6 (cI 9)]
def Za1.r5:List Oper:=[oM 6 (cI 0)]
def Za1.r6:List Oper:=[oM 28 7,oD 29 (.bin .lss 28 (cI 0)),oM 30 29,oF 31 30 (.mv 7),oF 32 30 (.mv 0),oF 33 30 (.len 32),oF 34 30 (.bin .geq 31 33),oD 35 (.pick 30 (.c (.b true)) 34),oM 36 35,oF 37 36 (.mv 7),oF 38 36 (.mv 1),oF 39 36 (.eq false .sc 37 38),oD 40 (.pick 36 (.c (.b true)) 39)]
def Za1.r7:List Oper:=[oM 6 (cI 3)]
def Za1.r8:List Oper:=[oM 41 2,oC 42 77 [41,.c (.n 2)],oM 9 42]
def Za1.r9:List Oper:=[oM 43 0,oM 44 7,oM 45 9,oD 46 (.ixa 8 43 44),oD 47 (.fa 0 46),oD 48 (.ixaa 1 4 47 45),oD 49 (.ld false 1 48),oM 50 1,oD 51 (.eq true .sc 49 50),oM 52 51,oF 53 52 (.mv 0),oF 54 52 (.mv 7),oF 55 52 (.mv 9),oF 56 52 (.ixa 8 53 54),oF 57 52 (.fa 4 56),oF 58 52 (.ixaa 1 4 57 55),oF 59 52 (.ld false 1 58),oF 60 52 (.mv 8),oF 61 52 (.eq true .sc 59 60),oD 62 (.pick 52 (.c (.b true)) 61),oM 63 62,oF 64 63 (.mv 8),oF 65 63 (.bin .lss 64 (cI (-2))),oD 66 (.pick 63 (.c (.b true)) 65)]
def Za1.r10:List Oper:=[oM 6 (cI 9)]
def Za1.r11:List Oper:=[oM 6 (cI 0)]
def Za1.code:Code:=.seq Za1.r0 (.seq (.draw Za1.r1 [(6,13)]) (.seq (.seq Za1.r2 (.cond 25 (.seq (.seq Za1.r3 (.cond 27 (.seq Za1.r4 (.ret)) (.skip))) (.seq Za1.r5 (.ret))) (.skip))) (.seq (.seq Za1.r6 (.cond 40 (.seq Za1.r7 (.ret)) (.skip))) (.seq Za1.r8 (.seq (.seq Za1.r9 (.cond 66 (.seq Za1.r10 (.ret)) (.skip))) (.seq Za1.r11 (.ret)))))))
def Za1:Func:=⟨67,[.t 6],Za1.code⟩
/-! slices.Repeat[[]int,int] -/
def ZY.r0:List Oper:=[oM 4 (.c (.sn))]
def ZY.r1:List Oper:=[oM 9 1,oD 10 (.bin .lss 9 (cI 0))]
def ZY.r2:List Oper:=[oD 11 (.bad),oN (.bad)]
def ZY.r3:List Oper:=[oM 13 0,oD 14 (.len 13),oD 15 (.conv .u64 14),oM 16 1,oD 17 (.conv .u64 16),oC 18 89 [15,17],oM 12 18,oD 19 (.ext 12 0),oD 20 (.ext 12 1),oM 5 19,oM 6 20]
def ZY.r4:List Oper:=[oM 21 5,oD 22 (.bin .gtr 21 (.c (.i .u64 0))),oM 23 22,oF 24 23 (.mv 6),oF 25 23 (.bin .gtr 24 (.c (.i .u64 9223372036854775807))),oD 26 (.pick 23 (.c (.b true)) 25)]
def ZY.r5:List Oper:=[oD 27 (.bad),oN (.bad)]
def ZY.r6:List Oper:=[oM 28 6,oD 29 (.conv .i64 28),oD 30 (.mks 1 8 [.n 0] 29 29),oM 7 30]
def ZY.r7:List Oper:=[oM 31 7,oM 32 0,oD 33 (.cpy 1 31 32),oM 8 33]
def ZY.r8:List Oper:=[oM 34 8,oM 35 7,oD 36 (.len 35),oD 37 (.bin .lss 34 36)]
def ZY.r9:List Oper:=[oM 38 8,oM 39 7,oM 40 8,oD 41 (.slc 1 39 (some 40) none none),oM 42 7,oM 43 8,oD 44 (.slc 1 42 none (some 43) none),oD 45 (.cpy 1 41 44),oD 46 (.bin .add 38 45),oM 8 46]
def ZY.l0:Code:=.seq (.seq ZY.r8 (.cond 37 (.skip) (.exit 0))) (.block 1 (.draw ZY.r9 []))
def ZY.r10:List Oper:=[oM 47 7,oM 4 47]
def ZY.code:Code:=.seq ZY.r0 (.seq (.seq ZY.r1 (.cond 10 ZY.r2 (.skip))) (.seq ZY.r3 (.seq (.seq ZY.r4 (.cond 26 ZY.r5 (.skip))) (.seq ZY.r6 (.seq ZY.r7 (.seq (.block 0 (.loop ZY.l0)) (.seq ZY.r10 (.ret))))))))
def ZY:Func:=⟨48,[.t 4],ZY.code⟩
/-! math/bits.Mul -/
def Zcf.r0:List Oper:=[oM 4 (.c (.i .u64 0)),oM 5 (.c (.i .u64 0))]
def Zcf.r1:List Oper:=[oM 11 0,oD 12 (.conv .u32 11),oM 13 1,oD 14 (.conv .u32 13),oC 15 97 [12,14],oM 10 15,oD 16 (.ext 10 0),oD 17 (.ext 10 1),oM 6 16,oM 7 17]
def Zcf.r2:List Oper:=[oM 18 6,oD 19 (.conv .u64 18),oM 20 7,oD 21 (.conv .u64 20),oM 4 19,oM 5 21]
def Zcf.r3:List Oper:=[oM 23 0,oM 24 1,oC 25 98 [23,24],oM 22 25,oD 26 (.ext 22 0),oD 27 (.ext 22 1),oM 8 26,oM 9 27]
def Zcf.r4:List Oper:=[oM 28 8,oM 29 9,oM 4 28,oM 5 29]
def Zcf.code:Code:=.seq Zcf.r0 (.seq (.cond (.c (.b false)) (.seq Zcf.r1 (.seq Zcf.r2 (.ret))) (.skip)) (.seq Zcf.r3 (.seq Zcf.r4 (.ret))))
def Zcf:Func:=⟨30,[.t 4,.t 5],Zcf.code⟩
/-! muntin/compass.Good -/
def Zcq.r0:List Oper:=[oM 2 (.c (.b false))]
def Zcq.r1:List Oper:=[oM 3 0,oD 4 (.bin .geq 3 (cI 0)),oM 5 4,oT 6 5 (.mv 0),oT 7 5 (.bin .leq 6 (cI 3)),oD 8 (.pick 5 7 (.c (.b false))),oM 2 8]
def Zcq.code:Code:=.seq Zcq.r0 (.seq Zcq.r1 (.ret))
def Zcq:Func:=⟨9,[.t 2],Zcq.code⟩
/-! slices.IndexFunc[[]int,int] -/
def zg.r0:List Oper:=[oM 4 (cI 0)]
def zg.r1:List Oper:=[oM 6 0,oD 7 (.len 6),oM 8 (cI 0)]
def zg.r2:List Oper:=[oD 9 (.bin .lss 8 7)]
def zg.r3:List Oper:=[oM 10 8,oM 5 10]
def zg.r4:List Oper:=[oM 11 1,oM 12 0,oM 13 5,oD 14 (.ixa 1 12 13),oD 15 (.ld false 1 14),oD 16 (.call 11 [15])]
def zg.r5:List Oper:=[oM 17 5,oM 4 17]
def zg.r6:List Oper:=[oD 18 (.bin .add 8 (cI 1)),oM 8 18]
def zg.l0:Code:=.seq zg.r2 (.seq (.cond 9 (.skip) (.exit 0)) (.seq (.block 1 (.seq zg.r3 (.seq zg.r4 (.cond 16 (.seq zg.r5 (.ret)) (.skip))))) zg.r6))
def zg.r7:List Oper:=[oM 4 (cI (-1))]
def zg.code:Code:=.seq zg.r0 (.seq (.seq zg.r1 (.block 0 (.loop zg.l0))) (.seq zg.r7 (.ret)))
def zg:Func:=⟨19,[.t 4],zg.code⟩
/-! math/bits.Mul32 -/
def Zcp.r0:List Oper:=[oM 4 (.c (.i .u32 0)),oM 5 (.c (.i .u32 0))]
def Zcp.r1:List Oper:=[oM 7 0,oD 8 (.conv .u64 7),oM 9 1,oD 10 (.conv .u64 9),oD 11 (.bin .mul 8 10),oM 6 11]
def Zcp.r2:List Oper:=[oM 12 6,oD 13 (.bin .shr 12 (.c (.i .u64 32))),oD 14 (.conv .u32 13),oM 15 6,oD 16 (.conv .u32 15),oM 4 14,oM 5 16]
def Zcp.code:Code:=.seq Zcp.r0 (.seq Zcp.r1 (.seq Zcp.r2 (.ret)))
def Zcp:Func:=⟨17,[.t 4,.t 5],Zcp.code⟩
/-! math/bits.Mul64 -/
def Zak.r0:List Oper:=[oM 4 (.c (.i .u64 0)),oM 5 (.c (.i .u64 0))]
def Zak.r1:List Oper:=[oM 14 0,oD 15 (.bin .and 14 (.c (.i .u64 4294967295))),oM 6 15]
def Zak.r2:List Oper:=[oM 16 0,oD 17 (.bin .shr 16 (.c (.i .u64 32))),oM 7 17]
def Zak.r3:List Oper:=[oM 18 1,oD 19 (.bin .and 18 (.c (.i .u64 4294967295))),oM 8 19]
def Zak.r4:List Oper:=[oM 20 1,oD 21 (.bin .shr 20 (.c (.i .u64 32))),oM 9 21]
def Zak.r5:List Oper:=[oM 22 6,oM 23 8,oD 24 (.bin .mul 22 23),oM 10 24]
def Zak.r6:List Oper:=[oM 25 7,oM 26 8,oD 27 (.bin .mul 25 26),oM 28 10,oD 29 (.bin .shr 28 (.c (.i .u64 32))),oD 30 (.bin .add 27 29),oM 11 30]
def Zak.r7:List Oper:=[oM 31 11,oD 32 (.bin .and 31 (.c (.i .u64 4294967295))),oM 12 32]
def Zak.r8:List Oper:=[oM 33 11,oD 34 (.bin .shr 33 (.c (.i .u64 32))),oM 13 34]
def Zak.r9:List Oper:=[oM 35 12,oM 36 6,oM 37 9,oD 38 (.bin .mul 36 37),oD 39 (.bin .add 35 38),oM 12 39]
def Zak.r10:List Oper:=[oM 40 7,oM 41 9,oD 42 (.bin .mul 40 41),oM 43 13,oD 44 (.bin .add 42 43),oM 45 12,oD 46 (.bin .shr 45 (.c (.i .u64 32))),oD 47 (.bin .add 44 46),oM 4 47]
def Zak.r11:List Oper:=[oM 48 0,oM 49 1,oD 50 (.bin .mul 48 49),oM 5 50]
def Zak.code:Code:=.seq Zak.r0 (.seq Zak.r1 (.seq Zak.r2 (.seq Zak.r3 (.seq Zak.r4 (.seq Zak.r5 (.seq Zak.r6 (.seq Zak.r7 (.seq Zak.r8 (.seq Zak.r9 (.seq Zak.r10 (.seq Zak.r11 (.ret))))))))))))
def Zak:Func:=⟨51,[.t 4,.t 5],Zak.code⟩
/-! muntin/muntinref04.Layers -/
def ZK.r0:List Oper:=[oM 4 (.c (.sn))]
def ZK.r1:List Oper:=[oM 8 0,oD 9 (.mks 1 8 [.n 0] 8 8),oM 5 9]
def ZK.r2:List Oper:=[oM 6 (cI 0)]
def ZK.r3:List Oper:=[oM 10 6,oM 11 0,oD 12 (.bin .leq 10 11)]
def ZK.r5:List Oper:=[oM 7 (cI 0)]
def ZK.r6:List Oper:=[oM 15 7,oM 16 1,oD 17 (.len 16),oD 18 (.bin .lss 15 17)]
def ZK.r8:List Oper:=[oM 21 5,oM 22 1,oM 23 7,oD 24 (.ixa 3 22 23),oD 25 (.fa 1 24),oD 26 (.ld false 1 25),oD 27 (.ixa 1 21 26),oD 28 (.ld false 1 27),oM 29 5,oM 30 1,oM 31 7,oD 32 (.ixa 3 30 31),oD 33 (.fa 0 32),oD 34 (.ld false 1 33),oD 35 (.ixa 1 29 34),oD 36 (.ld false 1 35),oD 37 (.bin .leq 28 36)]
def ZK.r9:List Oper:=[oM 38 5,oM 39 1,oM 40 7,oD 41 (.ixa 3 39 40),oD 42 (.fa 1 41),oD 43 (.ld false 1 42),oM 44 5,oM 45 1,oM 46 7,oD 47 (.ixa 3 45 46),oD 48 (.fa 0 47),oD 49 (.ld false 1 48),oD 50 (.ixa 1 44 49),oD 51 (.ld false 1 50),oD 52 (.bin .add 51 (cI 1)),oD 53 (.ixa 1 38 43),oN (.st 1 53 52)]
def ZK.r7:List Oper:=[oM 19 7,oD 20 (.bin .add 19 (cI 1)),oM 7 20]
def ZK.l0:Code:=.seq (.seq ZK.r6 (.cond 18 (.skip) (.exit 2))) (.seq (.block 3 (.seq (.draw ZK.r8 [(5,13),(7,13),(5,15),(7,15)]) (.cond 37 (.draw ZK.r9 [(5,11),(5,13)]) (.skip)))) ZK.r7)
def ZK.r4:List Oper:=[oM 13 6,oD 14 (.bin .add 13 (cI 1)),oM 6 14]
def ZK.l1:Code:=.seq (.seq ZK.r3 (.cond 12 (.skip) (.exit 0))) (.seq (.block 1 (.seq ZK.r5 (.block 2 (.loop ZK.l0)))) ZK.r4)
def ZK.r10:List Oper:=[oM 54 5,oM 4 54]
def ZK.code:Code:=.seq ZK.r0 (.seq ZK.r1 (.seq (.seq ZK.r2 (.block 0 (.loop ZK.l1))) (.seq ZK.r10 (.ret))))
def ZK:Func:=⟨55,[.t 4],ZK.code⟩
/-! muntin/grid.Of -/
def Zc1.r0:List Oper:=[oM 2 (.c (.pn)),oM 3 (cI 0)]
def Zc1.r1:List Oper:=[oM 5 0,oC 6 66 [5],oM 4 6]
def Zc1.r2:List Oper:=[oM 7 4,oD 8 (.eq true .sc 7 (cI 0))]
def Zc1.r3:List Oper:=[oM 9 4,oM 2 (.c (.pn)),oM 3 9]
def Zc1.r4:List Oper:=[oM 10 0,oC 11 51 [10],oD 12 (.build [.sn] [(0,1,.t 11)]),oD 13 (.box 12),oM 2 13,oM 3 (cI 0)]
def Zc1.code:Code:=.seq Zc1.r0 (.seq (.seq Zc1.r1 (.seq Zc1.r2 (.cond 8 (.seq Zc1.r3 (.ret)) (.skip)))) (.seq Zc1.r4 (.ret)))
def Zc1:Func:=⟨14,[.t 2,.t 3],Zc1.code⟩
/-! muntin/muntinref16.Of -/
def ZaE.r0:List Oper:=[oD 2 (.alloc [.sn,.sn,.sn,.sn]),oM 3 (.c (.b false))]
def ZaE.r1:List Oper:=[oM 11 0,oC 12 138 [11,.c (.n 1)],oM 10 12,oD 13 (.ext 10 0),oD 14 (.ext 10 1),oD 15 (.ext 10 2),oM 4 13,oM 5 14,oM 6 15]
def ZaE.r2:List Oper:=[oM 17 0,oC 18 138 [17,.c (.n 0)],oM 16 18,oD 19 (.ext 16 0),oD 20 (.ext 16 1),oD 21 (.ext 16 2),oM 7 19,oM 8 20,oM 9 21]
def ZaE.r3:List Oper:=[oM 22 6,oD 23 (.un .not 22),oM 24 23,oF 25 24 (.mv 9),oF 26 24 (.un .not 25),oD 27 (.pick 24 (.c (.b true)) 26)]
def ZaE.r4:List Oper:=[oD 28 (.build [.sn,.sn,.sn,.sn] []),oN (.st 4 2 28),oM 3 (.c (.b false))]
def ZaE.r5:List Oper:=[oM 29 4,oM 30 7,oM 31 5,oM 32 8,oD 33 (.build [.sn,.sn,.sn,.sn] [(0,1,.t 29),(1,1,.t 30),(2,1,.t 31),(3,1,.t 32)]),oN (.st 4 2 33),oM 3 (.c (.b true))]
def ZaE.code:Code:=.seq ZaE.r0 (.seq ZaE.r1 (.seq ZaE.r2 (.seq (.seq ZaE.r3 (.cond 27 (.seq ZaE.r4 (.ret)) (.skip))) (.seq ZaE.r5 (.ret)))))
def ZaE:Func:=⟨34,[.cell 2 true 4,.t 3],ZaE.code⟩
/-! muntin/muntinref16.Meet -/
def ZN.r0:List Oper:=[oD 5 (.box 0),oM 10 (.c (.b false))]
def ZN.r1:List Oper:=[oM 11 (cI 0)]
def ZN.r2:List Oper:=[oM 14 11,oD 15 (.fa 0 5),oD 16 (.ld false 1 15),oD 17 (.len 16),oD 18 (.bin .lss 14 17)]
def ZN.r4:List Oper:=[oD 21 (.fa 1 5),oD 22 (.ld false 1 21),oM 23 11,oD 24 (.ixa 1 22 23),oD 25 (.ld false 1 24),oM 26 2,oD 27 (.eq false .sc 25 26),oM 12 27]
def ZN.r5:List Oper:=[oM 28 1]
def ZN.r6:List Oper:=[oD 29 (.fa 0 5),oD 30 (.ld false 1 29),oM 31 11,oD 32 (.ixa 1 30 31),oD 33 (.ld false 1 32),oM 34 2,oD 35 (.eq false .sc 33 34),oM 12 35]
def ZN.r7:List Oper:=[oD 36 (.fa 1 5),oD 37 (.ld false 1 36),oM 38 11,oD 39 (.ixa 1 37 38),oD 40 (.ld false 1 39),oM 41 4,oD 42 (.eq false .sc 40 41),oM 13 42]
def ZN.r8:List Oper:=[oM 43 3]
def ZN.r9:List Oper:=[oD 44 (.fa 0 5),oD 45 (.ld false 1 44),oM 46 11,oD 47 (.ixa 1 45 46),oD 48 (.ld false 1 47),oM 49 4,oD 50 (.eq false .sc 48 49),oM 13 50]
def ZN.r10:List Oper:=[oM 51 12,oM 52 51,oT 53 52 (.mv 13),oD 54 (.pick 52 53 (.c (.b false)))]
def ZN.r11:List Oper:=[oM 10 (.c (.b true))]
def ZN.r3:List Oper:=[oM 19 11,oD 20 (.bin .add 19 (cI 1)),oM 11 20]
def ZN.l0:Code:=.seq (.seq ZN.r2 (.cond 18 (.skip) (.exit 0))) (.seq (.block 1 (.seq ZN.r4 (.seq (.seq ZN.r5 (.cond 28 ZN.r6 (.skip))) (.seq ZN.r7 (.seq (.seq ZN.r8 (.cond 43 ZN.r9 (.skip))) (.seq ZN.r10 (.cond 54 (.seq ZN.r11 (.ret)) (.skip)))))))) ZN.r3)
def ZN.r12:List Oper:=[oM 10 (.c (.b false))]
def ZN.code:Code:=.seq ZN.r0 (.seq (.seq ZN.r1 (.block 0 (.loop ZN.l0))) (.seq ZN.r12 (.ret)))
def ZN:Func:=⟨55,[.t 10],ZN.code⟩
/-! muntin/muntinref16.chains -/
def Zn.r0:List Oper:=[oM 4 (.c (.sn)),oM 5 (.c (.sn)),oM 6 (.c (.b false))]
def Zn.r1:List Oper:=[oM 15 0,oD 16 (.len 15),oD 17 (.mks 1 8 [.n 0] 16 16),oM 7 17]
def Zn.r2:List Oper:=[oM 8 (.c (.sn))]
def Zn.r3:List Oper:=[oM 9 (.c (.sn))]
def Zn.r4:List Oper:=[oM 10 (cI 0)]
def Zn.r5:List Oper:=[oM 18 10,oM 19 0,oD 20 (.len 19),oD 21 (.bin .lss 18 20)]
def Zn.r7:List Oper:=[oM 24 0,oM 25 10,oM 26 1,oC 27 150 [24,25,26],oM 11 27]
def Zn.r8:List Oper:=[oM 28 11,oD 29 (.bin .lss 28 (cI 0))]
def Zn.r9:List Oper:=[oM 4 (.c (.sn)),oM 5 (.c (.sn)),oM 6 (.c (.b false))]
def Zn.r10:List Oper:=[oM 12 (cI 0)]
def Zn.r11:List Oper:=[oM 30 12,oM 31 8,oD 32 (.len 31),oD 33 (.bin .lss 30 32),oM 34 33,oT 35 34 (.mv 8),oT 36 34 (.mv 12),oT 37 34 (.ixa 1 35 36),oT 38 34 (.ld false 1 37),oT 39 34 (.mv 11),oT 40 34 (.eq true .sc 38 39),oD 41 (.pick 34 40 (.c (.b false)))]
def Zn.r12:List Oper:=[oM 42 12,oD 43 (.bin .add 42 (cI 1)),oM 12 43]
def Zn.l0:Code:=.seq (.seq Zn.r11 (.cond 41 (.skip) (.exit 2))) (.block 3 Zn.r12)
def Zn.r13:List Oper:=[oM 44 7,oM 45 10,oM 46 12,oD 47 (.ixa 1 44 45),oN (.st 1 47 46)]
def Zn.r14:List Oper:=[oM 48 12,oM 49 8,oD 50 (.len 49),oD 51 (.eq false .sc 48 50)]
def Zn.r15:List Oper:=[oM 52 8,oM 53 11,oD 54 (.bsl 1 1 [.n 0] [(0,1,.t 53)]),oD 55 (.app 1 8 52 54),oM 8 55]
def Zn.r16:List Oper:=[oM 13 (.c (.sn))]
def Zn.r17:List Oper:=[oM 56 11,oM 14 56]
def Zn.r18:List Oper:=[oM 57 14,oD 58 (.bin .geq 57 (cI 0))]
def Zn.r20:List Oper:=[oM 66 13,oM 67 14,oD 68 (.bsl 1 1 [.n 0] [(0,1,.t 67)]),oD 69 (.app 1 8 66 68),oM 13 69]
def Zn.r19:List Oper:=[oM 59 0,oM 60 14,oM 61 1,oD 62 (.ixa 8 59 60),oD 63 (.fa 0 62),oD 64 (.ixaa 1 4 63 61),oD 65 (.ld false 1 64),oM 14 65]
def Zn.l1:Code:=.seq (.seq Zn.r18 (.cond 58 (.skip) (.exit 4))) (.seq (.block 5 Zn.r20) Zn.r19)
def Zn.r21:List Oper:=[oM 70 9,oM 71 13,oD 72 (.bsl 1 1 [.sn] [(0,1,.t 71)]),oD 73 (.app 1 24 70 72),oM 9 73]
def Zn.r6:List Oper:=[oM 22 10,oD 23 (.bin .add 22 (cI 1)),oM 10 23]
def Zn.l2:Code:=.seq (.seq Zn.r5 (.cond 21 (.skip) (.exit 0))) (.seq (.block 1 (.seq Zn.r7 (.seq (.seq Zn.r8 (.cond 29 (.seq Zn.r9 (.ret)) (.skip))) (.seq Zn.r10 (.seq (.block 2 (.loop Zn.l0)) (.seq Zn.r13 (.seq Zn.r14 (.cond 51 (.seq Zn.r15 (.seq Zn.r16 (.seq (.seq Zn.r17 (.block 4 (.loop Zn.l1))) Zn.r21))) (.skip))))))))) Zn.r6)
def Zn.r22:List Oper:=[oM 74 7,oM 75 9,oM 4 74,oM 5 75,oM 6 (.c (.b true))]
def Zn.code:Code:=.seq Zn.r0 (.seq Zn.r1 (.seq Zn.r2 (.seq Zn.r3 (.seq (.seq Zn.r4 (.block 0 (.loop Zn.l2))) (.seq Zn.r22 (.ret))))))
def Zn:Func:=⟨76,[.t 4,.t 5,.t 6],Zn.code⟩
/-! muntin/muntinref16.First -/
def zr.r0:List Oper:=[oM 6 (cI 0)]
def zr.r1:List Oper:=[oM 7 (cI 0)]
def zr.r2:List Oper:=[oM 9 7,oM 10 0,oD 11 (.len 10),oD 12 (.bin .leq 9 11)]
def zr.r4:List Oper:=[oM 15 0,oM 16 1,oM 17 2,oD 18 (.bin .add 17 (cI 2)),oD 19 (.bin .rem 18 (cI 4)),oD 20 (.ixa 8 15 16),oD 21 (.fa 0 20),oD 22 (.ixaa 1 4 21 19),oD 23 (.ld false 1 22),oM 8 23]
def zr.r5:List Oper:=[oM 24 8,oD 25 (.bin .lss 24 (cI 0))]
def zr.r6:List Oper:=[oM 26 1,oM 6 26]
def zr.r7:List Oper:=[oM 27 8,oM 1 27]
def zr.r3:List Oper:=[oM 13 7,oD 14 (.bin .add 13 (cI 1)),oM 7 14]
def zr.l0:Code:=.seq (.seq zr.r2 (.cond 12 (.skip) (.exit 0))) (.seq (.block 1 (.seq zr.r4 (.seq (.seq zr.r5 (.cond 25 (.seq zr.r6 (.ret)) (.skip))) zr.r7))) zr.r3)
def zr.r8:List Oper:=[oM 6 (cI (-1))]
def zr.code:Code:=.seq zr.r0 (.seq (.seq zr.r1 (.block 0 (.loop zr.l0))) (.seq zr.r8 (.ret)))
def zr:Func:=⟨28,[.t 6],zr.code⟩
/-! muntin/muntinref17.Graph -/
def ZO.r0:List Oper:=[oM 6 (.c (.sn))]
def ZO.r1:List Oper:=[oM 7 (.c (.sn))]
def ZO.r2:List Oper:=[oM 8 (cI 0)]
def ZO.r3:List Oper:=[oM 11 8,oM 12 0,oD 13 (.len 12),oD 14 (.bin .lss 11 13)]
def ZO.r5:List Oper:=[oM 17 0,oM 18 8,oM 19 1,oD 20 (.ixa 8 17 18),oD 21 (.fa 0 20),oD 22 (.ixaa 1 4 21 19),oD 23 (.ld false 1 22),oM 9 23]
def ZO.r6:List Oper:=[oM 24 9,oD 25 (.bin .lss 24 (cI 0))]
def ZO.r7:List Oper:=[oM 26 2,oM 27 8,oD 28 (.ixa 1 26 27),oD 29 (.ld false 1 28),oM 30 2,oM 31 9,oD 32 (.ixa 1 30 31),oD 33 (.ld false 1 32),oD 34 (.build [.n 0,.n 0,.n 0] [(0,1,.t 29),(1,1,.t 33)]),oD 10 (.alloc [.n 0,.n 0,.n 0]),oN (.st 3 10 34)]
def ZO.r8:List Oper:=[oM 35 0,oM 36 8,oM 37 1,oD 38 (.ixa 8 35 36),oD 39 (.fa 4 38),oD 40 (.ixaa 1 4 39 37),oD 41 (.ld false 1 40),oD 42 (.bin .geq 41 (cI 0))]
def ZO.r9:List Oper:=[oD 43 (.fa 2 10),oN (.st 1 43 (cI 1))]
def ZO.r10:List Oper:=[oM 44 7,oD 45 (.ld true 3 10),oD 46 (.bsl 3 1 [.n 0,.n 0,.n 0] [(0,3,.t 45)]),oD 47 (.app 3 24 44 46),oM 7 47]
def ZO.r4:List Oper:=[oM 15 8,oD 16 (.bin .add 15 (cI 1)),oM 8 16]
def ZO.l0:Code:=.seq (.seq ZO.r3 (.cond 14 (.skip) (.exit 0))) (.seq (.block 1 (.seq ZO.r5 (.seq (.seq ZO.r6 (.cond 25 (.exit 1) (.skip))) (.seq (.draw ZO.r7 [(3,7),(3,9),(7,9)]) (.seq (.seq ZO.r8 (.cond 42 ZO.r9 (.skip))) ZO.r10))))) ZO.r4)
def ZO.r11:List Oper:=[oM 48 7,oM 6 48]
def ZO.code:Code:=.seq ZO.r0 (.seq ZO.r1 (.seq (.seq ZO.r2 (.block 0 (.loop ZO.l0))) (.seq ZO.r11 (.ret))))
def ZO:Func:=⟨49,[.t 6],ZO.code⟩
/-! muntin/muntinref17.Place -/
def zH.r0:List Oper:=[oD 3 (.box 0),oM 6 (.c (.sn))]
def zH.r1:List Oper:=[oM 7 (.c (.sn))]
def zH.r2:List Oper:=[oM 8 (cI 0)]
def zH.r3:List Oper:=[oM 9 8,oD 10 (.fa 0 3),oD 11 (.ld false 1 10),oD 12 (.len 11),oD 13 (.bin .lss 9 12)]
def zH.r5:List Oper:=[oM 16 7,oM 17 1,oD 18 (.fa 0 3),oD 19 (.ld false 1 18),oM 20 8,oD 21 (.ixa 1 19 20),oD 22 (.ld false 1 21),oD 23 (.ixa 1 17 22),oD 24 (.ld false 1 23),oM 25 2,oD 26 (.fa 1 3),oD 27 (.ld false 1 26),oM 28 8,oD 29 (.ixa 1 27 28),oD 30 (.ld false 1 29),oD 31 (.ixa 1 25 30),oD 32 (.ld false 1 31),oD 33 (.build [.n 0,.n 0] [(0,1,.t 24),(1,1,.t 32)]),oD 34 (.bsl 2 1 [.n 0,.n 0] [(0,2,.t 33)]),oD 35 (.app 2 16 16 34),oM 7 35]
def zH.r4:List Oper:=[oM 14 8,oD 15 (.bin .add 14 (cI 1)),oM 8 15]
def zH.l0:Code:=.seq (.seq zH.r3 (.cond 13 (.skip) (.exit 0))) (.seq (.block 1 (.draw zH.r5 [(3,11),(6,11),(8,11),(3,14),(6,14),(8,14),(3,16),(6,16),(8,16)])) zH.r4)
def zH.r6:List Oper:=[oM 36 7,oM 6 36]
def zH.code:Code:=.seq zH.r0 (.seq zH.r1 (.seq (.seq zH.r2 (.block 0 (.loop zH.l0))) (.seq zH.r6 (.ret))))
def zH:Func:=⟨37,[.t 6],zH.code⟩
/-! muntin/valid.Check -/
def Zau.r0:List Oper:=[oM 2 (cI 0)]
def Zau.r1:List Oper:=[oM 6 0,oC 7 66 [6],oM 3 7]
def Zau.r2:List Oper:=[oM 8 3,oD 9 (.eq true .sc 8 (cI 0))]
def Zau.r3:List Oper:=[oM 10 3,oM 2 10]
def Zau.r4:List Oper:=[oM 11 0,oC 12 32 [11],oD 13 (.un .not 12)]
def Zau.r5:List Oper:=[oM 2 (cI 13)]
def Zau.r6:List Oper:=[oM 15 0,oC 16 201 [15],oM 14 16,oD 17 (.ext 14 0),oD 18 (.ext 14 1),oM 4 17,oM 5 18]
def Zau.r7:List Oper:=[oM 19 5,oD 20 (.un .not 19),oM 21 20,oT 22 21 (.mv 0),oT 23 21 (.len 22),oT 24 21 (.bin .gtr 23 (cI 1)),oD 25 (.pick 21 24 (.c (.b false)))]
def Zau.r8:List Oper:=[oM 2 (cI 10)]
def Zau.r9:List Oper:=[oM 2 (cI 0)]
def Zau.code:Code:=.seq Zau.r0 (.seq (.seq Zau.r1 (.seq Zau.r2 (.cond 9 (.seq Zau.r3 (.ret)) (.skip)))) (.seq (.seq Zau.r4 (.cond 13 (.seq Zau.r5 (.ret)) (.skip))) (.seq (.seq Zau.r6 (.seq Zau.r7 (.cond 25 (.seq Zau.r8 (.ret)) (.skip)))) (.seq Zau.r9 (.ret)))))
def Zau:Func:=⟨26,[.t 2],Zau.code⟩
/-! muntin/muntinref12.Faces -/
def Zw.r0:List Oper:=[oM 2 (.c (.sn))]
def Zw.r1:List Oper:=[oM 9 0,oD 10 (.len 9),oD 11 (.bin .mul (cI 4) 10),oD 12 (.mks 1 1 [.b false] 11 11),oM 3 12]
def Zw.r2:List Oper:=[oM 4 (.c (.sn))]
def Zw.r3:List Oper:=[oM 5 (cI 0)]
def Zw.r4:List Oper:=[oM 13 5,oM 14 0,oD 15 (.len 14),oD 16 (.bin .lss 13 15)]
def Zw.r6:List Oper:=[oM 6 (cI 0)]
def Zw.r7:List Oper:=[oM 19 6,oD 20 (.bin .lss 19 (cI 4))]
def Zw.r9:List Oper:=[oM 23 0,oM 24 5,oM 25 6,oD 26 (.ixa 8 23 24),oD 27 (.fa 0 26),oD 28 (.ixaa 1 4 27 25),oD 29 (.ld false 1 28),oD 30 (.bin .lss 29 (cI 0)),oM 31 30,oF 32 31 (.mv 3),oF 33 31 (.mv 5),oF 34 31 (.bin .mul (cI 4) 33),oF 35 31 (.mv 6),oF 36 31 (.bin .add 34 35),oF 37 31 (.ixa 1 32 36),oF 38 31 (.ld false 1 37),oD 39 (.pick 31 (.c (.b true)) 38)]
def Zw.r10:List Oper:=[oM 7 (.c (.sn))]
def Zw.r11:List Oper:=[oM 40 5,oM 41 6,oD 42 (.build [.n 0,.n 0] [(0,1,.t 40),(1,1,.t 41)]),oD 8 (.alloc [.n 0,.n 0]),oN (.st 2 8 42)]
def Zw.r12:List Oper:=[oM 43 3,oD 44 (.fa 0 8),oD 45 (.ld false 1 44),oD 46 (.bin .mul (cI 4) 45),oD 47 (.fa 1 8),oD 48 (.ld false 1 47),oD 49 (.bin .add 46 48),oD 50 (.ixa 1 43 49),oD 51 (.ld false 1 50),oD 52 (.un .not 51)]
def Zw.r13:List Oper:=[oM 53 3,oD 54 (.fa 0 8),oD 55 (.ld false 1 54),oD 56 (.bin .mul (cI 4) 55),oD 57 (.fa 1 8),oD 58 (.ld false 1 57),oD 59 (.bin .add 56 58),oD 60 (.ixa 1 53 59),oN (.st 1 60 (.c (.b true)))]
def Zw.r14:List Oper:=[oM 61 7,oD 62 (.ld true 2 8),oD 63 (.bsl 2 1 [.n 0,.n 0] [(0,2,.t 62)]),oD 64 (.app 2 16 61 63),oM 7 64]
def Zw.r15:List Oper:=[oM 65 0,oD 66 (.ld true 2 8),oC 67 202 [65,66],oN (.st 2 8 67)]
def Zw.l0:Code:=.seq (.seq Zw.r12 (.cond 52 (.skip) (.exit 4))) (.block 5 (.seq Zw.r13 (.seq Zw.r14 Zw.r15)))
def Zw.r16:List Oper:=[oM 68 4,oM 69 7,oD 70 (.bsl 1 1 [.sn] [(0,1,.t 69)]),oD 71 (.app 1 24 68 70),oM 4 71]
def Zw.r8:List Oper:=[oM 21 6,oD 22 (.bin .add 21 (cI 1)),oM 6 22]
def Zw.l1:Code:=.seq (.seq Zw.r7 (.cond 20 (.skip) (.exit 2))) (.seq (.block 3 (.seq (.seq Zw.r9 (.cond 39 (.exit 3) (.skip))) (.seq Zw.r10 (.seq Zw.r11 (.seq (.block 4 (.loop Zw.l0)) Zw.r16))))) Zw.r8)
def Zw.r5:List Oper:=[oM 17 5,oD 18 (.bin .add 17 (cI 1)),oM 5 18]
def Zw.l2:Code:=.seq (.seq Zw.r4 (.cond 16 (.skip) (.exit 0))) (.seq (.block 1 (.seq Zw.r6 (.block 2 (.loop Zw.l1)))) Zw.r5)
def Zw.r17:List Oper:=[oM 72 4,oM 2 72]
def Zw.code:Code:=.seq Zw.r0 (.seq Zw.r1 (.seq Zw.r2 (.seq (.seq Zw.r3 (.block 0 (.loop Zw.l2))) (.seq Zw.r17 (.ret)))))
def Zw:Func:=⟨73,[.t 2],Zw.code⟩
/-! muntin/muntinref20.First -/
def Z7.r0:List Oper:=[oM 2 (cI 0),oM 3 (cI 0)]
def Z7.r1:List Oper:=[oM 11 0,oC 12 181 [11],oM 10 12,oD 13 (.ext 10 0),oD 14 (.ext 10 1),oM 4 13,oM 5 14]
def Z7.r2:List Oper:=[oM 15 5,oD 16 (.eq true .sc 15 (cI 0)),oM 17 16,oF 18 17 (.mv 4),oF 19 17 (.bin .lss 18 (cI 0)),oD 20 (.pick 17 (.c (.b true)) 19)]
def Z7.r3:List Oper:=[oM 2 (cI (-1)),oM 3 (cI 0)]
def Z7.r4:List Oper:=[oM 21 0,oC 22 177 [21],oM 6 22]
def Z7.r5:List Oper:=[oM 7 (cI 0)]
def Z7.r6:List Oper:=[oM 23 7,oM 24 6,oD 25 (.len 24),oD 26 (.bin .lss 23 25)]
def Z7.r8:List Oper:=[oM 29 0,oM 30 6,oM 31 7,oD 32 (.ixa 1 30 31),oD 33 (.ld false 1 32),oC 34 182 [29,33],oM 8 34]
def Z7.r9:List Oper:=[oM 9 (cI 0)]
def Z7.r10:List Oper:=[oM 35 9,oM 36 8,oD 37 (.len 36),oD 38 (.bin .lss 35 37),oM 39 38,oT 40 39 (.mv 7),oT 41 39 (.mv 4),oT 42 39 (.eq true .sc 40 41),oD 43 (.pick 39 42 (.c (.b false)))]
def Z7.r12:List Oper:=[oM 46 8,oM 47 9,oD 48 (.ixa 1 46 47),oD 49 (.ld false 1 48),oD 50 (.bin .lss 49 (cI 0))]
def Z7.r13:List Oper:=[oM 51 7,oM 52 9,oM 2 51,oM 3 52]
def Z7.r11:List Oper:=[oM 44 9,oD 45 (.bin .add 44 (cI 1)),oM 9 45]
def Z7.l0:Code:=.seq (.seq Z7.r10 (.cond 43 (.skip) (.exit 2))) (.seq (.block 3 (.seq Z7.r12 (.cond 50 (.seq Z7.r13 (.ret)) (.skip)))) Z7.r11)
def Z7.r7:List Oper:=[oM 27 7,oD 28 (.bin .add 27 (cI 1)),oM 7 28]
def Z7.l1:Code:=.seq (.seq Z7.r6 (.cond 26 (.skip) (.exit 0))) (.seq (.block 1 (.seq Z7.r8 (.seq Z7.r9 (.block 2 (.loop Z7.l0))))) Z7.r7)
def Z7.r14:List Oper:=[oM 2 (cI (-1)),oM 3 (cI 0)]
def Z7.code:Code:=.seq Z7.r0 (.seq Z7.r1 (.seq (.seq Z7.r2 (.cond 20 (.seq Z7.r3 (.ret)) (.skip))) (.seq Z7.r4 (.seq (.seq Z7.r5 (.block 0 (.loop Z7.l1))) (.seq Z7.r14 (.ret))))))
def Z7:Func:=⟨53,[.t 2,.t 3],Z7.code⟩
/-! muntin/muntinref14.Outer -/
def Zq.r0:List Oper:=[oM 2 (cI 0),oM 3 (cI 0)]
def Zq.r1:List Oper:=[oM 11 0,oC 12 34 [11],oM 4 12]
def Zq.r2:List Oper:=[oM 13 4,oD 14 (.eq true .sc 13 (cI 0))]
def Zq.r3:List Oper:=[oM 15 4,oM 2 (cI (-1)),oM 3 15]
def Zq.r4:List Oper:=[oM 16 0,oC 17 30 [16],oM 5 17]
def Zq.r5:List Oper:=[oM 18 5,oD 19 (.len 18),oD 20 (.eq true .sc 19 (cI 1))]
def Zq.r6:List Oper:=[oM 2 (cI (-1)),oM 3 (cI 13)]
def Zq.r7:List Oper:=[oM 21 0,oD 22 (.len 21),oD 23 (.eq false .sc 22 (cI 1))]
def Zq.r8:List Oper:=[oM 2 (cI (-1)),oM 3 (cI 0)]
def Zq.r9:List Oper:=[oM 24 0,oC 25 177 [24],oM 6 25]
def Zq.r10:List Oper:=[oM 7 (cI (-1))]
def Zq.r11:List Oper:=[oM 8 (cI 0)]
def Zq.r12:List Oper:=[oM 26 8,oM 27 6,oD 28 (.len 27),oD 29 (.bin .lss 26 28)]
def Zq.r14:List Oper:=[oM 32 0,oM 33 6,oM 34 8,oD 35 (.ixa 1 33 34),oD 36 (.ld false 1 35),oC 37 182 [32,36],oM 9 37]
def Zq.r15:List Oper:=[oM 38 9,oC 39 206 [38],oM 10 39]
def Zq.r16:List Oper:=[oM 40 10,oD 41 (.eq true .sc 40 (cI 4)),oM 42 41,oT 43 42 (.mv 10),oT 44 42 (.eq true .sc 43 (cI (-4))),oD 45 (.pick 42 44 (.c (.b false))),oM 46 45,oF 47 46 (.mv 10),oF 48 46 (.eq false .sc 47 (cI (-4))),oF 49 46 (.mv 48),oT 50 49 (.mv 7),oT 51 49 (.bin .geq 50 (cI 0)),oF 52 46 (.pick 49 51 (.c (.b false))),oD 53 (.pick 46 (.c (.b true)) 52)]
def Zq.r17:List Oper:=[oM 2 (cI (-1)),oM 3 (cI 10)]
def Zq.r18:List Oper:=[oM 54 10,oD 55 (.eq false .sc 54 (cI (-4)))]
def Zq.r19:List Oper:=[oM 56 8,oM 7 56]
def Zq.r13:List Oper:=[oM 30 8,oD 31 (.bin .add 30 (cI 1)),oM 8 31]
def Zq.l0:Code:=.seq (.seq Zq.r12 (.cond 29 (.skip) (.exit 0))) (.seq (.block 1 (.seq Zq.r14 (.seq Zq.r15 (.seq (.seq Zq.r16 (.cond 53 (.seq Zq.r17 (.ret)) (.skip))) (.seq Zq.r18 (.cond 55 Zq.r19 (.skip))))))) Zq.r13)
def Zq.r20:List Oper:=[oM 57 7,oD 58 (.bin .lss 57 (cI 0))]
def Zq.r21:List Oper:=[oM 2 (cI (-1)),oM 3 (cI 10)]
def Zq.r22:List Oper:=[oM 59 7,oM 2 59,oM 3 (cI 0)]
def Zq.code:Code:=.seq Zq.r0 (.seq Zq.r1 (.seq (.seq Zq.r2 (.cond 14 (.seq Zq.r3 (.ret)) (.skip))) (.seq Zq.r4 (.seq (.seq Zq.r5 (.cond 20 (.seq Zq.r6 (.ret)) (.skip))) (.seq (.seq Zq.r7 (.cond 23 (.seq Zq.r8 (.ret)) (.skip))) (.seq Zq.r9 (.seq Zq.r10 (.seq (.seq Zq.r11 (.block 0 (.loop Zq.l0))) (.seq (.seq Zq.r20 (.cond 58 (.seq Zq.r21 (.ret)) (.skip))) (.seq Zq.r22 (.ret)))))))))))
def Zq:Func:=⟨60,[.t 2,.t 3],Zq.code⟩
/-! muntin/muntinref12.Turns -/
def zq.r0:List Oper:=[oM 4 (.c (.sn))]
def zq.r1:List Oper:=[oM 5 (.c (.sn))]
def zq.r2:List Oper:=[oM 6 (cI 0)]
def zq.r3:List Oper:=[oM 9 6,oM 10 1,oD 11 (.len 10),oD 12 (.bin .lss 9 11)]
def zq.r5:List Oper:=[oM 15 0,oM 16 1,oM 17 6,oD 18 (.ixa 2 16 17),oD 19 (.ld true 2 18),oC 20 202 [15,19],oD 7 (.alloc [.n 0,.n 0]),oN (.st 2 7 20)]
def zq.r6:List Oper:=[oM 21 1,oM 22 6,oD 23 (.ixa 2 21 22),oD 24 (.fa 1 23),oD 25 (.ld false 1 24),oD 26 (.fa 1 7),oD 27 (.ld false 1 26),oC 28 207 [25,27],oM 8 28]
def zq.r7:List Oper:=[oM 29 5,oM 30 8,oD 31 (.bsl 1 1 [.n 0] [(0,1,.t 30)]),oD 32 (.app 1 8 29 31),oM 5 32]
def zq.r4:List Oper:=[oM 13 6,oD 14 (.bin .add 13 (cI 1)),oM 6 14]
def zq.l0:Code:=.seq (.seq zq.r3 (.cond 12 (.skip) (.exit 0))) (.seq (.block 1 (.seq zq.r5 (.seq (.draw zq.r6 [(4,6)]) zq.r7))) zq.r4)
def zq.r8:List Oper:=[oM 33 5,oM 4 33]
def zq.code:Code:=.seq zq.r0 (.seq zq.r1 (.seq (.seq zq.r2 (.block 0 (.loop zq.l0))) (.seq zq.r8 (.ret))))
def zq:Func:=⟨34,[.t 4],zq.code⟩
/-! muntin/muntinref19.Lines -/
def ZF.r0:List Oper:=[oD 1 (.box 0),oM 2 (.c (.sn))]
def ZF.r1:List Oper:=[oM 3 (.c (.sn))]
def ZF.r2:List Oper:=[oM 4 (cI 0)]
def ZF.r3:List Oper:=[oM 6 4,oD 7 (.fa 2 1),oD 8 (.ld false 1 7),oD 9 (.len 8),oD 10 (.bin .lss 6 9)]
def ZF.r5:List Oper:=[oD 13 (.fa 2 1),oD 14 (.ld false 1 13),oM 15 4,oD 16 (.ixa 1 14 15),oD 17 (.ld false 1 16),oD 18 (.len 17),oD 19 (.bin .gtr 18 (cI 1))]
def ZF.r6:List Oper:=[oM 20 3,oM 21 4,oD 22 (.build [.b false,.n 0] [(0,1,.c (.b true)),(1,1,.t 21)]),oD 23 (.bsl 2 1 [.b false,.n 0] [(0,2,.t 22)]),oD 24 (.app 2 16 20 23),oM 3 24]
def ZF.r4:List Oper:=[oM 11 4,oD 12 (.bin .add 11 (cI 1)),oM 4 12]
def ZF.l0:Code:=.seq (.seq ZF.r3 (.cond 10 (.skip) (.exit 0))) (.seq (.block 1 (.seq ZF.r5 (.cond 19 ZF.r6 (.skip)))) ZF.r4)
def ZF.r7:List Oper:=[oM 5 (cI 0)]
def ZF.r8:List Oper:=[oM 25 5,oD 26 (.fa 3 1),oD 27 (.ld false 1 26),oD 28 (.len 27),oD 29 (.bin .lss 25 28)]
def ZF.r10:List Oper:=[oD 32 (.fa 3 1),oD 33 (.ld false 1 32),oM 34 5,oD 35 (.ixa 1 33 34),oD 36 (.ld false 1 35),oD 37 (.len 36),oD 38 (.bin .gtr 37 (cI 1))]
def ZF.r11:List Oper:=[oM 39 3,oM 40 5,oD 41 (.build [.b false,.n 0] [(1,1,.t 40)]),oD 42 (.bsl 2 1 [.b false,.n 0] [(0,2,.t 41)]),oD 43 (.app 2 16 39 42),oM 3 43]
def ZF.r9:List Oper:=[oM 30 5,oD 31 (.bin .add 30 (cI 1)),oM 5 31]
def ZF.l1:Code:=.seq (.seq ZF.r8 (.cond 29 (.skip) (.exit 2))) (.seq (.block 3 (.seq ZF.r10 (.cond 38 ZF.r11 (.skip)))) ZF.r9)
def ZF.r12:List Oper:=[oM 44 3,oM 2 44]
def ZF.code:Code:=.seq ZF.r0 (.seq ZF.r1 (.seq (.seq ZF.r2 (.block 0 (.loop ZF.l0))) (.seq (.seq ZF.r7 (.block 2 (.loop ZF.l1))) (.seq ZF.r12 (.ret)))))
def ZF:Func:=⟨45,[.t 2],ZF.code⟩
/-! muntin/muntinlaw22.wakes -/
def Za0.r0:List Oper:=[oM 0 (.c (.b false))]
def Za0.r1:List Oper:=[oC 10 213 [],oC 11 212 [10,.c (.sn)],oM 9 11,oD 12 (.ext 9 0),oD 13 (.ext 9 1),oD 14 (.ext 9 2),oM 1 12,oM 2 13,oM 3 14]
def Za0.r2:List Oper:=[oM 16 1,oC 17 214 [16],oM 15 17,oD 18 (.ext 15 0),oD 19 (.ext 15 1),oM 4 18,oM 5 19]
def Za0.r3:List Oper:=[oC 21 46 [.c (.n 2)],oC 22 212 [21,.c (.sn)],oM 20 22,oD 23 (.ext 20 0),oD 24 (.ext 20 1),oD 25 (.ext 20 2),oM 6 23,oM 7 24,oM 8 25]
def Za0.r4:List Oper:=[oM 26 3,oD 27 (.eq false .sc 26 (cI 0)),oM 28 27,oT 29 28 (.mv 2),oT 30 28 (.bin .gtr 29 (cI 0)),oD 31 (.pick 28 30 (.c (.b false))),oM 32 31,oT 33 32 (.mv 2),oT 34 32 (.bin .lss 33 (cI 3)),oD 35 (.pick 32 34 (.c (.b false))),oM 36 35,oT 37 36 (.mv 5),oT 38 36 (.eq false .sc 37 (cI 0)),oD 39 (.pick 36 38 (.c (.b false))),oM 40 39,oT 41 40 (.mv 4),oT 42 40 (.call (.c (.f 213 [])) []),oT 43 40 (.call (.c (.f 56 [])) [41,42]),oD 44 (.pick 40 43 (.c (.b false))),oM 45 44,oT 46 45 (.mv 8),oT 47 45 (.eq false .sc 46 (cI 13)),oD 48 (.pick 45 47 (.c (.b false))),oM 0 48]
def Za0.code:Code:=.seq Za0.r0 (.seq Za0.r1 (.seq Za0.r2 (.seq Za0.r3 (.seq Za0.r4 (.ret)))))
def Za0:Func:=⟨49,[.t 0],Za0.code⟩
/-! muntin/muntinref17.Straight -/
def ZG.r0:List Oper:=[oM 4 (.c (.b false))]
def ZG.r1:List Oper:=[oM 5 (cI 0)]
def ZG.r2:List Oper:=[oM 8 5,oM 9 0,oD 10 (.len 9),oD 11 (.bin .lss 8 10)]
def ZG.r4:List Oper:=[oM 14 0,oM 15 5,oD 16 (.ixa 8 14 15),oD 17 (.fa 0 16),oD 18 (.ixaa 1 4 17 (cI 0)),oD 19 (.ld false 1 18),oM 6 19]
def ZG.r5:List Oper:=[oM 20 6,oD 21 (.bin .geq 20 (cI 0)),oM 22 21,oT 23 22 (.mv 1),oT 24 22 (.mv 6),oT 25 22 (.mx [24,.c (.n 0)]),oT 26 22 (.ixa 2 23 25),oT 27 22 (.fa 1 26),oT 28 22 (.ld false 1 27),oT 29 22 (.mv 1),oT 30 22 (.mv 5),oT 31 22 (.ixa 2 29 30),oT 32 22 (.fa 1 31),oT 33 22 (.ld false 1 32),oT 34 22 (.eq true .sc 28 33),oT 35 22 (.mv 34),oF 36 35 (.mv 1),oF 37 35 (.mv 6),oF 38 35 (.mx [37,.c (.n 0)]),oF 39 35 (.ixa 2 36 38),oF 40 35 (.fa 0 39),oF 41 35 (.ld false 1 40),oF 42 35 (.mv 1),oF 43 35 (.mv 5),oF 44 35 (.ixa 2 42 43),oF 45 35 (.fa 0 44),oF 46 35 (.ld false 1 45),oF 47 35 (.bin .leq 41 46),oT 48 22 (.pick 35 (.c (.b true)) 47),oD 49 (.pick 22 48 (.c (.b false)))]
def ZG.r6:List Oper:=[oM 4 (.c (.b false))]
def ZG.r7:List Oper:=[oM 50 0,oM 51 5,oD 52 (.ixa 8 50 51),oD 53 (.fa 0 52),oD 54 (.ixaa 1 4 53 (cI 1)),oD 55 (.ld false 1 54),oM 7 55]
def ZG.r8:List Oper:=[oM 56 7,oD 57 (.bin .geq 56 (cI 0)),oM 58 57,oT 59 58 (.mv 1),oT 60 58 (.mv 7),oT 61 58 (.mx [60,.c (.n 0)]),oT 62 58 (.ixa 2 59 61),oT 63 58 (.fa 0 62),oT 64 58 (.ld false 1 63),oT 65 58 (.mv 1),oT 66 58 (.mv 5),oT 67 58 (.ixa 2 65 66),oT 68 58 (.fa 0 67),oT 69 58 (.ld false 1 68),oT 70 58 (.eq true .sc 64 69),oT 71 58 (.mv 70),oF 72 71 (.mv 1),oF 73 71 (.mv 7),oF 74 71 (.mx [73,.c (.n 0)]),oF 75 71 (.ixa 2 72 74),oF 76 71 (.fa 1 75),oF 77 71 (.ld false 1 76),oF 78 71 (.mv 1),oF 79 71 (.mv 5),oF 80 71 (.ixa 2 78 79),oF 81 71 (.fa 1 80),oF 82 71 (.ld false 1 81),oF 83 71 (.bin .leq 77 82),oT 84 58 (.pick 71 (.c (.b true)) 83),oD 85 (.pick 58 84 (.c (.b false)))]
def ZG.r9:List Oper:=[oM 4 (.c (.b false))]
def ZG.r3:List Oper:=[oM 12 5,oD 13 (.bin .add 12 (cI 1)),oM 5 13]
def ZG.l0:Code:=.seq (.seq ZG.r2 (.cond 11 (.skip) (.exit 0))) (.seq (.block 1 (.seq ZG.r4 (.seq (.seq (.draw ZG.r5 [(8,13),(21,26)]) (.cond 49 (.seq ZG.r6 (.ret)) (.skip))) (.seq ZG.r7 (.seq (.draw ZG.r8 [(8,13),(21,26)]) (.cond 85 (.seq ZG.r9 (.ret)) (.skip))))))) ZG.r3)
def ZG.r10:List Oper:=[oM 4 (.c (.b true))]
def ZG.code:Code:=.seq ZG.r0 (.seq (.seq ZG.r1 (.block 0 (.loop ZG.l0))) (.seq ZG.r10 (.ret)))
def ZG:Func:=⟨86,[.t 4],ZG.code⟩
/-! muntin/valid.outer -/
def z6.r0:List Oper:=[oM 2 (cI 0),oM 3 (.c (.b false))]
def z6.r1:List Oper:=[oM 10 0,oC 11 203 [10],oM 9 11,oD 12 (.ext 9 0),oD 13 (.ext 9 1),oM 4 12,oM 5 13]
def z6.r2:List Oper:=[oM 6 (cI (-1))]
def z6.r3:List Oper:=[oM 14 4,oD 15 (.len 14),oM 16 (cI 0)]
def z6.r4:List Oper:=[oD 17 (.bin .lss 16 15)]
def z6.r5:List Oper:=[oM 18 16,oD 19 (.ixa 1 14 16),oD 20 (.ld false 1 19),oM 7 18,oM 8 20]
def z6.r6:List Oper:=[oM 21 0,oM 22 8,oC 23 204 [21,22],oC 24 219 [23]]
def z6.r8:List Oper:=[oD 26 (.eq false .sc 24 (cI 4)),oM 25 26]
def z6.r9:List Oper:=[oD 28 (.eq false .sc 24 (cI (-4))),oM 27 28]
def z6.r10:List Oper:=[oM 29 6,oD 30 (.bin .geq 29 (cI 0))]
def z6.r11:List Oper:=[oM 2 (cI 0),oM 3 (.c (.b false))]
def z6.r12:List Oper:=[oM 31 7,oM 6 31]
def z6.r7:List Oper:=[oM 2 (cI 0),oM 3 (.c (.b false))]
def z6.r13:List Oper:=[oD 32 (.bin .add 16 (cI 1)),oM 16 32]
def z6.l0:Code:=.seq z6.r4 (.seq (.cond 17 (.skip) (.exit 0)) (.seq (.block 1 (.seq z6.r5 (.seq z6.r6 (.block 2 (.seq z6.r8 (.cond 25 (.skip) (.seq z6.r9 (.cond 27 (.seq (.seq z6.r10 (.cond 30 (.seq z6.r11 (.ret)) (.skip))) z6.r12) (.seq z6.r7 (.ret)))))))))) z6.r13))
def z6.r14:List Oper:=[oM 33 6,oM 34 6,oD 35 (.bin .geq 34 (cI 0)),oM 2 33,oM 3 35]
def z6.code:Code:=.seq z6.r0 (.seq z6.r1 (.seq z6.r2 (.seq (.seq z6.r3 (.block 0 (.loop z6.l0))) (.seq z6.r14 (.ret)))))
def z6:Func:=⟨36,[.t 2,.t 3],z6.code⟩
/-! muntin/muntinref12.Behind -/
def ZZ.r0:List Oper:=[oD 3 (.box 1),oD 4 (.alloc [.n 0,.n 0])]
def ZZ.r1:List Oper:=[oM 9 0,oD 10 (.fa 0 3),oD 11 (.ld false 1 10),oD 12 (.fa 1 3),oD 13 (.ld false 1 12),oD 14 (.ixa 8 9 11),oD 15 (.fa 0 14),oD 16 (.ixaa 1 4 15 13),oD 17 (.ld false 1 16),oM 5 17]
def ZZ.r2:List Oper:=[oD 18 (.bsl 1 4 [.n 0] [(0,1,.c (.n 1)),(1,1,.c (.n 0)),(2,1,.c (.n 3)),(3,1,.c (.n 2))]),oM 6 18]
def ZZ.r3:List Oper:=[oM 7 (cI 0)]
def ZZ.r4:List Oper:=[oM 19 7,oD 20 (.bin .lss 19 (cI 4))]
def ZZ.r6:List Oper:=[oD 23 (.fa 1 3),oD 24 (.ld false 1 23),oM 25 6,oM 26 7,oD 27 (.ixa 1 25 26),oD 28 (.ld false 1 27),oD 29 (.bin .add 24 28),oD 30 (.bin .rem 29 (cI 4)),oM 8 30]
def ZZ.r7:List Oper:=[oM 31 0,oM 32 5,oM 33 8,oD 34 (.ixa 8 31 32),oD 35 (.fa 0 34),oD 36 (.ixaa 1 4 35 33),oD 37 (.ld false 1 36),oD 38 (.bin .geq 37 (cI 0))]
def ZZ.r8:List Oper:=[oM 39 5,oM 40 8,oD 41 (.build [.n 0,.n 0] [(0,1,.t 39),(1,1,.t 40)]),oN (.st 2 4 41)]
def ZZ.r5:List Oper:=[oM 21 7,oD 22 (.bin .add 21 (cI 1)),oM 7 22]
def ZZ.l0:Code:=.seq (.seq ZZ.r4 (.cond 20 (.skip) (.exit 0))) (.seq (.block 1 (.seq (.draw ZZ.r6 [(1,5)]) (.seq ZZ.r7 (.cond 38 (.seq ZZ.r8 (.ret)) (.skip))))) ZZ.r5)
def ZZ.r9:List Oper:=[oD 42 (.ld true 2 3),oN (.st 2 4 42)]
def ZZ.code:Code:=.seq ZZ.r0 (.seq (.draw ZZ.r1 [(2,4)]) (.seq ZZ.r2 (.seq (.seq ZZ.r3 (.block 0 (.loop ZZ.l0))) (.seq ZZ.r9 (.ret)))))
def ZZ:Func:=⟨43,[.cell 4 true 2],ZZ.code⟩
/-! muntin/face.Faces -/
def ZB.r0:List Oper:=[oM 2 (.c (.sn)),oM 3 (cI 0)]
def ZB.r1:List Oper:=[oM 12 0,oC 13 66 [12],oM 4 13]
def ZB.r2:List Oper:=[oM 14 4,oD 15 (.eq true .sc 14 (cI 0))]
def ZB.r3:List Oper:=[oM 16 4,oM 2 (.c (.sn)),oM 3 16]
def ZB.r4:List Oper:=[oM 5 (.c (.sn))]
def ZB.r5:List Oper:=[oD 17 (.mkm),oM 6 17]
def ZB.r6:List Oper:=[oM 18 0,oD 19 (.len 18),oM 20 (cI 0)]
def ZB.r7:List Oper:=[oD 21 (.bin .lss 20 19)]
def ZB.r8:List Oper:=[oM 22 20,oM 7 22]
def ZB.r9:List Oper:=[oM 23 (cI 0)]
def ZB.r10:List Oper:=[oD 24 (.bin .lss 23 (cI 4))]
def ZB.r11:List Oper:=[oM 25 23,oM 8 25]
def ZB.r12:List Oper:=[oM 26 7,oM 27 8,oD 28 (.build [.n 0,.n 0] [(0,1,.t 26),(1,1,.t 27)]),oD 9 (.alloc [.n 0,.n 0]),oN (.st 2 9 28)]
def ZB.r13:List Oper:=[oD 29 (.ld true 2 9),oM 30 0,oC 31 220 [29,30],oD 32 (.un .not 31),oM 33 32,oF 34 33 (.mv 6),oF 35 33 (.ld true 2 9),oF 36 33 (.mlk [.i,.i] false (.b false) 34 35),oD 37 (.pick 33 (.c (.b true)) 36)]
def ZB.r14:List Oper:=[oM 10 (.c (.sn))]
def ZB.r15:List Oper:=[oD 38 (.ld true 2 9),oD 11 (.alloc [.n 0,.n 0]),oN (.st 2 11 38)]
def ZB.r16:List Oper:=[oM 39 6,oD 40 (.ld true 2 11),oD 41 (.mlk [.i,.i] false (.b false) 39 40),oD 42 (.un .not 41)]
def ZB.r18:List Oper:=[oM 46 6,oD 47 (.ld true 2 11),oN (.mup [.i,.i] 46 47 (.c (.b true)))]
def ZB.r19:List Oper:=[oM 48 10,oD 49 (.ld true 2 11),oD 50 (.bsl 2 1 [.n 0,.n 0] [(0,2,.t 49)]),oD 51 (.app 2 16 48 50),oM 10 51]
def ZB.r20:List Oper:=[oD 52 (.ld true 2 11)]
def ZB.r21:List Oper:=[oD 11 (.alloc [.n 0,.n 0]),oN (.st 2 11 52)]
def ZB.r17:List Oper:=[oD 43 (.ld true 2 11),oM 44 0,oC 45 221 [43,44],oN (.st 2 11 45)]
def ZB.l0:Code:=.seq (.seq ZB.r16 (.cond 42 (.skip) (.exit 4))) (.seq (.block 5 (.seq ZB.r18 ZB.r19)) (.seq (.seq ZB.r20 ZB.r21) ZB.r17))
def ZB.r22:List Oper:=[oM 53 5,oM 54 10,oD 55 (.bsl 1 1 [.sn] [(0,1,.t 54)]),oD 56 (.app 1 24 53 55),oM 5 56]
def ZB.r23:List Oper:=[oD 57 (.bin .add 23 (cI 1)),oM 23 57]
def ZB.l1:Code:=.seq ZB.r10 (.seq (.cond 24 (.skip) (.exit 2)) (.seq (.block 3 (.seq ZB.r11 (.seq ZB.r12 (.seq (.seq ZB.r13 (.cond 37 (.exit 3) (.skip))) (.seq ZB.r14 (.seq (.seq ZB.r15 (.block 4 (.loop ZB.l0))) ZB.r22)))))) ZB.r23))
def ZB.r24:List Oper:=[oD 58 (.bin .add 20 (cI 1)),oM 20 58]
def ZB.l2:Code:=.seq ZB.r7 (.seq (.cond 21 (.skip) (.exit 0)) (.seq (.block 1 (.seq ZB.r8 (.seq ZB.r9 (.block 2 (.loop ZB.l1))))) ZB.r24))
def ZB.r25:List Oper:=[oM 59 5,oM 2 59,oM 3 (cI 0)]
def ZB.code:Code:=.seq ZB.r0 (.seq (.seq ZB.r1 (.seq ZB.r2 (.cond 15 (.seq ZB.r3 (.ret)) (.skip)))) (.seq ZB.r4 (.seq ZB.r5 (.seq (.seq ZB.r6 (.block 0 (.loop ZB.l2))) (.seq ZB.r25 (.ret))))))
def ZB:Func:=⟨60,[.t 2,.t 3],ZB.code⟩
/-! muntin/face.Turns -/
def Zal.r0:List Oper:=[oM 4 (.c (.sn))]
def Zal.r1:List Oper:=[oM 8 1,oD 9 (.len 8),oD 10 (.mks 1 8 [.n 0] 9 9),oM 5 10]
def Zal.r2:List Oper:=[oM 11 0,oC 12 66 [11],oD 13 (.eq true .sc 12 (cI 0))]
def Zal.r3:List Oper:=[oM 14 5,oM 4 14]
def Zal.r4:List Oper:=[oM 15 1,oD 16 (.len 15),oM 17 (cI 0)]
def Zal.r5:List Oper:=[oD 18 (.bin .lss 17 16)]
def Zal.r6:List Oper:=[oM 19 17,oD 20 (.ixa 2 15 17),oD 21 (.ld true 2 20),oD 7 (.alloc [.n 0,.n 0]),oM 6 19,oN (.st 2 7 21)]
def Zal.r7:List Oper:=[oD 22 (.ld true 2 7),oM 23 0,oC 24 220 [22,23]]
def Zal.r8:List Oper:=[oM 25 5,oM 26 6,oD 27 (.fa 1 7),oD 28 (.ld false 1 27),oD 29 (.ld true 2 7),oM 30 0,oC 31 221 [29,30],oD 32 (.fld false 1 1 31),oC 33 222 [28,32],oD 34 (.ixa 1 25 26),oN (.st 1 34 33)]
def Zal.r9:List Oper:=[oD 35 (.bin .add 17 (cI 1)),oM 17 35]
def Zal.l0:Code:=.seq Zal.r5 (.seq (.cond 18 (.skip) (.exit 0)) (.seq (.block 1 (.seq Zal.r6 (.seq Zal.r7 (.cond 24 (.draw Zal.r8 [(3,4),(3,6)]) (.skip))))) Zal.r9))
def Zal.r10:List Oper:=[oM 36 5,oM 4 36]
def Zal.code:Code:=.seq Zal.r0 (.seq Zal.r1 (.seq (.seq Zal.r2 (.cond 13 (.seq Zal.r3 (.ret)) (.skip))) (.seq (.seq Zal.r4 (.block 0 (.loop Zal.l0))) (.seq Zal.r10 (.ret)))))
def Zal:Func:=⟨37,[.t 4],Zal.code⟩
/-! muntin/muntinref12.Rotation -/
def zd.r0:List Oper:=[oM 2 (cI 0)]
def zd.r1:List Oper:=[oM 3 (cI 0)]
def zd.r2:List Oper:=[oM 4 (cI 0)]
def zd.r3:List Oper:=[oM 5 4,oM 6 0,oD 7 (.len 6),oD 8 (.bin .lss 5 7)]
def zd.r5:List Oper:=[oM 11 0,oM 12 4,oD 13 (.ixa 1 11 12),oD 14 (.ld false 1 13),oD 15 (.bin .geq 14 (cI (-2))),oM 16 15,oT 17 16 (.mv 0),oT 18 16 (.mv 4),oT 19 16 (.ixa 1 17 18),oT 20 16 (.ld false 1 19),oT 21 16 (.bin .leq 20 (cI 1)),oD 22 (.pick 16 21 (.c (.b false)))]
def zd.r6:List Oper:=[oM 23 3,oM 24 0,oM 25 4,oD 26 (.ixa 1 24 25),oD 27 (.ld false 1 26),oD 28 (.bin .add 23 27),oM 3 28]
def zd.r4:List Oper:=[oM 9 4,oD 10 (.bin .add 9 (cI 1)),oM 4 10]
def zd.l0:Code:=.seq (.seq zd.r3 (.cond 8 (.skip) (.exit 0))) (.seq (.block 1 (.seq zd.r5 (.cond 22 zd.r6 (.skip)))) zd.r4)
def zd.r7:List Oper:=[oM 29 3,oM 2 29]
def zd.code:Code:=.seq zd.r0 (.seq zd.r1 (.seq (.seq zd.r2 (.block 0 (.loop zd.l0))) (.seq zd.r7 (.ret))))
def zd:Func:=⟨30,[.t 2],zd.code⟩
/-! muntin/muntinref01.Turn -/
def zc.r0:List Oper:=[oM 4 (cI 0)]
def zc.r1:List Oper:=[oM 8 0,oC 9 223 [8],oM 5 9]
def zc.r2:List Oper:=[oM 10 1,oC 11 223 [10],oM 6 11]
def zc.r3:List Oper:=[oM 12 5,oD 13 (.un .not 12),oM 14 13,oF 15 14 (.mv 6),oF 16 14 (.un .not 15),oD 17 (.pick 14 (.c (.b true)) 16),oM 18 17,oF 19 18 (.mv 0),oF 20 18 (.mv 1),oF 21 18 (.eq false .sc 19 20),oD 22 (.pick 18 (.c (.b true)) 21)]
def zc.r4:List Oper:=[oM 4 (cI 0)]
def zc.r5:List Oper:=[oM 23 0,oC 24 224 [23,.c (.n 1)],oM 7 24]
def zc.r6:List Oper:=[oM 25 7,oM 26 1,oD 27 (.eq false .sc 25 26)]
def zc.r7:List Oper:=[oM 4 (cI 1)]
def zc.r8:List Oper:=[oM 28 0,oC 29 224 [28,.c (.n 3)],oM 7 29]
def zc.r9:List Oper:=[oM 30 7,oM 31 1,oD 32 (.eq false .sc 30 31)]
def zc.r10:List Oper:=[oM 4 (cI (-1))]
def zc.r11:List Oper:=[oM 4 (cI (-2))]
def zc.code:Code:=.seq zc.r0 (.seq zc.r1 (.seq zc.r2 (.seq (.seq zc.r3 (.cond 22 (.seq zc.r4 (.ret)) (.skip))) (.seq zc.r5 (.seq (.seq zc.r6 (.cond 27 (.seq zc.r7 (.ret)) (.skip))) (.seq zc.r8 (.seq (.seq zc.r9 (.cond 32 (.seq zc.r10 (.ret)) (.skip))) (.seq zc.r11 (.ret)))))))))
def zc:Func:=⟨33,[.t 4],zc.code⟩
/-! muntin/regular.Make -/
def zf.r0:List Oper:=[oM 4 (.c (.sn)),oM 5 (cI 0),oM 6 (cI 0)]
def zf.r1:List Oper:=[oM 17 0,oC 18 176 [17],oM 7 18]
def zf.r2:List Oper:=[oM 19 7,oD 20 (.eq true .sc 19 (cI 0))]
def zf.r3:List Oper:=[oM 21 7,oM 4 (.c (.sn)),oM 5 (cI 0),oM 6 21]
def zf.r4:List Oper:=[oM 23 0,oC 24 119 [23],oM 22 24,oD 25 (.ext 22 0),oD 26 (.ext 22 1),oM 8 25,oM 9 26]
def zf.r5:List Oper:=[oM 10 (cI 0)]
def zf.r7:List Oper:=[oM 30 8,oC 31 57 [30],oC 32 228 [31],oM 29 32,oD 33 (.ext 29 0),oD 34 (.ext 29 1),oD 35 (.ext 29 2),oD 36 (.ext 29 3),oM 11 33,oM 12 34,oM 13 35,oM 14 36]
def zf.r8:List Oper:=[oM 37 14,oD 38 (.un .not 37)]
def zf.r9:List Oper:=[oM 39 8,oC 40 57 [39],oM 41 10,oM 4 40,oM 5 41,oM 6 (cI 0)]
def zf.r10:List Oper:=[oM 42 10,oM 43 1,oD 44 (.len 43),oD 45 (.bin .lss 42 44),oM 46 45,oT 47 46 (.mv 1),oT 48 46 (.mv 10),oT 49 46 (.ixa 1 47 48),oT 50 46 (.ld false 1 49),oD 51 (.pick 46 50 (.c (.b false))),oM 15 51]
def zf.r11:List Oper:=[oM 52 12,oC 53 229 [52],oM 54 15,oD 55 (.eq false .bl 53 54)]
def zf.r12:List Oper:=[oM 56 12,oC 57 77 [56,.c (.n 1)],oM 12 57]
def zf.r13:List Oper:=[oM 58 8,oM 59 11,oM 60 12,oM 61 13,oC 62 52 [58,59,60,61,.c (.n (-2))],oM 16 62]
def zf.r14:List Oper:=[oM 63 16,oD 64 (.eq true .sc 63 (cI 0))]
def zf.r15:List Oper:=[oM 65 16,oM 4 (.c (.sn)),oM 5 (cI 0),oM 6 65]
def zf.r6:List Oper:=[oM 27 10,oD 28 (.bin .add 27 (cI 1)),oM 10 28]
def zf.l0:Code:=.seq (.block 1 (.seq zf.r7 (.seq (.seq zf.r8 (.cond 38 (.seq zf.r9 (.ret)) (.skip))) (.seq zf.r10 (.seq (.seq zf.r11 (.cond 55 zf.r12 (.skip))) (.seq zf.r13 (.seq zf.r14 (.cond 64 (.seq zf.r15 (.ret)) (.skip))))))))) zf.r6
def zf.code:Code:=.seq zf.r0 (.seq (.seq zf.r1 (.seq zf.r2 (.cond 20 (.seq zf.r3 (.ret)) (.skip)))) (.seq zf.r4 (.seq zf.r5 (.block 0 (.loop zf.l0)))))
def zf:Func:=⟨66,[.t 4,.t 5,.t 6],zf.code⟩
/-! muntin/muntinlaw22.plus -/
def zE.r0:List Oper:=[oM 0 (.c (.sn))]
def zE.r1:List Oper:=[oC 4 46 [.c (.n 12)],oM 1 4]
def zE.r2:List Oper:=[oD 5 (.bsl 1 12 [.n 0] [(0,1,.c (.n 0)),(1,1,.c (.n 1)),(2,1,.c (.n 0)),(3,1,.c (.n 1)),(4,1,.c (.n 2)),(5,1,.c (.n 1)),(6,1,.c (.n 2)),(7,1,.c (.n 3)),(8,1,.c (.n 2)),(9,1,.c (.n 3)),(10,1,.c (.n 0)),(11,1,.c (.n 3))]),oD 6 (.len 5),oM 7 (cI 0)]
def zE.r3:List Oper:=[oD 8 (.bin .lss 7 6)]
def zE.r4:List Oper:=[oM 9 7,oD 10 (.ixa 1 5 7),oD 11 (.ld false 1 10),oM 2 9,oM 3 11]
def zE.r5:List Oper:=[oM 13 1,oM 14 2,oM 15 3,oM 16 2,oD 17 (.bin .add 16 (cI 1)),oD 18 (.bin .rem 17 (cI 12)),oC 19 53 [13,14,15,18,.c (.n 0)],oM 12 19,oD 20 (.ext 12 0),oD 21 (.ext 12 1),oM 1 20]
def zE.r6:List Oper:=[oD 22 (.bin .add 7 (cI 1)),oM 7 22]
def zE.l0:Code:=.seq zE.r3 (.seq (.cond 8 (.skip) (.exit 0)) (.seq (.block 1 (.seq zE.r4 zE.r5)) zE.r6))
def zE.r7:List Oper:=[oM 23 1,oM 0 23]
def zE.code:Code:=.seq zE.r0 (.seq zE.r1 (.seq (.seq zE.r2 (.block 0 (.loop zE.l0))) (.seq zE.r7 (.ret))))
def zE:Func:=⟨24,[.t 0],zE.code⟩
/-! muntin/regular.Bare -/
def ZT.r0:List Oper:=[oM 2 (.c (.sn)),oM 3 (cI 0)]
def ZT.r1:List Oper:=[oM 9 0,oC 10 66 [9],oM 4 10]
def ZT.r2:List Oper:=[oM 11 4,oD 12 (.eq true .sc 11 (cI 0))]
def ZT.r3:List Oper:=[oM 13 4,oM 2 (.c (.sn)),oM 3 13]
def ZT.r4:List Oper:=[oM 5 (.c (.sn))]
def ZT.r5:List Oper:=[oM 14 0,oD 15 (.len 14),oM 16 (cI 0)]
def ZT.r6:List Oper:=[oD 17 (.bin .lss 16 15)]
def ZT.r7:List Oper:=[oD 18 (.ixa 8 14 16),oD 19 (.ld true 8 18),oD 7 (.alloc [.n 0,.n 0,.n 0,.n 0,.n 0,.n 0,.n 0,.n 0]),oN (.st 8 7 19)]
def ZT.r8:List Oper:=[oM 20 (cI 0)]
def ZT.r9:List Oper:=[oD 21 (.bin .lss 20 (cI 4))]
def ZT.r10:List Oper:=[oM 22 20,oM 8 22]
def ZT.r11:List Oper:=[oM 23 8,oD 24 (.fa 0 7),oD 25 (.ixaa 1 4 24 23),oD 26 (.ld false 1 25),oD 27 (.bin .geq 26 (cI 0)),oM 28 27,oT 29 28 (.mv 8),oT 30 28 (.fa 4 7),oT 31 28 (.ixaa 1 4 30 29),oT 32 28 (.ld false 1 31),oT 33 28 (.eq false .sc 32 (cI (-2))),oD 34 (.pick 28 33 (.c (.b false)))]
def ZT.r12:List Oper:=[oM 35 8,oM 36 8,oD 37 (.fa 0 7),oD 38 (.ixaa 1 4 37 35),oN (.st 1 38 (cI (-1))),oD 39 (.fa 4 7),oD 40 (.ixaa 1 4 39 36),oN (.st 1 40 (cI 0))]
def ZT.r13:List Oper:=[oD 41 (.bin .add 20 (cI 1)),oM 20 41]
def ZT.l0:Code:=.seq ZT.r9 (.seq (.cond 21 (.skip) (.exit 2)) (.seq (.block 3 (.seq ZT.r10 (.seq ZT.r11 (.cond 34 ZT.r12 (.skip))))) ZT.r13))
def ZT.r14:List Oper:=[oM 42 5,oD 43 (.ld true 8 7),oD 44 (.bsl 8 1 [.n 0,.n 0,.n 0,.n 0,.n 0,.n 0,.n 0,.n 0] [(0,8,.t 43)]),oD 45 (.app 8 64 42 44),oM 5 45]
def ZT.r15:List Oper:=[oD 46 (.bin .add 16 (cI 1)),oM 16 46]
def ZT.l1:Code:=.seq ZT.r6 (.seq (.cond 17 (.skip) (.exit 0)) (.seq (.block 1 (.seq ZT.r7 (.seq (.seq ZT.r8 (.block 2 (.loop ZT.l0))) ZT.r14))) ZT.r15))
def ZT.r16:List Oper:=[oM 47 5,oM 2 47,oM 3 (cI 0)]
def ZT.code:Code:=.seq ZT.r0 (.seq (.seq ZT.r1 (.seq ZT.r2 (.cond 12 (.seq ZT.r3 (.ret)) (.skip)))) (.seq ZT.r4 (.seq (.seq ZT.r5 (.block 0 (.loop ZT.l1))) (.seq ZT.r16 (.ret)))))
def ZT:Func:=⟨48,[.t 2,.t 3],ZT.code⟩
/-! muntin/face.Rotation -/
def zV.r0:List Oper:=[oM 2 (cI 0)]
def zV.r1:List Oper:=[oM 3 (cI 0)]
def zV.r2:List Oper:=[oM 6 0,oD 7 (.len 6),oM 8 (cI 0)]
def zV.r3:List Oper:=[oD 9 (.bin .lss 8 7)]
def zV.r4:List Oper:=[oD 10 (.ixa 1 6 8),oD 11 (.ld false 1 10),oM 5 11]
def zV.r5:List Oper:=[oM 12 5,oD 13 (.bin .geq 12 (cI (-2))),oM 14 13,oT 15 14 (.mv 5),oT 16 14 (.bin .leq 15 (cI 1)),oD 17 (.pick 14 16 (.c (.b false)))]
def zV.r6:List Oper:=[oM 18 3,oM 19 5,oD 20 (.bin .add 18 19),oM 3 20]
def zV.r7:List Oper:=[oD 21 (.bin .add 8 (cI 1)),oM 8 21]
def zV.l0:Code:=.seq zV.r3 (.seq (.cond 9 (.skip) (.exit 0)) (.seq (.block 1 (.seq zV.r4 (.seq zV.r5 (.cond 17 zV.r6 (.skip))))) zV.r7))
def zV.r8:List Oper:=[oM 22 3,oM 2 22]
def zV.code:Code:=.seq zV.r0 (.seq zV.r1 (.seq (.seq zV.r2 (.block 0 (.loop zV.l0))) (.seq zV.r8 (.ret))))
def zV:Func:=⟨23,[.t 2],zV.code⟩
/-! (muntin/face.Dart).is -/
def Zcr.r0:List Oper:=[oD 2 (.box 0),oM 4 (.c (.b false))]
def Zcr.r1:List Oper:=[oD 5 (.fa 0 2),oD 6 (.ld false 1 5),oD 7 (.bin .geq 6 (cI 0)),oM 8 7,oT 9 8 (.fa 0 2),oT 10 8 (.ld false 1 9),oT 11 8 (.mv 1),oT 12 8 (.len 11),oT 13 8 (.bin .lss 10 12),oD 14 (.pick 8 13 (.c (.b false))),oM 15 14,oT 16 15 (.fa 1 2),oT 17 15 (.ld false 1 16),oT 18 15 (.call (.c (.f 90 [])) [17]),oD 19 (.pick 15 18 (.c (.b false))),oM 20 19,oT 21 20 (.mv 1),oT 22 20 (.fa 0 2),oT 23 20 (.ld false 1 22),oT 24 20 (.fa 1 2),oT 25 20 (.ld false 1 24),oT 26 20 (.ixa 8 21 23),oT 27 20 (.fa 0 26),oT 28 20 (.ixaa 1 4 27 25),oT 29 20 (.ld false 1 28),oT 30 20 (.bin .geq 29 (cI 0)),oD 31 (.pick 20 30 (.c (.b false))),oM 4 31]
def Zcr.code:Code:=.seq Zcr.r0 (.seq (.draw Zcr.r1 [(18,20)]) (.ret))
def Zcr:Func:=⟨32,[.t 4],Zcr.code⟩
/-! (muntin/face.Dart).behind -/
def zo.r0:List Oper:=[oD 2 (.box 0),oD 4 (.alloc [.n 0,.n 0])]
def zo.r1:List Oper:=[oM 9 1,oD 10 (.fa 0 2),oD 11 (.ld false 1 10),oD 12 (.fa 1 2),oD 13 (.ld false 1 12),oD 14 (.ixa 8 9 11),oD 15 (.fa 0 14),oD 16 (.ixaa 1 4 15 13),oD 17 (.ld false 1 16),oM 5 17]
def zo.r2:List Oper:=[oD 18 (.build [.n 0,.n 0,.n 0,.n 0] [(0,1,.c (.n 1)),(1,1,.c (.n 0)),(2,1,.c (.n (-1))),(3,1,.c (.n 2))]),oM 19 (cI 0)]
def zo.r3:List Oper:=[oD 20 (.bin .lss 19 (cI 4))]
def zo.r4:List Oper:=[oD 21 (.ix false 1 4 18 19),oM 7 21]
def zo.r5:List Oper:=[oM 22 5,oD 23 (.fa 1 2),oD 24 (.ld false 1 23),oM 25 7,oC 26 77 [24,25],oD 27 (.build [.n 0,.n 0] [(0,1,.t 22),(1,1,.t 26)]),oD 8 (.alloc [.n 0,.n 0]),oN (.st 2 8 27)]
def zo.r6:List Oper:=[oD 28 (.ld true 2 8),oM 29 1,oC 30 220 [28,29]]
def zo.r7:List Oper:=[oD 31 (.ld true 2 8),oN (.st 2 4 31)]
def zo.r8:List Oper:=[oD 32 (.bin .add 19 (cI 1)),oM 19 32]
def zo.l0:Code:=.seq zo.r3 (.seq (.cond 20 (.skip) (.exit 0)) (.seq (.block 1 (.seq zo.r4 (.seq zo.r5 (.seq zo.r6 (.cond 30 (.seq zo.r7 (.ret)) (.skip)))))) zo.r8))
def zo.r9:List Oper:=[oD 33 (.ld true 2 2),oN (.st 2 4 33)]
def zo.code:Code:=.seq zo.r0 (.seq (.draw zo.r1 [(2,4)]) (.seq (.seq zo.r2 (.block 0 (.loop zo.l0))) (.seq zo.r9 (.ret))))
def zo:Func:=⟨34,[.cell 4 true 2],zo.code⟩
/-! muntin/compass.Turn -/
def Zbx.r0:List Oper:=[oM 4 (cI 0)]
def Zbx.r1:List Oper:=[oM 5 0,oC 6 90 [5],oD 7 (.un .not 6),oM 8 7,oF 9 8 (.mv 1),oF 10 8 (.call (.c (.f 90 [])) [9]),oF 11 8 (.un .not 10),oD 12 (.pick 8 (.c (.b true)) 11)]
def Zbx.r2:List Oper:=[oM 4 (cI 0)]
def Zbx.r3:List Oper:=[oD 13 (.build [.n 0,.n 0,.n 0,.n 0] [(0,1,.c (.n 0)),(1,1,.c (.n 1)),(2,1,.c (.n (-2))),(3,1,.c (.n (-1)))]),oM 14 1,oM 15 0,oD 16 (.bin .sub 14 15),oD 17 (.bin .add 16 (cI 4)),oD 18 (.bin .rem 17 (cI 4)),oD 19 (.ix false 1 4 13 18),oM 4 19]
def Zbx.code:Code:=.seq Zbx.r0 (.seq (.seq Zbx.r1 (.cond 12 (.seq Zbx.r2 (.ret)) (.skip))) (.seq Zbx.r3 (.ret)))
def Zbx:Func:=⟨20,[.t 4],Zbx.code⟩
/-! muntin/muntinref01.Good -/
def Zb6.r0:List Oper:=[oM 2 (.c (.b false))]
def Zb6.r1:List Oper:=[oM 3 0,oD 4 (.bin .geq 3 (cI 0)),oM 5 4,oT 6 5 (.mv 0),oT 7 5 (.bin .leq 6 (cI 3)),oD 8 (.pick 5 7 (.c (.b false))),oM 2 8]
def Zb6.code:Code:=.seq Zb6.r0 (.seq Zb6.r1 (.ret))
def Zb6:Func:=⟨9,[.t 2],Zb6.code⟩
/-! muntin/muntinref01.Left -/
def zM.r0:List Oper:=[oM 4 (cI 0)]
def zM.r1:List Oper:=[oM 7 0,oC 8 223 [7],oM 5 8]
def zM.r2:List Oper:=[oM 9 5,oD 10 (.un .not 9)]
def zM.r3:List Oper:=[oM 4 (cI 0)]
def zM.r4:List Oper:=[oM 11 1,oD 12 (.bin .rem 11 (cI 4)),oM 6 12]
def zM.r5:List Oper:=[oM 13 6,oD 14 (.bin .lss 13 (cI 0))]
def zM.r6:List Oper:=[oM 15 6,oD 16 (.bin .add 15 (cI 4)),oM 6 16]
def zM.r7:List Oper:=[oM 17 0,oM 18 6,oD 19 (.bin .add 17 18),oD 20 (.bin .rem 19 (cI 4)),oM 4 20]
def zM.code:Code:=.seq zM.r0 (.seq zM.r1 (.seq (.seq zM.r2 (.cond 10 (.seq zM.r3 (.ret)) (.skip))) (.seq zM.r4 (.seq (.seq zM.r5 (.cond 14 zM.r6 (.skip))) (.seq zM.r7 (.ret))))))
def zM:Func:=⟨21,[.t 4],zM.code⟩
/-! muntin/regular.pair -/
def zL.r0:List Oper:=[oM 2 (cI 0),oM 3 (cI 0),oM 4 (cI 0),oM 5 (.c (.b false))]
def zL.r1:List Oper:=[oM 16 0,oC 17 203 [16],oM 15 17,oD 18 (.ext 15 0),oD 19 (.ext 15 1),oM 6 18,oM 7 19]
def zL.r2:List Oper:=[oM 20 6,oD 21 (.len 20),oM 22 (cI 0)]
def zL.r3:List Oper:=[oD 23 (.bin .lss 22 21)]
def zL.r4:List Oper:=[oD 24 (.ixa 1 20 22),oD 25 (.ld false 1 24),oM 9 25]
def zL.r5:List Oper:=[oM 27 0,oM 28 9,oC 29 204 [27,28],oC 30 24 [29],oM 26 30,oD 31 (.ext 26 0),oD 32 (.ext 26 1),oD 33 (.ext 26 2),oD 10 (.alloc [.n 0,.n 0]),oD 11 (.alloc [.n 0,.n 0]),oN (.st 2 10 31),oN (.st 2 11 32),oM 12 33]
def zL.r6:List Oper:=[oM 34 12,oD 35 (.un .not 34)]
def zL.r7:List Oper:=[oM 36 9,oD 37 (.fa 0 10),oD 38 (.ld false 1 37),oD 39 (.ixa 2 36 38),oD 40 (.ld true 2 39),oM 41 9,oD 42 (.fa 0 11),oD 43 (.ld false 1 42),oD 44 (.ixa 2 41 43),oD 45 (.ld true 2 44),oD 13 (.alloc [.n 0,.n 0]),oD 14 (.alloc [.n 0,.n 0]),oN (.st 2 13 40),oN (.st 2 14 45)]
def zL.r8:List Oper:=[oM 46 0,oD 47 (.fa 0 13),oD 48 (.ld false 1 47),oD 49 (.fa 1 13),oD 50 (.ld false 1 49),oD 51 (.ixa 8 46 48),oD 52 (.fa 0 51),oD 53 (.ixaa 1 4 52 50),oD 54 (.ld false 1 53),oD 55 (.fa 1 13),oD 56 (.ld false 1 55),oD 57 (.fa 1 10),oD 58 (.ld false 1 57),oD 59 (.un .neg 58),oC 60 77 [56,59],oM 61 0,oD 62 (.fa 0 14),oD 63 (.ld false 1 62),oD 64 (.fa 1 14),oD 65 (.ld false 1 64),oD 66 (.ixa 8 61 63),oD 67 (.fa 0 66),oD 68 (.ixaa 1 4 67 65),oD 69 (.ld false 1 68),oM 2 54,oM 3 60,oM 4 69,oM 5 (.c (.b true))]
def zL.r9:List Oper:=[oD 70 (.bin .add 22 (cI 1)),oM 22 70]
def zL.l0:Code:=.seq zL.r3 (.seq (.cond 23 (.skip) (.exit 0)) (.seq (.block 1 (.seq zL.r4 (.seq zL.r5 (.seq (.seq zL.r6 (.cond 35 (.exit 1) (.skip))) (.seq (.draw zL.r7 [(2,7),(4,7),(2,9),(4,9),(2,10),(4,10),(7,10),(9,10),(2,11),(4,11),(7,11),(9,11),(10,11),(7,12),(9,12)]) (.seq (.draw zL.r8 [(2,4),(2,10),(4,10),(8,10),(2,12),(4,12),(8,12),(10,12),(2,14),(4,14),(8,14),(2,17),(4,17),(8,17),(10,17),(12,17),(14,17),(2,19),(4,19),(8,19),(10,19),(12,19),(14,19),(17,19),(2,23),(4,23),(8,23),(10,23),(12,23),(14,23)]) (.ret))))))) zL.r9))
def zL.r10:List Oper:=[oM 2 (cI 0),oM 3 (cI 0),oM 4 (cI 0),oM 5 (.c (.b false))]
def zL.code:Code:=.seq zL.r0 (.seq zL.r1 (.seq (.seq zL.r2 (.block 0 (.loop zL.l0))) (.seq zL.r10 (.ret))))
def zL:Func:=⟨71,[.t 2,.t 3,.t 4,.t 5],zL.code⟩
/-! muntin/regular.horizontal -/
def Zbr.r0:List Oper:=[oM 2 (.c (.b false))]
def Zbr.r1:List Oper:=[oM 3 0,oD 4 (.eq false .sc 3 (cI 0)),oM 5 4,oF 6 5 (.mv 0),oF 7 5 (.eq false .sc 6 (cI 2)),oD 8 (.pick 5 (.c (.b true)) 7),oM 2 8]
def Zbr.code:Code:=.seq Zbr.r0 (.seq Zbr.r1 (.ret))
def Zbr:Func:=⟨9,[.t 2],Zbr.code⟩
/-! muntin/muntinlaw22.RegularDraws -/
def Zu.r0:List Oper:=[oD 2 (.box 0),oM 4 (.c (.b false))]
def Zu.r1:List Oper:=[oD 18 (.ld true 3 2),oC 19 28 [18,.c (.n 9)],oM 17 19,oD 20 (.ext 17 0),oD 21 (.ext 17 1),oM 5 20,oM 6 21]
def Zu.r2:List Oper:=[oM 23 5,oM 24 1,oC 25 212 [23,24],oM 22 25,oD 26 (.ext 22 0),oD 27 (.ext 22 1),oD 28 (.ext 22 2),oM 7 26,oM 8 27,oM 9 28]
def Zu.r3:List Oper:=[oC 29 190 [],oD 30 (.un .not 29),oM 31 30,oF 32 31 (.mv 9),oF 33 31 (.eq true .sc 32 (cI 0)),oD 34 (.pick 31 (.c (.b true)) 33)]
def Zu.r4:List Oper:=[oC 35 190 [],oM 4 35]
def Zu.r5:List Oper:=[oM 37 7,oC 38 260 [37],oM 36 38,oD 39 (.ext 36 0),oD 40 (.ext 36 1),oM 10 39,oM 11 40]
def Zu.r6:List Oper:=[oM 41 11,oD 42 (.eq true .sc 41 (cI 0))]
def Zu.r7:List Oper:=[oM 4 (.c (.b false))]
def Zu.r8:List Oper:=[oM 44 10,oC 45 121 [44],oM 43 45,oD 46 (.ext 43 0),oD 47 (.ext 43 1),oD 12 (.alloc [.sn,.sn,.sn,.sn]),oN (.st 4 12 46),oM 13 47]
def Zu.r9:List Oper:=[oM 48 13,oD 49 (.un .not 48)]
def Zu.r10:List Oper:=[oM 4 (.c (.b false))]
def Zu.r11:List Oper:=[oD 50 (.fa 2 12),oD 51 (.ld false 1 50),oD 52 (.len 51),oM 53 10,oD 54 (.fa 0 12),oD 55 (.ld false 1 54),oC 56 167 [53,.c (.n 0),55],oC 57 112 [52,56],oD 58 (.fa 3 12),oD 59 (.ld false 1 58),oD 60 (.len 59),oM 61 10,oD 62 (.fa 1 12),oD 63 (.ld false 1 62),oC 64 167 [61,.c (.n 1),63],oC 65 112 [60,64],oM 14 57,oM 15 65]
def Zu.r12:List Oper:=[oD 66 (.ld true 4 12),oM 67 14,oM 68 15,oC 69 169 [66,67,68],oM 70 5,oD 71 (.len 70),oD 72 (.slc 2 69 none (some 71) none),oM 16 72]
def Zu.r13:List Oper:=[oM 73 7,oM 74 16,oC 75 261 [73,74],oM 76 75,oT 77 76 (.mv 5),oT 78 76 (.mv 16),oT 79 76 (.call (.c (.f 261 [])) [77,78]),oD 80 (.pick 76 79 (.c (.b false))),oM 4 80]
def Zu.code:Code:=.seq Zu.r0 (.seq Zu.r1 (.seq Zu.r2 (.seq (.seq Zu.r3 (.cond 34 (.seq Zu.r4 (.ret)) (.skip))) (.seq Zu.r5 (.seq (.seq Zu.r6 (.cond 42 (.seq Zu.r7 (.ret)) (.skip))) (.seq Zu.r8 (.seq (.seq Zu.r9 (.cond 49 (.seq Zu.r10 (.ret)) (.skip))) (.seq (.draw Zu.r11 [(1,5),(1,6),(1,9),(5,9),(6,9),(7,9),(1,13),(5,13),(6,13),(7,13),(9,13),(9,14)]) (.seq Zu.r12 (.seq Zu.r13 (.ret)))))))))))
def Zu:Func:=⟨81,[.t 4],Zu.code⟩
/-! muntin/muntinref21.Refine -/
def Zo.r0:List Oper:=[oM 2 (.c (.sn)),oM 3 (cI 0)]
def Zo.r1:List Oper:=[oM 15 0,oD 16 (.len 15),oD 17 (.eq false .sc 16 (cI 1))]
def Zo.r2:List Oper:=[oM 19 0,oC 20 181 [19],oM 18 20,oD 21 (.ext 18 0),oD 22 (.ext 18 1),oM 4 21,oM 5 22]
def Zo.r3:List Oper:=[oM 23 5,oD 24 (.eq false .sc 23 (cI 0))]
def Zo.r4:List Oper:=[oM 25 0,oM 2 25,oM 3 (cI 0)]
def Zo.r5:List Oper:=[oM 27 0,oC 28 273 [27],oM 26 28,oD 29 (.ext 26 0),oD 30 (.ext 26 1),oM 0 29,oM 6 30]
def Zo.r6:List Oper:=[oM 31 6,oD 32 (.eq true .sc 31 (cI 0))]
def Zo.r7:List Oper:=[oM 33 6,oM 2 (.c (.sn)),oM 3 33]
def Zo.r8:List Oper:=[oM 7 (cI 0)]
def Zo.r9:List Oper:=[oM 34 7,oD 35 (.bin .lss 34 (cI 100000))]
def Zo.r11:List Oper:=[oM 39 0,oC 40 179 [39],oM 38 40,oD 41 (.ext 38 0),oD 42 (.ext 38 1),oM 8 41,oM 9 42]
def Zo.r12:List Oper:=[oM 43 8,oD 44 (.bin .lss 43 (cI 0))]
def Zo.r13:List Oper:=[oM 45 0,oM 2 45,oM 3 (cI 0)]
def Zo.r14:List Oper:=[oM 46 0,oC 47 177 [46],oM 48 8,oD 49 (.ixa 1 47 48),oD 50 (.ld false 1 49),oM 10 50]
def Zo.r15:List Oper:=[oM 51 0,oM 52 10,oC 53 182 [51,52],oM 11 53]
def Zo.r16:List Oper:=[oM 54 11,oM 55 9,oC 56 14 [54,55],oM 12 56]
def Zo.r17:List Oper:=[oM 57 0,oM 58 10,oM 59 9,oD 60 (.ixa 2 58 59),oD 61 (.fa 0 60),oD 62 (.ld false 1 61),oM 63 10,oM 64 9,oD 65 (.ixa 2 63 64),oD 66 (.fa 1 65),oD 67 (.ld false 1 66),oD 68 (.ixa 8 57 62),oD 69 (.fa 0 68),oD 70 (.ixaa 1 4 69 67),oD 71 (.ld false 1 70),oM 13 71]
def Zo.r18:List Oper:=[oM 14 (cI 0)]
def Zo.r19:List Oper:=[oM 73 0,oM 74 10,oM 75 12,oD 76 (.ixa 2 74 75),oD 77 (.fa 0 76),oD 78 (.ld false 1 77),oM 79 10,oM 80 12,oD 81 (.ixa 2 79 80),oD 82 (.fa 1 81),oD 83 (.ld false 1 82),oC 84 49 [73,78,83],oM 72 84,oD 85 (.ext 72 0),oD 86 (.ext 72 1),oD 87 (.ext 72 2),oM 0 85,oM 14 86,oM 6 87]
def Zo.r20:List Oper:=[oM 88 6,oD 89 (.eq true .sc 88 (cI 0))]
def Zo.r21:List Oper:=[oM 90 6,oM 2 (.c (.sn)),oM 3 90]
def Zo.r22:List Oper:=[oM 92 0,oM 93 13,oM 94 10,oM 95 9,oD 96 (.ixa 2 94 95),oD 97 (.fa 1 96),oD 98 (.ld false 1 97),oM 99 14,oC 100 53 [92,93,98,99,.c (.n (-2))],oM 91 100,oD 101 (.ext 91 0),oD 102 (.ext 91 1),oM 0 101]
def Zo.r10:List Oper:=[oM 36 7,oD 37 (.bin .add 36 (cI 1)),oM 7 37]
def Zo.l0:Code:=.seq (.seq Zo.r9 (.cond 35 (.skip) (.exit 0))) (.seq (.block 1 (.seq Zo.r11 (.seq (.seq Zo.r12 (.cond 44 (.seq Zo.r13 (.ret)) (.skip))) (.seq Zo.r14 (.seq Zo.r15 (.seq Zo.r16 (.seq (.draw Zo.r17 [(5,10)]) (.seq Zo.r18 (.seq (.draw Zo.r19 [(5,10)]) (.seq (.seq Zo.r20 (.cond 89 (.seq Zo.r21 (.ret)) (.skip))) Zo.r22)))))))))) Zo.r10)
def Zo.r23:List Oper:=[oM 2 (.c (.sn)),oM 3 (cI 6)]
def Zo.code:Code:=.seq Zo.r0 (.seq (.seq Zo.r1 (.cond 17 (.seq Zo.r2 (.seq Zo.r3 (.cond 24 (.seq Zo.r4 (.ret)) (.skip)))) (.skip))) (.seq Zo.r5 (.seq (.seq Zo.r6 (.cond 32 (.seq Zo.r7 (.ret)) (.skip))) (.seq (.seq Zo.r8 (.block 0 (.loop Zo.l0))) (.seq Zo.r23 (.ret))))))
def Zo:Func:=⟨103,[.t 2,.t 3],Zo.code⟩
/-! muntin/muntinref19.Real -/
def Zt.r0:List Oper:=[oM 4 (.c (.b false))]
def Zt.r1:List Oper:=[oM 17 1,oD 18 (.len 17),oM 19 0,oD 20 (.len 19),oD 21 (.eq true .sc 18 20)]
def Zt.r2:List Oper:=[oM 4 (.c (.b false))]
def Zt.r3:List Oper:=[oM 22 0,oM 23 1,oC 24 193 [22,23],oM 5 24]
def Zt.r4:List Oper:=[oM 25 5,oD 26 (.un .not 25)]
def Zt.r5:List Oper:=[oM 4 (.c (.b false))]
def Zt.r6:List Oper:=[oM 28 0,oC 29 121 [28],oM 27 29,oD 30 (.ext 27 0),oD 31 (.ext 27 1),oD 6 (.alloc [.sn,.sn,.sn,.sn]),oN (.st 4 6 30),oM 7 31]
def Zt.r7:List Oper:=[oD 32 (.ld true 4 6),oC 33 188 [32],oM 8 33]
def Zt.r8:List Oper:=[oM 9 (cI 0)]
def Zt.r9:List Oper:=[oM 34 9,oM 35 8,oD 36 (.len 35),oD 37 (.bin .lss 34 36)]
def Zt.r11:List Oper:=[oM 40 9,oD 41 (.bin .add 40 (cI 1)),oM 10 41]
def Zt.r12:List Oper:=[oM 42 10,oM 43 8,oD 44 (.len 43),oD 45 (.bin .lss 42 44)]
def Zt.r14:List Oper:=[oD 48 (.ld true 4 6),oM 49 8,oM 50 9,oD 51 (.ixa 2 49 50),oD 52 (.fa 0 51),oD 53 (.ld false 1 52),oM 54 8,oM 55 9,oD 56 (.ixa 2 54 55),oD 57 (.fa 1 56),oD 58 (.ld false 1 57),oM 59 8,oM 60 10,oD 61 (.ixa 2 59 60),oD 62 (.fa 0 61),oD 63 (.ld false 1 62),oM 64 8,oM 65 10,oD 66 (.ixa 2 64 65),oD 67 (.fa 1 66),oD 68 (.ld false 1 67),oC 69 124 [48,53,58,63,68],oM 11 69]
def Zt.r15:List Oper:=[oD 71 (.ld true 4 6),oM 72 8,oM 73 9,oD 74 (.ixa 2 72 73),oD 75 (.ld true 2 74),oM 76 1,oC 77 274 [71,75,76],oM 70 77,oD 78 (.ext 70 0),oD 79 (.ext 70 1),oD 12 (.alloc [.n 0,.n 0]),oD 13 (.alloc [.n 0,.n 0]),oN (.st 2 12 78),oN (.st 2 13 79)]
def Zt.r16:List Oper:=[oD 81 (.ld true 4 6),oM 82 8,oM 83 10,oD 84 (.ixa 2 82 83),oD 85 (.ld true 2 84),oM 86 1,oC 87 274 [81,85,86],oM 80 87,oD 88 (.ext 80 0),oD 89 (.ext 80 1),oD 14 (.alloc [.n 0,.n 0]),oD 15 (.alloc [.n 0,.n 0]),oN (.st 2 14 88),oN (.st 2 15 89)]
def Zt.r17:List Oper:=[oD 90 (.fa 0 13),oD 91 (.ld false 1 90),oD 92 (.fa 0 14),oD 93 (.ld false 1 92),oD 94 (.bin .lss 91 93),oM 95 94,oF 96 95 (.fa 0 15),oF 97 95 (.ld false 1 96),oF 98 95 (.fa 0 12),oF 99 95 (.ld false 1 98),oF 100 95 (.bin .lss 97 99),oD 101 (.pick 95 (.c (.b true)) 100),oM 102 101,oF 103 102 (.fa 1 13),oF 104 102 (.ld false 1 103),oF 105 102 (.fa 1 14),oF 106 102 (.ld false 1 105),oF 107 102 (.bin .lss 104 106),oD 108 (.pick 102 (.c (.b true)) 107),oM 109 108,oF 110 109 (.fa 1 15),oF 111 109 (.ld false 1 110),oF 112 109 (.fa 1 12),oF 113 109 (.ld false 1 112),oF 114 109 (.bin .lss 111 113),oD 115 (.pick 109 (.c (.b true)) 114),oM 16 115]
def Zt.r18:List Oper:=[oM 116 11,oD 117 (.un .not 116),oM 118 117,oT 119 118 (.mv 16),oT 120 118 (.un .not 119),oD 121 (.pick 118 120 (.c (.b false)))]
def Zt.r19:List Oper:=[oM 4 (.c (.b false))]
def Zt.r13:List Oper:=[oM 46 10,oD 47 (.bin .add 46 (cI 1)),oM 10 47]
def Zt.l0:Code:=.seq (.seq Zt.r12 (.cond 45 (.skip) (.exit 2))) (.seq (.block 3 (.seq (.draw Zt.r14 [(0,5),(0,10),(5,10),(0,15),(5,15),(10,15),(0,20),(5,20),(10,20),(15,20)]) (.seq (.draw Zt.r15 [(0,4),(0,10),(4,10),(6,10),(0,11),(4,11),(6,11),(10,11)]) (.seq (.draw Zt.r16 [(0,4),(0,10),(4,10),(6,10),(0,11),(4,11),(6,11),(10,11)]) (.seq Zt.r17 (.seq Zt.r18 (.cond 121 (.seq Zt.r19 (.ret)) (.skip)))))))) Zt.r13)
def Zt.r10:List Oper:=[oM 38 9,oD 39 (.bin .add 38 (cI 1)),oM 9 39]
def Zt.l1:Code:=.seq (.seq Zt.r9 (.cond 37 (.skip) (.exit 0))) (.seq (.block 1 (.seq Zt.r11 (.block 2 (.loop Zt.l0)))) Zt.r10)
def Zt.r20:List Oper:=[oM 4 (.c (.b true))]
def Zt.code:Code:=.seq Zt.r0 (.seq (.seq Zt.r1 (.cond 21 (.seq Zt.r2 (.ret)) (.skip))) (.seq Zt.r3 (.seq (.seq Zt.r4 (.cond 26 (.seq Zt.r5 (.ret)) (.skip))) (.seq Zt.r6 (.seq Zt.r7 (.seq (.seq Zt.r8 (.block 0 (.loop Zt.l1))) (.seq Zt.r20 (.ret))))))))
def Zt:Func:=⟨122,[.t 4],Zt.code⟩
/-! muntin/muntinref21.Frame -/
def Zj.r0:List Oper:=[oM 2 (.c (.sn)),oM 3 (cI 0)]
def Zj.r1:List Oper:=[oM 22 0,oC 23 181 [22],oM 21 23,oD 24 (.ext 21 0),oD 25 (.ext 21 1),oM 4 24,oM 5 25]
def Zj.r2:List Oper:=[oM 26 5,oD 27 (.eq true .sc 26 (cI 0))]
def Zj.r3:List Oper:=[oM 28 5,oM 2 (.c (.sn)),oM 3 28]
def Zj.r4:List Oper:=[oM 29 4,oD 30 (.bin .lss 29 (cI 0))]
def Zj.r5:List Oper:=[oM 2 (.c (.sn)),oM 3 (cI 2)]
def Zj.r6:List Oper:=[oM 31 0,oD 32 (.len 31),oD 33 (.bin .add 32 (cI 5)),oD 34 (.bin .gtr 33 (cI 4096))]
def Zj.r7:List Oper:=[oM 2 (.c (.sn)),oM 3 (cI 6)]
def Zj.r8:List Oper:=[oM 35 0,oC 36 177 [35],oM 37 4,oD 38 (.ixa 1 36 37),oD 39 (.ld false 1 38),oM 6 39]
def Zj.r9:List Oper:=[oM 40 0,oM 41 6,oC 42 182 [40,41],oM 7 42]
def Zj.r10:List Oper:=[oM 43 7,oC 44 16 [43],oM 8 44]
def Zj.r11:List Oper:=[oM 45 0,oM 46 6,oM 47 8,oD 48 (.ixa 2 46 47),oD 49 (.fa 0 48),oD 50 (.ld false 1 49),oM 51 6,oM 52 8,oD 53 (.ixa 2 51 52),oD 54 (.fa 1 53),oD 55 (.ld false 1 54),oD 56 (.ixa 8 45 50),oD 57 (.fa 0 56),oD 58 (.ixaa 1 4 57 55),oD 59 (.ld false 1 58),oM 9 59]
def Zj.r12:List Oper:=[oM 60 6,oM 61 8,oD 62 (.ixa 2 60 61),oD 63 (.fa 1 62),oD 64 (.ld false 1 63),oM 10 64]
def Zj.r13:List Oper:=[oM 65 0,oD 66 (.len 65),oM 11 66]
def Zj.r14:List Oper:=[oC 67 46 [.c (.n 5)],oM 12 67]
def Zj.r15:List Oper:=[oC 68 46 [.c (.n 0)],oM 69 0,oD 70 (.app 8 64 68 69),oM 13 70]
def Zj.r16:List Oper:=[oM 71 13,oM 72 12,oD 73 (.app 8 64 71 72),oM 13 73]
def Zj.r17:List Oper:=[oM 74 11,oD 75 (.bin .add 74 (cI 1)),oM 76 11,oD 77 (.bin .add 76 (cI 3)),oM 78 11,oM 79 11,oD 80 (.bsl 1 4 [.n 0] [(0,1,.t 75),(1,1,.t 77),(2,1,.t 78),(3,1,.t 79)]),oM 81 10,oD 82 (.ixa 1 80 81),oD 83 (.ld false 1 82),oM 14 83]
def Zj.r18:List Oper:=[oM 84 11,oD 85 (.bin .add 84 (cI 2)),oM 86 11,oD 87 (.bin .add 86 (cI 2)),oM 88 11,oD 89 (.bin .add 88 (cI 3)),oM 90 11,oD 91 (.bin .add 90 (cI 1)),oD 92 (.bsl 1 4 [.n 0] [(0,1,.t 85),(1,1,.t 87),(2,1,.t 89),(3,1,.t 91)]),oM 93 10,oD 94 (.ixa 1 92 93),oD 95 (.ld false 1 94),oM 15 95]
def Zj.r19:List Oper:=[oD 96 (.bsl 1 4 [.n 0] [(0,1,.c (.n 1)),(1,1,.c (.n 0)),(2,1,.c (.n 1)),(3,1,.c (.n 0))]),oM 97 10,oD 98 (.ixa 1 96 97),oD 99 (.ld false 1 98),oM 16 99]
def Zj.r20:List Oper:=[oM 17 (cI 0)]
def Zj.r21:List Oper:=[oM 100 17,oD 101 (.bin .lss 100 (cI 4))]
def Zj.r23:List Oper:=[oM 104 11,oD 105 (.bin .add 104 (cI 1)),oM 106 11,oD 107 (.bin .add 106 (cI 3)),oM 108 11,oM 109 11,oD 110 (.bsl 1 4 [.n 0] [(0,1,.t 105),(1,1,.t 107),(2,1,.t 108),(3,1,.t 109)]),oM 111 17,oD 112 (.ixa 1 110 111),oD 113 (.ld false 1 112),oM 18 113]
def Zj.r24:List Oper:=[oM 114 11,oD 115 (.bin .add 114 (cI 2)),oM 116 11,oD 117 (.bin .add 116 (cI 2)),oM 118 11,oD 119 (.bin .add 118 (cI 3)),oM 120 11,oD 121 (.bin .add 120 (cI 1)),oD 122 (.bsl 1 4 [.n 0] [(0,1,.t 115),(1,1,.t 117),(2,1,.t 119),(3,1,.t 121)]),oM 123 17,oD 124 (.ixa 1 122 123),oD 125 (.ld false 1 124),oM 19 125]
def Zj.r25:List Oper:=[oD 126 (.bsl 1 4 [.n 0] [(0,1,.c (.n 1)),(1,1,.c (.n 0)),(2,1,.c (.n 1)),(3,1,.c (.n 0))]),oM 127 17,oD 128 (.ixa 1 126 127),oD 129 (.ld false 1 128),oM 20 129]
def Zj.r26:List Oper:=[oM 130 17,oM 131 10,oD 132 (.eq true .sc 130 131)]
def Zj.r27:List Oper:=[oM 134 13,oM 135 18,oM 136 20,oM 137 19,oC 138 53 [134,135,136,137,.c (.n (-2))],oM 133 138,oD 139 (.ext 133 0),oD 140 (.ext 133 1),oM 13 139]
def Zj.r22:List Oper:=[oM 102 17,oD 103 (.bin .add 102 (cI 1)),oM 17 103]
def Zj.l0:Code:=.seq (.seq Zj.r21 (.cond 101 (.skip) (.exit 0))) (.seq (.block 1 (.seq Zj.r23 (.seq Zj.r24 (.seq Zj.r25 (.seq Zj.r26 (.cond 132 Zj.r27 (.skip))))))) Zj.r22)
def Zj.r28:List Oper:=[oM 142 13,oM 143 14,oM 144 16,oM 145 11,oD 146 (.bin .add 145 (cI 4)),oC 147 53 [142,143,144,146,.c (.n (-2))],oM 141 147,oD 148 (.ext 141 0),oD 149 (.ext 141 1),oM 13 148]
def Zj.r29:List Oper:=[oM 151 13,oM 152 11,oD 153 (.bin .add 152 (cI 4)),oM 154 16,oM 155 15,oC 156 53 [151,153,154,155,.c (.n (-2))],oM 150 156,oD 157 (.ext 150 0),oD 158 (.ext 150 1),oM 13 157]
def Zj.r30:List Oper:=[oM 160 13,oM 161 9,oM 162 10,oM 163 11,oD 164 (.bin .add 163 (cI 4)),oC 165 53 [160,161,162,164,.c (.n (-2))],oM 159 165,oD 166 (.ext 159 0),oD 167 (.ext 159 1),oM 13 166]
def Zj.r31:List Oper:=[oM 168 13,oM 2 168,oM 3 (cI 0)]
def Zj.code:Code:=.seq Zj.r0 (.seq Zj.r1 (.seq (.seq Zj.r2 (.cond 27 (.seq Zj.r3 (.ret)) (.skip))) (.seq (.seq Zj.r4 (.cond 30 (.seq Zj.r5 (.ret)) (.skip))) (.seq (.seq Zj.r6 (.cond 34 (.seq Zj.r7 (.ret)) (.skip))) (.seq Zj.r8 (.seq Zj.r9 (.seq Zj.r10 (.seq (.draw Zj.r11 [(5,10)]) (.seq Zj.r12 (.seq Zj.r13 (.seq Zj.r14 (.seq Zj.r15 (.seq Zj.r16 (.seq Zj.r17 (.seq Zj.r18 (.seq Zj.r19 (.seq (.seq Zj.r20 (.block 0 (.loop Zj.l0))) (.seq Zj.r28 (.seq Zj.r29 (.seq Zj.r30 (.seq Zj.r31 (.ret))))))))))))))))))))))
def Zj:Func:=⟨169,[.t 2,.t 3],Zj.code⟩
/-! muntin/muntinref19.ends -/
def Zar.r0:List Oper:=[oD 3 (.box 0),oD 4 (.box 1),oD 6 (.alloc [.n 0,.n 0]),oD 7 (.alloc [.n 0,.n 0])]
def Zar.r1:List Oper:=[oD 10 (.fa 3 3),oD 11 (.ld false 1 10),oM 8 11]
def Zar.r2:List Oper:=[oD 12 (.fa 0 4),oD 13 (.ld false 1 12)]
def Zar.r3:List Oper:=[oD 14 (.fa 2 3),oD 15 (.ld false 1 14),oM 8 15]
def Zar.r4:List Oper:=[oM 16 8,oD 17 (.fa 1 4),oD 18 (.ld false 1 17),oD 19 (.ixa 1 16 18),oD 20 (.ld false 1 19),oM 9 20]
def Zar.r5:List Oper:=[oM 21 2,oM 22 9,oD 23 (.ixa 1 22 (cI 0)),oD 24 (.ld false 1 23),oD 25 (.ixa 2 21 24),oD 26 (.ld true 2 25),oM 27 2,oM 28 9,oM 29 9,oD 30 (.len 29),oD 31 (.bin .sub 30 (cI 1)),oD 32 (.ixa 1 28 31),oD 33 (.ld false 1 32),oD 34 (.ixa 2 27 33),oD 35 (.ld true 2 34),oN (.st 2 6 26),oN (.st 2 7 35)]
def Zar.code:Code:=.seq Zar.r0 (.seq Zar.r1 (.seq (.seq Zar.r2 (.cond 13 Zar.r3 (.skip))) (.seq Zar.r4 (.seq (.draw Zar.r5 [(3,12),(5,12),(3,14),(5,14),(12,15),(14,15)]) (.ret)))))
def Zar:Func:=⟨36,[.cell 6 true 2,.cell 7 true 2],Zar.code⟩
def G:Prog:=fun i=>match i with
  | 14=>some ZA
  | 16=>some ze
  | 19=>some zi
  | 21=>some zN
  | 24=>some zA
  | 28=>some Zi
  | 29=>some ZP
  | 30=>some Z3
  | 32=>some Zct
  | 34=>some Zv
  | 36=>some Zx
  | 46=>some zn
  | 49=>some ZE
  | 51=>some Zao
  | 52=>some zW
  | 53=>some Zad
  | 55=>some Zbq
  | 56=>some z7
  | 57=>some Zbe
  | 59=>some Zc4
  | 61=>some ZbN
  | 62=>some ZaM
  | 63=>some ZQ
  | 64=>some Z0
  | 65=>some ZL
  | 66=>some z9
  | 67=>some zb
  | 75=>some Zcs
  | 76=>some ZbA
  | 77=>some Zbw
  | 78=>some ZaV
  | 80=>some ZbY
  | 82=>some Za1
  | 83=>some ZY
  | 89=>some Zcf
  | 90=>some Zcq
  | 91=>some zg
  | 97=>some Zcp
  | 98=>some Zak
  | 112=>some ZK
  | 119=>some Zc1
  | 121=>some ZaE
  | 124=>some ZN
  | 138=>some Zn
  | 150=>some zr
  | 167=>some ZO
  | 169=>some zH
  | 176=>some Zau
  | 177=>some Zw
  | 179=>some Z7
  | 181=>some Zq
  | 182=>some zq
  | 188=>some ZF
  | 190=>some Za0
  | 193=>some ZG
  | 201=>some z6
  | 202=>some ZZ
  | 203=>some ZB
  | 204=>some Zal
  | 206=>some zd
  | 207=>some zc
  | 212=>some zf
  | 213=>some zE
  | 214=>some ZT
  | 219=>some zV
  | 220=>some Zcr
  | 221=>some zo
  | 222=>some Zbx
  | 223=>some Zb6
  | 224=>some zM
  | 228=>some zL
  | 229=>some Zbr
  | 249=>some Zu
  | 260=>some Zo
  | 261=>some Zt
  | 273=>some Zj
  | 274=>some Zar
  | _=>none
theorem Zfg:G 14=some ZA:=rfl
theorem ZeN:G 16=some ze:=rfl
theorem Zfx:G 19=some zi:=rfl
theorem ZeJ:G 21=some zN:=rfl
theorem Zgr:G 24=some zA:=rfl
theorem ZeG:G 28=some Zi:=rfl
theorem Zgp:G 29=some ZP:=rfl
theorem Zeq:G 30=some Z3:=rfl
theorem Zgq:G 32=some Zct:=rfl
theorem Zem:G 34=some Zv:=rfl
theorem ZeW:G 36=some Zx:=rfl
theorem ZeV:G 46=some zn:=rfl
theorem Zen:G 49=some ZE:=rfl
theorem Zd6:G 51=some Zao:=rfl
theorem Zfe:G 52=some zW:=rfl
theorem ZeF:G 53=some Zad:=rfl
theorem Zfv:G 55=some Zbq:=rfl
theorem ZeH:G 56=some z7:=rfl
theorem ZeU:G 57=some Zbe:=rfl
theorem Zgf:G 59=some Zc4:=rfl
theorem ZgP:G 61=some ZbN:=rfl
theorem Zgs:G 62=some ZaM:=rfl
theorem ZdR:G 63=some ZQ:=rfl
theorem ZdQ:G 64=some Z0:=rfl
theorem ZeI:G 65=some ZL:=rfl
theorem Zgo:G 66=some z9:=rfl
theorem Zge:G 67=some zb:=rfl
theorem Zf9:G 75=some Zcs:=rfl
theorem Zfw:G 76=some ZbA:=rfl
theorem Zf6:G 77=some Zbw:=rfl
theorem Zds:G 78=some ZaV:=rfl
theorem Zfy:G 80=some ZbY:=rfl
theorem ZgO:G 82=some Za1:=rfl
theorem Zey:G 83=some ZY:=rfl
theorem Zhi:G 89=some Zcf:=rfl
theorem Zf5:G 90=some Zcq:=rfl
theorem ZdB:G 91=some zg:=rfl
theorem Zim:G 97=some Zcp:=rfl
theorem Zgl:G 98=some Zak:=rfl
theorem ZdZ:G 112=some ZK:=rfl
theorem ZhM:G 119=some Zc1:=rfl
theorem Zff:G 121=some ZaE:=rfl
theorem ZeK:G 124=some ZN:=rfl
theorem Zeb:G 138=some Zn:=rfl
theorem Zes:G 150=some zr:=rfl
theorem Zet:G 167=some ZO:=rfl
theorem Zeu:G 169=some zH:=rfl
theorem Zgg:G 176=some Zau:=rfl
theorem Zeo:G 177=some Zw:=rfl
theorem Zew:G 179=some Z7:=rfl
theorem Zer:G 181=some Zq:=rfl
theorem Zep:G 182=some zq:=rfl
theorem Zev:G 188=some ZF:=rfl
theorem Zel:G 190=some Za0:=rfl
theorem ZdA:G 193=some ZG:=rfl
theorem Zgh:G 201=some z6:=rfl
theorem Zea:G 202=some ZZ:=rfl
theorem Zgm:G 203=some ZB:=rfl
theorem Zgn:G 204=some Zal:=rfl
theorem Zd9:G 206=some zd:=rfl
theorem ZeE:G 207=some zc:=rfl
theorem ZfB:G 212=some zf:=rfl
theorem ZeB:G 213=some zE:=rfl
theorem ZfA:G 214=some ZT:=rfl
theorem Zfu:G 219=some zV:=rfl
theorem Zf8:G 220=some Zcr:=rfl
theorem ZeA:G 221=some zo:=rfl
theorem Zf7:G 222=some Zbx:=rfl
theorem ZeC:G 223=some Zb6:=rfl
theorem ZeD:G 224=some zM:=rfl
theorem ZfC:G 228=some zL:=rfl
theorem Zec:G 229=some Zbr:=rfl
theorem Zdn:G 249=some Zu:=rfl
theorem Zdh:G 260=some Zo:=rfl
theorem ZeL:G 261=some Zt:=rfl
theorem Zex:G 273=some Zj:=rfl
theorem ZeM:G 274=some Zar:=rfl
end Mu
