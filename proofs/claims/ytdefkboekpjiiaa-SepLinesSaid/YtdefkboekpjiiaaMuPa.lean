/- The functions of the program, as the evaluator has them: printed by a program; checked against the model's. -/
import Derived.Test.YtdefkboekpjiiaaMuF
namespace Mu
instance (n:Nat):OfNat Opd n:=⟨.t n⟩
instance:Coe (List Oper) Code:=⟨.region⟩
abbrev oD (d:Nat) (op:Op):Oper:=⟨some d,op,none⟩
abbrev oN (op:Op):Oper:=⟨none,op,none⟩
abbrev oT (d g:Nat) (op:Op):Oper:=⟨some d,op,some (g,true)⟩
abbrev oF (d g:Nat) (op:Op):Oper:=⟨some d,op,some (g,false)⟩
abbrev oM (d:Nat) (x:Opd):Oper:=⟨some d,.mv x,none⟩
abbrev oC (d f:Nat) (l:List Opd):Oper:=⟨some d,.call (.c (.f f [])) l,none⟩
abbrev cI (n:Int):Opd:=.c (.i .i64 n)
/-! muntin/muntinref10.Make -/
def Zb.r0:List Oper:=[oD 2 (.box 0),oM 4 (.c (.sn)),oM 5 (.c (.sn))]
def Zb.r1:List Oper:=[oM 6 (.c (.sn))]
def Zb.r2:List Oper:=[oM 7 (cI 0)]
def Zb.r3:List Oper:=[oM 18 7,oD 19 (.fa 0 2),oD 20 (.ld false 1 19),oD 21 (.len 20),oD 22 (.bin .lss 18 21),oM 23 22,oT 24 23 (.mv 6),oT 25 23 (.len 24),oT 26 23 (.mv 1),oT 27 23 (.bin .lss 25 26),oD 28 (.pick 23 27 (.c (.b false)))]
def Zb.r5:List Oper:=[oD 31 (.fa 0 2),oD 32 (.ld false 1 31),oM 33 7,oD 34 (.ixa 1 32 33),oD 35 (.ld false 1 34),oD 36 (.conv .i64 35),oD 37 (.bin .rem 36 (cI 8)),oD 38 (.fa 0 2),oD 39 (.ld false 1 38),oM 40 7,oD 41 (.ixa 1 39 40),oD 42 (.ld false 1 41),oD 43 (.conv .i64 42),oD 44 (.bin .quo 43 (cI 8)),oD 45 (.bin .rem 44 (cI 8)),oD 46 (.build [.n 0,.n 0] [(0,1,.t 37),(1,1,.t 45)]),oD 8 (.alloc [.n 0,.n 0]),oN (.st 2 8 46)]
def Zb.r6:List Oper:=[oM 9 (.c (.b false))]
def Zb.r7:List Oper:=[oM 10 (cI 0)]
def Zb.r8:List Oper:=[oM 47 10,oM 48 6,oD 49 (.len 48),oD 50 (.bin .lss 47 49)]
def Zb.r10:List Oper:=[oM 53 9,oM 54 53,oF 55 54 (.mv 6),oF 56 54 (.mv 10),oF 57 54 (.ixa 2 55 56),oF 58 54 (.ld true 2 57),oF 59 54 (.ld true 2 8),oF 60 54 (.eq false (.fl [.i,.i]) 58 59),oD 61 (.pick 54 (.c (.b true)) 60),oM 9 61]
def Zb.r9:List Oper:=[oM 51 10,oD 52 (.bin .add 51 (cI 1)),oM 10 52]
def Zb.l0:Code:=.seq (.seq Zb.r8 (.cond 50 (.skip) (.exit 2))) (.seq (.block 3 (.draw Zb.r10 [(5,6)])) Zb.r9)
def Zb.r11:List Oper:=[oM 62 9,oD 63 (.un .not 62)]
def Zb.r12:List Oper:=[oM 64 6,oD 65 (.ld true 2 8),oD 66 (.bsl 2 1 [.n 0,.n 0] [(0,2,.t 65)]),oD 67 (.app 2 16 64 66),oM 6 67]
def Zb.r4:List Oper:=[oM 29 7,oD 30 (.bin .add 29 (cI 1)),oM 7 30]
def Zb.l1:Code:=.seq (.seq Zb.r3 (.cond 28 (.skip) (.exit 0))) (.seq (.block 1 (.seq (.draw Zb.r5 [(1,8),(4,8),(1,11),(4,11),(1,16),(4,16),(8,16),(11,16)]) (.seq Zb.r6 (.seq (.seq Zb.r7 (.block 2 (.loop Zb.l0))) (.seq Zb.r11 (.cond 63 Zb.r12 (.skip))))))) Zb.r4)
def Zb.r13:List Oper:=[oM 68 6,oD 69 (.len 68),oC 70 46 [69],oM 11 70]
def Zb.r14:List Oper:=[oM 12 (cI 0)]
def Zb.r15:List Oper:=[oM 71 12,oM 72 6,oD 73 (.len 72),oD 74 (.bin .lss 71 73)]
def Zb.r17:List Oper:=[oM 13 (.c (.i .u8 3))]
def Zb.r18:List Oper:=[oM 77 12,oD 78 (.fa 1 2),oD 79 (.ld false 1 78),oD 80 (.len 79),oD 81 (.bin .lss 77 80)]
def Zb.r19:List Oper:=[oD 82 (.fa 1 2),oD 83 (.ld false 1 82),oM 84 12,oD 85 (.ixa 1 83 84),oD 86 (.ld false 1 85),oM 13 86]
def Zb.r20:List Oper:=[oM 87 12,oM 14 87]
def Zb.r21:List Oper:=[oM 88 12,oD 89 (.fa 2 2),oD 90 (.ld false 1 89),oD 91 (.len 90),oD 92 (.bin .lss 88 91)]
def Zb.r22:List Oper:=[oD 93 (.fa 2 2),oD 94 (.ld false 1 93),oM 95 12,oD 96 (.ixa 1 94 95),oD 97 (.ld false 1 96),oD 98 (.conv .i64 97),oM 14 98]
def Zb.r23:List Oper:=[oM 99 14,oD 100 (.bin .lss 99 (cI (-2)))]
def Zb.r24:List Oper:=[oM 101 14,oD 102 (.un .neg 101),oM 14 102]
def Zb.r25:List Oper:=[oM 15 (cI 0)]
def Zb.r26:List Oper:=[oM 103 15,oD 104 (.bin .lss 103 (cI 2))]
def Zb.r28:List Oper:=[oM 107 6,oM 108 12,oM 109 15,oC 110 63 [107,108,109],oM 16 110]
def Zb.r29:List Oper:=[oM 111 13,oM 112 15,oD 113 (.bin .shr 111 112),oD 114 (.bin .and 113 (.c (.i .u8 1))),oD 115 (.eq false .sc 114 (.c (.i .u8 0))),oM 116 115,oF 117 116 (.mv 16),oF 118 116 (.bin .lss 117 (cI 0)),oD 119 (.pick 116 (.c (.b true)) 118)]
def Zb.r30:List Oper:=[oM 120 6,oM 121 11,oM 122 12,oM 123 16,oC 124 64 [120,121,122,123],oM 17 124]
def Zb.r31:List Oper:=[oM 125 17,oD 126 (.un .not 125)]
def Zb.r32:List Oper:=[oM 127 11,oM 128 12,oM 129 15,oM 130 16,oM 131 14,oC 132 65 [127,128,129,130,131],oM 11 132]
def Zb.r27:List Oper:=[oM 105 15,oD 106 (.bin .add 105 (cI 1)),oM 15 106]
def Zb.l2:Code:=.seq (.seq Zb.r26 (.cond 104 (.skip) (.exit 6))) (.seq (.block 7 (.seq Zb.r28 (.seq (.seq Zb.r29 (.cond 119 (.exit 7) (.skip))) (.seq Zb.r30 (.seq Zb.r31 (.cond 126 Zb.r32 (.skip))))))) Zb.r27)
def Zb.r16:List Oper:=[oM 75 12,oD 76 (.bin .add 75 (cI 1)),oM 12 76]
def Zb.l3:Code:=.seq (.seq Zb.r15 (.cond 74 (.skip) (.exit 4))) (.seq (.block 5 (.seq Zb.r17 (.seq (.seq Zb.r18 (.cond 81 Zb.r19 (.skip))) (.seq Zb.r20 (.seq (.seq Zb.r21 (.cond 92 (.seq Zb.r22 (.seq Zb.r23 (.cond 100 Zb.r24 (.skip)))) (.skip))) (.seq Zb.r25 (.block 6 (.loop Zb.l2)))))))) Zb.r16)
def Zb.r33:List Oper:=[oM 133 11,oM 134 6,oM 4 133,oM 5 134]
def Zb.code:Code:=.seq Zb.r0 (.seq Zb.r1 (.seq (.seq Zb.r2 (.block 0 (.loop Zb.l1))) (.seq Zb.r13 (.seq (.seq Zb.r14 (.block 4 (.loop Zb.l3))) (.seq Zb.r33 (.ret))))))
def Zb:Func:=⟨135,[.t 4,.t 5],Zb.code⟩
/-! muntin/join.Parts -/
def Z0.r0:List Oper:=[oM 2 (.c (.sn)),oM 3 (cI 0)]
def Z0.r1:List Oper:=[oM 12 0,oC 13 66 [12],oM 4 13]
def Z0.r2:List Oper:=[oM 14 4,oD 15 (.eq true .sc 14 (cI 0))]
def Z0.r3:List Oper:=[oM 16 4,oM 2 (.c (.sn)),oM 3 16]
def Z0.r4:List Oper:=[oM 5 (.c (.sn))]
def Z0.r5:List Oper:=[oM 17 0,oD 18 (.len 17),oD 19 (.mks 1 1 [.b false] 18 18),oM 6 19]
def Z0.r6:List Oper:=[oM 20 0,oD 21 (.len 20),oM 22 (cI 0)]
def Z0.r7:List Oper:=[oD 23 (.bin .lss 22 21)]
def Z0.r8:List Oper:=[oM 24 22,oM 7 24]
def Z0.r9:List Oper:=[oM 25 6,oM 26 7,oD 27 (.ixa 1 25 26),oD 28 (.ld false 1 27)]
def Z0.r10:List Oper:=[oM 30 0,oM 31 7,oC 32 67 [30,31],oM 29 32,oD 33 (.ext 29 0),oD 34 (.ext 29 1),oM 8 33,oM 9 34]
def Z0.r11:List Oper:=[oD 35 (.bsl 1 0 [.n 0] []),oM 10 35]
def Z0.r12:List Oper:=[oM 36 0,oD 37 (.len 36),oM 38 (cI 0)]
def Z0.r13:List Oper:=[oD 39 (.bin .lss 38 37)]
def Z0.r14:List Oper:=[oM 40 38,oM 11 40]
def Z0.r15:List Oper:=[oM 41 11,oM 42 7,oD 43 (.eq false .sc 41 42),oM 44 43,oF 45 44 (.mv 9),oF 46 44 (.mv 11),oF 47 44 (.ixa 1 45 46),oF 48 44 (.ld false 1 47),oF 49 44 (.bin .geq 48 (cI 0)),oD 50 (.pick 44 (.c (.b true)) 49)]
def Z0.r16:List Oper:=[oM 51 6,oM 52 11,oD 53 (.ixa 1 51 52),oN (.st 1 53 (.c (.b true)))]
def Z0.r17:List Oper:=[oM 54 10,oM 55 11,oD 56 (.bsl 1 1 [.n 0] [(0,1,.t 55)]),oD 57 (.app 1 8 54 56),oM 10 57]
def Z0.r18:List Oper:=[oD 58 (.bin .add 38 (cI 1)),oM 38 58]
def Z0.l0:Code:=.seq Z0.r13 (.seq (.cond 39 (.skip) (.exit 2)) (.seq (.block 3 (.seq Z0.r14 (.seq Z0.r15 (.cond 50 (.seq Z0.r16 Z0.r17) (.skip))))) Z0.r18))
def Z0.r19:List Oper:=[oM 59 5,oM 60 10,oD 61 (.bsl 1 1 [.sn] [(0,1,.t 60)]),oD 62 (.app 1 24 59 61),oM 5 62]
def Z0.r20:List Oper:=[oD 63 (.bin .add 22 (cI 1)),oM 22 63]
def Z0.l1:Code:=.seq Z0.r7 (.seq (.cond 23 (.skip) (.exit 0)) (.seq (.block 1 (.seq Z0.r8 (.seq (.seq Z0.r9 (.cond 28 (.exit 1) (.skip))) (.seq Z0.r10 (.seq Z0.r11 (.seq (.seq Z0.r12 (.block 2 (.loop Z0.l0))) Z0.r19)))))) Z0.r20))
def Z0.r21:List Oper:=[oM 64 5,oM 2 64,oM 3 (cI 0)]
def Z0.code:Code:=.seq Z0.r0 (.seq (.seq Z0.r1 (.seq Z0.r2 (.cond 15 (.seq Z0.r3 (.ret)) (.skip)))) (.seq Z0.r4 (.seq Z0.r5 (.seq (.seq Z0.r6 (.block 0 (.loop Z0.l1))) (.seq Z0.r21 (.ret))))))
def Z0:Func:=⟨65,[.t 2,.t 3],Z0.code⟩
/-! muntin/join.Whole -/
def Zav.r0:List Oper:=[oM 2 (.c (.b false))]
def Zav.r1:List Oper:=[oM 6 0,oC 7 29 [6],oM 5 7,oD 8 (.ext 5 0),oD 9 (.ext 5 1),oM 3 8,oM 4 9]
def Zav.r2:List Oper:=[oM 10 4,oD 11 (.eq false .sc 10 (cI 0)),oM 12 11,oT 13 12 (.mv 3),oT 14 12 (.len 13),oT 15 12 (.eq false .sc 14 (cI 1)),oD 16 (.pick 12 15 (.c (.b false))),oM 2 16]
def Zav.code:Code:=.seq Zav.r0 (.seq Zav.r1 (.seq Zav.r2 (.ret)))
def Zav:Func:=⟨17,[.t 2],Zav.code⟩
/-! muntin/muntinref10.Check -/
def Zg.r0:List Oper:=[oM 2 (cI 0)]
def Zg.r1:List Oper:=[oM 7 0,oD 8 (.len 7),oD 9 (.bin .gtr 8 (cI 4096))]
def Zg.r2:List Oper:=[oM 2 (cI 6)]
def Zg.r3:List Oper:=[oM 3 (cI 0)]
def Zg.r4:List Oper:=[oM 10 3,oM 11 0,oD 12 (.len 11),oD 13 (.bin .lss 10 12)]
def Zg.r6:List Oper:=[oM 4 (cI 0)]
def Zg.r7:List Oper:=[oM 16 4,oD 17 (.bin .lss 16 (cI 4))]
def Zg.r9:List Oper:=[oM 20 0,oM 21 3,oM 22 4,oD 23 (.ixa 8 20 21),oD 24 (.fa 0 23),oD 25 (.ixaa 1 4 24 22),oD 26 (.ld false 1 25),oM 5 26]
def Zg.r10:List Oper:=[oM 27 0,oM 28 3,oM 29 4,oD 30 (.ixa 8 27 28),oD 31 (.fa 4 30),oD 32 (.ixaa 1 4 31 29),oD 33 (.ld false 1 32),oM 6 33]
def Zg.r11:List Oper:=[oM 34 5,oD 35 (.eq false .sc 34 (cI (-1)))]
def Zg.r12:List Oper:=[oM 36 6,oD 37 (.eq true .sc 36 (cI 0))]
def Zg.r13:List Oper:=[oM 2 (cI 9)]
def Zg.r14:List Oper:=[oM 38 5,oD 39 (.bin .lss 38 (cI 0)),oM 40 39,oF 41 40 (.mv 5),oF 42 40 (.mv 0),oF 43 40 (.len 42),oF 44 40 (.bin .geq 41 43),oD 45 (.pick 40 (.c (.b true)) 44),oM 46 45,oF 47 46 (.mv 5),oF 48 46 (.mv 3),oF 49 46 (.eq false .sc 47 48),oD 50 (.pick 46 (.c (.b true)) 49)]
def Zg.r15:List Oper:=[oM 2 (cI 3)]
def Zg.r16:List Oper:=[oM 51 0,oM 52 5,oM 53 4,oD 54 (.bin .add 53 (cI 2)),oD 55 (.bin .rem 54 (cI 4)),oD 56 (.ixa 8 51 52),oD 57 (.fa 0 56),oD 58 (.ixaa 1 4 57 55),oD 59 (.ld false 1 58),oM 60 3,oD 61 (.eq true .sc 59 60),oM 62 61,oF 63 62 (.mv 0),oF 64 62 (.mv 5),oF 65 62 (.mv 4),oF 66 62 (.bin .add 65 (cI 2)),oF 67 62 (.bin .rem 66 (cI 4)),oF 68 62 (.ixa 8 63 64),oF 69 62 (.fa 4 68),oF 70 62 (.ixaa 1 4 69 67),oF 71 62 (.ld false 1 70),oF 72 62 (.mv 6),oF 73 62 (.eq true .sc 71 72),oD 74 (.pick 62 (.c (.b true)) 73),oM 75 74,oF 76 75 (.mv 6),oF 77 75 (.bin .lss 76 (cI (-2))),oD 78 (.pick 75 (.c (.b true)) 77)]
def Zg.r17:List Oper:=[oM 2 (cI 9)]
def Zg.r8:List Oper:=[oM 18 4,oD 19 (.bin .add 18 (cI 1)),oM 4 19]
def Zg.l0:Code:=.seq (.seq Zg.r7 (.cond 17 (.skip) (.exit 2))) (.seq (.block 3 (.seq Zg.r9 (.seq Zg.r10 (.seq (.seq Zg.r11 (.cond 35 (.seq (.seq Zg.r12 (.cond 37 (.seq Zg.r13 (.ret)) (.skip))) (.exit 3)) (.skip))) (.seq (.seq Zg.r14 (.cond 50 (.seq Zg.r15 (.ret)) (.skip))) (.seq Zg.r16 (.cond 78 (.seq Zg.r17 (.ret)) (.skip)))))))) Zg.r8)
def Zg.r5:List Oper:=[oM 14 3,oD 15 (.bin .add 14 (cI 1)),oM 3 15]
def Zg.l1:Code:=.seq (.seq Zg.r4 (.cond 13 (.skip) (.exit 0))) (.seq (.block 1 (.seq Zg.r6 (.block 2 (.loop Zg.l0)))) Zg.r5)
def Zg.r18:List Oper:=[oM 2 (cI 0)]
def Zg.code:Code:=.seq Zg.r0 (.seq (.seq Zg.r1 (.cond 9 (.seq Zg.r2 (.ret)) (.skip))) (.seq (.seq Zg.r3 (.block 0 (.loop Zg.l1))) (.seq Zg.r18 (.ret))))
def Zg:Func:=⟨79,[.t 2],Zg.code⟩
/-! muntin/muntinref10.New -/
def Z7.r0:List Oper:=[oM 2 (.c (.sn))]
def Z7.r1:List Oper:=[oM 6 0,oD 7 (.mks 8 64 [.n 0,.n 0,.n 0,.n 0,.n 0,.n 0,.n 0,.n 0] 6 6),oM 3 7]
def Z7.r2:List Oper:=[oM 4 (cI 0)]
def Z7.r3:List Oper:=[oM 8 4,oM 9 0,oD 10 (.bin .lss 8 9)]
def Z7.r5:List Oper:=[oM 5 (cI 0)]
def Z7.r6:List Oper:=[oM 13 5,oD 14 (.bin .lss 13 (cI 4))]
def Z7.r8:List Oper:=[oM 17 3,oM 18 4,oM 19 5,oD 20 (.ixa 8 17 18),oD 21 (.fa 0 20),oD 22 (.ixaa 1 4 21 19),oN (.st 1 22 (cI (-1)))]
def Z7.r7:List Oper:=[oM 15 5,oD 16 (.bin .add 15 (cI 1)),oM 5 16]
def Z7.l0:Code:=.seq (.seq Z7.r6 (.cond 14 (.skip) (.exit 2))) (.seq (.block 3 Z7.r8) Z7.r7)
def Z7.r4:List Oper:=[oM 11 4,oD 12 (.bin .add 11 (cI 1)),oM 4 12]
def Z7.l1:Code:=.seq (.seq Z7.r3 (.cond 10 (.skip) (.exit 0))) (.seq (.block 1 (.seq Z7.r5 (.block 2 (.loop Z7.l0)))) Z7.r4)
def Z7.r9:List Oper:=[oM 23 3,oM 2 23]
def Z7.code:Code:=.seq Z7.r0 (.seq Z7.r1 (.seq (.seq Z7.r2 (.block 0 (.loop Z7.l1))) (.seq Z7.r9 (.ret))))
def Z7:Func:=⟨24,[.t 2],Z7.code⟩
/-! muntin/muntinref10.Join -/
def ZU.r0:List Oper:=[oM 10 (.c (.sn)),oM 11 (cI 0)]
def ZU.r1:List Oper:=[oM 13 1,oD 14 (.bin .lss 13 (cI 0)),oM 15 14,oF 16 15 (.mv 1),oF 17 15 (.mv 0),oF 18 15 (.len 17),oF 19 15 (.bin .geq 16 18),oD 20 (.pick 15 (.c (.b true)) 19),oM 21 20,oF 22 21 (.mv 3),oF 23 21 (.bin .lss 22 (cI 0)),oD 24 (.pick 21 (.c (.b true)) 23),oM 25 24,oF 26 25 (.mv 3),oF 27 25 (.mv 0),oF 28 25 (.len 27),oF 29 25 (.bin .geq 26 28),oD 30 (.pick 25 (.c (.b true)) 29),oM 31 30,oF 32 31 (.mv 1),oF 33 31 (.mv 3),oF 34 31 (.eq false .sc 32 33),oD 35 (.pick 31 (.c (.b true)) 34),oM 36 35,oF 37 36 (.mv 2),oF 38 36 (.bin .lss 37 (cI 0)),oD 39 (.pick 36 (.c (.b true)) 38),oM 40 39,oF 41 40 (.mv 2),oF 42 40 (.bin .gtr 41 (cI 3)),oD 43 (.pick 40 (.c (.b true)) 42),oM 44 43,oF 45 44 (.mv 4),oF 46 44 (.bin .lss 45 (cI (-2))),oD 47 (.pick 44 (.c (.b true)) 46)]
def ZU.r2:List Oper:=[oM 48 0,oM 10 48,oM 11 (cI 2)]
def ZU.r3:List Oper:=[oM 49 0,oM 50 1,oM 51 2,oD 52 (.ixa 8 49 50),oD 53 (.fa 0 52),oD 54 (.ixaa 1 4 53 51),oD 55 (.ld false 1 54),oD 56 (.eq true .sc 55 (cI (-1))),oM 57 56,oF 58 57 (.mv 0),oF 59 57 (.mv 3),oF 60 57 (.mv 2),oF 61 57 (.bin .add 60 (cI 2)),oF 62 57 (.bin .rem 61 (cI 4)),oF 63 57 (.ixa 8 58 59),oF 64 57 (.fa 0 63),oF 65 57 (.ixaa 1 4 64 62),oF 66 57 (.ld false 1 65),oF 67 57 (.eq true .sc 66 (cI (-1))),oD 68 (.pick 57 (.c (.b true)) 67)]
def ZU.r4:List Oper:=[oM 69 0,oM 10 69,oM 11 (cI 9)]
def ZU.r5:List Oper:=[oM 70 0,oM 71 1,oM 72 2,oM 73 3,oM 74 4,oC 75 65 [70,71,72,73,74],oM 12 75]
def ZU.r6:List Oper:=[oM 76 12,oM 10 76,oM 11 (cI 0)]
def ZU.code:Code:=.seq ZU.r0 (.seq (.seq ZU.r1 (.cond 47 (.seq ZU.r2 (.ret)) (.skip))) (.seq (.seq ZU.r3 (.cond 68 (.seq ZU.r4 (.ret)) (.skip))) (.seq ZU.r5 (.seq ZU.r6 (.ret)))))
def ZU:Func:=⟨77,[.t 10,.t 11],ZU.code⟩
/-! muntin/muntinref10.Nearest -/
def Zz.r0:List Oper:=[oM 6 (cI 0)]
def Zz.r1:List Oper:=[oM 7 (cI (-1))]
def Zz.r2:List Oper:=[oM 8 (cI 0)]
def Zz.r3:List Oper:=[oM 9 8,oM 10 0,oD 11 (.len 10),oD 12 (.bin .lss 9 11)]
def Zz.r5:List Oper:=[oM 15 2,oD 16 (.eq false .sc 15 (cI 0)),oM 17 16,oT 18 17 (.mv 0),oT 19 17 (.mv 8),oT 20 17 (.ixa 2 18 19),oT 21 17 (.fa 1 20),oT 22 17 (.ld false 1 21),oT 23 17 (.mv 0),oT 24 17 (.mv 1),oT 25 17 (.ixa 2 23 24),oT 26 17 (.fa 1 25),oT 27 17 (.ld false 1 26),oT 28 17 (.eq false .sc 22 27),oD 29 (.pick 17 28 (.c (.b false))),oM 30 29,oT 31 30 (.mv 0),oT 32 30 (.mv 8),oT 33 30 (.ixa 2 31 32),oT 34 30 (.fa 0 33),oT 35 30 (.ld false 1 34),oT 36 30 (.mv 0),oT 37 30 (.mv 1),oT 38 30 (.ixa 2 36 37),oT 39 30 (.fa 0 38),oT 40 30 (.ld false 1 39),oT 41 30 (.bin .gtr 35 40),oD 42 (.pick 30 41 (.c (.b false))),oM 43 42,oT 44 43 (.mv 7),oT 45 43 (.bin .lss 44 (cI 0)),oT 46 43 (.mv 45),oF 47 46 (.mv 0),oF 48 46 (.mv 8),oF 49 46 (.ixa 2 47 48),oF 50 46 (.fa 0 49),oF 51 46 (.ld false 1 50),oF 52 46 (.mv 0),oF 53 46 (.mv 7),oF 54 46 (.ixa 2 52 53),oF 55 46 (.fa 0 54),oF 56 46 (.ld false 1 55),oF 57 46 (.bin .lss 51 56),oT 58 43 (.pick 46 (.c (.b true)) 57),oD 59 (.pick 43 58 (.c (.b false)))]
def Zz.r6:List Oper:=[oM 60 8,oM 7 60]
def Zz.r7:List Oper:=[oM 61 2,oD 62 (.eq false .sc 61 (cI 1)),oM 63 62,oT 64 63 (.mv 0),oT 65 63 (.mv 8),oT 66 63 (.ixa 2 64 65),oT 67 63 (.fa 0 66),oT 68 63 (.ld false 1 67),oT 69 63 (.mv 0),oT 70 63 (.mv 1),oT 71 63 (.ixa 2 69 70),oT 72 63 (.fa 0 71),oT 73 63 (.ld false 1 72),oT 74 63 (.eq false .sc 68 73),oD 75 (.pick 63 74 (.c (.b false))),oM 76 75,oT 77 76 (.mv 0),oT 78 76 (.mv 8),oT 79 76 (.ixa 2 77 78),oT 80 76 (.fa 1 79),oT 81 76 (.ld false 1 80),oT 82 76 (.mv 0),oT 83 76 (.mv 1),oT 84 76 (.ixa 2 82 83),oT 85 76 (.fa 1 84),oT 86 76 (.ld false 1 85),oT 87 76 (.bin .gtr 81 86),oD 88 (.pick 76 87 (.c (.b false))),oM 89 88,oT 90 89 (.mv 7),oT 91 89 (.bin .lss 90 (cI 0)),oT 92 89 (.mv 91),oF 93 92 (.mv 0),oF 94 92 (.mv 8),oF 95 92 (.ixa 2 93 94),oF 96 92 (.fa 1 95),oF 97 92 (.ld false 1 96),oF 98 92 (.mv 0),oF 99 92 (.mv 7),oF 100 92 (.ixa 2 98 99),oF 101 92 (.fa 1 100),oF 102 92 (.ld false 1 101),oF 103 92 (.bin .lss 97 102),oT 104 89 (.pick 92 (.c (.b true)) 103),oD 105 (.pick 89 104 (.c (.b false)))]
def Zz.r8:List Oper:=[oM 106 8,oM 7 106]
def Zz.r4:List Oper:=[oM 13 8,oD 14 (.bin .add 13 (cI 1)),oM 8 14]
def Zz.l0:Code:=.seq (.seq Zz.r3 (.cond 12 (.skip) (.exit 0))) (.seq (.block 1 (.seq (.seq (.draw Zz.r5 [(7,12),(20,25),(36,41)]) (.cond 59 Zz.r6 (.skip))) (.seq (.draw Zz.r7 [(7,12),(20,25),(36,41)]) (.cond 105 Zz.r8 (.skip))))) Zz.r4)
def Zz.r9:List Oper:=[oM 107 7,oM 6 107]
def Zz.code:Code:=.seq Zz.r0 (.seq Zz.r1 (.seq (.seq Zz.r2 (.block 0 (.loop Zz.l0))) (.seq Zz.r9 (.ret))))
def Zz:Func:=⟨108,[.t 6],Zz.code⟩
/-! muntin/muntinref10.Crossed -/
def Zh.r0:List Oper:=[oM 8 (.c (.b false))]
def Zh.r1:List Oper:=[oM 9 (cI 0)]
def Zh.r2:List Oper:=[oM 14 9,oM 15 1,oD 16 (.len 15),oD 17 (.bin .lss 14 16)]
def Zh.r4:List Oper:=[oM 10 (cI 0)]
def Zh.r5:List Oper:=[oM 20 10,oD 21 (.bin .lss 20 (cI 2))]
def Zh.r7:List Oper:=[oM 24 1,oM 25 9,oM 26 10,oD 27 (.ixa 8 24 25),oD 28 (.fa 0 27),oD 29 (.ixaa 1 4 28 26),oD 30 (.ld false 1 29),oM 11 30]
def Zh.r8:List Oper:=[oM 31 11,oD 32 (.bin .lss 31 (cI 0))]
def Zh.r9:List Oper:=[oM 33 0,oM 34 9,oD 35 (.ixa 2 33 34),oD 36 (.ld true 2 35),oD 12 (.alloc [.n 0,.n 0]),oN (.st 2 12 36)]
def Zh.r10:List Oper:=[oM 37 0,oM 38 11,oD 39 (.ixa 2 37 38),oD 40 (.ld true 2 39),oD 13 (.alloc [.n 0,.n 0]),oN (.st 2 13 40)]
def Zh.r11:List Oper:=[oD 41 (.fa 1 12),oD 42 (.ld false 1 41),oD 43 (.fa 1 13),oD 44 (.ld false 1 43),oD 45 (.eq false .sc 42 44),oM 46 45,oT 47 46 (.mv 0),oT 48 46 (.mv 2),oT 49 46 (.ixa 2 47 48),oT 50 46 (.fa 0 49),oT 51 46 (.ld false 1 50),oT 52 46 (.mv 0),oT 53 46 (.mv 3),oT 54 46 (.ixa 2 52 53),oT 55 46 (.fa 0 54),oT 56 46 (.ld false 1 55),oT 57 46 (.eq false .sc 51 56),oD 58 (.pick 46 57 (.c (.b false))),oM 59 58,oT 60 59 (.fa 0 12),oT 61 59 (.ld false 1 60),oT 62 59 (.mv 0),oT 63 59 (.mv 2),oT 64 59 (.ixa 2 62 63),oT 65 59 (.fa 0 64),oT 66 59 (.ld false 1 65),oT 67 59 (.bin .lss 61 66),oD 68 (.pick 59 67 (.c (.b false))),oM 69 68,oT 70 69 (.mv 0),oT 71 69 (.mv 2),oT 72 69 (.ixa 2 70 71),oT 73 69 (.fa 0 72),oT 74 69 (.ld false 1 73),oT 75 69 (.fa 0 13),oT 76 69 (.ld false 1 75),oT 77 69 (.bin .lss 74 76),oD 78 (.pick 69 77 (.c (.b false))),oM 79 78,oT 80 79 (.mv 0),oT 81 79 (.mv 2),oT 82 79 (.ixa 2 80 81),oT 83 79 (.fa 1 82),oT 84 79 (.ld false 1 83),oT 85 79 (.fa 1 12),oT 86 79 (.ld false 1 85),oT 87 79 (.bin .lss 84 86),oD 88 (.pick 79 87 (.c (.b false))),oM 89 88,oT 90 89 (.fa 1 12),oT 91 89 (.ld false 1 90),oT 92 89 (.mv 0),oT 93 89 (.mv 3),oT 94 89 (.ixa 2 92 93),oT 95 89 (.fa 1 94),oT 96 89 (.ld false 1 95),oT 97 89 (.bin .lss 91 96),oD 98 (.pick 89 97 (.c (.b false)))]
def Zh.r12:List Oper:=[oM 8 (.c (.b true))]
def Zh.r13:List Oper:=[oD 99 (.fa 0 12),oD 100 (.ld false 1 99),oD 101 (.fa 0 13),oD 102 (.ld false 1 101),oD 103 (.eq false .sc 100 102),oM 104 103,oT 105 104 (.mv 0),oT 106 104 (.mv 2),oT 107 104 (.ixa 2 105 106),oT 108 104 (.fa 1 107),oT 109 104 (.ld false 1 108),oT 110 104 (.mv 0),oT 111 104 (.mv 3),oT 112 104 (.ixa 2 110 111),oT 113 104 (.fa 1 112),oT 114 104 (.ld false 1 113),oT 115 104 (.eq false .sc 109 114),oD 116 (.pick 104 115 (.c (.b false))),oM 117 116,oT 118 117 (.mv 0),oT 119 117 (.mv 2),oT 120 117 (.ixa 2 118 119),oT 121 117 (.fa 0 120),oT 122 117 (.ld false 1 121),oT 123 117 (.fa 0 12),oT 124 117 (.ld false 1 123),oT 125 117 (.bin .lss 122 124),oD 126 (.pick 117 125 (.c (.b false))),oM 127 126,oT 128 127 (.fa 0 12),oT 129 127 (.ld false 1 128),oT 130 127 (.mv 0),oT 131 127 (.mv 3),oT 132 127 (.ixa 2 130 131),oT 133 127 (.fa 0 132),oT 134 127 (.ld false 1 133),oT 135 127 (.bin .lss 129 134),oD 136 (.pick 127 135 (.c (.b false))),oM 137 136,oT 138 137 (.fa 1 12),oT 139 137 (.ld false 1 138),oT 140 137 (.mv 0),oT 141 137 (.mv 2),oT 142 137 (.ixa 2 140 141),oT 143 137 (.fa 1 142),oT 144 137 (.ld false 1 143),oT 145 137 (.bin .lss 139 144),oD 146 (.pick 137 145 (.c (.b false))),oM 147 146,oT 148 147 (.mv 0),oT 149 147 (.mv 2),oT 150 147 (.ixa 2 148 149),oT 151 147 (.fa 1 150),oT 152 147 (.ld false 1 151),oT 153 147 (.fa 1 13),oT 154 147 (.ld false 1 153),oT 155 147 (.bin .lss 152 154),oD 156 (.pick 147 155 (.c (.b false)))]
def Zh.r14:List Oper:=[oM 8 (.c (.b true))]
def Zh.r6:List Oper:=[oM 22 10,oD 23 (.bin .add 22 (cI 1)),oM 10 23]
def Zh.l0:Code:=.seq (.seq Zh.r5 (.cond 21 (.skip) (.exit 2))) (.seq (.block 3 (.seq Zh.r7 (.seq (.seq Zh.r8 (.cond 32 (.exit 3) (.skip))) (.seq Zh.r9 (.seq Zh.r10 (.seq (.seq (.draw Zh.r11 [(1,3),(10,15),(20,25),(33,35),(43,45),(50,55)]) (.cond 98 (.seq Zh.r12 (.ret)) (.skip))) (.seq (.draw Zh.r13 [(1,3),(10,15),(23,25),(30,35),(40,45),(53,55)]) (.cond 156 (.seq Zh.r14 (.ret)) (.skip))))))))) Zh.r6)
def Zh.r3:List Oper:=[oM 18 9,oD 19 (.bin .add 18 (cI 1)),oM 9 19]
def Zh.l1:Code:=.seq (.seq Zh.r2 (.cond 17 (.skip) (.exit 0))) (.seq (.block 1 (.seq Zh.r4 (.block 2 (.loop Zh.l0)))) Zh.r3)
def Zh.r15:List Oper:=[oM 8 (.c (.b false))]
def Zh.code:Code:=.seq Zh.r0 (.seq (.seq Zh.r1 (.block 0 (.loop Zh.l1))) (.seq Zh.r15 (.ret)))
def Zh:Func:=⟨157,[.t 8],Zh.code⟩
/-! muntin/muntinref10.with -/
def Zx.r0:List Oper:=[oM 10 (.c (.sn))]
def Zx.r1:List Oper:=[oM 11 (.c (.sn))]
def Zx.r2:List Oper:=[oM 12 (cI 0)]
def Zx.r3:List Oper:=[oM 14 12,oM 15 0,oD 16 (.len 15),oD 17 (.bin .lss 14 16)]
def Zx.r5:List Oper:=[oM 20 0,oM 21 12,oD 22 (.ixa 8 20 21),oD 23 (.ld true 8 22),oD 13 (.alloc [.n 0,.n 0,.n 0,.n 0,.n 0,.n 0,.n 0,.n 0]),oN (.st 8 13 23)]
def Zx.r6:List Oper:=[oM 24 12,oM 25 1,oD 26 (.eq false .sc 24 25)]
def Zx.r7:List Oper:=[oM 27 2,oM 28 3,oD 29 (.fa 0 13),oD 30 (.ixaa 1 4 29 27),oN (.st 1 30 28)]
def Zx.r8:List Oper:=[oM 31 2,oM 32 4,oD 33 (.fa 4 13),oD 34 (.ixaa 1 4 33 31),oN (.st 1 34 32)]
def Zx.r9:List Oper:=[oM 35 12,oM 36 3,oD 37 (.eq false .sc 35 36)]
def Zx.r10:List Oper:=[oM 38 2,oD 39 (.bin .add 38 (cI 2)),oD 40 (.bin .rem 39 (cI 4)),oM 41 1,oD 42 (.fa 0 13),oD 43 (.ixaa 1 4 42 40),oN (.st 1 43 41)]
def Zx.r11:List Oper:=[oM 44 2,oD 45 (.bin .add 44 (cI 2)),oD 46 (.bin .rem 45 (cI 4)),oM 47 4,oD 48 (.fa 4 13),oD 49 (.ixaa 1 4 48 46),oN (.st 1 49 47)]
def Zx.r12:List Oper:=[oM 50 11,oD 51 (.ld true 8 13),oD 52 (.bsl 8 1 [.n 0,.n 0,.n 0,.n 0,.n 0,.n 0,.n 0,.n 0] [(0,8,.t 51)]),oD 53 (.app 8 64 50 52),oM 11 53]
def Zx.r4:List Oper:=[oM 18 12,oD 19 (.bin .add 18 (cI 1)),oM 12 19]
def Zx.l0:Code:=.seq (.seq Zx.r3 (.cond 17 (.skip) (.exit 0))) (.seq (.block 1 (.seq Zx.r5 (.seq (.seq Zx.r6 (.cond 26 (.seq Zx.r7 Zx.r8) (.skip))) (.seq (.seq Zx.r9 (.cond 37 (.seq Zx.r10 Zx.r11) (.skip))) Zx.r12)))) Zx.r4)
def Zx.r13:List Oper:=[oM 54 11,oM 10 54]
def Zx.code:Code:=.seq Zx.r0 (.seq Zx.r1 (.seq (.seq Zx.r2 (.block 0 (.loop Zx.l0))) (.seq Zx.r13 (.ret))))
def Zx:Func:=⟨55,[.t 10],Zx.code⟩
/-! muntin/grid.Check -/
def ZG.r0:List Oper:=[oM 2 (cI 0)]
def ZG.r1:List Oper:=[oM 6 0,oD 7 (.len 6),oD 8 (.bin .gtr 7 (cI 4096))]
def ZG.r2:List Oper:=[oM 2 (cI 6)]
def ZG.r3:List Oper:=[oM 9 0,oD 10 (.len 9),oM 11 (cI 0)]
def ZG.r4:List Oper:=[oD 12 (.bin .lss 11 10)]
def ZG.r5:List Oper:=[oM 13 11,oM 3 13]
def ZG.r6:List Oper:=[oM 14 (cI 0)]
def ZG.r7:List Oper:=[oD 15 (.bin .lss 14 (cI 4))]
def ZG.r8:List Oper:=[oM 16 14,oM 4 16]
def ZG.r9:List Oper:=[oM 17 0,oM 18 3,oM 19 4,oC 20 82 [17,18,19],oM 5 20]
def ZG.r10:List Oper:=[oM 21 5,oD 22 (.eq true .sc 21 (cI 0))]
def ZG.r11:List Oper:=[oM 23 5,oM 2 23]
def ZG.r12:List Oper:=[oD 24 (.bin .add 14 (cI 1)),oM 14 24]
def ZG.l0:Code:=.seq ZG.r7 (.seq (.cond 15 (.skip) (.exit 2)) (.seq (.block 3 (.seq ZG.r8 (.seq ZG.r9 (.seq ZG.r10 (.cond 22 (.seq ZG.r11 (.ret)) (.skip)))))) ZG.r12))
def ZG.r13:List Oper:=[oD 25 (.bin .add 11 (cI 1)),oM 11 25]
def ZG.l1:Code:=.seq ZG.r4 (.seq (.cond 12 (.skip) (.exit 0)) (.seq (.block 1 (.seq ZG.r5 (.seq ZG.r6 (.block 2 (.loop ZG.l0))))) ZG.r13))
def ZG.r14:List Oper:=[oM 2 (cI 0)]
def ZG.code:Code:=.seq ZG.r0 (.seq (.seq ZG.r1 (.cond 8 (.seq ZG.r2 (.ret)) (.skip))) (.seq (.seq ZG.r3 (.block 0 (.loop ZG.l1))) (.seq ZG.r14 (.ret))))
def ZG:Func:=⟨26,[.t 2],ZG.code⟩
/-! muntin/join.spread -/
def Z6.r0:List Oper:=[oM 4 (.c (.sn)),oM 5 (.c (.sn))]
def Z6.r1:List Oper:=[oD 13 (.bsl 1 1 [.n 0] [(0,1,.c (.n (-1)))]),oM 14 0,oD 15 (.len 14),oC 16 83 [13,15],oD 17 (.bsl 1 1 [.n 0] [(0,1,.c (.n (-1)))]),oM 18 0,oD 19 (.len 18),oC 20 83 [17,19],oM 6 16,oM 7 20]
def Z6.r2:List Oper:=[oM 21 1,oD 22 (.bsl 1 1 [.n 0] [(0,1,.t 21)]),oM 8 22]
def Z6.r3:List Oper:=[oM 23 0,oD 24 (.len 23),oD 25 (.mks 1 1 [.b false] 24 24),oM 9 25]
def Z6.r4:List Oper:=[oM 26 9,oM 27 1,oD 28 (.ixa 1 26 27),oN (.st 1 28 (.c (.b true)))]
def Z6.r5:List Oper:=[oM 29 8,oD 30 (.len 29),oD 31 (.bin .gtr 30 (cI 0))]
def Z6.r6:List Oper:=[oM 32 8,oD 33 (.ixa 1 32 (cI 0)),oD 34 (.ld false 1 33),oM 10 34]
def Z6.r7:List Oper:=[oM 35 8,oD 36 (.slc 1 35 (some (cI 1)) none none),oM 8 36]
def Z6.r8:List Oper:=[oM 37 (cI 0)]
def Z6.r9:List Oper:=[oD 38 (.bin .lss 37 (cI 4))]
def Z6.r10:List Oper:=[oM 39 37,oM 11 39]
def Z6.r11:List Oper:=[oM 40 0,oM 41 10,oM 42 11,oD 43 (.ixa 8 40 41),oD 44 (.fa 0 43),oD 45 (.ixaa 1 4 44 42),oD 46 (.ld false 1 45),oM 12 46]
def Z6.r12:List Oper:=[oM 47 12,oD 48 (.bin .geq 47 (cI 0)),oM 49 48,oT 50 49 (.mv 9),oT 51 49 (.mv 12),oT 52 49 (.ixa 1 50 51),oT 53 49 (.ld false 1 52),oT 54 49 (.un .not 53),oD 55 (.pick 49 54 (.c (.b false)))]
def Z6.r13:List Oper:=[oM 56 9,oM 57 12,oM 58 6,oM 59 12,oM 60 7,oM 61 12,oM 62 10,oM 63 11,oD 64 (.ixa 1 56 57),oN (.st 1 64 (.c (.b true))),oD 65 (.ixa 1 58 59),oN (.st 1 65 62),oD 66 (.ixa 1 60 61),oN (.st 1 66 63)]
def Z6.r14:List Oper:=[oM 67 8,oM 68 12,oD 69 (.bsl 1 1 [.n 0] [(0,1,.t 68)]),oD 70 (.app 1 8 67 69),oM 8 70]
def Z6.r15:List Oper:=[oD 71 (.bin .add 37 (cI 1)),oM 37 71]
def Z6.l0:Code:=.seq Z6.r9 (.seq (.cond 38 (.skip) (.exit 2)) (.seq (.block 3 (.seq Z6.r10 (.seq Z6.r11 (.seq Z6.r12 (.cond 55 (.seq Z6.r13 Z6.r14) (.skip)))))) Z6.r15))
def Z6.l1:Code:=.seq (.seq Z6.r5 (.cond 31 (.skip) (.exit 0))) (.block 1 (.seq Z6.r6 (.seq Z6.r7 (.seq Z6.r8 (.block 2 (.loop Z6.l0))))))
def Z6.r16:List Oper:=[oM 72 6,oM 73 7,oM 4 72,oM 5 73]
def Z6.code:Code:=.seq Z6.r0 (.seq Z6.r1 (.seq Z6.r2 (.seq Z6.r3 (.seq Z6.r4 (.seq (.block 0 (.loop Z6.l1)) (.seq Z6.r16 (.ret)))))))
def Z6:Func:=⟨74,[.t 4,.t 5],Z6.code⟩
/-! muntin/compass.Left -/
def zK.r0:List Oper:=[oM 4 (cI 0)]
def zK.r1:List Oper:=[oM 5 0,oC 6 90 [5],oD 7 (.un .not 6)]
def zK.r2:List Oper:=[oM 4 (cI 0)]
def zK.r3:List Oper:=[oM 8 0,oM 9 1,oD 10 (.bin .rem 9 (cI 4)),oD 11 (.bin .add 8 10),oD 12 (.bin .add 11 (cI 4)),oD 13 (.bin .rem 12 (cI 4)),oM 4 13]
def zK.code:Code:=.seq zK.r0 (.seq (.seq zK.r1 (.cond 7 (.seq zK.r2 (.ret)) (.skip))) (.seq zK.r3 (.ret)))
def zK:Func:=⟨14,[.t 4],zK.code⟩
/-! slices.ContainsFunc[[]int,int] -/
def zr.r0:List Oper:=[oM 4 (.c (.b false))]
def zr.r1:List Oper:=[oM 5 0,oM 6 1,oC 7 91 [5,6],oD 8 (.bin .geq 7 (cI 0)),oM 4 8]
def zr.code:Code:=.seq zr.r0 (.seq zr.r1 (.ret))
def zr:Func:=⟨9,[.t 4],zr.code⟩
/-! muntin/grid.side -/
def zj.r0:List Oper:=[oM 6 (cI 0)]
def zj.r1:List Oper:=[oM 10 0,oM 11 1,oM 12 2,oD 13 (.ixa 8 10 11),oD 14 (.fa 0 13),oD 15 (.ixaa 1 4 14 12),oD 16 (.ld false 1 15),oM 17 0,oM 18 1,oM 19 2,oD 20 (.ixa 8 17 18),oD 21 (.fa 4 20),oD 22 (.ixaa 1 4 21 19),oD 23 (.ld false 1 22),oM 7 16,oM 8 23]
def zj.r2:List Oper:=[oM 24 7,oD 25 (.eq false .sc 24 (cI (-1)))]
def zj.r3:List Oper:=[oM 26 8,oD 27 (.eq true .sc 26 (cI 0))]
def zj.r4:List Oper:=[oM 6 (cI 9)]
def zj.r5:List Oper:=[oM 6 (cI 0)]
def zj.r6:List Oper:=[oM 28 7,oD 29 (.bin .lss 28 (cI 0)),oM 30 29,oF 31 30 (.mv 7),oF 32 30 (.mv 0),oF 33 30 (.len 32),oF 34 30 (.bin .geq 31 33),oD 35 (.pick 30 (.c (.b true)) 34),oM 36 35,oF 37 36 (.mv 7),oF 38 36 (.mv 1),oF 39 36 (.eq false .sc 37 38),oD 40 (.pick 36 (.c (.b true)) 39)]
def zj.r7:List Oper:=[oM 6 (cI 3)]
def zj.r8:List Oper:=[oM 41 2,oC 42 77 [41,.c (.n 2)],oM 9 42]
def zj.r9:List Oper:=[oM 43 0,oM 44 7,oM 45 9,oD 46 (.ixa 8 43 44),oD 47 (.fa 0 46),oD 48 (.ixaa 1 4 47 45),oD 49 (.ld false 1 48),oM 50 1,oD 51 (.eq true .sc 49 50),oM 52 51,oF 53 52 (.mv 0),oF 54 52 (.mv 7),oF 55 52 (.mv 9),oF 56 52 (.ixa 8 53 54),oF 57 52 (.fa 4 56),oF 58 52 (.ixaa 1 4 57 55),oF 59 52 (.ld false 1 58),oF 60 52 (.mv 8),oF 61 52 (.eq true .sc 59 60),oD 62 (.pick 52 (.c (.b true)) 61),oM 63 62,oF 64 63 (.mv 8),oF 65 63 (.bin .lss 64 (cI (-2))),oD 66 (.pick 63 (.c (.b true)) 65)]
def zj.r10:List Oper:=[oM 6 (cI 9)]
def zj.r11:List Oper:=[oM 6 (cI 0)]
def zj.code:Code:=.seq zj.r0 (.seq (.draw zj.r1 [(6,13)]) (.seq (.seq zj.r2 (.cond 25 (.seq (.seq zj.r3 (.cond 27 (.seq zj.r4 (.ret)) (.skip))) (.seq zj.r5 (.ret))) (.skip))) (.seq (.seq zj.r6 (.cond 40 (.seq zj.r7 (.ret)) (.skip))) (.seq zj.r8 (.seq (.seq zj.r9 (.cond 66 (.seq zj.r10 (.ret)) (.skip))) (.seq zj.r11 (.ret)))))))
def zj:Func:=⟨67,[.t 6],zj.code⟩
/-! slices.Repeat[[]int,int] -/
def Z3.r0:List Oper:=[oM 4 (.c (.sn))]
def Z3.r1:List Oper:=[oM 9 1,oD 10 (.bin .lss 9 (cI 0))]
def Z3.r2:List Oper:=[oD 11 (.bad),oN (.bad)]
def Z3.r3:List Oper:=[oM 13 0,oD 14 (.len 13),oD 15 (.conv .u64 14),oM 16 1,oD 17 (.conv .u64 16),oC 18 89 [15,17],oM 12 18,oD 19 (.ext 12 0),oD 20 (.ext 12 1),oM 5 19,oM 6 20]
def Z3.r4:List Oper:=[oM 21 5,oD 22 (.bin .gtr 21 (.c (.i .u64 0))),oM 23 22,oF 24 23 (.mv 6),oF 25 23 (.bin .gtr 24 (.c (.i .u64 9223372036854775807))),oD 26 (.pick 23 (.c (.b true)) 25)]
def Z3.r5:List Oper:=[oD 27 (.bad),oN (.bad)]
def Z3.r6:List Oper:=[oM 28 6,oD 29 (.conv .i64 28),oD 30 (.mks 1 8 [.n 0] 29 29),oM 7 30]
def Z3.r7:List Oper:=[oM 31 7,oM 32 0,oD 33 (.cpy 1 31 32),oM 8 33]
def Z3.r8:List Oper:=[oM 34 8,oM 35 7,oD 36 (.len 35),oD 37 (.bin .lss 34 36)]
def Z3.r9:List Oper:=[oM 38 8,oM 39 7,oM 40 8,oD 41 (.slc 1 39 (some 40) none none),oM 42 7,oM 43 8,oD 44 (.slc 1 42 none (some 43) none),oD 45 (.cpy 1 41 44),oD 46 (.bin .add 38 45),oM 8 46]
def Z3.l0:Code:=.seq (.seq Z3.r8 (.cond 37 (.skip) (.exit 0))) (.block 1 (.draw Z3.r9 []))
def Z3.r10:List Oper:=[oM 47 7,oM 4 47]
def Z3.code:Code:=.seq Z3.r0 (.seq (.seq Z3.r1 (.cond 10 Z3.r2 (.skip))) (.seq Z3.r3 (.seq (.seq Z3.r4 (.cond 26 Z3.r5 (.skip))) (.seq Z3.r6 (.seq Z3.r7 (.seq (.block 0 (.loop Z3.l0)) (.seq Z3.r10 (.ret))))))))
def Z3:Func:=⟨48,[.t 4],Z3.code⟩
/-! math/bits.Mul -/
def Zam.r0:List Oper:=[oM 4 (.c (.i .u64 0)),oM 5 (.c (.i .u64 0))]
def Zam.r1:List Oper:=[oM 11 0,oD 12 (.conv .u32 11),oM 13 1,oD 14 (.conv .u32 13),oC 15 97 [12,14],oM 10 15,oD 16 (.ext 10 0),oD 17 (.ext 10 1),oM 6 16,oM 7 17]
def Zam.r2:List Oper:=[oM 18 6,oD 19 (.conv .u64 18),oM 20 7,oD 21 (.conv .u64 20),oM 4 19,oM 5 21]
def Zam.r3:List Oper:=[oM 23 0,oM 24 1,oC 25 98 [23,24],oM 22 25,oD 26 (.ext 22 0),oD 27 (.ext 22 1),oM 8 26,oM 9 27]
def Zam.r4:List Oper:=[oM 28 8,oM 29 9,oM 4 28,oM 5 29]
def Zam.code:Code:=.seq Zam.r0 (.seq (.cond (.c (.b false)) (.seq Zam.r1 (.seq Zam.r2 (.ret))) (.skip)) (.seq Zam.r3 (.seq Zam.r4 (.ret))))
def Zam:Func:=⟨30,[.t 4,.t 5],Zam.code⟩
/-! muntin/compass.Good -/
def Zar.r0:List Oper:=[oM 2 (.c (.b false))]
def Zar.r1:List Oper:=[oM 3 0,oD 4 (.bin .geq 3 (cI 0)),oM 5 4,oT 6 5 (.mv 0),oT 7 5 (.bin .leq 6 (cI 3)),oD 8 (.pick 5 7 (.c (.b false))),oM 2 8]
def Zar.code:Code:=.seq Zar.r0 (.seq Zar.r1 (.ret))
def Zar:Func:=⟨9,[.t 2],Zar.code⟩
/-! slices.IndexFunc[[]int,int] -/
def Z5.r0:List Oper:=[oM 4 (cI 0)]
def Z5.r1:List Oper:=[oM 6 0,oD 7 (.len 6),oM 8 (cI 0)]
def Z5.r2:List Oper:=[oD 9 (.bin .lss 8 7)]
def Z5.r3:List Oper:=[oM 10 8,oM 5 10]
def Z5.r4:List Oper:=[oM 11 1,oM 12 0,oM 13 5,oD 14 (.ixa 1 12 13),oD 15 (.ld false 1 14),oD 16 (.call 11 [15])]
def Z5.r5:List Oper:=[oM 17 5,oM 4 17]
def Z5.r6:List Oper:=[oD 18 (.bin .add 8 (cI 1)),oM 8 18]
def Z5.l0:Code:=.seq Z5.r2 (.seq (.cond 9 (.skip) (.exit 0)) (.seq (.block 1 (.seq Z5.r3 (.seq Z5.r4 (.cond 16 (.seq Z5.r5 (.ret)) (.skip))))) Z5.r6))
def Z5.r7:List Oper:=[oM 4 (cI (-1))]
def Z5.code:Code:=.seq Z5.r0 (.seq (.seq Z5.r1 (.block 0 (.loop Z5.l0))) (.seq Z5.r7 (.ret)))
def Z5:Func:=⟨19,[.t 4],Z5.code⟩
/-! math/bits.Mul32 -/
def Zau.r0:List Oper:=[oM 4 (.c (.i .u32 0)),oM 5 (.c (.i .u32 0))]
def Zau.r1:List Oper:=[oM 7 0,oD 8 (.conv .u64 7),oM 9 1,oD 10 (.conv .u64 9),oD 11 (.bin .mul 8 10),oM 6 11]
def Zau.r2:List Oper:=[oM 12 6,oD 13 (.bin .shr 12 (.c (.i .u64 32))),oD 14 (.conv .u32 13),oM 15 6,oD 16 (.conv .u32 15),oM 4 14,oM 5 16]
def Zau.code:Code:=.seq Zau.r0 (.seq Zau.r1 (.seq Zau.r2 (.ret)))
def Zau:Func:=⟨17,[.t 4,.t 5],Zau.code⟩
/-! math/bits.Mul64 -/
def ZZ.r0:List Oper:=[oM 4 (.c (.i .u64 0)),oM 5 (.c (.i .u64 0))]
def ZZ.r1:List Oper:=[oM 14 0,oD 15 (.bin .and 14 (.c (.i .u64 4294967295))),oM 6 15]
def ZZ.r2:List Oper:=[oM 16 0,oD 17 (.bin .shr 16 (.c (.i .u64 32))),oM 7 17]
def ZZ.r3:List Oper:=[oM 18 1,oD 19 (.bin .and 18 (.c (.i .u64 4294967295))),oM 8 19]
def ZZ.r4:List Oper:=[oM 20 1,oD 21 (.bin .shr 20 (.c (.i .u64 32))),oM 9 21]
def ZZ.r5:List Oper:=[oM 22 6,oM 23 8,oD 24 (.bin .mul 22 23),oM 10 24]
def ZZ.r6:List Oper:=[oM 25 7,oM 26 8,oD 27 (.bin .mul 25 26),oM 28 10,oD 29 (.bin .shr 28 (.c (.i .u64 32))),oD 30 (.bin .add 27 29),oM 11 30]
def ZZ.r7:List Oper:=[oM 31 11,oD 32 (.bin .and 31 (.c (.i .u64 4294967295))),oM 12 32]
def ZZ.r8:List Oper:=[oM 33 11,oD 34 (.bin .shr 33 (.c (.i .u64 32))),oM 13 34]
def ZZ.r9:List Oper:=[oM 35 12,oM 36 6,oM 37 9,oD 38 (.bin .mul 36 37),oD 39 (.bin .add 35 38),oM 12 39]
def ZZ.r10:List Oper:=[oM 40 7,oM 41 9,oD 42 (.bin .mul 40 41),oM 43 13,oD 44 (.bin .add 42 43),oM 45 12,oD 46 (.bin .shr 45 (.c (.i .u64 32))),oD 47 (.bin .add 44 46),oM 4 47]
def ZZ.r11:List Oper:=[oM 48 0,oM 49 1,oD 50 (.bin .mul 48 49),oM 5 50]
def ZZ.code:Code:=.seq ZZ.r0 (.seq ZZ.r1 (.seq ZZ.r2 (.seq ZZ.r3 (.seq ZZ.r4 (.seq ZZ.r5 (.seq ZZ.r6 (.seq ZZ.r7 (.seq ZZ.r8 (.seq ZZ.r9 (.seq ZZ.r10 (.seq ZZ.r11 (.ret))))))))))))
def ZZ:Func:=⟨51,[.t 4,.t 5],ZZ.code⟩
/-! slices.Contains[[]int,int] -/
def z7.r0:List Oper:=[oM 4 (.c (.b false))]
def z7.r1:List Oper:=[oM 5 0,oM 6 1,oC 7 136 [5,6],oD 8 (.bin .geq 7 (cI 0)),oM 4 8]
def z7.code:Code:=.seq z7.r0 (.seq z7.r1 (.ret))
def z7:Func:=⟨9,[.t 4],z7.code⟩
/-! muntin/seg.Of -/
def Zad.r0:List Oper:=[oD 2 (.alloc [.sn,.sn,.sn,.sn]),oM 3 (cI 0)]
def Zad.r1:List Oper:=[oM 11 0,oC 12 66 [11],oM 4 12]
def Zad.r2:List Oper:=[oM 13 4,oD 14 (.eq true .sc 13 (cI 0))]
def Zad.r3:List Oper:=[oD 15 (.build [.sn,.sn,.sn,.sn] []),oM 16 4,oN (.st 4 2 15),oM 3 16]
def Zad.r4:List Oper:=[oM 18 0,oC 19 137 [18,.c (.n 1)],oM 17 19,oD 20 (.ext 17 0),oD 21 (.ext 17 1),oD 22 (.ext 17 2),oM 5 20,oM 6 21,oM 7 22]
def Zad.r5:List Oper:=[oM 24 0,oC 25 137 [24,.c (.n 0)],oM 23 25,oD 26 (.ext 23 0),oD 27 (.ext 23 1),oD 28 (.ext 23 2),oM 8 26,oM 9 27,oM 10 28]
def Zad.r6:List Oper:=[oM 29 7,oD 30 (.un .not 29),oM 31 30,oF 32 31 (.mv 10),oF 33 31 (.un .not 32),oD 34 (.pick 31 (.c (.b true)) 33)]
def Zad.r7:List Oper:=[oD 35 (.build [.sn,.sn,.sn,.sn] []),oN (.st 4 2 35),oM 3 (cI 10)]
def Zad.r8:List Oper:=[oM 36 5,oM 37 8,oM 38 6,oM 39 9,oD 40 (.build [.sn,.sn,.sn,.sn] [(0,1,.t 36),(1,1,.t 37),(2,1,.t 38),(3,1,.t 39)]),oN (.st 4 2 40),oM 3 (cI 0)]
def Zad.code:Code:=.seq Zad.r0 (.seq (.seq Zad.r1 (.seq Zad.r2 (.cond 14 (.seq Zad.r3 (.ret)) (.skip)))) (.seq Zad.r4 (.seq Zad.r5 (.seq (.seq Zad.r6 (.cond 34 (.seq Zad.r7 (.ret)) (.skip))) (.seq Zad.r8 (.ret))))))
def Zad:Func:=⟨41,[.cell 2 true 4,.t 3],Zad.code⟩
/-! muntin/muntinref16.Of -/
def zl.r0:List Oper:=[oD 2 (.alloc [.sn,.sn,.sn,.sn]),oM 3 (.c (.b false))]
def zl.r1:List Oper:=[oM 11 0,oC 12 138 [11,.c (.n 1)],oM 10 12,oD 13 (.ext 10 0),oD 14 (.ext 10 1),oD 15 (.ext 10 2),oM 4 13,oM 5 14,oM 6 15]
def zl.r2:List Oper:=[oM 17 0,oC 18 138 [17,.c (.n 0)],oM 16 18,oD 19 (.ext 16 0),oD 20 (.ext 16 1),oD 21 (.ext 16 2),oM 7 19,oM 8 20,oM 9 21]
def zl.r3:List Oper:=[oM 22 6,oD 23 (.un .not 22),oM 24 23,oF 25 24 (.mv 9),oF 26 24 (.un .not 25),oD 27 (.pick 24 (.c (.b true)) 26)]
def zl.r4:List Oper:=[oD 28 (.build [.sn,.sn,.sn,.sn] []),oN (.st 4 2 28),oM 3 (.c (.b false))]
def zl.r5:List Oper:=[oM 29 4,oM 30 7,oM 31 5,oM 32 8,oD 33 (.build [.sn,.sn,.sn,.sn] [(0,1,.t 29),(1,1,.t 30),(2,1,.t 31),(3,1,.t 32)]),oN (.st 4 2 33),oM 3 (.c (.b true))]
def zl.code:Code:=.seq zl.r0 (.seq zl.r1 (.seq zl.r2 (.seq (.seq zl.r3 (.cond 27 (.seq zl.r4 (.ret)) (.skip))) (.seq zl.r5 (.ret)))))
def zl:Func:=⟨34,[.cell 2 true 4,.t 3],zl.code⟩
/-! (muntin/seg.Chains).Meet -/
def zE.r0:List Oper:=[oD 5 (.box 0),oM 10 (.c (.b false))]
def zE.r1:List Oper:=[oD 12 (.ld true 4 5),oM 13 3,oM 14 4,oC 15 140 [12,13,14],oD 11 (.alloc [.sn]),oN (.st 1 11 15)]
def zE.r2:List Oper:=[oD 16 (.ld true 4 5),oM 17 1,oM 18 2,oC 19 140 [16,17,18],oD 20 (.clo 141 [11]),oC 21 78 [19,20],oM 10 21]
def zE.code:Code:=.seq zE.r0 (.seq zE.r1 (.seq zE.r2 (.ret)))
def zE:Func:=⟨22,[.t 10],zE.code⟩
/-! (muntin/seg.Chains).Span -/
def ZQ.r0:List Oper:=[oD 3 (.box 0),oM 6 (cI 0),oM 7 (cI 0)]
def ZQ.r1:List Oper:=[oD 10 (.ld true 4 3),oM 11 1,oM 12 2,oC 13 140 [10,11,12],oM 8 13]
def ZQ.r2:List Oper:=[oM 14 8,oD 15 (.len 14),oD 16 (.eq false .sc 15 (cI 0))]
def ZQ.r3:List Oper:=[oM 6 (cI 0),oM 7 (cI 0)]
def ZQ.r4:List Oper:=[oD 17 (.fa 0 3),oD 18 (.ld false 1 17),oM 9 18]
def ZQ.r5:List Oper:=[oM 19 1]
def ZQ.r6:List Oper:=[oD 20 (.fa 1 3),oD 21 (.ld false 1 20),oM 9 21]
def ZQ.r7:List Oper:=[oM 22 9,oM 23 8,oD 24 (.ixa 1 23 (cI 0)),oD 25 (.ld false 1 24),oD 26 (.ixa 1 22 25),oD 27 (.ld false 1 26),oM 28 9,oM 29 8,oM 30 8,oD 31 (.len 30),oD 32 (.bin .sub 31 (cI 1)),oD 33 (.ixa 1 29 32),oD 34 (.ld false 1 33),oD 35 (.ixa 1 28 34),oD 36 (.ld false 1 35),oM 6 27,oM 7 36]
def ZQ.code:Code:=.seq ZQ.r0 (.seq ZQ.r1 (.seq (.seq ZQ.r2 (.cond 16 (.seq ZQ.r3 (.ret)) (.skip))) (.seq ZQ.r4 (.seq (.seq ZQ.r5 (.cond 19 ZQ.r6 (.skip))) (.seq (.draw ZQ.r7 [(3,12),(5,12),(3,14),(5,14)]) (.ret))))))
def ZQ:Func:=⟨37,[.t 6,.t 7],ZQ.code⟩
/-! muntin/arcs.Of -/
def Zaz.r0:List Oper:=[oD 2 (.alloc [.sn,.sn,.sn,.sn,.sn,.sn]),oM 3 (cI 0)]
def Zaz.r1:List Oper:=[oM 7 0,oC 8 120 [7],oM 6 8,oD 9 (.ext 6 0),oD 10 (.ext 6 1),oD 4 (.alloc [.sn,.sn,.sn,.sn]),oN (.st 4 4 9),oM 5 10]
def Zaz.r2:List Oper:=[oM 11 5,oD 12 (.eq true .sc 11 (cI 0))]
def Zaz.r3:List Oper:=[oD 13 (.build [.sn,.sn,.sn,.sn,.sn,.sn] []),oM 14 5,oN (.st 6 2 13),oM 3 14]
def Zaz.r4:List Oper:=[oD 15 (.ld true 4 4),oM 16 0,oD 17 (.fa 0 4),oD 18 (.ld false 1 17),oC 19 144 [16,.c (.n 0),18],oM 20 0,oD 21 (.fa 1 4),oD 22 (.ld false 1 21),oC 23 144 [20,.c (.n 1),22],oD 24 (.build [.sn,.sn,.sn,.sn,.sn,.sn] [(0,4,.t 15),(4,1,.t 19),(5,1,.t 23)]),oN (.st 6 2 24),oM 3 (cI 0)]
def Zaz.code:Code:=.seq Zaz.r0 (.seq Zaz.r1 (.seq (.seq Zaz.r2 (.cond 12 (.seq Zaz.r3 (.ret)) (.skip))) (.seq (.draw Zaz.r4 [(0,3),(0,4),(0,7),(3,7),(4,7),(0,8)]) (.ret))))
def Zaz:Func:=⟨25,[.cell 2 true 6,.t 3],Zaz.code⟩
/-! slices.Index[[]int,int] -/
def ZI.r0:List Oper:=[oM 4 (cI 0)]
def ZI.r1:List Oper:=[oM 6 0,oD 7 (.len 6),oM 8 (cI 0)]
def ZI.r2:List Oper:=[oD 9 (.bin .lss 8 7)]
def ZI.r3:List Oper:=[oM 10 8,oM 5 10]
def ZI.r4:List Oper:=[oM 11 1,oM 12 0,oM 13 5,oD 14 (.ixa 1 12 13),oD 15 (.ld false 1 14),oD 16 (.eq false .sc 11 15)]
def ZI.r5:List Oper:=[oM 17 5,oM 4 17]
def ZI.r6:List Oper:=[oD 18 (.bin .add 8 (cI 1)),oM 8 18]
def ZI.l0:Code:=.seq ZI.r2 (.seq (.cond 9 (.skip) (.exit 0)) (.seq (.block 1 (.seq ZI.r3 (.seq ZI.r4 (.cond 16 (.seq ZI.r5 (.ret)) (.skip))))) ZI.r6))
def ZI.r7:List Oper:=[oM 4 (cI (-1))]
def ZI.code:Code:=.seq ZI.r0 (.seq (.seq ZI.r1 (.block 0 (.loop ZI.l0))) (.seq ZI.r7 (.ret)))
def ZI:Func:=⟨19,[.t 4],ZI.code⟩
/-! muntin/seg.chains -/
def Zu.r0:List Oper:=[oM 4 (.c (.sn)),oM 5 (.c (.sn)),oM 6 (.c (.b false))]
def Zu.r1:List Oper:=[oD 15 (.bsl 1 1 [.n 0] [(0,1,.c (.n (-1)))]),oM 16 0,oD 17 (.len 16),oC 18 83 [15,17],oM 7 18]
def Zu.r2:List Oper:=[oM 19 1,oC 20 77 [19,.c (.n 2)],oM 8 20]
def Zu.r3:List Oper:=[oM 9 (.c (.sn))]
def Zu.r4:List Oper:=[oM 21 0,oD 22 (.len 21),oM 23 (cI 0)]
def Zu.r5:List Oper:=[oD 24 (.bin .lss 23 22)]
def Zu.r6:List Oper:=[oM 25 23,oM 10 25]
def Zu.r7:List Oper:=[oM 26 7,oM 27 10,oD 28 (.ixa 1 26 27),oD 29 (.ld false 1 28),oD 30 (.bin .geq 29 (cI 0))]
def Zu.r8:List Oper:=[oM 31 10,oM 11 31]
def Zu.r9:List Oper:=[oM 12 (cI 0)]
def Zu.r10:List Oper:=[oM 32 0,oM 33 11,oM 34 8,oD 35 (.ixa 8 32 33),oD 36 (.fa 0 35),oD 37 (.ixaa 1 4 36 34),oD 38 (.ld false 1 37),oD 39 (.bin .geq 38 (cI 0))]
def Zu.r12:List Oper:=[oM 42 12,oM 43 0,oD 44 (.len 43),oD 45 (.eq false .sc 42 44)]
def Zu.r13:List Oper:=[oM 4 (.c (.sn)),oM 5 (.c (.sn)),oM 6 (.c (.b false))]
def Zu.r14:List Oper:=[oM 46 0,oM 47 11,oM 48 8,oD 49 (.ixa 8 46 47),oD 50 (.fa 0 49),oD 51 (.ixaa 1 4 50 48),oD 52 (.ld false 1 51),oM 11 52]
def Zu.r11:List Oper:=[oM 40 12,oD 41 (.bin .add 40 (cI 1)),oM 12 41]
def Zu.l0:Code:=.seq (.seq Zu.r10 (.cond 39 (.skip) (.exit 2))) (.seq (.block 3 (.seq (.seq Zu.r12 (.cond 45 (.seq Zu.r13 (.ret)) (.skip))) Zu.r14)) Zu.r11)
def Zu.r15:List Oper:=[oM 13 (.c (.sn))]
def Zu.r16:List Oper:=[oM 53 11,oM 14 53]
def Zu.r17:List Oper:=[oM 54 14,oD 55 (.bin .geq 54 (cI 0))]
def Zu.r19:List Oper:=[oM 63 7,oM 64 14,oM 65 9,oD 66 (.len 65),oD 67 (.ixa 1 63 64),oN (.st 1 67 66)]
def Zu.r20:List Oper:=[oM 68 13,oM 69 14,oD 70 (.bsl 1 1 [.n 0] [(0,1,.t 69)]),oD 71 (.app 1 8 68 70),oM 13 71]
def Zu.r18:List Oper:=[oM 56 0,oM 57 14,oM 58 1,oD 59 (.ixa 8 56 57),oD 60 (.fa 0 59),oD 61 (.ixaa 1 4 60 58),oD 62 (.ld false 1 61),oM 14 62]
def Zu.l1:Code:=.seq (.seq Zu.r17 (.cond 55 (.skip) (.exit 4))) (.seq (.block 5 (.seq Zu.r19 Zu.r20)) Zu.r18)
def Zu.r21:List Oper:=[oM 72 9,oM 73 13,oD 74 (.bsl 1 1 [.sn] [(0,1,.t 73)]),oD 75 (.app 1 24 72 74),oM 9 75]
def Zu.r22:List Oper:=[oD 76 (.bin .add 23 (cI 1)),oM 23 76]
def Zu.l2:Code:=.seq Zu.r5 (.seq (.cond 24 (.skip) (.exit 0)) (.seq (.block 1 (.seq Zu.r6 (.seq (.seq Zu.r7 (.cond 30 (.exit 1) (.skip))) (.seq Zu.r8 (.seq (.seq Zu.r9 (.block 2 (.loop Zu.l0))) (.seq Zu.r15 (.seq (.seq Zu.r16 (.block 4 (.loop Zu.l1))) Zu.r21))))))) Zu.r22))
def Zu.r23:List Oper:=[oM 77 7,oM 78 9,oM 4 77,oM 5 78,oM 6 (.c (.b true))]
def Zu.code:Code:=.seq Zu.r0 (.seq Zu.r1 (.seq Zu.r2 (.seq Zu.r3 (.seq (.seq Zu.r4 (.block 0 (.loop Zu.l2))) (.seq Zu.r23 (.ret))))))
def Zu:Func:=⟨79,[.t 4,.t 5,.t 6],Zu.code⟩
/-! muntin/muntinref16.chains -/
def Ze.r0:List Oper:=[oM 4 (.c (.sn)),oM 5 (.c (.sn)),oM 6 (.c (.b false))]
def Ze.r1:List Oper:=[oM 15 0,oD 16 (.len 15),oD 17 (.mks 1 8 [.n 0] 16 16),oM 7 17]
def Ze.r2:List Oper:=[oM 8 (.c (.sn))]
def Ze.r3:List Oper:=[oM 9 (.c (.sn))]
def Ze.r4:List Oper:=[oM 10 (cI 0)]
def Ze.r5:List Oper:=[oM 18 10,oM 19 0,oD 20 (.len 19),oD 21 (.bin .lss 18 20)]
def Ze.r7:List Oper:=[oM 24 0,oM 25 10,oM 26 1,oC 27 150 [24,25,26],oM 11 27]
def Ze.r8:List Oper:=[oM 28 11,oD 29 (.bin .lss 28 (cI 0))]
def Ze.r9:List Oper:=[oM 4 (.c (.sn)),oM 5 (.c (.sn)),oM 6 (.c (.b false))]
def Ze.r10:List Oper:=[oM 12 (cI 0)]
def Ze.r11:List Oper:=[oM 30 12,oM 31 8,oD 32 (.len 31),oD 33 (.bin .lss 30 32),oM 34 33,oT 35 34 (.mv 8),oT 36 34 (.mv 12),oT 37 34 (.ixa 1 35 36),oT 38 34 (.ld false 1 37),oT 39 34 (.mv 11),oT 40 34 (.eq true .sc 38 39),oD 41 (.pick 34 40 (.c (.b false)))]
def Ze.r12:List Oper:=[oM 42 12,oD 43 (.bin .add 42 (cI 1)),oM 12 43]
def Ze.l0:Code:=.seq (.seq Ze.r11 (.cond 41 (.skip) (.exit 2))) (.block 3 Ze.r12)
def Ze.r13:List Oper:=[oM 44 7,oM 45 10,oM 46 12,oD 47 (.ixa 1 44 45),oN (.st 1 47 46)]
def Ze.r14:List Oper:=[oM 48 12,oM 49 8,oD 50 (.len 49),oD 51 (.eq false .sc 48 50)]
def Ze.r15:List Oper:=[oM 52 8,oM 53 11,oD 54 (.bsl 1 1 [.n 0] [(0,1,.t 53)]),oD 55 (.app 1 8 52 54),oM 8 55]
def Ze.r16:List Oper:=[oM 13 (.c (.sn))]
def Ze.r17:List Oper:=[oM 56 11,oM 14 56]
def Ze.r18:List Oper:=[oM 57 14,oD 58 (.bin .geq 57 (cI 0))]
def Ze.r20:List Oper:=[oM 66 13,oM 67 14,oD 68 (.bsl 1 1 [.n 0] [(0,1,.t 67)]),oD 69 (.app 1 8 66 68),oM 13 69]
def Ze.r19:List Oper:=[oM 59 0,oM 60 14,oM 61 1,oD 62 (.ixa 8 59 60),oD 63 (.fa 0 62),oD 64 (.ixaa 1 4 63 61),oD 65 (.ld false 1 64),oM 14 65]
def Ze.l1:Code:=.seq (.seq Ze.r18 (.cond 58 (.skip) (.exit 4))) (.seq (.block 5 Ze.r20) Ze.r19)
def Ze.r21:List Oper:=[oM 70 9,oM 71 13,oD 72 (.bsl 1 1 [.sn] [(0,1,.t 71)]),oD 73 (.app 1 24 70 72),oM 9 73]
def Ze.r6:List Oper:=[oM 22 10,oD 23 (.bin .add 22 (cI 1)),oM 10 23]
def Ze.l2:Code:=.seq (.seq Ze.r5 (.cond 21 (.skip) (.exit 0))) (.seq (.block 1 (.seq Ze.r7 (.seq (.seq Ze.r8 (.cond 29 (.seq Ze.r9 (.ret)) (.skip))) (.seq Ze.r10 (.seq (.block 2 (.loop Ze.l0)) (.seq Ze.r13 (.seq Ze.r14 (.cond 51 (.seq Ze.r15 (.seq Ze.r16 (.seq (.seq Ze.r17 (.block 4 (.loop Ze.l1))) Ze.r21))) (.skip))))))))) Ze.r6)
def Ze.r22:List Oper:=[oM 74 7,oM 75 9,oM 4 74,oM 5 75,oM 6 (.c (.b true))]
def Ze.code:Code:=.seq Ze.r0 (.seq Ze.r1 (.seq Ze.r2 (.seq Ze.r3 (.seq (.seq Ze.r4 (.block 0 (.loop Ze.l2))) (.seq Ze.r22 (.ret))))))
def Ze:Func:=⟨76,[.t 4,.t 5,.t 6],Ze.code⟩
/-! (muntin/seg.Chains).chain -/
def ZV.r0:List Oper:=[oD 3 (.box 0),oM 6 (.c (.sn))]
def ZV.r1:List Oper:=[oD 8 (.fa 3 3),oD 9 (.ld false 1 8),oM 7 9]
def ZV.r2:List Oper:=[oM 10 1]
def ZV.r3:List Oper:=[oD 11 (.fa 2 3),oD 12 (.ld false 1 11),oM 7 12]
def ZV.r4:List Oper:=[oM 13 2,oD 14 (.bin .lss 13 (cI 0)),oM 15 14,oF 16 15 (.mv 2),oF 17 15 (.mv 7),oF 18 15 (.len 17),oF 19 15 (.bin .geq 16 18),oD 20 (.pick 15 (.c (.b true)) 19)]
def ZV.r5:List Oper:=[oM 6 (.c (.sn))]
def ZV.r6:List Oper:=[oM 21 7,oM 22 2,oD 23 (.ixa 1 21 22),oD 24 (.ld false 1 23),oM 6 24]
def ZV.code:Code:=.seq ZV.r0 (.seq ZV.r1 (.seq (.seq ZV.r2 (.cond 10 ZV.r3 (.skip))) (.seq (.seq ZV.r4 (.cond 20 (.seq ZV.r5 (.ret)) (.skip))) (.seq ZV.r6 (.ret)))))
def ZV:Func:=⟨25,[.t 6],ZV.code⟩
/-! (muntin/seg.Chains).Meet$1 -/
def zG.r0:List Oper:=[oM 3 (.c (.b false))]
def zG.r1:List Oper:=[oD 4 (.ld false 1 1),oM 5 0,oC 6 118 [4,5],oM 3 6]
def zG.code:Code:=.seq zG.r0 (.seq zG.r1 (.ret))
def zG:Func:=⟨7,[.t 3],zG.code⟩
/-! muntin/arcs.graph -/
def ze.r0:List Oper:=[oM 6 (.c (.sn))]
def ze.r1:List Oper:=[oM 7 (.c (.sn))]
def ze.r2:List Oper:=[oM 11 0,oD 12 (.len 11),oM 13 (cI 0)]
def ze.r3:List Oper:=[oD 14 (.bin .lss 13 12)]
def ze.r4:List Oper:=[oM 15 13,oD 16 (.ixa 8 11 13),oD 17 (.ld true 8 16),oD 9 (.alloc [.n 0,.n 0,.n 0,.n 0,.n 0,.n 0,.n 0,.n 0]),oM 8 15,oN (.st 8 9 17)]
def ze.r5:List Oper:=[oM 18 1,oD 19 (.fa 0 9),oD 20 (.ixaa 1 4 19 18),oD 21 (.ld false 1 20),oM 10 21]
def ze.r6:List Oper:=[oM 22 10,oD 23 (.bin .geq 22 (cI 0))]
def ze.r7:List Oper:=[oM 24 7,oM 25 2,oM 26 8,oD 27 (.ixa 1 25 26),oD 28 (.ld false 1 27),oM 29 2,oM 30 10,oD 31 (.ixa 1 29 30),oD 32 (.ld false 1 31),oM 33 1,oD 34 (.fa 4 9),oD 35 (.ixaa 1 4 34 33),oD 36 (.ld false 1 35),oC 37 149 [36],oD 38 (.build [.n 0,.n 0,.n 0] [(0,1,.t 28),(1,1,.t 32),(2,1,.t 37)]),oD 39 (.bsl 3 1 [.n 0,.n 0,.n 0] [(0,3,.t 38)]),oD 40 (.app 3 24 24 39),oM 7 40]
def ze.r8:List Oper:=[oD 41 (.bin .add 13 (cI 1)),oM 13 41]
def ze.l0:Code:=.seq ze.r3 (.seq (.cond 14 (.skip) (.exit 0)) (.seq (.block 1 (.seq ze.r4 (.seq ze.r5 (.seq ze.r6 (.cond 23 (.draw ze.r7 [(4,8),(4,12),(8,12),(4,13),(8,13)]) (.skip)))))) ze.r8))
def ze.r9:List Oper:=[oM 42 7,oM 6 42]
def ze.code:Code:=.seq ze.r0 (.seq ze.r1 (.seq (.seq ze.r2 (.block 0 (.loop ze.l0))) (.seq ze.r9 (.ret))))
def ze:Func:=⟨43,[.t 6],ze.code⟩
/-! muntin/arcs.weight -/
def zT.r0:List Oper:=[oM 2 (cI 0)]
def zT.r1:List Oper:=[oM 3 0,oD 4 (.bin .geq 3 (cI 0))]
def zT.r2:List Oper:=[oM 2 (cI 1)]
def zT.r3:List Oper:=[oM 2 (cI 0)]
def zT.code:Code:=.seq zT.r0 (.seq (.seq zT.r1 (.cond 4 (.seq zT.r2 (.ret)) (.skip))) (.seq zT.r3 (.ret)))
def zT:Func:=⟨5,[.t 2],zT.code⟩
/-! muntin/muntinref16.First -/
def ZA.r0:List Oper:=[oM 6 (cI 0)]
def ZA.r1:List Oper:=[oM 7 (cI 0)]
def ZA.r2:List Oper:=[oM 9 7,oM 10 0,oD 11 (.len 10),oD 12 (.bin .leq 9 11)]
def ZA.r4:List Oper:=[oM 15 0,oM 16 1,oM 17 2,oD 18 (.bin .add 17 (cI 2)),oD 19 (.bin .rem 18 (cI 4)),oD 20 (.ixa 8 15 16),oD 21 (.fa 0 20),oD 22 (.ixaa 1 4 21 19),oD 23 (.ld false 1 22),oM 8 23]
def ZA.r5:List Oper:=[oM 24 8,oD 25 (.bin .lss 24 (cI 0))]
def ZA.r6:List Oper:=[oM 26 1,oM 6 26]
def ZA.r7:List Oper:=[oM 27 8,oM 1 27]
def ZA.r3:List Oper:=[oM 13 7,oD 14 (.bin .add 13 (cI 1)),oM 7 14]
def ZA.l0:Code:=.seq (.seq ZA.r2 (.cond 12 (.skip) (.exit 0))) (.seq (.block 1 (.seq ZA.r4 (.seq (.seq ZA.r5 (.cond 25 (.seq ZA.r6 (.ret)) (.skip))) ZA.r7))) ZA.r3)
def ZA.r8:List Oper:=[oM 6 (cI (-1))]
def ZA.code:Code:=.seq ZA.r0 (.seq (.seq ZA.r1 (.block 0 (.loop ZA.l0))) (.seq ZA.r8 (.ret)))
def ZA:Func:=⟨28,[.t 6],ZA.code⟩
/-! muntin/muntinlaw19.SepLines -/
def Zc.r0:List Oper:=[oD 2 (.box 0),oM 4 (.c (.b false))]
def Zc.r1:List Oper:=[oD 17 (.ld true 3 2),oC 18 28 [17,.c (.n 20)],oM 16 18,oD 19 (.ext 16 0),oD 20 (.ext 16 1),oM 5 19,oM 6 20]
def Zc.r2:List Oper:=[oM 21 5,oM 22 1,oM 23 1,oD 24 (.len 23),oD 25 (.mn [24,.c (.n 5)]),oD 26 (.slc 8 22 none (some 25) none),oD 27 (.bsl 1 2 [.sn] [(0,1,.t 21),(1,1,.t 26)]),oD 28 (.len 27),oM 29 (cI 0)]
def Zc.r3:List Oper:=[oD 30 (.bin .lss 29 28)]
def Zc.r4:List Oper:=[oD 31 (.ixa 1 27 29),oD 32 (.ld false 1 31),oM 8 32]
def Zc.r5:List Oper:=[oM 34 8,oC 35 187 [34],oM 33 35,oD 36 (.ext 33 0),oD 37 (.ext 33 1),oM 9 36,oM 10 37]
def Zc.r6:List Oper:=[oM 38 8,oC 39 34 [38],oM 11 39]
def Zc.r7:List Oper:=[oM 40 11,oD 41 (.eq true .sc 40 (cI 0))]
def Zc.r8:List Oper:=[oM 42 10,oM 43 11,oD 44 (.eq true .sc 42 43),oM 45 44,oF 46 45 (.mv 9),oF 47 45 (.len 46),oF 48 45 (.bin .gtr 47 (cI 0)),oD 49 (.pick 45 (.c (.b true)) 48)]
def Zc.r9:List Oper:=[oM 4 (.c (.b false))]
def Zc.r10:List Oper:=[oM 51 8,oC 52 121 [51],oM 50 52,oD 53 (.ext 50 0),oD 54 (.ext 50 1),oD 12 (.alloc [.sn,.sn,.sn,.sn]),oN (.st 4 12 53),oM 13 54]
def Zc.r11:List Oper:=[oM 55 13,oD 56 (.un .not 55)]
def Zc.r12:List Oper:=[oM 57 10,oD 58 (.eq true .sc 57 (cI 10)),oM 59 58,oF 60 59 (.mv 9),oF 61 59 (.len 60),oF 62 59 (.bin .gtr 61 (cI 0)),oD 63 (.pick 59 (.c (.b true)) 62)]
def Zc.r13:List Oper:=[oM 4 (.c (.b false))]
def Zc.r14:List Oper:=[oD 64 (.ld true 4 12),oC 65 188 [64],oM 14 65]
def Zc.r15:List Oper:=[oM 66 10,oD 67 (.eq true .sc 66 (cI 0)),oM 68 67,oF 69 68 (.mv 9),oF 70 68 (.len 69),oF 71 68 (.mv 14),oF 72 68 (.len 71),oF 73 68 (.eq true .sc 70 72),oD 74 (.pick 68 (.c (.b true)) 73)]
def Zc.r16:List Oper:=[oM 4 (.c (.b false))]
def Zc.r17:List Oper:=[oM 75 9,oD 76 (.len 75),oM 77 (cI 0)]
def Zc.r18:List Oper:=[oD 78 (.bin .lss 77 76)]
def Zc.r19:List Oper:=[oM 79 77,oM 15 79]
def Zc.r20:List Oper:=[oM 80 9,oM 81 15,oD 82 (.ixa 2 80 81),oD 83 (.fa 0 82),oD 84 (.ld false 1 83),oM 85 14,oM 86 15,oD 87 (.ixa 2 85 86),oD 88 (.fa 0 87),oD 89 (.ld false 1 88),oD 90 (.eq true .bl 84 89),oM 91 90,oF 92 91 (.mv 9),oF 93 91 (.mv 15),oF 94 91 (.ixa 2 92 93),oF 95 91 (.fa 1 94),oF 96 91 (.ld false 1 95),oF 97 91 (.mv 14),oF 98 91 (.mv 15),oF 99 91 (.ixa 2 97 98),oF 100 91 (.fa 1 99),oF 101 91 (.ld false 1 100),oF 102 91 (.eq true .sc 96 101),oD 103 (.pick 91 (.c (.b true)) 102)]
def Zc.r21:List Oper:=[oM 4 (.c (.b false))]
def Zc.r22:List Oper:=[oD 104 (.bin .add 77 (cI 1)),oM 77 104]
def Zc.l0:Code:=.seq Zc.r18 (.seq (.cond 78 (.skip) (.exit 2)) (.seq (.block 3 (.seq Zc.r19 (.seq (.draw Zc.r20 [(4,9),(16,21)]) (.cond 103 (.seq Zc.r21 (.ret)) (.skip))))) Zc.r22))
def Zc.r23:List Oper:=[oD 105 (.bin .add 29 (cI 1)),oM 29 105]
def Zc.l1:Code:=.seq Zc.r3 (.seq (.cond 30 (.skip) (.exit 0)) (.seq (.block 1 (.seq Zc.r4 (.seq Zc.r5 (.seq (.seq Zc.r6 (.seq Zc.r7 (.cond 41 (.seq (.seq Zc.r8 (.cond 49 (.seq Zc.r9 (.ret)) (.skip))) (.exit 1)) (.skip)))) (.seq Zc.r10 (.seq (.seq Zc.r11 (.cond 56 (.seq (.seq Zc.r12 (.cond 63 (.seq Zc.r13 (.ret)) (.skip))) (.exit 1)) (.skip))) (.seq Zc.r14 (.seq (.seq Zc.r15 (.cond 74 (.seq Zc.r16 (.ret)) (.skip))) (.seq Zc.r17 (.block 2 (.loop Zc.l0))))))))))) Zc.r23))
def Zc.r24:List Oper:=[oC 106 189 [],oM 4 106]
def Zc.code:Code:=.seq Zc.r0 (.seq Zc.r1 (.seq (.seq Zc.r2 (.block 0 (.loop Zc.l1))) (.seq Zc.r24 (.ret))))
def Zc:Func:=⟨107,[.t 4],Zc.code⟩
/-! muntin/valid.Check -/
def zd.r0:List Oper:=[oM 2 (cI 0)]
def zd.r1:List Oper:=[oM 6 0,oC 7 66 [6],oM 3 7]
def zd.r2:List Oper:=[oM 8 3,oD 9 (.eq true .sc 8 (cI 0))]
def zd.r3:List Oper:=[oM 10 3,oM 2 10]
def zd.r4:List Oper:=[oM 11 0,oC 12 32 [11],oD 13 (.un .not 12)]
def zd.r5:List Oper:=[oM 2 (cI 13)]
def zd.r6:List Oper:=[oM 15 0,oC 16 201 [15],oM 14 16,oD 17 (.ext 14 0),oD 18 (.ext 14 1),oM 4 17,oM 5 18]
def zd.r7:List Oper:=[oM 19 5,oD 20 (.un .not 19),oM 21 20,oT 22 21 (.mv 0),oT 23 21 (.len 22),oT 24 21 (.bin .gtr 23 (cI 1)),oD 25 (.pick 21 24 (.c (.b false)))]
def zd.r8:List Oper:=[oM 2 (cI 10)]
def zd.r9:List Oper:=[oM 2 (cI 0)]
def zd.code:Code:=.seq zd.r0 (.seq (.seq zd.r1 (.seq zd.r2 (.cond 9 (.seq zd.r3 (.ret)) (.skip)))) (.seq (.seq zd.r4 (.cond 13 (.seq zd.r5 (.ret)) (.skip))) (.seq (.seq zd.r6 (.seq zd.r7 (.cond 25 (.seq zd.r8 (.ret)) (.skip)))) (.seq zd.r9 (.ret)))))
def zd:Func:=⟨26,[.t 2],zd.code⟩
/-! muntin/sep.Lines -/
def Zab.r0:List Oper:=[oM 2 (.c (.sn)),oM 3 (cI 0)]
def Zab.r1:List Oper:=[oM 7 0,oC 8 120 [7],oM 6 8,oD 9 (.ext 6 0),oD 10 (.ext 6 1),oD 4 (.alloc [.sn,.sn,.sn,.sn]),oN (.st 4 4 9),oM 5 10]
def Zab.r2:List Oper:=[oM 11 5,oD 12 (.eq true .sc 11 (cI 0))]
def Zab.r3:List Oper:=[oM 13 5,oM 2 (.c (.sn)),oM 3 13]
def Zab.r4:List Oper:=[oD 14 (.ld true 4 4),oC 15 209 [14],oM 2 15,oM 3 (cI 0)]
def Zab.code:Code:=.seq Zab.r0 (.seq Zab.r1 (.seq (.seq Zab.r2 (.cond 12 (.seq Zab.r3 (.ret)) (.skip))) (.seq Zab.r4 (.ret))))
def Zab:Func:=⟨16,[.t 2,.t 3],Zab.code⟩
/-! muntin/muntinref19.Lines -/
def Zs.r0:List Oper:=[oD 1 (.box 0),oM 2 (.c (.sn))]
def Zs.r1:List Oper:=[oM 3 (.c (.sn))]
def Zs.r2:List Oper:=[oM 4 (cI 0)]
def Zs.r3:List Oper:=[oM 6 4,oD 7 (.fa 2 1),oD 8 (.ld false 1 7),oD 9 (.len 8),oD 10 (.bin .lss 6 9)]
def Zs.r5:List Oper:=[oD 13 (.fa 2 1),oD 14 (.ld false 1 13),oM 15 4,oD 16 (.ixa 1 14 15),oD 17 (.ld false 1 16),oD 18 (.len 17),oD 19 (.bin .gtr 18 (cI 1))]
def Zs.r6:List Oper:=[oM 20 3,oM 21 4,oD 22 (.build [.b false,.n 0] [(0,1,.c (.b true)),(1,1,.t 21)]),oD 23 (.bsl 2 1 [.b false,.n 0] [(0,2,.t 22)]),oD 24 (.app 2 16 20 23),oM 3 24]
def Zs.r4:List Oper:=[oM 11 4,oD 12 (.bin .add 11 (cI 1)),oM 4 12]
def Zs.l0:Code:=.seq (.seq Zs.r3 (.cond 10 (.skip) (.exit 0))) (.seq (.block 1 (.seq Zs.r5 (.cond 19 Zs.r6 (.skip)))) Zs.r4)
def Zs.r7:List Oper:=[oM 5 (cI 0)]
def Zs.r8:List Oper:=[oM 25 5,oD 26 (.fa 3 1),oD 27 (.ld false 1 26),oD 28 (.len 27),oD 29 (.bin .lss 25 28)]
def Zs.r10:List Oper:=[oD 32 (.fa 3 1),oD 33 (.ld false 1 32),oM 34 5,oD 35 (.ixa 1 33 34),oD 36 (.ld false 1 35),oD 37 (.len 36),oD 38 (.bin .gtr 37 (cI 1))]
def Zs.r11:List Oper:=[oM 39 3,oM 40 5,oD 41 (.build [.b false,.n 0] [(1,1,.t 40)]),oD 42 (.bsl 2 1 [.b false,.n 0] [(0,2,.t 41)]),oD 43 (.app 2 16 39 42),oM 3 43]
def Zs.r9:List Oper:=[oM 30 5,oD 31 (.bin .add 30 (cI 1)),oM 5 31]
def Zs.l1:Code:=.seq (.seq Zs.r8 (.cond 29 (.skip) (.exit 2))) (.seq (.block 3 (.seq Zs.r10 (.cond 38 Zs.r11 (.skip)))) Zs.r9)
def Zs.r12:List Oper:=[oM 44 3,oM 2 44]
def Zs.code:Code:=.seq Zs.r0 (.seq Zs.r1 (.seq (.seq Zs.r2 (.block 0 (.loop Zs.l0))) (.seq (.seq Zs.r7 (.block 2 (.loop Zs.l1))) (.seq Zs.r12 (.ret)))))
def Zs:Func:=⟨45,[.t 2],Zs.code⟩
/-! muntin/muntinlaw19.wakes -/
def zk.r0:List Oper:=[oM 0 (.c (.b false))]
def zk.r1:List Oper:=[oC 8 211 [],oC 9 210 [8],oM 7 9,oD 10 (.ext 7 0),oD 11 (.ext 7 1),oD 1 (.alloc [.sn,.sn,.sn,.sn,.sn,.sn,.sn]),oN (.st 7 1 10),oM 2 11]
def zk.r2:List Oper:=[oC 13 211 [],oC 14 187 [13],oM 12 14,oD 15 (.ext 12 0),oD 16 (.ext 12 1),oM 3 15,oM 4 16]
def zk.r3:List Oper:=[oC 18 46 [.c (.n 2)],oC 19 210 [18],oM 17 19,oD 20 (.ext 17 0),oD 21 (.ext 17 1),oD 5 (.alloc [.sn,.sn,.sn,.sn,.sn,.sn,.sn]),oN (.st 7 5 20),oM 6 21]
def zk.r4:List Oper:=[oM 22 2,oD 23 (.eq false .sc 22 (cI 0)),oM 24 23,oT 25 24 (.fa 6 1),oT 26 24 (.ld false 1 25),oT 27 24 (.len 26),oT 28 24 (.eq false .sc 27 (cI 0)),oD 29 (.pick 24 28 (.c (.b false))),oM 30 29,oT 31 30 (.fa 0 1),oT 32 30 (.fa 4 31),oT 33 30 (.ld false 1 32),oT 34 30 (.len 33),oT 35 30 (.bin .gtr 34 (cI 3)),oD 36 (.pick 30 35 (.c (.b false))),oM 37 36,oT 38 37 (.mv 4),oT 39 37 (.eq false .sc 38 (cI 0)),oD 40 (.pick 37 39 (.c (.b false))),oM 41 40,oT 42 41 (.mv 3),oT 43 41 (.len 42),oT 44 41 (.eq false .sc 43 (cI 5)),oD 45 (.pick 41 44 (.c (.b false))),oM 46 45,oT 47 46 (.mv 3),oT 48 46 (.ixa 2 47 (cI 0)),oT 49 46 (.fa 0 48),oT 50 46 (.ld false 1 49),oD 51 (.pick 46 50 (.c (.b false))),oM 52 51,oT 53 52 (.mv 6),oT 54 52 (.eq false .sc 53 (cI 13)),oD 55 (.pick 52 54 (.c (.b false))),oM 0 55]
def zk.code:Code:=.seq zk.r0 (.seq zk.r1 (.seq zk.r2 (.seq zk.r3 (.seq zk.r4 (.ret)))))
def zk:Func:=⟨56,[.t 0],zk.code⟩
/-! muntin/valid.outer -/
def ZD.r0:List Oper:=[oM 2 (cI 0),oM 3 (.c (.b false))]
def ZD.r1:List Oper:=[oM 10 0,oC 11 203 [10],oM 9 11,oD 12 (.ext 9 0),oD 13 (.ext 9 1),oM 4 12,oM 5 13]
def ZD.r2:List Oper:=[oM 6 (cI (-1))]
def ZD.r3:List Oper:=[oM 14 4,oD 15 (.len 14),oM 16 (cI 0)]
def ZD.r4:List Oper:=[oD 17 (.bin .lss 16 15)]
def ZD.r5:List Oper:=[oM 18 16,oD 19 (.ixa 1 14 16),oD 20 (.ld false 1 19),oM 7 18,oM 8 20]
def ZD.r6:List Oper:=[oM 21 0,oM 22 8,oC 23 204 [21,22],oC 24 219 [23]]
def ZD.r8:List Oper:=[oD 26 (.eq false .sc 24 (cI 4)),oM 25 26]
def ZD.r9:List Oper:=[oD 28 (.eq false .sc 24 (cI (-4))),oM 27 28]
def ZD.r10:List Oper:=[oM 29 6,oD 30 (.bin .geq 29 (cI 0))]
def ZD.r11:List Oper:=[oM 2 (cI 0),oM 3 (.c (.b false))]
def ZD.r12:List Oper:=[oM 31 7,oM 6 31]
def ZD.r7:List Oper:=[oM 2 (cI 0),oM 3 (.c (.b false))]
def ZD.r13:List Oper:=[oD 32 (.bin .add 16 (cI 1)),oM 16 32]
def ZD.l0:Code:=.seq ZD.r4 (.seq (.cond 17 (.skip) (.exit 0)) (.seq (.block 1 (.seq ZD.r5 (.seq ZD.r6 (.block 2 (.seq ZD.r8 (.cond 25 (.skip) (.seq ZD.r9 (.cond 27 (.seq (.seq ZD.r10 (.cond 30 (.seq ZD.r11 (.ret)) (.skip))) ZD.r12) (.seq ZD.r7 (.ret)))))))))) ZD.r13))
def ZD.r14:List Oper:=[oM 33 6,oM 34 6,oD 35 (.bin .geq 34 (cI 0)),oM 2 33,oM 3 35]
def ZD.code:Code:=.seq ZD.r0 (.seq ZD.r1 (.seq ZD.r2 (.seq (.seq ZD.r3 (.block 0 (.loop ZD.l0))) (.seq ZD.r14 (.ret)))))
def ZD:Func:=⟨36,[.t 2,.t 3],ZD.code⟩
/-! muntin/face.Faces -/
def Zq.r0:List Oper:=[oM 2 (.c (.sn)),oM 3 (cI 0)]
def Zq.r1:List Oper:=[oM 12 0,oC 13 66 [12],oM 4 13]
def Zq.r2:List Oper:=[oM 14 4,oD 15 (.eq true .sc 14 (cI 0))]
def Zq.r3:List Oper:=[oM 16 4,oM 2 (.c (.sn)),oM 3 16]
def Zq.r4:List Oper:=[oM 5 (.c (.sn))]
def Zq.r5:List Oper:=[oD 17 (.mkm),oM 6 17]
def Zq.r6:List Oper:=[oM 18 0,oD 19 (.len 18),oM 20 (cI 0)]
def Zq.r7:List Oper:=[oD 21 (.bin .lss 20 19)]
def Zq.r8:List Oper:=[oM 22 20,oM 7 22]
def Zq.r9:List Oper:=[oM 23 (cI 0)]
def Zq.r10:List Oper:=[oD 24 (.bin .lss 23 (cI 4))]
def Zq.r11:List Oper:=[oM 25 23,oM 8 25]
def Zq.r12:List Oper:=[oM 26 7,oM 27 8,oD 28 (.build [.n 0,.n 0] [(0,1,.t 26),(1,1,.t 27)]),oD 9 (.alloc [.n 0,.n 0]),oN (.st 2 9 28)]
def Zq.r13:List Oper:=[oD 29 (.ld true 2 9),oM 30 0,oC 31 220 [29,30],oD 32 (.un .not 31),oM 33 32,oF 34 33 (.mv 6),oF 35 33 (.ld true 2 9),oF 36 33 (.mlk [.i,.i] false (.b false) 34 35),oD 37 (.pick 33 (.c (.b true)) 36)]
def Zq.r14:List Oper:=[oM 10 (.c (.sn))]
def Zq.r15:List Oper:=[oD 38 (.ld true 2 9),oD 11 (.alloc [.n 0,.n 0]),oN (.st 2 11 38)]
def Zq.r16:List Oper:=[oM 39 6,oD 40 (.ld true 2 11),oD 41 (.mlk [.i,.i] false (.b false) 39 40),oD 42 (.un .not 41)]
def Zq.r18:List Oper:=[oM 46 6,oD 47 (.ld true 2 11),oN (.mup [.i,.i] 46 47 (.c (.b true)))]
def Zq.r19:List Oper:=[oM 48 10,oD 49 (.ld true 2 11),oD 50 (.bsl 2 1 [.n 0,.n 0] [(0,2,.t 49)]),oD 51 (.app 2 16 48 50),oM 10 51]
def Zq.r20:List Oper:=[oD 52 (.ld true 2 11)]
def Zq.r21:List Oper:=[oD 11 (.alloc [.n 0,.n 0]),oN (.st 2 11 52)]
def Zq.r17:List Oper:=[oD 43 (.ld true 2 11),oM 44 0,oC 45 221 [43,44],oN (.st 2 11 45)]
def Zq.l0:Code:=.seq (.seq Zq.r16 (.cond 42 (.skip) (.exit 4))) (.seq (.block 5 (.seq Zq.r18 Zq.r19)) (.seq (.seq Zq.r20 Zq.r21) Zq.r17))
def Zq.r22:List Oper:=[oM 53 5,oM 54 10,oD 55 (.bsl 1 1 [.sn] [(0,1,.t 54)]),oD 56 (.app 1 24 53 55),oM 5 56]
def Zq.r23:List Oper:=[oD 57 (.bin .add 23 (cI 1)),oM 23 57]
def Zq.l1:Code:=.seq Zq.r10 (.seq (.cond 24 (.skip) (.exit 2)) (.seq (.block 3 (.seq Zq.r11 (.seq Zq.r12 (.seq (.seq Zq.r13 (.cond 37 (.exit 3) (.skip))) (.seq Zq.r14 (.seq (.seq Zq.r15 (.block 4 (.loop Zq.l0))) Zq.r22)))))) Zq.r23))
def Zq.r24:List Oper:=[oD 58 (.bin .add 20 (cI 1)),oM 20 58]
def Zq.l2:Code:=.seq Zq.r7 (.seq (.cond 21 (.skip) (.exit 0)) (.seq (.block 1 (.seq Zq.r8 (.seq Zq.r9 (.block 2 (.loop Zq.l1))))) Zq.r24))
def Zq.r25:List Oper:=[oM 59 5,oM 2 59,oM 3 (cI 0)]
def Zq.code:Code:=.seq Zq.r0 (.seq (.seq Zq.r1 (.seq Zq.r2 (.cond 15 (.seq Zq.r3 (.ret)) (.skip)))) (.seq Zq.r4 (.seq Zq.r5 (.seq (.seq Zq.r6 (.block 0 (.loop Zq.l2))) (.seq Zq.r25 (.ret))))))
def Zq:Func:=⟨60,[.t 2,.t 3],Zq.code⟩
/-! muntin/face.Turns -/
def za.r0:List Oper:=[oM 4 (.c (.sn))]
def za.r1:List Oper:=[oM 8 1,oD 9 (.len 8),oD 10 (.mks 1 8 [.n 0] 9 9),oM 5 10]
def za.r2:List Oper:=[oM 11 0,oC 12 66 [11],oD 13 (.eq true .sc 12 (cI 0))]
def za.r3:List Oper:=[oM 14 5,oM 4 14]
def za.r4:List Oper:=[oM 15 1,oD 16 (.len 15),oM 17 (cI 0)]
def za.r5:List Oper:=[oD 18 (.bin .lss 17 16)]
def za.r6:List Oper:=[oM 19 17,oD 20 (.ixa 2 15 17),oD 21 (.ld true 2 20),oD 7 (.alloc [.n 0,.n 0]),oM 6 19,oN (.st 2 7 21)]
def za.r7:List Oper:=[oD 22 (.ld true 2 7),oM 23 0,oC 24 220 [22,23]]
def za.r8:List Oper:=[oM 25 5,oM 26 6,oD 27 (.fa 1 7),oD 28 (.ld false 1 27),oD 29 (.ld true 2 7),oM 30 0,oC 31 221 [29,30],oD 32 (.fld false 1 1 31),oC 33 222 [28,32],oD 34 (.ixa 1 25 26),oN (.st 1 34 33)]
def za.r9:List Oper:=[oD 35 (.bin .add 17 (cI 1)),oM 17 35]
def za.l0:Code:=.seq za.r5 (.seq (.cond 18 (.skip) (.exit 0)) (.seq (.block 1 (.seq za.r6 (.seq za.r7 (.cond 24 (.draw za.r8 [(3,4),(3,6)]) (.skip))))) za.r9))
def za.r10:List Oper:=[oM 36 5,oM 4 36]
def za.code:Code:=.seq za.r0 (.seq za.r1 (.seq (.seq za.r2 (.cond 13 (.seq za.r3 (.ret)) (.skip))) (.seq (.seq za.r4 (.block 0 (.loop za.l0))) (.seq za.r10 (.ret)))))
def za:Func:=⟨37,[.t 4],za.code⟩
/-! muntin/sep.lines -/
def ZM.r0:List Oper:=[oD 1 (.box 0),oM 2 (.c (.sn))]
def ZM.r1:List Oper:=[oM 3 (.c (.sn))]
def ZM.r2:List Oper:=[oD 8 (.fa 2 1),oD 9 (.ld false 1 8),oD 10 (.len 9),oM 11 (cI 0)]
def ZM.r3:List Oper:=[oD 12 (.bin .lss 11 10)]
def ZM.r4:List Oper:=[oM 13 11,oD 14 (.ixa 1 9 11),oD 15 (.ld false 1 14),oM 4 13,oM 5 15]
def ZM.r5:List Oper:=[oM 16 5,oD 17 (.len 16),oD 18 (.bin .gtr 17 (cI 1))]
def ZM.r6:List Oper:=[oM 19 3,oM 20 4,oD 21 (.build [.b false,.n 0] [(0,1,.c (.b true)),(1,1,.t 20)]),oD 22 (.bsl 2 1 [.b false,.n 0] [(0,2,.t 21)]),oD 23 (.app 2 16 19 22),oM 3 23]
def ZM.r7:List Oper:=[oD 24 (.bin .add 11 (cI 1)),oM 11 24]
def ZM.l0:Code:=.seq ZM.r3 (.seq (.cond 12 (.skip) (.exit 0)) (.seq (.block 1 (.seq ZM.r4 (.seq ZM.r5 (.cond 18 ZM.r6 (.skip))))) ZM.r7))
def ZM.r8:List Oper:=[oD 25 (.fa 3 1),oD 26 (.ld false 1 25),oD 27 (.len 26),oM 28 (cI 0)]
def ZM.r9:List Oper:=[oD 29 (.bin .lss 28 27)]
def ZM.r10:List Oper:=[oM 30 28,oD 31 (.ixa 1 26 28),oD 32 (.ld false 1 31),oM 6 30,oM 7 32]
def ZM.r11:List Oper:=[oM 33 7,oD 34 (.len 33),oD 35 (.bin .gtr 34 (cI 1))]
def ZM.r12:List Oper:=[oM 36 3,oM 37 6,oD 38 (.build [.b false,.n 0] [(0,1,.c (.b false)),(1,1,.t 37)]),oD 39 (.bsl 2 1 [.b false,.n 0] [(0,2,.t 38)]),oD 40 (.app 2 16 36 39),oM 3 40]
def ZM.r13:List Oper:=[oD 41 (.bin .add 28 (cI 1)),oM 28 41]
def ZM.l1:Code:=.seq ZM.r9 (.seq (.cond 29 (.skip) (.exit 2)) (.seq (.block 3 (.seq ZM.r10 (.seq ZM.r11 (.cond 35 ZM.r12 (.skip))))) ZM.r13))
def ZM.r14:List Oper:=[oM 42 3,oM 2 42]
def ZM.code:Code:=.seq ZM.r0 (.seq ZM.r1 (.seq (.seq ZM.r2 (.block 0 (.loop ZM.l0))) (.seq (.seq ZM.r8 (.block 2 (.loop ZM.l1))) (.seq ZM.r14 (.ret)))))
def ZM:Func:=⟨43,[.t 2],ZM.code⟩
/-! muntin/sep.Settle -/
def Zv.r0:List Oper:=[oD 2 (.alloc [.sn,.sn,.sn,.sn,.sn,.sn,.sn]),oM 3 (cI 0)]
def Zv.r1:List Oper:=[oM 15 0,oC 16 176 [15],oM 4 16]
def Zv.r2:List Oper:=[oM 17 4,oD 18 (.eq true .sc 17 (cI 0))]
def Zv.r3:List Oper:=[oD 19 (.build [.sn,.sn,.sn,.sn,.sn,.sn,.sn] []),oM 20 4,oN (.st 7 2 19),oM 3 20]
def Zv.r4:List Oper:=[oM 22 0,oC 23 226 [22],oM 21 23,oD 24 (.ext 21 0),oD 25 (.ext 21 1),oM 5 24,oM 6 25]
def Zv.r5:List Oper:=[oM 7 (.c (.b true))]
def Zv.r6:List Oper:=[oM 26 7]
def Zv.r7:List Oper:=[oM 7 (.c (.b false))]
def Zv.r8:List Oper:=[oM 8 (.c (.sn))]
def Zv.r9:List Oper:=[oM 27 6,oD 28 (.len 27),oM 29 (cI 0)]
def Zv.r10:List Oper:=[oD 30 (.bin .lss 29 28)]
def Zv.r11:List Oper:=[oD 31 (.ixa 2 27 29),oD 32 (.ld true 2 31),oD 10 (.alloc [.n 0,.n 0]),oN (.st 2 10 32)]
def Zv.r12:List Oper:=[oM 34 5,oD 35 (.ixaa 1 2 10 (cI 0)),oD 36 (.ld false 1 35),oD 37 (.ixaa 1 2 10 (cI 1)),oD 38 (.ld false 1 37),oC 39 227 [34,36,38],oM 33 39,oD 40 (.ext 33 0),oD 41 (.ext 33 1),oM 11 40,oM 12 41]
def Zv.r13:List Oper:=[oM 42 7,oM 43 42,oF 44 43 (.mv 12),oD 45 (.pick 43 (.c (.b true)) 44),oM 7 45]
def Zv.r14:List Oper:=[oM 46 11,oD 47 (.un .not 46)]
def Zv.r15:List Oper:=[oM 48 8,oD 49 (.ld true 2 10),oD 50 (.bsl 2 1 [.n 0,.n 0] [(0,2,.t 49)]),oD 51 (.app 2 16 48 50),oM 8 51]
def Zv.r16:List Oper:=[oD 52 (.bin .add 29 (cI 1)),oM 29 52]
def Zv.l0:Code:=.seq Zv.r10 (.seq (.cond 30 (.skip) (.exit 2)) (.seq (.block 3 (.seq Zv.r11 (.seq Zv.r12 (.seq Zv.r13 (.seq Zv.r14 (.cond 47 Zv.r15 (.skip))))))) Zv.r16))
def Zv.r17:List Oper:=[oM 53 8,oM 6 53]
def Zv.l1:Code:=.seq (.seq Zv.r6 (.cond 26 (.skip) (.exit 0))) (.block 1 (.seq Zv.r7 (.seq Zv.r8 (.seq (.seq Zv.r9 (.block 2 (.loop Zv.l0))) Zv.r17))))
def Zv.r18:List Oper:=[oM 54 6,oD 55 (.len 54),oM 56 (cI 0)]
def Zv.r19:List Oper:=[oD 57 (.bin .lss 56 55)]
def Zv.r20:List Oper:=[oD 58 (.ixa 2 54 56),oD 59 (.ld true 2 58),oD 14 (.alloc [.n 0,.n 0]),oN (.st 2 14 59)]
def Zv.r21:List Oper:=[oM 60 5,oM 61 5,oD 62 (.nilck 61),oD 63 (.fa 0 62),oD 64 (.fa 6 63),oD 65 (.ld false 1 64),oM 66 5,oD 67 (.nilck 66),oD 68 (.fa 9 67),oD 69 (.ld false 1 68),oD 70 (.ixaa 1 2 14 (cI 0)),oD 71 (.ld false 1 70),oD 72 (.ixa 2 69 71),oD 73 (.ld true 2 72),oM 74 5,oD 75 (.nilck 74),oD 76 (.fa 9 75),oD 77 (.ld false 1 76),oD 78 (.ixaa 1 2 14 (cI 1)),oD 79 (.ld false 1 78),oD 80 (.ixa 2 77 79),oD 81 (.ld true 2 80),oD 82 (.build [.b false,.n 0,.b false,.n 0] [(0,2,.t 73),(2,2,.t 81)]),oD 83 (.bsl 4 1 [.b false,.n 0,.b false,.n 0] [(0,4,.t 82)]),oD 84 (.app 4 32 65 83),oD 85 (.nilck 60),oD 86 (.fa 0 85),oD 87 (.fa 6 86),oN (.st 1 87 84)]
def Zv.r22:List Oper:=[oD 88 (.bin .add 56 (cI 1)),oM 56 88]
def Zv.l2:Code:=.seq Zv.r19 (.seq (.cond 57 (.skip) (.exit 4)) (.seq (.block 5 (.seq Zv.r20 (.draw Zv.r21 [(5,9),(5,11),(9,11),(5,13),(5,17),(9,17),(11,17),(13,17),(5,19),(9,19),(11,19),(13,19),(17,19),(5,21),(9,21),(11,21),(13,21),(5,23)]))) Zv.r22))
def Zv.r23:List Oper:=[oM 89 5,oD 90 (.nilck 89),oD 91 (.fa 0 90),oD 92 (.ld true 7 91),oN (.st 7 2 92),oM 3 (cI 0)]
def Zv.code:Code:=.seq Zv.r0 (.seq (.seq Zv.r1 (.seq Zv.r2 (.cond 18 (.seq Zv.r3 (.ret)) (.skip)))) (.seq Zv.r4 (.seq (.seq Zv.r5 (.block 0 (.loop Zv.l1))) (.seq (.seq Zv.r18 (.block 4 (.loop Zv.l2))) (.seq Zv.r23 (.ret))))))
def Zv:Func:=⟨93,[.cell 2 true 7,.t 3],Zv.code⟩
/-! muntin/muntinlaw19.stick -/
def ZE.r0:List Oper:=[oM 0 (.c (.sn))]
def ZE.r1:List Oper:=[oC 4 46 [.c (.n 6)],oM 1 4]
def ZE.r2:List Oper:=[oD 5 (.build [.n 0,.n 0,.n 0] [(0,1,.c (.n 0)),(1,1,.c (.n 0)),(2,1,.c (.n 1))]),oD 6 (.build [.n 0,.n 0,.n 0] [(0,1,.c (.n 1)),(1,1,.c (.n 1)),(2,1,.c (.n 2))]),oD 7 (.build [.n 0,.n 0,.n 0] [(0,1,.c (.n 2)),(1,1,.c (.n 2)),(2,1,.c (.n 3))]),oD 8 (.build [.n 0,.n 0,.n 0] [(0,1,.c (.n 3)),(1,1,.c (.n 3)),(2,1,.c (.n 4))]),oD 9 (.build [.n 0,.n 0,.n 0] [(0,1,.c (.n 4)),(1,1,.c (.n 3)),(2,1,.c (.n 0))]),oD 10 (.build [.n 0,.n 0,.n 0] [(0,1,.c (.n 4)),(1,1,.c (.n 0)),(2,1,.c (.n 5))]),oD 11 (.bsl 3 6 [.n 0,.n 0,.n 0] [(0,3,.t 5),(3,3,.t 6),(6,3,.t 7),(9,3,.t 8),(12,3,.t 9),(15,3,.t 10)]),oD 12 (.len 11),oM 13 (cI 0)]
def ZE.r3:List Oper:=[oD 14 (.bin .lss 13 12)]
def ZE.r4:List Oper:=[oD 15 (.ixa 3 11 13),oD 16 (.ld true 3 15),oD 3 (.alloc [.n 0,.n 0,.n 0]),oN (.st 3 3 16)]
def ZE.r5:List Oper:=[oM 18 1,oD 19 (.ixaa 1 3 3 (cI 0)),oD 20 (.ld false 1 19),oD 21 (.ixaa 1 3 3 (cI 1)),oD 22 (.ld false 1 21),oD 23 (.ixaa 1 3 3 (cI 2)),oD 24 (.ld false 1 23),oC 25 53 [18,20,22,24,.c (.n 0)],oM 17 25,oD 26 (.ext 17 0),oD 27 (.ext 17 1),oM 1 26]
def ZE.r6:List Oper:=[oD 28 (.bin .add 13 (cI 1)),oM 13 28]
def ZE.l0:Code:=.seq ZE.r3 (.seq (.cond 14 (.skip) (.exit 0)) (.seq (.block 1 (.seq ZE.r4 ZE.r5)) ZE.r6))
def ZE.r7:List Oper:=[oM 29 1,oM 0 29]
def ZE.code:Code:=.seq ZE.r0 (.seq ZE.r1 (.seq (.seq ZE.r2 (.block 0 (.loop ZE.l0))) (.seq ZE.r7 (.ret))))
def ZE:Func:=⟨30,[.t 0],ZE.code⟩
/-! muntin/face.Rotation -/
def ZP.r0:List Oper:=[oM 2 (cI 0)]
def ZP.r1:List Oper:=[oM 3 (cI 0)]
def ZP.r2:List Oper:=[oM 6 0,oD 7 (.len 6),oM 8 (cI 0)]
def ZP.r3:List Oper:=[oD 9 (.bin .lss 8 7)]
def ZP.r4:List Oper:=[oD 10 (.ixa 1 6 8),oD 11 (.ld false 1 10),oM 5 11]
def ZP.r5:List Oper:=[oM 12 5,oD 13 (.bin .geq 12 (cI (-2))),oM 14 13,oT 15 14 (.mv 5),oT 16 14 (.bin .leq 15 (cI 1)),oD 17 (.pick 14 16 (.c (.b false)))]
def ZP.r6:List Oper:=[oM 18 3,oM 19 5,oD 20 (.bin .add 18 19),oM 3 20]
def ZP.r7:List Oper:=[oD 21 (.bin .add 8 (cI 1)),oM 8 21]
def ZP.l0:Code:=.seq ZP.r3 (.seq (.cond 9 (.skip) (.exit 0)) (.seq (.block 1 (.seq ZP.r4 (.seq ZP.r5 (.cond 17 ZP.r6 (.skip))))) ZP.r7))
def ZP.r8:List Oper:=[oM 22 3,oM 2 22]
def ZP.code:Code:=.seq ZP.r0 (.seq ZP.r1 (.seq (.seq ZP.r2 (.block 0 (.loop ZP.l0))) (.seq ZP.r8 (.ret))))
def ZP:Func:=⟨23,[.t 2],ZP.code⟩
/-! (muntin/face.Dart).is -/
def Zas.r0:List Oper:=[oD 2 (.box 0),oM 4 (.c (.b false))]
def Zas.r1:List Oper:=[oD 5 (.fa 0 2),oD 6 (.ld false 1 5),oD 7 (.bin .geq 6 (cI 0)),oM 8 7,oT 9 8 (.fa 0 2),oT 10 8 (.ld false 1 9),oT 11 8 (.mv 1),oT 12 8 (.len 11),oT 13 8 (.bin .lss 10 12),oD 14 (.pick 8 13 (.c (.b false))),oM 15 14,oT 16 15 (.fa 1 2),oT 17 15 (.ld false 1 16),oT 18 15 (.call (.c (.f 90 [])) [17]),oD 19 (.pick 15 18 (.c (.b false))),oM 20 19,oT 21 20 (.mv 1),oT 22 20 (.fa 0 2),oT 23 20 (.ld false 1 22),oT 24 20 (.fa 1 2),oT 25 20 (.ld false 1 24),oT 26 20 (.ixa 8 21 23),oT 27 20 (.fa 0 26),oT 28 20 (.ixaa 1 4 27 25),oT 29 20 (.ld false 1 28),oT 30 20 (.bin .geq 29 (cI 0)),oD 31 (.pick 20 30 (.c (.b false))),oM 4 31]
def Zas.code:Code:=.seq Zas.r0 (.seq (.draw Zas.r1 [(18,20)]) (.ret))
def Zas:Func:=⟨32,[.t 4],Zas.code⟩
/-! (muntin/face.Dart).behind -/
def Z8.r0:List Oper:=[oD 2 (.box 0),oD 4 (.alloc [.n 0,.n 0])]
def Z8.r1:List Oper:=[oM 9 1,oD 10 (.fa 0 2),oD 11 (.ld false 1 10),oD 12 (.fa 1 2),oD 13 (.ld false 1 12),oD 14 (.ixa 8 9 11),oD 15 (.fa 0 14),oD 16 (.ixaa 1 4 15 13),oD 17 (.ld false 1 16),oM 5 17]
def Z8.r2:List Oper:=[oD 18 (.build [.n 0,.n 0,.n 0,.n 0] [(0,1,.c (.n 1)),(1,1,.c (.n 0)),(2,1,.c (.n (-1))),(3,1,.c (.n 2))]),oM 19 (cI 0)]
def Z8.r3:List Oper:=[oD 20 (.bin .lss 19 (cI 4))]
def Z8.r4:List Oper:=[oD 21 (.ix false 1 4 18 19),oM 7 21]
def Z8.r5:List Oper:=[oM 22 5,oD 23 (.fa 1 2),oD 24 (.ld false 1 23),oM 25 7,oC 26 77 [24,25],oD 27 (.build [.n 0,.n 0] [(0,1,.t 22),(1,1,.t 26)]),oD 8 (.alloc [.n 0,.n 0]),oN (.st 2 8 27)]
def Z8.r6:List Oper:=[oD 28 (.ld true 2 8),oM 29 1,oC 30 220 [28,29]]
def Z8.r7:List Oper:=[oD 31 (.ld true 2 8),oN (.st 2 4 31)]
def Z8.r8:List Oper:=[oD 32 (.bin .add 19 (cI 1)),oM 19 32]
def Z8.l0:Code:=.seq Z8.r3 (.seq (.cond 20 (.skip) (.exit 0)) (.seq (.block 1 (.seq Z8.r4 (.seq Z8.r5 (.seq Z8.r6 (.cond 30 (.seq Z8.r7 (.ret)) (.skip)))))) Z8.r8))
def Z8.r9:List Oper:=[oD 33 (.ld true 2 2),oN (.st 2 4 33)]
def Z8.code:Code:=.seq Z8.r0 (.seq (.draw Z8.r1 [(2,4)]) (.seq (.seq Z8.r2 (.block 0 (.loop Z8.l0))) (.seq Z8.r9 (.ret))))
def Z8:Func:=⟨34,[.cell 4 true 2],Z8.code⟩
/-! muntin/compass.Turn -/
def zL.r0:List Oper:=[oM 4 (cI 0)]
def zL.r1:List Oper:=[oM 5 0,oC 6 90 [5],oD 7 (.un .not 6),oM 8 7,oF 9 8 (.mv 1),oF 10 8 (.call (.c (.f 90 [])) [9]),oF 11 8 (.un .not 10),oD 12 (.pick 8 (.c (.b true)) 11)]
def zL.r2:List Oper:=[oM 4 (cI 0)]
def zL.r3:List Oper:=[oD 13 (.build [.n 0,.n 0,.n 0,.n 0] [(0,1,.c (.n 0)),(1,1,.c (.n 1)),(2,1,.c (.n (-2))),(3,1,.c (.n (-1)))]),oM 14 1,oM 15 0,oD 16 (.bin .sub 14 15),oD 17 (.bin .add 16 (cI 4)),oD 18 (.bin .rem 17 (cI 4)),oD 19 (.ix false 1 4 13 18),oM 4 19]
def zL.code:Code:=.seq zL.r0 (.seq (.seq zL.r1 (.cond 12 (.seq zL.r2 (.ret)) (.skip))) (.seq zL.r3 (.ret)))
def zL:Func:=⟨20,[.t 4],zL.code⟩
/-! muntin/sep.start -/
def Zm.r0:List Oper:=[oM 2 (.c (.pn)),oM 3 (.c (.sn))]
def Zm.r1:List Oper:=[oM 19 0,oC 20 129 [19],oM 18 20,oD 21 (.ext 18 0),oD 22 (.ext 18 1),oD 4 (.alloc [.sn,.sn,.sn,.sn,.sn,.sn]),oN (.st 6 4 21),oM 5 22]
def Zm.r2:List Oper:=[oD 23 (.ld true 6 4),oD 24 (.build [.sn,.sn,.sn,.sn,.sn,.sn,.sn] [(0,6,.t 23)]),oD 25 (.fa 0 4),oD 26 (.ld true 4 25),oC 27 209 [26],oD 28 (.build [.sn,.sn,.sn,.sn,.sn,.sn,.sn,.pn,.pn,.sn,.sn] [(0,7,.t 24),(9,1,.t 27)]),oD 29 (.box 28),oM 6 29]
def Zm.r3:List Oper:=[oM 31 6,oD 32 (.fa 0 4),oD 33 (.fa 2 32),oD 34 (.ld false 1 33),oD 35 (.len 34),oC 36 232 [35],oM 30 36,oD 37 (.ext 30 0),oD 38 (.ext 30 1),oD 39 (.nilck 31),oD 40 (.fa 7 39),oN (.st 1 40 37)]
def Zm.r4:List Oper:=[oM 42 6,oD 43 (.fa 0 4),oD 44 (.fa 3 43),oD 45 (.ld false 1 44),oD 46 (.len 45),oC 47 232 [46],oM 41 47,oD 48 (.ext 41 0),oD 49 (.ext 41 1),oD 50 (.nilck 42),oD 51 (.fa 8 50),oN (.st 1 51 48)]
def Zm.r5:List Oper:=[oD 52 (.fa 4 4),oD 53 (.ld false 1 52),oD 54 (.len 53),oM 55 (cI 0)]
def Zm.r6:List Oper:=[oD 56 (.bin .lss 55 54)]
def Zm.r7:List Oper:=[oD 57 (.ixa 3 53 55),oD 58 (.ld true 3 57),oD 8 (.alloc [.n 0,.n 0,.n 0]),oN (.st 3 8 58)]
def Zm.r8:List Oper:=[oM 59 6,oD 60 (.nilck 59),oD 61 (.fa 7 60),oD 62 (.ld false 1 61),oD 63 (.fa 0 8),oD 64 (.ld false 1 63),oD 65 (.fa 1 8),oD 66 (.ld false 1 65),oC 67 233 [62,64,66]]
def Zm.r9:List Oper:=[oD 68 (.bin .add 55 (cI 1)),oM 55 68]
def Zm.l0:Code:=.seq Zm.r6 (.seq (.cond 56 (.skip) (.exit 0)) (.seq (.block 1 (.seq Zm.r7 (.draw Zm.r8 [(3,5),(3,7),(5,7)]))) Zm.r9))
def Zm.r10:List Oper:=[oD 69 (.fa 5 4),oD 70 (.ld false 1 69),oD 71 (.len 70),oM 72 (cI 0)]
def Zm.r11:List Oper:=[oD 73 (.bin .lss 72 71)]
def Zm.r12:List Oper:=[oD 74 (.ixa 3 70 72),oD 75 (.ld true 3 74),oD 10 (.alloc [.n 0,.n 0,.n 0]),oN (.st 3 10 75)]
def Zm.r13:List Oper:=[oM 76 6,oD 77 (.nilck 76),oD 78 (.fa 8 77),oD 79 (.ld false 1 78),oD 80 (.fa 0 10),oD 81 (.ld false 1 80),oD 82 (.fa 1 10),oD 83 (.ld false 1 82),oC 84 233 [79,81,83]]
def Zm.r14:List Oper:=[oD 85 (.bin .add 72 (cI 1)),oM 72 85]
def Zm.l1:Code:=.seq Zm.r11 (.seq (.cond 73 (.skip) (.exit 2)) (.seq (.block 3 (.seq Zm.r12 (.draw Zm.r13 [(3,5),(3,7),(5,7)]))) Zm.r14))
def Zm.r15:List Oper:=[oM 86 6,oD 87 (.nilck 86),oD 88 (.fa 9 87),oD 89 (.ld false 1 88),oD 90 (.len 89),oM 91 (cI 0)]
def Zm.r16:List Oper:=[oD 92 (.bin .lss 91 90)]
def Zm.r17:List Oper:=[oD 93 (.ixa 2 89 91),oD 94 (.ld true 2 93),oD 12 (.alloc [.b false,.n 0]),oN (.st 2 12 94)]
def Zm.r18:List Oper:=[oM 95 6,oM 96 6,oD 97 (.nilck 96),oD 98 (.fa 10 97),oD 99 (.ld false 1 98),oD 100 (.fa 0 4),oD 101 (.ld true 4 100),oD 102 (.ld true 2 12),oC 103 234 [101,102],oD 104 (.bsl 4 1 [.n 0,.n 0,.n 0,.n 0] [(0,4,.t 103)]),oD 105 (.app 4 32 99 104),oD 106 (.nilck 95),oD 107 (.fa 10 106),oN (.st 1 107 105)]
def Zm.r19:List Oper:=[oD 108 (.bin .add 91 (cI 1)),oM 91 108]
def Zm.l2:Code:=.seq Zm.r16 (.seq (.cond 92 (.skip) (.exit 4)) (.seq (.block 5 (.seq Zm.r17 (.draw Zm.r18 [(4,6),(4,7),(6,7),(4,8),(4,9)]))) Zm.r19))
def Zm.r20:List Oper:=[oM 13 (.c (.sn))]
def Zm.r21:List Oper:=[oM 109 6,oD 110 (.nilck 109),oD 111 (.fa 9 110),oD 112 (.ld false 1 111),oD 113 (.len 112),oM 114 (cI 0)]
def Zm.r22:List Oper:=[oD 115 (.bin .lss 114 113)]
def Zm.r23:List Oper:=[oM 116 114,oD 117 (.ixa 2 112 114),oD 118 (.ld true 2 117),oD 15 (.alloc [.b false,.n 0]),oM 14 116,oN (.st 2 15 118)]
def Zm.r24:List Oper:=[oM 119 14,oD 120 (.bin .add 119 (cI 1)),oM 16 120]
def Zm.r25:List Oper:=[oM 121 16,oM 122 6,oD 123 (.nilck 122),oD 124 (.fa 9 123),oD 125 (.ld false 1 124),oD 126 (.len 125),oD 127 (.bin .lss 121 126)]
def Zm.r27:List Oper:=[oM 130 6,oD 131 (.nilck 130),oD 132 (.fa 9 131),oD 133 (.ld false 1 132),oM 134 16,oD 135 (.ixa 2 133 134),oD 136 (.ld true 2 135),oD 17 (.alloc [.b false,.n 0]),oN (.st 2 17 136)]
def Zm.r28:List Oper:=[oD 137 (.fa 0 4),oD 138 (.ld true 4 137),oD 139 (.fa 0 15),oD 140 (.ld false 1 139),oD 141 (.fa 1 15),oD 142 (.ld false 1 141),oD 143 (.fa 0 17),oD 144 (.ld false 1 143),oD 145 (.fa 1 17),oD 146 (.ld false 1 145),oC 147 123 [138,140,142,144,146],oD 148 (.un .not 147)]
def Zm.r29:List Oper:=[oM 149 13,oM 150 14,oM 151 16,oD 152 (.build [.n 0,.n 0] [(0,1,.t 150),(1,1,.t 151)]),oD 153 (.bsl 2 1 [.n 0,.n 0] [(0,2,.t 152)]),oD 154 (.app 2 16 149 153),oM 13 154]
def Zm.r26:List Oper:=[oM 128 16,oD 129 (.bin .add 128 (cI 1)),oM 16 129]
def Zm.l3:Code:=.seq (.seq Zm.r25 (.cond 127 (.skip) (.exit 8))) (.seq (.block 9 (.seq Zm.r27 (.seq Zm.r28 (.cond 148 Zm.r29 (.skip))))) Zm.r26)
def Zm.r30:List Oper:=[oD 155 (.bin .add 114 (cI 1)),oM 114 155]
def Zm.l4:Code:=.seq Zm.r22 (.seq (.cond 115 (.skip) (.exit 6)) (.seq (.block 7 (.seq Zm.r23 (.seq Zm.r24 (.block 8 (.loop Zm.l3))))) Zm.r30))
def Zm.r31:List Oper:=[oM 156 6,oM 157 13,oM 2 156,oM 3 157]
def Zm.code:Code:=.seq Zm.r0 (.seq Zm.r1 (.seq (.draw Zm.r2 [(0,3),(0,4)]) (.seq Zm.r3 (.seq Zm.r4 (.seq (.seq Zm.r5 (.block 0 (.loop Zm.l0))) (.seq (.seq Zm.r10 (.block 2 (.loop Zm.l1))) (.seq (.seq Zm.r15 (.block 4 (.loop Zm.l2))) (.seq Zm.r20 (.seq (.seq Zm.r21 (.block 6 (.loop Zm.l4))) (.seq Zm.r31 (.ret)))))))))))
def Zm:Func:=⟨158,[.t 2,.t 3],Zm.code⟩
/-! (*muntin/sep.settler).look -/
def ZH.r0:List Oper:=[oD 3 (.box 0),oM 6 (.c (.b false)),oM 7 (.c (.b false))]
def ZH.r1:List Oper:=[oD 10 (.ld false 1 3),oM 11 1,oM 12 2,oC 13 235 [10,11,12],oD 8 (.alloc [.b false,.n 0,.n 0,.b false,.n 0,.n 0,.b false,.n 0,.n 0,.b false,.n 0,.n 0]),oN (.st 12 8 13)]
def ZH.r2:List Oper:=[oD 14 (.slca 3 4 8 none none none),oD 15 (.ld false 1 3),oD 16 (.clo 1000237 [15]),oC 17 236 [14,16]]
def ZH.r3:List Oper:=[oM 6 (.c (.b true)),oM 7 (.c (.b false))]
def ZH.r4:List Oper:=[oD 18 (.slca 3 4 8 none none none),oD 19 (.clo 239 [3]),oC 20 238 [18,19],oM 9 20]
def ZH.r5:List Oper:=[oM 21 9,oD 22 (.len 21),oD 23 (.eq true .sc 22 (cI 1))]
def ZH.r6:List Oper:=[oM 6 (.c (.b false)),oM 7 (.c (.b false))]
def ZH.r7:List Oper:=[oD 24 (.ld false 1 3),oM 25 9,oD 26 (.ixa 3 25 (cI 0)),oD 27 (.ld true 3 26),oC 28 241 [24,27]]
def ZH.r8:List Oper:=[oM 6 (.c (.b true)),oM 7 (.c (.b true))]
def ZH.code:Code:=.seq ZH.r0 (.seq ZH.r1 (.seq (.seq (.draw ZH.r2 [(0,1)]) (.cond 17 (.seq ZH.r3 (.ret)) (.skip))) (.seq ZH.r4 (.seq (.seq ZH.r5 (.cond 23 (.seq ZH.r6 (.ret)) (.skip))) (.seq (.draw ZH.r7 [(0,3)]) (.seq ZH.r8 (.ret)))))))
def ZH:Func:=⟨29,[.t 6,.t 7],ZH.code⟩
/-! muntin/reach.New -/
def zo.r0:List Oper:=[oM 2 (.c (.pn)),oM 3 (cI 0)]
def zo.r1:List Oper:=[oM 6 0,oD 7 (.bin .lss 6 (cI 0)),oM 8 7,oF 9 8 (.mv 0),oF 10 8 (.bin .gtr 9 (cI 4096)),oD 11 (.pick 8 (.c (.b true)) 10)]
def zo.r2:List Oper:=[oM 2 (.c (.pn)),oM 3 (cI 2)]
def zo.r3:List Oper:=[oM 12 0,oD 13 (.mks 1 24 [.sn] 12 12),oD 14 (.build [.sn] [(0,1,.t 13)]),oD 15 (.box 14),oM 4 15]
def zo.r4:List Oper:=[oM 16 4,oD 17 (.nilck 16),oD 18 (.fa 0 17),oD 19 (.ld false 1 18),oD 20 (.len 19),oM 21 (cI 0)]
def zo.r5:List Oper:=[oD 22 (.bin .lss 21 20)]
def zo.r6:List Oper:=[oM 23 21,oM 5 23]
def zo.r7:List Oper:=[oM 24 4,oD 25 (.nilck 24),oD 26 (.fa 0 25),oD 27 (.ld false 1 26),oM 28 5,oM 29 0,oD 30 (.bin .add 29 (cI 64)),oD 31 (.bin .sub 30 (cI 1)),oD 32 (.bin .quo 31 (cI 64)),oD 33 (.mks 1 8 [.i .u64 0] 32 32),oD 34 (.ixa 1 27 28),oN (.st 1 34 33)]
def zo.r8:List Oper:=[oD 35 (.bin .add 21 (cI 1)),oM 21 35]
def zo.l0:Code:=.seq zo.r5 (.seq (.cond 22 (.skip) (.exit 0)) (.seq (.block 1 (.seq zo.r6 (.draw zo.r7 [(3,9)]))) zo.r8))
def zo.r9:List Oper:=[oM 36 4,oM 2 36,oM 3 (cI 0)]
def zo.code:Code:=.seq zo.r0 (.seq (.seq zo.r1 (.cond 11 (.seq zo.r2 (.ret)) (.skip))) (.seq zo.r3 (.seq (.seq zo.r4 (.block 0 (.loop zo.l0))) (.seq zo.r9 (.ret)))))
def zo:Func:=⟨37,[.t 2,.t 3],zo.code⟩
/-! (*muntin/reach.Reach).Add -/
def Zk.r0:List Oper:=[oM 6 (cI 0)]
def Zk.r1:List Oper:=[oM 12 0,oD 13 (.eq false .pt 12 (.c (.pn))),oM 11 13]
def Zk.r2:List Oper:=[oM 6 (cI 1)]
def Zk.r3:List Oper:=[oM 15 0,oM 16 1,oC 17 242 [15,16],oD 18 (.un .not 17),oM 19 18,oF 20 19 (.mv 0),oF 21 19 (.mv 2),oF 22 19 (.call (.c (.f 242 [])) [20,21]),oF 23 19 (.un .not 22),oD 24 (.pick 19 (.c (.b true)) 23),oM 14 24]
def Zk.r4:List Oper:=[oM 6 (cI 2)]
def Zk.r5:List Oper:=[oM 26 0,oM 27 1,oM 28 2,oC 29 243 [26,27,28],oM 25 29]
def Zk.r6:List Oper:=[oM 6 (cI 0)]
def Zk.r7:List Oper:=[oM 30 0,oD 31 (.nilck 30),oD 32 (.fa 0 31),oD 33 (.ld false 1 32),oM 34 2,oD 35 (.ixa 1 33 34),oD 36 (.ld false 1 35),oC 37 244 [36],oM 7 37]
def Zk.r8:List Oper:=[oM 38 7,oM 39 2,oD 40 (.bin .quo 39 (cI 64)),oD 41 (.ixa 1 38 40),oD 42 (.ld false 1 41),oM 43 2,oD 44 (.bin .rem 43 (cI 64)),oD 45 (.bin .shl (.c (.i .u64 1)) 44),oD 46 (.bin .or 42 45),oD 47 (.ixa 1 38 40),oN (.st 1 47 46)]
def Zk.r9:List Oper:=[oM 48 0,oD 49 (.nilck 48),oD 50 (.fa 0 49),oD 51 (.ld false 1 50),oD 52 (.len 51),oM 53 (cI 0)]
def Zk.r10:List Oper:=[oD 54 (.bin .lss 53 52)]
def Zk.r11:List Oper:=[oM 55 53,oM 8 55]
def Zk.r12:List Oper:=[oM 56 8,oM 57 1,oD 58 (.eq true .sc 56 57),oM 59 58,oT 60 59 (.mv 0),oT 61 59 (.mv 8),oT 62 59 (.mv 1),oT 63 59 (.call (.c (.f 243 [])) [60,61,62]),oT 64 59 (.un .not 63),oD 65 (.pick 59 64 (.c (.b false)))]
def Zk.r13:List Oper:=[oM 66 7,oD 67 (.len 66),oM 68 (cI 0)]
def Zk.r14:List Oper:=[oD 69 (.bin .lss 68 67)]
def Zk.r15:List Oper:=[oM 70 68,oD 71 (.ixa 1 66 68),oD 72 (.ld false 1 71),oM 9 70,oM 10 72]
def Zk.r16:List Oper:=[oM 73 0,oD 74 (.nilck 73),oD 75 (.fa 0 74),oD 76 (.ld false 1 75),oM 77 8,oD 78 (.ixa 1 76 77),oD 79 (.ld false 1 78),oM 80 9,oD 81 (.ixa 1 79 80),oD 82 (.ld false 1 81),oM 83 10,oD 84 (.bin .or 82 83),oD 85 (.ixa 1 79 80),oN (.st 1 85 84)]
def Zk.r17:List Oper:=[oD 86 (.bin .add 68 (cI 1)),oM 68 86]
def Zk.l0:Code:=.seq Zk.r14 (.seq (.cond 69 (.skip) (.exit 3)) (.seq (.block 4 (.seq Zk.r15 Zk.r16)) Zk.r17))
def Zk.r18:List Oper:=[oD 87 (.bin .add 53 (cI 1)),oM 53 87]
def Zk.l1:Code:=.seq Zk.r10 (.seq (.cond 54 (.skip) (.exit 1)) (.seq (.block 2 (.seq Zk.r11 (.seq (.seq Zk.r12 (.cond 65 (.exit 2) (.skip))) (.seq Zk.r13 (.block 3 (.loop Zk.l0)))))) Zk.r18))
def Zk.r19:List Oper:=[oM 6 (cI 0)]
def Zk.code:Code:=.seq Zk.r0 (.seq (.block 0 (.seq Zk.r1 (.cond 11 (.seq Zk.r2 (.ret)) (.seq Zk.r3 (.cond 14 (.seq Zk.r4 (.ret)) (.seq Zk.r5 (.cond 25 (.seq Zk.r6 (.ret)) (.skip)))))))) (.seq Zk.r7 (.seq (.draw Zk.r8 []) (.seq (.seq Zk.r9 (.block 1 (.loop Zk.l1))) (.seq Zk.r19 (.ret))))))
def Zk:Func:=⟨88,[.t 6],Zk.code⟩
/-! muntin/sep.of -/
def ZaI.r0:List Oper:=[oD 2 (.box 0),oD 3 (.box 1),oD 4 (.alloc [.n 0,.n 0,.n 0,.n 0])]
def ZaI.r1:List Oper:=[oD 8 (.ld true 4 2),oD 9 (.fa 0 3),oD 10 (.ld false 1 9),oD 11 (.fa 1 3),oD 12 (.ld false 1 11),oC 13 126 [8,10,12],oM 7 13,oD 14 (.ext 7 0),oD 15 (.ext 7 1),oM 5 14,oM 6 15]
def ZaI.r2:List Oper:=[oD 16 (.fa 0 3),oD 17 (.ld false 1 16)]
def ZaI.r3:List Oper:=[oD 18 (.fa 1 3),oD 19 (.ld false 1 18),oD 20 (.fa 1 3),oD 21 (.ld false 1 20),oM 22 5,oM 23 6,oD 24 (.build [.n 0,.n 0,.n 0,.n 0] [(0,1,.t 19),(1,1,.t 21),(2,1,.t 22),(3,1,.t 23)]),oN (.st 4 4 24)]
def ZaI.r4:List Oper:=[oM 25 5,oM 26 6,oD 27 (.fa 1 3),oD 28 (.ld false 1 27),oD 29 (.fa 1 3),oD 30 (.ld false 1 29),oD 31 (.build [.n 0,.n 0,.n 0,.n 0] [(0,1,.t 25),(1,1,.t 26),(2,1,.t 28),(3,1,.t 30)]),oN (.st 4 4 31)]
def ZaI.code:Code:=.seq ZaI.r0 (.seq ZaI.r1 (.seq (.seq ZaI.r2 (.cond 17 (.seq ZaI.r3 (.ret)) (.skip))) (.seq ZaI.r4 (.ret))))
def ZaI:Func:=⟨32,[.cell 4 true 4],ZaI.code⟩
/-! (*muntin/sep.settler).ways -/
def z8.r0:List Oper:=[oD 6 (.alloc [.b false,.n 0,.n 0,.b false,.n 0,.n 0,.b false,.n 0,.n 0,.b false,.n 0,.n 0])]
def z8.r1:List Oper:=[oM 9 0,oD 10 (.nilck 9),oD 11 (.fa 10 10),oD 12 (.ld false 1 11),oM 13 1,oD 14 (.ixa 4 12 13),oD 15 (.ld true 4 14),oM 16 0,oD 17 (.nilck 16),oD 18 (.fa 10 17),oD 19 (.ld false 1 18),oM 20 2,oD 21 (.ixa 4 19 20),oD 22 (.ld true 4 21),oD 7 (.alloc [.n 0,.n 0,.n 0,.n 0]),oD 8 (.alloc [.n 0,.n 0,.n 0,.n 0]),oN (.st 4 7 15),oN (.st 4 8 22)]
def z8.r2:List Oper:=[oD 23 (.fa 1 7),oD 24 (.ld false 1 23),oD 25 (.fa 0 8),oD 26 (.ld false 1 25),oD 27 (.build [.b false,.n 0,.n 0] [(0,1,.c (.b true)),(1,1,.t 24),(2,1,.t 26)]),oD 28 (.fa 1 8),oD 29 (.ld false 1 28),oD 30 (.fa 0 7),oD 31 (.ld false 1 30),oD 32 (.build [.b false,.n 0,.n 0] [(0,1,.c (.b true)),(1,1,.t 29),(2,1,.t 31)]),oD 33 (.fa 3 7),oD 34 (.ld false 1 33),oD 35 (.fa 2 8),oD 36 (.ld false 1 35),oD 37 (.build [.b false,.n 0,.n 0] [(0,1,.c (.b false)),(1,1,.t 34),(2,1,.t 36)]),oD 38 (.fa 3 8),oD 39 (.ld false 1 38),oD 40 (.fa 2 7),oD 41 (.ld false 1 40),oD 42 (.build [.b false,.n 0,.n 0] [(0,1,.c (.b false)),(1,1,.t 39),(2,1,.t 41)]),oD 43 (.build [.b false,.n 0,.n 0,.b false,.n 0,.n 0,.b false,.n 0,.n 0,.b false,.n 0,.n 0] [(0,3,.t 27),(3,3,.t 32),(6,3,.t 37),(9,3,.t 42)]),oN (.st 12 6 43)]
def z8.code:Code:=.seq z8.r0 (.seq (.draw z8.r1 [(3,10),(6,10),(3,13),(6,13),(3,14),(6,14),(10,14),(13,14),(3,15),(6,15),(10,15),(13,15),(14,15),(10,16),(13,16)]) (.seq z8.r2 (.ret)))
def z8:Func:=⟨44,[.cell 6 true 12],z8.code⟩
/-! slices.ContainsFunc[[]muntin/sep.way,muntin/sep.way] -/
def zc.r0:List Oper:=[oM 4 (.c (.b false))]
def zc.r1:List Oper:=[oM 5 0,oM 6 1,oC 7 245 [5,6],oD 8 (.bin .geq 7 (cI 0)),oM 4 8]
def zc.code:Code:=.seq zc.r0 (.seq zc.r1 (.ret))
def zc:Func:=⟨9,[.t 4],zc.code⟩
/-! (*muntin/sep.settler).is -/
def Zaa.r0:List Oper:=[oD 3 (.box 1),oM 4 (.c (.b false))]
def Zaa.r1:List Oper:=[oM 5 0,oD 6 (.ld true 3 3),oC 7 246 [5,6],oD 8 (.fa 1 3),oD 9 (.ld false 1 8),oD 10 (.fa 2 3),oD 11 (.ld false 1 10),oC 12 243 [7,9,11],oM 4 12]
def Zaa.code:Code:=.seq Zaa.r0 (.seq (.draw Zaa.r1 [(1,4),(2,4),(1,6),(2,6),(4,6)]) (.ret))
def Zaa:Func:=⟨13,[.t 4],Zaa.code⟩
/-! slices.DeleteFunc[[]muntin/sep.way,muntin/sep.way] -/
def Zf.r0:List Oper:=[oM 4 (.c (.sn))]
def Zf.r1:List Oper:=[oM 8 0,oM 9 1,oC 10 245 [8,9],oM 5 10]
def Zf.r2:List Oper:=[oM 11 5,oD 12 (.eq false .sc 11 (cI (-1)))]
def Zf.r3:List Oper:=[oM 13 0,oM 4 13]
def Zf.r4:List Oper:=[oM 14 5,oD 15 (.bin .add 14 (cI 1)),oM 6 15]
def Zf.r5:List Oper:=[oM 16 6,oM 17 0,oD 18 (.len 17),oD 19 (.bin .lss 16 18)]
def Zf.r7:List Oper:=[oM 22 0,oM 23 6,oD 24 (.ixa 3 22 23),oD 25 (.ld true 3 24),oD 7 (.alloc [.b false,.n 0,.n 0]),oN (.st 3 7 25)]
def Zf.r8:List Oper:=[oM 26 1,oD 27 (.ld true 3 7),oD 28 (.call 26 [27]),oD 29 (.un .not 28)]
def Zf.r9:List Oper:=[oM 30 0,oM 31 5,oD 32 (.ld true 3 7),oD 33 (.ixa 3 30 31),oN (.st 3 33 32)]
def Zf.r10:List Oper:=[oM 34 5,oD 35 (.bin .add 34 (cI 1)),oM 5 35]
def Zf.r6:List Oper:=[oM 20 6,oD 21 (.bin .add 20 (cI 1)),oM 6 21]
def Zf.l0:Code:=.seq (.seq Zf.r5 (.cond 19 (.skip) (.exit 0))) (.seq (.block 1 (.seq Zf.r7 (.seq Zf.r8 (.cond 29 (.seq Zf.r9 Zf.r10) (.skip))))) Zf.r6)
def Zf.r11:List Oper:=[oM 36 0,oM 37 5,oD 38 (.slc 3 36 (some 37) none none),oN (.clr [.b false,.n 0,.n 0] 38)]
def Zf.r12:List Oper:=[oM 39 0,oM 40 5,oD 41 (.slc 3 39 none (some 40) none),oM 4 41]
def Zf.code:Code:=.seq Zf.r0 (.seq Zf.r1 (.seq (.seq Zf.r2 (.cond 12 (.seq Zf.r3 (.ret)) (.skip))) (.seq (.seq Zf.r4 (.block 0 (.loop Zf.l0))) (.seq Zf.r11 (.seq Zf.r12 (.ret))))))
def Zf:Func:=⟨42,[.t 4],Zf.code⟩
/-! (*muntin/sep.settler).look$1 -/
def zD.r0:List Oper:=[oD 2 (.box 0),oM 3 (.c (.b false))]
def zD.r1:List Oper:=[oD 4 (.ld false 1 1),oD 5 (.ld true 3 2),oC 6 240 [4,5],oD 7 (.un .not 6),oM 3 7]
def zD.code:Code:=.seq zD.r0 (.seq zD.r1 (.ret))
def zD:Func:=⟨8,[.t 3],zD.code⟩
/-! (*muntin/sep.settler).can -/
def zV.r0:List Oper:=[oD 3 (.box 1),oM 4 (.c (.b false))]
def zV.r1:List Oper:=[oD 5 (.fa 1 3),oD 6 (.ld false 1 5),oD 7 (.fa 2 3),oD 8 (.ld false 1 7),oD 9 (.eq true .sc 6 8),oM 10 9,oT 11 10 (.mv 0),oT 12 10 (.ld true 3 3),oT 13 10 (.call (.c (.f 246 [])) [11,12]),oT 14 10 (.fa 2 3),oT 15 10 (.ld false 1 14),oT 16 10 (.fa 1 3),oT 17 10 (.ld false 1 16),oT 18 10 (.call (.c (.f 243 [])) [13,15,17]),oT 19 10 (.un .not 18),oD 20 (.pick 10 19 (.c (.b false))),oM 4 20]
def zV.code:Code:=.seq zV.r0 (.seq (.draw zV.r1 [(1,3),(7,10),(8,10),(7,12),(8,12),(10,12)]) (.ret))
def zV:Func:=⟨21,[.t 4],zV.code⟩
/-! (*muntin/sep.settler).force -/
def ZW.r0:List Oper:=[oD 3 (.box 1)]
def ZW.r1:List Oper:=[oM 5 0,oD 6 (.ld true 3 3),oC 7 246 [5,6],oD 8 (.fa 1 3),oD 9 (.ld false 1 8),oD 10 (.fa 2 3),oD 11 (.ld false 1 10),oC 12 233 [7,9,11]]
def ZW.r2:List Oper:=[oD 13 (.fa 1 3),oD 14 (.ld false 1 13),oD 15 (.fa 2 3),oD 16 (.ld false 1 15),oD 17 (.build [.n 0,.n 0,.n 0] [(0,1,.t 14),(1,1,.t 16)]),oD 4 (.alloc [.n 0,.n 0,.n 0]),oN (.st 3 4 17)]
def ZW.r3:List Oper:=[oD 18 (.fa 0 3),oD 19 (.ld false 1 18)]
def ZW.r4:List Oper:=[oM 20 0,oM 21 0,oD 22 (.nilck 21),oD 23 (.fa 0 22),oD 24 (.fa 0 23),oD 25 (.fa 4 24),oD 26 (.ld false 1 25),oD 27 (.ld true 3 4),oD 28 (.bsl 3 1 [.n 0,.n 0,.n 0] [(0,3,.t 27)]),oD 29 (.app 3 24 26 28),oD 30 (.nilck 20),oD 31 (.fa 0 30),oD 32 (.fa 0 31),oD 33 (.fa 4 32),oN (.st 1 33 29)]
def ZW.r5:List Oper:=[oM 34 0,oM 35 0,oD 36 (.nilck 35),oD 37 (.fa 0 36),oD 38 (.fa 0 37),oD 39 (.fa 5 38),oD 40 (.ld false 1 39),oD 41 (.ld true 3 4),oD 42 (.bsl 3 1 [.n 0,.n 0,.n 0] [(0,3,.t 41)]),oD 43 (.app 3 24 40 42),oD 44 (.nilck 34),oD 45 (.fa 0 44),oD 46 (.fa 0 45),oD 47 (.fa 5 46),oN (.st 1 47 43)]
def ZW.code:Code:=.seq ZW.r0 (.seq (.draw ZW.r1 [(1,4),(2,4),(1,6),(2,6),(4,6)]) (.seq ZW.r2 (.seq ZW.r3 (.cond 19 (.draw ZW.r4 [(6,7),(6,8)]) (.draw ZW.r5 [(6,7),(6,8)])))))
def ZW:Func:=⟨48,[],ZW.code⟩
/-! (*muntin/reach.Reach).is -/
def zZ.r0:List Oper:=[oM 4 (.c (.b false))]
def zZ.r1:List Oper:=[oM 5 0,oD 6 (.eq true .pt 5 (.c (.pn))),oM 7 6,oT 8 7 (.mv 1),oT 9 7 (.bin .geq 8 (cI 0)),oD 10 (.pick 7 9 (.c (.b false))),oM 11 10,oT 12 11 (.mv 1),oT 13 11 (.mv 0),oT 14 11 (.nilck 13),oT 15 11 (.fa 0 14),oT 16 11 (.ld false 1 15),oT 17 11 (.len 16),oT 18 11 (.bin .lss 12 17),oD 19 (.pick 11 18 (.c (.b false))),oM 4 19]
def zZ.code:Code:=.seq zZ.r0 (.seq zZ.r1 (.ret))
def zZ:Func:=⟨20,[.t 4],zZ.code⟩
/-! (*muntin/reach.Reach).Has -/
def zU.r0:List Oper:=[oM 6 (.c (.b false))]
def zU.r1:List Oper:=[oM 7 0,oM 8 1,oC 9 242 [7,8],oM 10 9,oT 11 10 (.mv 0),oT 12 10 (.mv 2),oT 13 10 (.call (.c (.f 242 [])) [11,12]),oD 14 (.pick 10 13 (.c (.b false))),oM 15 14,oT 16 15 (.mv 0),oT 17 15 (.nilck 16),oT 18 15 (.fa 0 17),oT 19 15 (.ld false 1 18),oT 20 15 (.mv 1),oT 21 15 (.ixa 1 19 20),oT 22 15 (.ld false 1 21),oT 23 15 (.mv 2),oT 24 15 (.bin .quo 23 (cI 64)),oT 25 15 (.ixa 1 22 24),oT 26 15 (.ld false 1 25),oT 27 15 (.mv 2),oT 28 15 (.bin .rem 27 (cI 64)),oT 29 15 (.bin .shr 26 28),oT 30 15 (.bin .and 29 (.c (.i .u64 1))),oT 31 15 (.eq false .sc 30 (.c (.i .u64 1))),oD 32 (.pick 15 31 (.c (.b false))),oM 6 32]
def zU.code:Code:=.seq zU.r0 (.seq zU.r1 (.ret))
def zU:Func:=⟨33,[.t 6],zU.code⟩
/-! slices.Clone[[]uint64,uint64] -/
def zg.r0:List Oper:=[oM 2 (.c (.sn))]
def zg.r1:List Oper:=[oM 3 0,oD 4 (.eq false .sl 3 (.c (.sn)))]
def zg.r2:List Oper:=[oM 2 (.c (.sn))]
def zg.r3:List Oper:=[oD 5 (.bsl 1 0 [.i .u64 0] []),oM 6 0,oD 7 (.app 1 8 5 6),oM 2 7]
def zg.code:Code:=.seq zg.r0 (.seq (.seq zg.r1 (.cond 4 (.seq zg.r2 (.ret)) (.skip))) (.seq zg.r3 (.ret)))
def zg:Func:=⟨8,[.t 2],zg.code⟩
/-! slices.IndexFunc[[]muntin/sep.way,muntin/sep.way] -/
def Zw.r0:List Oper:=[oM 4 (cI 0)]
def Zw.r1:List Oper:=[oM 6 0,oD 7 (.len 6),oM 8 (cI 0)]
def Zw.r2:List Oper:=[oD 9 (.bin .lss 8 7)]
def Zw.r3:List Oper:=[oM 10 8,oM 5 10]
def Zw.r4:List Oper:=[oM 11 1,oM 12 0,oM 13 5,oD 14 (.ixa 3 12 13),oD 15 (.ld true 3 14),oD 16 (.call 11 [15])]
def Zw.r5:List Oper:=[oM 17 5,oM 4 17]
def Zw.r6:List Oper:=[oD 18 (.bin .add 8 (cI 1)),oM 8 18]
def Zw.l0:Code:=.seq Zw.r2 (.seq (.cond 9 (.skip) (.exit 0)) (.seq (.block 1 (.seq Zw.r3 (.seq Zw.r4 (.cond 16 (.seq Zw.r5 (.ret)) (.skip))))) Zw.r6))
def Zw.r7:List Oper:=[oM 4 (cI (-1))]
def Zw.code:Code:=.seq Zw.r0 (.seq (.seq Zw.r1 (.block 0 (.loop Zw.l0))) (.seq Zw.r7 (.ret)))
def Zw:Func:=⟨19,[.t 4],Zw.code⟩
/-! (*muntin/sep.settler).graph -/
def zq.r0:List Oper:=[oD 3 (.box 1),oM 4 (.c (.pn))]
def zq.r1:List Oper:=[oD 5 (.fa 0 3),oD 6 (.ld false 1 5)]
def zq.r2:List Oper:=[oM 7 0,oD 8 (.nilck 7),oD 9 (.fa 7 8),oD 10 (.ld false 1 9),oM 4 10]
def zq.r3:List Oper:=[oM 11 0,oD 12 (.nilck 11),oD 13 (.fa 8 12),oD 14 (.ld false 1 13),oM 4 14]
def zq.code:Code:=.seq zq.r0 (.seq (.seq zq.r1 (.cond 6 (.seq zq.r2 (.ret)) (.skip))) (.seq zq.r3 (.ret)))
def zq:Func:=⟨15,[.t 4],zq.code⟩
def Gt:Tt (Option Func):=(.n none (.n none (.n none (.n none (.n none (.n none (.n (some Zz) .e .e) .e) (.n none .e (.n none .e (.n (some zD) .e .e)))) .e) (.n none (.n none (.n none (.n (some Z6) .e .e) (.n none .e (.n (some ZH) .e .e))) (.n none (.n (some Z3) .e (.n (some ZE) .e .e)) (.n none .e (.n (some zU) .e .e)))) (.n none (.n none (.n none .e (.n (some Zq) .e .e)) (.n none .e (.n (some z8) .e .e))) (.n none (.n (some Z5) .e (.n (some ZP) .e .e)) (.n (some zE) (.n (some Zab) .e .e) .e))))) (.n none (.n none (.n none (.n none (.n (some Zx) (.n (some Zaz) .e .e) .e) (.n (some Zau) .e .e)) (.n none (.n none .e (.n (some ZM) .e .e)) (.n none .e (.n (some ZW) .e .e)))) (.n none (.n none (.n none (.n (some Zu) .e .e) (.n (some ZD) .e .e)) (.n none .e (.n (some Zk) .e .e))) (.n none (.n (some Zam) .e .e) (.n (some zl) .e .e)))) (.n none (.n none .e (.n (some ZU) (.n none (.n (some zT) .e .e) .e) (.n none .e (.n (some Zw) .e .e)))) (.n (some Z0) (.n none (.n (some zK) (.n (some zG) .e .e) .e) (.n none .e (.n (some Zaa) .e .e))) (.n none (.n none .e (.n (some Z8) .e .e)) (.n none (.n (some zk) .e .e) .e)))))) (.n none (.n none (.n none (.n none (.n (some Zav) (.n (some Zh) .e .e) .e) (.n none (.n none (.n (some ze) .e .e) .e) (.n none (.n (some zd) .e .e) (.n (some zV) .e .e)))) (.n none (.n none (.n none (.n (some ZI) .e .e) .e) (.n none .e (.n (some zo) .e .e))) (.n none .e (.n (some Zad) .e .e)))) (.n none (.n none .e (.n none .e (.n none .e (.n (some zg) .e .e)))) (.n (some Zb) (.n none (.n none (.n (some ZV) .e .e) (.n (some za) .e .e)) (.n none .e (.n (some zc) .e .e))) (.n none (.n none .e (.n (some Zas) .e .e)) (.n none (.n (some Zs) .e .e) .e))))) (.n none (.n none (.n none (.n (some Zg) (.n (some ZG) .e .e) (.n (some ZZ) (.n (some Zc) .e .e) (.n (some Zm) .e .e))) (.n none (.n (some zj) .e (.n (some Zv) .e .e)) (.n none .e (.n (some zZ) .e .e)))) (.n none (.n none (.n none (.n (some Ze) .e .e) .e) (.n none .e (.n (some ZaI) .e .e))) (.n none (.n (some Zar) .e .e) .e))) (.n none (.n none .e (.n none (.n none (.n (some ZA) .e .e) .e) (.n (some z7) .e (.n (some zq) .e .e)))) (.n none (.n (some Z7) (.n (some zr) .e .e) (.n none .e (.n (some Zf) .e .e))) (.n none (.n none .e (.n (some zL) .e .e)) (.n (some ZQ) .e .e)))))))
noncomputable def G:Prog:=fun i=>if i=189 then some ZeN else Tt.get none Gt i
theorem ZcL:G 28=some Zb:=rfl
theorem Zib:G 29=some Z0:=rfl
theorem Zic:G 32=some Zav:=rfl
theorem ZcF:G 34=some Zg:=rfl
theorem ZcZ:G 46=some Z7:=rfl
theorem Zgd:G 53=some ZU:=rfl
theorem Zcr:G 63=some Zz:=rfl
theorem Zcq:G 64=some Zh:=rfl
theorem ZcM:G 65=some Zx:=rfl
theorem Zei:G 66=some ZG:=rfl
theorem ZhU:G 67=some Z6:=rfl
theorem ZdA:G 77=some zK:=rfl
theorem Zeb:G 78=some zr:=rfl
theorem ZeQ:G 82=some zj:=rfl
theorem ZcI:G 83=some Z3:=rfl
theorem Zfz:G 89=some Zam:=rfl
theorem Zd9:G 90=some Zar:=rfl
theorem ZeT:G 91=some Z5:=rfl
theorem ZhY:G 97=some Zau:=rfl
theorem Zeh:G 98=some ZZ:=rfl
theorem Zff:G 118=some z7:=rfl
theorem ZgL:G 120=some Zad:=rfl
theorem Zdc:G 121=some zl:=rfl
theorem ZgH:G 123=some zE:=rfl
theorem ZgI:G 126=some ZQ:=rfl
theorem ZjR:G 129=some Zaz:=rfl
theorem Zgh:G 136=some ZI:=rfl
theorem Zej:G 137=some Zu:=rfl
theorem Zc2:G 138=some Ze:=rfl
theorem Zge:G 140=some ZV:=rfl
theorem ZfZ:G 141=some zG:=rfl
theorem ZhX:G 144=some ze:=rfl
theorem ZhT:G 149=some zT:=rfl
theorem ZcG:G 150=some ZA:=rfl
theorem Zcm:G 162=some Zc:=rfl
theorem ZhV:G 176=some zd:=rfl
theorem ZeR:G 187=some Zab:=rfl
theorem ZcH:G 188=some Zs:=rfl
theorem ZcE:G 189=some ZeN:=rfl
theorem ZhW:G 201=some ZD:=rfl
theorem ZhZ:G 203=some Zq:=rfl
theorem Zia:G 204=some za:=rfl
theorem ZeS:G 209=some ZM:=rfl
theorem Zid:G 210=some Zv:=rfl
theorem ZfY:G 211=some ZE:=rfl
theorem Zhm:G 219=some ZP:=rfl
theorem ZhD:G 220=some Zas:=rfl
theorem Zgc:G 221=some Z8:=rfl
theorem ZhC:G 222=some zL:=rfl
theorem ZiZ:G 226=some Zm:=rfl
theorem Zgf:G 227=some ZH:=rfl
theorem ZiY:G 232=some zo:=rfl
theorem ZgF:G 233=some Zk:=rfl
theorem Zkc:G 234=some ZaI:=rfl
theorem Zgg:G 235=some z8:=rfl
theorem Zd7:G 236=some zc:=rfl
theorem ZgM:G 237=some Zaa:=rfl
theorem ZdJ:G 238=some Zf:=rfl
theorem Zf0:G 239=some zD:=rfl
theorem ZgJ:G 240=some zV:=rfl
theorem Zga:G 241=some ZW:=rfl
theorem ZgK:G 242=some zZ:=rfl
theorem ZgG:G 243=some zU:=rfl
theorem Zfe:G 244=some zg:=rfl
theorem ZdU:G 245=some Zw:=rfl
theorem Zgb:G 246=some zq:=rfl
end Mu
