/- The functions of the program, as the evaluator has them: printed by a program; checked against the model's. -/
import Derived.Test.YtjhlegefgllihaaMuE0
namespace Mu
instance (n:Nat):OfNat Opd n:=⟨.t n⟩
instance:Coe (List Oper) Code:=⟨.region⟩
abbrev oD (d:Nat) (op:Op):Oper:=⟨some d,op,none⟩
abbrev oN (op:Op):Oper:=⟨none,op,none⟩
abbrev oT (d g:Nat) (op:Op):Oper:=⟨some d,op,some (g,true)⟩
abbrev oF (d g:Nat) (op:Op):Oper:=⟨some d,op,some (g,false)⟩
abbrev oM (d:Nat) (x:Opd):Oper:=⟨some d,.mv x,none⟩
abbrev oC (d f:Nat) (l:List Opd):Oper:=⟨some d,.call (.c (.f f [])) l,none⟩
abbrev cI (n:Int):Opd:=.c (.i .i64 n)
/-! muntin/muntinref10.Make -/
def Zg.r0:List Oper:=[oD 2 (.box 0),oM 4 (.c (.sn)),oM 5 (.c (.sn))]
def Zg.r1:List Oper:=[oM 6 (.c (.sn))]
def Zg.r2:List Oper:=[oM 7 (cI 0)]
def Zg.r3:List Oper:=[oM 18 7,oD 19 (.fa 0 2),oD 20 (.ld false 1 19),oD 21 (.len 20),oD 22 (.bin .lss 18 21),oM 23 22,oT 24 23 (.mv 6),oT 25 23 (.len 24),oT 26 23 (.mv 1),oT 27 23 (.bin .lss 25 26),oD 28 (.pick 23 27 (.c (.b false)))]
def Zg.r5:List Oper:=[oD 31 (.fa 0 2),oD 32 (.ld false 1 31),oM 33 7,oD 34 (.ixa 1 32 33),oD 35 (.ld false 1 34),oD 36 (.conv .i64 35),oD 37 (.bin .rem 36 (cI 8)),oD 38 (.fa 0 2),oD 39 (.ld false 1 38),oM 40 7,oD 41 (.ixa 1 39 40),oD 42 (.ld false 1 41),oD 43 (.conv .i64 42),oD 44 (.bin .quo 43 (cI 8)),oD 45 (.bin .rem 44 (cI 8)),oD 46 (.build [.n 0,.n 0] [(0,1,.t 37),(1,1,.t 45)]),oD 8 (.alloc [.n 0,.n 0]),oN (.st 2 8 46)]
def Zg.r6:List Oper:=[oM 9 (.c (.b false))]
def Zg.r7:List Oper:=[oM 10 (cI 0)]
def Zg.r8:List Oper:=[oM 47 10,oM 48 6,oD 49 (.len 48),oD 50 (.bin .lss 47 49)]
def Zg.r10:List Oper:=[oM 53 9,oM 54 53,oF 55 54 (.mv 6),oF 56 54 (.mv 10),oF 57 54 (.ixa 2 55 56),oF 58 54 (.ld true 2 57),oF 59 54 (.ld true 2 8),oF 60 54 (.eq false (.fl [.i,.i]) 58 59),oD 61 (.pick 54 (.c (.b true)) 60),oM 9 61]
def Zg.r9:List Oper:=[oM 51 10,oD 52 (.bin .add 51 (cI 1)),oM 10 52]
def Zg.l0:Code:=.seq (.seq Zg.r8 (.cond 50 (.skip) (.exit 2))) (.seq (.block 3 (.draw Zg.r10 [(5,6)])) Zg.r9)
def Zg.r11:List Oper:=[oM 62 9,oD 63 (.un .not 62)]
def Zg.r12:List Oper:=[oM 64 6,oD 65 (.ld true 2 8),oD 66 (.bsl 2 1 [.n 0,.n 0] [(0,2,.t 65)]),oD 67 (.app 2 16 64 66),oM 6 67]
def Zg.r4:List Oper:=[oM 29 7,oD 30 (.bin .add 29 (cI 1)),oM 7 30]
def Zg.l1:Code:=.seq (.seq Zg.r3 (.cond 28 (.skip) (.exit 0))) (.seq (.block 1 (.seq (.draw Zg.r5 [(1,8),(4,8),(1,11),(4,11),(1,16),(4,16),(8,16),(11,16)]) (.seq Zg.r6 (.seq (.seq Zg.r7 (.block 2 (.loop Zg.l0))) (.seq Zg.r11 (.cond 63 Zg.r12 (.skip))))))) Zg.r4)
def Zg.r13:List Oper:=[oM 68 6,oD 69 (.len 68),oC 70 46 [69],oM 11 70]
def Zg.r14:List Oper:=[oM 12 (cI 0)]
def Zg.r15:List Oper:=[oM 71 12,oM 72 6,oD 73 (.len 72),oD 74 (.bin .lss 71 73)]
def Zg.r17:List Oper:=[oM 13 (.c (.i .u8 3))]
def Zg.r18:List Oper:=[oM 77 12,oD 78 (.fa 1 2),oD 79 (.ld false 1 78),oD 80 (.len 79),oD 81 (.bin .lss 77 80)]
def Zg.r19:List Oper:=[oD 82 (.fa 1 2),oD 83 (.ld false 1 82),oM 84 12,oD 85 (.ixa 1 83 84),oD 86 (.ld false 1 85),oM 13 86]
def Zg.r20:List Oper:=[oM 87 12,oM 14 87]
def Zg.r21:List Oper:=[oM 88 12,oD 89 (.fa 2 2),oD 90 (.ld false 1 89),oD 91 (.len 90),oD 92 (.bin .lss 88 91)]
def Zg.r22:List Oper:=[oD 93 (.fa 2 2),oD 94 (.ld false 1 93),oM 95 12,oD 96 (.ixa 1 94 95),oD 97 (.ld false 1 96),oD 98 (.conv .i64 97),oM 14 98]
def Zg.r23:List Oper:=[oM 99 14,oD 100 (.bin .lss 99 (cI (-2)))]
def Zg.r24:List Oper:=[oM 101 14,oD 102 (.un .neg 101),oM 14 102]
def Zg.r25:List Oper:=[oM 15 (cI 0)]
def Zg.r26:List Oper:=[oM 103 15,oD 104 (.bin .lss 103 (cI 2))]
def Zg.r28:List Oper:=[oM 107 6,oM 108 12,oM 109 15,oC 110 63 [107,108,109],oM 16 110]
def Zg.r29:List Oper:=[oM 111 13,oM 112 15,oD 113 (.bin .shr 111 112),oD 114 (.bin .and 113 (.c (.i .u8 1))),oD 115 (.eq false .sc 114 (.c (.i .u8 0))),oM 116 115,oF 117 116 (.mv 16),oF 118 116 (.bin .lss 117 (cI 0)),oD 119 (.pick 116 (.c (.b true)) 118)]
def Zg.r30:List Oper:=[oM 120 6,oM 121 11,oM 122 12,oM 123 16,oC 124 64 [120,121,122,123],oM 17 124]
def Zg.r31:List Oper:=[oM 125 17,oD 126 (.un .not 125)]
def Zg.r32:List Oper:=[oM 127 11,oM 128 12,oM 129 15,oM 130 16,oM 131 14,oC 132 65 [127,128,129,130,131],oM 11 132]
def Zg.r27:List Oper:=[oM 105 15,oD 106 (.bin .add 105 (cI 1)),oM 15 106]
def Zg.l2:Code:=.seq (.seq Zg.r26 (.cond 104 (.skip) (.exit 6))) (.seq (.block 7 (.seq Zg.r28 (.seq (.seq Zg.r29 (.cond 119 (.exit 7) (.skip))) (.seq Zg.r30 (.seq Zg.r31 (.cond 126 Zg.r32 (.skip))))))) Zg.r27)
def Zg.r16:List Oper:=[oM 75 12,oD 76 (.bin .add 75 (cI 1)),oM 12 76]
def Zg.l3:Code:=.seq (.seq Zg.r15 (.cond 74 (.skip) (.exit 4))) (.seq (.block 5 (.seq Zg.r17 (.seq (.seq Zg.r18 (.cond 81 Zg.r19 (.skip))) (.seq Zg.r20 (.seq (.seq Zg.r21 (.cond 92 (.seq Zg.r22 (.seq Zg.r23 (.cond 100 Zg.r24 (.skip)))) (.skip))) (.seq Zg.r25 (.block 6 (.loop Zg.l2)))))))) Zg.r16)
def Zg.r33:List Oper:=[oM 133 11,oM 134 6,oM 4 133,oM 5 134]
def Zg.code:Code:=.seq Zg.r0 (.seq Zg.r1 (.seq (.seq Zg.r2 (.block 0 (.loop Zg.l1))) (.seq Zg.r13 (.seq (.seq Zg.r14 (.block 4 (.loop Zg.l3))) (.seq Zg.r33 (.ret))))))
def Zg:Func:=⟨135,[.t 4,.t 5],Zg.code⟩
/-! muntin/join.Parts -/
def ZD.r0:List Oper:=[oM 2 (.c (.sn)),oM 3 (cI 0)]
def ZD.r1:List Oper:=[oM 12 0,oC 13 66 [12],oM 4 13]
def ZD.r2:List Oper:=[oM 14 4,oD 15 (.eq true .sc 14 (cI 0))]
def ZD.r3:List Oper:=[oM 16 4,oM 2 (.c (.sn)),oM 3 16]
def ZD.r4:List Oper:=[oM 5 (.c (.sn))]
def ZD.r5:List Oper:=[oM 17 0,oD 18 (.len 17),oD 19 (.mks 1 1 [.b false] 18 18),oM 6 19]
def ZD.r6:List Oper:=[oM 20 0,oD 21 (.len 20),oM 22 (cI 0)]
def ZD.r7:List Oper:=[oD 23 (.bin .lss 22 21)]
def ZD.r8:List Oper:=[oM 24 22,oM 7 24]
def ZD.r9:List Oper:=[oM 25 6,oM 26 7,oD 27 (.ixa 1 25 26),oD 28 (.ld false 1 27)]
def ZD.r10:List Oper:=[oM 30 0,oM 31 7,oC 32 67 [30,31],oM 29 32,oD 33 (.ext 29 0),oD 34 (.ext 29 1),oM 8 33,oM 9 34]
def ZD.r11:List Oper:=[oD 35 (.bsl 1 0 [.n 0] []),oM 10 35]
def ZD.r12:List Oper:=[oM 36 0,oD 37 (.len 36),oM 38 (cI 0)]
def ZD.r13:List Oper:=[oD 39 (.bin .lss 38 37)]
def ZD.r14:List Oper:=[oM 40 38,oM 11 40]
def ZD.r15:List Oper:=[oM 41 11,oM 42 7,oD 43 (.eq false .sc 41 42),oM 44 43,oF 45 44 (.mv 9),oF 46 44 (.mv 11),oF 47 44 (.ixa 1 45 46),oF 48 44 (.ld false 1 47),oF 49 44 (.bin .geq 48 (cI 0)),oD 50 (.pick 44 (.c (.b true)) 49)]
def ZD.r16:List Oper:=[oM 51 6,oM 52 11,oD 53 (.ixa 1 51 52),oN (.st 1 53 (.c (.b true)))]
def ZD.r17:List Oper:=[oM 54 10,oM 55 11,oD 56 (.bsl 1 1 [.n 0] [(0,1,.t 55)]),oD 57 (.app 1 8 54 56),oM 10 57]
def ZD.r18:List Oper:=[oD 58 (.bin .add 38 (cI 1)),oM 38 58]
def ZD.l0:Code:=.seq ZD.r13 (.seq (.cond 39 (.skip) (.exit 2)) (.seq (.block 3 (.seq ZD.r14 (.seq ZD.r15 (.cond 50 (.seq ZD.r16 ZD.r17) (.skip))))) ZD.r18))
def ZD.r19:List Oper:=[oM 59 5,oM 60 10,oD 61 (.bsl 1 1 [.sn] [(0,1,.t 60)]),oD 62 (.app 1 24 59 61),oM 5 62]
def ZD.r20:List Oper:=[oD 63 (.bin .add 22 (cI 1)),oM 22 63]
def ZD.l1:Code:=.seq ZD.r7 (.seq (.cond 23 (.skip) (.exit 0)) (.seq (.block 1 (.seq ZD.r8 (.seq (.seq ZD.r9 (.cond 28 (.exit 1) (.skip))) (.seq ZD.r10 (.seq ZD.r11 (.seq (.seq ZD.r12 (.block 2 (.loop ZD.l0))) ZD.r19)))))) ZD.r20))
def ZD.r21:List Oper:=[oM 64 5,oM 2 64,oM 3 (cI 0)]
def ZD.code:Code:=.seq ZD.r0 (.seq (.seq ZD.r1 (.seq ZD.r2 (.cond 15 (.seq ZD.r3 (.ret)) (.skip)))) (.seq ZD.r4 (.seq ZD.r5 (.seq (.seq ZD.r6 (.block 0 (.loop ZD.l1))) (.seq ZD.r21 (.ret))))))
def ZD:Func:=⟨65,[.t 2,.t 3],ZD.code⟩
/-! muntin/join.Whole -/
def ZbL.r0:List Oper:=[oM 2 (.c (.b false))]
def ZbL.r1:List Oper:=[oM 6 0,oC 7 29 [6],oM 5 7,oD 8 (.ext 5 0),oD 9 (.ext 5 1),oM 3 8,oM 4 9]
def ZbL.r2:List Oper:=[oM 10 4,oD 11 (.eq false .sc 10 (cI 0)),oM 12 11,oT 13 12 (.mv 3),oT 14 12 (.len 13),oT 15 12 (.eq false .sc 14 (cI 1)),oD 16 (.pick 12 15 (.c (.b false))),oM 2 16]
def ZbL.code:Code:=.seq ZbL.r0 (.seq ZbL.r1 (.seq ZbL.r2 (.ret)))
def ZbL:Func:=⟨17,[.t 2],ZbL.code⟩
/-! muntin/muntinref10.New -/
def ZS.r0:List Oper:=[oM 2 (.c (.sn))]
def ZS.r1:List Oper:=[oM 6 0,oD 7 (.mks 8 64 [.n 0,.n 0,.n 0,.n 0,.n 0,.n 0,.n 0,.n 0] 6 6),oM 3 7]
def ZS.r2:List Oper:=[oM 4 (cI 0)]
def ZS.r3:List Oper:=[oM 8 4,oM 9 0,oD 10 (.bin .lss 8 9)]
def ZS.r5:List Oper:=[oM 5 (cI 0)]
def ZS.r6:List Oper:=[oM 13 5,oD 14 (.bin .lss 13 (cI 4))]
def ZS.r8:List Oper:=[oM 17 3,oM 18 4,oM 19 5,oD 20 (.ixa 8 17 18),oD 21 (.fa 0 20),oD 22 (.ixaa 1 4 21 19),oN (.st 1 22 (cI (-1)))]
def ZS.r7:List Oper:=[oM 15 5,oD 16 (.bin .add 15 (cI 1)),oM 5 16]
def ZS.l0:Code:=.seq (.seq ZS.r6 (.cond 14 (.skip) (.exit 2))) (.seq (.block 3 ZS.r8) ZS.r7)
def ZS.r4:List Oper:=[oM 11 4,oD 12 (.bin .add 11 (cI 1)),oM 4 12]
def ZS.l1:Code:=.seq (.seq ZS.r3 (.cond 10 (.skip) (.exit 0))) (.seq (.block 1 (.seq ZS.r5 (.block 2 (.loop ZS.l0)))) ZS.r4)
def ZS.r9:List Oper:=[oM 23 3,oM 2 23]
def ZS.code:Code:=.seq ZS.r0 (.seq ZS.r1 (.seq (.seq ZS.r2 (.block 0 (.loop ZS.l1))) (.seq ZS.r9 (.ret))))
def ZS:Func:=⟨24,[.t 2],ZS.code⟩
/-! muntin/muntinref10.Join -/
def zC.r0:List Oper:=[oM 10 (.c (.sn)),oM 11 (cI 0)]
def zC.r1:List Oper:=[oM 13 1,oD 14 (.bin .lss 13 (cI 0)),oM 15 14,oF 16 15 (.mv 1),oF 17 15 (.mv 0),oF 18 15 (.len 17),oF 19 15 (.bin .geq 16 18),oD 20 (.pick 15 (.c (.b true)) 19),oM 21 20,oF 22 21 (.mv 3),oF 23 21 (.bin .lss 22 (cI 0)),oD 24 (.pick 21 (.c (.b true)) 23),oM 25 24,oF 26 25 (.mv 3),oF 27 25 (.mv 0),oF 28 25 (.len 27),oF 29 25 (.bin .geq 26 28),oD 30 (.pick 25 (.c (.b true)) 29),oM 31 30,oF 32 31 (.mv 1),oF 33 31 (.mv 3),oF 34 31 (.eq false .sc 32 33),oD 35 (.pick 31 (.c (.b true)) 34),oM 36 35,oF 37 36 (.mv 2),oF 38 36 (.bin .lss 37 (cI 0)),oD 39 (.pick 36 (.c (.b true)) 38),oM 40 39,oF 41 40 (.mv 2),oF 42 40 (.bin .gtr 41 (cI 3)),oD 43 (.pick 40 (.c (.b true)) 42),oM 44 43,oF 45 44 (.mv 4),oF 46 44 (.bin .lss 45 (cI (-2))),oD 47 (.pick 44 (.c (.b true)) 46)]
def zC.r2:List Oper:=[oM 48 0,oM 10 48,oM 11 (cI 2)]
def zC.r3:List Oper:=[oM 49 0,oM 50 1,oM 51 2,oD 52 (.ixa 8 49 50),oD 53 (.fa 0 52),oD 54 (.ixaa 1 4 53 51),oD 55 (.ld false 1 54),oD 56 (.eq true .sc 55 (cI (-1))),oM 57 56,oF 58 57 (.mv 0),oF 59 57 (.mv 3),oF 60 57 (.mv 2),oF 61 57 (.bin .add 60 (cI 2)),oF 62 57 (.bin .rem 61 (cI 4)),oF 63 57 (.ixa 8 58 59),oF 64 57 (.fa 0 63),oF 65 57 (.ixaa 1 4 64 62),oF 66 57 (.ld false 1 65),oF 67 57 (.eq true .sc 66 (cI (-1))),oD 68 (.pick 57 (.c (.b true)) 67)]
def zC.r4:List Oper:=[oM 69 0,oM 10 69,oM 11 (cI 9)]
def zC.r5:List Oper:=[oM 70 0,oM 71 1,oM 72 2,oM 73 3,oM 74 4,oC 75 65 [70,71,72,73,74],oM 12 75]
def zC.r6:List Oper:=[oM 76 12,oM 10 76,oM 11 (cI 0)]
def zC.code:Code:=.seq zC.r0 (.seq (.seq zC.r1 (.cond 47 (.seq zC.r2 (.ret)) (.skip))) (.seq (.seq zC.r3 (.cond 68 (.seq zC.r4 (.ret)) (.skip))) (.seq zC.r5 (.seq zC.r6 (.ret)))))
def zC:Func:=⟨77,[.t 10,.t 11],zC.code⟩
/-! muntin/muntinref10.Nearest -/
def ZE.r0:List Oper:=[oM 6 (cI 0)]
def ZE.r1:List Oper:=[oM 7 (cI (-1))]
def ZE.r2:List Oper:=[oM 8 (cI 0)]
def ZE.r3:List Oper:=[oM 9 8,oM 10 0,oD 11 (.len 10),oD 12 (.bin .lss 9 11)]
def ZE.r5:List Oper:=[oM 15 2,oD 16 (.eq false .sc 15 (cI 0)),oM 17 16,oT 18 17 (.mv 0),oT 19 17 (.mv 8),oT 20 17 (.ixa 2 18 19),oT 21 17 (.fa 1 20),oT 22 17 (.ld false 1 21),oT 23 17 (.mv 0),oT 24 17 (.mv 1),oT 25 17 (.ixa 2 23 24),oT 26 17 (.fa 1 25),oT 27 17 (.ld false 1 26),oT 28 17 (.eq false .sc 22 27),oD 29 (.pick 17 28 (.c (.b false))),oM 30 29,oT 31 30 (.mv 0),oT 32 30 (.mv 8),oT 33 30 (.ixa 2 31 32),oT 34 30 (.fa 0 33),oT 35 30 (.ld false 1 34),oT 36 30 (.mv 0),oT 37 30 (.mv 1),oT 38 30 (.ixa 2 36 37),oT 39 30 (.fa 0 38),oT 40 30 (.ld false 1 39),oT 41 30 (.bin .gtr 35 40),oD 42 (.pick 30 41 (.c (.b false))),oM 43 42,oT 44 43 (.mv 7),oT 45 43 (.bin .lss 44 (cI 0)),oT 46 43 (.mv 45),oF 47 46 (.mv 0),oF 48 46 (.mv 8),oF 49 46 (.ixa 2 47 48),oF 50 46 (.fa 0 49),oF 51 46 (.ld false 1 50),oF 52 46 (.mv 0),oF 53 46 (.mv 7),oF 54 46 (.ixa 2 52 53),oF 55 46 (.fa 0 54),oF 56 46 (.ld false 1 55),oF 57 46 (.bin .lss 51 56),oT 58 43 (.pick 46 (.c (.b true)) 57),oD 59 (.pick 43 58 (.c (.b false)))]
def ZE.r6:List Oper:=[oM 60 8,oM 7 60]
def ZE.r7:List Oper:=[oM 61 2,oD 62 (.eq false .sc 61 (cI 1)),oM 63 62,oT 64 63 (.mv 0),oT 65 63 (.mv 8),oT 66 63 (.ixa 2 64 65),oT 67 63 (.fa 0 66),oT 68 63 (.ld false 1 67),oT 69 63 (.mv 0),oT 70 63 (.mv 1),oT 71 63 (.ixa 2 69 70),oT 72 63 (.fa 0 71),oT 73 63 (.ld false 1 72),oT 74 63 (.eq false .sc 68 73),oD 75 (.pick 63 74 (.c (.b false))),oM 76 75,oT 77 76 (.mv 0),oT 78 76 (.mv 8),oT 79 76 (.ixa 2 77 78),oT 80 76 (.fa 1 79),oT 81 76 (.ld false 1 80),oT 82 76 (.mv 0),oT 83 76 (.mv 1),oT 84 76 (.ixa 2 82 83),oT 85 76 (.fa 1 84),oT 86 76 (.ld false 1 85),oT 87 76 (.bin .gtr 81 86),oD 88 (.pick 76 87 (.c (.b false))),oM 89 88,oT 90 89 (.mv 7),oT 91 89 (.bin .lss 90 (cI 0)),oT 92 89 (.mv 91),oF 93 92 (.mv 0),oF 94 92 (.mv 8),oF 95 92 (.ixa 2 93 94),oF 96 92 (.fa 1 95),oF 97 92 (.ld false 1 96),oF 98 92 (.mv 0),oF 99 92 (.mv 7),oF 100 92 (.ixa 2 98 99),oF 101 92 (.fa 1 100),oF 102 92 (.ld false 1 101),oF 103 92 (.bin .lss 97 102),oT 104 89 (.pick 92 (.c (.b true)) 103),oD 105 (.pick 89 104 (.c (.b false)))]
def ZE.r8:List Oper:=[oM 106 8,oM 7 106]
def ZE.r4:List Oper:=[oM 13 8,oD 14 (.bin .add 13 (cI 1)),oM 8 14]
def ZE.l0:Code:=.seq (.seq ZE.r3 (.cond 12 (.skip) (.exit 0))) (.seq (.block 1 (.seq (.seq (.draw ZE.r5 [(7,12),(20,25),(36,41)]) (.cond 59 ZE.r6 (.skip))) (.seq (.draw ZE.r7 [(7,12),(20,25),(36,41)]) (.cond 105 ZE.r8 (.skip))))) ZE.r4)
def ZE.r9:List Oper:=[oM 107 7,oM 6 107]
def ZE.code:Code:=.seq ZE.r0 (.seq ZE.r1 (.seq (.seq ZE.r2 (.block 0 (.loop ZE.l0))) (.seq ZE.r9 (.ret))))
def ZE:Func:=⟨108,[.t 6],ZE.code⟩
/-! muntin/muntinref10.Crossed -/
def Zs.r0:List Oper:=[oM 8 (.c (.b false))]
def Zs.r1:List Oper:=[oM 9 (cI 0)]
def Zs.r2:List Oper:=[oM 14 9,oM 15 1,oD 16 (.len 15),oD 17 (.bin .lss 14 16)]
def Zs.r4:List Oper:=[oM 10 (cI 0)]
def Zs.r5:List Oper:=[oM 20 10,oD 21 (.bin .lss 20 (cI 2))]
def Zs.r7:List Oper:=[oM 24 1,oM 25 9,oM 26 10,oD 27 (.ixa 8 24 25),oD 28 (.fa 0 27),oD 29 (.ixaa 1 4 28 26),oD 30 (.ld false 1 29),oM 11 30]
def Zs.r8:List Oper:=[oM 31 11,oD 32 (.bin .lss 31 (cI 0))]
def Zs.r9:List Oper:=[oM 33 0,oM 34 9,oD 35 (.ixa 2 33 34),oD 36 (.ld true 2 35),oD 12 (.alloc [.n 0,.n 0]),oN (.st 2 12 36)]
def Zs.r10:List Oper:=[oM 37 0,oM 38 11,oD 39 (.ixa 2 37 38),oD 40 (.ld true 2 39),oD 13 (.alloc [.n 0,.n 0]),oN (.st 2 13 40)]
def Zs.r11:List Oper:=[oD 41 (.fa 1 12),oD 42 (.ld false 1 41),oD 43 (.fa 1 13),oD 44 (.ld false 1 43),oD 45 (.eq false .sc 42 44),oM 46 45,oT 47 46 (.mv 0),oT 48 46 (.mv 2),oT 49 46 (.ixa 2 47 48),oT 50 46 (.fa 0 49),oT 51 46 (.ld false 1 50),oT 52 46 (.mv 0),oT 53 46 (.mv 3),oT 54 46 (.ixa 2 52 53),oT 55 46 (.fa 0 54),oT 56 46 (.ld false 1 55),oT 57 46 (.eq false .sc 51 56),oD 58 (.pick 46 57 (.c (.b false))),oM 59 58,oT 60 59 (.fa 0 12),oT 61 59 (.ld false 1 60),oT 62 59 (.mv 0),oT 63 59 (.mv 2),oT 64 59 (.ixa 2 62 63),oT 65 59 (.fa 0 64),oT 66 59 (.ld false 1 65),oT 67 59 (.bin .lss 61 66),oD 68 (.pick 59 67 (.c (.b false))),oM 69 68,oT 70 69 (.mv 0),oT 71 69 (.mv 2),oT 72 69 (.ixa 2 70 71),oT 73 69 (.fa 0 72),oT 74 69 (.ld false 1 73),oT 75 69 (.fa 0 13),oT 76 69 (.ld false 1 75),oT 77 69 (.bin .lss 74 76),oD 78 (.pick 69 77 (.c (.b false))),oM 79 78,oT 80 79 (.mv 0),oT 81 79 (.mv 2),oT 82 79 (.ixa 2 80 81),oT 83 79 (.fa 1 82),oT 84 79 (.ld false 1 83),oT 85 79 (.fa 1 12),oT 86 79 (.ld false 1 85),oT 87 79 (.bin .lss 84 86),oD 88 (.pick 79 87 (.c (.b false))),oM 89 88,oT 90 89 (.fa 1 12),oT 91 89 (.ld false 1 90),oT 92 89 (.mv 0),oT 93 89 (.mv 3),oT 94 89 (.ixa 2 92 93),oT 95 89 (.fa 1 94),oT 96 89 (.ld false 1 95),oT 97 89 (.bin .lss 91 96),oD 98 (.pick 89 97 (.c (.b false)))]
def Zs.r12:List Oper:=[oM 8 (.c (.b true))]
def Zs.r13:List Oper:=[oD 99 (.fa 0 12),oD 100 (.ld false 1 99),oD 101 (.fa 0 13),oD 102 (.ld false 1 101),oD 103 (.eq false .sc 100 102),oM 104 103,oT 105 104 (.mv 0),oT 106 104 (.mv 2),oT 107 104 (.ixa 2 105 106),oT 108 104 (.fa 1 107),oT 109 104 (.ld false 1 108),oT 110 104 (.mv 0),oT 111 104 (.mv 3),oT 112 104 (.ixa 2 110 111),oT 113 104 (.fa 1 112),oT 114 104 (.ld false 1 113),oT 115 104 (.eq false .sc 109 114),oD 116 (.pick 104 115 (.c (.b false))),oM 117 116,oT 118 117 (.mv 0),oT 119 117 (.mv 2),oT 120 117 (.ixa 2 118 119),oT 121 117 (.fa 0 120),oT 122 117 (.ld false 1 121),oT 123 117 (.fa 0 12),oT 124 117 (.ld false 1 123),oT 125 117 (.bin .lss 122 124),oD 126 (.pick 117 125 (.c (.b false))),oM 127 126,oT 128 127 (.fa 0 12),oT 129 127 (.ld false 1 128),oT 130 127 (.mv 0),oT 131 127 (.mv 3),oT 132 127 (.ixa 2 130 131),oT 133 127 (.fa 0 132),oT 134 127 (.ld false 1 133),oT 135 127 (.bin .lss 129 134),oD 136 (.pick 127 135 (.c (.b false))),oM 137 136,oT 138 137 (.fa 1 12),oT 139 137 (.ld false 1 138),oT 140 137 (.mv 0),oT 141 137 (.mv 2),oT 142 137 (.ixa 2 140 141),oT 143 137 (.fa 1 142),oT 144 137 (.ld false 1 143),oT 145 137 (.bin .lss 139 144),oD 146 (.pick 137 145 (.c (.b false))),oM 147 146,oT 148 147 (.mv 0),oT 149 147 (.mv 2),oT 150 147 (.ixa 2 148 149),oT 151 147 (.fa 1 150),oT 152 147 (.ld false 1 151),oT 153 147 (.fa 1 13),oT 154 147 (.ld false 1 153),oT 155 147 (.bin .lss 152 154),oD 156 (.pick 147 155 (.c (.b false)))]
def Zs.r14:List Oper:=[oM 8 (.c (.b true))]
def Zs.r6:List Oper:=[oM 22 10,oD 23 (.bin .add 22 (cI 1)),oM 10 23]
def Zs.l0:Code:=.seq (.seq Zs.r5 (.cond 21 (.skip) (.exit 2))) (.seq (.block 3 (.seq Zs.r7 (.seq (.seq Zs.r8 (.cond 32 (.exit 3) (.skip))) (.seq Zs.r9 (.seq Zs.r10 (.seq (.seq (.draw Zs.r11 [(1,3),(10,15),(20,25),(33,35),(43,45),(50,55)]) (.cond 98 (.seq Zs.r12 (.ret)) (.skip))) (.seq (.draw Zs.r13 [(1,3),(10,15),(23,25),(30,35),(40,45),(53,55)]) (.cond 156 (.seq Zs.r14 (.ret)) (.skip))))))))) Zs.r6)
def Zs.r3:List Oper:=[oM 18 9,oD 19 (.bin .add 18 (cI 1)),oM 9 19]
def Zs.l1:Code:=.seq (.seq Zs.r2 (.cond 17 (.skip) (.exit 0))) (.seq (.block 1 (.seq Zs.r4 (.block 2 (.loop Zs.l0)))) Zs.r3)
def Zs.r15:List Oper:=[oM 8 (.c (.b false))]
def Zs.code:Code:=.seq Zs.r0 (.seq (.seq Zs.r1 (.block 0 (.loop Zs.l1))) (.seq Zs.r15 (.ret)))
def Zs:Func:=⟨157,[.t 8],Zs.code⟩
/-! muntin/muntinref10.with -/
def Z9.r0:List Oper:=[oM 10 (.c (.sn))]
def Z9.r1:List Oper:=[oM 11 (.c (.sn))]
def Z9.r2:List Oper:=[oM 12 (cI 0)]
def Z9.r3:List Oper:=[oM 14 12,oM 15 0,oD 16 (.len 15),oD 17 (.bin .lss 14 16)]
def Z9.r5:List Oper:=[oM 20 0,oM 21 12,oD 22 (.ixa 8 20 21),oD 23 (.ld true 8 22),oD 13 (.alloc [.n 0,.n 0,.n 0,.n 0,.n 0,.n 0,.n 0,.n 0]),oN (.st 8 13 23)]
def Z9.r6:List Oper:=[oM 24 12,oM 25 1,oD 26 (.eq false .sc 24 25)]
def Z9.r7:List Oper:=[oM 27 2,oM 28 3,oD 29 (.fa 0 13),oD 30 (.ixaa 1 4 29 27),oN (.st 1 30 28)]
def Z9.r8:List Oper:=[oM 31 2,oM 32 4,oD 33 (.fa 4 13),oD 34 (.ixaa 1 4 33 31),oN (.st 1 34 32)]
def Z9.r9:List Oper:=[oM 35 12,oM 36 3,oD 37 (.eq false .sc 35 36)]
def Z9.r10:List Oper:=[oM 38 2,oD 39 (.bin .add 38 (cI 2)),oD 40 (.bin .rem 39 (cI 4)),oM 41 1,oD 42 (.fa 0 13),oD 43 (.ixaa 1 4 42 40),oN (.st 1 43 41)]
def Z9.r11:List Oper:=[oM 44 2,oD 45 (.bin .add 44 (cI 2)),oD 46 (.bin .rem 45 (cI 4)),oM 47 4,oD 48 (.fa 4 13),oD 49 (.ixaa 1 4 48 46),oN (.st 1 49 47)]
def Z9.r12:List Oper:=[oM 50 11,oD 51 (.ld true 8 13),oD 52 (.bsl 8 1 [.n 0,.n 0,.n 0,.n 0,.n 0,.n 0,.n 0,.n 0] [(0,8,.t 51)]),oD 53 (.app 8 64 50 52),oM 11 53]
def Z9.r4:List Oper:=[oM 18 12,oD 19 (.bin .add 18 (cI 1)),oM 12 19]
def Z9.l0:Code:=.seq (.seq Z9.r3 (.cond 17 (.skip) (.exit 0))) (.seq (.block 1 (.seq Z9.r5 (.seq (.seq Z9.r6 (.cond 26 (.seq Z9.r7 Z9.r8) (.skip))) (.seq (.seq Z9.r9 (.cond 37 (.seq Z9.r10 Z9.r11) (.skip))) Z9.r12)))) Z9.r4)
def Z9.r13:List Oper:=[oM 54 11,oM 10 54]
def Z9.code:Code:=.seq Z9.r0 (.seq Z9.r1 (.seq (.seq Z9.r2 (.block 0 (.loop Z9.l0))) (.seq Z9.r13 (.ret))))
def Z9:Func:=⟨55,[.t 10],Z9.code⟩
/-! muntin/grid.Check -/
def zf.r0:List Oper:=[oM 2 (cI 0)]
def zf.r1:List Oper:=[oM 6 0,oD 7 (.len 6),oD 8 (.bin .gtr 7 (cI 4096))]
def zf.r2:List Oper:=[oM 2 (cI 6)]
def zf.r3:List Oper:=[oM 9 0,oD 10 (.len 9),oM 11 (cI 0)]
def zf.r4:List Oper:=[oD 12 (.bin .lss 11 10)]
def zf.r5:List Oper:=[oM 13 11,oM 3 13]
def zf.r6:List Oper:=[oM 14 (cI 0)]
def zf.r7:List Oper:=[oD 15 (.bin .lss 14 (cI 4))]
def zf.r8:List Oper:=[oM 16 14,oM 4 16]
def zf.r9:List Oper:=[oM 17 0,oM 18 3,oM 19 4,oC 20 82 [17,18,19],oM 5 20]
def zf.r10:List Oper:=[oM 21 5,oD 22 (.eq true .sc 21 (cI 0))]
def zf.r11:List Oper:=[oM 23 5,oM 2 23]
def zf.r12:List Oper:=[oD 24 (.bin .add 14 (cI 1)),oM 14 24]
def zf.l0:Code:=.seq zf.r7 (.seq (.cond 15 (.skip) (.exit 2)) (.seq (.block 3 (.seq zf.r8 (.seq zf.r9 (.seq zf.r10 (.cond 22 (.seq zf.r11 (.ret)) (.skip)))))) zf.r12))
def zf.r13:List Oper:=[oD 25 (.bin .add 11 (cI 1)),oM 11 25]
def zf.l1:Code:=.seq zf.r4 (.seq (.cond 12 (.skip) (.exit 0)) (.seq (.block 1 (.seq zf.r5 (.seq zf.r6 (.block 2 (.loop zf.l0))))) zf.r13))
def zf.r14:List Oper:=[oM 2 (cI 0)]
def zf.code:Code:=.seq zf.r0 (.seq (.seq zf.r1 (.cond 8 (.seq zf.r2 (.ret)) (.skip))) (.seq (.seq zf.r3 (.block 0 (.loop zf.l1))) (.seq zf.r14 (.ret))))
def zf:Func:=⟨26,[.t 2],zf.code⟩
/-! muntin/join.spread -/
def ZL.r0:List Oper:=[oM 4 (.c (.sn)),oM 5 (.c (.sn))]
def ZL.r1:List Oper:=[oD 13 (.bsl 1 1 [.n 0] [(0,1,.c (.n (-1)))]),oM 14 0,oD 15 (.len 14),oC 16 83 [13,15],oD 17 (.bsl 1 1 [.n 0] [(0,1,.c (.n (-1)))]),oM 18 0,oD 19 (.len 18),oC 20 83 [17,19],oM 6 16,oM 7 20]
def ZL.r2:List Oper:=[oM 21 1,oD 22 (.bsl 1 1 [.n 0] [(0,1,.t 21)]),oM 8 22]
def ZL.r3:List Oper:=[oM 23 0,oD 24 (.len 23),oD 25 (.mks 1 1 [.b false] 24 24),oM 9 25]
def ZL.r4:List Oper:=[oM 26 9,oM 27 1,oD 28 (.ixa 1 26 27),oN (.st 1 28 (.c (.b true)))]
def ZL.r5:List Oper:=[oM 29 8,oD 30 (.len 29),oD 31 (.bin .gtr 30 (cI 0))]
def ZL.r6:List Oper:=[oM 32 8,oD 33 (.ixa 1 32 (cI 0)),oD 34 (.ld false 1 33),oM 10 34]
def ZL.r7:List Oper:=[oM 35 8,oD 36 (.slc 1 35 (some (cI 1)) none none),oM 8 36]
def ZL.r8:List Oper:=[oM 37 (cI 0)]
def ZL.r9:List Oper:=[oD 38 (.bin .lss 37 (cI 4))]
def ZL.r10:List Oper:=[oM 39 37,oM 11 39]
def ZL.r11:List Oper:=[oM 40 0,oM 41 10,oM 42 11,oD 43 (.ixa 8 40 41),oD 44 (.fa 0 43),oD 45 (.ixaa 1 4 44 42),oD 46 (.ld false 1 45),oM 12 46]
def ZL.r12:List Oper:=[oM 47 12,oD 48 (.bin .geq 47 (cI 0)),oM 49 48,oT 50 49 (.mv 9),oT 51 49 (.mv 12),oT 52 49 (.ixa 1 50 51),oT 53 49 (.ld false 1 52),oT 54 49 (.un .not 53),oD 55 (.pick 49 54 (.c (.b false)))]
def ZL.r13:List Oper:=[oM 56 9,oM 57 12,oM 58 6,oM 59 12,oM 60 7,oM 61 12,oM 62 10,oM 63 11,oD 64 (.ixa 1 56 57),oN (.st 1 64 (.c (.b true))),oD 65 (.ixa 1 58 59),oN (.st 1 65 62),oD 66 (.ixa 1 60 61),oN (.st 1 66 63)]
def ZL.r14:List Oper:=[oM 67 8,oM 68 12,oD 69 (.bsl 1 1 [.n 0] [(0,1,.t 68)]),oD 70 (.app 1 8 67 69),oM 8 70]
def ZL.r15:List Oper:=[oD 71 (.bin .add 37 (cI 1)),oM 37 71]
def ZL.l0:Code:=.seq ZL.r9 (.seq (.cond 38 (.skip) (.exit 2)) (.seq (.block 3 (.seq ZL.r10 (.seq ZL.r11 (.seq ZL.r12 (.cond 55 (.seq ZL.r13 ZL.r14) (.skip)))))) ZL.r15))
def ZL.l1:Code:=.seq (.seq ZL.r5 (.cond 31 (.skip) (.exit 0))) (.block 1 (.seq ZL.r6 (.seq ZL.r7 (.seq ZL.r8 (.block 2 (.loop ZL.l0))))))
def ZL.r16:List Oper:=[oM 72 6,oM 73 7,oM 4 72,oM 5 73]
def ZL.code:Code:=.seq ZL.r0 (.seq ZL.r1 (.seq ZL.r2 (.seq ZL.r3 (.seq ZL.r4 (.seq (.block 0 (.loop ZL.l1)) (.seq ZL.r16 (.ret)))))))
def ZL:Func:=⟨74,[.t 4,.t 5],ZL.code⟩
/-! muntin/compass.Left -/
def ZaX.r0:List Oper:=[oM 4 (cI 0)]
def ZaX.r1:List Oper:=[oM 5 0,oC 6 90 [5],oD 7 (.un .not 6)]
def ZaX.r2:List Oper:=[oM 4 (cI 0)]
def ZaX.r3:List Oper:=[oM 8 0,oM 9 1,oD 10 (.bin .rem 9 (cI 4)),oD 11 (.bin .add 8 10),oD 12 (.bin .add 11 (cI 4)),oD 13 (.bin .rem 12 (cI 4)),oM 4 13]
def ZaX.code:Code:=.seq ZaX.r0 (.seq (.seq ZaX.r1 (.cond 7 (.seq ZaX.r2 (.ret)) (.skip))) (.seq ZaX.r3 (.ret)))
def ZaX:Func:=⟨14,[.t 4],ZaX.code⟩
/-! slices.ContainsFunc[[]int,int] -/
def Zas.r0:List Oper:=[oM 4 (.c (.b false))]
def Zas.r1:List Oper:=[oM 5 0,oM 6 1,oC 7 91 [5,6],oD 8 (.bin .geq 7 (cI 0)),oM 4 8]
def Zas.code:Code:=.seq Zas.r0 (.seq Zas.r1 (.ret))
def Zas:Func:=⟨9,[.t 4],Zas.code⟩
/-! muntin/grid.side -/
def zV.r0:List Oper:=[oM 6 (cI 0)]
def zV.r1:List Oper:=[oM 10 0,oM 11 1,oM 12 2,oD 13 (.ixa 8 10 11),oD 14 (.fa 0 13),oD 15 (.ixaa 1 4 14 12),oD 16 (.ld false 1 15),oM 17 0,oM 18 1,oM 19 2,oD 20 (.ixa 8 17 18),oD 21 (.fa 4 20),oD 22 (.ixaa 1 4 21 19),oD 23 (.ld false 1 22),oM 7 16,oM 8 23]
def zV.r2:List Oper:=[oM 24 7,oD 25 (.eq false .sc 24 (cI (-1)))]
def zV.r3:List Oper:=[oM 26 8,oD 27 (.eq true .sc 26 (cI 0))]
def zV.r4:List Oper:=[oM 6 (cI 9)]
def zV.r5:List Oper:=[oM 6 (cI 0)]
def zV.r6:List Oper:=[oM 28 7,oD 29 (.bin .lss 28 (cI 0)),oM 30 29,oF 31 30 (.mv 7),oF 32 30 (.mv 0),oF 33 30 (.len 32),oF 34 30 (.bin .geq 31 33),oD 35 (.pick 30 (.c (.b true)) 34),oM 36 35,oF 37 36 (.mv 7),oF 38 36 (.mv 1),oF 39 36 (.eq false .sc 37 38),oD 40 (.pick 36 (.c (.b true)) 39)]
def zV.r7:List Oper:=[oM 6 (cI 3)]
def zV.r8:List Oper:=[oM 41 2,oC 42 77 [41,.c (.n 2)],oM 9 42]
def zV.r9:List Oper:=[oM 43 0,oM 44 7,oM 45 9,oD 46 (.ixa 8 43 44),oD 47 (.fa 0 46),oD 48 (.ixaa 1 4 47 45),oD 49 (.ld false 1 48),oM 50 1,oD 51 (.eq true .sc 49 50),oM 52 51,oF 53 52 (.mv 0),oF 54 52 (.mv 7),oF 55 52 (.mv 9),oF 56 52 (.ixa 8 53 54),oF 57 52 (.fa 4 56),oF 58 52 (.ixaa 1 4 57 55),oF 59 52 (.ld false 1 58),oF 60 52 (.mv 8),oF 61 52 (.eq true .sc 59 60),oD 62 (.pick 52 (.c (.b true)) 61),oM 63 62,oF 64 63 (.mv 8),oF 65 63 (.bin .lss 64 (cI (-2))),oD 66 (.pick 63 (.c (.b true)) 65)]
def zV.r10:List Oper:=[oM 6 (cI 9)]
def zV.r11:List Oper:=[oM 6 (cI 0)]
def zV.code:Code:=.seq zV.r0 (.seq (.draw zV.r1 [(6,13)]) (.seq (.seq zV.r2 (.cond 25 (.seq (.seq zV.r3 (.cond 27 (.seq zV.r4 (.ret)) (.skip))) (.seq zV.r5 (.ret))) (.skip))) (.seq (.seq zV.r6 (.cond 40 (.seq zV.r7 (.ret)) (.skip))) (.seq zV.r8 (.seq (.seq zV.r9 (.cond 66 (.seq zV.r10 (.ret)) (.skip))) (.seq zV.r11 (.ret)))))))
def zV:Func:=⟨67,[.t 6],zV.code⟩
/-! slices.Repeat[[]int,int] -/
def ZI.r0:List Oper:=[oM 4 (.c (.sn))]
def ZI.r1:List Oper:=[oM 9 1,oD 10 (.bin .lss 9 (cI 0))]
def ZI.r2:List Oper:=[oD 11 (.bad),oN (.bad)]
def ZI.r3:List Oper:=[oM 13 0,oD 14 (.len 13),oD 15 (.conv .u64 14),oM 16 1,oD 17 (.conv .u64 16),oC 18 89 [15,17],oM 12 18,oD 19 (.ext 12 0),oD 20 (.ext 12 1),oM 5 19,oM 6 20]
def ZI.r4:List Oper:=[oM 21 5,oD 22 (.bin .gtr 21 (.c (.i .u64 0))),oM 23 22,oF 24 23 (.mv 6),oF 25 23 (.bin .gtr 24 (.c (.i .u64 9223372036854775807))),oD 26 (.pick 23 (.c (.b true)) 25)]
def ZI.r5:List Oper:=[oD 27 (.bad),oN (.bad)]
def ZI.r6:List Oper:=[oM 28 6,oD 29 (.conv .i64 28),oD 30 (.mks 1 8 [.n 0] 29 29),oM 7 30]
def ZI.r7:List Oper:=[oM 31 7,oM 32 0,oD 33 (.cpy 1 31 32),oM 8 33]
def ZI.r8:List Oper:=[oM 34 8,oM 35 7,oD 36 (.len 35),oD 37 (.bin .lss 34 36)]
def ZI.r9:List Oper:=[oM 38 8,oM 39 7,oM 40 8,oD 41 (.slc 1 39 (some 40) none none),oM 42 7,oM 43 8,oD 44 (.slc 1 42 none (some 43) none),oD 45 (.cpy 1 41 44),oD 46 (.bin .add 38 45),oM 8 46]
def ZI.l0:Code:=.seq (.seq ZI.r8 (.cond 37 (.skip) (.exit 0))) (.block 1 (.draw ZI.r9 []))
def ZI.r10:List Oper:=[oM 47 7,oM 4 47]
def ZI.code:Code:=.seq ZI.r0 (.seq (.seq ZI.r1 (.cond 10 ZI.r2 (.skip))) (.seq ZI.r3 (.seq (.seq ZI.r4 (.cond 26 ZI.r5 (.skip))) (.seq ZI.r6 (.seq ZI.r7 (.seq (.block 0 (.loop ZI.l0)) (.seq ZI.r10 (.ret))))))))
def ZI:Func:=⟨48,[.t 4],ZI.code⟩
/-! math/bits.Mul -/
def ZbC.r0:List Oper:=[oM 4 (.c (.i .u64 0)),oM 5 (.c (.i .u64 0))]
def ZbC.r1:List Oper:=[oM 11 0,oD 12 (.conv .u32 11),oM 13 1,oD 14 (.conv .u32 13),oC 15 97 [12,14],oM 10 15,oD 16 (.ext 10 0),oD 17 (.ext 10 1),oM 6 16,oM 7 17]
def ZbC.r2:List Oper:=[oM 18 6,oD 19 (.conv .u64 18),oM 20 7,oD 21 (.conv .u64 20),oM 4 19,oM 5 21]
def ZbC.r3:List Oper:=[oM 23 0,oM 24 1,oC 25 98 [23,24],oM 22 25,oD 26 (.ext 22 0),oD 27 (.ext 22 1),oM 8 26,oM 9 27]
def ZbC.r4:List Oper:=[oM 28 8,oM 29 9,oM 4 28,oM 5 29]
def ZbC.code:Code:=.seq ZbC.r0 (.seq (.cond (.c (.b false)) (.seq ZbC.r1 (.seq ZbC.r2 (.ret))) (.skip)) (.seq ZbC.r3 (.seq ZbC.r4 (.ret))))
def ZbC:Func:=⟨30,[.t 4,.t 5],ZbC.code⟩
/-! muntin/compass.Good -/
def ZbJ.r0:List Oper:=[oM 2 (.c (.b false))]
def ZbJ.r1:List Oper:=[oM 3 0,oD 4 (.bin .geq 3 (cI 0)),oM 5 4,oT 6 5 (.mv 0),oT 7 5 (.bin .leq 6 (cI 3)),oD 8 (.pick 5 7 (.c (.b false))),oM 2 8]
def ZbJ.code:Code:=.seq ZbJ.r0 (.seq ZbJ.r1 (.ret))
def ZbJ:Func:=⟨9,[.t 2],ZbJ.code⟩
/-! slices.IndexFunc[[]int,int] -/
def ZM.r0:List Oper:=[oM 4 (cI 0)]
def ZM.r1:List Oper:=[oM 6 0,oD 7 (.len 6),oM 8 (cI 0)]
def ZM.r2:List Oper:=[oD 9 (.bin .lss 8 7)]
def ZM.r3:List Oper:=[oM 10 8,oM 5 10]
def ZM.r4:List Oper:=[oM 11 1,oM 12 0,oM 13 5,oD 14 (.ixa 1 12 13),oD 15 (.ld false 1 14),oD 16 (.call 11 [15])]
def ZM.r5:List Oper:=[oM 17 5,oM 4 17]
def ZM.r6:List Oper:=[oD 18 (.bin .add 8 (cI 1)),oM 8 18]
def ZM.l0:Code:=.seq ZM.r2 (.seq (.cond 9 (.skip) (.exit 0)) (.seq (.block 1 (.seq ZM.r3 (.seq ZM.r4 (.cond 16 (.seq ZM.r5 (.ret)) (.skip))))) ZM.r6))
def ZM.r7:List Oper:=[oM 4 (cI (-1))]
def ZM.code:Code:=.seq ZM.r0 (.seq (.seq ZM.r1 (.block 0 (.loop ZM.l0))) (.seq ZM.r7 (.ret)))
def ZM:Func:=⟨19,[.t 4],ZM.code⟩
/-! math/bits.Mul32 -/
def ZbI.r0:List Oper:=[oM 4 (.c (.i .u32 0)),oM 5 (.c (.i .u32 0))]
def ZbI.r1:List Oper:=[oM 7 0,oD 8 (.conv .u64 7),oM 9 1,oD 10 (.conv .u64 9),oD 11 (.bin .mul 8 10),oM 6 11]
def ZbI.r2:List Oper:=[oM 12 6,oD 13 (.bin .shr 12 (.c (.i .u64 32))),oD 14 (.conv .u32 13),oM 15 6,oD 16 (.conv .u32 15),oM 4 14,oM 5 16]
def ZbI.code:Code:=.seq ZbI.r0 (.seq ZbI.r1 (.seq ZbI.r2 (.ret)))
def ZbI:Func:=⟨17,[.t 4,.t 5],ZbI.code⟩
/-! math/bits.Mul64 -/
def zI.r0:List Oper:=[oM 4 (.c (.i .u64 0)),oM 5 (.c (.i .u64 0))]
def zI.r1:List Oper:=[oM 14 0,oD 15 (.bin .and 14 (.c (.i .u64 4294967295))),oM 6 15]
def zI.r2:List Oper:=[oM 16 0,oD 17 (.bin .shr 16 (.c (.i .u64 32))),oM 7 17]
def zI.r3:List Oper:=[oM 18 1,oD 19 (.bin .and 18 (.c (.i .u64 4294967295))),oM 8 19]
def zI.r4:List Oper:=[oM 20 1,oD 21 (.bin .shr 20 (.c (.i .u64 32))),oM 9 21]
def zI.r5:List Oper:=[oM 22 6,oM 23 8,oD 24 (.bin .mul 22 23),oM 10 24]
def zI.r6:List Oper:=[oM 25 7,oM 26 8,oD 27 (.bin .mul 25 26),oM 28 10,oD 29 (.bin .shr 28 (.c (.i .u64 32))),oD 30 (.bin .add 27 29),oM 11 30]
def zI.r7:List Oper:=[oM 31 11,oD 32 (.bin .and 31 (.c (.i .u64 4294967295))),oM 12 32]
def zI.r8:List Oper:=[oM 33 11,oD 34 (.bin .shr 33 (.c (.i .u64 32))),oM 13 34]
def zI.r9:List Oper:=[oM 35 12,oM 36 6,oM 37 9,oD 38 (.bin .mul 36 37),oD 39 (.bin .add 35 38),oM 12 39]
def zI.r10:List Oper:=[oM 40 7,oM 41 9,oD 42 (.bin .mul 40 41),oM 43 13,oD 44 (.bin .add 42 43),oM 45 12,oD 46 (.bin .shr 45 (.c (.i .u64 32))),oD 47 (.bin .add 44 46),oM 4 47]
def zI.r11:List Oper:=[oM 48 0,oM 49 1,oD 50 (.bin .mul 48 49),oM 5 50]
def zI.code:Code:=.seq zI.r0 (.seq zI.r1 (.seq zI.r2 (.seq zI.r3 (.seq zI.r4 (.seq zI.r5 (.seq zI.r6 (.seq zI.r7 (.seq zI.r8 (.seq zI.r9 (.seq zI.r10 (.seq zI.r11 (.ret))))))))))))
def zI:Func:=⟨51,[.t 4,.t 5],zI.code⟩
/-! muntin/muntinref10.Turned -/
def Z0.r0:List Oper:=[oM 2 (.c (.sn))]
def Z0.r1:List Oper:=[oM 3 (.c (.sn))]
def Z0.r2:List Oper:=[oM 4 (cI 0)]
def Z0.r3:List Oper:=[oM 7 4,oM 8 0,oD 9 (.len 8),oD 10 (.bin .lss 7 9)]
def Z0.r5:List Oper:=[oM 13 0,oM 14 4,oD 15 (.ixa 8 13 14),oD 16 (.ld true 8 15),oD 5 (.alloc [.n 0,.n 0,.n 0,.n 0,.n 0,.n 0,.n 0,.n 0]),oN (.st 8 5 16)]
def Z0.r6:List Oper:=[oM 6 (cI 0)]
def Z0.r7:List Oper:=[oM 17 6,oD 18 (.bin .lss 17 (cI 4))]
def Z0.r9:List Oper:=[oM 21 6,oD 22 (.bin .add 21 (cI 1)),oD 23 (.bin .rem 22 (cI 4)),oM 24 0,oM 25 4,oM 26 6,oD 27 (.ixa 8 24 25),oD 28 (.fa 0 27),oD 29 (.ixaa 1 4 28 26),oD 30 (.ld false 1 29),oD 31 (.fa 0 5),oD 32 (.ixaa 1 4 31 23),oN (.st 1 32 30)]
def Z0.r10:List Oper:=[oM 33 6,oD 34 (.bin .add 33 (cI 1)),oD 35 (.bin .rem 34 (cI 4)),oM 36 0,oM 37 4,oM 38 6,oD 39 (.ixa 8 36 37),oD 40 (.fa 4 39),oD 41 (.ixaa 1 4 40 38),oD 42 (.ld false 1 41),oD 43 (.fa 4 5),oD 44 (.ixaa 1 4 43 35),oN (.st 1 44 42)]
def Z0.r8:List Oper:=[oM 19 6,oD 20 (.bin .add 19 (cI 1)),oM 6 20]
def Z0.l0:Code:=.seq (.seq Z0.r7 (.cond 18 (.skip) (.exit 2))) (.seq (.block 3 (.seq Z0.r9 Z0.r10)) Z0.r8)
def Z0.r11:List Oper:=[oM 45 3,oD 46 (.ld true 8 5),oD 47 (.bsl 8 1 [.n 0,.n 0,.n 0,.n 0,.n 0,.n 0,.n 0,.n 0] [(0,8,.t 46)]),oD 48 (.app 8 64 45 47),oM 3 48]
def Z0.r4:List Oper:=[oM 11 4,oD 12 (.bin .add 11 (cI 1)),oM 4 12]
def Z0.l1:Code:=.seq (.seq Z0.r3 (.cond 10 (.skip) (.exit 0))) (.seq (.block 1 (.seq Z0.r5 (.seq (.seq Z0.r6 (.block 2 (.loop Z0.l0))) Z0.r11))) Z0.r4)
def Z0.r12:List Oper:=[oM 49 3,oM 2 49]
def Z0.code:Code:=.seq Z0.r0 (.seq Z0.r1 (.seq (.seq Z0.r2 (.block 0 (.loop Z0.l1))) (.seq Z0.r12 (.ret))))
def Z0:Func:=⟨50,[.t 2],Z0.code⟩
/-! slices.Contains[[]int,int] -/
def ZaG.r0:List Oper:=[oM 4 (.c (.b false))]
def ZaG.r1:List Oper:=[oM 5 0,oM 6 1,oC 7 136 [5,6],oD 8 (.bin .geq 7 (cI 0)),oM 4 8]
def ZaG.code:Code:=.seq ZaG.r0 (.seq ZaG.r1 (.ret))
def ZaG:Func:=⟨9,[.t 4],ZaG.code⟩
/-! muntin/seg.Of -/
def Zbw.r0:List Oper:=[oD 2 (.alloc [.sn,.sn,.sn,.sn]),oM 3 (cI 0)]
def Zbw.r1:List Oper:=[oM 11 0,oC 12 66 [11],oM 4 12]
def Zbw.r2:List Oper:=[oM 13 4,oD 14 (.eq true .sc 13 (cI 0))]
def Zbw.r3:List Oper:=[oD 15 (.build [.sn,.sn,.sn,.sn] []),oM 16 4,oN (.st 4 2 15),oM 3 16]
def Zbw.r4:List Oper:=[oM 18 0,oC 19 137 [18,.c (.n 1)],oM 17 19,oD 20 (.ext 17 0),oD 21 (.ext 17 1),oD 22 (.ext 17 2),oM 5 20,oM 6 21,oM 7 22]
def Zbw.r5:List Oper:=[oM 24 0,oC 25 137 [24,.c (.n 0)],oM 23 25,oD 26 (.ext 23 0),oD 27 (.ext 23 1),oD 28 (.ext 23 2),oM 8 26,oM 9 27,oM 10 28]
def Zbw.r6:List Oper:=[oM 29 7,oD 30 (.un .not 29),oM 31 30,oF 32 31 (.mv 10),oF 33 31 (.un .not 32),oD 34 (.pick 31 (.c (.b true)) 33)]
def Zbw.r7:List Oper:=[oD 35 (.build [.sn,.sn,.sn,.sn] []),oN (.st 4 2 35),oM 3 (cI 10)]
def Zbw.r8:List Oper:=[oM 36 5,oM 37 8,oM 38 6,oM 39 9,oD 40 (.build [.sn,.sn,.sn,.sn] [(0,1,.t 36),(1,1,.t 37),(2,1,.t 38),(3,1,.t 39)]),oN (.st 4 2 40),oM 3 (cI 0)]
def Zbw.code:Code:=.seq Zbw.r0 (.seq (.seq Zbw.r1 (.seq Zbw.r2 (.cond 14 (.seq Zbw.r3 (.ret)) (.skip)))) (.seq Zbw.r4 (.seq Zbw.r5 (.seq (.seq Zbw.r6 (.cond 34 (.seq Zbw.r7 (.ret)) (.skip))) (.seq Zbw.r8 (.ret))))))
def Zbw:Func:=⟨41,[.cell 2 true 4,.t 3],Zbw.code⟩
/-! (muntin/seg.Chains).Meet -/
def ZaP.r0:List Oper:=[oD 5 (.box 0),oM 10 (.c (.b false))]
def ZaP.r1:List Oper:=[oD 12 (.ld true 4 5),oM 13 3,oM 14 4,oC 15 140 [12,13,14],oD 11 (.alloc [.sn]),oN (.st 1 11 15)]
def ZaP.r2:List Oper:=[oD 16 (.ld true 4 5),oM 17 1,oM 18 2,oC 19 140 [16,17,18],oD 20 (.clo 141 [11]),oC 21 78 [19,20],oM 10 21]
def ZaP.code:Code:=.seq ZaP.r0 (.seq ZaP.r1 (.seq ZaP.r2 (.ret)))
def ZaP:Func:=⟨22,[.t 10],ZaP.code⟩
/-! (muntin/seg.Chains).Span -/
def z9.r0:List Oper:=[oD 3 (.box 0),oM 6 (cI 0),oM 7 (cI 0)]
def z9.r1:List Oper:=[oD 10 (.ld true 4 3),oM 11 1,oM 12 2,oC 13 140 [10,11,12],oM 8 13]
def z9.r2:List Oper:=[oM 14 8,oD 15 (.len 14),oD 16 (.eq false .sc 15 (cI 0))]
def z9.r3:List Oper:=[oM 6 (cI 0),oM 7 (cI 0)]
def z9.r4:List Oper:=[oD 17 (.fa 0 3),oD 18 (.ld false 1 17),oM 9 18]
def z9.r5:List Oper:=[oM 19 1]
def z9.r6:List Oper:=[oD 20 (.fa 1 3),oD 21 (.ld false 1 20),oM 9 21]
def z9.r7:List Oper:=[oM 22 9,oM 23 8,oD 24 (.ixa 1 23 (cI 0)),oD 25 (.ld false 1 24),oD 26 (.ixa 1 22 25),oD 27 (.ld false 1 26),oM 28 9,oM 29 8,oM 30 8,oD 31 (.len 30),oD 32 (.bin .sub 31 (cI 1)),oD 33 (.ixa 1 29 32),oD 34 (.ld false 1 33),oD 35 (.ixa 1 28 34),oD 36 (.ld false 1 35),oM 6 27,oM 7 36]
def z9.code:Code:=.seq z9.r0 (.seq z9.r1 (.seq (.seq z9.r2 (.cond 16 (.seq z9.r3 (.ret)) (.skip))) (.seq z9.r4 (.seq (.seq z9.r5 (.cond 19 z9.r6 (.skip))) (.seq (.draw z9.r7 [(3,12),(5,12),(3,14),(5,14)]) (.ret))))))
def z9:Func:=⟨37,[.t 6,.t 7],z9.code⟩
/-! muntin/arcs.Of -/
def ZbV.r0:List Oper:=[oD 2 (.alloc [.sn,.sn,.sn,.sn,.sn,.sn]),oM 3 (cI 0)]
def ZbV.r1:List Oper:=[oM 7 0,oC 8 120 [7],oM 6 8,oD 9 (.ext 6 0),oD 10 (.ext 6 1),oD 4 (.alloc [.sn,.sn,.sn,.sn]),oN (.st 4 4 9),oM 5 10]
def ZbV.r2:List Oper:=[oM 11 5,oD 12 (.eq true .sc 11 (cI 0))]
def ZbV.r3:List Oper:=[oD 13 (.build [.sn,.sn,.sn,.sn,.sn,.sn] []),oM 14 5,oN (.st 6 2 13),oM 3 14]
def ZbV.r4:List Oper:=[oD 15 (.ld true 4 4),oM 16 0,oD 17 (.fa 0 4),oD 18 (.ld false 1 17),oC 19 144 [16,.c (.n 0),18],oM 20 0,oD 21 (.fa 1 4),oD 22 (.ld false 1 21),oC 23 144 [20,.c (.n 1),22],oD 24 (.build [.sn,.sn,.sn,.sn,.sn,.sn] [(0,4,.t 15),(4,1,.t 19),(5,1,.t 23)]),oN (.st 6 2 24),oM 3 (cI 0)]
def ZbV.code:Code:=.seq ZbV.r0 (.seq ZbV.r1 (.seq (.seq ZbV.r2 (.cond 12 (.seq ZbV.r3 (.ret)) (.skip))) (.seq (.draw ZbV.r4 [(0,3),(0,4),(0,7),(3,7),(4,7),(0,8)]) (.ret))))
def ZbV:Func:=⟨25,[.cell 2 true 6,.t 3],ZbV.code⟩
/-! slices.Index[[]int,int] -/
def zl.r0:List Oper:=[oM 4 (cI 0)]
def zl.r1:List Oper:=[oM 6 0,oD 7 (.len 6),oM 8 (cI 0)]
def zl.r2:List Oper:=[oD 9 (.bin .lss 8 7)]
def zl.r3:List Oper:=[oM 10 8,oM 5 10]
def zl.r4:List Oper:=[oM 11 1,oM 12 0,oM 13 5,oD 14 (.ixa 1 12 13),oD 15 (.ld false 1 14),oD 16 (.eq false .sc 11 15)]
def zl.r5:List Oper:=[oM 17 5,oM 4 17]
def zl.r6:List Oper:=[oD 18 (.bin .add 8 (cI 1)),oM 8 18]
def zl.l0:Code:=.seq zl.r2 (.seq (.cond 9 (.skip) (.exit 0)) (.seq (.block 1 (.seq zl.r3 (.seq zl.r4 (.cond 16 (.seq zl.r5 (.ret)) (.skip))))) zl.r6))
def zl.r7:List Oper:=[oM 4 (cI (-1))]
def zl.code:Code:=.seq zl.r0 (.seq (.seq zl.r1 (.block 0 (.loop zl.l0))) (.seq zl.r7 (.ret)))
def zl:Func:=⟨19,[.t 4],zl.code⟩
/-! muntin/seg.chains -/
def Z6.r0:List Oper:=[oM 4 (.c (.sn)),oM 5 (.c (.sn)),oM 6 (.c (.b false))]
def Z6.r1:List Oper:=[oD 15 (.bsl 1 1 [.n 0] [(0,1,.c (.n (-1)))]),oM 16 0,oD 17 (.len 16),oC 18 83 [15,17],oM 7 18]
def Z6.r2:List Oper:=[oM 19 1,oC 20 77 [19,.c (.n 2)],oM 8 20]
def Z6.r3:List Oper:=[oM 9 (.c (.sn))]
def Z6.r4:List Oper:=[oM 21 0,oD 22 (.len 21),oM 23 (cI 0)]
def Z6.r5:List Oper:=[oD 24 (.bin .lss 23 22)]
def Z6.r6:List Oper:=[oM 25 23,oM 10 25]
def Z6.r7:List Oper:=[oM 26 7,oM 27 10,oD 28 (.ixa 1 26 27),oD 29 (.ld false 1 28),oD 30 (.bin .geq 29 (cI 0))]
def Z6.r8:List Oper:=[oM 31 10,oM 11 31]
def Z6.r9:List Oper:=[oM 12 (cI 0)]
def Z6.r10:List Oper:=[oM 32 0,oM 33 11,oM 34 8,oD 35 (.ixa 8 32 33),oD 36 (.fa 0 35),oD 37 (.ixaa 1 4 36 34),oD 38 (.ld false 1 37),oD 39 (.bin .geq 38 (cI 0))]
def Z6.r12:List Oper:=[oM 42 12,oM 43 0,oD 44 (.len 43),oD 45 (.eq false .sc 42 44)]
def Z6.r13:List Oper:=[oM 4 (.c (.sn)),oM 5 (.c (.sn)),oM 6 (.c (.b false))]
def Z6.r14:List Oper:=[oM 46 0,oM 47 11,oM 48 8,oD 49 (.ixa 8 46 47),oD 50 (.fa 0 49),oD 51 (.ixaa 1 4 50 48),oD 52 (.ld false 1 51),oM 11 52]
def Z6.r11:List Oper:=[oM 40 12,oD 41 (.bin .add 40 (cI 1)),oM 12 41]
def Z6.l0:Code:=.seq (.seq Z6.r10 (.cond 39 (.skip) (.exit 2))) (.seq (.block 3 (.seq (.seq Z6.r12 (.cond 45 (.seq Z6.r13 (.ret)) (.skip))) Z6.r14)) Z6.r11)
def Z6.r15:List Oper:=[oM 13 (.c (.sn))]
def Z6.r16:List Oper:=[oM 53 11,oM 14 53]
def Z6.r17:List Oper:=[oM 54 14,oD 55 (.bin .geq 54 (cI 0))]
def Z6.r19:List Oper:=[oM 63 7,oM 64 14,oM 65 9,oD 66 (.len 65),oD 67 (.ixa 1 63 64),oN (.st 1 67 66)]
def Z6.r20:List Oper:=[oM 68 13,oM 69 14,oD 70 (.bsl 1 1 [.n 0] [(0,1,.t 69)]),oD 71 (.app 1 8 68 70),oM 13 71]
def Z6.r18:List Oper:=[oM 56 0,oM 57 14,oM 58 1,oD 59 (.ixa 8 56 57),oD 60 (.fa 0 59),oD 61 (.ixaa 1 4 60 58),oD 62 (.ld false 1 61),oM 14 62]
def Z6.l1:Code:=.seq (.seq Z6.r17 (.cond 55 (.skip) (.exit 4))) (.seq (.block 5 (.seq Z6.r19 Z6.r20)) Z6.r18)
def Z6.r21:List Oper:=[oM 72 9,oM 73 13,oD 74 (.bsl 1 1 [.sn] [(0,1,.t 73)]),oD 75 (.app 1 24 72 74),oM 9 75]
def Z6.r22:List Oper:=[oD 76 (.bin .add 23 (cI 1)),oM 23 76]
def Z6.l2:Code:=.seq Z6.r5 (.seq (.cond 24 (.skip) (.exit 0)) (.seq (.block 1 (.seq Z6.r6 (.seq (.seq Z6.r7 (.cond 30 (.exit 1) (.skip))) (.seq Z6.r8 (.seq (.seq Z6.r9 (.block 2 (.loop Z6.l0))) (.seq Z6.r15 (.seq (.seq Z6.r16 (.block 4 (.loop Z6.l1))) Z6.r21))))))) Z6.r22))
def Z6.r23:List Oper:=[oM 77 7,oM 78 9,oM 4 77,oM 5 78,oM 6 (.c (.b true))]
def Z6.code:Code:=.seq Z6.r0 (.seq Z6.r1 (.seq Z6.r2 (.seq Z6.r3 (.seq (.seq Z6.r4 (.block 0 (.loop Z6.l2))) (.seq Z6.r23 (.ret))))))
def Z6:Func:=⟨79,[.t 4,.t 5,.t 6],Z6.code⟩
/-! (muntin/seg.Chains).chain -/
def zD.r0:List Oper:=[oD 3 (.box 0),oM 6 (.c (.sn))]
def zD.r1:List Oper:=[oD 8 (.fa 3 3),oD 9 (.ld false 1 8),oM 7 9]
def zD.r2:List Oper:=[oM 10 1]
def zD.r3:List Oper:=[oD 11 (.fa 2 3),oD 12 (.ld false 1 11),oM 7 12]
def zD.r4:List Oper:=[oM 13 2,oD 14 (.bin .lss 13 (cI 0)),oM 15 14,oF 16 15 (.mv 2),oF 17 15 (.mv 7),oF 18 15 (.len 17),oF 19 15 (.bin .geq 16 18),oD 20 (.pick 15 (.c (.b true)) 19)]
def zD.r5:List Oper:=[oM 6 (.c (.sn))]
def zD.r6:List Oper:=[oM 21 7,oM 22 2,oD 23 (.ixa 1 21 22),oD 24 (.ld false 1 23),oM 6 24]
def zD.code:Code:=.seq zD.r0 (.seq zD.r1 (.seq (.seq zD.r2 (.cond 10 zD.r3 (.skip))) (.seq (.seq zD.r4 (.cond 20 (.seq zD.r5 (.ret)) (.skip))) (.seq zD.r6 (.ret)))))
def zD:Func:=⟨25,[.t 6],zD.code⟩
/-! (muntin/seg.Chains).Meet$1 -/
def ZaV.r0:List Oper:=[oM 3 (.c (.b false))]
def ZaV.r1:List Oper:=[oD 4 (.ld false 1 1),oM 5 0,oC 6 118 [4,5],oM 3 6]
def ZaV.code:Code:=.seq ZaV.r0 (.seq ZaV.r1 (.ret))
def ZaV:Func:=⟨7,[.t 3],ZaV.code⟩
/-! muntin/arcs.graph -/
def zO.r0:List Oper:=[oM 6 (.c (.sn))]
def zO.r1:List Oper:=[oM 7 (.c (.sn))]
def zO.r2:List Oper:=[oM 11 0,oD 12 (.len 11),oM 13 (cI 0)]
def zO.r3:List Oper:=[oD 14 (.bin .lss 13 12)]
def zO.r4:List Oper:=[oM 15 13,oD 16 (.ixa 8 11 13),oD 17 (.ld true 8 16),oD 9 (.alloc [.n 0,.n 0,.n 0,.n 0,.n 0,.n 0,.n 0,.n 0]),oM 8 15,oN (.st 8 9 17)]
def zO.r5:List Oper:=[oM 18 1,oD 19 (.fa 0 9),oD 20 (.ixaa 1 4 19 18),oD 21 (.ld false 1 20),oM 10 21]
def zO.r6:List Oper:=[oM 22 10,oD 23 (.bin .geq 22 (cI 0))]
def zO.r7:List Oper:=[oM 24 7,oM 25 2,oM 26 8,oD 27 (.ixa 1 25 26),oD 28 (.ld false 1 27),oM 29 2,oM 30 10,oD 31 (.ixa 1 29 30),oD 32 (.ld false 1 31),oM 33 1,oD 34 (.fa 4 9),oD 35 (.ixaa 1 4 34 33),oD 36 (.ld false 1 35),oC 37 149 [36],oD 38 (.build [.n 0,.n 0,.n 0] [(0,1,.t 28),(1,1,.t 32),(2,1,.t 37)]),oD 39 (.bsl 3 1 [.n 0,.n 0,.n 0] [(0,3,.t 38)]),oD 40 (.app 3 24 24 39),oM 7 40]
def zO.r8:List Oper:=[oD 41 (.bin .add 13 (cI 1)),oM 13 41]
def zO.l0:Code:=.seq zO.r3 (.seq (.cond 14 (.skip) (.exit 0)) (.seq (.block 1 (.seq zO.r4 (.seq zO.r5 (.seq zO.r6 (.cond 23 (.draw zO.r7 [(4,8),(4,12),(8,12),(4,13),(8,13)]) (.skip)))))) zO.r8))
def zO.r9:List Oper:=[oM 42 7,oM 6 42]
def zO.code:Code:=.seq zO.r0 (.seq zO.r1 (.seq (.seq zO.r2 (.block 0 (.loop zO.l0))) (.seq zO.r9 (.ret))))
def zO:Func:=⟨43,[.t 6],zO.code⟩
/-! muntin/arcs.weight -/
def Zbl.r0:List Oper:=[oM 2 (cI 0)]
def Zbl.r1:List Oper:=[oM 3 0,oD 4 (.bin .geq 3 (cI 0))]
def Zbl.r2:List Oper:=[oM 2 (cI 1)]
def Zbl.r3:List Oper:=[oM 2 (cI 0)]
def Zbl.code:Code:=.seq Zbl.r0 (.seq (.seq Zbl.r1 (.cond 4 (.seq Zbl.r2 (.ret)) (.skip))) (.seq Zbl.r3 (.ret)))
def Zbl:Func:=⟨5,[.t 2],Zbl.code⟩
/-! muntin/valid.Check -/
def zN.r0:List Oper:=[oM 2 (cI 0)]
def zN.r1:List Oper:=[oM 6 0,oC 7 66 [6],oM 3 7]
def zN.r2:List Oper:=[oM 8 3,oD 9 (.eq true .sc 8 (cI 0))]
def zN.r3:List Oper:=[oM 10 3,oM 2 10]
def zN.r4:List Oper:=[oM 11 0,oC 12 32 [11],oD 13 (.un .not 12)]
def zN.r5:List Oper:=[oM 2 (cI 13)]
def zN.r6:List Oper:=[oM 15 0,oC 16 201 [15],oM 14 16,oD 17 (.ext 14 0),oD 18 (.ext 14 1),oM 4 17,oM 5 18]
def zN.r7:List Oper:=[oM 19 5,oD 20 (.un .not 19),oM 21 20,oT 22 21 (.mv 0),oT 23 21 (.len 22),oT 24 21 (.bin .gtr 23 (cI 1)),oD 25 (.pick 21 24 (.c (.b false)))]
def zN.r8:List Oper:=[oM 2 (cI 10)]
def zN.r9:List Oper:=[oM 2 (cI 0)]
def zN.code:Code:=.seq zN.r0 (.seq (.seq zN.r1 (.seq zN.r2 (.cond 9 (.seq zN.r3 (.ret)) (.skip)))) (.seq (.seq zN.r4 (.cond 13 (.seq zN.r5 (.ret)) (.skip))) (.seq (.seq zN.r6 (.seq zN.r7 (.cond 25 (.seq zN.r8 (.ret)) (.skip)))) (.seq zN.r9 (.ret)))))
def zN:Func:=⟨26,[.t 2],zN.code⟩
/-! muntin/sep.Lines -/
def Zbx.r0:List Oper:=[oM 2 (.c (.sn)),oM 3 (cI 0)]
def Zbx.r1:List Oper:=[oM 7 0,oC 8 120 [7],oM 6 8,oD 9 (.ext 6 0),oD 10 (.ext 6 1),oD 4 (.alloc [.sn,.sn,.sn,.sn]),oN (.st 4 4 9),oM 5 10]
def Zbx.r2:List Oper:=[oM 11 5,oD 12 (.eq true .sc 11 (cI 0))]
def Zbx.r3:List Oper:=[oM 13 5,oM 2 (.c (.sn)),oM 3 13]
def Zbx.r4:List Oper:=[oD 14 (.ld true 4 4),oC 15 209 [14],oM 2 15,oM 3 (cI 0)]
def Zbx.code:Code:=.seq Zbx.r0 (.seq Zbx.r1 (.seq (.seq Zbx.r2 (.cond 12 (.seq Zbx.r3 (.ret)) (.skip))) (.seq Zbx.r4 (.ret))))
def Zbx:Func:=⟨16,[.t 2,.t 3],Zbx.code⟩
/-! muntin/muntinlaw19.wakes -/
def zU.r0:List Oper:=[oM 0 (.c (.b false))]
def zU.r1:List Oper:=[oC 8 211 [],oC 9 210 [8],oM 7 9,oD 10 (.ext 7 0),oD 11 (.ext 7 1),oD 1 (.alloc [.sn,.sn,.sn,.sn,.sn,.sn,.sn]),oN (.st 7 1 10),oM 2 11]
def zU.r2:List Oper:=[oC 13 211 [],oC 14 187 [13],oM 12 14,oD 15 (.ext 12 0),oD 16 (.ext 12 1),oM 3 15,oM 4 16]
def zU.r3:List Oper:=[oC 18 46 [.c (.n 2)],oC 19 210 [18],oM 17 19,oD 20 (.ext 17 0),oD 21 (.ext 17 1),oD 5 (.alloc [.sn,.sn,.sn,.sn,.sn,.sn,.sn]),oN (.st 7 5 20),oM 6 21]
def zU.r4:List Oper:=[oM 22 2,oD 23 (.eq false .sc 22 (cI 0)),oM 24 23,oT 25 24 (.fa 6 1),oT 26 24 (.ld false 1 25),oT 27 24 (.len 26),oT 28 24 (.eq false .sc 27 (cI 0)),oD 29 (.pick 24 28 (.c (.b false))),oM 30 29,oT 31 30 (.fa 0 1),oT 32 30 (.fa 4 31),oT 33 30 (.ld false 1 32),oT 34 30 (.len 33),oT 35 30 (.bin .gtr 34 (cI 3)),oD 36 (.pick 30 35 (.c (.b false))),oM 37 36,oT 38 37 (.mv 4),oT 39 37 (.eq false .sc 38 (cI 0)),oD 40 (.pick 37 39 (.c (.b false))),oM 41 40,oT 42 41 (.mv 3),oT 43 41 (.len 42),oT 44 41 (.eq false .sc 43 (cI 5)),oD 45 (.pick 41 44 (.c (.b false))),oM 46 45,oT 47 46 (.mv 3),oT 48 46 (.ixa 2 47 (cI 0)),oT 49 46 (.fa 0 48),oT 50 46 (.ld false 1 49),oD 51 (.pick 46 50 (.c (.b false))),oM 52 51,oT 53 52 (.mv 6),oT 54 52 (.eq false .sc 53 (cI 13)),oD 55 (.pick 52 54 (.c (.b false))),oM 0 55]
def zU.code:Code:=.seq zU.r0 (.seq zU.r1 (.seq zU.r2 (.seq zU.r3 (.seq zU.r4 (.ret)))))
def zU:Func:=⟨56,[.t 0],zU.code⟩
/-! muntin/valid.outer -/
def ZY.r0:List Oper:=[oM 2 (cI 0),oM 3 (.c (.b false))]
def ZY.r1:List Oper:=[oM 10 0,oC 11 203 [10],oM 9 11,oD 12 (.ext 9 0),oD 13 (.ext 9 1),oM 4 12,oM 5 13]
def ZY.r2:List Oper:=[oM 6 (cI (-1))]
def ZY.r3:List Oper:=[oM 14 4,oD 15 (.len 14),oM 16 (cI 0)]
def ZY.r4:List Oper:=[oD 17 (.bin .lss 16 15)]
def ZY.r5:List Oper:=[oM 18 16,oD 19 (.ixa 1 14 16),oD 20 (.ld false 1 19),oM 7 18,oM 8 20]
def ZY.r6:List Oper:=[oM 21 0,oM 22 8,oC 23 204 [21,22],oC 24 219 [23]]
def ZY.r8:List Oper:=[oD 26 (.eq false .sc 24 (cI 4)),oM 25 26]
def ZY.r9:List Oper:=[oD 28 (.eq false .sc 24 (cI (-4))),oM 27 28]
def ZY.r10:List Oper:=[oM 29 6,oD 30 (.bin .geq 29 (cI 0))]
def ZY.r11:List Oper:=[oM 2 (cI 0),oM 3 (.c (.b false))]
def ZY.r12:List Oper:=[oM 31 7,oM 6 31]
def ZY.r7:List Oper:=[oM 2 (cI 0),oM 3 (.c (.b false))]
def ZY.r13:List Oper:=[oD 32 (.bin .add 16 (cI 1)),oM 16 32]
def ZY.l0:Code:=.seq ZY.r4 (.seq (.cond 17 (.skip) (.exit 0)) (.seq (.block 1 (.seq ZY.r5 (.seq ZY.r6 (.block 2 (.seq ZY.r8 (.cond 25 (.skip) (.seq ZY.r9 (.cond 27 (.seq (.seq ZY.r10 (.cond 30 (.seq ZY.r11 (.ret)) (.skip))) ZY.r12) (.seq ZY.r7 (.ret)))))))))) ZY.r13))
def ZY.r14:List Oper:=[oM 33 6,oM 34 6,oD 35 (.bin .geq 34 (cI 0)),oM 2 33,oM 3 35]
def ZY.code:Code:=.seq ZY.r0 (.seq ZY.r1 (.seq ZY.r2 (.seq (.seq ZY.r3 (.block 0 (.loop ZY.l0))) (.seq ZY.r14 (.ret)))))
def ZY:Func:=⟨36,[.t 2,.t 3],ZY.code⟩
/-! muntin/face.Faces -/
def Z1.r0:List Oper:=[oM 2 (.c (.sn)),oM 3 (cI 0)]
def Z1.r1:List Oper:=[oM 12 0,oC 13 66 [12],oM 4 13]
def Z1.r2:List Oper:=[oM 14 4,oD 15 (.eq true .sc 14 (cI 0))]
def Z1.r3:List Oper:=[oM 16 4,oM 2 (.c (.sn)),oM 3 16]
def Z1.r4:List Oper:=[oM 5 (.c (.sn))]
def Z1.r5:List Oper:=[oD 17 (.mkm),oM 6 17]
def Z1.r6:List Oper:=[oM 18 0,oD 19 (.len 18),oM 20 (cI 0)]
def Z1.r7:List Oper:=[oD 21 (.bin .lss 20 19)]
def Z1.r8:List Oper:=[oM 22 20,oM 7 22]
def Z1.r9:List Oper:=[oM 23 (cI 0)]
def Z1.r10:List Oper:=[oD 24 (.bin .lss 23 (cI 4))]
def Z1.r11:List Oper:=[oM 25 23,oM 8 25]
def Z1.r12:List Oper:=[oM 26 7,oM 27 8,oD 28 (.build [.n 0,.n 0] [(0,1,.t 26),(1,1,.t 27)]),oD 9 (.alloc [.n 0,.n 0]),oN (.st 2 9 28)]
def Z1.r13:List Oper:=[oD 29 (.ld true 2 9),oM 30 0,oC 31 220 [29,30],oD 32 (.un .not 31),oM 33 32,oF 34 33 (.mv 6),oF 35 33 (.ld true 2 9),oF 36 33 (.mlk [.i,.i] false (.b false) 34 35),oD 37 (.pick 33 (.c (.b true)) 36)]
def Z1.r14:List Oper:=[oM 10 (.c (.sn))]
def Z1.r15:List Oper:=[oD 38 (.ld true 2 9),oD 11 (.alloc [.n 0,.n 0]),oN (.st 2 11 38)]
def Z1.r16:List Oper:=[oM 39 6,oD 40 (.ld true 2 11),oD 41 (.mlk [.i,.i] false (.b false) 39 40),oD 42 (.un .not 41)]
def Z1.r18:List Oper:=[oM 46 6,oD 47 (.ld true 2 11),oN (.mup [.i,.i] 46 47 (.c (.b true)))]
def Z1.r19:List Oper:=[oM 48 10,oD 49 (.ld true 2 11),oD 50 (.bsl 2 1 [.n 0,.n 0] [(0,2,.t 49)]),oD 51 (.app 2 16 48 50),oM 10 51]
def Z1.r20:List Oper:=[oD 52 (.ld true 2 11)]
def Z1.r21:List Oper:=[oD 11 (.alloc [.n 0,.n 0]),oN (.st 2 11 52)]
def Z1.r17:List Oper:=[oD 43 (.ld true 2 11),oM 44 0,oC 45 221 [43,44],oN (.st 2 11 45)]
def Z1.l0:Code:=.seq (.seq Z1.r16 (.cond 42 (.skip) (.exit 4))) (.seq (.block 5 (.seq Z1.r18 Z1.r19)) (.seq (.seq Z1.r20 Z1.r21) Z1.r17))
def Z1.r22:List Oper:=[oM 53 5,oM 54 10,oD 55 (.bsl 1 1 [.sn] [(0,1,.t 54)]),oD 56 (.app 1 24 53 55),oM 5 56]
def Z1.r23:List Oper:=[oD 57 (.bin .add 23 (cI 1)),oM 23 57]
def Z1.l1:Code:=.seq Z1.r10 (.seq (.cond 24 (.skip) (.exit 2)) (.seq (.block 3 (.seq Z1.r11 (.seq Z1.r12 (.seq (.seq Z1.r13 (.cond 37 (.exit 3) (.skip))) (.seq Z1.r14 (.seq (.seq Z1.r15 (.block 4 (.loop Z1.l0))) Z1.r22)))))) Z1.r23))
def Z1.r24:List Oper:=[oD 58 (.bin .add 20 (cI 1)),oM 20 58]
def Z1.l2:Code:=.seq Z1.r7 (.seq (.cond 21 (.skip) (.exit 0)) (.seq (.block 1 (.seq Z1.r8 (.seq Z1.r9 (.block 2 (.loop Z1.l1))))) Z1.r24))
def Z1.r25:List Oper:=[oM 59 5,oM 2 59,oM 3 (cI 0)]
def Z1.code:Code:=.seq Z1.r0 (.seq (.seq Z1.r1 (.seq Z1.r2 (.cond 15 (.seq Z1.r3 (.ret)) (.skip)))) (.seq Z1.r4 (.seq Z1.r5 (.seq (.seq Z1.r6 (.block 0 (.loop Z1.l2))) (.seq Z1.r25 (.ret))))))
def Z1:Func:=⟨60,[.t 2,.t 3],Z1.code⟩
/-! muntin/face.Turns -/
def zJ.r0:List Oper:=[oM 4 (.c (.sn))]
def zJ.r1:List Oper:=[oM 8 1,oD 9 (.len 8),oD 10 (.mks 1 8 [.n 0] 9 9),oM 5 10]
def zJ.r2:List Oper:=[oM 11 0,oC 12 66 [11],oD 13 (.eq true .sc 12 (cI 0))]
def zJ.r3:List Oper:=[oM 14 5,oM 4 14]
def zJ.r4:List Oper:=[oM 15 1,oD 16 (.len 15),oM 17 (cI 0)]
def zJ.r5:List Oper:=[oD 18 (.bin .lss 17 16)]
def zJ.r6:List Oper:=[oM 19 17,oD 20 (.ixa 2 15 17),oD 21 (.ld true 2 20),oD 7 (.alloc [.n 0,.n 0]),oM 6 19,oN (.st 2 7 21)]
def zJ.r7:List Oper:=[oD 22 (.ld true 2 7),oM 23 0,oC 24 220 [22,23]]
def zJ.r8:List Oper:=[oM 25 5,oM 26 6,oD 27 (.fa 1 7),oD 28 (.ld false 1 27),oD 29 (.ld true 2 7),oM 30 0,oC 31 221 [29,30],oD 32 (.fld false 1 1 31),oC 33 222 [28,32],oD 34 (.ixa 1 25 26),oN (.st 1 34 33)]
def zJ.r9:List Oper:=[oD 35 (.bin .add 17 (cI 1)),oM 17 35]
def zJ.l0:Code:=.seq zJ.r5 (.seq (.cond 18 (.skip) (.exit 0)) (.seq (.block 1 (.seq zJ.r6 (.seq zJ.r7 (.cond 24 (.draw zJ.r8 [(3,4),(3,6)]) (.skip))))) zJ.r9))
def zJ.r10:List Oper:=[oM 36 5,oM 4 36]
def zJ.code:Code:=.seq zJ.r0 (.seq zJ.r1 (.seq (.seq zJ.r2 (.cond 13 (.seq zJ.r3 (.ret)) (.skip))) (.seq (.seq zJ.r4 (.block 0 (.loop zJ.l0))) (.seq zJ.r10 (.ret)))))
def zJ:Func:=⟨37,[.t 4],zJ.code⟩
/-! muntin/sep.lines -/
def zo.r0:List Oper:=[oD 1 (.box 0),oM 2 (.c (.sn))]
def zo.r1:List Oper:=[oM 3 (.c (.sn))]
def zo.r2:List Oper:=[oD 8 (.fa 2 1),oD 9 (.ld false 1 8),oD 10 (.len 9),oM 11 (cI 0)]
def zo.r3:List Oper:=[oD 12 (.bin .lss 11 10)]
def zo.r4:List Oper:=[oM 13 11,oD 14 (.ixa 1 9 11),oD 15 (.ld false 1 14),oM 4 13,oM 5 15]
def zo.r5:List Oper:=[oM 16 5,oD 17 (.len 16),oD 18 (.bin .gtr 17 (cI 1))]
def zo.r6:List Oper:=[oM 19 3,oM 20 4,oD 21 (.build [.b false,.n 0] [(0,1,.c (.b true)),(1,1,.t 20)]),oD 22 (.bsl 2 1 [.b false,.n 0] [(0,2,.t 21)]),oD 23 (.app 2 16 19 22),oM 3 23]
def zo.r7:List Oper:=[oD 24 (.bin .add 11 (cI 1)),oM 11 24]
def zo.l0:Code:=.seq zo.r3 (.seq (.cond 12 (.skip) (.exit 0)) (.seq (.block 1 (.seq zo.r4 (.seq zo.r5 (.cond 18 zo.r6 (.skip))))) zo.r7))
def zo.r8:List Oper:=[oD 25 (.fa 3 1),oD 26 (.ld false 1 25),oD 27 (.len 26),oM 28 (cI 0)]
def zo.r9:List Oper:=[oD 29 (.bin .lss 28 27)]
def zo.r10:List Oper:=[oM 30 28,oD 31 (.ixa 1 26 28),oD 32 (.ld false 1 31),oM 6 30,oM 7 32]
def zo.r11:List Oper:=[oM 33 7,oD 34 (.len 33),oD 35 (.bin .gtr 34 (cI 1))]
def zo.r12:List Oper:=[oM 36 3,oM 37 6,oD 38 (.build [.b false,.n 0] [(0,1,.c (.b false)),(1,1,.t 37)]),oD 39 (.bsl 2 1 [.b false,.n 0] [(0,2,.t 38)]),oD 40 (.app 2 16 36 39),oM 3 40]
def zo.r13:List Oper:=[oD 41 (.bin .add 28 (cI 1)),oM 28 41]
def zo.l1:Code:=.seq zo.r9 (.seq (.cond 29 (.skip) (.exit 2)) (.seq (.block 3 (.seq zo.r10 (.seq zo.r11 (.cond 35 zo.r12 (.skip))))) zo.r13))
def zo.r14:List Oper:=[oM 42 3,oM 2 42]
def zo.code:Code:=.seq zo.r0 (.seq zo.r1 (.seq (.seq zo.r2 (.block 0 (.loop zo.l0))) (.seq (.seq zo.r8 (.block 2 (.loop zo.l1))) (.seq zo.r14 (.ret)))))
def zo:Func:=⟨43,[.t 2],zo.code⟩
/-! muntin/sep.Settle -/
def Z7.r0:List Oper:=[oD 2 (.alloc [.sn,.sn,.sn,.sn,.sn,.sn,.sn]),oM 3 (cI 0)]
def Z7.r1:List Oper:=[oM 15 0,oC 16 176 [15],oM 4 16]
def Z7.r2:List Oper:=[oM 17 4,oD 18 (.eq true .sc 17 (cI 0))]
def Z7.r3:List Oper:=[oD 19 (.build [.sn,.sn,.sn,.sn,.sn,.sn,.sn] []),oM 20 4,oN (.st 7 2 19),oM 3 20]
def Z7.r4:List Oper:=[oM 22 0,oC 23 226 [22],oM 21 23,oD 24 (.ext 21 0),oD 25 (.ext 21 1),oM 5 24,oM 6 25]
def Z7.r5:List Oper:=[oM 7 (.c (.b true))]
def Z7.r6:List Oper:=[oM 26 7]
def Z7.r7:List Oper:=[oM 7 (.c (.b false))]
def Z7.r8:List Oper:=[oM 8 (.c (.sn))]
def Z7.r9:List Oper:=[oM 27 6,oD 28 (.len 27),oM 29 (cI 0)]
def Z7.r10:List Oper:=[oD 30 (.bin .lss 29 28)]
def Z7.r11:List Oper:=[oD 31 (.ixa 2 27 29),oD 32 (.ld true 2 31),oD 10 (.alloc [.n 0,.n 0]),oN (.st 2 10 32)]
def Z7.r12:List Oper:=[oM 34 5,oD 35 (.ixaa 1 2 10 (cI 0)),oD 36 (.ld false 1 35),oD 37 (.ixaa 1 2 10 (cI 1)),oD 38 (.ld false 1 37),oC 39 227 [34,36,38],oM 33 39,oD 40 (.ext 33 0),oD 41 (.ext 33 1),oM 11 40,oM 12 41]
def Z7.r13:List Oper:=[oM 42 7,oM 43 42,oF 44 43 (.mv 12),oD 45 (.pick 43 (.c (.b true)) 44),oM 7 45]
def Z7.r14:List Oper:=[oM 46 11,oD 47 (.un .not 46)]
def Z7.r15:List Oper:=[oM 48 8,oD 49 (.ld true 2 10),oD 50 (.bsl 2 1 [.n 0,.n 0] [(0,2,.t 49)]),oD 51 (.app 2 16 48 50),oM 8 51]
def Z7.r16:List Oper:=[oD 52 (.bin .add 29 (cI 1)),oM 29 52]
def Z7.l0:Code:=.seq Z7.r10 (.seq (.cond 30 (.skip) (.exit 2)) (.seq (.block 3 (.seq Z7.r11 (.seq Z7.r12 (.seq Z7.r13 (.seq Z7.r14 (.cond 47 Z7.r15 (.skip))))))) Z7.r16))
def Z7.r17:List Oper:=[oM 53 8,oM 6 53]
def Z7.l1:Code:=.seq (.seq Z7.r6 (.cond 26 (.skip) (.exit 0))) (.block 1 (.seq Z7.r7 (.seq Z7.r8 (.seq (.seq Z7.r9 (.block 2 (.loop Z7.l0))) Z7.r17))))
def Z7.r18:List Oper:=[oM 54 6,oD 55 (.len 54),oM 56 (cI 0)]
def Z7.r19:List Oper:=[oD 57 (.bin .lss 56 55)]
def Z7.r20:List Oper:=[oD 58 (.ixa 2 54 56),oD 59 (.ld true 2 58),oD 14 (.alloc [.n 0,.n 0]),oN (.st 2 14 59)]
def Z7.r21:List Oper:=[oM 60 5,oM 61 5,oD 62 (.nilck 61),oD 63 (.fa 0 62),oD 64 (.fa 6 63),oD 65 (.ld false 1 64),oM 66 5,oD 67 (.nilck 66),oD 68 (.fa 9 67),oD 69 (.ld false 1 68),oD 70 (.ixaa 1 2 14 (cI 0)),oD 71 (.ld false 1 70),oD 72 (.ixa 2 69 71),oD 73 (.ld true 2 72),oM 74 5,oD 75 (.nilck 74),oD 76 (.fa 9 75),oD 77 (.ld false 1 76),oD 78 (.ixaa 1 2 14 (cI 1)),oD 79 (.ld false 1 78),oD 80 (.ixa 2 77 79),oD 81 (.ld true 2 80),oD 82 (.build [.b false,.n 0,.b false,.n 0] [(0,2,.t 73),(2,2,.t 81)]),oD 83 (.bsl 4 1 [.b false,.n 0,.b false,.n 0] [(0,4,.t 82)]),oD 84 (.app 4 32 65 83),oD 85 (.nilck 60),oD 86 (.fa 0 85),oD 87 (.fa 6 86),oN (.st 1 87 84)]
def Z7.r22:List Oper:=[oD 88 (.bin .add 56 (cI 1)),oM 56 88]
def Z7.l2:Code:=.seq Z7.r19 (.seq (.cond 57 (.skip) (.exit 4)) (.seq (.block 5 (.seq Z7.r20 (.draw Z7.r21 [(5,9),(5,11),(9,11),(5,13),(5,17),(9,17),(11,17),(13,17),(5,19),(9,19),(11,19),(13,19),(17,19),(5,21),(9,21),(11,21),(13,21),(5,23)]))) Z7.r22))
def Z7.r23:List Oper:=[oM 89 5,oD 90 (.nilck 89),oD 91 (.fa 0 90),oD 92 (.ld true 7 91),oN (.st 7 2 92),oM 3 (cI 0)]
def Z7.code:Code:=.seq Z7.r0 (.seq (.seq Z7.r1 (.seq Z7.r2 (.cond 18 (.seq Z7.r3 (.ret)) (.skip)))) (.seq Z7.r4 (.seq (.seq Z7.r5 (.block 0 (.loop Z7.l1))) (.seq (.seq Z7.r18 (.block 4 (.loop Z7.l2))) (.seq Z7.r23 (.ret))))))
def Z7:Func:=⟨93,[.cell 2 true 7,.t 3],Z7.code⟩
/-! muntin/muntinlaw19.stick -/
def zd.r0:List Oper:=[oM 0 (.c (.sn))]
def zd.r1:List Oper:=[oC 4 46 [.c (.n 6)],oM 1 4]
def zd.r2:List Oper:=[oD 5 (.build [.n 0,.n 0,.n 0] [(0,1,.c (.n 0)),(1,1,.c (.n 0)),(2,1,.c (.n 1))]),oD 6 (.build [.n 0,.n 0,.n 0] [(0,1,.c (.n 1)),(1,1,.c (.n 1)),(2,1,.c (.n 2))]),oD 7 (.build [.n 0,.n 0,.n 0] [(0,1,.c (.n 2)),(1,1,.c (.n 2)),(2,1,.c (.n 3))]),oD 8 (.build [.n 0,.n 0,.n 0] [(0,1,.c (.n 3)),(1,1,.c (.n 3)),(2,1,.c (.n 4))]),oD 9 (.build [.n 0,.n 0,.n 0] [(0,1,.c (.n 4)),(1,1,.c (.n 3)),(2,1,.c (.n 0))]),oD 10 (.build [.n 0,.n 0,.n 0] [(0,1,.c (.n 4)),(1,1,.c (.n 0)),(2,1,.c (.n 5))]),oD 11 (.bsl 3 6 [.n 0,.n 0,.n 0] [(0,3,.t 5),(3,3,.t 6),(6,3,.t 7),(9,3,.t 8),(12,3,.t 9),(15,3,.t 10)]),oD 12 (.len 11),oM 13 (cI 0)]
def zd.r3:List Oper:=[oD 14 (.bin .lss 13 12)]
def zd.r4:List Oper:=[oD 15 (.ixa 3 11 13),oD 16 (.ld true 3 15),oD 3 (.alloc [.n 0,.n 0,.n 0]),oN (.st 3 3 16)]
def zd.r5:List Oper:=[oM 18 1,oD 19 (.ixaa 1 3 3 (cI 0)),oD 20 (.ld false 1 19),oD 21 (.ixaa 1 3 3 (cI 1)),oD 22 (.ld false 1 21),oD 23 (.ixaa 1 3 3 (cI 2)),oD 24 (.ld false 1 23),oC 25 53 [18,20,22,24,.c (.n 0)],oM 17 25,oD 26 (.ext 17 0),oD 27 (.ext 17 1),oM 1 26]
def zd.r6:List Oper:=[oD 28 (.bin .add 13 (cI 1)),oM 13 28]
def zd.l0:Code:=.seq zd.r3 (.seq (.cond 14 (.skip) (.exit 0)) (.seq (.block 1 (.seq zd.r4 zd.r5)) zd.r6))
def zd.r7:List Oper:=[oM 29 1,oM 0 29]
def zd.code:Code:=.seq zd.r0 (.seq zd.r1 (.seq (.seq zd.r2 (.block 0 (.loop zd.l0))) (.seq zd.r7 (.ret))))
def zd:Func:=⟨30,[.t 0],zd.code⟩
/-! muntin/face.Rotation -/
def z6.r0:List Oper:=[oM 2 (cI 0)]
def z6.r1:List Oper:=[oM 3 (cI 0)]
def z6.r2:List Oper:=[oM 6 0,oD 7 (.len 6),oM 8 (cI 0)]
def z6.r3:List Oper:=[oD 9 (.bin .lss 8 7)]
def z6.r4:List Oper:=[oD 10 (.ixa 1 6 8),oD 11 (.ld false 1 10),oM 5 11]
def z6.r5:List Oper:=[oM 12 5,oD 13 (.bin .geq 12 (cI (-2))),oM 14 13,oT 15 14 (.mv 5),oT 16 14 (.bin .leq 15 (cI 1)),oD 17 (.pick 14 16 (.c (.b false)))]
def z6.r6:List Oper:=[oM 18 3,oM 19 5,oD 20 (.bin .add 18 19),oM 3 20]
def z6.r7:List Oper:=[oD 21 (.bin .add 8 (cI 1)),oM 8 21]
def z6.l0:Code:=.seq z6.r3 (.seq (.cond 9 (.skip) (.exit 0)) (.seq (.block 1 (.seq z6.r4 (.seq z6.r5 (.cond 17 z6.r6 (.skip))))) z6.r7))
def z6.r8:List Oper:=[oM 22 3,oM 2 22]
def z6.code:Code:=.seq z6.r0 (.seq z6.r1 (.seq (.seq z6.r2 (.block 0 (.loop z6.l0))) (.seq z6.r8 (.ret))))
def z6:Func:=⟨23,[.t 2],z6.code⟩
/-! (muntin/face.Dart).is -/
def ZbK.r0:List Oper:=[oD 2 (.box 0),oM 4 (.c (.b false))]
def ZbK.r1:List Oper:=[oD 5 (.fa 0 2),oD 6 (.ld false 1 5),oD 7 (.bin .geq 6 (cI 0)),oM 8 7,oT 9 8 (.fa 0 2),oT 10 8 (.ld false 1 9),oT 11 8 (.mv 1),oT 12 8 (.len 11),oT 13 8 (.bin .lss 10 12),oD 14 (.pick 8 13 (.c (.b false))),oM 15 14,oT 16 15 (.fa 1 2),oT 17 15 (.ld false 1 16),oT 18 15 (.call (.c (.f 90 [])) [17]),oD 19 (.pick 15 18 (.c (.b false))),oM 20 19,oT 21 20 (.mv 1),oT 22 20 (.fa 0 2),oT 23 20 (.ld false 1 22),oT 24 20 (.fa 1 2),oT 25 20 (.ld false 1 24),oT 26 20 (.ixa 8 21 23),oT 27 20 (.fa 0 26),oT 28 20 (.ixaa 1 4 27 25),oT 29 20 (.ld false 1 28),oT 30 20 (.bin .geq 29 (cI 0)),oD 31 (.pick 20 30 (.c (.b false))),oM 4 31]
def ZbK.code:Code:=.seq ZbK.r0 (.seq (.draw ZbK.r1 [(18,20)]) (.ret))
def ZbK:Func:=⟨32,[.t 4],ZbK.code⟩
/-! (muntin/face.Dart).behind -/
def ZT.r0:List Oper:=[oD 2 (.box 0),oD 4 (.alloc [.n 0,.n 0])]
def ZT.r1:List Oper:=[oM 9 1,oD 10 (.fa 0 2),oD 11 (.ld false 1 10),oD 12 (.fa 1 2),oD 13 (.ld false 1 12),oD 14 (.ixa 8 9 11),oD 15 (.fa 0 14),oD 16 (.ixaa 1 4 15 13),oD 17 (.ld false 1 16),oM 5 17]
def ZT.r2:List Oper:=[oD 18 (.build [.n 0,.n 0,.n 0,.n 0] [(0,1,.c (.n 1)),(1,1,.c (.n 0)),(2,1,.c (.n (-1))),(3,1,.c (.n 2))]),oM 19 (cI 0)]
def ZT.r3:List Oper:=[oD 20 (.bin .lss 19 (cI 4))]
def ZT.r4:List Oper:=[oD 21 (.ix false 1 4 18 19),oM 7 21]
def ZT.r5:List Oper:=[oM 22 5,oD 23 (.fa 1 2),oD 24 (.ld false 1 23),oM 25 7,oC 26 77 [24,25],oD 27 (.build [.n 0,.n 0] [(0,1,.t 22),(1,1,.t 26)]),oD 8 (.alloc [.n 0,.n 0]),oN (.st 2 8 27)]
def ZT.r6:List Oper:=[oD 28 (.ld true 2 8),oM 29 1,oC 30 220 [28,29]]
def ZT.r7:List Oper:=[oD 31 (.ld true 2 8),oN (.st 2 4 31)]
def ZT.r8:List Oper:=[oD 32 (.bin .add 19 (cI 1)),oM 19 32]
def ZT.l0:Code:=.seq ZT.r3 (.seq (.cond 20 (.skip) (.exit 0)) (.seq (.block 1 (.seq ZT.r4 (.seq ZT.r5 (.seq ZT.r6 (.cond 30 (.seq ZT.r7 (.ret)) (.skip)))))) ZT.r8))
def ZT.r9:List Oper:=[oD 33 (.ld true 2 2),oN (.st 2 4 33)]
def ZT.code:Code:=.seq ZT.r0 (.seq (.draw ZT.r1 [(2,4)]) (.seq (.seq ZT.r2 (.block 0 (.loop ZT.l0))) (.seq ZT.r9 (.ret))))
def ZT:Func:=⟨34,[.cell 4 true 2],ZT.code⟩
/-! muntin/compass.Turn -/
def ZaY.r0:List Oper:=[oM 4 (cI 0)]
def ZaY.r1:List Oper:=[oM 5 0,oC 6 90 [5],oD 7 (.un .not 6),oM 8 7,oF 9 8 (.mv 1),oF 10 8 (.call (.c (.f 90 [])) [9]),oF 11 8 (.un .not 10),oD 12 (.pick 8 (.c (.b true)) 11)]
def ZaY.r2:List Oper:=[oM 4 (cI 0)]
def ZaY.r3:List Oper:=[oD 13 (.build [.n 0,.n 0,.n 0,.n 0] [(0,1,.c (.n 0)),(1,1,.c (.n 1)),(2,1,.c (.n (-2))),(3,1,.c (.n (-1)))]),oM 14 1,oM 15 0,oD 16 (.bin .sub 14 15),oD 17 (.bin .add 16 (cI 4)),oD 18 (.bin .rem 17 (cI 4)),oD 19 (.ix false 1 4 13 18),oM 4 19]
def ZaY.code:Code:=.seq ZaY.r0 (.seq (.seq ZaY.r1 (.cond 12 (.seq ZaY.r2 (.ret)) (.skip))) (.seq ZaY.r3 (.ret)))
def ZaY:Func:=⟨20,[.t 4],ZaY.code⟩
/-! muntin/sep.start -/
def Zu.r0:List Oper:=[oM 2 (.c (.pn)),oM 3 (.c (.sn))]
def Zu.r1:List Oper:=[oM 19 0,oC 20 129 [19],oM 18 20,oD 21 (.ext 18 0),oD 22 (.ext 18 1),oD 4 (.alloc [.sn,.sn,.sn,.sn,.sn,.sn]),oN (.st 6 4 21),oM 5 22]
def Zu.r2:List Oper:=[oD 23 (.ld true 6 4),oD 24 (.build [.sn,.sn,.sn,.sn,.sn,.sn,.sn] [(0,6,.t 23)]),oD 25 (.fa 0 4),oD 26 (.ld true 4 25),oC 27 209 [26],oD 28 (.build [.sn,.sn,.sn,.sn,.sn,.sn,.sn,.pn,.pn,.sn,.sn] [(0,7,.t 24),(9,1,.t 27)]),oD 29 (.box 28),oM 6 29]
def Zu.r3:List Oper:=[oM 31 6,oD 32 (.fa 0 4),oD 33 (.fa 2 32),oD 34 (.ld false 1 33),oD 35 (.len 34),oC 36 232 [35],oM 30 36,oD 37 (.ext 30 0),oD 38 (.ext 30 1),oD 39 (.nilck 31),oD 40 (.fa 7 39),oN (.st 1 40 37)]
def Zu.r4:List Oper:=[oM 42 6,oD 43 (.fa 0 4),oD 44 (.fa 3 43),oD 45 (.ld false 1 44),oD 46 (.len 45),oC 47 232 [46],oM 41 47,oD 48 (.ext 41 0),oD 49 (.ext 41 1),oD 50 (.nilck 42),oD 51 (.fa 8 50),oN (.st 1 51 48)]
def Zu.r5:List Oper:=[oD 52 (.fa 4 4),oD 53 (.ld false 1 52),oD 54 (.len 53),oM 55 (cI 0)]
def Zu.r6:List Oper:=[oD 56 (.bin .lss 55 54)]
def Zu.r7:List Oper:=[oD 57 (.ixa 3 53 55),oD 58 (.ld true 3 57),oD 8 (.alloc [.n 0,.n 0,.n 0]),oN (.st 3 8 58)]
def Zu.r8:List Oper:=[oM 59 6,oD 60 (.nilck 59),oD 61 (.fa 7 60),oD 62 (.ld false 1 61),oD 63 (.fa 0 8),oD 64 (.ld false 1 63),oD 65 (.fa 1 8),oD 66 (.ld false 1 65),oC 67 233 [62,64,66]]
def Zu.r9:List Oper:=[oD 68 (.bin .add 55 (cI 1)),oM 55 68]
def Zu.l0:Code:=.seq Zu.r6 (.seq (.cond 56 (.skip) (.exit 0)) (.seq (.block 1 (.seq Zu.r7 (.draw Zu.r8 [(3,5),(3,7),(5,7)]))) Zu.r9))
def Zu.r10:List Oper:=[oD 69 (.fa 5 4),oD 70 (.ld false 1 69),oD 71 (.len 70),oM 72 (cI 0)]
def Zu.r11:List Oper:=[oD 73 (.bin .lss 72 71)]
def Zu.r12:List Oper:=[oD 74 (.ixa 3 70 72),oD 75 (.ld true 3 74),oD 10 (.alloc [.n 0,.n 0,.n 0]),oN (.st 3 10 75)]
def Zu.r13:List Oper:=[oM 76 6,oD 77 (.nilck 76),oD 78 (.fa 8 77),oD 79 (.ld false 1 78),oD 80 (.fa 0 10),oD 81 (.ld false 1 80),oD 82 (.fa 1 10),oD 83 (.ld false 1 82),oC 84 233 [79,81,83]]
def Zu.r14:List Oper:=[oD 85 (.bin .add 72 (cI 1)),oM 72 85]
def Zu.l1:Code:=.seq Zu.r11 (.seq (.cond 73 (.skip) (.exit 2)) (.seq (.block 3 (.seq Zu.r12 (.draw Zu.r13 [(3,5),(3,7),(5,7)]))) Zu.r14))
def Zu.r15:List Oper:=[oM 86 6,oD 87 (.nilck 86),oD 88 (.fa 9 87),oD 89 (.ld false 1 88),oD 90 (.len 89),oM 91 (cI 0)]
def Zu.r16:List Oper:=[oD 92 (.bin .lss 91 90)]
def Zu.r17:List Oper:=[oD 93 (.ixa 2 89 91),oD 94 (.ld true 2 93),oD 12 (.alloc [.b false,.n 0]),oN (.st 2 12 94)]
def Zu.r18:List Oper:=[oM 95 6,oM 96 6,oD 97 (.nilck 96),oD 98 (.fa 10 97),oD 99 (.ld false 1 98),oD 100 (.fa 0 4),oD 101 (.ld true 4 100),oD 102 (.ld true 2 12),oC 103 234 [101,102],oD 104 (.bsl 4 1 [.n 0,.n 0,.n 0,.n 0] [(0,4,.t 103)]),oD 105 (.app 4 32 99 104),oD 106 (.nilck 95),oD 107 (.fa 10 106),oN (.st 1 107 105)]
def Zu.r19:List Oper:=[oD 108 (.bin .add 91 (cI 1)),oM 91 108]
def Zu.l2:Code:=.seq Zu.r16 (.seq (.cond 92 (.skip) (.exit 4)) (.seq (.block 5 (.seq Zu.r17 (.draw Zu.r18 [(4,6),(4,7),(6,7),(4,8),(4,9)]))) Zu.r19))
def Zu.r20:List Oper:=[oM 13 (.c (.sn))]
def Zu.r21:List Oper:=[oM 109 6,oD 110 (.nilck 109),oD 111 (.fa 9 110),oD 112 (.ld false 1 111),oD 113 (.len 112),oM 114 (cI 0)]
def Zu.r22:List Oper:=[oD 115 (.bin .lss 114 113)]
def Zu.r23:List Oper:=[oM 116 114,oD 117 (.ixa 2 112 114),oD 118 (.ld true 2 117),oD 15 (.alloc [.b false,.n 0]),oM 14 116,oN (.st 2 15 118)]
def Zu.r24:List Oper:=[oM 119 14,oD 120 (.bin .add 119 (cI 1)),oM 16 120]
def Zu.r25:List Oper:=[oM 121 16,oM 122 6,oD 123 (.nilck 122),oD 124 (.fa 9 123),oD 125 (.ld false 1 124),oD 126 (.len 125),oD 127 (.bin .lss 121 126)]
def Zu.r27:List Oper:=[oM 130 6,oD 131 (.nilck 130),oD 132 (.fa 9 131),oD 133 (.ld false 1 132),oM 134 16,oD 135 (.ixa 2 133 134),oD 136 (.ld true 2 135),oD 17 (.alloc [.b false,.n 0]),oN (.st 2 17 136)]
def Zu.r28:List Oper:=[oD 137 (.fa 0 4),oD 138 (.ld true 4 137),oD 139 (.fa 0 15),oD 140 (.ld false 1 139),oD 141 (.fa 1 15),oD 142 (.ld false 1 141),oD 143 (.fa 0 17),oD 144 (.ld false 1 143),oD 145 (.fa 1 17),oD 146 (.ld false 1 145),oC 147 123 [138,140,142,144,146],oD 148 (.un .not 147)]
def Zu.r29:List Oper:=[oM 149 13,oM 150 14,oM 151 16,oD 152 (.build [.n 0,.n 0] [(0,1,.t 150),(1,1,.t 151)]),oD 153 (.bsl 2 1 [.n 0,.n 0] [(0,2,.t 152)]),oD 154 (.app 2 16 149 153),oM 13 154]
def Zu.r26:List Oper:=[oM 128 16,oD 129 (.bin .add 128 (cI 1)),oM 16 129]
def Zu.l3:Code:=.seq (.seq Zu.r25 (.cond 127 (.skip) (.exit 8))) (.seq (.block 9 (.seq Zu.r27 (.seq Zu.r28 (.cond 148 Zu.r29 (.skip))))) Zu.r26)
def Zu.r30:List Oper:=[oD 155 (.bin .add 114 (cI 1)),oM 114 155]
def Zu.l4:Code:=.seq Zu.r22 (.seq (.cond 115 (.skip) (.exit 6)) (.seq (.block 7 (.seq Zu.r23 (.seq Zu.r24 (.block 8 (.loop Zu.l3))))) Zu.r30))
def Zu.r31:List Oper:=[oM 156 6,oM 157 13,oM 2 156,oM 3 157]
def Zu.code:Code:=.seq Zu.r0 (.seq Zu.r1 (.seq (.draw Zu.r2 [(0,3),(0,4)]) (.seq Zu.r3 (.seq Zu.r4 (.seq (.seq Zu.r5 (.block 0 (.loop Zu.l0))) (.seq (.seq Zu.r10 (.block 2 (.loop Zu.l1))) (.seq (.seq Zu.r15 (.block 4 (.loop Zu.l2))) (.seq Zu.r20 (.seq (.seq Zu.r21 (.block 6 (.loop Zu.l4))) (.seq Zu.r31 (.ret)))))))))))
def Zu:Func:=⟨158,[.t 2,.t 3],Zu.code⟩
/-! (*muntin/sep.settler).look -/
def zk.r0:List Oper:=[oD 3 (.box 0),oM 6 (.c (.b false)),oM 7 (.c (.b false))]
def zk.r1:List Oper:=[oD 10 (.ld false 1 3),oM 11 1,oM 12 2,oC 13 235 [10,11,12],oD 8 (.alloc [.b false,.n 0,.n 0,.b false,.n 0,.n 0,.b false,.n 0,.n 0,.b false,.n 0,.n 0]),oN (.st 12 8 13)]
def zk.r2:List Oper:=[oD 14 (.slca 3 4 8 none none none),oD 15 (.ld false 1 3),oD 16 (.clo 1000237 [15]),oC 17 236 [14,16]]
def zk.r3:List Oper:=[oM 6 (.c (.b true)),oM 7 (.c (.b false))]
def zk.r4:List Oper:=[oD 18 (.slca 3 4 8 none none none),oD 19 (.clo 239 [3]),oC 20 238 [18,19],oM 9 20]
def zk.r5:List Oper:=[oM 21 9,oD 22 (.len 21),oD 23 (.eq true .sc 22 (cI 1))]
def zk.r6:List Oper:=[oM 6 (.c (.b false)),oM 7 (.c (.b false))]
def zk.r7:List Oper:=[oD 24 (.ld false 1 3),oM 25 9,oD 26 (.ixa 3 25 (cI 0)),oD 27 (.ld true 3 26),oC 28 241 [24,27]]
def zk.r8:List Oper:=[oM 6 (.c (.b true)),oM 7 (.c (.b true))]
def zk.code:Code:=.seq zk.r0 (.seq zk.r1 (.seq (.seq (.draw zk.r2 [(0,1)]) (.cond 17 (.seq zk.r3 (.ret)) (.skip))) (.seq zk.r4 (.seq (.seq zk.r5 (.cond 23 (.seq zk.r6 (.ret)) (.skip))) (.seq (.draw zk.r7 [(0,3)]) (.seq zk.r8 (.ret)))))))
def zk:Func:=⟨29,[.t 6,.t 7],zk.code⟩
/-! muntin/reach.New -/
def Zac.r0:List Oper:=[oM 2 (.c (.pn)),oM 3 (cI 0)]
def Zac.r1:List Oper:=[oM 6 0,oD 7 (.bin .lss 6 (cI 0)),oM 8 7,oF 9 8 (.mv 0),oF 10 8 (.bin .gtr 9 (cI 4096)),oD 11 (.pick 8 (.c (.b true)) 10)]
def Zac.r2:List Oper:=[oM 2 (.c (.pn)),oM 3 (cI 2)]
def Zac.r3:List Oper:=[oM 12 0,oD 13 (.mks 1 24 [.sn] 12 12),oD 14 (.build [.sn] [(0,1,.t 13)]),oD 15 (.box 14),oM 4 15]
def Zac.r4:List Oper:=[oM 16 4,oD 17 (.nilck 16),oD 18 (.fa 0 17),oD 19 (.ld false 1 18),oD 20 (.len 19),oM 21 (cI 0)]
def Zac.r5:List Oper:=[oD 22 (.bin .lss 21 20)]
def Zac.r6:List Oper:=[oM 23 21,oM 5 23]
def Zac.r7:List Oper:=[oM 24 4,oD 25 (.nilck 24),oD 26 (.fa 0 25),oD 27 (.ld false 1 26),oM 28 5,oM 29 0,oD 30 (.bin .add 29 (cI 64)),oD 31 (.bin .sub 30 (cI 1)),oD 32 (.bin .quo 31 (cI 64)),oD 33 (.mks 1 8 [.i .u64 0] 32 32),oD 34 (.ixa 1 27 28),oN (.st 1 34 33)]
def Zac.r8:List Oper:=[oD 35 (.bin .add 21 (cI 1)),oM 21 35]
def Zac.l0:Code:=.seq Zac.r5 (.seq (.cond 22 (.skip) (.exit 0)) (.seq (.block 1 (.seq Zac.r6 (.draw Zac.r7 [(3,9)]))) Zac.r8))
def Zac.r9:List Oper:=[oM 36 4,oM 2 36,oM 3 (cI 0)]
def Zac.code:Code:=.seq Zac.r0 (.seq (.seq Zac.r1 (.cond 11 (.seq Zac.r2 (.ret)) (.skip))) (.seq Zac.r3 (.seq (.seq Zac.r4 (.block 0 (.loop Zac.l0))) (.seq Zac.r9 (.ret)))))
def Zac:Func:=⟨37,[.t 2,.t 3],Zac.code⟩
/-! (*muntin/reach.Reach).Add -/
def Zt.r0:List Oper:=[oM 6 (cI 0)]
def Zt.r1:List Oper:=[oM 12 0,oD 13 (.eq false .pt 12 (.c (.pn))),oM 11 13]
def Zt.r2:List Oper:=[oM 6 (cI 1)]
def Zt.r3:List Oper:=[oM 15 0,oM 16 1,oC 17 242 [15,16],oD 18 (.un .not 17),oM 19 18,oF 20 19 (.mv 0),oF 21 19 (.mv 2),oF 22 19 (.call (.c (.f 242 [])) [20,21]),oF 23 19 (.un .not 22),oD 24 (.pick 19 (.c (.b true)) 23),oM 14 24]
def Zt.r4:List Oper:=[oM 6 (cI 2)]
def Zt.r5:List Oper:=[oM 26 0,oM 27 1,oM 28 2,oC 29 243 [26,27,28],oM 25 29]
def Zt.r6:List Oper:=[oM 6 (cI 0)]
def Zt.r7:List Oper:=[oM 30 0,oD 31 (.nilck 30),oD 32 (.fa 0 31),oD 33 (.ld false 1 32),oM 34 2,oD 35 (.ixa 1 33 34),oD 36 (.ld false 1 35),oC 37 244 [36],oM 7 37]
def Zt.r8:List Oper:=[oM 38 7,oM 39 2,oD 40 (.bin .quo 39 (cI 64)),oD 41 (.ixa 1 38 40),oD 42 (.ld false 1 41),oM 43 2,oD 44 (.bin .rem 43 (cI 64)),oD 45 (.bin .shl (.c (.i .u64 1)) 44),oD 46 (.bin .or 42 45),oD 47 (.ixa 1 38 40),oN (.st 1 47 46)]
def Zt.r9:List Oper:=[oM 48 0,oD 49 (.nilck 48),oD 50 (.fa 0 49),oD 51 (.ld false 1 50),oD 52 (.len 51),oM 53 (cI 0)]
def Zt.r10:List Oper:=[oD 54 (.bin .lss 53 52)]
def Zt.r11:List Oper:=[oM 55 53,oM 8 55]
def Zt.r12:List Oper:=[oM 56 8,oM 57 1,oD 58 (.eq true .sc 56 57),oM 59 58,oT 60 59 (.mv 0),oT 61 59 (.mv 8),oT 62 59 (.mv 1),oT 63 59 (.call (.c (.f 243 [])) [60,61,62]),oT 64 59 (.un .not 63),oD 65 (.pick 59 64 (.c (.b false)))]
def Zt.r13:List Oper:=[oM 66 7,oD 67 (.len 66),oM 68 (cI 0)]
def Zt.r14:List Oper:=[oD 69 (.bin .lss 68 67)]
def Zt.r15:List Oper:=[oM 70 68,oD 71 (.ixa 1 66 68),oD 72 (.ld false 1 71),oM 9 70,oM 10 72]
def Zt.r16:List Oper:=[oM 73 0,oD 74 (.nilck 73),oD 75 (.fa 0 74),oD 76 (.ld false 1 75),oM 77 8,oD 78 (.ixa 1 76 77),oD 79 (.ld false 1 78),oM 80 9,oD 81 (.ixa 1 79 80),oD 82 (.ld false 1 81),oM 83 10,oD 84 (.bin .or 82 83),oD 85 (.ixa 1 79 80),oN (.st 1 85 84)]
def Zt.r17:List Oper:=[oD 86 (.bin .add 68 (cI 1)),oM 68 86]
def Zt.l0:Code:=.seq Zt.r14 (.seq (.cond 69 (.skip) (.exit 3)) (.seq (.block 4 (.seq Zt.r15 Zt.r16)) Zt.r17))
def Zt.r18:List Oper:=[oD 87 (.bin .add 53 (cI 1)),oM 53 87]
def Zt.l1:Code:=.seq Zt.r10 (.seq (.cond 54 (.skip) (.exit 1)) (.seq (.block 2 (.seq Zt.r11 (.seq (.seq Zt.r12 (.cond 65 (.exit 2) (.skip))) (.seq Zt.r13 (.block 3 (.loop Zt.l0)))))) Zt.r18))
def Zt.r19:List Oper:=[oM 6 (cI 0)]
def Zt.code:Code:=.seq Zt.r0 (.seq (.block 0 (.seq Zt.r1 (.cond 11 (.seq Zt.r2 (.ret)) (.seq Zt.r3 (.cond 14 (.seq Zt.r4 (.ret)) (.seq Zt.r5 (.cond 25 (.seq Zt.r6 (.ret)) (.skip)))))))) (.seq Zt.r7 (.seq (.draw Zt.r8 []) (.seq (.seq Zt.r9 (.block 1 (.loop Zt.l1))) (.seq Zt.r19 (.ret))))))
def Zt:Func:=⟨88,[.t 6],Zt.code⟩
/-! muntin/sep.of -/
def Zci.r0:List Oper:=[oD 2 (.box 0),oD 3 (.box 1),oD 4 (.alloc [.n 0,.n 0,.n 0,.n 0])]
def Zci.r1:List Oper:=[oD 8 (.ld true 4 2),oD 9 (.fa 0 3),oD 10 (.ld false 1 9),oD 11 (.fa 1 3),oD 12 (.ld false 1 11),oC 13 126 [8,10,12],oM 7 13,oD 14 (.ext 7 0),oD 15 (.ext 7 1),oM 5 14,oM 6 15]
def Zci.r2:List Oper:=[oD 16 (.fa 0 3),oD 17 (.ld false 1 16)]
def Zci.r3:List Oper:=[oD 18 (.fa 1 3),oD 19 (.ld false 1 18),oD 20 (.fa 1 3),oD 21 (.ld false 1 20),oM 22 5,oM 23 6,oD 24 (.build [.n 0,.n 0,.n 0,.n 0] [(0,1,.t 19),(1,1,.t 21),(2,1,.t 22),(3,1,.t 23)]),oN (.st 4 4 24)]
def Zci.r4:List Oper:=[oM 25 5,oM 26 6,oD 27 (.fa 1 3),oD 28 (.ld false 1 27),oD 29 (.fa 1 3),oD 30 (.ld false 1 29),oD 31 (.build [.n 0,.n 0,.n 0,.n 0] [(0,1,.t 25),(1,1,.t 26),(2,1,.t 28),(3,1,.t 30)]),oN (.st 4 4 31)]
def Zci.code:Code:=.seq Zci.r0 (.seq Zci.r1 (.seq (.seq Zci.r2 (.cond 17 (.seq Zci.r3 (.ret)) (.skip))) (.seq Zci.r4 (.ret))))
def Zci:Func:=⟨32,[.cell 4 true 4],Zci.code⟩
/-! (*muntin/sep.settler).ways -/
def ZaE.r0:List Oper:=[oD 6 (.alloc [.b false,.n 0,.n 0,.b false,.n 0,.n 0,.b false,.n 0,.n 0,.b false,.n 0,.n 0])]
def ZaE.r1:List Oper:=[oM 9 0,oD 10 (.nilck 9),oD 11 (.fa 10 10),oD 12 (.ld false 1 11),oM 13 1,oD 14 (.ixa 4 12 13),oD 15 (.ld true 4 14),oM 16 0,oD 17 (.nilck 16),oD 18 (.fa 10 17),oD 19 (.ld false 1 18),oM 20 2,oD 21 (.ixa 4 19 20),oD 22 (.ld true 4 21),oD 7 (.alloc [.n 0,.n 0,.n 0,.n 0]),oD 8 (.alloc [.n 0,.n 0,.n 0,.n 0]),oN (.st 4 7 15),oN (.st 4 8 22)]
def ZaE.r2:List Oper:=[oD 23 (.fa 1 7),oD 24 (.ld false 1 23),oD 25 (.fa 0 8),oD 26 (.ld false 1 25),oD 27 (.build [.b false,.n 0,.n 0] [(0,1,.c (.b true)),(1,1,.t 24),(2,1,.t 26)]),oD 28 (.fa 1 8),oD 29 (.ld false 1 28),oD 30 (.fa 0 7),oD 31 (.ld false 1 30),oD 32 (.build [.b false,.n 0,.n 0] [(0,1,.c (.b true)),(1,1,.t 29),(2,1,.t 31)]),oD 33 (.fa 3 7),oD 34 (.ld false 1 33),oD 35 (.fa 2 8),oD 36 (.ld false 1 35),oD 37 (.build [.b false,.n 0,.n 0] [(0,1,.c (.b false)),(1,1,.t 34),(2,1,.t 36)]),oD 38 (.fa 3 8),oD 39 (.ld false 1 38),oD 40 (.fa 2 7),oD 41 (.ld false 1 40),oD 42 (.build [.b false,.n 0,.n 0] [(0,1,.c (.b false)),(1,1,.t 39),(2,1,.t 41)]),oD 43 (.build [.b false,.n 0,.n 0,.b false,.n 0,.n 0,.b false,.n 0,.n 0,.b false,.n 0,.n 0] [(0,3,.t 27),(3,3,.t 32),(6,3,.t 37),(9,3,.t 42)]),oN (.st 12 6 43)]
def ZaE.code:Code:=.seq ZaE.r0 (.seq (.draw ZaE.r1 [(3,10),(6,10),(3,13),(6,13),(3,14),(6,14),(10,14),(13,14),(3,15),(6,15),(10,15),(13,15),(14,15),(10,16),(13,16)]) (.seq ZaE.r2 (.ret)))
def ZaE:Func:=⟨44,[.cell 6 true 12],ZaE.code⟩
/-! slices.ContainsFunc[[]muntin/sep.way,muntin/sep.way] -/
def zW.r0:List Oper:=[oM 4 (.c (.b false))]
def zW.r1:List Oper:=[oM 5 0,oM 6 1,oC 7 245 [5,6],oD 8 (.bin .geq 7 (cI 0)),oM 4 8]
def zW.code:Code:=.seq zW.r0 (.seq zW.r1 (.ret))
def zW:Func:=⟨9,[.t 4],zW.code⟩
/-! (*muntin/sep.settler).is -/
def Zb1.r0:List Oper:=[oD 3 (.box 1),oM 4 (.c (.b false))]
def Zb1.r1:List Oper:=[oM 5 0,oD 6 (.ld true 3 3),oC 7 246 [5,6],oD 8 (.fa 1 3),oD 9 (.ld false 1 8),oD 10 (.fa 2 3),oD 11 (.ld false 1 10),oC 12 243 [7,9,11],oM 4 12]
def Zb1.code:Code:=.seq Zb1.r0 (.seq (.draw Zb1.r1 [(1,4),(2,4),(1,6),(2,6),(4,6)]) (.ret))
def Zb1:Func:=⟨13,[.t 4],Zb1.code⟩
/-! slices.DeleteFunc[[]muntin/sep.way,muntin/sep.way] -/
def Zp.r0:List Oper:=[oM 4 (.c (.sn))]
def Zp.r1:List Oper:=[oM 8 0,oM 9 1,oC 10 245 [8,9],oM 5 10]
def Zp.r2:List Oper:=[oM 11 5,oD 12 (.eq false .sc 11 (cI (-1)))]
def Zp.r3:List Oper:=[oM 13 0,oM 4 13]
def Zp.r4:List Oper:=[oM 14 5,oD 15 (.bin .add 14 (cI 1)),oM 6 15]
def Zp.r5:List Oper:=[oM 16 6,oM 17 0,oD 18 (.len 17),oD 19 (.bin .lss 16 18)]
def Zp.r7:List Oper:=[oM 22 0,oM 23 6,oD 24 (.ixa 3 22 23),oD 25 (.ld true 3 24),oD 7 (.alloc [.b false,.n 0,.n 0]),oN (.st 3 7 25)]
def Zp.r8:List Oper:=[oM 26 1,oD 27 (.ld true 3 7),oD 28 (.call 26 [27]),oD 29 (.un .not 28)]
def Zp.r9:List Oper:=[oM 30 0,oM 31 5,oD 32 (.ld true 3 7),oD 33 (.ixa 3 30 31),oN (.st 3 33 32)]
def Zp.r10:List Oper:=[oM 34 5,oD 35 (.bin .add 34 (cI 1)),oM 5 35]
def Zp.r6:List Oper:=[oM 20 6,oD 21 (.bin .add 20 (cI 1)),oM 6 21]
def Zp.l0:Code:=.seq (.seq Zp.r5 (.cond 19 (.skip) (.exit 0))) (.seq (.block 1 (.seq Zp.r7 (.seq Zp.r8 (.cond 29 (.seq Zp.r9 Zp.r10) (.skip))))) Zp.r6)
def Zp.r11:List Oper:=[oM 36 0,oM 37 5,oD 38 (.slc 3 36 (some 37) none none),oN (.clr [.b false,.n 0,.n 0] 38)]
def Zp.r12:List Oper:=[oM 39 0,oM 40 5,oD 41 (.slc 3 39 none (some 40) none),oM 4 41]
def Zp.code:Code:=.seq Zp.r0 (.seq Zp.r1 (.seq (.seq Zp.r2 (.cond 12 (.seq Zp.r3 (.ret)) (.skip))) (.seq (.seq Zp.r4 (.block 0 (.loop Zp.l0))) (.seq Zp.r11 (.seq Zp.r12 (.ret))))))
def Zp:Func:=⟨42,[.t 4],Zp.code⟩
/-! (*muntin/sep.settler).look$1 -/
def ZaQ.r0:List Oper:=[oD 2 (.box 0),oM 3 (.c (.b false))]
def ZaQ.r1:List Oper:=[oD 4 (.ld false 1 1),oD 5 (.ld true 3 2),oC 6 240 [4,5],oD 7 (.un .not 6),oM 3 7]
def ZaQ.code:Code:=.seq ZaQ.r0 (.seq ZaQ.r1 (.ret))
def ZaQ:Func:=⟨8,[.t 3],ZaQ.code⟩
/-! (*muntin/sep.settler).can -/
def Zbq.r0:List Oper:=[oD 3 (.box 1),oM 4 (.c (.b false))]
def Zbq.r1:List Oper:=[oD 5 (.fa 1 3),oD 6 (.ld false 1 5),oD 7 (.fa 2 3),oD 8 (.ld false 1 7),oD 9 (.eq true .sc 6 8),oM 10 9,oT 11 10 (.mv 0),oT 12 10 (.ld true 3 3),oT 13 10 (.call (.c (.f 246 [])) [11,12]),oT 14 10 (.fa 2 3),oT 15 10 (.ld false 1 14),oT 16 10 (.fa 1 3),oT 17 10 (.ld false 1 16),oT 18 10 (.call (.c (.f 243 [])) [13,15,17]),oT 19 10 (.un .not 18),oD 20 (.pick 10 19 (.c (.b false))),oM 4 20]
def Zbq.code:Code:=.seq Zbq.r0 (.seq (.draw Zbq.r1 [(1,3),(7,10),(8,10),(7,12),(8,12),(10,12)]) (.ret))
def Zbq:Func:=⟨21,[.t 4],Zbq.code⟩
/-! (*muntin/sep.settler).force -/
def zG.r0:List Oper:=[oD 3 (.box 1)]
def zG.r1:List Oper:=[oM 5 0,oD 6 (.ld true 3 3),oC 7 246 [5,6],oD 8 (.fa 1 3),oD 9 (.ld false 1 8),oD 10 (.fa 2 3),oD 11 (.ld false 1 10),oC 12 233 [7,9,11]]
def zG.r2:List Oper:=[oD 13 (.fa 1 3),oD 14 (.ld false 1 13),oD 15 (.fa 2 3),oD 16 (.ld false 1 15),oD 17 (.build [.n 0,.n 0,.n 0] [(0,1,.t 14),(1,1,.t 16)]),oD 4 (.alloc [.n 0,.n 0,.n 0]),oN (.st 3 4 17)]
def zG.r3:List Oper:=[oD 18 (.fa 0 3),oD 19 (.ld false 1 18)]
def zG.r4:List Oper:=[oM 20 0,oM 21 0,oD 22 (.nilck 21),oD 23 (.fa 0 22),oD 24 (.fa 0 23),oD 25 (.fa 4 24),oD 26 (.ld false 1 25),oD 27 (.ld true 3 4),oD 28 (.bsl 3 1 [.n 0,.n 0,.n 0] [(0,3,.t 27)]),oD 29 (.app 3 24 26 28),oD 30 (.nilck 20),oD 31 (.fa 0 30),oD 32 (.fa 0 31),oD 33 (.fa 4 32),oN (.st 1 33 29)]
def zG.r5:List Oper:=[oM 34 0,oM 35 0,oD 36 (.nilck 35),oD 37 (.fa 0 36),oD 38 (.fa 0 37),oD 39 (.fa 5 38),oD 40 (.ld false 1 39),oD 41 (.ld true 3 4),oD 42 (.bsl 3 1 [.n 0,.n 0,.n 0] [(0,3,.t 41)]),oD 43 (.app 3 24 40 42),oD 44 (.nilck 34),oD 45 (.fa 0 44),oD 46 (.fa 0 45),oD 47 (.fa 5 46),oN (.st 1 47 43)]
def zG.code:Code:=.seq zG.r0 (.seq (.draw zG.r1 [(1,4),(2,4),(1,6),(2,6),(4,6)]) (.seq zG.r2 (.seq zG.r3 (.cond 19 (.draw zG.r4 [(6,7),(6,8)]) (.draw zG.r5 [(6,7),(6,8)])))))
def zG:Func:=⟨48,[],zG.code⟩
/-! (*muntin/reach.Reach).is -/
def Zb0.r0:List Oper:=[oM 4 (.c (.b false))]
def Zb0.r1:List Oper:=[oM 5 0,oD 6 (.eq true .pt 5 (.c (.pn))),oM 7 6,oT 8 7 (.mv 1),oT 9 7 (.bin .geq 8 (cI 0)),oD 10 (.pick 7 9 (.c (.b false))),oM 11 10,oT 12 11 (.mv 1),oT 13 11 (.mv 0),oT 14 11 (.nilck 13),oT 15 11 (.fa 0 14),oT 16 11 (.ld false 1 15),oT 17 11 (.len 16),oT 18 11 (.bin .lss 12 17),oD 19 (.pick 11 18 (.c (.b false))),oM 4 19]
def Zb0.code:Code:=.seq Zb0.r0 (.seq Zb0.r1 (.ret))
def Zb0:Func:=⟨20,[.t 4],Zb0.code⟩
/-! (*muntin/reach.Reach).Has -/
def Zbp.r0:List Oper:=[oM 6 (.c (.b false))]
def Zbp.r1:List Oper:=[oM 7 0,oM 8 1,oC 9 242 [7,8],oM 10 9,oT 11 10 (.mv 0),oT 12 10 (.mv 2),oT 13 10 (.call (.c (.f 242 [])) [11,12]),oD 14 (.pick 10 13 (.c (.b false))),oM 15 14,oT 16 15 (.mv 0),oT 17 15 (.nilck 16),oT 18 15 (.fa 0 17),oT 19 15 (.ld false 1 18),oT 20 15 (.mv 1),oT 21 15 (.ixa 1 19 20),oT 22 15 (.ld false 1 21),oT 23 15 (.mv 2),oT 24 15 (.bin .quo 23 (cI 64)),oT 25 15 (.ixa 1 22 24),oT 26 15 (.ld false 1 25),oT 27 15 (.mv 2),oT 28 15 (.bin .rem 27 (cI 64)),oT 29 15 (.bin .shr 26 28),oT 30 15 (.bin .and 29 (.c (.i .u64 1))),oT 31 15 (.eq false .sc 30 (.c (.i .u64 1))),oD 32 (.pick 15 31 (.c (.b false))),oM 6 32]
def Zbp.code:Code:=.seq Zbp.r0 (.seq Zbp.r1 (.ret))
def Zbp:Func:=⟨33,[.t 6],Zbp.code⟩
/-! slices.Clone[[]uint64,uint64] -/
def zX.r0:List Oper:=[oM 2 (.c (.sn))]
def zX.r1:List Oper:=[oM 3 0,oD 4 (.eq false .sl 3 (.c (.sn)))]
def zX.r2:List Oper:=[oM 2 (.c (.sn))]
def zX.r3:List Oper:=[oD 5 (.bsl 1 0 [.i .u64 0] []),oM 6 0,oD 7 (.app 1 8 5 6),oM 2 7]
def zX.code:Code:=.seq zX.r0 (.seq (.seq zX.r1 (.cond 4 (.seq zX.r2 (.ret)) (.skip))) (.seq zX.r3 (.ret)))
def zX:Func:=⟨8,[.t 2],zX.code⟩
/-! slices.IndexFunc[[]muntin/sep.way,muntin/sep.way] -/
def ZA.r0:List Oper:=[oM 4 (cI 0)]
def ZA.r1:List Oper:=[oM 6 0,oD 7 (.len 6),oM 8 (cI 0)]
def ZA.r2:List Oper:=[oD 9 (.bin .lss 8 7)]
def ZA.r3:List Oper:=[oM 10 8,oM 5 10]
def ZA.r4:List Oper:=[oM 11 1,oM 12 0,oM 13 5,oD 14 (.ixa 3 12 13),oD 15 (.ld true 3 14),oD 16 (.call 11 [15])]
def ZA.r5:List Oper:=[oM 17 5,oM 4 17]
def ZA.r6:List Oper:=[oD 18 (.bin .add 8 (cI 1)),oM 8 18]
def ZA.l0:Code:=.seq ZA.r2 (.seq (.cond 9 (.skip) (.exit 0)) (.seq (.block 1 (.seq ZA.r3 (.seq ZA.r4 (.cond 16 (.seq ZA.r5 (.ret)) (.skip))))) ZA.r6))
def ZA.r7:List Oper:=[oM 4 (cI (-1))]
def ZA.code:Code:=.seq ZA.r0 (.seq (.seq ZA.r1 (.block 0 (.loop ZA.l0))) (.seq ZA.r7 (.ret)))
def ZA:Func:=⟨19,[.t 4],ZA.code⟩
/-! (*muntin/sep.settler).graph -/
def Zan.r0:List Oper:=[oD 3 (.box 1),oM 4 (.c (.pn))]
def Zan.r1:List Oper:=[oD 5 (.fa 0 3),oD 6 (.ld false 1 5)]
def Zan.r2:List Oper:=[oM 7 0,oD 8 (.nilck 7),oD 9 (.fa 7 8),oD 10 (.ld false 1 9),oM 4 10]
def Zan.r3:List Oper:=[oM 11 0,oD 12 (.nilck 11),oD 13 (.fa 8 12),oD 14 (.ld false 1 13),oM 4 14]
def Zan.code:Code:=.seq Zan.r0 (.seq (.seq Zan.r1 (.cond 6 (.seq Zan.r2 (.ret)) (.skip))) (.seq Zan.r3 (.ret)))
def Zan:Func:=⟨15,[.t 4],Zan.code⟩
/-! muntin/muntinlaw19.SepTurns -/
def Ze.r0:List Oper:=[oD 1 (.box 0),oM 2 (.c (.b false))]
def Ze.r1:List Oper:=[oD 20 (.ld true 3 1),oC 21 28 [20,.c (.n 12)],oM 19 21,oD 22 (.ext 19 0),oD 23 (.ext 19 1),oM 3 22,oM 4 23]
def Ze.r2:List Oper:=[oM 25 3,oC 26 210 [25],oM 24 26,oD 27 (.ext 24 0),oD 28 (.ext 24 1),oD 5 (.alloc [.sn,.sn,.sn,.sn,.sn,.sn,.sn]),oN (.st 7 5 27),oM 6 28]
def Ze.r3:List Oper:=[oM 30 3,oC 31 116 [30],oC 32 210 [31],oM 29 32,oD 33 (.ext 29 0),oD 34 (.ext 29 1),oD 7 (.alloc [.sn,.sn,.sn,.sn,.sn,.sn,.sn]),oN (.st 7 7 33),oM 8 34]
def Ze.r4:List Oper:=[oC 35 189 [],oD 36 (.un .not 35),oM 37 36,oF 38 37 (.mv 6),oF 39 37 (.mv 8),oF 40 37 (.eq true .sc 38 39),oD 41 (.pick 37 (.c (.b true)) 40)]
def Ze.r5:List Oper:=[oM 2 (.c (.b false))]
def Ze.r6:List Oper:=[oM 42 6,oD 43 (.eq true .sc 42 (cI 0))]
def Ze.r7:List Oper:=[oM 2 (.c (.b true))]
def Ze.r8:List Oper:=[oD 44 (.fa 6 5),oD 45 (.ld false 1 44),oD 46 (.len 45),oD 47 (.fa 6 7),oD 48 (.ld false 1 47),oD 49 (.len 48),oD 50 (.eq true .sc 46 49)]
def Ze.r9:List Oper:=[oM 2 (.c (.b false))]
def Ze.r10:List Oper:=[oD 51 (.fa 0 5),oD 52 (.fa 0 51),oD 53 (.fa 2 52),oD 54 (.ld false 1 53),oD 55 (.len 54),oD 56 (.fa 0 5),oD 57 (.fa 0 56),oD 58 (.fa 3 57),oD 59 (.ld false 1 58),oD 60 (.len 59),oM 9 55,oM 10 60]
def Ze.r11:List Oper:=[oD 61 (.fa 0 7),oD 62 (.fa 0 61),oD 63 (.fa 3 62),oD 64 (.ld false 1 63),oD 65 (.len 64),oM 66 9,oD 67 (.eq true .sc 65 66),oM 68 67,oF 69 68 (.fa 0 7),oF 70 68 (.fa 0 69),oF 71 68 (.fa 2 70),oF 72 68 (.ld false 1 71),oF 73 68 (.len 72),oF 74 68 (.mv 10),oF 75 68 (.eq true .sc 73 74),oD 76 (.pick 68 (.c (.b true)) 75)]
def Ze.r12:List Oper:=[oM 2 (.c (.b false))]
def Ze.r13:List Oper:=[oM 77 9,oD 78 (.fa 0 5),oD 79 (.fa 4 78),oD 80 (.ld false 1 79),oC 81 272 [80],oC 82 271 [77,81],oM 83 10,oD 84 (.fa 0 5),oD 85 (.fa 5 84),oD 86 (.ld false 1 85),oC 87 272 [86],oC 88 271 [83,87],oM 11 82,oM 12 88]
def Ze.r14:List Oper:=[oM 89 10,oD 90 (.fa 0 7),oD 91 (.fa 4 90),oD 92 (.ld false 1 91),oC 93 272 [92],oC 94 271 [89,93],oM 95 9,oD 96 (.fa 0 7),oD 97 (.fa 5 96),oD 98 (.ld false 1 97),oC 99 272 [98],oC 100 271 [95,99],oM 13 94,oM 14 100]
def Ze.r15:List Oper:=[oM 101 9,oM 102 (cI 0)]
def Ze.r16:List Oper:=[oD 103 (.bin .lss 102 101)]
def Ze.r17:List Oper:=[oM 104 102,oM 15 104]
def Ze.r18:List Oper:=[oM 105 9,oM 106 (cI 0)]
def Ze.r19:List Oper:=[oD 107 (.bin .lss 106 105)]
def Ze.r20:List Oper:=[oM 108 106,oM 16 108]
def Ze.r21:List Oper:=[oM 109 11,oM 110 15,oD 111 (.ixa 1 109 110),oD 112 (.ld false 1 111),oM 113 16,oD 114 (.ixa 1 112 113),oD 115 (.ld false 1 114),oM 116 14,oM 117 15,oD 118 (.ixa 1 116 117),oD 119 (.ld false 1 118),oM 120 16,oD 121 (.ixa 1 119 120),oD 122 (.ld false 1 121),oD 123 (.eq true .bl 115 122)]
def Ze.r22:List Oper:=[oM 2 (.c (.b false))]
def Ze.r23:List Oper:=[oD 124 (.bin .add 106 (cI 1)),oM 106 124]
def Ze.l0:Code:=.seq Ze.r19 (.seq (.cond 107 (.skip) (.exit 2)) (.seq (.block 3 (.seq Ze.r20 (.seq (.draw Ze.r21 [(3,10),(6,10),(3,13),(6,13)]) (.cond 123 (.seq Ze.r22 (.ret)) (.skip))))) Ze.r23))
def Ze.r24:List Oper:=[oD 125 (.bin .add 102 (cI 1)),oM 102 125]
def Ze.l1:Code:=.seq Ze.r16 (.seq (.cond 103 (.skip) (.exit 0)) (.seq (.block 1 (.seq Ze.r17 (.seq Ze.r18 (.block 2 (.loop Ze.l0))))) Ze.r24))
def Ze.r25:List Oper:=[oM 126 10,oM 127 (cI 0)]
def Ze.r26:List Oper:=[oD 128 (.bin .lss 127 126)]
def Ze.r27:List Oper:=[oM 129 127,oM 17 129]
def Ze.r28:List Oper:=[oM 130 10,oM 131 (cI 0)]
def Ze.r29:List Oper:=[oD 132 (.bin .lss 131 130)]
def Ze.r30:List Oper:=[oM 133 131,oM 18 133]
def Ze.r31:List Oper:=[oM 134 12,oM 135 17,oD 136 (.ixa 1 134 135),oD 137 (.ld false 1 136),oM 138 18,oD 139 (.ixa 1 137 138),oD 140 (.ld false 1 139),oM 141 13,oM 142 18,oD 143 (.ixa 1 141 142),oD 144 (.ld false 1 143),oM 145 17,oD 146 (.ixa 1 144 145),oD 147 (.ld false 1 146),oD 148 (.eq true .bl 140 147)]
def Ze.r32:List Oper:=[oM 2 (.c (.b false))]
def Ze.r33:List Oper:=[oD 149 (.bin .add 131 (cI 1)),oM 131 149]
def Ze.l2:Code:=.seq Ze.r29 (.seq (.cond 132 (.skip) (.exit 6)) (.seq (.block 7 (.seq Ze.r30 (.seq (.draw Ze.r31 [(3,10),(6,10),(3,13),(6,13)]) (.cond 148 (.seq Ze.r32 (.ret)) (.skip))))) Ze.r33))
def Ze.r34:List Oper:=[oD 150 (.bin .add 127 (cI 1)),oM 127 150]
def Ze.l3:Code:=.seq Ze.r26 (.seq (.cond 128 (.skip) (.exit 4)) (.seq (.block 5 (.seq Ze.r27 (.seq Ze.r28 (.block 6 (.loop Ze.l2))))) Ze.r34))
def Ze.r35:List Oper:=[oM 2 (.c (.b true))]
def Ze.code:Code:=.seq Ze.r0 (.seq Ze.r1 (.seq Ze.r2 (.seq Ze.r3 (.seq (.seq Ze.r4 (.cond 41 (.seq Ze.r5 (.ret)) (.skip))) (.seq (.seq Ze.r6 (.cond 43 (.seq Ze.r7 (.ret)) (.skip))) (.seq (.seq Ze.r8 (.cond 50 (.seq Ze.r9 (.ret)) (.skip))) (.seq (.draw Ze.r10 [(3,8)]) (.seq (.seq Ze.r11 (.cond 76 (.seq Ze.r12 (.ret)) (.skip))) (.seq (.draw Ze.r13 [(3,9),(4,9),(5,9)]) (.seq (.draw Ze.r14 [(3,9),(4,9),(5,9)]) (.seq (.seq Ze.r15 (.block 0 (.loop Ze.l1))) (.seq (.seq Ze.r25 (.block 4 (.loop Ze.l3))) (.seq Ze.r35 (.ret))))))))))))))
def Ze:Func:=⟨151,[.t 2],Ze.code⟩
/-! muntin/muntinref18.All -/
def zn.r0:List Oper:=[oM 4 (.c (.sn))]
def zn.r1:List Oper:=[oM 5 (.c (.sn))]
def zn.r2:List Oper:=[oM 6 (cI 0)]
def zn.r3:List Oper:=[oM 8 6,oM 9 0,oD 10 (.bin .lss 8 9)]
def zn.r5:List Oper:=[oM 13 0,oM 14 1,oM 15 6,oC 16 277 [13,14,15],oM 7 16]
def zn.r6:List Oper:=[oM 17 5,oM 18 7,oD 19 (.bsl 1 1 [.sn] [(0,1,.t 18)]),oD 20 (.app 1 24 17 19),oM 5 20]
def zn.r4:List Oper:=[oM 11 6,oD 12 (.bin .add 11 (cI 1)),oM 6 12]
def zn.l0:Code:=.seq (.seq zn.r3 (.cond 10 (.skip) (.exit 0))) (.seq (.block 1 (.seq zn.r5 zn.r6)) zn.r4)
def zn.r7:List Oper:=[oM 21 5,oM 4 21]
def zn.code:Code:=.seq zn.r0 (.seq zn.r1 (.seq (.seq zn.r2 (.block 0 (.loop zn.l0))) (.seq zn.r7 (.ret))))
def zn:Func:=⟨22,[.t 4],zn.code⟩
/-! muntin/muntinlaw19.pairs -/
def zc.r0:List Oper:=[oM 2 (.c (.sn))]
def zc.r1:List Oper:=[oM 3 (.c (.sn))]
def zc.r2:List Oper:=[oM 6 0,oD 7 (.len 6),oM 8 (cI 0)]
def zc.r3:List Oper:=[oD 9 (.bin .lss 8 7)]
def zc.r4:List Oper:=[oD 10 (.ixa 3 6 8),oD 11 (.ld true 3 10),oD 5 (.alloc [.n 0,.n 0,.n 0]),oN (.st 3 5 11)]
def zc.r5:List Oper:=[oM 12 3,oD 13 (.fa 0 5),oD 14 (.ld false 1 13),oD 15 (.fa 1 5),oD 16 (.ld false 1 15),oD 17 (.build [.n 0,.n 0] [(0,1,.t 14),(1,1,.t 16)]),oD 18 (.bsl 2 1 [.n 0,.n 0] [(0,2,.t 17)]),oD 19 (.app 2 16 12 18),oM 3 19]
def zc.r6:List Oper:=[oD 20 (.bin .add 8 (cI 1)),oM 8 20]
def zc.l0:Code:=.seq zc.r3 (.seq (.cond 9 (.skip) (.exit 0)) (.seq (.block 1 (.seq zc.r4 zc.r5)) zc.r6))
def zc.r7:List Oper:=[oM 21 3,oM 2 21]
def zc.code:Code:=.seq zc.r0 (.seq zc.r1 (.seq (.seq zc.r2 (.block 0 (.loop zc.l0))) (.seq zc.r7 (.ret))))
def zc:Func:=⟨22,[.t 2],zc.code⟩
/-! muntin/muntinref18.From -/
def ZG.r0:List Oper:=[oM 6 (.c (.sn))]
def ZG.r1:List Oper:=[oM 10 0,oD 11 (.mks 1 1 [.b false] 10 10),oM 7 11]
def ZG.r2:List Oper:=[oM 8 (cI 0)]
def ZG.r3:List Oper:=[oM 12 8,oM 13 0,oD 14 (.bin .leq 12 13)]
def ZG.r5:List Oper:=[oM 9 (cI 0)]
def ZG.r6:List Oper:=[oM 17 9,oM 18 1,oD 19 (.len 18),oD 20 (.bin .lss 17 19)]
def ZG.r8:List Oper:=[oM 23 1,oM 24 9,oD 25 (.ixa 2 23 24),oD 26 (.ixaa 1 2 25 (cI 0)),oD 27 (.ld false 1 26),oM 28 2,oD 29 (.eq false .sc 27 28),oM 30 29,oF 31 30 (.mv 7),oF 32 30 (.mv 1),oF 33 30 (.mv 9),oF 34 30 (.ixa 2 32 33),oF 35 30 (.ixaa 1 2 34 (cI 0)),oF 36 30 (.ld false 1 35),oF 37 30 (.ixa 1 31 36),oF 38 30 (.ld false 1 37),oD 39 (.pick 30 (.c (.b true)) 38)]
def ZG.r9:List Oper:=[oM 40 7,oM 41 1,oM 42 9,oD 43 (.ixa 2 41 42),oD 44 (.ixaa 1 2 43 (cI 1)),oD 45 (.ld false 1 44),oD 46 (.ixa 1 40 45),oN (.st 1 46 (.c (.b true)))]
def ZG.r7:List Oper:=[oM 21 9,oD 22 (.bin .add 21 (cI 1)),oM 9 22]
def ZG.l0:Code:=.seq (.seq ZG.r6 (.cond 20 (.skip) (.exit 2))) (.seq (.block 3 (.seq ZG.r8 (.cond 39 ZG.r9 (.skip)))) ZG.r7)
def ZG.r4:List Oper:=[oM 15 8,oD 16 (.bin .add 15 (cI 1)),oM 8 16]
def ZG.l1:Code:=.seq (.seq ZG.r3 (.cond 14 (.skip) (.exit 0))) (.seq (.block 1 (.seq ZG.r5 (.block 2 (.loop ZG.l0)))) ZG.r4)
def ZG.r10:List Oper:=[oM 47 7,oM 6 47]
def ZG.code:Code:=.seq ZG.r0 (.seq ZG.r1 (.seq (.seq ZG.r2 (.block 0 (.loop ZG.l1))) (.seq ZG.r10 (.ret))))
def ZG:Func:=⟨48,[.t 6],ZG.code⟩
def G:Prog:=fun i=>match i with
  | 28=>some Zg
  | 29=>some ZD
  | 32=>some ZbL
  | 46=>some ZS
  | 53=>some zC
  | 63=>some ZE
  | 64=>some Zs
  | 65=>some Z9
  | 66=>some zf
  | 67=>some ZL
  | 77=>some ZaX
  | 78=>some Zas
  | 82=>some zV
  | 83=>some ZI
  | 89=>some ZbC
  | 90=>some ZbJ
  | 91=>some ZM
  | 97=>some ZbI
  | 98=>some zI
  | 116=>some Z0
  | 118=>some ZaG
  | 120=>some Zbw
  | 123=>some ZaP
  | 126=>some z9
  | 129=>some ZbV
  | 136=>some zl
  | 137=>some Z6
  | 140=>some zD
  | 141=>some ZaV
  | 144=>some zO
  | 149=>some Zbl
  | 176=>some zN
  | 187=>some Zbx
  | 189=>some zU
  | 201=>some ZY
  | 203=>some Z1
  | 204=>some zJ
  | 209=>some zo
  | 210=>some Z7
  | 211=>some zd
  | 219=>some z6
  | 220=>some ZbK
  | 221=>some ZT
  | 222=>some ZaY
  | 226=>some Zu
  | 227=>some zk
  | 232=>some Zac
  | 233=>some Zt
  | 234=>some Zci
  | 235=>some ZaE
  | 236=>some zW
  | 237=>some Zb1
  | 238=>some Zp
  | 239=>some ZaQ
  | 240=>some Zbq
  | 241=>some zG
  | 242=>some Zb0
  | 243=>some Zbp
  | 244=>some zX
  | 245=>some ZA
  | 246=>some Zan
  | 259=>some Ze
  | 271=>some zn
  | 272=>some zc
  | 277=>some ZG
  | _=>none
theorem ZdO:G 28=some Zg:=rfl
theorem Zf6:G 29=some ZD:=rfl
theorem Zf7:G 32=some ZbL:=rfl
theorem Zeh:G 46=some ZS:=rfl
theorem ZdN:G 53=some zC:=rfl
theorem Zdo:G 63=some ZE:=rfl
theorem Zdn:G 64=some Zs:=rfl
theorem ZdP:G 65=some Z9:=rfl
theorem Zf5:G 66=some zf:=rfl
theorem Zfs:G 67=some ZL:=rfl
theorem ZeM:G 77=some ZaX:=rfl
theorem ZcB:G 78=some Zas:=rfl
theorem ZfY:G 82=some zV:=rfl
theorem ZdE:G 83=some ZI:=rfl
theorem Zgs:G 89=some ZbC:=rfl
theorem ZeL:G 90=some ZbJ:=rfl
theorem Zdb:G 91=some ZM:=rfl
theorem Zhv:G 97=some ZbI:=rfl
theorem Zf2:G 98=some zI:=rfl
theorem Zdx:G 116=some Z0:=rfl
theorem Zdq:G 118=some ZaG:=rfl
theorem Zhw:G 120=some Zbw:=rfl
theorem Zel:G 123=some ZaP:=rfl
theorem Zem:G 126=some z9:=rfl
theorem ZgS:G 129=some ZbV:=rfl
theorem ZdU:G 136=some zl:=rfl
theorem Zf8:G 137=some Z6:=rfl
theorem ZdR:G 140=some zD:=rfl
theorem ZdB:G 141=some ZaV:=rfl
theorem Zf1:G 144=some zO:=rfl
theorem Zfr:G 149=some Zbl:=rfl
theorem Zft:G 176=some zN:=rfl
theorem Zga:G 187=some Zbx:=rfl
theorem ZdA:G 189=some zU:=rfl
theorem Zfu:G 201=some ZY:=rfl
theorem Zf3:G 203=some Z1:=rfl
theorem Zf4:G 204=some zJ:=rfl
theorem Zgb:G 209=some zo:=rfl
theorem Zf9:G 210=some Z7:=rfl
theorem Zd9:G 211=some zd:=rfl
theorem ZeC:G 219=some z6:=rfl
theorem ZeO:G 220=some ZbK:=rfl
theorem ZdM:G 221=some ZT:=rfl
theorem ZeN:G 222=some ZaY:=rfl
theorem Zgc:G 226=some Zu:=rfl
theorem ZdS:G 227=some zk:=rfl
theorem ZfZ:G 232=some Zac:=rfl
theorem Zej:G 233=some Zt:=rfl
theorem Zhx:G 234=some Zci:=rfl
theorem ZdT:G 235=some ZaE:=rfl
theorem Zcx:G 236=some zW:=rfl
theorem Ze1:G 237=some Zb1:=rfl
theorem Zc2:G 238=some Zp:=rfl
theorem Zdy:G 239=some ZaQ:=rfl
theorem Zen:G 240=some Zbq:=rfl
theorem ZdC:G 241=some zG:=rfl
theorem Ze0:G 242=some Zb0:=rfl
theorem Zek:G 243=some Zbp:=rfl
theorem Zdp:G 244=some zX:=rfl
theorem Zc7:G 245=some ZA:=rfl
theorem ZdD:G 246=some Zan:=rfl
theorem Zda:G 259=some Ze:=rfl
theorem Zei:G 271=some zn:=rfl
theorem Zd8:G 272=some zc:=rfl
theorem ZdQ:G 277=some ZG:=rfl
end Mu
