/- The functions of the program, as the evaluator has them: printed by a program; checked against the model's. -/
import Derived.Test.YtjhlegefgllihaaMuE0
namespace Mu
instance (n:Nat):OfNat Opd n:=⟨.t n⟩
instance:Coe (List Oper) Code:=⟨.region⟩
abbrev oD (d:Nat) (op:Op):Oper:=⟨some d,op,none⟩
abbrev oN (op:Op):Oper:=⟨none,op,none⟩
abbrev oT (d g:Nat) (op:Op):Oper:=⟨some d,op,some (g,true)⟩
abbrev oF (d g:Nat) (op:Op):Oper:=⟨some d,op,some (g,false)⟩
abbrev oM (d:Nat) (x:Opd):Oper:=⟨some d,.mv x,none⟩
abbrev oC (d f:Nat) (l:List Opd):Oper:=⟨some d,.call (.c (.f f [])) l,none⟩
abbrev cI (n:Int):Opd:=.c (.i .i64 n)
/-! muntin/muntinref10.Make -/
def Zf.r0:List Oper:=[oD 2 (.box 0),oM 4 (.c (.sn)),oM 5 (.c (.sn))]
def Zf.r1:List Oper:=[oM 6 (.c (.sn))]
def Zf.r2:List Oper:=[oM 7 (cI 0)]
def Zf.r3:List Oper:=[oM 18 7,oD 19 (.fa 0 2),oD 20 (.ld false 1 19),oD 21 (.len 20),oD 22 (.bin .lss 18 21),oM 23 22,oT 24 23 (.mv 6),oT 25 23 (.len 24),oT 26 23 (.mv 1),oT 27 23 (.bin .lss 25 26),oD 28 (.pick 23 27 (.c (.b false)))]
def Zf.r5:List Oper:=[oD 31 (.fa 0 2),oD 32 (.ld false 1 31),oM 33 7,oD 34 (.ixa 1 32 33),oD 35 (.ld false 1 34),oD 36 (.conv .i64 35),oD 37 (.bin .rem 36 (cI 8)),oD 38 (.fa 0 2),oD 39 (.ld false 1 38),oM 40 7,oD 41 (.ixa 1 39 40),oD 42 (.ld false 1 41),oD 43 (.conv .i64 42),oD 44 (.bin .quo 43 (cI 8)),oD 45 (.bin .rem 44 (cI 8)),oD 46 (.build [.n 0,.n 0] [(0,1,.t 37),(1,1,.t 45)]),oD 8 (.alloc [.n 0,.n 0]),oN (.st 2 8 46)]
def Zf.r6:List Oper:=[oM 9 (.c (.b false))]
def Zf.r7:List Oper:=[oM 10 (cI 0)]
def Zf.r8:List Oper:=[oM 47 10,oM 48 6,oD 49 (.len 48),oD 50 (.bin .lss 47 49)]
def Zf.r10:List Oper:=[oM 53 9,oM 54 53,oF 55 54 (.mv 6),oF 56 54 (.mv 10),oF 57 54 (.ixa 2 55 56),oF 58 54 (.ld true 2 57),oF 59 54 (.ld true 2 8),oF 60 54 (.eq false (.fl [.i,.i]) 58 59),oD 61 (.pick 54 (.c (.b true)) 60),oM 9 61]
def Zf.r9:List Oper:=[oM 51 10,oD 52 (.bin .add 51 (cI 1)),oM 10 52]
def Zf.l0:Code:=.seq (.seq Zf.r8 (.cond 50 (.skip) (.exit 2))) (.seq (.block 3 (.draw Zf.r10 [(5,6)])) Zf.r9)
def Zf.r11:List Oper:=[oM 62 9,oD 63 (.un .not 62)]
def Zf.r12:List Oper:=[oM 64 6,oD 65 (.ld true 2 8),oD 66 (.bsl 2 1 [.n 0,.n 0] [(0,2,.t 65)]),oD 67 (.app 2 16 64 66),oM 6 67]
def Zf.r4:List Oper:=[oM 29 7,oD 30 (.bin .add 29 (cI 1)),oM 7 30]
def Zf.l1:Code:=.seq (.seq Zf.r3 (.cond 28 (.skip) (.exit 0))) (.seq (.block 1 (.seq (.draw Zf.r5 [(1,8),(4,8),(1,11),(4,11),(1,16),(4,16),(8,16),(11,16)]) (.seq Zf.r6 (.seq (.seq Zf.r7 (.block 2 (.loop Zf.l0))) (.seq Zf.r11 (.cond 63 Zf.r12 (.skip))))))) Zf.r4)
def Zf.r13:List Oper:=[oM 68 6,oD 69 (.len 68),oC 70 46 [69],oM 11 70]
def Zf.r14:List Oper:=[oM 12 (cI 0)]
def Zf.r15:List Oper:=[oM 71 12,oM 72 6,oD 73 (.len 72),oD 74 (.bin .lss 71 73)]
def Zf.r17:List Oper:=[oM 13 (.c (.i .u8 3))]
def Zf.r18:List Oper:=[oM 77 12,oD 78 (.fa 1 2),oD 79 (.ld false 1 78),oD 80 (.len 79),oD 81 (.bin .lss 77 80)]
def Zf.r19:List Oper:=[oD 82 (.fa 1 2),oD 83 (.ld false 1 82),oM 84 12,oD 85 (.ixa 1 83 84),oD 86 (.ld false 1 85),oM 13 86]
def Zf.r20:List Oper:=[oM 87 12,oM 14 87]
def Zf.r21:List Oper:=[oM 88 12,oD 89 (.fa 2 2),oD 90 (.ld false 1 89),oD 91 (.len 90),oD 92 (.bin .lss 88 91)]
def Zf.r22:List Oper:=[oD 93 (.fa 2 2),oD 94 (.ld false 1 93),oM 95 12,oD 96 (.ixa 1 94 95),oD 97 (.ld false 1 96),oD 98 (.conv .i64 97),oM 14 98]
def Zf.r23:List Oper:=[oM 99 14,oD 100 (.bin .lss 99 (cI (-2)))]
def Zf.r24:List Oper:=[oM 101 14,oD 102 (.un .neg 101),oM 14 102]
def Zf.r25:List Oper:=[oM 15 (cI 0)]
def Zf.r26:List Oper:=[oM 103 15,oD 104 (.bin .lss 103 (cI 2))]
def Zf.r28:List Oper:=[oM 107 6,oM 108 12,oM 109 15,oC 110 63 [107,108,109],oM 16 110]
def Zf.r29:List Oper:=[oM 111 13,oM 112 15,oD 113 (.bin .shr 111 112),oD 114 (.bin .and 113 (.c (.i .u8 1))),oD 115 (.eq false .sc 114 (.c (.i .u8 0))),oM 116 115,oF 117 116 (.mv 16),oF 118 116 (.bin .lss 117 (cI 0)),oD 119 (.pick 116 (.c (.b true)) 118)]
def Zf.r30:List Oper:=[oM 120 6,oM 121 11,oM 122 12,oM 123 16,oC 124 64 [120,121,122,123],oM 17 124]
def Zf.r31:List Oper:=[oM 125 17,oD 126 (.un .not 125)]
def Zf.r32:List Oper:=[oM 127 11,oM 128 12,oM 129 15,oM 130 16,oM 131 14,oC 132 65 [127,128,129,130,131],oM 11 132]
def Zf.r27:List Oper:=[oM 105 15,oD 106 (.bin .add 105 (cI 1)),oM 15 106]
def Zf.l2:Code:=.seq (.seq Zf.r26 (.cond 104 (.skip) (.exit 6))) (.seq (.block 7 (.seq Zf.r28 (.seq (.seq Zf.r29 (.cond 119 (.exit 7) (.skip))) (.seq Zf.r30 (.seq Zf.r31 (.cond 126 Zf.r32 (.skip))))))) Zf.r27)
def Zf.r16:List Oper:=[oM 75 12,oD 76 (.bin .add 75 (cI 1)),oM 12 76]
def Zf.l3:Code:=.seq (.seq Zf.r15 (.cond 74 (.skip) (.exit 4))) (.seq (.block 5 (.seq Zf.r17 (.seq (.seq Zf.r18 (.cond 81 Zf.r19 (.skip))) (.seq Zf.r20 (.seq (.seq Zf.r21 (.cond 92 (.seq Zf.r22 (.seq Zf.r23 (.cond 100 Zf.r24 (.skip)))) (.skip))) (.seq Zf.r25 (.block 6 (.loop Zf.l2)))))))) Zf.r16)
def Zf.r33:List Oper:=[oM 133 11,oM 134 6,oM 4 133,oM 5 134]
def Zf.code:Code:=.seq Zf.r0 (.seq Zf.r1 (.seq (.seq Zf.r2 (.block 0 (.loop Zf.l1))) (.seq Zf.r13 (.seq (.seq Zf.r14 (.block 4 (.loop Zf.l3))) (.seq Zf.r33 (.ret))))))
def Zf:Func:=⟨135,[.t 4,.t 5],Zf.code⟩
/-! muntin/join.Parts -/
def ZL.r0:List Oper:=[oM 2 (.c (.sn)),oM 3 (cI 0)]
def ZL.r1:List Oper:=[oM 12 0,oC 13 66 [12],oM 4 13]
def ZL.r2:List Oper:=[oM 14 4,oD 15 (.eq true .sc 14 (cI 0))]
def ZL.r3:List Oper:=[oM 16 4,oM 2 (.c (.sn)),oM 3 16]
def ZL.r4:List Oper:=[oM 5 (.c (.sn))]
def ZL.r5:List Oper:=[oM 17 0,oD 18 (.len 17),oD 19 (.mks 1 1 [.b false] 18 18),oM 6 19]
def ZL.r6:List Oper:=[oM 20 0,oD 21 (.len 20),oM 22 (cI 0)]
def ZL.r7:List Oper:=[oD 23 (.bin .lss 22 21)]
def ZL.r8:List Oper:=[oM 24 22,oM 7 24]
def ZL.r9:List Oper:=[oM 25 6,oM 26 7,oD 27 (.ixa 1 25 26),oD 28 (.ld false 1 27)]
def ZL.r10:List Oper:=[oM 30 0,oM 31 7,oC 32 67 [30,31],oM 29 32,oD 33 (.ext 29 0),oD 34 (.ext 29 1),oM 8 33,oM 9 34]
def ZL.r11:List Oper:=[oD 35 (.bsl 1 0 [.n 0] []),oM 10 35]
def ZL.r12:List Oper:=[oM 36 0,oD 37 (.len 36),oM 38 (cI 0)]
def ZL.r13:List Oper:=[oD 39 (.bin .lss 38 37)]
def ZL.r14:List Oper:=[oM 40 38,oM 11 40]
def ZL.r15:List Oper:=[oM 41 11,oM 42 7,oD 43 (.eq false .sc 41 42),oM 44 43,oF 45 44 (.mv 9),oF 46 44 (.mv 11),oF 47 44 (.ixa 1 45 46),oF 48 44 (.ld false 1 47),oF 49 44 (.bin .geq 48 (cI 0)),oD 50 (.pick 44 (.c (.b true)) 49)]
def ZL.r16:List Oper:=[oM 51 6,oM 52 11,oD 53 (.ixa 1 51 52),oN (.st 1 53 (.c (.b true)))]
def ZL.r17:List Oper:=[oM 54 10,oM 55 11,oD 56 (.bsl 1 1 [.n 0] [(0,1,.t 55)]),oD 57 (.app 1 8 54 56),oM 10 57]
def ZL.r18:List Oper:=[oD 58 (.bin .add 38 (cI 1)),oM 38 58]
def ZL.l0:Code:=.seq ZL.r13 (.seq (.cond 39 (.skip) (.exit 2)) (.seq (.block 3 (.seq ZL.r14 (.seq ZL.r15 (.cond 50 (.seq ZL.r16 ZL.r17) (.skip))))) ZL.r18))
def ZL.r19:List Oper:=[oM 59 5,oM 60 10,oD 61 (.bsl 1 1 [.sn] [(0,1,.t 60)]),oD 62 (.app 1 24 59 61),oM 5 62]
def ZL.r20:List Oper:=[oD 63 (.bin .add 22 (cI 1)),oM 22 63]
def ZL.l1:Code:=.seq ZL.r7 (.seq (.cond 23 (.skip) (.exit 0)) (.seq (.block 1 (.seq ZL.r8 (.seq (.seq ZL.r9 (.cond 28 (.exit 1) (.skip))) (.seq ZL.r10 (.seq ZL.r11 (.seq (.seq ZL.r12 (.block 2 (.loop ZL.l0))) ZL.r19)))))) ZL.r20))
def ZL.r21:List Oper:=[oM 64 5,oM 2 64,oM 3 (cI 0)]
def ZL.code:Code:=.seq ZL.r0 (.seq (.seq ZL.r1 (.seq ZL.r2 (.cond 15 (.seq ZL.r3 (.ret)) (.skip)))) (.seq ZL.r4 (.seq ZL.r5 (.seq (.seq ZL.r6 (.block 0 (.loop ZL.l1))) (.seq ZL.r21 (.ret))))))
def ZL:Func:=⟨65,[.t 2,.t 3],ZL.code⟩
/-! muntin/join.Whole -/
def Zcf.r0:List Oper:=[oM 2 (.c (.b false))]
def Zcf.r1:List Oper:=[oM 6 0,oC 7 29 [6],oM 5 7,oD 8 (.ext 5 0),oD 9 (.ext 5 1),oM 3 8,oM 4 9]
def Zcf.r2:List Oper:=[oM 10 4,oD 11 (.eq false .sc 10 (cI 0)),oM 12 11,oT 13 12 (.mv 3),oT 14 12 (.len 13),oT 15 12 (.eq false .sc 14 (cI 1)),oD 16 (.pick 12 15 (.c (.b false))),oM 2 16]
def Zcf.code:Code:=.seq Zcf.r0 (.seq Zcf.r1 (.seq Zcf.r2 (.ret)))
def Zcf:Func:=⟨17,[.t 2],Zcf.code⟩
/-! muntin/muntinref10.New -/
def ze.r0:List Oper:=[oM 2 (.c (.sn))]
def ze.r1:List Oper:=[oM 6 0,oD 7 (.mks 8 64 [.n 0,.n 0,.n 0,.n 0,.n 0,.n 0,.n 0,.n 0] 6 6),oM 3 7]
def ze.r2:List Oper:=[oM 4 (cI 0)]
def ze.r3:List Oper:=[oM 8 4,oM 9 0,oD 10 (.bin .lss 8 9)]
def ze.r5:List Oper:=[oM 5 (cI 0)]
def ze.r6:List Oper:=[oM 13 5,oD 14 (.bin .lss 13 (cI 4))]
def ze.r8:List Oper:=[oM 17 3,oM 18 4,oM 19 5,oD 20 (.ixa 8 17 18),oD 21 (.fa 0 20),oD 22 (.ixaa 1 4 21 19),oN (.st 1 22 (cI (-1)))]
def ze.r7:List Oper:=[oM 15 5,oD 16 (.bin .add 15 (cI 1)),oM 5 16]
def ze.l0:Code:=.seq (.seq ze.r6 (.cond 14 (.skip) (.exit 2))) (.seq (.block 3 ze.r8) ze.r7)
def ze.r4:List Oper:=[oM 11 4,oD 12 (.bin .add 11 (cI 1)),oM 4 12]
def ze.l1:Code:=.seq (.seq ze.r3 (.cond 10 (.skip) (.exit 0))) (.seq (.block 1 (.seq ze.r5 (.block 2 (.loop ze.l0)))) ze.r4)
def ze.r9:List Oper:=[oM 23 3,oM 2 23]
def ze.code:Code:=.seq ze.r0 (.seq ze.r1 (.seq (.seq ze.r2 (.block 0 (.loop ze.l1))) (.seq ze.r9 (.ret))))
def ze:Func:=⟨24,[.t 2],ze.code⟩
/-! muntin/muntinref10.Join -/
def zM.r0:List Oper:=[oM 10 (.c (.sn)),oM 11 (cI 0)]
def zM.r1:List Oper:=[oM 13 1,oD 14 (.bin .lss 13 (cI 0)),oM 15 14,oF 16 15 (.mv 1),oF 17 15 (.mv 0),oF 18 15 (.len 17),oF 19 15 (.bin .geq 16 18),oD 20 (.pick 15 (.c (.b true)) 19),oM 21 20,oF 22 21 (.mv 3),oF 23 21 (.bin .lss 22 (cI 0)),oD 24 (.pick 21 (.c (.b true)) 23),oM 25 24,oF 26 25 (.mv 3),oF 27 25 (.mv 0),oF 28 25 (.len 27),oF 29 25 (.bin .geq 26 28),oD 30 (.pick 25 (.c (.b true)) 29),oM 31 30,oF 32 31 (.mv 1),oF 33 31 (.mv 3),oF 34 31 (.eq false .sc 32 33),oD 35 (.pick 31 (.c (.b true)) 34),oM 36 35,oF 37 36 (.mv 2),oF 38 36 (.bin .lss 37 (cI 0)),oD 39 (.pick 36 (.c (.b true)) 38),oM 40 39,oF 41 40 (.mv 2),oF 42 40 (.bin .gtr 41 (cI 3)),oD 43 (.pick 40 (.c (.b true)) 42),oM 44 43,oF 45 44 (.mv 4),oF 46 44 (.bin .lss 45 (cI (-2))),oD 47 (.pick 44 (.c (.b true)) 46)]
def zM.r2:List Oper:=[oM 48 0,oM 10 48,oM 11 (cI 2)]
def zM.r3:List Oper:=[oM 49 0,oM 50 1,oM 51 2,oD 52 (.ixa 8 49 50),oD 53 (.fa 0 52),oD 54 (.ixaa 1 4 53 51),oD 55 (.ld false 1 54),oD 56 (.eq true .sc 55 (cI (-1))),oM 57 56,oF 58 57 (.mv 0),oF 59 57 (.mv 3),oF 60 57 (.mv 2),oF 61 57 (.bin .add 60 (cI 2)),oF 62 57 (.bin .rem 61 (cI 4)),oF 63 57 (.ixa 8 58 59),oF 64 57 (.fa 0 63),oF 65 57 (.ixaa 1 4 64 62),oF 66 57 (.ld false 1 65),oF 67 57 (.eq true .sc 66 (cI (-1))),oD 68 (.pick 57 (.c (.b true)) 67)]
def zM.r4:List Oper:=[oM 69 0,oM 10 69,oM 11 (cI 9)]
def zM.r5:List Oper:=[oM 70 0,oM 71 1,oM 72 2,oM 73 3,oM 74 4,oC 75 65 [70,71,72,73,74],oM 12 75]
def zM.r6:List Oper:=[oM 76 12,oM 10 76,oM 11 (cI 0)]
def zM.code:Code:=.seq zM.r0 (.seq (.seq zM.r1 (.cond 47 (.seq zM.r2 (.ret)) (.skip))) (.seq (.seq zM.r3 (.cond 68 (.seq zM.r4 (.ret)) (.skip))) (.seq zM.r5 (.seq zM.r6 (.ret)))))
def zM:Func:=⟨77,[.t 10,.t 11],zM.code⟩
/-! muntin/muntinref10.Nearest -/
def ZM.r0:List Oper:=[oM 6 (cI 0)]
def ZM.r1:List Oper:=[oM 7 (cI (-1))]
def ZM.r2:List Oper:=[oM 8 (cI 0)]
def ZM.r3:List Oper:=[oM 9 8,oM 10 0,oD 11 (.len 10),oD 12 (.bin .lss 9 11)]
def ZM.r5:List Oper:=[oM 15 2,oD 16 (.eq false .sc 15 (cI 0)),oM 17 16,oT 18 17 (.mv 0),oT 19 17 (.mv 8),oT 20 17 (.ixa 2 18 19),oT 21 17 (.fa 1 20),oT 22 17 (.ld false 1 21),oT 23 17 (.mv 0),oT 24 17 (.mv 1),oT 25 17 (.ixa 2 23 24),oT 26 17 (.fa 1 25),oT 27 17 (.ld false 1 26),oT 28 17 (.eq false .sc 22 27),oD 29 (.pick 17 28 (.c (.b false))),oM 30 29,oT 31 30 (.mv 0),oT 32 30 (.mv 8),oT 33 30 (.ixa 2 31 32),oT 34 30 (.fa 0 33),oT 35 30 (.ld false 1 34),oT 36 30 (.mv 0),oT 37 30 (.mv 1),oT 38 30 (.ixa 2 36 37),oT 39 30 (.fa 0 38),oT 40 30 (.ld false 1 39),oT 41 30 (.bin .gtr 35 40),oD 42 (.pick 30 41 (.c (.b false))),oM 43 42,oT 44 43 (.mv 7),oT 45 43 (.bin .lss 44 (cI 0)),oT 46 43 (.mv 45),oF 47 46 (.mv 0),oF 48 46 (.mv 8),oF 49 46 (.ixa 2 47 48),oF 50 46 (.fa 0 49),oF 51 46 (.ld false 1 50),oF 52 46 (.mv 0),oF 53 46 (.mv 7),oF 54 46 (.ixa 2 52 53),oF 55 46 (.fa 0 54),oF 56 46 (.ld false 1 55),oF 57 46 (.bin .lss 51 56),oT 58 43 (.pick 46 (.c (.b true)) 57),oD 59 (.pick 43 58 (.c (.b false)))]
def ZM.r6:List Oper:=[oM 60 8,oM 7 60]
def ZM.r7:List Oper:=[oM 61 2,oD 62 (.eq false .sc 61 (cI 1)),oM 63 62,oT 64 63 (.mv 0),oT 65 63 (.mv 8),oT 66 63 (.ixa 2 64 65),oT 67 63 (.fa 0 66),oT 68 63 (.ld false 1 67),oT 69 63 (.mv 0),oT 70 63 (.mv 1),oT 71 63 (.ixa 2 69 70),oT 72 63 (.fa 0 71),oT 73 63 (.ld false 1 72),oT 74 63 (.eq false .sc 68 73),oD 75 (.pick 63 74 (.c (.b false))),oM 76 75,oT 77 76 (.mv 0),oT 78 76 (.mv 8),oT 79 76 (.ixa 2 77 78),oT 80 76 (.fa 1 79),oT 81 76 (.ld false 1 80),oT 82 76 (.mv 0),oT 83 76 (.mv 1),oT 84 76 (.ixa 2 82 83),oT 85 76 (.fa 1 84),oT 86 76 (.ld false 1 85),oT 87 76 (.bin .gtr 81 86),oD 88 (.pick 76 87 (.c (.b false))),oM 89 88,oT 90 89 (.mv 7),oT 91 89 (.bin .lss 90 (cI 0)),oT 92 89 (.mv 91),oF 93 92 (.mv 0),oF 94 92 (.mv 8),oF 95 92 (.ixa 2 93 94),oF 96 92 (.fa 1 95),oF 97 92 (.ld false 1 96),oF 98 92 (.mv 0),oF 99 92 (.mv 7),oF 100 92 (.ixa 2 98 99),oF 101 92 (.fa 1 100),oF 102 92 (.ld false 1 101),oF 103 92 (.bin .lss 97 102),oT 104 89 (.pick 92 (.c (.b true)) 103),oD 105 (.pick 89 104 (.c (.b false)))]
def ZM.r8:List Oper:=[oM 106 8,oM 7 106]
def ZM.r4:List Oper:=[oM 13 8,oD 14 (.bin .add 13 (cI 1)),oM 8 14]
def ZM.l0:Code:=.seq (.seq ZM.r3 (.cond 12 (.skip) (.exit 0))) (.seq (.block 1 (.seq (.seq (.draw ZM.r5 [(7,12),(20,25),(36,41)]) (.cond 59 ZM.r6 (.skip))) (.seq (.draw ZM.r7 [(7,12),(20,25),(36,41)]) (.cond 105 ZM.r8 (.skip))))) ZM.r4)
def ZM.r9:List Oper:=[oM 107 7,oM 6 107]
def ZM.code:Code:=.seq ZM.r0 (.seq ZM.r1 (.seq (.seq ZM.r2 (.block 0 (.loop ZM.l0))) (.seq ZM.r9 (.ret))))
def ZM:Func:=⟨108,[.t 6],ZM.code⟩
/-! muntin/muntinref10.Crossed -/
def Zs.r0:List Oper:=[oM 8 (.c (.b false))]
def Zs.r1:List Oper:=[oM 9 (cI 0)]
def Zs.r2:List Oper:=[oM 14 9,oM 15 1,oD 16 (.len 15),oD 17 (.bin .lss 14 16)]
def Zs.r4:List Oper:=[oM 10 (cI 0)]
def Zs.r5:List Oper:=[oM 20 10,oD 21 (.bin .lss 20 (cI 2))]
def Zs.r7:List Oper:=[oM 24 1,oM 25 9,oM 26 10,oD 27 (.ixa 8 24 25),oD 28 (.fa 0 27),oD 29 (.ixaa 1 4 28 26),oD 30 (.ld false 1 29),oM 11 30]
def Zs.r8:List Oper:=[oM 31 11,oD 32 (.bin .lss 31 (cI 0))]
def Zs.r9:List Oper:=[oM 33 0,oM 34 9,oD 35 (.ixa 2 33 34),oD 36 (.ld true 2 35),oD 12 (.alloc [.n 0,.n 0]),oN (.st 2 12 36)]
def Zs.r10:List Oper:=[oM 37 0,oM 38 11,oD 39 (.ixa 2 37 38),oD 40 (.ld true 2 39),oD 13 (.alloc [.n 0,.n 0]),oN (.st 2 13 40)]
def Zs.r11:List Oper:=[oD 41 (.fa 1 12),oD 42 (.ld false 1 41),oD 43 (.fa 1 13),oD 44 (.ld false 1 43),oD 45 (.eq false .sc 42 44),oM 46 45,oT 47 46 (.mv 0),oT 48 46 (.mv 2),oT 49 46 (.ixa 2 47 48),oT 50 46 (.fa 0 49),oT 51 46 (.ld false 1 50),oT 52 46 (.mv 0),oT 53 46 (.mv 3),oT 54 46 (.ixa 2 52 53),oT 55 46 (.fa 0 54),oT 56 46 (.ld false 1 55),oT 57 46 (.eq false .sc 51 56),oD 58 (.pick 46 57 (.c (.b false))),oM 59 58,oT 60 59 (.fa 0 12),oT 61 59 (.ld false 1 60),oT 62 59 (.mv 0),oT 63 59 (.mv 2),oT 64 59 (.ixa 2 62 63),oT 65 59 (.fa 0 64),oT 66 59 (.ld false 1 65),oT 67 59 (.bin .lss 61 66),oD 68 (.pick 59 67 (.c (.b false))),oM 69 68,oT 70 69 (.mv 0),oT 71 69 (.mv 2),oT 72 69 (.ixa 2 70 71),oT 73 69 (.fa 0 72),oT 74 69 (.ld false 1 73),oT 75 69 (.fa 0 13),oT 76 69 (.ld false 1 75),oT 77 69 (.bin .lss 74 76),oD 78 (.pick 69 77 (.c (.b false))),oM 79 78,oT 80 79 (.mv 0),oT 81 79 (.mv 2),oT 82 79 (.ixa 2 80 81),oT 83 79 (.fa 1 82),oT 84 79 (.ld false 1 83),oT 85 79 (.fa 1 12),oT 86 79 (.ld false 1 85),oT 87 79 (.bin .lss 84 86),oD 88 (.pick 79 87 (.c (.b false))),oM 89 88,oT 90 89 (.fa 1 12),oT 91 89 (.ld false 1 90),oT 92 89 (.mv 0),oT 93 89 (.mv 3),oT 94 89 (.ixa 2 92 93),oT 95 89 (.fa 1 94),oT 96 89 (.ld false 1 95),oT 97 89 (.bin .lss 91 96),oD 98 (.pick 89 97 (.c (.b false)))]
def Zs.r12:List Oper:=[oM 8 (.c (.b true))]
def Zs.r13:List Oper:=[oD 99 (.fa 0 12),oD 100 (.ld false 1 99),oD 101 (.fa 0 13),oD 102 (.ld false 1 101),oD 103 (.eq false .sc 100 102),oM 104 103,oT 105 104 (.mv 0),oT 106 104 (.mv 2),oT 107 104 (.ixa 2 105 106),oT 108 104 (.fa 1 107),oT 109 104 (.ld false 1 108),oT 110 104 (.mv 0),oT 111 104 (.mv 3),oT 112 104 (.ixa 2 110 111),oT 113 104 (.fa 1 112),oT 114 104 (.ld false 1 113),oT 115 104 (.eq false .sc 109 114),oD 116 (.pick 104 115 (.c (.b false))),oM 117 116,oT 118 117 (.mv 0),oT 119 117 (.mv 2),oT 120 117 (.ixa 2 118 119),oT 121 117 (.fa 0 120),oT 122 117 (.ld false 1 121),oT 123 117 (.fa 0 12),oT 124 117 (.ld false 1 123),oT 125 117 (.bin .lss 122 124),oD 126 (.pick 117 125 (.c (.b false))),oM 127 126,oT 128 127 (.fa 0 12),oT 129 127 (.ld false 1 128),oT 130 127 (.mv 0),oT 131 127 (.mv 3),oT 132 127 (.ixa 2 130 131),oT 133 127 (.fa 0 132),oT 134 127 (.ld false 1 133),oT 135 127 (.bin .lss 129 134),oD 136 (.pick 127 135 (.c (.b false))),oM 137 136,oT 138 137 (.fa 1 12),oT 139 137 (.ld false 1 138),oT 140 137 (.mv 0),oT 141 137 (.mv 2),oT 142 137 (.ixa 2 140 141),oT 143 137 (.fa 1 142),oT 144 137 (.ld false 1 143),oT 145 137 (.bin .lss 139 144),oD 146 (.pick 137 145 (.c (.b false))),oM 147 146,oT 148 147 (.mv 0),oT 149 147 (.mv 2),oT 150 147 (.ixa 2 148 149),oT 151 147 (.fa 1 150),oT 152 147 (.ld false 1 151),oT 153 147 (.fa 1 13),oT 154 147 (.ld false 1 153),oT 155 147 (.bin .lss 152 154),oD 156 (.pick 147 155 (.c (.b false)))]
def Zs.r14:List Oper:=[oM 8 (.c (.b true))]
def Zs.r6:List Oper:=[oM 22 10,oD 23 (.bin .add 22 (cI 1)),oM 10 23]
def Zs.l0:Code:=.seq (.seq Zs.r5 (.cond 21 (.skip) (.exit 2))) (.seq (.block 3 (.seq Zs.r7 (.seq (.seq Zs.r8 (.cond 32 (.exit 3) (.skip))) (.seq Zs.r9 (.seq Zs.r10 (.seq (.seq (.draw Zs.r11 [(1,3),(10,15),(20,25),(33,35),(43,45),(50,55)]) (.cond 98 (.seq Zs.r12 (.ret)) (.skip))) (.seq (.draw Zs.r13 [(1,3),(10,15),(23,25),(30,35),(40,45),(53,55)]) (.cond 156 (.seq Zs.r14 (.ret)) (.skip))))))))) Zs.r6)
def Zs.r3:List Oper:=[oM 18 9,oD 19 (.bin .add 18 (cI 1)),oM 9 19]
def Zs.l1:Code:=.seq (.seq Zs.r2 (.cond 17 (.skip) (.exit 0))) (.seq (.block 1 (.seq Zs.r4 (.block 2 (.loop Zs.l0)))) Zs.r3)
def Zs.r15:List Oper:=[oM 8 (.c (.b false))]
def Zs.code:Code:=.seq Zs.r0 (.seq (.seq Zs.r1 (.block 0 (.loop Zs.l1))) (.seq Zs.r15 (.ret)))
def Zs:Func:=⟨157,[.t 8],Zs.code⟩
/-! muntin/muntinref10.with -/
def ZF.r0:List Oper:=[oM 10 (.c (.sn))]
def ZF.r1:List Oper:=[oM 11 (.c (.sn))]
def ZF.r2:List Oper:=[oM 12 (cI 0)]
def ZF.r3:List Oper:=[oM 14 12,oM 15 0,oD 16 (.len 15),oD 17 (.bin .lss 14 16)]
def ZF.r5:List Oper:=[oM 20 0,oM 21 12,oD 22 (.ixa 8 20 21),oD 23 (.ld true 8 22),oD 13 (.alloc [.n 0,.n 0,.n 0,.n 0,.n 0,.n 0,.n 0,.n 0]),oN (.st 8 13 23)]
def ZF.r6:List Oper:=[oM 24 12,oM 25 1,oD 26 (.eq false .sc 24 25)]
def ZF.r7:List Oper:=[oM 27 2,oM 28 3,oD 29 (.fa 0 13),oD 30 (.ixaa 1 4 29 27),oN (.st 1 30 28)]
def ZF.r8:List Oper:=[oM 31 2,oM 32 4,oD 33 (.fa 4 13),oD 34 (.ixaa 1 4 33 31),oN (.st 1 34 32)]
def ZF.r9:List Oper:=[oM 35 12,oM 36 3,oD 37 (.eq false .sc 35 36)]
def ZF.r10:List Oper:=[oM 38 2,oD 39 (.bin .add 38 (cI 2)),oD 40 (.bin .rem 39 (cI 4)),oM 41 1,oD 42 (.fa 0 13),oD 43 (.ixaa 1 4 42 40),oN (.st 1 43 41)]
def ZF.r11:List Oper:=[oM 44 2,oD 45 (.bin .add 44 (cI 2)),oD 46 (.bin .rem 45 (cI 4)),oM 47 4,oD 48 (.fa 4 13),oD 49 (.ixaa 1 4 48 46),oN (.st 1 49 47)]
def ZF.r12:List Oper:=[oM 50 11,oD 51 (.ld true 8 13),oD 52 (.bsl 8 1 [.n 0,.n 0,.n 0,.n 0,.n 0,.n 0,.n 0,.n 0] [(0,8,.t 51)]),oD 53 (.app 8 64 50 52),oM 11 53]
def ZF.r4:List Oper:=[oM 18 12,oD 19 (.bin .add 18 (cI 1)),oM 12 19]
def ZF.l0:Code:=.seq (.seq ZF.r3 (.cond 17 (.skip) (.exit 0))) (.seq (.block 1 (.seq ZF.r5 (.seq (.seq ZF.r6 (.cond 26 (.seq ZF.r7 ZF.r8) (.skip))) (.seq (.seq ZF.r9 (.cond 37 (.seq ZF.r10 ZF.r11) (.skip))) ZF.r12)))) ZF.r4)
def ZF.r13:List Oper:=[oM 54 11,oM 10 54]
def ZF.code:Code:=.seq ZF.r0 (.seq ZF.r1 (.seq (.seq ZF.r2 (.block 0 (.loop ZF.l0))) (.seq ZF.r13 (.ret))))
def ZF:Func:=⟨55,[.t 10],ZF.code⟩
/-! muntin/grid.Check -/
def zo.r0:List Oper:=[oM 2 (cI 0)]
def zo.r1:List Oper:=[oM 6 0,oD 7 (.len 6),oD 8 (.bin .gtr 7 (cI 4096))]
def zo.r2:List Oper:=[oM 2 (cI 6)]
def zo.r3:List Oper:=[oM 9 0,oD 10 (.len 9),oM 11 (cI 0)]
def zo.r4:List Oper:=[oD 12 (.bin .lss 11 10)]
def zo.r5:List Oper:=[oM 13 11,oM 3 13]
def zo.r6:List Oper:=[oM 14 (cI 0)]
def zo.r7:List Oper:=[oD 15 (.bin .lss 14 (cI 4))]
def zo.r8:List Oper:=[oM 16 14,oM 4 16]
def zo.r9:List Oper:=[oM 17 0,oM 18 3,oM 19 4,oC 20 82 [17,18,19],oM 5 20]
def zo.r10:List Oper:=[oM 21 5,oD 22 (.eq true .sc 21 (cI 0))]
def zo.r11:List Oper:=[oM 23 5,oM 2 23]
def zo.r12:List Oper:=[oD 24 (.bin .add 14 (cI 1)),oM 14 24]
def zo.l0:Code:=.seq zo.r7 (.seq (.cond 15 (.skip) (.exit 2)) (.seq (.block 3 (.seq zo.r8 (.seq zo.r9 (.seq zo.r10 (.cond 22 (.seq zo.r11 (.ret)) (.skip)))))) zo.r12))
def zo.r13:List Oper:=[oD 25 (.bin .add 11 (cI 1)),oM 11 25]
def zo.l1:Code:=.seq zo.r4 (.seq (.cond 12 (.skip) (.exit 0)) (.seq (.block 1 (.seq zo.r5 (.seq zo.r6 (.block 2 (.loop zo.l0))))) zo.r13))
def zo.r14:List Oper:=[oM 2 (cI 0)]
def zo.code:Code:=.seq zo.r0 (.seq (.seq zo.r1 (.cond 8 (.seq zo.r2 (.ret)) (.skip))) (.seq (.seq zo.r3 (.block 0 (.loop zo.l1))) (.seq zo.r14 (.ret))))
def zo:Func:=⟨26,[.t 2],zo.code⟩
/-! muntin/join.spread -/
def ZV.r0:List Oper:=[oM 4 (.c (.sn)),oM 5 (.c (.sn))]
def ZV.r1:List Oper:=[oD 13 (.bsl 1 1 [.n 0] [(0,1,.c (.n (-1)))]),oM 14 0,oD 15 (.len 14),oC 16 83 [13,15],oD 17 (.bsl 1 1 [.n 0] [(0,1,.c (.n (-1)))]),oM 18 0,oD 19 (.len 18),oC 20 83 [17,19],oM 6 16,oM 7 20]
def ZV.r2:List Oper:=[oM 21 1,oD 22 (.bsl 1 1 [.n 0] [(0,1,.t 21)]),oM 8 22]
def ZV.r3:List Oper:=[oM 23 0,oD 24 (.len 23),oD 25 (.mks 1 1 [.b false] 24 24),oM 9 25]
def ZV.r4:List Oper:=[oM 26 9,oM 27 1,oD 28 (.ixa 1 26 27),oN (.st 1 28 (.c (.b true)))]
def ZV.r5:List Oper:=[oM 29 8,oD 30 (.len 29),oD 31 (.bin .gtr 30 (cI 0))]
def ZV.r6:List Oper:=[oM 32 8,oD 33 (.ixa 1 32 (cI 0)),oD 34 (.ld false 1 33),oM 10 34]
def ZV.r7:List Oper:=[oM 35 8,oD 36 (.slc 1 35 (some (cI 1)) none none),oM 8 36]
def ZV.r8:List Oper:=[oM 37 (cI 0)]
def ZV.r9:List Oper:=[oD 38 (.bin .lss 37 (cI 4))]
def ZV.r10:List Oper:=[oM 39 37,oM 11 39]
def ZV.r11:List Oper:=[oM 40 0,oM 41 10,oM 42 11,oD 43 (.ixa 8 40 41),oD 44 (.fa 0 43),oD 45 (.ixaa 1 4 44 42),oD 46 (.ld false 1 45),oM 12 46]
def ZV.r12:List Oper:=[oM 47 12,oD 48 (.bin .geq 47 (cI 0)),oM 49 48,oT 50 49 (.mv 9),oT 51 49 (.mv 12),oT 52 49 (.ixa 1 50 51),oT 53 49 (.ld false 1 52),oT 54 49 (.un .not 53),oD 55 (.pick 49 54 (.c (.b false)))]
def ZV.r13:List Oper:=[oM 56 9,oM 57 12,oM 58 6,oM 59 12,oM 60 7,oM 61 12,oM 62 10,oM 63 11,oD 64 (.ixa 1 56 57),oN (.st 1 64 (.c (.b true))),oD 65 (.ixa 1 58 59),oN (.st 1 65 62),oD 66 (.ixa 1 60 61),oN (.st 1 66 63)]
def ZV.r14:List Oper:=[oM 67 8,oM 68 12,oD 69 (.bsl 1 1 [.n 0] [(0,1,.t 68)]),oD 70 (.app 1 8 67 69),oM 8 70]
def ZV.r15:List Oper:=[oD 71 (.bin .add 37 (cI 1)),oM 37 71]
def ZV.l0:Code:=.seq ZV.r9 (.seq (.cond 38 (.skip) (.exit 2)) (.seq (.block 3 (.seq ZV.r10 (.seq ZV.r11 (.seq ZV.r12 (.cond 55 (.seq ZV.r13 ZV.r14) (.skip)))))) ZV.r15))
def ZV.l1:Code:=.seq (.seq ZV.r5 (.cond 31 (.skip) (.exit 0))) (.block 1 (.seq ZV.r6 (.seq ZV.r7 (.seq ZV.r8 (.block 2 (.loop ZV.l0))))))
def ZV.r16:List Oper:=[oM 72 6,oM 73 7,oM 4 72,oM 5 73]
def ZV.code:Code:=.seq ZV.r0 (.seq ZV.r1 (.seq ZV.r2 (.seq ZV.r3 (.seq ZV.r4 (.seq (.block 0 (.loop ZV.l1)) (.seq ZV.r16 (.ret)))))))
def ZV:Func:=⟨74,[.t 4,.t 5],ZV.code⟩
/-! muntin/compass.Left -/
def Zbp.r0:List Oper:=[oM 4 (cI 0)]
def Zbp.r1:List Oper:=[oM 5 0,oC 6 90 [5],oD 7 (.un .not 6)]
def Zbp.r2:List Oper:=[oM 4 (cI 0)]
def Zbp.r3:List Oper:=[oM 8 0,oM 9 1,oD 10 (.bin .rem 9 (cI 4)),oD 11 (.bin .add 8 10),oD 12 (.bin .add 11 (cI 4)),oD 13 (.bin .rem 12 (cI 4)),oM 4 13]
def Zbp.code:Code:=.seq Zbp.r0 (.seq (.seq Zbp.r1 (.cond 7 (.seq Zbp.r2 (.ret)) (.skip))) (.seq Zbp.r3 (.ret)))
def Zbp:Func:=⟨14,[.t 4],Zbp.code⟩
/-! slices.ContainsFunc[[]int,int] -/
def ZaC.r0:List Oper:=[oM 4 (.c (.b false))]
def ZaC.r1:List Oper:=[oM 5 0,oM 6 1,oC 7 91 [5,6],oD 8 (.bin .geq 7 (cI 0)),oM 4 8]
def ZaC.code:Code:=.seq ZaC.r0 (.seq ZaC.r1 (.ret))
def ZaC:Func:=⟨9,[.t 4],ZaC.code⟩
/-! muntin/grid.side -/
def Zak.r0:List Oper:=[oM 6 (cI 0)]
def Zak.r1:List Oper:=[oM 10 0,oM 11 1,oM 12 2,oD 13 (.ixa 8 10 11),oD 14 (.fa 0 13),oD 15 (.ixaa 1 4 14 12),oD 16 (.ld false 1 15),oM 17 0,oM 18 1,oM 19 2,oD 20 (.ixa 8 17 18),oD 21 (.fa 4 20),oD 22 (.ixaa 1 4 21 19),oD 23 (.ld false 1 22),oM 7 16,oM 8 23]
def Zak.r2:List Oper:=[oM 24 7,oD 25 (.eq false .sc 24 (cI (-1)))]
def Zak.r3:List Oper:=[oM 26 8,oD 27 (.eq true .sc 26 (cI 0))]
def Zak.r4:List Oper:=[oM 6 (cI 9)]
def Zak.r5:List Oper:=[oM 6 (cI 0)]
def Zak.r6:List Oper:=[oM 28 7,oD 29 (.bin .lss 28 (cI 0)),oM 30 29,oF 31 30 (.mv 7),oF 32 30 (.mv 0),oF 33 30 (.len 32),oF 34 30 (.bin .geq 31 33),oD 35 (.pick 30 (.c (.b true)) 34),oM 36 35,oF 37 36 (.mv 7),oF 38 36 (.mv 1),oF 39 36 (.eq false .sc 37 38),oD 40 (.pick 36 (.c (.b true)) 39)]
def Zak.r7:List Oper:=[oM 6 (cI 3)]
def Zak.r8:List Oper:=[oM 41 2,oC 42 77 [41,.c (.n 2)],oM 9 42]
def Zak.r9:List Oper:=[oM 43 0,oM 44 7,oM 45 9,oD 46 (.ixa 8 43 44),oD 47 (.fa 0 46),oD 48 (.ixaa 1 4 47 45),oD 49 (.ld false 1 48),oM 50 1,oD 51 (.eq true .sc 49 50),oM 52 51,oF 53 52 (.mv 0),oF 54 52 (.mv 7),oF 55 52 (.mv 9),oF 56 52 (.ixa 8 53 54),oF 57 52 (.fa 4 56),oF 58 52 (.ixaa 1 4 57 55),oF 59 52 (.ld false 1 58),oF 60 52 (.mv 8),oF 61 52 (.eq true .sc 59 60),oD 62 (.pick 52 (.c (.b true)) 61),oM 63 62,oF 64 63 (.mv 8),oF 65 63 (.bin .lss 64 (cI (-2))),oD 66 (.pick 63 (.c (.b true)) 65)]
def Zak.r10:List Oper:=[oM 6 (cI 9)]
def Zak.r11:List Oper:=[oM 6 (cI 0)]
def Zak.code:Code:=.seq Zak.r0 (.seq (.draw Zak.r1 [(6,13)]) (.seq (.seq Zak.r2 (.cond 25 (.seq (.seq Zak.r3 (.cond 27 (.seq Zak.r4 (.ret)) (.skip))) (.seq Zak.r5 (.ret))) (.skip))) (.seq (.seq Zak.r6 (.cond 40 (.seq Zak.r7 (.ret)) (.skip))) (.seq Zak.r8 (.seq (.seq Zak.r9 (.cond 66 (.seq Zak.r10 (.ret)) (.skip))) (.seq Zak.r11 (.ret)))))))
def Zak:Func:=⟨67,[.t 6],Zak.code⟩
/-! slices.Repeat[[]int,int] -/
def ZS.r0:List Oper:=[oM 4 (.c (.sn))]
def ZS.r1:List Oper:=[oM 9 1,oD 10 (.bin .lss 9 (cI 0))]
def ZS.r2:List Oper:=[oD 11 (.bad),oN (.bad)]
def ZS.r3:List Oper:=[oM 13 0,oD 14 (.len 13),oD 15 (.conv .u64 14),oM 16 1,oD 17 (.conv .u64 16),oC 18 89 [15,17],oM 12 18,oD 19 (.ext 12 0),oD 20 (.ext 12 1),oM 5 19,oM 6 20]
def ZS.r4:List Oper:=[oM 21 5,oD 22 (.bin .gtr 21 (.c (.i .u64 0))),oM 23 22,oF 24 23 (.mv 6),oF 25 23 (.bin .gtr 24 (.c (.i .u64 9223372036854775807))),oD 26 (.pick 23 (.c (.b true)) 25)]
def ZS.r5:List Oper:=[oD 27 (.bad),oN (.bad)]
def ZS.r6:List Oper:=[oM 28 6,oD 29 (.conv .i64 28),oD 30 (.mks 1 8 [.n 0] 29 29),oM 7 30]
def ZS.r7:List Oper:=[oM 31 7,oM 32 0,oD 33 (.cpy 1 31 32),oM 8 33]
def ZS.r8:List Oper:=[oM 34 8,oM 35 7,oD 36 (.len 35),oD 37 (.bin .lss 34 36)]
def ZS.r9:List Oper:=[oM 38 8,oM 39 7,oM 40 8,oD 41 (.slc 1 39 (some 40) none none),oM 42 7,oM 43 8,oD 44 (.slc 1 42 none (some 43) none),oD 45 (.cpy 1 41 44),oD 46 (.bin .add 38 45),oM 8 46]
def ZS.l0:Code:=.seq (.seq ZS.r8 (.cond 37 (.skip) (.exit 0))) (.block 1 (.draw ZS.r9 []))
def ZS.r10:List Oper:=[oM 47 7,oM 4 47]
def ZS.code:Code:=.seq ZS.r0 (.seq (.seq ZS.r1 (.cond 10 ZS.r2 (.skip))) (.seq ZS.r3 (.seq (.seq ZS.r4 (.cond 26 ZS.r5 (.skip))) (.seq ZS.r6 (.seq ZS.r7 (.seq (.block 0 (.loop ZS.l0)) (.seq ZS.r10 (.ret))))))))
def ZS:Func:=⟨48,[.t 4],ZS.code⟩
/-! math/bits.Mul -/
def ZbX.r0:List Oper:=[oM 4 (.c (.i .u64 0)),oM 5 (.c (.i .u64 0))]
def ZbX.r1:List Oper:=[oM 11 0,oD 12 (.conv .u32 11),oM 13 1,oD 14 (.conv .u32 13),oC 15 97 [12,14],oM 10 15,oD 16 (.ext 10 0),oD 17 (.ext 10 1),oM 6 16,oM 7 17]
def ZbX.r2:List Oper:=[oM 18 6,oD 19 (.conv .u64 18),oM 20 7,oD 21 (.conv .u64 20),oM 4 19,oM 5 21]
def ZbX.r3:List Oper:=[oM 23 0,oM 24 1,oC 25 98 [23,24],oM 22 25,oD 26 (.ext 22 0),oD 27 (.ext 22 1),oM 8 26,oM 9 27]
def ZbX.r4:List Oper:=[oM 28 8,oM 29 9,oM 4 28,oM 5 29]
def ZbX.code:Code:=.seq ZbX.r0 (.seq (.cond (.c (.b false)) (.seq ZbX.r1 (.seq ZbX.r2 (.ret))) (.skip)) (.seq ZbX.r3 (.seq ZbX.r4 (.ret))))
def ZbX:Func:=⟨30,[.t 4,.t 5],ZbX.code⟩
/-! muntin/compass.Good -/
def Zcd.r0:List Oper:=[oM 2 (.c (.b false))]
def Zcd.r1:List Oper:=[oM 3 0,oD 4 (.bin .geq 3 (cI 0)),oM 5 4,oT 6 5 (.mv 0),oT 7 5 (.bin .leq 6 (cI 3)),oD 8 (.pick 5 7 (.c (.b false))),oM 2 8]
def Zcd.code:Code:=.seq Zcd.r0 (.seq Zcd.r1 (.ret))
def Zcd:Func:=⟨9,[.t 2],Zcd.code⟩
/-! slices.IndexFunc[[]int,int] -/
def ZX.r0:List Oper:=[oM 4 (cI 0)]
def ZX.r1:List Oper:=[oM 6 0,oD 7 (.len 6),oM 8 (cI 0)]
def ZX.r2:List Oper:=[oD 9 (.bin .lss 8 7)]
def ZX.r3:List Oper:=[oM 10 8,oM 5 10]
def ZX.r4:List Oper:=[oM 11 1,oM 12 0,oM 13 5,oD 14 (.ixa 1 12 13),oD 15 (.ld false 1 14),oD 16 (.call 11 [15])]
def ZX.r5:List Oper:=[oM 17 5,oM 4 17]
def ZX.r6:List Oper:=[oD 18 (.bin .add 8 (cI 1)),oM 8 18]
def ZX.l0:Code:=.seq ZX.r2 (.seq (.cond 9 (.skip) (.exit 0)) (.seq (.block 1 (.seq ZX.r3 (.seq ZX.r4 (.cond 16 (.seq ZX.r5 (.ret)) (.skip))))) ZX.r6))
def ZX.r7:List Oper:=[oM 4 (cI (-1))]
def ZX.code:Code:=.seq ZX.r0 (.seq (.seq ZX.r1 (.block 0 (.loop ZX.l0))) (.seq ZX.r7 (.ret)))
def ZX:Func:=⟨19,[.t 4],ZX.code⟩
/-! math/bits.Mul32 -/
def Zcc.r0:List Oper:=[oM 4 (.c (.i .u32 0)),oM 5 (.c (.i .u32 0))]
def Zcc.r1:List Oper:=[oM 7 0,oD 8 (.conv .u64 7),oM 9 1,oD 10 (.conv .u64 9),oD 11 (.bin .mul 8 10),oM 6 11]
def Zcc.r2:List Oper:=[oM 12 6,oD 13 (.bin .shr 12 (.c (.i .u64 32))),oD 14 (.conv .u32 13),oM 15 6,oD 16 (.conv .u32 15),oM 4 14,oM 5 16]
def Zcc.code:Code:=.seq Zcc.r0 (.seq Zcc.r1 (.seq Zcc.r2 (.ret)))
def Zcc:Func:=⟨17,[.t 4,.t 5],Zcc.code⟩
/-! math/bits.Mul64 -/
def zW.r0:List Oper:=[oM 4 (.c (.i .u64 0)),oM 5 (.c (.i .u64 0))]
def zW.r1:List Oper:=[oM 14 0,oD 15 (.bin .and 14 (.c (.i .u64 4294967295))),oM 6 15]
def zW.r2:List Oper:=[oM 16 0,oD 17 (.bin .shr 16 (.c (.i .u64 32))),oM 7 17]
def zW.r3:List Oper:=[oM 18 1,oD 19 (.bin .and 18 (.c (.i .u64 4294967295))),oM 8 19]
def zW.r4:List Oper:=[oM 20 1,oD 21 (.bin .shr 20 (.c (.i .u64 32))),oM 9 21]
def zW.r5:List Oper:=[oM 22 6,oM 23 8,oD 24 (.bin .mul 22 23),oM 10 24]
def zW.r6:List Oper:=[oM 25 7,oM 26 8,oD 27 (.bin .mul 25 26),oM 28 10,oD 29 (.bin .shr 28 (.c (.i .u64 32))),oD 30 (.bin .add 27 29),oM 11 30]
def zW.r7:List Oper:=[oM 31 11,oD 32 (.bin .and 31 (.c (.i .u64 4294967295))),oM 12 32]
def zW.r8:List Oper:=[oM 33 11,oD 34 (.bin .shr 33 (.c (.i .u64 32))),oM 13 34]
def zW.r9:List Oper:=[oM 35 12,oM 36 6,oM 37 9,oD 38 (.bin .mul 36 37),oD 39 (.bin .add 35 38),oM 12 39]
def zW.r10:List Oper:=[oM 40 7,oM 41 9,oD 42 (.bin .mul 40 41),oM 43 13,oD 44 (.bin .add 42 43),oM 45 12,oD 46 (.bin .shr 45 (.c (.i .u64 32))),oD 47 (.bin .add 44 46),oM 4 47]
def zW.r11:List Oper:=[oM 48 0,oM 49 1,oD 50 (.bin .mul 48 49),oM 5 50]
def zW.code:Code:=.seq zW.r0 (.seq zW.r1 (.seq zW.r2 (.seq zW.r3 (.seq zW.r4 (.seq zW.r5 (.seq zW.r6 (.seq zW.r7 (.seq zW.r8 (.seq zW.r9 (.seq zW.r10 (.seq zW.r11 (.ret))))))))))))
def zW:Func:=⟨51,[.t 4,.t 5],zW.code⟩
/-! muntin/muntinref04.Layers -/
def ZE.r0:List Oper:=[oM 4 (.c (.sn))]
def ZE.r1:List Oper:=[oM 8 0,oD 9 (.mks 1 8 [.n 0] 8 8),oM 5 9]
def ZE.r2:List Oper:=[oM 6 (cI 0)]
def ZE.r3:List Oper:=[oM 10 6,oM 11 0,oD 12 (.bin .leq 10 11)]
def ZE.r5:List Oper:=[oM 7 (cI 0)]
def ZE.r6:List Oper:=[oM 15 7,oM 16 1,oD 17 (.len 16),oD 18 (.bin .lss 15 17)]
def ZE.r8:List Oper:=[oM 21 5,oM 22 1,oM 23 7,oD 24 (.ixa 3 22 23),oD 25 (.fa 1 24),oD 26 (.ld false 1 25),oD 27 (.ixa 1 21 26),oD 28 (.ld false 1 27),oM 29 5,oM 30 1,oM 31 7,oD 32 (.ixa 3 30 31),oD 33 (.fa 0 32),oD 34 (.ld false 1 33),oD 35 (.ixa 1 29 34),oD 36 (.ld false 1 35),oD 37 (.bin .leq 28 36)]
def ZE.r9:List Oper:=[oM 38 5,oM 39 1,oM 40 7,oD 41 (.ixa 3 39 40),oD 42 (.fa 1 41),oD 43 (.ld false 1 42),oM 44 5,oM 45 1,oM 46 7,oD 47 (.ixa 3 45 46),oD 48 (.fa 0 47),oD 49 (.ld false 1 48),oD 50 (.ixa 1 44 49),oD 51 (.ld false 1 50),oD 52 (.bin .add 51 (cI 1)),oD 53 (.ixa 1 38 43),oN (.st 1 53 52)]
def ZE.r7:List Oper:=[oM 19 7,oD 20 (.bin .add 19 (cI 1)),oM 7 20]
def ZE.l0:Code:=.seq (.seq ZE.r6 (.cond 18 (.skip) (.exit 2))) (.seq (.block 3 (.seq (.draw ZE.r8 [(5,13),(7,13),(5,15),(7,15)]) (.cond 37 (.draw ZE.r9 [(5,11),(5,13)]) (.skip)))) ZE.r7)
def ZE.r4:List Oper:=[oM 13 6,oD 14 (.bin .add 13 (cI 1)),oM 6 14]
def ZE.l1:Code:=.seq (.seq ZE.r3 (.cond 12 (.skip) (.exit 0))) (.seq (.block 1 (.seq ZE.r5 (.block 2 (.loop ZE.l0)))) ZE.r4)
def ZE.r10:List Oper:=[oM 54 5,oM 4 54]
def ZE.code:Code:=.seq ZE.r0 (.seq ZE.r1 (.seq (.seq ZE.r2 (.block 0 (.loop ZE.l1))) (.seq ZE.r10 (.ret))))
def ZE:Func:=⟨55,[.t 4],ZE.code⟩
/-! slices.Contains[[]int,int] -/
def Zbc.r0:List Oper:=[oM 4 (.c (.b false))]
def Zbc.r1:List Oper:=[oM 5 0,oM 6 1,oC 7 136 [5,6],oD 8 (.bin .geq 7 (cI 0)),oM 4 8]
def Zbc.code:Code:=.seq Zbc.r0 (.seq Zbc.r1 (.ret))
def Zbc:Func:=⟨9,[.t 4],Zbc.code⟩
/-! muntin/seg.Of -/
def ZbD.r0:List Oper:=[oD 2 (.alloc [.sn,.sn,.sn,.sn]),oM 3 (cI 0)]
def ZbD.r1:List Oper:=[oM 11 0,oC 12 66 [11],oM 4 12]
def ZbD.r2:List Oper:=[oM 13 4,oD 14 (.eq true .sc 13 (cI 0))]
def ZbD.r3:List Oper:=[oD 15 (.build [.sn,.sn,.sn,.sn] []),oM 16 4,oN (.st 4 2 15),oM 3 16]
def ZbD.r4:List Oper:=[oM 18 0,oC 19 137 [18,.c (.n 1)],oM 17 19,oD 20 (.ext 17 0),oD 21 (.ext 17 1),oD 22 (.ext 17 2),oM 5 20,oM 6 21,oM 7 22]
def ZbD.r5:List Oper:=[oM 24 0,oC 25 137 [24,.c (.n 0)],oM 23 25,oD 26 (.ext 23 0),oD 27 (.ext 23 1),oD 28 (.ext 23 2),oM 8 26,oM 9 27,oM 10 28]
def ZbD.r6:List Oper:=[oM 29 7,oD 30 (.un .not 29),oM 31 30,oF 32 31 (.mv 10),oF 33 31 (.un .not 32),oD 34 (.pick 31 (.c (.b true)) 33)]
def ZbD.r7:List Oper:=[oD 35 (.build [.sn,.sn,.sn,.sn] []),oN (.st 4 2 35),oM 3 (cI 10)]
def ZbD.r8:List Oper:=[oM 36 5,oM 37 8,oM 38 6,oM 39 9,oD 40 (.build [.sn,.sn,.sn,.sn] [(0,1,.t 36),(1,1,.t 37),(2,1,.t 38),(3,1,.t 39)]),oN (.st 4 2 40),oM 3 (cI 0)]
def ZbD.code:Code:=.seq ZbD.r0 (.seq (.seq ZbD.r1 (.seq ZbD.r2 (.cond 14 (.seq ZbD.r3 (.ret)) (.skip)))) (.seq ZbD.r4 (.seq ZbD.r5 (.seq (.seq ZbD.r6 (.cond 34 (.seq ZbD.r7 (.ret)) (.skip))) (.seq ZbD.r8 (.ret))))))
def ZbD:Func:=⟨41,[.cell 2 true 4,.t 3],ZbD.code⟩
/-! muntin/muntinref16.Of -/
def Zav.r0:List Oper:=[oD 2 (.alloc [.sn,.sn,.sn,.sn]),oM 3 (.c (.b false))]
def Zav.r1:List Oper:=[oM 11 0,oC 12 138 [11,.c (.n 1)],oM 10 12,oD 13 (.ext 10 0),oD 14 (.ext 10 1),oD 15 (.ext 10 2),oM 4 13,oM 5 14,oM 6 15]
def Zav.r2:List Oper:=[oM 17 0,oC 18 138 [17,.c (.n 0)],oM 16 18,oD 19 (.ext 16 0),oD 20 (.ext 16 1),oD 21 (.ext 16 2),oM 7 19,oM 8 20,oM 9 21]
def Zav.r3:List Oper:=[oM 22 6,oD 23 (.un .not 22),oM 24 23,oF 25 24 (.mv 9),oF 26 24 (.un .not 25),oD 27 (.pick 24 (.c (.b true)) 26)]
def Zav.r4:List Oper:=[oD 28 (.build [.sn,.sn,.sn,.sn] []),oN (.st 4 2 28),oM 3 (.c (.b false))]
def Zav.r5:List Oper:=[oM 29 4,oM 30 7,oM 31 5,oM 32 8,oD 33 (.build [.sn,.sn,.sn,.sn] [(0,1,.t 29),(1,1,.t 30),(2,1,.t 31),(3,1,.t 32)]),oN (.st 4 2 33),oM 3 (.c (.b true))]
def Zav.code:Code:=.seq Zav.r0 (.seq Zav.r1 (.seq Zav.r2 (.seq (.seq Zav.r3 (.cond 27 (.seq Zav.r4 (.ret)) (.skip))) (.seq Zav.r5 (.ret)))))
def Zav:Func:=⟨34,[.cell 2 true 4,.t 3],Zav.code⟩
/-! (muntin/seg.Chains).Meet -/
def Zbi.r0:List Oper:=[oD 5 (.box 0),oM 10 (.c (.b false))]
def Zbi.r1:List Oper:=[oD 12 (.ld true 4 5),oM 13 3,oM 14 4,oC 15 140 [12,13,14],oD 11 (.alloc [.sn]),oN (.st 1 11 15)]
def Zbi.r2:List Oper:=[oD 16 (.ld true 4 5),oM 17 1,oM 18 2,oC 19 140 [16,17,18],oD 20 (.clo 141 [11]),oC 21 78 [19,20],oM 10 21]
def Zbi.code:Code:=.seq Zbi.r0 (.seq Zbi.r1 (.seq Zbi.r2 (.ret)))
def Zbi:Func:=⟨22,[.t 10],Zbi.code⟩
/-! muntin/muntinref16.Meet -/
def ZJ.r0:List Oper:=[oD 5 (.box 0),oM 10 (.c (.b false))]
def ZJ.r1:List Oper:=[oM 11 (cI 0)]
def ZJ.r2:List Oper:=[oM 14 11,oD 15 (.fa 0 5),oD 16 (.ld false 1 15),oD 17 (.len 16),oD 18 (.bin .lss 14 17)]
def ZJ.r4:List Oper:=[oD 21 (.fa 1 5),oD 22 (.ld false 1 21),oM 23 11,oD 24 (.ixa 1 22 23),oD 25 (.ld false 1 24),oM 26 2,oD 27 (.eq false .sc 25 26),oM 12 27]
def ZJ.r5:List Oper:=[oM 28 1]
def ZJ.r6:List Oper:=[oD 29 (.fa 0 5),oD 30 (.ld false 1 29),oM 31 11,oD 32 (.ixa 1 30 31),oD 33 (.ld false 1 32),oM 34 2,oD 35 (.eq false .sc 33 34),oM 12 35]
def ZJ.r7:List Oper:=[oD 36 (.fa 1 5),oD 37 (.ld false 1 36),oM 38 11,oD 39 (.ixa 1 37 38),oD 40 (.ld false 1 39),oM 41 4,oD 42 (.eq false .sc 40 41),oM 13 42]
def ZJ.r8:List Oper:=[oM 43 3]
def ZJ.r9:List Oper:=[oD 44 (.fa 0 5),oD 45 (.ld false 1 44),oM 46 11,oD 47 (.ixa 1 45 46),oD 48 (.ld false 1 47),oM 49 4,oD 50 (.eq false .sc 48 49),oM 13 50]
def ZJ.r10:List Oper:=[oM 51 12,oM 52 51,oT 53 52 (.mv 13),oD 54 (.pick 52 53 (.c (.b false)))]
def ZJ.r11:List Oper:=[oM 10 (.c (.b true))]
def ZJ.r3:List Oper:=[oM 19 11,oD 20 (.bin .add 19 (cI 1)),oM 11 20]
def ZJ.l0:Code:=.seq (.seq ZJ.r2 (.cond 18 (.skip) (.exit 0))) (.seq (.block 1 (.seq ZJ.r4 (.seq (.seq ZJ.r5 (.cond 28 ZJ.r6 (.skip))) (.seq ZJ.r7 (.seq (.seq ZJ.r8 (.cond 43 ZJ.r9 (.skip))) (.seq ZJ.r10 (.cond 54 (.seq ZJ.r11 (.ret)) (.skip)))))))) ZJ.r3)
def ZJ.r12:List Oper:=[oM 10 (.c (.b false))]
def ZJ.code:Code:=.seq ZJ.r0 (.seq (.seq ZJ.r1 (.block 0 (.loop ZJ.l0))) (.seq ZJ.r12 (.ret)))
def ZJ:Func:=⟨55,[.t 10],ZJ.code⟩
/-! (muntin/seg.Chains).Span -/
def zI.r0:List Oper:=[oD 3 (.box 0),oM 6 (cI 0),oM 7 (cI 0)]
def zI.r1:List Oper:=[oD 10 (.ld true 4 3),oM 11 1,oM 12 2,oC 13 140 [10,11,12],oM 8 13]
def zI.r2:List Oper:=[oM 14 8,oD 15 (.len 14),oD 16 (.eq false .sc 15 (cI 0))]
def zI.r3:List Oper:=[oM 6 (cI 0),oM 7 (cI 0)]
def zI.r4:List Oper:=[oD 17 (.fa 0 3),oD 18 (.ld false 1 17),oM 9 18]
def zI.r5:List Oper:=[oM 19 1]
def zI.r6:List Oper:=[oD 20 (.fa 1 3),oD 21 (.ld false 1 20),oM 9 21]
def zI.r7:List Oper:=[oM 22 9,oM 23 8,oD 24 (.ixa 1 23 (cI 0)),oD 25 (.ld false 1 24),oD 26 (.ixa 1 22 25),oD 27 (.ld false 1 26),oM 28 9,oM 29 8,oM 30 8,oD 31 (.len 30),oD 32 (.bin .sub 31 (cI 1)),oD 33 (.ixa 1 29 32),oD 34 (.ld false 1 33),oD 35 (.ixa 1 28 34),oD 36 (.ld false 1 35),oM 6 27,oM 7 36]
def zI.code:Code:=.seq zI.r0 (.seq zI.r1 (.seq (.seq zI.r2 (.cond 16 (.seq zI.r3 (.ret)) (.skip))) (.seq zI.r4 (.seq (.seq zI.r5 (.cond 19 zI.r6 (.skip))) (.seq (.draw zI.r7 [(3,12),(5,12),(3,14),(5,14)]) (.ret))))))
def zI:Func:=⟨37,[.t 6,.t 7],zI.code⟩
/-! muntin/arcs.Of -/
def Zcp.r0:List Oper:=[oD 2 (.alloc [.sn,.sn,.sn,.sn,.sn,.sn]),oM 3 (cI 0)]
def Zcp.r1:List Oper:=[oM 7 0,oC 8 120 [7],oM 6 8,oD 9 (.ext 6 0),oD 10 (.ext 6 1),oD 4 (.alloc [.sn,.sn,.sn,.sn]),oN (.st 4 4 9),oM 5 10]
def Zcp.r2:List Oper:=[oM 11 5,oD 12 (.eq true .sc 11 (cI 0))]
def Zcp.r3:List Oper:=[oD 13 (.build [.sn,.sn,.sn,.sn,.sn,.sn] []),oM 14 5,oN (.st 6 2 13),oM 3 14]
def Zcp.r4:List Oper:=[oD 15 (.ld true 4 4),oM 16 0,oD 17 (.fa 0 4),oD 18 (.ld false 1 17),oC 19 144 [16,.c (.n 0),18],oM 20 0,oD 21 (.fa 1 4),oD 22 (.ld false 1 21),oC 23 144 [20,.c (.n 1),22],oD 24 (.build [.sn,.sn,.sn,.sn,.sn,.sn] [(0,4,.t 15),(4,1,.t 19),(5,1,.t 23)]),oN (.st 6 2 24),oM 3 (cI 0)]
def Zcp.code:Code:=.seq Zcp.r0 (.seq Zcp.r1 (.seq (.seq Zcp.r2 (.cond 12 (.seq Zcp.r3 (.ret)) (.skip))) (.seq (.draw Zcp.r4 [(0,3),(0,4),(0,7),(3,7),(4,7),(0,8)]) (.ret))))
def Zcp:Func:=⟨25,[.cell 2 true 6,.t 3],Zcp.code⟩
/-! slices.Index[[]int,int] -/
def zw.r0:List Oper:=[oM 4 (cI 0)]
def zw.r1:List Oper:=[oM 6 0,oD 7 (.len 6),oM 8 (cI 0)]
def zw.r2:List Oper:=[oD 9 (.bin .lss 8 7)]
def zw.r3:List Oper:=[oM 10 8,oM 5 10]
def zw.r4:List Oper:=[oM 11 1,oM 12 0,oM 13 5,oD 14 (.ixa 1 12 13),oD 15 (.ld false 1 14),oD 16 (.eq false .sc 11 15)]
def zw.r5:List Oper:=[oM 17 5,oM 4 17]
def zw.r6:List Oper:=[oD 18 (.bin .add 8 (cI 1)),oM 8 18]
def zw.l0:Code:=.seq zw.r2 (.seq (.cond 9 (.skip) (.exit 0)) (.seq (.block 1 (.seq zw.r3 (.seq zw.r4 (.cond 16 (.seq zw.r5 (.ret)) (.skip))))) zw.r6))
def zw.r7:List Oper:=[oM 4 (cI (-1))]
def zw.code:Code:=.seq zw.r0 (.seq (.seq zw.r1 (.block 0 (.loop zw.l0))) (.seq zw.r7 (.ret)))
def zw:Func:=⟨19,[.t 4],zw.code⟩
/-! muntin/seg.chains -/
def ZB.r0:List Oper:=[oM 4 (.c (.sn)),oM 5 (.c (.sn)),oM 6 (.c (.b false))]
def ZB.r1:List Oper:=[oD 15 (.bsl 1 1 [.n 0] [(0,1,.c (.n (-1)))]),oM 16 0,oD 17 (.len 16),oC 18 83 [15,17],oM 7 18]
def ZB.r2:List Oper:=[oM 19 1,oC 20 77 [19,.c (.n 2)],oM 8 20]
def ZB.r3:List Oper:=[oM 9 (.c (.sn))]
def ZB.r4:List Oper:=[oM 21 0,oD 22 (.len 21),oM 23 (cI 0)]
def ZB.r5:List Oper:=[oD 24 (.bin .lss 23 22)]
def ZB.r6:List Oper:=[oM 25 23,oM 10 25]
def ZB.r7:List Oper:=[oM 26 7,oM 27 10,oD 28 (.ixa 1 26 27),oD 29 (.ld false 1 28),oD 30 (.bin .geq 29 (cI 0))]
def ZB.r8:List Oper:=[oM 31 10,oM 11 31]
def ZB.r9:List Oper:=[oM 12 (cI 0)]
def ZB.r10:List Oper:=[oM 32 0,oM 33 11,oM 34 8,oD 35 (.ixa 8 32 33),oD 36 (.fa 0 35),oD 37 (.ixaa 1 4 36 34),oD 38 (.ld false 1 37),oD 39 (.bin .geq 38 (cI 0))]
def ZB.r12:List Oper:=[oM 42 12,oM 43 0,oD 44 (.len 43),oD 45 (.eq false .sc 42 44)]
def ZB.r13:List Oper:=[oM 4 (.c (.sn)),oM 5 (.c (.sn)),oM 6 (.c (.b false))]
def ZB.r14:List Oper:=[oM 46 0,oM 47 11,oM 48 8,oD 49 (.ixa 8 46 47),oD 50 (.fa 0 49),oD 51 (.ixaa 1 4 50 48),oD 52 (.ld false 1 51),oM 11 52]
def ZB.r11:List Oper:=[oM 40 12,oD 41 (.bin .add 40 (cI 1)),oM 12 41]
def ZB.l0:Code:=.seq (.seq ZB.r10 (.cond 39 (.skip) (.exit 2))) (.seq (.block 3 (.seq (.seq ZB.r12 (.cond 45 (.seq ZB.r13 (.ret)) (.skip))) ZB.r14)) ZB.r11)
def ZB.r15:List Oper:=[oM 13 (.c (.sn))]
def ZB.r16:List Oper:=[oM 53 11,oM 14 53]
def ZB.r17:List Oper:=[oM 54 14,oD 55 (.bin .geq 54 (cI 0))]
def ZB.r19:List Oper:=[oM 63 7,oM 64 14,oM 65 9,oD 66 (.len 65),oD 67 (.ixa 1 63 64),oN (.st 1 67 66)]
def ZB.r20:List Oper:=[oM 68 13,oM 69 14,oD 70 (.bsl 1 1 [.n 0] [(0,1,.t 69)]),oD 71 (.app 1 8 68 70),oM 13 71]
def ZB.r18:List Oper:=[oM 56 0,oM 57 14,oM 58 1,oD 59 (.ixa 8 56 57),oD 60 (.fa 0 59),oD 61 (.ixaa 1 4 60 58),oD 62 (.ld false 1 61),oM 14 62]
def ZB.l1:Code:=.seq (.seq ZB.r17 (.cond 55 (.skip) (.exit 4))) (.seq (.block 5 (.seq ZB.r19 ZB.r20)) ZB.r18)
def ZB.r21:List Oper:=[oM 72 9,oM 73 13,oD 74 (.bsl 1 1 [.sn] [(0,1,.t 73)]),oD 75 (.app 1 24 72 74),oM 9 75]
def ZB.r22:List Oper:=[oD 76 (.bin .add 23 (cI 1)),oM 23 76]
def ZB.l2:Code:=.seq ZB.r5 (.seq (.cond 24 (.skip) (.exit 0)) (.seq (.block 1 (.seq ZB.r6 (.seq (.seq ZB.r7 (.cond 30 (.exit 1) (.skip))) (.seq ZB.r8 (.seq (.seq ZB.r9 (.block 2 (.loop ZB.l0))) (.seq ZB.r15 (.seq (.seq ZB.r16 (.block 4 (.loop ZB.l1))) ZB.r21))))))) ZB.r22))
def ZB.r23:List Oper:=[oM 77 7,oM 78 9,oM 4 77,oM 5 78,oM 6 (.c (.b true))]
def ZB.code:Code:=.seq ZB.r0 (.seq ZB.r1 (.seq ZB.r2 (.seq ZB.r3 (.seq (.seq ZB.r4 (.block 0 (.loop ZB.l2))) (.seq ZB.r23 (.ret))))))
def ZB:Func:=⟨79,[.t 4,.t 5,.t 6],ZB.code⟩
/-! muntin/muntinref16.chains -/
def Zl.r0:List Oper:=[oM 4 (.c (.sn)),oM 5 (.c (.sn)),oM 6 (.c (.b false))]
def Zl.r1:List Oper:=[oM 15 0,oD 16 (.len 15),oD 17 (.mks 1 8 [.n 0] 16 16),oM 7 17]
def Zl.r2:List Oper:=[oM 8 (.c (.sn))]
def Zl.r3:List Oper:=[oM 9 (.c (.sn))]
def Zl.r4:List Oper:=[oM 10 (cI 0)]
def Zl.r5:List Oper:=[oM 18 10,oM 19 0,oD 20 (.len 19),oD 21 (.bin .lss 18 20)]
def Zl.r7:List Oper:=[oM 24 0,oM 25 10,oM 26 1,oC 27 150 [24,25,26],oM 11 27]
def Zl.r8:List Oper:=[oM 28 11,oD 29 (.bin .lss 28 (cI 0))]
def Zl.r9:List Oper:=[oM 4 (.c (.sn)),oM 5 (.c (.sn)),oM 6 (.c (.b false))]
def Zl.r10:List Oper:=[oM 12 (cI 0)]
def Zl.r11:List Oper:=[oM 30 12,oM 31 8,oD 32 (.len 31),oD 33 (.bin .lss 30 32),oM 34 33,oT 35 34 (.mv 8),oT 36 34 (.mv 12),oT 37 34 (.ixa 1 35 36),oT 38 34 (.ld false 1 37),oT 39 34 (.mv 11),oT 40 34 (.eq true .sc 38 39),oD 41 (.pick 34 40 (.c (.b false)))]
def Zl.r12:List Oper:=[oM 42 12,oD 43 (.bin .add 42 (cI 1)),oM 12 43]
def Zl.l0:Code:=.seq (.seq Zl.r11 (.cond 41 (.skip) (.exit 2))) (.block 3 Zl.r12)
def Zl.r13:List Oper:=[oM 44 7,oM 45 10,oM 46 12,oD 47 (.ixa 1 44 45),oN (.st 1 47 46)]
def Zl.r14:List Oper:=[oM 48 12,oM 49 8,oD 50 (.len 49),oD 51 (.eq false .sc 48 50)]
def Zl.r15:List Oper:=[oM 52 8,oM 53 11,oD 54 (.bsl 1 1 [.n 0] [(0,1,.t 53)]),oD 55 (.app 1 8 52 54),oM 8 55]
def Zl.r16:List Oper:=[oM 13 (.c (.sn))]
def Zl.r17:List Oper:=[oM 56 11,oM 14 56]
def Zl.r18:List Oper:=[oM 57 14,oD 58 (.bin .geq 57 (cI 0))]
def Zl.r20:List Oper:=[oM 66 13,oM 67 14,oD 68 (.bsl 1 1 [.n 0] [(0,1,.t 67)]),oD 69 (.app 1 8 66 68),oM 13 69]
def Zl.r19:List Oper:=[oM 59 0,oM 60 14,oM 61 1,oD 62 (.ixa 8 59 60),oD 63 (.fa 0 62),oD 64 (.ixaa 1 4 63 61),oD 65 (.ld false 1 64),oM 14 65]
def Zl.l1:Code:=.seq (.seq Zl.r18 (.cond 58 (.skip) (.exit 4))) (.seq (.block 5 Zl.r20) Zl.r19)
def Zl.r21:List Oper:=[oM 70 9,oM 71 13,oD 72 (.bsl 1 1 [.sn] [(0,1,.t 71)]),oD 73 (.app 1 24 70 72),oM 9 73]
def Zl.r6:List Oper:=[oM 22 10,oD 23 (.bin .add 22 (cI 1)),oM 10 23]
def Zl.l2:Code:=.seq (.seq Zl.r5 (.cond 21 (.skip) (.exit 0))) (.seq (.block 1 (.seq Zl.r7 (.seq (.seq Zl.r8 (.cond 29 (.seq Zl.r9 (.ret)) (.skip))) (.seq Zl.r10 (.seq (.block 2 (.loop Zl.l0)) (.seq Zl.r13 (.seq Zl.r14 (.cond 51 (.seq Zl.r15 (.seq Zl.r16 (.seq (.seq Zl.r17 (.block 4 (.loop Zl.l1))) Zl.r21))) (.skip))))))))) Zl.r6)
def Zl.r22:List Oper:=[oM 74 7,oM 75 9,oM 4 74,oM 5 75,oM 6 (.c (.b true))]
def Zl.code:Code:=.seq Zl.r0 (.seq Zl.r1 (.seq Zl.r2 (.seq Zl.r3 (.seq (.seq Zl.r4 (.block 0 (.loop Zl.l2))) (.seq Zl.r22 (.ret))))))
def Zl:Func:=⟨76,[.t 4,.t 5,.t 6],Zl.code⟩
/-! (muntin/seg.Chains).chain -/
def zN.r0:List Oper:=[oD 3 (.box 0),oM 6 (.c (.sn))]
def zN.r1:List Oper:=[oD 8 (.fa 3 3),oD 9 (.ld false 1 8),oM 7 9]
def zN.r2:List Oper:=[oM 10 1]
def zN.r3:List Oper:=[oD 11 (.fa 2 3),oD 12 (.ld false 1 11),oM 7 12]
def zN.r4:List Oper:=[oM 13 2,oD 14 (.bin .lss 13 (cI 0)),oM 15 14,oF 16 15 (.mv 2),oF 17 15 (.mv 7),oF 18 15 (.len 17),oF 19 15 (.bin .geq 16 18),oD 20 (.pick 15 (.c (.b true)) 19)]
def zN.r5:List Oper:=[oM 6 (.c (.sn))]
def zN.r6:List Oper:=[oM 21 7,oM 22 2,oD 23 (.ixa 1 21 22),oD 24 (.ld false 1 23),oM 6 24]
def zN.code:Code:=.seq zN.r0 (.seq zN.r1 (.seq (.seq zN.r2 (.cond 10 zN.r3 (.skip))) (.seq (.seq zN.r4 (.cond 20 (.seq zN.r5 (.ret)) (.skip))) (.seq zN.r6 (.ret)))))
def zN:Func:=⟨25,[.t 6],zN.code⟩
/-! (muntin/seg.Chains).Meet$1 -/
def Zbn.r0:List Oper:=[oM 3 (.c (.b false))]
def Zbn.r1:List Oper:=[oD 4 (.ld false 1 1),oM 5 0,oC 6 118 [4,5],oM 3 6]
def Zbn.code:Code:=.seq Zbn.r0 (.seq Zbn.r1 (.ret))
def Zbn:Func:=⟨7,[.t 3],Zbn.code⟩
/-! muntin/arcs.graph -/
def Zae.r0:List Oper:=[oM 6 (.c (.sn))]
def Zae.r1:List Oper:=[oM 7 (.c (.sn))]
def Zae.r2:List Oper:=[oM 11 0,oD 12 (.len 11),oM 13 (cI 0)]
def Zae.r3:List Oper:=[oD 14 (.bin .lss 13 12)]
def Zae.r4:List Oper:=[oM 15 13,oD 16 (.ixa 8 11 13),oD 17 (.ld true 8 16),oD 9 (.alloc [.n 0,.n 0,.n 0,.n 0,.n 0,.n 0,.n 0,.n 0]),oM 8 15,oN (.st 8 9 17)]
def Zae.r5:List Oper:=[oM 18 1,oD 19 (.fa 0 9),oD 20 (.ixaa 1 4 19 18),oD 21 (.ld false 1 20),oM 10 21]
def Zae.r6:List Oper:=[oM 22 10,oD 23 (.bin .geq 22 (cI 0))]
def Zae.r7:List Oper:=[oM 24 7,oM 25 2,oM 26 8,oD 27 (.ixa 1 25 26),oD 28 (.ld false 1 27),oM 29 2,oM 30 10,oD 31 (.ixa 1 29 30),oD 32 (.ld false 1 31),oM 33 1,oD 34 (.fa 4 9),oD 35 (.ixaa 1 4 34 33),oD 36 (.ld false 1 35),oC 37 149 [36],oD 38 (.build [.n 0,.n 0,.n 0] [(0,1,.t 28),(1,1,.t 32),(2,1,.t 37)]),oD 39 (.bsl 3 1 [.n 0,.n 0,.n 0] [(0,3,.t 38)]),oD 40 (.app 3 24 24 39),oM 7 40]
def Zae.r8:List Oper:=[oD 41 (.bin .add 13 (cI 1)),oM 13 41]
def Zae.l0:Code:=.seq Zae.r3 (.seq (.cond 14 (.skip) (.exit 0)) (.seq (.block 1 (.seq Zae.r4 (.seq Zae.r5 (.seq Zae.r6 (.cond 23 (.draw Zae.r7 [(4,8),(4,12),(8,12),(4,13),(8,13)]) (.skip)))))) Zae.r8))
def Zae.r9:List Oper:=[oM 42 7,oM 6 42]
def Zae.code:Code:=.seq Zae.r0 (.seq Zae.r1 (.seq (.seq Zae.r2 (.block 0 (.loop Zae.l0))) (.seq Zae.r9 (.ret))))
def Zae:Func:=⟨43,[.t 6],Zae.code⟩
/-! muntin/arcs.weight -/
def Zb1.r0:List Oper:=[oM 2 (cI 0)]
def Zb1.r1:List Oper:=[oM 3 0,oD 4 (.bin .geq 3 (cI 0))]
def Zb1.r2:List Oper:=[oM 2 (cI 1)]
def Zb1.r3:List Oper:=[oM 2 (cI 0)]
def Zb1.code:Code:=.seq Zb1.r0 (.seq (.seq Zb1.r1 (.cond 4 (.seq Zb1.r2 (.ret)) (.skip))) (.seq Zb1.r3 (.ret)))
def Zb1:Func:=⟨5,[.t 2],Zb1.code⟩
/-! muntin/muntinref16.First -/
def zh.r0:List Oper:=[oM 6 (cI 0)]
def zh.r1:List Oper:=[oM 7 (cI 0)]
def zh.r2:List Oper:=[oM 9 7,oM 10 0,oD 11 (.len 10),oD 12 (.bin .leq 9 11)]
def zh.r4:List Oper:=[oM 15 0,oM 16 1,oM 17 2,oD 18 (.bin .add 17 (cI 2)),oD 19 (.bin .rem 18 (cI 4)),oD 20 (.ixa 8 15 16),oD 21 (.fa 0 20),oD 22 (.ixaa 1 4 21 19),oD 23 (.ld false 1 22),oM 8 23]
def zh.r5:List Oper:=[oM 24 8,oD 25 (.bin .lss 24 (cI 0))]
def zh.r6:List Oper:=[oM 26 1,oM 6 26]
def zh.r7:List Oper:=[oM 27 8,oM 1 27]
def zh.r3:List Oper:=[oM 13 7,oD 14 (.bin .add 13 (cI 1)),oM 7 14]
def zh.l0:Code:=.seq (.seq zh.r2 (.cond 12 (.skip) (.exit 0))) (.seq (.block 1 (.seq zh.r4 (.seq (.seq zh.r5 (.cond 25 (.seq zh.r6 (.ret)) (.skip))) zh.r7))) zh.r3)
def zh.r8:List Oper:=[oM 6 (cI (-1))]
def zh.code:Code:=.seq zh.r0 (.seq (.seq zh.r1 (.block 0 (.loop zh.l0))) (.seq zh.r8 (.ret)))
def zh:Func:=⟨28,[.t 6],zh.code⟩
/-! muntin/muntinref17.Place -/
def z7.r0:List Oper:=[oD 3 (.box 0),oM 6 (.c (.sn))]
def z7.r1:List Oper:=[oM 7 (.c (.sn))]
def z7.r2:List Oper:=[oM 8 (cI 0)]
def z7.r3:List Oper:=[oM 9 8,oD 10 (.fa 0 3),oD 11 (.ld false 1 10),oD 12 (.len 11),oD 13 (.bin .lss 9 12)]
def z7.r5:List Oper:=[oM 16 7,oM 17 1,oD 18 (.fa 0 3),oD 19 (.ld false 1 18),oM 20 8,oD 21 (.ixa 1 19 20),oD 22 (.ld false 1 21),oD 23 (.ixa 1 17 22),oD 24 (.ld false 1 23),oM 25 2,oD 26 (.fa 1 3),oD 27 (.ld false 1 26),oM 28 8,oD 29 (.ixa 1 27 28),oD 30 (.ld false 1 29),oD 31 (.ixa 1 25 30),oD 32 (.ld false 1 31),oD 33 (.build [.n 0,.n 0] [(0,1,.t 24),(1,1,.t 32)]),oD 34 (.bsl 2 1 [.n 0,.n 0] [(0,2,.t 33)]),oD 35 (.app 2 16 16 34),oM 7 35]
def z7.r4:List Oper:=[oM 14 8,oD 15 (.bin .add 14 (cI 1)),oM 8 15]
def z7.l0:Code:=.seq (.seq z7.r3 (.cond 13 (.skip) (.exit 0))) (.seq (.block 1 (.draw z7.r5 [(3,11),(6,11),(8,11),(3,14),(6,14),(8,14),(3,16),(6,16),(8,16)])) z7.r4)
def z7.r6:List Oper:=[oM 36 7,oM 6 36]
def z7.code:Code:=.seq z7.r0 (.seq z7.r1 (.seq (.seq z7.r2 (.block 0 (.loop z7.l0))) (.seq z7.r6 (.ret))))
def z7:Func:=⟨37,[.t 6],z7.code⟩
/-! muntin/valid.Check -/
def Zad.r0:List Oper:=[oM 2 (cI 0)]
def Zad.r1:List Oper:=[oM 6 0,oC 7 66 [6],oM 3 7]
def Zad.r2:List Oper:=[oM 8 3,oD 9 (.eq true .sc 8 (cI 0))]
def Zad.r3:List Oper:=[oM 10 3,oM 2 10]
def Zad.r4:List Oper:=[oM 11 0,oC 12 32 [11],oD 13 (.un .not 12)]
def Zad.r5:List Oper:=[oM 2 (cI 13)]
def Zad.r6:List Oper:=[oM 15 0,oC 16 201 [15],oM 14 16,oD 17 (.ext 14 0),oD 18 (.ext 14 1),oM 4 17,oM 5 18]
def Zad.r7:List Oper:=[oM 19 5,oD 20 (.un .not 19),oM 21 20,oT 22 21 (.mv 0),oT 23 21 (.len 22),oT 24 21 (.bin .gtr 23 (cI 1)),oD 25 (.pick 21 24 (.c (.b false)))]
def Zad.r8:List Oper:=[oM 2 (cI 10)]
def Zad.r9:List Oper:=[oM 2 (cI 0)]
def Zad.code:Code:=.seq Zad.r0 (.seq (.seq Zad.r1 (.seq Zad.r2 (.cond 9 (.seq Zad.r3 (.ret)) (.skip)))) (.seq (.seq Zad.r4 (.cond 13 (.seq Zad.r5 (.ret)) (.skip))) (.seq (.seq Zad.r6 (.seq Zad.r7 (.cond 25 (.seq Zad.r8 (.ret)) (.skip)))) (.seq Zad.r9 (.ret)))))
def Zad:Func:=⟨26,[.t 2],Zad.code⟩
/-! muntin/sep.Lines -/
def ZbE.r0:List Oper:=[oM 2 (.c (.sn)),oM 3 (cI 0)]
def ZbE.r1:List Oper:=[oM 7 0,oC 8 120 [7],oM 6 8,oD 9 (.ext 6 0),oD 10 (.ext 6 1),oD 4 (.alloc [.sn,.sn,.sn,.sn]),oN (.st 4 4 9),oM 5 10]
def ZbE.r2:List Oper:=[oM 11 5,oD 12 (.eq true .sc 11 (cI 0))]
def ZbE.r3:List Oper:=[oM 13 5,oM 2 (.c (.sn)),oM 3 13]
def ZbE.r4:List Oper:=[oD 14 (.ld true 4 4),oC 15 209 [14],oM 2 15,oM 3 (cI 0)]
def ZbE.code:Code:=.seq ZbE.r0 (.seq ZbE.r1 (.seq (.seq ZbE.r2 (.cond 12 (.seq ZbE.r3 (.ret)) (.skip))) (.seq ZbE.r4 (.ret))))
def ZbE:Func:=⟨16,[.t 2,.t 3],ZbE.code⟩
/-! muntin/muntinref19.Lines -/
def Z8.r0:List Oper:=[oD 1 (.box 0),oM 2 (.c (.sn))]
def Z8.r1:List Oper:=[oM 3 (.c (.sn))]
def Z8.r2:List Oper:=[oM 4 (cI 0)]
def Z8.r3:List Oper:=[oM 6 4,oD 7 (.fa 2 1),oD 8 (.ld false 1 7),oD 9 (.len 8),oD 10 (.bin .lss 6 9)]
def Z8.r5:List Oper:=[oD 13 (.fa 2 1),oD 14 (.ld false 1 13),oM 15 4,oD 16 (.ixa 1 14 15),oD 17 (.ld false 1 16),oD 18 (.len 17),oD 19 (.bin .gtr 18 (cI 1))]
def Z8.r6:List Oper:=[oM 20 3,oM 21 4,oD 22 (.build [.b false,.n 0] [(0,1,.c (.b true)),(1,1,.t 21)]),oD 23 (.bsl 2 1 [.b false,.n 0] [(0,2,.t 22)]),oD 24 (.app 2 16 20 23),oM 3 24]
def Z8.r4:List Oper:=[oM 11 4,oD 12 (.bin .add 11 (cI 1)),oM 4 12]
def Z8.l0:Code:=.seq (.seq Z8.r3 (.cond 10 (.skip) (.exit 0))) (.seq (.block 1 (.seq Z8.r5 (.cond 19 Z8.r6 (.skip)))) Z8.r4)
def Z8.r7:List Oper:=[oM 5 (cI 0)]
def Z8.r8:List Oper:=[oM 25 5,oD 26 (.fa 3 1),oD 27 (.ld false 1 26),oD 28 (.len 27),oD 29 (.bin .lss 25 28)]
def Z8.r10:List Oper:=[oD 32 (.fa 3 1),oD 33 (.ld false 1 32),oM 34 5,oD 35 (.ixa 1 33 34),oD 36 (.ld false 1 35),oD 37 (.len 36),oD 38 (.bin .gtr 37 (cI 1))]
def Z8.r11:List Oper:=[oM 39 3,oM 40 5,oD 41 (.build [.b false,.n 0] [(1,1,.t 40)]),oD 42 (.bsl 2 1 [.b false,.n 0] [(0,2,.t 41)]),oD 43 (.app 2 16 39 42),oM 3 43]
def Z8.r9:List Oper:=[oM 30 5,oD 31 (.bin .add 30 (cI 1)),oM 5 31]
def Z8.l1:Code:=.seq (.seq Z8.r8 (.cond 29 (.skip) (.exit 2))) (.seq (.block 3 (.seq Z8.r10 (.cond 38 Z8.r11 (.skip)))) Z8.r9)
def Z8.r12:List Oper:=[oM 44 3,oM 2 44]
def Z8.code:Code:=.seq Z8.r0 (.seq Z8.r1 (.seq (.seq Z8.r2 (.block 0 (.loop Z8.l0))) (.seq (.seq Z8.r7 (.block 2 (.loop Z8.l1))) (.seq Z8.r12 (.ret)))))
def Z8:Func:=⟨45,[.t 2],Z8.code⟩
/-! muntin/muntinlaw19.wakes -/
def Zai.r0:List Oper:=[oM 0 (.c (.b false))]
def Zai.r1:List Oper:=[oC 8 211 [],oC 9 210 [8],oM 7 9,oD 10 (.ext 7 0),oD 11 (.ext 7 1),oD 1 (.alloc [.sn,.sn,.sn,.sn,.sn,.sn,.sn]),oN (.st 7 1 10),oM 2 11]
def Zai.r2:List Oper:=[oC 13 211 [],oC 14 187 [13],oM 12 14,oD 15 (.ext 12 0),oD 16 (.ext 12 1),oM 3 15,oM 4 16]
def Zai.r3:List Oper:=[oC 18 46 [.c (.n 2)],oC 19 210 [18],oM 17 19,oD 20 (.ext 17 0),oD 21 (.ext 17 1),oD 5 (.alloc [.sn,.sn,.sn,.sn,.sn,.sn,.sn]),oN (.st 7 5 20),oM 6 21]
def Zai.r4:List Oper:=[oM 22 2,oD 23 (.eq false .sc 22 (cI 0)),oM 24 23,oT 25 24 (.fa 6 1),oT 26 24 (.ld false 1 25),oT 27 24 (.len 26),oT 28 24 (.eq false .sc 27 (cI 0)),oD 29 (.pick 24 28 (.c (.b false))),oM 30 29,oT 31 30 (.fa 0 1),oT 32 30 (.fa 4 31),oT 33 30 (.ld false 1 32),oT 34 30 (.len 33),oT 35 30 (.bin .gtr 34 (cI 3)),oD 36 (.pick 30 35 (.c (.b false))),oM 37 36,oT 38 37 (.mv 4),oT 39 37 (.eq false .sc 38 (cI 0)),oD 40 (.pick 37 39 (.c (.b false))),oM 41 40,oT 42 41 (.mv 3),oT 43 41 (.len 42),oT 44 41 (.eq false .sc 43 (cI 5)),oD 45 (.pick 41 44 (.c (.b false))),oM 46 45,oT 47 46 (.mv 3),oT 48 46 (.ixa 2 47 (cI 0)),oT 49 46 (.fa 0 48),oT 50 46 (.ld false 1 49),oD 51 (.pick 46 50 (.c (.b false))),oM 52 51,oT 53 52 (.mv 6),oT 54 52 (.eq false .sc 53 (cI 13)),oD 55 (.pick 52 54 (.c (.b false))),oM 0 55]
def Zai.code:Code:=.seq Zai.r0 (.seq Zai.r1 (.seq Zai.r2 (.seq Zai.r3 (.seq Zai.r4 (.ret)))))
def Zai:Func:=⟨56,[.t 0],Zai.code⟩
/-! muntin/muntinref17.Straight -/
def ZA.r0:List Oper:=[oM 4 (.c (.b false))]
def ZA.r1:List Oper:=[oM 5 (cI 0)]
def ZA.r2:List Oper:=[oM 8 5,oM 9 0,oD 10 (.len 9),oD 11 (.bin .lss 8 10)]
def ZA.r4:List Oper:=[oM 14 0,oM 15 5,oD 16 (.ixa 8 14 15),oD 17 (.fa 0 16),oD 18 (.ixaa 1 4 17 (cI 0)),oD 19 (.ld false 1 18),oM 6 19]
def ZA.r5:List Oper:=[oM 20 6,oD 21 (.bin .geq 20 (cI 0)),oM 22 21,oT 23 22 (.mv 1),oT 24 22 (.mv 6),oT 25 22 (.mx [24,.c (.n 0)]),oT 26 22 (.ixa 2 23 25),oT 27 22 (.fa 1 26),oT 28 22 (.ld false 1 27),oT 29 22 (.mv 1),oT 30 22 (.mv 5),oT 31 22 (.ixa 2 29 30),oT 32 22 (.fa 1 31),oT 33 22 (.ld false 1 32),oT 34 22 (.eq true .sc 28 33),oT 35 22 (.mv 34),oF 36 35 (.mv 1),oF 37 35 (.mv 6),oF 38 35 (.mx [37,.c (.n 0)]),oF 39 35 (.ixa 2 36 38),oF 40 35 (.fa 0 39),oF 41 35 (.ld false 1 40),oF 42 35 (.mv 1),oF 43 35 (.mv 5),oF 44 35 (.ixa 2 42 43),oF 45 35 (.fa 0 44),oF 46 35 (.ld false 1 45),oF 47 35 (.bin .leq 41 46),oT 48 22 (.pick 35 (.c (.b true)) 47),oD 49 (.pick 22 48 (.c (.b false)))]
def ZA.r6:List Oper:=[oM 4 (.c (.b false))]
def ZA.r7:List Oper:=[oM 50 0,oM 51 5,oD 52 (.ixa 8 50 51),oD 53 (.fa 0 52),oD 54 (.ixaa 1 4 53 (cI 1)),oD 55 (.ld false 1 54),oM 7 55]
def ZA.r8:List Oper:=[oM 56 7,oD 57 (.bin .geq 56 (cI 0)),oM 58 57,oT 59 58 (.mv 1),oT 60 58 (.mv 7),oT 61 58 (.mx [60,.c (.n 0)]),oT 62 58 (.ixa 2 59 61),oT 63 58 (.fa 0 62),oT 64 58 (.ld false 1 63),oT 65 58 (.mv 1),oT 66 58 (.mv 5),oT 67 58 (.ixa 2 65 66),oT 68 58 (.fa 0 67),oT 69 58 (.ld false 1 68),oT 70 58 (.eq true .sc 64 69),oT 71 58 (.mv 70),oF 72 71 (.mv 1),oF 73 71 (.mv 7),oF 74 71 (.mx [73,.c (.n 0)]),oF 75 71 (.ixa 2 72 74),oF 76 71 (.fa 1 75),oF 77 71 (.ld false 1 76),oF 78 71 (.mv 1),oF 79 71 (.mv 5),oF 80 71 (.ixa 2 78 79),oF 81 71 (.fa 1 80),oF 82 71 (.ld false 1 81),oF 83 71 (.bin .leq 77 82),oT 84 58 (.pick 71 (.c (.b true)) 83),oD 85 (.pick 58 84 (.c (.b false)))]
def ZA.r9:List Oper:=[oM 4 (.c (.b false))]
def ZA.r3:List Oper:=[oM 12 5,oD 13 (.bin .add 12 (cI 1)),oM 5 13]
def ZA.l0:Code:=.seq (.seq ZA.r2 (.cond 11 (.skip) (.exit 0))) (.seq (.block 1 (.seq ZA.r4 (.seq (.seq (.draw ZA.r5 [(8,13),(21,26)]) (.cond 49 (.seq ZA.r6 (.ret)) (.skip))) (.seq ZA.r7 (.seq (.draw ZA.r8 [(8,13),(21,26)]) (.cond 85 (.seq ZA.r9 (.ret)) (.skip))))))) ZA.r3)
def ZA.r10:List Oper:=[oM 4 (.c (.b true))]
def ZA.code:Code:=.seq ZA.r0 (.seq (.seq ZA.r1 (.block 0 (.loop ZA.l0))) (.seq ZA.r10 (.ret)))
def ZA:Func:=⟨86,[.t 4],ZA.code⟩
/-! muntin/valid.outer -/
def zj.r0:List Oper:=[oM 2 (cI 0),oM 3 (.c (.b false))]
def zj.r1:List Oper:=[oM 10 0,oC 11 203 [10],oM 9 11,oD 12 (.ext 9 0),oD 13 (.ext 9 1),oM 4 12,oM 5 13]
def zj.r2:List Oper:=[oM 6 (cI (-1))]
def zj.r3:List Oper:=[oM 14 4,oD 15 (.len 14),oM 16 (cI 0)]
def zj.r4:List Oper:=[oD 17 (.bin .lss 16 15)]
def zj.r5:List Oper:=[oM 18 16,oD 19 (.ixa 1 14 16),oD 20 (.ld false 1 19),oM 7 18,oM 8 20]
def zj.r6:List Oper:=[oM 21 0,oM 22 8,oC 23 204 [21,22],oC 24 219 [23]]
def zj.r8:List Oper:=[oD 26 (.eq false .sc 24 (cI 4)),oM 25 26]
def zj.r9:List Oper:=[oD 28 (.eq false .sc 24 (cI (-4))),oM 27 28]
def zj.r10:List Oper:=[oM 29 6,oD 30 (.bin .geq 29 (cI 0))]
def zj.r11:List Oper:=[oM 2 (cI 0),oM 3 (.c (.b false))]
def zj.r12:List Oper:=[oM 31 7,oM 6 31]
def zj.r7:List Oper:=[oM 2 (cI 0),oM 3 (.c (.b false))]
def zj.r13:List Oper:=[oD 32 (.bin .add 16 (cI 1)),oM 16 32]
def zj.l0:Code:=.seq zj.r4 (.seq (.cond 17 (.skip) (.exit 0)) (.seq (.block 1 (.seq zj.r5 (.seq zj.r6 (.block 2 (.seq zj.r8 (.cond 25 (.skip) (.seq zj.r9 (.cond 27 (.seq (.seq zj.r10 (.cond 30 (.seq zj.r11 (.ret)) (.skip))) zj.r12) (.seq zj.r7 (.ret)))))))))) zj.r13))
def zj.r14:List Oper:=[oM 33 6,oM 34 6,oD 35 (.bin .geq 34 (cI 0)),oM 2 33,oM 3 35]
def zj.code:Code:=.seq zj.r0 (.seq zj.r1 (.seq zj.r2 (.seq (.seq zj.r3 (.block 0 (.loop zj.l0))) (.seq zj.r14 (.ret)))))
def zj:Func:=⟨36,[.t 2,.t 3],zj.code⟩
/-! muntin/face.Faces -/
def Z4.r0:List Oper:=[oM 2 (.c (.sn)),oM 3 (cI 0)]
def Z4.r1:List Oper:=[oM 12 0,oC 13 66 [12],oM 4 13]
def Z4.r2:List Oper:=[oM 14 4,oD 15 (.eq true .sc 14 (cI 0))]
def Z4.r3:List Oper:=[oM 16 4,oM 2 (.c (.sn)),oM 3 16]
def Z4.r4:List Oper:=[oM 5 (.c (.sn))]
def Z4.r5:List Oper:=[oD 17 (.mkm),oM 6 17]
def Z4.r6:List Oper:=[oM 18 0,oD 19 (.len 18),oM 20 (cI 0)]
def Z4.r7:List Oper:=[oD 21 (.bin .lss 20 19)]
def Z4.r8:List Oper:=[oM 22 20,oM 7 22]
def Z4.r9:List Oper:=[oM 23 (cI 0)]
def Z4.r10:List Oper:=[oD 24 (.bin .lss 23 (cI 4))]
def Z4.r11:List Oper:=[oM 25 23,oM 8 25]
def Z4.r12:List Oper:=[oM 26 7,oM 27 8,oD 28 (.build [.n 0,.n 0] [(0,1,.t 26),(1,1,.t 27)]),oD 9 (.alloc [.n 0,.n 0]),oN (.st 2 9 28)]
def Z4.r13:List Oper:=[oD 29 (.ld true 2 9),oM 30 0,oC 31 220 [29,30],oD 32 (.un .not 31),oM 33 32,oF 34 33 (.mv 6),oF 35 33 (.ld true 2 9),oF 36 33 (.mlk [.i,.i] false (.b false) 34 35),oD 37 (.pick 33 (.c (.b true)) 36)]
def Z4.r14:List Oper:=[oM 10 (.c (.sn))]
def Z4.r15:List Oper:=[oD 38 (.ld true 2 9),oD 11 (.alloc [.n 0,.n 0]),oN (.st 2 11 38)]
def Z4.r16:List Oper:=[oM 39 6,oD 40 (.ld true 2 11),oD 41 (.mlk [.i,.i] false (.b false) 39 40),oD 42 (.un .not 41)]
def Z4.r18:List Oper:=[oM 46 6,oD 47 (.ld true 2 11),oN (.mup [.i,.i] 46 47 (.c (.b true)))]
def Z4.r19:List Oper:=[oM 48 10,oD 49 (.ld true 2 11),oD 50 (.bsl 2 1 [.n 0,.n 0] [(0,2,.t 49)]),oD 51 (.app 2 16 48 50),oM 10 51]
def Z4.r20:List Oper:=[oD 52 (.ld true 2 11)]
def Z4.r21:List Oper:=[oD 11 (.alloc [.n 0,.n 0]),oN (.st 2 11 52)]
def Z4.r17:List Oper:=[oD 43 (.ld true 2 11),oM 44 0,oC 45 221 [43,44],oN (.st 2 11 45)]
def Z4.l0:Code:=.seq (.seq Z4.r16 (.cond 42 (.skip) (.exit 4))) (.seq (.block 5 (.seq Z4.r18 Z4.r19)) (.seq (.seq Z4.r20 Z4.r21) Z4.r17))
def Z4.r22:List Oper:=[oM 53 5,oM 54 10,oD 55 (.bsl 1 1 [.sn] [(0,1,.t 54)]),oD 56 (.app 1 24 53 55),oM 5 56]
def Z4.r23:List Oper:=[oD 57 (.bin .add 23 (cI 1)),oM 23 57]
def Z4.l1:Code:=.seq Z4.r10 (.seq (.cond 24 (.skip) (.exit 2)) (.seq (.block 3 (.seq Z4.r11 (.seq Z4.r12 (.seq (.seq Z4.r13 (.cond 37 (.exit 3) (.skip))) (.seq Z4.r14 (.seq (.seq Z4.r15 (.block 4 (.loop Z4.l0))) Z4.r22)))))) Z4.r23))
def Z4.r24:List Oper:=[oD 58 (.bin .add 20 (cI 1)),oM 20 58]
def Z4.l2:Code:=.seq Z4.r7 (.seq (.cond 21 (.skip) (.exit 0)) (.seq (.block 1 (.seq Z4.r8 (.seq Z4.r9 (.block 2 (.loop Z4.l1))))) Z4.r24))
def Z4.r25:List Oper:=[oM 59 5,oM 2 59,oM 3 (cI 0)]
def Z4.code:Code:=.seq Z4.r0 (.seq (.seq Z4.r1 (.seq Z4.r2 (.cond 15 (.seq Z4.r3 (.ret)) (.skip)))) (.seq Z4.r4 (.seq Z4.r5 (.seq (.seq Z4.r6 (.block 0 (.loop Z4.l2))) (.seq Z4.r25 (.ret))))))
def Z4:Func:=⟨60,[.t 2,.t 3],Z4.code⟩
/-! muntin/face.Turns -/
def zX.r0:List Oper:=[oM 4 (.c (.sn))]
def zX.r1:List Oper:=[oM 8 1,oD 9 (.len 8),oD 10 (.mks 1 8 [.n 0] 9 9),oM 5 10]
def zX.r2:List Oper:=[oM 11 0,oC 12 66 [11],oD 13 (.eq true .sc 12 (cI 0))]
def zX.r3:List Oper:=[oM 14 5,oM 4 14]
def zX.r4:List Oper:=[oM 15 1,oD 16 (.len 15),oM 17 (cI 0)]
def zX.r5:List Oper:=[oD 18 (.bin .lss 17 16)]
def zX.r6:List Oper:=[oM 19 17,oD 20 (.ixa 2 15 17),oD 21 (.ld true 2 20),oD 7 (.alloc [.n 0,.n 0]),oM 6 19,oN (.st 2 7 21)]
def zX.r7:List Oper:=[oD 22 (.ld true 2 7),oM 23 0,oC 24 220 [22,23]]
def zX.r8:List Oper:=[oM 25 5,oM 26 6,oD 27 (.fa 1 7),oD 28 (.ld false 1 27),oD 29 (.ld true 2 7),oM 30 0,oC 31 221 [29,30],oD 32 (.fld false 1 1 31),oC 33 222 [28,32],oD 34 (.ixa 1 25 26),oN (.st 1 34 33)]
def zX.r9:List Oper:=[oD 35 (.bin .add 17 (cI 1)),oM 17 35]
def zX.l0:Code:=.seq zX.r5 (.seq (.cond 18 (.skip) (.exit 0)) (.seq (.block 1 (.seq zX.r6 (.seq zX.r7 (.cond 24 (.draw zX.r8 [(3,4),(3,6)]) (.skip))))) zX.r9))
def zX.r10:List Oper:=[oM 36 5,oM 4 36]
def zX.code:Code:=.seq zX.r0 (.seq zX.r1 (.seq (.seq zX.r2 (.cond 13 (.seq zX.r3 (.ret)) (.skip))) (.seq (.seq zX.r4 (.block 0 (.loop zX.l0))) (.seq zX.r10 (.ret)))))
def zX:Func:=⟨37,[.t 4],zX.code⟩
/-! muntin/sep.lines -/
def z9.r0:List Oper:=[oD 1 (.box 0),oM 2 (.c (.sn))]
def z9.r1:List Oper:=[oM 3 (.c (.sn))]
def z9.r2:List Oper:=[oD 8 (.fa 2 1),oD 9 (.ld false 1 8),oD 10 (.len 9),oM 11 (cI 0)]
def z9.r3:List Oper:=[oD 12 (.bin .lss 11 10)]
def z9.r4:List Oper:=[oM 13 11,oD 14 (.ixa 1 9 11),oD 15 (.ld false 1 14),oM 4 13,oM 5 15]
def z9.r5:List Oper:=[oM 16 5,oD 17 (.len 16),oD 18 (.bin .gtr 17 (cI 1))]
def z9.r6:List Oper:=[oM 19 3,oM 20 4,oD 21 (.build [.b false,.n 0] [(0,1,.c (.b true)),(1,1,.t 20)]),oD 22 (.bsl 2 1 [.b false,.n 0] [(0,2,.t 21)]),oD 23 (.app 2 16 19 22),oM 3 23]
def z9.r7:List Oper:=[oD 24 (.bin .add 11 (cI 1)),oM 11 24]
def z9.l0:Code:=.seq z9.r3 (.seq (.cond 12 (.skip) (.exit 0)) (.seq (.block 1 (.seq z9.r4 (.seq z9.r5 (.cond 18 z9.r6 (.skip))))) z9.r7))
def z9.r8:List Oper:=[oD 25 (.fa 3 1),oD 26 (.ld false 1 25),oD 27 (.len 26),oM 28 (cI 0)]
def z9.r9:List Oper:=[oD 29 (.bin .lss 28 27)]
def z9.r10:List Oper:=[oM 30 28,oD 31 (.ixa 1 26 28),oD 32 (.ld false 1 31),oM 6 30,oM 7 32]
def z9.r11:List Oper:=[oM 33 7,oD 34 (.len 33),oD 35 (.bin .gtr 34 (cI 1))]
def z9.r12:List Oper:=[oM 36 3,oM 37 6,oD 38 (.build [.b false,.n 0] [(0,1,.c (.b false)),(1,1,.t 37)]),oD 39 (.bsl 2 1 [.b false,.n 0] [(0,2,.t 38)]),oD 40 (.app 2 16 36 39),oM 3 40]
def z9.r13:List Oper:=[oD 41 (.bin .add 28 (cI 1)),oM 28 41]
def z9.l1:Code:=.seq z9.r9 (.seq (.cond 29 (.skip) (.exit 2)) (.seq (.block 3 (.seq z9.r10 (.seq z9.r11 (.cond 35 z9.r12 (.skip))))) z9.r13))
def z9.r14:List Oper:=[oM 42 3,oM 2 42]
def z9.code:Code:=.seq z9.r0 (.seq z9.r1 (.seq (.seq z9.r2 (.block 0 (.loop z9.l0))) (.seq (.seq z9.r8 (.block 2 (.loop z9.l1))) (.seq z9.r14 (.ret)))))
def z9:Func:=⟨43,[.t 2],z9.code⟩
/-! muntin/sep.Settle -/
def ZC.r0:List Oper:=[oD 2 (.alloc [.sn,.sn,.sn,.sn,.sn,.sn,.sn]),oM 3 (cI 0)]
def ZC.r1:List Oper:=[oM 15 0,oC 16 176 [15],oM 4 16]
def ZC.r2:List Oper:=[oM 17 4,oD 18 (.eq true .sc 17 (cI 0))]
def ZC.r3:List Oper:=[oD 19 (.build [.sn,.sn,.sn,.sn,.sn,.sn,.sn] []),oM 20 4,oN (.st 7 2 19),oM 3 20]
def ZC.r4:List Oper:=[oM 22 0,oC 23 226 [22],oM 21 23,oD 24 (.ext 21 0),oD 25 (.ext 21 1),oM 5 24,oM 6 25]
def ZC.r5:List Oper:=[oM 7 (.c (.b true))]
def ZC.r6:List Oper:=[oM 26 7]
def ZC.r7:List Oper:=[oM 7 (.c (.b false))]
def ZC.r8:List Oper:=[oM 8 (.c (.sn))]
def ZC.r9:List Oper:=[oM 27 6,oD 28 (.len 27),oM 29 (cI 0)]
def ZC.r10:List Oper:=[oD 30 (.bin .lss 29 28)]
def ZC.r11:List Oper:=[oD 31 (.ixa 2 27 29),oD 32 (.ld true 2 31),oD 10 (.alloc [.n 0,.n 0]),oN (.st 2 10 32)]
def ZC.r12:List Oper:=[oM 34 5,oD 35 (.ixaa 1 2 10 (cI 0)),oD 36 (.ld false 1 35),oD 37 (.ixaa 1 2 10 (cI 1)),oD 38 (.ld false 1 37),oC 39 227 [34,36,38],oM 33 39,oD 40 (.ext 33 0),oD 41 (.ext 33 1),oM 11 40,oM 12 41]
def ZC.r13:List Oper:=[oM 42 7,oM 43 42,oF 44 43 (.mv 12),oD 45 (.pick 43 (.c (.b true)) 44),oM 7 45]
def ZC.r14:List Oper:=[oM 46 11,oD 47 (.un .not 46)]
def ZC.r15:List Oper:=[oM 48 8,oD 49 (.ld true 2 10),oD 50 (.bsl 2 1 [.n 0,.n 0] [(0,2,.t 49)]),oD 51 (.app 2 16 48 50),oM 8 51]
def ZC.r16:List Oper:=[oD 52 (.bin .add 29 (cI 1)),oM 29 52]
def ZC.l0:Code:=.seq ZC.r10 (.seq (.cond 30 (.skip) (.exit 2)) (.seq (.block 3 (.seq ZC.r11 (.seq ZC.r12 (.seq ZC.r13 (.seq ZC.r14 (.cond 47 ZC.r15 (.skip))))))) ZC.r16))
def ZC.r17:List Oper:=[oM 53 8,oM 6 53]
def ZC.l1:Code:=.seq (.seq ZC.r6 (.cond 26 (.skip) (.exit 0))) (.block 1 (.seq ZC.r7 (.seq ZC.r8 (.seq (.seq ZC.r9 (.block 2 (.loop ZC.l0))) ZC.r17))))
def ZC.r18:List Oper:=[oM 54 6,oD 55 (.len 54),oM 56 (cI 0)]
def ZC.r19:List Oper:=[oD 57 (.bin .lss 56 55)]
def ZC.r20:List Oper:=[oD 58 (.ixa 2 54 56),oD 59 (.ld true 2 58),oD 14 (.alloc [.n 0,.n 0]),oN (.st 2 14 59)]
def ZC.r21:List Oper:=[oM 60 5,oM 61 5,oD 62 (.nilck 61),oD 63 (.fa 0 62),oD 64 (.fa 6 63),oD 65 (.ld false 1 64),oM 66 5,oD 67 (.nilck 66),oD 68 (.fa 9 67),oD 69 (.ld false 1 68),oD 70 (.ixaa 1 2 14 (cI 0)),oD 71 (.ld false 1 70),oD 72 (.ixa 2 69 71),oD 73 (.ld true 2 72),oM 74 5,oD 75 (.nilck 74),oD 76 (.fa 9 75),oD 77 (.ld false 1 76),oD 78 (.ixaa 1 2 14 (cI 1)),oD 79 (.ld false 1 78),oD 80 (.ixa 2 77 79),oD 81 (.ld true 2 80),oD 82 (.build [.b false,.n 0,.b false,.n 0] [(0,2,.t 73),(2,2,.t 81)]),oD 83 (.bsl 4 1 [.b false,.n 0,.b false,.n 0] [(0,4,.t 82)]),oD 84 (.app 4 32 65 83),oD 85 (.nilck 60),oD 86 (.fa 0 85),oD 87 (.fa 6 86),oN (.st 1 87 84)]
def ZC.r22:List Oper:=[oD 88 (.bin .add 56 (cI 1)),oM 56 88]
def ZC.l2:Code:=.seq ZC.r19 (.seq (.cond 57 (.skip) (.exit 4)) (.seq (.block 5 (.seq ZC.r20 (.draw ZC.r21 [(5,9),(5,11),(9,11),(5,13),(5,17),(9,17),(11,17),(13,17),(5,19),(9,19),(11,19),(13,19),(17,19),(5,21),(9,21),(11,21),(13,21),(5,23)]))) ZC.r22))
def ZC.r23:List Oper:=[oM 89 5,oD 90 (.nilck 89),oD 91 (.fa 0 90),oD 92 (.ld true 7 91),oN (.st 7 2 92),oM 3 (cI 0)]
def ZC.code:Code:=.seq ZC.r0 (.seq (.seq ZC.r1 (.seq ZC.r2 (.cond 18 (.seq ZC.r3 (.ret)) (.skip)))) (.seq ZC.r4 (.seq (.seq ZC.r5 (.block 0 (.loop ZC.l1))) (.seq (.seq ZC.r18 (.block 4 (.loop ZC.l2))) (.seq ZC.r23 (.ret))))))
def ZC:Func:=⟨93,[.cell 2 true 7,.t 3],ZC.code⟩
/-! muntin/muntinlaw19.stick -/
def zl.r0:List Oper:=[oM 0 (.c (.sn))]
def zl.r1:List Oper:=[oC 4 46 [.c (.n 6)],oM 1 4]
def zl.r2:List Oper:=[oD 5 (.build [.n 0,.n 0,.n 0] [(0,1,.c (.n 0)),(1,1,.c (.n 0)),(2,1,.c (.n 1))]),oD 6 (.build [.n 0,.n 0,.n 0] [(0,1,.c (.n 1)),(1,1,.c (.n 1)),(2,1,.c (.n 2))]),oD 7 (.build [.n 0,.n 0,.n 0] [(0,1,.c (.n 2)),(1,1,.c (.n 2)),(2,1,.c (.n 3))]),oD 8 (.build [.n 0,.n 0,.n 0] [(0,1,.c (.n 3)),(1,1,.c (.n 3)),(2,1,.c (.n 4))]),oD 9 (.build [.n 0,.n 0,.n 0] [(0,1,.c (.n 4)),(1,1,.c (.n 3)),(2,1,.c (.n 0))]),oD 10 (.build [.n 0,.n 0,.n 0] [(0,1,.c (.n 4)),(1,1,.c (.n 0)),(2,1,.c (.n 5))]),oD 11 (.bsl 3 6 [.n 0,.n 0,.n 0] [(0,3,.t 5),(3,3,.t 6),(6,3,.t 7),(9,3,.t 8),(12,3,.t 9),(15,3,.t 10)]),oD 12 (.len 11),oM 13 (cI 0)]
def zl.r3:List Oper:=[oD 14 (.bin .lss 13 12)]
def zl.r4:List Oper:=[oD 15 (.ixa 3 11 13),oD 16 (.ld true 3 15),oD 3 (.alloc [.n 0,.n 0,.n 0]),oN (.st 3 3 16)]
def zl.r5:List Oper:=[oM 18 1,oD 19 (.ixaa 1 3 3 (cI 0)),oD 20 (.ld false 1 19),oD 21 (.ixaa 1 3 3 (cI 1)),oD 22 (.ld false 1 21),oD 23 (.ixaa 1 3 3 (cI 2)),oD 24 (.ld false 1 23),oC 25 53 [18,20,22,24,.c (.n 0)],oM 17 25,oD 26 (.ext 17 0),oD 27 (.ext 17 1),oM 1 26]
def zl.r6:List Oper:=[oD 28 (.bin .add 13 (cI 1)),oM 13 28]
def zl.l0:Code:=.seq zl.r3 (.seq (.cond 14 (.skip) (.exit 0)) (.seq (.block 1 (.seq zl.r4 zl.r5)) zl.r6))
def zl.r7:List Oper:=[oM 29 1,oM 0 29]
def zl.code:Code:=.seq zl.r0 (.seq zl.r1 (.seq (.seq zl.r2 (.block 0 (.loop zl.l0))) (.seq zl.r7 (.ret))))
def zl:Func:=⟨30,[.t 0],zl.code⟩
/-! muntin/face.Rotation -/
def zH.r0:List Oper:=[oM 2 (cI 0)]
def zH.r1:List Oper:=[oM 3 (cI 0)]
def zH.r2:List Oper:=[oM 6 0,oD 7 (.len 6),oM 8 (cI 0)]
def zH.r3:List Oper:=[oD 9 (.bin .lss 8 7)]
def zH.r4:List Oper:=[oD 10 (.ixa 1 6 8),oD 11 (.ld false 1 10),oM 5 11]
def zH.r5:List Oper:=[oM 12 5,oD 13 (.bin .geq 12 (cI (-2))),oM 14 13,oT 15 14 (.mv 5),oT 16 14 (.bin .leq 15 (cI 1)),oD 17 (.pick 14 16 (.c (.b false)))]
def zH.r6:List Oper:=[oM 18 3,oM 19 5,oD 20 (.bin .add 18 19),oM 3 20]
def zH.r7:List Oper:=[oD 21 (.bin .add 8 (cI 1)),oM 8 21]
def zH.l0:Code:=.seq zH.r3 (.seq (.cond 9 (.skip) (.exit 0)) (.seq (.block 1 (.seq zH.r4 (.seq zH.r5 (.cond 17 zH.r6 (.skip))))) zH.r7))
def zH.r8:List Oper:=[oM 22 3,oM 2 22]
def zH.code:Code:=.seq zH.r0 (.seq zH.r1 (.seq (.seq zH.r2 (.block 0 (.loop zH.l0))) (.seq zH.r8 (.ret))))
def zH:Func:=⟨23,[.t 2],zH.code⟩
/-! (muntin/face.Dart).is -/
def Zce.r0:List Oper:=[oD 2 (.box 0),oM 4 (.c (.b false))]
def Zce.r1:List Oper:=[oD 5 (.fa 0 2),oD 6 (.ld false 1 5),oD 7 (.bin .geq 6 (cI 0)),oM 8 7,oT 9 8 (.fa 0 2),oT 10 8 (.ld false 1 9),oT 11 8 (.mv 1),oT 12 8 (.len 11),oT 13 8 (.bin .lss 10 12),oD 14 (.pick 8 13 (.c (.b false))),oM 15 14,oT 16 15 (.fa 1 2),oT 17 15 (.ld false 1 16),oT 18 15 (.call (.c (.f 90 [])) [17]),oD 19 (.pick 15 18 (.c (.b false))),oM 20 19,oT 21 20 (.mv 1),oT 22 20 (.fa 0 2),oT 23 20 (.ld false 1 22),oT 24 20 (.fa 1 2),oT 25 20 (.ld false 1 24),oT 26 20 (.ixa 8 21 23),oT 27 20 (.fa 0 26),oT 28 20 (.ixaa 1 4 27 25),oT 29 20 (.ld false 1 28),oT 30 20 (.bin .geq 29 (cI 0)),oD 31 (.pick 20 30 (.c (.b false))),oM 4 31]
def Zce.code:Code:=.seq Zce.r0 (.seq (.draw Zce.r1 [(18,20)]) (.ret))
def Zce:Func:=⟨32,[.t 4],Zce.code⟩
/-! (muntin/face.Dart).behind -/
def zf.r0:List Oper:=[oD 2 (.box 0),oD 4 (.alloc [.n 0,.n 0])]
def zf.r1:List Oper:=[oM 9 1,oD 10 (.fa 0 2),oD 11 (.ld false 1 10),oD 12 (.fa 1 2),oD 13 (.ld false 1 12),oD 14 (.ixa 8 9 11),oD 15 (.fa 0 14),oD 16 (.ixaa 1 4 15 13),oD 17 (.ld false 1 16),oM 5 17]
def zf.r2:List Oper:=[oD 18 (.build [.n 0,.n 0,.n 0,.n 0] [(0,1,.c (.n 1)),(1,1,.c (.n 0)),(2,1,.c (.n (-1))),(3,1,.c (.n 2))]),oM 19 (cI 0)]
def zf.r3:List Oper:=[oD 20 (.bin .lss 19 (cI 4))]
def zf.r4:List Oper:=[oD 21 (.ix false 1 4 18 19),oM 7 21]
def zf.r5:List Oper:=[oM 22 5,oD 23 (.fa 1 2),oD 24 (.ld false 1 23),oM 25 7,oC 26 77 [24,25],oD 27 (.build [.n 0,.n 0] [(0,1,.t 22),(1,1,.t 26)]),oD 8 (.alloc [.n 0,.n 0]),oN (.st 2 8 27)]
def zf.r6:List Oper:=[oD 28 (.ld true 2 8),oM 29 1,oC 30 220 [28,29]]
def zf.r7:List Oper:=[oD 31 (.ld true 2 8),oN (.st 2 4 31)]
def zf.r8:List Oper:=[oD 32 (.bin .add 19 (cI 1)),oM 19 32]
def zf.l0:Code:=.seq zf.r3 (.seq (.cond 20 (.skip) (.exit 0)) (.seq (.block 1 (.seq zf.r4 (.seq zf.r5 (.seq zf.r6 (.cond 30 (.seq zf.r7 (.ret)) (.skip)))))) zf.r8))
def zf.r9:List Oper:=[oD 33 (.ld true 2 2),oN (.st 2 4 33)]
def zf.code:Code:=.seq zf.r0 (.seq (.draw zf.r1 [(2,4)]) (.seq (.seq zf.r2 (.block 0 (.loop zf.l0))) (.seq zf.r9 (.ret))))
def zf:Func:=⟨34,[.cell 4 true 2],zf.code⟩
/-! muntin/compass.Turn -/
def Zbq.r0:List Oper:=[oM 4 (cI 0)]
def Zbq.r1:List Oper:=[oM 5 0,oC 6 90 [5],oD 7 (.un .not 6),oM 8 7,oF 9 8 (.mv 1),oF 10 8 (.call (.c (.f 90 [])) [9]),oF 11 8 (.un .not 10),oD 12 (.pick 8 (.c (.b true)) 11)]
def Zbq.r2:List Oper:=[oM 4 (cI 0)]
def Zbq.r3:List Oper:=[oD 13 (.build [.n 0,.n 0,.n 0,.n 0] [(0,1,.c (.n 0)),(1,1,.c (.n 1)),(2,1,.c (.n (-2))),(3,1,.c (.n (-1)))]),oM 14 1,oM 15 0,oD 16 (.bin .sub 14 15),oD 17 (.bin .add 16 (cI 4)),oD 18 (.bin .rem 17 (cI 4)),oD 19 (.ix false 1 4 13 18),oM 4 19]
def Zbq.code:Code:=.seq Zbq.r0 (.seq (.seq Zbq.r1 (.cond 12 (.seq Zbq.r2 (.ret)) (.skip))) (.seq Zbq.r3 (.ret)))
def Zbq:Func:=⟨20,[.t 4],Zbq.code⟩
/-! muntin/sep.start -/
def Zy.r0:List Oper:=[oM 2 (.c (.pn)),oM 3 (.c (.sn))]
def Zy.r1:List Oper:=[oM 19 0,oC 20 129 [19],oM 18 20,oD 21 (.ext 18 0),oD 22 (.ext 18 1),oD 4 (.alloc [.sn,.sn,.sn,.sn,.sn,.sn]),oN (.st 6 4 21),oM 5 22]
def Zy.r2:List Oper:=[oD 23 (.ld true 6 4),oD 24 (.build [.sn,.sn,.sn,.sn,.sn,.sn,.sn] [(0,6,.t 23)]),oD 25 (.fa 0 4),oD 26 (.ld true 4 25),oC 27 209 [26],oD 28 (.build [.sn,.sn,.sn,.sn,.sn,.sn,.sn,.pn,.pn,.sn,.sn] [(0,7,.t 24),(9,1,.t 27)]),oD 29 (.box 28),oM 6 29]
def Zy.r3:List Oper:=[oM 31 6,oD 32 (.fa 0 4),oD 33 (.fa 2 32),oD 34 (.ld false 1 33),oD 35 (.len 34),oC 36 232 [35],oM 30 36,oD 37 (.ext 30 0),oD 38 (.ext 30 1),oD 39 (.nilck 31),oD 40 (.fa 7 39),oN (.st 1 40 37)]
def Zy.r4:List Oper:=[oM 42 6,oD 43 (.fa 0 4),oD 44 (.fa 3 43),oD 45 (.ld false 1 44),oD 46 (.len 45),oC 47 232 [46],oM 41 47,oD 48 (.ext 41 0),oD 49 (.ext 41 1),oD 50 (.nilck 42),oD 51 (.fa 8 50),oN (.st 1 51 48)]
def Zy.r5:List Oper:=[oD 52 (.fa 4 4),oD 53 (.ld false 1 52),oD 54 (.len 53),oM 55 (cI 0)]
def Zy.r6:List Oper:=[oD 56 (.bin .lss 55 54)]
def Zy.r7:List Oper:=[oD 57 (.ixa 3 53 55),oD 58 (.ld true 3 57),oD 8 (.alloc [.n 0,.n 0,.n 0]),oN (.st 3 8 58)]
def Zy.r8:List Oper:=[oM 59 6,oD 60 (.nilck 59),oD 61 (.fa 7 60),oD 62 (.ld false 1 61),oD 63 (.fa 0 8),oD 64 (.ld false 1 63),oD 65 (.fa 1 8),oD 66 (.ld false 1 65),oC 67 233 [62,64,66]]
def Zy.r9:List Oper:=[oD 68 (.bin .add 55 (cI 1)),oM 55 68]
def Zy.l0:Code:=.seq Zy.r6 (.seq (.cond 56 (.skip) (.exit 0)) (.seq (.block 1 (.seq Zy.r7 (.draw Zy.r8 [(3,5),(3,7),(5,7)]))) Zy.r9))
def Zy.r10:List Oper:=[oD 69 (.fa 5 4),oD 70 (.ld false 1 69),oD 71 (.len 70),oM 72 (cI 0)]
def Zy.r11:List Oper:=[oD 73 (.bin .lss 72 71)]
def Zy.r12:List Oper:=[oD 74 (.ixa 3 70 72),oD 75 (.ld true 3 74),oD 10 (.alloc [.n 0,.n 0,.n 0]),oN (.st 3 10 75)]
def Zy.r13:List Oper:=[oM 76 6,oD 77 (.nilck 76),oD 78 (.fa 8 77),oD 79 (.ld false 1 78),oD 80 (.fa 0 10),oD 81 (.ld false 1 80),oD 82 (.fa 1 10),oD 83 (.ld false 1 82),oC 84 233 [79,81,83]]
def Zy.r14:List Oper:=[oD 85 (.bin .add 72 (cI 1)),oM 72 85]
def Zy.l1:Code:=.seq Zy.r11 (.seq (.cond 73 (.skip) (.exit 2)) (.seq (.block 3 (.seq Zy.r12 (.draw Zy.r13 [(3,5),(3,7),(5,7)]))) Zy.r14))
def Zy.r15:List Oper:=[oM 86 6,oD 87 (.nilck 86),oD 88 (.fa 9 87),oD 89 (.ld false 1 88),oD 90 (.len 89),oM 91 (cI 0)]
def Zy.r16:List Oper:=[oD 92 (.bin .lss 91 90)]
def Zy.r17:List Oper:=[oD 93 (.ixa 2 89 91),oD 94 (.ld true 2 93),oD 12 (.alloc [.b false,.n 0]),oN (.st 2 12 94)]
def Zy.r18:List Oper:=[oM 95 6,oM 96 6,oD 97 (.nilck 96),oD 98 (.fa 10 97),oD 99 (.ld false 1 98),oD 100 (.fa 0 4),oD 101 (.ld true 4 100),oD 102 (.ld true 2 12),oC 103 234 [101,102],oD 104 (.bsl 4 1 [.n 0,.n 0,.n 0,.n 0] [(0,4,.t 103)]),oD 105 (.app 4 32 99 104),oD 106 (.nilck 95),oD 107 (.fa 10 106),oN (.st 1 107 105)]
def Zy.r19:List Oper:=[oD 108 (.bin .add 91 (cI 1)),oM 91 108]
def Zy.l2:Code:=.seq Zy.r16 (.seq (.cond 92 (.skip) (.exit 4)) (.seq (.block 5 (.seq Zy.r17 (.draw Zy.r18 [(4,6),(4,7),(6,7),(4,8),(4,9)]))) Zy.r19))
def Zy.r20:List Oper:=[oM 13 (.c (.sn))]
def Zy.r21:List Oper:=[oM 109 6,oD 110 (.nilck 109),oD 111 (.fa 9 110),oD 112 (.ld false 1 111),oD 113 (.len 112),oM 114 (cI 0)]
def Zy.r22:List Oper:=[oD 115 (.bin .lss 114 113)]
def Zy.r23:List Oper:=[oM 116 114,oD 117 (.ixa 2 112 114),oD 118 (.ld true 2 117),oD 15 (.alloc [.b false,.n 0]),oM 14 116,oN (.st 2 15 118)]
def Zy.r24:List Oper:=[oM 119 14,oD 120 (.bin .add 119 (cI 1)),oM 16 120]
def Zy.r25:List Oper:=[oM 121 16,oM 122 6,oD 123 (.nilck 122),oD 124 (.fa 9 123),oD 125 (.ld false 1 124),oD 126 (.len 125),oD 127 (.bin .lss 121 126)]
def Zy.r27:List Oper:=[oM 130 6,oD 131 (.nilck 130),oD 132 (.fa 9 131),oD 133 (.ld false 1 132),oM 134 16,oD 135 (.ixa 2 133 134),oD 136 (.ld true 2 135),oD 17 (.alloc [.b false,.n 0]),oN (.st 2 17 136)]
def Zy.r28:List Oper:=[oD 137 (.fa 0 4),oD 138 (.ld true 4 137),oD 139 (.fa 0 15),oD 140 (.ld false 1 139),oD 141 (.fa 1 15),oD 142 (.ld false 1 141),oD 143 (.fa 0 17),oD 144 (.ld false 1 143),oD 145 (.fa 1 17),oD 146 (.ld false 1 145),oC 147 123 [138,140,142,144,146],oD 148 (.un .not 147)]
def Zy.r29:List Oper:=[oM 149 13,oM 150 14,oM 151 16,oD 152 (.build [.n 0,.n 0] [(0,1,.t 150),(1,1,.t 151)]),oD 153 (.bsl 2 1 [.n 0,.n 0] [(0,2,.t 152)]),oD 154 (.app 2 16 149 153),oM 13 154]
def Zy.r26:List Oper:=[oM 128 16,oD 129 (.bin .add 128 (cI 1)),oM 16 129]
def Zy.l3:Code:=.seq (.seq Zy.r25 (.cond 127 (.skip) (.exit 8))) (.seq (.block 9 (.seq Zy.r27 (.seq Zy.r28 (.cond 148 Zy.r29 (.skip))))) Zy.r26)
def Zy.r30:List Oper:=[oD 155 (.bin .add 114 (cI 1)),oM 114 155]
def Zy.l4:Code:=.seq Zy.r22 (.seq (.cond 115 (.skip) (.exit 6)) (.seq (.block 7 (.seq Zy.r23 (.seq Zy.r24 (.block 8 (.loop Zy.l3))))) Zy.r30))
def Zy.r31:List Oper:=[oM 156 6,oM 157 13,oM 2 156,oM 3 157]
def Zy.code:Code:=.seq Zy.r0 (.seq Zy.r1 (.seq (.draw Zy.r2 [(0,3),(0,4)]) (.seq Zy.r3 (.seq Zy.r4 (.seq (.seq Zy.r5 (.block 0 (.loop Zy.l0))) (.seq (.seq Zy.r10 (.block 2 (.loop Zy.l1))) (.seq (.seq Zy.r15 (.block 4 (.loop Zy.l2))) (.seq Zy.r20 (.seq (.seq Zy.r21 (.block 6 (.loop Zy.l4))) (.seq Zy.r31 (.ret)))))))))))
def Zy:Func:=⟨158,[.t 2,.t 3],Zy.code⟩
/-! (*muntin/sep.settler).look -/
def zu.r0:List Oper:=[oD 3 (.box 0),oM 6 (.c (.b false)),oM 7 (.c (.b false))]
def zu.r1:List Oper:=[oD 10 (.ld false 1 3),oM 11 1,oM 12 2,oC 13 235 [10,11,12],oD 8 (.alloc [.b false,.n 0,.n 0,.b false,.n 0,.n 0,.b false,.n 0,.n 0,.b false,.n 0,.n 0]),oN (.st 12 8 13)]
def zu.r2:List Oper:=[oD 14 (.slca 3 4 8 none none none),oD 15 (.ld false 1 3),oD 16 (.clo 1000237 [15]),oC 17 236 [14,16]]
def zu.r3:List Oper:=[oM 6 (.c (.b true)),oM 7 (.c (.b false))]
def zu.r4:List Oper:=[oD 18 (.slca 3 4 8 none none none),oD 19 (.clo 239 [3]),oC 20 238 [18,19],oM 9 20]
def zu.r5:List Oper:=[oM 21 9,oD 22 (.len 21),oD 23 (.eq true .sc 22 (cI 1))]
def zu.r6:List Oper:=[oM 6 (.c (.b false)),oM 7 (.c (.b false))]
def zu.r7:List Oper:=[oD 24 (.ld false 1 3),oM 25 9,oD 26 (.ixa 3 25 (cI 0)),oD 27 (.ld true 3 26),oC 28 241 [24,27]]
def zu.r8:List Oper:=[oM 6 (.c (.b true)),oM 7 (.c (.b true))]
def zu.code:Code:=.seq zu.r0 (.seq zu.r1 (.seq (.seq (.draw zu.r2 [(0,1)]) (.cond 17 (.seq zu.r3 (.ret)) (.skip))) (.seq zu.r4 (.seq (.seq zu.r5 (.cond 23 (.seq zu.r6 (.ret)) (.skip))) (.seq (.draw zu.r7 [(0,3)]) (.seq zu.r8 (.ret)))))))
def zu:Func:=⟨29,[.t 6,.t 7],zu.code⟩
/-! muntin/reach.New -/
def Zaw.r0:List Oper:=[oM 2 (.c (.pn)),oM 3 (cI 0)]
def Zaw.r1:List Oper:=[oM 6 0,oD 7 (.bin .lss 6 (cI 0)),oM 8 7,oF 9 8 (.mv 0),oF 10 8 (.bin .gtr 9 (cI 4096)),oD 11 (.pick 8 (.c (.b true)) 10)]
def Zaw.r2:List Oper:=[oM 2 (.c (.pn)),oM 3 (cI 2)]
def Zaw.r3:List Oper:=[oM 12 0,oD 13 (.mks 1 24 [.sn] 12 12),oD 14 (.build [.sn] [(0,1,.t 13)]),oD 15 (.box 14),oM 4 15]
def Zaw.r4:List Oper:=[oM 16 4,oD 17 (.nilck 16),oD 18 (.fa 0 17),oD 19 (.ld false 1 18),oD 20 (.len 19),oM 21 (cI 0)]
def Zaw.r5:List Oper:=[oD 22 (.bin .lss 21 20)]
def Zaw.r6:List Oper:=[oM 23 21,oM 5 23]
def Zaw.r7:List Oper:=[oM 24 4,oD 25 (.nilck 24),oD 26 (.fa 0 25),oD 27 (.ld false 1 26),oM 28 5,oM 29 0,oD 30 (.bin .add 29 (cI 64)),oD 31 (.bin .sub 30 (cI 1)),oD 32 (.bin .quo 31 (cI 64)),oD 33 (.mks 1 8 [.i .u64 0] 32 32),oD 34 (.ixa 1 27 28),oN (.st 1 34 33)]
def Zaw.r8:List Oper:=[oD 35 (.bin .add 21 (cI 1)),oM 21 35]
def Zaw.l0:Code:=.seq Zaw.r5 (.seq (.cond 22 (.skip) (.exit 0)) (.seq (.block 1 (.seq Zaw.r6 (.draw Zaw.r7 [(3,9)]))) Zaw.r8))
def Zaw.r9:List Oper:=[oM 36 4,oM 2 36,oM 3 (cI 0)]
def Zaw.code:Code:=.seq Zaw.r0 (.seq (.seq Zaw.r1 (.cond 11 (.seq Zaw.r2 (.ret)) (.skip))) (.seq Zaw.r3 (.seq (.seq Zaw.r4 (.block 0 (.loop Zaw.l0))) (.seq Zaw.r9 (.ret)))))
def Zaw:Func:=⟨37,[.t 2,.t 3],Zaw.code⟩
/-! (*muntin/reach.Reach).Add -/
def Zv.r0:List Oper:=[oM 6 (cI 0)]
def Zv.r1:List Oper:=[oM 12 0,oD 13 (.eq false .pt 12 (.c (.pn))),oM 11 13]
def Zv.r2:List Oper:=[oM 6 (cI 1)]
def Zv.r3:List Oper:=[oM 15 0,oM 16 1,oC 17 242 [15,16],oD 18 (.un .not 17),oM 19 18,oF 20 19 (.mv 0),oF 21 19 (.mv 2),oF 22 19 (.call (.c (.f 242 [])) [20,21]),oF 23 19 (.un .not 22),oD 24 (.pick 19 (.c (.b true)) 23),oM 14 24]
def Zv.r4:List Oper:=[oM 6 (cI 2)]
def Zv.r5:List Oper:=[oM 26 0,oM 27 1,oM 28 2,oC 29 243 [26,27,28],oM 25 29]
def Zv.r6:List Oper:=[oM 6 (cI 0)]
def Zv.r7:List Oper:=[oM 30 0,oD 31 (.nilck 30),oD 32 (.fa 0 31),oD 33 (.ld false 1 32),oM 34 2,oD 35 (.ixa 1 33 34),oD 36 (.ld false 1 35),oC 37 244 [36],oM 7 37]
def Zv.r8:List Oper:=[oM 38 7,oM 39 2,oD 40 (.bin .quo 39 (cI 64)),oD 41 (.ixa 1 38 40),oD 42 (.ld false 1 41),oM 43 2,oD 44 (.bin .rem 43 (cI 64)),oD 45 (.bin .shl (.c (.i .u64 1)) 44),oD 46 (.bin .or 42 45),oD 47 (.ixa 1 38 40),oN (.st 1 47 46)]
def Zv.r9:List Oper:=[oM 48 0,oD 49 (.nilck 48),oD 50 (.fa 0 49),oD 51 (.ld false 1 50),oD 52 (.len 51),oM 53 (cI 0)]
def Zv.r10:List Oper:=[oD 54 (.bin .lss 53 52)]
def Zv.r11:List Oper:=[oM 55 53,oM 8 55]
def Zv.r12:List Oper:=[oM 56 8,oM 57 1,oD 58 (.eq true .sc 56 57),oM 59 58,oT 60 59 (.mv 0),oT 61 59 (.mv 8),oT 62 59 (.mv 1),oT 63 59 (.call (.c (.f 243 [])) [60,61,62]),oT 64 59 (.un .not 63),oD 65 (.pick 59 64 (.c (.b false)))]
def Zv.r13:List Oper:=[oM 66 7,oD 67 (.len 66),oM 68 (cI 0)]
def Zv.r14:List Oper:=[oD 69 (.bin .lss 68 67)]
def Zv.r15:List Oper:=[oM 70 68,oD 71 (.ixa 1 66 68),oD 72 (.ld false 1 71),oM 9 70,oM 10 72]
def Zv.r16:List Oper:=[oM 73 0,oD 74 (.nilck 73),oD 75 (.fa 0 74),oD 76 (.ld false 1 75),oM 77 8,oD 78 (.ixa 1 76 77),oD 79 (.ld false 1 78),oM 80 9,oD 81 (.ixa 1 79 80),oD 82 (.ld false 1 81),oM 83 10,oD 84 (.bin .or 82 83),oD 85 (.ixa 1 79 80),oN (.st 1 85 84)]
def Zv.r17:List Oper:=[oD 86 (.bin .add 68 (cI 1)),oM 68 86]
def Zv.l0:Code:=.seq Zv.r14 (.seq (.cond 69 (.skip) (.exit 3)) (.seq (.block 4 (.seq Zv.r15 Zv.r16)) Zv.r17))
def Zv.r18:List Oper:=[oD 87 (.bin .add 53 (cI 1)),oM 53 87]
def Zv.l1:Code:=.seq Zv.r10 (.seq (.cond 54 (.skip) (.exit 1)) (.seq (.block 2 (.seq Zv.r11 (.seq (.seq Zv.r12 (.cond 65 (.exit 2) (.skip))) (.seq Zv.r13 (.block 3 (.loop Zv.l0)))))) Zv.r18))
def Zv.r19:List Oper:=[oM 6 (cI 0)]
def Zv.code:Code:=.seq Zv.r0 (.seq (.block 0 (.seq Zv.r1 (.cond 11 (.seq Zv.r2 (.ret)) (.seq Zv.r3 (.cond 14 (.seq Zv.r4 (.ret)) (.seq Zv.r5 (.cond 25 (.seq Zv.r6 (.ret)) (.skip)))))))) (.seq Zv.r7 (.seq (.draw Zv.r8 []) (.seq (.seq Zv.r9 (.block 1 (.loop Zv.l1))) (.seq Zv.r19 (.ret))))))
def Zv:Func:=⟨88,[.t 6],Zv.code⟩
/-! muntin/sep.of -/
def Zcy.r0:List Oper:=[oD 2 (.box 0),oD 3 (.box 1),oD 4 (.alloc [.n 0,.n 0,.n 0,.n 0])]
def Zcy.r1:List Oper:=[oD 8 (.ld true 4 2),oD 9 (.fa 0 3),oD 10 (.ld false 1 9),oD 11 (.fa 1 3),oD 12 (.ld false 1 11),oC 13 126 [8,10,12],oM 7 13,oD 14 (.ext 7 0),oD 15 (.ext 7 1),oM 5 14,oM 6 15]
def Zcy.r2:List Oper:=[oD 16 (.fa 0 3),oD 17 (.ld false 1 16)]
def Zcy.r3:List Oper:=[oD 18 (.fa 1 3),oD 19 (.ld false 1 18),oD 20 (.fa 1 3),oD 21 (.ld false 1 20),oM 22 5,oM 23 6,oD 24 (.build [.n 0,.n 0,.n 0,.n 0] [(0,1,.t 19),(1,1,.t 21),(2,1,.t 22),(3,1,.t 23)]),oN (.st 4 4 24)]
def Zcy.r4:List Oper:=[oM 25 5,oM 26 6,oD 27 (.fa 1 3),oD 28 (.ld false 1 27),oD 29 (.fa 1 3),oD 30 (.ld false 1 29),oD 31 (.build [.n 0,.n 0,.n 0,.n 0] [(0,1,.t 25),(1,1,.t 26),(2,1,.t 28),(3,1,.t 30)]),oN (.st 4 4 31)]
def Zcy.code:Code:=.seq Zcy.r0 (.seq Zcy.r1 (.seq (.seq Zcy.r2 (.cond 17 (.seq Zcy.r3 (.ret)) (.skip))) (.seq Zcy.r4 (.ret))))
def Zcy:Func:=⟨32,[.cell 4 true 4],Zcy.code⟩
/-! (*muntin/sep.settler).ways -/
def ZaZ.r0:List Oper:=[oD 6 (.alloc [.b false,.n 0,.n 0,.b false,.n 0,.n 0,.b false,.n 0,.n 0,.b false,.n 0,.n 0])]
def ZaZ.r1:List Oper:=[oM 9 0,oD 10 (.nilck 9),oD 11 (.fa 10 10),oD 12 (.ld false 1 11),oM 13 1,oD 14 (.ixa 4 12 13),oD 15 (.ld true 4 14),oM 16 0,oD 17 (.nilck 16),oD 18 (.fa 10 17),oD 19 (.ld false 1 18),oM 20 2,oD 21 (.ixa 4 19 20),oD 22 (.ld true 4 21),oD 7 (.alloc [.n 0,.n 0,.n 0,.n 0]),oD 8 (.alloc [.n 0,.n 0,.n 0,.n 0]),oN (.st 4 7 15),oN (.st 4 8 22)]
def ZaZ.r2:List Oper:=[oD 23 (.fa 1 7),oD 24 (.ld false 1 23),oD 25 (.fa 0 8),oD 26 (.ld false 1 25),oD 27 (.build [.b false,.n 0,.n 0] [(0,1,.c (.b true)),(1,1,.t 24),(2,1,.t 26)]),oD 28 (.fa 1 8),oD 29 (.ld false 1 28),oD 30 (.fa 0 7),oD 31 (.ld false 1 30),oD 32 (.build [.b false,.n 0,.n 0] [(0,1,.c (.b true)),(1,1,.t 29),(2,1,.t 31)]),oD 33 (.fa 3 7),oD 34 (.ld false 1 33),oD 35 (.fa 2 8),oD 36 (.ld false 1 35),oD 37 (.build [.b false,.n 0,.n 0] [(0,1,.c (.b false)),(1,1,.t 34),(2,1,.t 36)]),oD 38 (.fa 3 8),oD 39 (.ld false 1 38),oD 40 (.fa 2 7),oD 41 (.ld false 1 40),oD 42 (.build [.b false,.n 0,.n 0] [(0,1,.c (.b false)),(1,1,.t 39),(2,1,.t 41)]),oD 43 (.build [.b false,.n 0,.n 0,.b false,.n 0,.n 0,.b false,.n 0,.n 0,.b false,.n 0,.n 0] [(0,3,.t 27),(3,3,.t 32),(6,3,.t 37),(9,3,.t 42)]),oN (.st 12 6 43)]
def ZaZ.code:Code:=.seq ZaZ.r0 (.seq (.draw ZaZ.r1 [(3,10),(6,10),(3,13),(6,13),(3,14),(6,14),(10,14),(13,14),(3,15),(6,15),(10,15),(13,15),(14,15),(10,16),(13,16)]) (.seq ZaZ.r2 (.ret)))
def ZaZ:Func:=⟨44,[.cell 6 true 12],ZaZ.code⟩
/-! slices.ContainsFunc[[]muntin/sep.way,muntin/sep.way] -/
def Zal.r0:List Oper:=[oM 4 (.c (.b false))]
def Zal.r1:List Oper:=[oM 5 0,oM 6 1,oC 7 245 [5,6],oD 8 (.bin .geq 7 (cI 0)),oM 4 8]
def Zal.code:Code:=.seq Zal.r0 (.seq Zal.r1 (.ret))
def Zal:Func:=⟨9,[.t 4],Zal.code⟩
/-! (*muntin/sep.settler).is -/
def ZbI.r0:List Oper:=[oD 3 (.box 1),oM 4 (.c (.b false))]
def ZbI.r1:List Oper:=[oM 5 0,oD 6 (.ld true 3 3),oC 7 246 [5,6],oD 8 (.fa 1 3),oD 9 (.ld false 1 8),oD 10 (.fa 2 3),oD 11 (.ld false 1 10),oC 12 243 [7,9,11],oM 4 12]
def ZbI.code:Code:=.seq ZbI.r0 (.seq (.draw ZbI.r1 [(1,4),(2,4),(1,6),(2,6),(4,6)]) (.ret))
def ZbI:Func:=⟨13,[.t 4],ZbI.code⟩
/-! slices.DeleteFunc[[]muntin/sep.way,muntin/sep.way] -/
def Zp.r0:List Oper:=[oM 4 (.c (.sn))]
def Zp.r1:List Oper:=[oM 8 0,oM 9 1,oC 10 245 [8,9],oM 5 10]
def Zp.r2:List Oper:=[oM 11 5,oD 12 (.eq false .sc 11 (cI (-1)))]
def Zp.r3:List Oper:=[oM 13 0,oM 4 13]
def Zp.r4:List Oper:=[oM 14 5,oD 15 (.bin .add 14 (cI 1)),oM 6 15]
def Zp.r5:List Oper:=[oM 16 6,oM 17 0,oD 18 (.len 17),oD 19 (.bin .lss 16 18)]
def Zp.r7:List Oper:=[oM 22 0,oM 23 6,oD 24 (.ixa 3 22 23),oD 25 (.ld true 3 24),oD 7 (.alloc [.b false,.n 0,.n 0]),oN (.st 3 7 25)]
def Zp.r8:List Oper:=[oM 26 1,oD 27 (.ld true 3 7),oD 28 (.call 26 [27]),oD 29 (.un .not 28)]
def Zp.r9:List Oper:=[oM 30 0,oM 31 5,oD 32 (.ld true 3 7),oD 33 (.ixa 3 30 31),oN (.st 3 33 32)]
def Zp.r10:List Oper:=[oM 34 5,oD 35 (.bin .add 34 (cI 1)),oM 5 35]
def Zp.r6:List Oper:=[oM 20 6,oD 21 (.bin .add 20 (cI 1)),oM 6 21]
def Zp.l0:Code:=.seq (.seq Zp.r5 (.cond 19 (.skip) (.exit 0))) (.seq (.block 1 (.seq Zp.r7 (.seq Zp.r8 (.cond 29 (.seq Zp.r9 Zp.r10) (.skip))))) Zp.r6)
def Zp.r11:List Oper:=[oM 36 0,oM 37 5,oD 38 (.slc 3 36 (some 37) none none),oN (.clr [.b false,.n 0,.n 0] 38)]
def Zp.r12:List Oper:=[oM 39 0,oM 40 5,oD 41 (.slc 3 39 none (some 40) none),oM 4 41]
def Zp.code:Code:=.seq Zp.r0 (.seq Zp.r1 (.seq (.seq Zp.r2 (.cond 12 (.seq Zp.r3 (.ret)) (.skip))) (.seq (.seq Zp.r4 (.block 0 (.loop Zp.l0))) (.seq Zp.r11 (.seq Zp.r12 (.ret))))))
def Zp:Func:=⟨42,[.t 4],Zp.code⟩
/-! (*muntin/sep.settler).look$1 -/
def Zbj.r0:List Oper:=[oD 2 (.box 0),oM 3 (.c (.b false))]
def Zbj.r1:List Oper:=[oD 4 (.ld false 1 1),oD 5 (.ld true 3 2),oC 6 240 [4,5],oD 7 (.un .not 6),oM 3 7]
def Zbj.code:Code:=.seq Zbj.r0 (.seq Zbj.r1 (.ret))
def Zbj:Func:=⟨8,[.t 3],Zbj.code⟩
/-! (*muntin/sep.settler).can -/
def Zb8.r0:List Oper:=[oD 3 (.box 1),oM 4 (.c (.b false))]
def Zb8.r1:List Oper:=[oD 5 (.fa 1 3),oD 6 (.ld false 1 5),oD 7 (.fa 2 3),oD 8 (.ld false 1 7),oD 9 (.eq true .sc 6 8),oM 10 9,oT 11 10 (.mv 0),oT 12 10 (.ld true 3 3),oT 13 10 (.call (.c (.f 246 [])) [11,12]),oT 14 10 (.fa 2 3),oT 15 10 (.ld false 1 14),oT 16 10 (.fa 1 3),oT 17 10 (.ld false 1 16),oT 18 10 (.call (.c (.f 243 [])) [13,15,17]),oT 19 10 (.un .not 18),oD 20 (.pick 10 19 (.c (.b false))),oM 4 20]
def Zb8.code:Code:=.seq Zb8.r0 (.seq (.draw Zb8.r1 [(1,3),(7,10),(8,10),(7,12),(8,12),(10,12)]) (.ret))
def Zb8:Func:=⟨21,[.t 4],Zb8.code⟩
/-! (*muntin/sep.settler).force -/
def zS.r0:List Oper:=[oD 3 (.box 1)]
def zS.r1:List Oper:=[oM 5 0,oD 6 (.ld true 3 3),oC 7 246 [5,6],oD 8 (.fa 1 3),oD 9 (.ld false 1 8),oD 10 (.fa 2 3),oD 11 (.ld false 1 10),oC 12 233 [7,9,11]]
def zS.r2:List Oper:=[oD 13 (.fa 1 3),oD 14 (.ld false 1 13),oD 15 (.fa 2 3),oD 16 (.ld false 1 15),oD 17 (.build [.n 0,.n 0,.n 0] [(0,1,.t 14),(1,1,.t 16)]),oD 4 (.alloc [.n 0,.n 0,.n 0]),oN (.st 3 4 17)]
def zS.r3:List Oper:=[oD 18 (.fa 0 3),oD 19 (.ld false 1 18)]
def zS.r4:List Oper:=[oM 20 0,oM 21 0,oD 22 (.nilck 21),oD 23 (.fa 0 22),oD 24 (.fa 0 23),oD 25 (.fa 4 24),oD 26 (.ld false 1 25),oD 27 (.ld true 3 4),oD 28 (.bsl 3 1 [.n 0,.n 0,.n 0] [(0,3,.t 27)]),oD 29 (.app 3 24 26 28),oD 30 (.nilck 20),oD 31 (.fa 0 30),oD 32 (.fa 0 31),oD 33 (.fa 4 32),oN (.st 1 33 29)]
def zS.r5:List Oper:=[oM 34 0,oM 35 0,oD 36 (.nilck 35),oD 37 (.fa 0 36),oD 38 (.fa 0 37),oD 39 (.fa 5 38),oD 40 (.ld false 1 39),oD 41 (.ld true 3 4),oD 42 (.bsl 3 1 [.n 0,.n 0,.n 0] [(0,3,.t 41)]),oD 43 (.app 3 24 40 42),oD 44 (.nilck 34),oD 45 (.fa 0 44),oD 46 (.fa 0 45),oD 47 (.fa 5 46),oN (.st 1 47 43)]
def zS.code:Code:=.seq zS.r0 (.seq (.draw zS.r1 [(1,4),(2,4),(1,6),(2,6),(4,6)]) (.seq zS.r2 (.seq zS.r3 (.cond 19 (.draw zS.r4 [(6,7),(6,8)]) (.draw zS.r5 [(6,7),(6,8)])))))
def zS:Func:=⟨48,[],zS.code⟩
/-! (*muntin/reach.Reach).is -/
def ZbH.r0:List Oper:=[oM 4 (.c (.b false))]
def ZbH.r1:List Oper:=[oM 5 0,oD 6 (.eq true .pt 5 (.c (.pn))),oM 7 6,oT 8 7 (.mv 1),oT 9 7 (.bin .geq 8 (cI 0)),oD 10 (.pick 7 9 (.c (.b false))),oM 11 10,oT 12 11 (.mv 1),oT 13 11 (.mv 0),oT 14 11 (.nilck 13),oT 15 11 (.fa 0 14),oT 16 11 (.ld false 1 15),oT 17 11 (.len 16),oT 18 11 (.bin .lss 12 17),oD 19 (.pick 11 18 (.c (.b false))),oM 4 19]
def ZbH.code:Code:=.seq ZbH.r0 (.seq ZbH.r1 (.ret))
def ZbH:Func:=⟨20,[.t 4],ZbH.code⟩
/-! (*muntin/reach.Reach).Has -/
def Zb7.r0:List Oper:=[oM 6 (.c (.b false))]
def Zb7.r1:List Oper:=[oM 7 0,oM 8 1,oC 9 242 [7,8],oM 10 9,oT 11 10 (.mv 0),oT 12 10 (.mv 2),oT 13 10 (.call (.c (.f 242 [])) [11,12]),oD 14 (.pick 10 13 (.c (.b false))),oM 15 14,oT 16 15 (.mv 0),oT 17 15 (.nilck 16),oT 18 15 (.fa 0 17),oT 19 15 (.ld false 1 18),oT 20 15 (.mv 1),oT 21 15 (.ixa 1 19 20),oT 22 15 (.ld false 1 21),oT 23 15 (.mv 2),oT 24 15 (.bin .quo 23 (cI 64)),oT 25 15 (.ixa 1 22 24),oT 26 15 (.ld false 1 25),oT 27 15 (.mv 2),oT 28 15 (.bin .rem 27 (cI 64)),oT 29 15 (.bin .shr 26 28),oT 30 15 (.bin .and 29 (.c (.i .u64 1))),oT 31 15 (.eq false .sc 30 (.c (.i .u64 1))),oD 32 (.pick 15 31 (.c (.b false))),oM 6 32]
def Zb7.code:Code:=.seq Zb7.r0 (.seq Zb7.r1 (.ret))
def Zb7:Func:=⟨33,[.t 6],Zb7.code⟩
/-! slices.Clone[[]uint64,uint64] -/
def Zan.r0:List Oper:=[oM 2 (.c (.sn))]
def Zan.r1:List Oper:=[oM 3 0,oD 4 (.eq false .sl 3 (.c (.sn)))]
def Zan.r2:List Oper:=[oM 2 (.c (.sn))]
def Zan.r3:List Oper:=[oD 5 (.bsl 1 0 [.i .u64 0] []),oM 6 0,oD 7 (.app 1 8 5 6),oM 2 7]
def Zan.code:Code:=.seq Zan.r0 (.seq (.seq Zan.r1 (.cond 4 (.seq Zan.r2 (.ret)) (.skip))) (.seq Zan.r3 (.ret)))
def Zan:Func:=⟨8,[.t 2],Zan.code⟩
/-! slices.IndexFunc[[]muntin/sep.way,muntin/sep.way] -/
def ZG.r0:List Oper:=[oM 4 (cI 0)]
def ZG.r1:List Oper:=[oM 6 0,oD 7 (.len 6),oM 8 (cI 0)]
def ZG.r2:List Oper:=[oD 9 (.bin .lss 8 7)]
def ZG.r3:List Oper:=[oM 10 8,oM 5 10]
def ZG.r4:List Oper:=[oM 11 1,oM 12 0,oM 13 5,oD 14 (.ixa 3 12 13),oD 15 (.ld true 3 14),oD 16 (.call 11 [15])]
def ZG.r5:List Oper:=[oM 17 5,oM 4 17]
def ZG.r6:List Oper:=[oD 18 (.bin .add 8 (cI 1)),oM 8 18]
def ZG.l0:Code:=.seq ZG.r2 (.seq (.cond 9 (.skip) (.exit 0)) (.seq (.block 1 (.seq ZG.r3 (.seq ZG.r4 (.cond 16 (.seq ZG.r5 (.ret)) (.skip))))) ZG.r6))
def ZG.r7:List Oper:=[oM 4 (cI (-1))]
def ZG.code:Code:=.seq ZG.r0 (.seq (.seq ZG.r1 (.block 0 (.loop ZG.l0))) (.seq ZG.r7 (.ret)))
def ZG:Func:=⟨19,[.t 4],ZG.code⟩
/-! (*muntin/sep.settler).graph -/
def Za5.r0:List Oper:=[oD 3 (.box 1),oM 4 (.c (.pn))]
def Za5.r1:List Oper:=[oD 5 (.fa 0 3),oD 6 (.ld false 1 5)]
def Za5.r2:List Oper:=[oM 7 0,oD 8 (.nilck 7),oD 9 (.fa 7 8),oD 10 (.ld false 1 9),oM 4 10]
def Za5.r3:List Oper:=[oM 11 0,oD 12 (.nilck 11),oD 13 (.fa 8 12),oD 14 (.ld false 1 13),oM 4 14]
def Za5.code:Code:=.seq Za5.r0 (.seq (.seq Za5.r1 (.cond 6 (.seq Za5.r2 (.ret)) (.skip))) (.seq Za5.r3 (.ret)))
def Za5:Func:=⟨15,[.t 4],Za5.code⟩
/-! muntin/muntinlaw19.SepMakes -/
def Z5.r0:List Oper:=[oD 3 (.box 0),oM 6 (.c (.b false))]
def Z5.r1:List Oper:=[oD 17 (.ld true 3 3),oC 18 28 [17,.c (.n 14)],oM 16 18,oD 19 (.ext 16 0),oD 20 (.ext 16 1),oM 7 19,oM 8 20]
def Z5.r2:List Oper:=[oM 22 7,oC 23 210 [22],oM 21 23,oD 24 (.ext 21 0),oD 25 (.ext 21 1),oD 9 (.alloc [.sn,.sn,.sn,.sn,.sn,.sn,.sn]),oN (.st 7 9 24),oM 10 25]
def Z5.r3:List Oper:=[oC 26 189 [],oD 27 (.un .not 26),oM 28 27,oF 29 28 (.mv 10),oF 30 28 (.eq true .sc 29 (cI 0)),oD 31 (.pick 28 (.c (.b true)) 30),oM 32 31,oF 33 32 (.fa 6 9),oF 34 32 (.ld false 1 33),oF 35 32 (.len 34),oF 36 32 (.bin .gtr 35 (cI 0)),oD 37 (.pick 32 (.c (.b true)) 36)]
def Z5.r4:List Oper:=[oC 38 189 [],oM 6 38]
def Z5.r5:List Oper:=[oM 40 7,oC 41 121 [40],oM 39 41,oD 42 (.ext 39 0),oD 43 (.ext 39 1),oD 11 (.alloc [.sn,.sn,.sn,.sn]),oN (.st 4 11 42),oM 12 43]
def Z5.r6:List Oper:=[oD 44 (.fa 2 11),oD 45 (.ld false 1 44),oD 46 (.len 45),oD 47 (.fa 0 9),oD 48 (.fa 4 47),oD 49 (.ld false 1 48),oC 50 112 [46,49],oD 51 (.fa 3 11),oD 52 (.ld false 1 51),oD 53 (.len 52),oD 54 (.fa 0 9),oD 55 (.fa 5 54),oD 56 (.ld false 1 55),oC 57 112 [53,56],oM 13 50,oM 14 57]
def Z5.r7:List Oper:=[oM 58 7,oD 59 (.ld true 4 11),oM 60 13,oM 61 14,oC 62 169 [59,60,61],oC 63 261 [58,62],oD 64 (.un .not 63)]
def Z5.r8:List Oper:=[oM 6 (.c (.b false))]
def Z5.r9:List Oper:=[oM 15 (.c (.f 270 []))]
def Z5.r10:List Oper:=[oM 65 15,oM 66 13,oM 67 1,oD 68 (.fa 0 9),oD 69 (.fa 4 68),oD 70 (.ld false 1 69),oD 71 (.call 65 [66,67,70])]
def Z5.r11:List Oper:=[oM 72 15,oM 73 14,oM 74 2,oD 75 (.fa 0 9),oD 76 (.fa 5 75),oD 77 (.ld false 1 76),oD 78 (.call 72 [73,74,77])]
def Z5.r12:List Oper:=[oM 79 7,oD 80 (.ld true 4 11),oM 81 13,oM 82 14,oC 83 169 [80,81,82],oC 84 261 [79,83],oM 6 84]
def Z5.code:Code:=.seq Z5.r0 (.seq Z5.r1 (.seq Z5.r2 (.seq (.seq Z5.r3 (.cond 37 (.seq Z5.r4 (.ret)) (.skip))) (.seq Z5.r5 (.seq (.draw Z5.r6 [(1,5),(1,8),(5,8),(6,8),(1,12),(5,12),(6,12),(8,12)]) (.seq (.seq Z5.r7 (.cond 64 (.seq Z5.r8 (.ret)) (.skip))) (.seq Z5.r9 (.seq Z5.r10 (.seq Z5.r11 (.seq Z5.r12 (.ret)))))))))))
def Z5:Func:=⟨85,[.t 6],Z5.code⟩
/-! muntin/muntinref19.Real -/
def Zq.r0:List Oper:=[oM 4 (.c (.b false))]
def Zq.r1:List Oper:=[oM 17 1,oD 18 (.len 17),oM 19 0,oD 20 (.len 19),oD 21 (.eq true .sc 18 20)]
def Zq.r2:List Oper:=[oM 4 (.c (.b false))]
def Zq.r3:List Oper:=[oM 22 0,oM 23 1,oC 24 193 [22,23],oM 5 24]
def Zq.r4:List Oper:=[oM 25 5,oD 26 (.un .not 25)]
def Zq.r5:List Oper:=[oM 4 (.c (.b false))]
def Zq.r6:List Oper:=[oM 28 0,oC 29 121 [28],oM 27 29,oD 30 (.ext 27 0),oD 31 (.ext 27 1),oD 6 (.alloc [.sn,.sn,.sn,.sn]),oN (.st 4 6 30),oM 7 31]
def Zq.r7:List Oper:=[oD 32 (.ld true 4 6),oC 33 188 [32],oM 8 33]
def Zq.r8:List Oper:=[oM 9 (cI 0)]
def Zq.r9:List Oper:=[oM 34 9,oM 35 8,oD 36 (.len 35),oD 37 (.bin .lss 34 36)]
def Zq.r11:List Oper:=[oM 40 9,oD 41 (.bin .add 40 (cI 1)),oM 10 41]
def Zq.r12:List Oper:=[oM 42 10,oM 43 8,oD 44 (.len 43),oD 45 (.bin .lss 42 44)]
def Zq.r14:List Oper:=[oD 48 (.ld true 4 6),oM 49 8,oM 50 9,oD 51 (.ixa 2 49 50),oD 52 (.fa 0 51),oD 53 (.ld false 1 52),oM 54 8,oM 55 9,oD 56 (.ixa 2 54 55),oD 57 (.fa 1 56),oD 58 (.ld false 1 57),oM 59 8,oM 60 10,oD 61 (.ixa 2 59 60),oD 62 (.fa 0 61),oD 63 (.ld false 1 62),oM 64 8,oM 65 10,oD 66 (.ixa 2 64 65),oD 67 (.fa 1 66),oD 68 (.ld false 1 67),oC 69 124 [48,53,58,63,68],oM 11 69]
def Zq.r15:List Oper:=[oD 71 (.ld true 4 6),oM 72 8,oM 73 9,oD 74 (.ixa 2 72 73),oD 75 (.ld true 2 74),oM 76 1,oC 77 274 [71,75,76],oM 70 77,oD 78 (.ext 70 0),oD 79 (.ext 70 1),oD 12 (.alloc [.n 0,.n 0]),oD 13 (.alloc [.n 0,.n 0]),oN (.st 2 12 78),oN (.st 2 13 79)]
def Zq.r16:List Oper:=[oD 81 (.ld true 4 6),oM 82 8,oM 83 10,oD 84 (.ixa 2 82 83),oD 85 (.ld true 2 84),oM 86 1,oC 87 274 [81,85,86],oM 80 87,oD 88 (.ext 80 0),oD 89 (.ext 80 1),oD 14 (.alloc [.n 0,.n 0]),oD 15 (.alloc [.n 0,.n 0]),oN (.st 2 14 88),oN (.st 2 15 89)]
def Zq.r17:List Oper:=[oD 90 (.fa 0 13),oD 91 (.ld false 1 90),oD 92 (.fa 0 14),oD 93 (.ld false 1 92),oD 94 (.bin .lss 91 93),oM 95 94,oF 96 95 (.fa 0 15),oF 97 95 (.ld false 1 96),oF 98 95 (.fa 0 12),oF 99 95 (.ld false 1 98),oF 100 95 (.bin .lss 97 99),oD 101 (.pick 95 (.c (.b true)) 100),oM 102 101,oF 103 102 (.fa 1 13),oF 104 102 (.ld false 1 103),oF 105 102 (.fa 1 14),oF 106 102 (.ld false 1 105),oF 107 102 (.bin .lss 104 106),oD 108 (.pick 102 (.c (.b true)) 107),oM 109 108,oF 110 109 (.fa 1 15),oF 111 109 (.ld false 1 110),oF 112 109 (.fa 1 12),oF 113 109 (.ld false 1 112),oF 114 109 (.bin .lss 111 113),oD 115 (.pick 109 (.c (.b true)) 114),oM 16 115]
def Zq.r18:List Oper:=[oM 116 11,oD 117 (.un .not 116),oM 118 117,oT 119 118 (.mv 16),oT 120 118 (.un .not 119),oD 121 (.pick 118 120 (.c (.b false)))]
def Zq.r19:List Oper:=[oM 4 (.c (.b false))]
def Zq.r13:List Oper:=[oM 46 10,oD 47 (.bin .add 46 (cI 1)),oM 10 47]
def Zq.l0:Code:=.seq (.seq Zq.r12 (.cond 45 (.skip) (.exit 2))) (.seq (.block 3 (.seq (.draw Zq.r14 [(0,5),(0,10),(5,10),(0,15),(5,15),(10,15),(0,20),(5,20),(10,20),(15,20)]) (.seq (.draw Zq.r15 [(0,4),(0,10),(4,10),(6,10),(0,11),(4,11),(6,11),(10,11)]) (.seq (.draw Zq.r16 [(0,4),(0,10),(4,10),(6,10),(0,11),(4,11),(6,11),(10,11)]) (.seq Zq.r17 (.seq Zq.r18 (.cond 121 (.seq Zq.r19 (.ret)) (.skip)))))))) Zq.r13)
def Zq.r10:List Oper:=[oM 38 9,oD 39 (.bin .add 38 (cI 1)),oM 9 39]
def Zq.l1:Code:=.seq (.seq Zq.r9 (.cond 37 (.skip) (.exit 0))) (.seq (.block 1 (.seq Zq.r11 (.block 2 (.loop Zq.l0)))) Zq.r10)
def Zq.r20:List Oper:=[oM 4 (.c (.b true))]
def Zq.code:Code:=.seq Zq.r0 (.seq (.seq Zq.r1 (.cond 21 (.seq Zq.r2 (.ret)) (.skip))) (.seq Zq.r3 (.seq (.seq Zq.r4 (.cond 26 (.seq Zq.r5 (.ret)) (.skip))) (.seq Zq.r6 (.seq Zq.r7 (.seq (.seq Zq.r8 (.block 0 (.loop Zq.l1))) (.seq Zq.r20 (.ret))))))))
def Zq:Func:=⟨122,[.t 4],Zq.code⟩
/-! muntin/muntinlaw19.SepMakes$1 -/
def Zn.r0:List Oper:=[oM 9 0,oD 10 (.len 9),oM 11 (cI 0)]
def Zn.r1:List Oper:=[oD 12 (.bin .lss 11 10)]
def Zn.r2:List Oper:=[oM 13 11,oM 6 13]
def Zn.r3:List Oper:=[oM 14 6,oM 15 1,oD 16 (.len 15),oD 17 (.bin .lss 14 16)]
def Zn.r4:List Oper:=[oM 18 0,oM 19 6,oD 20 (.ixa 1 18 19),oD 21 (.ld false 1 20),oM 22 1,oM 23 6,oD 24 (.ixa 1 22 23),oD 25 (.ld false 1 24),oD 26 (.bin .rem 25 (.c (.i .u8 6))),oD 27 (.conv .i64 26),oD 28 (.bin .add 21 27),oD 29 (.ixa 1 18 19),oN (.st 1 29 28)]
def Zn.r5:List Oper:=[oD 30 (.bin .add 11 (cI 1)),oM 11 30]
def Zn.l0:Code:=.seq Zn.r1 (.seq (.cond 12 (.skip) (.exit 0)) (.seq (.block 1 (.seq Zn.r2 (.seq Zn.r3 (.cond 17 (.draw Zn.r4 [(3,7)]) (.skip))))) Zn.r5))
def Zn.r6:List Oper:=[oM 31 0,oD 32 (.len 31),oM 33 (cI 0)]
def Zn.r7:List Oper:=[oD 34 (.bin .lss 33 32)]
def Zn.r8:List Oper:=[oM 35 2,oD 36 (.len 35),oM 37 (cI 0)]
def Zn.r9:List Oper:=[oD 38 (.bin .lss 37 36)]
def Zn.r10:List Oper:=[oD 39 (.ixa 3 35 37),oD 40 (.ld true 3 39),oD 8 (.alloc [.n 0,.n 0,.n 0]),oN (.st 3 8 40)]
def Zn.r11:List Oper:=[oM 41 0,oD 42 (.fa 1 8),oD 43 (.ld false 1 42),oM 44 0,oD 45 (.fa 1 8),oD 46 (.ld false 1 45),oD 47 (.ixa 1 44 46),oD 48 (.ld false 1 47),oM 49 0,oD 50 (.fa 0 8),oD 51 (.ld false 1 50),oD 52 (.ixa 1 49 51),oD 53 (.ld false 1 52),oD 54 (.bin .add 53 (cI 1)),oD 55 (.mx [48,54]),oD 56 (.ixa 1 41 43),oN (.st 1 56 55)]
def Zn.r12:List Oper:=[oD 57 (.bin .add 37 (cI 1)),oM 37 57]
def Zn.l1:Code:=.seq Zn.r9 (.seq (.cond 38 (.skip) (.exit 4)) (.seq (.block 5 (.seq Zn.r10 (.draw Zn.r11 [(2,5),(2,7),(2,10),(5,10),(7,10),(2,12),(5,12),(7,12)]))) Zn.r12))
def Zn.r13:List Oper:=[oD 58 (.bin .add 33 (cI 1)),oM 33 58]
def Zn.l2:Code:=.seq Zn.r7 (.seq (.cond 34 (.skip) (.exit 2)) (.seq (.block 3 (.seq Zn.r8 (.block 4 (.loop Zn.l1)))) Zn.r13))
def Zn.code:Code:=.seq (.seq Zn.r0 (.block 0 (.loop Zn.l0))) (.seq Zn.r6 (.block 2 (.loop Zn.l2)))
def Zn:Func:=⟨59,[],Zn.code⟩
/-! muntin/muntinref19.ends -/
def Zac.r0:List Oper:=[oD 3 (.box 0),oD 4 (.box 1),oD 6 (.alloc [.n 0,.n 0]),oD 7 (.alloc [.n 0,.n 0])]
def Zac.r1:List Oper:=[oD 10 (.fa 3 3),oD 11 (.ld false 1 10),oM 8 11]
def Zac.r2:List Oper:=[oD 12 (.fa 0 4),oD 13 (.ld false 1 12)]
def Zac.r3:List Oper:=[oD 14 (.fa 2 3),oD 15 (.ld false 1 14),oM 8 15]
def Zac.r4:List Oper:=[oM 16 8,oD 17 (.fa 1 4),oD 18 (.ld false 1 17),oD 19 (.ixa 1 16 18),oD 20 (.ld false 1 19),oM 9 20]
def Zac.r5:List Oper:=[oM 21 2,oM 22 9,oD 23 (.ixa 1 22 (cI 0)),oD 24 (.ld false 1 23),oD 25 (.ixa 2 21 24),oD 26 (.ld true 2 25),oM 27 2,oM 28 9,oM 29 9,oD 30 (.len 29),oD 31 (.bin .sub 30 (cI 1)),oD 32 (.ixa 1 28 31),oD 33 (.ld false 1 32),oD 34 (.ixa 2 27 33),oD 35 (.ld true 2 34),oN (.st 2 6 26),oN (.st 2 7 35)]
def Zac.code:Code:=.seq Zac.r0 (.seq Zac.r1 (.seq (.seq Zac.r2 (.cond 13 Zac.r3 (.skip))) (.seq Zac.r4 (.seq (.draw Zac.r5 [(3,12),(5,12),(3,14),(5,14),(12,15),(14,15)]) (.ret)))))
def Zac:Func:=⟨36,[.cell 6 true 2,.cell 7 true 2],Zac.code⟩
def G:Prog:=fun i=>match i with
  | 28=>some Zf
  | 29=>some ZL
  | 32=>some Zcf
  | 46=>some ze
  | 53=>some zM
  | 63=>some ZM
  | 64=>some Zs
  | 65=>some ZF
  | 66=>some zo
  | 67=>some ZV
  | 77=>some Zbp
  | 78=>some ZaC
  | 82=>some Zak
  | 83=>some ZS
  | 89=>some ZbX
  | 90=>some Zcd
  | 91=>some ZX
  | 97=>some Zcc
  | 98=>some zW
  | 112=>some ZE
  | 118=>some Zbc
  | 120=>some ZbD
  | 121=>some Zav
  | 123=>some Zbi
  | 124=>some ZJ
  | 126=>some zI
  | 129=>some Zcp
  | 136=>some zw
  | 137=>some ZB
  | 138=>some Zl
  | 140=>some zN
  | 141=>some Zbn
  | 144=>some Zae
  | 149=>some Zb1
  | 150=>some zh
  | 169=>some z7
  | 176=>some Zad
  | 187=>some ZbE
  | 188=>some Z8
  | 189=>some Zai
  | 193=>some ZA
  | 201=>some zj
  | 203=>some Z4
  | 204=>some zX
  | 209=>some z9
  | 210=>some ZC
  | 211=>some zl
  | 219=>some zH
  | 220=>some Zce
  | 221=>some zf
  | 222=>some Zbq
  | 226=>some Zy
  | 227=>some zu
  | 232=>some Zaw
  | 233=>some Zv
  | 234=>some Zcy
  | 235=>some ZaZ
  | 236=>some Zal
  | 237=>some ZbI
  | 238=>some Zp
  | 239=>some Zbj
  | 240=>some Zb8
  | 241=>some zS
  | 242=>some ZbH
  | 243=>some Zb7
  | 244=>some Zan
  | 245=>some ZG
  | 246=>some Za5
  | 258=>some Z5
  | 261=>some Zq
  | 270=>some Zn
  | 274=>some Zac
  | _=>none
theorem Zep:G 28=some Zf:=rfl
theorem ZfT:G 29=some ZL:=rfl
theorem ZfU:G 32=some Zcf:=rfl
theorem Ze9:G 46=some ze:=rfl
theorem Zeo:G 53=some zM:=rfl
theorem Zd5:G 63=some ZM:=rfl
theorem Zd4:G 64=some Zs:=rfl
theorem Zeq:G 65=some ZF:=rfl
theorem ZfS:G 66=some zo:=rfl
theorem ZfF:G 67=some ZV:=rfl
theorem Zfn:G 77=some Zbp:=rfl
theorem ZcU:G 78=some ZaC:=rfl
theorem Zgr:G 82=some Zak:=rfl
theorem Zee:G 83=some ZS:=rfl
theorem Zg7:G 89=some ZbX:=rfl
theorem Zfm:G 90=some Zcd:=rfl
theorem Zds:G 91=some ZX:=rfl
theorem ZhB:G 97=some Zcc:=rfl
theorem ZfP:G 98=some zW:=rfl
theorem ZdE:G 112=some ZE:=rfl
theorem Zd7:G 118=some Zbc:=rfl
theorem ZhC:G 120=some ZbD:=rfl
theorem ZeM:G 121=some Zav:=rfl
theorem ZeC:G 123=some Zbi:=rfl
theorem Zer:G 124=some ZJ:=rfl
theorem ZeD:G 126=some zI:=rfl
theorem Zhj:G 129=some Zcp:=rfl
theorem Zex:G 136=some zw:=rfl
theorem ZfV:G 137=some ZB:=rfl
theorem ZdF:G 138=some Zl:=rfl
theorem Zeu:G 140=some zN:=rfl
theorem Zeb:G 141=some Zbn:=rfl
theorem ZfO:G 144=some Zae:=rfl
theorem ZfE:G 149=some Zb1:=rfl
theorem ZdY:G 150=some zh:=rfl
theorem ZdZ:G 169=some z7:=rfl
theorem ZfG:G 176=some Zad:=rfl
theorem Zgt:G 187=some ZbE:=rfl
theorem Zea:G 188=some Z8:=rfl
theorem ZdX:G 189=some Zai:=rfl
theorem Zdr:G 193=some ZA:=rfl
theorem ZfH:G 201=some zj:=rfl
theorem ZfQ:G 203=some Z4:=rfl
theorem ZfR:G 204=some zX:=rfl
theorem Zgu:G 209=some z9:=rfl
theorem ZfW:G 210=some ZC:=rfl
theorem ZdW:G 211=some zl:=rfl
theorem Zfa:G 219=some zH:=rfl
theorem Zfp:G 220=some Zce:=rfl
theorem Zen:G 221=some zf:=rfl
theorem Zfo:G 222=some Zbq:=rfl
theorem Zgv:G 226=some Zy:=rfl
theorem Zev:G 227=some zu:=rfl
theorem Zgs:G 232=some Zaw:=rfl
theorem ZeA:G 233=some Zv:=rfl
theorem ZhD:G 234=some Zcy:=rfl
theorem Zew:G 235=some ZaZ:=rfl
theorem ZcG:G 236=some Zal:=rfl
theorem ZeO:G 237=some ZbI:=rfl
theorem ZcL:G 238=some Zp:=rfl
theorem ZdG:G 239=some Zbj:=rfl
theorem ZeE:G 240=some Zb8:=rfl
theorem Zec:G 241=some zS:=rfl
theorem ZeN:G 242=some ZbH:=rfl
theorem ZeB:G 243=some Zb7:=rfl
theorem Zd6:G 244=some Zan:=rfl
theorem ZcR:G 245=some ZG:=rfl
theorem Zed:G 246=some Za5:=rfl
theorem Zdq:G 258=some Z5:=rfl
theorem Zes:G 261=some Zq:=rfl
theorem ZcX:G 270=some Zn:=rfl
theorem Zet:G 274=some Zac:=rfl
end Mu
