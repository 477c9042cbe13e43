/- The functions of the program, as the evaluator has them: printed by a program; checked against the model's. -/
import Derived.Test.YtdefkboekpjiiaaMuE0
namespace Mu
instance (n:Nat):OfNat Opd n:=⟨.t n⟩
abbrev oD (d:Nat) (op:Op):Oper:=⟨some d,op,none⟩
abbrev oN (op:Op):Oper:=⟨none,op,none⟩
/-! muntin/muntinref10.Make -/
def Zf.r0:List Oper:=[
 oD 2 (.box 0),
 oD 4 (.mv (.c (.sn))),
 oD 5 (.mv (.c (.sn)))]
def Zf.r1:List Oper:=[
 oD 6 (.mv (.c (.sn)))]
def Zf.r2:List Oper:=[
 oD 7 (.mv (.c (.n 0)))]
def Zf.r3:List Oper:=[
 oD 18 (.mv 7),
 oD 19 (.fa 0 2),
 oD 20 (.ld false 1 19),
 oD 21 (.len 20),
 oD 22 (.bin .lss 18 21),
 oD 23 (.mv 22),
 ⟨(some 24),.mv 6,(some (23,true))⟩,
 ⟨(some 25),.len 24,(some (23,true))⟩,
 ⟨(some 26),.mv 1,(some (23,true))⟩,
 ⟨(some 27),.bin .lss 25 26,(some (23,true))⟩,
 oD 28 (.pick 23 27 (.c (.b false)))]
def Zf.r5:List Oper:=[
 oD 31 (.fa 0 2),
 oD 32 (.ld false 1 31),
 oD 33 (.mv 7),
 oD 34 (.ixa 1 32 33),
 oD 35 (.ld false 1 34),
 oD 36 (.conv .i64 35),
 oD 37 (.bin .rem 36 (.c (.n 8))),
 oD 38 (.fa 0 2),
 oD 39 (.ld false 1 38),
 oD 40 (.mv 7),
 oD 41 (.ixa 1 39 40),
 oD 42 (.ld false 1 41),
 oD 43 (.conv .i64 42),
 oD 44 (.bin .quo 43 (.c (.n 8))),
 oD 45 (.bin .rem 44 (.c (.n 8))),
 oD 46 (.build [.n 0,.n 0] [(0,1,.t 37),(1,1,.t 45)]),
 oD 8 (.alloc [.n 0,.n 0]),
 oN (.st 2 8 46)]
def Zf.r6:List Oper:=[
 oD 9 (.mv (.c (.b false)))]
def Zf.r7:List Oper:=[
 oD 10 (.mv (.c (.n 0)))]
def Zf.r8:List Oper:=[
 oD 47 (.mv 10),
 oD 48 (.mv 6),
 oD 49 (.len 48),
 oD 50 (.bin .lss 47 49)]
def Zf.r10:List Oper:=[
 oD 53 (.mv 9),
 oD 54 (.mv 53),
 ⟨(some 55),.mv 6,(some (54,false))⟩,
 ⟨(some 56),.mv 10,(some (54,false))⟩,
 ⟨(some 57),.ixa 2 55 56,(some (54,false))⟩,
 ⟨(some 58),.ld true 2 57,(some (54,false))⟩,
 ⟨(some 59),.ld true 2 8,(some (54,false))⟩,
 ⟨(some 60),.eq false (.fl [.i,.i]) 58 59,(some (54,false))⟩,
 oD 61 (.pick 54 (.c (.b true)) 60),
 oD 9 (.mv 61)]
def Zf.r9:List Oper:=[
 oD 51 (.mv 10),
 oD 52 (.bin .add 51 (.c (.n 1))),
 oD 10 (.mv 52)]
def Zf.l0:Code:=.seq (.seq (.region Zf.r8) (.cond 50 (.skip) (.exit 2))) (.seq (.block 3 (.draw Zf.r10 [(5,6)])) (.region Zf.r9))
def Zf.r11:List Oper:=[
 oD 62 (.mv 9),
 oD 63 (.un .not 62)]
def Zf.r12:List Oper:=[
 oD 64 (.mv 6),
 oD 65 (.ld true 2 8),
 oD 66 (.bsl 2 1 [.n 0,.n 0] [(0,2,.t 65)]),
 oD 67 (.app 2 16 64 66),
 oD 6 (.mv 67)]
def Zf.r4:List Oper:=[
 oD 29 (.mv 7),
 oD 30 (.bin .add 29 (.c (.n 1))),
 oD 7 (.mv 30)]
def Zf.l1:Code:=.seq (.seq (.region Zf.r3) (.cond 28 (.skip) (.exit 0))) (.seq (.block 1 (.seq (.draw Zf.r5 [(1,8),(4,8),(1,11),(4,11),(1,16),(4,16),(8,16),(11,16)]) (.seq (.region Zf.r6) (.seq (.seq (.region Zf.r7) (.block 2 (.loop Zf.l0))) (.seq (.region Zf.r11) (.cond 63 (.region Zf.r12) (.skip))))))) (.region Zf.r4))
def Zf.r13:List Oper:=[
 oD 68 (.mv 6),
 oD 69 (.len 68),
 oD 70 (.call (.c (.f 46 [])) [.t 69]),
 oD 11 (.mv 70)]
def Zf.r14:List Oper:=[
 oD 12 (.mv (.c (.n 0)))]
def Zf.r15:List Oper:=[
 oD 71 (.mv 12),
 oD 72 (.mv 6),
 oD 73 (.len 72),
 oD 74 (.bin .lss 71 73)]
def Zf.r17:List Oper:=[
 oD 13 (.mv (.c (.i .u8 3)))]
def Zf.r18:List Oper:=[
 oD 77 (.mv 12),
 oD 78 (.fa 1 2),
 oD 79 (.ld false 1 78),
 oD 80 (.len 79),
 oD 81 (.bin .lss 77 80)]
def Zf.r19:List Oper:=[
 oD 82 (.fa 1 2),
 oD 83 (.ld false 1 82),
 oD 84 (.mv 12),
 oD 85 (.ixa 1 83 84),
 oD 86 (.ld false 1 85),
 oD 13 (.mv 86)]
def Zf.r20:List Oper:=[
 oD 87 (.mv 12),
 oD 14 (.mv 87)]
def Zf.r21:List Oper:=[
 oD 88 (.mv 12),
 oD 89 (.fa 2 2),
 oD 90 (.ld false 1 89),
 oD 91 (.len 90),
 oD 92 (.bin .lss 88 91)]
def Zf.r22:List Oper:=[
 oD 93 (.fa 2 2),
 oD 94 (.ld false 1 93),
 oD 95 (.mv 12),
 oD 96 (.ixa 1 94 95),
 oD 97 (.ld false 1 96),
 oD 98 (.conv .i64 97),
 oD 14 (.mv 98)]
def Zf.r23:List Oper:=[
 oD 99 (.mv 14),
 oD 100 (.bin .lss 99 (.c (.n (-2))))]
def Zf.r24:List Oper:=[
 oD 101 (.mv 14),
 oD 102 (.un .neg 101),
 oD 14 (.mv 102)]
def Zf.r25:List Oper:=[
 oD 15 (.mv (.c (.n 0)))]
def Zf.r26:List Oper:=[
 oD 103 (.mv 15),
 oD 104 (.bin .lss 103 (.c (.n 2)))]
def Zf.r28:List Oper:=[
 oD 107 (.mv 6),
 oD 108 (.mv 12),
 oD 109 (.mv 15),
 oD 110 (.call (.c (.f 63 [])) [.t 107,.t 108,.t 109]),
 oD 16 (.mv 110)]
def Zf.r29:List Oper:=[
 oD 111 (.mv 13),
 oD 112 (.mv 15),
 oD 113 (.bin .shr 111 112),
 oD 114 (.bin .and 113 (.c (.i .u8 1))),
 oD 115 (.eq false .sc 114 (.c (.i .u8 0))),
 oD 116 (.mv 115),
 ⟨(some 117),.mv 16,(some (116,false))⟩,
 ⟨(some 118),.bin .lss 117 (.c (.n 0)),(some (116,false))⟩,
 oD 119 (.pick 116 (.c (.b true)) 118)]
def Zf.r30:List Oper:=[
 oD 120 (.mv 6),
 oD 121 (.mv 11),
 oD 122 (.mv 12),
 oD 123 (.mv 16),
 oD 124 (.call (.c (.f 64 [])) [.t 120,.t 121,.t 122,.t 123]),
 oD 17 (.mv 124)]
def Zf.r31:List Oper:=[
 oD 125 (.mv 17),
 oD 126 (.un .not 125)]
def Zf.r32:List Oper:=[
 oD 127 (.mv 11),
 oD 128 (.mv 12),
 oD 129 (.mv 15),
 oD 130 (.mv 16),
 oD 131 (.mv 14),
 oD 132 (.call (.c (.f 65 [])) [.t 127,.t 128,.t 129,.t 130,.t 131]),
 oD 11 (.mv 132)]
def Zf.r27:List Oper:=[
 oD 105 (.mv 15),
 oD 106 (.bin .add 105 (.c (.n 1))),
 oD 15 (.mv 106)]
def Zf.l2:Code:=.seq (.seq (.region Zf.r26) (.cond 104 (.skip) (.exit 6))) (.seq (.block 7 (.seq (.region Zf.r28) (.seq (.seq (.region Zf.r29) (.cond 119 (.exit 7) (.skip))) (.seq (.region Zf.r30) (.seq (.region Zf.r31) (.cond 126 (.region Zf.r32) (.skip))))))) (.region Zf.r27))
def Zf.r16:List Oper:=[
 oD 75 (.mv 12),
 oD 76 (.bin .add 75 (.c (.n 1))),
 oD 12 (.mv 76)]
def Zf.l3:Code:=.seq (.seq (.region Zf.r15) (.cond 74 (.skip) (.exit 4))) (.seq (.block 5 (.seq (.region Zf.r17) (.seq (.seq (.region Zf.r18) (.cond 81 (.region Zf.r19) (.skip))) (.seq (.region Zf.r20) (.seq (.seq (.region Zf.r21) (.cond 92 (.seq (.region Zf.r22) (.seq (.region Zf.r23) (.cond 100 (.region Zf.r24) (.skip)))) (.skip))) (.seq (.region Zf.r25) (.block 6 (.loop Zf.l2)))))))) (.region Zf.r16))
def Zf.r33:List Oper:=[
 oD 133 (.mv 11),
 oD 134 (.mv 6),
 oD 4 (.mv 133),
 oD 5 (.mv 134)]
def Zf.code:Code:=.seq (.region Zf.r0) (.seq (.region Zf.r1) (.seq (.seq (.region Zf.r2) (.block 0 (.loop Zf.l1))) (.seq (.region Zf.r13) (.seq (.seq (.region Zf.r14) (.block 4 (.loop Zf.l3))) (.seq (.region Zf.r33) (.ret))))))
def Zf:Func:=⟨135,[.t 4,.t 5],Zf.code⟩
/-! muntin/join.Parts -/
def Zz.r0:List Oper:=[
 oD 2 (.mv (.c (.sn))),
 oD 3 (.mv (.c (.n 0)))]
def Zz.r1:List Oper:=[
 oD 12 (.mv 0),
 oD 13 (.call (.c (.f 66 [])) [.t 12]),
 oD 4 (.mv 13)]
def Zz.r2:List Oper:=[
 oD 14 (.mv 4),
 oD 15 (.eq true .sc 14 (.c (.n 0)))]
def Zz.r3:List Oper:=[
 oD 16 (.mv 4),
 oD 2 (.mv (.c (.sn))),
 oD 3 (.mv 16)]
def Zz.r4:List Oper:=[
 oD 5 (.mv (.c (.sn)))]
def Zz.r5:List Oper:=[
 oD 17 (.mv 0),
 oD 18 (.len 17),
 oD 19 (.mks 1 1 [.b false] 18 18),
 oD 6 (.mv 19)]
def Zz.r6:List Oper:=[
 oD 20 (.mv 0),
 oD 21 (.len 20),
 oD 22 (.mv (.c (.n 0)))]
def Zz.r7:List Oper:=[
 oD 23 (.bin .lss 22 21)]
def Zz.r8:List Oper:=[
 oD 24 (.mv 22),
 oD 7 (.mv 24)]
def Zz.r9:List Oper:=[
 oD 25 (.mv 6),
 oD 26 (.mv 7),
 oD 27 (.ixa 1 25 26),
 oD 28 (.ld false 1 27)]
def Zz.r10:List Oper:=[
 oD 30 (.mv 0),
 oD 31 (.mv 7),
 oD 32 (.call (.c (.f 67 [])) [.t 30,.t 31]),
 oD 29 (.mv 32),
 oD 33 (.ext 29 0),
 oD 34 (.ext 29 1),
 oD 8 (.mv 33),
 oD 9 (.mv 34)]
def Zz.r11:List Oper:=[
 oD 35 (.bsl 1 0 [.n 0] []),
 oD 10 (.mv 35)]
def Zz.r12:List Oper:=[
 oD 36 (.mv 0),
 oD 37 (.len 36),
 oD 38 (.mv (.c (.n 0)))]
def Zz.r13:List Oper:=[
 oD 39 (.bin .lss 38 37)]
def Zz.r14:List Oper:=[
 oD 40 (.mv 38),
 oD 11 (.mv 40)]
def Zz.r15:List Oper:=[
 oD 41 (.mv 11),
 oD 42 (.mv 7),
 oD 43 (.eq false .sc 41 42),
 oD 44 (.mv 43),
 ⟨(some 45),.mv 9,(some (44,false))⟩,
 ⟨(some 46),.mv 11,(some (44,false))⟩,
 ⟨(some 47),.ixa 1 45 46,(some (44,false))⟩,
 ⟨(some 48),.ld false 1 47,(some (44,false))⟩,
 ⟨(some 49),.bin .geq 48 (.c (.n 0)),(some (44,false))⟩,
 oD 50 (.pick 44 (.c (.b true)) 49)]
def Zz.r16:List Oper:=[
 oD 51 (.mv 6),
 oD 52 (.mv 11),
 oD 53 (.ixa 1 51 52),
 oN (.st 1 53 (.c (.b true)))]
def Zz.r17:List Oper:=[
 oD 54 (.mv 10),
 oD 55 (.mv 11),
 oD 56 (.bsl 1 1 [.n 0] [(0,1,.t 55)]),
 oD 57 (.app 1 8 54 56),
 oD 10 (.mv 57)]
def Zz.r18:List Oper:=[
 oD 58 (.bin .add 38 (.c (.n 1))),
 oD 38 (.mv 58)]
def Zz.l0:Code:=.seq (.region Zz.r13) (.seq (.cond 39 (.skip) (.exit 2)) (.seq (.block 3 (.seq (.region Zz.r14) (.seq (.region Zz.r15) (.cond 50 (.seq (.region Zz.r16) (.region Zz.r17)) (.skip))))) (.region Zz.r18)))
def Zz.r19:List Oper:=[
 oD 59 (.mv 5),
 oD 60 (.mv 10),
 oD 61 (.bsl 1 1 [.sn] [(0,1,.t 60)]),
 oD 62 (.app 1 24 59 61),
 oD 5 (.mv 62)]
def Zz.r20:List Oper:=[
 oD 63 (.bin .add 22 (.c (.n 1))),
 oD 22 (.mv 63)]
def Zz.l1:Code:=.seq (.region Zz.r7) (.seq (.cond 23 (.skip) (.exit 0)) (.seq (.block 1 (.seq (.region Zz.r8) (.seq (.seq (.region Zz.r9) (.cond 28 (.exit 1) (.skip))) (.seq (.region Zz.r10) (.seq (.region Zz.r11) (.seq (.seq (.region Zz.r12) (.block 2 (.loop Zz.l0))) (.region Zz.r19))))))) (.region Zz.r20)))
def Zz.r21:List Oper:=[
 oD 64 (.mv 5),
 oD 2 (.mv 64),
 oD 3 (.mv (.c (.n 0)))]
def Zz.code:Code:=.seq (.region Zz.r0) (.seq (.seq (.region Zz.r1) (.seq (.region Zz.r2) (.cond 15 (.seq (.region Zz.r3) (.ret)) (.skip)))) (.seq (.region Zz.r4) (.seq (.region Zz.r5) (.seq (.seq (.region Zz.r6) (.block 0 (.loop Zz.l1))) (.seq (.region Zz.r21) (.ret))))))
def Zz:Func:=⟨65,[.t 2,.t 3],Zz.code⟩
/-! muntin/muntinref13.Parts -/
def Zq.r0:List Oper:=[
 oD 2 (.mv (.c (.sn)))]
def Zq.r1:List Oper:=[
 oD 9 (.mv 0),
 oD 10 (.len 9),
 oD 11 (.mks 1 1 [.b false] 10 10),
 oD 3 (.mv 11)]
def Zq.r2:List Oper:=[
 oD 4 (.mv (.c (.sn)))]
def Zq.r3:List Oper:=[
 oD 5 (.mv (.c (.n 0)))]
def Zq.r4:List Oper:=[
 oD 12 (.mv 5),
 oD 13 (.mv 0),
 oD 14 (.len 13),
 oD 15 (.bin .lss 12 14)]
def Zq.r6:List Oper:=[
 oD 18 (.mv 3),
 oD 19 (.mv 5),
 oD 20 (.ixa 1 18 19),
 oD 21 (.ld false 1 20)]
def Zq.r7:List Oper:=[
 oD 22 (.mv 0),
 oD 23 (.mv 5),
 oD 24 (.call (.c (.f 36 [])) [.t 22,.t 23]),
 oD 6 (.mv 24)]
def Zq.r8:List Oper:=[
 oD 7 (.mv (.c (.sn)))]
def Zq.r9:List Oper:=[
 oD 8 (.mv (.c (.n 0)))]
def Zq.r10:List Oper:=[
 oD 25 (.mv 8),
 oD 26 (.mv 0),
 oD 27 (.len 26),
 oD 28 (.bin .lss 25 27)]
def Zq.r12:List Oper:=[
 oD 31 (.mv 6),
 oD 32 (.mv 8),
 oD 33 (.ixa 1 31 32),
 oD 34 (.ld false 1 33),
 oD 35 (.bin .geq 34 (.c (.n 0)))]
def Zq.r13:List Oper:=[
 oD 36 (.mv 3),
 oD 37 (.mv 8),
 oD 38 (.ixa 1 36 37),
 oN (.st 1 38 (.c (.b true)))]
def Zq.r14:List Oper:=[
 oD 39 (.mv 7),
 oD 40 (.mv 8),
 oD 41 (.bsl 1 1 [.n 0] [(0,1,.t 40)]),
 oD 42 (.app 1 8 39 41),
 oD 7 (.mv 42)]
def Zq.r11:List Oper:=[
 oD 29 (.mv 8),
 oD 30 (.bin .add 29 (.c (.n 1))),
 oD 8 (.mv 30)]
def Zq.l0:Code:=.seq (.seq (.region Zq.r10) (.cond 28 (.skip) (.exit 2))) (.seq (.block 3 (.seq (.region Zq.r12) (.cond 35 (.seq (.region Zq.r13) (.region Zq.r14)) (.skip)))) (.region Zq.r11))
def Zq.r15:List Oper:=[
 oD 43 (.mv 4),
 oD 44 (.mv 7),
 oD 45 (.bsl 1 1 [.sn] [(0,1,.t 44)]),
 oD 46 (.app 1 24 43 45),
 oD 4 (.mv 46)]
def Zq.r5:List Oper:=[
 oD 16 (.mv 5),
 oD 17 (.bin .add 16 (.c (.n 1))),
 oD 5 (.mv 17)]
def Zq.l1:Code:=.seq (.seq (.region Zq.r4) (.cond 15 (.skip) (.exit 0))) (.seq (.block 1 (.seq (.seq (.region Zq.r6) (.cond 21 (.exit 1) (.skip))) (.seq (.region Zq.r7) (.seq (.region Zq.r8) (.seq (.seq (.region Zq.r9) (.block 2 (.loop Zq.l0))) (.region Zq.r15)))))) (.region Zq.r5))
def Zq.r16:List Oper:=[
 oD 47 (.mv 4),
 oD 2 (.mv 47)]
def Zq.code:Code:=.seq (.region Zq.r0) (.seq (.region Zq.r1) (.seq (.region Zq.r2) (.seq (.seq (.region Zq.r3) (.block 0 (.loop Zq.l1))) (.seq (.region Zq.r16) (.ret)))))
def Zq:Func:=⟨48,[.t 2],Zq.code⟩
/-! muntin/join.Whole -/
def Zaj.r0:List Oper:=[
 oD 2 (.mv (.c (.b false)))]
def Zaj.r1:List Oper:=[
 oD 6 (.mv 0),
 oD 7 (.call (.c (.f 29 [])) [.t 6]),
 oD 5 (.mv 7),
 oD 8 (.ext 5 0),
 oD 9 (.ext 5 1),
 oD 3 (.mv 8),
 oD 4 (.mv 9)]
def Zaj.r2:List Oper:=[
 oD 10 (.mv 4),
 oD 11 (.eq false .sc 10 (.c (.n 0))),
 oD 12 (.mv 11),
 ⟨(some 13),.mv 3,(some (12,true))⟩,
 ⟨(some 14),.len 13,(some (12,true))⟩,
 ⟨(some 15),.eq false .sc 14 (.c (.n 1)),(some (12,true))⟩,
 oD 16 (.pick 12 15 (.c (.b false))),
 oD 2 (.mv 16)]
def Zaj.code:Code:=.seq (.region Zaj.r0) (.seq (.region Zaj.r1) (.seq (.region Zaj.r2) (.ret)))
def Zaj:Func:=⟨17,[.t 2],Zaj.code⟩
/-! muntin/muntinref13.Far -/
def Zl.r0:List Oper:=[
 oD 4 (.mv (.c (.sn)))]
def Zl.r1:List Oper:=[
 oD 11 (.mv 0),
 oD 12 (.len 11),
 oD 13 (.mks 1 8 [.n 0] 12 12),
 oD 5 (.mv 13)]
def Zl.r2:List Oper:=[
 oD 6 (.mv (.c (.n 0)))]
def Zl.r3:List Oper:=[
 oD 14 (.mv 6),
 oD 15 (.mv 0),
 oD 16 (.len 15),
 oD 17 (.bin .lss 14 16)]
def Zl.r5:List Oper:=[
 oD 20 (.mv 5),
 oD 21 (.mv 6),
 oD 22 (.ixa 1 20 21),
 oN (.st 1 22 (.c (.n (-1))))]
def Zl.r4:List Oper:=[
 oD 18 (.mv 6),
 oD 19 (.bin .add 18 (.c (.n 1))),
 oD 6 (.mv 19)]
def Zl.l0:Code:=.seq (.seq (.region Zl.r3) (.cond 17 (.skip) (.exit 0))) (.seq (.block 1 (.region Zl.r5)) (.region Zl.r4))
def Zl.r6:List Oper:=[
 oD 23 (.mv 5),
 oD 24 (.mv 1),
 oD 25 (.ixa 1 23 24),
 oN (.st 1 25 (.c (.n 0)))]
def Zl.r7:List Oper:=[
 oD 7 (.mv (.c (.n 0)))]
def Zl.r8:List Oper:=[
 oD 26 (.mv 7),
 oD 27 (.mv 0),
 oD 28 (.len 27),
 oD 29 (.bin .lss 26 28)]
def Zl.r10:List Oper:=[
 oD 8 (.mv (.c (.n 0)))]
def Zl.r11:List Oper:=[
 oD 32 (.mv 8),
 oD 33 (.mv 0),
 oD 34 (.len 33),
 oD 35 (.bin .lss 32 34)]
def Zl.r13:List Oper:=[
 oD 9 (.mv (.c (.n 0)))]
def Zl.r14:List Oper:=[
 oD 38 (.mv 9),
 oD 39 (.bin .lss 38 (.c (.n 4)))]
def Zl.r16:List Oper:=[
 oD 42 (.mv 0),
 oD 43 (.mv 8),
 oD 44 (.mv 9),
 oD 45 (.ixa 8 42 43),
 oD 46 (.fa 0 45),
 oD 47 (.ixaa 1 4 46 44),
 oD 48 (.ld false 1 47),
 oD 10 (.mv 48)]
def Zl.r17:List Oper:=[
 oD 49 (.mv 5),
 oD 50 (.mv 8),
 oD 51 (.ixa 1 49 50),
 oD 52 (.ld false 1 51),
 oD 53 (.mv 7),
 oD 54 (.eq false .sc 52 53),
 oD 55 (.mv 54),
 ⟨(some 56),.mv 10,(some (55,true))⟩,
 ⟨(some 57),.bin .geq 56 (.c (.n 0)),(some (55,true))⟩,
 oD 58 (.pick 55 57 (.c (.b false))),
 oD 59 (.mv 58),
 ⟨(some 60),.mv 5,(some (59,true))⟩,
 ⟨(some 61),.mv 10,(some (59,true))⟩,
 ⟨(some 62),.mx [.t 61,.c (.n 0)],(some (59,true))⟩,
 ⟨(some 63),.ixa 1 60 62,(some (59,true))⟩,
 ⟨(some 64),.ld false 1 63,(some (59,true))⟩,
 ⟨(some 65),.bin .lss 64 (.c (.n 0)),(some (59,true))⟩,
 oD 66 (.pick 59 65 (.c (.b false)))]
def Zl.r18:List Oper:=[
 oD 67 (.mv 5),
 oD 68 (.mv 10),
 oD 69 (.mv 7),
 oD 70 (.bin .add 69 (.c (.n 1))),
 oD 71 (.ixa 1 67 68),
 oN (.st 1 71 70)]
def Zl.r15:List Oper:=[
 oD 40 (.mv 9),
 oD 41 (.bin .add 40 (.c (.n 1))),
 oD 9 (.mv 41)]
def Zl.l1:Code:=.seq (.seq (.region Zl.r14) (.cond 39 (.skip) (.exit 6))) (.seq (.block 7 (.seq (.region Zl.r16) (.seq (.region Zl.r17) (.cond 66 (.region Zl.r18) (.skip))))) (.region Zl.r15))
def Zl.r12:List Oper:=[
 oD 36 (.mv 8),
 oD 37 (.bin .add 36 (.c (.n 1))),
 oD 8 (.mv 37)]
def Zl.l2:Code:=.seq (.seq (.region Zl.r11) (.cond 35 (.skip) (.exit 4))) (.seq (.block 5 (.seq (.region Zl.r13) (.block 6 (.loop Zl.l1)))) (.region Zl.r12))
def Zl.r9:List Oper:=[
 oD 30 (.mv 7),
 oD 31 (.bin .add 30 (.c (.n 1))),
 oD 7 (.mv 31)]
def Zl.l3:Code:=.seq (.seq (.region Zl.r8) (.cond 29 (.skip) (.exit 2))) (.seq (.block 3 (.seq (.region Zl.r10) (.block 4 (.loop Zl.l2)))) (.region Zl.r9))
def Zl.r19:List Oper:=[
 oD 72 (.mv 5),
 oD 4 (.mv 72)]
def Zl.code:Code:=.seq (.region Zl.r0) (.seq (.region Zl.r1) (.seq (.seq (.region Zl.r2) (.block 0 (.loop Zl.l0))) (.seq (.region Zl.r6) (.seq (.seq (.region Zl.r7) (.block 2 (.loop Zl.l3))) (.seq (.region Zl.r19) (.ret))))))
def Zl:Func:=⟨73,[.t 4],Zl.code⟩
/-! muntin/muntinref10.New -/
def ZA.r0:List Oper:=[
 oD 2 (.mv (.c (.sn)))]
def ZA.r1:List Oper:=[
 oD 6 (.mv 0),
 oD 7 (.mks 8 64 [.n 0,.n 0,.n 0,.n 0,.n 0,.n 0,.n 0,.n 0] 6 6),
 oD 3 (.mv 7)]
def ZA.r2:List Oper:=[
 oD 4 (.mv (.c (.n 0)))]
def ZA.r3:List Oper:=[
 oD 8 (.mv 4),
 oD 9 (.mv 0),
 oD 10 (.bin .lss 8 9)]
def ZA.r5:List Oper:=[
 oD 5 (.mv (.c (.n 0)))]
def ZA.r6:List Oper:=[
 oD 13 (.mv 5),
 oD 14 (.bin .lss 13 (.c (.n 4)))]
def ZA.r8:List Oper:=[
 oD 17 (.mv 3),
 oD 18 (.mv 4),
 oD 19 (.mv 5),
 oD 20 (.ixa 8 17 18),
 oD 21 (.fa 0 20),
 oD 22 (.ixaa 1 4 21 19),
 oN (.st 1 22 (.c (.n (-1))))]
def ZA.r7:List Oper:=[
 oD 15 (.mv 5),
 oD 16 (.bin .add 15 (.c (.n 1))),
 oD 5 (.mv 16)]
def ZA.l0:Code:=.seq (.seq (.region ZA.r6) (.cond 14 (.skip) (.exit 2))) (.seq (.block 3 (.region ZA.r8)) (.region ZA.r7))
def ZA.r4:List Oper:=[
 oD 11 (.mv 4),
 oD 12 (.bin .add 11 (.c (.n 1))),
 oD 4 (.mv 12)]
def ZA.l1:Code:=.seq (.seq (.region ZA.r3) (.cond 10 (.skip) (.exit 0))) (.seq (.block 1 (.seq (.region ZA.r5) (.block 2 (.loop ZA.l0)))) (.region ZA.r4))
def ZA.r9:List Oper:=[
 oD 23 (.mv 3),
 oD 2 (.mv 23)]
def ZA.code:Code:=.seq (.region ZA.r0) (.seq (.region ZA.r1) (.seq (.seq (.region ZA.r2) (.block 0 (.loop ZA.l1))) (.seq (.region ZA.r9) (.ret))))
def ZA:Func:=⟨24,[.t 2],ZA.code⟩
/-! muntin/muntinref10.Join -/
def ZP.r0:List Oper:=[
 oD 10 (.mv (.c (.sn))),
 oD 11 (.mv (.c (.n 0)))]
def ZP.r1:List Oper:=[
 oD 13 (.mv 1),
 oD 14 (.bin .lss 13 (.c (.n 0))),
 oD 15 (.mv 14),
 ⟨(some 16),.mv 1,(some (15,false))⟩,
 ⟨(some 17),.mv 0,(some (15,false))⟩,
 ⟨(some 18),.len 17,(some (15,false))⟩,
 ⟨(some 19),.bin .geq 16 18,(some (15,false))⟩,
 oD 20 (.pick 15 (.c (.b true)) 19),
 oD 21 (.mv 20),
 ⟨(some 22),.mv 3,(some (21,false))⟩,
 ⟨(some 23),.bin .lss 22 (.c (.n 0)),(some (21,false))⟩,
 oD 24 (.pick 21 (.c (.b true)) 23),
 oD 25 (.mv 24),
 ⟨(some 26),.mv 3,(some (25,false))⟩,
 ⟨(some 27),.mv 0,(some (25,false))⟩,
 ⟨(some 28),.len 27,(some (25,false))⟩,
 ⟨(some 29),.bin .geq 26 28,(some (25,false))⟩,
 oD 30 (.pick 25 (.c (.b true)) 29),
 oD 31 (.mv 30),
 ⟨(some 32),.mv 1,(some (31,false))⟩,
 ⟨(some 33),.mv 3,(some (31,false))⟩,
 ⟨(some 34),.eq false .sc 32 33,(some (31,false))⟩,
 oD 35 (.pick 31 (.c (.b true)) 34),
 oD 36 (.mv 35),
 ⟨(some 37),.mv 2,(some (36,false))⟩,
 ⟨(some 38),.bin .lss 37 (.c (.n 0)),(some (36,false))⟩,
 oD 39 (.pick 36 (.c (.b true)) 38),
 oD 40 (.mv 39),
 ⟨(some 41),.mv 2,(some (40,false))⟩,
 ⟨(some 42),.bin .gtr 41 (.c (.n 3)),(some (40,false))⟩,
 oD 43 (.pick 40 (.c (.b true)) 42),
 oD 44 (.mv 43),
 ⟨(some 45),.mv 4,(some (44,false))⟩,
 ⟨(some 46),.bin .lss 45 (.c (.n (-2))),(some (44,false))⟩,
 oD 47 (.pick 44 (.c (.b true)) 46)]
def ZP.r2:List Oper:=[
 oD 48 (.mv 0),
 oD 10 (.mv 48),
 oD 11 (.mv (.c (.n 2)))]
def ZP.r3:List Oper:=[
 oD 49 (.mv 0),
 oD 50 (.mv 1),
 oD 51 (.mv 2),
 oD 52 (.ixa 8 49 50),
 oD 53 (.fa 0 52),
 oD 54 (.ixaa 1 4 53 51),
 oD 55 (.ld false 1 54),
 oD 56 (.eq true .sc 55 (.c (.n (-1)))),
 oD 57 (.mv 56),
 ⟨(some 58),.mv 0,(some (57,false))⟩,
 ⟨(some 59),.mv 3,(some (57,false))⟩,
 ⟨(some 60),.mv 2,(some (57,false))⟩,
 ⟨(some 61),.bin .add 60 (.c (.n 2)),(some (57,false))⟩,
 ⟨(some 62),.bin .rem 61 (.c (.n 4)),(some (57,false))⟩,
 ⟨(some 63),.ixa 8 58 59,(some (57,false))⟩,
 ⟨(some 64),.fa 0 63,(some (57,false))⟩,
 ⟨(some 65),.ixaa 1 4 64 62,(some (57,false))⟩,
 ⟨(some 66),.ld false 1 65,(some (57,false))⟩,
 ⟨(some 67),.eq true .sc 66 (.c (.n (-1))),(some (57,false))⟩,
 oD 68 (.pick 57 (.c (.b true)) 67)]
def ZP.r4:List Oper:=[
 oD 69 (.mv 0),
 oD 10 (.mv 69),
 oD 11 (.mv (.c (.n 9)))]
def ZP.r5:List Oper:=[
 oD 70 (.mv 0),
 oD 71 (.mv 1),
 oD 72 (.mv 2),
 oD 73 (.mv 3),
 oD 74 (.mv 4),
 oD 75 (.call (.c (.f 65 [])) [.t 70,.t 71,.t 72,.t 73,.t 74]),
 oD 12 (.mv 75)]
def ZP.r6:List Oper:=[
 oD 76 (.mv 12),
 oD 10 (.mv 76),
 oD 11 (.mv (.c (.n 0)))]
def ZP.code:Code:=.seq (.region ZP.r0) (.seq (.seq (.region ZP.r1) (.cond 47 (.seq (.region ZP.r2) (.ret)) (.skip))) (.seq (.seq (.region ZP.r3) (.cond 68 (.seq (.region ZP.r4) (.ret)) (.skip))) (.seq (.region ZP.r5) (.seq (.region ZP.r6) (.ret)))))
def ZP:Func:=⟨77,[.t 10,.t 11],ZP.code⟩
/-! muntin/muntinref10.Nearest -/
def Z0.r0:List Oper:=[
 oD 6 (.mv (.c (.n 0)))]
def Z0.r1:List Oper:=[
 oD 7 (.mv (.c (.n (-1))))]
def Z0.r2:List Oper:=[
 oD 8 (.mv (.c (.n 0)))]
def Z0.r3:List Oper:=[
 oD 9 (.mv 8),
 oD 10 (.mv 0),
 oD 11 (.len 10),
 oD 12 (.bin .lss 9 11)]
def Z0.r5:List Oper:=[
 oD 15 (.mv 2),
 oD 16 (.eq false .sc 15 (.c (.n 0))),
 oD 17 (.mv 16),
 ⟨(some 18),.mv 0,(some (17,true))⟩,
 ⟨(some 19),.mv 8,(some (17,true))⟩,
 ⟨(some 20),.ixa 2 18 19,(some (17,true))⟩,
 ⟨(some 21),.fa 1 20,(some (17,true))⟩,
 ⟨(some 22),.ld false 1 21,(some (17,true))⟩,
 ⟨(some 23),.mv 0,(some (17,true))⟩,
 ⟨(some 24),.mv 1,(some (17,true))⟩,
 ⟨(some 25),.ixa 2 23 24,(some (17,true))⟩,
 ⟨(some 26),.fa 1 25,(some (17,true))⟩,
 ⟨(some 27),.ld false 1 26,(some (17,true))⟩,
 ⟨(some 28),.eq false .sc 22 27,(some (17,true))⟩,
 oD 29 (.pick 17 28 (.c (.b false))),
 oD 30 (.mv 29),
 ⟨(some 31),.mv 0,(some (30,true))⟩,
 ⟨(some 32),.mv 8,(some (30,true))⟩,
 ⟨(some 33),.ixa 2 31 32,(some (30,true))⟩,
 ⟨(some 34),.fa 0 33,(some (30,true))⟩,
 ⟨(some 35),.ld false 1 34,(some (30,true))⟩,
 ⟨(some 36),.mv 0,(some (30,true))⟩,
 ⟨(some 37),.mv 1,(some (30,true))⟩,
 ⟨(some 38),.ixa 2 36 37,(some (30,true))⟩,
 ⟨(some 39),.fa 0 38,(some (30,true))⟩,
 ⟨(some 40),.ld false 1 39,(some (30,true))⟩,
 ⟨(some 41),.bin .gtr 35 40,(some (30,true))⟩,
 oD 42 (.pick 30 41 (.c (.b false))),
 oD 43 (.mv 42),
 ⟨(some 44),.mv 7,(some (43,true))⟩,
 ⟨(some 45),.bin .lss 44 (.c (.n 0)),(some (43,true))⟩,
 ⟨(some 46),.mv 45,(some (43,true))⟩,
 ⟨(some 47),.mv 0,(some (46,false))⟩,
 ⟨(some 48),.mv 8,(some (46,false))⟩,
 ⟨(some 49),.ixa 2 47 48,(some (46,false))⟩,
 ⟨(some 50),.fa 0 49,(some (46,false))⟩,
 ⟨(some 51),.ld false 1 50,(some (46,false))⟩,
 ⟨(some 52),.mv 0,(some (46,false))⟩,
 ⟨(some 53),.mv 7,(some (46,false))⟩,
 ⟨(some 54),.ixa 2 52 53,(some (46,false))⟩,
 ⟨(some 55),.fa 0 54,(some (46,false))⟩,
 ⟨(some 56),.ld false 1 55,(some (46,false))⟩,
 ⟨(some 57),.bin .lss 51 56,(some (46,false))⟩,
 ⟨(some 58),.pick 46 (.c (.b true)) 57,(some (43,true))⟩,
 oD 59 (.pick 43 58 (.c (.b false)))]
def Z0.r6:List Oper:=[
 oD 60 (.mv 8),
 oD 7 (.mv 60)]
def Z0.r7:List Oper:=[
 oD 61 (.mv 2),
 oD 62 (.eq false .sc 61 (.c (.n 1))),
 oD 63 (.mv 62),
 ⟨(some 64),.mv 0,(some (63,true))⟩,
 ⟨(some 65),.mv 8,(some (63,true))⟩,
 ⟨(some 66),.ixa 2 64 65,(some (63,true))⟩,
 ⟨(some 67),.fa 0 66,(some (63,true))⟩,
 ⟨(some 68),.ld false 1 67,(some (63,true))⟩,
 ⟨(some 69),.mv 0,(some (63,true))⟩,
 ⟨(some 70),.mv 1,(some (63,true))⟩,
 ⟨(some 71),.ixa 2 69 70,(some (63,true))⟩,
 ⟨(some 72),.fa 0 71,(some (63,true))⟩,
 ⟨(some 73),.ld false 1 72,(some (63,true))⟩,
 ⟨(some 74),.eq false .sc 68 73,(some (63,true))⟩,
 oD 75 (.pick 63 74 (.c (.b false))),
 oD 76 (.mv 75),
 ⟨(some 77),.mv 0,(some (76,true))⟩,
 ⟨(some 78),.mv 8,(some (76,true))⟩,
 ⟨(some 79),.ixa 2 77 78,(some (76,true))⟩,
 ⟨(some 80),.fa 1 79,(some (76,true))⟩,
 ⟨(some 81),.ld false 1 80,(some (76,true))⟩,
 ⟨(some 82),.mv 0,(some (76,true))⟩,
 ⟨(some 83),.mv 1,(some (76,true))⟩,
 ⟨(some 84),.ixa 2 82 83,(some (76,true))⟩,
 ⟨(some 85),.fa 1 84,(some (76,true))⟩,
 ⟨(some 86),.ld false 1 85,(some (76,true))⟩,
 ⟨(some 87),.bin .gtr 81 86,(some (76,true))⟩,
 oD 88 (.pick 76 87 (.c (.b false))),
 oD 89 (.mv 88),
 ⟨(some 90),.mv 7,(some (89,true))⟩,
 ⟨(some 91),.bin .lss 90 (.c (.n 0)),(some (89,true))⟩,
 ⟨(some 92),.mv 91,(some (89,true))⟩,
 ⟨(some 93),.mv 0,(some (92,false))⟩,
 ⟨(some 94),.mv 8,(some (92,false))⟩,
 ⟨(some 95),.ixa 2 93 94,(some (92,false))⟩,
 ⟨(some 96),.fa 1 95,(some (92,false))⟩,
 ⟨(some 97),.ld false 1 96,(some (92,false))⟩,
 ⟨(some 98),.mv 0,(some (92,false))⟩,
 ⟨(some 99),.mv 7,(some (92,false))⟩,
 ⟨(some 100),.ixa 2 98 99,(some (92,false))⟩,
 ⟨(some 101),.fa 1 100,(some (92,false))⟩,
 ⟨(some 102),.ld false 1 101,(some (92,false))⟩,
 ⟨(some 103),.bin .lss 97 102,(some (92,false))⟩,
 ⟨(some 104),.pick 92 (.c (.b true)) 103,(some (89,true))⟩,
 oD 105 (.pick 89 104 (.c (.b false)))]
def Z0.r8:List Oper:=[
 oD 106 (.mv 8),
 oD 7 (.mv 106)]
def Z0.r4:List Oper:=[
 oD 13 (.mv 8),
 oD 14 (.bin .add 13 (.c (.n 1))),
 oD 8 (.mv 14)]
def Z0.l0:Code:=.seq (.seq (.region Z0.r3) (.cond 12 (.skip) (.exit 0))) (.seq (.block 1 (.seq (.seq (.draw Z0.r5 [(7,12),(20,25),(36,41)]) (.cond 59 (.region Z0.r6) (.skip))) (.seq (.draw Z0.r7 [(7,12),(20,25),(36,41)]) (.cond 105 (.region Z0.r8) (.skip))))) (.region Z0.r4))
def Z0.r9:List Oper:=[
 oD 107 (.mv 7),
 oD 6 (.mv 107)]
def Z0.code:Code:=.seq (.region Z0.r0) (.seq (.region Z0.r1) (.seq (.seq (.region Z0.r2) (.block 0 (.loop Z0.l0))) (.seq (.region Z0.r9) (.ret))))
def Z0:Func:=⟨108,[.t 6],Z0.code⟩
/-! muntin/muntinref10.Crossed -/
def Zn.r0:List Oper:=[
 oD 8 (.mv (.c (.b false)))]
def Zn.r1:List Oper:=[
 oD 9 (.mv (.c (.n 0)))]
def Zn.r2:List Oper:=[
 oD 14 (.mv 9),
 oD 15 (.mv 1),
 oD 16 (.len 15),
 oD 17 (.bin .lss 14 16)]
def Zn.r4:List Oper:=[
 oD 10 (.mv (.c (.n 0)))]
def Zn.r5:List Oper:=[
 oD 20 (.mv 10),
 oD 21 (.bin .lss 20 (.c (.n 2)))]
def Zn.r7:List Oper:=[
 oD 24 (.mv 1),
 oD 25 (.mv 9),
 oD 26 (.mv 10),
 oD 27 (.ixa 8 24 25),
 oD 28 (.fa 0 27),
 oD 29 (.ixaa 1 4 28 26),
 oD 30 (.ld false 1 29),
 oD 11 (.mv 30)]
def Zn.r8:List Oper:=[
 oD 31 (.mv 11),
 oD 32 (.bin .lss 31 (.c (.n 0)))]
def Zn.r9:List Oper:=[
 oD 33 (.mv 0),
 oD 34 (.mv 9),
 oD 35 (.ixa 2 33 34),
 oD 36 (.ld true 2 35),
 oD 12 (.alloc [.n 0,.n 0]),
 oN (.st 2 12 36)]
def Zn.r10:List Oper:=[
 oD 37 (.mv 0),
 oD 38 (.mv 11),
 oD 39 (.ixa 2 37 38),
 oD 40 (.ld true 2 39),
 oD 13 (.alloc [.n 0,.n 0]),
 oN (.st 2 13 40)]
def Zn.r11:List Oper:=[
 oD 41 (.fa 1 12),
 oD 42 (.ld false 1 41),
 oD 43 (.fa 1 13),
 oD 44 (.ld false 1 43),
 oD 45 (.eq false .sc 42 44),
 oD 46 (.mv 45),
 ⟨(some 47),.mv 0,(some (46,true))⟩,
 ⟨(some 48),.mv 2,(some (46,true))⟩,
 ⟨(some 49),.ixa 2 47 48,(some (46,true))⟩,
 ⟨(some 50),.fa 0 49,(some (46,true))⟩,
 ⟨(some 51),.ld false 1 50,(some (46,true))⟩,
 ⟨(some 52),.mv 0,(some (46,true))⟩,
 ⟨(some 53),.mv 3,(some (46,true))⟩,
 ⟨(some 54),.ixa 2 52 53,(some (46,true))⟩,
 ⟨(some 55),.fa 0 54,(some (46,true))⟩,
 ⟨(some 56),.ld false 1 55,(some (46,true))⟩,
 ⟨(some 57),.eq false .sc 51 56,(some (46,true))⟩,
 oD 58 (.pick 46 57 (.c (.b false))),
 oD 59 (.mv 58),
 ⟨(some 60),.fa 0 12,(some (59,true))⟩,
 ⟨(some 61),.ld false 1 60,(some (59,true))⟩,
 ⟨(some 62),.mv 0,(some (59,true))⟩,
 ⟨(some 63),.mv 2,(some (59,true))⟩,
 ⟨(some 64),.ixa 2 62 63,(some (59,true))⟩,
 ⟨(some 65),.fa 0 64,(some (59,true))⟩,
 ⟨(some 66),.ld false 1 65,(some (59,true))⟩,
 ⟨(some 67),.bin .lss 61 66,(some (59,true))⟩,
 oD 68 (.pick 59 67 (.c (.b false))),
 oD 69 (.mv 68),
 ⟨(some 70),.mv 0,(some (69,true))⟩,
 ⟨(some 71),.mv 2,(some (69,true))⟩,
 ⟨(some 72),.ixa 2 70 71,(some (69,true))⟩,
 ⟨(some 73),.fa 0 72,(some (69,true))⟩,
 ⟨(some 74),.ld false 1 73,(some (69,true))⟩,
 ⟨(some 75),.fa 0 13,(some (69,true))⟩,
 ⟨(some 76),.ld false 1 75,(some (69,true))⟩,
 ⟨(some 77),.bin .lss 74 76,(some (69,true))⟩,
 oD 78 (.pick 69 77 (.c (.b false))),
 oD 79 (.mv 78),
 ⟨(some 80),.mv 0,(some (79,true))⟩,
 ⟨(some 81),.mv 2,(some (79,true))⟩,
 ⟨(some 82),.ixa 2 80 81,(some (79,true))⟩,
 ⟨(some 83),.fa 1 82,(some (79,true))⟩,
 ⟨(some 84),.ld false 1 83,(some (79,true))⟩,
 ⟨(some 85),.fa 1 12,(some (79,true))⟩,
 ⟨(some 86),.ld false 1 85,(some (79,true))⟩,
 ⟨(some 87),.bin .lss 84 86,(some (79,true))⟩,
 oD 88 (.pick 79 87 (.c (.b false))),
 oD 89 (.mv 88),
 ⟨(some 90),.fa 1 12,(some (89,true))⟩,
 ⟨(some 91),.ld false 1 90,(some (89,true))⟩,
 ⟨(some 92),.mv 0,(some (89,true))⟩,
 ⟨(some 93),.mv 3,(some (89,true))⟩,
 ⟨(some 94),.ixa 2 92 93,(some (89,true))⟩,
 ⟨(some 95),.fa 1 94,(some (89,true))⟩,
 ⟨(some 96),.ld false 1 95,(some (89,true))⟩,
 ⟨(some 97),.bin .lss 91 96,(some (89,true))⟩,
 oD 98 (.pick 89 97 (.c (.b false)))]
def Zn.r12:List Oper:=[
 oD 8 (.mv (.c (.b true)))]
def Zn.r13:List Oper:=[
 oD 99 (.fa 0 12),
 oD 100 (.ld false 1 99),
 oD 101 (.fa 0 13),
 oD 102 (.ld false 1 101),
 oD 103 (.eq false .sc 100 102),
 oD 104 (.mv 103),
 ⟨(some 105),.mv 0,(some (104,true))⟩,
 ⟨(some 106),.mv 2,(some (104,true))⟩,
 ⟨(some 107),.ixa 2 105 106,(some (104,true))⟩,
 ⟨(some 108),.fa 1 107,(some (104,true))⟩,
 ⟨(some 109),.ld false 1 108,(some (104,true))⟩,
 ⟨(some 110),.mv 0,(some (104,true))⟩,
 ⟨(some 111),.mv 3,(some (104,true))⟩,
 ⟨(some 112),.ixa 2 110 111,(some (104,true))⟩,
 ⟨(some 113),.fa 1 112,(some (104,true))⟩,
 ⟨(some 114),.ld false 1 113,(some (104,true))⟩,
 ⟨(some 115),.eq false .sc 109 114,(some (104,true))⟩,
 oD 116 (.pick 104 115 (.c (.b false))),
 oD 117 (.mv 116),
 ⟨(some 118),.mv 0,(some (117,true))⟩,
 ⟨(some 119),.mv 2,(some (117,true))⟩,
 ⟨(some 120),.ixa 2 118 119,(some (117,true))⟩,
 ⟨(some 121),.fa 0 120,(some (117,true))⟩,
 ⟨(some 122),.ld false 1 121,(some (117,true))⟩,
 ⟨(some 123),.fa 0 12,(some (117,true))⟩,
 ⟨(some 124),.ld false 1 123,(some (117,true))⟩,
 ⟨(some 125),.bin .lss 122 124,(some (117,true))⟩,
 oD 126 (.pick 117 125 (.c (.b false))),
 oD 127 (.mv 126),
 ⟨(some 128),.fa 0 12,(some (127,true))⟩,
 ⟨(some 129),.ld false 1 128,(some (127,true))⟩,
 ⟨(some 130),.mv 0,(some (127,true))⟩,
 ⟨(some 131),.mv 3,(some (127,true))⟩,
 ⟨(some 132),.ixa 2 130 131,(some (127,true))⟩,
 ⟨(some 133),.fa 0 132,(some (127,true))⟩,
 ⟨(some 134),.ld false 1 133,(some (127,true))⟩,
 ⟨(some 135),.bin .lss 129 134,(some (127,true))⟩,
 oD 136 (.pick 127 135 (.c (.b false))),
 oD 137 (.mv 136),
 ⟨(some 138),.fa 1 12,(some (137,true))⟩,
 ⟨(some 139),.ld false 1 138,(some (137,true))⟩,
 ⟨(some 140),.mv 0,(some (137,true))⟩,
 ⟨(some 141),.mv 2,(some (137,true))⟩,
 ⟨(some 142),.ixa 2 140 141,(some (137,true))⟩,
 ⟨(some 143),.fa 1 142,(some (137,true))⟩,
 ⟨(some 144),.ld false 1 143,(some (137,true))⟩,
 ⟨(some 145),.bin .lss 139 144,(some (137,true))⟩,
 oD 146 (.pick 137 145 (.c (.b false))),
 oD 147 (.mv 146),
 ⟨(some 148),.mv 0,(some (147,true))⟩,
 ⟨(some 149),.mv 2,(some (147,true))⟩,
 ⟨(some 150),.ixa 2 148 149,(some (147,true))⟩,
 ⟨(some 151),.fa 1 150,(some (147,true))⟩,
 ⟨(some 152),.ld false 1 151,(some (147,true))⟩,
 ⟨(some 153),.fa 1 13,(some (147,true))⟩,
 ⟨(some 154),.ld false 1 153,(some (147,true))⟩,
 ⟨(some 155),.bin .lss 152 154,(some (147,true))⟩,
 oD 156 (.pick 147 155 (.c (.b false)))]
def Zn.r14:List Oper:=[
 oD 8 (.mv (.c (.b true)))]
def Zn.r6:List Oper:=[
 oD 22 (.mv 10),
 oD 23 (.bin .add 22 (.c (.n 1))),
 oD 10 (.mv 23)]
def Zn.l0:Code:=.seq (.seq (.region Zn.r5) (.cond 21 (.skip) (.exit 2))) (.seq (.block 3 (.seq (.region Zn.r7) (.seq (.seq (.region Zn.r8) (.cond 32 (.exit 3) (.skip))) (.seq (.region Zn.r9) (.seq (.region Zn.r10) (.seq (.seq (.draw Zn.r11 [(1,3),(10,15),(20,25),(33,35),(43,45),(50,55)]) (.cond 98 (.seq (.region Zn.r12) (.ret)) (.skip))) (.seq (.draw Zn.r13 [(1,3),(10,15),(23,25),(30,35),(40,45),(53,55)]) (.cond 156 (.seq (.region Zn.r14) (.ret)) (.skip))))))))) (.region Zn.r6))
def Zn.r3:List Oper:=[
 oD 18 (.mv 9),
 oD 19 (.bin .add 18 (.c (.n 1))),
 oD 9 (.mv 19)]
def Zn.l1:Code:=.seq (.seq (.region Zn.r2) (.cond 17 (.skip) (.exit 0))) (.seq (.block 1 (.seq (.region Zn.r4) (.block 2 (.loop Zn.l0)))) (.region Zn.r3))
def Zn.r15:List Oper:=[
 oD 8 (.mv (.c (.b false)))]
def Zn.code:Code:=.seq (.region Zn.r0) (.seq (.seq (.region Zn.r1) (.block 0 (.loop Zn.l1))) (.seq (.region Zn.r15) (.ret)))
def Zn:Func:=⟨157,[.t 8],Zn.code⟩
/-! muntin/muntinref10.with -/
def Zw.r0:List Oper:=[
 oD 10 (.mv (.c (.sn)))]
def Zw.r1:List Oper:=[
 oD 11 (.mv (.c (.sn)))]
def Zw.r2:List Oper:=[
 oD 12 (.mv (.c (.n 0)))]
def Zw.r3:List Oper:=[
 oD 14 (.mv 12),
 oD 15 (.mv 0),
 oD 16 (.len 15),
 oD 17 (.bin .lss 14 16)]
def Zw.r5:List Oper:=[
 oD 20 (.mv 0),
 oD 21 (.mv 12),
 oD 22 (.ixa 8 20 21),
 oD 23 (.ld true 8 22),
 oD 13 (.alloc [.n 0,.n 0,.n 0,.n 0,.n 0,.n 0,.n 0,.n 0]),
 oN (.st 8 13 23)]
def Zw.r6:List Oper:=[
 oD 24 (.mv 12),
 oD 25 (.mv 1),
 oD 26 (.eq false .sc 24 25)]
def Zw.r7:List Oper:=[
 oD 27 (.mv 2),
 oD 28 (.mv 3),
 oD 29 (.fa 0 13),
 oD 30 (.ixaa 1 4 29 27),
 oN (.st 1 30 28)]
def Zw.r8:List Oper:=[
 oD 31 (.mv 2),
 oD 32 (.mv 4),
 oD 33 (.fa 4 13),
 oD 34 (.ixaa 1 4 33 31),
 oN (.st 1 34 32)]
def Zw.r9:List Oper:=[
 oD 35 (.mv 12),
 oD 36 (.mv 3),
 oD 37 (.eq false .sc 35 36)]
def Zw.r10:List Oper:=[
 oD 38 (.mv 2),
 oD 39 (.bin .add 38 (.c (.n 2))),
 oD 40 (.bin .rem 39 (.c (.n 4))),
 oD 41 (.mv 1),
 oD 42 (.fa 0 13),
 oD 43 (.ixaa 1 4 42 40),
 oN (.st 1 43 41)]
def Zw.r11:List Oper:=[
 oD 44 (.mv 2),
 oD 45 (.bin .add 44 (.c (.n 2))),
 oD 46 (.bin .rem 45 (.c (.n 4))),
 oD 47 (.mv 4),
 oD 48 (.fa 4 13),
 oD 49 (.ixaa 1 4 48 46),
 oN (.st 1 49 47)]
def Zw.r12:List Oper:=[
 oD 50 (.mv 11),
 oD 51 (.ld true 8 13),
 oD 52 (.bsl 8 1 [.n 0,.n 0,.n 0,.n 0,.n 0,.n 0,.n 0,.n 0] [(0,8,.t 51)]),
 oD 53 (.app 8 64 50 52),
 oD 11 (.mv 53)]
def Zw.r4:List Oper:=[
 oD 18 (.mv 12),
 oD 19 (.bin .add 18 (.c (.n 1))),
 oD 12 (.mv 19)]
def Zw.l0:Code:=.seq (.seq (.region Zw.r3) (.cond 17 (.skip) (.exit 0))) (.seq (.block 1 (.seq (.region Zw.r5) (.seq (.seq (.region Zw.r6) (.cond 26 (.seq (.region Zw.r7) (.region Zw.r8)) (.skip))) (.seq (.seq (.region Zw.r9) (.cond 37 (.seq (.region Zw.r10) (.region Zw.r11)) (.skip))) (.region Zw.r12))))) (.region Zw.r4))
def Zw.r13:List Oper:=[
 oD 54 (.mv 11),
 oD 10 (.mv 54)]
def Zw.code:Code:=.seq (.region Zw.r0) (.seq (.region Zw.r1) (.seq (.seq (.region Zw.r2) (.block 0 (.loop Zw.l0))) (.seq (.region Zw.r13) (.ret))))
def Zw:Func:=⟨55,[.t 10],Zw.code⟩
/-! muntin/grid.Check -/
def ZG.r0:List Oper:=[
 oD 2 (.mv (.c (.n 0)))]
def ZG.r1:List Oper:=[
 oD 6 (.mv 0),
 oD 7 (.len 6),
 oD 8 (.bin .gtr 7 (.c (.n 4096)))]
def ZG.r2:List Oper:=[
 oD 2 (.mv (.c (.n 6)))]
def ZG.r3:List Oper:=[
 oD 9 (.mv 0),
 oD 10 (.len 9),
 oD 11 (.mv (.c (.n 0)))]
def ZG.r4:List Oper:=[
 oD 12 (.bin .lss 11 10)]
def ZG.r5:List Oper:=[
 oD 13 (.mv 11),
 oD 3 (.mv 13)]
def ZG.r6:List Oper:=[
 oD 14 (.mv (.c (.n 0)))]
def ZG.r7:List Oper:=[
 oD 15 (.bin .lss 14 (.c (.n 4)))]
def ZG.r8:List Oper:=[
 oD 16 (.mv 14),
 oD 4 (.mv 16)]
def ZG.r9:List Oper:=[
 oD 17 (.mv 0),
 oD 18 (.mv 3),
 oD 19 (.mv 4),
 oD 20 (.call (.c (.f 82 [])) [.t 17,.t 18,.t 19]),
 oD 5 (.mv 20)]
def ZG.r10:List Oper:=[
 oD 21 (.mv 5),
 oD 22 (.eq true .sc 21 (.c (.n 0)))]
def ZG.r11:List Oper:=[
 oD 23 (.mv 5),
 oD 2 (.mv 23)]
def ZG.r12:List Oper:=[
 oD 24 (.bin .add 14 (.c (.n 1))),
 oD 14 (.mv 24)]
def ZG.l0:Code:=.seq (.region ZG.r7) (.seq (.cond 15 (.skip) (.exit 2)) (.seq (.block 3 (.seq (.region ZG.r8) (.seq (.region ZG.r9) (.seq (.region ZG.r10) (.cond 22 (.seq (.region ZG.r11) (.ret)) (.skip)))))) (.region ZG.r12)))
def ZG.r13:List Oper:=[
 oD 25 (.bin .add 11 (.c (.n 1))),
 oD 11 (.mv 25)]
def ZG.l1:Code:=.seq (.region ZG.r4) (.seq (.cond 12 (.skip) (.exit 0)) (.seq (.block 1 (.seq (.region ZG.r5) (.seq (.region ZG.r6) (.block 2 (.loop ZG.l0))))) (.region ZG.r13)))
def ZG.r14:List Oper:=[
 oD 2 (.mv (.c (.n 0)))]
def ZG.code:Code:=.seq (.region ZG.r0) (.seq (.seq (.region ZG.r1) (.cond 8 (.seq (.region ZG.r2) (.ret)) (.skip))) (.seq (.seq (.region ZG.r3) (.block 0 (.loop ZG.l1))) (.seq (.region ZG.r14) (.ret))))
def ZG:Func:=⟨26,[.t 2],ZG.code⟩
/-! muntin/join.spread -/
def Z5.r0:List Oper:=[
 oD 4 (.mv (.c (.sn))),
 oD 5 (.mv (.c (.sn)))]
def Z5.r1:List Oper:=[
 oD 13 (.bsl 1 1 [.n 0] [(0,1,.c (.n (-1)))]),
 oD 14 (.mv 0),
 oD 15 (.len 14),
 oD 16 (.call (.c (.f 83 [])) [.t 13,.t 15]),
 oD 17 (.bsl 1 1 [.n 0] [(0,1,.c (.n (-1)))]),
 oD 18 (.mv 0),
 oD 19 (.len 18),
 oD 20 (.call (.c (.f 83 [])) [.t 17,.t 19]),
 oD 6 (.mv 16),
 oD 7 (.mv 20)]
def Z5.r2:List Oper:=[
 oD 21 (.mv 1),
 oD 22 (.bsl 1 1 [.n 0] [(0,1,.t 21)]),
 oD 8 (.mv 22)]
def Z5.r3:List Oper:=[
 oD 23 (.mv 0),
 oD 24 (.len 23),
 oD 25 (.mks 1 1 [.b false] 24 24),
 oD 9 (.mv 25)]
def Z5.r4:List Oper:=[
 oD 26 (.mv 9),
 oD 27 (.mv 1),
 oD 28 (.ixa 1 26 27),
 oN (.st 1 28 (.c (.b true)))]
def Z5.r5:List Oper:=[
 oD 29 (.mv 8),
 oD 30 (.len 29),
 oD 31 (.bin .gtr 30 (.c (.n 0)))]
def Z5.r6:List Oper:=[
 oD 32 (.mv 8),
 oD 33 (.ixa 1 32 (.c (.n 0))),
 oD 34 (.ld false 1 33),
 oD 10 (.mv 34)]
def Z5.r7:List Oper:=[
 oD 35 (.mv 8),
 oD 36 (.slc 1 35 (some (.c (.n 1))) none none),
 oD 8 (.mv 36)]
def Z5.r8:List Oper:=[
 oD 37 (.mv (.c (.n 0)))]
def Z5.r9:List Oper:=[
 oD 38 (.bin .lss 37 (.c (.n 4)))]
def Z5.r10:List Oper:=[
 oD 39 (.mv 37),
 oD 11 (.mv 39)]
def Z5.r11:List Oper:=[
 oD 40 (.mv 0),
 oD 41 (.mv 10),
 oD 42 (.mv 11),
 oD 43 (.ixa 8 40 41),
 oD 44 (.fa 0 43),
 oD 45 (.ixaa 1 4 44 42),
 oD 46 (.ld false 1 45),
 oD 12 (.mv 46)]
def Z5.r12:List Oper:=[
 oD 47 (.mv 12),
 oD 48 (.bin .geq 47 (.c (.n 0))),
 oD 49 (.mv 48),
 ⟨(some 50),.mv 9,(some (49,true))⟩,
 ⟨(some 51),.mv 12,(some (49,true))⟩,
 ⟨(some 52),.ixa 1 50 51,(some (49,true))⟩,
 ⟨(some 53),.ld false 1 52,(some (49,true))⟩,
 ⟨(some 54),.un .not 53,(some (49,true))⟩,
 oD 55 (.pick 49 54 (.c (.b false)))]
def Z5.r13:List Oper:=[
 oD 56 (.mv 9),
 oD 57 (.mv 12),
 oD 58 (.mv 6),
 oD 59 (.mv 12),
 oD 60 (.mv 7),
 oD 61 (.mv 12),
 oD 62 (.mv 10),
 oD 63 (.mv 11),
 oD 64 (.ixa 1 56 57),
 oN (.st 1 64 (.c (.b true))),
 oD 65 (.ixa 1 58 59),
 oN (.st 1 65 62),
 oD 66 (.ixa 1 60 61),
 oN (.st 1 66 63)]
def Z5.r14:List Oper:=[
 oD 67 (.mv 8),
 oD 68 (.mv 12),
 oD 69 (.bsl 1 1 [.n 0] [(0,1,.t 68)]),
 oD 70 (.app 1 8 67 69),
 oD 8 (.mv 70)]
def Z5.r15:List Oper:=[
 oD 71 (.bin .add 37 (.c (.n 1))),
 oD 37 (.mv 71)]
def Z5.l0:Code:=.seq (.region Z5.r9) (.seq (.cond 38 (.skip) (.exit 2)) (.seq (.block 3 (.seq (.region Z5.r10) (.seq (.region Z5.r11) (.seq (.region Z5.r12) (.cond 55 (.seq (.region Z5.r13) (.region Z5.r14)) (.skip)))))) (.region Z5.r15)))
def Z5.l1:Code:=.seq (.seq (.region Z5.r5) (.cond 31 (.skip) (.exit 0))) (.block 1 (.seq (.region Z5.r6) (.seq (.region Z5.r7) (.seq (.region Z5.r8) (.block 2 (.loop Z5.l0))))))
def Z5.r16:List Oper:=[
 oD 72 (.mv 6),
 oD 73 (.mv 7),
 oD 4 (.mv 72),
 oD 5 (.mv 73)]
def Z5.code:Code:=.seq (.region Z5.r0) (.seq (.region Z5.r1) (.seq (.region Z5.r2) (.seq (.region Z5.r3) (.seq (.region Z5.r4) (.seq (.block 0 (.loop Z5.l1)) (.seq (.region Z5.r16) (.ret)))))))
def Z5:Func:=⟨74,[.t 4,.t 5],Z5.code⟩
/-! muntin/compass.Left -/
def z1.r0:List Oper:=[
 oD 4 (.mv (.c (.n 0)))]
def z1.r1:List Oper:=[
 oD 5 (.mv 0),
 oD 6 (.call (.c (.f 90 [])) [.t 5]),
 oD 7 (.un .not 6)]
def z1.r2:List Oper:=[
 oD 4 (.mv (.c (.n 0)))]
def z1.r3:List Oper:=[
 oD 8 (.mv 0),
 oD 9 (.mv 1),
 oD 10 (.bin .rem 9 (.c (.n 4))),
 oD 11 (.bin .add 8 10),
 oD 12 (.bin .add 11 (.c (.n 4))),
 oD 13 (.bin .rem 12 (.c (.n 4))),
 oD 4 (.mv 13)]
def z1.code:Code:=.seq (.region z1.r0) (.seq (.seq (.region z1.r1) (.cond 7 (.seq (.region z1.r2) (.ret)) (.skip))) (.seq (.region z1.r3) (.ret)))
def z1:Func:=⟨14,[.t 4],z1.code⟩
/-! muntin/grid.side -/
def ZW.r0:List Oper:=[
 oD 6 (.mv (.c (.n 0)))]
def ZW.r1:List Oper:=[
 oD 10 (.mv 0),
 oD 11 (.mv 1),
 oD 12 (.mv 2),
 oD 13 (.ixa 8 10 11),
 oD 14 (.fa 0 13),
 oD 15 (.ixaa 1 4 14 12),
 oD 16 (.ld false 1 15),
 oD 17 (.mv 0),
 oD 18 (.mv 1),
 oD 19 (.mv 2),
 oD 20 (.ixa 8 17 18),
 oD 21 (.fa 4 20),
 oD 22 (.ixaa 1 4 21 19),
 oD 23 (.ld false 1 22),
 oD 7 (.mv 16),
 oD 8 (.mv 23)]
def ZW.r2:List Oper:=[
 oD 24 (.mv 7),
 oD 25 (.eq false .sc 24 (.c (.n (-1))))]
def ZW.r3:List Oper:=[
 oD 26 (.mv 8),
 oD 27 (.eq true .sc 26 (.c (.n 0)))]
def ZW.r4:List Oper:=[
 oD 6 (.mv (.c (.n 9)))]
def ZW.r5:List Oper:=[
 oD 6 (.mv (.c (.n 0)))]
def ZW.r6:List Oper:=[
 oD 28 (.mv 7),
 oD 29 (.bin .lss 28 (.c (.n 0))),
 oD 30 (.mv 29),
 ⟨(some 31),.mv 7,(some (30,false))⟩,
 ⟨(some 32),.mv 0,(some (30,false))⟩,
 ⟨(some 33),.len 32,(some (30,false))⟩,
 ⟨(some 34),.bin .geq 31 33,(some (30,false))⟩,
 oD 35 (.pick 30 (.c (.b true)) 34),
 oD 36 (.mv 35),
 ⟨(some 37),.mv 7,(some (36,false))⟩,
 ⟨(some 38),.mv 1,(some (36,false))⟩,
 ⟨(some 39),.eq false .sc 37 38,(some (36,false))⟩,
 oD 40 (.pick 36 (.c (.b true)) 39)]
def ZW.r7:List Oper:=[
 oD 6 (.mv (.c (.n 3)))]
def ZW.r8:List Oper:=[
 oD 41 (.mv 2),
 oD 42 (.call (.c (.f 77 [])) [.t 41,.c (.n 2)]),
 oD 9 (.mv 42)]
def ZW.r9:List Oper:=[
 oD 43 (.mv 0),
 oD 44 (.mv 7),
 oD 45 (.mv 9),
 oD 46 (.ixa 8 43 44),
 oD 47 (.fa 0 46),
 oD 48 (.ixaa 1 4 47 45),
 oD 49 (.ld false 1 48),
 oD 50 (.mv 1),
 oD 51 (.eq true .sc 49 50),
 oD 52 (.mv 51),
 ⟨(some 53),.mv 0,(some (52,false))⟩,
 ⟨(some 54),.mv 7,(some (52,false))⟩,
 ⟨(some 55),.mv 9,(some (52,false))⟩,
 ⟨(some 56),.ixa 8 53 54,(some (52,false))⟩,
 ⟨(some 57),.fa 4 56,(some (52,false))⟩,
 ⟨(some 58),.ixaa 1 4 57 55,(some (52,false))⟩,
 ⟨(some 59),.ld false 1 58,(some (52,false))⟩,
 ⟨(some 60),.mv 8,(some (52,false))⟩,
 ⟨(some 61),.eq true .sc 59 60,(some (52,false))⟩,
 oD 62 (.pick 52 (.c (.b true)) 61),
 oD 63 (.mv 62),
 ⟨(some 64),.mv 8,(some (63,false))⟩,
 ⟨(some 65),.bin .lss 64 (.c (.n (-2))),(some (63,false))⟩,
 oD 66 (.pick 63 (.c (.b true)) 65)]
def ZW.r10:List Oper:=[
 oD 6 (.mv (.c (.n 9)))]
def ZW.r11:List Oper:=[
 oD 6 (.mv (.c (.n 0)))]
def ZW.code:Code:=.seq (.region ZW.r0) (.seq (.draw ZW.r1 [(6,13)]) (.seq (.seq (.region ZW.r2) (.cond 25 (.seq (.seq (.region ZW.r3) (.cond 27 (.seq (.region ZW.r4) (.ret)) (.skip))) (.seq (.region ZW.r5) (.ret))) (.skip))) (.seq (.seq (.region ZW.r6) (.cond 40 (.seq (.region ZW.r7) (.ret)) (.skip))) (.seq (.region ZW.r8) (.seq (.seq (.region ZW.r9) (.cond 66 (.seq (.region ZW.r10) (.ret)) (.skip))) (.seq (.region ZW.r11) (.ret)))))))
def ZW:Func:=⟨67,[.t 6],ZW.code⟩
/-! slices.Repeat[[]int,int] -/
def Z2.r0:List Oper:=[
 oD 4 (.mv (.c (.sn)))]
def Z2.r1:List Oper:=[
 oD 9 (.mv 1),
 oD 10 (.bin .lss 9 (.c (.n 0)))]
def Z2.r2:List Oper:=[
 oD 11 (.bad),
 oN (.bad)]
def Z2.r3:List Oper:=[
 oD 13 (.mv 0),
 oD 14 (.len 13),
 oD 15 (.conv .u64 14),
 oD 16 (.mv 1),
 oD 17 (.conv .u64 16),
 oD 18 (.call (.c (.f 89 [])) [.t 15,.t 17]),
 oD 12 (.mv 18),
 oD 19 (.ext 12 0),
 oD 20 (.ext 12 1),
 oD 5 (.mv 19),
 oD 6 (.mv 20)]
def Z2.r4:List Oper:=[
 oD 21 (.mv 5),
 oD 22 (.bin .gtr 21 (.c (.i .u64 0))),
 oD 23 (.mv 22),
 ⟨(some 24),.mv 6,(some (23,false))⟩,
 ⟨(some 25),.bin .gtr 24 (.c (.i .u64 9223372036854775807)),(some (23,false))⟩,
 oD 26 (.pick 23 (.c (.b true)) 25)]
def Z2.r5:List Oper:=[
 oD 27 (.bad),
 oN (.bad)]
def Z2.r6:List Oper:=[
 oD 28 (.mv 6),
 oD 29 (.conv .i64 28),
 oD 30 (.mks 1 8 [.n 0] 29 29),
 oD 7 (.mv 30)]
def Z2.r7:List Oper:=[
 oD 31 (.mv 7),
 oD 32 (.mv 0),
 oD 33 (.cpy 1 31 32),
 oD 8 (.mv 33)]
def Z2.r8:List Oper:=[
 oD 34 (.mv 8),
 oD 35 (.mv 7),
 oD 36 (.len 35),
 oD 37 (.bin .lss 34 36)]
def Z2.r9:List Oper:=[
 oD 38 (.mv 8),
 oD 39 (.mv 7),
 oD 40 (.mv 8),
 oD 41 (.slc 1 39 (some 40) none none),
 oD 42 (.mv 7),
 oD 43 (.mv 8),
 oD 44 (.slc 1 42 none (some 43) none),
 oD 45 (.cpy 1 41 44),
 oD 46 (.bin .add 38 45),
 oD 8 (.mv 46)]
def Z2.l0:Code:=.seq (.seq (.region Z2.r8) (.cond 37 (.skip) (.exit 0))) (.block 1 (.draw Z2.r9 []))
def Z2.r10:List Oper:=[
 oD 47 (.mv 7),
 oD 4 (.mv 47)]
def Z2.code:Code:=.seq (.region Z2.r0) (.seq (.seq (.region Z2.r1) (.cond 10 (.region Z2.r2) (.skip))) (.seq (.region Z2.r3) (.seq (.seq (.region Z2.r4) (.cond 26 (.region Z2.r5) (.skip))) (.seq (.region Z2.r6) (.seq (.region Z2.r7) (.seq (.block 0 (.loop Z2.l0)) (.seq (.region Z2.r10) (.ret))))))))
def Z2:Func:=⟨48,[.t 4],Z2.code⟩
/-! math/bits.Mul -/
def Zac.r0:List Oper:=[
 oD 4 (.mv (.c (.i .u64 0))),
 oD 5 (.mv (.c (.i .u64 0)))]
def Zac.r1:List Oper:=[
 oD 11 (.mv 0),
 oD 12 (.conv .u32 11),
 oD 13 (.mv 1),
 oD 14 (.conv .u32 13),
 oD 15 (.call (.c (.f 97 [])) [.t 12,.t 14]),
 oD 10 (.mv 15),
 oD 16 (.ext 10 0),
 oD 17 (.ext 10 1),
 oD 6 (.mv 16),
 oD 7 (.mv 17)]
def Zac.r2:List Oper:=[
 oD 18 (.mv 6),
 oD 19 (.conv .u64 18),
 oD 20 (.mv 7),
 oD 21 (.conv .u64 20),
 oD 4 (.mv 19),
 oD 5 (.mv 21)]
def Zac.r3:List Oper:=[
 oD 23 (.mv 0),
 oD 24 (.mv 1),
 oD 25 (.call (.c (.f 98 [])) [.t 23,.t 24]),
 oD 22 (.mv 25),
 oD 26 (.ext 22 0),
 oD 27 (.ext 22 1),
 oD 8 (.mv 26),
 oD 9 (.mv 27)]
def Zac.r4:List Oper:=[
 oD 28 (.mv 8),
 oD 29 (.mv 9),
 oD 4 (.mv 28),
 oD 5 (.mv 29)]
def Zac.code:Code:=.seq (.region Zac.r0) (.seq (.cond (.c (.b false)) (.seq (.region Zac.r1) (.seq (.region Zac.r2) (.ret))) (.skip)) (.seq (.region Zac.r3) (.seq (.region Zac.r4) (.ret))))
def Zac:Func:=⟨30,[.t 4,.t 5],Zac.code⟩
/-! muntin/compass.Good -/
def Zah.r0:List Oper:=[
 oD 2 (.mv (.c (.b false)))]
def Zah.r1:List Oper:=[
 oD 3 (.mv 0),
 oD 4 (.bin .geq 3 (.c (.n 0))),
 oD 5 (.mv 4),
 ⟨(some 6),.mv 0,(some (5,true))⟩,
 ⟨(some 7),.bin .leq 6 (.c (.n 3)),(some (5,true))⟩,
 oD 8 (.pick 5 7 (.c (.b false))),
 oD 2 (.mv 8)]
def Zah.code:Code:=.seq (.region Zah.r0) (.seq (.region Zah.r1) (.ret))
def Zah:Func:=⟨9,[.t 2],Zah.code⟩
/-! math/bits.Mul32 -/
def Zag.r0:List Oper:=[
 oD 4 (.mv (.c (.i .u32 0))),
 oD 5 (.mv (.c (.i .u32 0)))]
def Zag.r1:List Oper:=[
 oD 7 (.mv 0),
 oD 8 (.conv .u64 7),
 oD 9 (.mv 1),
 oD 10 (.conv .u64 9),
 oD 11 (.bin .mul 8 10),
 oD 6 (.mv 11)]
def Zag.r2:List Oper:=[
 oD 12 (.mv 6),
 oD 13 (.bin .shr 12 (.c (.i .u64 32))),
 oD 14 (.conv .u32 13),
 oD 15 (.mv 6),
 oD 16 (.conv .u32 15),
 oD 4 (.mv 14),
 oD 5 (.mv 16)]
def Zag.code:Code:=.seq (.region Zag.r0) (.seq (.region Zag.r1) (.seq (.region Zag.r2) (.ret)))
def Zag:Func:=⟨17,[.t 4,.t 5],Zag.code⟩
/-! math/bits.Mul64 -/
def ZR.r0:List Oper:=[
 oD 4 (.mv (.c (.i .u64 0))),
 oD 5 (.mv (.c (.i .u64 0)))]
def ZR.r1:List Oper:=[
 oD 14 (.mv 0),
 oD 15 (.bin .and 14 (.c (.i .u64 4294967295))),
 oD 6 (.mv 15)]
def ZR.r2:List Oper:=[
 oD 16 (.mv 0),
 oD 17 (.bin .shr 16 (.c (.i .u64 32))),
 oD 7 (.mv 17)]
def ZR.r3:List Oper:=[
 oD 18 (.mv 1),
 oD 19 (.bin .and 18 (.c (.i .u64 4294967295))),
 oD 8 (.mv 19)]
def ZR.r4:List Oper:=[
 oD 20 (.mv 1),
 oD 21 (.bin .shr 20 (.c (.i .u64 32))),
 oD 9 (.mv 21)]
def ZR.r5:List Oper:=[
 oD 22 (.mv 6),
 oD 23 (.mv 8),
 oD 24 (.bin .mul 22 23),
 oD 10 (.mv 24)]
def ZR.r6:List Oper:=[
 oD 25 (.mv 7),
 oD 26 (.mv 8),
 oD 27 (.bin .mul 25 26),
 oD 28 (.mv 10),
 oD 29 (.bin .shr 28 (.c (.i .u64 32))),
 oD 30 (.bin .add 27 29),
 oD 11 (.mv 30)]
def ZR.r7:List Oper:=[
 oD 31 (.mv 11),
 oD 32 (.bin .and 31 (.c (.i .u64 4294967295))),
 oD 12 (.mv 32)]
def ZR.r8:List Oper:=[
 oD 33 (.mv 11),
 oD 34 (.bin .shr 33 (.c (.i .u64 32))),
 oD 13 (.mv 34)]
def ZR.r9:List Oper:=[
 oD 35 (.mv 12),
 oD 36 (.mv 6),
 oD 37 (.mv 9),
 oD 38 (.bin .mul 36 37),
 oD 39 (.bin .add 35 38),
 oD 12 (.mv 39)]
def ZR.r10:List Oper:=[
 oD 40 (.mv 7),
 oD 41 (.mv 9),
 oD 42 (.bin .mul 40 41),
 oD 43 (.mv 13),
 oD 44 (.bin .add 42 43),
 oD 45 (.mv 12),
 oD 46 (.bin .shr 45 (.c (.i .u64 32))),
 oD 47 (.bin .add 44 46),
 oD 4 (.mv 47)]
def ZR.r11:List Oper:=[
 oD 48 (.mv 0),
 oD 49 (.mv 1),
 oD 50 (.bin .mul 48 49),
 oD 5 (.mv 50)]
def ZR.code:Code:=.seq (.region ZR.r0) (.seq (.region ZR.r1) (.seq (.region ZR.r2) (.seq (.region ZR.r3) (.seq (.region ZR.r4) (.seq (.region ZR.r5) (.seq (.region ZR.r6) (.seq (.region ZR.r7) (.seq (.region ZR.r8) (.seq (.region ZR.r9) (.seq (.region ZR.r10) (.seq (.region ZR.r11) (.ret))))))))))))
def ZR:Func:=⟨51,[.t 4,.t 5],ZR.code⟩
/-! muntin/muntinlaw14.ValidPlane -/
def ZH.r0:List Oper:=[
 oD 1 (.box 0),
 oD 2 (.mv (.c (.b false)))]
def ZH.r1:List Oper:=[
 oD 7 (.ld true 3 1),
 oD 8 (.call (.c (.f 28 [])) [.t 7,.c (.n 20)]),
 oD 6 (.mv 8),
 oD 9 (.ext 6 0),
 oD 10 (.ext 6 1),
 oD 3 (.mv 9),
 oD 4 (.mv 10)]
def ZH.r2:List Oper:=[
 oD 5 (.mv (.c (.n 0)))]
def ZH.r3:List Oper:=[
 oD 11 (.mv 3),
 oD 12 (.call (.c (.f 30 [])) [.t 11]),
 oD 13 (.len 12),
 oD 14 (.eq true .sc 13 (.c (.n 1)))]
def ZH.r4:List Oper:=[
 oD 5 (.mv (.c (.n 13)))]
def ZH.r5:List Oper:=[
 oD 15 (.call (.c (.f 172 [])) []),
 oD 16 (.mv 15),
 ⟨(some 17),.mv 3,(some (16,true))⟩,
 ⟨(some 18),.call (.c (.f 176 [])) [.t 17],(some (16,true))⟩,
 ⟨(some 19),.mv 5,(some (16,true))⟩,
 ⟨(some 20),.eq false .sc 18 19,(some (16,true))⟩,
 oD 21 (.pick 16 20 (.c (.b false))),
 oD 2 (.mv 21)]
def ZH.code:Code:=.seq (.region ZH.r0) (.seq (.region ZH.r1) (.seq (.region ZH.r2) (.seq (.seq (.region ZH.r3) (.cond 14 (.region ZH.r4) (.skip))) (.seq (.region ZH.r5) (.ret)))))
def ZH:Func:=⟨22,[.t 2],ZH.code⟩
/-! muntin/muntinlaw14.wakes -/
def zg.r0:List Oper:=[
 oD 0 (.mv (.c (.b false)))]
def zg.r1:List Oper:=[
 oD 6 (.call (.c (.f 196 [])) []),
 oD 7 (.call (.c (.f 195 [])) [.t 6]),
 oD 5 (.mv 7),
 oD 8 (.ext 5 0),
 oD 9 (.ext 5 1),
 oD 1 (.mv 8),
 oD 2 (.mv 9)]
def zg.r2:List Oper:=[
 oD 11 (.call (.c (.f 46 [])) [.c (.n 1)]),
 oD 12 (.call (.c (.f 195 [])) [.t 11]),
 oD 10 (.mv 12),
 oD 13 (.ext 10 0),
 oD 14 (.ext 10 1),
 oD 3 (.mv 13),
 oD 4 (.mv 14)]
def zg.r3:List Oper:=[
 oD 15 (.call (.c (.f 196 [])) []),
 oD 16 (.call (.c (.f 176 [])) [.t 15]),
 oD 17 (.eq false .sc 16 (.c (.n 0))),
 oD 18 (.mv 17),
 ⟨(some 19),.mv 1,(some (18,true))⟩,
 ⟨(some 20),.eq false .sc 19 (.c (.n 1)),(some (18,true))⟩,
 oD 21 (.pick 18 20 (.c (.b false))),
 oD 22 (.mv 21),
 ⟨(some 23),.mv 2,(some (22,true))⟩,
 ⟨(some 24),.eq false .sc 23 (.c (.n 0)),(some (22,true))⟩,
 oD 25 (.pick 22 24 (.c (.b false))),
 oD 26 (.mv 25),
 ⟨(some 27),.call (.c (.f 46 [])) [.c (.n 1)],(some (26,true))⟩,
 ⟨(some 28),.call (.c (.f 176 [])) [.t 27],(some (26,true))⟩,
 ⟨(some 29),.eq false .sc 28 (.c (.n 0)),(some (26,true))⟩,
 oD 30 (.pick 26 29 (.c (.b false))),
 oD 31 (.mv 30),
 ⟨(some 32),.mv 4,(some (31,true))⟩,
 ⟨(some 33),.eq false .sc 32 (.c (.n 2)),(some (31,true))⟩,
 oD 34 (.pick 31 33 (.c (.b false))),
 oD 35 (.mv 34),
 ⟨(some 36),.call (.c (.f 46 [])) [.c (.n 2)],(some (35,true))⟩,
 ⟨(some 37),.call (.c (.f 176 [])) [.t 36],(some (35,true))⟩,
 ⟨(some 38),.eq false .sc 37 (.c (.n 13)),(some (35,true))⟩,
 oD 39 (.pick 35 38 (.c (.b false))),
 oD 40 (.mv 39),
 ⟨(some 41),.call (.c (.f 176 [])) [.c (.sn)],(some (40,true))⟩,
 ⟨(some 42),.eq false .sc 41 (.c (.n 13)),(some (40,true))⟩,
 oD 43 (.pick 40 42 (.c (.b false))),
 oD 0 (.mv 43)]
def zg.code:Code:=.seq (.region zg.r0) (.seq (.region zg.r1) (.seq (.region zg.r2) (.seq (.region zg.r3) (.ret))))
def zg:Func:=⟨44,[.t 0],zg.code⟩
/-! muntin/valid.Check -/
def ZU.r0:List Oper:=[
 oD 2 (.mv (.c (.n 0)))]
def ZU.r1:List Oper:=[
 oD 6 (.mv 0),
 oD 7 (.call (.c (.f 66 [])) [.t 6]),
 oD 3 (.mv 7)]
def ZU.r2:List Oper:=[
 oD 8 (.mv 3),
 oD 9 (.eq true .sc 8 (.c (.n 0)))]
def ZU.r3:List Oper:=[
 oD 10 (.mv 3),
 oD 2 (.mv 10)]
def ZU.r4:List Oper:=[
 oD 11 (.mv 0),
 oD 12 (.call (.c (.f 32 [])) [.t 11]),
 oD 13 (.un .not 12)]
def ZU.r5:List Oper:=[
 oD 2 (.mv (.c (.n 13)))]
def ZU.r6:List Oper:=[
 oD 15 (.mv 0),
 oD 16 (.call (.c (.f 201 [])) [.t 15]),
 oD 14 (.mv 16),
 oD 17 (.ext 14 0),
 oD 18 (.ext 14 1),
 oD 4 (.mv 17),
 oD 5 (.mv 18)]
def ZU.r7:List Oper:=[
 oD 19 (.mv 5),
 oD 20 (.un .not 19),
 oD 21 (.mv 20),
 ⟨(some 22),.mv 0,(some (21,true))⟩,
 ⟨(some 23),.len 22,(some (21,true))⟩,
 ⟨(some 24),.bin .gtr 23 (.c (.n 1)),(some (21,true))⟩,
 oD 25 (.pick 21 24 (.c (.b false)))]
def ZU.r8:List Oper:=[
 oD 2 (.mv (.c (.n 10)))]
def ZU.r9:List Oper:=[
 oD 2 (.mv (.c (.n 0)))]
def ZU.code:Code:=.seq (.region ZU.r0) (.seq (.seq (.region ZU.r1) (.seq (.region ZU.r2) (.cond 9 (.seq (.region ZU.r3) (.ret)) (.skip)))) (.seq (.seq (.region ZU.r4) (.cond 13 (.seq (.region ZU.r5) (.ret)) (.skip))) (.seq (.seq (.region ZU.r6) (.seq (.region ZU.r7) (.cond 25 (.seq (.region ZU.r8) (.ret)) (.skip)))) (.seq (.region ZU.r9) (.ret)))))
def ZU:Func:=⟨26,[.t 2],ZU.code⟩
/-! muntin/valid.Outer -/
def ze.r0:List Oper:=[
 oD 2 (.mv (.c (.n 0))),
 oD 3 (.mv (.c (.n 0)))]
def ze.r1:List Oper:=[
 oD 7 (.mv 0),
 oD 8 (.call (.c (.f 176 [])) [.t 7]),
 oD 4 (.mv 8)]
def ze.r2:List Oper:=[
 oD 9 (.mv 4),
 oD 10 (.eq true .sc 9 (.c (.n 0)))]
def ze.r3:List Oper:=[
 oD 11 (.mv 4),
 oD 2 (.mv (.c (.n 0))),
 oD 3 (.mv 11)]
def ze.r4:List Oper:=[
 oD 13 (.mv 0),
 oD 14 (.call (.c (.f 201 [])) [.t 13]),
 oD 12 (.mv 14),
 oD 15 (.ext 12 0),
 oD 16 (.ext 12 1),
 oD 5 (.mv 15),
 oD 6 (.mv 16)]
def ze.r5:List Oper:=[
 oD 17 (.mv 6),
 oD 18 (.un .not 17)]
def ze.r6:List Oper:=[
 oD 2 (.mv (.c (.n 0))),
 oD 3 (.mv (.c (.n 2)))]
def ze.r7:List Oper:=[
 oD 19 (.mv 5),
 oD 2 (.mv 19),
 oD 3 (.mv (.c (.n 0)))]
def ze.code:Code:=.seq (.region ze.r0) (.seq (.seq (.region ze.r1) (.seq (.region ze.r2) (.cond 10 (.seq (.region ze.r3) (.ret)) (.skip)))) (.seq (.region ze.r4) (.seq (.seq (.region ze.r5) (.cond 18 (.seq (.region ze.r6) (.ret)) (.skip))) (.seq (.region ze.r7) (.ret)))))
def ze:Func:=⟨20,[.t 2,.t 3],ze.code⟩
/-! muntin/muntinlaw14.square -/
def ZI.r0:List Oper:=[
 oD 0 (.mv (.c (.sn)))]
def ZI.r1:List Oper:=[
 oD 2 (.call (.c (.f 46 [])) [.c (.n 4)]),
 oD 1 (.mv 2)]
def ZI.r2:List Oper:=[
 oD 4 (.mv 1),
 oD 5 (.call (.c (.f 53 [])) [.t 4,.c (.n 0),.c (.n 0),.c (.n 1),.c (.n 0)]),
 oD 3 (.mv 5),
 oD 6 (.ext 3 0),
 oD 7 (.ext 3 1),
 oD 1 (.mv 6)]
def ZI.r3:List Oper:=[
 oD 9 (.mv 1),
 oD 10 (.call (.c (.f 53 [])) [.t 9,.c (.n 1),.c (.n 1),.c (.n 2),.c (.n 0)]),
 oD 8 (.mv 10),
 oD 11 (.ext 8 0),
 oD 12 (.ext 8 1),
 oD 1 (.mv 11)]
def ZI.r4:List Oper:=[
 oD 14 (.mv 1),
 oD 15 (.call (.c (.f 53 [])) [.t 14,.c (.n 2),.c (.n 2),.c (.n 3),.c (.n 0)]),
 oD 13 (.mv 15),
 oD 16 (.ext 13 0),
 oD 17 (.ext 13 1),
 oD 1 (.mv 16)]
def ZI.r5:List Oper:=[
 oD 19 (.mv 1),
 oD 20 (.call (.c (.f 53 [])) [.t 19,.c (.n 3),.c (.n 3),.c (.n 0),.c (.n 0)]),
 oD 18 (.mv 20),
 oD 21 (.ext 18 0),
 oD 22 (.ext 18 1),
 oD 1 (.mv 21)]
def ZI.r6:List Oper:=[
 oD 23 (.mv 1),
 oD 0 (.mv 23)]
def ZI.code:Code:=.seq (.region ZI.r0) (.seq (.region ZI.r1) (.seq (.region ZI.r2) (.seq (.region ZI.r3) (.seq (.region ZI.r4) (.seq (.region ZI.r5) (.seq (.region ZI.r6) (.ret)))))))
def ZI:Func:=⟨24,[.t 0],ZI.code⟩
/-! muntin/valid.outer -/
def ZD.r0:List Oper:=[
 oD 2 (.mv (.c (.n 0))),
 oD 3 (.mv (.c (.b false)))]
def ZD.r1:List Oper:=[
 oD 10 (.mv 0),
 oD 11 (.call (.c (.f 203 [])) [.t 10]),
 oD 9 (.mv 11),
 oD 12 (.ext 9 0),
 oD 13 (.ext 9 1),
 oD 4 (.mv 12),
 oD 5 (.mv 13)]
def ZD.r2:List Oper:=[
 oD 6 (.mv (.c (.n (-1))))]
def ZD.r3:List Oper:=[
 oD 14 (.mv 4),
 oD 15 (.len 14),
 oD 16 (.mv (.c (.n 0)))]
def ZD.r4:List Oper:=[
 oD 17 (.bin .lss 16 15)]
def ZD.r5:List Oper:=[
 oD 18 (.mv 16),
 oD 19 (.ixa 1 14 16),
 oD 20 (.ld false 1 19),
 oD 7 (.mv 18),
 oD 8 (.mv 20)]
def ZD.r6:List Oper:=[
 oD 21 (.mv 0),
 oD 22 (.mv 8),
 oD 23 (.call (.c (.f 204 [])) [.t 21,.t 22]),
 oD 24 (.call (.c (.f 219 [])) [.t 23])]
def ZD.r8:List Oper:=[
 oD 26 (.eq false .sc 24 (.c (.n 4))),
 oD 25 (.mv 26)]
def ZD.r9:List Oper:=[
 oD 28 (.eq false .sc 24 (.c (.n (-4)))),
 oD 27 (.mv 28)]
def ZD.r10:List Oper:=[
 oD 29 (.mv 6),
 oD 30 (.bin .geq 29 (.c (.n 0)))]
def ZD.r11:List Oper:=[
 oD 2 (.mv (.c (.n 0))),
 oD 3 (.mv (.c (.b false)))]
def ZD.r12:List Oper:=[
 oD 31 (.mv 7),
 oD 6 (.mv 31)]
def ZD.r7:List Oper:=[
 oD 2 (.mv (.c (.n 0))),
 oD 3 (.mv (.c (.b false)))]
def ZD.r13:List Oper:=[
 oD 32 (.bin .add 16 (.c (.n 1))),
 oD 16 (.mv 32)]
def ZD.l0:Code:=.seq (.region ZD.r4) (.seq (.cond 17 (.skip) (.exit 0)) (.seq (.block 1 (.seq (.region ZD.r5) (.seq (.region ZD.r6) (.block 2 (.seq (.region ZD.r8) (.cond 25 (.skip) (.seq (.region ZD.r9) (.cond 27 (.seq (.seq (.region ZD.r10) (.cond 30 (.seq (.region ZD.r11) (.ret)) (.skip))) (.region ZD.r12)) (.seq (.region ZD.r7) (.ret)))))))))) (.region ZD.r13)))
def ZD.r14:List Oper:=[
 oD 33 (.mv 6),
 oD 34 (.mv 6),
 oD 35 (.bin .geq 34 (.c (.n 0))),
 oD 2 (.mv 33),
 oD 3 (.mv 35)]
def ZD.code:Code:=.seq (.region ZD.r0) (.seq (.region ZD.r1) (.seq (.region ZD.r2) (.seq (.seq (.region ZD.r3) (.block 0 (.loop ZD.l0))) (.seq (.region ZD.r14) (.ret)))))
def ZD:Func:=⟨36,[.t 2,.t 3],ZD.code⟩
/-! muntin/face.Faces -/
def Zu.r0:List Oper:=[
 oD 2 (.mv (.c (.sn))),
 oD 3 (.mv (.c (.n 0)))]
def Zu.r1:List Oper:=[
 oD 12 (.mv 0),
 oD 13 (.call (.c (.f 66 [])) [.t 12]),
 oD 4 (.mv 13)]
def Zu.r2:List Oper:=[
 oD 14 (.mv 4),
 oD 15 (.eq true .sc 14 (.c (.n 0)))]
def Zu.r3:List Oper:=[
 oD 16 (.mv 4),
 oD 2 (.mv (.c (.sn))),
 oD 3 (.mv 16)]
def Zu.r4:List Oper:=[
 oD 5 (.mv (.c (.sn)))]
def Zu.r5:List Oper:=[
 oD 17 (.mkm),
 oD 6 (.mv 17)]
def Zu.r6:List Oper:=[
 oD 18 (.mv 0),
 oD 19 (.len 18),
 oD 20 (.mv (.c (.n 0)))]
def Zu.r7:List Oper:=[
 oD 21 (.bin .lss 20 19)]
def Zu.r8:List Oper:=[
 oD 22 (.mv 20),
 oD 7 (.mv 22)]
def Zu.r9:List Oper:=[
 oD 23 (.mv (.c (.n 0)))]
def Zu.r10:List Oper:=[
 oD 24 (.bin .lss 23 (.c (.n 4)))]
def Zu.r11:List Oper:=[
 oD 25 (.mv 23),
 oD 8 (.mv 25)]
def Zu.r12:List Oper:=[
 oD 26 (.mv 7),
 oD 27 (.mv 8),
 oD 28 (.build [.n 0,.n 0] [(0,1,.t 26),(1,1,.t 27)]),
 oD 9 (.alloc [.n 0,.n 0]),
 oN (.st 2 9 28)]
def Zu.r13:List Oper:=[
 oD 29 (.ld true 2 9),
 oD 30 (.mv 0),
 oD 31 (.call (.c (.f 220 [])) [.t 29,.t 30]),
 oD 32 (.un .not 31),
 oD 33 (.mv 32),
 ⟨(some 34),.mv 6,(some (33,false))⟩,
 ⟨(some 35),.ld true 2 9,(some (33,false))⟩,
 ⟨(some 36),.mlk [.i,.i] false (.b false) 34 35,(some (33,false))⟩,
 oD 37 (.pick 33 (.c (.b true)) 36)]
def Zu.r14:List Oper:=[
 oD 10 (.mv (.c (.sn)))]
def Zu.r15:List Oper:=[
 oD 38 (.ld true 2 9),
 oD 11 (.alloc [.n 0,.n 0]),
 oN (.st 2 11 38)]
def Zu.r16:List Oper:=[
 oD 39 (.mv 6),
 oD 40 (.ld true 2 11),
 oD 41 (.mlk [.i,.i] false (.b false) 39 40),
 oD 42 (.un .not 41)]
def Zu.r18:List Oper:=[
 oD 46 (.mv 6),
 oD 47 (.ld true 2 11),
 oN (.mup [.i,.i] 46 47 (.c (.b true)))]
def Zu.r19:List Oper:=[
 oD 48 (.mv 10),
 oD 49 (.ld true 2 11),
 oD 50 (.bsl 2 1 [.n 0,.n 0] [(0,2,.t 49)]),
 oD 51 (.app 2 16 48 50),
 oD 10 (.mv 51)]
def Zu.r20:List Oper:=[
 oD 52 (.ld true 2 11)]
def Zu.r21:List Oper:=[
 oD 11 (.alloc [.n 0,.n 0]),
 oN (.st 2 11 52)]
def Zu.r17:List Oper:=[
 oD 43 (.ld true 2 11),
 oD 44 (.mv 0),
 oD 45 (.call (.c (.f 221 [])) [.t 43,.t 44]),
 oN (.st 2 11 45)]
def Zu.l0:Code:=.seq (.seq (.region Zu.r16) (.cond 42 (.skip) (.exit 4))) (.seq (.block 5 (.seq (.region Zu.r18) (.region Zu.r19))) (.seq (.seq (.region Zu.r20) (.region Zu.r21)) (.region Zu.r17)))
def Zu.r22:List Oper:=[
 oD 53 (.mv 5),
 oD 54 (.mv 10),
 oD 55 (.bsl 1 1 [.sn] [(0,1,.t 54)]),
 oD 56 (.app 1 24 53 55),
 oD 5 (.mv 56)]
def Zu.r23:List Oper:=[
 oD 57 (.bin .add 23 (.c (.n 1))),
 oD 23 (.mv 57)]
def Zu.l1:Code:=.seq (.region Zu.r10) (.seq (.cond 24 (.skip) (.exit 2)) (.seq (.block 3 (.seq (.region Zu.r11) (.seq (.region Zu.r12) (.seq (.seq (.region Zu.r13) (.cond 37 (.exit 3) (.skip))) (.seq (.region Zu.r14) (.seq (.seq (.region Zu.r15) (.block 4 (.loop Zu.l0))) (.region Zu.r22))))))) (.region Zu.r23)))
def Zu.r24:List Oper:=[
 oD 58 (.bin .add 20 (.c (.n 1))),
 oD 20 (.mv 58)]
def Zu.l2:Code:=.seq (.region Zu.r7) (.seq (.cond 21 (.skip) (.exit 0)) (.seq (.block 1 (.seq (.region Zu.r8) (.seq (.region Zu.r9) (.block 2 (.loop Zu.l1))))) (.region Zu.r24)))
def Zu.r25:List Oper:=[
 oD 59 (.mv 5),
 oD 2 (.mv 59),
 oD 3 (.mv (.c (.n 0)))]
def Zu.code:Code:=.seq (.region Zu.r0) (.seq (.seq (.region Zu.r1) (.seq (.region Zu.r2) (.cond 15 (.seq (.region Zu.r3) (.ret)) (.skip)))) (.seq (.region Zu.r4) (.seq (.region Zu.r5) (.seq (.seq (.region Zu.r6) (.block 0 (.loop Zu.l2))) (.seq (.region Zu.r25) (.ret))))))
def Zu:Func:=⟨60,[.t 2,.t 3],Zu.code⟩
/-! muntin/face.Turns -/
def ZS.r0:List Oper:=[
 oD 4 (.mv (.c (.sn)))]
def ZS.r1:List Oper:=[
 oD 8 (.mv 1),
 oD 9 (.len 8),
 oD 10 (.mks 1 8 [.n 0] 9 9),
 oD 5 (.mv 10)]
def ZS.r2:List Oper:=[
 oD 11 (.mv 0),
 oD 12 (.call (.c (.f 66 [])) [.t 11]),
 oD 13 (.eq true .sc 12 (.c (.n 0)))]
def ZS.r3:List Oper:=[
 oD 14 (.mv 5),
 oD 4 (.mv 14)]
def ZS.r4:List Oper:=[
 oD 15 (.mv 1),
 oD 16 (.len 15),
 oD 17 (.mv (.c (.n 0)))]
def ZS.r5:List Oper:=[
 oD 18 (.bin .lss 17 16)]
def ZS.r6:List Oper:=[
 oD 19 (.mv 17),
 oD 20 (.ixa 2 15 17),
 oD 21 (.ld true 2 20),
 oD 7 (.alloc [.n 0,.n 0]),
 oD 6 (.mv 19),
 oN (.st 2 7 21)]
def ZS.r7:List Oper:=[
 oD 22 (.ld true 2 7),
 oD 23 (.mv 0),
 oD 24 (.call (.c (.f 220 [])) [.t 22,.t 23])]
def ZS.r8:List Oper:=[
 oD 25 (.mv 5),
 oD 26 (.mv 6),
 oD 27 (.fa 1 7),
 oD 28 (.ld false 1 27),
 oD 29 (.ld true 2 7),
 oD 30 (.mv 0),
 oD 31 (.call (.c (.f 221 [])) [.t 29,.t 30]),
 oD 32 (.fld false 1 1 31),
 oD 33 (.call (.c (.f 222 [])) [.t 28,.t 32]),
 oD 34 (.ixa 1 25 26),
 oN (.st 1 34 33)]
def ZS.r9:List Oper:=[
 oD 35 (.bin .add 17 (.c (.n 1))),
 oD 17 (.mv 35)]
def ZS.l0:Code:=.seq (.region ZS.r5) (.seq (.cond 18 (.skip) (.exit 0)) (.seq (.block 1 (.seq (.region ZS.r6) (.seq (.region ZS.r7) (.cond 24 (.draw ZS.r8 [(3,4),(3,6)]) (.skip))))) (.region ZS.r9)))
def ZS.r10:List Oper:=[
 oD 36 (.mv 5),
 oD 4 (.mv 36)]
def ZS.code:Code:=.seq (.region ZS.r0) (.seq (.region ZS.r1) (.seq (.seq (.region ZS.r2) (.cond 13 (.seq (.region ZS.r3) (.ret)) (.skip))) (.seq (.seq (.region ZS.r4) (.block 0 (.loop ZS.l0))) (.seq (.region ZS.r10) (.ret)))))
def ZS:Func:=⟨37,[.t 4],ZS.code⟩
/-! muntin/face.Rotation -/
def ZL.r0:List Oper:=[
 oD 2 (.mv (.c (.n 0)))]
def ZL.r1:List Oper:=[
 oD 3 (.mv (.c (.n 0)))]
def ZL.r2:List Oper:=[
 oD 6 (.mv 0),
 oD 7 (.len 6),
 oD 8 (.mv (.c (.n 0)))]
def ZL.r3:List Oper:=[
 oD 9 (.bin .lss 8 7)]
def ZL.r4:List Oper:=[
 oD 10 (.ixa 1 6 8),
 oD 11 (.ld false 1 10),
 oD 5 (.mv 11)]
def ZL.r5:List Oper:=[
 oD 12 (.mv 5),
 oD 13 (.bin .geq 12 (.c (.n (-2)))),
 oD 14 (.mv 13),
 ⟨(some 15),.mv 5,(some (14,true))⟩,
 ⟨(some 16),.bin .leq 15 (.c (.n 1)),(some (14,true))⟩,
 oD 17 (.pick 14 16 (.c (.b false)))]
def ZL.r6:List Oper:=[
 oD 18 (.mv 3),
 oD 19 (.mv 5),
 oD 20 (.bin .add 18 19),
 oD 3 (.mv 20)]
def ZL.r7:List Oper:=[
 oD 21 (.bin .add 8 (.c (.n 1))),
 oD 8 (.mv 21)]
def ZL.l0:Code:=.seq (.region ZL.r3) (.seq (.cond 9 (.skip) (.exit 0)) (.seq (.block 1 (.seq (.region ZL.r4) (.seq (.region ZL.r5) (.cond 17 (.region ZL.r6) (.skip))))) (.region ZL.r7)))
def ZL.r8:List Oper:=[
 oD 22 (.mv 3),
 oD 2 (.mv 22)]
def ZL.code:Code:=.seq (.region ZL.r0) (.seq (.region ZL.r1) (.seq (.seq (.region ZL.r2) (.block 0 (.loop ZL.l0))) (.seq (.region ZL.r8) (.ret))))
def ZL:Func:=⟨23,[.t 2],ZL.code⟩
/-! (muntin/face.Dart).is -/
def Zai.r0:List Oper:=[
 oD 2 (.box 0),
 oD 4 (.mv (.c (.b false)))]
def Zai.r1:List Oper:=[
 oD 5 (.fa 0 2),
 oD 6 (.ld false 1 5),
 oD 7 (.bin .geq 6 (.c (.n 0))),
 oD 8 (.mv 7),
 ⟨(some 9),.fa 0 2,(some (8,true))⟩,
 ⟨(some 10),.ld false 1 9,(some (8,true))⟩,
 ⟨(some 11),.mv 1,(some (8,true))⟩,
 ⟨(some 12),.len 11,(some (8,true))⟩,
 ⟨(some 13),.bin .lss 10 12,(some (8,true))⟩,
 oD 14 (.pick 8 13 (.c (.b false))),
 oD 15 (.mv 14),
 ⟨(some 16),.fa 1 2,(some (15,true))⟩,
 ⟨(some 17),.ld false 1 16,(some (15,true))⟩,
 ⟨(some 18),.call (.c (.f 90 [])) [.t 17],(some (15,true))⟩,
 oD 19 (.pick 15 18 (.c (.b false))),
 oD 20 (.mv 19),
 ⟨(some 21),.mv 1,(some (20,true))⟩,
 ⟨(some 22),.fa 0 2,(some (20,true))⟩,
 ⟨(some 23),.ld false 1 22,(some (20,true))⟩,
 ⟨(some 24),.fa 1 2,(some (20,true))⟩,
 ⟨(some 25),.ld false 1 24,(some (20,true))⟩,
 ⟨(some 26),.ixa 8 21 23,(some (20,true))⟩,
 ⟨(some 27),.fa 0 26,(some (20,true))⟩,
 ⟨(some 28),.ixaa 1 4 27 25,(some (20,true))⟩,
 ⟨(some 29),.ld false 1 28,(some (20,true))⟩,
 ⟨(some 30),.bin .geq 29 (.c (.n 0)),(some (20,true))⟩,
 oD 31 (.pick 20 30 (.c (.b false))),
 oD 4 (.mv 31)]
def Zai.code:Code:=.seq (.region Zai.r0) (.seq (.draw Zai.r1 [(18,20)]) (.ret))
def Zai:Func:=⟨32,[.t 4],Zai.code⟩
/-! (muntin/face.Dart).behind -/
def ZB.r0:List Oper:=[
 oD 2 (.box 0),
 oD 4 (.alloc [.n 0,.n 0])]
def ZB.r1:List Oper:=[
 oD 9 (.mv 1),
 oD 10 (.fa 0 2),
 oD 11 (.ld false 1 10),
 oD 12 (.fa 1 2),
 oD 13 (.ld false 1 12),
 oD 14 (.ixa 8 9 11),
 oD 15 (.fa 0 14),
 oD 16 (.ixaa 1 4 15 13),
 oD 17 (.ld false 1 16),
 oD 5 (.mv 17)]
def ZB.r2:List Oper:=[
 oD 18 (.build [.n 0,.n 0,.n 0,.n 0] [(0,1,.c (.n 1)),(1,1,.c (.n 0)),(2,1,.c (.n (-1))),(3,1,.c (.n 2))]),
 oD 19 (.mv (.c (.n 0)))]
def ZB.r3:List Oper:=[
 oD 20 (.bin .lss 19 (.c (.n 4)))]
def ZB.r4:List Oper:=[
 oD 21 (.ix false 1 4 18 19),
 oD 7 (.mv 21)]
def ZB.r5:List Oper:=[
 oD 22 (.mv 5),
 oD 23 (.fa 1 2),
 oD 24 (.ld false 1 23),
 oD 25 (.mv 7),
 oD 26 (.call (.c (.f 77 [])) [.t 24,.t 25]),
 oD 27 (.build [.n 0,.n 0] [(0,1,.t 22),(1,1,.t 26)]),
 oD 8 (.alloc [.n 0,.n 0]),
 oN (.st 2 8 27)]
def ZB.r6:List Oper:=[
 oD 28 (.ld true 2 8),
 oD 29 (.mv 1),
 oD 30 (.call (.c (.f 220 [])) [.t 28,.t 29])]
def ZB.r7:List Oper:=[
 oD 31 (.ld true 2 8),
 oN (.st 2 4 31)]
def ZB.r8:List Oper:=[
 oD 32 (.bin .add 19 (.c (.n 1))),
 oD 19 (.mv 32)]
def ZB.l0:Code:=.seq (.region ZB.r3) (.seq (.cond 20 (.skip) (.exit 0)) (.seq (.block 1 (.seq (.region ZB.r4) (.seq (.region ZB.r5) (.seq (.region ZB.r6) (.cond 30 (.seq (.region ZB.r7) (.ret)) (.skip)))))) (.region ZB.r8)))
def ZB.r9:List Oper:=[
 oD 33 (.ld true 2 2),
 oN (.st 2 4 33)]
def ZB.code:Code:=.seq (.region ZB.r0) (.seq (.draw ZB.r1 [(2,4)]) (.seq (.seq (.region ZB.r2) (.block 0 (.loop ZB.l0))) (.seq (.region ZB.r9) (.ret))))
def ZB:Func:=⟨34,[.cell 4 true 2],ZB.code⟩
/-! muntin/compass.Turn -/
def z2.r0:List Oper:=[
 oD 4 (.mv (.c (.n 0)))]
def z2.r1:List Oper:=[
 oD 5 (.mv 0),
 oD 6 (.call (.c (.f 90 [])) [.t 5]),
 oD 7 (.un .not 6),
 oD 8 (.mv 7),
 ⟨(some 9),.mv 1,(some (8,false))⟩,
 ⟨(some 10),.call (.c (.f 90 [])) [.t 9],(some (8,false))⟩,
 ⟨(some 11),.un .not 10,(some (8,false))⟩,
 oD 12 (.pick 8 (.c (.b true)) 11)]
def z2.r2:List Oper:=[
 oD 4 (.mv (.c (.n 0)))]
def z2.r3:List Oper:=[
 oD 13 (.build [.n 0,.n 0,.n 0,.n 0] [(0,1,.c (.n 0)),(1,1,.c (.n 1)),(2,1,.c (.n (-2))),(3,1,.c (.n (-1)))]),
 oD 14 (.mv 1),
 oD 15 (.mv 0),
 oD 16 (.bin .sub 14 15),
 oD 17 (.bin .add 16 (.c (.n 4))),
 oD 18 (.bin .rem 17 (.c (.n 4))),
 oD 19 (.ix false 1 4 13 18),
 oD 4 (.mv 19)]
def z2.code:Code:=.seq (.region z2.r0) (.seq (.seq (.region z2.r1) (.cond 12 (.seq (.region z2.r2) (.ret)) (.skip))) (.seq (.region z2.r3) (.ret)))
def z2:Func:=⟨20,[.t 4],z2.code⟩
def G:Prog:=fun i=>match i with
  | 28=>some Zf
  | 29=>some Zz
  | 30=>some Zq
  | 32=>some Zaj
  | 36=>some Zl
  | 46=>some ZA
  | 53=>some ZP
  | 63=>some Z0
  | 64=>some Zn
  | 65=>some Zw
  | 66=>some ZG
  | 67=>some Z5
  | 77=>some z1
  | 82=>some ZW
  | 83=>some Z2
  | 89=>some Zac
  | 90=>some Zah
  | 97=>some Zag
  | 98=>some ZR
  | 156=>some ZH
  | 172=>some zg
  | 176=>some ZU
  | 195=>some ze
  | 196=>some ZI
  | 201=>some ZD
  | 203=>some Zu
  | 204=>some ZS
  | 219=>some ZL
  | 220=>some Zai
  | 221=>some ZB
  | 222=>some z2
  | _=>none
theorem ZbE:G 28 = some Zf:=rfl
theorem ZcS:G 29 = some Zz:=rfl
theorem Zb5:G 30 = some Zq:=rfl
theorem ZcT:G 32 = some Zaj:=rfl
theorem ZbP:G 36 = some Zl:=rfl
theorem ZbO:G 46 = some ZA:=rfl
theorem ZbD:G 53 = some ZP:=rfl
theorem Zbj:G 63 = some Z0:=rfl
theorem Zbi:G 64 = some Zn:=rfl
theorem ZbF:G 65 = some Zw:=rfl
theorem ZcR:G 66 = some ZG:=rfl
theorem ZcH:G 67 = some Z5:=rfl
theorem Zct:G 77 = some z1:=rfl
theorem Zds:G 82 = some ZW:=rfl
theorem Zb6:G 83 = some Z2:=rfl
theorem Zd6:G 89 = some Zac:=rfl
theorem Zcs:G 90 = some Zah:=rfl
theorem Zey:G 97 = some Zag:=rfl
theorem ZcO:G 98 = some ZR:=rfl
theorem ZaK:G 156 = some ZH:=rfl
theorem Zb4:G 172 = some zg:=rfl
theorem ZcI:G 176 = some ZU:=rfl
theorem ZcJ:G 195 = some ze:=rfl
theorem Zbp:G 196 = some ZI:=rfl
theorem ZcK:G 201 = some ZD:=rfl
theorem ZcP:G 203 = some Zu:=rfl
theorem ZcQ:G 204 = some ZS:=rfl
theorem Zci:G 219 = some ZL:=rfl
theorem Zcv:G 220 = some Zai:=rfl
theorem ZbC:G 221 = some ZB:=rfl
theorem Zcu:G 222 = some z2:=rfl
end Mu
