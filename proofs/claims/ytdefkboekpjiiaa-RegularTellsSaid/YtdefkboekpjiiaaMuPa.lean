/- The functions of the program, as the evaluator has them: printed by a program; checked against the model's. -/
import Derived.Test.YtdefkboekpjiiaaMuE0
namespace Mu
instance (n:Nat):OfNat Opd n:=⟨.t n⟩
instance:Coe (List Oper) Code:=⟨.region⟩
abbrev oD (d:Nat) (op:Op):Oper:=⟨some d,op,none⟩
abbrev oN (op:Op):Oper:=⟨none,op,none⟩
abbrev oT (d g:Nat) (op:Op):Oper:=⟨some d,op,some (g,true)⟩
abbrev oF (d g:Nat) (op:Op):Oper:=⟨some d,op,some (g,false)⟩
abbrev oM (d:Nat) (x:Opd):Oper:=⟨some d,.mv x,none⟩
abbrev oC (d f:Nat) (l:List Opd):Oper:=⟨some d,.call (.c (.f f [])) l,none⟩
abbrev cI (n:Int):Opd:=.c (.i .i64 n)
/-! muntin/kitty.Corners -/
def zj.r0:List Oper:=[
 oM 2 (.c (.sn))]
def zj.r1:List Oper:=[
 oM 3 (.c (.sn))]
def zj.r2:List Oper:=[
 oM 7 0,
 oD 8 (.len 7),
 oM 9 (cI 0)]
def zj.r3:List Oper:=[
 oD 10 (.bin .lss 9 8)]
def zj.r4:List Oper:=[
 oM 11 9,
 oD 12 (.ixa 1 7 9),
 oD 13 (.ld false 1 12),
 oM 4 11,
 oM 5 13]
def zj.r5:List Oper:=[
 oM 14 5,
 oD 15 (.bin .lss 14 (cI (-2)))]
def zj.r6:List Oper:=[
 oM 16 5,
 oD 17 (.un .neg 16),
 oM 18 (cI 0)]
def zj.r7:List Oper:=[
 oD 19 (.bin .lss 18 17)]
def zj.r8:List Oper:=[
 oM 20 18,
 oM 6 20]
def zj.r9:List Oper:=[
 oM 21 3,
 oM 22 4,
 oM 23 6,
 oD 24 (.build [.n 0,.n 0] [(0,1,.t 22),(1,1,.t 23)]),
 oD 25 (.bsl 2 1 [.n 0,.n 0] [(0,2,.t 24)]),
 oD 26 (.app 2 16 21 25),
 oM 3 26]
def zj.r10:List Oper:=[
 oD 27 (.bin .add 18 (cI 1)),
 oM 18 27]
def zj.l0:Code:=.seq zj.r7 (.seq (.cond 19 (.skip) (.exit 2)) (.seq (.block 3 (.seq zj.r8 zj.r9)) zj.r10))
def zj.r11:List Oper:=[
 oD 28 (.bin .add 9 (cI 1)),
 oM 9 28]
def zj.l1:Code:=.seq zj.r3 (.seq (.cond 10 (.skip) (.exit 0)) (.seq (.block 1 (.seq zj.r4 (.seq (.seq zj.r5 (.cond 15 (.exit 1) (.skip))) (.seq zj.r6 (.block 2 (.loop zj.l0)))))) zj.r11))
def zj.r12:List Oper:=[
 oM 29 3,
 oM 2 29]
def zj.code:Code:=.seq zj.r0 (.seq zj.r1 (.seq (.seq zj.r2 (.block 0 (.loop zj.l1))) (.seq zj.r12 (.ret))))
def zj:Func:=⟨30,[.t 2],zj.code⟩
/-! muntin/muntinref15.Corners -/
def ZR.r0:List Oper:=[
 oM 2 (.c (.sn))]
def ZR.r1:List Oper:=[
 oM 3 (.c (.sn))]
def ZR.r2:List Oper:=[
 oM 4 (cI 0)]
def ZR.r3:List Oper:=[
 oM 5 4,
 oM 6 0,
 oD 7 (.len 6),
 oD 8 (.bin .lss 5 7)]
def ZR.r5:List Oper:=[
 oM 11 0,
 oM 12 4,
 oD 13 (.ixa 1 11 12),
 oD 14 (.ld false 1 13),
 oD 15 (.eq false .sc 14 (cI (-1))),
 oM 16 15,
 oF 17 16 (.mv 0),
 oF 18 16 (.mv 4),
 oF 19 16 (.ixa 1 17 18),
 oF 20 16 (.ld false 1 19),
 oF 21 16 (.eq false .sc 20 (cI (-2))),
 oD 22 (.pick 16 (.c (.b true)) 21)]
def ZR.r6:List Oper:=[
 oM 23 3,
 oM 24 4,
 oD 25 (.build [.n 0,.n 0] [(0,1,.t 24)]),
 oD 26 (.bsl 2 1 [.n 0,.n 0] [(0,2,.t 25)]),
 oD 27 (.app 2 16 23 26),
 oM 3 27]
def ZR.r7:List Oper:=[
 oM 28 0,
 oM 29 4,
 oD 30 (.ixa 1 28 29),
 oD 31 (.ld false 1 30),
 oD 32 (.eq false .sc 31 (cI (-2)))]
def ZR.r8:List Oper:=[
 oM 33 3,
 oM 34 4,
 oD 35 (.build [.n 0,.n 0] [(0,1,.t 34),(1,1,.c (.n 1))]),
 oD 36 (.bsl 2 1 [.n 0,.n 0] [(0,2,.t 35)]),
 oD 37 (.app 2 16 33 36),
 oM 3 37]
def ZR.r4:List Oper:=[
 oM 9 4,
 oD 10 (.bin .add 9 (cI 1)),
 oM 4 10]
def ZR.l0:Code:=.seq (.seq ZR.r3 (.cond 8 (.skip) (.exit 0))) (.seq (.block 1 (.seq (.seq ZR.r5 (.cond 22 ZR.r6 (.skip))) (.seq ZR.r7 (.cond 32 ZR.r8 (.skip))))) ZR.r4)
def ZR.r9:List Oper:=[
 oM 38 3,
 oM 2 38]
def ZR.code:Code:=.seq ZR.r0 (.seq ZR.r1 (.seq (.seq ZR.r2 (.block 0 (.loop ZR.l0))) (.seq ZR.r9 (.ret))))
def ZR:Func:=⟨39,[.t 2],ZR.code⟩
/-! muntin/muntinref15.Rot -/
def Z8.r0:List Oper:=[
 oD 4 (.box 1),
 oD 5 (.box 2),
 oM 6 (cI 0)]
def Z8.r1:List Oper:=[
 oM 7 (.c (.sn))]
def Z8.r2:List Oper:=[
 oM 8 (cI 0)]
def Z8.r3:List Oper:=[
 oM 9 (cI 0)]
def Z8.r4:List Oper:=[
 oM 10 (cI 0)]
def Z8.r5:List Oper:=[
 oM 13 10,
 oM 14 0,
 oD 15 (.len 14),
 oD 16 (.bin .lss 13 15)]
def Z8.r7:List Oper:=[
 oM 19 10,
 oD 20 (.fa 0 4),
 oD 21 (.ld false 1 20),
 oD 22 (.eq false .sc 19 21)]
def Z8.r8:List Oper:=[
 oM 23 7,
 oD 24 (.len 23),
 oD 25 (.fa 1 4),
 oD 26 (.ld false 1 25),
 oD 27 (.bin .add 24 26),
 oM 8 27]
def Z8.r9:List Oper:=[
 oM 28 10,
 oD 29 (.fa 0 5),
 oD 30 (.ld false 1 29),
 oD 31 (.eq false .sc 28 30)]
def Z8.r10:List Oper:=[
 oM 32 7,
 oD 33 (.len 32),
 oD 34 (.fa 1 5),
 oD 35 (.ld false 1 34),
 oD 36 (.bin .add 33 35),
 oM 9 36]
def Z8.r11:List Oper:=[
 oM 37 0,
 oM 38 10,
 oD 39 (.ixa 1 37 38),
 oD 40 (.ld false 1 39),
 oD 41 (.eq false .sc 40 (cI (-2)))]
def Z8.r12:List Oper:=[
 oM 42 7,
 oD 43 (.bsl 1 2 [.n 0] [(0,1,.c (.n (-1))),(1,1,.c (.n (-1)))]),
 oD 44 (.app 1 8 42 43),
 oM 7 44]
def Z8.r13:List Oper:=[
 oM 45 7,
 oM 46 0,
 oM 47 10,
 oD 48 (.ixa 1 46 47),
 oD 49 (.ld false 1 48),
 oD 50 (.bsl 1 1 [.n 0] [(0,1,.t 49)]),
 oD 51 (.app 1 8 45 50),
 oM 7 51]
def Z8.r6:List Oper:=[
 oM 17 10,
 oD 18 (.bin .add 17 (cI 1)),
 oM 10 18]
def Z8.l0:Code:=.seq (.seq Z8.r5 (.cond 16 (.skip) (.exit 0))) (.seq (.block 1 (.seq (.seq Z8.r7 (.cond 22 Z8.r8 (.skip))) (.seq (.seq Z8.r9 (.cond 31 Z8.r10 (.skip))) (.seq Z8.r11 (.cond 41 Z8.r12 Z8.r13))))) Z8.r6)
def Z8.r14:List Oper:=[
 oM 11 (cI 0)]
def Z8.r15:List Oper:=[
 oM 52 8,
 oM 12 52]
def Z8.r16:List Oper:=[
 oM 53 12,
 oM 54 9,
 oD 55 (.eq true .sc 53 54)]
def Z8.r18:List Oper:=[
 oM 61 11,
 oM 62 7,
 oM 63 12,
 oD 64 (.ixa 1 62 63),
 oD 65 (.ld false 1 64),
 oD 66 (.bin .add 61 65),
 oM 11 66]
def Z8.r17:List Oper:=[
 oM 56 12,
 oD 57 (.bin .add 56 (cI 1)),
 oM 58 7,
 oD 59 (.len 58),
 oD 60 (.bin .rem 57 59),
 oM 12 60]
def Z8.l1:Code:=.seq (.seq Z8.r16 (.cond 55 (.skip) (.exit 2))) (.seq (.block 3 Z8.r18) Z8.r17)
def Z8.r19:List Oper:=[
 oM 67 11,
 oM 6 67]
def Z8.code:Code:=.seq Z8.r0 (.seq Z8.r1 (.seq Z8.r2 (.seq Z8.r3 (.seq (.seq Z8.r4 (.block 0 (.loop Z8.l0))) (.seq Z8.r14 (.seq (.seq Z8.r15 (.block 2 (.loop Z8.l1))) (.seq Z8.r19 (.ret))))))))
def Z8:Func:=⟨68,[.t 6],Z8.code⟩
/-! muntin/kitty.Pair -/
def zC.r0:List Oper:=[
 oD 2 (.alloc [.n 0,.n 0]),
 oD 3 (.alloc [.n 0,.n 0]),
 oM 4 (.c (.b false))]
def zC.r1:List Oper:=[
 oM 11 0,
 oC 12 59 [11],
 oD 13 (.un .not 12)]
def zC.r2:List Oper:=[
 oD 14 (.build [.n 0,.n 0] []),
 oD 15 (.build [.n 0,.n 0] []),
 oN (.st 2 2 14),
 oN (.st 2 3 15),
 oM 4 (.c (.b false))]
def zC.r3:List Oper:=[
 oM 16 0,
 oC 17 19 [16],
 oM 18 0,
 oC 19 62 [18],
 oM 5 17,
 oM 6 19]
def zC.r4:List Oper:=[
 oM 20 5,
 oD 21 (.len 20),
 oM 22 (cI 0)]
def zC.r5:List Oper:=[
 oD 23 (.bin .lss 22 21)]
def zC.r6:List Oper:=[
 oD 24 (.ixa 2 20 22),
 oD 25 (.ld true 2 24),
 oD 8 (.alloc [.n 0,.n 0]),
 oN (.st 2 8 25)]
def zC.r7:List Oper:=[
 oM 26 5,
 oD 27 (.len 26),
 oM 28 (cI 0)]
def zC.r8:List Oper:=[
 oD 29 (.bin .lss 28 27)]
def zC.r9:List Oper:=[
 oD 30 (.ixa 2 26 28),
 oD 31 (.ld true 2 30),
 oD 10 (.alloc [.n 0,.n 0]),
 oN (.st 2 10 31)]
def zC.r10:List Oper:=[
 oM 32 6,
 oD 33 (.ld true 2 8),
 oD 34 (.ld true 2 10),
 oC 35 61 [32,33,34],
 oD 36 (.eq false .sc 35 (cI 2))]
def zC.r11:List Oper:=[
 oD 37 (.ld true 2 8),
 oD 38 (.ld true 2 10),
 oN (.st 2 2 37),
 oN (.st 2 3 38),
 oM 4 (.c (.b true))]
def zC.r12:List Oper:=[
 oD 39 (.bin .add 28 (cI 1)),
 oM 28 39]
def zC.l0:Code:=.seq zC.r8 (.seq (.cond 29 (.skip) (.exit 2)) (.seq (.block 3 (.seq zC.r9 (.seq zC.r10 (.cond 36 (.seq (.draw zC.r11 [(0,1),(1,2)]) (.ret)) (.skip))))) zC.r12))
def zC.r13:List Oper:=[
 oD 40 (.bin .add 22 (cI 1)),
 oM 22 40]
def zC.l1:Code:=.seq zC.r5 (.seq (.cond 23 (.skip) (.exit 0)) (.seq (.block 1 (.seq zC.r6 (.seq zC.r7 (.block 2 (.loop zC.l0))))) zC.r13))
def zC.r14:List Oper:=[
 oD 41 (.build [.n 0,.n 0] []),
 oD 42 (.build [.n 0,.n 0] []),
 oN (.st 2 2 41),
 oN (.st 2 3 42),
 oM 4 (.c (.b false))]
def zC.code:Code:=.seq zC.r0 (.seq (.seq zC.r1 (.cond 13 (.seq zC.r2 (.ret)) (.skip))) (.seq zC.r3 (.seq (.seq zC.r4 (.block 0 (.loop zC.l1))) (.seq zC.r14 (.ret)))))
def zC:Func:=⟨43,[.cell 2 true 2,.cell 3 true 2,.t 4],zC.code⟩
/-! muntin/muntinref15.Pair -/
def ZN.r0:List Oper:=[
 oD 2 (.alloc [.n 0,.n 0]),
 oD 3 (.alloc [.n 0,.n 0]),
 oM 4 (.c (.b false))]
def ZN.r1:List Oper:=[
 oM 9 0,
 oC 10 20 [9],
 oM 5 10]
def ZN.r2:List Oper:=[
 oM 6 (cI 0)]
def ZN.r3:List Oper:=[
 oM 11 6,
 oM 12 5,
 oD 13 (.len 12),
 oD 14 (.bin .lss 11 13)]
def ZN.r5:List Oper:=[
 oM 7 (cI 0)]
def ZN.r6:List Oper:=[
 oM 17 7,
 oM 18 5,
 oD 19 (.len 18),
 oD 20 (.bin .lss 17 19)]
def ZN.r8:List Oper:=[
 oM 23 0,
 oM 24 5,
 oM 25 6,
 oD 26 (.ixa 2 24 25),
 oD 27 (.ld true 2 26),
 oM 28 5,
 oM 29 7,
 oD 30 (.ixa 2 28 29),
 oD 31 (.ld true 2 30),
 oC 32 23 [23,27,31],
 oM 8 32]
def ZN.r9:List Oper:=[
 oM 33 8,
 oD 34 (.eq false .sc 33 (cI 2))]
def ZN.r10:List Oper:=[
 oM 35 5,
 oM 36 6,
 oD 37 (.ixa 2 35 36),
 oD 38 (.ld true 2 37),
 oM 39 5,
 oM 40 7,
 oD 41 (.ixa 2 39 40),
 oD 42 (.ld true 2 41),
 oN (.st 2 2 38),
 oN (.st 2 3 42),
 oM 4 (.c (.b true))]
def ZN.r7:List Oper:=[
 oM 21 7,
 oD 22 (.bin .add 21 (cI 1)),
 oM 7 22]
def ZN.l0:Code:=.seq (.seq ZN.r6 (.cond 20 (.skip) (.exit 2))) (.seq (.block 3 (.seq (.draw ZN.r8 [(4,8)]) (.seq ZN.r9 (.cond 34 (.seq (.draw ZN.r10 [(3,7),(7,8)]) (.ret)) (.skip))))) ZN.r7)
def ZN.r4:List Oper:=[
 oM 15 6,
 oD 16 (.bin .add 15 (cI 1)),
 oM 6 16]
def ZN.l1:Code:=.seq (.seq ZN.r3 (.cond 14 (.skip) (.exit 0))) (.seq (.block 1 (.seq ZN.r5 (.block 2 (.loop ZN.l0)))) ZN.r4)
def ZN.r11:List Oper:=[
 oD 43 (.build [.n 0,.n 0] []),
 oD 44 (.build [.n 0,.n 0] []),
 oN (.st 2 2 43),
 oN (.st 2 3 44),
 oM 4 (.c (.b false))]
def ZN.code:Code:=.seq ZN.r0 (.seq ZN.r1 (.seq (.seq ZN.r2 (.block 0 (.loop ZN.l1))) (.seq ZN.r11 (.ret))))
def ZN:Func:=⟨45,[.cell 2 true 2,.cell 3 true 2,.t 4],ZN.code⟩
/-! muntin/muntinref10.Make -/
def Zk.r0:List Oper:=[
 oD 2 (.box 0),
 oM 4 (.c (.sn)),
 oM 5 (.c (.sn))]
def Zk.r1:List Oper:=[
 oM 6 (.c (.sn))]
def Zk.r2:List Oper:=[
 oM 7 (cI 0)]
def Zk.r3:List Oper:=[
 oM 18 7,
 oD 19 (.fa 0 2),
 oD 20 (.ld false 1 19),
 oD 21 (.len 20),
 oD 22 (.bin .lss 18 21),
 oM 23 22,
 oT 24 23 (.mv 6),
 oT 25 23 (.len 24),
 oT 26 23 (.mv 1),
 oT 27 23 (.bin .lss 25 26),
 oD 28 (.pick 23 27 (.c (.b false)))]
def Zk.r5:List Oper:=[
 oD 31 (.fa 0 2),
 oD 32 (.ld false 1 31),
 oM 33 7,
 oD 34 (.ixa 1 32 33),
 oD 35 (.ld false 1 34),
 oD 36 (.conv .i64 35),
 oD 37 (.bin .rem 36 (cI 8)),
 oD 38 (.fa 0 2),
 oD 39 (.ld false 1 38),
 oM 40 7,
 oD 41 (.ixa 1 39 40),
 oD 42 (.ld false 1 41),
 oD 43 (.conv .i64 42),
 oD 44 (.bin .quo 43 (cI 8)),
 oD 45 (.bin .rem 44 (cI 8)),
 oD 46 (.build [.n 0,.n 0] [(0,1,.t 37),(1,1,.t 45)]),
 oD 8 (.alloc [.n 0,.n 0]),
 oN (.st 2 8 46)]
def Zk.r6:List Oper:=[
 oM 9 (.c (.b false))]
def Zk.r7:List Oper:=[
 oM 10 (cI 0)]
def Zk.r8:List Oper:=[
 oM 47 10,
 oM 48 6,
 oD 49 (.len 48),
 oD 50 (.bin .lss 47 49)]
def Zk.r10:List Oper:=[
 oM 53 9,
 oM 54 53,
 oF 55 54 (.mv 6),
 oF 56 54 (.mv 10),
 oF 57 54 (.ixa 2 55 56),
 oF 58 54 (.ld true 2 57),
 oF 59 54 (.ld true 2 8),
 oF 60 54 (.eq false (.fl [.i,.i]) 58 59),
 oD 61 (.pick 54 (.c (.b true)) 60),
 oM 9 61]
def Zk.r9:List Oper:=[
 oM 51 10,
 oD 52 (.bin .add 51 (cI 1)),
 oM 10 52]
def Zk.l0:Code:=.seq (.seq Zk.r8 (.cond 50 (.skip) (.exit 2))) (.seq (.block 3 (.draw Zk.r10 [(5,6)])) Zk.r9)
def Zk.r11:List Oper:=[
 oM 62 9,
 oD 63 (.un .not 62)]
def Zk.r12:List Oper:=[
 oM 64 6,
 oD 65 (.ld true 2 8),
 oD 66 (.bsl 2 1 [.n 0,.n 0] [(0,2,.t 65)]),
 oD 67 (.app 2 16 64 66),
 oM 6 67]
def Zk.r4:List Oper:=[
 oM 29 7,
 oD 30 (.bin .add 29 (cI 1)),
 oM 7 30]
def Zk.l1:Code:=.seq (.seq Zk.r3 (.cond 28 (.skip) (.exit 0))) (.seq (.block 1 (.seq (.draw Zk.r5 [(1,8),(4,8),(1,11),(4,11),(1,16),(4,16),(8,16),(11,16)]) (.seq Zk.r6 (.seq (.seq Zk.r7 (.block 2 (.loop Zk.l0))) (.seq Zk.r11 (.cond 63 Zk.r12 (.skip))))))) Zk.r4)
def Zk.r13:List Oper:=[
 oM 68 6,
 oD 69 (.len 68),
 oC 70 46 [69],
 oM 11 70]
def Zk.r14:List Oper:=[
 oM 12 (cI 0)]
def Zk.r15:List Oper:=[
 oM 71 12,
 oM 72 6,
 oD 73 (.len 72),
 oD 74 (.bin .lss 71 73)]
def Zk.r17:List Oper:=[
 oM 13 (.c (.i .u8 3))]
def Zk.r18:List Oper:=[
 oM 77 12,
 oD 78 (.fa 1 2),
 oD 79 (.ld false 1 78),
 oD 80 (.len 79),
 oD 81 (.bin .lss 77 80)]
def Zk.r19:List Oper:=[
 oD 82 (.fa 1 2),
 oD 83 (.ld false 1 82),
 oM 84 12,
 oD 85 (.ixa 1 83 84),
 oD 86 (.ld false 1 85),
 oM 13 86]
def Zk.r20:List Oper:=[
 oM 87 12,
 oM 14 87]
def Zk.r21:List Oper:=[
 oM 88 12,
 oD 89 (.fa 2 2),
 oD 90 (.ld false 1 89),
 oD 91 (.len 90),
 oD 92 (.bin .lss 88 91)]
def Zk.r22:List Oper:=[
 oD 93 (.fa 2 2),
 oD 94 (.ld false 1 93),
 oM 95 12,
 oD 96 (.ixa 1 94 95),
 oD 97 (.ld false 1 96),
 oD 98 (.conv .i64 97),
 oM 14 98]
def Zk.r23:List Oper:=[
 oM 99 14,
 oD 100 (.bin .lss 99 (cI (-2)))]
def Zk.r24:List Oper:=[
 oM 101 14,
 oD 102 (.un .neg 101),
 oM 14 102]
def Zk.r25:List Oper:=[
 oM 15 (cI 0)]
def Zk.r26:List Oper:=[
 oM 103 15,
 oD 104 (.bin .lss 103 (cI 2))]
def Zk.r28:List Oper:=[
 oM 107 6,
 oM 108 12,
 oM 109 15,
 oC 110 63 [107,108,109],
 oM 16 110]
def Zk.r29:List Oper:=[
 oM 111 13,
 oM 112 15,
 oD 113 (.bin .shr 111 112),
 oD 114 (.bin .and 113 (.c (.i .u8 1))),
 oD 115 (.eq false .sc 114 (.c (.i .u8 0))),
 oM 116 115,
 oF 117 116 (.mv 16),
 oF 118 116 (.bin .lss 117 (cI 0)),
 oD 119 (.pick 116 (.c (.b true)) 118)]
def Zk.r30:List Oper:=[
 oM 120 6,
 oM 121 11,
 oM 122 12,
 oM 123 16,
 oC 124 64 [120,121,122,123],
 oM 17 124]
def Zk.r31:List Oper:=[
 oM 125 17,
 oD 126 (.un .not 125)]
def Zk.r32:List Oper:=[
 oM 127 11,
 oM 128 12,
 oM 129 15,
 oM 130 16,
 oM 131 14,
 oC 132 65 [127,128,129,130,131],
 oM 11 132]
def Zk.r27:List Oper:=[
 oM 105 15,
 oD 106 (.bin .add 105 (cI 1)),
 oM 15 106]
def Zk.l2:Code:=.seq (.seq Zk.r26 (.cond 104 (.skip) (.exit 6))) (.seq (.block 7 (.seq Zk.r28 (.seq (.seq Zk.r29 (.cond 119 (.exit 7) (.skip))) (.seq Zk.r30 (.seq Zk.r31 (.cond 126 Zk.r32 (.skip))))))) Zk.r27)
def Zk.r16:List Oper:=[
 oM 75 12,
 oD 76 (.bin .add 75 (cI 1)),
 oM 12 76]
def Zk.l3:Code:=.seq (.seq Zk.r15 (.cond 74 (.skip) (.exit 4))) (.seq (.block 5 (.seq Zk.r17 (.seq (.seq Zk.r18 (.cond 81 Zk.r19 (.skip))) (.seq Zk.r20 (.seq (.seq Zk.r21 (.cond 92 (.seq Zk.r22 (.seq Zk.r23 (.cond 100 Zk.r24 (.skip)))) (.skip))) (.seq Zk.r25 (.block 6 (.loop Zk.l2)))))))) Zk.r16)
def Zk.r33:List Oper:=[
 oM 133 11,
 oM 134 6,
 oM 4 133,
 oM 5 134]
def Zk.code:Code:=.seq Zk.r0 (.seq Zk.r1 (.seq (.seq Zk.r2 (.block 0 (.loop Zk.l1))) (.seq Zk.r13 (.seq (.seq Zk.r14 (.block 4 (.loop Zk.l3))) (.seq Zk.r33 (.ret))))))
def Zk:Func:=⟨135,[.t 4,.t 5],Zk.code⟩
/-! muntin/join.Parts -/
def ZO.r0:List Oper:=[
 oM 2 (.c (.sn)),
 oM 3 (cI 0)]
def ZO.r1:List Oper:=[
 oM 12 0,
 oC 13 66 [12],
 oM 4 13]
def ZO.r2:List Oper:=[
 oM 14 4,
 oD 15 (.eq true .sc 14 (cI 0))]
def ZO.r3:List Oper:=[
 oM 16 4,
 oM 2 (.c (.sn)),
 oM 3 16]
def ZO.r4:List Oper:=[
 oM 5 (.c (.sn))]
def ZO.r5:List Oper:=[
 oM 17 0,
 oD 18 (.len 17),
 oD 19 (.mks 1 1 [.b false] 18 18),
 oM 6 19]
def ZO.r6:List Oper:=[
 oM 20 0,
 oD 21 (.len 20),
 oM 22 (cI 0)]
def ZO.r7:List Oper:=[
 oD 23 (.bin .lss 22 21)]
def ZO.r8:List Oper:=[
 oM 24 22,
 oM 7 24]
def ZO.r9:List Oper:=[
 oM 25 6,
 oM 26 7,
 oD 27 (.ixa 1 25 26),
 oD 28 (.ld false 1 27)]
def ZO.r10:List Oper:=[
 oM 30 0,
 oM 31 7,
 oC 32 67 [30,31],
 oM 29 32,
 oD 33 (.ext 29 0),
 oD 34 (.ext 29 1),
 oM 8 33,
 oM 9 34]
def ZO.r11:List Oper:=[
 oD 35 (.bsl 1 0 [.n 0] []),
 oM 10 35]
def ZO.r12:List Oper:=[
 oM 36 0,
 oD 37 (.len 36),
 oM 38 (cI 0)]
def ZO.r13:List Oper:=[
 oD 39 (.bin .lss 38 37)]
def ZO.r14:List Oper:=[
 oM 40 38,
 oM 11 40]
def ZO.r15:List Oper:=[
 oM 41 11,
 oM 42 7,
 oD 43 (.eq false .sc 41 42),
 oM 44 43,
 oF 45 44 (.mv 9),
 oF 46 44 (.mv 11),
 oF 47 44 (.ixa 1 45 46),
 oF 48 44 (.ld false 1 47),
 oF 49 44 (.bin .geq 48 (cI 0)),
 oD 50 (.pick 44 (.c (.b true)) 49)]
def ZO.r16:List Oper:=[
 oM 51 6,
 oM 52 11,
 oD 53 (.ixa 1 51 52),
 oN (.st 1 53 (.c (.b true)))]
def ZO.r17:List Oper:=[
 oM 54 10,
 oM 55 11,
 oD 56 (.bsl 1 1 [.n 0] [(0,1,.t 55)]),
 oD 57 (.app 1 8 54 56),
 oM 10 57]
def ZO.r18:List Oper:=[
 oD 58 (.bin .add 38 (cI 1)),
 oM 38 58]
def ZO.l0:Code:=.seq ZO.r13 (.seq (.cond 39 (.skip) (.exit 2)) (.seq (.block 3 (.seq ZO.r14 (.seq ZO.r15 (.cond 50 (.seq ZO.r16 ZO.r17) (.skip))))) ZO.r18))
def ZO.r19:List Oper:=[
 oM 59 5,
 oM 60 10,
 oD 61 (.bsl 1 1 [.sn] [(0,1,.t 60)]),
 oD 62 (.app 1 24 59 61),
 oM 5 62]
def ZO.r20:List Oper:=[
 oD 63 (.bin .add 22 (cI 1)),
 oM 22 63]
def ZO.l1:Code:=.seq ZO.r7 (.seq (.cond 23 (.skip) (.exit 0)) (.seq (.block 1 (.seq ZO.r8 (.seq (.seq ZO.r9 (.cond 28 (.exit 1) (.skip))) (.seq ZO.r10 (.seq ZO.r11 (.seq (.seq ZO.r12 (.block 2 (.loop ZO.l0))) ZO.r19)))))) ZO.r20))
def ZO.r21:List Oper:=[
 oM 64 5,
 oM 2 64,
 oM 3 (cI 0)]
def ZO.code:Code:=.seq ZO.r0 (.seq (.seq ZO.r1 (.seq ZO.r2 (.cond 15 (.seq ZO.r3 (.ret)) (.skip)))) (.seq ZO.r4 (.seq ZO.r5 (.seq (.seq ZO.r6 (.block 0 (.loop ZO.l1))) (.seq ZO.r21 (.ret))))))
def ZO:Func:=⟨65,[.t 2,.t 3],ZO.code⟩
/-! muntin/muntinref13.Parts -/
def Z9.r0:List Oper:=[
 oM 2 (.c (.sn))]
def Z9.r1:List Oper:=[
 oM 9 0,
 oD 10 (.len 9),
 oD 11 (.mks 1 1 [.b false] 10 10),
 oM 3 11]
def Z9.r2:List Oper:=[
 oM 4 (.c (.sn))]
def Z9.r3:List Oper:=[
 oM 5 (cI 0)]
def Z9.r4:List Oper:=[
 oM 12 5,
 oM 13 0,
 oD 14 (.len 13),
 oD 15 (.bin .lss 12 14)]
def Z9.r6:List Oper:=[
 oM 18 3,
 oM 19 5,
 oD 20 (.ixa 1 18 19),
 oD 21 (.ld false 1 20)]
def Z9.r7:List Oper:=[
 oM 22 0,
 oM 23 5,
 oC 24 36 [22,23],
 oM 6 24]
def Z9.r8:List Oper:=[
 oM 7 (.c (.sn))]
def Z9.r9:List Oper:=[
 oM 8 (cI 0)]
def Z9.r10:List Oper:=[
 oM 25 8,
 oM 26 0,
 oD 27 (.len 26),
 oD 28 (.bin .lss 25 27)]
def Z9.r12:List Oper:=[
 oM 31 6,
 oM 32 8,
 oD 33 (.ixa 1 31 32),
 oD 34 (.ld false 1 33),
 oD 35 (.bin .geq 34 (cI 0))]
def Z9.r13:List Oper:=[
 oM 36 3,
 oM 37 8,
 oD 38 (.ixa 1 36 37),
 oN (.st 1 38 (.c (.b true)))]
def Z9.r14:List Oper:=[
 oM 39 7,
 oM 40 8,
 oD 41 (.bsl 1 1 [.n 0] [(0,1,.t 40)]),
 oD 42 (.app 1 8 39 41),
 oM 7 42]
def Z9.r11:List Oper:=[
 oM 29 8,
 oD 30 (.bin .add 29 (cI 1)),
 oM 8 30]
def Z9.l0:Code:=.seq (.seq Z9.r10 (.cond 28 (.skip) (.exit 2))) (.seq (.block 3 (.seq Z9.r12 (.cond 35 (.seq Z9.r13 Z9.r14) (.skip)))) Z9.r11)
def Z9.r15:List Oper:=[
 oM 43 4,
 oM 44 7,
 oD 45 (.bsl 1 1 [.sn] [(0,1,.t 44)]),
 oD 46 (.app 1 24 43 45),
 oM 4 46]
def Z9.r5:List Oper:=[
 oM 16 5,
 oD 17 (.bin .add 16 (cI 1)),
 oM 5 17]
def Z9.l1:Code:=.seq (.seq Z9.r4 (.cond 15 (.skip) (.exit 0))) (.seq (.block 1 (.seq (.seq Z9.r6 (.cond 21 (.exit 1) (.skip))) (.seq Z9.r7 (.seq Z9.r8 (.seq (.seq Z9.r9 (.block 2 (.loop Z9.l0))) Z9.r15))))) Z9.r5)
def Z9.r16:List Oper:=[
 oM 47 4,
 oM 2 47]
def Z9.code:Code:=.seq Z9.r0 (.seq Z9.r1 (.seq Z9.r2 (.seq (.seq Z9.r3 (.block 0 (.loop Z9.l1))) (.seq Z9.r16 (.ret)))))
def Z9:Func:=⟨48,[.t 2],Z9.code⟩
/-! muntin/join.Whole -/
def Zcp.r0:List Oper:=[
 oM 2 (.c (.b false))]
def Zcp.r1:List Oper:=[
 oM 6 0,
 oC 7 29 [6],
 oM 5 7,
 oD 8 (.ext 5 0),
 oD 9 (.ext 5 1),
 oM 3 8,
 oM 4 9]
def Zcp.r2:List Oper:=[
 oM 10 4,
 oD 11 (.eq false .sc 10 (cI 0)),
 oM 12 11,
 oT 13 12 (.mv 3),
 oT 14 12 (.len 13),
 oT 15 12 (.eq false .sc 14 (cI 1)),
 oD 16 (.pick 12 15 (.c (.b false))),
 oM 2 16]
def Zcp.code:Code:=.seq Zcp.r0 (.seq Zcp.r1 (.seq Zcp.r2 (.ret)))
def Zcp:Func:=⟨17,[.t 2],Zcp.code⟩
/-! muntin/muntinref10.Check -/
def Zw.r0:List Oper:=[
 oM 2 (cI 0)]
def Zw.r1:List Oper:=[
 oM 7 0,
 oD 8 (.len 7),
 oD 9 (.bin .gtr 8 (cI 4096))]
def Zw.r2:List Oper:=[
 oM 2 (cI 6)]
def Zw.r3:List Oper:=[
 oM 3 (cI 0)]
def Zw.r4:List Oper:=[
 oM 10 3,
 oM 11 0,
 oD 12 (.len 11),
 oD 13 (.bin .lss 10 12)]
def Zw.r6:List Oper:=[
 oM 4 (cI 0)]
def Zw.r7:List Oper:=[
 oM 16 4,
 oD 17 (.bin .lss 16 (cI 4))]
def Zw.r9:List Oper:=[
 oM 20 0,
 oM 21 3,
 oM 22 4,
 oD 23 (.ixa 8 20 21),
 oD 24 (.fa 0 23),
 oD 25 (.ixaa 1 4 24 22),
 oD 26 (.ld false 1 25),
 oM 5 26]
def Zw.r10:List Oper:=[
 oM 27 0,
 oM 28 3,
 oM 29 4,
 oD 30 (.ixa 8 27 28),
 oD 31 (.fa 4 30),
 oD 32 (.ixaa 1 4 31 29),
 oD 33 (.ld false 1 32),
 oM 6 33]
def Zw.r11:List Oper:=[
 oM 34 5,
 oD 35 (.eq false .sc 34 (cI (-1)))]
def Zw.r12:List Oper:=[
 oM 36 6,
 oD 37 (.eq true .sc 36 (cI 0))]
def Zw.r13:List Oper:=[
 oM 2 (cI 9)]
def Zw.r14:List Oper:=[
 oM 38 5,
 oD 39 (.bin .lss 38 (cI 0)),
 oM 40 39,
 oF 41 40 (.mv 5),
 oF 42 40 (.mv 0),
 oF 43 40 (.len 42),
 oF 44 40 (.bin .geq 41 43),
 oD 45 (.pick 40 (.c (.b true)) 44),
 oM 46 45,
 oF 47 46 (.mv 5),
 oF 48 46 (.mv 3),
 oF 49 46 (.eq false .sc 47 48),
 oD 50 (.pick 46 (.c (.b true)) 49)]
def Zw.r15:List Oper:=[
 oM 2 (cI 3)]
def Zw.r16:List Oper:=[
 oM 51 0,
 oM 52 5,
 oM 53 4,
 oD 54 (.bin .add 53 (cI 2)),
 oD 55 (.bin .rem 54 (cI 4)),
 oD 56 (.ixa 8 51 52),
 oD 57 (.fa 0 56),
 oD 58 (.ixaa 1 4 57 55),
 oD 59 (.ld false 1 58),
 oM 60 3,
 oD 61 (.eq true .sc 59 60),
 oM 62 61,
 oF 63 62 (.mv 0),
 oF 64 62 (.mv 5),
 oF 65 62 (.mv 4),
 oF 66 62 (.bin .add 65 (cI 2)),
 oF 67 62 (.bin .rem 66 (cI 4)),
 oF 68 62 (.ixa 8 63 64),
 oF 69 62 (.fa 4 68),
 oF 70 62 (.ixaa 1 4 69 67),
 oF 71 62 (.ld false 1 70),
 oF 72 62 (.mv 6),
 oF 73 62 (.eq true .sc 71 72),
 oD 74 (.pick 62 (.c (.b true)) 73),
 oM 75 74,
 oF 76 75 (.mv 6),
 oF 77 75 (.bin .lss 76 (cI (-2))),
 oD 78 (.pick 75 (.c (.b true)) 77)]
def Zw.r17:List Oper:=[
 oM 2 (cI 9)]
def Zw.r8:List Oper:=[
 oM 18 4,
 oD 19 (.bin .add 18 (cI 1)),
 oM 4 19]
def Zw.l0:Code:=.seq (.seq Zw.r7 (.cond 17 (.skip) (.exit 2))) (.seq (.block 3 (.seq Zw.r9 (.seq Zw.r10 (.seq (.seq Zw.r11 (.cond 35 (.seq (.seq Zw.r12 (.cond 37 (.seq Zw.r13 (.ret)) (.skip))) (.exit 3)) (.skip))) (.seq (.seq Zw.r14 (.cond 50 (.seq Zw.r15 (.ret)) (.skip))) (.seq Zw.r16 (.cond 78 (.seq Zw.r17 (.ret)) (.skip)))))))) Zw.r8)
def Zw.r5:List Oper:=[
 oM 14 3,
 oD 15 (.bin .add 14 (cI 1)),
 oM 3 15]
def Zw.l1:Code:=.seq (.seq Zw.r4 (.cond 13 (.skip) (.exit 0))) (.seq (.block 1 (.seq Zw.r6 (.block 2 (.loop Zw.l0)))) Zw.r5)
def Zw.r18:List Oper:=[
 oM 2 (cI 0)]
def Zw.code:Code:=.seq Zw.r0 (.seq (.seq Zw.r1 (.cond 9 (.seq Zw.r2 (.ret)) (.skip))) (.seq (.seq Zw.r3 (.block 0 (.loop Zw.l1))) (.seq Zw.r18 (.ret))))
def Zw:Func:=⟨79,[.t 2],Zw.code⟩
/-! muntin/muntinref13.Far -/
def Z1.r0:List Oper:=[
 oM 4 (.c (.sn))]
def Z1.r1:List Oper:=[
 oM 11 0,
 oD 12 (.len 11),
 oD 13 (.mks 1 8 [.n 0] 12 12),
 oM 5 13]
def Z1.r2:List Oper:=[
 oM 6 (cI 0)]
def Z1.r3:List Oper:=[
 oM 14 6,
 oM 15 0,
 oD 16 (.len 15),
 oD 17 (.bin .lss 14 16)]
def Z1.r5:List Oper:=[
 oM 20 5,
 oM 21 6,
 oD 22 (.ixa 1 20 21),
 oN (.st 1 22 (cI (-1)))]
def Z1.r4:List Oper:=[
 oM 18 6,
 oD 19 (.bin .add 18 (cI 1)),
 oM 6 19]
def Z1.l0:Code:=.seq (.seq Z1.r3 (.cond 17 (.skip) (.exit 0))) (.seq (.block 1 Z1.r5) Z1.r4)
def Z1.r6:List Oper:=[
 oM 23 5,
 oM 24 1,
 oD 25 (.ixa 1 23 24),
 oN (.st 1 25 (cI 0))]
def Z1.r7:List Oper:=[
 oM 7 (cI 0)]
def Z1.r8:List Oper:=[
 oM 26 7,
 oM 27 0,
 oD 28 (.len 27),
 oD 29 (.bin .lss 26 28)]
def Z1.r10:List Oper:=[
 oM 8 (cI 0)]
def Z1.r11:List Oper:=[
 oM 32 8,
 oM 33 0,
 oD 34 (.len 33),
 oD 35 (.bin .lss 32 34)]
def Z1.r13:List Oper:=[
 oM 9 (cI 0)]
def Z1.r14:List Oper:=[
 oM 38 9,
 oD 39 (.bin .lss 38 (cI 4))]
def Z1.r16:List Oper:=[
 oM 42 0,
 oM 43 8,
 oM 44 9,
 oD 45 (.ixa 8 42 43),
 oD 46 (.fa 0 45),
 oD 47 (.ixaa 1 4 46 44),
 oD 48 (.ld false 1 47),
 oM 10 48]
def Z1.r17:List Oper:=[
 oM 49 5,
 oM 50 8,
 oD 51 (.ixa 1 49 50),
 oD 52 (.ld false 1 51),
 oM 53 7,
 oD 54 (.eq false .sc 52 53),
 oM 55 54,
 oT 56 55 (.mv 10),
 oT 57 55 (.bin .geq 56 (cI 0)),
 oD 58 (.pick 55 57 (.c (.b false))),
 oM 59 58,
 oT 60 59 (.mv 5),
 oT 61 59 (.mv 10),
 oT 62 59 (.mx [61,.c (.n 0)]),
 oT 63 59 (.ixa 1 60 62),
 oT 64 59 (.ld false 1 63),
 oT 65 59 (.bin .lss 64 (cI 0)),
 oD 66 (.pick 59 65 (.c (.b false)))]
def Z1.r18:List Oper:=[
 oM 67 5,
 oM 68 10,
 oM 69 7,
 oD 70 (.bin .add 69 (cI 1)),
 oD 71 (.ixa 1 67 68),
 oN (.st 1 71 70)]
def Z1.r15:List Oper:=[
 oM 40 9,
 oD 41 (.bin .add 40 (cI 1)),
 oM 9 41]
def Z1.l1:Code:=.seq (.seq Z1.r14 (.cond 39 (.skip) (.exit 6))) (.seq (.block 7 (.seq Z1.r16 (.seq Z1.r17 (.cond 66 Z1.r18 (.skip))))) Z1.r15)
def Z1.r12:List Oper:=[
 oM 36 8,
 oD 37 (.bin .add 36 (cI 1)),
 oM 8 37]
def Z1.l2:Code:=.seq (.seq Z1.r11 (.cond 35 (.skip) (.exit 4))) (.seq (.block 5 (.seq Z1.r13 (.block 6 (.loop Z1.l1)))) Z1.r12)
def Z1.r9:List Oper:=[
 oM 30 7,
 oD 31 (.bin .add 30 (cI 1)),
 oM 7 31]
def Z1.l3:Code:=.seq (.seq Z1.r8 (.cond 29 (.skip) (.exit 2))) (.seq (.block 3 (.seq Z1.r10 (.block 4 (.loop Z1.l2)))) Z1.r9)
def Z1.r19:List Oper:=[
 oM 72 5,
 oM 4 72]
def Z1.code:Code:=.seq Z1.r0 (.seq Z1.r1 (.seq (.seq Z1.r2 (.block 0 (.loop Z1.l0))) (.seq Z1.r6 (.seq (.seq Z1.r7 (.block 2 (.loop Z1.l3))) (.seq Z1.r19 (.ret))))))
def Z1:Func:=⟨73,[.t 4],Z1.code⟩
/-! muntin/muntinref10.New -/
def zo.r0:List Oper:=[
 oM 2 (.c (.sn))]
def zo.r1:List Oper:=[
 oM 6 0,
 oD 7 (.mks 8 64 [.n 0,.n 0,.n 0,.n 0,.n 0,.n 0,.n 0,.n 0] 6 6),
 oM 3 7]
def zo.r2:List Oper:=[
 oM 4 (cI 0)]
def zo.r3:List Oper:=[
 oM 8 4,
 oM 9 0,
 oD 10 (.bin .lss 8 9)]
def zo.r5:List Oper:=[
 oM 5 (cI 0)]
def zo.r6:List Oper:=[
 oM 13 5,
 oD 14 (.bin .lss 13 (cI 4))]
def zo.r8:List Oper:=[
 oM 17 3,
 oM 18 4,
 oM 19 5,
 oD 20 (.ixa 8 17 18),
 oD 21 (.fa 0 20),
 oD 22 (.ixaa 1 4 21 19),
 oN (.st 1 22 (cI (-1)))]
def zo.r7:List Oper:=[
 oM 15 5,
 oD 16 (.bin .add 15 (cI 1)),
 oM 5 16]
def zo.l0:Code:=.seq (.seq zo.r6 (.cond 14 (.skip) (.exit 2))) (.seq (.block 3 zo.r8) zo.r7)
def zo.r4:List Oper:=[
 oM 11 4,
 oD 12 (.bin .add 11 (cI 1)),
 oM 4 12]
def zo.l1:Code:=.seq (.seq zo.r3 (.cond 10 (.skip) (.exit 0))) (.seq (.block 1 (.seq zo.r5 (.block 2 (.loop zo.l0)))) zo.r4)
def zo.r9:List Oper:=[
 oM 23 3,
 oM 2 23]
def zo.code:Code:=.seq zo.r0 (.seq zo.r1 (.seq (.seq zo.r2 (.block 0 (.loop zo.l1))) (.seq zo.r9 (.ret))))
def zo:Func:=⟨24,[.t 2],zo.code⟩
/-! slices.Clone[[]muntin/api.Cell,muntin/api.Cell] -/
def Zaq.r0:List Oper:=[
 oM 2 (.c (.sn))]
def Zaq.r1:List Oper:=[
 oM 3 0,
 oD 4 (.eq false .sl 3 (.c (.sn)))]
def Zaq.r2:List Oper:=[
 oM 2 (.c (.sn))]
def Zaq.r3:List Oper:=[
 oD 5 (.bsl 8 0 [.n 0,.n 0,.n 0,.n 0,.n 0,.n 0,.n 0,.n 0] []),
 oM 6 0,
 oD 7 (.app 8 64 5 6),
 oM 2 7]
def Zaq.code:Code:=.seq Zaq.r0 (.seq (.seq Zaq.r1 (.cond 4 (.seq Zaq.r2 (.ret)) (.skip))) (.seq Zaq.r3 (.ret)))
def Zaq:Func:=⟨8,[.t 2],Zaq.code⟩
/-! (*muntin/grid.Grid).Join -/
def Zab.r0:List Oper:=[
 oM 10 (cI 0)]
def Zab.r1:List Oper:=[
 oM 12 0,
 oD 13 (.eq false .pt 12 (.c (.pn))),
 oM 11 13]
def Zab.r2:List Oper:=[
 oM 10 (cI 1)]
def Zab.r3:List Oper:=[
 oM 15 0,
 oM 16 1,
 oM 17 2,
 oC 18 75 [15,16,17],
 oD 19 (.un .not 18),
 oM 20 19,
 oF 21 20 (.mv 0),
 oF 22 20 (.mv 3),
 oF 23 20 (.mv 2),
 oF 24 20 (.call (.c (.f 75 [])) [21,22,23]),
 oF 25 20 (.un .not 24),
 oD 26 (.pick 20 (.c (.b true)) 25),
 oM 27 26,
 oF 28 27 (.mv 1),
 oF 29 27 (.mv 3),
 oF 30 27 (.eq false .sc 28 29),
 oD 31 (.pick 27 (.c (.b true)) 30),
 oM 32 31,
 oF 33 32 (.mv 4),
 oF 34 32 (.bin .lss 33 (cI (-2))),
 oD 35 (.pick 32 (.c (.b true)) 34),
 oM 14 35]
def Zab.r4:List Oper:=[
 oM 10 (cI 2)]
def Zab.r5:List Oper:=[
 oM 37 0,
 oD 38 (.nilck 37),
 oD 39 (.fa 0 38),
 oD 40 (.ld false 1 39),
 oM 41 1,
 oM 42 2,
 oD 43 (.ixa 8 40 41),
 oD 44 (.fa 0 43),
 oD 45 (.ixaa 1 4 44 42),
 oD 46 (.ld false 1 45),
 oD 47 (.eq true .sc 46 (cI (-1))),
 oM 48 47,
 oF 49 48 (.mv 0),
 oF 50 48 (.nilck 49),
 oF 51 48 (.fa 0 50),
 oF 52 48 (.ld false 1 51),
 oF 53 48 (.mv 3),
 oF 54 48 (.mv 2),
 oF 55 48 (.call (.c (.f 77 [])) [54,.c (.n 2)]),
 oF 56 48 (.ixa 8 52 53),
 oF 57 48 (.fa 0 56),
 oF 58 48 (.ixaa 1 4 57 55),
 oF 59 48 (.ld false 1 58),
 oF 60 48 (.eq true .sc 59 (cI (-1))),
 oD 61 (.pick 48 (.c (.b true)) 60),
 oM 36 61]
def Zab.r6:List Oper:=[
 oM 10 (cI 9)]
def Zab.r7:List Oper:=[
 oM 62 0,
 oM 63 1,
 oM 64 2,
 oM 65 3,
 oM 66 4,
 oC 67 76 [62,63,64,65,66]]
def Zab.r8:List Oper:=[
 oM 10 (cI 0)]
def Zab.code:Code:=.seq Zab.r0 (.seq (.block 0 (.seq Zab.r1 (.cond 11 (.seq Zab.r2 (.ret)) (.seq Zab.r3 (.cond 14 (.seq Zab.r4 (.ret)) (.seq (.draw Zab.r5 [(15,18)]) (.cond 36 (.seq Zab.r6 (.ret)) (.skip)))))))) (.seq Zab.r7 (.seq Zab.r8 (.ret))))
def Zab:Func:=⟨68,[.t 10],Zab.code⟩
/-! muntin/muntinref10.Join -/
def Zai.r0:List Oper:=[
 oM 10 (.c (.sn)),
 oM 11 (cI 0)]
def Zai.r1:List Oper:=[
 oM 13 1,
 oD 14 (.bin .lss 13 (cI 0)),
 oM 15 14,
 oF 16 15 (.mv 1),
 oF 17 15 (.mv 0),
 oF 18 15 (.len 17),
 oF 19 15 (.bin .geq 16 18),
 oD 20 (.pick 15 (.c (.b true)) 19),
 oM 21 20,
 oF 22 21 (.mv 3),
 oF 23 21 (.bin .lss 22 (cI 0)),
 oD 24 (.pick 21 (.c (.b true)) 23),
 oM 25 24,
 oF 26 25 (.mv 3),
 oF 27 25 (.mv 0),
 oF 28 25 (.len 27),
 oF 29 25 (.bin .geq 26 28),
 oD 30 (.pick 25 (.c (.b true)) 29),
 oM 31 30,
 oF 32 31 (.mv 1),
 oF 33 31 (.mv 3),
 oF 34 31 (.eq false .sc 32 33),
 oD 35 (.pick 31 (.c (.b true)) 34),
 oM 36 35,
 oF 37 36 (.mv 2),
 oF 38 36 (.bin .lss 37 (cI 0)),
 oD 39 (.pick 36 (.c (.b true)) 38),
 oM 40 39,
 oF 41 40 (.mv 2),
 oF 42 40 (.bin .gtr 41 (cI 3)),
 oD 43 (.pick 40 (.c (.b true)) 42),
 oM 44 43,
 oF 45 44 (.mv 4),
 oF 46 44 (.bin .lss 45 (cI (-2))),
 oD 47 (.pick 44 (.c (.b true)) 46)]
def Zai.r2:List Oper:=[
 oM 48 0,
 oM 10 48,
 oM 11 (cI 2)]
def Zai.r3:List Oper:=[
 oM 49 0,
 oM 50 1,
 oM 51 2,
 oD 52 (.ixa 8 49 50),
 oD 53 (.fa 0 52),
 oD 54 (.ixaa 1 4 53 51),
 oD 55 (.ld false 1 54),
 oD 56 (.eq true .sc 55 (cI (-1))),
 oM 57 56,
 oF 58 57 (.mv 0),
 oF 59 57 (.mv 3),
 oF 60 57 (.mv 2),
 oF 61 57 (.bin .add 60 (cI 2)),
 oF 62 57 (.bin .rem 61 (cI 4)),
 oF 63 57 (.ixa 8 58 59),
 oF 64 57 (.fa 0 63),
 oF 65 57 (.ixaa 1 4 64 62),
 oF 66 57 (.ld false 1 65),
 oF 67 57 (.eq true .sc 66 (cI (-1))),
 oD 68 (.pick 57 (.c (.b true)) 67)]
def Zai.r4:List Oper:=[
 oM 69 0,
 oM 10 69,
 oM 11 (cI 9)]
def Zai.r5:List Oper:=[
 oM 70 0,
 oM 71 1,
 oM 72 2,
 oM 73 3,
 oM 74 4,
 oC 75 65 [70,71,72,73,74],
 oM 12 75]
def Zai.r6:List Oper:=[
 oM 76 12,
 oM 10 76,
 oM 11 (cI 0)]
def Zai.code:Code:=.seq Zai.r0 (.seq (.seq Zai.r1 (.cond 47 (.seq Zai.r2 (.ret)) (.skip))) (.seq (.seq Zai.r3 (.cond 68 (.seq Zai.r4 (.ret)) (.skip))) (.seq Zai.r5 (.seq Zai.r6 (.ret)))))
def Zai:Func:=⟨77,[.t 10,.t 11],Zai.code⟩
/-! (*muntin/grid.Grid).Len -/
def Zbx.r0:List Oper:=[
 oM 2 (cI 0)]
def Zbx.r1:List Oper:=[
 oM 3 0,
 oD 4 (.eq false .pt 3 (.c (.pn)))]
def Zbx.r2:List Oper:=[
 oM 2 (cI 0)]
def Zbx.r3:List Oper:=[
 oM 5 0,
 oD 6 (.nilck 5),
 oD 7 (.fa 0 6),
 oD 8 (.ld false 1 7),
 oD 9 (.len 8),
 oM 2 9]
def Zbx.code:Code:=.seq Zbx.r0 (.seq (.seq Zbx.r1 (.cond 4 (.seq Zbx.r2 (.ret)) (.skip))) (.seq Zbx.r3 (.ret)))
def Zbx:Func:=⟨10,[.t 2],Zbx.code⟩
/-! muntin/muntinref10.Same -/
def z8.r0:List Oper:=[
 oM 4 (.c (.b false))]
def z8.r1:List Oper:=[
 oM 6 0,
 oD 7 (.len 6),
 oM 8 1,
 oD 9 (.len 8),
 oD 10 (.eq true .sc 7 9)]
def z8.r2:List Oper:=[
 oM 4 (.c (.b false))]
def z8.r3:List Oper:=[
 oM 5 (cI 0)]
def z8.r4:List Oper:=[
 oM 11 5,
 oM 12 0,
 oD 13 (.len 12),
 oD 14 (.bin .lss 11 13)]
def z8.r6:List Oper:=[
 oM 17 0,
 oM 18 5,
 oD 19 (.ixa 8 17 18),
 oD 20 (.ld true 8 19),
 oM 21 1,
 oM 22 5,
 oD 23 (.ixa 8 21 22),
 oD 24 (.ld true 8 23),
 oD 25 (.eq true (.fl [.i,.i,.i,.i,.i,.i,.i,.i]) 20 24)]
def z8.r7:List Oper:=[
 oM 4 (.c (.b false))]
def z8.r5:List Oper:=[
 oM 15 5,
 oD 16 (.bin .add 15 (cI 1)),
 oM 5 16]
def z8.l0:Code:=.seq (.seq z8.r4 (.cond 14 (.skip) (.exit 0))) (.seq (.block 1 (.seq (.draw z8.r6 [(3,7)]) (.cond 25 (.seq z8.r7 (.ret)) (.skip)))) z8.r5)
def z8.r8:List Oper:=[
 oM 4 (.c (.b true))]
def z8.code:Code:=.seq z8.r0 (.seq (.seq z8.r1 (.cond 10 (.seq z8.r2 (.ret)) (.skip))) (.seq (.seq z8.r3 (.block 0 (.loop z8.l0))) (.seq z8.r8 (.ret))))
def z8:Func:=⟨26,[.t 4],z8.code⟩
/-! (*muntin/grid.Grid).Cells -/
def ZaY.r0:List Oper:=[
 oM 2 (.c (.sn))]
def ZaY.r1:List Oper:=[
 oM 3 0,
 oD 4 (.eq false .pt 3 (.c (.pn)))]
def ZaY.r2:List Oper:=[
 oM 2 (.c (.sn))]
def ZaY.r3:List Oper:=[
 oM 5 0,
 oD 6 (.nilck 5),
 oD 7 (.fa 0 6),
 oD 8 (.ld false 1 7),
 oC 9 51 [8],
 oM 2 9]
def ZaY.code:Code:=.seq ZaY.r0 (.seq (.seq ZaY.r1 (.cond 4 (.seq ZaY.r2 (.ret)) (.skip))) (.seq ZaY.r3 (.ret)))
def ZaY:Func:=⟨10,[.t 2],ZaY.code⟩
/-! muntin/kitty.right -/
def Zcz.r0:List Oper:=[
 oM 2 (.c (.b false))]
def Zcz.r1:List Oper:=[
 oM 3 0,
 oC 4 78 [3,.c (.f 80 [])],
 oD 5 (.un .not 4),
 oM 2 5]
def Zcz.code:Code:=.seq Zcz.r0 (.seq Zcz.r1 (.ret))
def Zcz:Func:=⟨6,[.t 2],Zcz.code⟩
/-! muntin/kitty.rot -/
def ZbT.r0:List Oper:=[
 oD 4 (.box 1),
 oD 5 (.box 2),
 oM 6 (cI 0)]
def ZbT.r1:List Oper:=[
 oM 8 0,
 oD 9 (.fa 0 5),
 oD 10 (.ld false 1 9),
 oD 11 (.ixa 1 8 10),
 oD 12 (.ld false 1 11),
 oD 13 (.fa 1 5),
 oD 14 (.ld false 1 13),
 oD 15 (.bin .sub 12 14),
 oM 16 0,
 oD 17 (.fa 0 4),
 oD 18 (.ld false 1 17),
 oD 19 (.ixa 1 16 18),
 oD 20 (.ld false 1 19),
 oD 21 (.fa 1 4),
 oD 22 (.ld false 1 21),
 oD 23 (.bin .sub 20 22),
 oD 24 (.bin .sub 15 23),
 oM 7 24]
def ZbT.r2:List Oper:=[
 oD 25 (.fa 0 5),
 oD 26 (.ld false 1 25),
 oD 27 (.fa 0 4),
 oD 28 (.ld false 1 27),
 oD 29 (.bin .lss 26 28),
 oM 30 29,
 oF 31 30 (.fa 0 5),
 oF 32 30 (.ld false 1 31),
 oF 33 30 (.fa 0 4),
 oF 34 30 (.ld false 1 33),
 oF 35 30 (.eq false .sc 32 34),
 oF 36 30 (.mv 35),
 oT 37 36 (.fa 1 5),
 oT 38 36 (.ld false 1 37),
 oT 39 36 (.fa 1 4),
 oT 40 36 (.ld false 1 39),
 oT 41 36 (.bin .lss 38 40),
 oF 42 30 (.pick 36 41 (.c (.b false))),
 oD 43 (.pick 30 (.c (.b true)) 42)]
def ZbT.r3:List Oper:=[
 oM 44 7,
 oM 45 0,
 oM 46 0,
 oD 47 (.len 46),
 oD 48 (.bin .sub 47 (cI 1)),
 oD 49 (.ixa 1 45 48),
 oD 50 (.ld false 1 49),
 oD 51 (.bin .add 44 50),
 oM 7 51]
def ZbT.r4:List Oper:=[
 oM 52 7,
 oM 6 52]
def ZbT.code:Code:=.seq ZbT.r0 (.seq (.draw ZbT.r1 [(2,6),(4,6),(2,10),(4,10),(6,10),(2,12),(4,12),(6,12),(2,14),(4,14),(6,14),(10,14),(12,14)]) (.seq (.seq ZbT.r2 (.cond 43 ZbT.r3 (.skip))) (.seq ZbT.r4 (.ret))))
def ZbT:Func:=⟨53,[.t 6],ZbT.code⟩
/-! muntin/kitty.sums -/
def ZaJ.r0:List Oper:=[
 oM 2 (.c (.sn))]
def ZaJ.r1:List Oper:=[
 oM 6 0,
 oD 7 (.len 6),
 oD 8 (.bin .add 7 (cI 1)),
 oD 9 (.mks 1 8 [.n 0] 8 8),
 oM 3 9]
def ZaJ.r2:List Oper:=[
 oM 10 0,
 oD 11 (.len 10),
 oM 12 (cI 0)]
def ZaJ.r3:List Oper:=[
 oD 13 (.bin .lss 12 11)]
def ZaJ.r4:List Oper:=[
 oM 14 12,
 oD 15 (.ixa 1 10 12),
 oD 16 (.ld false 1 15),
 oM 4 14,
 oM 5 16]
def ZaJ.r5:List Oper:=[
 oM 17 3,
 oM 18 4,
 oD 19 (.bin .add 18 (cI 1)),
 oM 20 3,
 oM 21 4,
 oD 22 (.ixa 1 20 21),
 oD 23 (.ld false 1 22),
 oM 24 5,
 oD 25 (.bin .add 23 24),
 oD 26 (.ixa 1 17 19),
 oN (.st 1 26 25)]
def ZaJ.r6:List Oper:=[
 oD 27 (.bin .add 12 (cI 1)),
 oM 12 27]
def ZaJ.l0:Code:=.seq ZaJ.r3 (.seq (.cond 13 (.skip) (.exit 0)) (.seq (.block 1 (.seq ZaJ.r4 ZaJ.r5)) ZaJ.r6))
def ZaJ.r7:List Oper:=[
 oM 28 3,
 oM 2 28]
def ZaJ.code:Code:=.seq ZaJ.r0 (.seq ZaJ.r1 (.seq (.seq ZaJ.r2 (.block 0 (.loop ZaJ.l0))) (.seq ZaJ.r7 (.ret))))
def ZaJ:Func:=⟨29,[.t 2],ZaJ.code⟩
/-! muntin/muntinref10.Nearest -/
def ZQ.r0:List Oper:=[
 oM 6 (cI 0)]
def ZQ.r1:List Oper:=[
 oM 7 (cI (-1))]
def ZQ.r2:List Oper:=[
 oM 8 (cI 0)]
def ZQ.r3:List Oper:=[
 oM 9 8,
 oM 10 0,
 oD 11 (.len 10),
 oD 12 (.bin .lss 9 11)]
def ZQ.r5:List Oper:=[
 oM 15 2,
 oD 16 (.eq false .sc 15 (cI 0)),
 oM 17 16,
 oT 18 17 (.mv 0),
 oT 19 17 (.mv 8),
 oT 20 17 (.ixa 2 18 19),
 oT 21 17 (.fa 1 20),
 oT 22 17 (.ld false 1 21),
 oT 23 17 (.mv 0),
 oT 24 17 (.mv 1),
 oT 25 17 (.ixa 2 23 24),
 oT 26 17 (.fa 1 25),
 oT 27 17 (.ld false 1 26),
 oT 28 17 (.eq false .sc 22 27),
 oD 29 (.pick 17 28 (.c (.b false))),
 oM 30 29,
 oT 31 30 (.mv 0),
 oT 32 30 (.mv 8),
 oT 33 30 (.ixa 2 31 32),
 oT 34 30 (.fa 0 33),
 oT 35 30 (.ld false 1 34),
 oT 36 30 (.mv 0),
 oT 37 30 (.mv 1),
 oT 38 30 (.ixa 2 36 37),
 oT 39 30 (.fa 0 38),
 oT 40 30 (.ld false 1 39),
 oT 41 30 (.bin .gtr 35 40),
 oD 42 (.pick 30 41 (.c (.b false))),
 oM 43 42,
 oT 44 43 (.mv 7),
 oT 45 43 (.bin .lss 44 (cI 0)),
 oT 46 43 (.mv 45),
 oF 47 46 (.mv 0),
 oF 48 46 (.mv 8),
 oF 49 46 (.ixa 2 47 48),
 oF 50 46 (.fa 0 49),
 oF 51 46 (.ld false 1 50),
 oF 52 46 (.mv 0),
 oF 53 46 (.mv 7),
 oF 54 46 (.ixa 2 52 53),
 oF 55 46 (.fa 0 54),
 oF 56 46 (.ld false 1 55),
 oF 57 46 (.bin .lss 51 56),
 oT 58 43 (.pick 46 (.c (.b true)) 57),
 oD 59 (.pick 43 58 (.c (.b false)))]
def ZQ.r6:List Oper:=[
 oM 60 8,
 oM 7 60]
def ZQ.r7:List Oper:=[
 oM 61 2,
 oD 62 (.eq false .sc 61 (cI 1)),
 oM 63 62,
 oT 64 63 (.mv 0),
 oT 65 63 (.mv 8),
 oT 66 63 (.ixa 2 64 65),
 oT 67 63 (.fa 0 66),
 oT 68 63 (.ld false 1 67),
 oT 69 63 (.mv 0),
 oT 70 63 (.mv 1),
 oT 71 63 (.ixa 2 69 70),
 oT 72 63 (.fa 0 71),
 oT 73 63 (.ld false 1 72),
 oT 74 63 (.eq false .sc 68 73),
 oD 75 (.pick 63 74 (.c (.b false))),
 oM 76 75,
 oT 77 76 (.mv 0),
 oT 78 76 (.mv 8),
 oT 79 76 (.ixa 2 77 78),
 oT 80 76 (.fa 1 79),
 oT 81 76 (.ld false 1 80),
 oT 82 76 (.mv 0),
 oT 83 76 (.mv 1),
 oT 84 76 (.ixa 2 82 83),
 oT 85 76 (.fa 1 84),
 oT 86 76 (.ld false 1 85),
 oT 87 76 (.bin .gtr 81 86),
 oD 88 (.pick 76 87 (.c (.b false))),
 oM 89 88,
 oT 90 89 (.mv 7),
 oT 91 89 (.bin .lss 90 (cI 0)),
 oT 92 89 (.mv 91),
 oF 93 92 (.mv 0),
 oF 94 92 (.mv 8),
 oF 95 92 (.ixa 2 93 94),
 oF 96 92 (.fa 1 95),
 oF 97 92 (.ld false 1 96),
 oF 98 92 (.mv 0),
 oF 99 92 (.mv 7),
 oF 100 92 (.ixa 2 98 99),
 oF 101 92 (.fa 1 100),
 oF 102 92 (.ld false 1 101),
 oF 103 92 (.bin .lss 97 102),
 oT 104 89 (.pick 92 (.c (.b true)) 103),
 oD 105 (.pick 89 104 (.c (.b false)))]
def ZQ.r8:List Oper:=[
 oM 106 8,
 oM 7 106]
def ZQ.r4:List Oper:=[
 oM 13 8,
 oD 14 (.bin .add 13 (cI 1)),
 oM 8 14]
def ZQ.l0:Code:=.seq (.seq ZQ.r3 (.cond 12 (.skip) (.exit 0))) (.seq (.block 1 (.seq (.seq (.draw ZQ.r5 [(7,12),(20,25),(36,41)]) (.cond 59 ZQ.r6 (.skip))) (.seq (.draw ZQ.r7 [(7,12),(20,25),(36,41)]) (.cond 105 ZQ.r8 (.skip))))) ZQ.r4)
def ZQ.r9:List Oper:=[
 oM 107 7,
 oM 6 107]
def ZQ.code:Code:=.seq ZQ.r0 (.seq ZQ.r1 (.seq (.seq ZQ.r2 (.block 0 (.loop ZQ.l0))) (.seq ZQ.r9 (.ret))))
def ZQ:Func:=⟨108,[.t 6],ZQ.code⟩
/-! muntin/muntinref10.Crossed -/
def Z5.r0:List Oper:=[
 oM 8 (.c (.b false))]
def Z5.r1:List Oper:=[
 oM 9 (cI 0)]
def Z5.r2:List Oper:=[
 oM 14 9,
 oM 15 1,
 oD 16 (.len 15),
 oD 17 (.bin .lss 14 16)]
def Z5.r4:List Oper:=[
 oM 10 (cI 0)]
def Z5.r5:List Oper:=[
 oM 20 10,
 oD 21 (.bin .lss 20 (cI 2))]
def Z5.r7:List Oper:=[
 oM 24 1,
 oM 25 9,
 oM 26 10,
 oD 27 (.ixa 8 24 25),
 oD 28 (.fa 0 27),
 oD 29 (.ixaa 1 4 28 26),
 oD 30 (.ld false 1 29),
 oM 11 30]
def Z5.r8:List Oper:=[
 oM 31 11,
 oD 32 (.bin .lss 31 (cI 0))]
def Z5.r9:List Oper:=[
 oM 33 0,
 oM 34 9,
 oD 35 (.ixa 2 33 34),
 oD 36 (.ld true 2 35),
 oD 12 (.alloc [.n 0,.n 0]),
 oN (.st 2 12 36)]
def Z5.r10:List Oper:=[
 oM 37 0,
 oM 38 11,
 oD 39 (.ixa 2 37 38),
 oD 40 (.ld true 2 39),
 oD 13 (.alloc [.n 0,.n 0]),
 oN (.st 2 13 40)]
def Z5.r11:List Oper:=[
 oD 41 (.fa 1 12),
 oD 42 (.ld false 1 41),
 oD 43 (.fa 1 13),
 oD 44 (.ld false 1 43),
 oD 45 (.eq false .sc 42 44),
 oM 46 45,
 oT 47 46 (.mv 0),
 oT 48 46 (.mv 2),
 oT 49 46 (.ixa 2 47 48),
 oT 50 46 (.fa 0 49),
 oT 51 46 (.ld false 1 50),
 oT 52 46 (.mv 0),
 oT 53 46 (.mv 3),
 oT 54 46 (.ixa 2 52 53),
 oT 55 46 (.fa 0 54),
 oT 56 46 (.ld false 1 55),
 oT 57 46 (.eq false .sc 51 56),
 oD 58 (.pick 46 57 (.c (.b false))),
 oM 59 58,
 oT 60 59 (.fa 0 12),
 oT 61 59 (.ld false 1 60),
 oT 62 59 (.mv 0),
 oT 63 59 (.mv 2),
 oT 64 59 (.ixa 2 62 63),
 oT 65 59 (.fa 0 64),
 oT 66 59 (.ld false 1 65),
 oT 67 59 (.bin .lss 61 66),
 oD 68 (.pick 59 67 (.c (.b false))),
 oM 69 68,
 oT 70 69 (.mv 0),
 oT 71 69 (.mv 2),
 oT 72 69 (.ixa 2 70 71),
 oT 73 69 (.fa 0 72),
 oT 74 69 (.ld false 1 73),
 oT 75 69 (.fa 0 13),
 oT 76 69 (.ld false 1 75),
 oT 77 69 (.bin .lss 74 76),
 oD 78 (.pick 69 77 (.c (.b false))),
 oM 79 78,
 oT 80 79 (.mv 0),
 oT 81 79 (.mv 2),
 oT 82 79 (.ixa 2 80 81),
 oT 83 79 (.fa 1 82),
 oT 84 79 (.ld false 1 83),
 oT 85 79 (.fa 1 12),
 oT 86 79 (.ld false 1 85),
 oT 87 79 (.bin .lss 84 86),
 oD 88 (.pick 79 87 (.c (.b false))),
 oM 89 88,
 oT 90 89 (.fa 1 12),
 oT 91 89 (.ld false 1 90),
 oT 92 89 (.mv 0),
 oT 93 89 (.mv 3),
 oT 94 89 (.ixa 2 92 93),
 oT 95 89 (.fa 1 94),
 oT 96 89 (.ld false 1 95),
 oT 97 89 (.bin .lss 91 96),
 oD 98 (.pick 89 97 (.c (.b false)))]
def Z5.r12:List Oper:=[
 oM 8 (.c (.b true))]
def Z5.r13:List Oper:=[
 oD 99 (.fa 0 12),
 oD 100 (.ld false 1 99),
 oD 101 (.fa 0 13),
 oD 102 (.ld false 1 101),
 oD 103 (.eq false .sc 100 102),
 oM 104 103,
 oT 105 104 (.mv 0),
 oT 106 104 (.mv 2),
 oT 107 104 (.ixa 2 105 106),
 oT 108 104 (.fa 1 107),
 oT 109 104 (.ld false 1 108),
 oT 110 104 (.mv 0),
 oT 111 104 (.mv 3),
 oT 112 104 (.ixa 2 110 111),
 oT 113 104 (.fa 1 112),
 oT 114 104 (.ld false 1 113),
 oT 115 104 (.eq false .sc 109 114),
 oD 116 (.pick 104 115 (.c (.b false))),
 oM 117 116,
 oT 118 117 (.mv 0),
 oT 119 117 (.mv 2),
 oT 120 117 (.ixa 2 118 119),
 oT 121 117 (.fa 0 120),
 oT 122 117 (.ld false 1 121),
 oT 123 117 (.fa 0 12),
 oT 124 117 (.ld false 1 123),
 oT 125 117 (.bin .lss 122 124),
 oD 126 (.pick 117 125 (.c (.b false))),
 oM 127 126,
 oT 128 127 (.fa 0 12),
 oT 129 127 (.ld false 1 128),
 oT 130 127 (.mv 0),
 oT 131 127 (.mv 3),
 oT 132 127 (.ixa 2 130 131),
 oT 133 127 (.fa 0 132),
 oT 134 127 (.ld false 1 133),
 oT 135 127 (.bin .lss 129 134),
 oD 136 (.pick 127 135 (.c (.b false))),
 oM 137 136,
 oT 138 137 (.fa 1 12),
 oT 139 137 (.ld false 1 138),
 oT 140 137 (.mv 0),
 oT 141 137 (.mv 2),
 oT 142 137 (.ixa 2 140 141),
 oT 143 137 (.fa 1 142),
 oT 144 137 (.ld false 1 143),
 oT 145 137 (.bin .lss 139 144),
 oD 146 (.pick 137 145 (.c (.b false))),
 oM 147 146,
 oT 148 147 (.mv 0),
 oT 149 147 (.mv 2),
 oT 150 147 (.ixa 2 148 149),
 oT 151 147 (.fa 1 150),
 oT 152 147 (.ld false 1 151),
 oT 153 147 (.fa 1 13),
 oT 154 147 (.ld false 1 153),
 oT 155 147 (.bin .lss 152 154),
 oD 156 (.pick 147 155 (.c (.b false)))]
def Z5.r14:List Oper:=[
 oM 8 (.c (.b true))]
def Z5.r6:List Oper:=[
 oM 22 10,
 oD 23 (.bin .add 22 (cI 1)),
 oM 10 23]
def Z5.l0:Code:=.seq (.seq Z5.r5 (.cond 21 (.skip) (.exit 2))) (.seq (.block 3 (.seq Z5.r7 (.seq (.seq Z5.r8 (.cond 32 (.exit 3) (.skip))) (.seq Z5.r9 (.seq Z5.r10 (.seq (.seq (.draw Z5.r11 [(1,3),(10,15),(20,25),(33,35),(43,45),(50,55)]) (.cond 98 (.seq Z5.r12 (.ret)) (.skip))) (.seq (.draw Z5.r13 [(1,3),(10,15),(23,25),(30,35),(40,45),(53,55)]) (.cond 156 (.seq Z5.r14 (.ret)) (.skip))))))))) Z5.r6)
def Z5.r3:List Oper:=[
 oM 18 9,
 oD 19 (.bin .add 18 (cI 1)),
 oM 9 19]
def Z5.l1:Code:=.seq (.seq Z5.r2 (.cond 17 (.skip) (.exit 0))) (.seq (.block 1 (.seq Z5.r4 (.block 2 (.loop Z5.l0)))) Z5.r3)
def Z5.r15:List Oper:=[
 oM 8 (.c (.b false))]
def Z5.code:Code:=.seq Z5.r0 (.seq (.seq Z5.r1 (.block 0 (.loop Z5.l1))) (.seq Z5.r15 (.ret)))
def Z5:Func:=⟨157,[.t 8],Z5.code⟩
/-! muntin/muntinref10.with -/
def ZJ.r0:List Oper:=[
 oM 10 (.c (.sn))]
def ZJ.r1:List Oper:=[
 oM 11 (.c (.sn))]
def ZJ.r2:List Oper:=[
 oM 12 (cI 0)]
def ZJ.r3:List Oper:=[
 oM 14 12,
 oM 15 0,
 oD 16 (.len 15),
 oD 17 (.bin .lss 14 16)]
def ZJ.r5:List Oper:=[
 oM 20 0,
 oM 21 12,
 oD 22 (.ixa 8 20 21),
 oD 23 (.ld true 8 22),
 oD 13 (.alloc [.n 0,.n 0,.n 0,.n 0,.n 0,.n 0,.n 0,.n 0]),
 oN (.st 8 13 23)]
def ZJ.r6:List Oper:=[
 oM 24 12,
 oM 25 1,
 oD 26 (.eq false .sc 24 25)]
def ZJ.r7:List Oper:=[
 oM 27 2,
 oM 28 3,
 oD 29 (.fa 0 13),
 oD 30 (.ixaa 1 4 29 27),
 oN (.st 1 30 28)]
def ZJ.r8:List Oper:=[
 oM 31 2,
 oM 32 4,
 oD 33 (.fa 4 13),
 oD 34 (.ixaa 1 4 33 31),
 oN (.st 1 34 32)]
def ZJ.r9:List Oper:=[
 oM 35 12,
 oM 36 3,
 oD 37 (.eq false .sc 35 36)]
def ZJ.r10:List Oper:=[
 oM 38 2,
 oD 39 (.bin .add 38 (cI 2)),
 oD 40 (.bin .rem 39 (cI 4)),
 oM 41 1,
 oD 42 (.fa 0 13),
 oD 43 (.ixaa 1 4 42 40),
 oN (.st 1 43 41)]
def ZJ.r11:List Oper:=[
 oM 44 2,
 oD 45 (.bin .add 44 (cI 2)),
 oD 46 (.bin .rem 45 (cI 4)),
 oM 47 4,
 oD 48 (.fa 4 13),
 oD 49 (.ixaa 1 4 48 46),
 oN (.st 1 49 47)]
def ZJ.r12:List Oper:=[
 oM 50 11,
 oD 51 (.ld true 8 13),
 oD 52 (.bsl 8 1 [.n 0,.n 0,.n 0,.n 0,.n 0,.n 0,.n 0,.n 0] [(0,8,.t 51)]),
 oD 53 (.app 8 64 50 52),
 oM 11 53]
def ZJ.r4:List Oper:=[
 oM 18 12,
 oD 19 (.bin .add 18 (cI 1)),
 oM 12 19]
def ZJ.l0:Code:=.seq (.seq ZJ.r3 (.cond 17 (.skip) (.exit 0))) (.seq (.block 1 (.seq ZJ.r5 (.seq (.seq ZJ.r6 (.cond 26 (.seq ZJ.r7 ZJ.r8) (.skip))) (.seq (.seq ZJ.r9 (.cond 37 (.seq ZJ.r10 ZJ.r11) (.skip))) ZJ.r12)))) ZJ.r4)
def ZJ.r13:List Oper:=[
 oM 54 11,
 oM 10 54]
def ZJ.code:Code:=.seq ZJ.r0 (.seq ZJ.r1 (.seq (.seq ZJ.r2 (.block 0 (.loop ZJ.l0))) (.seq ZJ.r13 (.ret))))
def ZJ:Func:=⟨55,[.t 10],ZJ.code⟩
/-! muntin/grid.Check -/
def zB.r0:List Oper:=[
 oM 2 (cI 0)]
def zB.r1:List Oper:=[
 oM 6 0,
 oD 7 (.len 6),
 oD 8 (.bin .gtr 7 (cI 4096))]
def zB.r2:List Oper:=[
 oM 2 (cI 6)]
def zB.r3:List Oper:=[
 oM 9 0,
 oD 10 (.len 9),
 oM 11 (cI 0)]
def zB.r4:List Oper:=[
 oD 12 (.bin .lss 11 10)]
def zB.r5:List Oper:=[
 oM 13 11,
 oM 3 13]
def zB.r6:List Oper:=[
 oM 14 (cI 0)]
def zB.r7:List Oper:=[
 oD 15 (.bin .lss 14 (cI 4))]
def zB.r8:List Oper:=[
 oM 16 14,
 oM 4 16]
def zB.r9:List Oper:=[
 oM 17 0,
 oM 18 3,
 oM 19 4,
 oC 20 82 [17,18,19],
 oM 5 20]
def zB.r10:List Oper:=[
 oM 21 5,
 oD 22 (.eq true .sc 21 (cI 0))]
def zB.r11:List Oper:=[
 oM 23 5,
 oM 2 23]
def zB.r12:List Oper:=[
 oD 24 (.bin .add 14 (cI 1)),
 oM 14 24]
def zB.l0:Code:=.seq zB.r7 (.seq (.cond 15 (.skip) (.exit 2)) (.seq (.block 3 (.seq zB.r8 (.seq zB.r9 (.seq zB.r10 (.cond 22 (.seq zB.r11 (.ret)) (.skip)))))) zB.r12))
def zB.r13:List Oper:=[
 oD 25 (.bin .add 11 (cI 1)),
 oM 11 25]
def zB.l1:Code:=.seq zB.r4 (.seq (.cond 12 (.skip) (.exit 0)) (.seq (.block 1 (.seq zB.r5 (.seq zB.r6 (.block 2 (.loop zB.l0))))) zB.r13))
def zB.r14:List Oper:=[
 oM 2 (cI 0)]
def zB.code:Code:=.seq zB.r0 (.seq (.seq zB.r1 (.cond 8 (.seq zB.r2 (.ret)) (.skip))) (.seq (.seq zB.r3 (.block 0 (.loop zB.l1))) (.seq zB.r14 (.ret))))
def zB:Func:=⟨26,[.t 2],zB.code⟩
/-! muntin/join.spread -/
def zd.r0:List Oper:=[
 oM 4 (.c (.sn)),
 oM 5 (.c (.sn))]
def zd.r1:List Oper:=[
 oD 13 (.bsl 1 1 [.n 0] [(0,1,.c (.n (-1)))]),
 oM 14 0,
 oD 15 (.len 14),
 oC 16 83 [13,15],
 oD 17 (.bsl 1 1 [.n 0] [(0,1,.c (.n (-1)))]),
 oM 18 0,
 oD 19 (.len 18),
 oC 20 83 [17,19],
 oM 6 16,
 oM 7 20]
def zd.r2:List Oper:=[
 oM 21 1,
 oD 22 (.bsl 1 1 [.n 0] [(0,1,.t 21)]),
 oM 8 22]
def zd.r3:List Oper:=[
 oM 23 0,
 oD 24 (.len 23),
 oD 25 (.mks 1 1 [.b false] 24 24),
 oM 9 25]
def zd.r4:List Oper:=[
 oM 26 9,
 oM 27 1,
 oD 28 (.ixa 1 26 27),
 oN (.st 1 28 (.c (.b true)))]
def zd.r5:List Oper:=[
 oM 29 8,
 oD 30 (.len 29),
 oD 31 (.bin .gtr 30 (cI 0))]
def zd.r6:List Oper:=[
 oM 32 8,
 oD 33 (.ixa 1 32 (cI 0)),
 oD 34 (.ld false 1 33),
 oM 10 34]
def zd.r7:List Oper:=[
 oM 35 8,
 oD 36 (.slc 1 35 (some (cI 1)) none none),
 oM 8 36]
def zd.r8:List Oper:=[
 oM 37 (cI 0)]
def zd.r9:List Oper:=[
 oD 38 (.bin .lss 37 (cI 4))]
def zd.r10:List Oper:=[
 oM 39 37,
 oM 11 39]
def zd.r11:List Oper:=[
 oM 40 0,
 oM 41 10,
 oM 42 11,
 oD 43 (.ixa 8 40 41),
 oD 44 (.fa 0 43),
 oD 45 (.ixaa 1 4 44 42),
 oD 46 (.ld false 1 45),
 oM 12 46]
def zd.r12:List Oper:=[
 oM 47 12,
 oD 48 (.bin .geq 47 (cI 0)),
 oM 49 48,
 oT 50 49 (.mv 9),
 oT 51 49 (.mv 12),
 oT 52 49 (.ixa 1 50 51),
 oT 53 49 (.ld false 1 52),
 oT 54 49 (.un .not 53),
 oD 55 (.pick 49 54 (.c (.b false)))]
def zd.r13:List Oper:=[
 oM 56 9,
 oM 57 12,
 oM 58 6,
 oM 59 12,
 oM 60 7,
 oM 61 12,
 oM 62 10,
 oM 63 11,
 oD 64 (.ixa 1 56 57),
 oN (.st 1 64 (.c (.b true))),
 oD 65 (.ixa 1 58 59),
 oN (.st 1 65 62),
 oD 66 (.ixa 1 60 61),
 oN (.st 1 66 63)]
def zd.r14:List Oper:=[
 oM 67 8,
 oM 68 12,
 oD 69 (.bsl 1 1 [.n 0] [(0,1,.t 68)]),
 oD 70 (.app 1 8 67 69),
 oM 8 70]
def zd.r15:List Oper:=[
 oD 71 (.bin .add 37 (cI 1)),
 oM 37 71]
def zd.l0:Code:=.seq zd.r9 (.seq (.cond 38 (.skip) (.exit 2)) (.seq (.block 3 (.seq zd.r10 (.seq zd.r11 (.seq zd.r12 (.cond 55 (.seq zd.r13 zd.r14) (.skip)))))) zd.r15))
def zd.l1:Code:=.seq (.seq zd.r5 (.cond 31 (.skip) (.exit 0))) (.block 1 (.seq zd.r6 (.seq zd.r7 (.seq zd.r8 (.block 2 (.loop zd.l0))))))
def zd.r16:List Oper:=[
 oM 72 6,
 oM 73 7,
 oM 4 72,
 oM 5 73]
def zd.code:Code:=.seq zd.r0 (.seq zd.r1 (.seq zd.r2 (.seq zd.r3 (.seq zd.r4 (.seq (.block 0 (.loop zd.l1)) (.seq zd.r16 (.ret)))))))
def zd:Func:=⟨74,[.t 4,.t 5],zd.code⟩
/-! (*muntin/grid.Grid).is -/
def Zco.r0:List Oper:=[
 oM 6 (.c (.b false))]
def Zco.r1:List Oper:=[
 oM 7 1,
 oD 8 (.bin .geq 7 (cI 0)),
 oM 9 8,
 oT 10 9 (.mv 1),
 oT 11 9 (.mv 0),
 oT 12 9 (.call (.c (.f 55 [])) [11]),
 oT 13 9 (.bin .lss 10 12),
 oD 14 (.pick 9 13 (.c (.b false))),
 oM 15 14,
 oT 16 15 (.mv 2),
 oT 17 15 (.call (.c (.f 90 [])) [16]),
 oD 18 (.pick 15 17 (.c (.b false))),
 oM 6 18]
def Zco.code:Code:=.seq Zco.r0 (.seq Zco.r1 (.ret))
def Zco:Func:=⟨19,[.t 6],Zco.code⟩
/-! (*muntin/grid.Grid).lay -/
def ZbI.r0:List Oper:=[
 oM 11 2,
 oC 12 77 [11,.c (.n 2)],
 oM 10 12]
def ZbI.r1:List Oper:=[
 oM 13 0,
 oD 14 (.nilck 13),
 oD 15 (.fa 0 14),
 oD 16 (.ld false 1 15),
 oM 17 1,
 oM 18 2,
 oM 19 0,
 oD 20 (.nilck 19),
 oD 21 (.fa 0 20),
 oD 22 (.ld false 1 21),
 oM 23 1,
 oM 24 2,
 oM 25 3,
 oM 26 4,
 oD 27 (.ixa 8 16 17),
 oD 28 (.fa 0 27),
 oD 29 (.ixaa 1 4 28 18),
 oN (.st 1 29 25),
 oD 30 (.ixa 8 22 23),
 oD 31 (.fa 4 30),
 oD 32 (.ixaa 1 4 31 24),
 oN (.st 1 32 26)]
def ZbI.r2:List Oper:=[
 oM 33 0,
 oD 34 (.nilck 33),
 oD 35 (.fa 0 34),
 oD 36 (.ld false 1 35),
 oM 37 3,
 oM 38 10,
 oM 39 0,
 oD 40 (.nilck 39),
 oD 41 (.fa 0 40),
 oD 42 (.ld false 1 41),
 oM 43 3,
 oM 44 10,
 oM 45 1,
 oM 46 4,
 oD 47 (.ixa 8 36 37),
 oD 48 (.fa 0 47),
 oD 49 (.ixaa 1 4 48 38),
 oN (.st 1 49 45),
 oD 50 (.ixa 8 42 43),
 oD 51 (.fa 4 50),
 oD 52 (.ixaa 1 4 51 44),
 oN (.st 1 52 46)]
def ZbI.code:Code:=.seq ZbI.r0 (.seq (.draw ZbI.r1 [(3,9)]) (.draw ZbI.r2 [(3,9)]))
def ZbI:Func:=⟨53,[],ZbI.code⟩
/-! muntin/compass.Left -/
def Zb5.r0:List Oper:=[
 oM 4 (cI 0)]
def Zb5.r1:List Oper:=[
 oM 5 0,
 oC 6 90 [5],
 oD 7 (.un .not 6)]
def Zb5.r2:List Oper:=[
 oM 4 (cI 0)]
def Zb5.r3:List Oper:=[
 oM 8 0,
 oM 9 1,
 oD 10 (.bin .rem 9 (cI 4)),
 oD 11 (.bin .add 8 10),
 oD 12 (.bin .add 11 (cI 4)),
 oD 13 (.bin .rem 12 (cI 4)),
 oM 4 13]
def Zb5.code:Code:=.seq Zb5.r0 (.seq (.seq Zb5.r1 (.cond 7 (.seq Zb5.r2 (.ret)) (.skip))) (.seq Zb5.r3 (.ret)))
def Zb5:Func:=⟨14,[.t 4],Zb5.code⟩
/-! slices.ContainsFunc[[]int,int] -/
def ZaQ.r0:List Oper:=[
 oM 4 (.c (.b false))]
def ZaQ.r1:List Oper:=[
 oM 5 0,
 oM 6 1,
 oC 7 91 [5,6],
 oD 8 (.bin .geq 7 (cI 0)),
 oM 4 8]
def ZaQ.code:Code:=.seq ZaQ.r0 (.seq ZaQ.r1 (.ret))
def ZaQ:Func:=⟨9,[.t 4],ZaQ.code⟩
/-! muntin/kitty.right$1 -/
def ZbX.r0:List Oper:=[
 oM 2 (.c (.b false))]
def ZbX.r1:List Oper:=[
 oM 3 0,
 oD 4 (.bin .lss 3 (cI (-2))),
 oM 5 4,
 oF 6 5 (.mv 0),
 oF 7 5 (.bin .gtr 6 (cI 1)),
 oD 8 (.pick 5 (.c (.b true)) 7),
 oM 2 8]
def ZbX.code:Code:=.seq ZbX.r0 (.seq ZbX.r1 (.ret))
def ZbX:Func:=⟨9,[.t 2],ZbX.code⟩
/-! muntin/grid.side -/
def Za0.r0:List Oper:=[
 oM 6 (cI 0)]
def Za0.r1:List Oper:=[
 oM 10 0,
 oM 11 1,
 oM 12 2,
 oD 13 (.ixa 8 10 11),
 oD 14 (.fa 0 13),
 oD 15 (.ixaa 1 4 14 12),
 oD 16 (.ld false 1 15),
 oM 17 0,
 oM 18 1,
 oM 19 2,
 oD 20 (.ixa 8 17 18),
 oD 21 (.fa 4 20),
 oD 22 (.ixaa 1 4 21 19),
 oD 23 (.ld false 1 22),
 oM 7 16,
 oM 8 23]
def Za0.r2:List Oper:=[
 oM 24 7,
 oD 25 (.eq false .sc 24 (cI (-1)))]
def Za0.r3:List Oper:=[
 oM 26 8,
 oD 27 (.eq true .sc 26 (cI 0))]
def Za0.r4:List Oper:=[
 oM 6 (cI 9)]
def Za0.r5:List Oper:=[
 oM 6 (cI 0)]
def Za0.r6:List Oper:=[
 oM 28 7,
 oD 29 (.bin .lss 28 (cI 0)),
 oM 30 29,
 oF 31 30 (.mv 7),
 oF 32 30 (.mv 0),
 oF 33 30 (.len 32),
 oF 34 30 (.bin .geq 31 33),
 oD 35 (.pick 30 (.c (.b true)) 34),
 oM 36 35,
 oF 37 36 (.mv 7),
 oF 38 36 (.mv 1),
 oF 39 36 (.eq false .sc 37 38),
 oD 40 (.pick 36 (.c (.b true)) 39)]
def Za0.r7:List Oper:=[
 oM 6 (cI 3)]
def Za0.r8:List Oper:=[
 oM 41 2,
 oC 42 77 [41,.c (.n 2)],
 oM 9 42]
def Za0.r9:List Oper:=[
 oM 43 0,
 oM 44 7,
 oM 45 9,
 oD 46 (.ixa 8 43 44),
 oD 47 (.fa 0 46),
 oD 48 (.ixaa 1 4 47 45),
 oD 49 (.ld false 1 48),
 oM 50 1,
 oD 51 (.eq true .sc 49 50),
 oM 52 51,
 oF 53 52 (.mv 0),
 oF 54 52 (.mv 7),
 oF 55 52 (.mv 9),
 oF 56 52 (.ixa 8 53 54),
 oF 57 52 (.fa 4 56),
 oF 58 52 (.ixaa 1 4 57 55),
 oF 59 52 (.ld false 1 58),
 oF 60 52 (.mv 8),
 oF 61 52 (.eq true .sc 59 60),
 oD 62 (.pick 52 (.c (.b true)) 61),
 oM 63 62,
 oF 64 63 (.mv 8),
 oF 65 63 (.bin .lss 64 (cI (-2))),
 oD 66 (.pick 63 (.c (.b true)) 65)]
def Za0.r10:List Oper:=[
 oM 6 (cI 9)]
def Za0.r11:List Oper:=[
 oM 6 (cI 0)]
def Za0.code:Code:=.seq Za0.r0 (.seq (.draw Za0.r1 [(6,13)]) (.seq (.seq Za0.r2 (.cond 25 (.seq (.seq Za0.r3 (.cond 27 (.seq Za0.r4 (.ret)) (.skip))) (.seq Za0.r5 (.ret))) (.skip))) (.seq (.seq Za0.r6 (.cond 40 (.seq Za0.r7 (.ret)) (.skip))) (.seq Za0.r8 (.seq (.seq Za0.r9 (.cond 66 (.seq Za0.r10 (.ret)) (.skip))) (.seq Za0.r11 (.ret)))))))
def Za0:Func:=⟨67,[.t 6],Za0.code⟩
/-! slices.Repeat[[]int,int] -/
def ZW.r0:List Oper:=[
 oM 4 (.c (.sn))]
def ZW.r1:List Oper:=[
 oM 9 1,
 oD 10 (.bin .lss 9 (cI 0))]
def ZW.r2:List Oper:=[
 oD 11 (.bad),
 oN (.bad)]
def ZW.r3:List Oper:=[
 oM 13 0,
 oD 14 (.len 13),
 oD 15 (.conv .u64 14),
 oM 16 1,
 oD 17 (.conv .u64 16),
 oC 18 89 [15,17],
 oM 12 18,
 oD 19 (.ext 12 0),
 oD 20 (.ext 12 1),
 oM 5 19,
 oM 6 20]
def ZW.r4:List Oper:=[
 oM 21 5,
 oD 22 (.bin .gtr 21 (.c (.i .u64 0))),
 oM 23 22,
 oF 24 23 (.mv 6),
 oF 25 23 (.bin .gtr 24 (.c (.i .u64 9223372036854775807))),
 oD 26 (.pick 23 (.c (.b true)) 25)]
def ZW.r5:List Oper:=[
 oD 27 (.bad),
 oN (.bad)]
def ZW.r6:List Oper:=[
 oM 28 6,
 oD 29 (.conv .i64 28),
 oD 30 (.mks 1 8 [.n 0] 29 29),
 oM 7 30]
def ZW.r7:List Oper:=[
 oM 31 7,
 oM 32 0,
 oD 33 (.cpy 1 31 32),
 oM 8 33]
def ZW.r8:List Oper:=[
 oM 34 8,
 oM 35 7,
 oD 36 (.len 35),
 oD 37 (.bin .lss 34 36)]
def ZW.r9:List Oper:=[
 oM 38 8,
 oM 39 7,
 oM 40 8,
 oD 41 (.slc 1 39 (some 40) none none),
 oM 42 7,
 oM 43 8,
 oD 44 (.slc 1 42 none (some 43) none),
 oD 45 (.cpy 1 41 44),
 oD 46 (.bin .add 38 45),
 oM 8 46]
def ZW.l0:Code:=.seq (.seq ZW.r8 (.cond 37 (.skip) (.exit 0))) (.block 1 (.draw ZW.r9 []))
def ZW.r10:List Oper:=[
 oM 47 7,
 oM 4 47]
def ZW.code:Code:=.seq ZW.r0 (.seq (.seq ZW.r1 (.cond 10 ZW.r2 (.skip))) (.seq ZW.r3 (.seq (.seq ZW.r4 (.cond 26 ZW.r5 (.skip))) (.seq ZW.r6 (.seq ZW.r7 (.seq (.block 0 (.loop ZW.l0)) (.seq ZW.r10 (.ret))))))))
def ZW:Func:=⟨48,[.t 4],ZW.code⟩
/-! math/bits.Mul -/
def Zcf.r0:List Oper:=[
 oM 4 (.c (.i .u64 0)),
 oM 5 (.c (.i .u64 0))]
def Zcf.r1:List Oper:=[
 oM 11 0,
 oD 12 (.conv .u32 11),
 oM 13 1,
 oD 14 (.conv .u32 13),
 oC 15 97 [12,14],
 oM 10 15,
 oD 16 (.ext 10 0),
 oD 17 (.ext 10 1),
 oM 6 16,
 oM 7 17]
def Zcf.r2:List Oper:=[
 oM 18 6,
 oD 19 (.conv .u64 18),
 oM 20 7,
 oD 21 (.conv .u64 20),
 oM 4 19,
 oM 5 21]
def Zcf.r3:List Oper:=[
 oM 23 0,
 oM 24 1,
 oC 25 98 [23,24],
 oM 22 25,
 oD 26 (.ext 22 0),
 oD 27 (.ext 22 1),
 oM 8 26,
 oM 9 27]
def Zcf.r4:List Oper:=[
 oM 28 8,
 oM 29 9,
 oM 4 28,
 oM 5 29]
def Zcf.code:Code:=.seq Zcf.r0 (.seq (.cond (.c (.b false)) (.seq Zcf.r1 (.seq Zcf.r2 (.ret))) (.skip)) (.seq Zcf.r3 (.seq Zcf.r4 (.ret))))
def Zcf:Func:=⟨30,[.t 4,.t 5],Zcf.code⟩
/-! muntin/compass.Good -/
def Zcm.r0:List Oper:=[
 oM 2 (.c (.b false))]
def Zcm.r1:List Oper:=[
 oM 3 0,
 oD 4 (.bin .geq 3 (cI 0)),
 oM 5 4,
 oT 6 5 (.mv 0),
 oT 7 5 (.bin .leq 6 (cI 3)),
 oD 8 (.pick 5 7 (.c (.b false))),
 oM 2 8]
def Zcm.code:Code:=.seq Zcm.r0 (.seq Zcm.r1 (.ret))
def Zcm:Func:=⟨9,[.t 2],Zcm.code⟩
/-! slices.IndexFunc[[]int,int] -/
def zh.r0:List Oper:=[
 oM 4 (cI 0)]
def zh.r1:List Oper:=[
 oM 6 0,
 oD 7 (.len 6),
 oM 8 (cI 0)]
def zh.r2:List Oper:=[
 oD 9 (.bin .lss 8 7)]
def zh.r3:List Oper:=[
 oM 10 8,
 oM 5 10]
def zh.r4:List Oper:=[
 oM 11 1,
 oM 12 0,
 oM 13 5,
 oD 14 (.ixa 1 12 13),
 oD 15 (.ld false 1 14),
 oD 16 (.call 11 [15])]
def zh.r5:List Oper:=[
 oM 17 5,
 oM 4 17]
def zh.r6:List Oper:=[
 oD 18 (.bin .add 8 (cI 1)),
 oM 8 18]
def zh.l0:Code:=.seq zh.r2 (.seq (.cond 9 (.skip) (.exit 0)) (.seq (.block 1 (.seq zh.r3 (.seq zh.r4 (.cond 16 (.seq zh.r5 (.ret)) (.skip))))) zh.r6))
def zh.r7:List Oper:=[
 oM 4 (cI (-1))]
def zh.code:Code:=.seq zh.r0 (.seq (.seq zh.r1 (.block 0 (.loop zh.l0))) (.seq zh.r7 (.ret)))
def zh:Func:=⟨19,[.t 4],zh.code⟩
/-! math/bits.Mul32 -/
def Zcl.r0:List Oper:=[
 oM 4 (.c (.i .u32 0)),
 oM 5 (.c (.i .u32 0))]
def Zcl.r1:List Oper:=[
 oM 7 0,
 oD 8 (.conv .u64 7),
 oM 9 1,
 oD 10 (.conv .u64 9),
 oD 11 (.bin .mul 8 10),
 oM 6 11]
def Zcl.r2:List Oper:=[
 oM 12 6,
 oD 13 (.bin .shr 12 (.c (.i .u64 32))),
 oD 14 (.conv .u32 13),
 oM 15 6,
 oD 16 (.conv .u32 15),
 oM 4 14,
 oM 5 16]
def Zcl.code:Code:=.seq Zcl.r0 (.seq Zcl.r1 (.seq Zcl.r2 (.ret)))
def Zcl:Func:=⟨17,[.t 4,.t 5],Zcl.code⟩
/-! math/bits.Mul64 -/
def Zao.r0:List Oper:=[
 oM 4 (.c (.i .u64 0)),
 oM 5 (.c (.i .u64 0))]
def Zao.r1:List Oper:=[
 oM 14 0,
 oD 15 (.bin .and 14 (.c (.i .u64 4294967295))),
 oM 6 15]
def Zao.r2:List Oper:=[
 oM 16 0,
 oD 17 (.bin .shr 16 (.c (.i .u64 32))),
 oM 7 17]
def Zao.r3:List Oper:=[
 oM 18 1,
 oD 19 (.bin .and 18 (.c (.i .u64 4294967295))),
 oM 8 19]
def Zao.r4:List Oper:=[
 oM 20 1,
 oD 21 (.bin .shr 20 (.c (.i .u64 32))),
 oM 9 21]
def Zao.r5:List Oper:=[
 oM 22 6,
 oM 23 8,
 oD 24 (.bin .mul 22 23),
 oM 10 24]
def Zao.r6:List Oper:=[
 oM 25 7,
 oM 26 8,
 oD 27 (.bin .mul 25 26),
 oM 28 10,
 oD 29 (.bin .shr 28 (.c (.i .u64 32))),
 oD 30 (.bin .add 27 29),
 oM 11 30]
def Zao.r7:List Oper:=[
 oM 31 11,
 oD 32 (.bin .and 31 (.c (.i .u64 4294967295))),
 oM 12 32]
def Zao.r8:List Oper:=[
 oM 33 11,
 oD 34 (.bin .shr 33 (.c (.i .u64 32))),
 oM 13 34]
def Zao.r9:List Oper:=[
 oM 35 12,
 oM 36 6,
 oM 37 9,
 oD 38 (.bin .mul 36 37),
 oD 39 (.bin .add 35 38),
 oM 12 39]
def Zao.r10:List Oper:=[
 oM 40 7,
 oM 41 9,
 oD 42 (.bin .mul 40 41),
 oM 43 13,
 oD 44 (.bin .add 42 43),
 oM 45 12,
 oD 46 (.bin .shr 45 (.c (.i .u64 32))),
 oD 47 (.bin .add 44 46),
 oM 4 47]
def Zao.r11:List Oper:=[
 oM 48 0,
 oM 49 1,
 oD 50 (.bin .mul 48 49),
 oM 5 50]
def Zao.code:Code:=.seq Zao.r0 (.seq Zao.r1 (.seq Zao.r2 (.seq Zao.r3 (.seq Zao.r4 (.seq Zao.r5 (.seq Zao.r6 (.seq Zao.r7 (.seq Zao.r8 (.seq Zao.r9 (.seq Zao.r10 (.seq Zao.r11 (.ret))))))))))))
def Zao:Func:=⟨51,[.t 4,.t 5],Zao.code⟩
/-! muntin/grid.Of -/
def Zcx.r0:List Oper:=[
 oM 2 (.c (.pn)),
 oM 3 (cI 0)]
def Zcx.r1:List Oper:=[
 oM 5 0,
 oC 6 66 [5],
 oM 4 6]
def Zcx.r2:List Oper:=[
 oM 7 4,
 oD 8 (.eq true .sc 7 (cI 0))]
def Zcx.r3:List Oper:=[
 oM 9 4,
 oM 2 (.c (.pn)),
 oM 3 9]
def Zcx.r4:List Oper:=[
 oM 10 0,
 oC 11 51 [10],
 oD 12 (.build [.sn] [(0,1,.t 11)]),
 oD 13 (.box 12),
 oM 2 13,
 oM 3 (cI 0)]
def Zcx.code:Code:=.seq Zcx.r0 (.seq (.seq Zcx.r1 (.seq Zcx.r2 (.cond 8 (.seq Zcx.r3 (.ret)) (.skip)))) (.seq Zcx.r4 (.ret)))
def Zcx:Func:=⟨14,[.t 2,.t 3],Zcx.code⟩
/-! muntin/muntinlaw22.RegularTells -/
def ZG.r0:List Oper:=[
 oD 1 (.box 0),
 oM 2 (.c (.b false))]
def ZG.r1:List Oper:=[
 oD 8 (.fa 7 1),
 oD 9 (.ld false 1 8),
 oD 10 (.fa 7 1),
 oD 11 (.ld false 1 10),
 oD 12 (.len 11),
 oD 13 (.mn [12,.c (.n 20)]),
 oD 14 (.slc 1 9 none (some 13) none),
 oM 3 14]
def ZG.r2:List Oper:=[
 oD 16 (.fa 0 1),
 oD 17 (.ld true 3 16),
 oC 18 28 [17,.c (.n 14)],
 oM 15 18,
 oD 19 (.ext 15 0),
 oD 20 (.ext 15 1),
 oM 4 19,
 oM 5 20]
def ZG.r3:List Oper:=[
 oD 21 (.fa 3 1),
 oD 22 (.ld true 3 21),
 oC 23 171 [22,.c (.n 4)],
 oD 6 (.alloc [.sn,.sn]),
 oN (.st 2 6 23)]
def ZG.r4:List Oper:=[
 oC 24 190 [],
 oD 25 (.un .not 24),
 oM 26 25,
 oF 27 26 (.mv 4),
 oF 28 26 (.mv 3),
 oF 29 26 (.call (.c (.f 191 [])) [27,28]),
 oF 30 26 (.un .not 29),
 oD 31 (.pick 26 (.c (.b true)) 30),
 oM 32 31,
 oF 33 32 (.fa 6 1),
 oF 34 32 (.ld false 1 33),
 oF 35 32 (.fa 6 1),
 oF 36 32 (.ld false 1 35),
 oF 37 32 (.len 36),
 oF 38 32 (.mn [37,.c (.n 4)]),
 oF 39 32 (.slc 8 34 none (some 38) none),
 oF 40 32 (.mv 3),
 oF 41 32 (.call (.c (.f 191 [])) [39,40]),
 oF 42 32 (.un .not 41),
 oD 43 (.pick 32 (.c (.b true)) 42)]
def ZG.r5:List Oper:=[
 oM 2 (.c (.b false))]
def ZG.r6:List Oper:=[
 oD 44 (.ld true 2 6),
 oC 45 174 [44],
 oD 46 (.eq true .sc 45 (cI 0))]
def ZG.r7:List Oper:=[
 oM 2 (.c (.b true))]
def ZG.r8:List Oper:=[
 oD 47 (.ld true 2 6),
 oC 48 175 [47],
 oD 7 (.alloc [.sn,.sn,.sn,.sn]),
 oN (.st 4 7 48)]
def ZG.r9:List Oper:=[
 oD 49 (.fa 0 7),
 oD 50 (.ld false 1 49),
 oD 51 (.len 50),
 oD 52 (.bin .gtr 51 (cI 30)),
 oM 53 52,
 oF 54 53 (.fa 0 7),
 oF 55 53 (.ld false 1 54),
 oF 56 53 (.mv 3),
 oF 57 53 (.call (.c (.f 191 [])) [55,56]),
 oD 58 (.pick 53 (.c (.b true)) 57),
 oM 2 58]
def ZG.code:Code:=.seq ZG.r0 (.seq ZG.r1 (.seq ZG.r2 (.seq ZG.r3 (.seq (.seq ZG.r4 (.cond 43 (.seq ZG.r5 (.ret)) (.skip))) (.seq (.seq ZG.r6 (.cond 46 (.seq ZG.r7 (.ret)) (.skip))) (.seq ZG.r8 (.seq ZG.r9 (.ret))))))))
def ZG:Func:=⟨59,[.t 2],ZG.code⟩
/-! muntin/muntinref08.Make -/
def Z3.r0:List Oper:=[
 oD 2 (.box 0),
 oD 4 (.alloc [.sn,.sn])]
def Z3.r1:List Oper:=[
 oD 10 (.build [.sn,.sn] []),
 oD 5 (.alloc [.sn,.sn]),
 oN (.st 2 5 10)]
def Z3.r2:List Oper:=[
 oM 6 (cI 0)]
def Z3.r3:List Oper:=[
 oM 11 6,
 oD 12 (.fa 0 2),
 oD 13 (.ld false 1 12),
 oD 14 (.len 13),
 oD 15 (.bin .lss 11 14),
 oM 16 15,
 oT 17 16 (.mv 6),
 oT 18 16 (.mv 1),
 oT 19 16 (.bin .lss 17 18),
 oD 20 (.pick 16 19 (.c (.b false)))]
def Z3.r5:List Oper:=[
 oD 23 (.fa 0 5),
 oD 24 (.ld false 1 23),
 oD 25 (.fa 0 2),
 oD 26 (.ld false 1 25),
 oM 27 6,
 oD 28 (.ixa 1 26 27),
 oD 29 (.ld false 1 28),
 oD 30 (.bsl 1 1 [.b false] [(0,1,.t 29)]),
 oD 31 (.app 1 1 24 30),
 oD 32 (.fa 0 5),
 oN (.st 1 32 31)]
def Z3.r4:List Oper:=[
 oM 21 6,
 oD 22 (.bin .add 21 (cI 1)),
 oM 6 22]
def Z3.l0:Code:=.seq (.seq Z3.r3 (.cond 20 (.skip) (.exit 0))) (.seq (.block 1 (.draw Z3.r5 [(1,3),(1,6),(1,7)])) Z3.r4)
def Z3.r6:List Oper:=[
 oM 7 (cI 0)]
def Z3.r7:List Oper:=[
 oM 33 7,
 oD 34 (.fa 1 2),
 oD 35 (.ld false 1 34),
 oD 36 (.len 35),
 oD 37 (.bin .lss 33 36),
 oM 38 37,
 oT 39 38 (.mv 7),
 oT 40 38 (.mv 1),
 oT 41 38 (.bin .mul (cI 2) 40),
 oT 42 38 (.bin .lss 39 41),
 oD 43 (.pick 38 42 (.c (.b false))),
 oM 44 43,
 oT 45 44 (.fa 0 5),
 oT 46 44 (.ld false 1 45),
 oT 47 44 (.len 46),
 oT 48 44 (.bin .gtr 47 (cI 0)),
 oD 49 (.pick 44 48 (.c (.b false)))]
def Z3.r9:List Oper:=[
 oD 52 (.fa 1 2),
 oD 53 (.ld false 1 52),
 oM 54 7,
 oD 55 (.ixa 3 53 54),
 oD 56 (.ixaa 1 3 55 (cI 0)),
 oD 57 (.ld false 1 56),
 oD 58 (.conv .i64 57),
 oD 59 (.fa 0 5),
 oD 60 (.ld false 1 59),
 oD 61 (.len 60),
 oD 62 (.bin .rem 58 61),
 oD 63 (.fa 1 2),
 oD 64 (.ld false 1 63),
 oM 65 7,
 oD 66 (.ixa 3 64 65),
 oD 67 (.ixaa 1 3 66 (cI 1)),
 oD 68 (.ld false 1 67),
 oD 69 (.conv .i64 68),
 oD 70 (.fa 0 5),
 oD 71 (.ld false 1 70),
 oD 72 (.len 71),
 oD 73 (.bin .rem 69 72),
 oD 74 (.fa 1 2),
 oD 75 (.ld false 1 74),
 oM 76 7,
 oD 77 (.ixa 3 75 76),
 oD 78 (.ixaa 1 3 77 (cI 2)),
 oD 79 (.ld false 1 78),
 oD 80 (.conv .i64 79),
 oD 81 (.bin .rem 80 (cI 4)),
 oD 82 (.build [.n 0,.n 0,.n 0,.s ⟨#[]⟩] [(0,1,.t 62),(1,1,.t 73),(2,1,.t 81)]),
 oD 8 (.alloc [.n 0,.n 0,.n 0,.s ⟨#[]⟩]),
 oN (.st 4 8 82)]
def Z3.r10:List Oper:=[
 oM 83 7,
 oD 84 (.fa 2 2),
 oD 85 (.ld false 1 84),
 oD 86 (.len 85),
 oD 87 (.bin .lss 83 86)]
def Z3.r11:List Oper:=[
 oM 9 (cI 0)]
def Z3.r12:List Oper:=[
 oM 88 9,
 oD 89 (.fa 2 2),
 oD 90 (.ld false 1 89),
 oM 91 7,
 oD 92 (.ixa 1 90 91),
 oD 93 (.ld false 1 92),
 oD 94 (.conv .i64 93),
 oD 95 (.bin .rem 94 (cI 4)),
 oD 96 (.bin .lss 88 95)]
def Z3.r14:List Oper:=[
 oD 99 (.fa 2 2),
 oD 100 (.ld false 1 99),
 oM 101 7,
 oD 102 (.ixa 1 100 101),
 oD 103 (.ld false 1 102),
 oM 104 9,
 oD 105 (.bin .add (cI 2) 104),
 oD 106 (.bin .shr 103 105),
 oD 107 (.bin .and 106 (.c (.i .u8 1))),
 oD 108 (.eq false .sc 107 (.c (.i .u8 1)))]
def Z3.r15:List Oper:=[
 oD 109 (.fa 3 8),
 oD 110 (.ld false 1 109),
 oD 111 (.bin .add 110 (.c (.s ⟨#[76]⟩))),
 oD 112 (.fa 3 8),
 oN (.st 1 112 111)]
def Z3.r16:List Oper:=[
 oD 113 (.fa 3 8),
 oD 114 (.ld false 1 113),
 oD 115 (.bin .add 114 (.c (.s ⟨#[82]⟩))),
 oD 116 (.fa 3 8),
 oN (.st 1 116 115)]
def Z3.r13:List Oper:=[
 oM 97 9,
 oD 98 (.bin .add 97 (cI 1)),
 oM 9 98]
def Z3.l1:Code:=.seq (.seq Z3.r12 (.cond 96 (.skip) (.exit 4))) (.seq (.block 5 (.seq Z3.r14 (.cond 108 Z3.r15 Z3.r16))) Z3.r13)
def Z3.r17:List Oper:=[
 oD 117 (.fa 1 5),
 oD 118 (.ld false 1 117),
 oD 119 (.ld true 4 8),
 oD 120 (.bsl 4 1 [.n 0,.n 0,.n 0,.s ⟨#[]⟩] [(0,4,.t 119)]),
 oD 121 (.app 4 40 118 120),
 oD 122 (.fa 1 5),
 oN (.st 1 122 121)]
def Z3.r8:List Oper:=[
 oM 50 7,
 oD 51 (.bin .add 50 (cI 1)),
 oM 7 51]
def Z3.l2:Code:=.seq (.seq Z3.r7 (.cond 49 (.skip) (.exit 2))) (.seq (.block 3 (.seq (.draw Z3.r9 [(1,8),(5,8),(1,12),(5,12),(8,12),(1,16),(5,16),(8,16),(1,19),(5,19),(8,19),(12,19),(16,19),(1,23),(5,23),(8,23),(12,23),(16,23),(19,23),(1,27),(5,27),(8,27),(12,27),(16,27),(19,27),(1,31),(5,31),(8,31),(12,31),(16,31),(19,31),(23,31),(27,31)]) (.seq (.seq Z3.r10 (.cond 87 (.seq Z3.r11 (.block 4 (.loop Z3.l1))) (.skip))) Z3.r17))) Z3.r8)
def Z3.r18:List Oper:=[
 oD 123 (.ld true 2 5),
 oN (.st 2 4 123)]
def Z3.code:Code:=.seq Z3.r0 (.seq Z3.r1 (.seq (.seq Z3.r2 (.block 0 (.loop Z3.l0))) (.seq (.seq Z3.r6 (.block 2 (.loop Z3.l2))) (.seq Z3.r18 (.ret)))))
def Z3:Func:=⟨124,[.cell 4 true 2],Z3.code⟩
/-! muntin/muntinref11.Wrong -/
def Zr.r0:List Oper:=[
 oD 1 (.box 0),
 oM 2 (cI 0)]
def Zr.r1:List Oper:=[
 oD 10 (.ld true 2 1),
 oC 11 197 [10],
 oM 3 11]
def Zr.r2:List Oper:=[
 oM 12 3,
 oD 13 (.eq true .sc 12 (cI 0))]
def Zr.r3:List Oper:=[
 oM 14 3,
 oM 2 14]
def Zr.r4:List Oper:=[
 oD 15 (.ld true 2 1),
 oC 16 198 [15],
 oM 4 16]
def Zr.r5:List Oper:=[
 oM 17 4,
 oD 18 (.bin .gtr 17 (cI 4096))]
def Zr.r6:List Oper:=[
 oM 2 (cI 6)]
def Zr.r7:List Oper:=[
 oM 5 (cI 0)]
def Zr.r8:List Oper:=[
 oM 19 5,
 oD 20 (.fa 0 1),
 oD 21 (.ld false 1 20),
 oD 22 (.len 21),
 oD 23 (.bin .lss 19 22)]
def Zr.r10:List Oper:=[
 oM 6 (cI 0)]
def Zr.r11:List Oper:=[
 oM 26 6,
 oD 27 (.bin .lss 26 (cI 4)),
 oM 28 27,
 oT 29 28 (.fa 0 1),
 oT 30 28 (.ld false 1 29),
 oT 31 28 (.mv 5),
 oT 32 28 (.ixa 1 30 31),
 oT 33 28 (.ld false 1 32),
 oT 34 28 (.un .not 33),
 oD 35 (.pick 28 34 (.c (.b false)))]
def Zr.r13:List Oper:=[
 oD 38 (.ld true 2 1),
 oM 39 5,
 oM 40 6,
 oC 41 199 [38,39,40],
 oM 7 41]
def Zr.r14:List Oper:=[
 oM 42 7,
 oD 43 (.len 42),
 oD 44 (.bin .gtr 43 (cI 1))]
def Zr.r15:List Oper:=[
 oM 2 (cI 8)]
def Zr.r12:List Oper:=[
 oM 36 6,
 oD 37 (.bin .add 36 (cI 1)),
 oM 6 37]
def Zr.l0:Code:=.seq (.seq Zr.r11 (.cond 35 (.skip) (.exit 2))) (.seq (.block 3 (.seq Zr.r13 (.seq Zr.r14 (.cond 44 (.seq Zr.r15 (.ret)) (.skip))))) Zr.r12)
def Zr.r9:List Oper:=[
 oM 24 5,
 oD 25 (.bin .add 24 (cI 1)),
 oM 5 25]
def Zr.l1:Code:=.seq (.seq Zr.r8 (.cond 23 (.skip) (.exit 0))) (.seq (.block 1 (.seq Zr.r10 (.block 2 (.loop Zr.l0)))) Zr.r9)
def Zr.r16:List Oper:=[
 oM 8 (cI 0)]
def Zr.r17:List Oper:=[
 oM 45 8,
 oD 46 (.fa 1 1),
 oD 47 (.ld false 1 46),
 oD 48 (.len 47),
 oD 49 (.bin .lss 45 48)]
def Zr.r19:List Oper:=[
 oD 52 (.fa 1 1),
 oD 53 (.ld false 1 52),
 oM 54 8,
 oD 55 (.ixa 4 53 54),
 oD 56 (.ld true 4 55),
 oD 9 (.alloc [.n 0,.n 0,.n 0,.s ⟨#[]⟩]),
 oN (.st 4 9 56)]
def Zr.r20:List Oper:=[
 oD 57 (.fa 0 9),
 oD 58 (.ld false 1 57),
 oD 59 (.fa 1 9),
 oD 60 (.ld false 1 59),
 oD 61 (.eq false .sc 58 60),
 oM 62 61,
 oT 63 62 (.fa 3 9),
 oT 64 62 (.ld false 1 63),
 oT 65 62 (.eq false .sc 64 (.c (.s ⟨#[]⟩))),
 oD 66 (.pick 62 65 (.c (.b false))),
 oM 67 66,
 oT 68 67 (.fa 0 1),
 oT 69 67 (.ld false 1 68),
 oT 70 67 (.fa 0 9),
 oT 71 67 (.ld false 1 70),
 oT 72 67 (.ixa 1 69 71),
 oT 73 67 (.ld false 1 72),
 oT 74 67 (.un .not 73),
 oD 75 (.pick 67 74 (.c (.b false)))]
def Zr.r21:List Oper:=[
 oM 2 (cI 10)]
def Zr.r18:List Oper:=[
 oM 50 8,
 oD 51 (.bin .add 50 (cI 1)),
 oM 8 51]
def Zr.l2:Code:=.seq (.seq Zr.r17 (.cond 49 (.skip) (.exit 4))) (.seq (.block 5 (.seq Zr.r19 (.seq Zr.r20 (.cond 75 (.seq Zr.r21 (.ret)) (.skip))))) Zr.r18)
def Zr.r22:List Oper:=[
 oM 2 (cI 0)]
def Zr.code:Code:=.seq Zr.r0 (.seq Zr.r1 (.seq (.seq Zr.r2 (.cond 13 (.seq Zr.r3 (.ret)) (.skip))) (.seq Zr.r4 (.seq (.seq Zr.r5 (.cond 18 (.seq Zr.r6 (.ret)) (.skip))) (.seq (.seq Zr.r7 (.block 0 (.loop Zr.l1))) (.seq (.seq Zr.r16 (.block 4 (.loop Zr.l2))) (.seq Zr.r22 (.ret))))))))
def Zr:Func:=⟨76,[.t 2],Zr.code⟩
/-! muntin/muntinref11.Of -/
def Zj.r0:List Oper:=[
 oD 1 (.box 0),
 oD 2 (.alloc [.sn,.sn,.sn,.sn])]
def Zj.r1:List Oper:=[
 oD 17 (.fa 1 1),
 oD 18 (.ld false 1 17),
 oD 19 (.len 18),
 oD 20 (.mks 2 16 [.n 0,.n 0] 19 19),
 oD 21 (.build [.sn,.sn,.sn,.sn] [(2,1,.t 20)]),
 oD 3 (.alloc [.sn,.sn,.sn,.sn]),
 oN (.st 4 3 21)]
def Zj.r2:List Oper:=[
 oM 4 (cI 0)]
def Zj.r3:List Oper:=[
 oM 22 4,
 oD 23 (.fa 0 1),
 oD 24 (.ld false 1 23),
 oD 25 (.len 24),
 oD 26 (.bin .lss 22 25)]
def Zj.r5:List Oper:=[
 oD 29 (.fa 0 3),
 oD 30 (.ld false 1 29),
 oD 31 (.len 30),
 oM 5 31]
def Zj.r6:List Oper:=[
 oD 32 (.fa 1 3),
 oD 33 (.ld false 1 32),
 oM 34 5,
 oD 35 (.bsl 1 1 [.n 0] [(0,1,.t 34)]),
 oD 36 (.app 1 8 33 35),
 oD 37 (.fa 1 3),
 oN (.st 1 37 36)]
def Zj.r7:List Oper:=[
 oD 38 (.fa 0 1),
 oD 39 (.ld false 1 38),
 oM 40 4,
 oD 41 (.ixa 1 39 40),
 oD 42 (.ld false 1 41)]
def Zj.r8:List Oper:=[
 oD 43 (.ld true 4 3),
 oD 44 (.ld true 2 1),
 oM 45 4,
 oC 46 200 [43,44,45],
 oN (.st 4 3 46)]
def Zj.r9:List Oper:=[
 oC 47 46 [.c (.n 1)],
 oM 6 47]
def Zj.r10:List Oper:=[
 oD 48 (.fa 0 3),
 oD 49 (.ld false 1 48),
 oM 50 6,
 oD 51 (.app 8 64 49 50),
 oD 52 (.fa 0 3),
 oN (.st 1 52 51)]
def Zj.r11:List Oper:=[
 oM 7 (cI 0)]
def Zj.r12:List Oper:=[
 oM 53 7,
 oD 54 (.bin .lss 53 (cI 4))]
def Zj.r14:List Oper:=[
 oD 57 (.ld true 2 1),
 oM 58 4,
 oM 59 7,
 oC 60 199 [57,58,59],
 oM 8 60]
def Zj.r15:List Oper:=[
 oM 9 (cI 0)]
def Zj.r16:List Oper:=[
 oM 61 9,
 oM 62 8,
 oD 63 (.len 62),
 oD 64 (.bin .lss 61 63)]
def Zj.r18:List Oper:=[
 oD 67 (.fa 2 3),
 oD 68 (.ld false 1 67),
 oM 69 8,
 oM 70 9,
 oD 71 (.ixa 1 69 70),
 oD 72 (.ld false 1 71),
 oD 73 (.bin .quo 72 (cI 2)),
 oM 74 8,
 oM 75 9,
 oD 76 (.ixa 1 74 75),
 oD 77 (.ld false 1 76),
 oD 78 (.bin .rem 77 (cI 2)),
 oM 79 5,
 oD 80 (.ixa 2 68 73),
 oD 81 (.ixaa 1 2 80 78),
 oN (.st 1 81 79)]
def Zj.r17:List Oper:=[
 oM 65 9,
 oD 66 (.bin .add 65 (cI 1)),
 oM 9 66]
def Zj.l0:Code:=.seq (.seq Zj.r16 (.cond 64 (.skip) (.exit 4))) (.seq (.block 5 (.draw Zj.r18 [(1,5),(1,10),(5,10)])) Zj.r17)
def Zj.r13:List Oper:=[
 oM 55 7,
 oD 56 (.bin .add 55 (cI 1)),
 oM 7 56]
def Zj.l1:Code:=.seq (.seq Zj.r12 (.cond 54 (.skip) (.exit 2))) (.seq (.block 3 (.seq Zj.r14 (.seq Zj.r15 (.block 4 (.loop Zj.l0))))) Zj.r13)
def Zj.r4:List Oper:=[
 oM 27 4,
 oD 28 (.bin .add 27 (cI 1)),
 oM 4 28]
def Zj.l2:Code:=.seq (.seq Zj.r3 (.cond 26 (.skip) (.exit 0))) (.seq (.block 1 (.seq Zj.r5 (.seq Zj.r6 (.seq (.seq Zj.r7 (.cond 42 (.seq Zj.r8 (.exit 1)) (.skip))) (.seq Zj.r9 (.seq Zj.r10 (.seq Zj.r11 (.block 2 (.loop Zj.l1))))))))) Zj.r4)
def Zj.r19:List Oper:=[
 oM 10 (cI 0)]
def Zj.r20:List Oper:=[
 oM 82 10,
 oD 83 (.fa 1 1),
 oD 84 (.ld false 1 83),
 oD 85 (.len 84),
 oD 86 (.bin .lss 82 85)]
def Zj.r22:List Oper:=[
 oD 89 (.fa 2 3),
 oD 90 (.ld false 1 89),
 oM 91 10,
 oD 92 (.ixa 2 90 91),
 oD 93 (.ixaa 1 2 92 (cI 0)),
 oD 94 (.ld false 1 93),
 oM 11 94]
def Zj.r23:List Oper:=[
 oD 95 (.fa 1 1),
 oD 96 (.ld false 1 95),
 oM 97 10,
 oD 98 (.ixa 4 96 97),
 oD 99 (.fa 2 98),
 oD 100 (.ld false 1 99),
 oM 12 100]
def Zj.r24:List Oper:=[
 oM 101 11,
 oD 102 (.bsl 1 1 [.n 0] [(0,1,.t 101)]),
 oM 13 102]
def Zj.r25:List Oper:=[
 oM 14 (cI 0)]
def Zj.r26:List Oper:=[
 oM 103 14,
 oD 104 (.fa 1 1),
 oD 105 (.ld false 1 104),
 oM 106 10,
 oD 107 (.ixa 4 105 106),
 oD 108 (.fa 3 107),
 oD 109 (.ld false 1 108),
 oD 110 (.slen 109),
 oD 111 (.bin .lss 103 110)]
def Zj.r28:List Oper:=[
 oD 114 (.fa 0 3),
 oD 115 (.ld false 1 114),
 oD 116 (.len 115),
 oM 15 116]
def Zj.r29:List Oper:=[
 oC 117 46 [.c (.n 1)],
 oM 16 117]
def Zj.r30:List Oper:=[
 oD 118 (.fa 0 3),
 oD 119 (.ld false 1 118),
 oM 120 16,
 oD 121 (.app 8 64 119 120),
 oD 122 (.fa 0 3),
 oN (.st 1 122 121)]
def Zj.r31:List Oper:=[
 oD 124 (.fa 0 3),
 oD 125 (.ld false 1 124),
 oM 126 11,
 oM 127 12,
 oM 128 15,
 oM 129 10,
 oC 130 53 [125,126,127,128,129],
 oM 123 130,
 oD 131 (.ext 123 0),
 oD 132 (.ext 123 1),
 oD 133 (.fa 0 3),
 oN (.st 1 133 131)]
def Zj.r32:List Oper:=[
 oM 134 15,
 oM 11 134]
def Zj.r33:List Oper:=[
 oM 135 13,
 oM 136 15,
 oD 137 (.bsl 1 1 [.n 0] [(0,1,.t 136)]),
 oD 138 (.app 1 8 135 137),
 oM 13 138]
def Zj.r34:List Oper:=[
 oD 139 (.fa 1 1),
 oD 140 (.ld false 1 139),
 oM 141 10,
 oD 142 (.ixa 4 140 141),
 oD 143 (.fa 3 142),
 oD 144 (.ld false 1 143),
 oM 145 14,
 oD 146 (.ixs 144 145),
 oD 147 (.eq false .sc 146 (.c (.i .u8 76)))]
def Zj.r35:List Oper:=[
 oM 148 12,
 oD 149 (.bin .add 148 (cI 1)),
 oD 150 (.bin .rem 149 (cI 4)),
 oM 12 150]
def Zj.r36:List Oper:=[
 oM 151 12,
 oD 152 (.bin .add 151 (cI 3)),
 oD 153 (.bin .rem 152 (cI 4)),
 oM 12 153]
def Zj.r27:List Oper:=[
 oM 112 14,
 oD 113 (.bin .add 112 (cI 1)),
 oM 14 113]
def Zj.l3:Code:=.seq (.seq Zj.r26 (.cond 111 (.skip) (.exit 8))) (.seq (.block 9 (.seq Zj.r28 (.seq Zj.r29 (.seq Zj.r30 (.seq Zj.r31 (.seq Zj.r32 (.seq Zj.r33 (.seq Zj.r34 (.cond 147 Zj.r35 Zj.r36))))))))) Zj.r27)
def Zj.r37:List Oper:=[
 oD 155 (.fa 0 3),
 oD 156 (.ld false 1 155),
 oM 157 11,
 oM 158 12,
 oD 159 (.fa 2 3),
 oD 160 (.ld false 1 159),
 oM 161 10,
 oD 162 (.ixa 2 160 161),
 oD 163 (.ixaa 1 2 162 (cI 1)),
 oD 164 (.ld false 1 163),
 oM 165 10,
 oC 166 53 [156,157,158,164,165],
 oM 154 166,
 oD 167 (.ext 154 0),
 oD 168 (.ext 154 1),
 oD 169 (.fa 0 3),
 oN (.st 1 169 167)]
def Zj.r38:List Oper:=[
 oM 170 13,
 oD 171 (.fa 2 3),
 oD 172 (.ld false 1 171),
 oM 173 10,
 oD 174 (.ixa 2 172 173),
 oD 175 (.ixaa 1 2 174 (cI 1)),
 oD 176 (.ld false 1 175),
 oD 177 (.bsl 1 1 [.n 0] [(0,1,.t 176)]),
 oD 178 (.app 1 8 170 177),
 oM 13 178]
def Zj.r39:List Oper:=[
 oD 179 (.fa 3 3),
 oD 180 (.ld false 1 179),
 oM 181 13,
 oD 182 (.bsl 1 1 [.sn] [(0,1,.t 181)]),
 oD 183 (.app 1 24 180 182),
 oD 184 (.fa 3 3),
 oN (.st 1 184 183)]
def Zj.r21:List Oper:=[
 oM 87 10,
 oD 88 (.bin .add 87 (cI 1)),
 oM 10 88]
def Zj.l4:Code:=.seq (.seq Zj.r20 (.cond 86 (.skip) (.exit 6))) (.seq (.block 7 (.seq Zj.r22 (.seq Zj.r23 (.seq Zj.r24 (.seq (.seq Zj.r25 (.block 8 (.loop Zj.l3))) (.seq (.draw Zj.r37 [(1,5),(1,9)]) (.seq Zj.r38 Zj.r39))))))) Zj.r21)
def Zj.r40:List Oper:=[
 oD 185 (.ld true 4 3),
 oN (.st 4 2 185)]
def Zj.code:Code:=.seq Zj.r0 (.seq Zj.r1 (.seq (.seq Zj.r2 (.block 0 (.loop Zj.l2))) (.seq (.seq Zj.r19 (.block 6 (.loop Zj.l4))) (.seq Zj.r40 (.ret)))))
def Zj:Func:=⟨186,[.cell 2 true 4],Zj.code⟩
/-! muntin/valid.Check -/
def Zau.r0:List Oper:=[
 oM 2 (cI 0)]
def Zau.r1:List Oper:=[
 oM 6 0,
 oC 7 66 [6],
 oM 3 7]
def Zau.r2:List Oper:=[
 oM 8 3,
 oD 9 (.eq true .sc 8 (cI 0))]
def Zau.r3:List Oper:=[
 oM 10 3,
 oM 2 10]
def Zau.r4:List Oper:=[
 oM 11 0,
 oC 12 32 [11],
 oD 13 (.un .not 12)]
def Zau.r5:List Oper:=[
 oM 2 (cI 13)]
def Zau.r6:List Oper:=[
 oM 15 0,
 oC 16 201 [15],
 oM 14 16,
 oD 17 (.ext 14 0),
 oD 18 (.ext 14 1),
 oM 4 17,
 oM 5 18]
def Zau.r7:List Oper:=[
 oM 19 5,
 oD 20 (.un .not 19),
 oM 21 20,
 oT 22 21 (.mv 0),
 oT 23 21 (.len 22),
 oT 24 21 (.bin .gtr 23 (cI 1)),
 oD 25 (.pick 21 24 (.c (.b false)))]
def Zau.r8:List Oper:=[
 oM 2 (cI 10)]
def Zau.r9:List Oper:=[
 oM 2 (cI 0)]
def Zau.code:Code:=.seq Zau.r0 (.seq (.seq Zau.r1 (.seq Zau.r2 (.cond 9 (.seq Zau.r3 (.ret)) (.skip)))) (.seq (.seq Zau.r4 (.cond 13 (.seq Zau.r5 (.ret)) (.skip))) (.seq (.seq Zau.r6 (.seq Zau.r7 (.cond 25 (.seq Zau.r8 (.ret)) (.skip)))) (.seq Zau.r9 (.ret)))))
def Zau:Func:=⟨26,[.t 2],Zau.code⟩
/-! muntin/muntinref12.Faces -/
def Zy.r0:List Oper:=[
 oM 2 (.c (.sn))]
def Zy.r1:List Oper:=[
 oM 9 0,
 oD 10 (.len 9),
 oD 11 (.bin .mul (cI 4) 10),
 oD 12 (.mks 1 1 [.b false] 11 11),
 oM 3 12]
def Zy.r2:List Oper:=[
 oM 4 (.c (.sn))]
def Zy.r3:List Oper:=[
 oM 5 (cI 0)]
def Zy.r4:List Oper:=[
 oM 13 5,
 oM 14 0,
 oD 15 (.len 14),
 oD 16 (.bin .lss 13 15)]
def Zy.r6:List Oper:=[
 oM 6 (cI 0)]
def Zy.r7:List Oper:=[
 oM 19 6,
 oD 20 (.bin .lss 19 (cI 4))]
def Zy.r9:List Oper:=[
 oM 23 0,
 oM 24 5,
 oM 25 6,
 oD 26 (.ixa 8 23 24),
 oD 27 (.fa 0 26),
 oD 28 (.ixaa 1 4 27 25),
 oD 29 (.ld false 1 28),
 oD 30 (.bin .lss 29 (cI 0)),
 oM 31 30,
 oF 32 31 (.mv 3),
 oF 33 31 (.mv 5),
 oF 34 31 (.bin .mul (cI 4) 33),
 oF 35 31 (.mv 6),
 oF 36 31 (.bin .add 34 35),
 oF 37 31 (.ixa 1 32 36),
 oF 38 31 (.ld false 1 37),
 oD 39 (.pick 31 (.c (.b true)) 38)]
def Zy.r10:List Oper:=[
 oM 7 (.c (.sn))]
def Zy.r11:List Oper:=[
 oM 40 5,
 oM 41 6,
 oD 42 (.build [.n 0,.n 0] [(0,1,.t 40),(1,1,.t 41)]),
 oD 8 (.alloc [.n 0,.n 0]),
 oN (.st 2 8 42)]
def Zy.r12:List Oper:=[
 oM 43 3,
 oD 44 (.fa 0 8),
 oD 45 (.ld false 1 44),
 oD 46 (.bin .mul (cI 4) 45),
 oD 47 (.fa 1 8),
 oD 48 (.ld false 1 47),
 oD 49 (.bin .add 46 48),
 oD 50 (.ixa 1 43 49),
 oD 51 (.ld false 1 50),
 oD 52 (.un .not 51)]
def Zy.r13:List Oper:=[
 oM 53 3,
 oD 54 (.fa 0 8),
 oD 55 (.ld false 1 54),
 oD 56 (.bin .mul (cI 4) 55),
 oD 57 (.fa 1 8),
 oD 58 (.ld false 1 57),
 oD 59 (.bin .add 56 58),
 oD 60 (.ixa 1 53 59),
 oN (.st 1 60 (.c (.b true)))]
def Zy.r14:List Oper:=[
 oM 61 7,
 oD 62 (.ld true 2 8),
 oD 63 (.bsl 2 1 [.n 0,.n 0] [(0,2,.t 62)]),
 oD 64 (.app 2 16 61 63),
 oM 7 64]
def Zy.r15:List Oper:=[
 oM 65 0,
 oD 66 (.ld true 2 8),
 oC 67 202 [65,66],
 oN (.st 2 8 67)]
def Zy.l0:Code:=.seq (.seq Zy.r12 (.cond 52 (.skip) (.exit 4))) (.block 5 (.seq Zy.r13 (.seq Zy.r14 Zy.r15)))
def Zy.r16:List Oper:=[
 oM 68 4,
 oM 69 7,
 oD 70 (.bsl 1 1 [.sn] [(0,1,.t 69)]),
 oD 71 (.app 1 24 68 70),
 oM 4 71]
def Zy.r8:List Oper:=[
 oM 21 6,
 oD 22 (.bin .add 21 (cI 1)),
 oM 6 22]
def Zy.l1:Code:=.seq (.seq Zy.r7 (.cond 20 (.skip) (.exit 2))) (.seq (.block 3 (.seq (.seq Zy.r9 (.cond 39 (.exit 3) (.skip))) (.seq Zy.r10 (.seq Zy.r11 (.seq (.block 4 (.loop Zy.l0)) Zy.r16))))) Zy.r8)
def Zy.r5:List Oper:=[
 oM 17 5,
 oD 18 (.bin .add 17 (cI 1)),
 oM 5 18]
def Zy.l2:Code:=.seq (.seq Zy.r4 (.cond 16 (.skip) (.exit 0))) (.seq (.block 1 (.seq Zy.r6 (.block 2 (.loop Zy.l1)))) Zy.r5)
def Zy.r17:List Oper:=[
 oM 72 4,
 oM 2 72]
def Zy.code:Code:=.seq Zy.r0 (.seq Zy.r1 (.seq Zy.r2 (.seq (.seq Zy.r3 (.block 0 (.loop Zy.l2))) (.seq Zy.r17 (.ret)))))
def Zy:Func:=⟨73,[.t 2],Zy.code⟩
/-! muntin/muntinref14.Outer -/
def Zv.r0:List Oper:=[
 oM 2 (cI 0),
 oM 3 (cI 0)]
def Zv.r1:List Oper:=[
 oM 11 0,
 oC 12 34 [11],
 oM 4 12]
def Zv.r2:List Oper:=[
 oM 13 4,
 oD 14 (.eq true .sc 13 (cI 0))]
def Zv.r3:List Oper:=[
 oM 15 4,
 oM 2 (cI (-1)),
 oM 3 15]
def Zv.r4:List Oper:=[
 oM 16 0,
 oC 17 30 [16],
 oM 5 17]
def Zv.r5:List Oper:=[
 oM 18 5,
 oD 19 (.len 18),
 oD 20 (.eq true .sc 19 (cI 1))]
def Zv.r6:List Oper:=[
 oM 2 (cI (-1)),
 oM 3 (cI 13)]
def Zv.r7:List Oper:=[
 oM 21 0,
 oD 22 (.len 21),
 oD 23 (.eq false .sc 22 (cI 1))]
def Zv.r8:List Oper:=[
 oM 2 (cI (-1)),
 oM 3 (cI 0)]
def Zv.r9:List Oper:=[
 oM 24 0,
 oC 25 177 [24],
 oM 6 25]
def Zv.r10:List Oper:=[
 oM 7 (cI (-1))]
def Zv.r11:List Oper:=[
 oM 8 (cI 0)]
def Zv.r12:List Oper:=[
 oM 26 8,
 oM 27 6,
 oD 28 (.len 27),
 oD 29 (.bin .lss 26 28)]
def Zv.r14:List Oper:=[
 oM 32 0,
 oM 33 6,
 oM 34 8,
 oD 35 (.ixa 1 33 34),
 oD 36 (.ld false 1 35),
 oC 37 182 [32,36],
 oM 9 37]
def Zv.r15:List Oper:=[
 oM 38 9,
 oC 39 206 [38],
 oM 10 39]
def Zv.r16:List Oper:=[
 oM 40 10,
 oD 41 (.eq true .sc 40 (cI 4)),
 oM 42 41,
 oT 43 42 (.mv 10),
 oT 44 42 (.eq true .sc 43 (cI (-4))),
 oD 45 (.pick 42 44 (.c (.b false))),
 oM 46 45,
 oF 47 46 (.mv 10),
 oF 48 46 (.eq false .sc 47 (cI (-4))),
 oF 49 46 (.mv 48),
 oT 50 49 (.mv 7),
 oT 51 49 (.bin .geq 50 (cI 0)),
 oF 52 46 (.pick 49 51 (.c (.b false))),
 oD 53 (.pick 46 (.c (.b true)) 52)]
def Zv.r17:List Oper:=[
 oM 2 (cI (-1)),
 oM 3 (cI 10)]
def Zv.r18:List Oper:=[
 oM 54 10,
 oD 55 (.eq false .sc 54 (cI (-4)))]
def Zv.r19:List Oper:=[
 oM 56 8,
 oM 7 56]
def Zv.r13:List Oper:=[
 oM 30 8,
 oD 31 (.bin .add 30 (cI 1)),
 oM 8 31]
def Zv.l0:Code:=.seq (.seq Zv.r12 (.cond 29 (.skip) (.exit 0))) (.seq (.block 1 (.seq Zv.r14 (.seq Zv.r15 (.seq (.seq Zv.r16 (.cond 53 (.seq Zv.r17 (.ret)) (.skip))) (.seq Zv.r18 (.cond 55 Zv.r19 (.skip))))))) Zv.r13)
def Zv.r20:List Oper:=[
 oM 57 7,
 oD 58 (.bin .lss 57 (cI 0))]
def Zv.r21:List Oper:=[
 oM 2 (cI (-1)),
 oM 3 (cI 10)]
def Zv.r22:List Oper:=[
 oM 59 7,
 oM 2 59,
 oM 3 (cI 0)]
def Zv.code:Code:=.seq Zv.r0 (.seq Zv.r1 (.seq (.seq Zv.r2 (.cond 14 (.seq Zv.r3 (.ret)) (.skip))) (.seq Zv.r4 (.seq (.seq Zv.r5 (.cond 20 (.seq Zv.r6 (.ret)) (.skip))) (.seq (.seq Zv.r7 (.cond 23 (.seq Zv.r8 (.ret)) (.skip))) (.seq Zv.r9 (.seq Zv.r10 (.seq (.seq Zv.r11 (.block 0 (.loop Zv.l0))) (.seq (.seq Zv.r20 (.cond 58 (.seq Zv.r21 (.ret)) (.skip))) (.seq Zv.r22 (.ret)))))))))))
def Zv:Func:=⟨60,[.t 2,.t 3],Zv.code⟩
/-! muntin/muntinref12.Turns -/
def zu.r0:List Oper:=[
 oM 4 (.c (.sn))]
def zu.r1:List Oper:=[
 oM 5 (.c (.sn))]
def zu.r2:List Oper:=[
 oM 6 (cI 0)]
def zu.r3:List Oper:=[
 oM 9 6,
 oM 10 1,
 oD 11 (.len 10),
 oD 12 (.bin .lss 9 11)]
def zu.r5:List Oper:=[
 oM 15 0,
 oM 16 1,
 oM 17 6,
 oD 18 (.ixa 2 16 17),
 oD 19 (.ld true 2 18),
 oC 20 202 [15,19],
 oD 7 (.alloc [.n 0,.n 0]),
 oN (.st 2 7 20)]
def zu.r6:List Oper:=[
 oM 21 1,
 oM 22 6,
 oD 23 (.ixa 2 21 22),
 oD 24 (.fa 1 23),
 oD 25 (.ld false 1 24),
 oD 26 (.fa 1 7),
 oD 27 (.ld false 1 26),
 oC 28 207 [25,27],
 oM 8 28]
def zu.r7:List Oper:=[
 oM 29 5,
 oM 30 8,
 oD 31 (.bsl 1 1 [.n 0] [(0,1,.t 30)]),
 oD 32 (.app 1 8 29 31),
 oM 5 32]
def zu.r4:List Oper:=[
 oM 13 6,
 oD 14 (.bin .add 13 (cI 1)),
 oM 6 14]
def zu.l0:Code:=.seq (.seq zu.r3 (.cond 12 (.skip) (.exit 0))) (.seq (.block 1 (.seq zu.r5 (.seq (.draw zu.r6 [(4,6)]) zu.r7))) zu.r4)
def zu.r8:List Oper:=[
 oM 33 5,
 oM 4 33]
def zu.code:Code:=.seq zu.r0 (.seq zu.r1 (.seq (.seq zu.r2 (.block 0 (.loop zu.l0))) (.seq zu.r8 (.ret))))
def zu:Func:=⟨34,[.t 4],zu.code⟩
/-! muntin/muntinlaw22.wakes -/
def Zay.r0:List Oper:=[
 oM 0 (.c (.b false))]
def Zay.r1:List Oper:=[
 oC 10 213 [],
 oC 11 212 [10,.c (.sn)],
 oM 9 11,
 oD 12 (.ext 9 0),
 oD 13 (.ext 9 1),
 oD 14 (.ext 9 2),
 oM 1 12,
 oM 2 13,
 oM 3 14]
def Zay.r2:List Oper:=[
 oM 16 1,
 oC 17 214 [16],
 oM 15 17,
 oD 18 (.ext 15 0),
 oD 19 (.ext 15 1),
 oM 4 18,
 oM 5 19]
def Zay.r3:List Oper:=[
 oC 21 46 [.c (.n 2)],
 oC 22 212 [21,.c (.sn)],
 oM 20 22,
 oD 23 (.ext 20 0),
 oD 24 (.ext 20 1),
 oD 25 (.ext 20 2),
 oM 6 23,
 oM 7 24,
 oM 8 25]
def Zay.r4:List Oper:=[
 oM 26 3,
 oD 27 (.eq false .sc 26 (cI 0)),
 oM 28 27,
 oT 29 28 (.mv 2),
 oT 30 28 (.bin .gtr 29 (cI 0)),
 oD 31 (.pick 28 30 (.c (.b false))),
 oM 32 31,
 oT 33 32 (.mv 2),
 oT 34 32 (.bin .lss 33 (cI 3)),
 oD 35 (.pick 32 34 (.c (.b false))),
 oM 36 35,
 oT 37 36 (.mv 5),
 oT 38 36 (.eq false .sc 37 (cI 0)),
 oD 39 (.pick 36 38 (.c (.b false))),
 oM 40 39,
 oT 41 40 (.mv 4),
 oT 42 40 (.call (.c (.f 213 [])) []),
 oT 43 40 (.call (.c (.f 56 [])) [41,42]),
 oD 44 (.pick 40 43 (.c (.b false))),
 oM 45 44,
 oT 46 45 (.mv 8),
 oT 47 45 (.eq false .sc 46 (cI 13)),
 oD 48 (.pick 45 47 (.c (.b false))),
 oM 0 48]
def Zay.code:Code:=.seq Zay.r0 (.seq Zay.r1 (.seq Zay.r2 (.seq Zay.r3 (.seq Zay.r4 (.ret)))))
def Zay:Func:=⟨49,[.t 0],Zay.code⟩
/-! muntin/muntinlaw22.told -/
def zr.r0:List Oper:=[
 oM 4 (.c (.b false))]
def zr.r1:List Oper:=[
 oM 16 0,
 oM 17 1,
 oC 18 212 [16,17],
 oM 15 18,
 oD 19 (.ext 15 0),
 oD 20 (.ext 15 1),
 oD 21 (.ext 15 2),
 oM 5 19,
 oM 6 20,
 oM 7 21]
def zr.r2:List Oper:=[
 oM 23 0,
 oC 24 214 [23],
 oM 22 24,
 oD 25 (.ext 22 0),
 oD 26 (.ext 22 1),
 oM 8 25,
 oM 9 26]
def zr.r3:List Oper:=[
 oM 27 0,
 oC 28 34 [27],
 oM 10 28]
def zr.r4:List Oper:=[
 oM 29 9,
 oM 30 10,
 oD 31 (.eq true .sc 29 30),
 oM 32 31,
 oF 33 32 (.mv 10),
 oF 34 32 (.eq false .sc 33 (cI 0)),
 oF 35 32 (.mv 34),
 oT 36 35 (.mv 8),
 oT 37 35 (.mv 0),
 oT 38 35 (.call (.c (.f 215 [])) [37]),
 oT 39 35 (.call (.c (.f 56 [])) [36,38]),
 oT 40 35 (.un .not 39),
 oF 41 32 (.pick 35 40 (.c (.b false))),
 oD 42 (.pick 32 (.c (.b true)) 41),
 oM 43 42,
 oF 44 43 (.mv 10),
 oF 45 43 (.eq true .sc 44 (cI 0)),
 oF 46 43 (.mv 45),
 oT 47 46 (.mv 8),
 oT 48 46 (.len 47),
 oT 49 46 (.bin .gtr 48 (cI 0)),
 oF 50 43 (.pick 46 49 (.c (.b false))),
 oD 51 (.pick 43 (.c (.b true)) 50)]
def zr.r5:List Oper:=[
 oM 4 (.c (.b false))]
def zr.r6:List Oper:=[
 oM 53 0,
 oC 54 181 [53],
 oM 52 54,
 oD 55 (.ext 52 0),
 oD 56 (.ext 52 1),
 oM 11 55,
 oM 12 56]
def zr.r7:List Oper:=[
 oM 57 12,
 oD 58 (.eq true .sc 57 (cI 0))]
def zr.r8:List Oper:=[
 oM 59 7,
 oM 60 12,
 oD 61 (.eq false .sc 59 60),
 oM 62 61,
 oT 63 62 (.mv 5),
 oT 64 62 (.len 63),
 oT 65 62 (.eq false .sc 64 (cI 0)),
 oD 66 (.pick 62 65 (.c (.b false))),
 oM 67 66,
 oT 68 67 (.mv 6),
 oT 69 67 (.eq false .sc 68 (cI 0)),
 oD 70 (.pick 67 69 (.c (.b false))),
 oM 4 70]
def zr.r9:List Oper:=[
 oM 72 0,
 oM 73 1,
 oC 74 216 [72,73],
 oM 71 74,
 oD 75 (.ext 71 0),
 oD 76 (.ext 71 1),
 oM 13 75,
 oM 14 76]
def zr.r10:List Oper:=[
 oM 77 7,
 oD 78 (.eq false .sc 77 (cI 0)),
 oM 79 78,
 oT 80 79 (.mv 6),
 oT 81 79 (.mv 14),
 oT 82 79 (.eq false .sc 80 81),
 oD 83 (.pick 79 82 (.c (.b false))),
 oM 84 83,
 oT 85 84 (.mv 5),
 oT 86 84 (.mv 13),
 oT 87 84 (.call (.c (.f 56 [])) [85,86]),
 oD 88 (.pick 84 87 (.c (.b false))),
 oM 4 88]
def zr.code:Code:=.seq zr.r0 (.seq zr.r1 (.seq zr.r2 (.seq (.seq zr.r3 (.seq zr.r4 (.cond 51 (.seq zr.r5 (.ret)) (.skip)))) (.seq (.seq zr.r6 (.seq zr.r7 (.cond 58 (.seq zr.r8 (.ret)) (.skip)))) (.seq zr.r9 (.seq zr.r10 (.ret)))))))
def zr:Func:=⟨89,[.t 4],zr.code⟩
/-! muntin/muntinref08.Check -/
def Z7.r0:List Oper:=[
 oD 1 (.box 0),
 oM 2 (cI 0)]
def Z7.r1:List Oper:=[
 oM 3 (cI 0)]
def Z7.r2:List Oper:=[
 oM 4 (cI 0)]
def Z7.r3:List Oper:=[
 oM 8 4,
 oD 9 (.fa 1 1),
 oD 10 (.ld false 1 9),
 oD 11 (.len 10),
 oD 12 (.bin .lss 8 11)]
def Z7.r5:List Oper:=[
 oM 15 3,
 oD 16 (.fa 1 1),
 oD 17 (.ld false 1 16),
 oM 18 4,
 oD 19 (.ixa 4 17 18),
 oD 20 (.fa 3 19),
 oD 21 (.ld false 1 20),
 oD 22 (.slen 21),
 oD 23 (.bin .add 15 22),
 oM 3 23]
def Z7.r4:List Oper:=[
 oM 13 4,
 oD 14 (.bin .add 13 (cI 1)),
 oM 4 14]
def Z7.l0:Code:=.seq (.seq Z7.r3 (.cond 12 (.skip) (.exit 0))) (.seq (.block 1 Z7.r5) Z7.r4)
def Z7.r6:List Oper:=[
 oD 24 (.fa 0 1),
 oD 25 (.ld false 1 24),
 oD 26 (.len 25),
 oD 27 (.bin .gtr 26 (cI 4096)),
 oM 28 27,
 oF 29 28 (.fa 1 1),
 oF 30 28 (.ld false 1 29),
 oF 31 28 (.len 30),
 oF 32 28 (.bin .gtr 31 (cI 4096)),
 oD 33 (.pick 28 (.c (.b true)) 32),
 oM 34 33,
 oF 35 34 (.mv 3),
 oF 36 34 (.bin .gtr 35 (cI 4096)),
 oD 37 (.pick 34 (.c (.b true)) 36)]
def Z7.r7:List Oper:=[
 oM 2 (cI 6)]
def Z7.r8:List Oper:=[
 oM 5 (cI 0)]
def Z7.r9:List Oper:=[
 oM 38 5,
 oD 39 (.fa 1 1),
 oD 40 (.ld false 1 39),
 oD 41 (.len 40),
 oD 42 (.bin .lss 38 41)]
def Z7.r11:List Oper:=[
 oD 45 (.fa 1 1),
 oD 46 (.ld false 1 45),
 oM 47 5,
 oD 48 (.ixa 4 46 47),
 oD 49 (.ld true 4 48),
 oD 6 (.alloc [.n 0,.n 0,.n 0,.s ⟨#[]⟩]),
 oN (.st 4 6 49)]
def Z7.r12:List Oper:=[
 oD 50 (.fa 0 6),
 oD 51 (.ld false 1 50),
 oD 52 (.bin .lss 51 (cI 0)),
 oM 53 52,
 oF 54 53 (.fa 0 6),
 oF 55 53 (.ld false 1 54),
 oF 56 53 (.fa 0 1),
 oF 57 53 (.ld false 1 56),
 oF 58 53 (.len 57),
 oF 59 53 (.bin .geq 55 58),
 oD 60 (.pick 53 (.c (.b true)) 59),
 oM 61 60,
 oF 62 61 (.fa 1 6),
 oF 63 61 (.ld false 1 62),
 oF 64 61 (.bin .lss 63 (cI 0)),
 oD 65 (.pick 61 (.c (.b true)) 64),
 oM 66 65,
 oF 67 66 (.fa 1 6),
 oF 68 66 (.ld false 1 67),
 oF 69 66 (.fa 0 1),
 oF 70 66 (.ld false 1 69),
 oF 71 66 (.len 70),
 oF 72 66 (.bin .geq 68 71),
 oD 73 (.pick 66 (.c (.b true)) 72)]
def Z7.r13:List Oper:=[
 oM 2 (cI 3)]
def Z7.r14:List Oper:=[
 oD 74 (.fa 3 6),
 oD 75 (.ld false 1 74),
 oC 76 217 [75],
 oM 7 76]
def Z7.r15:List Oper:=[
 oD 77 (.fa 2 6),
 oD 78 (.ld false 1 77),
 oD 79 (.bin .lss 78 (cI 0)),
 oM 80 79,
 oF 81 80 (.fa 2 6),
 oF 82 80 (.ld false 1 81),
 oF 83 80 (.bin .gtr 82 (cI 3)),
 oD 84 (.pick 80 (.c (.b true)) 83),
 oM 85 84,
 oF 86 85 (.mv 7),
 oF 87 85 (.un .not 86),
 oD 88 (.pick 85 (.c (.b true)) 87)]
def Z7.r16:List Oper:=[
 oM 2 (cI 2)]
def Z7.r10:List Oper:=[
 oM 43 5,
 oD 44 (.bin .add 43 (cI 1)),
 oM 5 44]
def Z7.l1:Code:=.seq (.seq Z7.r9 (.cond 42 (.skip) (.exit 2))) (.seq (.block 3 (.seq Z7.r11 (.seq (.seq Z7.r12 (.cond 73 (.seq Z7.r13 (.ret)) (.skip))) (.seq Z7.r14 (.seq Z7.r15 (.cond 88 (.seq Z7.r16 (.ret)) (.skip))))))) Z7.r10)
def Z7.r17:List Oper:=[
 oM 2 (cI 0)]
def Z7.code:Code:=.seq Z7.r0 (.seq Z7.r1 (.seq (.seq Z7.r2 (.block 0 (.loop Z7.l0))) (.seq (.seq Z7.r6 (.cond 37 (.seq Z7.r7 (.ret)) (.skip))) (.seq (.seq Z7.r8 (.block 2 (.loop Z7.l1))) (.seq Z7.r17 (.ret))))))
def Z7:Func:=⟨89,[.t 2],Z7.code⟩
/-! muntin/muntinref11.Count -/
def Zx.r0:List Oper:=[
 oD 1 (.box 0),
 oM 2 (cI 0)]
def Zx.r1:List Oper:=[
 oM 3 (cI 0)]
def Zx.r2:List Oper:=[
 oM 4 (cI 0)]
def Zx.r3:List Oper:=[
 oM 8 4,
 oD 9 (.fa 0 1),
 oD 10 (.ld false 1 9),
 oD 11 (.len 10),
 oD 12 (.bin .lss 8 11)]
def Zx.r5:List Oper:=[
 oM 15 3,
 oD 16 (.bin .add 15 (cI 1)),
 oM 3 16]
def Zx.r6:List Oper:=[
 oM 5 (cI 0)]
def Zx.r7:List Oper:=[
 oM 17 5,
 oD 18 (.bin .lss 17 (cI 4)),
 oM 19 18,
 oT 20 19 (.fa 0 1),
 oT 21 19 (.ld false 1 20),
 oT 22 19 (.mv 4),
 oT 23 19 (.ixa 1 21 22),
 oT 24 19 (.ld false 1 23),
 oD 25 (.pick 19 24 (.c (.b false)))]
def Zx.r9:List Oper:=[
 oD 28 (.ld true 2 1),
 oM 29 4,
 oM 30 5,
 oC 31 199 [28,29,30],
 oM 6 31]
def Zx.r10:List Oper:=[
 oM 32 3,
 oM 33 6,
 oD 34 (.len 33),
 oD 35 (.bin .add 32 34),
 oM 3 35]
def Zx.r8:List Oper:=[
 oM 26 5,
 oD 27 (.bin .add 26 (cI 1)),
 oM 5 27]
def Zx.l0:Code:=.seq (.seq Zx.r7 (.cond 25 (.skip) (.exit 2))) (.seq (.block 3 (.seq Zx.r9 Zx.r10)) Zx.r8)
def Zx.r11:List Oper:=[
 oD 36 (.fa 0 1),
 oD 37 (.ld false 1 36),
 oM 38 4,
 oD 39 (.ixa 1 37 38),
 oD 40 (.ld false 1 39)]
def Zx.r12:List Oper:=[
 oM 41 3,
 oD 42 (.bin .add 41 (cI 3)),
 oM 3 42]
def Zx.r4:List Oper:=[
 oM 13 4,
 oD 14 (.bin .add 13 (cI 1)),
 oM 4 14]
def Zx.l1:Code:=.seq (.seq Zx.r3 (.cond 12 (.skip) (.exit 0))) (.seq (.block 1 (.seq Zx.r5 (.seq (.seq Zx.r6 (.block 2 (.loop Zx.l0))) (.seq Zx.r11 (.cond 40 Zx.r12 (.skip)))))) Zx.r4)
def Zx.r13:List Oper:=[
 oM 7 (cI 0)]
def Zx.r14:List Oper:=[
 oM 43 7,
 oD 44 (.fa 1 1),
 oD 45 (.ld false 1 44),
 oD 46 (.len 45),
 oD 47 (.bin .lss 43 46)]
def Zx.r16:List Oper:=[
 oM 50 3,
 oD 51 (.fa 1 1),
 oD 52 (.ld false 1 51),
 oM 53 7,
 oD 54 (.ixa 4 52 53),
 oD 55 (.fa 3 54),
 oD 56 (.ld false 1 55),
 oD 57 (.slen 56),
 oD 58 (.bin .add 50 57),
 oM 3 58]
def Zx.r15:List Oper:=[
 oM 48 7,
 oD 49 (.bin .add 48 (cI 1)),
 oM 7 49]
def Zx.l2:Code:=.seq (.seq Zx.r14 (.cond 47 (.skip) (.exit 4))) (.seq (.block 5 Zx.r16) Zx.r15)
def Zx.r17:List Oper:=[
 oM 59 3,
 oM 2 59]
def Zx.code:Code:=.seq Zx.r0 (.seq Zx.r1 (.seq (.seq Zx.r2 (.block 0 (.loop Zx.l1))) (.seq (.seq Zx.r13 (.block 4 (.loop Zx.l2))) (.seq Zx.r17 (.ret)))))
def Zx:Func:=⟨60,[.t 2],Zx.code⟩
/-! muntin/muntinref11.On -/
def zt.r0:List Oper:=[
 oD 3 (.box 0),
 oM 6 (.c (.sn))]
def zt.r1:List Oper:=[
 oM 7 (.c (.sn))]
def zt.r2:List Oper:=[
 oM 8 (cI 0)]
def zt.r3:List Oper:=[
 oM 11 8,
 oD 12 (.fa 1 3),
 oD 13 (.ld false 1 12),
 oD 14 (.len 13),
 oD 15 (.bin .lss 11 14)]
def zt.r5:List Oper:=[
 oD 18 (.fa 1 3),
 oD 19 (.ld false 1 18),
 oM 20 8,
 oD 21 (.ixa 4 19 20),
 oD 22 (.ld true 4 21),
 oD 9 (.alloc [.n 0,.n 0,.n 0,.s ⟨#[]⟩]),
 oN (.st 4 9 22)]
def zt.r6:List Oper:=[
 oD 23 (.fa 0 9),
 oD 24 (.ld false 1 23),
 oM 25 1,
 oD 26 (.eq false .sc 24 25),
 oM 27 26,
 oT 28 27 (.fa 2 9),
 oT 29 27 (.ld false 1 28),
 oT 30 27 (.mv 2),
 oT 31 27 (.eq false .sc 29 30),
 oD 32 (.pick 27 31 (.c (.b false)))]
def zt.r7:List Oper:=[
 oM 33 7,
 oM 34 8,
 oD 35 (.bin .mul (cI 2) 34),
 oD 36 (.bsl 1 1 [.n 0] [(0,1,.t 35)]),
 oD 37 (.app 1 8 33 36),
 oM 7 37]
def zt.r8:List Oper:=[
 oD 38 (.ld true 4 9),
 oC 39 218 [38],
 oM 10 39]
def zt.r9:List Oper:=[
 oD 40 (.fa 1 9),
 oD 41 (.ld false 1 40),
 oM 42 1,
 oD 43 (.eq false .sc 41 42),
 oM 44 43,
 oT 45 44 (.mv 10),
 oT 46 44 (.mv 2),
 oT 47 44 (.eq false .sc 45 46),
 oD 48 (.pick 44 47 (.c (.b false)))]
def zt.r10:List Oper:=[
 oM 49 7,
 oM 50 8,
 oD 51 (.bin .mul (cI 2) 50),
 oD 52 (.bin .add 51 (cI 1)),
 oD 53 (.bsl 1 1 [.n 0] [(0,1,.t 52)]),
 oD 54 (.app 1 8 49 53),
 oM 7 54]
def zt.r4:List Oper:=[
 oM 16 8,
 oD 17 (.bin .add 16 (cI 1)),
 oM 8 17]
def zt.l0:Code:=.seq (.seq zt.r3 (.cond 15 (.skip) (.exit 0))) (.seq (.block 1 (.seq zt.r5 (.seq (.seq zt.r6 (.cond 32 zt.r7 (.skip))) (.seq zt.r8 (.seq zt.r9 (.cond 48 zt.r10 (.skip))))))) zt.r4)
def zt.r11:List Oper:=[
 oM 55 7,
 oM 6 55]
def zt.code:Code:=.seq zt.r0 (.seq zt.r1 (.seq (.seq zt.r2 (.block 0 (.loop zt.l0))) (.seq zt.r11 (.ret))))
def zt:Func:=⟨56,[.t 6],zt.code⟩
/-! muntin/muntinref11.box -/
def Z0.r0:List Oper:=[
 oD 3 (.box 0),
 oD 4 (.box 1),
 oD 6 (.alloc [.sn,.sn,.sn,.sn])]
def Z0.r1:List Oper:=[
 oD 17 (.fa 0 3),
 oD 18 (.ld false 1 17),
 oD 19 (.len 18),
 oM 7 19]
def Z0.r2:List Oper:=[
 oC 20 46 [.c (.n 4)],
 oM 8 20]
def Z0.r3:List Oper:=[
 oD 21 (.fa 0 3),
 oD 22 (.ld false 1 21),
 oM 23 8,
 oD 24 (.app 8 64 22 23),
 oD 25 (.fa 0 3),
 oN (.st 1 25 24)]
def Z0.r4:List Oper:=[
 oM 9 (cI 0)]
def Z0.r5:List Oper:=[
 oM 26 9,
 oD 27 (.bin .lss 26 (cI 4))]
def Z0.r7:List Oper:=[
 oM 30 7,
 oD 31 (.bin .add 30 (cI 1)),
 oM 32 7,
 oD 33 (.bin .add 32 (cI 3)),
 oM 34 7,
 oM 35 7,
 oD 36 (.bsl 1 4 [.n 0] [(0,1,.t 31),(1,1,.t 33),(2,1,.t 34),(3,1,.t 35)]),
 oM 37 9,
 oD 38 (.ixa 1 36 37),
 oD 39 (.ld false 1 38),
 oM 10 39]
def Z0.r8:List Oper:=[
 oM 40 7,
 oD 41 (.bin .add 40 (cI 2)),
 oM 42 7,
 oD 43 (.bin .add 42 (cI 2)),
 oM 44 7,
 oD 45 (.bin .add 44 (cI 3)),
 oM 46 7,
 oD 47 (.bin .add 46 (cI 1)),
 oD 48 (.bsl 1 4 [.n 0] [(0,1,.t 41),(1,1,.t 43),(2,1,.t 45),(3,1,.t 47)]),
 oM 49 9,
 oD 50 (.ixa 1 48 49),
 oD 51 (.ld false 1 50),
 oM 11 51]
def Z0.r9:List Oper:=[
 oD 52 (.bsl 1 4 [.n 0] [(0,1,.c (.n 1)),(1,1,.c (.n 0)),(2,1,.c (.n 1)),(3,1,.c (.n 0))]),
 oM 53 9,
 oD 54 (.ixa 1 52 53),
 oD 55 (.ld false 1 54),
 oM 12 55]
def Z0.r10:List Oper:=[
 oD 56 (.ld true 2 4),
 oM 57 2,
 oM 58 9,
 oC 59 199 [56,57,58],
 oM 13 59]
def Z0.r11:List Oper:=[
 oM 14 (cI 0)]
def Z0.r12:List Oper:=[
 oM 60 14,
 oM 61 13,
 oD 62 (.len 61),
 oD 63 (.bin .lss 60 62)]
def Z0.r14:List Oper:=[
 oD 66 (.fa 0 3),
 oD 67 (.ld false 1 66),
 oD 68 (.len 67),
 oM 15 68]
def Z0.r15:List Oper:=[
 oC 69 46 [.c (.n 1)],
 oM 16 69]
def Z0.r16:List Oper:=[
 oD 70 (.fa 0 3),
 oD 71 (.ld false 1 70),
 oM 72 16,
 oD 73 (.app 8 64 71 72),
 oD 74 (.fa 0 3),
 oN (.st 1 74 73)]
def Z0.r17:List Oper:=[
 oD 75 (.fa 2 3),
 oD 76 (.ld false 1 75),
 oM 77 13,
 oM 78 14,
 oD 79 (.ixa 1 77 78),
 oD 80 (.ld false 1 79),
 oD 81 (.bin .quo 80 (cI 2)),
 oM 82 13,
 oM 83 14,
 oD 84 (.ixa 1 82 83),
 oD 85 (.ld false 1 84),
 oD 86 (.bin .rem 85 (cI 2)),
 oM 87 15,
 oD 88 (.ixa 2 76 81),
 oD 89 (.ixaa 1 2 88 86),
 oN (.st 1 89 87)]
def Z0.r18:List Oper:=[
 oD 91 (.fa 0 3),
 oD 92 (.ld false 1 91),
 oM 93 10,
 oM 94 12,
 oM 95 15,
 oC 96 53 [92,93,94,95,.c (.n (-1))],
 oM 90 96,
 oD 97 (.ext 90 0),
 oD 98 (.ext 90 1),
 oD 99 (.fa 0 3),
 oN (.st 1 99 97)]
def Z0.r19:List Oper:=[
 oM 100 15,
 oM 10 100]
def Z0.r13:List Oper:=[
 oM 64 14,
 oD 65 (.bin .add 64 (cI 1)),
 oM 14 65]
def Z0.l0:Code:=.seq (.seq Z0.r12 (.cond 63 (.skip) (.exit 2))) (.seq (.block 3 (.seq Z0.r14 (.seq Z0.r15 (.seq Z0.r16 (.seq (.draw Z0.r17 [(1,5),(1,10),(5,10)]) (.seq Z0.r18 Z0.r19)))))) Z0.r13)
def Z0.r20:List Oper:=[
 oD 102 (.fa 0 3),
 oD 103 (.ld false 1 102),
 oM 104 10,
 oM 105 12,
 oM 106 11,
 oC 107 53 [103,104,105,106,.c (.n (-1))],
 oM 101 107,
 oD 108 (.ext 101 0),
 oD 109 (.ext 101 1),
 oD 110 (.fa 0 3),
 oN (.st 1 110 108)]
def Z0.r6:List Oper:=[
 oM 28 9,
 oD 29 (.bin .add 28 (cI 1)),
 oM 9 29]
def Z0.l1:Code:=.seq (.seq Z0.r5 (.cond 27 (.skip) (.exit 0))) (.seq (.block 1 (.seq Z0.r7 (.seq Z0.r8 (.seq Z0.r9 (.seq Z0.r10 (.seq (.seq Z0.r11 (.block 2 (.loop Z0.l0))) Z0.r20)))))) Z0.r6)
def Z0.r21:List Oper:=[
 oD 111 (.ld true 4 3),
 oN (.st 4 6 111)]
def Z0.code:Code:=.seq Z0.r0 (.seq Z0.r1 (.seq Z0.r2 (.seq Z0.r3 (.seq (.seq Z0.r4 (.block 0 (.loop Z0.l1))) (.seq Z0.r21 (.ret))))))
def Z0:Func:=⟨112,[.cell 6 true 4],Z0.code⟩
/-! muntin/valid.outer -/
def z5.r0:List Oper:=[
 oM 2 (cI 0),
 oM 3 (.c (.b false))]
def z5.r1:List Oper:=[
 oM 10 0,
 oC 11 203 [10],
 oM 9 11,
 oD 12 (.ext 9 0),
 oD 13 (.ext 9 1),
 oM 4 12,
 oM 5 13]
def z5.r2:List Oper:=[
 oM 6 (cI (-1))]
def z5.r3:List Oper:=[
 oM 14 4,
 oD 15 (.len 14),
 oM 16 (cI 0)]
def z5.r4:List Oper:=[
 oD 17 (.bin .lss 16 15)]
def z5.r5:List Oper:=[
 oM 18 16,
 oD 19 (.ixa 1 14 16),
 oD 20 (.ld false 1 19),
 oM 7 18,
 oM 8 20]
def z5.r6:List Oper:=[
 oM 21 0,
 oM 22 8,
 oC 23 204 [21,22],
 oC 24 219 [23]]
def z5.r8:List Oper:=[
 oD 26 (.eq false .sc 24 (cI 4)),
 oM 25 26]
def z5.r9:List Oper:=[
 oD 28 (.eq false .sc 24 (cI (-4))),
 oM 27 28]
def z5.r10:List Oper:=[
 oM 29 6,
 oD 30 (.bin .geq 29 (cI 0))]
def z5.r11:List Oper:=[
 oM 2 (cI 0),
 oM 3 (.c (.b false))]
def z5.r12:List Oper:=[
 oM 31 7,
 oM 6 31]
def z5.r7:List Oper:=[
 oM 2 (cI 0),
 oM 3 (.c (.b false))]
def z5.r13:List Oper:=[
 oD 32 (.bin .add 16 (cI 1)),
 oM 16 32]
def z5.l0:Code:=.seq z5.r4 (.seq (.cond 17 (.skip) (.exit 0)) (.seq (.block 1 (.seq z5.r5 (.seq z5.r6 (.block 2 (.seq z5.r8 (.cond 25 (.skip) (.seq z5.r9 (.cond 27 (.seq (.seq z5.r10 (.cond 30 (.seq z5.r11 (.ret)) (.skip))) z5.r12) (.seq z5.r7 (.ret)))))))))) z5.r13))
def z5.r14:List Oper:=[
 oM 33 6,
 oM 34 6,
 oD 35 (.bin .geq 34 (cI 0)),
 oM 2 33,
 oM 3 35]
def z5.code:Code:=.seq z5.r0 (.seq z5.r1 (.seq z5.r2 (.seq (.seq z5.r3 (.block 0 (.loop z5.l0))) (.seq z5.r14 (.ret)))))
def z5:Func:=⟨36,[.t 2,.t 3],z5.code⟩
/-! muntin/muntinref12.Behind -/
def za.r0:List Oper:=[
 oD 3 (.box 1),
 oD 4 (.alloc [.n 0,.n 0])]
def za.r1:List Oper:=[
 oM 9 0,
 oD 10 (.fa 0 3),
 oD 11 (.ld false 1 10),
 oD 12 (.fa 1 3),
 oD 13 (.ld false 1 12),
 oD 14 (.ixa 8 9 11),
 oD 15 (.fa 0 14),
 oD 16 (.ixaa 1 4 15 13),
 oD 17 (.ld false 1 16),
 oM 5 17]
def za.r2:List Oper:=[
 oD 18 (.bsl 1 4 [.n 0] [(0,1,.c (.n 1)),(1,1,.c (.n 0)),(2,1,.c (.n 3)),(3,1,.c (.n 2))]),
 oM 6 18]
def za.r3:List Oper:=[
 oM 7 (cI 0)]
def za.r4:List Oper:=[
 oM 19 7,
 oD 20 (.bin .lss 19 (cI 4))]
def za.r6:List Oper:=[
 oD 23 (.fa 1 3),
 oD 24 (.ld false 1 23),
 oM 25 6,
 oM 26 7,
 oD 27 (.ixa 1 25 26),
 oD 28 (.ld false 1 27),
 oD 29 (.bin .add 24 28),
 oD 30 (.bin .rem 29 (cI 4)),
 oM 8 30]
def za.r7:List Oper:=[
 oM 31 0,
 oM 32 5,
 oM 33 8,
 oD 34 (.ixa 8 31 32),
 oD 35 (.fa 0 34),
 oD 36 (.ixaa 1 4 35 33),
 oD 37 (.ld false 1 36),
 oD 38 (.bin .geq 37 (cI 0))]
def za.r8:List Oper:=[
 oM 39 5,
 oM 40 8,
 oD 41 (.build [.n 0,.n 0] [(0,1,.t 39),(1,1,.t 40)]),
 oN (.st 2 4 41)]
def za.r5:List Oper:=[
 oM 21 7,
 oD 22 (.bin .add 21 (cI 1)),
 oM 7 22]
def za.l0:Code:=.seq (.seq za.r4 (.cond 20 (.skip) (.exit 0))) (.seq (.block 1 (.seq (.draw za.r6 [(1,5)]) (.seq za.r7 (.cond 38 (.seq za.r8 (.ret)) (.skip))))) za.r5)
def za.r9:List Oper:=[
 oD 42 (.ld true 2 3),
 oN (.st 2 4 42)]
def za.code:Code:=.seq za.r0 (.seq (.draw za.r1 [(2,4)]) (.seq za.r2 (.seq (.seq za.r3 (.block 0 (.loop za.l0))) (.seq za.r9 (.ret)))))
def za:Func:=⟨43,[.cell 4 true 2],za.code⟩
/-! muntin/face.Faces -/
def ZE.r0:List Oper:=[
 oM 2 (.c (.sn)),
 oM 3 (cI 0)]
def ZE.r1:List Oper:=[
 oM 12 0,
 oC 13 66 [12],
 oM 4 13]
def ZE.r2:List Oper:=[
 oM 14 4,
 oD 15 (.eq true .sc 14 (cI 0))]
def ZE.r3:List Oper:=[
 oM 16 4,
 oM 2 (.c (.sn)),
 oM 3 16]
def ZE.r4:List Oper:=[
 oM 5 (.c (.sn))]
def ZE.r5:List Oper:=[
 oD 17 (.mkm),
 oM 6 17]
def ZE.r6:List Oper:=[
 oM 18 0,
 oD 19 (.len 18),
 oM 20 (cI 0)]
def ZE.r7:List Oper:=[
 oD 21 (.bin .lss 20 19)]
def ZE.r8:List Oper:=[
 oM 22 20,
 oM 7 22]
def ZE.r9:List Oper:=[
 oM 23 (cI 0)]
def ZE.r10:List Oper:=[
 oD 24 (.bin .lss 23 (cI 4))]
def ZE.r11:List Oper:=[
 oM 25 23,
 oM 8 25]
def ZE.r12:List Oper:=[
 oM 26 7,
 oM 27 8,
 oD 28 (.build [.n 0,.n 0] [(0,1,.t 26),(1,1,.t 27)]),
 oD 9 (.alloc [.n 0,.n 0]),
 oN (.st 2 9 28)]
def ZE.r13:List Oper:=[
 oD 29 (.ld true 2 9),
 oM 30 0,
 oC 31 220 [29,30],
 oD 32 (.un .not 31),
 oM 33 32,
 oF 34 33 (.mv 6),
 oF 35 33 (.ld true 2 9),
 oF 36 33 (.mlk [.i,.i] false (.b false) 34 35),
 oD 37 (.pick 33 (.c (.b true)) 36)]
def ZE.r14:List Oper:=[
 oM 10 (.c (.sn))]
def ZE.r15:List Oper:=[
 oD 38 (.ld true 2 9),
 oD 11 (.alloc [.n 0,.n 0]),
 oN (.st 2 11 38)]
def ZE.r16:List Oper:=[
 oM 39 6,
 oD 40 (.ld true 2 11),
 oD 41 (.mlk [.i,.i] false (.b false) 39 40),
 oD 42 (.un .not 41)]
def ZE.r18:List Oper:=[
 oM 46 6,
 oD 47 (.ld true 2 11),
 oN (.mup [.i,.i] 46 47 (.c (.b true)))]
def ZE.r19:List Oper:=[
 oM 48 10,
 oD 49 (.ld true 2 11),
 oD 50 (.bsl 2 1 [.n 0,.n 0] [(0,2,.t 49)]),
 oD 51 (.app 2 16 48 50),
 oM 10 51]
def ZE.r20:List Oper:=[
 oD 52 (.ld true 2 11)]
def ZE.r21:List Oper:=[
 oD 11 (.alloc [.n 0,.n 0]),
 oN (.st 2 11 52)]
def ZE.r17:List Oper:=[
 oD 43 (.ld true 2 11),
 oM 44 0,
 oC 45 221 [43,44],
 oN (.st 2 11 45)]
def ZE.l0:Code:=.seq (.seq ZE.r16 (.cond 42 (.skip) (.exit 4))) (.seq (.block 5 (.seq ZE.r18 ZE.r19)) (.seq (.seq ZE.r20 ZE.r21) ZE.r17))
def ZE.r22:List Oper:=[
 oM 53 5,
 oM 54 10,
 oD 55 (.bsl 1 1 [.sn] [(0,1,.t 54)]),
 oD 56 (.app 1 24 53 55),
 oM 5 56]
def ZE.r23:List Oper:=[
 oD 57 (.bin .add 23 (cI 1)),
 oM 23 57]
def ZE.l1:Code:=.seq ZE.r10 (.seq (.cond 24 (.skip) (.exit 2)) (.seq (.block 3 (.seq ZE.r11 (.seq ZE.r12 (.seq (.seq ZE.r13 (.cond 37 (.exit 3) (.skip))) (.seq ZE.r14 (.seq (.seq ZE.r15 (.block 4 (.loop ZE.l0))) ZE.r22)))))) ZE.r23))
def ZE.r24:List Oper:=[
 oD 58 (.bin .add 20 (cI 1)),
 oM 20 58]
def ZE.l2:Code:=.seq ZE.r7 (.seq (.cond 21 (.skip) (.exit 0)) (.seq (.block 1 (.seq ZE.r8 (.seq ZE.r9 (.block 2 (.loop ZE.l1))))) ZE.r24))
def ZE.r25:List Oper:=[
 oM 59 5,
 oM 2 59,
 oM 3 (cI 0)]
def ZE.code:Code:=.seq ZE.r0 (.seq (.seq ZE.r1 (.seq ZE.r2 (.cond 15 (.seq ZE.r3 (.ret)) (.skip)))) (.seq ZE.r4 (.seq ZE.r5 (.seq (.seq ZE.r6 (.block 0 (.loop ZE.l2))) (.seq ZE.r25 (.ret))))))
def ZE:Func:=⟨60,[.t 2,.t 3],ZE.code⟩
/-! muntin/face.Turns -/
def Zap.r0:List Oper:=[
 oM 4 (.c (.sn))]
def Zap.r1:List Oper:=[
 oM 8 1,
 oD 9 (.len 8),
 oD 10 (.mks 1 8 [.n 0] 9 9),
 oM 5 10]
def Zap.r2:List Oper:=[
 oM 11 0,
 oC 12 66 [11],
 oD 13 (.eq true .sc 12 (cI 0))]
def Zap.r3:List Oper:=[
 oM 14 5,
 oM 4 14]
def Zap.r4:List Oper:=[
 oM 15 1,
 oD 16 (.len 15),
 oM 17 (cI 0)]
def Zap.r5:List Oper:=[
 oD 18 (.bin .lss 17 16)]
def Zap.r6:List Oper:=[
 oM 19 17,
 oD 20 (.ixa 2 15 17),
 oD 21 (.ld true 2 20),
 oD 7 (.alloc [.n 0,.n 0]),
 oM 6 19,
 oN (.st 2 7 21)]
def Zap.r7:List Oper:=[
 oD 22 (.ld true 2 7),
 oM 23 0,
 oC 24 220 [22,23]]
def Zap.r8:List Oper:=[
 oM 25 5,
 oM 26 6,
 oD 27 (.fa 1 7),
 oD 28 (.ld false 1 27),
 oD 29 (.ld true 2 7),
 oM 30 0,
 oC 31 221 [29,30],
 oD 32 (.fld false 1 1 31),
 oC 33 222 [28,32],
 oD 34 (.ixa 1 25 26),
 oN (.st 1 34 33)]
def Zap.r9:List Oper:=[
 oD 35 (.bin .add 17 (cI 1)),
 oM 17 35]
def Zap.l0:Code:=.seq Zap.r5 (.seq (.cond 18 (.skip) (.exit 0)) (.seq (.block 1 (.seq Zap.r6 (.seq Zap.r7 (.cond 24 (.draw Zap.r8 [(3,4),(3,6)]) (.skip))))) Zap.r9))
def Zap.r10:List Oper:=[
 oM 36 5,
 oM 4 36]
def Zap.code:Code:=.seq Zap.r0 (.seq Zap.r1 (.seq (.seq Zap.r2 (.cond 13 (.seq Zap.r3 (.ret)) (.skip))) (.seq (.seq Zap.r4 (.block 0 (.loop Zap.l0))) (.seq Zap.r10 (.ret)))))
def Zap:Func:=⟨37,[.t 4],Zap.code⟩
/-! muntin/muntinref12.Rotation -/
def zf.r0:List Oper:=[
 oM 2 (cI 0)]
def zf.r1:List Oper:=[
 oM 3 (cI 0)]
def zf.r2:List Oper:=[
 oM 4 (cI 0)]
def zf.r3:List Oper:=[
 oM 5 4,
 oM 6 0,
 oD 7 (.len 6),
 oD 8 (.bin .lss 5 7)]
def zf.r5:List Oper:=[
 oM 11 0,
 oM 12 4,
 oD 13 (.ixa 1 11 12),
 oD 14 (.ld false 1 13),
 oD 15 (.bin .geq 14 (cI (-2))),
 oM 16 15,
 oT 17 16 (.mv 0),
 oT 18 16 (.mv 4),
 oT 19 16 (.ixa 1 17 18),
 oT 20 16 (.ld false 1 19),
 oT 21 16 (.bin .leq 20 (cI 1)),
 oD 22 (.pick 16 21 (.c (.b false)))]
def zf.r6:List Oper:=[
 oM 23 3,
 oM 24 0,
 oM 25 4,
 oD 26 (.ixa 1 24 25),
 oD 27 (.ld false 1 26),
 oD 28 (.bin .add 23 27),
 oM 3 28]
def zf.r4:List Oper:=[
 oM 9 4,
 oD 10 (.bin .add 9 (cI 1)),
 oM 4 10]
def zf.l0:Code:=.seq (.seq zf.r3 (.cond 8 (.skip) (.exit 0))) (.seq (.block 1 (.seq zf.r5 (.cond 22 zf.r6 (.skip)))) zf.r4)
def zf.r7:List Oper:=[
 oM 29 3,
 oM 2 29]
def zf.code:Code:=.seq zf.r0 (.seq zf.r1 (.seq (.seq zf.r2 (.block 0 (.loop zf.l0))) (.seq zf.r7 (.ret))))
def zf:Func:=⟨30,[.t 2],zf.code⟩
/-! muntin/muntinref01.Turn -/
def ze.r0:List Oper:=[
 oM 4 (cI 0)]
def ze.r1:List Oper:=[
 oM 8 0,
 oC 9 223 [8],
 oM 5 9]
def ze.r2:List Oper:=[
 oM 10 1,
 oC 11 223 [10],
 oM 6 11]
def ze.r3:List Oper:=[
 oM 12 5,
 oD 13 (.un .not 12),
 oM 14 13,
 oF 15 14 (.mv 6),
 oF 16 14 (.un .not 15),
 oD 17 (.pick 14 (.c (.b true)) 16),
 oM 18 17,
 oF 19 18 (.mv 0),
 oF 20 18 (.mv 1),
 oF 21 18 (.eq false .sc 19 20),
 oD 22 (.pick 18 (.c (.b true)) 21)]
def ze.r4:List Oper:=[
 oM 4 (cI 0)]
def ze.r5:List Oper:=[
 oM 23 0,
 oC 24 224 [23,.c (.n 1)],
 oM 7 24]
def ze.r6:List Oper:=[
 oM 25 7,
 oM 26 1,
 oD 27 (.eq false .sc 25 26)]
def ze.r7:List Oper:=[
 oM 4 (cI 1)]
def ze.r8:List Oper:=[
 oM 28 0,
 oC 29 224 [28,.c (.n 3)],
 oM 7 29]
def ze.r9:List Oper:=[
 oM 30 7,
 oM 31 1,
 oD 32 (.eq false .sc 30 31)]
def ze.r10:List Oper:=[
 oM 4 (cI (-1))]
def ze.r11:List Oper:=[
 oM 4 (cI (-2))]
def ze.code:Code:=.seq ze.r0 (.seq ze.r1 (.seq ze.r2 (.seq (.seq ze.r3 (.cond 22 (.seq ze.r4 (.ret)) (.skip))) (.seq ze.r5 (.seq (.seq ze.r6 (.cond 27 (.seq ze.r7 (.ret)) (.skip))) (.seq ze.r8 (.seq (.seq ze.r9 (.cond 32 (.seq ze.r10 (.ret)) (.skip))) (.seq ze.r11 (.ret)))))))))
def ze:Func:=⟨33,[.t 4],ze.code⟩
/-! muntin/regular.Make -/
def zg.r0:List Oper:=[
 oM 4 (.c (.sn)),
 oM 5 (cI 0),
 oM 6 (cI 0)]
def zg.r1:List Oper:=[
 oM 17 0,
 oC 18 176 [17],
 oM 7 18]
def zg.r2:List Oper:=[
 oM 19 7,
 oD 20 (.eq true .sc 19 (cI 0))]
def zg.r3:List Oper:=[
 oM 21 7,
 oM 4 (.c (.sn)),
 oM 5 (cI 0),
 oM 6 21]
def zg.r4:List Oper:=[
 oM 23 0,
 oC 24 119 [23],
 oM 22 24,
 oD 25 (.ext 22 0),
 oD 26 (.ext 22 1),
 oM 8 25,
 oM 9 26]
def zg.r5:List Oper:=[
 oM 10 (cI 0)]
def zg.r7:List Oper:=[
 oM 30 8,
 oC 31 57 [30],
 oC 32 228 [31],
 oM 29 32,
 oD 33 (.ext 29 0),
 oD 34 (.ext 29 1),
 oD 35 (.ext 29 2),
 oD 36 (.ext 29 3),
 oM 11 33,
 oM 12 34,
 oM 13 35,
 oM 14 36]
def zg.r8:List Oper:=[
 oM 37 14,
 oD 38 (.un .not 37)]
def zg.r9:List Oper:=[
 oM 39 8,
 oC 40 57 [39],
 oM 41 10,
 oM 4 40,
 oM 5 41,
 oM 6 (cI 0)]
def zg.r10:List Oper:=[
 oM 42 10,
 oM 43 1,
 oD 44 (.len 43),
 oD 45 (.bin .lss 42 44),
 oM 46 45,
 oT 47 46 (.mv 1),
 oT 48 46 (.mv 10),
 oT 49 46 (.ixa 1 47 48),
 oT 50 46 (.ld false 1 49),
 oD 51 (.pick 46 50 (.c (.b false))),
 oM 15 51]
def zg.r11:List Oper:=[
 oM 52 12,
 oC 53 229 [52],
 oM 54 15,
 oD 55 (.eq false .bl 53 54)]
def zg.r12:List Oper:=[
 oM 56 12,
 oC 57 77 [56,.c (.n 1)],
 oM 12 57]
def zg.r13:List Oper:=[
 oM 58 8,
 oM 59 11,
 oM 60 12,
 oM 61 13,
 oC 62 52 [58,59,60,61,.c (.n (-2))],
 oM 16 62]
def zg.r14:List Oper:=[
 oM 63 16,
 oD 64 (.eq true .sc 63 (cI 0))]
def zg.r15:List Oper:=[
 oM 65 16,
 oM 4 (.c (.sn)),
 oM 5 (cI 0),
 oM 6 65]
def zg.r6:List Oper:=[
 oM 27 10,
 oD 28 (.bin .add 27 (cI 1)),
 oM 10 28]
def zg.l0:Code:=.seq (.block 1 (.seq zg.r7 (.seq (.seq zg.r8 (.cond 38 (.seq zg.r9 (.ret)) (.skip))) (.seq zg.r10 (.seq (.seq zg.r11 (.cond 55 zg.r12 (.skip))) (.seq zg.r13 (.seq zg.r14 (.cond 64 (.seq zg.r15 (.ret)) (.skip))))))))) zg.r6
def zg.code:Code:=.seq zg.r0 (.seq (.seq zg.r1 (.seq zg.r2 (.cond 20 (.seq zg.r3 (.ret)) (.skip)))) (.seq zg.r4 (.seq zg.r5 (.block 0 (.loop zg.l0)))))
def zg:Func:=⟨66,[.t 4,.t 5,.t 6],zg.code⟩
/-! muntin/muntinlaw22.plus -/
def zJ.r0:List Oper:=[
 oM 0 (.c (.sn))]
def zJ.r1:List Oper:=[
 oC 4 46 [.c (.n 12)],
 oM 1 4]
def zJ.r2:List Oper:=[
 oD 5 (.bsl 1 12 [.n 0] [(0,1,.c (.n 0)),(1,1,.c (.n 1)),(2,1,.c (.n 0)),(3,1,.c (.n 1)),(4,1,.c (.n 2)),(5,1,.c (.n 1)),(6,1,.c (.n 2)),(7,1,.c (.n 3)),(8,1,.c (.n 2)),(9,1,.c (.n 3)),(10,1,.c (.n 0)),(11,1,.c (.n 3))]),
 oD 6 (.len 5),
 oM 7 (cI 0)]
def zJ.r3:List Oper:=[
 oD 8 (.bin .lss 7 6)]
def zJ.r4:List Oper:=[
 oM 9 7,
 oD 10 (.ixa 1 5 7),
 oD 11 (.ld false 1 10),
 oM 2 9,
 oM 3 11]
def zJ.r5:List Oper:=[
 oM 13 1,
 oM 14 2,
 oM 15 3,
 oM 16 2,
 oD 17 (.bin .add 16 (cI 1)),
 oD 18 (.bin .rem 17 (cI 12)),
 oC 19 53 [13,14,15,18,.c (.n 0)],
 oM 12 19,
 oD 20 (.ext 12 0),
 oD 21 (.ext 12 1),
 oM 1 20]
def zJ.r6:List Oper:=[
 oD 22 (.bin .add 7 (cI 1)),
 oM 7 22]
def zJ.l0:Code:=.seq zJ.r3 (.seq (.cond 8 (.skip) (.exit 0)) (.seq (.block 1 (.seq zJ.r4 zJ.r5)) zJ.r6))
def zJ.r7:List Oper:=[
 oM 23 1,
 oM 0 23]
def zJ.code:Code:=.seq zJ.r0 (.seq zJ.r1 (.seq (.seq zJ.r2 (.block 0 (.loop zJ.l0))) (.seq zJ.r7 (.ret))))
def zJ:Func:=⟨24,[.t 0],zJ.code⟩
/-! muntin/regular.Bare -/
def ZS.r0:List Oper:=[
 oM 2 (.c (.sn)),
 oM 3 (cI 0)]
def ZS.r1:List Oper:=[
 oM 9 0,
 oC 10 66 [9],
 oM 4 10]
def ZS.r2:List Oper:=[
 oM 11 4,
 oD 12 (.eq true .sc 11 (cI 0))]
def ZS.r3:List Oper:=[
 oM 13 4,
 oM 2 (.c (.sn)),
 oM 3 13]
def ZS.r4:List Oper:=[
 oM 5 (.c (.sn))]
def ZS.r5:List Oper:=[
 oM 14 0,
 oD 15 (.len 14),
 oM 16 (cI 0)]
def ZS.r6:List Oper:=[
 oD 17 (.bin .lss 16 15)]
def ZS.r7:List Oper:=[
 oD 18 (.ixa 8 14 16),
 oD 19 (.ld true 8 18),
 oD 7 (.alloc [.n 0,.n 0,.n 0,.n 0,.n 0,.n 0,.n 0,.n 0]),
 oN (.st 8 7 19)]
def ZS.r8:List Oper:=[
 oM 20 (cI 0)]
def ZS.r9:List Oper:=[
 oD 21 (.bin .lss 20 (cI 4))]
def ZS.r10:List Oper:=[
 oM 22 20,
 oM 8 22]
def ZS.r11:List Oper:=[
 oM 23 8,
 oD 24 (.fa 0 7),
 oD 25 (.ixaa 1 4 24 23),
 oD 26 (.ld false 1 25),
 oD 27 (.bin .geq 26 (cI 0)),
 oM 28 27,
 oT 29 28 (.mv 8),
 oT 30 28 (.fa 4 7),
 oT 31 28 (.ixaa 1 4 30 29),
 oT 32 28 (.ld false 1 31),
 oT 33 28 (.eq false .sc 32 (cI (-2))),
 oD 34 (.pick 28 33 (.c (.b false)))]
def ZS.r12:List Oper:=[
 oM 35 8,
 oM 36 8,
 oD 37 (.fa 0 7),
 oD 38 (.ixaa 1 4 37 35),
 oN (.st 1 38 (cI (-1))),
 oD 39 (.fa 4 7),
 oD 40 (.ixaa 1 4 39 36),
 oN (.st 1 40 (cI 0))]
def ZS.r13:List Oper:=[
 oD 41 (.bin .add 20 (cI 1)),
 oM 20 41]
def ZS.l0:Code:=.seq ZS.r9 (.seq (.cond 21 (.skip) (.exit 2)) (.seq (.block 3 (.seq ZS.r10 (.seq ZS.r11 (.cond 34 ZS.r12 (.skip))))) ZS.r13))
def ZS.r14:List Oper:=[
 oM 42 5,
 oD 43 (.ld true 8 7),
 oD 44 (.bsl 8 1 [.n 0,.n 0,.n 0,.n 0,.n 0,.n 0,.n 0,.n 0] [(0,8,.t 43)]),
 oD 45 (.app 8 64 42 44),
 oM 5 45]
def ZS.r15:List Oper:=[
 oD 46 (.bin .add 16 (cI 1)),
 oM 16 46]
def ZS.l1:Code:=.seq ZS.r6 (.seq (.cond 17 (.skip) (.exit 0)) (.seq (.block 1 (.seq ZS.r7 (.seq (.seq ZS.r8 (.block 2 (.loop ZS.l0))) ZS.r14))) ZS.r15))
def ZS.r16:List Oper:=[
 oM 47 5,
 oM 2 47,
 oM 3 (cI 0)]
def ZS.code:Code:=.seq ZS.r0 (.seq (.seq ZS.r1 (.seq ZS.r2 (.cond 12 (.seq ZS.r3 (.ret)) (.skip)))) (.seq ZS.r4 (.seq (.seq ZS.r5 (.block 0 (.loop ZS.l1))) (.seq ZS.r16 (.ret)))))
def ZS:Func:=⟨48,[.t 2,.t 3],ZS.code⟩
/-! muntin/muntinref22.Bare -/
def ZI.r0:List Oper:=[
 oM 2 (.c (.sn))]
def ZI.r1:List Oper:=[
 oM 3 (.c (.sn))]
def ZI.r2:List Oper:=[
 oM 4 (cI 0)]
def ZI.r3:List Oper:=[
 oM 7 4,
 oM 8 0,
 oD 9 (.len 8),
 oD 10 (.bin .lss 7 9)]
def ZI.r5:List Oper:=[
 oM 13 0,
 oM 14 4,
 oD 15 (.ixa 8 13 14),
 oD 16 (.ld true 8 15),
 oD 5 (.alloc [.n 0,.n 0,.n 0,.n 0,.n 0,.n 0,.n 0,.n 0]),
 oN (.st 8 5 16)]
def ZI.r6:List Oper:=[
 oM 6 (cI 0)]
def ZI.r7:List Oper:=[
 oM 17 6,
 oD 18 (.bin .lss 17 (cI 4))]
def ZI.r9:List Oper:=[
 oM 21 6,
 oD 22 (.fa 0 5),
 oD 23 (.ixaa 1 4 22 21),
 oD 24 (.ld false 1 23),
 oD 25 (.bin .geq 24 (cI 0)),
 oM 26 25,
 oT 27 26 (.mv 6),
 oT 28 26 (.fa 4 5),
 oT 29 26 (.ixaa 1 4 28 27),
 oT 30 26 (.ld false 1 29),
 oT 31 26 (.eq false .sc 30 (cI (-2))),
 oD 32 (.pick 26 31 (.c (.b false)))]
def ZI.r10:List Oper:=[
 oM 33 6,
 oD 34 (.fa 0 5),
 oD 35 (.ixaa 1 4 34 33),
 oN (.st 1 35 (cI (-1)))]
def ZI.r11:List Oper:=[
 oM 36 6,
 oD 37 (.fa 4 5),
 oD 38 (.ixaa 1 4 37 36),
 oN (.st 1 38 (cI 0))]
def ZI.r8:List Oper:=[
 oM 19 6,
 oD 20 (.bin .add 19 (cI 1)),
 oM 6 20]
def ZI.l0:Code:=.seq (.seq ZI.r7 (.cond 18 (.skip) (.exit 2))) (.seq (.block 3 (.seq ZI.r9 (.cond 32 (.seq ZI.r10 ZI.r11) (.skip)))) ZI.r8)
def ZI.r12:List Oper:=[
 oM 39 3,
 oD 40 (.ld true 8 5),
 oD 41 (.bsl 8 1 [.n 0,.n 0,.n 0,.n 0,.n 0,.n 0,.n 0,.n 0] [(0,8,.t 40)]),
 oD 42 (.app 8 64 39 41),
 oM 3 42]
def ZI.r4:List Oper:=[
 oM 11 4,
 oD 12 (.bin .add 11 (cI 1)),
 oM 4 12]
def ZI.l1:Code:=.seq (.seq ZI.r3 (.cond 10 (.skip) (.exit 0))) (.seq (.block 1 (.seq ZI.r5 (.seq (.seq ZI.r6 (.block 2 (.loop ZI.l0))) ZI.r12))) ZI.r4)
def ZI.r13:List Oper:=[
 oM 43 3,
 oM 2 43]
def ZI.code:Code:=.seq ZI.r0 (.seq ZI.r1 (.seq (.seq ZI.r2 (.block 0 (.loop ZI.l1))) (.seq ZI.r13 (.ret))))
def ZI:Func:=⟨44,[.t 2],ZI.code⟩
/-! muntin/muntinref22.Make -/
def Zs.r0:List Oper:=[
 oM 4 (.c (.sn)),
 oM 5 (cI 0)]
def Zs.r1:List Oper:=[
 oM 6 (cI 0)]
def Zs.r2:List Oper:=[
 oM 18 6,
 oD 19 (.bin .lss 18 (cI 100000))]
def Zs.r4:List Oper:=[
 oM 22 0,
 oC 23 177 [22],
 oM 7 23]
def Zs.r5:List Oper:=[
 oM 8 (.c (.b true))]
def Zs.r6:List Oper:=[
 oM 9 (cI 0)]
def Zs.r7:List Oper:=[
 oM 24 9,
 oM 25 7,
 oD 26 (.len 25),
 oD 27 (.bin .lss 24 26),
 oM 28 27,
 oT 29 28 (.mv 8),
 oD 30 (.pick 28 29 (.c (.b false)))]
def Zs.r9:List Oper:=[
 oM 33 0,
 oM 34 7,
 oM 35 9,
 oD 36 (.ixa 1 34 35),
 oD 37 (.ld false 1 36),
 oC 38 182 [33,37],
 oM 10 38]
def Zs.r10:List Oper:=[
 oM 40 10,
 oC 41 25 [40],
 oM 39 41,
 oD 42 (.ext 39 0),
 oD 43 (.ext 39 1),
 oD 44 (.ext 39 2),
 oD 11 (.alloc [.n 0,.n 0]),
 oD 12 (.alloc [.n 0,.n 0]),
 oN (.st 2 11 42),
 oN (.st 2 12 43),
 oM 13 44]
def Zs.r11:List Oper:=[
 oM 45 13,
 oD 46 (.un .not 45)]
def Zs.r12:List Oper:=[
 oM 8 (.c (.b false))]
def Zs.r13:List Oper:=[
 oM 47 7,
 oM 48 9,
 oD 49 (.ixa 1 47 48),
 oD 50 (.ld false 1 49),
 oD 51 (.fa 0 11),
 oD 52 (.ld false 1 51),
 oD 53 (.ixa 2 50 52),
 oD 54 (.ld true 2 53),
 oD 14 (.alloc [.n 0,.n 0]),
 oN (.st 2 14 54)]
def Zs.r14:List Oper:=[
 oM 55 7,
 oM 56 9,
 oD 57 (.ixa 1 55 56),
 oD 58 (.ld false 1 57),
 oD 59 (.fa 0 12),
 oD 60 (.ld false 1 59),
 oD 61 (.ixa 2 58 60),
 oD 62 (.ld true 2 61),
 oD 15 (.alloc [.n 0,.n 0]),
 oN (.st 2 15 62)]
def Zs.r15:List Oper:=[
 oD 63 (.fa 1 14),
 oD 64 (.ld false 1 63),
 oM 16 64]
def Zs.r16:List Oper:=[
 oD 65 (.fa 1 11),
 oD 66 (.ld false 1 65),
 oD 67 (.eq false .sc 66 (cI 1))]
def Zs.r17:List Oper:=[
 oM 68 16,
 oD 69 (.bin .add 68 (cI 3)),
 oD 70 (.bin .rem 69 (cI 4)),
 oM 16 70]
def Zs.r18:List Oper:=[
 oM 71 6,
 oM 72 1,
 oD 73 (.len 72),
 oD 74 (.bin .lss 71 73),
 oM 75 74,
 oT 76 75 (.mv 1),
 oT 77 75 (.mv 6),
 oT 78 75 (.mv 1),
 oT 79 75 (.len 78),
 oT 80 75 (.bin .sub 79 (cI 1)),
 oT 81 75 (.mx [80,.c (.n 0)]),
 oT 82 75 (.mn [77,81]),
 oT 83 75 (.ixa 1 76 82),
 oT 84 75 (.ld false 1 83),
 oD 85 (.pick 75 84 (.c (.b false))),
 oM 17 85]
def Zs.r19:List Oper:=[
 oM 86 17,
 oM 87 16,
 oD 88 (.bin .rem 87 (cI 2)),
 oD 89 (.eq false .sc 88 (cI 0)),
 oD 90 (.eq false .bl 86 89)]
def Zs.r20:List Oper:=[
 oM 91 16,
 oD 92 (.bin .add 91 (cI 1)),
 oD 93 (.bin .rem 92 (cI 4)),
 oM 16 93]
def Zs.r21:List Oper:=[
 oM 95 0,
 oM 96 0,
 oD 97 (.fa 0 14),
 oD 98 (.ld false 1 97),
 oD 99 (.fa 1 14),
 oD 100 (.ld false 1 99),
 oD 101 (.ixa 8 96 98),
 oD 102 (.fa 0 101),
 oD 103 (.ixaa 1 4 102 100),
 oD 104 (.ld false 1 103),
 oM 105 16,
 oM 106 0,
 oD 107 (.fa 0 15),
 oD 108 (.ld false 1 107),
 oD 109 (.fa 1 15),
 oD 110 (.ld false 1 109),
 oD 111 (.ixa 8 106 108),
 oD 112 (.fa 0 111),
 oD 113 (.ixaa 1 4 112 110),
 oD 114 (.ld false 1 113),
 oC 115 53 [95,104,105,114,.c (.n (-2))],
 oM 94 115,
 oD 116 (.ext 94 0),
 oD 117 (.ext 94 1),
 oM 0 116]
def Zs.r8:List Oper:=[
 oM 31 9,
 oD 32 (.bin .add 31 (cI 1)),
 oM 9 32]
def Zs.l0:Code:=.seq (.seq Zs.r7 (.cond 30 (.skip) (.exit 2))) (.seq (.block 3 (.seq Zs.r9 (.seq Zs.r10 (.seq (.seq Zs.r11 (.cond 46 (.exit 3) (.skip))) (.seq Zs.r12 (.seq (.draw Zs.r13 [(3,5),(3,8),(5,8),(7,8)]) (.seq (.draw Zs.r14 [(3,5),(3,8),(5,8),(7,8)]) (.seq Zs.r15 (.seq (.seq Zs.r16 (.cond 67 Zs.r17 (.skip))) (.seq Zs.r18 (.seq (.seq Zs.r19 (.cond 90 Zs.r20 (.skip))) (.draw Zs.r21 [(3,5),(3,13),(5,13),(9,13),(3,15),(5,15),(9,15),(13,15),(3,19),(5,19),(9,19)])))))))))))) Zs.r8)
def Zs.r22:List Oper:=[
 oM 118 8]
def Zs.r23:List Oper:=[
 oM 119 0,
 oM 120 6,
 oM 4 119,
 oM 5 120]
def Zs.r3:List Oper:=[
 oM 20 6,
 oD 21 (.bin .add 20 (cI 1)),
 oM 6 21]
def Zs.l1:Code:=.seq (.seq Zs.r2 (.cond 19 (.skip) (.exit 0))) (.seq (.block 1 (.seq Zs.r4 (.seq Zs.r5 (.seq (.seq Zs.r6 (.block 2 (.loop Zs.l0))) (.seq Zs.r22 (.cond 118 (.seq Zs.r23 (.ret)) (.skip))))))) Zs.r3)
def Zs.r24:List Oper:=[
 oM 121 0,
 oM 4 121,
 oM 5 (cI 0)]
def Zs.code:Code:=.seq Zs.r0 (.seq (.seq Zs.r1 (.block 0 (.loop Zs.l1))) (.seq Zs.r24 (.ret)))
def Zs:Func:=⟨122,[.t 4,.t 5],Zs.code⟩
/-! muntin/muntinref08.turns -/
def zO.r0:List Oper:=[
 oM 2 (.c (.b false))]
def zO.r1:List Oper:=[
 oM 3 (cI 0)]
def zO.r2:List Oper:=[
 oM 4 3,
 oM 5 0,
 oD 6 (.slen 5),
 oD 7 (.bin .lss 4 6)]
def zO.r4:List Oper:=[
 oM 10 0,
 oM 11 3,
 oD 12 (.ixs 10 11),
 oD 13 (.eq true .sc 12 (.c (.i .u8 76))),
 oM 14 13,
 oT 15 14 (.mv 0),
 oT 16 14 (.mv 3),
 oT 17 14 (.ixs 15 16),
 oT 18 14 (.eq true .sc 17 (.c (.i .u8 82))),
 oD 19 (.pick 14 18 (.c (.b false)))]
def zO.r5:List Oper:=[
 oM 2 (.c (.b false))]
def zO.r3:List Oper:=[
 oM 8 3,
 oD 9 (.bin .add 8 (cI 1)),
 oM 3 9]
def zO.l0:Code:=.seq (.seq zO.r2 (.cond 7 (.skip) (.exit 0))) (.seq (.block 1 (.seq zO.r4 (.cond 19 (.seq zO.r5 (.ret)) (.skip)))) zO.r3)
def zO.r6:List Oper:=[
 oM 2 (.c (.b true))]
def zO.code:Code:=.seq zO.r0 (.seq (.seq zO.r1 (.block 0 (.loop zO.l0))) (.seq zO.r6 (.ret)))
def zO:Func:=⟨20,[.t 2],zO.code⟩
/-! muntin/muntinref11.Side -/
def Zbn.r0:List Oper:=[
 oD 1 (.box 0),
 oM 2 (cI 0)]
def Zbn.r1:List Oper:=[
 oD 4 (.ld true 4 1),
 oC 5 230 [4],
 oM 3 5]
def Zbn.r2:List Oper:=[
 oM 6 3,
 oD 7 (.bin .add 6 (cI 2)),
 oD 8 (.bin .rem 7 (cI 4)),
 oM 2 8]
def Zbn.code:Code:=.seq Zbn.r0 (.seq Zbn.r1 (.seq Zbn.r2 (.ret)))
def Zbn:Func:=⟨9,[.t 2],Zbn.code⟩
/-! muntin/face.Rotation -/
def zZ.r0:List Oper:=[
 oM 2 (cI 0)]
def zZ.r1:List Oper:=[
 oM 3 (cI 0)]
def zZ.r2:List Oper:=[
 oM 6 0,
 oD 7 (.len 6),
 oM 8 (cI 0)]
def zZ.r3:List Oper:=[
 oD 9 (.bin .lss 8 7)]
def zZ.r4:List Oper:=[
 oD 10 (.ixa 1 6 8),
 oD 11 (.ld false 1 10),
 oM 5 11]
def zZ.r5:List Oper:=[
 oM 12 5,
 oD 13 (.bin .geq 12 (cI (-2))),
 oM 14 13,
 oT 15 14 (.mv 5),
 oT 16 14 (.bin .leq 15 (cI 1)),
 oD 17 (.pick 14 16 (.c (.b false)))]
def zZ.r6:List Oper:=[
 oM 18 3,
 oM 19 5,
 oD 20 (.bin .add 18 19),
 oM 3 20]
def zZ.r7:List Oper:=[
 oD 21 (.bin .add 8 (cI 1)),
 oM 8 21]
def zZ.l0:Code:=.seq zZ.r3 (.seq (.cond 9 (.skip) (.exit 0)) (.seq (.block 1 (.seq zZ.r4 (.seq zZ.r5 (.cond 17 zZ.r6 (.skip))))) zZ.r7))
def zZ.r8:List Oper:=[
 oM 22 3,
 oM 2 22]
def zZ.code:Code:=.seq zZ.r0 (.seq zZ.r1 (.seq (.seq zZ.r2 (.block 0 (.loop zZ.l0))) (.seq zZ.r8 (.ret))))
def zZ:Func:=⟨23,[.t 2],zZ.code⟩
/-! (muntin/face.Dart).is -/
def Zcn.r0:List Oper:=[
 oD 2 (.box 0),
 oM 4 (.c (.b false))]
def Zcn.r1:List Oper:=[
 oD 5 (.fa 0 2),
 oD 6 (.ld false 1 5),
 oD 7 (.bin .geq 6 (cI 0)),
 oM 8 7,
 oT 9 8 (.fa 0 2),
 oT 10 8 (.ld false 1 9),
 oT 11 8 (.mv 1),
 oT 12 8 (.len 11),
 oT 13 8 (.bin .lss 10 12),
 oD 14 (.pick 8 13 (.c (.b false))),
 oM 15 14,
 oT 16 15 (.fa 1 2),
 oT 17 15 (.ld false 1 16),
 oT 18 15 (.call (.c (.f 90 [])) [17]),
 oD 19 (.pick 15 18 (.c (.b false))),
 oM 20 19,
 oT 21 20 (.mv 1),
 oT 22 20 (.fa 0 2),
 oT 23 20 (.ld false 1 22),
 oT 24 20 (.fa 1 2),
 oT 25 20 (.ld false 1 24),
 oT 26 20 (.ixa 8 21 23),
 oT 27 20 (.fa 0 26),
 oT 28 20 (.ixaa 1 4 27 25),
 oT 29 20 (.ld false 1 28),
 oT 30 20 (.bin .geq 29 (cI 0)),
 oD 31 (.pick 20 30 (.c (.b false))),
 oM 4 31]
def Zcn.code:Code:=.seq Zcn.r0 (.seq (.draw Zcn.r1 [(18,20)]) (.ret))
def Zcn:Func:=⟨32,[.t 4],Zcn.code⟩
/-! (muntin/face.Dart).behind -/
def zq.r0:List Oper:=[
 oD 2 (.box 0),
 oD 4 (.alloc [.n 0,.n 0])]
def zq.r1:List Oper:=[
 oM 9 1,
 oD 10 (.fa 0 2),
 oD 11 (.ld false 1 10),
 oD 12 (.fa 1 2),
 oD 13 (.ld false 1 12),
 oD 14 (.ixa 8 9 11),
 oD 15 (.fa 0 14),
 oD 16 (.ixaa 1 4 15 13),
 oD 17 (.ld false 1 16),
 oM 5 17]
def zq.r2:List Oper:=[
 oD 18 (.build [.n 0,.n 0,.n 0,.n 0] [(0,1,.c (.n 1)),(1,1,.c (.n 0)),(2,1,.c (.n (-1))),(3,1,.c (.n 2))]),
 oM 19 (cI 0)]
def zq.r3:List Oper:=[
 oD 20 (.bin .lss 19 (cI 4))]
def zq.r4:List Oper:=[
 oD 21 (.ix false 1 4 18 19),
 oM 7 21]
def zq.r5:List Oper:=[
 oM 22 5,
 oD 23 (.fa 1 2),
 oD 24 (.ld false 1 23),
 oM 25 7,
 oC 26 77 [24,25],
 oD 27 (.build [.n 0,.n 0] [(0,1,.t 22),(1,1,.t 26)]),
 oD 8 (.alloc [.n 0,.n 0]),
 oN (.st 2 8 27)]
def zq.r6:List Oper:=[
 oD 28 (.ld true 2 8),
 oM 29 1,
 oC 30 220 [28,29]]
def zq.r7:List Oper:=[
 oD 31 (.ld true 2 8),
 oN (.st 2 4 31)]
def zq.r8:List Oper:=[
 oD 32 (.bin .add 19 (cI 1)),
 oM 19 32]
def zq.l0:Code:=.seq zq.r3 (.seq (.cond 20 (.skip) (.exit 0)) (.seq (.block 1 (.seq zq.r4 (.seq zq.r5 (.seq zq.r6 (.cond 30 (.seq zq.r7 (.ret)) (.skip)))))) zq.r8))
def zq.r9:List Oper:=[
 oD 33 (.ld true 2 2),
 oN (.st 2 4 33)]
def zq.code:Code:=.seq zq.r0 (.seq (.draw zq.r1 [(2,4)]) (.seq (.seq zq.r2 (.block 0 (.loop zq.l0))) (.seq zq.r9 (.ret))))
def zq:Func:=⟨34,[.cell 4 true 2],zq.code⟩
/-! muntin/compass.Turn -/
def Zb6.r0:List Oper:=[
 oM 4 (cI 0)]
def Zb6.r1:List Oper:=[
 oM 5 0,
 oC 6 90 [5],
 oD 7 (.un .not 6),
 oM 8 7,
 oF 9 8 (.mv 1),
 oF 10 8 (.call (.c (.f 90 [])) [9]),
 oF 11 8 (.un .not 10),
 oD 12 (.pick 8 (.c (.b true)) 11)]
def Zb6.r2:List Oper:=[
 oM 4 (cI 0)]
def Zb6.r3:List Oper:=[
 oD 13 (.build [.n 0,.n 0,.n 0,.n 0] [(0,1,.c (.n 0)),(1,1,.c (.n 1)),(2,1,.c (.n (-2))),(3,1,.c (.n (-1)))]),
 oM 14 1,
 oM 15 0,
 oD 16 (.bin .sub 14 15),
 oD 17 (.bin .add 16 (cI 4)),
 oD 18 (.bin .rem 17 (cI 4)),
 oD 19 (.ix false 1 4 13 18),
 oM 4 19]
def Zb6.code:Code:=.seq Zb6.r0 (.seq (.seq Zb6.r1 (.cond 12 (.seq Zb6.r2 (.ret)) (.skip))) (.seq Zb6.r3 (.ret)))
def Zb6:Func:=⟨20,[.t 4],Zb6.code⟩
/-! muntin/muntinref01.Good -/
def ZbD.r0:List Oper:=[
 oM 2 (.c (.b false))]
def ZbD.r1:List Oper:=[
 oM 3 0,
 oD 4 (.bin .geq 3 (cI 0)),
 oM 5 4,
 oT 6 5 (.mv 0),
 oT 7 5 (.bin .leq 6 (cI 3)),
 oD 8 (.pick 5 7 (.c (.b false))),
 oM 2 8]
def ZbD.code:Code:=.seq ZbD.r0 (.seq ZbD.r1 (.ret))
def ZbD:Func:=⟨9,[.t 2],ZbD.code⟩
/-! muntin/muntinref01.Left -/
def zW.r0:List Oper:=[
 oM 4 (cI 0)]
def zW.r1:List Oper:=[
 oM 7 0,
 oC 8 223 [7],
 oM 5 8]
def zW.r2:List Oper:=[
 oM 9 5,
 oD 10 (.un .not 9)]
def zW.r3:List Oper:=[
 oM 4 (cI 0)]
def zW.r4:List Oper:=[
 oM 11 1,
 oD 12 (.bin .rem 11 (cI 4)),
 oM 6 12]
def zW.r5:List Oper:=[
 oM 13 6,
 oD 14 (.bin .lss 13 (cI 0))]
def zW.r6:List Oper:=[
 oM 15 6,
 oD 16 (.bin .add 15 (cI 4)),
 oM 6 16]
def zW.r7:List Oper:=[
 oM 17 0,
 oM 18 6,
 oD 19 (.bin .add 17 18),
 oD 20 (.bin .rem 19 (cI 4)),
 oM 4 20]
def zW.code:Code:=.seq zW.r0 (.seq zW.r1 (.seq (.seq zW.r2 (.cond 10 (.seq zW.r3 (.ret)) (.skip))) (.seq zW.r4 (.seq (.seq zW.r5 (.cond 14 zW.r6 (.skip))) (.seq zW.r7 (.ret))))))
def zW:Func:=⟨21,[.t 4],zW.code⟩
/-! muntin/regular.pair -/
def zV.r0:List Oper:=[
 oM 2 (cI 0),
 oM 3 (cI 0),
 oM 4 (cI 0),
 oM 5 (.c (.b false))]
def zV.r1:List Oper:=[
 oM 16 0,
 oC 17 203 [16],
 oM 15 17,
 oD 18 (.ext 15 0),
 oD 19 (.ext 15 1),
 oM 6 18,
 oM 7 19]
def zV.r2:List Oper:=[
 oM 20 6,
 oD 21 (.len 20),
 oM 22 (cI 0)]
def zV.r3:List Oper:=[
 oD 23 (.bin .lss 22 21)]
def zV.r4:List Oper:=[
 oD 24 (.ixa 1 20 22),
 oD 25 (.ld false 1 24),
 oM 9 25]
def zV.r5:List Oper:=[
 oM 27 0,
 oM 28 9,
 oC 29 204 [27,28],
 oC 30 24 [29],
 oM 26 30,
 oD 31 (.ext 26 0),
 oD 32 (.ext 26 1),
 oD 33 (.ext 26 2),
 oD 10 (.alloc [.n 0,.n 0]),
 oD 11 (.alloc [.n 0,.n 0]),
 oN (.st 2 10 31),
 oN (.st 2 11 32),
 oM 12 33]
def zV.r6:List Oper:=[
 oM 34 12,
 oD 35 (.un .not 34)]
def zV.r7:List Oper:=[
 oM 36 9,
 oD 37 (.fa 0 10),
 oD 38 (.ld false 1 37),
 oD 39 (.ixa 2 36 38),
 oD 40 (.ld true 2 39),
 oM 41 9,
 oD 42 (.fa 0 11),
 oD 43 (.ld false 1 42),
 oD 44 (.ixa 2 41 43),
 oD 45 (.ld true 2 44),
 oD 13 (.alloc [.n 0,.n 0]),
 oD 14 (.alloc [.n 0,.n 0]),
 oN (.st 2 13 40),
 oN (.st 2 14 45)]
def zV.r8:List Oper:=[
 oM 46 0,
 oD 47 (.fa 0 13),
 oD 48 (.ld false 1 47),
 oD 49 (.fa 1 13),
 oD 50 (.ld false 1 49),
 oD 51 (.ixa 8 46 48),
 oD 52 (.fa 0 51),
 oD 53 (.ixaa 1 4 52 50),
 oD 54 (.ld false 1 53),
 oD 55 (.fa 1 13),
 oD 56 (.ld false 1 55),
 oD 57 (.fa 1 10),
 oD 58 (.ld false 1 57),
 oD 59 (.un .neg 58),
 oC 60 77 [56,59],
 oM 61 0,
 oD 62 (.fa 0 14),
 oD 63 (.ld false 1 62),
 oD 64 (.fa 1 14),
 oD 65 (.ld false 1 64),
 oD 66 (.ixa 8 61 63),
 oD 67 (.fa 0 66),
 oD 68 (.ixaa 1 4 67 65),
 oD 69 (.ld false 1 68),
 oM 2 54,
 oM 3 60,
 oM 4 69,
 oM 5 (.c (.b true))]
def zV.r9:List Oper:=[
 oD 70 (.bin .add 22 (cI 1)),
 oM 22 70]
def zV.l0:Code:=.seq zV.r3 (.seq (.cond 23 (.skip) (.exit 0)) (.seq (.block 1 (.seq zV.r4 (.seq zV.r5 (.seq (.seq zV.r6 (.cond 35 (.exit 1) (.skip))) (.seq (.draw zV.r7 [(2,7),(4,7),(2,9),(4,9),(2,10),(4,10),(7,10),(9,10),(2,11),(4,11),(7,11),(9,11),(10,11),(7,12),(9,12)]) (.seq (.draw zV.r8 [(2,4),(2,10),(4,10),(8,10),(2,12),(4,12),(8,12),(10,12),(2,14),(4,14),(8,14),(2,17),(4,17),(8,17),(10,17),(12,17),(14,17),(2,19),(4,19),(8,19),(10,19),(12,19),(14,19),(17,19),(2,23),(4,23),(8,23),(10,23),(12,23),(14,23)]) (.ret))))))) zV.r9))
def zV.r10:List Oper:=[
 oM 2 (cI 0),
 oM 3 (cI 0),
 oM 4 (cI 0),
 oM 5 (.c (.b false))]
def zV.code:Code:=.seq zV.r0 (.seq zV.r1 (.seq (.seq zV.r2 (.block 0 (.loop zV.l0))) (.seq zV.r10 (.ret))))
def zV:Func:=⟨71,[.t 2,.t 3,.t 4,.t 5],zV.code⟩
/-! muntin/regular.horizontal -/
def Zby.r0:List Oper:=[
 oM 2 (.c (.b false))]
def Zby.r1:List Oper:=[
 oM 3 0,
 oD 4 (.eq false .sc 3 (cI 0)),
 oM 5 4,
 oF 6 5 (.mv 0),
 oF 7 5 (.eq false .sc 6 (cI 2)),
 oD 8 (.pick 5 (.c (.b true)) 7),
 oM 2 8]
def Zby.code:Code:=.seq Zby.r0 (.seq Zby.r1 (.ret))
def Zby:Func:=⟨9,[.t 2],Zby.code⟩
/-! muntin/muntinref09.Last -/
def z7.r0:List Oper:=[
 oD 1 (.box 0),
 oM 2 (cI 0)]
def z7.r1:List Oper:=[
 oD 5 (.fa 2 1),
 oD 6 (.ld false 1 5),
 oM 3 6]
def z7.r2:List Oper:=[
 oM 4 (cI 0)]
def z7.r3:List Oper:=[
 oM 7 4,
 oD 8 (.fa 3 1),
 oD 9 (.ld false 1 8),
 oD 10 (.slen 9),
 oD 11 (.bin .lss 7 10)]
def z7.r5:List Oper:=[
 oD 14 (.fa 3 1),
 oD 15 (.ld false 1 14),
 oM 16 4,
 oD 17 (.ixs 15 16),
 oD 18 (.eq false .sc 17 (.c (.i .u8 76)))]
def z7.r6:List Oper:=[
 oM 19 3,
 oD 20 (.bin .add 19 (cI 1)),
 oD 21 (.bin .rem 20 (cI 4)),
 oM 3 21]
def z7.r7:List Oper:=[
 oM 22 3,
 oD 23 (.bin .add 22 (cI 3)),
 oD 24 (.bin .rem 23 (cI 4)),
 oM 3 24]
def z7.r4:List Oper:=[
 oM 12 4,
 oD 13 (.bin .add 12 (cI 1)),
 oM 4 13]
def z7.l0:Code:=.seq (.seq z7.r3 (.cond 11 (.skip) (.exit 0))) (.seq (.block 1 (.seq z7.r5 (.cond 18 z7.r6 z7.r7))) z7.r4)
def z7.r8:List Oper:=[
 oM 25 3,
 oM 2 25]
def z7.code:Code:=.seq z7.r0 (.seq z7.r1 (.seq (.seq z7.r2 (.block 0 (.loop z7.l0))) (.seq z7.r8 (.ret))))
def z7:Func:=⟨26,[.t 2],z7.code⟩
def G:Prog:=fun i=>match i with
  | 19=>some zj
  | 20=>some ZR
  | 23=>some Z8
  | 24=>some zC
  | 25=>some ZN
  | 28=>some Zk
  | 29=>some ZO
  | 30=>some Z9
  | 32=>some Zcp
  | 34=>some Zw
  | 36=>some Z1
  | 46=>some zo
  | 51=>some Zaq
  | 52=>some Zab
  | 53=>some Zai
  | 55=>some Zbx
  | 56=>some z8
  | 57=>some ZaY
  | 59=>some Zcz
  | 61=>some ZbT
  | 62=>some ZaJ
  | 63=>some ZQ
  | 64=>some Z5
  | 65=>some ZJ
  | 66=>some zB
  | 67=>some zd
  | 75=>some Zco
  | 76=>some ZbI
  | 77=>some Zb5
  | 78=>some ZaQ
  | 80=>some ZbX
  | 82=>some Za0
  | 83=>some ZW
  | 89=>some Zcf
  | 90=>some Zcm
  | 91=>some zh
  | 97=>some Zcl
  | 98=>some Zao
  | 119=>some Zcx
  | 163=>some ZG
  | 171=>some Z3
  | 174=>some Zr
  | 175=>some Zj
  | 176=>some Zau
  | 177=>some Zy
  | 181=>some Zv
  | 182=>some zu
  | 190=>some Zay
  | 191=>some zr
  | 197=>some Z7
  | 198=>some Zx
  | 199=>some zt
  | 200=>some Z0
  | 201=>some z5
  | 202=>some za
  | 203=>some ZE
  | 204=>some Zap
  | 206=>some zf
  | 207=>some ze
  | 212=>some zg
  | 213=>some zJ
  | 214=>some ZS
  | 215=>some ZI
  | 216=>some Zs
  | 217=>some zO
  | 218=>some Zbn
  | 219=>some zZ
  | 220=>some Zcn
  | 221=>some zq
  | 222=>some Zb6
  | 223=>some ZbD
  | 224=>some zW
  | 228=>some zV
  | 229=>some Zby
  | 230=>some z7
  | _=>none
theorem Zfh:G 19=some zj:=rfl
theorem ZdE:G 20=some ZR:=rfl
theorem ZeF:G 23=some Z8:=rfl
theorem Zgb:G 24=some zC:=rfl
theorem Ze2:G 25=some ZN:=rfl
theorem Zey:G 28=some Zk:=rfl
theorem ZfZ:G 29=some ZO:=rfl
theorem Zee:G 30=some Z9:=rfl
theorem Zga:G 32=some Zcp:=rfl
theorem ZdZ:G 34=some Zw:=rfl
theorem ZeE:G 36=some Z1:=rfl
theorem ZeC:G 46=some zo:=rfl
theorem Zdv:G 51=some Zaq:=rfl
theorem ZeN:G 52=some Zab:=rfl
theorem Zdg:G 53=some Zai:=rfl
theorem Zff:G 55=some Zbx:=rfl
theorem Zez:G 56=some z8:=rfl
theorem ZeB:G 57=some ZaY:=rfl
theorem ZfN:G 59=some Zcz:=rfl
theorem Zgz:G 61=some ZbT:=rfl
theorem Zgc:G 62=some ZaJ:=rfl
theorem ZdD:G 63=some ZQ:=rfl
theorem ZdC:G 64=some Z5:=rfl
theorem Ze0:G 65=some ZJ:=rfl
theorem ZfY:G 66=some zB:=rfl
theorem ZfM:G 67=some zd:=rfl
theorem Zfy:G 75=some Zco:=rfl
theorem Zfg:G 76=some ZbI:=rfl
theorem Zfv:G 77=some Zb5:=rfl
theorem Zdf:G 78=some ZaQ:=rfl
theorem Zfi:G 80=some ZbX:=rfl
theorem Zgy:G 82=some Za0:=rfl
theorem Zeg:G 83=some ZW:=rfl
theorem ZgG:G 89=some Zcf:=rfl
theorem Zfu:G 90=some Zcm:=rfl
theorem Zd0:G 91=some zh:=rfl
theorem ZhJ:G 97=some Zcl:=rfl
theorem ZfV:G 98=some Zao:=rfl
theorem Zhw:G 119=some Zcx:=rfl
theorem Zda:G 163=some ZG:=rfl
theorem Zew:G 171=some Z3:=rfl
theorem Zeb:G 174=some Zr:=rfl
theorem ZeO:G 175=some Zj:=rfl
theorem ZfO:G 176=some Zau:=rfl
theorem Zec:G 177=some Zy:=rfl
theorem Zef:G 181=some Zv:=rfl
theorem Zed:G 182=some zu:=rfl
theorem ZdW:G 190=some Zay:=rfl
theorem Zes:G 191=some zr:=rfl
theorem ZdX:G 197=some Z7:=rfl
theorem Zea:G 198=some Zx:=rfl
theorem ZeP:G 199=some zt:=rfl
theorem ZeD:G 200=some Z0:=rfl
theorem ZfP:G 201=some z5:=rfl
theorem ZdM:G 202=some za:=rfl
theorem ZfW:G 203=some ZE:=rfl
theorem ZfX:G 204=some Zap:=rfl
theorem Zdz:G 206=some zf:=rfl
theorem Zev:G 207=some ze:=rfl
theorem Zf0:G 212=some zg:=rfl
theorem Zer:G 213=some zJ:=rfl
theorem Zfz:G 214=some ZS:=rfl
theorem Ze3:G 215=some ZI:=rfl
theorem Zdh:G 216=some Zs:=rfl
theorem ZdY:G 217=some zO:=rfl
theorem Ze1:G 218=some Zbn:=rfl
theorem Zfe:G 219=some zZ:=rfl
theorem Zfx:G 220=some Zcn:=rfl
theorem Zeq:G 221=some zq:=rfl
theorem Zfw:G 222=some Zb6:=rfl
theorem Zet:G 223=some ZbD:=rfl
theorem Zeu:G 224=some zW:=rfl
theorem Zf1:G 228=some zV:=rfl
theorem ZdN:G 229=some Zby:=rfl
theorem Zex:G 230=some z7:=rfl
end Mu
