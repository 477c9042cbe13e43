/- The functions of the program, as the evaluator has them: printed by a program; checked against the model's. -/
import Derived.Test.YtfdidkebomeiaaaMuE0
namespace Mu
instance (n:Nat):OfNat Opd n:=⟨.t n⟩
instance:Coe (List Oper) Code:=⟨.region⟩
abbrev oD (d:Nat) (op:Op):Oper:=⟨some d,op,none⟩
abbrev oN (op:Op):Oper:=⟨none,op,none⟩
abbrev oT (d g:Nat) (op:Op):Oper:=⟨some d,op,some (g,true)⟩
abbrev oF (d g:Nat) (op:Op):Oper:=⟨some d,op,some (g,false)⟩
abbrev oM (d:Nat) (x:Opd):Oper:=⟨some d,.mv x,none⟩
abbrev oC (d f:Nat) (l:List Opd):Oper:=⟨some d,.call (.c (.f f [])) l,none⟩
abbrev cI (n:Int):Opd:=.c (.i .i64 n)
/-! muntin/kitty.Corners -/
def zg.r0:List Oper:=[
 oM 2 (.c (.sn))]
def zg.r1:List Oper:=[
 oM 3 (.c (.sn))]
def zg.r2:List Oper:=[
 oM 7 0,
 oD 8 (.len 7),
 oM 9 (cI 0)]
def zg.r3:List Oper:=[
 oD 10 (.bin .lss 9 8)]
def zg.r4:List Oper:=[
 oM 11 9,
 oD 12 (.ixa 1 7 9),
 oD 13 (.ld false 1 12),
 oM 4 11,
 oM 5 13]
def zg.r5:List Oper:=[
 oM 14 5,
 oD 15 (.bin .lss 14 (cI (-2)))]
def zg.r6:List Oper:=[
 oM 16 5,
 oD 17 (.un .neg 16),
 oM 18 (cI 0)]
def zg.r7:List Oper:=[
 oD 19 (.bin .lss 18 17)]
def zg.r8:List Oper:=[
 oM 20 18,
 oM 6 20]
def zg.r9:List Oper:=[
 oM 21 3,
 oM 22 4,
 oM 23 6,
 oD 24 (.build [.n 0,.n 0] [(0,1,.t 22),(1,1,.t 23)]),
 oD 25 (.bsl 2 1 [.n 0,.n 0] [(0,2,.t 24)]),
 oD 26 (.app 2 16 21 25),
 oM 3 26]
def zg.r10:List Oper:=[
 oD 27 (.bin .add 18 (cI 1)),
 oM 18 27]
def zg.l0:Code:=.seq zg.r7 (.seq (.cond 19 (.skip) (.exit 2)) (.seq (.block 3 (.seq zg.r8 zg.r9)) zg.r10))
def zg.r11:List Oper:=[
 oD 28 (.bin .add 9 (cI 1)),
 oM 9 28]
def zg.l1:Code:=.seq zg.r3 (.seq (.cond 10 (.skip) (.exit 0)) (.seq (.block 1 (.seq zg.r4 (.seq (.seq zg.r5 (.cond 15 (.exit 1) (.skip))) (.seq zg.r6 (.block 2 (.loop zg.l0)))))) zg.r11))
def zg.r12:List Oper:=[
 oM 29 3,
 oM 2 29]
def zg.code:Code:=.seq zg.r0 (.seq zg.r1 (.seq (.seq zg.r2 (.block 0 (.loop zg.l1))) (.seq zg.r12 (.ret))))
def zg:Func:=⟨30,[.t 2],zg.code⟩
/-! muntin/muntinref15.Corners -/
def ZP.r0:List Oper:=[
 oM 2 (.c (.sn))]
def ZP.r1:List Oper:=[
 oM 3 (.c (.sn))]
def ZP.r2:List Oper:=[
 oM 4 (cI 0)]
def ZP.r3:List Oper:=[
 oM 5 4,
 oM 6 0,
 oD 7 (.len 6),
 oD 8 (.bin .lss 5 7)]
def ZP.r5:List Oper:=[
 oM 11 0,
 oM 12 4,
 oD 13 (.ixa 1 11 12),
 oD 14 (.ld false 1 13),
 oD 15 (.eq false .sc 14 (cI (-1))),
 oM 16 15,
 oF 17 16 (.mv 0),
 oF 18 16 (.mv 4),
 oF 19 16 (.ixa 1 17 18),
 oF 20 16 (.ld false 1 19),
 oF 21 16 (.eq false .sc 20 (cI (-2))),
 oD 22 (.pick 16 (.c (.b true)) 21)]
def ZP.r6:List Oper:=[
 oM 23 3,
 oM 24 4,
 oD 25 (.build [.n 0,.n 0] [(0,1,.t 24)]),
 oD 26 (.bsl 2 1 [.n 0,.n 0] [(0,2,.t 25)]),
 oD 27 (.app 2 16 23 26),
 oM 3 27]
def ZP.r7:List Oper:=[
 oM 28 0,
 oM 29 4,
 oD 30 (.ixa 1 28 29),
 oD 31 (.ld false 1 30),
 oD 32 (.eq false .sc 31 (cI (-2)))]
def ZP.r8:List Oper:=[
 oM 33 3,
 oM 34 4,
 oD 35 (.build [.n 0,.n 0] [(0,1,.t 34),(1,1,.c (.n 1))]),
 oD 36 (.bsl 2 1 [.n 0,.n 0] [(0,2,.t 35)]),
 oD 37 (.app 2 16 33 36),
 oM 3 37]
def ZP.r4:List Oper:=[
 oM 9 4,
 oD 10 (.bin .add 9 (cI 1)),
 oM 4 10]
def ZP.l0:Code:=.seq (.seq ZP.r3 (.cond 8 (.skip) (.exit 0))) (.seq (.block 1 (.seq (.seq ZP.r5 (.cond 22 ZP.r6 (.skip))) (.seq ZP.r7 (.cond 32 ZP.r8 (.skip))))) ZP.r4)
def ZP.r9:List Oper:=[
 oM 38 3,
 oM 2 38]
def ZP.code:Code:=.seq ZP.r0 (.seq ZP.r1 (.seq (.seq ZP.r2 (.block 0 (.loop ZP.l0))) (.seq ZP.r9 (.ret))))
def ZP:Func:=⟨39,[.t 2],ZP.code⟩
/-! muntin/muntinref15.Rot -/
def Z7.r0:List Oper:=[
 oD 4 (.box 1),
 oD 5 (.box 2),
 oM 6 (cI 0)]
def Z7.r1:List Oper:=[
 oM 7 (.c (.sn))]
def Z7.r2:List Oper:=[
 oM 8 (cI 0)]
def Z7.r3:List Oper:=[
 oM 9 (cI 0)]
def Z7.r4:List Oper:=[
 oM 10 (cI 0)]
def Z7.r5:List Oper:=[
 oM 13 10,
 oM 14 0,
 oD 15 (.len 14),
 oD 16 (.bin .lss 13 15)]
def Z7.r7:List Oper:=[
 oM 19 10,
 oD 20 (.fa 0 4),
 oD 21 (.ld false 1 20),
 oD 22 (.eq false .sc 19 21)]
def Z7.r8:List Oper:=[
 oM 23 7,
 oD 24 (.len 23),
 oD 25 (.fa 1 4),
 oD 26 (.ld false 1 25),
 oD 27 (.bin .add 24 26),
 oM 8 27]
def Z7.r9:List Oper:=[
 oM 28 10,
 oD 29 (.fa 0 5),
 oD 30 (.ld false 1 29),
 oD 31 (.eq false .sc 28 30)]
def Z7.r10:List Oper:=[
 oM 32 7,
 oD 33 (.len 32),
 oD 34 (.fa 1 5),
 oD 35 (.ld false 1 34),
 oD 36 (.bin .add 33 35),
 oM 9 36]
def Z7.r11:List Oper:=[
 oM 37 0,
 oM 38 10,
 oD 39 (.ixa 1 37 38),
 oD 40 (.ld false 1 39),
 oD 41 (.eq false .sc 40 (cI (-2)))]
def Z7.r12:List Oper:=[
 oM 42 7,
 oD 43 (.bsl 1 2 [.n 0] [(0,1,.c (.n (-1))),(1,1,.c (.n (-1)))]),
 oD 44 (.app 1 8 42 43),
 oM 7 44]
def Z7.r13:List Oper:=[
 oM 45 7,
 oM 46 0,
 oM 47 10,
 oD 48 (.ixa 1 46 47),
 oD 49 (.ld false 1 48),
 oD 50 (.bsl 1 1 [.n 0] [(0,1,.t 49)]),
 oD 51 (.app 1 8 45 50),
 oM 7 51]
def Z7.r6:List Oper:=[
 oM 17 10,
 oD 18 (.bin .add 17 (cI 1)),
 oM 10 18]
def Z7.l0:Code:=.seq (.seq Z7.r5 (.cond 16 (.skip) (.exit 0))) (.seq (.block 1 (.seq (.seq Z7.r7 (.cond 22 Z7.r8 (.skip))) (.seq (.seq Z7.r9 (.cond 31 Z7.r10 (.skip))) (.seq Z7.r11 (.cond 41 Z7.r12 Z7.r13))))) Z7.r6)
def Z7.r14:List Oper:=[
 oM 11 (cI 0)]
def Z7.r15:List Oper:=[
 oM 52 8,
 oM 12 52]
def Z7.r16:List Oper:=[
 oM 53 12,
 oM 54 9,
 oD 55 (.eq true .sc 53 54)]
def Z7.r18:List Oper:=[
 oM 61 11,
 oM 62 7,
 oM 63 12,
 oD 64 (.ixa 1 62 63),
 oD 65 (.ld false 1 64),
 oD 66 (.bin .add 61 65),
 oM 11 66]
def Z7.r17:List Oper:=[
 oM 56 12,
 oD 57 (.bin .add 56 (cI 1)),
 oM 58 7,
 oD 59 (.len 58),
 oD 60 (.bin .rem 57 59),
 oM 12 60]
def Z7.l1:Code:=.seq (.seq Z7.r16 (.cond 55 (.skip) (.exit 2))) (.seq (.block 3 Z7.r18) Z7.r17)
def Z7.r19:List Oper:=[
 oM 67 11,
 oM 6 67]
def Z7.code:Code:=.seq Z7.r0 (.seq Z7.r1 (.seq Z7.r2 (.seq Z7.r3 (.seq (.seq Z7.r4 (.block 0 (.loop Z7.l0))) (.seq Z7.r14 (.seq (.seq Z7.r15 (.block 2 (.loop Z7.l1))) (.seq Z7.r19 (.ret))))))))
def Z7:Func:=⟨68,[.t 6],Z7.code⟩
/-! muntin/kitty.Pair -/
def z6.r0:List Oper:=[
 oD 2 (.alloc [.n 0,.n 0]),
 oD 3 (.alloc [.n 0,.n 0]),
 oM 4 (.c (.b false))]
def z6.r1:List Oper:=[
 oM 11 0,
 oC 12 59 [11],
 oD 13 (.un .not 12)]
def z6.r2:List Oper:=[
 oD 14 (.build [.n 0,.n 0] []),
 oD 15 (.build [.n 0,.n 0] []),
 oN (.st 2 2 14),
 oN (.st 2 3 15),
 oM 4 (.c (.b false))]
def z6.r3:List Oper:=[
 oM 16 0,
 oC 17 19 [16],
 oM 18 0,
 oC 19 62 [18],
 oM 5 17,
 oM 6 19]
def z6.r4:List Oper:=[
 oM 20 5,
 oD 21 (.len 20),
 oM 22 (cI 0)]
def z6.r5:List Oper:=[
 oD 23 (.bin .lss 22 21)]
def z6.r6:List Oper:=[
 oD 24 (.ixa 2 20 22),
 oD 25 (.ld true 2 24),
 oD 8 (.alloc [.n 0,.n 0]),
 oN (.st 2 8 25)]
def z6.r7:List Oper:=[
 oM 26 5,
 oD 27 (.len 26),
 oM 28 (cI 0)]
def z6.r8:List Oper:=[
 oD 29 (.bin .lss 28 27)]
def z6.r9:List Oper:=[
 oD 30 (.ixa 2 26 28),
 oD 31 (.ld true 2 30),
 oD 10 (.alloc [.n 0,.n 0]),
 oN (.st 2 10 31)]
def z6.r10:List Oper:=[
 oM 32 6,
 oD 33 (.ld true 2 8),
 oD 34 (.ld true 2 10),
 oC 35 61 [32,33,34],
 oD 36 (.eq false .sc 35 (cI 2))]
def z6.r11:List Oper:=[
 oD 37 (.ld true 2 8),
 oD 38 (.ld true 2 10),
 oN (.st 2 2 37),
 oN (.st 2 3 38),
 oM 4 (.c (.b true))]
def z6.r12:List Oper:=[
 oD 39 (.bin .add 28 (cI 1)),
 oM 28 39]
def z6.l0:Code:=.seq z6.r8 (.seq (.cond 29 (.skip) (.exit 2)) (.seq (.block 3 (.seq z6.r9 (.seq z6.r10 (.cond 36 (.seq (.draw z6.r11 [(0,1),(1,2)]) (.ret)) (.skip))))) z6.r12))
def z6.r13:List Oper:=[
 oD 40 (.bin .add 22 (cI 1)),
 oM 22 40]
def z6.l1:Code:=.seq z6.r5 (.seq (.cond 23 (.skip) (.exit 0)) (.seq (.block 1 (.seq z6.r6 (.seq z6.r7 (.block 2 (.loop z6.l0))))) z6.r13))
def z6.r14:List Oper:=[
 oD 41 (.build [.n 0,.n 0] []),
 oD 42 (.build [.n 0,.n 0] []),
 oN (.st 2 2 41),
 oN (.st 2 3 42),
 oM 4 (.c (.b false))]
def z6.code:Code:=.seq z6.r0 (.seq (.seq z6.r1 (.cond 13 (.seq z6.r2 (.ret)) (.skip))) (.seq z6.r3 (.seq (.seq z6.r4 (.block 0 (.loop z6.l1))) (.seq z6.r14 (.ret)))))
def z6:Func:=⟨43,[.cell 2 true 2,.cell 3 true 2,.t 4],z6.code⟩
/-! muntin/muntinref15.Pair -/
def ZL.r0:List Oper:=[
 oD 2 (.alloc [.n 0,.n 0]),
 oD 3 (.alloc [.n 0,.n 0]),
 oM 4 (.c (.b false))]
def ZL.r1:List Oper:=[
 oM 9 0,
 oC 10 20 [9],
 oM 5 10]
def ZL.r2:List Oper:=[
 oM 6 (cI 0)]
def ZL.r3:List Oper:=[
 oM 11 6,
 oM 12 5,
 oD 13 (.len 12),
 oD 14 (.bin .lss 11 13)]
def ZL.r5:List Oper:=[
 oM 7 (cI 0)]
def ZL.r6:List Oper:=[
 oM 17 7,
 oM 18 5,
 oD 19 (.len 18),
 oD 20 (.bin .lss 17 19)]
def ZL.r8:List Oper:=[
 oM 23 0,
 oM 24 5,
 oM 25 6,
 oD 26 (.ixa 2 24 25),
 oD 27 (.ld true 2 26),
 oM 28 5,
 oM 29 7,
 oD 30 (.ixa 2 28 29),
 oD 31 (.ld true 2 30),
 oC 32 23 [23,27,31],
 oM 8 32]
def ZL.r9:List Oper:=[
 oM 33 8,
 oD 34 (.eq false .sc 33 (cI 2))]
def ZL.r10:List Oper:=[
 oM 35 5,
 oM 36 6,
 oD 37 (.ixa 2 35 36),
 oD 38 (.ld true 2 37),
 oM 39 5,
 oM 40 7,
 oD 41 (.ixa 2 39 40),
 oD 42 (.ld true 2 41),
 oN (.st 2 2 38),
 oN (.st 2 3 42),
 oM 4 (.c (.b true))]
def ZL.r7:List Oper:=[
 oM 21 7,
 oD 22 (.bin .add 21 (cI 1)),
 oM 7 22]
def ZL.l0:Code:=.seq (.seq ZL.r6 (.cond 20 (.skip) (.exit 2))) (.seq (.block 3 (.seq (.draw ZL.r8 [(4,8)]) (.seq ZL.r9 (.cond 34 (.seq (.draw ZL.r10 [(3,7),(7,8)]) (.ret)) (.skip))))) ZL.r7)
def ZL.r4:List Oper:=[
 oM 15 6,
 oD 16 (.bin .add 15 (cI 1)),
 oM 6 16]
def ZL.l1:Code:=.seq (.seq ZL.r3 (.cond 14 (.skip) (.exit 0))) (.seq (.block 1 (.seq ZL.r5 (.block 2 (.loop ZL.l0)))) ZL.r4)
def ZL.r11:List Oper:=[
 oD 43 (.build [.n 0,.n 0] []),
 oD 44 (.build [.n 0,.n 0] []),
 oN (.st 2 2 43),
 oN (.st 2 3 44),
 oM 4 (.c (.b false))]
def ZL.code:Code:=.seq ZL.r0 (.seq ZL.r1 (.seq (.seq ZL.r2 (.block 0 (.loop ZL.l1))) (.seq ZL.r11 (.ret))))
def ZL:Func:=⟨45,[.cell 2 true 2,.cell 3 true 2,.t 4],ZL.code⟩
/-! muntin/muntinref10.Make -/
def Zj.r0:List Oper:=[
 oD 2 (.box 0),
 oM 4 (.c (.sn)),
 oM 5 (.c (.sn))]
def Zj.r1:List Oper:=[
 oM 6 (.c (.sn))]
def Zj.r2:List Oper:=[
 oM 7 (cI 0)]
def Zj.r3:List Oper:=[
 oM 18 7,
 oD 19 (.fa 0 2),
 oD 20 (.ld false 1 19),
 oD 21 (.len 20),
 oD 22 (.bin .lss 18 21),
 oM 23 22,
 oT 24 23 (.mv 6),
 oT 25 23 (.len 24),
 oT 26 23 (.mv 1),
 oT 27 23 (.bin .lss 25 26),
 oD 28 (.pick 23 27 (.c (.b false)))]
def Zj.r5:List Oper:=[
 oD 31 (.fa 0 2),
 oD 32 (.ld false 1 31),
 oM 33 7,
 oD 34 (.ixa 1 32 33),
 oD 35 (.ld false 1 34),
 oD 36 (.conv .i64 35),
 oD 37 (.bin .rem 36 (cI 8)),
 oD 38 (.fa 0 2),
 oD 39 (.ld false 1 38),
 oM 40 7,
 oD 41 (.ixa 1 39 40),
 oD 42 (.ld false 1 41),
 oD 43 (.conv .i64 42),
 oD 44 (.bin .quo 43 (cI 8)),
 oD 45 (.bin .rem 44 (cI 8)),
 oD 46 (.build [.n 0,.n 0] [(0,1,.t 37),(1,1,.t 45)]),
 oD 8 (.alloc [.n 0,.n 0]),
 oN (.st 2 8 46)]
def Zj.r6:List Oper:=[
 oM 9 (.c (.b false))]
def Zj.r7:List Oper:=[
 oM 10 (cI 0)]
def Zj.r8:List Oper:=[
 oM 47 10,
 oM 48 6,
 oD 49 (.len 48),
 oD 50 (.bin .lss 47 49)]
def Zj.r10:List Oper:=[
 oM 53 9,
 oM 54 53,
 oF 55 54 (.mv 6),
 oF 56 54 (.mv 10),
 oF 57 54 (.ixa 2 55 56),
 oF 58 54 (.ld true 2 57),
 oF 59 54 (.ld true 2 8),
 oF 60 54 (.eq false (.fl [.i,.i]) 58 59),
 oD 61 (.pick 54 (.c (.b true)) 60),
 oM 9 61]
def Zj.r9:List Oper:=[
 oM 51 10,
 oD 52 (.bin .add 51 (cI 1)),
 oM 10 52]
def Zj.l0:Code:=.seq (.seq Zj.r8 (.cond 50 (.skip) (.exit 2))) (.seq (.block 3 (.draw Zj.r10 [(5,6)])) Zj.r9)
def Zj.r11:List Oper:=[
 oM 62 9,
 oD 63 (.un .not 62)]
def Zj.r12:List Oper:=[
 oM 64 6,
 oD 65 (.ld true 2 8),
 oD 66 (.bsl 2 1 [.n 0,.n 0] [(0,2,.t 65)]),
 oD 67 (.app 2 16 64 66),
 oM 6 67]
def Zj.r4:List Oper:=[
 oM 29 7,
 oD 30 (.bin .add 29 (cI 1)),
 oM 7 30]
def Zj.l1:Code:=.seq (.seq Zj.r3 (.cond 28 (.skip) (.exit 0))) (.seq (.block 1 (.seq (.draw Zj.r5 [(1,8),(4,8),(1,11),(4,11),(1,16),(4,16),(8,16),(11,16)]) (.seq Zj.r6 (.seq (.seq Zj.r7 (.block 2 (.loop Zj.l0))) (.seq Zj.r11 (.cond 63 Zj.r12 (.skip))))))) Zj.r4)
def Zj.r13:List Oper:=[
 oM 68 6,
 oD 69 (.len 68),
 oC 70 46 [69],
 oM 11 70]
def Zj.r14:List Oper:=[
 oM 12 (cI 0)]
def Zj.r15:List Oper:=[
 oM 71 12,
 oM 72 6,
 oD 73 (.len 72),
 oD 74 (.bin .lss 71 73)]
def Zj.r17:List Oper:=[
 oM 13 (.c (.i .u8 3))]
def Zj.r18:List Oper:=[
 oM 77 12,
 oD 78 (.fa 1 2),
 oD 79 (.ld false 1 78),
 oD 80 (.len 79),
 oD 81 (.bin .lss 77 80)]
def Zj.r19:List Oper:=[
 oD 82 (.fa 1 2),
 oD 83 (.ld false 1 82),
 oM 84 12,
 oD 85 (.ixa 1 83 84),
 oD 86 (.ld false 1 85),
 oM 13 86]
def Zj.r20:List Oper:=[
 oM 87 12,
 oM 14 87]
def Zj.r21:List Oper:=[
 oM 88 12,
 oD 89 (.fa 2 2),
 oD 90 (.ld false 1 89),
 oD 91 (.len 90),
 oD 92 (.bin .lss 88 91)]
def Zj.r22:List Oper:=[
 oD 93 (.fa 2 2),
 oD 94 (.ld false 1 93),
 oM 95 12,
 oD 96 (.ixa 1 94 95),
 oD 97 (.ld false 1 96),
 oD 98 (.conv .i64 97),
 oM 14 98]
def Zj.r23:List Oper:=[
 oM 99 14,
 oD 100 (.bin .lss 99 (cI (-2)))]
def Zj.r24:List Oper:=[
 oM 101 14,
 oD 102 (.un .neg 101),
 oM 14 102]
def Zj.r25:List Oper:=[
 oM 15 (cI 0)]
def Zj.r26:List Oper:=[
 oM 103 15,
 oD 104 (.bin .lss 103 (cI 2))]
def Zj.r28:List Oper:=[
 oM 107 6,
 oM 108 12,
 oM 109 15,
 oC 110 63 [107,108,109],
 oM 16 110]
def Zj.r29:List Oper:=[
 oM 111 13,
 oM 112 15,
 oD 113 (.bin .shr 111 112),
 oD 114 (.bin .and 113 (.c (.i .u8 1))),
 oD 115 (.eq false .sc 114 (.c (.i .u8 0))),
 oM 116 115,
 oF 117 116 (.mv 16),
 oF 118 116 (.bin .lss 117 (cI 0)),
 oD 119 (.pick 116 (.c (.b true)) 118)]
def Zj.r30:List Oper:=[
 oM 120 6,
 oM 121 11,
 oM 122 12,
 oM 123 16,
 oC 124 64 [120,121,122,123],
 oM 17 124]
def Zj.r31:List Oper:=[
 oM 125 17,
 oD 126 (.un .not 125)]
def Zj.r32:List Oper:=[
 oM 127 11,
 oM 128 12,
 oM 129 15,
 oM 130 16,
 oM 131 14,
 oC 132 65 [127,128,129,130,131],
 oM 11 132]
def Zj.r27:List Oper:=[
 oM 105 15,
 oD 106 (.bin .add 105 (cI 1)),
 oM 15 106]
def Zj.l2:Code:=.seq (.seq Zj.r26 (.cond 104 (.skip) (.exit 6))) (.seq (.block 7 (.seq Zj.r28 (.seq (.seq Zj.r29 (.cond 119 (.exit 7) (.skip))) (.seq Zj.r30 (.seq Zj.r31 (.cond 126 Zj.r32 (.skip))))))) Zj.r27)
def Zj.r16:List Oper:=[
 oM 75 12,
 oD 76 (.bin .add 75 (cI 1)),
 oM 12 76]
def Zj.l3:Code:=.seq (.seq Zj.r15 (.cond 74 (.skip) (.exit 4))) (.seq (.block 5 (.seq Zj.r17 (.seq (.seq Zj.r18 (.cond 81 Zj.r19 (.skip))) (.seq Zj.r20 (.seq (.seq Zj.r21 (.cond 92 (.seq Zj.r22 (.seq Zj.r23 (.cond 100 Zj.r24 (.skip)))) (.skip))) (.seq Zj.r25 (.block 6 (.loop Zj.l2)))))))) Zj.r16)
def Zj.r33:List Oper:=[
 oM 133 11,
 oM 134 6,
 oM 4 133,
 oM 5 134]
def Zj.code:Code:=.seq Zj.r0 (.seq Zj.r1 (.seq (.seq Zj.r2 (.block 0 (.loop Zj.l1))) (.seq Zj.r13 (.seq (.seq Zj.r14 (.block 4 (.loop Zj.l3))) (.seq Zj.r33 (.ret))))))
def Zj:Func:=⟨135,[.t 4,.t 5],Zj.code⟩
/-! muntin/join.Parts -/
def ZN.r0:List Oper:=[
 oM 2 (.c (.sn)),
 oM 3 (cI 0)]
def ZN.r1:List Oper:=[
 oM 12 0,
 oC 13 66 [12],
 oM 4 13]
def ZN.r2:List Oper:=[
 oM 14 4,
 oD 15 (.eq true .sc 14 (cI 0))]
def ZN.r3:List Oper:=[
 oM 16 4,
 oM 2 (.c (.sn)),
 oM 3 16]
def ZN.r4:List Oper:=[
 oM 5 (.c (.sn))]
def ZN.r5:List Oper:=[
 oM 17 0,
 oD 18 (.len 17),
 oD 19 (.mks 1 1 [.b false] 18 18),
 oM 6 19]
def ZN.r6:List Oper:=[
 oM 20 0,
 oD 21 (.len 20),
 oM 22 (cI 0)]
def ZN.r7:List Oper:=[
 oD 23 (.bin .lss 22 21)]
def ZN.r8:List Oper:=[
 oM 24 22,
 oM 7 24]
def ZN.r9:List Oper:=[
 oM 25 6,
 oM 26 7,
 oD 27 (.ixa 1 25 26),
 oD 28 (.ld false 1 27)]
def ZN.r10:List Oper:=[
 oM 30 0,
 oM 31 7,
 oC 32 67 [30,31],
 oM 29 32,
 oD 33 (.ext 29 0),
 oD 34 (.ext 29 1),
 oM 8 33,
 oM 9 34]
def ZN.r11:List Oper:=[
 oD 35 (.bsl 1 0 [.n 0] []),
 oM 10 35]
def ZN.r12:List Oper:=[
 oM 36 0,
 oD 37 (.len 36),
 oM 38 (cI 0)]
def ZN.r13:List Oper:=[
 oD 39 (.bin .lss 38 37)]
def ZN.r14:List Oper:=[
 oM 40 38,
 oM 11 40]
def ZN.r15:List Oper:=[
 oM 41 11,
 oM 42 7,
 oD 43 (.eq false .sc 41 42),
 oM 44 43,
 oF 45 44 (.mv 9),
 oF 46 44 (.mv 11),
 oF 47 44 (.ixa 1 45 46),
 oF 48 44 (.ld false 1 47),
 oF 49 44 (.bin .geq 48 (cI 0)),
 oD 50 (.pick 44 (.c (.b true)) 49)]
def ZN.r16:List Oper:=[
 oM 51 6,
 oM 52 11,
 oD 53 (.ixa 1 51 52),
 oN (.st 1 53 (.c (.b true)))]
def ZN.r17:List Oper:=[
 oM 54 10,
 oM 55 11,
 oD 56 (.bsl 1 1 [.n 0] [(0,1,.t 55)]),
 oD 57 (.app 1 8 54 56),
 oM 10 57]
def ZN.r18:List Oper:=[
 oD 58 (.bin .add 38 (cI 1)),
 oM 38 58]
def ZN.l0:Code:=.seq ZN.r13 (.seq (.cond 39 (.skip) (.exit 2)) (.seq (.block 3 (.seq ZN.r14 (.seq ZN.r15 (.cond 50 (.seq ZN.r16 ZN.r17) (.skip))))) ZN.r18))
def ZN.r19:List Oper:=[
 oM 59 5,
 oM 60 10,
 oD 61 (.bsl 1 1 [.sn] [(0,1,.t 60)]),
 oD 62 (.app 1 24 59 61),
 oM 5 62]
def ZN.r20:List Oper:=[
 oD 63 (.bin .add 22 (cI 1)),
 oM 22 63]
def ZN.l1:Code:=.seq ZN.r7 (.seq (.cond 23 (.skip) (.exit 0)) (.seq (.block 1 (.seq ZN.r8 (.seq (.seq ZN.r9 (.cond 28 (.exit 1) (.skip))) (.seq ZN.r10 (.seq ZN.r11 (.seq (.seq ZN.r12 (.block 2 (.loop ZN.l0))) ZN.r19)))))) ZN.r20))
def ZN.r21:List Oper:=[
 oM 64 5,
 oM 2 64,
 oM 3 (cI 0)]
def ZN.code:Code:=.seq ZN.r0 (.seq (.seq ZN.r1 (.seq ZN.r2 (.cond 15 (.seq ZN.r3 (.ret)) (.skip)))) (.seq ZN.r4 (.seq ZN.r5 (.seq (.seq ZN.r6 (.block 0 (.loop ZN.l1))) (.seq ZN.r21 (.ret))))))
def ZN:Func:=⟨65,[.t 2,.t 3],ZN.code⟩
/-! muntin/muntinref13.Parts -/
def Z8.r0:List Oper:=[
 oM 2 (.c (.sn))]
def Z8.r1:List Oper:=[
 oM 9 0,
 oD 10 (.len 9),
 oD 11 (.mks 1 1 [.b false] 10 10),
 oM 3 11]
def Z8.r2:List Oper:=[
 oM 4 (.c (.sn))]
def Z8.r3:List Oper:=[
 oM 5 (cI 0)]
def Z8.r4:List Oper:=[
 oM 12 5,
 oM 13 0,
 oD 14 (.len 13),
 oD 15 (.bin .lss 12 14)]
def Z8.r6:List Oper:=[
 oM 18 3,
 oM 19 5,
 oD 20 (.ixa 1 18 19),
 oD 21 (.ld false 1 20)]
def Z8.r7:List Oper:=[
 oM 22 0,
 oM 23 5,
 oC 24 36 [22,23],
 oM 6 24]
def Z8.r8:List Oper:=[
 oM 7 (.c (.sn))]
def Z8.r9:List Oper:=[
 oM 8 (cI 0)]
def Z8.r10:List Oper:=[
 oM 25 8,
 oM 26 0,
 oD 27 (.len 26),
 oD 28 (.bin .lss 25 27)]
def Z8.r12:List Oper:=[
 oM 31 6,
 oM 32 8,
 oD 33 (.ixa 1 31 32),
 oD 34 (.ld false 1 33),
 oD 35 (.bin .geq 34 (cI 0))]
def Z8.r13:List Oper:=[
 oM 36 3,
 oM 37 8,
 oD 38 (.ixa 1 36 37),
 oN (.st 1 38 (.c (.b true)))]
def Z8.r14:List Oper:=[
 oM 39 7,
 oM 40 8,
 oD 41 (.bsl 1 1 [.n 0] [(0,1,.t 40)]),
 oD 42 (.app 1 8 39 41),
 oM 7 42]
def Z8.r11:List Oper:=[
 oM 29 8,
 oD 30 (.bin .add 29 (cI 1)),
 oM 8 30]
def Z8.l0:Code:=.seq (.seq Z8.r10 (.cond 28 (.skip) (.exit 2))) (.seq (.block 3 (.seq Z8.r12 (.cond 35 (.seq Z8.r13 Z8.r14) (.skip)))) Z8.r11)
def Z8.r15:List Oper:=[
 oM 43 4,
 oM 44 7,
 oD 45 (.bsl 1 1 [.sn] [(0,1,.t 44)]),
 oD 46 (.app 1 24 43 45),
 oM 4 46]
def Z8.r5:List Oper:=[
 oM 16 5,
 oD 17 (.bin .add 16 (cI 1)),
 oM 5 17]
def Z8.l1:Code:=.seq (.seq Z8.r4 (.cond 15 (.skip) (.exit 0))) (.seq (.block 1 (.seq (.seq Z8.r6 (.cond 21 (.exit 1) (.skip))) (.seq Z8.r7 (.seq Z8.r8 (.seq (.seq Z8.r9 (.block 2 (.loop Z8.l0))) Z8.r15))))) Z8.r5)
def Z8.r16:List Oper:=[
 oM 47 4,
 oM 2 47]
def Z8.code:Code:=.seq Z8.r0 (.seq Z8.r1 (.seq Z8.r2 (.seq (.seq Z8.r3 (.block 0 (.loop Z8.l1))) (.seq Z8.r16 (.ret)))))
def Z8:Func:=⟨48,[.t 2],Z8.code⟩
/-! muntin/join.Whole -/
def Zcj.r0:List Oper:=[
 oM 2 (.c (.b false))]
def Zcj.r1:List Oper:=[
 oM 6 0,
 oC 7 29 [6],
 oM 5 7,
 oD 8 (.ext 5 0),
 oD 9 (.ext 5 1),
 oM 3 8,
 oM 4 9]
def Zcj.r2:List Oper:=[
 oM 10 4,
 oD 11 (.eq false .sc 10 (cI 0)),
 oM 12 11,
 oT 13 12 (.mv 3),
 oT 14 12 (.len 13),
 oT 15 12 (.eq false .sc 14 (cI 1)),
 oD 16 (.pick 12 15 (.c (.b false))),
 oM 2 16]
def Zcj.code:Code:=.seq Zcj.r0 (.seq Zcj.r1 (.seq Zcj.r2 (.ret)))
def Zcj:Func:=⟨17,[.t 2],Zcj.code⟩
/-! muntin/muntinref10.Check -/
def Zv.r0:List Oper:=[
 oM 2 (cI 0)]
def Zv.r1:List Oper:=[
 oM 7 0,
 oD 8 (.len 7),
 oD 9 (.bin .gtr 8 (cI 4096))]
def Zv.r2:List Oper:=[
 oM 2 (cI 6)]
def Zv.r3:List Oper:=[
 oM 3 (cI 0)]
def Zv.r4:List Oper:=[
 oM 10 3,
 oM 11 0,
 oD 12 (.len 11),
 oD 13 (.bin .lss 10 12)]
def Zv.r6:List Oper:=[
 oM 4 (cI 0)]
def Zv.r7:List Oper:=[
 oM 16 4,
 oD 17 (.bin .lss 16 (cI 4))]
def Zv.r9:List Oper:=[
 oM 20 0,
 oM 21 3,
 oM 22 4,
 oD 23 (.ixa 8 20 21),
 oD 24 (.fa 0 23),
 oD 25 (.ixaa 1 4 24 22),
 oD 26 (.ld false 1 25),
 oM 5 26]
def Zv.r10:List Oper:=[
 oM 27 0,
 oM 28 3,
 oM 29 4,
 oD 30 (.ixa 8 27 28),
 oD 31 (.fa 4 30),
 oD 32 (.ixaa 1 4 31 29),
 oD 33 (.ld false 1 32),
 oM 6 33]
def Zv.r11:List Oper:=[
 oM 34 5,
 oD 35 (.eq false .sc 34 (cI (-1)))]
def Zv.r12:List Oper:=[
 oM 36 6,
 oD 37 (.eq true .sc 36 (cI 0))]
def Zv.r13:List Oper:=[
 oM 2 (cI 9)]
def Zv.r14:List Oper:=[
 oM 38 5,
 oD 39 (.bin .lss 38 (cI 0)),
 oM 40 39,
 oF 41 40 (.mv 5),
 oF 42 40 (.mv 0),
 oF 43 40 (.len 42),
 oF 44 40 (.bin .geq 41 43),
 oD 45 (.pick 40 (.c (.b true)) 44),
 oM 46 45,
 oF 47 46 (.mv 5),
 oF 48 46 (.mv 3),
 oF 49 46 (.eq false .sc 47 48),
 oD 50 (.pick 46 (.c (.b true)) 49)]
def Zv.r15:List Oper:=[
 oM 2 (cI 3)]
def Zv.r16:List Oper:=[
 oM 51 0,
 oM 52 5,
 oM 53 4,
 oD 54 (.bin .add 53 (cI 2)),
 oD 55 (.bin .rem 54 (cI 4)),
 oD 56 (.ixa 8 51 52),
 oD 57 (.fa 0 56),
 oD 58 (.ixaa 1 4 57 55),
 oD 59 (.ld false 1 58),
 oM 60 3,
 oD 61 (.eq true .sc 59 60),
 oM 62 61,
 oF 63 62 (.mv 0),
 oF 64 62 (.mv 5),
 oF 65 62 (.mv 4),
 oF 66 62 (.bin .add 65 (cI 2)),
 oF 67 62 (.bin .rem 66 (cI 4)),
 oF 68 62 (.ixa 8 63 64),
 oF 69 62 (.fa 4 68),
 oF 70 62 (.ixaa 1 4 69 67),
 oF 71 62 (.ld false 1 70),
 oF 72 62 (.mv 6),
 oF 73 62 (.eq true .sc 71 72),
 oD 74 (.pick 62 (.c (.b true)) 73),
 oM 75 74,
 oF 76 75 (.mv 6),
 oF 77 75 (.bin .lss 76 (cI (-2))),
 oD 78 (.pick 75 (.c (.b true)) 77)]
def Zv.r17:List Oper:=[
 oM 2 (cI 9)]
def Zv.r8:List Oper:=[
 oM 18 4,
 oD 19 (.bin .add 18 (cI 1)),
 oM 4 19]
def Zv.l0:Code:=.seq (.seq Zv.r7 (.cond 17 (.skip) (.exit 2))) (.seq (.block 3 (.seq Zv.r9 (.seq Zv.r10 (.seq (.seq Zv.r11 (.cond 35 (.seq (.seq Zv.r12 (.cond 37 (.seq Zv.r13 (.ret)) (.skip))) (.exit 3)) (.skip))) (.seq (.seq Zv.r14 (.cond 50 (.seq Zv.r15 (.ret)) (.skip))) (.seq Zv.r16 (.cond 78 (.seq Zv.r17 (.ret)) (.skip)))))))) Zv.r8)
def Zv.r5:List Oper:=[
 oM 14 3,
 oD 15 (.bin .add 14 (cI 1)),
 oM 3 15]
def Zv.l1:Code:=.seq (.seq Zv.r4 (.cond 13 (.skip) (.exit 0))) (.seq (.block 1 (.seq Zv.r6 (.block 2 (.loop Zv.l0)))) Zv.r5)
def Zv.r18:List Oper:=[
 oM 2 (cI 0)]
def Zv.code:Code:=.seq Zv.r0 (.seq (.seq Zv.r1 (.cond 9 (.seq Zv.r2 (.ret)) (.skip))) (.seq (.seq Zv.r3 (.block 0 (.loop Zv.l1))) (.seq Zv.r18 (.ret))))
def Zv:Func:=⟨79,[.t 2],Zv.code⟩
/-! muntin/muntinref13.Far -/
def Zz.r0:List Oper:=[
 oM 4 (.c (.sn))]
def Zz.r1:List Oper:=[
 oM 11 0,
 oD 12 (.len 11),
 oD 13 (.mks 1 8 [.n 0] 12 12),
 oM 5 13]
def Zz.r2:List Oper:=[
 oM 6 (cI 0)]
def Zz.r3:List Oper:=[
 oM 14 6,
 oM 15 0,
 oD 16 (.len 15),
 oD 17 (.bin .lss 14 16)]
def Zz.r5:List Oper:=[
 oM 20 5,
 oM 21 6,
 oD 22 (.ixa 1 20 21),
 oN (.st 1 22 (cI (-1)))]
def Zz.r4:List Oper:=[
 oM 18 6,
 oD 19 (.bin .add 18 (cI 1)),
 oM 6 19]
def Zz.l0:Code:=.seq (.seq Zz.r3 (.cond 17 (.skip) (.exit 0))) (.seq (.block 1 Zz.r5) Zz.r4)
def Zz.r6:List Oper:=[
 oM 23 5,
 oM 24 1,
 oD 25 (.ixa 1 23 24),
 oN (.st 1 25 (cI 0))]
def Zz.r7:List Oper:=[
 oM 7 (cI 0)]
def Zz.r8:List Oper:=[
 oM 26 7,
 oM 27 0,
 oD 28 (.len 27),
 oD 29 (.bin .lss 26 28)]
def Zz.r10:List Oper:=[
 oM 8 (cI 0)]
def Zz.r11:List Oper:=[
 oM 32 8,
 oM 33 0,
 oD 34 (.len 33),
 oD 35 (.bin .lss 32 34)]
def Zz.r13:List Oper:=[
 oM 9 (cI 0)]
def Zz.r14:List Oper:=[
 oM 38 9,
 oD 39 (.bin .lss 38 (cI 4))]
def Zz.r16:List Oper:=[
 oM 42 0,
 oM 43 8,
 oM 44 9,
 oD 45 (.ixa 8 42 43),
 oD 46 (.fa 0 45),
 oD 47 (.ixaa 1 4 46 44),
 oD 48 (.ld false 1 47),
 oM 10 48]
def Zz.r17:List Oper:=[
 oM 49 5,
 oM 50 8,
 oD 51 (.ixa 1 49 50),
 oD 52 (.ld false 1 51),
 oM 53 7,
 oD 54 (.eq false .sc 52 53),
 oM 55 54,
 oT 56 55 (.mv 10),
 oT 57 55 (.bin .geq 56 (cI 0)),
 oD 58 (.pick 55 57 (.c (.b false))),
 oM 59 58,
 oT 60 59 (.mv 5),
 oT 61 59 (.mv 10),
 oT 62 59 (.mx [61,.c (.n 0)]),
 oT 63 59 (.ixa 1 60 62),
 oT 64 59 (.ld false 1 63),
 oT 65 59 (.bin .lss 64 (cI 0)),
 oD 66 (.pick 59 65 (.c (.b false)))]
def Zz.r18:List Oper:=[
 oM 67 5,
 oM 68 10,
 oM 69 7,
 oD 70 (.bin .add 69 (cI 1)),
 oD 71 (.ixa 1 67 68),
 oN (.st 1 71 70)]
def Zz.r15:List Oper:=[
 oM 40 9,
 oD 41 (.bin .add 40 (cI 1)),
 oM 9 41]
def Zz.l1:Code:=.seq (.seq Zz.r14 (.cond 39 (.skip) (.exit 6))) (.seq (.block 7 (.seq Zz.r16 (.seq Zz.r17 (.cond 66 Zz.r18 (.skip))))) Zz.r15)
def Zz.r12:List Oper:=[
 oM 36 8,
 oD 37 (.bin .add 36 (cI 1)),
 oM 8 37]
def Zz.l2:Code:=.seq (.seq Zz.r11 (.cond 35 (.skip) (.exit 4))) (.seq (.block 5 (.seq Zz.r13 (.block 6 (.loop Zz.l1)))) Zz.r12)
def Zz.r9:List Oper:=[
 oM 30 7,
 oD 31 (.bin .add 30 (cI 1)),
 oM 7 31]
def Zz.l3:Code:=.seq (.seq Zz.r8 (.cond 29 (.skip) (.exit 2))) (.seq (.block 3 (.seq Zz.r10 (.block 4 (.loop Zz.l2)))) Zz.r9)
def Zz.r19:List Oper:=[
 oM 72 5,
 oM 4 72]
def Zz.code:Code:=.seq Zz.r0 (.seq Zz.r1 (.seq (.seq Zz.r2 (.block 0 (.loop Zz.l0))) (.seq Zz.r6 (.seq (.seq Zz.r7 (.block 2 (.loop Zz.l3))) (.seq Zz.r19 (.ret))))))
def Zz:Func:=⟨73,[.t 4],Zz.code⟩
/-! muntin/muntinref10.New -/
def zm.r0:List Oper:=[
 oM 2 (.c (.sn))]
def zm.r1:List Oper:=[
 oM 6 0,
 oD 7 (.mks 8 64 [.n 0,.n 0,.n 0,.n 0,.n 0,.n 0,.n 0,.n 0] 6 6),
 oM 3 7]
def zm.r2:List Oper:=[
 oM 4 (cI 0)]
def zm.r3:List Oper:=[
 oM 8 4,
 oM 9 0,
 oD 10 (.bin .lss 8 9)]
def zm.r5:List Oper:=[
 oM 5 (cI 0)]
def zm.r6:List Oper:=[
 oM 13 5,
 oD 14 (.bin .lss 13 (cI 4))]
def zm.r8:List Oper:=[
 oM 17 3,
 oM 18 4,
 oM 19 5,
 oD 20 (.ixa 8 17 18),
 oD 21 (.fa 0 20),
 oD 22 (.ixaa 1 4 21 19),
 oN (.st 1 22 (cI (-1)))]
def zm.r7:List Oper:=[
 oM 15 5,
 oD 16 (.bin .add 15 (cI 1)),
 oM 5 16]
def zm.l0:Code:=.seq (.seq zm.r6 (.cond 14 (.skip) (.exit 2))) (.seq (.block 3 zm.r8) zm.r7)
def zm.r4:List Oper:=[
 oM 11 4,
 oD 12 (.bin .add 11 (cI 1)),
 oM 4 12]
def zm.l1:Code:=.seq (.seq zm.r3 (.cond 10 (.skip) (.exit 0))) (.seq (.block 1 (.seq zm.r5 (.block 2 (.loop zm.l0)))) zm.r4)
def zm.r9:List Oper:=[
 oM 23 3,
 oM 2 23]
def zm.code:Code:=.seq zm.r0 (.seq zm.r1 (.seq (.seq zm.r2 (.block 0 (.loop zm.l1))) (.seq zm.r9 (.ret))))
def zm:Func:=⟨24,[.t 2],zm.code⟩
/-! slices.Clone[[]muntin/api.Cell,muntin/api.Cell] -/
def Zan.r0:List Oper:=[
 oM 2 (.c (.sn))]
def Zan.r1:List Oper:=[
 oM 3 0,
 oD 4 (.eq false .sl 3 (.c (.sn)))]
def Zan.r2:List Oper:=[
 oM 2 (.c (.sn))]
def Zan.r3:List Oper:=[
 oD 5 (.bsl 8 0 [.n 0,.n 0,.n 0,.n 0,.n 0,.n 0,.n 0,.n 0] []),
 oM 6 0,
 oD 7 (.app 8 64 5 6),
 oM 2 7]
def Zan.code:Code:=.seq Zan.r0 (.seq (.seq Zan.r1 (.cond 4 (.seq Zan.r2 (.ret)) (.skip))) (.seq Zan.r3 (.ret)))
def Zan:Func:=⟨8,[.t 2],Zan.code⟩
/-! (*muntin/grid.Grid).Join -/
def zW.r0:List Oper:=[
 oM 10 (cI 0)]
def zW.r1:List Oper:=[
 oM 12 0,
 oD 13 (.eq false .pt 12 (.c (.pn))),
 oM 11 13]
def zW.r2:List Oper:=[
 oM 10 (cI 1)]
def zW.r3:List Oper:=[
 oM 15 0,
 oM 16 1,
 oM 17 2,
 oC 18 75 [15,16,17],
 oD 19 (.un .not 18),
 oM 20 19,
 oF 21 20 (.mv 0),
 oF 22 20 (.mv 3),
 oF 23 20 (.mv 2),
 oF 24 20 (.call (.c (.f 75 [])) [21,22,23]),
 oF 25 20 (.un .not 24),
 oD 26 (.pick 20 (.c (.b true)) 25),
 oM 27 26,
 oF 28 27 (.mv 1),
 oF 29 27 (.mv 3),
 oF 30 27 (.eq false .sc 28 29),
 oD 31 (.pick 27 (.c (.b true)) 30),
 oM 32 31,
 oF 33 32 (.mv 4),
 oF 34 32 (.bin .lss 33 (cI (-2))),
 oD 35 (.pick 32 (.c (.b true)) 34),
 oM 14 35]
def zW.r4:List Oper:=[
 oM 10 (cI 2)]
def zW.r5:List Oper:=[
 oM 37 0,
 oD 38 (.nilck 37),
 oD 39 (.fa 0 38),
 oD 40 (.ld false 1 39),
 oM 41 1,
 oM 42 2,
 oD 43 (.ixa 8 40 41),
 oD 44 (.fa 0 43),
 oD 45 (.ixaa 1 4 44 42),
 oD 46 (.ld false 1 45),
 oD 47 (.eq true .sc 46 (cI (-1))),
 oM 48 47,
 oF 49 48 (.mv 0),
 oF 50 48 (.nilck 49),
 oF 51 48 (.fa 0 50),
 oF 52 48 (.ld false 1 51),
 oF 53 48 (.mv 3),
 oF 54 48 (.mv 2),
 oF 55 48 (.call (.c (.f 77 [])) [54,.c (.n 2)]),
 oF 56 48 (.ixa 8 52 53),
 oF 57 48 (.fa 0 56),
 oF 58 48 (.ixaa 1 4 57 55),
 oF 59 48 (.ld false 1 58),
 oF 60 48 (.eq true .sc 59 (cI (-1))),
 oD 61 (.pick 48 (.c (.b true)) 60),
 oM 36 61]
def zW.r6:List Oper:=[
 oM 10 (cI 9)]
def zW.r7:List Oper:=[
 oM 62 0,
 oM 63 1,
 oM 64 2,
 oM 65 3,
 oM 66 4,
 oC 67 76 [62,63,64,65,66]]
def zW.r8:List Oper:=[
 oM 10 (cI 0)]
def zW.code:Code:=.seq zW.r0 (.seq (.block 0 (.seq zW.r1 (.cond 11 (.seq zW.r2 (.ret)) (.seq zW.r3 (.cond 14 (.seq zW.r4 (.ret)) (.seq (.draw zW.r5 [(15,18)]) (.cond 36 (.seq zW.r6 (.ret)) (.skip)))))))) (.seq zW.r7 (.seq zW.r8 (.ret))))
def zW:Func:=⟨68,[.t 10],zW.code⟩
/-! muntin/muntinref10.Join -/
def Zac.r0:List Oper:=[
 oM 10 (.c (.sn)),
 oM 11 (cI 0)]
def Zac.r1:List Oper:=[
 oM 13 1,
 oD 14 (.bin .lss 13 (cI 0)),
 oM 15 14,
 oF 16 15 (.mv 1),
 oF 17 15 (.mv 0),
 oF 18 15 (.len 17),
 oF 19 15 (.bin .geq 16 18),
 oD 20 (.pick 15 (.c (.b true)) 19),
 oM 21 20,
 oF 22 21 (.mv 3),
 oF 23 21 (.bin .lss 22 (cI 0)),
 oD 24 (.pick 21 (.c (.b true)) 23),
 oM 25 24,
 oF 26 25 (.mv 3),
 oF 27 25 (.mv 0),
 oF 28 25 (.len 27),
 oF 29 25 (.bin .geq 26 28),
 oD 30 (.pick 25 (.c (.b true)) 29),
 oM 31 30,
 oF 32 31 (.mv 1),
 oF 33 31 (.mv 3),
 oF 34 31 (.eq false .sc 32 33),
 oD 35 (.pick 31 (.c (.b true)) 34),
 oM 36 35,
 oF 37 36 (.mv 2),
 oF 38 36 (.bin .lss 37 (cI 0)),
 oD 39 (.pick 36 (.c (.b true)) 38),
 oM 40 39,
 oF 41 40 (.mv 2),
 oF 42 40 (.bin .gtr 41 (cI 3)),
 oD 43 (.pick 40 (.c (.b true)) 42),
 oM 44 43,
 oF 45 44 (.mv 4),
 oF 46 44 (.bin .lss 45 (cI (-2))),
 oD 47 (.pick 44 (.c (.b true)) 46)]
def Zac.r2:List Oper:=[
 oM 48 0,
 oM 10 48,
 oM 11 (cI 2)]
def Zac.r3:List Oper:=[
 oM 49 0,
 oM 50 1,
 oM 51 2,
 oD 52 (.ixa 8 49 50),
 oD 53 (.fa 0 52),
 oD 54 (.ixaa 1 4 53 51),
 oD 55 (.ld false 1 54),
 oD 56 (.eq true .sc 55 (cI (-1))),
 oM 57 56,
 oF 58 57 (.mv 0),
 oF 59 57 (.mv 3),
 oF 60 57 (.mv 2),
 oF 61 57 (.bin .add 60 (cI 2)),
 oF 62 57 (.bin .rem 61 (cI 4)),
 oF 63 57 (.ixa 8 58 59),
 oF 64 57 (.fa 0 63),
 oF 65 57 (.ixaa 1 4 64 62),
 oF 66 57 (.ld false 1 65),
 oF 67 57 (.eq true .sc 66 (cI (-1))),
 oD 68 (.pick 57 (.c (.b true)) 67)]
def Zac.r4:List Oper:=[
 oM 69 0,
 oM 10 69,
 oM 11 (cI 9)]
def Zac.r5:List Oper:=[
 oM 70 0,
 oM 71 1,
 oM 72 2,
 oM 73 3,
 oM 74 4,
 oC 75 65 [70,71,72,73,74],
 oM 12 75]
def Zac.r6:List Oper:=[
 oM 76 12,
 oM 10 76,
 oM 11 (cI 0)]
def Zac.code:Code:=.seq Zac.r0 (.seq (.seq Zac.r1 (.cond 47 (.seq Zac.r2 (.ret)) (.skip))) (.seq (.seq Zac.r3 (.cond 68 (.seq Zac.r4 (.ret)) (.skip))) (.seq Zac.r5 (.seq Zac.r6 (.ret)))))
def Zac:Func:=⟨77,[.t 10,.t 11],Zac.code⟩
/-! (*muntin/grid.Grid).Len -/
def Zbq.r0:List Oper:=[
 oM 2 (cI 0)]
def Zbq.r1:List Oper:=[
 oM 3 0,
 oD 4 (.eq false .pt 3 (.c (.pn)))]
def Zbq.r2:List Oper:=[
 oM 2 (cI 0)]
def Zbq.r3:List Oper:=[
 oM 5 0,
 oD 6 (.nilck 5),
 oD 7 (.fa 0 6),
 oD 8 (.ld false 1 7),
 oD 9 (.len 8),
 oM 2 9]
def Zbq.code:Code:=.seq Zbq.r0 (.seq (.seq Zbq.r1 (.cond 4 (.seq Zbq.r2 (.ret)) (.skip))) (.seq Zbq.r3 (.ret)))
def Zbq:Func:=⟨10,[.t 2],Zbq.code⟩
/-! muntin/muntinref10.Same -/
def zz.r0:List Oper:=[
 oM 4 (.c (.b false))]
def zz.r1:List Oper:=[
 oM 6 0,
 oD 7 (.len 6),
 oM 8 1,
 oD 9 (.len 8),
 oD 10 (.eq true .sc 7 9)]
def zz.r2:List Oper:=[
 oM 4 (.c (.b false))]
def zz.r3:List Oper:=[
 oM 5 (cI 0)]
def zz.r4:List Oper:=[
 oM 11 5,
 oM 12 0,
 oD 13 (.len 12),
 oD 14 (.bin .lss 11 13)]
def zz.r6:List Oper:=[
 oM 17 0,
 oM 18 5,
 oD 19 (.ixa 8 17 18),
 oD 20 (.ld true 8 19),
 oM 21 1,
 oM 22 5,
 oD 23 (.ixa 8 21 22),
 oD 24 (.ld true 8 23),
 oD 25 (.eq true (.fl [.i,.i,.i,.i,.i,.i,.i,.i]) 20 24)]
def zz.r7:List Oper:=[
 oM 4 (.c (.b false))]
def zz.r5:List Oper:=[
 oM 15 5,
 oD 16 (.bin .add 15 (cI 1)),
 oM 5 16]
def zz.l0:Code:=.seq (.seq zz.r4 (.cond 14 (.skip) (.exit 0))) (.seq (.block 1 (.seq (.draw zz.r6 [(3,7)]) (.cond 25 (.seq zz.r7 (.ret)) (.skip)))) zz.r5)
def zz.r8:List Oper:=[
 oM 4 (.c (.b true))]
def zz.code:Code:=.seq zz.r0 (.seq (.seq zz.r1 (.cond 10 (.seq zz.r2 (.ret)) (.skip))) (.seq (.seq zz.r3 (.block 0 (.loop zz.l0))) (.seq zz.r8 (.ret))))
def zz:Func:=⟨26,[.t 4],zz.code⟩
/-! (*muntin/grid.Grid).Cells -/
def ZaR.r0:List Oper:=[
 oM 2 (.c (.sn))]
def ZaR.r1:List Oper:=[
 oM 3 0,
 oD 4 (.eq false .pt 3 (.c (.pn)))]
def ZaR.r2:List Oper:=[
 oM 2 (.c (.sn))]
def ZaR.r3:List Oper:=[
 oM 5 0,
 oD 6 (.nilck 5),
 oD 7 (.fa 0 6),
 oD 8 (.ld false 1 7),
 oC 9 51 [8],
 oM 2 9]
def ZaR.code:Code:=.seq ZaR.r0 (.seq (.seq ZaR.r1 (.cond 4 (.seq ZaR.r2 (.ret)) (.skip))) (.seq ZaR.r3 (.ret)))
def ZaR:Func:=⟨10,[.t 2],ZaR.code⟩
/-! muntin/kitty.right -/
def Zcu.r0:List Oper:=[
 oM 2 (.c (.b false))]
def Zcu.r1:List Oper:=[
 oM 3 0,
 oC 4 78 [3,.c (.f 80 [])],
 oD 5 (.un .not 4),
 oM 2 5]
def Zcu.code:Code:=.seq Zcu.r0 (.seq Zcu.r1 (.ret))
def Zcu:Func:=⟨6,[.t 2],Zcu.code⟩
/-! muntin/kitty.rot -/
def ZbO.r0:List Oper:=[
 oD 4 (.box 1),
 oD 5 (.box 2),
 oM 6 (cI 0)]
def ZbO.r1:List Oper:=[
 oM 8 0,
 oD 9 (.fa 0 5),
 oD 10 (.ld false 1 9),
 oD 11 (.ixa 1 8 10),
 oD 12 (.ld false 1 11),
 oD 13 (.fa 1 5),
 oD 14 (.ld false 1 13),
 oD 15 (.bin .sub 12 14),
 oM 16 0,
 oD 17 (.fa 0 4),
 oD 18 (.ld false 1 17),
 oD 19 (.ixa 1 16 18),
 oD 20 (.ld false 1 19),
 oD 21 (.fa 1 4),
 oD 22 (.ld false 1 21),
 oD 23 (.bin .sub 20 22),
 oD 24 (.bin .sub 15 23),
 oM 7 24]
def ZbO.r2:List Oper:=[
 oD 25 (.fa 0 5),
 oD 26 (.ld false 1 25),
 oD 27 (.fa 0 4),
 oD 28 (.ld false 1 27),
 oD 29 (.bin .lss 26 28),
 oM 30 29,
 oF 31 30 (.fa 0 5),
 oF 32 30 (.ld false 1 31),
 oF 33 30 (.fa 0 4),
 oF 34 30 (.ld false 1 33),
 oF 35 30 (.eq false .sc 32 34),
 oF 36 30 (.mv 35),
 oT 37 36 (.fa 1 5),
 oT 38 36 (.ld false 1 37),
 oT 39 36 (.fa 1 4),
 oT 40 36 (.ld false 1 39),
 oT 41 36 (.bin .lss 38 40),
 oF 42 30 (.pick 36 41 (.c (.b false))),
 oD 43 (.pick 30 (.c (.b true)) 42)]
def ZbO.r3:List Oper:=[
 oM 44 7,
 oM 45 0,
 oM 46 0,
 oD 47 (.len 46),
 oD 48 (.bin .sub 47 (cI 1)),
 oD 49 (.ixa 1 45 48),
 oD 50 (.ld false 1 49),
 oD 51 (.bin .add 44 50),
 oM 7 51]
def ZbO.r4:List Oper:=[
 oM 52 7,
 oM 6 52]
def ZbO.code:Code:=.seq ZbO.r0 (.seq (.draw ZbO.r1 [(2,6),(4,6),(2,10),(4,10),(6,10),(2,12),(4,12),(6,12),(2,14),(4,14),(6,14),(10,14),(12,14)]) (.seq (.seq ZbO.r2 (.cond 43 ZbO.r3 (.skip))) (.seq ZbO.r4 (.ret))))
def ZbO:Func:=⟨53,[.t 6],ZbO.code⟩
/-! muntin/kitty.sums -/
def ZaA.r0:List Oper:=[
 oM 2 (.c (.sn))]
def ZaA.r1:List Oper:=[
 oM 6 0,
 oD 7 (.len 6),
 oD 8 (.bin .add 7 (cI 1)),
 oD 9 (.mks 1 8 [.n 0] 8 8),
 oM 3 9]
def ZaA.r2:List Oper:=[
 oM 10 0,
 oD 11 (.len 10),
 oM 12 (cI 0)]
def ZaA.r3:List Oper:=[
 oD 13 (.bin .lss 12 11)]
def ZaA.r4:List Oper:=[
 oM 14 12,
 oD 15 (.ixa 1 10 12),
 oD 16 (.ld false 1 15),
 oM 4 14,
 oM 5 16]
def ZaA.r5:List Oper:=[
 oM 17 3,
 oM 18 4,
 oD 19 (.bin .add 18 (cI 1)),
 oM 20 3,
 oM 21 4,
 oD 22 (.ixa 1 20 21),
 oD 23 (.ld false 1 22),
 oM 24 5,
 oD 25 (.bin .add 23 24),
 oD 26 (.ixa 1 17 19),
 oN (.st 1 26 25)]
def ZaA.r6:List Oper:=[
 oD 27 (.bin .add 12 (cI 1)),
 oM 12 27]
def ZaA.l0:Code:=.seq ZaA.r3 (.seq (.cond 13 (.skip) (.exit 0)) (.seq (.block 1 (.seq ZaA.r4 ZaA.r5)) ZaA.r6))
def ZaA.r7:List Oper:=[
 oM 28 3,
 oM 2 28]
def ZaA.code:Code:=.seq ZaA.r0 (.seq ZaA.r1 (.seq (.seq ZaA.r2 (.block 0 (.loop ZaA.l0))) (.seq ZaA.r7 (.ret))))
def ZaA:Func:=⟨29,[.t 2],ZaA.code⟩
/-! muntin/muntinref10.Nearest -/
def ZO.r0:List Oper:=[
 oM 6 (cI 0)]
def ZO.r1:List Oper:=[
 oM 7 (cI (-1))]
def ZO.r2:List Oper:=[
 oM 8 (cI 0)]
def ZO.r3:List Oper:=[
 oM 9 8,
 oM 10 0,
 oD 11 (.len 10),
 oD 12 (.bin .lss 9 11)]
def ZO.r5:List Oper:=[
 oM 15 2,
 oD 16 (.eq false .sc 15 (cI 0)),
 oM 17 16,
 oT 18 17 (.mv 0),
 oT 19 17 (.mv 8),
 oT 20 17 (.ixa 2 18 19),
 oT 21 17 (.fa 1 20),
 oT 22 17 (.ld false 1 21),
 oT 23 17 (.mv 0),
 oT 24 17 (.mv 1),
 oT 25 17 (.ixa 2 23 24),
 oT 26 17 (.fa 1 25),
 oT 27 17 (.ld false 1 26),
 oT 28 17 (.eq false .sc 22 27),
 oD 29 (.pick 17 28 (.c (.b false))),
 oM 30 29,
 oT 31 30 (.mv 0),
 oT 32 30 (.mv 8),
 oT 33 30 (.ixa 2 31 32),
 oT 34 30 (.fa 0 33),
 oT 35 30 (.ld false 1 34),
 oT 36 30 (.mv 0),
 oT 37 30 (.mv 1),
 oT 38 30 (.ixa 2 36 37),
 oT 39 30 (.fa 0 38),
 oT 40 30 (.ld false 1 39),
 oT 41 30 (.bin .gtr 35 40),
 oD 42 (.pick 30 41 (.c (.b false))),
 oM 43 42,
 oT 44 43 (.mv 7),
 oT 45 43 (.bin .lss 44 (cI 0)),
 oT 46 43 (.mv 45),
 oF 47 46 (.mv 0),
 oF 48 46 (.mv 8),
 oF 49 46 (.ixa 2 47 48),
 oF 50 46 (.fa 0 49),
 oF 51 46 (.ld false 1 50),
 oF 52 46 (.mv 0),
 oF 53 46 (.mv 7),
 oF 54 46 (.ixa 2 52 53),
 oF 55 46 (.fa 0 54),
 oF 56 46 (.ld false 1 55),
 oF 57 46 (.bin .lss 51 56),
 oT 58 43 (.pick 46 (.c (.b true)) 57),
 oD 59 (.pick 43 58 (.c (.b false)))]
def ZO.r6:List Oper:=[
 oM 60 8,
 oM 7 60]
def ZO.r7:List Oper:=[
 oM 61 2,
 oD 62 (.eq false .sc 61 (cI 1)),
 oM 63 62,
 oT 64 63 (.mv 0),
 oT 65 63 (.mv 8),
 oT 66 63 (.ixa 2 64 65),
 oT 67 63 (.fa 0 66),
 oT 68 63 (.ld false 1 67),
 oT 69 63 (.mv 0),
 oT 70 63 (.mv 1),
 oT 71 63 (.ixa 2 69 70),
 oT 72 63 (.fa 0 71),
 oT 73 63 (.ld false 1 72),
 oT 74 63 (.eq false .sc 68 73),
 oD 75 (.pick 63 74 (.c (.b false))),
 oM 76 75,
 oT 77 76 (.mv 0),
 oT 78 76 (.mv 8),
 oT 79 76 (.ixa 2 77 78),
 oT 80 76 (.fa 1 79),
 oT 81 76 (.ld false 1 80),
 oT 82 76 (.mv 0),
 oT 83 76 (.mv 1),
 oT 84 76 (.ixa 2 82 83),
 oT 85 76 (.fa 1 84),
 oT 86 76 (.ld false 1 85),
 oT 87 76 (.bin .gtr 81 86),
 oD 88 (.pick 76 87 (.c (.b false))),
 oM 89 88,
 oT 90 89 (.mv 7),
 oT 91 89 (.bin .lss 90 (cI 0)),
 oT 92 89 (.mv 91),
 oF 93 92 (.mv 0),
 oF 94 92 (.mv 8),
 oF 95 92 (.ixa 2 93 94),
 oF 96 92 (.fa 1 95),
 oF 97 92 (.ld false 1 96),
 oF 98 92 (.mv 0),
 oF 99 92 (.mv 7),
 oF 100 92 (.ixa 2 98 99),
 oF 101 92 (.fa 1 100),
 oF 102 92 (.ld false 1 101),
 oF 103 92 (.bin .lss 97 102),
 oT 104 89 (.pick 92 (.c (.b true)) 103),
 oD 105 (.pick 89 104 (.c (.b false)))]
def ZO.r8:List Oper:=[
 oM 106 8,
 oM 7 106]
def ZO.r4:List Oper:=[
 oM 13 8,
 oD 14 (.bin .add 13 (cI 1)),
 oM 8 14]
def ZO.l0:Code:=.seq (.seq ZO.r3 (.cond 12 (.skip) (.exit 0))) (.seq (.block 1 (.seq (.seq (.draw ZO.r5 [(7,12),(20,25),(36,41)]) (.cond 59 ZO.r6 (.skip))) (.seq (.draw ZO.r7 [(7,12),(20,25),(36,41)]) (.cond 105 ZO.r8 (.skip))))) ZO.r4)
def ZO.r9:List Oper:=[
 oM 107 7,
 oM 6 107]
def ZO.code:Code:=.seq ZO.r0 (.seq ZO.r1 (.seq (.seq ZO.r2 (.block 0 (.loop ZO.l0))) (.seq ZO.r9 (.ret))))
def ZO:Func:=⟨108,[.t 6],ZO.code⟩
/-! muntin/muntinref10.Crossed -/
def Z2.r0:List Oper:=[
 oM 8 (.c (.b false))]
def Z2.r1:List Oper:=[
 oM 9 (cI 0)]
def Z2.r2:List Oper:=[
 oM 14 9,
 oM 15 1,
 oD 16 (.len 15),
 oD 17 (.bin .lss 14 16)]
def Z2.r4:List Oper:=[
 oM 10 (cI 0)]
def Z2.r5:List Oper:=[
 oM 20 10,
 oD 21 (.bin .lss 20 (cI 2))]
def Z2.r7:List Oper:=[
 oM 24 1,
 oM 25 9,
 oM 26 10,
 oD 27 (.ixa 8 24 25),
 oD 28 (.fa 0 27),
 oD 29 (.ixaa 1 4 28 26),
 oD 30 (.ld false 1 29),
 oM 11 30]
def Z2.r8:List Oper:=[
 oM 31 11,
 oD 32 (.bin .lss 31 (cI 0))]
def Z2.r9:List Oper:=[
 oM 33 0,
 oM 34 9,
 oD 35 (.ixa 2 33 34),
 oD 36 (.ld true 2 35),
 oD 12 (.alloc [.n 0,.n 0]),
 oN (.st 2 12 36)]
def Z2.r10:List Oper:=[
 oM 37 0,
 oM 38 11,
 oD 39 (.ixa 2 37 38),
 oD 40 (.ld true 2 39),
 oD 13 (.alloc [.n 0,.n 0]),
 oN (.st 2 13 40)]
def Z2.r11:List Oper:=[
 oD 41 (.fa 1 12),
 oD 42 (.ld false 1 41),
 oD 43 (.fa 1 13),
 oD 44 (.ld false 1 43),
 oD 45 (.eq false .sc 42 44),
 oM 46 45,
 oT 47 46 (.mv 0),
 oT 48 46 (.mv 2),
 oT 49 46 (.ixa 2 47 48),
 oT 50 46 (.fa 0 49),
 oT 51 46 (.ld false 1 50),
 oT 52 46 (.mv 0),
 oT 53 46 (.mv 3),
 oT 54 46 (.ixa 2 52 53),
 oT 55 46 (.fa 0 54),
 oT 56 46 (.ld false 1 55),
 oT 57 46 (.eq false .sc 51 56),
 oD 58 (.pick 46 57 (.c (.b false))),
 oM 59 58,
 oT 60 59 (.fa 0 12),
 oT 61 59 (.ld false 1 60),
 oT 62 59 (.mv 0),
 oT 63 59 (.mv 2),
 oT 64 59 (.ixa 2 62 63),
 oT 65 59 (.fa 0 64),
 oT 66 59 (.ld false 1 65),
 oT 67 59 (.bin .lss 61 66),
 oD 68 (.pick 59 67 (.c (.b false))),
 oM 69 68,
 oT 70 69 (.mv 0),
 oT 71 69 (.mv 2),
 oT 72 69 (.ixa 2 70 71),
 oT 73 69 (.fa 0 72),
 oT 74 69 (.ld false 1 73),
 oT 75 69 (.fa 0 13),
 oT 76 69 (.ld false 1 75),
 oT 77 69 (.bin .lss 74 76),
 oD 78 (.pick 69 77 (.c (.b false))),
 oM 79 78,
 oT 80 79 (.mv 0),
 oT 81 79 (.mv 2),
 oT 82 79 (.ixa 2 80 81),
 oT 83 79 (.fa 1 82),
 oT 84 79 (.ld false 1 83),
 oT 85 79 (.fa 1 12),
 oT 86 79 (.ld false 1 85),
 oT 87 79 (.bin .lss 84 86),
 oD 88 (.pick 79 87 (.c (.b false))),
 oM 89 88,
 oT 90 89 (.fa 1 12),
 oT 91 89 (.ld false 1 90),
 oT 92 89 (.mv 0),
 oT 93 89 (.mv 3),
 oT 94 89 (.ixa 2 92 93),
 oT 95 89 (.fa 1 94),
 oT 96 89 (.ld false 1 95),
 oT 97 89 (.bin .lss 91 96),
 oD 98 (.pick 89 97 (.c (.b false)))]
def Z2.r12:List Oper:=[
 oM 8 (.c (.b true))]
def Z2.r13:List Oper:=[
 oD 99 (.fa 0 12),
 oD 100 (.ld false 1 99),
 oD 101 (.fa 0 13),
 oD 102 (.ld false 1 101),
 oD 103 (.eq false .sc 100 102),
 oM 104 103,
 oT 105 104 (.mv 0),
 oT 106 104 (.mv 2),
 oT 107 104 (.ixa 2 105 106),
 oT 108 104 (.fa 1 107),
 oT 109 104 (.ld false 1 108),
 oT 110 104 (.mv 0),
 oT 111 104 (.mv 3),
 oT 112 104 (.ixa 2 110 111),
 oT 113 104 (.fa 1 112),
 oT 114 104 (.ld false 1 113),
 oT 115 104 (.eq false .sc 109 114),
 oD 116 (.pick 104 115 (.c (.b false))),
 oM 117 116,
 oT 118 117 (.mv 0),
 oT 119 117 (.mv 2),
 oT 120 117 (.ixa 2 118 119),
 oT 121 117 (.fa 0 120),
 oT 122 117 (.ld false 1 121),
 oT 123 117 (.fa 0 12),
 oT 124 117 (.ld false 1 123),
 oT 125 117 (.bin .lss 122 124),
 oD 126 (.pick 117 125 (.c (.b false))),
 oM 127 126,
 oT 128 127 (.fa 0 12),
 oT 129 127 (.ld false 1 128),
 oT 130 127 (.mv 0),
 oT 131 127 (.mv 3),
 oT 132 127 (.ixa 2 130 131),
 oT 133 127 (.fa 0 132),
 oT 134 127 (.ld false 1 133),
 oT 135 127 (.bin .lss 129 134),
 oD 136 (.pick 127 135 (.c (.b false))),
 oM 137 136,
 oT 138 137 (.fa 1 12),
 oT 139 137 (.ld false 1 138),
 oT 140 137 (.mv 0),
 oT 141 137 (.mv 2),
 oT 142 137 (.ixa 2 140 141),
 oT 143 137 (.fa 1 142),
 oT 144 137 (.ld false 1 143),
 oT 145 137 (.bin .lss 139 144),
 oD 146 (.pick 137 145 (.c (.b false))),
 oM 147 146,
 oT 148 147 (.mv 0),
 oT 149 147 (.mv 2),
 oT 150 147 (.ixa 2 148 149),
 oT 151 147 (.fa 1 150),
 oT 152 147 (.ld false 1 151),
 oT 153 147 (.fa 1 13),
 oT 154 147 (.ld false 1 153),
 oT 155 147 (.bin .lss 152 154),
 oD 156 (.pick 147 155 (.c (.b false)))]
def Z2.r14:List Oper:=[
 oM 8 (.c (.b true))]
def Z2.r6:List Oper:=[
 oM 22 10,
 oD 23 (.bin .add 22 (cI 1)),
 oM 10 23]
def Z2.l0:Code:=.seq (.seq Z2.r5 (.cond 21 (.skip) (.exit 2))) (.seq (.block 3 (.seq Z2.r7 (.seq (.seq Z2.r8 (.cond 32 (.exit 3) (.skip))) (.seq Z2.r9 (.seq Z2.r10 (.seq (.seq (.draw Z2.r11 [(1,3),(10,15),(20,25),(33,35),(43,45),(50,55)]) (.cond 98 (.seq Z2.r12 (.ret)) (.skip))) (.seq (.draw Z2.r13 [(1,3),(10,15),(23,25),(30,35),(40,45),(53,55)]) (.cond 156 (.seq Z2.r14 (.ret)) (.skip))))))))) Z2.r6)
def Z2.r3:List Oper:=[
 oM 18 9,
 oD 19 (.bin .add 18 (cI 1)),
 oM 9 19]
def Z2.l1:Code:=.seq (.seq Z2.r2 (.cond 17 (.skip) (.exit 0))) (.seq (.block 1 (.seq Z2.r4 (.block 2 (.loop Z2.l0)))) Z2.r3)
def Z2.r15:List Oper:=[
 oM 8 (.c (.b false))]
def Z2.code:Code:=.seq Z2.r0 (.seq (.seq Z2.r1 (.block 0 (.loop Z2.l1))) (.seq Z2.r15 (.ret)))
def Z2:Func:=⟨157,[.t 8],Z2.code⟩
/-! muntin/muntinref10.with -/
def ZI.r0:List Oper:=[
 oM 10 (.c (.sn))]
def ZI.r1:List Oper:=[
 oM 11 (.c (.sn))]
def ZI.r2:List Oper:=[
 oM 12 (cI 0)]
def ZI.r3:List Oper:=[
 oM 14 12,
 oM 15 0,
 oD 16 (.len 15),
 oD 17 (.bin .lss 14 16)]
def ZI.r5:List Oper:=[
 oM 20 0,
 oM 21 12,
 oD 22 (.ixa 8 20 21),
 oD 23 (.ld true 8 22),
 oD 13 (.alloc [.n 0,.n 0,.n 0,.n 0,.n 0,.n 0,.n 0,.n 0]),
 oN (.st 8 13 23)]
def ZI.r6:List Oper:=[
 oM 24 12,
 oM 25 1,
 oD 26 (.eq false .sc 24 25)]
def ZI.r7:List Oper:=[
 oM 27 2,
 oM 28 3,
 oD 29 (.fa 0 13),
 oD 30 (.ixaa 1 4 29 27),
 oN (.st 1 30 28)]
def ZI.r8:List Oper:=[
 oM 31 2,
 oM 32 4,
 oD 33 (.fa 4 13),
 oD 34 (.ixaa 1 4 33 31),
 oN (.st 1 34 32)]
def ZI.r9:List Oper:=[
 oM 35 12,
 oM 36 3,
 oD 37 (.eq false .sc 35 36)]
def ZI.r10:List Oper:=[
 oM 38 2,
 oD 39 (.bin .add 38 (cI 2)),
 oD 40 (.bin .rem 39 (cI 4)),
 oM 41 1,
 oD 42 (.fa 0 13),
 oD 43 (.ixaa 1 4 42 40),
 oN (.st 1 43 41)]
def ZI.r11:List Oper:=[
 oM 44 2,
 oD 45 (.bin .add 44 (cI 2)),
 oD 46 (.bin .rem 45 (cI 4)),
 oM 47 4,
 oD 48 (.fa 4 13),
 oD 49 (.ixaa 1 4 48 46),
 oN (.st 1 49 47)]
def ZI.r12:List Oper:=[
 oM 50 11,
 oD 51 (.ld true 8 13),
 oD 52 (.bsl 8 1 [.n 0,.n 0,.n 0,.n 0,.n 0,.n 0,.n 0,.n 0] [(0,8,.t 51)]),
 oD 53 (.app 8 64 50 52),
 oM 11 53]
def ZI.r4:List Oper:=[
 oM 18 12,
 oD 19 (.bin .add 18 (cI 1)),
 oM 12 19]
def ZI.l0:Code:=.seq (.seq ZI.r3 (.cond 17 (.skip) (.exit 0))) (.seq (.block 1 (.seq ZI.r5 (.seq (.seq ZI.r6 (.cond 26 (.seq ZI.r7 ZI.r8) (.skip))) (.seq (.seq ZI.r9 (.cond 37 (.seq ZI.r10 ZI.r11) (.skip))) ZI.r12)))) ZI.r4)
def ZI.r13:List Oper:=[
 oM 54 11,
 oM 10 54]
def ZI.code:Code:=.seq ZI.r0 (.seq ZI.r1 (.seq (.seq ZI.r2 (.block 0 (.loop ZI.l0))) (.seq ZI.r13 (.ret))))
def ZI:Func:=⟨55,[.t 10],ZI.code⟩
/-! muntin/grid.Check -/
def z5.r0:List Oper:=[
 oM 2 (cI 0)]
def z5.r1:List Oper:=[
 oM 6 0,
 oD 7 (.len 6),
 oD 8 (.bin .gtr 7 (cI 4096))]
def z5.r2:List Oper:=[
 oM 2 (cI 6)]
def z5.r3:List Oper:=[
 oM 9 0,
 oD 10 (.len 9),
 oM 11 (cI 0)]
def z5.r4:List Oper:=[
 oD 12 (.bin .lss 11 10)]
def z5.r5:List Oper:=[
 oM 13 11,
 oM 3 13]
def z5.r6:List Oper:=[
 oM 14 (cI 0)]
def z5.r7:List Oper:=[
 oD 15 (.bin .lss 14 (cI 4))]
def z5.r8:List Oper:=[
 oM 16 14,
 oM 4 16]
def z5.r9:List Oper:=[
 oM 17 0,
 oM 18 3,
 oM 19 4,
 oC 20 82 [17,18,19],
 oM 5 20]
def z5.r10:List Oper:=[
 oM 21 5,
 oD 22 (.eq true .sc 21 (cI 0))]
def z5.r11:List Oper:=[
 oM 23 5,
 oM 2 23]
def z5.r12:List Oper:=[
 oD 24 (.bin .add 14 (cI 1)),
 oM 14 24]
def z5.l0:Code:=.seq z5.r7 (.seq (.cond 15 (.skip) (.exit 2)) (.seq (.block 3 (.seq z5.r8 (.seq z5.r9 (.seq z5.r10 (.cond 22 (.seq z5.r11 (.ret)) (.skip)))))) z5.r12))
def z5.r13:List Oper:=[
 oD 25 (.bin .add 11 (cI 1)),
 oM 11 25]
def z5.l1:Code:=.seq z5.r4 (.seq (.cond 12 (.skip) (.exit 0)) (.seq (.block 1 (.seq z5.r5 (.seq z5.r6 (.block 2 (.loop z5.l0))))) z5.r13))
def z5.r14:List Oper:=[
 oM 2 (cI 0)]
def z5.code:Code:=.seq z5.r0 (.seq (.seq z5.r1 (.cond 8 (.seq z5.r2 (.ret)) (.skip))) (.seq (.seq z5.r3 (.block 0 (.loop z5.l1))) (.seq z5.r14 (.ret))))
def z5:Func:=⟨26,[.t 2],z5.code⟩
/-! muntin/join.spread -/
def ZZ.r0:List Oper:=[
 oM 4 (.c (.sn)),
 oM 5 (.c (.sn))]
def ZZ.r1:List Oper:=[
 oD 13 (.bsl 1 1 [.n 0] [(0,1,.c (.n (-1)))]),
 oM 14 0,
 oD 15 (.len 14),
 oC 16 83 [13,15],
 oD 17 (.bsl 1 1 [.n 0] [(0,1,.c (.n (-1)))]),
 oM 18 0,
 oD 19 (.len 18),
 oC 20 83 [17,19],
 oM 6 16,
 oM 7 20]
def ZZ.r2:List Oper:=[
 oM 21 1,
 oD 22 (.bsl 1 1 [.n 0] [(0,1,.t 21)]),
 oM 8 22]
def ZZ.r3:List Oper:=[
 oM 23 0,
 oD 24 (.len 23),
 oD 25 (.mks 1 1 [.b false] 24 24),
 oM 9 25]
def ZZ.r4:List Oper:=[
 oM 26 9,
 oM 27 1,
 oD 28 (.ixa 1 26 27),
 oN (.st 1 28 (.c (.b true)))]
def ZZ.r5:List Oper:=[
 oM 29 8,
 oD 30 (.len 29),
 oD 31 (.bin .gtr 30 (cI 0))]
def ZZ.r6:List Oper:=[
 oM 32 8,
 oD 33 (.ixa 1 32 (cI 0)),
 oD 34 (.ld false 1 33),
 oM 10 34]
def ZZ.r7:List Oper:=[
 oM 35 8,
 oD 36 (.slc 1 35 (some (cI 1)) none none),
 oM 8 36]
def ZZ.r8:List Oper:=[
 oM 37 (cI 0)]
def ZZ.r9:List Oper:=[
 oD 38 (.bin .lss 37 (cI 4))]
def ZZ.r10:List Oper:=[
 oM 39 37,
 oM 11 39]
def ZZ.r11:List Oper:=[
 oM 40 0,
 oM 41 10,
 oM 42 11,
 oD 43 (.ixa 8 40 41),
 oD 44 (.fa 0 43),
 oD 45 (.ixaa 1 4 44 42),
 oD 46 (.ld false 1 45),
 oM 12 46]
def ZZ.r12:List Oper:=[
 oM 47 12,
 oD 48 (.bin .geq 47 (cI 0)),
 oM 49 48,
 oT 50 49 (.mv 9),
 oT 51 49 (.mv 12),
 oT 52 49 (.ixa 1 50 51),
 oT 53 49 (.ld false 1 52),
 oT 54 49 (.un .not 53),
 oD 55 (.pick 49 54 (.c (.b false)))]
def ZZ.r13:List Oper:=[
 oM 56 9,
 oM 57 12,
 oM 58 6,
 oM 59 12,
 oM 60 7,
 oM 61 12,
 oM 62 10,
 oM 63 11,
 oD 64 (.ixa 1 56 57),
 oN (.st 1 64 (.c (.b true))),
 oD 65 (.ixa 1 58 59),
 oN (.st 1 65 62),
 oD 66 (.ixa 1 60 61),
 oN (.st 1 66 63)]
def ZZ.r14:List Oper:=[
 oM 67 8,
 oM 68 12,
 oD 69 (.bsl 1 1 [.n 0] [(0,1,.t 68)]),
 oD 70 (.app 1 8 67 69),
 oM 8 70]
def ZZ.r15:List Oper:=[
 oD 71 (.bin .add 37 (cI 1)),
 oM 37 71]
def ZZ.l0:Code:=.seq ZZ.r9 (.seq (.cond 38 (.skip) (.exit 2)) (.seq (.block 3 (.seq ZZ.r10 (.seq ZZ.r11 (.seq ZZ.r12 (.cond 55 (.seq ZZ.r13 ZZ.r14) (.skip)))))) ZZ.r15))
def ZZ.l1:Code:=.seq (.seq ZZ.r5 (.cond 31 (.skip) (.exit 0))) (.block 1 (.seq ZZ.r6 (.seq ZZ.r7 (.seq ZZ.r8 (.block 2 (.loop ZZ.l0))))))
def ZZ.r16:List Oper:=[
 oM 72 6,
 oM 73 7,
 oM 4 72,
 oM 5 73]
def ZZ.code:Code:=.seq ZZ.r0 (.seq ZZ.r1 (.seq ZZ.r2 (.seq ZZ.r3 (.seq ZZ.r4 (.seq (.block 0 (.loop ZZ.l1)) (.seq ZZ.r16 (.ret)))))))
def ZZ:Func:=⟨74,[.t 4,.t 5],ZZ.code⟩
/-! (*muntin/grid.Grid).is -/
def Zci.r0:List Oper:=[
 oM 6 (.c (.b false))]
def Zci.r1:List Oper:=[
 oM 7 1,
 oD 8 (.bin .geq 7 (cI 0)),
 oM 9 8,
 oT 10 9 (.mv 1),
 oT 11 9 (.mv 0),
 oT 12 9 (.call (.c (.f 55 [])) [11]),
 oT 13 9 (.bin .lss 10 12),
 oD 14 (.pick 9 13 (.c (.b false))),
 oM 15 14,
 oT 16 15 (.mv 2),
 oT 17 15 (.call (.c (.f 90 [])) [16]),
 oD 18 (.pick 15 17 (.c (.b false))),
 oM 6 18]
def Zci.code:Code:=.seq Zci.r0 (.seq Zci.r1 (.ret))
def Zci:Func:=⟨19,[.t 6],Zci.code⟩
/-! (*muntin/grid.Grid).lay -/
def ZbE.r0:List Oper:=[
 oM 11 2,
 oC 12 77 [11,.c (.n 2)],
 oM 10 12]
def ZbE.r1:List Oper:=[
 oM 13 0,
 oD 14 (.nilck 13),
 oD 15 (.fa 0 14),
 oD 16 (.ld false 1 15),
 oM 17 1,
 oM 18 2,
 oM 19 0,
 oD 20 (.nilck 19),
 oD 21 (.fa 0 20),
 oD 22 (.ld false 1 21),
 oM 23 1,
 oM 24 2,
 oM 25 3,
 oM 26 4,
 oD 27 (.ixa 8 16 17),
 oD 28 (.fa 0 27),
 oD 29 (.ixaa 1 4 28 18),
 oN (.st 1 29 25),
 oD 30 (.ixa 8 22 23),
 oD 31 (.fa 4 30),
 oD 32 (.ixaa 1 4 31 24),
 oN (.st 1 32 26)]
def ZbE.r2:List Oper:=[
 oM 33 0,
 oD 34 (.nilck 33),
 oD 35 (.fa 0 34),
 oD 36 (.ld false 1 35),
 oM 37 3,
 oM 38 10,
 oM 39 0,
 oD 40 (.nilck 39),
 oD 41 (.fa 0 40),
 oD 42 (.ld false 1 41),
 oM 43 3,
 oM 44 10,
 oM 45 1,
 oM 46 4,
 oD 47 (.ixa 8 36 37),
 oD 48 (.fa 0 47),
 oD 49 (.ixaa 1 4 48 38),
 oN (.st 1 49 45),
 oD 50 (.ixa 8 42 43),
 oD 51 (.fa 4 50),
 oD 52 (.ixaa 1 4 51 44),
 oN (.st 1 52 46)]
def ZbE.code:Code:=.seq ZbE.r0 (.seq (.draw ZbE.r1 [(3,9)]) (.draw ZbE.r2 [(3,9)]))
def ZbE:Func:=⟨53,[],ZbE.code⟩
/-! muntin/compass.Left -/
def Zb3.r0:List Oper:=[
 oM 4 (cI 0)]
def Zb3.r1:List Oper:=[
 oM 5 0,
 oC 6 90 [5],
 oD 7 (.un .not 6)]
def Zb3.r2:List Oper:=[
 oM 4 (cI 0)]
def Zb3.r3:List Oper:=[
 oM 8 0,
 oM 9 1,
 oD 10 (.bin .rem 9 (cI 4)),
 oD 11 (.bin .add 8 10),
 oD 12 (.bin .add 11 (cI 4)),
 oD 13 (.bin .rem 12 (cI 4)),
 oM 4 13]
def Zb3.code:Code:=.seq Zb3.r0 (.seq (.seq Zb3.r1 (.cond 7 (.seq Zb3.r2 (.ret)) (.skip))) (.seq Zb3.r3 (.ret)))
def Zb3:Func:=⟨14,[.t 4],Zb3.code⟩
/-! slices.ContainsFunc[[]int,int] -/
def ZaJ.r0:List Oper:=[
 oM 4 (.c (.b false))]
def ZaJ.r1:List Oper:=[
 oM 5 0,
 oM 6 1,
 oC 7 91 [5,6],
 oD 8 (.bin .geq 7 (cI 0)),
 oM 4 8]
def ZaJ.code:Code:=.seq ZaJ.r0 (.seq ZaJ.r1 (.ret))
def ZaJ:Func:=⟨9,[.t 4],ZaJ.code⟩
/-! muntin/kitty.right$1 -/
def ZbS.r0:List Oper:=[
 oM 2 (.c (.b false))]
def ZbS.r1:List Oper:=[
 oM 3 0,
 oD 4 (.bin .lss 3 (cI (-2))),
 oM 5 4,
 oF 6 5 (.mv 0),
 oF 7 5 (.bin .gtr 6 (cI 1)),
 oD 8 (.pick 5 (.c (.b true)) 7),
 oM 2 8]
def ZbS.code:Code:=.seq ZbS.r0 (.seq ZbS.r1 (.ret))
def ZbS:Func:=⟨9,[.t 2],ZbS.code⟩
/-! muntin/grid.side -/
def Zay.r0:List Oper:=[
 oM 6 (cI 0)]
def Zay.r1:List Oper:=[
 oM 10 0,
 oM 11 1,
 oM 12 2,
 oD 13 (.ixa 8 10 11),
 oD 14 (.fa 0 13),
 oD 15 (.ixaa 1 4 14 12),
 oD 16 (.ld false 1 15),
 oM 17 0,
 oM 18 1,
 oM 19 2,
 oD 20 (.ixa 8 17 18),
 oD 21 (.fa 4 20),
 oD 22 (.ixaa 1 4 21 19),
 oD 23 (.ld false 1 22),
 oM 7 16,
 oM 8 23]
def Zay.r2:List Oper:=[
 oM 24 7,
 oD 25 (.eq false .sc 24 (cI (-1)))]
def Zay.r3:List Oper:=[
 oM 26 8,
 oD 27 (.eq true .sc 26 (cI 0))]
def Zay.r4:List Oper:=[
 oM 6 (cI 9)]
def Zay.r5:List Oper:=[
 oM 6 (cI 0)]
def Zay.r6:List Oper:=[
 oM 28 7,
 oD 29 (.bin .lss 28 (cI 0)),
 oM 30 29,
 oF 31 30 (.mv 7),
 oF 32 30 (.mv 0),
 oF 33 30 (.len 32),
 oF 34 30 (.bin .geq 31 33),
 oD 35 (.pick 30 (.c (.b true)) 34),
 oM 36 35,
 oF 37 36 (.mv 7),
 oF 38 36 (.mv 1),
 oF 39 36 (.eq false .sc 37 38),
 oD 40 (.pick 36 (.c (.b true)) 39)]
def Zay.r7:List Oper:=[
 oM 6 (cI 3)]
def Zay.r8:List Oper:=[
 oM 41 2,
 oC 42 77 [41,.c (.n 2)],
 oM 9 42]
def Zay.r9:List Oper:=[
 oM 43 0,
 oM 44 7,
 oM 45 9,
 oD 46 (.ixa 8 43 44),
 oD 47 (.fa 0 46),
 oD 48 (.ixaa 1 4 47 45),
 oD 49 (.ld false 1 48),
 oM 50 1,
 oD 51 (.eq true .sc 49 50),
 oM 52 51,
 oF 53 52 (.mv 0),
 oF 54 52 (.mv 7),
 oF 55 52 (.mv 9),
 oF 56 52 (.ixa 8 53 54),
 oF 57 52 (.fa 4 56),
 oF 58 52 (.ixaa 1 4 57 55),
 oF 59 52 (.ld false 1 58),
 oF 60 52 (.mv 8),
 oF 61 52 (.eq true .sc 59 60),
 oD 62 (.pick 52 (.c (.b true)) 61),
 oM 63 62,
 oF 64 63 (.mv 8),
 oF 65 63 (.bin .lss 64 (cI (-2))),
 oD 66 (.pick 63 (.c (.b true)) 65)]
def Zay.r10:List Oper:=[
 oM 6 (cI 9)]
def Zay.r11:List Oper:=[
 oM 6 (cI 0)]
def Zay.code:Code:=.seq Zay.r0 (.seq (.draw Zay.r1 [(6,13)]) (.seq (.seq Zay.r2 (.cond 25 (.seq (.seq Zay.r3 (.cond 27 (.seq Zay.r4 (.ret)) (.skip))) (.seq Zay.r5 (.ret))) (.skip))) (.seq (.seq Zay.r6 (.cond 40 (.seq Zay.r7 (.ret)) (.skip))) (.seq Zay.r8 (.seq (.seq Zay.r9 (.cond 66 (.seq Zay.r10 (.ret)) (.skip))) (.seq Zay.r11 (.ret)))))))
def Zay:Func:=⟨67,[.t 6],Zay.code⟩
/-! slices.Repeat[[]int,int] -/
def ZU.r0:List Oper:=[
 oM 4 (.c (.sn))]
def ZU.r1:List Oper:=[
 oM 9 1,
 oD 10 (.bin .lss 9 (cI 0))]
def ZU.r2:List Oper:=[
 oD 11 (.bad),
 oN (.bad)]
def ZU.r3:List Oper:=[
 oM 13 0,
 oD 14 (.len 13),
 oD 15 (.conv .u64 14),
 oM 16 1,
 oD 17 (.conv .u64 16),
 oC 18 89 [15,17],
 oM 12 18,
 oD 19 (.ext 12 0),
 oD 20 (.ext 12 1),
 oM 5 19,
 oM 6 20]
def ZU.r4:List Oper:=[
 oM 21 5,
 oD 22 (.bin .gtr 21 (.c (.i .u64 0))),
 oM 23 22,
 oF 24 23 (.mv 6),
 oF 25 23 (.bin .gtr 24 (.c (.i .u64 9223372036854775807))),
 oD 26 (.pick 23 (.c (.b true)) 25)]
def ZU.r5:List Oper:=[
 oD 27 (.bad),
 oN (.bad)]
def ZU.r6:List Oper:=[
 oM 28 6,
 oD 29 (.conv .i64 28),
 oD 30 (.mks 1 8 [.n 0] 29 29),
 oM 7 30]
def ZU.r7:List Oper:=[
 oM 31 7,
 oM 32 0,
 oD 33 (.cpy 1 31 32),
 oM 8 33]
def ZU.r8:List Oper:=[
 oM 34 8,
 oM 35 7,
 oD 36 (.len 35),
 oD 37 (.bin .lss 34 36)]
def ZU.r9:List Oper:=[
 oM 38 8,
 oM 39 7,
 oM 40 8,
 oD 41 (.slc 1 39 (some 40) none none),
 oM 42 7,
 oM 43 8,
 oD 44 (.slc 1 42 none (some 43) none),
 oD 45 (.cpy 1 41 44),
 oD 46 (.bin .add 38 45),
 oM 8 46]
def ZU.l0:Code:=.seq (.seq ZU.r8 (.cond 37 (.skip) (.exit 0))) (.block 1 (.draw ZU.r9 []))
def ZU.r10:List Oper:=[
 oM 47 7,
 oM 4 47]
def ZU.code:Code:=.seq ZU.r0 (.seq (.seq ZU.r1 (.cond 10 ZU.r2 (.skip))) (.seq ZU.r3 (.seq (.seq ZU.r4 (.cond 26 ZU.r5 (.skip))) (.seq ZU.r6 (.seq ZU.r7 (.seq (.block 0 (.loop ZU.l0)) (.seq ZU.r10 (.ret))))))))
def ZU:Func:=⟨48,[.t 4],ZU.code⟩
/-! math/bits.Mul -/
def ZbY.r0:List Oper:=[
 oM 4 (.c (.i .u64 0)),
 oM 5 (.c (.i .u64 0))]
def ZbY.r1:List Oper:=[
 oM 11 0,
 oD 12 (.conv .u32 11),
 oM 13 1,
 oD 14 (.conv .u32 13),
 oC 15 97 [12,14],
 oM 10 15,
 oD 16 (.ext 10 0),
 oD 17 (.ext 10 1),
 oM 6 16,
 oM 7 17]
def ZbY.r2:List Oper:=[
 oM 18 6,
 oD 19 (.conv .u64 18),
 oM 20 7,
 oD 21 (.conv .u64 20),
 oM 4 19,
 oM 5 21]
def ZbY.r3:List Oper:=[
 oM 23 0,
 oM 24 1,
 oC 25 98 [23,24],
 oM 22 25,
 oD 26 (.ext 22 0),
 oD 27 (.ext 22 1),
 oM 8 26,
 oM 9 27]
def ZbY.r4:List Oper:=[
 oM 28 8,
 oM 29 9,
 oM 4 28,
 oM 5 29]
def ZbY.code:Code:=.seq ZbY.r0 (.seq (.cond (.c (.b false)) (.seq ZbY.r1 (.seq ZbY.r2 (.ret))) (.skip)) (.seq ZbY.r3 (.seq ZbY.r4 (.ret))))
def ZbY:Func:=⟨30,[.t 4,.t 5],ZbY.code⟩
/-! muntin/compass.Good -/
def Zcg.r0:List Oper:=[
 oM 2 (.c (.b false))]
def Zcg.r1:List Oper:=[
 oM 3 0,
 oD 4 (.bin .geq 3 (cI 0)),
 oM 5 4,
 oT 6 5 (.mv 0),
 oT 7 5 (.bin .leq 6 (cI 3)),
 oD 8 (.pick 5 7 (.c (.b false))),
 oM 2 8]
def Zcg.code:Code:=.seq Zcg.r0 (.seq Zcg.r1 (.ret))
def Zcg:Func:=⟨9,[.t 2],Zcg.code⟩
/-! slices.IndexFunc[[]int,int] -/
def zd.r0:List Oper:=[
 oM 4 (cI 0)]
def zd.r1:List Oper:=[
 oM 6 0,
 oD 7 (.len 6),
 oM 8 (cI 0)]
def zd.r2:List Oper:=[
 oD 9 (.bin .lss 8 7)]
def zd.r3:List Oper:=[
 oM 10 8,
 oM 5 10]
def zd.r4:List Oper:=[
 oM 11 1,
 oM 12 0,
 oM 13 5,
 oD 14 (.ixa 1 12 13),
 oD 15 (.ld false 1 14),
 oD 16 (.call 11 [15])]
def zd.r5:List Oper:=[
 oM 17 5,
 oM 4 17]
def zd.r6:List Oper:=[
 oD 18 (.bin .add 8 (cI 1)),
 oM 8 18]
def zd.l0:Code:=.seq zd.r2 (.seq (.cond 9 (.skip) (.exit 0)) (.seq (.block 1 (.seq zd.r3 (.seq zd.r4 (.cond 16 (.seq zd.r5 (.ret)) (.skip))))) zd.r6))
def zd.r7:List Oper:=[
 oM 4 (cI (-1))]
def zd.code:Code:=.seq zd.r0 (.seq (.seq zd.r1 (.block 0 (.loop zd.l0))) (.seq zd.r7 (.ret)))
def zd:Func:=⟨19,[.t 4],zd.code⟩
/-! math/bits.Mul32 -/
def Zcf.r0:List Oper:=[
 oM 4 (.c (.i .u32 0)),
 oM 5 (.c (.i .u32 0))]
def Zcf.r1:List Oper:=[
 oM 7 0,
 oD 8 (.conv .u64 7),
 oM 9 1,
 oD 10 (.conv .u64 9),
 oD 11 (.bin .mul 8 10),
 oM 6 11]
def Zcf.r2:List Oper:=[
 oM 12 6,
 oD 13 (.bin .shr 12 (.c (.i .u64 32))),
 oD 14 (.conv .u32 13),
 oM 15 6,
 oD 16 (.conv .u32 15),
 oM 4 14,
 oM 5 16]
def Zcf.code:Code:=.seq Zcf.r0 (.seq Zcf.r1 (.seq Zcf.r2 (.ret)))
def Zcf:Func:=⟨17,[.t 4,.t 5],Zcf.code⟩
/-! math/bits.Mul64 -/
def Zal.r0:List Oper:=[
 oM 4 (.c (.i .u64 0)),
 oM 5 (.c (.i .u64 0))]
def Zal.r1:List Oper:=[
 oM 14 0,
 oD 15 (.bin .and 14 (.c (.i .u64 4294967295))),
 oM 6 15]
def Zal.r2:List Oper:=[
 oM 16 0,
 oD 17 (.bin .shr 16 (.c (.i .u64 32))),
 oM 7 17]
def Zal.r3:List Oper:=[
 oM 18 1,
 oD 19 (.bin .and 18 (.c (.i .u64 4294967295))),
 oM 8 19]
def Zal.r4:List Oper:=[
 oM 20 1,
 oD 21 (.bin .shr 20 (.c (.i .u64 32))),
 oM 9 21]
def Zal.r5:List Oper:=[
 oM 22 6,
 oM 23 8,
 oD 24 (.bin .mul 22 23),
 oM 10 24]
def Zal.r6:List Oper:=[
 oM 25 7,
 oM 26 8,
 oD 27 (.bin .mul 25 26),
 oM 28 10,
 oD 29 (.bin .shr 28 (.c (.i .u64 32))),
 oD 30 (.bin .add 27 29),
 oM 11 30]
def Zal.r7:List Oper:=[
 oM 31 11,
 oD 32 (.bin .and 31 (.c (.i .u64 4294967295))),
 oM 12 32]
def Zal.r8:List Oper:=[
 oM 33 11,
 oD 34 (.bin .shr 33 (.c (.i .u64 32))),
 oM 13 34]
def Zal.r9:List Oper:=[
 oM 35 12,
 oM 36 6,
 oM 37 9,
 oD 38 (.bin .mul 36 37),
 oD 39 (.bin .add 35 38),
 oM 12 39]
def Zal.r10:List Oper:=[
 oM 40 7,
 oM 41 9,
 oD 42 (.bin .mul 40 41),
 oM 43 13,
 oD 44 (.bin .add 42 43),
 oM 45 12,
 oD 46 (.bin .shr 45 (.c (.i .u64 32))),
 oD 47 (.bin .add 44 46),
 oM 4 47]
def Zal.r11:List Oper:=[
 oM 48 0,
 oM 49 1,
 oD 50 (.bin .mul 48 49),
 oM 5 50]
def Zal.code:Code:=.seq Zal.r0 (.seq Zal.r1 (.seq Zal.r2 (.seq Zal.r3 (.seq Zal.r4 (.seq Zal.r5 (.seq Zal.r6 (.seq Zal.r7 (.seq Zal.r8 (.seq Zal.r9 (.seq Zal.r10 (.seq Zal.r11 (.ret))))))))))))
def Zal:Func:=⟨51,[.t 4,.t 5],Zal.code⟩
/-! muntin/grid.Of -/
def Zcq.r0:List Oper:=[
 oM 2 (.c (.pn)),
 oM 3 (cI 0)]
def Zcq.r1:List Oper:=[
 oM 5 0,
 oC 6 66 [5],
 oM 4 6]
def Zcq.r2:List Oper:=[
 oM 7 4,
 oD 8 (.eq true .sc 7 (cI 0))]
def Zcq.r3:List Oper:=[
 oM 9 4,
 oM 2 (.c (.pn)),
 oM 3 9]
def Zcq.r4:List Oper:=[
 oM 10 0,
 oC 11 51 [10],
 oD 12 (.build [.sn] [(0,1,.t 11)]),
 oD 13 (.box 12),
 oM 2 13,
 oM 3 (cI 0)]
def Zcq.code:Code:=.seq Zcq.r0 (.seq (.seq Zcq.r1 (.seq Zcq.r2 (.cond 8 (.seq Zcq.r3 (.ret)) (.skip)))) (.seq Zcq.r4 (.ret)))
def Zcq:Func:=⟨14,[.t 2,.t 3],Zcq.code⟩
/-! muntin/muntinref08.Make -/
def Z1.r0:List Oper:=[
 oD 2 (.box 0),
 oD 4 (.alloc [.sn,.sn])]
def Z1.r1:List Oper:=[
 oD 10 (.build [.sn,.sn] []),
 oD 5 (.alloc [.sn,.sn]),
 oN (.st 2 5 10)]
def Z1.r2:List Oper:=[
 oM 6 (cI 0)]
def Z1.r3:List Oper:=[
 oM 11 6,
 oD 12 (.fa 0 2),
 oD 13 (.ld false 1 12),
 oD 14 (.len 13),
 oD 15 (.bin .lss 11 14),
 oM 16 15,
 oT 17 16 (.mv 6),
 oT 18 16 (.mv 1),
 oT 19 16 (.bin .lss 17 18),
 oD 20 (.pick 16 19 (.c (.b false)))]
def Z1.r5:List Oper:=[
 oD 23 (.fa 0 5),
 oD 24 (.ld false 1 23),
 oD 25 (.fa 0 2),
 oD 26 (.ld false 1 25),
 oM 27 6,
 oD 28 (.ixa 1 26 27),
 oD 29 (.ld false 1 28),
 oD 30 (.bsl 1 1 [.b false] [(0,1,.t 29)]),
 oD 31 (.app 1 1 24 30),
 oD 32 (.fa 0 5),
 oN (.st 1 32 31)]
def Z1.r4:List Oper:=[
 oM 21 6,
 oD 22 (.bin .add 21 (cI 1)),
 oM 6 22]
def Z1.l0:Code:=.seq (.seq Z1.r3 (.cond 20 (.skip) (.exit 0))) (.seq (.block 1 (.draw Z1.r5 [(1,3),(1,6),(1,7)])) Z1.r4)
def Z1.r6:List Oper:=[
 oM 7 (cI 0)]
def Z1.r7:List Oper:=[
 oM 33 7,
 oD 34 (.fa 1 2),
 oD 35 (.ld false 1 34),
 oD 36 (.len 35),
 oD 37 (.bin .lss 33 36),
 oM 38 37,
 oT 39 38 (.mv 7),
 oT 40 38 (.mv 1),
 oT 41 38 (.bin .mul (cI 2) 40),
 oT 42 38 (.bin .lss 39 41),
 oD 43 (.pick 38 42 (.c (.b false))),
 oM 44 43,
 oT 45 44 (.fa 0 5),
 oT 46 44 (.ld false 1 45),
 oT 47 44 (.len 46),
 oT 48 44 (.bin .gtr 47 (cI 0)),
 oD 49 (.pick 44 48 (.c (.b false)))]
def Z1.r9:List Oper:=[
 oD 52 (.fa 1 2),
 oD 53 (.ld false 1 52),
 oM 54 7,
 oD 55 (.ixa 3 53 54),
 oD 56 (.ixaa 1 3 55 (cI 0)),
 oD 57 (.ld false 1 56),
 oD 58 (.conv .i64 57),
 oD 59 (.fa 0 5),
 oD 60 (.ld false 1 59),
 oD 61 (.len 60),
 oD 62 (.bin .rem 58 61),
 oD 63 (.fa 1 2),
 oD 64 (.ld false 1 63),
 oM 65 7,
 oD 66 (.ixa 3 64 65),
 oD 67 (.ixaa 1 3 66 (cI 1)),
 oD 68 (.ld false 1 67),
 oD 69 (.conv .i64 68),
 oD 70 (.fa 0 5),
 oD 71 (.ld false 1 70),
 oD 72 (.len 71),
 oD 73 (.bin .rem 69 72),
 oD 74 (.fa 1 2),
 oD 75 (.ld false 1 74),
 oM 76 7,
 oD 77 (.ixa 3 75 76),
 oD 78 (.ixaa 1 3 77 (cI 2)),
 oD 79 (.ld false 1 78),
 oD 80 (.conv .i64 79),
 oD 81 (.bin .rem 80 (cI 4)),
 oD 82 (.build [.n 0,.n 0,.n 0,.s ⟨#[]⟩] [(0,1,.t 62),(1,1,.t 73),(2,1,.t 81)]),
 oD 8 (.alloc [.n 0,.n 0,.n 0,.s ⟨#[]⟩]),
 oN (.st 4 8 82)]
def Z1.r10:List Oper:=[
 oM 83 7,
 oD 84 (.fa 2 2),
 oD 85 (.ld false 1 84),
 oD 86 (.len 85),
 oD 87 (.bin .lss 83 86)]
def Z1.r11:List Oper:=[
 oM 9 (cI 0)]
def Z1.r12:List Oper:=[
 oM 88 9,
 oD 89 (.fa 2 2),
 oD 90 (.ld false 1 89),
 oM 91 7,
 oD 92 (.ixa 1 90 91),
 oD 93 (.ld false 1 92),
 oD 94 (.conv .i64 93),
 oD 95 (.bin .rem 94 (cI 4)),
 oD 96 (.bin .lss 88 95)]
def Z1.r14:List Oper:=[
 oD 99 (.fa 2 2),
 oD 100 (.ld false 1 99),
 oM 101 7,
 oD 102 (.ixa 1 100 101),
 oD 103 (.ld false 1 102),
 oM 104 9,
 oD 105 (.bin .add (cI 2) 104),
 oD 106 (.bin .shr 103 105),
 oD 107 (.bin .and 106 (.c (.i .u8 1))),
 oD 108 (.eq false .sc 107 (.c (.i .u8 1)))]
def Z1.r15:List Oper:=[
 oD 109 (.fa 3 8),
 oD 110 (.ld false 1 109),
 oD 111 (.bin .add 110 (.c (.s ⟨#[76]⟩))),
 oD 112 (.fa 3 8),
 oN (.st 1 112 111)]
def Z1.r16:List Oper:=[
 oD 113 (.fa 3 8),
 oD 114 (.ld false 1 113),
 oD 115 (.bin .add 114 (.c (.s ⟨#[82]⟩))),
 oD 116 (.fa 3 8),
 oN (.st 1 116 115)]
def Z1.r13:List Oper:=[
 oM 97 9,
 oD 98 (.bin .add 97 (cI 1)),
 oM 9 98]
def Z1.l1:Code:=.seq (.seq Z1.r12 (.cond 96 (.skip) (.exit 4))) (.seq (.block 5 (.seq Z1.r14 (.cond 108 Z1.r15 Z1.r16))) Z1.r13)
def Z1.r17:List Oper:=[
 oD 117 (.fa 1 5),
 oD 118 (.ld false 1 117),
 oD 119 (.ld true 4 8),
 oD 120 (.bsl 4 1 [.n 0,.n 0,.n 0,.s ⟨#[]⟩] [(0,4,.t 119)]),
 oD 121 (.app 4 40 118 120),
 oD 122 (.fa 1 5),
 oN (.st 1 122 121)]
def Z1.r8:List Oper:=[
 oM 50 7,
 oD 51 (.bin .add 50 (cI 1)),
 oM 7 51]
def Z1.l2:Code:=.seq (.seq Z1.r7 (.cond 49 (.skip) (.exit 2))) (.seq (.block 3 (.seq (.draw Z1.r9 [(1,8),(5,8),(1,12),(5,12),(8,12),(1,16),(5,16),(8,16),(1,19),(5,19),(8,19),(12,19),(16,19),(1,23),(5,23),(8,23),(12,23),(16,23),(19,23),(1,27),(5,27),(8,27),(12,27),(16,27),(19,27),(1,31),(5,31),(8,31),(12,31),(16,31),(19,31),(23,31),(27,31)]) (.seq (.seq Z1.r10 (.cond 87 (.seq Z1.r11 (.block 4 (.loop Z1.l1))) (.skip))) Z1.r17))) Z1.r8)
def Z1.r18:List Oper:=[
 oD 123 (.ld true 2 5),
 oN (.st 2 4 123)]
def Z1.code:Code:=.seq Z1.r0 (.seq Z1.r1 (.seq (.seq Z1.r2 (.block 0 (.loop Z1.l0))) (.seq (.seq Z1.r6 (.block 2 (.loop Z1.l2))) (.seq Z1.r18 (.ret)))))
def Z1:Func:=⟨124,[.cell 4 true 2],Z1.code⟩
/-! muntin/muntinref11.Wrong -/
def Zq.r0:List Oper:=[
 oD 1 (.box 0),
 oM 2 (cI 0)]
def Zq.r1:List Oper:=[
 oD 10 (.ld true 2 1),
 oC 11 197 [10],
 oM 3 11]
def Zq.r2:List Oper:=[
 oM 12 3,
 oD 13 (.eq true .sc 12 (cI 0))]
def Zq.r3:List Oper:=[
 oM 14 3,
 oM 2 14]
def Zq.r4:List Oper:=[
 oD 15 (.ld true 2 1),
 oC 16 198 [15],
 oM 4 16]
def Zq.r5:List Oper:=[
 oM 17 4,
 oD 18 (.bin .gtr 17 (cI 4096))]
def Zq.r6:List Oper:=[
 oM 2 (cI 6)]
def Zq.r7:List Oper:=[
 oM 5 (cI 0)]
def Zq.r8:List Oper:=[
 oM 19 5,
 oD 20 (.fa 0 1),
 oD 21 (.ld false 1 20),
 oD 22 (.len 21),
 oD 23 (.bin .lss 19 22)]
def Zq.r10:List Oper:=[
 oM 6 (cI 0)]
def Zq.r11:List Oper:=[
 oM 26 6,
 oD 27 (.bin .lss 26 (cI 4)),
 oM 28 27,
 oT 29 28 (.fa 0 1),
 oT 30 28 (.ld false 1 29),
 oT 31 28 (.mv 5),
 oT 32 28 (.ixa 1 30 31),
 oT 33 28 (.ld false 1 32),
 oT 34 28 (.un .not 33),
 oD 35 (.pick 28 34 (.c (.b false)))]
def Zq.r13:List Oper:=[
 oD 38 (.ld true 2 1),
 oM 39 5,
 oM 40 6,
 oC 41 199 [38,39,40],
 oM 7 41]
def Zq.r14:List Oper:=[
 oM 42 7,
 oD 43 (.len 42),
 oD 44 (.bin .gtr 43 (cI 1))]
def Zq.r15:List Oper:=[
 oM 2 (cI 8)]
def Zq.r12:List Oper:=[
 oM 36 6,
 oD 37 (.bin .add 36 (cI 1)),
 oM 6 37]
def Zq.l0:Code:=.seq (.seq Zq.r11 (.cond 35 (.skip) (.exit 2))) (.seq (.block 3 (.seq Zq.r13 (.seq Zq.r14 (.cond 44 (.seq Zq.r15 (.ret)) (.skip))))) Zq.r12)
def Zq.r9:List Oper:=[
 oM 24 5,
 oD 25 (.bin .add 24 (cI 1)),
 oM 5 25]
def Zq.l1:Code:=.seq (.seq Zq.r8 (.cond 23 (.skip) (.exit 0))) (.seq (.block 1 (.seq Zq.r10 (.block 2 (.loop Zq.l0)))) Zq.r9)
def Zq.r16:List Oper:=[
 oM 8 (cI 0)]
def Zq.r17:List Oper:=[
 oM 45 8,
 oD 46 (.fa 1 1),
 oD 47 (.ld false 1 46),
 oD 48 (.len 47),
 oD 49 (.bin .lss 45 48)]
def Zq.r19:List Oper:=[
 oD 52 (.fa 1 1),
 oD 53 (.ld false 1 52),
 oM 54 8,
 oD 55 (.ixa 4 53 54),
 oD 56 (.ld true 4 55),
 oD 9 (.alloc [.n 0,.n 0,.n 0,.s ⟨#[]⟩]),
 oN (.st 4 9 56)]
def Zq.r20:List Oper:=[
 oD 57 (.fa 0 9),
 oD 58 (.ld false 1 57),
 oD 59 (.fa 1 9),
 oD 60 (.ld false 1 59),
 oD 61 (.eq false .sc 58 60),
 oM 62 61,
 oT 63 62 (.fa 3 9),
 oT 64 62 (.ld false 1 63),
 oT 65 62 (.eq false .sc 64 (.c (.s ⟨#[]⟩))),
 oD 66 (.pick 62 65 (.c (.b false))),
 oM 67 66,
 oT 68 67 (.fa 0 1),
 oT 69 67 (.ld false 1 68),
 oT 70 67 (.fa 0 9),
 oT 71 67 (.ld false 1 70),
 oT 72 67 (.ixa 1 69 71),
 oT 73 67 (.ld false 1 72),
 oT 74 67 (.un .not 73),
 oD 75 (.pick 67 74 (.c (.b false)))]
def Zq.r21:List Oper:=[
 oM 2 (cI 10)]
def Zq.r18:List Oper:=[
 oM 50 8,
 oD 51 (.bin .add 50 (cI 1)),
 oM 8 51]
def Zq.l2:Code:=.seq (.seq Zq.r17 (.cond 49 (.skip) (.exit 4))) (.seq (.block 5 (.seq Zq.r19 (.seq Zq.r20 (.cond 75 (.seq Zq.r21 (.ret)) (.skip))))) Zq.r18)
def Zq.r22:List Oper:=[
 oM 2 (cI 0)]
def Zq.code:Code:=.seq Zq.r0 (.seq Zq.r1 (.seq (.seq Zq.r2 (.cond 13 (.seq Zq.r3 (.ret)) (.skip))) (.seq Zq.r4 (.seq (.seq Zq.r5 (.cond 18 (.seq Zq.r6 (.ret)) (.skip))) (.seq (.seq Zq.r7 (.block 0 (.loop Zq.l1))) (.seq (.seq Zq.r16 (.block 4 (.loop Zq.l2))) (.seq Zq.r22 (.ret))))))))
def Zq:Func:=⟨76,[.t 2],Zq.code⟩
/-! muntin/muntinref11.Of -/
def Zi.r0:List Oper:=[
 oD 1 (.box 0),
 oD 2 (.alloc [.sn,.sn,.sn,.sn])]
def Zi.r1:List Oper:=[
 oD 17 (.fa 1 1),
 oD 18 (.ld false 1 17),
 oD 19 (.len 18),
 oD 20 (.mks 2 16 [.n 0,.n 0] 19 19),
 oD 21 (.build [.sn,.sn,.sn,.sn] [(2,1,.t 20)]),
 oD 3 (.alloc [.sn,.sn,.sn,.sn]),
 oN (.st 4 3 21)]
def Zi.r2:List Oper:=[
 oM 4 (cI 0)]
def Zi.r3:List Oper:=[
 oM 22 4,
 oD 23 (.fa 0 1),
 oD 24 (.ld false 1 23),
 oD 25 (.len 24),
 oD 26 (.bin .lss 22 25)]
def Zi.r5:List Oper:=[
 oD 29 (.fa 0 3),
 oD 30 (.ld false 1 29),
 oD 31 (.len 30),
 oM 5 31]
def Zi.r6:List Oper:=[
 oD 32 (.fa 1 3),
 oD 33 (.ld false 1 32),
 oM 34 5,
 oD 35 (.bsl 1 1 [.n 0] [(0,1,.t 34)]),
 oD 36 (.app 1 8 33 35),
 oD 37 (.fa 1 3),
 oN (.st 1 37 36)]
def Zi.r7:List Oper:=[
 oD 38 (.fa 0 1),
 oD 39 (.ld false 1 38),
 oM 40 4,
 oD 41 (.ixa 1 39 40),
 oD 42 (.ld false 1 41)]
def Zi.r8:List Oper:=[
 oD 43 (.ld true 4 3),
 oD 44 (.ld true 2 1),
 oM 45 4,
 oC 46 200 [43,44,45],
 oN (.st 4 3 46)]
def Zi.r9:List Oper:=[
 oC 47 46 [.c (.n 1)],
 oM 6 47]
def Zi.r10:List Oper:=[
 oD 48 (.fa 0 3),
 oD 49 (.ld false 1 48),
 oM 50 6,
 oD 51 (.app 8 64 49 50),
 oD 52 (.fa 0 3),
 oN (.st 1 52 51)]
def Zi.r11:List Oper:=[
 oM 7 (cI 0)]
def Zi.r12:List Oper:=[
 oM 53 7,
 oD 54 (.bin .lss 53 (cI 4))]
def Zi.r14:List Oper:=[
 oD 57 (.ld true 2 1),
 oM 58 4,
 oM 59 7,
 oC 60 199 [57,58,59],
 oM 8 60]
def Zi.r15:List Oper:=[
 oM 9 (cI 0)]
def Zi.r16:List Oper:=[
 oM 61 9,
 oM 62 8,
 oD 63 (.len 62),
 oD 64 (.bin .lss 61 63)]
def Zi.r18:List Oper:=[
 oD 67 (.fa 2 3),
 oD 68 (.ld false 1 67),
 oM 69 8,
 oM 70 9,
 oD 71 (.ixa 1 69 70),
 oD 72 (.ld false 1 71),
 oD 73 (.bin .quo 72 (cI 2)),
 oM 74 8,
 oM 75 9,
 oD 76 (.ixa 1 74 75),
 oD 77 (.ld false 1 76),
 oD 78 (.bin .rem 77 (cI 2)),
 oM 79 5,
 oD 80 (.ixa 2 68 73),
 oD 81 (.ixaa 1 2 80 78),
 oN (.st 1 81 79)]
def Zi.r17:List Oper:=[
 oM 65 9,
 oD 66 (.bin .add 65 (cI 1)),
 oM 9 66]
def Zi.l0:Code:=.seq (.seq Zi.r16 (.cond 64 (.skip) (.exit 4))) (.seq (.block 5 (.draw Zi.r18 [(1,5),(1,10),(5,10)])) Zi.r17)
def Zi.r13:List Oper:=[
 oM 55 7,
 oD 56 (.bin .add 55 (cI 1)),
 oM 7 56]
def Zi.l1:Code:=.seq (.seq Zi.r12 (.cond 54 (.skip) (.exit 2))) (.seq (.block 3 (.seq Zi.r14 (.seq Zi.r15 (.block 4 (.loop Zi.l0))))) Zi.r13)
def Zi.r4:List Oper:=[
 oM 27 4,
 oD 28 (.bin .add 27 (cI 1)),
 oM 4 28]
def Zi.l2:Code:=.seq (.seq Zi.r3 (.cond 26 (.skip) (.exit 0))) (.seq (.block 1 (.seq Zi.r5 (.seq Zi.r6 (.seq (.seq Zi.r7 (.cond 42 (.seq Zi.r8 (.exit 1)) (.skip))) (.seq Zi.r9 (.seq Zi.r10 (.seq Zi.r11 (.block 2 (.loop Zi.l1))))))))) Zi.r4)
def Zi.r19:List Oper:=[
 oM 10 (cI 0)]
def Zi.r20:List Oper:=[
 oM 82 10,
 oD 83 (.fa 1 1),
 oD 84 (.ld false 1 83),
 oD 85 (.len 84),
 oD 86 (.bin .lss 82 85)]
def Zi.r22:List Oper:=[
 oD 89 (.fa 2 3),
 oD 90 (.ld false 1 89),
 oM 91 10,
 oD 92 (.ixa 2 90 91),
 oD 93 (.ixaa 1 2 92 (cI 0)),
 oD 94 (.ld false 1 93),
 oM 11 94]
def Zi.r23:List Oper:=[
 oD 95 (.fa 1 1),
 oD 96 (.ld false 1 95),
 oM 97 10,
 oD 98 (.ixa 4 96 97),
 oD 99 (.fa 2 98),
 oD 100 (.ld false 1 99),
 oM 12 100]
def Zi.r24:List Oper:=[
 oM 101 11,
 oD 102 (.bsl 1 1 [.n 0] [(0,1,.t 101)]),
 oM 13 102]
def Zi.r25:List Oper:=[
 oM 14 (cI 0)]
def Zi.r26:List Oper:=[
 oM 103 14,
 oD 104 (.fa 1 1),
 oD 105 (.ld false 1 104),
 oM 106 10,
 oD 107 (.ixa 4 105 106),
 oD 108 (.fa 3 107),
 oD 109 (.ld false 1 108),
 oD 110 (.slen 109),
 oD 111 (.bin .lss 103 110)]
def Zi.r28:List Oper:=[
 oD 114 (.fa 0 3),
 oD 115 (.ld false 1 114),
 oD 116 (.len 115),
 oM 15 116]
def Zi.r29:List Oper:=[
 oC 117 46 [.c (.n 1)],
 oM 16 117]
def Zi.r30:List Oper:=[
 oD 118 (.fa 0 3),
 oD 119 (.ld false 1 118),
 oM 120 16,
 oD 121 (.app 8 64 119 120),
 oD 122 (.fa 0 3),
 oN (.st 1 122 121)]
def Zi.r31:List Oper:=[
 oD 124 (.fa 0 3),
 oD 125 (.ld false 1 124),
 oM 126 11,
 oM 127 12,
 oM 128 15,
 oM 129 10,
 oC 130 53 [125,126,127,128,129],
 oM 123 130,
 oD 131 (.ext 123 0),
 oD 132 (.ext 123 1),
 oD 133 (.fa 0 3),
 oN (.st 1 133 131)]
def Zi.r32:List Oper:=[
 oM 134 15,
 oM 11 134]
def Zi.r33:List Oper:=[
 oM 135 13,
 oM 136 15,
 oD 137 (.bsl 1 1 [.n 0] [(0,1,.t 136)]),
 oD 138 (.app 1 8 135 137),
 oM 13 138]
def Zi.r34:List Oper:=[
 oD 139 (.fa 1 1),
 oD 140 (.ld false 1 139),
 oM 141 10,
 oD 142 (.ixa 4 140 141),
 oD 143 (.fa 3 142),
 oD 144 (.ld false 1 143),
 oM 145 14,
 oD 146 (.ixs 144 145),
 oD 147 (.eq false .sc 146 (.c (.i .u8 76)))]
def Zi.r35:List Oper:=[
 oM 148 12,
 oD 149 (.bin .add 148 (cI 1)),
 oD 150 (.bin .rem 149 (cI 4)),
 oM 12 150]
def Zi.r36:List Oper:=[
 oM 151 12,
 oD 152 (.bin .add 151 (cI 3)),
 oD 153 (.bin .rem 152 (cI 4)),
 oM 12 153]
def Zi.r27:List Oper:=[
 oM 112 14,
 oD 113 (.bin .add 112 (cI 1)),
 oM 14 113]
def Zi.l3:Code:=.seq (.seq Zi.r26 (.cond 111 (.skip) (.exit 8))) (.seq (.block 9 (.seq Zi.r28 (.seq Zi.r29 (.seq Zi.r30 (.seq Zi.r31 (.seq Zi.r32 (.seq Zi.r33 (.seq Zi.r34 (.cond 147 Zi.r35 Zi.r36))))))))) Zi.r27)
def Zi.r37:List Oper:=[
 oD 155 (.fa 0 3),
 oD 156 (.ld false 1 155),
 oM 157 11,
 oM 158 12,
 oD 159 (.fa 2 3),
 oD 160 (.ld false 1 159),
 oM 161 10,
 oD 162 (.ixa 2 160 161),
 oD 163 (.ixaa 1 2 162 (cI 1)),
 oD 164 (.ld false 1 163),
 oM 165 10,
 oC 166 53 [156,157,158,164,165],
 oM 154 166,
 oD 167 (.ext 154 0),
 oD 168 (.ext 154 1),
 oD 169 (.fa 0 3),
 oN (.st 1 169 167)]
def Zi.r38:List Oper:=[
 oM 170 13,
 oD 171 (.fa 2 3),
 oD 172 (.ld false 1 171),
 oM 173 10,
 oD 174 (.ixa 2 172 173),
 oD 175 (.ixaa 1 2 174 (cI 1)),
 oD 176 (.ld false 1 175),
 oD 177 (.bsl 1 1 [.n 0] [(0,1,.t 176)]),
 oD 178 (.app 1 8 170 177),
 oM 13 178]
def Zi.r39:List Oper:=[
 oD 179 (.fa 3 3),
 oD 180 (.ld false 1 179),
 oM 181 13,
 oD 182 (.bsl 1 1 [.sn] [(0,1,.t 181)]),
 oD 183 (.app 1 24 180 182),
 oD 184 (.fa 3 3),
 oN (.st 1 184 183)]
def Zi.r21:List Oper:=[
 oM 87 10,
 oD 88 (.bin .add 87 (cI 1)),
 oM 10 88]
def Zi.l4:Code:=.seq (.seq Zi.r20 (.cond 86 (.skip) (.exit 6))) (.seq (.block 7 (.seq Zi.r22 (.seq Zi.r23 (.seq Zi.r24 (.seq (.seq Zi.r25 (.block 8 (.loop Zi.l3))) (.seq (.draw Zi.r37 [(1,5),(1,9)]) (.seq Zi.r38 Zi.r39))))))) Zi.r21)
def Zi.r40:List Oper:=[
 oD 185 (.ld true 4 3),
 oN (.st 4 2 185)]
def Zi.code:Code:=.seq Zi.r0 (.seq Zi.r1 (.seq (.seq Zi.r2 (.block 0 (.loop Zi.l2))) (.seq (.seq Zi.r19 (.block 6 (.loop Zi.l4))) (.seq Zi.r40 (.ret)))))
def Zi:Func:=⟨186,[.cell 2 true 4],Zi.code⟩
/-! muntin/valid.Check -/
def Zar.r0:List Oper:=[
 oM 2 (cI 0)]
def Zar.r1:List Oper:=[
 oM 6 0,
 oC 7 66 [6],
 oM 3 7]
def Zar.r2:List Oper:=[
 oM 8 3,
 oD 9 (.eq true .sc 8 (cI 0))]
def Zar.r3:List Oper:=[
 oM 10 3,
 oM 2 10]
def Zar.r4:List Oper:=[
 oM 11 0,
 oC 12 32 [11],
 oD 13 (.un .not 12)]
def Zar.r5:List Oper:=[
 oM 2 (cI 13)]
def Zar.r6:List Oper:=[
 oM 15 0,
 oC 16 201 [15],
 oM 14 16,
 oD 17 (.ext 14 0),
 oD 18 (.ext 14 1),
 oM 4 17,
 oM 5 18]
def Zar.r7:List Oper:=[
 oM 19 5,
 oD 20 (.un .not 19),
 oM 21 20,
 oT 22 21 (.mv 0),
 oT 23 21 (.len 22),
 oT 24 21 (.bin .gtr 23 (cI 1)),
 oD 25 (.pick 21 24 (.c (.b false)))]
def Zar.r8:List Oper:=[
 oM 2 (cI 10)]
def Zar.r9:List Oper:=[
 oM 2 (cI 0)]
def Zar.code:Code:=.seq Zar.r0 (.seq (.seq Zar.r1 (.seq Zar.r2 (.cond 9 (.seq Zar.r3 (.ret)) (.skip)))) (.seq (.seq Zar.r4 (.cond 13 (.seq Zar.r5 (.ret)) (.skip))) (.seq (.seq Zar.r6 (.seq Zar.r7 (.cond 25 (.seq Zar.r8 (.ret)) (.skip)))) (.seq Zar.r9 (.ret)))))
def Zar:Func:=⟨26,[.t 2],Zar.code⟩
/-! muntin/muntinref12.Faces -/
def Zx.r0:List Oper:=[
 oM 2 (.c (.sn))]
def Zx.r1:List Oper:=[
 oM 9 0,
 oD 10 (.len 9),
 oD 11 (.bin .mul (cI 4) 10),
 oD 12 (.mks 1 1 [.b false] 11 11),
 oM 3 12]
def Zx.r2:List Oper:=[
 oM 4 (.c (.sn))]
def Zx.r3:List Oper:=[
 oM 5 (cI 0)]
def Zx.r4:List Oper:=[
 oM 13 5,
 oM 14 0,
 oD 15 (.len 14),
 oD 16 (.bin .lss 13 15)]
def Zx.r6:List Oper:=[
 oM 6 (cI 0)]
def Zx.r7:List Oper:=[
 oM 19 6,
 oD 20 (.bin .lss 19 (cI 4))]
def Zx.r9:List Oper:=[
 oM 23 0,
 oM 24 5,
 oM 25 6,
 oD 26 (.ixa 8 23 24),
 oD 27 (.fa 0 26),
 oD 28 (.ixaa 1 4 27 25),
 oD 29 (.ld false 1 28),
 oD 30 (.bin .lss 29 (cI 0)),
 oM 31 30,
 oF 32 31 (.mv 3),
 oF 33 31 (.mv 5),
 oF 34 31 (.bin .mul (cI 4) 33),
 oF 35 31 (.mv 6),
 oF 36 31 (.bin .add 34 35),
 oF 37 31 (.ixa 1 32 36),
 oF 38 31 (.ld false 1 37),
 oD 39 (.pick 31 (.c (.b true)) 38)]
def Zx.r10:List Oper:=[
 oM 7 (.c (.sn))]
def Zx.r11:List Oper:=[
 oM 40 5,
 oM 41 6,
 oD 42 (.build [.n 0,.n 0] [(0,1,.t 40),(1,1,.t 41)]),
 oD 8 (.alloc [.n 0,.n 0]),
 oN (.st 2 8 42)]
def Zx.r12:List Oper:=[
 oM 43 3,
 oD 44 (.fa 0 8),
 oD 45 (.ld false 1 44),
 oD 46 (.bin .mul (cI 4) 45),
 oD 47 (.fa 1 8),
 oD 48 (.ld false 1 47),
 oD 49 (.bin .add 46 48),
 oD 50 (.ixa 1 43 49),
 oD 51 (.ld false 1 50),
 oD 52 (.un .not 51)]
def Zx.r13:List Oper:=[
 oM 53 3,
 oD 54 (.fa 0 8),
 oD 55 (.ld false 1 54),
 oD 56 (.bin .mul (cI 4) 55),
 oD 57 (.fa 1 8),
 oD 58 (.ld false 1 57),
 oD 59 (.bin .add 56 58),
 oD 60 (.ixa 1 53 59),
 oN (.st 1 60 (.c (.b true)))]
def Zx.r14:List Oper:=[
 oM 61 7,
 oD 62 (.ld true 2 8),
 oD 63 (.bsl 2 1 [.n 0,.n 0] [(0,2,.t 62)]),
 oD 64 (.app 2 16 61 63),
 oM 7 64]
def Zx.r15:List Oper:=[
 oM 65 0,
 oD 66 (.ld true 2 8),
 oC 67 202 [65,66],
 oN (.st 2 8 67)]
def Zx.l0:Code:=.seq (.seq Zx.r12 (.cond 52 (.skip) (.exit 4))) (.block 5 (.seq Zx.r13 (.seq Zx.r14 Zx.r15)))
def Zx.r16:List Oper:=[
 oM 68 4,
 oM 69 7,
 oD 70 (.bsl 1 1 [.sn] [(0,1,.t 69)]),
 oD 71 (.app 1 24 68 70),
 oM 4 71]
def Zx.r8:List Oper:=[
 oM 21 6,
 oD 22 (.bin .add 21 (cI 1)),
 oM 6 22]
def Zx.l1:Code:=.seq (.seq Zx.r7 (.cond 20 (.skip) (.exit 2))) (.seq (.block 3 (.seq (.seq Zx.r9 (.cond 39 (.exit 3) (.skip))) (.seq Zx.r10 (.seq Zx.r11 (.seq (.block 4 (.loop Zx.l0)) Zx.r16))))) Zx.r8)
def Zx.r5:List Oper:=[
 oM 17 5,
 oD 18 (.bin .add 17 (cI 1)),
 oM 5 18]
def Zx.l2:Code:=.seq (.seq Zx.r4 (.cond 16 (.skip) (.exit 0))) (.seq (.block 1 (.seq Zx.r6 (.block 2 (.loop Zx.l1)))) Zx.r5)
def Zx.r17:List Oper:=[
 oM 72 4,
 oM 2 72]
def Zx.code:Code:=.seq Zx.r0 (.seq Zx.r1 (.seq Zx.r2 (.seq (.seq Zx.r3 (.block 0 (.loop Zx.l2))) (.seq Zx.r17 (.ret)))))
def Zx:Func:=⟨73,[.t 2],Zx.code⟩
/-! muntin/muntinref14.Outer -/
def Zr.r0:List Oper:=[
 oM 2 (cI 0),
 oM 3 (cI 0)]
def Zr.r1:List Oper:=[
 oM 11 0,
 oC 12 34 [11],
 oM 4 12]
def Zr.r2:List Oper:=[
 oM 13 4,
 oD 14 (.eq true .sc 13 (cI 0))]
def Zr.r3:List Oper:=[
 oM 15 4,
 oM 2 (cI (-1)),
 oM 3 15]
def Zr.r4:List Oper:=[
 oM 16 0,
 oC 17 30 [16],
 oM 5 17]
def Zr.r5:List Oper:=[
 oM 18 5,
 oD 19 (.len 18),
 oD 20 (.eq true .sc 19 (cI 1))]
def Zr.r6:List Oper:=[
 oM 2 (cI (-1)),
 oM 3 (cI 13)]
def Zr.r7:List Oper:=[
 oM 21 0,
 oD 22 (.len 21),
 oD 23 (.eq false .sc 22 (cI 1))]
def Zr.r8:List Oper:=[
 oM 2 (cI (-1)),
 oM 3 (cI 0)]
def Zr.r9:List Oper:=[
 oM 24 0,
 oC 25 177 [24],
 oM 6 25]
def Zr.r10:List Oper:=[
 oM 7 (cI (-1))]
def Zr.r11:List Oper:=[
 oM 8 (cI 0)]
def Zr.r12:List Oper:=[
 oM 26 8,
 oM 27 6,
 oD 28 (.len 27),
 oD 29 (.bin .lss 26 28)]
def Zr.r14:List Oper:=[
 oM 32 0,
 oM 33 6,
 oM 34 8,
 oD 35 (.ixa 1 33 34),
 oD 36 (.ld false 1 35),
 oC 37 182 [32,36],
 oM 9 37]
def Zr.r15:List Oper:=[
 oM 38 9,
 oC 39 206 [38],
 oM 10 39]
def Zr.r16:List Oper:=[
 oM 40 10,
 oD 41 (.eq true .sc 40 (cI 4)),
 oM 42 41,
 oT 43 42 (.mv 10),
 oT 44 42 (.eq true .sc 43 (cI (-4))),
 oD 45 (.pick 42 44 (.c (.b false))),
 oM 46 45,
 oF 47 46 (.mv 10),
 oF 48 46 (.eq false .sc 47 (cI (-4))),
 oF 49 46 (.mv 48),
 oT 50 49 (.mv 7),
 oT 51 49 (.bin .geq 50 (cI 0)),
 oF 52 46 (.pick 49 51 (.c (.b false))),
 oD 53 (.pick 46 (.c (.b true)) 52)]
def Zr.r17:List Oper:=[
 oM 2 (cI (-1)),
 oM 3 (cI 10)]
def Zr.r18:List Oper:=[
 oM 54 10,
 oD 55 (.eq false .sc 54 (cI (-4)))]
def Zr.r19:List Oper:=[
 oM 56 8,
 oM 7 56]
def Zr.r13:List Oper:=[
 oM 30 8,
 oD 31 (.bin .add 30 (cI 1)),
 oM 8 31]
def Zr.l0:Code:=.seq (.seq Zr.r12 (.cond 29 (.skip) (.exit 0))) (.seq (.block 1 (.seq Zr.r14 (.seq Zr.r15 (.seq (.seq Zr.r16 (.cond 53 (.seq Zr.r17 (.ret)) (.skip))) (.seq Zr.r18 (.cond 55 Zr.r19 (.skip))))))) Zr.r13)
def Zr.r20:List Oper:=[
 oM 57 7,
 oD 58 (.bin .lss 57 (cI 0))]
def Zr.r21:List Oper:=[
 oM 2 (cI (-1)),
 oM 3 (cI 10)]
def Zr.r22:List Oper:=[
 oM 59 7,
 oM 2 59,
 oM 3 (cI 0)]
def Zr.code:Code:=.seq Zr.r0 (.seq Zr.r1 (.seq (.seq Zr.r2 (.cond 14 (.seq Zr.r3 (.ret)) (.skip))) (.seq Zr.r4 (.seq (.seq Zr.r5 (.cond 20 (.seq Zr.r6 (.ret)) (.skip))) (.seq (.seq Zr.r7 (.cond 23 (.seq Zr.r8 (.ret)) (.skip))) (.seq Zr.r9 (.seq Zr.r10 (.seq (.seq Zr.r11 (.block 0 (.loop Zr.l0))) (.seq (.seq Zr.r20 (.cond 58 (.seq Zr.r21 (.ret)) (.skip))) (.seq Zr.r22 (.ret)))))))))))
def Zr:Func:=⟨60,[.t 2,.t 3],Zr.code⟩
/-! muntin/muntinref12.Turns -/
def zr.r0:List Oper:=[
 oM 4 (.c (.sn))]
def zr.r1:List Oper:=[
 oM 5 (.c (.sn))]
def zr.r2:List Oper:=[
 oM 6 (cI 0)]
def zr.r3:List Oper:=[
 oM 9 6,
 oM 10 1,
 oD 11 (.len 10),
 oD 12 (.bin .lss 9 11)]
def zr.r5:List Oper:=[
 oM 15 0,
 oM 16 1,
 oM 17 6,
 oD 18 (.ixa 2 16 17),
 oD 19 (.ld true 2 18),
 oC 20 202 [15,19],
 oD 7 (.alloc [.n 0,.n 0]),
 oN (.st 2 7 20)]
def zr.r6:List Oper:=[
 oM 21 1,
 oM 22 6,
 oD 23 (.ixa 2 21 22),
 oD 24 (.fa 1 23),
 oD 25 (.ld false 1 24),
 oD 26 (.fa 1 7),
 oD 27 (.ld false 1 26),
 oC 28 207 [25,27],
 oM 8 28]
def zr.r7:List Oper:=[
 oM 29 5,
 oM 30 8,
 oD 31 (.bsl 1 1 [.n 0] [(0,1,.t 30)]),
 oD 32 (.app 1 8 29 31),
 oM 5 32]
def zr.r4:List Oper:=[
 oM 13 6,
 oD 14 (.bin .add 13 (cI 1)),
 oM 6 14]
def zr.l0:Code:=.seq (.seq zr.r3 (.cond 12 (.skip) (.exit 0))) (.seq (.block 1 (.seq zr.r5 (.seq (.draw zr.r6 [(4,6)]) zr.r7))) zr.r4)
def zr.r8:List Oper:=[
 oM 33 5,
 oM 4 33]
def zr.code:Code:=.seq zr.r0 (.seq zr.r1 (.seq (.seq zr.r2 (.block 0 (.loop zr.l0))) (.seq zr.r8 (.ret))))
def zr:Func:=⟨34,[.t 4],zr.code⟩
/-! muntin/muntinlaw22.wakes -/
def Zax.r0:List Oper:=[
 oM 0 (.c (.b false))]
def Zax.r1:List Oper:=[
 oC 10 213 [],
 oC 11 212 [10,.c (.sn)],
 oM 9 11,
 oD 12 (.ext 9 0),
 oD 13 (.ext 9 1),
 oD 14 (.ext 9 2),
 oM 1 12,
 oM 2 13,
 oM 3 14]
def Zax.r2:List Oper:=[
 oM 16 1,
 oC 17 214 [16],
 oM 15 17,
 oD 18 (.ext 15 0),
 oD 19 (.ext 15 1),
 oM 4 18,
 oM 5 19]
def Zax.r3:List Oper:=[
 oC 21 46 [.c (.n 2)],
 oC 22 212 [21,.c (.sn)],
 oM 20 22,
 oD 23 (.ext 20 0),
 oD 24 (.ext 20 1),
 oD 25 (.ext 20 2),
 oM 6 23,
 oM 7 24,
 oM 8 25]
def Zax.r4:List Oper:=[
 oM 26 3,
 oD 27 (.eq false .sc 26 (cI 0)),
 oM 28 27,
 oT 29 28 (.mv 2),
 oT 30 28 (.bin .gtr 29 (cI 0)),
 oD 31 (.pick 28 30 (.c (.b false))),
 oM 32 31,
 oT 33 32 (.mv 2),
 oT 34 32 (.bin .lss 33 (cI 3)),
 oD 35 (.pick 32 34 (.c (.b false))),
 oM 36 35,
 oT 37 36 (.mv 5),
 oT 38 36 (.eq false .sc 37 (cI 0)),
 oD 39 (.pick 36 38 (.c (.b false))),
 oM 40 39,
 oT 41 40 (.mv 4),
 oT 42 40 (.call (.c (.f 213 [])) []),
 oT 43 40 (.call (.c (.f 56 [])) [41,42]),
 oD 44 (.pick 40 43 (.c (.b false))),
 oM 45 44,
 oT 46 45 (.mv 8),
 oT 47 45 (.eq false .sc 46 (cI 13)),
 oD 48 (.pick 45 47 (.c (.b false))),
 oM 0 48]
def Zax.code:Code:=.seq Zax.r0 (.seq Zax.r1 (.seq Zax.r2 (.seq Zax.r3 (.seq Zax.r4 (.ret)))))
def Zax:Func:=⟨49,[.t 0],Zax.code⟩
/-! muntin/muntinref08.Check -/
def Z5.r0:List Oper:=[
 oD 1 (.box 0),
 oM 2 (cI 0)]
def Z5.r1:List Oper:=[
 oM 3 (cI 0)]
def Z5.r2:List Oper:=[
 oM 4 (cI 0)]
def Z5.r3:List Oper:=[
 oM 8 4,
 oD 9 (.fa 1 1),
 oD 10 (.ld false 1 9),
 oD 11 (.len 10),
 oD 12 (.bin .lss 8 11)]
def Z5.r5:List Oper:=[
 oM 15 3,
 oD 16 (.fa 1 1),
 oD 17 (.ld false 1 16),
 oM 18 4,
 oD 19 (.ixa 4 17 18),
 oD 20 (.fa 3 19),
 oD 21 (.ld false 1 20),
 oD 22 (.slen 21),
 oD 23 (.bin .add 15 22),
 oM 3 23]
def Z5.r4:List Oper:=[
 oM 13 4,
 oD 14 (.bin .add 13 (cI 1)),
 oM 4 14]
def Z5.l0:Code:=.seq (.seq Z5.r3 (.cond 12 (.skip) (.exit 0))) (.seq (.block 1 Z5.r5) Z5.r4)
def Z5.r6:List Oper:=[
 oD 24 (.fa 0 1),
 oD 25 (.ld false 1 24),
 oD 26 (.len 25),
 oD 27 (.bin .gtr 26 (cI 4096)),
 oM 28 27,
 oF 29 28 (.fa 1 1),
 oF 30 28 (.ld false 1 29),
 oF 31 28 (.len 30),
 oF 32 28 (.bin .gtr 31 (cI 4096)),
 oD 33 (.pick 28 (.c (.b true)) 32),
 oM 34 33,
 oF 35 34 (.mv 3),
 oF 36 34 (.bin .gtr 35 (cI 4096)),
 oD 37 (.pick 34 (.c (.b true)) 36)]
def Z5.r7:List Oper:=[
 oM 2 (cI 6)]
def Z5.r8:List Oper:=[
 oM 5 (cI 0)]
def Z5.r9:List Oper:=[
 oM 38 5,
 oD 39 (.fa 1 1),
 oD 40 (.ld false 1 39),
 oD 41 (.len 40),
 oD 42 (.bin .lss 38 41)]
def Z5.r11:List Oper:=[
 oD 45 (.fa 1 1),
 oD 46 (.ld false 1 45),
 oM 47 5,
 oD 48 (.ixa 4 46 47),
 oD 49 (.ld true 4 48),
 oD 6 (.alloc [.n 0,.n 0,.n 0,.s ⟨#[]⟩]),
 oN (.st 4 6 49)]
def Z5.r12:List Oper:=[
 oD 50 (.fa 0 6),
 oD 51 (.ld false 1 50),
 oD 52 (.bin .lss 51 (cI 0)),
 oM 53 52,
 oF 54 53 (.fa 0 6),
 oF 55 53 (.ld false 1 54),
 oF 56 53 (.fa 0 1),
 oF 57 53 (.ld false 1 56),
 oF 58 53 (.len 57),
 oF 59 53 (.bin .geq 55 58),
 oD 60 (.pick 53 (.c (.b true)) 59),
 oM 61 60,
 oF 62 61 (.fa 1 6),
 oF 63 61 (.ld false 1 62),
 oF 64 61 (.bin .lss 63 (cI 0)),
 oD 65 (.pick 61 (.c (.b true)) 64),
 oM 66 65,
 oF 67 66 (.fa 1 6),
 oF 68 66 (.ld false 1 67),
 oF 69 66 (.fa 0 1),
 oF 70 66 (.ld false 1 69),
 oF 71 66 (.len 70),
 oF 72 66 (.bin .geq 68 71),
 oD 73 (.pick 66 (.c (.b true)) 72)]
def Z5.r13:List Oper:=[
 oM 2 (cI 3)]
def Z5.r14:List Oper:=[
 oD 74 (.fa 3 6),
 oD 75 (.ld false 1 74),
 oC 76 217 [75],
 oM 7 76]
def Z5.r15:List Oper:=[
 oD 77 (.fa 2 6),
 oD 78 (.ld false 1 77),
 oD 79 (.bin .lss 78 (cI 0)),
 oM 80 79,
 oF 81 80 (.fa 2 6),
 oF 82 80 (.ld false 1 81),
 oF 83 80 (.bin .gtr 82 (cI 3)),
 oD 84 (.pick 80 (.c (.b true)) 83),
 oM 85 84,
 oF 86 85 (.mv 7),
 oF 87 85 (.un .not 86),
 oD 88 (.pick 85 (.c (.b true)) 87)]
def Z5.r16:List Oper:=[
 oM 2 (cI 2)]
def Z5.r10:List Oper:=[
 oM 43 5,
 oD 44 (.bin .add 43 (cI 1)),
 oM 5 44]
def Z5.l1:Code:=.seq (.seq Z5.r9 (.cond 42 (.skip) (.exit 2))) (.seq (.block 3 (.seq Z5.r11 (.seq (.seq Z5.r12 (.cond 73 (.seq Z5.r13 (.ret)) (.skip))) (.seq Z5.r14 (.seq Z5.r15 (.cond 88 (.seq Z5.r16 (.ret)) (.skip))))))) Z5.r10)
def Z5.r17:List Oper:=[
 oM 2 (cI 0)]
def Z5.code:Code:=.seq Z5.r0 (.seq Z5.r1 (.seq (.seq Z5.r2 (.block 0 (.loop Z5.l0))) (.seq (.seq Z5.r6 (.cond 37 (.seq Z5.r7 (.ret)) (.skip))) (.seq (.seq Z5.r8 (.block 2 (.loop Z5.l1))) (.seq Z5.r17 (.ret))))))
def Z5:Func:=⟨89,[.t 2],Z5.code⟩
/-! muntin/muntinref11.Count -/
def Zw.r0:List Oper:=[
 oD 1 (.box 0),
 oM 2 (cI 0)]
def Zw.r1:List Oper:=[
 oM 3 (cI 0)]
def Zw.r2:List Oper:=[
 oM 4 (cI 0)]
def Zw.r3:List Oper:=[
 oM 8 4,
 oD 9 (.fa 0 1),
 oD 10 (.ld false 1 9),
 oD 11 (.len 10),
 oD 12 (.bin .lss 8 11)]
def Zw.r5:List Oper:=[
 oM 15 3,
 oD 16 (.bin .add 15 (cI 1)),
 oM 3 16]
def Zw.r6:List Oper:=[
 oM 5 (cI 0)]
def Zw.r7:List Oper:=[
 oM 17 5,
 oD 18 (.bin .lss 17 (cI 4)),
 oM 19 18,
 oT 20 19 (.fa 0 1),
 oT 21 19 (.ld false 1 20),
 oT 22 19 (.mv 4),
 oT 23 19 (.ixa 1 21 22),
 oT 24 19 (.ld false 1 23),
 oD 25 (.pick 19 24 (.c (.b false)))]
def Zw.r9:List Oper:=[
 oD 28 (.ld true 2 1),
 oM 29 4,
 oM 30 5,
 oC 31 199 [28,29,30],
 oM 6 31]
def Zw.r10:List Oper:=[
 oM 32 3,
 oM 33 6,
 oD 34 (.len 33),
 oD 35 (.bin .add 32 34),
 oM 3 35]
def Zw.r8:List Oper:=[
 oM 26 5,
 oD 27 (.bin .add 26 (cI 1)),
 oM 5 27]
def Zw.l0:Code:=.seq (.seq Zw.r7 (.cond 25 (.skip) (.exit 2))) (.seq (.block 3 (.seq Zw.r9 Zw.r10)) Zw.r8)
def Zw.r11:List Oper:=[
 oD 36 (.fa 0 1),
 oD 37 (.ld false 1 36),
 oM 38 4,
 oD 39 (.ixa 1 37 38),
 oD 40 (.ld false 1 39)]
def Zw.r12:List Oper:=[
 oM 41 3,
 oD 42 (.bin .add 41 (cI 3)),
 oM 3 42]
def Zw.r4:List Oper:=[
 oM 13 4,
 oD 14 (.bin .add 13 (cI 1)),
 oM 4 14]
def Zw.l1:Code:=.seq (.seq Zw.r3 (.cond 12 (.skip) (.exit 0))) (.seq (.block 1 (.seq Zw.r5 (.seq (.seq Zw.r6 (.block 2 (.loop Zw.l0))) (.seq Zw.r11 (.cond 40 Zw.r12 (.skip)))))) Zw.r4)
def Zw.r13:List Oper:=[
 oM 7 (cI 0)]
def Zw.r14:List Oper:=[
 oM 43 7,
 oD 44 (.fa 1 1),
 oD 45 (.ld false 1 44),
 oD 46 (.len 45),
 oD 47 (.bin .lss 43 46)]
def Zw.r16:List Oper:=[
 oM 50 3,
 oD 51 (.fa 1 1),
 oD 52 (.ld false 1 51),
 oM 53 7,
 oD 54 (.ixa 4 52 53),
 oD 55 (.fa 3 54),
 oD 56 (.ld false 1 55),
 oD 57 (.slen 56),
 oD 58 (.bin .add 50 57),
 oM 3 58]
def Zw.r15:List Oper:=[
 oM 48 7,
 oD 49 (.bin .add 48 (cI 1)),
 oM 7 49]
def Zw.l2:Code:=.seq (.seq Zw.r14 (.cond 47 (.skip) (.exit 4))) (.seq (.block 5 Zw.r16) Zw.r15)
def Zw.r17:List Oper:=[
 oM 59 3,
 oM 2 59]
def Zw.code:Code:=.seq Zw.r0 (.seq Zw.r1 (.seq (.seq Zw.r2 (.block 0 (.loop Zw.l1))) (.seq (.seq Zw.r13 (.block 4 (.loop Zw.l2))) (.seq Zw.r17 (.ret)))))
def Zw:Func:=⟨60,[.t 2],Zw.code⟩
/-! muntin/muntinref11.On -/
def zq.r0:List Oper:=[
 oD 3 (.box 0),
 oM 6 (.c (.sn))]
def zq.r1:List Oper:=[
 oM 7 (.c (.sn))]
def zq.r2:List Oper:=[
 oM 8 (cI 0)]
def zq.r3:List Oper:=[
 oM 11 8,
 oD 12 (.fa 1 3),
 oD 13 (.ld false 1 12),
 oD 14 (.len 13),
 oD 15 (.bin .lss 11 14)]
def zq.r5:List Oper:=[
 oD 18 (.fa 1 3),
 oD 19 (.ld false 1 18),
 oM 20 8,
 oD 21 (.ixa 4 19 20),
 oD 22 (.ld true 4 21),
 oD 9 (.alloc [.n 0,.n 0,.n 0,.s ⟨#[]⟩]),
 oN (.st 4 9 22)]
def zq.r6:List Oper:=[
 oD 23 (.fa 0 9),
 oD 24 (.ld false 1 23),
 oM 25 1,
 oD 26 (.eq false .sc 24 25),
 oM 27 26,
 oT 28 27 (.fa 2 9),
 oT 29 27 (.ld false 1 28),
 oT 30 27 (.mv 2),
 oT 31 27 (.eq false .sc 29 30),
 oD 32 (.pick 27 31 (.c (.b false)))]
def zq.r7:List Oper:=[
 oM 33 7,
 oM 34 8,
 oD 35 (.bin .mul (cI 2) 34),
 oD 36 (.bsl 1 1 [.n 0] [(0,1,.t 35)]),
 oD 37 (.app 1 8 33 36),
 oM 7 37]
def zq.r8:List Oper:=[
 oD 38 (.ld true 4 9),
 oC 39 218 [38],
 oM 10 39]
def zq.r9:List Oper:=[
 oD 40 (.fa 1 9),
 oD 41 (.ld false 1 40),
 oM 42 1,
 oD 43 (.eq false .sc 41 42),
 oM 44 43,
 oT 45 44 (.mv 10),
 oT 46 44 (.mv 2),
 oT 47 44 (.eq false .sc 45 46),
 oD 48 (.pick 44 47 (.c (.b false)))]
def zq.r10:List Oper:=[
 oM 49 7,
 oM 50 8,
 oD 51 (.bin .mul (cI 2) 50),
 oD 52 (.bin .add 51 (cI 1)),
 oD 53 (.bsl 1 1 [.n 0] [(0,1,.t 52)]),
 oD 54 (.app 1 8 49 53),
 oM 7 54]
def zq.r4:List Oper:=[
 oM 16 8,
 oD 17 (.bin .add 16 (cI 1)),
 oM 8 17]
def zq.l0:Code:=.seq (.seq zq.r3 (.cond 15 (.skip) (.exit 0))) (.seq (.block 1 (.seq zq.r5 (.seq (.seq zq.r6 (.cond 32 zq.r7 (.skip))) (.seq zq.r8 (.seq zq.r9 (.cond 48 zq.r10 (.skip))))))) zq.r4)
def zq.r11:List Oper:=[
 oM 55 7,
 oM 6 55]
def zq.code:Code:=.seq zq.r0 (.seq zq.r1 (.seq (.seq zq.r2 (.block 0 (.loop zq.l0))) (.seq zq.r11 (.ret))))
def zq:Func:=⟨56,[.t 6],zq.code⟩
/-! muntin/muntinref11.box -/
def Zy.r0:List Oper:=[
 oD 3 (.box 0),
 oD 4 (.box 1),
 oD 6 (.alloc [.sn,.sn,.sn,.sn])]
def Zy.r1:List Oper:=[
 oD 17 (.fa 0 3),
 oD 18 (.ld false 1 17),
 oD 19 (.len 18),
 oM 7 19]
def Zy.r2:List Oper:=[
 oC 20 46 [.c (.n 4)],
 oM 8 20]
def Zy.r3:List Oper:=[
 oD 21 (.fa 0 3),
 oD 22 (.ld false 1 21),
 oM 23 8,
 oD 24 (.app 8 64 22 23),
 oD 25 (.fa 0 3),
 oN (.st 1 25 24)]
def Zy.r4:List Oper:=[
 oM 9 (cI 0)]
def Zy.r5:List Oper:=[
 oM 26 9,
 oD 27 (.bin .lss 26 (cI 4))]
def Zy.r7:List Oper:=[
 oM 30 7,
 oD 31 (.bin .add 30 (cI 1)),
 oM 32 7,
 oD 33 (.bin .add 32 (cI 3)),
 oM 34 7,
 oM 35 7,
 oD 36 (.bsl 1 4 [.n 0] [(0,1,.t 31),(1,1,.t 33),(2,1,.t 34),(3,1,.t 35)]),
 oM 37 9,
 oD 38 (.ixa 1 36 37),
 oD 39 (.ld false 1 38),
 oM 10 39]
def Zy.r8:List Oper:=[
 oM 40 7,
 oD 41 (.bin .add 40 (cI 2)),
 oM 42 7,
 oD 43 (.bin .add 42 (cI 2)),
 oM 44 7,
 oD 45 (.bin .add 44 (cI 3)),
 oM 46 7,
 oD 47 (.bin .add 46 (cI 1)),
 oD 48 (.bsl 1 4 [.n 0] [(0,1,.t 41),(1,1,.t 43),(2,1,.t 45),(3,1,.t 47)]),
 oM 49 9,
 oD 50 (.ixa 1 48 49),
 oD 51 (.ld false 1 50),
 oM 11 51]
def Zy.r9:List Oper:=[
 oD 52 (.bsl 1 4 [.n 0] [(0,1,.c (.n 1)),(1,1,.c (.n 0)),(2,1,.c (.n 1)),(3,1,.c (.n 0))]),
 oM 53 9,
 oD 54 (.ixa 1 52 53),
 oD 55 (.ld false 1 54),
 oM 12 55]
def Zy.r10:List Oper:=[
 oD 56 (.ld true 2 4),
 oM 57 2,
 oM 58 9,
 oC 59 199 [56,57,58],
 oM 13 59]
def Zy.r11:List Oper:=[
 oM 14 (cI 0)]
def Zy.r12:List Oper:=[
 oM 60 14,
 oM 61 13,
 oD 62 (.len 61),
 oD 63 (.bin .lss 60 62)]
def Zy.r14:List Oper:=[
 oD 66 (.fa 0 3),
 oD 67 (.ld false 1 66),
 oD 68 (.len 67),
 oM 15 68]
def Zy.r15:List Oper:=[
 oC 69 46 [.c (.n 1)],
 oM 16 69]
def Zy.r16:List Oper:=[
 oD 70 (.fa 0 3),
 oD 71 (.ld false 1 70),
 oM 72 16,
 oD 73 (.app 8 64 71 72),
 oD 74 (.fa 0 3),
 oN (.st 1 74 73)]
def Zy.r17:List Oper:=[
 oD 75 (.fa 2 3),
 oD 76 (.ld false 1 75),
 oM 77 13,
 oM 78 14,
 oD 79 (.ixa 1 77 78),
 oD 80 (.ld false 1 79),
 oD 81 (.bin .quo 80 (cI 2)),
 oM 82 13,
 oM 83 14,
 oD 84 (.ixa 1 82 83),
 oD 85 (.ld false 1 84),
 oD 86 (.bin .rem 85 (cI 2)),
 oM 87 15,
 oD 88 (.ixa 2 76 81),
 oD 89 (.ixaa 1 2 88 86),
 oN (.st 1 89 87)]
def Zy.r18:List Oper:=[
 oD 91 (.fa 0 3),
 oD 92 (.ld false 1 91),
 oM 93 10,
 oM 94 12,
 oM 95 15,
 oC 96 53 [92,93,94,95,.c (.n (-1))],
 oM 90 96,
 oD 97 (.ext 90 0),
 oD 98 (.ext 90 1),
 oD 99 (.fa 0 3),
 oN (.st 1 99 97)]
def Zy.r19:List Oper:=[
 oM 100 15,
 oM 10 100]
def Zy.r13:List Oper:=[
 oM 64 14,
 oD 65 (.bin .add 64 (cI 1)),
 oM 14 65]
def Zy.l0:Code:=.seq (.seq Zy.r12 (.cond 63 (.skip) (.exit 2))) (.seq (.block 3 (.seq Zy.r14 (.seq Zy.r15 (.seq Zy.r16 (.seq (.draw Zy.r17 [(1,5),(1,10),(5,10)]) (.seq Zy.r18 Zy.r19)))))) Zy.r13)
def Zy.r20:List Oper:=[
 oD 102 (.fa 0 3),
 oD 103 (.ld false 1 102),
 oM 104 10,
 oM 105 12,
 oM 106 11,
 oC 107 53 [103,104,105,106,.c (.n (-1))],
 oM 101 107,
 oD 108 (.ext 101 0),
 oD 109 (.ext 101 1),
 oD 110 (.fa 0 3),
 oN (.st 1 110 108)]
def Zy.r6:List Oper:=[
 oM 28 9,
 oD 29 (.bin .add 28 (cI 1)),
 oM 9 29]
def Zy.l1:Code:=.seq (.seq Zy.r5 (.cond 27 (.skip) (.exit 0))) (.seq (.block 1 (.seq Zy.r7 (.seq Zy.r8 (.seq Zy.r9 (.seq Zy.r10 (.seq (.seq Zy.r11 (.block 2 (.loop Zy.l0))) Zy.r20)))))) Zy.r6)
def Zy.r21:List Oper:=[
 oD 111 (.ld true 4 3),
 oN (.st 4 6 111)]
def Zy.code:Code:=.seq Zy.r0 (.seq Zy.r1 (.seq Zy.r2 (.seq Zy.r3 (.seq (.seq Zy.r4 (.block 0 (.loop Zy.l1))) (.seq Zy.r21 (.ret))))))
def Zy:Func:=⟨112,[.cell 6 true 4],Zy.code⟩
/-! muntin/valid.outer -/
def zx.r0:List Oper:=[
 oM 2 (cI 0),
 oM 3 (.c (.b false))]
def zx.r1:List Oper:=[
 oM 10 0,
 oC 11 203 [10],
 oM 9 11,
 oD 12 (.ext 9 0),
 oD 13 (.ext 9 1),
 oM 4 12,
 oM 5 13]
def zx.r2:List Oper:=[
 oM 6 (cI (-1))]
def zx.r3:List Oper:=[
 oM 14 4,
 oD 15 (.len 14),
 oM 16 (cI 0)]
def zx.r4:List Oper:=[
 oD 17 (.bin .lss 16 15)]
def zx.r5:List Oper:=[
 oM 18 16,
 oD 19 (.ixa 1 14 16),
 oD 20 (.ld false 1 19),
 oM 7 18,
 oM 8 20]
def zx.r6:List Oper:=[
 oM 21 0,
 oM 22 8,
 oC 23 204 [21,22],
 oC 24 219 [23]]
def zx.r8:List Oper:=[
 oD 26 (.eq false .sc 24 (cI 4)),
 oM 25 26]
def zx.r9:List Oper:=[
 oD 28 (.eq false .sc 24 (cI (-4))),
 oM 27 28]
def zx.r10:List Oper:=[
 oM 29 6,
 oD 30 (.bin .geq 29 (cI 0))]
def zx.r11:List Oper:=[
 oM 2 (cI 0),
 oM 3 (.c (.b false))]
def zx.r12:List Oper:=[
 oM 31 7,
 oM 6 31]
def zx.r7:List Oper:=[
 oM 2 (cI 0),
 oM 3 (.c (.b false))]
def zx.r13:List Oper:=[
 oD 32 (.bin .add 16 (cI 1)),
 oM 16 32]
def zx.l0:Code:=.seq zx.r4 (.seq (.cond 17 (.skip) (.exit 0)) (.seq (.block 1 (.seq zx.r5 (.seq zx.r6 (.block 2 (.seq zx.r8 (.cond 25 (.skip) (.seq zx.r9 (.cond 27 (.seq (.seq zx.r10 (.cond 30 (.seq zx.r11 (.ret)) (.skip))) zx.r12) (.seq zx.r7 (.ret)))))))))) zx.r13))
def zx.r14:List Oper:=[
 oM 33 6,
 oM 34 6,
 oD 35 (.bin .geq 34 (cI 0)),
 oM 2 33,
 oM 3 35]
def zx.code:Code:=.seq zx.r0 (.seq zx.r1 (.seq zx.r2 (.seq (.seq zx.r3 (.block 0 (.loop zx.l0))) (.seq zx.r14 (.ret)))))
def zx:Func:=⟨36,[.t 2,.t 3],zx.code⟩
/-! muntin/muntinref12.Behind -/
def ZW.r0:List Oper:=[
 oD 3 (.box 1),
 oD 4 (.alloc [.n 0,.n 0])]
def ZW.r1:List Oper:=[
 oM 9 0,
 oD 10 (.fa 0 3),
 oD 11 (.ld false 1 10),
 oD 12 (.fa 1 3),
 oD 13 (.ld false 1 12),
 oD 14 (.ixa 8 9 11),
 oD 15 (.fa 0 14),
 oD 16 (.ixaa 1 4 15 13),
 oD 17 (.ld false 1 16),
 oM 5 17]
def ZW.r2:List Oper:=[
 oD 18 (.bsl 1 4 [.n 0] [(0,1,.c (.n 1)),(1,1,.c (.n 0)),(2,1,.c (.n 3)),(3,1,.c (.n 2))]),
 oM 6 18]
def ZW.r3:List Oper:=[
 oM 7 (cI 0)]
def ZW.r4:List Oper:=[
 oM 19 7,
 oD 20 (.bin .lss 19 (cI 4))]
def ZW.r6:List Oper:=[
 oD 23 (.fa 1 3),
 oD 24 (.ld false 1 23),
 oM 25 6,
 oM 26 7,
 oD 27 (.ixa 1 25 26),
 oD 28 (.ld false 1 27),
 oD 29 (.bin .add 24 28),
 oD 30 (.bin .rem 29 (cI 4)),
 oM 8 30]
def ZW.r7:List Oper:=[
 oM 31 0,
 oM 32 5,
 oM 33 8,
 oD 34 (.ixa 8 31 32),
 oD 35 (.fa 0 34),
 oD 36 (.ixaa 1 4 35 33),
 oD 37 (.ld false 1 36),
 oD 38 (.bin .geq 37 (cI 0))]
def ZW.r8:List Oper:=[
 oM 39 5,
 oM 40 8,
 oD 41 (.build [.n 0,.n 0] [(0,1,.t 39),(1,1,.t 40)]),
 oN (.st 2 4 41)]
def ZW.r5:List Oper:=[
 oM 21 7,
 oD 22 (.bin .add 21 (cI 1)),
 oM 7 22]
def ZW.l0:Code:=.seq (.seq ZW.r4 (.cond 20 (.skip) (.exit 0))) (.seq (.block 1 (.seq (.draw ZW.r6 [(1,5)]) (.seq ZW.r7 (.cond 38 (.seq ZW.r8 (.ret)) (.skip))))) ZW.r5)
def ZW.r9:List Oper:=[
 oD 42 (.ld true 2 3),
 oN (.st 2 4 42)]
def ZW.code:Code:=.seq ZW.r0 (.seq (.draw ZW.r1 [(2,4)]) (.seq ZW.r2 (.seq (.seq ZW.r3 (.block 0 (.loop ZW.l0))) (.seq ZW.r9 (.ret)))))
def ZW:Func:=⟨43,[.cell 4 true 2],ZW.code⟩
/-! muntin/face.Faces -/
def ZE.r0:List Oper:=[
 oM 2 (.c (.sn)),
 oM 3 (cI 0)]
def ZE.r1:List Oper:=[
 oM 12 0,
 oC 13 66 [12],
 oM 4 13]
def ZE.r2:List Oper:=[
 oM 14 4,
 oD 15 (.eq true .sc 14 (cI 0))]
def ZE.r3:List Oper:=[
 oM 16 4,
 oM 2 (.c (.sn)),
 oM 3 16]
def ZE.r4:List Oper:=[
 oM 5 (.c (.sn))]
def ZE.r5:List Oper:=[
 oD 17 (.mkm),
 oM 6 17]
def ZE.r6:List Oper:=[
 oM 18 0,
 oD 19 (.len 18),
 oM 20 (cI 0)]
def ZE.r7:List Oper:=[
 oD 21 (.bin .lss 20 19)]
def ZE.r8:List Oper:=[
 oM 22 20,
 oM 7 22]
def ZE.r9:List Oper:=[
 oM 23 (cI 0)]
def ZE.r10:List Oper:=[
 oD 24 (.bin .lss 23 (cI 4))]
def ZE.r11:List Oper:=[
 oM 25 23,
 oM 8 25]
def ZE.r12:List Oper:=[
 oM 26 7,
 oM 27 8,
 oD 28 (.build [.n 0,.n 0] [(0,1,.t 26),(1,1,.t 27)]),
 oD 9 (.alloc [.n 0,.n 0]),
 oN (.st 2 9 28)]
def ZE.r13:List Oper:=[
 oD 29 (.ld true 2 9),
 oM 30 0,
 oC 31 220 [29,30],
 oD 32 (.un .not 31),
 oM 33 32,
 oF 34 33 (.mv 6),
 oF 35 33 (.ld true 2 9),
 oF 36 33 (.mlk [.i,.i] false (.b false) 34 35),
 oD 37 (.pick 33 (.c (.b true)) 36)]
def ZE.r14:List Oper:=[
 oM 10 (.c (.sn))]
def ZE.r15:List Oper:=[
 oD 38 (.ld true 2 9),
 oD 11 (.alloc [.n 0,.n 0]),
 oN (.st 2 11 38)]
def ZE.r16:List Oper:=[
 oM 39 6,
 oD 40 (.ld true 2 11),
 oD 41 (.mlk [.i,.i] false (.b false) 39 40),
 oD 42 (.un .not 41)]
def ZE.r18:List Oper:=[
 oM 46 6,
 oD 47 (.ld true 2 11),
 oN (.mup [.i,.i] 46 47 (.c (.b true)))]
def ZE.r19:List Oper:=[
 oM 48 10,
 oD 49 (.ld true 2 11),
 oD 50 (.bsl 2 1 [.n 0,.n 0] [(0,2,.t 49)]),
 oD 51 (.app 2 16 48 50),
 oM 10 51]
def ZE.r20:List Oper:=[
 oD 52 (.ld true 2 11)]
def ZE.r21:List Oper:=[
 oD 11 (.alloc [.n 0,.n 0]),
 oN (.st 2 11 52)]
def ZE.r17:List Oper:=[
 oD 43 (.ld true 2 11),
 oM 44 0,
 oC 45 221 [43,44],
 oN (.st 2 11 45)]
def ZE.l0:Code:=.seq (.seq ZE.r16 (.cond 42 (.skip) (.exit 4))) (.seq (.block 5 (.seq ZE.r18 ZE.r19)) (.seq (.seq ZE.r20 ZE.r21) ZE.r17))
def ZE.r22:List Oper:=[
 oM 53 5,
 oM 54 10,
 oD 55 (.bsl 1 1 [.sn] [(0,1,.t 54)]),
 oD 56 (.app 1 24 53 55),
 oM 5 56]
def ZE.r23:List Oper:=[
 oD 57 (.bin .add 23 (cI 1)),
 oM 23 57]
def ZE.l1:Code:=.seq ZE.r10 (.seq (.cond 24 (.skip) (.exit 2)) (.seq (.block 3 (.seq ZE.r11 (.seq ZE.r12 (.seq (.seq ZE.r13 (.cond 37 (.exit 3) (.skip))) (.seq ZE.r14 (.seq (.seq ZE.r15 (.block 4 (.loop ZE.l0))) ZE.r22)))))) ZE.r23))
def ZE.r24:List Oper:=[
 oD 58 (.bin .add 20 (cI 1)),
 oM 20 58]
def ZE.l2:Code:=.seq ZE.r7 (.seq (.cond 21 (.skip) (.exit 0)) (.seq (.block 1 (.seq ZE.r8 (.seq ZE.r9 (.block 2 (.loop ZE.l1))))) ZE.r24))
def ZE.r25:List Oper:=[
 oM 59 5,
 oM 2 59,
 oM 3 (cI 0)]
def ZE.code:Code:=.seq ZE.r0 (.seq (.seq ZE.r1 (.seq ZE.r2 (.cond 15 (.seq ZE.r3 (.ret)) (.skip)))) (.seq ZE.r4 (.seq ZE.r5 (.seq (.seq ZE.r6 (.block 0 (.loop ZE.l2))) (.seq ZE.r25 (.ret))))))
def ZE:Func:=⟨60,[.t 2,.t 3],ZE.code⟩
/-! muntin/face.Turns -/
def Zam.r0:List Oper:=[
 oM 4 (.c (.sn))]
def Zam.r1:List Oper:=[
 oM 8 1,
 oD 9 (.len 8),
 oD 10 (.mks 1 8 [.n 0] 9 9),
 oM 5 10]
def Zam.r2:List Oper:=[
 oM 11 0,
 oC 12 66 [11],
 oD 13 (.eq true .sc 12 (cI 0))]
def Zam.r3:List Oper:=[
 oM 14 5,
 oM 4 14]
def Zam.r4:List Oper:=[
 oM 15 1,
 oD 16 (.len 15),
 oM 17 (cI 0)]
def Zam.r5:List Oper:=[
 oD 18 (.bin .lss 17 16)]
def Zam.r6:List Oper:=[
 oM 19 17,
 oD 20 (.ixa 2 15 17),
 oD 21 (.ld true 2 20),
 oD 7 (.alloc [.n 0,.n 0]),
 oM 6 19,
 oN (.st 2 7 21)]
def Zam.r7:List Oper:=[
 oD 22 (.ld true 2 7),
 oM 23 0,
 oC 24 220 [22,23]]
def Zam.r8:List Oper:=[
 oM 25 5,
 oM 26 6,
 oD 27 (.fa 1 7),
 oD 28 (.ld false 1 27),
 oD 29 (.ld true 2 7),
 oM 30 0,
 oC 31 221 [29,30],
 oD 32 (.fld false 1 1 31),
 oC 33 222 [28,32],
 oD 34 (.ixa 1 25 26),
 oN (.st 1 34 33)]
def Zam.r9:List Oper:=[
 oD 35 (.bin .add 17 (cI 1)),
 oM 17 35]
def Zam.l0:Code:=.seq Zam.r5 (.seq (.cond 18 (.skip) (.exit 0)) (.seq (.block 1 (.seq Zam.r6 (.seq Zam.r7 (.cond 24 (.draw Zam.r8 [(3,4),(3,6)]) (.skip))))) Zam.r9))
def Zam.r10:List Oper:=[
 oM 36 5,
 oM 4 36]
def Zam.code:Code:=.seq Zam.r0 (.seq Zam.r1 (.seq (.seq Zam.r2 (.cond 13 (.seq Zam.r3 (.ret)) (.skip))) (.seq (.seq Zam.r4 (.block 0 (.loop Zam.l0))) (.seq Zam.r10 (.ret)))))
def Zam:Func:=⟨37,[.t 4],Zam.code⟩
/-! muntin/muntinref12.Rotation -/
def zb.r0:List Oper:=[
 oM 2 (cI 0)]
def zb.r1:List Oper:=[
 oM 3 (cI 0)]
def zb.r2:List Oper:=[
 oM 4 (cI 0)]
def zb.r3:List Oper:=[
 oM 5 4,
 oM 6 0,
 oD 7 (.len 6),
 oD 8 (.bin .lss 5 7)]
def zb.r5:List Oper:=[
 oM 11 0,
 oM 12 4,
 oD 13 (.ixa 1 11 12),
 oD 14 (.ld false 1 13),
 oD 15 (.bin .geq 14 (cI (-2))),
 oM 16 15,
 oT 17 16 (.mv 0),
 oT 18 16 (.mv 4),
 oT 19 16 (.ixa 1 17 18),
 oT 20 16 (.ld false 1 19),
 oT 21 16 (.bin .leq 20 (cI 1)),
 oD 22 (.pick 16 21 (.c (.b false)))]
def zb.r6:List Oper:=[
 oM 23 3,
 oM 24 0,
 oM 25 4,
 oD 26 (.ixa 1 24 25),
 oD 27 (.ld false 1 26),
 oD 28 (.bin .add 23 27),
 oM 3 28]
def zb.r4:List Oper:=[
 oM 9 4,
 oD 10 (.bin .add 9 (cI 1)),
 oM 4 10]
def zb.l0:Code:=.seq (.seq zb.r3 (.cond 8 (.skip) (.exit 0))) (.seq (.block 1 (.seq zb.r5 (.cond 22 zb.r6 (.skip)))) zb.r4)
def zb.r7:List Oper:=[
 oM 29 3,
 oM 2 29]
def zb.code:Code:=.seq zb.r0 (.seq zb.r1 (.seq (.seq zb.r2 (.block 0 (.loop zb.l0))) (.seq zb.r7 (.ret))))
def zb:Func:=⟨30,[.t 2],zb.code⟩
/-! muntin/muntinref01.Turn -/
def za.r0:List Oper:=[
 oM 4 (cI 0)]
def za.r1:List Oper:=[
 oM 8 0,
 oC 9 223 [8],
 oM 5 9]
def za.r2:List Oper:=[
 oM 10 1,
 oC 11 223 [10],
 oM 6 11]
def za.r3:List Oper:=[
 oM 12 5,
 oD 13 (.un .not 12),
 oM 14 13,
 oF 15 14 (.mv 6),
 oF 16 14 (.un .not 15),
 oD 17 (.pick 14 (.c (.b true)) 16),
 oM 18 17,
 oF 19 18 (.mv 0),
 oF 20 18 (.mv 1),
 oF 21 18 (.eq false .sc 19 20),
 oD 22 (.pick 18 (.c (.b true)) 21)]
def za.r4:List Oper:=[
 oM 4 (cI 0)]
def za.r5:List Oper:=[
 oM 23 0,
 oC 24 224 [23,.c (.n 1)],
 oM 7 24]
def za.r6:List Oper:=[
 oM 25 7,
 oM 26 1,
 oD 27 (.eq false .sc 25 26)]
def za.r7:List Oper:=[
 oM 4 (cI 1)]
def za.r8:List Oper:=[
 oM 28 0,
 oC 29 224 [28,.c (.n 3)],
 oM 7 29]
def za.r9:List Oper:=[
 oM 30 7,
 oM 31 1,
 oD 32 (.eq false .sc 30 31)]
def za.r10:List Oper:=[
 oM 4 (cI (-1))]
def za.r11:List Oper:=[
 oM 4 (cI (-2))]
def za.code:Code:=.seq za.r0 (.seq za.r1 (.seq za.r2 (.seq (.seq za.r3 (.cond 22 (.seq za.r4 (.ret)) (.skip))) (.seq za.r5 (.seq (.seq za.r6 (.cond 27 (.seq za.r7 (.ret)) (.skip))) (.seq za.r8 (.seq (.seq za.r9 (.cond 32 (.seq za.r10 (.ret)) (.skip))) (.seq za.r11 (.ret)))))))))
def za:Func:=⟨33,[.t 4],za.code⟩
/-! muntin/regular.Make -/
def zc.r0:List Oper:=[
 oM 4 (.c (.sn)),
 oM 5 (cI 0),
 oM 6 (cI 0)]
def zc.r1:List Oper:=[
 oM 17 0,
 oC 18 176 [17],
 oM 7 18]
def zc.r2:List Oper:=[
 oM 19 7,
 oD 20 (.eq true .sc 19 (cI 0))]
def zc.r3:List Oper:=[
 oM 21 7,
 oM 4 (.c (.sn)),
 oM 5 (cI 0),
 oM 6 21]
def zc.r4:List Oper:=[
 oM 23 0,
 oC 24 119 [23],
 oM 22 24,
 oD 25 (.ext 22 0),
 oD 26 (.ext 22 1),
 oM 8 25,
 oM 9 26]
def zc.r5:List Oper:=[
 oM 10 (cI 0)]
def zc.r7:List Oper:=[
 oM 30 8,
 oC 31 57 [30],
 oC 32 228 [31],
 oM 29 32,
 oD 33 (.ext 29 0),
 oD 34 (.ext 29 1),
 oD 35 (.ext 29 2),
 oD 36 (.ext 29 3),
 oM 11 33,
 oM 12 34,
 oM 13 35,
 oM 14 36]
def zc.r8:List Oper:=[
 oM 37 14,
 oD 38 (.un .not 37)]
def zc.r9:List Oper:=[
 oM 39 8,
 oC 40 57 [39],
 oM 41 10,
 oM 4 40,
 oM 5 41,
 oM 6 (cI 0)]
def zc.r10:List Oper:=[
 oM 42 10,
 oM 43 1,
 oD 44 (.len 43),
 oD 45 (.bin .lss 42 44),
 oM 46 45,
 oT 47 46 (.mv 1),
 oT 48 46 (.mv 10),
 oT 49 46 (.ixa 1 47 48),
 oT 50 46 (.ld false 1 49),
 oD 51 (.pick 46 50 (.c (.b false))),
 oM 15 51]
def zc.r11:List Oper:=[
 oM 52 12,
 oC 53 229 [52],
 oM 54 15,
 oD 55 (.eq false .bl 53 54)]
def zc.r12:List Oper:=[
 oM 56 12,
 oC 57 77 [56,.c (.n 1)],
 oM 12 57]
def zc.r13:List Oper:=[
 oM 58 8,
 oM 59 11,
 oM 60 12,
 oM 61 13,
 oC 62 52 [58,59,60,61,.c (.n (-2))],
 oM 16 62]
def zc.r14:List Oper:=[
 oM 63 16,
 oD 64 (.eq true .sc 63 (cI 0))]
def zc.r15:List Oper:=[
 oM 65 16,
 oM 4 (.c (.sn)),
 oM 5 (cI 0),
 oM 6 65]
def zc.r6:List Oper:=[
 oM 27 10,
 oD 28 (.bin .add 27 (cI 1)),
 oM 10 28]
def zc.l0:Code:=.seq (.block 1 (.seq zc.r7 (.seq (.seq zc.r8 (.cond 38 (.seq zc.r9 (.ret)) (.skip))) (.seq zc.r10 (.seq (.seq zc.r11 (.cond 55 zc.r12 (.skip))) (.seq zc.r13 (.seq zc.r14 (.cond 64 (.seq zc.r15 (.ret)) (.skip))))))))) zc.r6
def zc.code:Code:=.seq zc.r0 (.seq (.seq zc.r1 (.seq zc.r2 (.cond 20 (.seq zc.r3 (.ret)) (.skip)))) (.seq zc.r4 (.seq zc.r5 (.block 0 (.loop zc.l0)))))
def zc:Func:=⟨66,[.t 4,.t 5,.t 6],zc.code⟩
/-! muntin/muntinlaw22.plus -/
def zA.r0:List Oper:=[
 oM 0 (.c (.sn))]
def zA.r1:List Oper:=[
 oC 4 46 [.c (.n 12)],
 oM 1 4]
def zA.r2:List Oper:=[
 oD 5 (.bsl 1 12 [.n 0] [(0,1,.c (.n 0)),(1,1,.c (.n 1)),(2,1,.c (.n 0)),(3,1,.c (.n 1)),(4,1,.c (.n 2)),(5,1,.c (.n 1)),(6,1,.c (.n 2)),(7,1,.c (.n 3)),(8,1,.c (.n 2)),(9,1,.c (.n 3)),(10,1,.c (.n 0)),(11,1,.c (.n 3))]),
 oD 6 (.len 5),
 oM 7 (cI 0)]
def zA.r3:List Oper:=[
 oD 8 (.bin .lss 7 6)]
def zA.r4:List Oper:=[
 oM 9 7,
 oD 10 (.ixa 1 5 7),
 oD 11 (.ld false 1 10),
 oM 2 9,
 oM 3 11]
def zA.r5:List Oper:=[
 oM 13 1,
 oM 14 2,
 oM 15 3,
 oM 16 2,
 oD 17 (.bin .add 16 (cI 1)),
 oD 18 (.bin .rem 17 (cI 12)),
 oC 19 53 [13,14,15,18,.c (.n 0)],
 oM 12 19,
 oD 20 (.ext 12 0),
 oD 21 (.ext 12 1),
 oM 1 20]
def zA.r6:List Oper:=[
 oD 22 (.bin .add 7 (cI 1)),
 oM 7 22]
def zA.l0:Code:=.seq zA.r3 (.seq (.cond 8 (.skip) (.exit 0)) (.seq (.block 1 (.seq zA.r4 zA.r5)) zA.r6))
def zA.r7:List Oper:=[
 oM 23 1,
 oM 0 23]
def zA.code:Code:=.seq zA.r0 (.seq zA.r1 (.seq (.seq zA.r2 (.block 0 (.loop zA.l0))) (.seq zA.r7 (.ret))))
def zA:Func:=⟨24,[.t 0],zA.code⟩
/-! muntin/regular.Bare -/
def ZR.r0:List Oper:=[
 oM 2 (.c (.sn)),
 oM 3 (cI 0)]
def ZR.r1:List Oper:=[
 oM 9 0,
 oC 10 66 [9],
 oM 4 10]
def ZR.r2:List Oper:=[
 oM 11 4,
 oD 12 (.eq true .sc 11 (cI 0))]
def ZR.r3:List Oper:=[
 oM 13 4,
 oM 2 (.c (.sn)),
 oM 3 13]
def ZR.r4:List Oper:=[
 oM 5 (.c (.sn))]
def ZR.r5:List Oper:=[
 oM 14 0,
 oD 15 (.len 14),
 oM 16 (cI 0)]
def ZR.r6:List Oper:=[
 oD 17 (.bin .lss 16 15)]
def ZR.r7:List Oper:=[
 oD 18 (.ixa 8 14 16),
 oD 19 (.ld true 8 18),
 oD 7 (.alloc [.n 0,.n 0,.n 0,.n 0,.n 0,.n 0,.n 0,.n 0]),
 oN (.st 8 7 19)]
def ZR.r8:List Oper:=[
 oM 20 (cI 0)]
def ZR.r9:List Oper:=[
 oD 21 (.bin .lss 20 (cI 4))]
def ZR.r10:List Oper:=[
 oM 22 20,
 oM 8 22]
def ZR.r11:List Oper:=[
 oM 23 8,
 oD 24 (.fa 0 7),
 oD 25 (.ixaa 1 4 24 23),
 oD 26 (.ld false 1 25),
 oD 27 (.bin .geq 26 (cI 0)),
 oM 28 27,
 oT 29 28 (.mv 8),
 oT 30 28 (.fa 4 7),
 oT 31 28 (.ixaa 1 4 30 29),
 oT 32 28 (.ld false 1 31),
 oT 33 28 (.eq false .sc 32 (cI (-2))),
 oD 34 (.pick 28 33 (.c (.b false)))]
def ZR.r12:List Oper:=[
 oM 35 8,
 oM 36 8,
 oD 37 (.fa 0 7),
 oD 38 (.ixaa 1 4 37 35),
 oN (.st 1 38 (cI (-1))),
 oD 39 (.fa 4 7),
 oD 40 (.ixaa 1 4 39 36),
 oN (.st 1 40 (cI 0))]
def ZR.r13:List Oper:=[
 oD 41 (.bin .add 20 (cI 1)),
 oM 20 41]
def ZR.l0:Code:=.seq ZR.r9 (.seq (.cond 21 (.skip) (.exit 2)) (.seq (.block 3 (.seq ZR.r10 (.seq ZR.r11 (.cond 34 ZR.r12 (.skip))))) ZR.r13))
def ZR.r14:List Oper:=[
 oM 42 5,
 oD 43 (.ld true 8 7),
 oD 44 (.bsl 8 1 [.n 0,.n 0,.n 0,.n 0,.n 0,.n 0,.n 0,.n 0] [(0,8,.t 43)]),
 oD 45 (.app 8 64 42 44),
 oM 5 45]
def ZR.r15:List Oper:=[
 oD 46 (.bin .add 16 (cI 1)),
 oM 16 46]
def ZR.l1:Code:=.seq ZR.r6 (.seq (.cond 17 (.skip) (.exit 0)) (.seq (.block 1 (.seq ZR.r7 (.seq (.seq ZR.r8 (.block 2 (.loop ZR.l0))) ZR.r14))) ZR.r15))
def ZR.r16:List Oper:=[
 oM 47 5,
 oM 2 47,
 oM 3 (cI 0)]
def ZR.code:Code:=.seq ZR.r0 (.seq (.seq ZR.r1 (.seq ZR.r2 (.cond 12 (.seq ZR.r3 (.ret)) (.skip)))) (.seq ZR.r4 (.seq (.seq ZR.r5 (.block 0 (.loop ZR.l1))) (.seq ZR.r16 (.ret)))))
def ZR:Func:=⟨48,[.t 2,.t 3],ZR.code⟩
/-! muntin/muntinref22.Bare -/
def ZG.r0:List Oper:=[
 oM 2 (.c (.sn))]
def ZG.r1:List Oper:=[
 oM 3 (.c (.sn))]
def ZG.r2:List Oper:=[
 oM 4 (cI 0)]
def ZG.r3:List Oper:=[
 oM 7 4,
 oM 8 0,
 oD 9 (.len 8),
 oD 10 (.bin .lss 7 9)]
def ZG.r5:List Oper:=[
 oM 13 0,
 oM 14 4,
 oD 15 (.ixa 8 13 14),
 oD 16 (.ld true 8 15),
 oD 5 (.alloc [.n 0,.n 0,.n 0,.n 0,.n 0,.n 0,.n 0,.n 0]),
 oN (.st 8 5 16)]
def ZG.r6:List Oper:=[
 oM 6 (cI 0)]
def ZG.r7:List Oper:=[
 oM 17 6,
 oD 18 (.bin .lss 17 (cI 4))]
def ZG.r9:List Oper:=[
 oM 21 6,
 oD 22 (.fa 0 5),
 oD 23 (.ixaa 1 4 22 21),
 oD 24 (.ld false 1 23),
 oD 25 (.bin .geq 24 (cI 0)),
 oM 26 25,
 oT 27 26 (.mv 6),
 oT 28 26 (.fa 4 5),
 oT 29 26 (.ixaa 1 4 28 27),
 oT 30 26 (.ld false 1 29),
 oT 31 26 (.eq false .sc 30 (cI (-2))),
 oD 32 (.pick 26 31 (.c (.b false)))]
def ZG.r10:List Oper:=[
 oM 33 6,
 oD 34 (.fa 0 5),
 oD 35 (.ixaa 1 4 34 33),
 oN (.st 1 35 (cI (-1)))]
def ZG.r11:List Oper:=[
 oM 36 6,
 oD 37 (.fa 4 5),
 oD 38 (.ixaa 1 4 37 36),
 oN (.st 1 38 (cI 0))]
def ZG.r8:List Oper:=[
 oM 19 6,
 oD 20 (.bin .add 19 (cI 1)),
 oM 6 20]
def ZG.l0:Code:=.seq (.seq ZG.r7 (.cond 18 (.skip) (.exit 2))) (.seq (.block 3 (.seq ZG.r9 (.cond 32 (.seq ZG.r10 ZG.r11) (.skip)))) ZG.r8)
def ZG.r12:List Oper:=[
 oM 39 3,
 oD 40 (.ld true 8 5),
 oD 41 (.bsl 8 1 [.n 0,.n 0,.n 0,.n 0,.n 0,.n 0,.n 0,.n 0] [(0,8,.t 40)]),
 oD 42 (.app 8 64 39 41),
 oM 3 42]
def ZG.r4:List Oper:=[
 oM 11 4,
 oD 12 (.bin .add 11 (cI 1)),
 oM 4 12]
def ZG.l1:Code:=.seq (.seq ZG.r3 (.cond 10 (.skip) (.exit 0))) (.seq (.block 1 (.seq ZG.r5 (.seq (.seq ZG.r6 (.block 2 (.loop ZG.l0))) ZG.r12))) ZG.r4)
def ZG.r13:List Oper:=[
 oM 43 3,
 oM 2 43]
def ZG.code:Code:=.seq ZG.r0 (.seq ZG.r1 (.seq (.seq ZG.r2 (.block 0 (.loop ZG.l1))) (.seq ZG.r13 (.ret))))
def ZG:Func:=⟨44,[.t 2],ZG.code⟩
/-! muntin/muntinref08.turns -/
def zF.r0:List Oper:=[
 oM 2 (.c (.b false))]
def zF.r1:List Oper:=[
 oM 3 (cI 0)]
def zF.r2:List Oper:=[
 oM 4 3,
 oM 5 0,
 oD 6 (.slen 5),
 oD 7 (.bin .lss 4 6)]
def zF.r4:List Oper:=[
 oM 10 0,
 oM 11 3,
 oD 12 (.ixs 10 11),
 oD 13 (.eq true .sc 12 (.c (.i .u8 76))),
 oM 14 13,
 oT 15 14 (.mv 0),
 oT 16 14 (.mv 3),
 oT 17 14 (.ixs 15 16),
 oT 18 14 (.eq true .sc 17 (.c (.i .u8 82))),
 oD 19 (.pick 14 18 (.c (.b false)))]
def zF.r5:List Oper:=[
 oM 2 (.c (.b false))]
def zF.r3:List Oper:=[
 oM 8 3,
 oD 9 (.bin .add 8 (cI 1)),
 oM 3 9]
def zF.l0:Code:=.seq (.seq zF.r2 (.cond 7 (.skip) (.exit 0))) (.seq (.block 1 (.seq zF.r4 (.cond 19 (.seq zF.r5 (.ret)) (.skip)))) zF.r3)
def zF.r6:List Oper:=[
 oM 2 (.c (.b true))]
def zF.code:Code:=.seq zF.r0 (.seq (.seq zF.r1 (.block 0 (.loop zF.l0))) (.seq zF.r6 (.ret)))
def zF:Func:=⟨20,[.t 2],zF.code⟩
/-! muntin/muntinref11.Side -/
def Zbh.r0:List Oper:=[
 oD 1 (.box 0),
 oM 2 (cI 0)]
def Zbh.r1:List Oper:=[
 oD 4 (.ld true 4 1),
 oC 5 230 [4],
 oM 3 5]
def Zbh.r2:List Oper:=[
 oM 6 3,
 oD 7 (.bin .add 6 (cI 2)),
 oD 8 (.bin .rem 7 (cI 4)),
 oM 2 8]
def Zbh.code:Code:=.seq Zbh.r0 (.seq Zbh.r1 (.seq Zbh.r2 (.ret)))
def Zbh:Func:=⟨9,[.t 2],Zbh.code⟩
/-! muntin/face.Rotation -/
def zU.r0:List Oper:=[
 oM 2 (cI 0)]
def zU.r1:List Oper:=[
 oM 3 (cI 0)]
def zU.r2:List Oper:=[
 oM 6 0,
 oD 7 (.len 6),
 oM 8 (cI 0)]
def zU.r3:List Oper:=[
 oD 9 (.bin .lss 8 7)]
def zU.r4:List Oper:=[
 oD 10 (.ixa 1 6 8),
 oD 11 (.ld false 1 10),
 oM 5 11]
def zU.r5:List Oper:=[
 oM 12 5,
 oD 13 (.bin .geq 12 (cI (-2))),
 oM 14 13,
 oT 15 14 (.mv 5),
 oT 16 14 (.bin .leq 15 (cI 1)),
 oD 17 (.pick 14 16 (.c (.b false)))]
def zU.r6:List Oper:=[
 oM 18 3,
 oM 19 5,
 oD 20 (.bin .add 18 19),
 oM 3 20]
def zU.r7:List Oper:=[
 oD 21 (.bin .add 8 (cI 1)),
 oM 8 21]
def zU.l0:Code:=.seq zU.r3 (.seq (.cond 9 (.skip) (.exit 0)) (.seq (.block 1 (.seq zU.r4 (.seq zU.r5 (.cond 17 zU.r6 (.skip))))) zU.r7))
def zU.r8:List Oper:=[
 oM 22 3,
 oM 2 22]
def zU.code:Code:=.seq zU.r0 (.seq zU.r1 (.seq (.seq zU.r2 (.block 0 (.loop zU.l0))) (.seq zU.r8 (.ret))))
def zU:Func:=⟨23,[.t 2],zU.code⟩
/-! (muntin/face.Dart).is -/
def Zch.r0:List Oper:=[
 oD 2 (.box 0),
 oM 4 (.c (.b false))]
def Zch.r1:List Oper:=[
 oD 5 (.fa 0 2),
 oD 6 (.ld false 1 5),
 oD 7 (.bin .geq 6 (cI 0)),
 oM 8 7,
 oT 9 8 (.fa 0 2),
 oT 10 8 (.ld false 1 9),
 oT 11 8 (.mv 1),
 oT 12 8 (.len 11),
 oT 13 8 (.bin .lss 10 12),
 oD 14 (.pick 8 13 (.c (.b false))),
 oM 15 14,
 oT 16 15 (.fa 1 2),
 oT 17 15 (.ld false 1 16),
 oT 18 15 (.call (.c (.f 90 [])) [17]),
 oD 19 (.pick 15 18 (.c (.b false))),
 oM 20 19,
 oT 21 20 (.mv 1),
 oT 22 20 (.fa 0 2),
 oT 23 20 (.ld false 1 22),
 oT 24 20 (.fa 1 2),
 oT 25 20 (.ld false 1 24),
 oT 26 20 (.ixa 8 21 23),
 oT 27 20 (.fa 0 26),
 oT 28 20 (.ixaa 1 4 27 25),
 oT 29 20 (.ld false 1 28),
 oT 30 20 (.bin .geq 29 (cI 0)),
 oD 31 (.pick 20 30 (.c (.b false))),
 oM 4 31]
def Zch.code:Code:=.seq Zch.r0 (.seq (.draw Zch.r1 [(18,20)]) (.ret))
def Zch:Func:=⟨32,[.t 4],Zch.code⟩
/-! (muntin/face.Dart).behind -/
def zp.r0:List Oper:=[
 oD 2 (.box 0),
 oD 4 (.alloc [.n 0,.n 0])]
def zp.r1:List Oper:=[
 oM 9 1,
 oD 10 (.fa 0 2),
 oD 11 (.ld false 1 10),
 oD 12 (.fa 1 2),
 oD 13 (.ld false 1 12),
 oD 14 (.ixa 8 9 11),
 oD 15 (.fa 0 14),
 oD 16 (.ixaa 1 4 15 13),
 oD 17 (.ld false 1 16),
 oM 5 17]
def zp.r2:List Oper:=[
 oD 18 (.build [.n 0,.n 0,.n 0,.n 0] [(0,1,.c (.n 1)),(1,1,.c (.n 0)),(2,1,.c (.n (-1))),(3,1,.c (.n 2))]),
 oM 19 (cI 0)]
def zp.r3:List Oper:=[
 oD 20 (.bin .lss 19 (cI 4))]
def zp.r4:List Oper:=[
 oD 21 (.ix false 1 4 18 19),
 oM 7 21]
def zp.r5:List Oper:=[
 oM 22 5,
 oD 23 (.fa 1 2),
 oD 24 (.ld false 1 23),
 oM 25 7,
 oC 26 77 [24,25],
 oD 27 (.build [.n 0,.n 0] [(0,1,.t 22),(1,1,.t 26)]),
 oD 8 (.alloc [.n 0,.n 0]),
 oN (.st 2 8 27)]
def zp.r6:List Oper:=[
 oD 28 (.ld true 2 8),
 oM 29 1,
 oC 30 220 [28,29]]
def zp.r7:List Oper:=[
 oD 31 (.ld true 2 8),
 oN (.st 2 4 31)]
def zp.r8:List Oper:=[
 oD 32 (.bin .add 19 (cI 1)),
 oM 19 32]
def zp.l0:Code:=.seq zp.r3 (.seq (.cond 20 (.skip) (.exit 0)) (.seq (.block 1 (.seq zp.r4 (.seq zp.r5 (.seq zp.r6 (.cond 30 (.seq zp.r7 (.ret)) (.skip)))))) zp.r8))
def zp.r9:List Oper:=[
 oD 33 (.ld true 2 2),
 oN (.st 2 4 33)]
def zp.code:Code:=.seq zp.r0 (.seq (.draw zp.r1 [(2,4)]) (.seq (.seq zp.r2 (.block 0 (.loop zp.l0))) (.seq zp.r9 (.ret))))
def zp:Func:=⟨34,[.cell 4 true 2],zp.code⟩
/-! muntin/compass.Turn -/
def Zb4.r0:List Oper:=[
 oM 4 (cI 0)]
def Zb4.r1:List Oper:=[
 oM 5 0,
 oC 6 90 [5],
 oD 7 (.un .not 6),
 oM 8 7,
 oF 9 8 (.mv 1),
 oF 10 8 (.call (.c (.f 90 [])) [9]),
 oF 11 8 (.un .not 10),
 oD 12 (.pick 8 (.c (.b true)) 11)]
def Zb4.r2:List Oper:=[
 oM 4 (cI 0)]
def Zb4.r3:List Oper:=[
 oD 13 (.build [.n 0,.n 0,.n 0,.n 0] [(0,1,.c (.n 0)),(1,1,.c (.n 1)),(2,1,.c (.n (-2))),(3,1,.c (.n (-1)))]),
 oM 14 1,
 oM 15 0,
 oD 16 (.bin .sub 14 15),
 oD 17 (.bin .add 16 (cI 4)),
 oD 18 (.bin .rem 17 (cI 4)),
 oD 19 (.ix false 1 4 13 18),
 oM 4 19]
def Zb4.code:Code:=.seq Zb4.r0 (.seq (.seq Zb4.r1 (.cond 12 (.seq Zb4.r2 (.ret)) (.skip))) (.seq Zb4.r3 (.ret)))
def Zb4:Func:=⟨20,[.t 4],Zb4.code⟩
/-! muntin/muntinref01.Good -/
def Zb9.r0:List Oper:=[
 oM 2 (.c (.b false))]
def Zb9.r1:List Oper:=[
 oM 3 0,
 oD 4 (.bin .geq 3 (cI 0)),
 oM 5 4,
 oT 6 5 (.mv 0),
 oT 7 5 (.bin .leq 6 (cI 3)),
 oD 8 (.pick 5 7 (.c (.b false))),
 oM 2 8]
def Zb9.code:Code:=.seq Zb9.r0 (.seq Zb9.r1 (.ret))
def Zb9:Func:=⟨9,[.t 2],Zb9.code⟩
/-! muntin/muntinref01.Left -/
def zO.r0:List Oper:=[
 oM 4 (cI 0)]
def zO.r1:List Oper:=[
 oM 7 0,
 oC 8 223 [7],
 oM 5 8]
def zO.r2:List Oper:=[
 oM 9 5,
 oD 10 (.un .not 9)]
def zO.r3:List Oper:=[
 oM 4 (cI 0)]
def zO.r4:List Oper:=[
 oM 11 1,
 oD 12 (.bin .rem 11 (cI 4)),
 oM 6 12]
def zO.r5:List Oper:=[
 oM 13 6,
 oD 14 (.bin .lss 13 (cI 0))]
def zO.r6:List Oper:=[
 oM 15 6,
 oD 16 (.bin .add 15 (cI 4)),
 oM 6 16]
def zO.r7:List Oper:=[
 oM 17 0,
 oM 18 6,
 oD 19 (.bin .add 17 18),
 oD 20 (.bin .rem 19 (cI 4)),
 oM 4 20]
def zO.code:Code:=.seq zO.r0 (.seq zO.r1 (.seq (.seq zO.r2 (.cond 10 (.seq zO.r3 (.ret)) (.skip))) (.seq zO.r4 (.seq (.seq zO.r5 (.cond 14 zO.r6 (.skip))) (.seq zO.r7 (.ret))))))
def zO:Func:=⟨21,[.t 4],zO.code⟩
/-! muntin/regular.pair -/
def zL.r0:List Oper:=[
 oM 2 (cI 0),
 oM 3 (cI 0),
 oM 4 (cI 0),
 oM 5 (.c (.b false))]
def zL.r1:List Oper:=[
 oM 16 0,
 oC 17 203 [16],
 oM 15 17,
 oD 18 (.ext 15 0),
 oD 19 (.ext 15 1),
 oM 6 18,
 oM 7 19]
def zL.r2:List Oper:=[
 oM 20 6,
 oD 21 (.len 20),
 oM 22 (cI 0)]
def zL.r3:List Oper:=[
 oD 23 (.bin .lss 22 21)]
def zL.r4:List Oper:=[
 oD 24 (.ixa 1 20 22),
 oD 25 (.ld false 1 24),
 oM 9 25]
def zL.r5:List Oper:=[
 oM 27 0,
 oM 28 9,
 oC 29 204 [27,28],
 oC 30 24 [29],
 oM 26 30,
 oD 31 (.ext 26 0),
 oD 32 (.ext 26 1),
 oD 33 (.ext 26 2),
 oD 10 (.alloc [.n 0,.n 0]),
 oD 11 (.alloc [.n 0,.n 0]),
 oN (.st 2 10 31),
 oN (.st 2 11 32),
 oM 12 33]
def zL.r6:List Oper:=[
 oM 34 12,
 oD 35 (.un .not 34)]
def zL.r7:List Oper:=[
 oM 36 9,
 oD 37 (.fa 0 10),
 oD 38 (.ld false 1 37),
 oD 39 (.ixa 2 36 38),
 oD 40 (.ld true 2 39),
 oM 41 9,
 oD 42 (.fa 0 11),
 oD 43 (.ld false 1 42),
 oD 44 (.ixa 2 41 43),
 oD 45 (.ld true 2 44),
 oD 13 (.alloc [.n 0,.n 0]),
 oD 14 (.alloc [.n 0,.n 0]),
 oN (.st 2 13 40),
 oN (.st 2 14 45)]
def zL.r8:List Oper:=[
 oM 46 0,
 oD 47 (.fa 0 13),
 oD 48 (.ld false 1 47),
 oD 49 (.fa 1 13),
 oD 50 (.ld false 1 49),
 oD 51 (.ixa 8 46 48),
 oD 52 (.fa 0 51),
 oD 53 (.ixaa 1 4 52 50),
 oD 54 (.ld false 1 53),
 oD 55 (.fa 1 13),
 oD 56 (.ld false 1 55),
 oD 57 (.fa 1 10),
 oD 58 (.ld false 1 57),
 oD 59 (.un .neg 58),
 oC 60 77 [56,59],
 oM 61 0,
 oD 62 (.fa 0 14),
 oD 63 (.ld false 1 62),
 oD 64 (.fa 1 14),
 oD 65 (.ld false 1 64),
 oD 66 (.ixa 8 61 63),
 oD 67 (.fa 0 66),
 oD 68 (.ixaa 1 4 67 65),
 oD 69 (.ld false 1 68),
 oM 2 54,
 oM 3 60,
 oM 4 69,
 oM 5 (.c (.b true))]
def zL.r9:List Oper:=[
 oD 70 (.bin .add 22 (cI 1)),
 oM 22 70]
def zL.l0:Code:=.seq zL.r3 (.seq (.cond 23 (.skip) (.exit 0)) (.seq (.block 1 (.seq zL.r4 (.seq zL.r5 (.seq (.seq zL.r6 (.cond 35 (.exit 1) (.skip))) (.seq (.draw zL.r7 [(2,7),(4,7),(2,9),(4,9),(2,10),(4,10),(7,10),(9,10),(2,11),(4,11),(7,11),(9,11),(10,11),(7,12),(9,12)]) (.seq (.draw zL.r8 [(2,4),(2,10),(4,10),(8,10),(2,12),(4,12),(8,12),(10,12),(2,14),(4,14),(8,14),(2,17),(4,17),(8,17),(10,17),(12,17),(14,17),(2,19),(4,19),(8,19),(10,19),(12,19),(14,19),(17,19),(2,23),(4,23),(8,23),(10,23),(12,23),(14,23)]) (.ret))))))) zL.r9))
def zL.r10:List Oper:=[
 oM 2 (cI 0),
 oM 3 (cI 0),
 oM 4 (cI 0),
 oM 5 (.c (.b false))]
def zL.code:Code:=.seq zL.r0 (.seq zL.r1 (.seq (.seq zL.r2 (.block 0 (.loop zL.l0))) (.seq zL.r10 (.ret))))
def zL:Func:=⟨71,[.t 2,.t 3,.t 4,.t 5],zL.code⟩
/-! muntin/regular.horizontal -/
def Zbs.r0:List Oper:=[
 oM 2 (.c (.b false))]
def Zbs.r1:List Oper:=[
 oM 3 0,
 oD 4 (.eq false .sc 3 (cI 0)),
 oM 5 4,
 oF 6 5 (.mv 0),
 oF 7 5 (.eq false .sc 6 (cI 2)),
 oD 8 (.pick 5 (.c (.b true)) 7),
 oM 2 8]
def Zbs.code:Code:=.seq Zbs.r0 (.seq Zbs.r1 (.ret))
def Zbs:Func:=⟨9,[.t 2],Zbs.code⟩
/-! muntin/muntinref09.Last -/
def zy.r0:List Oper:=[
 oD 1 (.box 0),
 oM 2 (cI 0)]
def zy.r1:List Oper:=[
 oD 5 (.fa 2 1),
 oD 6 (.ld false 1 5),
 oM 3 6]
def zy.r2:List Oper:=[
 oM 4 (cI 0)]
def zy.r3:List Oper:=[
 oM 7 4,
 oD 8 (.fa 3 1),
 oD 9 (.ld false 1 8),
 oD 10 (.slen 9),
 oD 11 (.bin .lss 7 10)]
def zy.r5:List Oper:=[
 oD 14 (.fa 3 1),
 oD 15 (.ld false 1 14),
 oM 16 4,
 oD 17 (.ixs 15 16),
 oD 18 (.eq false .sc 17 (.c (.i .u8 76)))]
def zy.r6:List Oper:=[
 oM 19 3,
 oD 20 (.bin .add 19 (cI 1)),
 oD 21 (.bin .rem 20 (cI 4)),
 oM 3 21]
def zy.r7:List Oper:=[
 oM 22 3,
 oD 23 (.bin .add 22 (cI 3)),
 oD 24 (.bin .rem 23 (cI 4)),
 oM 3 24]
def zy.r4:List Oper:=[
 oM 12 4,
 oD 13 (.bin .add 12 (cI 1)),
 oM 4 13]
def zy.l0:Code:=.seq (.seq zy.r3 (.cond 11 (.skip) (.exit 0))) (.seq (.block 1 (.seq zy.r5 (.cond 18 zy.r6 zy.r7))) zy.r4)
def zy.r8:List Oper:=[
 oM 25 3,
 oM 2 25]
def zy.code:Code:=.seq zy.r0 (.seq zy.r1 (.seq (.seq zy.r2 (.block 0 (.loop zy.l0))) (.seq zy.r8 (.ret))))
def zy:Func:=⟨26,[.t 2],zy.code⟩
/-! muntin/muntinlaw22.RegularMade -/
def Zf.r0:List Oper:=[
 oD 3 (.box 0),
 oD 4 (.box 1),
 oM 6 (.c (.b false))]
def Zf.r1:List Oper:=[
 oD 24 (.ld true 3 3),
 oC 25 28 [24,.c (.n 16)],
 oM 23 25,
 oD 26 (.ext 23 0),
 oD 27 (.ext 23 1),
 oM 7 26,
 oM 8 27]
def Zf.r2:List Oper:=[
 oD 28 (.ld true 3 4),
 oC 29 171 [28,.c (.n 4)],
 oD 9 (.alloc [.sn,.sn]),
 oN (.st 2 9 29)]
def Zf.r3:List Oper:=[
 oD 30 (.ld true 2 9),
 oC 31 174 [30],
 oD 32 (.eq false .sc 31 (cI 0)),
 oM 33 32,
 oT 34 33 (.mv 2),
 oT 35 33 (.len 34),
 oT 36 33 (.bin .rem 35 (cI 2)),
 oT 37 33 (.eq false .sc 36 (cI 0)),
 oD 38 (.pick 33 37 (.c (.b false)))]
def Zf.r4:List Oper:=[
 oD 39 (.ld true 2 9),
 oC 40 175 [39],
 oD 41 (.fld false 0 1 40),
 oM 7 41]
def Zf.r5:List Oper:=[
 oM 42 7,
 oD 43 (.len 42),
 oD 44 (.bin .gtr 43 (cI 60))]
def Zf.r6:List Oper:=[
 oC 45 190 [],
 oM 6 45]
def Zf.r7:List Oper:=[
 oM 47 7,
 oM 48 2,
 oC 49 212 [47,48],
 oM 46 49,
 oD 50 (.ext 46 0),
 oD 51 (.ext 46 1),
 oD 52 (.ext 46 2),
 oM 10 50,
 oM 11 51,
 oM 12 52]
def Zf.r8:List Oper:=[
 oC 53 190 [],
 oD 54 (.un .not 53),
 oM 55 54,
 oF 56 55 (.mv 12),
 oF 57 55 (.eq true .sc 56 (cI 0)),
 oD 58 (.pick 55 (.c (.b true)) 57)]
def Zf.r9:List Oper:=[
 oC 59 190 [],
 oM 6 59]
def Zf.r10:List Oper:=[
 oM 61 10,
 oC 62 181 [61],
 oM 60 62,
 oD 63 (.ext 60 0),
 oD 64 (.ext 60 1),
 oM 13 63,
 oM 14 64]
def Zf.r11:List Oper:=[
 oM 65 14,
 oD 66 (.eq true .sc 65 (cI 0)),
 oM 67 66,
 oF 68 67 (.mv 10),
 oF 69 67 (.len 68),
 oF 70 67 (.mv 7),
 oF 71 67 (.len 70),
 oF 72 67 (.eq true .sc 69 71),
 oD 73 (.pick 67 (.c (.b true)) 72),
 oM 74 73,
 oF 75 74 (.mv 10),
 oF 76 74 (.call (.c (.f 215 [])) [75]),
 oF 77 74 (.mv 7),
 oF 78 74 (.call (.c (.f 215 [])) [77]),
 oF 79 74 (.call (.c (.f 56 [])) [76,78]),
 oF 80 74 (.un .not 79),
 oD 81 (.pick 74 (.c (.b true)) 80)]
def Zf.r12:List Oper:=[
 oM 6 (.c (.b false))]
def Zf.r13:List Oper:=[
 oM 15 (cI 0)]
def Zf.r14:List Oper:=[
 oM 82 10,
 oD 83 (.len 82),
 oM 84 (cI 0)]
def Zf.r15:List Oper:=[
 oD 85 (.bin .lss 84 83)]
def Zf.r16:List Oper:=[
 oM 86 84,
 oM 16 86]
def Zf.r17:List Oper:=[
 oM 87 (cI 0)]
def Zf.r18:List Oper:=[
 oD 88 (.bin .lss 87 (cI 4))]
def Zf.r19:List Oper:=[
 oM 89 87,
 oM 17 89]
def Zf.r20:List Oper:=[
 oM 90 10,
 oM 91 16,
 oM 92 17,
 oD 93 (.ixa 8 90 91),
 oD 94 (.fa 0 93),
 oD 95 (.ixaa 1 4 94 92),
 oD 96 (.ld false 1 95),
 oM 97 7,
 oM 98 16,
 oM 99 17,
 oD 100 (.ixa 8 97 98),
 oD 101 (.fa 0 100),
 oD 102 (.ixaa 1 4 101 99),
 oD 103 (.ld false 1 102),
 oD 104 (.eq true .sc 96 103)]
def Zf.r21:List Oper:=[
 oM 105 15,
 oD 106 (.bin .add 105 (cI 1)),
 oM 15 106]
def Zf.r22:List Oper:=[
 oD 107 (.bin .add 87 (cI 1)),
 oM 87 107]
def Zf.l0:Code:=.seq Zf.r18 (.seq (.cond 88 (.skip) (.exit 2)) (.seq (.block 3 (.seq Zf.r19 (.seq (.draw Zf.r20 [(6,13)]) (.cond 104 Zf.r21 (.skip))))) Zf.r22))
def Zf.r23:List Oper:=[
 oD 108 (.bin .add 84 (cI 1)),
 oM 84 108]
def Zf.l1:Code:=.seq Zf.r15 (.seq (.cond 85 (.skip) (.exit 0)) (.seq (.block 1 (.seq Zf.r16 (.seq Zf.r17 (.block 2 (.loop Zf.l0))))) Zf.r23))
def Zf.r24:List Oper:=[
 oM 109 10,
 oC 110 177 [109],
 oD 111 (.len 110),
 oM 112 (cI 0)]
def Zf.r25:List Oper:=[
 oD 113 (.bin .lss 112 111)]
def Zf.r26:List Oper:=[
 oD 114 (.ixa 1 110 112),
 oD 115 (.ld false 1 114),
 oM 19 115]
def Zf.r27:List Oper:=[
 oM 117 10,
 oM 118 19,
 oC 119 182 [117,118],
 oC 120 25 [119],
 oM 116 120,
 oD 121 (.ext 116 0),
 oD 122 (.ext 116 1),
 oD 123 (.ext 116 2),
 oD 20 (.alloc [.n 0,.n 0]),
 oD 21 (.alloc [.n 0,.n 0]),
 oN (.st 2 20 121),
 oN (.st 2 21 122),
 oM 22 123]
def Zf.r28:List Oper:=[
 oM 124 22]
def Zf.r29:List Oper:=[
 oM 6 (.c (.b false))]
def Zf.r30:List Oper:=[
 oD 125 (.bin .add 112 (cI 1)),
 oM 112 125]
def Zf.l2:Code:=.seq Zf.r25 (.seq (.cond 113 (.skip) (.exit 4)) (.seq (.block 5 (.seq Zf.r26 (.seq Zf.r27 (.seq Zf.r28 (.cond 124 (.seq Zf.r29 (.ret)) (.skip)))))) Zf.r30))
def Zf.r31:List Oper:=[
 oM 126 15,
 oM 127 11,
 oD 128 (.bin .mul (cI 2) 127),
 oD 129 (.eq false .sc 126 128),
 oM 6 129]
def Zf.code:Code:=.seq Zf.r0 (.seq Zf.r1 (.seq (.seq Zf.r2 (.seq Zf.r3 (.cond 38 Zf.r4 (.skip)))) (.seq (.seq Zf.r5 (.cond 44 (.seq Zf.r6 (.ret)) (.skip))) (.seq Zf.r7 (.seq (.seq Zf.r8 (.cond 58 (.seq Zf.r9 (.ret)) (.skip))) (.seq (.seq Zf.r10 (.seq Zf.r11 (.cond 81 (.seq Zf.r12 (.ret)) (.skip)))) (.seq Zf.r13 (.seq (.seq Zf.r14 (.block 0 (.loop Zf.l1))) (.seq (.seq Zf.r24 (.block 4 (.loop Zf.l2))) (.seq Zf.r31 (.ret)))))))))))
def Zf:Func:=⟨130,[.t 6],Zf.code⟩
def G:Prog:=fun i=>match i with
  | 19=>some zg
  | 20=>some ZP
  | 23=>some Z7
  | 24=>some z6
  | 25=>some ZL
  | 28=>some Zj
  | 29=>some ZN
  | 30=>some Z8
  | 32=>some Zcj
  | 34=>some Zv
  | 36=>some Zz
  | 46=>some zm
  | 51=>some Zan
  | 52=>some zW
  | 53=>some Zac
  | 55=>some Zbq
  | 56=>some zz
  | 57=>some ZaR
  | 59=>some Zcu
  | 61=>some ZbO
  | 62=>some ZaA
  | 63=>some ZO
  | 64=>some Z2
  | 65=>some ZI
  | 66=>some z5
  | 67=>some ZZ
  | 75=>some Zci
  | 76=>some ZbE
  | 77=>some Zb3
  | 78=>some ZaJ
  | 80=>some ZbS
  | 82=>some Zay
  | 83=>some ZU
  | 89=>some ZbY
  | 90=>some Zcg
  | 91=>some zd
  | 97=>some Zcf
  | 98=>some Zal
  | 119=>some Zcq
  | 171=>some Z1
  | 174=>some Zq
  | 175=>some Zi
  | 176=>some Zar
  | 177=>some Zx
  | 181=>some Zr
  | 182=>some zr
  | 190=>some Zax
  | 197=>some Z5
  | 198=>some Zw
  | 199=>some zq
  | 200=>some Zy
  | 201=>some zx
  | 202=>some ZW
  | 203=>some ZE
  | 204=>some Zam
  | 206=>some zb
  | 207=>some za
  | 212=>some zc
  | 213=>some zA
  | 214=>some ZR
  | 215=>some ZG
  | 217=>some zF
  | 218=>some Zbh
  | 219=>some zU
  | 220=>some Zch
  | 221=>some zp
  | 222=>some Zb4
  | 223=>some Zb9
  | 224=>some zO
  | 228=>some zL
  | 229=>some Zbs
  | 230=>some zy
  | 248=>some Zf
  | _=>none
theorem ZeX:G 19=some zg:=rfl
theorem Zd2:G 20=some ZP:=rfl
theorem Ze5:G 23=some Z7:=rfl
theorem ZfO:G 24=some z6:=rfl
theorem Zes:G 25=some ZL:=rfl
theorem Zeo:G 28=some Zj:=rfl
theorem ZfM:G 29=some ZN:=rfl
theorem ZdT:G 30=some Z8:=rfl
theorem ZfN:G 32=some Zcj:=rfl
theorem ZdO:G 34=some Zv:=rfl
theorem Ze4:G 36=some Zz:=rfl
theorem Ze2:G 46=some zm:=rfl
theorem Zdp:G 51=some Zan:=rfl
theorem ZeE:G 52=some zW:=rfl
theorem Zen:G 53=some Zac:=rfl
theorem ZeV:G 55=some Zbq:=rfl
theorem Zep:G 56=some zz:=rfl
theorem Ze1:G 57=some ZaR:=rfl
theorem ZfA:G 59=some Zcu:=rfl
theorem Zgj:G 61=some ZbO:=rfl
theorem ZfP:G 62=some ZaA:=rfl
theorem Zd1:G 63=some ZO:=rfl
theorem Zd0:G 64=some Z2:=rfl
theorem Zeq:G 65=some ZI:=rfl
theorem ZfL:G 66=some z5:=rfl
theorem Zf9:G 67=some ZZ:=rfl
theorem Zfo:G 75=some Zci:=rfl
theorem ZeW:G 76=some ZbE:=rfl
theorem Zfl:G 77=some Zb3:=rfl
theorem ZcW:G 78=some ZaJ:=rfl
theorem ZeY:G 80=some ZbS:=rfl
theorem Zgi:G 82=some Zay:=rfl
theorem ZdV:G 83=some ZU:=rfl
theorem Zg1:G 89=some ZbY:=rfl
theorem Zfk:G 90=some Zcg:=rfl
theorem Zdt:G 91=some zd:=rfl
theorem Zh8:G 97=some Zcf:=rfl
theorem ZfI:G 98=some Zal:=rfl
theorem Zhj:G 119=some Zcq:=rfl
theorem Zel:G 171=some Z1:=rfl
theorem ZdQ:G 174=some Zq:=rfl
theorem ZeF:G 175=some Zi:=rfl
theorem ZfB:G 176=some Zar:=rfl
theorem ZdR:G 177=some Zx:=rfl
theorem ZdU:G 181=some Zr:=rfl
theorem ZdS:G 182=some zr:=rfl
theorem ZdL:G 190=some Zax:=rfl
theorem ZdM:G 197=some Z5:=rfl
theorem ZdP:G 198=some Zw:=rfl
theorem ZeG:G 199=some zq:=rfl
theorem Ze3:G 200=some Zy:=rfl
theorem ZfC:G 201=some zx:=rfl
theorem Zd9:G 202=some ZW:=rfl
theorem ZfJ:G 203=some ZE:=rfl
theorem ZfK:G 204=some Zam:=rfl
theorem Zds:G 206=some zb:=rfl
theorem Zek:G 207=some za:=rfl
theorem Zfq:G 212=some zc:=rfl
theorem Zeh:G 213=some zA:=rfl
theorem Zfp:G 214=some ZR:=rfl
theorem Zet:G 215=some ZG:=rfl
theorem ZdN:G 217=some zF:=rfl
theorem Zer:G 218=some Zbh:=rfl
theorem ZeU:G 219=some zU:=rfl
theorem Zfn:G 220=some Zch:=rfl
theorem Zeg:G 221=some zp:=rfl
theorem Zfm:G 222=some Zb4:=rfl
theorem Zei:G 223=some Zb9:=rfl
theorem Zej:G 224=some zO:=rfl
theorem Zfr:G 228=some zL:=rfl
theorem ZdA:G 229=some Zbs:=rfl
theorem Zem:G 230=some zy:=rfl
theorem ZcV:G 248=some Zf:=rfl
end Mu
