/- The functions of the program, as the evaluator has them: printed by a program; checked against the model's. -/
import Derived.Test.YtdefkboekpjiiaaMuE0
namespace Mu
instance (n:Nat):OfNat Opd n:=⟨.t n⟩
instance:Coe (List Oper) Code:=⟨.region⟩
abbrev oD (d:Nat) (op:Op):Oper:=⟨some d,op,none⟩
abbrev oN (op:Op):Oper:=⟨none,op,none⟩
abbrev oT (d g:Nat) (op:Op):Oper:=⟨some d,op,some (g,true)⟩
abbrev oF (d g:Nat) (op:Op):Oper:=⟨some d,op,some (g,false)⟩
abbrev oM (d:Nat) (x:Opd):Oper:=⟨some d,.mv x,none⟩
abbrev oC (d f:Nat) (l:List Opd):Oper:=⟨some d,.call (.c (.f f [])) l,none⟩
abbrev cI (n:Int):Opd:=.c (.i .i64 n)
/-! muntin/join.Parts -/
def Zs.r0:List Oper:=[oM 2 (.c (.sn)),oM 3 (cI 0)]
def Zs.r1:List Oper:=[oM 12 0,oC 13 66 [12],oM 4 13]
def Zs.r2:List Oper:=[oM 14 4,oD 15 (.eq true .sc 14 (cI 0))]
def Zs.r3:List Oper:=[oM 16 4,oM 2 (.c (.sn)),oM 3 16]
def Zs.r4:List Oper:=[oM 5 (.c (.sn))]
def Zs.r5:List Oper:=[oM 17 0,oD 18 (.len 17),oD 19 (.mks 1 1 [.b false] 18 18),oM 6 19]
def Zs.r6:List Oper:=[oM 20 0,oD 21 (.len 20),oM 22 (cI 0)]
def Zs.r7:List Oper:=[oD 23 (.bin .lss 22 21)]
def Zs.r8:List Oper:=[oM 24 22,oM 7 24]
def Zs.r9:List Oper:=[oM 25 6,oM 26 7,oD 27 (.ixa 1 25 26),oD 28 (.ld false 1 27)]
def Zs.r10:List Oper:=[oM 30 0,oM 31 7,oC 32 67 [30,31],oM 29 32,oD 33 (.ext 29 0),oD 34 (.ext 29 1),oM 8 33,oM 9 34]
def Zs.r11:List Oper:=[oD 35 (.bsl 1 0 [.n 0] []),oM 10 35]
def Zs.r12:List Oper:=[oM 36 0,oD 37 (.len 36),oM 38 (cI 0)]
def Zs.r13:List Oper:=[oD 39 (.bin .lss 38 37)]
def Zs.r14:List Oper:=[oM 40 38,oM 11 40]
def Zs.r15:List Oper:=[oM 41 11,oM 42 7,oD 43 (.eq false .sc 41 42),oM 44 43,oF 45 44 (.mv 9),oF 46 44 (.mv 11),oF 47 44 (.ixa 1 45 46),oF 48 44 (.ld false 1 47),oF 49 44 (.bin .geq 48 (cI 0)),oD 50 (.pick 44 (.c (.b true)) 49)]
def Zs.r16:List Oper:=[oM 51 6,oM 52 11,oD 53 (.ixa 1 51 52),oN (.st 1 53 (.c (.b true)))]
def Zs.r17:List Oper:=[oM 54 10,oM 55 11,oD 56 (.bsl 1 1 [.n 0] [(0,1,.t 55)]),oD 57 (.app 1 8 54 56),oM 10 57]
def Zs.r18:List Oper:=[oD 58 (.bin .add 38 (cI 1)),oM 38 58]
def Zs.l0:Code:=.seq Zs.r13 (.seq (.cond 39 (.skip) (.exit 2)) (.seq (.block 3 (.seq Zs.r14 (.seq Zs.r15 (.cond 50 (.seq Zs.r16 Zs.r17) (.skip))))) Zs.r18))
def Zs.r19:List Oper:=[oM 59 5,oM 60 10,oD 61 (.bsl 1 1 [.sn] [(0,1,.t 60)]),oD 62 (.app 1 24 59 61),oM 5 62]
def Zs.r20:List Oper:=[oD 63 (.bin .add 22 (cI 1)),oM 22 63]
def Zs.l1:Code:=.seq Zs.r7 (.seq (.cond 23 (.skip) (.exit 0)) (.seq (.block 1 (.seq Zs.r8 (.seq (.seq Zs.r9 (.cond 28 (.exit 1) (.skip))) (.seq Zs.r10 (.seq Zs.r11 (.seq (.seq Zs.r12 (.block 2 (.loop Zs.l0))) Zs.r19)))))) Zs.r20))
def Zs.r21:List Oper:=[oM 64 5,oM 2 64,oM 3 (cI 0)]
def Zs.code:Code:=.seq Zs.r0 (.seq (.seq Zs.r1 (.seq Zs.r2 (.cond 15 (.seq Zs.r3 (.ret)) (.skip)))) (.seq Zs.r4 (.seq Zs.r5 (.seq (.seq Zs.r6 (.block 0 (.loop Zs.l1))) (.seq Zs.r21 (.ret))))))
def Zs:Func:=⟨65,[.t 2,.t 3],Zs.code⟩
/-! muntin/join.Whole -/
def Zar.r0:List Oper:=[oM 2 (.c (.b false))]
def Zar.r1:List Oper:=[oM 6 0,oC 7 29 [6],oM 5 7,oD 8 (.ext 5 0),oD 9 (.ext 5 1),oM 3 8,oM 4 9]
def Zar.r2:List Oper:=[oM 10 4,oD 11 (.eq false .sc 10 (cI 0)),oM 12 11,oT 13 12 (.mv 3),oT 14 12 (.len 13),oT 15 12 (.eq false .sc 14 (cI 1)),oD 16 (.pick 12 15 (.c (.b false))),oM 2 16]
def Zar.code:Code:=.seq Zar.r0 (.seq Zar.r1 (.seq Zar.r2 (.ret)))
def Zar:Func:=⟨17,[.t 2],Zar.code⟩
/-! muntin/muntinref10.New -/
def Z1.r0:List Oper:=[oM 2 (.c (.sn))]
def Z1.r1:List Oper:=[oM 6 0,oD 7 (.mks 8 64 [.n 0,.n 0,.n 0,.n 0,.n 0,.n 0,.n 0,.n 0] 6 6),oM 3 7]
def Z1.r2:List Oper:=[oM 4 (cI 0)]
def Z1.r3:List Oper:=[oM 8 4,oM 9 0,oD 10 (.bin .lss 8 9)]
def Z1.r5:List Oper:=[oM 5 (cI 0)]
def Z1.r6:List Oper:=[oM 13 5,oD 14 (.bin .lss 13 (cI 4))]
def Z1.r8:List Oper:=[oM 17 3,oM 18 4,oM 19 5,oD 20 (.ixa 8 17 18),oD 21 (.fa 0 20),oD 22 (.ixaa 1 4 21 19),oN (.st 1 22 (cI (-1)))]
def Z1.r7:List Oper:=[oM 15 5,oD 16 (.bin .add 15 (cI 1)),oM 5 16]
def Z1.l0:Code:=.seq (.seq Z1.r6 (.cond 14 (.skip) (.exit 2))) (.seq (.block 3 Z1.r8) Z1.r7)
def Z1.r4:List Oper:=[oM 11 4,oD 12 (.bin .add 11 (cI 1)),oM 4 12]
def Z1.l1:Code:=.seq (.seq Z1.r3 (.cond 10 (.skip) (.exit 0))) (.seq (.block 1 (.seq Z1.r5 (.block 2 (.loop Z1.l0)))) Z1.r4)
def Z1.r9:List Oper:=[oM 23 3,oM 2 23]
def Z1.code:Code:=.seq Z1.r0 (.seq Z1.r1 (.seq (.seq Z1.r2 (.block 0 (.loop Z1.l1))) (.seq Z1.r9 (.ret))))
def Z1:Func:=⟨24,[.t 2],Z1.code⟩
/-! muntin/muntinref10.Join -/
def ZH.r0:List Oper:=[oM 10 (.c (.sn)),oM 11 (cI 0)]
def ZH.r1:List Oper:=[oM 13 1,oD 14 (.bin .lss 13 (cI 0)),oM 15 14,oF 16 15 (.mv 1),oF 17 15 (.mv 0),oF 18 15 (.len 17),oF 19 15 (.bin .geq 16 18),oD 20 (.pick 15 (.c (.b true)) 19),oM 21 20,oF 22 21 (.mv 3),oF 23 21 (.bin .lss 22 (cI 0)),oD 24 (.pick 21 (.c (.b true)) 23),oM 25 24,oF 26 25 (.mv 3),oF 27 25 (.mv 0),oF 28 25 (.len 27),oF 29 25 (.bin .geq 26 28),oD 30 (.pick 25 (.c (.b true)) 29),oM 31 30,oF 32 31 (.mv 1),oF 33 31 (.mv 3),oF 34 31 (.eq false .sc 32 33),oD 35 (.pick 31 (.c (.b true)) 34),oM 36 35,oF 37 36 (.mv 2),oF 38 36 (.bin .lss 37 (cI 0)),oD 39 (.pick 36 (.c (.b true)) 38),oM 40 39,oF 41 40 (.mv 2),oF 42 40 (.bin .gtr 41 (cI 3)),oD 43 (.pick 40 (.c (.b true)) 42),oM 44 43,oF 45 44 (.mv 4),oF 46 44 (.bin .lss 45 (cI (-2))),oD 47 (.pick 44 (.c (.b true)) 46)]
def ZH.r2:List Oper:=[oM 48 0,oM 10 48,oM 11 (cI 2)]
def ZH.r3:List Oper:=[oM 49 0,oM 50 1,oM 51 2,oD 52 (.ixa 8 49 50),oD 53 (.fa 0 52),oD 54 (.ixaa 1 4 53 51),oD 55 (.ld false 1 54),oD 56 (.eq true .sc 55 (cI (-1))),oM 57 56,oF 58 57 (.mv 0),oF 59 57 (.mv 3),oF 60 57 (.mv 2),oF 61 57 (.bin .add 60 (cI 2)),oF 62 57 (.bin .rem 61 (cI 4)),oF 63 57 (.ixa 8 58 59),oF 64 57 (.fa 0 63),oF 65 57 (.ixaa 1 4 64 62),oF 66 57 (.ld false 1 65),oF 67 57 (.eq true .sc 66 (cI (-1))),oD 68 (.pick 57 (.c (.b true)) 67)]
def ZH.r4:List Oper:=[oM 69 0,oM 10 69,oM 11 (cI 9)]
def ZH.r5:List Oper:=[oM 70 0,oM 71 1,oM 72 2,oM 73 3,oM 74 4,oC 75 65 [70,71,72,73,74],oM 12 75]
def ZH.r6:List Oper:=[oM 76 12,oM 10 76,oM 11 (cI 0)]
def ZH.code:Code:=.seq ZH.r0 (.seq (.seq ZH.r1 (.cond 47 (.seq ZH.r2 (.ret)) (.skip))) (.seq (.seq ZH.r3 (.cond 68 (.seq ZH.r4 (.ret)) (.skip))) (.seq ZH.r5 (.seq ZH.r6 (.ret)))))
def ZH:Func:=⟨77,[.t 10,.t 11],ZH.code⟩
/-! muntin/muntinref10.with -/
def Zp.r0:List Oper:=[oM 10 (.c (.sn))]
def Zp.r1:List Oper:=[oM 11 (.c (.sn))]
def Zp.r2:List Oper:=[oM 12 (cI 0)]
def Zp.r3:List Oper:=[oM 14 12,oM 15 0,oD 16 (.len 15),oD 17 (.bin .lss 14 16)]
def Zp.r5:List Oper:=[oM 20 0,oM 21 12,oD 22 (.ixa 8 20 21),oD 23 (.ld true 8 22),oD 13 (.alloc [.n 0,.n 0,.n 0,.n 0,.n 0,.n 0,.n 0,.n 0]),oN (.st 8 13 23)]
def Zp.r6:List Oper:=[oM 24 12,oM 25 1,oD 26 (.eq false .sc 24 25)]
def Zp.r7:List Oper:=[oM 27 2,oM 28 3,oD 29 (.fa 0 13),oD 30 (.ixaa 1 4 29 27),oN (.st 1 30 28)]
def Zp.r8:List Oper:=[oM 31 2,oM 32 4,oD 33 (.fa 4 13),oD 34 (.ixaa 1 4 33 31),oN (.st 1 34 32)]
def Zp.r9:List Oper:=[oM 35 12,oM 36 3,oD 37 (.eq false .sc 35 36)]
def Zp.r10:List Oper:=[oM 38 2,oD 39 (.bin .add 38 (cI 2)),oD 40 (.bin .rem 39 (cI 4)),oM 41 1,oD 42 (.fa 0 13),oD 43 (.ixaa 1 4 42 40),oN (.st 1 43 41)]
def Zp.r11:List Oper:=[oM 44 2,oD 45 (.bin .add 44 (cI 2)),oD 46 (.bin .rem 45 (cI 4)),oM 47 4,oD 48 (.fa 4 13),oD 49 (.ixaa 1 4 48 46),oN (.st 1 49 47)]
def Zp.r12:List Oper:=[oM 50 11,oD 51 (.ld true 8 13),oD 52 (.bsl 8 1 [.n 0,.n 0,.n 0,.n 0,.n 0,.n 0,.n 0,.n 0] [(0,8,.t 51)]),oD 53 (.app 8 64 50 52),oM 11 53]
def Zp.r4:List Oper:=[oM 18 12,oD 19 (.bin .add 18 (cI 1)),oM 12 19]
def Zp.l0:Code:=.seq (.seq Zp.r3 (.cond 17 (.skip) (.exit 0))) (.seq (.block 1 (.seq Zp.r5 (.seq (.seq Zp.r6 (.cond 26 (.seq Zp.r7 Zp.r8) (.skip))) (.seq (.seq Zp.r9 (.cond 37 (.seq Zp.r10 Zp.r11) (.skip))) Zp.r12)))) Zp.r4)
def Zp.r13:List Oper:=[oM 54 11,oM 10 54]
def Zp.code:Code:=.seq Zp.r0 (.seq Zp.r1 (.seq (.seq Zp.r2 (.block 0 (.loop Zp.l0))) (.seq Zp.r13 (.ret))))
def Zp:Func:=⟨55,[.t 10],Zp.code⟩
/-! muntin/grid.Check -/
def Z6.r0:List Oper:=[oM 2 (cI 0)]
def Z6.r1:List Oper:=[oM 6 0,oD 7 (.len 6),oD 8 (.bin .gtr 7 (cI 4096))]
def Z6.r2:List Oper:=[oM 2 (cI 6)]
def Z6.r3:List Oper:=[oM 9 0,oD 10 (.len 9),oM 11 (cI 0)]
def Z6.r4:List Oper:=[oD 12 (.bin .lss 11 10)]
def Z6.r5:List Oper:=[oM 13 11,oM 3 13]
def Z6.r6:List Oper:=[oM 14 (cI 0)]
def Z6.r7:List Oper:=[oD 15 (.bin .lss 14 (cI 4))]
def Z6.r8:List Oper:=[oM 16 14,oM 4 16]
def Z6.r9:List Oper:=[oM 17 0,oM 18 3,oM 19 4,oC 20 82 [17,18,19],oM 5 20]
def Z6.r10:List Oper:=[oM 21 5,oD 22 (.eq true .sc 21 (cI 0))]
def Z6.r11:List Oper:=[oM 23 5,oM 2 23]
def Z6.r12:List Oper:=[oD 24 (.bin .add 14 (cI 1)),oM 14 24]
def Z6.l0:Code:=.seq Z6.r7 (.seq (.cond 15 (.skip) (.exit 2)) (.seq (.block 3 (.seq Z6.r8 (.seq Z6.r9 (.seq Z6.r10 (.cond 22 (.seq Z6.r11 (.ret)) (.skip)))))) Z6.r12))
def Z6.r13:List Oper:=[oD 25 (.bin .add 11 (cI 1)),oM 11 25]
def Z6.l1:Code:=.seq Z6.r4 (.seq (.cond 12 (.skip) (.exit 0)) (.seq (.block 1 (.seq Z6.r5 (.seq Z6.r6 (.block 2 (.loop Z6.l0))))) Z6.r13))
def Z6.r14:List Oper:=[oM 2 (cI 0)]
def Z6.code:Code:=.seq Z6.r0 (.seq (.seq Z6.r1 (.cond 8 (.seq Z6.r2 (.ret)) (.skip))) (.seq (.seq Z6.r3 (.block 0 (.loop Z6.l1))) (.seq Z6.r14 (.ret))))
def Z6:Func:=⟨26,[.t 2],Z6.code⟩
/-! muntin/join.spread -/
def Zy.r0:List Oper:=[oM 4 (.c (.sn)),oM 5 (.c (.sn))]
def Zy.r1:List Oper:=[oD 13 (.bsl 1 1 [.n 0] [(0,1,.c (.n (-1)))]),oM 14 0,oD 15 (.len 14),oC 16 83 [13,15],oD 17 (.bsl 1 1 [.n 0] [(0,1,.c (.n (-1)))]),oM 18 0,oD 19 (.len 18),oC 20 83 [17,19],oM 6 16,oM 7 20]
def Zy.r2:List Oper:=[oM 21 1,oD 22 (.bsl 1 1 [.n 0] [(0,1,.t 21)]),oM 8 22]
def Zy.r3:List Oper:=[oM 23 0,oD 24 (.len 23),oD 25 (.mks 1 1 [.b false] 24 24),oM 9 25]
def Zy.r4:List Oper:=[oM 26 9,oM 27 1,oD 28 (.ixa 1 26 27),oN (.st 1 28 (.c (.b true)))]
def Zy.r5:List Oper:=[oM 29 8,oD 30 (.len 29),oD 31 (.bin .gtr 30 (cI 0))]
def Zy.r6:List Oper:=[oM 32 8,oD 33 (.ixa 1 32 (cI 0)),oD 34 (.ld false 1 33),oM 10 34]
def Zy.r7:List Oper:=[oM 35 8,oD 36 (.slc 1 35 (some (cI 1)) none none),oM 8 36]
def Zy.r8:List Oper:=[oM 37 (cI 0)]
def Zy.r9:List Oper:=[oD 38 (.bin .lss 37 (cI 4))]
def Zy.r10:List Oper:=[oM 39 37,oM 11 39]
def Zy.r11:List Oper:=[oM 40 0,oM 41 10,oM 42 11,oD 43 (.ixa 8 40 41),oD 44 (.fa 0 43),oD 45 (.ixaa 1 4 44 42),oD 46 (.ld false 1 45),oM 12 46]
def Zy.r12:List Oper:=[oM 47 12,oD 48 (.bin .geq 47 (cI 0)),oM 49 48,oT 50 49 (.mv 9),oT 51 49 (.mv 12),oT 52 49 (.ixa 1 50 51),oT 53 49 (.ld false 1 52),oT 54 49 (.un .not 53),oD 55 (.pick 49 54 (.c (.b false)))]
def Zy.r13:List Oper:=[oM 56 9,oM 57 12,oM 58 6,oM 59 12,oM 60 7,oM 61 12,oM 62 10,oM 63 11,oD 64 (.ixa 1 56 57),oN (.st 1 64 (.c (.b true))),oD 65 (.ixa 1 58 59),oN (.st 1 65 62),oD 66 (.ixa 1 60 61),oN (.st 1 66 63)]
def Zy.r14:List Oper:=[oM 67 8,oM 68 12,oD 69 (.bsl 1 1 [.n 0] [(0,1,.t 68)]),oD 70 (.app 1 8 67 69),oM 8 70]
def Zy.r15:List Oper:=[oD 71 (.bin .add 37 (cI 1)),oM 37 71]
def Zy.l0:Code:=.seq Zy.r9 (.seq (.cond 38 (.skip) (.exit 2)) (.seq (.block 3 (.seq Zy.r10 (.seq Zy.r11 (.seq Zy.r12 (.cond 55 (.seq Zy.r13 Zy.r14) (.skip)))))) Zy.r15))
def Zy.l1:Code:=.seq (.seq Zy.r5 (.cond 31 (.skip) (.exit 0))) (.block 1 (.seq Zy.r6 (.seq Zy.r7 (.seq Zy.r8 (.block 2 (.loop Zy.l0))))))
def Zy.r16:List Oper:=[oM 72 6,oM 73 7,oM 4 72,oM 5 73]
def Zy.code:Code:=.seq Zy.r0 (.seq Zy.r1 (.seq Zy.r2 (.seq Zy.r3 (.seq Zy.r4 (.seq (.block 0 (.loop Zy.l1)) (.seq Zy.r16 (.ret)))))))
def Zy:Func:=⟨74,[.t 4,.t 5],Zy.code⟩
/-! muntin/compass.Left -/
def z8.r0:List Oper:=[oM 4 (cI 0)]
def z8.r1:List Oper:=[oM 5 0,oC 6 90 [5],oD 7 (.un .not 6)]
def z8.r2:List Oper:=[oM 4 (cI 0)]
def z8.r3:List Oper:=[oM 8 0,oM 9 1,oD 10 (.bin .rem 9 (cI 4)),oD 11 (.bin .add 8 10),oD 12 (.bin .add 11 (cI 4)),oD 13 (.bin .rem 12 (cI 4)),oM 4 13]
def z8.code:Code:=.seq z8.r0 (.seq (.seq z8.r1 (.cond 7 (.seq z8.r2 (.ret)) (.skip))) (.seq z8.r3 (.ret)))
def z8:Func:=⟨14,[.t 4],z8.code⟩
/-! slices.ContainsFunc[[]int,int] -/
def zd.r0:List Oper:=[oM 4 (.c (.b false))]
def zd.r1:List Oper:=[oM 5 0,oM 6 1,oC 7 91 [5,6],oD 8 (.bin .geq 7 (cI 0)),oM 4 8]
def zd.code:Code:=.seq zd.r0 (.seq zd.r1 (.ret))
def zd:Func:=⟨9,[.t 4],zd.code⟩
/-! muntin/grid.side -/
def ZU.r0:List Oper:=[oM 6 (cI 0)]
def ZU.r1:List Oper:=[oM 10 0,oM 11 1,oM 12 2,oD 13 (.ixa 8 10 11),oD 14 (.fa 0 13),oD 15 (.ixaa 1 4 14 12),oD 16 (.ld false 1 15),oM 17 0,oM 18 1,oM 19 2,oD 20 (.ixa 8 17 18),oD 21 (.fa 4 20),oD 22 (.ixaa 1 4 21 19),oD 23 (.ld false 1 22),oM 7 16,oM 8 23]
def ZU.r2:List Oper:=[oM 24 7,oD 25 (.eq false .sc 24 (cI (-1)))]
def ZU.r3:List Oper:=[oM 26 8,oD 27 (.eq true .sc 26 (cI 0))]
def ZU.r4:List Oper:=[oM 6 (cI 9)]
def ZU.r5:List Oper:=[oM 6 (cI 0)]
def ZU.r6:List Oper:=[oM 28 7,oD 29 (.bin .lss 28 (cI 0)),oM 30 29,oF 31 30 (.mv 7),oF 32 30 (.mv 0),oF 33 30 (.len 32),oF 34 30 (.bin .geq 31 33),oD 35 (.pick 30 (.c (.b true)) 34),oM 36 35,oF 37 36 (.mv 7),oF 38 36 (.mv 1),oF 39 36 (.eq false .sc 37 38),oD 40 (.pick 36 (.c (.b true)) 39)]
def ZU.r7:List Oper:=[oM 6 (cI 3)]
def ZU.r8:List Oper:=[oM 41 2,oC 42 77 [41,.c (.n 2)],oM 9 42]
def ZU.r9:List Oper:=[oM 43 0,oM 44 7,oM 45 9,oD 46 (.ixa 8 43 44),oD 47 (.fa 0 46),oD 48 (.ixaa 1 4 47 45),oD 49 (.ld false 1 48),oM 50 1,oD 51 (.eq true .sc 49 50),oM 52 51,oF 53 52 (.mv 0),oF 54 52 (.mv 7),oF 55 52 (.mv 9),oF 56 52 (.ixa 8 53 54),oF 57 52 (.fa 4 56),oF 58 52 (.ixaa 1 4 57 55),oF 59 52 (.ld false 1 58),oF 60 52 (.mv 8),oF 61 52 (.eq true .sc 59 60),oD 62 (.pick 52 (.c (.b true)) 61),oM 63 62,oF 64 63 (.mv 8),oF 65 63 (.bin .lss 64 (cI (-2))),oD 66 (.pick 63 (.c (.b true)) 65)]
def ZU.r10:List Oper:=[oM 6 (cI 9)]
def ZU.r11:List Oper:=[oM 6 (cI 0)]
def ZU.code:Code:=.seq ZU.r0 (.seq (.draw ZU.r1 [(6,13)]) (.seq (.seq ZU.r2 (.cond 25 (.seq (.seq ZU.r3 (.cond 27 (.seq ZU.r4 (.ret)) (.skip))) (.seq ZU.r5 (.ret))) (.skip))) (.seq (.seq ZU.r6 (.cond 40 (.seq ZU.r7 (.ret)) (.skip))) (.seq ZU.r8 (.seq (.seq ZU.r9 (.cond 66 (.seq ZU.r10 (.ret)) (.skip))) (.seq ZU.r11 (.ret)))))))
def ZU:Func:=⟨67,[.t 6],ZU.code⟩
/-! slices.Repeat[[]int,int] -/
def Zw.r0:List Oper:=[oM 4 (.c (.sn))]
def Zw.r1:List Oper:=[oM 9 1,oD 10 (.bin .lss 9 (cI 0))]
def Zw.r2:List Oper:=[oD 11 (.bad),oN (.bad)]
def Zw.r3:List Oper:=[oM 13 0,oD 14 (.len 13),oD 15 (.conv .u64 14),oM 16 1,oD 17 (.conv .u64 16),oC 18 89 [15,17],oM 12 18,oD 19 (.ext 12 0),oD 20 (.ext 12 1),oM 5 19,oM 6 20]
def Zw.r4:List Oper:=[oM 21 5,oD 22 (.bin .gtr 21 (.c (.i .u64 0))),oM 23 22,oF 24 23 (.mv 6),oF 25 23 (.bin .gtr 24 (.c (.i .u64 9223372036854775807))),oD 26 (.pick 23 (.c (.b true)) 25)]
def Zw.r5:List Oper:=[oD 27 (.bad),oN (.bad)]
def Zw.r6:List Oper:=[oM 28 6,oD 29 (.conv .i64 28),oD 30 (.mks 1 8 [.n 0] 29 29),oM 7 30]
def Zw.r7:List Oper:=[oM 31 7,oM 32 0,oD 33 (.cpy 1 31 32),oM 8 33]
def Zw.r8:List Oper:=[oM 34 8,oM 35 7,oD 36 (.len 35),oD 37 (.bin .lss 34 36)]
def Zw.r9:List Oper:=[oM 38 8,oM 39 7,oM 40 8,oD 41 (.slc 1 39 (some 40) none none),oM 42 7,oM 43 8,oD 44 (.slc 1 42 none (some 43) none),oD 45 (.cpy 1 41 44),oD 46 (.bin .add 38 45),oM 8 46]
def Zw.l0:Code:=.seq (.seq Zw.r8 (.cond 37 (.skip) (.exit 0))) (.block 1 (.draw Zw.r9 []))
def Zw.r10:List Oper:=[oM 47 7,oM 4 47]
def Zw.code:Code:=.seq Zw.r0 (.seq (.seq Zw.r1 (.cond 10 Zw.r2 (.skip))) (.seq Zw.r3 (.seq (.seq Zw.r4 (.cond 26 Zw.r5 (.skip))) (.seq Zw.r6 (.seq Zw.r7 (.seq (.block 0 (.loop Zw.l0)) (.seq Zw.r10 (.ret))))))))
def Zw:Func:=⟨48,[.t 4],Zw.code⟩
/-! math/bits.Mul -/
def Zai.r0:List Oper:=[oM 4 (.c (.i .u64 0)),oM 5 (.c (.i .u64 0))]
def Zai.r1:List Oper:=[oM 11 0,oD 12 (.conv .u32 11),oM 13 1,oD 14 (.conv .u32 13),oC 15 97 [12,14],oM 10 15,oD 16 (.ext 10 0),oD 17 (.ext 10 1),oM 6 16,oM 7 17]
def Zai.r2:List Oper:=[oM 18 6,oD 19 (.conv .u64 18),oM 20 7,oD 21 (.conv .u64 20),oM 4 19,oM 5 21]
def Zai.r3:List Oper:=[oM 23 0,oM 24 1,oC 25 98 [23,24],oM 22 25,oD 26 (.ext 22 0),oD 27 (.ext 22 1),oM 8 26,oM 9 27]
def Zai.r4:List Oper:=[oM 28 8,oM 29 9,oM 4 28,oM 5 29]
def Zai.code:Code:=.seq Zai.r0 (.seq (.cond (.c (.b false)) (.seq Zai.r1 (.seq Zai.r2 (.ret))) (.skip)) (.seq Zai.r3 (.seq Zai.r4 (.ret))))
def Zai:Func:=⟨30,[.t 4,.t 5],Zai.code⟩
/-! muntin/compass.Good -/
def Zap.r0:List Oper:=[oM 2 (.c (.b false))]
def Zap.r1:List Oper:=[oM 3 0,oD 4 (.bin .geq 3 (cI 0)),oM 5 4,oT 6 5 (.mv 0),oT 7 5 (.bin .leq 6 (cI 3)),oD 8 (.pick 5 7 (.c (.b false))),oM 2 8]
def Zap.code:Code:=.seq Zap.r0 (.seq Zap.r1 (.ret))
def Zap:Func:=⟨9,[.t 2],Zap.code⟩
/-! slices.IndexFunc[[]int,int] -/
def Z0.r0:List Oper:=[oM 4 (cI 0)]
def Z0.r1:List Oper:=[oM 6 0,oD 7 (.len 6),oM 8 (cI 0)]
def Z0.r2:List Oper:=[oD 9 (.bin .lss 8 7)]
def Z0.r3:List Oper:=[oM 10 8,oM 5 10]
def Z0.r4:List Oper:=[oM 11 1,oM 12 0,oM 13 5,oD 14 (.ixa 1 12 13),oD 15 (.ld false 1 14),oD 16 (.call 11 [15])]
def Z0.r5:List Oper:=[oM 17 5,oM 4 17]
def Z0.r6:List Oper:=[oD 18 (.bin .add 8 (cI 1)),oM 8 18]
def Z0.l0:Code:=.seq Z0.r2 (.seq (.cond 9 (.skip) (.exit 0)) (.seq (.block 1 (.seq Z0.r3 (.seq Z0.r4 (.cond 16 (.seq Z0.r5 (.ret)) (.skip))))) Z0.r6))
def Z0.r7:List Oper:=[oM 4 (cI (-1))]
def Z0.code:Code:=.seq Z0.r0 (.seq (.seq Z0.r1 (.block 0 (.loop Z0.l0))) (.seq Z0.r7 (.ret)))
def Z0:Func:=⟨19,[.t 4],Z0.code⟩
/-! math/bits.Mul32 -/
def Zao.r0:List Oper:=[oM 4 (.c (.i .u32 0)),oM 5 (.c (.i .u32 0))]
def Zao.r1:List Oper:=[oM 7 0,oD 8 (.conv .u64 7),oM 9 1,oD 10 (.conv .u64 9),oD 11 (.bin .mul 8 10),oM 6 11]
def Zao.r2:List Oper:=[oM 12 6,oD 13 (.bin .shr 12 (.c (.i .u64 32))),oD 14 (.conv .u32 13),oM 15 6,oD 16 (.conv .u32 15),oM 4 14,oM 5 16]
def Zao.code:Code:=.seq Zao.r0 (.seq Zao.r1 (.seq Zao.r2 (.ret)))
def Zao:Func:=⟨17,[.t 4,.t 5],Zao.code⟩
/-! math/bits.Mul64 -/
def ZN.r0:List Oper:=[oM 4 (.c (.i .u64 0)),oM 5 (.c (.i .u64 0))]
def ZN.r1:List Oper:=[oM 14 0,oD 15 (.bin .and 14 (.c (.i .u64 4294967295))),oM 6 15]
def ZN.r2:List Oper:=[oM 16 0,oD 17 (.bin .shr 16 (.c (.i .u64 32))),oM 7 17]
def ZN.r3:List Oper:=[oM 18 1,oD 19 (.bin .and 18 (.c (.i .u64 4294967295))),oM 8 19]
def ZN.r4:List Oper:=[oM 20 1,oD 21 (.bin .shr 20 (.c (.i .u64 32))),oM 9 21]
def ZN.r5:List Oper:=[oM 22 6,oM 23 8,oD 24 (.bin .mul 22 23),oM 10 24]
def ZN.r6:List Oper:=[oM 25 7,oM 26 8,oD 27 (.bin .mul 25 26),oM 28 10,oD 29 (.bin .shr 28 (.c (.i .u64 32))),oD 30 (.bin .add 27 29),oM 11 30]
def ZN.r7:List Oper:=[oM 31 11,oD 32 (.bin .and 31 (.c (.i .u64 4294967295))),oM 12 32]
def ZN.r8:List Oper:=[oM 33 11,oD 34 (.bin .shr 33 (.c (.i .u64 32))),oM 13 34]
def ZN.r9:List Oper:=[oM 35 12,oM 36 6,oM 37 9,oD 38 (.bin .mul 36 37),oD 39 (.bin .add 35 38),oM 12 39]
def ZN.r10:List Oper:=[oM 40 7,oM 41 9,oD 42 (.bin .mul 40 41),oM 43 13,oD 44 (.bin .add 42 43),oM 45 12,oD 46 (.bin .shr 45 (.c (.i .u64 32))),oD 47 (.bin .add 44 46),oM 4 47]
def ZN.r11:List Oper:=[oM 48 0,oM 49 1,oD 50 (.bin .mul 48 49),oM 5 50]
def ZN.code:Code:=.seq ZN.r0 (.seq ZN.r1 (.seq ZN.r2 (.seq ZN.r3 (.seq ZN.r4 (.seq ZN.r5 (.seq ZN.r6 (.seq ZN.r7 (.seq ZN.r8 (.seq ZN.r9 (.seq ZN.r10 (.seq ZN.r11 (.ret))))))))))))
def ZN:Func:=⟨51,[.t 4,.t 5],ZN.code⟩
/-! slices.Contains[[]int,int] -/
def zn.r0:List Oper:=[oM 4 (.c (.b false))]
def zn.r1:List Oper:=[oM 5 0,oM 6 1,oC 7 136 [5,6],oD 8 (.bin .geq 7 (cI 0)),oM 4 8]
def zn.code:Code:=.seq zn.r0 (.seq zn.r1 (.ret))
def zn:Func:=⟨9,[.t 4],zn.code⟩
/-! muntin/seg.Of -/
def zO.r0:List Oper:=[oD 2 (.alloc [.sn,.sn,.sn,.sn]),oM 3 (cI 0)]
def zO.r1:List Oper:=[oM 11 0,oC 12 66 [11],oM 4 12]
def zO.r2:List Oper:=[oM 13 4,oD 14 (.eq true .sc 13 (cI 0))]
def zO.r3:List Oper:=[oD 15 (.build [.sn,.sn,.sn,.sn] []),oM 16 4,oN (.st 4 2 15),oM 3 16]
def zO.r4:List Oper:=[oM 18 0,oC 19 137 [18,.c (.n 1)],oM 17 19,oD 20 (.ext 17 0),oD 21 (.ext 17 1),oD 22 (.ext 17 2),oM 5 20,oM 6 21,oM 7 22]
def zO.r5:List Oper:=[oM 24 0,oC 25 137 [24,.c (.n 0)],oM 23 25,oD 26 (.ext 23 0),oD 27 (.ext 23 1),oD 28 (.ext 23 2),oM 8 26,oM 9 27,oM 10 28]
def zO.r6:List Oper:=[oM 29 7,oD 30 (.un .not 29),oM 31 30,oF 32 31 (.mv 10),oF 33 31 (.un .not 32),oD 34 (.pick 31 (.c (.b true)) 33)]
def zO.r7:List Oper:=[oD 35 (.build [.sn,.sn,.sn,.sn] []),oN (.st 4 2 35),oM 3 (cI 10)]
def zO.r8:List Oper:=[oM 36 5,oM 37 8,oM 38 6,oM 39 9,oD 40 (.build [.sn,.sn,.sn,.sn] [(0,1,.t 36),(1,1,.t 37),(2,1,.t 38),(3,1,.t 39)]),oN (.st 4 2 40),oM 3 (cI 0)]
def zO.code:Code:=.seq zO.r0 (.seq (.seq zO.r1 (.seq zO.r2 (.cond 14 (.seq zO.r3 (.ret)) (.skip)))) (.seq zO.r4 (.seq zO.r5 (.seq (.seq zO.r6 (.cond 34 (.seq zO.r7 (.ret)) (.skip))) (.seq zO.r8 (.ret))))))
def zO:Func:=⟨41,[.cell 2 true 4,.t 3],zO.code⟩
/-! (muntin/seg.Chains).Meet -/
def zt.r0:List Oper:=[oD 5 (.box 0),oM 10 (.c (.b false))]
def zt.r1:List Oper:=[oD 12 (.ld true 4 5),oM 13 3,oM 14 4,oC 15 140 [12,13,14],oD 11 (.alloc [.sn]),oN (.st 1 11 15)]
def zt.r2:List Oper:=[oD 16 (.ld true 4 5),oM 17 1,oM 18 2,oC 19 140 [16,17,18],oD 20 (.clo 141 [11]),oC 21 78 [19,20],oM 10 21]
def zt.code:Code:=.seq zt.r0 (.seq zt.r1 (.seq zt.r2 (.ret)))
def zt:Func:=⟨22,[.t 10],zt.code⟩
/-! muntin/arcs.Length -/
def Zn.r0:List Oper:=[oM 4 (cI 0),oM 5 (cI 0)]
def Zn.r1:List Oper:=[oM 15 0,oC 16 66 [15],oM 6 16]
def Zn.r2:List Oper:=[oM 17 6,oD 18 (.eq true .sc 17 (cI 0))]
def Zn.r3:List Oper:=[oM 19 6,oM 4 (cI 0),oM 5 19]
def Zn.r4:List Oper:=[oM 20 1,oD 21 (.len 20),oM 22 0,oD 23 (.len 22),oD 24 (.eq true .sc 21 23),oM 25 24,oF 26 25 (.mv 1),oF 27 25 (.call (.c (.f 146 [])) [26,.c (.f 147 [])]),oD 28 (.pick 25 (.c (.b true)) 27)]
def Zn.r5:List Oper:=[oM 4 (cI 0),oM 5 (cI 2)]
def Zn.r6:List Oper:=[oM 7 (cI 0)]
def Zn.r7:List Oper:=[oM 29 0,oD 30 (.len 29),oM 31 (cI 0)]
def Zn.r8:List Oper:=[oD 32 (.bin .lss 31 30)]
def Zn.r9:List Oper:=[oM 33 31,oD 34 (.ixa 8 29 31),oD 35 (.ld true 8 34),oD 9 (.alloc [.n 0,.n 0,.n 0,.n 0,.n 0,.n 0,.n 0,.n 0]),oM 8 33,oN (.st 8 9 35)]
def Zn.r10:List Oper:=[oD 36 (.bsl 1 2 [.n 0] [(0,1,.c (.n 0)),(1,1,.c (.n 1))]),oD 37 (.len 36),oM 38 (cI 0)]
def Zn.r11:List Oper:=[oD 39 (.bin .lss 38 37)]
def Zn.r12:List Oper:=[oD 40 (.ixa 1 36 38),oD 41 (.ld false 1 40),oM 11 41]
def Zn.r13:List Oper:=[oM 42 11,oD 43 (.fa 0 9),oD 44 (.ixaa 1 4 43 42),oD 45 (.ld false 1 44),oM 12 45]
def Zn.r14:List Oper:=[oM 46 12,oD 47 (.bin .lss 46 (cI 0))]
def Zn.r15:List Oper:=[oM 49 1,oM 50 8,oD 51 (.ixa 2 49 50),oD 52 (.ld true 2 51),oM 53 1,oM 54 12,oD 55 (.ixa 2 53 54),oD 56 (.ld true 2 55),oC 57 148 [52,56],oM 48 57,oD 58 (.ext 48 0),oD 59 (.ext 48 1),oM 13 58,oM 14 59]
def Zn.r16:List Oper:=[oM 60 14,oD 61 (.un .not 60),oM 62 61,oF 63 62 (.mv 13),oF 64 62 (.mv 11),oF 65 62 (.eq true .sc 63 64),oD 66 (.pick 62 (.c (.b true)) 65)]
def Zn.r17:List Oper:=[oM 4 (cI 0),oM 5 (cI 15)]
def Zn.r18:List Oper:=[oM 67 7,oM 68 11,oD 69 (.fa 4 9),oD 70 (.ixaa 1 4 69 68),oD 71 (.ld false 1 70),oC 72 149 [71],oM 73 1,oM 74 12,oD 75 (.ixa 2 73 74),oD 76 (.fa 0 75),oD 77 (.ld false 1 76),oM 78 1,oM 79 8,oD 80 (.ixa 2 78 79),oD 81 (.fa 0 80),oD 82 (.ld false 1 81),oD 83 (.bin .sub 77 82),oM 84 1,oM 85 12,oD 86 (.ixa 2 84 85),oD 87 (.fa 1 86),oD 88 (.ld false 1 87),oD 89 (.bin .add 83 88),oM 90 1,oM 91 8,oD 92 (.ixa 2 90 91),oD 93 (.fa 1 92),oD 94 (.ld false 1 93),oD 95 (.bin .sub 89 94),oD 96 (.bin .mul 72 95),oD 97 (.bin .add 67 96),oM 7 97]
def Zn.r19:List Oper:=[oD 98 (.bin .add 38 (cI 1)),oM 38 98]
def Zn.l0:Code:=.seq Zn.r11 (.seq (.cond 39 (.skip) (.exit 2)) (.seq (.block 3 (.seq Zn.r12 (.seq Zn.r13 (.seq (.seq Zn.r14 (.cond 47 (.exit 3) (.skip))) (.seq (.seq (.draw Zn.r15 [(3,7)]) (.seq Zn.r16 (.cond 66 (.seq Zn.r17 (.ret)) (.skip)))) (.draw Zn.r18 [(4,10),(5,10),(4,15),(5,15),(10,15),(4,21),(5,21),(10,21),(15,21),(4,27),(5,27),(10,27),(15,27),(21,27)])))))) Zn.r19))
def Zn.r20:List Oper:=[oD 99 (.bin .add 31 (cI 1)),oM 31 99]
def Zn.l1:Code:=.seq Zn.r8 (.seq (.cond 32 (.skip) (.exit 0)) (.seq (.block 1 (.seq Zn.r9 (.seq Zn.r10 (.block 2 (.loop Zn.l0))))) Zn.r20))
def Zn.r21:List Oper:=[oM 100 7,oM 4 100,oM 5 (cI 0)]
def Zn.code:Code:=.seq Zn.r0 (.seq (.seq Zn.r1 (.seq Zn.r2 (.cond 18 (.seq Zn.r3 (.ret)) (.skip)))) (.seq (.seq Zn.r4 (.cond 28 (.seq Zn.r5 (.ret)) (.skip))) (.seq Zn.r6 (.seq (.seq Zn.r7 (.block 0 (.loop Zn.l1))) (.seq Zn.r21 (.ret))))))
def Zn:Func:=⟨101,[.t 4,.t 5],Zn.code⟩
/-! slices.Index[[]int,int] -/
def Z9.r0:List Oper:=[oM 4 (cI 0)]
def Z9.r1:List Oper:=[oM 6 0,oD 7 (.len 6),oM 8 (cI 0)]
def Z9.r2:List Oper:=[oD 9 (.bin .lss 8 7)]
def Z9.r3:List Oper:=[oM 10 8,oM 5 10]
def Z9.r4:List Oper:=[oM 11 1,oM 12 0,oM 13 5,oD 14 (.ixa 1 12 13),oD 15 (.ld false 1 14),oD 16 (.eq false .sc 11 15)]
def Z9.r5:List Oper:=[oM 17 5,oM 4 17]
def Z9.r6:List Oper:=[oD 18 (.bin .add 8 (cI 1)),oM 8 18]
def Z9.l0:Code:=.seq Z9.r2 (.seq (.cond 9 (.skip) (.exit 0)) (.seq (.block 1 (.seq Z9.r3 (.seq Z9.r4 (.cond 16 (.seq Z9.r5 (.ret)) (.skip))))) Z9.r6))
def Z9.r7:List Oper:=[oM 4 (cI (-1))]
def Z9.code:Code:=.seq Z9.r0 (.seq (.seq Z9.r1 (.block 0 (.loop Z9.l0))) (.seq Z9.r7 (.ret)))
def Z9:Func:=⟨19,[.t 4],Z9.code⟩
/-! muntin/seg.chains -/
def Zm.r0:List Oper:=[oM 4 (.c (.sn)),oM 5 (.c (.sn)),oM 6 (.c (.b false))]
def Zm.r1:List Oper:=[oD 15 (.bsl 1 1 [.n 0] [(0,1,.c (.n (-1)))]),oM 16 0,oD 17 (.len 16),oC 18 83 [15,17],oM 7 18]
def Zm.r2:List Oper:=[oM 19 1,oC 20 77 [19,.c (.n 2)],oM 8 20]
def Zm.r3:List Oper:=[oM 9 (.c (.sn))]
def Zm.r4:List Oper:=[oM 21 0,oD 22 (.len 21),oM 23 (cI 0)]
def Zm.r5:List Oper:=[oD 24 (.bin .lss 23 22)]
def Zm.r6:List Oper:=[oM 25 23,oM 10 25]
def Zm.r7:List Oper:=[oM 26 7,oM 27 10,oD 28 (.ixa 1 26 27),oD 29 (.ld false 1 28),oD 30 (.bin .geq 29 (cI 0))]
def Zm.r8:List Oper:=[oM 31 10,oM 11 31]
def Zm.r9:List Oper:=[oM 12 (cI 0)]
def Zm.r10:List Oper:=[oM 32 0,oM 33 11,oM 34 8,oD 35 (.ixa 8 32 33),oD 36 (.fa 0 35),oD 37 (.ixaa 1 4 36 34),oD 38 (.ld false 1 37),oD 39 (.bin .geq 38 (cI 0))]
def Zm.r12:List Oper:=[oM 42 12,oM 43 0,oD 44 (.len 43),oD 45 (.eq false .sc 42 44)]
def Zm.r13:List Oper:=[oM 4 (.c (.sn)),oM 5 (.c (.sn)),oM 6 (.c (.b false))]
def Zm.r14:List Oper:=[oM 46 0,oM 47 11,oM 48 8,oD 49 (.ixa 8 46 47),oD 50 (.fa 0 49),oD 51 (.ixaa 1 4 50 48),oD 52 (.ld false 1 51),oM 11 52]
def Zm.r11:List Oper:=[oM 40 12,oD 41 (.bin .add 40 (cI 1)),oM 12 41]
def Zm.l0:Code:=.seq (.seq Zm.r10 (.cond 39 (.skip) (.exit 2))) (.seq (.block 3 (.seq (.seq Zm.r12 (.cond 45 (.seq Zm.r13 (.ret)) (.skip))) Zm.r14)) Zm.r11)
def Zm.r15:List Oper:=[oM 13 (.c (.sn))]
def Zm.r16:List Oper:=[oM 53 11,oM 14 53]
def Zm.r17:List Oper:=[oM 54 14,oD 55 (.bin .geq 54 (cI 0))]
def Zm.r19:List Oper:=[oM 63 7,oM 64 14,oM 65 9,oD 66 (.len 65),oD 67 (.ixa 1 63 64),oN (.st 1 67 66)]
def Zm.r20:List Oper:=[oM 68 13,oM 69 14,oD 70 (.bsl 1 1 [.n 0] [(0,1,.t 69)]),oD 71 (.app 1 8 68 70),oM 13 71]
def Zm.r18:List Oper:=[oM 56 0,oM 57 14,oM 58 1,oD 59 (.ixa 8 56 57),oD 60 (.fa 0 59),oD 61 (.ixaa 1 4 60 58),oD 62 (.ld false 1 61),oM 14 62]
def Zm.l1:Code:=.seq (.seq Zm.r17 (.cond 55 (.skip) (.exit 4))) (.seq (.block 5 (.seq Zm.r19 Zm.r20)) Zm.r18)
def Zm.r21:List Oper:=[oM 72 9,oM 73 13,oD 74 (.bsl 1 1 [.sn] [(0,1,.t 73)]),oD 75 (.app 1 24 72 74),oM 9 75]
def Zm.r22:List Oper:=[oD 76 (.bin .add 23 (cI 1)),oM 23 76]
def Zm.l2:Code:=.seq Zm.r5 (.seq (.cond 24 (.skip) (.exit 0)) (.seq (.block 1 (.seq Zm.r6 (.seq (.seq Zm.r7 (.cond 30 (.exit 1) (.skip))) (.seq Zm.r8 (.seq (.seq Zm.r9 (.block 2 (.loop Zm.l0))) (.seq Zm.r15 (.seq (.seq Zm.r16 (.block 4 (.loop Zm.l1))) Zm.r21))))))) Zm.r22))
def Zm.r23:List Oper:=[oM 77 7,oM 78 9,oM 4 77,oM 5 78,oM 6 (.c (.b true))]
def Zm.code:Code:=.seq Zm.r0 (.seq Zm.r1 (.seq Zm.r2 (.seq Zm.r3 (.seq (.seq Zm.r4 (.block 0 (.loop Zm.l2))) (.seq Zm.r23 (.ret))))))
def Zm:Func:=⟨79,[.t 4,.t 5,.t 6],Zm.code⟩
/-! (muntin/seg.Chains).chain -/
def ZI.r0:List Oper:=[oD 3 (.box 0),oM 6 (.c (.sn))]
def ZI.r1:List Oper:=[oD 8 (.fa 3 3),oD 9 (.ld false 1 8),oM 7 9]
def ZI.r2:List Oper:=[oM 10 1]
def ZI.r3:List Oper:=[oD 11 (.fa 2 3),oD 12 (.ld false 1 11),oM 7 12]
def ZI.r4:List Oper:=[oM 13 2,oD 14 (.bin .lss 13 (cI 0)),oM 15 14,oF 16 15 (.mv 2),oF 17 15 (.mv 7),oF 18 15 (.len 17),oF 19 15 (.bin .geq 16 18),oD 20 (.pick 15 (.c (.b true)) 19)]
def ZI.r5:List Oper:=[oM 6 (.c (.sn))]
def ZI.r6:List Oper:=[oM 21 7,oM 22 2,oD 23 (.ixa 1 21 22),oD 24 (.ld false 1 23),oM 6 24]
def ZI.code:Code:=.seq ZI.r0 (.seq ZI.r1 (.seq (.seq ZI.r2 (.cond 10 ZI.r3 (.skip))) (.seq (.seq ZI.r4 (.cond 20 (.seq ZI.r5 (.ret)) (.skip))) (.seq ZI.r6 (.ret)))))
def ZI:Func:=⟨25,[.t 6],ZI.code⟩
/-! (muntin/seg.Chains).Meet$1 -/
def z6.r0:List Oper:=[oM 3 (.c (.b false))]
def z6.r1:List Oper:=[oD 4 (.ld false 1 1),oM 5 0,oC 6 118 [4,5],oM 3 6]
def z6.code:Code:=.seq z6.r0 (.seq z6.r1 (.ret))
def z6:Func:=⟨7,[.t 3],z6.code⟩
/-! slices.ContainsFunc[[]muntin/api.Point,muntin/api.Point] -/
def ZP.r0:List Oper:=[oM 4 (.c (.b false))]
def ZP.r1:List Oper:=[oM 5 0,oM 6 1,oC 7 151 [5,6],oD 8 (.bin .geq 7 (cI 0)),oM 4 8]
def ZP.code:Code:=.seq ZP.r0 (.seq ZP.r1 (.ret))
def ZP:Func:=⟨9,[.t 4],ZP.code⟩
/-! muntin/arcs.far -/
def ZaT.r0:List Oper:=[oD 1 (.box 0),oM 2 (.c (.b false))]
def ZaT.r1:List Oper:=[oD 3 (.fa 0 1),oD 4 (.ld false 1 3),oD 5 (.fa 1 1),oD 6 (.ld false 1 5),oD 7 (.mx [4,6]),oD 8 (.bin .gtr 7 (cI 1000000)),oM 9 8,oF 10 9 (.fa 0 1),oF 11 9 (.ld false 1 10),oF 12 9 (.fa 1 1),oF 13 9 (.ld false 1 12),oF 14 9 (.mn [11,13]),oF 15 9 (.bin .lss 14 (cI (-1000000))),oD 16 (.pick 9 (.c (.b true)) 15),oM 2 16]
def ZaT.code:Code:=.seq ZaT.r0 (.seq ZaT.r1 (.ret))
def ZaT:Func:=⟨17,[.t 2],ZaT.code⟩
/-! muntin/compass.Between -/
def Z8.r0:List Oper:=[oD 2 (.box 0),oD 3 (.box 1),oM 4 (cI 0),oM 5 (.c (.b false))]
def Z8.r1:List Oper:=[oD 7 (.fa 0 2),oD 8 (.ld false 1 7),oD 9 (.fa 0 3),oD 10 (.ld false 1 9),oD 11 (.eq false .sc 8 10),oD 12 (.fa 1 2),oD 13 (.ld false 1 12),oD 14 (.fa 1 3),oD 15 (.ld false 1 14),oD 16 (.eq false .sc 13 15),oD 17 (.eq false .bl 11 16),oM 6 17]
def Z8.r2:List Oper:=[oM 4 (cI 0),oM 5 (.c (.b false))]
def Z8.r3:List Oper:=[oD 19 (.fa 0 2),oD 20 (.ld false 1 19),oD 21 (.fa 0 3),oD 22 (.ld false 1 21),oD 23 (.bin .lss 20 22),oM 18 23]
def Z8.r4:List Oper:=[oM 4 (cI 0),oM 5 (.c (.b true))]
def Z8.r5:List Oper:=[oD 25 (.fa 0 2),oD 26 (.ld false 1 25),oD 27 (.fa 0 3),oD 28 (.ld false 1 27),oD 29 (.bin .gtr 26 28),oM 24 29]
def Z8.r6:List Oper:=[oM 4 (cI 2),oM 5 (.c (.b true))]
def Z8.r7:List Oper:=[oD 31 (.fa 1 2),oD 32 (.ld false 1 31),oD 33 (.fa 1 3),oD 34 (.ld false 1 33),oD 35 (.bin .lss 32 34),oM 30 35]
def Z8.r8:List Oper:=[oM 4 (cI 1),oM 5 (.c (.b true))]
def Z8.r9:List Oper:=[oM 4 (cI 3),oM 5 (.c (.b true))]
def Z8.code:Code:=.seq Z8.r0 (.seq (.block 0 (.seq Z8.r1 (.cond 6 (.seq Z8.r2 (.ret)) (.seq Z8.r3 (.cond 18 (.seq Z8.r4 (.ret)) (.seq Z8.r5 (.cond 24 (.seq Z8.r6 (.ret)) (.seq Z8.r7 (.cond 30 (.seq Z8.r8 (.ret)) (.skip)))))))))) (.seq Z8.r9 (.ret)))
def Z8:Func:=⟨36,[.t 4,.t 5],Z8.code⟩
/-! muntin/arcs.weight -/
def zI.r0:List Oper:=[oM 2 (cI 0)]
def zI.r1:List Oper:=[oM 3 0,oD 4 (.bin .geq 3 (cI 0))]
def zI.r2:List Oper:=[oM 2 (cI 1)]
def zI.r3:List Oper:=[oM 2 (cI 0)]
def zI.code:Code:=.seq zI.r0 (.seq (.seq zI.r1 (.cond 4 (.seq zI.r2 (.ret)) (.skip))) (.seq zI.r3 (.ret)))
def zI:Func:=⟨5,[.t 2],zI.code⟩
/-! slices.IndexFunc[[]muntin/api.Point,muntin/api.Point] -/
def Zk.r0:List Oper:=[oM 4 (cI 0)]
def Zk.r1:List Oper:=[oM 6 0,oD 7 (.len 6),oM 8 (cI 0)]
def Zk.r2:List Oper:=[oD 9 (.bin .lss 8 7)]
def Zk.r3:List Oper:=[oM 10 8,oM 5 10]
def Zk.r4:List Oper:=[oM 11 1,oM 12 0,oM 13 5,oD 14 (.ixa 2 12 13),oD 15 (.ld true 2 14),oD 16 (.call 11 [15])]
def Zk.r5:List Oper:=[oM 17 5,oM 4 17]
def Zk.r6:List Oper:=[oD 18 (.bin .add 8 (cI 1)),oM 8 18]
def Zk.l0:Code:=.seq Zk.r2 (.seq (.cond 9 (.skip) (.exit 0)) (.seq (.block 1 (.seq Zk.r3 (.seq Zk.r4 (.cond 16 (.seq Zk.r5 (.ret)) (.skip))))) Zk.r6))
def Zk.r7:List Oper:=[oM 4 (cI (-1))]
def Zk.code:Code:=.seq Zk.r0 (.seq (.seq Zk.r1 (.block 0 (.loop Zk.l0))) (.seq Zk.r7 (.ret)))
def Zk:Func:=⟨19,[.t 4],Zk.code⟩
/-! muntin/muntinlaw26.CheckApart -/
def Zz.r0:List Oper:=[oD 3 (.box 0),oD 4 (.box 1),oD 5 (.box 2),oM 6 (.c (.b false))]
def Zz.r1:List Oper:=[oM 7 (.c (.f 183 []))]
def Zz.r2:List Oper:=[oD 14 (.clo 184 [5]),oM 8 14]
def Zz.r3:List Oper:=[oM 15 7,oD 16 (.ld true 4 3),oD 17 (.call 15 [16]),oM 18 7,oD 19 (.ld true 4 4),oD 20 (.call 18 [19]),oD 9 (.alloc [.n 0,.n 0,.n 0,.n 0]),oD 10 (.alloc [.n 0,.n 0,.n 0,.n 0]),oN (.st 4 9 17),oN (.st 4 10 20)]
def Zz.r4:List Oper:=[oD 21 (.fa 0 9),oD 22 (.fa 0 21),oD 23 (.ld false 1 22),oD 24 (.fa 0 10),oD 25 (.fa 0 24),oD 26 (.ld false 1 25),oD 27 (.mx [23,26]),oD 28 (.fa 0 9),oD 29 (.fa 1 28),oD 30 (.ld false 1 29),oD 31 (.fa 0 10),oD 32 (.fa 1 31),oD 33 (.ld false 1 32),oD 34 (.mx [30,33]),oD 35 (.build [.n 0,.n 0] [(0,1,.t 27),(1,1,.t 34)]),oD 11 (.alloc [.n 0,.n 0]),oN (.st 2 11 35)]
def Zz.r5:List Oper:=[oD 36 (.fa 2 9),oD 37 (.fa 0 36),oD 38 (.ld false 1 37),oD 39 (.fa 2 10),oD 40 (.fa 0 39),oD 41 (.ld false 1 40),oD 42 (.mn [38,41]),oD 43 (.fa 2 9),oD 44 (.fa 1 43),oD 45 (.ld false 1 44),oD 46 (.fa 2 10),oD 47 (.fa 1 46),oD 48 (.ld false 1 47),oD 49 (.mn [45,48]),oD 50 (.build [.n 0,.n 0] [(0,1,.t 42),(1,1,.t 49)]),oD 12 (.alloc [.n 0,.n 0]),oN (.st 2 12 50)]
def Zz.r6:List Oper:=[oD 51 (.fa 0 11),oD 52 (.ld false 1 51),oD 53 (.fa 0 12),oD 54 (.ld false 1 53),oD 55 (.bin .gtr 52 54),oM 56 55,oF 57 56 (.fa 1 11),oF 58 56 (.ld false 1 57),oF 59 56 (.fa 1 12),oF 60 56 (.ld false 1 59),oF 61 56 (.bin .gtr 58 60),oD 62 (.pick 56 (.c (.b true)) 61),oM 13 62]
def Zz.r7:List Oper:=[oC 63 185 [],oM 64 63,oT 65 64 (.ld true 4 9),oT 66 64 (.ld true 4 10),oT 67 64 (.call (.c (.f 186 [])) [65,66]),oT 68 64 (.mv 13),oT 69 64 (.eq false .bl 67 68),oD 70 (.pick 64 69 (.c (.b false))),oM 71 70,oT 72 71 (.ld true 4 10),oT 73 71 (.ld true 4 9),oT 74 71 (.call (.c (.f 186 [])) [72,73]),oT 75 71 (.mv 13),oT 76 71 (.eq false .bl 74 75),oD 77 (.pick 71 76 (.c (.b false))),oM 78 77,oT 79 78 (.mv 8),oT 80 78 (.ld true 4 9),oT 81 78 (.call 79 [80]),oT 82 78 (.mv 8),oT 83 78 (.ld true 4 10),oT 84 78 (.call 82 [83]),oT 85 78 (.call (.c (.f 186 [])) [81,84]),oT 86 78 (.mv 13),oT 87 78 (.eq false .bl 85 86),oD 88 (.pick 78 87 (.c (.b false))),oM 89 88,oT 90 89 (.ld true 4 9),oT 91 89 (.ld true 4 9),oT 92 89 (.call (.c (.f 186 [])) [90,91]),oT 93 89 (.un .not 92),oD 94 (.pick 89 93 (.c (.b false))),oM 6 94]
def Zz.code:Code:=.seq Zz.r0 (.seq Zz.r1 (.seq Zz.r2 (.seq (.draw Zz.r3 [(1,4),(2,4),(1,6),(2,6),(4,6),(5,6),(1,7),(2,7),(4,7),(5,7),(6,7)]) (.seq Zz.r4 (.seq Zz.r5 (.seq Zz.r6 (.seq (.draw Zz.r7 [(2,3),(9,10),(17,20),(18,20),(27,28)]) (.ret))))))))
def Zz:Func:=⟨95,[.t 6],Zz.code⟩
/-! muntin/valid.Check -/
def ZQ.r0:List Oper:=[oM 2 (cI 0)]
def ZQ.r1:List Oper:=[oM 6 0,oC 7 66 [6],oM 3 7]
def ZQ.r2:List Oper:=[oM 8 3,oD 9 (.eq true .sc 8 (cI 0))]
def ZQ.r3:List Oper:=[oM 10 3,oM 2 10]
def ZQ.r4:List Oper:=[oM 11 0,oC 12 32 [11],oD 13 (.un .not 12)]
def ZQ.r5:List Oper:=[oM 2 (cI 13)]
def ZQ.r6:List Oper:=[oM 15 0,oC 16 201 [15],oM 14 16,oD 17 (.ext 14 0),oD 18 (.ext 14 1),oM 4 17,oM 5 18]
def ZQ.r7:List Oper:=[oM 19 5,oD 20 (.un .not 19),oM 21 20,oT 22 21 (.mv 0),oT 23 21 (.len 22),oT 24 21 (.bin .gtr 23 (cI 1)),oD 25 (.pick 21 24 (.c (.b false)))]
def ZQ.r8:List Oper:=[oM 2 (cI 10)]
def ZQ.r9:List Oper:=[oM 2 (cI 0)]
def ZQ.code:Code:=.seq ZQ.r0 (.seq (.seq ZQ.r1 (.seq ZQ.r2 (.cond 9 (.seq ZQ.r3 (.ret)) (.skip)))) (.seq (.seq ZQ.r4 (.cond 13 (.seq ZQ.r5 (.ret)) (.skip))) (.seq (.seq ZQ.r6 (.seq ZQ.r7 (.cond 25 (.seq ZQ.r8 (.ret)) (.skip)))) (.seq ZQ.r9 (.ret)))))
def ZQ:Func:=⟨26,[.t 2],ZQ.code⟩
/-! muntin/muntinlaw26.CheckApart$1 -/
def ZX.r0:List Oper:=[oD 1 (.box 0),oD 2 (.alloc [.n 0,.n 0,.n 0,.n 0])]
def ZX.r1:List Oper:=[oD 3 (.ixaa 1 4 1 (cI 0)),oD 4 (.ld false 1 3),oD 5 (.conv .i64 4),oD 6 (.ixaa 1 4 1 (cI 2)),oD 7 (.ld false 1 6),oD 8 (.conv .i64 7),oD 9 (.mn [5,8]),oD 10 (.ixaa 1 4 1 (cI 1)),oD 11 (.ld false 1 10),oD 12 (.conv .i64 11),oD 13 (.ixaa 1 4 1 (cI 3)),oD 14 (.ld false 1 13),oD 15 (.conv .i64 14),oD 16 (.mn [12,15]),oD 17 (.build [.n 0,.n 0] [(0,1,.t 9),(1,1,.t 16)]),oD 18 (.ixaa 1 4 1 (cI 0)),oD 19 (.ld false 1 18),oD 20 (.conv .i64 19),oD 21 (.ixaa 1 4 1 (cI 2)),oD 22 (.ld false 1 21),oD 23 (.conv .i64 22),oD 24 (.mx [20,23]),oD 25 (.ixaa 1 4 1 (cI 1)),oD 26 (.ld false 1 25),oD 27 (.conv .i64 26),oD 28 (.ixaa 1 4 1 (cI 3)),oD 29 (.ld false 1 28),oD 30 (.conv .i64 29),oD 31 (.mx [27,30]),oD 32 (.build [.n 0,.n 0] [(0,1,.t 24),(1,1,.t 31)]),oD 33 (.build [.n 0,.n 0,.n 0,.n 0] [(0,2,.t 17),(2,2,.t 32)]),oN (.st 4 2 33)]
def ZX.code:Code:=.seq ZX.r0 (.seq ZX.r1 (.ret))
def ZX:Func:=⟨34,[.cell 2 true 4],ZX.code⟩
/-! muntin/muntinlaw26.CheckApart$2 -/
def Zo.r0:List Oper:=[oD 2 (.box 0),oD 3 (.alloc [.n 0,.n 0,.n 0,.n 0])]
def Zo.r1:List Oper:=[oD 6 (.fa 0 2),oD 7 (.fa 2 2),oD 8 (.bsl 1 2 [.pn] [(0,1,.t 6),(1,1,.t 7)]),oD 9 (.len 8),oM 10 (cI 0)]
def Zo.r2:List Oper:=[oD 11 (.bin .lss 10 9)]
def Zo.r3:List Oper:=[oD 12 (.ixa 1 8 10),oD 13 (.ld false 1 12),oM 5 13]
def Zo.r4:List Oper:=[oM 14 5,oD 15 (.nilck 14),oD 16 (.fa 0 15),oD 17 (.ld false 1 16),oD 18 (.ixaa 1 2 1 (cI 0)),oD 19 (.ld false 1 18),oD 20 (.conv .i64 19),oD 21 (.bin .add 17 20),oD 22 (.nilck 14),oD 23 (.fa 0 22),oN (.st 1 23 21)]
def Zo.r5:List Oper:=[oM 24 5,oD 25 (.nilck 24),oD 26 (.fa 1 25),oD 27 (.ld false 1 26),oD 28 (.ixaa 1 2 1 (cI 1)),oD 29 (.ld false 1 28),oD 30 (.conv .i64 29),oD 31 (.bin .add 27 30),oD 32 (.nilck 24),oD 33 (.fa 1 32),oN (.st 1 33 31)]
def Zo.r6:List Oper:=[oD 34 (.bin .add 10 (cI 1)),oM 10 34]
def Zo.l0:Code:=.seq Zo.r2 (.seq (.cond 11 (.skip) (.exit 0)) (.seq (.block 1 (.seq Zo.r3 (.seq (.draw Zo.r4 [(3,5)]) (.draw Zo.r5 [(3,5)])))) Zo.r6))
def Zo.r7:List Oper:=[oD 35 (.ld true 4 2),oN (.st 4 3 35)]
def Zo.code:Code:=.seq Zo.r0 (.seq (.seq Zo.r1 (.block 0 (.loop Zo.l0))) (.seq Zo.r7 (.ret)))
def Zo:Func:=⟨36,[.cell 3 true 4],Zo.code⟩
/-! muntin/muntinlaw26.wakes -/
def za.r0:List Oper:=[oM 0 (.c (.b false))]
def za.r1:List Oper:=[oC 2 46 [.c (.n 2)],oM 1 2]
def za.r2:List Oper:=[oM 4 1,oC 5 53 [4,.c (.n 0),.c (.n 0),.c (.n 1),.c (.n 0)],oM 3 5,oD 6 (.ext 3 0),oD 7 (.ext 3 1),oM 1 6]
def za.r3:List Oper:=[oM 8 1,oD 9 (.build [.n 0,.n 0] []),oD 10 (.build [.n 0,.n 0] [(0,1,.c (.n 4))]),oD 11 (.bsl 2 2 [.n 0,.n 0] [(0,2,.t 9),(2,2,.t 10)]),oC 12 208 [8,11],oD 13 (.eq false .sc 12 (cI 0)),oM 14 13,oT 15 14 (.mv 1),oT 16 14 (.build [.n 0,.n 0] []),oT 17 14 (.build [.n 0,.n 0] [(1,1,.c (.n 4))]),oT 18 14 (.bsl 2 2 [.n 0,.n 0] [(0,2,.t 16),(2,2,.t 17)]),oT 19 14 (.call (.c (.f 208 [])) [15,18]),oT 20 14 (.eq false .sc 19 (cI 15)),oD 21 (.pick 14 20 (.c (.b false))),oM 22 21,oT 23 22 (.mv 1),oT 24 22 (.call (.c (.f 208 [])) [23,.c (.sn)]),oT 25 22 (.eq false .sc 24 (cI 2)),oD 26 (.pick 22 25 (.c (.b false))),oM 27 26,oT 28 27 (.build [.n 0,.n 0,.n 0,.n 0] []),oT 29 27 (.build [.n 0,.n 0] [(0,1,.c (.n 1))]),oT 30 27 (.build [.n 0,.n 0] [(0,1,.c (.n 1))]),oT 31 27 (.build [.n 0,.n 0,.n 0,.n 0] [(0,2,.t 29),(2,2,.t 30)]),oT 32 27 (.call (.c (.f 186 [])) [28,31]),oD 33 (.pick 27 32 (.c (.b false))),oM 0 33]
def za.code:Code:=.seq za.r0 (.seq za.r1 (.seq za.r2 (.seq za.r3 (.ret))))
def za:Func:=⟨34,[.t 0],za.code⟩
/-! muntin/check.Apart -/
def Za3.r0:List Oper:=[oD 2 (.box 0),oD 3 (.box 1),oM 4 (.c (.b false))]
def Za3.r1:List Oper:=[oD 5 (.fa 2 2),oD 6 (.fa 0 5),oD 7 (.ld false 1 6),oD 8 (.fa 0 3),oD 9 (.fa 0 8),oD 10 (.ld false 1 9),oD 11 (.bin .lss 7 10),oM 12 11,oF 13 12 (.fa 2 3),oF 14 12 (.fa 0 13),oF 15 12 (.ld false 1 14),oF 16 12 (.fa 0 2),oF 17 12 (.fa 0 16),oF 18 12 (.ld false 1 17),oF 19 12 (.bin .lss 15 18),oD 20 (.pick 12 (.c (.b true)) 19),oM 21 20,oF 22 21 (.fa 2 2),oF 23 21 (.fa 1 22),oF 24 21 (.ld false 1 23),oF 25 21 (.fa 0 3),oF 26 21 (.fa 1 25),oF 27 21 (.ld false 1 26),oF 28 21 (.bin .lss 24 27),oD 29 (.pick 21 (.c (.b true)) 28),oM 30 29,oF 31 30 (.fa 2 3),oF 32 30 (.fa 1 31),oF 33 30 (.ld false 1 32),oF 34 30 (.fa 0 2),oF 35 30 (.fa 1 34),oF 36 30 (.ld false 1 35),oF 37 30 (.bin .lss 33 36),oD 38 (.pick 30 (.c (.b true)) 37),oM 4 38]
def Za3.code:Code:=.seq Za3.r0 (.seq Za3.r1 (.ret))
def Za3:Func:=⟨39,[.t 4],Za3.code⟩
/-! muntin/sep.Lines -/
def zP.r0:List Oper:=[oM 2 (.c (.sn)),oM 3 (cI 0)]
def zP.r1:List Oper:=[oM 7 0,oC 8 120 [7],oM 6 8,oD 9 (.ext 6 0),oD 10 (.ext 6 1),oD 4 (.alloc [.sn,.sn,.sn,.sn]),oN (.st 4 4 9),oM 5 10]
def zP.r2:List Oper:=[oM 11 5,oD 12 (.eq true .sc 11 (cI 0))]
def zP.r3:List Oper:=[oM 13 5,oM 2 (.c (.sn)),oM 3 13]
def zP.r4:List Oper:=[oD 14 (.ld true 4 4),oC 15 209 [14],oM 2 15,oM 3 (cI 0)]
def zP.code:Code:=.seq zP.r0 (.seq zP.r1 (.seq (.seq zP.r2 (.cond 12 (.seq zP.r3 (.ret)) (.skip))) (.seq zP.r4 (.ret))))
def zP:Func:=⟨16,[.t 2,.t 3],zP.code⟩
/-! muntin/valid.outer -/
def Z4.r0:List Oper:=[oM 2 (cI 0),oM 3 (.c (.b false))]
def Z4.r1:List Oper:=[oM 10 0,oC 11 203 [10],oM 9 11,oD 12 (.ext 9 0),oD 13 (.ext 9 1),oM 4 12,oM 5 13]
def Z4.r2:List Oper:=[oM 6 (cI (-1))]
def Z4.r3:List Oper:=[oM 14 4,oD 15 (.len 14),oM 16 (cI 0)]
def Z4.r4:List Oper:=[oD 17 (.bin .lss 16 15)]
def Z4.r5:List Oper:=[oM 18 16,oD 19 (.ixa 1 14 16),oD 20 (.ld false 1 19),oM 7 18,oM 8 20]
def Z4.r6:List Oper:=[oM 21 0,oM 22 8,oC 23 204 [21,22],oC 24 219 [23]]
def Z4.r8:List Oper:=[oD 26 (.eq false .sc 24 (cI 4)),oM 25 26]
def Z4.r9:List Oper:=[oD 28 (.eq false .sc 24 (cI (-4))),oM 27 28]
def Z4.r10:List Oper:=[oM 29 6,oD 30 (.bin .geq 29 (cI 0))]
def Z4.r11:List Oper:=[oM 2 (cI 0),oM 3 (.c (.b false))]
def Z4.r12:List Oper:=[oM 31 7,oM 6 31]
def Z4.r7:List Oper:=[oM 2 (cI 0),oM 3 (.c (.b false))]
def Z4.r13:List Oper:=[oD 32 (.bin .add 16 (cI 1)),oM 16 32]
def Z4.l0:Code:=.seq Z4.r4 (.seq (.cond 17 (.skip) (.exit 0)) (.seq (.block 1 (.seq Z4.r5 (.seq Z4.r6 (.block 2 (.seq Z4.r8 (.cond 25 (.skip) (.seq Z4.r9 (.cond 27 (.seq (.seq Z4.r10 (.cond 30 (.seq Z4.r11 (.ret)) (.skip))) Z4.r12) (.seq Z4.r7 (.ret)))))))))) Z4.r13))
def Z4.r14:List Oper:=[oM 33 6,oM 34 6,oD 35 (.bin .geq 34 (cI 0)),oM 2 33,oM 3 35]
def Z4.code:Code:=.seq Z4.r0 (.seq Z4.r1 (.seq Z4.r2 (.seq (.seq Z4.r3 (.block 0 (.loop Z4.l0))) (.seq Z4.r14 (.ret)))))
def Z4:Func:=⟨36,[.t 2,.t 3],Z4.code⟩
/-! muntin/face.Faces -/
def Zj.r0:List Oper:=[oM 2 (.c (.sn)),oM 3 (cI 0)]
def Zj.r1:List Oper:=[oM 12 0,oC 13 66 [12],oM 4 13]
def Zj.r2:List Oper:=[oM 14 4,oD 15 (.eq true .sc 14 (cI 0))]
def Zj.r3:List Oper:=[oM 16 4,oM 2 (.c (.sn)),oM 3 16]
def Zj.r4:List Oper:=[oM 5 (.c (.sn))]
def Zj.r5:List Oper:=[oD 17 (.mkm),oM 6 17]
def Zj.r6:List Oper:=[oM 18 0,oD 19 (.len 18),oM 20 (cI 0)]
def Zj.r7:List Oper:=[oD 21 (.bin .lss 20 19)]
def Zj.r8:List Oper:=[oM 22 20,oM 7 22]
def Zj.r9:List Oper:=[oM 23 (cI 0)]
def Zj.r10:List Oper:=[oD 24 (.bin .lss 23 (cI 4))]
def Zj.r11:List Oper:=[oM 25 23,oM 8 25]
def Zj.r12:List Oper:=[oM 26 7,oM 27 8,oD 28 (.build [.n 0,.n 0] [(0,1,.t 26),(1,1,.t 27)]),oD 9 (.alloc [.n 0,.n 0]),oN (.st 2 9 28)]
def Zj.r13:List Oper:=[oD 29 (.ld true 2 9),oM 30 0,oC 31 220 [29,30],oD 32 (.un .not 31),oM 33 32,oF 34 33 (.mv 6),oF 35 33 (.ld true 2 9),oF 36 33 (.mlk [.i,.i] false (.b false) 34 35),oD 37 (.pick 33 (.c (.b true)) 36)]
def Zj.r14:List Oper:=[oM 10 (.c (.sn))]
def Zj.r15:List Oper:=[oD 38 (.ld true 2 9),oD 11 (.alloc [.n 0,.n 0]),oN (.st 2 11 38)]
def Zj.r16:List Oper:=[oM 39 6,oD 40 (.ld true 2 11),oD 41 (.mlk [.i,.i] false (.b false) 39 40),oD 42 (.un .not 41)]
def Zj.r18:List Oper:=[oM 46 6,oD 47 (.ld true 2 11),oN (.mup [.i,.i] 46 47 (.c (.b true)))]
def Zj.r19:List Oper:=[oM 48 10,oD 49 (.ld true 2 11),oD 50 (.bsl 2 1 [.n 0,.n 0] [(0,2,.t 49)]),oD 51 (.app 2 16 48 50),oM 10 51]
def Zj.r20:List Oper:=[oD 52 (.ld true 2 11)]
def Zj.r21:List Oper:=[oD 11 (.alloc [.n 0,.n 0]),oN (.st 2 11 52)]
def Zj.r17:List Oper:=[oD 43 (.ld true 2 11),oM 44 0,oC 45 221 [43,44],oN (.st 2 11 45)]
def Zj.l0:Code:=.seq (.seq Zj.r16 (.cond 42 (.skip) (.exit 4))) (.seq (.block 5 (.seq Zj.r18 Zj.r19)) (.seq (.seq Zj.r20 Zj.r21) Zj.r17))
def Zj.r22:List Oper:=[oM 53 5,oM 54 10,oD 55 (.bsl 1 1 [.sn] [(0,1,.t 54)]),oD 56 (.app 1 24 53 55),oM 5 56]
def Zj.r23:List Oper:=[oD 57 (.bin .add 23 (cI 1)),oM 23 57]
def Zj.l1:Code:=.seq Zj.r10 (.seq (.cond 24 (.skip) (.exit 2)) (.seq (.block 3 (.seq Zj.r11 (.seq Zj.r12 (.seq (.seq Zj.r13 (.cond 37 (.exit 3) (.skip))) (.seq Zj.r14 (.seq (.seq Zj.r15 (.block 4 (.loop Zj.l0))) Zj.r22)))))) Zj.r23))
def Zj.r24:List Oper:=[oD 58 (.bin .add 20 (cI 1)),oM 20 58]
def Zj.l2:Code:=.seq Zj.r7 (.seq (.cond 21 (.skip) (.exit 0)) (.seq (.block 1 (.seq Zj.r8 (.seq Zj.r9 (.block 2 (.loop Zj.l1))))) Zj.r24))
def Zj.r25:List Oper:=[oM 59 5,oM 2 59,oM 3 (cI 0)]
def Zj.code:Code:=.seq Zj.r0 (.seq (.seq Zj.r1 (.seq Zj.r2 (.cond 15 (.seq Zj.r3 (.ret)) (.skip)))) (.seq Zj.r4 (.seq Zj.r5 (.seq (.seq Zj.r6 (.block 0 (.loop Zj.l2))) (.seq Zj.r25 (.ret))))))
def Zj:Func:=⟨60,[.t 2,.t 3],Zj.code⟩
/-! muntin/face.Turns -/
def ZO.r0:List Oper:=[oM 4 (.c (.sn))]
def ZO.r1:List Oper:=[oM 8 1,oD 9 (.len 8),oD 10 (.mks 1 8 [.n 0] 9 9),oM 5 10]
def ZO.r2:List Oper:=[oM 11 0,oC 12 66 [11],oD 13 (.eq true .sc 12 (cI 0))]
def ZO.r3:List Oper:=[oM 14 5,oM 4 14]
def ZO.r4:List Oper:=[oM 15 1,oD 16 (.len 15),oM 17 (cI 0)]
def ZO.r5:List Oper:=[oD 18 (.bin .lss 17 16)]
def ZO.r6:List Oper:=[oM 19 17,oD 20 (.ixa 2 15 17),oD 21 (.ld true 2 20),oD 7 (.alloc [.n 0,.n 0]),oM 6 19,oN (.st 2 7 21)]
def ZO.r7:List Oper:=[oD 22 (.ld true 2 7),oM 23 0,oC 24 220 [22,23]]
def ZO.r8:List Oper:=[oM 25 5,oM 26 6,oD 27 (.fa 1 7),oD 28 (.ld false 1 27),oD 29 (.ld true 2 7),oM 30 0,oC 31 221 [29,30],oD 32 (.fld false 1 1 31),oC 33 222 [28,32],oD 34 (.ixa 1 25 26),oN (.st 1 34 33)]
def ZO.r9:List Oper:=[oD 35 (.bin .add 17 (cI 1)),oM 17 35]
def ZO.l0:Code:=.seq ZO.r5 (.seq (.cond 18 (.skip) (.exit 0)) (.seq (.block 1 (.seq ZO.r6 (.seq ZO.r7 (.cond 24 (.draw ZO.r8 [(3,4),(3,6)]) (.skip))))) ZO.r9))
def ZO.r10:List Oper:=[oM 36 5,oM 4 36]
def ZO.code:Code:=.seq ZO.r0 (.seq ZO.r1 (.seq (.seq ZO.r2 (.cond 13 (.seq ZO.r3 (.ret)) (.skip))) (.seq (.seq ZO.r4 (.block 0 (.loop ZO.l0))) (.seq ZO.r10 (.ret)))))
def ZO:Func:=⟨37,[.t 4],ZO.code⟩
/-! muntin/check.Real -/
def ZV.r0:List Oper:=[oM 4 (cI 0)]
def ZV.r1:List Oper:=[oM 8 0,oC 9 176 [8],oM 5 9]
def ZV.r2:List Oper:=[oM 10 5,oD 11 (.eq true .sc 10 (cI 0))]
def ZV.r3:List Oper:=[oM 12 5,oM 4 12]
def ZV.r4:List Oper:=[oM 14 0,oM 15 1,oC 16 133 [14,15],oM 13 16,oD 17 (.ext 13 0),oD 18 (.ext 13 1),oM 6 17,oM 7 18]
def ZV.r5:List Oper:=[oM 19 7,oD 20 (.eq true .sc 19 (cI 0))]
def ZV.r6:List Oper:=[oM 21 7,oM 4 21]
def ZV.r7:List Oper:=[oM 22 0,oM 23 1,oC 24 225 [22,23]]
def ZV.r8:List Oper:=[oM 4 (cI 14)]
def ZV.r9:List Oper:=[oM 4 (cI 0)]
def ZV.code:Code:=.seq ZV.r0 (.seq (.seq ZV.r1 (.seq ZV.r2 (.cond 11 (.seq ZV.r3 (.ret)) (.skip)))) (.seq (.seq ZV.r4 (.seq ZV.r5 (.cond 20 (.seq ZV.r6 (.ret)) (.skip)))) (.seq (.seq ZV.r7 (.cond 24 (.seq ZV.r8 (.ret)) (.skip))) (.seq ZV.r9 (.ret)))))
def ZV:Func:=⟨25,[.t 4],ZV.code⟩
/-! muntin/sep.lines -/
def ZB.r0:List Oper:=[oD 1 (.box 0),oM 2 (.c (.sn))]
def ZB.r1:List Oper:=[oM 3 (.c (.sn))]
def ZB.r2:List Oper:=[oD 8 (.fa 2 1),oD 9 (.ld false 1 8),oD 10 (.len 9),oM 11 (cI 0)]
def ZB.r3:List Oper:=[oD 12 (.bin .lss 11 10)]
def ZB.r4:List Oper:=[oM 13 11,oD 14 (.ixa 1 9 11),oD 15 (.ld false 1 14),oM 4 13,oM 5 15]
def ZB.r5:List Oper:=[oM 16 5,oD 17 (.len 16),oD 18 (.bin .gtr 17 (cI 1))]
def ZB.r6:List Oper:=[oM 19 3,oM 20 4,oD 21 (.build [.b false,.n 0] [(0,1,.c (.b true)),(1,1,.t 20)]),oD 22 (.bsl 2 1 [.b false,.n 0] [(0,2,.t 21)]),oD 23 (.app 2 16 19 22),oM 3 23]
def ZB.r7:List Oper:=[oD 24 (.bin .add 11 (cI 1)),oM 11 24]
def ZB.l0:Code:=.seq ZB.r3 (.seq (.cond 12 (.skip) (.exit 0)) (.seq (.block 1 (.seq ZB.r4 (.seq ZB.r5 (.cond 18 ZB.r6 (.skip))))) ZB.r7))
def ZB.r8:List Oper:=[oD 25 (.fa 3 1),oD 26 (.ld false 1 25),oD 27 (.len 26),oM 28 (cI 0)]
def ZB.r9:List Oper:=[oD 29 (.bin .lss 28 27)]
def ZB.r10:List Oper:=[oM 30 28,oD 31 (.ixa 1 26 28),oD 32 (.ld false 1 31),oM 6 30,oM 7 32]
def ZB.r11:List Oper:=[oM 33 7,oD 34 (.len 33),oD 35 (.bin .gtr 34 (cI 1))]
def ZB.r12:List Oper:=[oM 36 3,oM 37 6,oD 38 (.build [.b false,.n 0] [(0,1,.c (.b false)),(1,1,.t 37)]),oD 39 (.bsl 2 1 [.b false,.n 0] [(0,2,.t 38)]),oD 40 (.app 2 16 36 39),oM 3 40]
def ZB.r13:List Oper:=[oD 41 (.bin .add 28 (cI 1)),oM 28 41]
def ZB.l1:Code:=.seq ZB.r9 (.seq (.cond 29 (.skip) (.exit 2)) (.seq (.block 3 (.seq ZB.r10 (.seq ZB.r11 (.cond 35 ZB.r12 (.skip))))) ZB.r13))
def ZB.r14:List Oper:=[oM 42 3,oM 2 42]
def ZB.code:Code:=.seq ZB.r0 (.seq ZB.r1 (.seq (.seq ZB.r2 (.block 0 (.loop ZB.l0))) (.seq (.seq ZB.r8 (.block 2 (.loop ZB.l1))) (.seq ZB.r14 (.ret)))))
def ZB:Func:=⟨43,[.t 2],ZB.code⟩
/-! muntin/face.Rotation -/
def ZF.r0:List Oper:=[oM 2 (cI 0)]
def ZF.r1:List Oper:=[oM 3 (cI 0)]
def ZF.r2:List Oper:=[oM 6 0,oD 7 (.len 6),oM 8 (cI 0)]
def ZF.r3:List Oper:=[oD 9 (.bin .lss 8 7)]
def ZF.r4:List Oper:=[oD 10 (.ixa 1 6 8),oD 11 (.ld false 1 10),oM 5 11]
def ZF.r5:List Oper:=[oM 12 5,oD 13 (.bin .geq 12 (cI (-2))),oM 14 13,oT 15 14 (.mv 5),oT 16 14 (.bin .leq 15 (cI 1)),oD 17 (.pick 14 16 (.c (.b false)))]
def ZF.r6:List Oper:=[oM 18 3,oM 19 5,oD 20 (.bin .add 18 19),oM 3 20]
def ZF.r7:List Oper:=[oD 21 (.bin .add 8 (cI 1)),oM 8 21]
def ZF.l0:Code:=.seq ZF.r3 (.seq (.cond 9 (.skip) (.exit 0)) (.seq (.block 1 (.seq ZF.r4 (.seq ZF.r5 (.cond 17 ZF.r6 (.skip))))) ZF.r7))
def ZF.r8:List Oper:=[oM 22 3,oM 2 22]
def ZF.code:Code:=.seq ZF.r0 (.seq ZF.r1 (.seq (.seq ZF.r2 (.block 0 (.loop ZF.l0))) (.seq ZF.r8 (.ret))))
def ZF:Func:=⟨23,[.t 2],ZF.code⟩
/-! (muntin/face.Dart).is -/
def Zaq.r0:List Oper:=[oD 2 (.box 0),oM 4 (.c (.b false))]
def Zaq.r1:List Oper:=[oD 5 (.fa 0 2),oD 6 (.ld false 1 5),oD 7 (.bin .geq 6 (cI 0)),oM 8 7,oT 9 8 (.fa 0 2),oT 10 8 (.ld false 1 9),oT 11 8 (.mv 1),oT 12 8 (.len 11),oT 13 8 (.bin .lss 10 12),oD 14 (.pick 8 13 (.c (.b false))),oM 15 14,oT 16 15 (.fa 1 2),oT 17 15 (.ld false 1 16),oT 18 15 (.call (.c (.f 90 [])) [17]),oD 19 (.pick 15 18 (.c (.b false))),oM 20 19,oT 21 20 (.mv 1),oT 22 20 (.fa 0 2),oT 23 20 (.ld false 1 22),oT 24 20 (.fa 1 2),oT 25 20 (.ld false 1 24),oT 26 20 (.ixa 8 21 23),oT 27 20 (.fa 0 26),oT 28 20 (.ixaa 1 4 27 25),oT 29 20 (.ld false 1 28),oT 30 20 (.bin .geq 29 (cI 0)),oD 31 (.pick 20 30 (.c (.b false))),oM 4 31]
def Zaq.code:Code:=.seq Zaq.r0 (.seq (.draw Zaq.r1 [(18,20)]) (.ret))
def Zaq:Func:=⟨32,[.t 4],Zaq.code⟩
/-! (muntin/face.Dart).behind -/
def Z2.r0:List Oper:=[oD 2 (.box 0),oD 4 (.alloc [.n 0,.n 0])]
def Z2.r1:List Oper:=[oM 9 1,oD 10 (.fa 0 2),oD 11 (.ld false 1 10),oD 12 (.fa 1 2),oD 13 (.ld false 1 12),oD 14 (.ixa 8 9 11),oD 15 (.fa 0 14),oD 16 (.ixaa 1 4 15 13),oD 17 (.ld false 1 16),oM 5 17]
def Z2.r2:List Oper:=[oD 18 (.build [.n 0,.n 0,.n 0,.n 0] [(0,1,.c (.n 1)),(1,1,.c (.n 0)),(2,1,.c (.n (-1))),(3,1,.c (.n 2))]),oM 19 (cI 0)]
def Z2.r3:List Oper:=[oD 20 (.bin .lss 19 (cI 4))]
def Z2.r4:List Oper:=[oD 21 (.ix false 1 4 18 19),oM 7 21]
def Z2.r5:List Oper:=[oM 22 5,oD 23 (.fa 1 2),oD 24 (.ld false 1 23),oM 25 7,oC 26 77 [24,25],oD 27 (.build [.n 0,.n 0] [(0,1,.t 22),(1,1,.t 26)]),oD 8 (.alloc [.n 0,.n 0]),oN (.st 2 8 27)]
def Z2.r6:List Oper:=[oD 28 (.ld true 2 8),oM 29 1,oC 30 220 [28,29]]
def Z2.r7:List Oper:=[oD 31 (.ld true 2 8),oN (.st 2 4 31)]
def Z2.r8:List Oper:=[oD 32 (.bin .add 19 (cI 1)),oM 19 32]
def Z2.l0:Code:=.seq Z2.r3 (.seq (.cond 20 (.skip) (.exit 0)) (.seq (.block 1 (.seq Z2.r4 (.seq Z2.r5 (.seq Z2.r6 (.cond 30 (.seq Z2.r7 (.ret)) (.skip)))))) Z2.r8))
def Z2.r9:List Oper:=[oD 33 (.ld true 2 2),oN (.st 2 4 33)]
def Z2.code:Code:=.seq Z2.r0 (.seq (.draw Z2.r1 [(2,4)]) (.seq (.seq Z2.r2 (.block 0 (.loop Z2.l0))) (.seq Z2.r9 (.ret))))
def Z2:Func:=⟨34,[.cell 4 true 2],Z2.code⟩
/-! muntin/compass.Turn -/
def z9.r0:List Oper:=[oM 4 (cI 0)]
def z9.r1:List Oper:=[oM 5 0,oC 6 90 [5],oD 7 (.un .not 6),oM 8 7,oF 9 8 (.mv 1),oF 10 8 (.call (.c (.f 90 [])) [9]),oF 11 8 (.un .not 10),oD 12 (.pick 8 (.c (.b true)) 11)]
def z9.r2:List Oper:=[oM 4 (cI 0)]
def z9.r3:List Oper:=[oD 13 (.build [.n 0,.n 0,.n 0,.n 0] [(0,1,.c (.n 0)),(1,1,.c (.n 1)),(2,1,.c (.n (-2))),(3,1,.c (.n (-1)))]),oM 14 1,oM 15 0,oD 16 (.bin .sub 14 15),oD 17 (.bin .add 16 (cI 4)),oD 18 (.bin .rem 17 (cI 4)),oD 19 (.ix false 1 4 13 18),oM 4 19]
def z9.code:Code:=.seq z9.r0 (.seq (.seq z9.r1 (.cond 12 (.seq z9.r2 (.ret)) (.skip))) (.seq z9.r3 (.ret)))
def z9:Func:=⟨20,[.t 4],z9.code⟩
/-! muntin/check.crossed -/
def Zv.r0:List Oper:=[oM 4 (.c (.b false))]
def Zv.r1:List Oper:=[oM 15 0,oC 16 120 [15],oM 14 16,oD 17 (.ext 14 0),oD 18 (.ext 14 1),oD 5 (.alloc [.sn,.sn,.sn,.sn]),oN (.st 4 5 17),oM 6 18]
def Zv.r2:List Oper:=[oM 20 0,oC 21 187 [20],oM 19 21,oD 22 (.ext 19 0),oD 23 (.ext 19 1),oM 7 22,oM 8 23]
def Zv.r3:List Oper:=[oM 24 7,oD 25 (.len 24),oM 26 (cI 0)]
def Zv.r4:List Oper:=[oD 27 (.bin .lss 26 25)]
def Zv.r5:List Oper:=[oM 28 26,oD 29 (.ixa 2 24 26),oD 30 (.ld true 2 29),oD 10 (.alloc [.b false,.n 0]),oM 9 28,oN (.st 2 10 30)]
def Zv.r6:List Oper:=[oD 31 (.ld true 4 5),oD 32 (.ld true 2 10),oM 33 1,oC 34 231 [31,32,33],oD 11 (.alloc [.n 0,.n 0,.n 0,.n 0]),oN (.st 4 11 34)]
def Zv.r7:List Oper:=[oM 35 7,oM 36 9,oD 37 (.bin .add 36 (cI 1)),oD 38 (.slc 2 35 (some 37) none none),oD 39 (.len 38),oM 40 (cI 0)]
def Zv.r8:List Oper:=[oD 41 (.bin .lss 40 39)]
def Zv.r9:List Oper:=[oD 42 (.ixa 2 38 40),oD 43 (.ld true 2 42),oD 13 (.alloc [.b false,.n 0]),oN (.st 2 13 43)]
def Zv.r10:List Oper:=[oD 44 (.ld true 4 11),oD 45 (.ld true 4 5),oD 46 (.ld true 2 13),oM 47 1,oC 48 231 [45,46,47],oC 49 186 [44,48],oD 50 (.un .not 49),oM 51 50,oT 52 51 (.ld true 4 5),oT 53 51 (.fa 0 10),oT 54 51 (.ld false 1 53),oT 55 51 (.fa 1 10),oT 56 51 (.ld false 1 55),oT 57 51 (.fa 0 13),oT 58 51 (.ld false 1 57),oT 59 51 (.fa 1 13),oT 60 51 (.ld false 1 59),oT 61 51 (.call (.c (.f 123 [])) [52,54,56,58,60]),oT 62 51 (.un .not 61),oD 63 (.pick 51 62 (.c (.b false)))]
def Zv.r11:List Oper:=[oM 4 (.c (.b true))]
def Zv.r12:List Oper:=[oD 64 (.bin .add 40 (cI 1)),oM 40 64]
def Zv.l0:Code:=.seq Zv.r8 (.seq (.cond 41 (.skip) (.exit 2)) (.seq (.block 3 (.seq Zv.r9 (.seq (.draw Zv.r10 [(0,1),(0,2),(1,2),(0,4),(8,10),(8,12),(10,12),(8,14),(10,14),(12,14),(8,16),(10,16),(12,16),(14,16)]) (.cond 63 (.seq Zv.r11 (.ret)) (.skip))))) Zv.r12))
def Zv.r13:List Oper:=[oD 65 (.bin .add 26 (cI 1)),oM 26 65]
def Zv.l1:Code:=.seq Zv.r4 (.seq (.cond 27 (.skip) (.exit 0)) (.seq (.block 1 (.seq Zv.r5 (.seq Zv.r6 (.seq Zv.r7 (.block 2 (.loop Zv.l0)))))) Zv.r13))
def Zv.r14:List Oper:=[oM 4 (.c (.b false))]
def Zv.code:Code:=.seq Zv.r0 (.seq Zv.r1 (.seq Zv.r2 (.seq (.seq Zv.r3 (.block 0 (.loop Zv.l1))) (.seq Zv.r14 (.ret)))))
def Zv:Func:=⟨66,[.t 4],Zv.code⟩
/-! muntin/check.span -/
def zr.r0:List Oper:=[oD 3 (.box 0),oD 4 (.box 1),oD 6 (.alloc [.n 0,.n 0,.n 0,.n 0])]
def zr.r1:List Oper:=[oD 9 (.fa 3 3),oD 10 (.ld false 1 9),oM 7 10]
def zr.r2:List Oper:=[oD 11 (.fa 0 4),oD 12 (.ld false 1 11)]
def zr.r3:List Oper:=[oD 13 (.fa 2 3),oD 14 (.ld false 1 13),oM 7 14]
def zr.r4:List Oper:=[oM 15 7,oD 16 (.fa 1 4),oD 17 (.ld false 1 16),oD 18 (.ixa 1 15 17),oD 19 (.ld false 1 18),oM 8 19]
def zr.r5:List Oper:=[oM 20 2,oM 21 8,oD 22 (.ixa 1 21 (cI 0)),oD 23 (.ld false 1 22),oD 24 (.ixa 2 20 23),oD 25 (.ld true 2 24),oM 26 2,oM 27 8,oM 28 8,oD 29 (.len 28),oD 30 (.bin .sub 29 (cI 1)),oD 31 (.ixa 1 27 30),oD 32 (.ld false 1 31),oD 33 (.ixa 2 26 32),oD 34 (.ld true 2 33),oD 35 (.build [.n 0,.n 0,.n 0,.n 0] [(0,2,.t 25),(2,2,.t 34)]),oN (.st 4 6 35)]
def zr.code:Code:=.seq zr.r0 (.seq zr.r1 (.seq (.seq zr.r2 (.cond 12 zr.r3 (.skip))) (.seq zr.r4 (.seq (.draw zr.r5 [(3,12),(5,12),(3,14),(5,14)]) (.ret)))))
def zr:Func:=⟨36,[.cell 6 true 4],zr.code⟩
def G:Prog:=fun i=>match i with
  | 29=>some Zs
  | 32=>some Zar
  | 46=>some Z1
  | 53=>some ZH
  | 65=>some Zp
  | 66=>some Z6
  | 67=>some Zy
  | 77=>some z8
  | 78=>some zd
  | 82=>some ZU
  | 83=>some Zw
  | 89=>some Zai
  | 90=>some Zap
  | 91=>some Z0
  | 97=>some Zao
  | 98=>some ZN
  | 118=>some zn
  | 120=>some zO
  | 123=>some zt
  | 133=>some Zn
  | 136=>some Z9
  | 137=>some Zm
  | 140=>some ZI
  | 141=>some z6
  | 146=>some ZP
  | 147=>some ZaT
  | 148=>some Z8
  | 149=>some zI
  | 151=>some Zk
  | 161=>some Zz
  | 176=>some ZQ
  | 183=>some ZX
  | 184=>some Zo
  | 185=>some za
  | 186=>some Za3
  | 187=>some zP
  | 201=>some Z4
  | 203=>some Zj
  | 204=>some ZO
  | 208=>some ZV
  | 209=>some ZB
  | 219=>some ZF
  | 220=>some Zaq
  | 221=>some Z2
  | 222=>some z9
  | 225=>some Zv
  | 231=>some zr
  | _=>none
theorem ZcT:G 29=some Zs:=rfl
theorem ZcU:G 32=some Zar:=rfl
theorem ZbW:G 46=some Z1:=rfl
theorem ZbJ:G 53=some ZH:=rfl
theorem ZbK:G 65=some Zp:=rfl
theorem ZcS:G 66=some Z6:=rfl
theorem ZcG:G 67=some Zy:=rfl
theorem Zcw:G 77=some z8:=rfl
theorem ZaZ:G 78=some zd:=rfl
theorem Zdk:G 82=some ZU:=rfl
theorem ZbE:G 83=some Zw:=rfl
theorem Zdz:G 89=some Zai:=rfl
theorem Zcv:G 90=some Zap:=rfl
theorem Zbn:G 91=some Z0:=rfl
theorem Zec:G 97=some Zao:=rfl
theorem ZcN:G 98=some ZN:=rfl
theorem Zby:G 118=some zn:=rfl
theorem Zed:G 120=some zO:=rfl
theorem ZbX:G 123=some zt:=rfl
theorem ZcD:G 133=some Zn:=rfl
theorem ZbM:G 136=some Z9:=rfl
theorem ZcV:G 137=some Zm:=rfl
theorem ZbL:G 140=some ZI:=rfl
theorem ZbD:G 141=some z6:=rfl
theorem ZaJ:G 146=some ZP:=rfl
theorem Zdy:G 147=some ZaT:=rfl
theorem ZbV:G 148=some Z8:=rfl
theorem ZcE:G 149=some zI:=rfl
theorem ZaQ:G 151=some Zk:=rfl
theorem Zba:G 161=some Zz:=rfl
theorem ZcH:G 176=some ZQ:=rfl
theorem ZaW:G 183=some ZX:=rfl
theorem ZaX:G 184=some Zo:=rfl
theorem ZbC:G 185=some za:=rfl
theorem ZcF:G 186=some Za3:=rfl
theorem Zdl:G 187=some zP:=rfl
theorem ZcI:G 201=some Z4:=rfl
theorem ZcQ:G 203=some Zj:=rfl
theorem ZcR:G 204=some ZO:=rfl
theorem ZcO:G 208=some ZV:=rfl
theorem Zdm:G 209=some ZB:=rfl
theorem Zcp:G 219=some ZF:=rfl
theorem Zcy:G 220=some Zaq:=rfl
theorem ZbI:G 221=some Z2:=rfl
theorem Zcx:G 222=some z9:=rfl
theorem Zco:G 225=some Zv:=rfl
theorem ZcP:G 231=some zr:=rfl
end Mu
