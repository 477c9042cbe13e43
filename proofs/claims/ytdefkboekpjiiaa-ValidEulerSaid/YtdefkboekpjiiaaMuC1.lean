/- The code comes to what was worked out. -/
import Derived.Test.YtdefkboekpjiiaaMuDf
import Derived.Test.YtdefkboekpjiiaaMuPa
import Derived.Test.YtdefkboekpjiiaaMuC0
set_option linter.unusedVariables false
set_option linter.unnecessarySimpa false
set_option linter.unusedSimpArgs false
set_option maxHeartbeats 2000000
set_option maxRecDepth 10000
namespace Mu
open Go (IntKind BinOp UnOp)
theorem zl.ok {h:Hp} {s:zk} {v_s_Boxes:V} {v_s_Edges:V} (s_s_Boxes:Sl e_bool h v_s_Boxes s.Boxes) (s_s_Edges:Sl Zr h v_s_Edges s.Edges) {r:Int} (hp:zl s = some r) :
  ∃ u k',Is G 197 [.ag [v_s_Boxes,v_s_Edges]] h u k'∧V.n r = u∧Own (fun r=>r < h.n) h k' []:=by
 refine WC.is (ZaM ZbZ ?_)
 unfold zl at hp
 let B:Nat→Prop:=(fun r=>r < h.n)
 have hO:Own B h h []:=Own.start0 h
 refine Zk (Zo (zy (hO.boxd (v:=.ag [v_s_Boxes,v_s_Edges]) (cs:=[v_s_Boxes,v_s_Edges]) hO.fr rfl rfl) ?_))
 rintro _ k'1 ⟨r'1,rfl,n'1,f'1,hW⟩
 have hO'1:=hW
 refine Zd (.n 0) rfl (Zb (Za (Zk (Zo (Zd (.n 0) rfl (Zb (Za ?_)))))))
 refine Zk (Zk (Zo (Zd (.n 0) rfl (Zb (Za (Zaa ?_))))))
 obtain ⟨o'1,ho'1,hp⟩:=Zt hp
 refine W.mono (Q:=fun e fr k=>match (generalizing:=false) o'1 with
   | n1=>e = (.exit 0)∧fr 1 = .p r'1 0∧fr 3 = .n n1∧Own B h k [zQ r'1 [v_s_Boxes,v_s_Edges]]) ?_ ?_
 ·clear hp
  refine z9 (fun st fr k=>match st with | (n,i)=>fr 1 = .p r'1 0∧fr 3 = .n n∧fr 4 = .n i∧Own B h k [zQ r'1 [v_s_Boxes,v_s_Edges]]) ho'1 (s:=(0,0)) ⟨rfl,rfl,rfl,(hO'1.pick [0] rfl (by decide))⟩ ?_
  rintro ⟨n,i⟩ q'2 k'3 ⟨q'2_1,q'2_3,q'2_4,hO'3⟩ o'2 hp
  dsimp only [zl.s0] at hp
  refine Zk (Zk (Zo (Zd (.n i) q'2_4 (Ze (z6 (r:=r'1) (o:=0) (o':=1) q'2_1 rfl) (Ze (zi (cs:=[v_s_Boxes,v_s_Edges]) (v:=v_s_Edges) (hO'3.box 0 rfl) rfl rfl) (Ze (Zah (hO'3.rd0 s_s_Edges.rd) rfl) (Ze (zG (a:=i) (b:=(s.Edges.length:Int)) rfl rfl) ?_)))))))
  refine Zb (Za ?_)
  rcases Z2 hp with ⟨b'1,hp⟩ | ⟨b'1,hp⟩
  ·refine zO (t:=(decide (i < (s.Edges.length:Int)))) rfl b'1 ?_
   refine zU (Za (Zk (Zaa (Zo (Zd (.n n) q'2_3 (Ze (z6 (r:=r'1) (o:=0) (o':=1) q'2_1 rfl) (Ze (zi (cs:=[v_s_Boxes,v_s_Edges]) (v:=v_s_Edges) (hO'3.box 0 rfl) rfl rfl) ?_)))))))
   refine Zd (.n i) q'2_4 ?_
   obtain ⟨c'1,hp⟩:=Zj hp
   refine Ze (zz (E:=Zr) (z:=i) (hO'3.rd0 s_s_Edges.rd) rfl rfl c'1) (Ze (ZaE (off':=0) (off2:=3) (hO'3.rd0 s_s_Edges.rd) (Zp c'1) rfl rfl) (Ze (zS (w:=.s ((gi s.Edges i.toNat).Bends)) (hO'3.rd0 s_s_Edges.rd) rfl (Zp c'1) rfl) (Ze (ZeM (a:=((gi s.Edges i.toNat).Bends)) rfl) ?_)))
   obtain ⟨c'2,hp⟩:=Zj hp
   refine Ze (zp (a:=n) (b:=(((gi s.Edges i.toNat).Bends).size:Int)) rfl rfl c'2) (Zd (.n (n + (((gi s.Edges i.toNat).Bends).size:Int))) rfl (Zb (Zac (Za (Zo (Zd (.n i) q'2_4 ?_))))))
   obtain ⟨c'3,hp⟩:=Zj hp
   refine Ze (zp (a:=i) (b:=1) rfl rfl c'3) (Zd (.n (i + 1)) rfl (Zb ?_))
   cases hp
   exact (Or.inl ⟨(n + (((gi s.Edges i.toNat).Bends).size:Int),i + 1),rfl,rfl,q'2_1,rfl,rfl,(hO'3.pick [0] rfl (by decide))⟩)
  ·refine zN (t:=(decide (i < (s.Edges.length:Int)))) rfl b'1 ?_
   refine ZaT (zR ?_)
   cases hp
   refine (Or.inr ⟨n,rfl,(fun h=>nomatch h),(fun he=>?_)⟩)
   subst he; exact ⟨rfl,q'2_1,q'2_3,(hO'3.pick [0] rfl (by decide))⟩
 intro e'1 q'1 k'2 hJ'1
 obtain ⟨n1,rfl⟩:∃ x,x = o'1:=⟨_,rfl⟩
 obtain ⟨rfl,q'1_1,q'1_3,hO'2⟩:=hJ'1
 refine Zaq (Za (Zk (Zk (Zo (Ze (z6 (r:=r'1) (o:=0) (o':=0) q'1_1 rfl) (Ze (zi (cs:=[v_s_Boxes,v_s_Edges]) (v:=v_s_Boxes) (hO'2.box 0 rfl) rfl rfl) (Ze (Zah (hO'2.rd0 s_s_Boxes.rd) rfl) ?_)))))))
 refine Ze (ZcD (a:=(s.Boxes.length:Int)) (b:=4096) rfl rfl) (Zd (.b (decide (4096 < (s.Boxes.length:Int)))) rfl ?_)
 refine Zad 5 (fun fr' k'=>k'2 = k'∧fr' 33 = .b ((decide (4096 < (s.Boxes.length:Int))) || (decide (4096 < (s.Edges.length:Int))))∧fr' 1 = .p r'1 0∧fr' 3 = .n n1) ?_ ?_
 ·rcases bc (decide (4096 < (s.Boxes.length:Int))) with b'2 | b'2
  ·skip
   refine Z4 rfl b'2 (Z4 rfl b'2 (Z4 rfl b'2 (Z4 rfl b'2 (Ze (zg (t:=(decide (4096 < (s.Boxes.length:Int)))) (v:=.b ((decide (4096 < (s.Boxes.length:Int))) || (decide (4096 < (s.Edges.length:Int))))) rfl b'2 (Eq.trans (b:=V.b true) rfl (Zbg b'2))) (Zb ?_)))))
   exact ⟨rfl,rfl,q'1_1,q'1_3⟩
  ·skip
   refine ZB rfl b'2 (Ze (z6 (r:=r'1) (o:=0) (o':=1) q'1_1 rfl) (ZB rfl b'2 (Ze (zi (cs:=[v_s_Boxes,v_s_Edges]) (v:=v_s_Edges) (hO'2.box 0 rfl) rfl rfl) (ZB rfl b'2 (Ze (Zah (hO'2.rd0 s_s_Edges.rd) rfl) (ZB rfl b'2 (Ze (ZcD (a:=(s.Edges.length:Int)) (b:=4096) rfl rfl) ?_)))))))
   refine Ze (zc (t:=(decide (4096 < (s.Boxes.length:Int)))) (v:=.b ((decide (4096 < (s.Boxes.length:Int))) || (decide (4096 < (s.Edges.length:Int))))) rfl b'2 (Eq.trans (b:=V.b (decide (4096 < (s.Edges.length:Int)))) rfl (Zb7 b'2))) (Zb ?_)
   exact ⟨rfl,rfl,q'1_1,q'1_3⟩
 rintro frg'1 _ ⟨rfl,g'1_33,g'1_1,g'1_3⟩
 refine Zd (.b ((decide (4096 < (s.Boxes.length:Int))) || (decide (4096 < (s.Edges.length:Int))))) g'1_33 ?_
 refine Zad 3 (fun fr' k'=>k'2 = k'∧fr' 37 = .b (((decide (4096 < (s.Boxes.length:Int))) || (decide (4096 < (s.Edges.length:Int)))) || (decide (4096 < n1)))∧fr' 1 = .p r'1 0) ?_ ?_
 ·rcases bc ((decide (4096 < (s.Boxes.length:Int))) || (decide (4096 < (s.Edges.length:Int)))) with b'3 | b'3
  ·skip
   refine Z4 rfl b'3 (Z4 rfl b'3 (Ze (zg (t:=((decide (4096 < (s.Boxes.length:Int))) || (decide (4096 < (s.Edges.length:Int))))) (v:=.b (((decide (4096 < (s.Boxes.length:Int))) || (decide (4096 < (s.Edges.length:Int)))) || (decide (4096 < n1)))) rfl b'3 (Eq.trans (b:=V.b true) rfl (Zbg b'3))) (Zb ?_)))
   exact ⟨rfl,rfl,g'1_1⟩
  ·skip
   refine ZB rfl b'3 (Zd (.n n1) g'1_3 (ZB rfl b'3 (Ze (ZcD (a:=n1) (b:=4096) rfl rfl) (Ze (zc (t:=((decide (4096 < (s.Boxes.length:Int))) || (decide (4096 < (s.Edges.length:Int))))) (v:=.b (((decide (4096 < (s.Boxes.length:Int))) || (decide (4096 < (s.Edges.length:Int)))) || (decide (4096 < n1)))) rfl b'3 (Eq.trans (b:=V.b (decide (4096 < n1))) rfl (Zb7 b'3))) (Zb ?_)))))
   exact ⟨rfl,rfl,g'1_1⟩
 rintro frg'2 _ ⟨rfl,g'2_37,g'2_1⟩
 refine Zb (Za ?_)
 rcases Z2 hp with ⟨b'4,hp⟩ | ⟨b'4,hp⟩
 ·refine zO (t:=(((decide (4096 < (s.Boxes.length:Int))) || (decide (4096 < (s.Edges.length:Int)))) || (decide (4096 < n1)))) g'2_37 b'4 ?_
  refine Zk (Zo (Zd (.n 6) rfl (Zb (Za (Za2 (Zaf (zW (Zax (n:=2) (v:=.n 6) rfl zx) ?_)))))))
  cases hp
  exact ⟨rfl,(hO'2.pick [] rfl (by decide))⟩
 ·refine zN (t:=(((decide (4096 < (s.Boxes.length:Int))) || (decide (4096 < (s.Edges.length:Int)))) || (decide (4096 < n1)))) g'2_37 b'4 ?_
  refine zU (Za (Zk (Zk (Zo (Zd (.n 0) rfl (Zb (Za ?_)))))))
  refine Zaa ?_
  obtain ⟨o'3,ho'2,hp⟩:=Zt hp
  refine W.mono (Q:=fun e fr k=>match (generalizing:=false) o'3 with
    | .inl _=>e = (.exit 2)∧Own B h k []
    | .inr x=>e = .ret∧fr 2 = .n x∧Own B h k []) ?_ ?_
  ·clear hp
   refine z9 (fun st fr k=>match st with | i1=>fr 1 = .p r'1 0∧fr 5 = .n i1∧Own B h k [zQ r'1 [v_s_Boxes,v_s_Edges]]) ho'2 (s:=0) ⟨g'2_1,rfl,(hO'2.pick [0] rfl (by decide))⟩ ?_
   rintro i1 q'4 k'5 ⟨q'4_1,q'4_5,hO'5⟩ o'4 hp
   dsimp only [zl.s1] at hp
   refine Zk (Zk (Zo (Zd (.n i1) q'4_5 (Ze (z6 (r:=r'1) (o:=0) (o':=1) q'4_1 rfl) (Ze (zi (cs:=[v_s_Boxes,v_s_Edges]) (v:=v_s_Edges) (hO'5.box 0 rfl) rfl rfl) (Ze (Zah (hO'5.rd0 s_s_Edges.rd) rfl) (Ze (zG (a:=i1) (b:=(s.Edges.length:Int)) rfl rfl) ?_)))))))
   refine Zb (Za ?_)
   rcases Z2 hp with ⟨b'5,hp⟩ | ⟨b'5,hp⟩
   ·refine zO (t:=(decide (i1 < (s.Edges.length:Int)))) rfl b'5 ?_
    refine zU (Za (Zk (Zaa (Zk (Zo (Ze (z6 (r:=r'1) (o:=0) (o':=1) q'4_1 rfl) (Ze (zi (cs:=[v_s_Boxes,v_s_Edges]) (v:=v_s_Edges) (hO'5.box 0 rfl) rfl rfl) ?_)))))))
    refine Zd (.n i1) q'4_5 ?_
    obtain ⟨c'4,hp⟩:=Zj hp
    refine Ze (zz (E:=Zr) (z:=i1) (hO'5.rd0 s_s_Edges.rd) rfl rfl c'4) (Ze (ZdX (E:=Zr) (hO'5.rd0 s_s_Edges.rd) rfl (Zp c'4)) (zy (hO'5.alloc (cs:=Zr.c (⟨0,0,0,(⟨#[]⟩:ByteArray)⟩:z8)) hO'5.fr) ?_))
    rintro _ k'6 ⟨r'2,rfl,n'2,f'2,hW⟩
    have hO'6:=hW
    refine zy (hO'6.stb (ws:=Zr.c (gi s.Edges i1.toNat)) (cs':=Zr.c (gi s.Edges i1.toNat)) (v:=.ag (Zr.c (gi s.Edges i1.toNat))) 1 rfl rfl rfl rfl ⟨rfl,Nat.le_of_ble_eq_true rfl,rfl⟩ rfl) ?_
    rintro _ k'7 ⟨rfl,f'3,m'1,hW⟩
    have hO'7:=hW
    refine Zb (Za (Zk (Zk (Zo (Ze (z6 (r:=r'2) (o:=0) (o':=0) rfl rfl) (Ze (zi (cs:=(Zr.c (gi s.Edges i1.toNat))) (v:=.n ((gi s.Edges i1.toNat).From)) (hO'7.box 1 rfl) rfl rfl) (Ze (zG (a:=((gi s.Edges i1.toNat).From)) (b:=0) rfl rfl) ?_)))))))
    refine Zd (.b (decide (((gi s.Edges i1.toNat).From) < 0))) rfl ?_
    refine Zad 7 (fun fr' k'=>k'7 = k'∧fr' 60 = .b ((decide (((gi s.Edges i1.toNat).From) < 0)) || (decide ((s.Boxes.length:Int)≤((gi s.Edges i1.toNat).From))))∧fr' 1 = .p r'1 0∧fr' 5 = .n i1∧fr' 6 = .p r'2 0) ?_ ?_
    ·rcases bc (decide (((gi s.Edges i1.toNat).From) < 0)) with b'6 | b'6
     ·skip
      refine Z4 rfl b'6 (Z4 rfl b'6 (Z4 rfl b'6 (Z4 rfl b'6 (Z4 rfl b'6 (Z4 rfl b'6 (Ze (zg (t:=(decide (((gi s.Edges i1.toNat).From) < 0))) (v:=.b ((decide (((gi s.Edges i1.toNat).From) < 0)) || (decide ((s.Boxes.length:Int)≤((gi s.Edges i1.toNat).From))))) rfl b'6 (Eq.trans (b:=V.b true) rfl (Zbg b'6))) (Zb ?_)))))))
      exact ⟨rfl,rfl,q'4_1,q'4_5,rfl⟩
     ·skip
      refine ZB rfl b'6 (Ze (z6 (r:=r'2) (o:=0) (o':=0) rfl rfl) (ZB rfl b'6 (Ze (zi (cs:=(Zr.c (gi s.Edges i1.toNat))) (v:=.n ((gi s.Edges i1.toNat).From)) (hO'7.box 1 rfl) rfl rfl) (ZB rfl b'6 (Ze (z6 (r:=r'1) (o:=0) (o':=0) q'4_1 rfl) (ZB rfl b'6 (Ze (zi (cs:=[v_s_Boxes,v_s_Edges]) (v:=v_s_Boxes) (hO'7.box 0 rfl) rfl rfl) ?_)))))))
      refine ZB rfl b'6 (Ze (Zah (hO'7.rd0 s_s_Boxes.rd) rfl) (ZB rfl b'6 (Ze (ZcC (a:=((gi s.Edges i1.toNat).From)) (b:=(s.Boxes.length:Int)) rfl rfl) (Ze (zc (t:=(decide (((gi s.Edges i1.toNat).From) < 0))) (v:=.b ((decide (((gi s.Edges i1.toNat).From) < 0)) || (decide ((s.Boxes.length:Int)≤((gi s.Edges i1.toNat).From))))) rfl b'6 (Eq.trans (b:=V.b (decide ((s.Boxes.length:Int)≤((gi s.Edges i1.toNat).From)))) rfl (Zb7 b'6))) (Zb ?_)))))
      exact ⟨rfl,rfl,q'4_1,q'4_5,rfl⟩
    rintro frg'3 _ ⟨rfl,g'3_60,g'3_1,g'3_5,g'3_6⟩
    refine Zd (.b ((decide (((gi s.Edges i1.toNat).From) < 0)) || (decide ((s.Boxes.length:Int)≤((gi s.Edges i1.toNat).From))))) g'3_60 ?_
    refine Zad 4 (fun fr' k'=>k'7 = k'∧fr' 65 = .b (((decide (((gi s.Edges i1.toNat).From) < 0)) || (decide ((s.Boxes.length:Int)≤((gi s.Edges i1.toNat).From)))) || (decide (((gi s.Edges i1.toNat).To) < 0)))∧fr' 1 = .p r'1 0∧fr' 5 = .n i1∧fr' 6 = .p r'2 0) ?_ ?_
    ·rcases bc ((decide (((gi s.Edges i1.toNat).From) < 0)) || (decide ((s.Boxes.length:Int)≤((gi s.Edges i1.toNat).From)))) with b'7 | b'7
     ·skip
      refine Z4 rfl b'7 (Z4 rfl b'7 (Z4 rfl b'7 (Ze (zg (t:=((decide (((gi s.Edges i1.toNat).From) < 0)) || (decide ((s.Boxes.length:Int)≤((gi s.Edges i1.toNat).From))))) (v:=.b (((decide (((gi s.Edges i1.toNat).From) < 0)) || (decide ((s.Boxes.length:Int)≤((gi s.Edges i1.toNat).From)))) || (decide (((gi s.Edges i1.toNat).To) < 0)))) rfl b'7 (Eq.trans (b:=V.b true) rfl (Zbg b'7))) (Zb ?_))))
      exact ⟨rfl,rfl,g'3_1,g'3_5,g'3_6⟩
     ·skip
      refine ZB rfl b'7 (Ze (z6 (r:=r'2) (o:=0) (o':=1) g'3_6 rfl) (ZB rfl b'7 (Ze (zi (cs:=(Zr.c (gi s.Edges i1.toNat))) (v:=.n ((gi s.Edges i1.toNat).To)) (hO'7.box 1 rfl) rfl rfl) (ZB rfl b'7 (Ze (zG (a:=((gi s.Edges i1.toNat).To)) (b:=0) rfl rfl) (Ze (zc (t:=((decide (((gi s.Edges i1.toNat).From) < 0)) || (decide ((s.Boxes.length:Int)≤((gi s.Edges i1.toNat).From))))) (v:=.b (((decide (((gi s.Edges i1.toNat).From) < 0)) || (decide ((s.Boxes.length:Int)≤((gi s.Edges i1.toNat).From)))) || (decide (((gi s.Edges i1.toNat).To) < 0)))) rfl b'7 (Eq.trans (b:=V.b (decide (((gi s.Edges i1.toNat).To) < 0))) rfl (Zb7 b'7))) (Zb ?_)))))))
      exact ⟨rfl,rfl,g'3_1,g'3_5,g'3_6⟩
    rintro frg'4 _ ⟨rfl,g'4_65,g'4_1,g'4_5,g'4_6⟩
    refine Zd (.b (((decide (((gi s.Edges i1.toNat).From) < 0)) || (decide ((s.Boxes.length:Int)≤((gi s.Edges i1.toNat).From)))) || (decide (((gi s.Edges i1.toNat).To) < 0)))) g'4_65 ?_
    refine Zad 7 (fun fr' k'=>k'7 = k'∧fr' 73 = .b ((((decide (((gi s.Edges i1.toNat).From) < 0)) || (decide ((s.Boxes.length:Int)≤((gi s.Edges i1.toNat).From)))) || (decide (((gi s.Edges i1.toNat).To) < 0))) || (decide ((s.Boxes.length:Int)≤((gi s.Edges i1.toNat).To))))∧fr' 1 = .p r'1 0∧fr' 5 = .n i1∧fr' 6 = .p r'2 0) ?_ ?_
    ·rcases bc (((decide (((gi s.Edges i1.toNat).From) < 0)) || (decide ((s.Boxes.length:Int)≤((gi s.Edges i1.toNat).From)))) || (decide (((gi s.Edges i1.toNat).To) < 0))) with b'8 | b'8
     ·skip
      refine Z4 rfl b'8 (Z4 rfl b'8 (Z4 rfl b'8 (Z4 rfl b'8 (Z4 rfl b'8 (Z4 rfl b'8 (Ze (zg (t:=(((decide (((gi s.Edges i1.toNat).From) < 0)) || (decide ((s.Boxes.length:Int)≤((gi s.Edges i1.toNat).From)))) || (decide (((gi s.Edges i1.toNat).To) < 0)))) (v:=.b ((((decide (((gi s.Edges i1.toNat).From) < 0)) || (decide ((s.Boxes.length:Int)≤((gi s.Edges i1.toNat).From)))) || (decide (((gi s.Edges i1.toNat).To) < 0))) || (decide ((s.Boxes.length:Int)≤((gi s.Edges i1.toNat).To))))) rfl b'8 (Eq.trans (b:=V.b true) rfl (Zbg b'8))) (Zb ?_)))))))
      exact ⟨rfl,rfl,g'4_1,g'4_5,g'4_6⟩
     ·skip
      refine ZB rfl b'8 (Ze (z6 (r:=r'2) (o:=0) (o':=1) g'4_6 rfl) (ZB rfl b'8 (Ze (zi (cs:=(Zr.c (gi s.Edges i1.toNat))) (v:=.n ((gi s.Edges i1.toNat).To)) (hO'7.box 1 rfl) rfl rfl) (ZB rfl b'8 (Ze (z6 (r:=r'1) (o:=0) (o':=0) g'4_1 rfl) (ZB rfl b'8 (Ze (zi (cs:=[v_s_Boxes,v_s_Edges]) (v:=v_s_Boxes) (hO'7.box 0 rfl) rfl rfl) ?_)))))))
      refine ZB rfl b'8 (Ze (Zah (hO'7.rd0 s_s_Boxes.rd) rfl) (ZB rfl b'8 (Ze (ZcC (a:=((gi s.Edges i1.toNat).To)) (b:=(s.Boxes.length:Int)) rfl rfl) (Ze (zc (t:=(((decide (((gi s.Edges i1.toNat).From) < 0)) || (decide ((s.Boxes.length:Int)≤((gi s.Edges i1.toNat).From)))) || (decide (((gi s.Edges i1.toNat).To) < 0)))) (v:=.b ((((decide (((gi s.Edges i1.toNat).From) < 0)) || (decide ((s.Boxes.length:Int)≤((gi s.Edges i1.toNat).From)))) || (decide (((gi s.Edges i1.toNat).To) < 0))) || (decide ((s.Boxes.length:Int)≤((gi s.Edges i1.toNat).To))))) rfl b'8 (Eq.trans (b:=V.b (decide ((s.Boxes.length:Int)≤((gi s.Edges i1.toNat).To)))) rfl (Zb7 b'8))) (Zb ?_)))))
      exact ⟨rfl,rfl,g'4_1,g'4_5,g'4_6⟩
    rintro frg'5 _ ⟨rfl,g'5_73,g'5_1,g'5_5,g'5_6⟩
    refine Zb (Za ?_)
    rcases Z2 hp with ⟨b'9,hp⟩ | ⟨b'9,hp⟩
    ·refine zO (t:=((((decide (((gi s.Edges i1.toNat).From) < 0)) || (decide ((s.Boxes.length:Int)≤((gi s.Edges i1.toNat).From)))) || (decide (((gi s.Edges i1.toNat).To) < 0))) || (decide ((s.Boxes.length:Int)≤((gi s.Edges i1.toNat).To))))) g'5_73 b'9 ?_
     refine Zk (Zo (Zd (.n 3) rfl (Zb (Za (Za2 (Zaf (Zbh ?_)))))))
     refine Zaf ?_
     cases hp
     refine (Or.inr ⟨.inr 3,rfl,(fun h=>nomatch h),(fun he=>?_)⟩)
     subst he; exact ⟨rfl,rfl,(hO'7.pick [] rfl (by decide))⟩
    ·refine zN (t:=((((decide (((gi s.Edges i1.toNat).From) < 0)) || (decide ((s.Boxes.length:Int)≤((gi s.Edges i1.toNat).From)))) || (decide (((gi s.Edges i1.toNat).To) < 0))) || (decide ((s.Boxes.length:Int)≤((gi s.Edges i1.toNat).To))))) g'5_73 b'9 ?_
     refine zU (Za (Zk (Zo (Ze (z6 (r:=r'2) (o:=0) (o':=3) g'5_6 rfl) (Ze (zi (cs:=(Zr.c (gi s.Edges i1.toNat))) (v:=.s ((gi s.Edges i1.toNat).Bends)) (hO'7.box 1 rfl) rfl rfl) ?_)))))
     obtain ⟨x1,hx'1,hp⟩:=Zt hp
     obtain ⟨u'1,k'8,ca'1,rfl,hW'1⟩:=zM.ok (h:=k'7)   hx'1
     refine Za3 (id:=217) (caps:=[]) rfl (Z3 (v:=.s ((gi s.Edges i1.toNat).Bends)) rfl zn) ca'1 ?_
     have hO'8:=hO'7.call hW'1 rfl
     refine Zd (.b x1) rfl (Zb (Za (Zk (Zo (Ze (z6 (r:=r'2) (o:=0) (o':=2) g'5_6 rfl) (Ze (zi (cs:=(Zr.c (gi s.Edges i1.toNat))) (v:=.n ((gi s.Edges i1.toNat).Dir)) (hO'8.box 1 rfl) rfl rfl) (Ze (zG (a:=((gi s.Edges i1.toNat).Dir)) (b:=0) rfl rfl) ?_)))))))
     refine Zd (.b (decide (((gi s.Edges i1.toNat).Dir) < 0))) rfl ?_
     refine Zad 4 (fun fr' k'=>k'8 = k'∧fr' 84 = .b ((decide (((gi s.Edges i1.toNat).Dir) < 0)) || (decide (3 < ((gi s.Edges i1.toNat).Dir))))∧fr' 1 = .p r'1 0∧fr' 5 = .n i1∧fr' 7 = .b x1) ?_ ?_
     ·rcases bc (decide (((gi s.Edges i1.toNat).Dir) < 0)) with b'10 | b'10
      ·skip
       refine Z4 rfl b'10 (Z4 rfl b'10 (Z4 rfl b'10 (Ze (zg (t:=(decide (((gi s.Edges i1.toNat).Dir) < 0))) (v:=.b ((decide (((gi s.Edges i1.toNat).Dir) < 0)) || (decide (3 < ((gi s.Edges i1.toNat).Dir))))) rfl b'10 (Eq.trans (b:=V.b true) rfl (Zbg b'10))) (Zb ?_))))
       exact ⟨rfl,rfl,g'5_1,g'5_5,rfl⟩
      ·skip
       refine ZB rfl b'10 (Ze (z6 (r:=r'2) (o:=0) (o':=2) g'5_6 rfl) (ZB rfl b'10 (Ze (zi (cs:=(Zr.c (gi s.Edges i1.toNat))) (v:=.n ((gi s.Edges i1.toNat).Dir)) (hO'8.box 1 rfl) rfl rfl) (ZB rfl b'10 (Ze (ZcD (a:=((gi s.Edges i1.toNat).Dir)) (b:=3) rfl rfl) (Ze (zc (t:=(decide (((gi s.Edges i1.toNat).Dir) < 0))) (v:=.b ((decide (((gi s.Edges i1.toNat).Dir) < 0)) || (decide (3 < ((gi s.Edges i1.toNat).Dir))))) rfl b'10 (Eq.trans (b:=V.b (decide (3 < ((gi s.Edges i1.toNat).Dir)))) rfl (Zb7 b'10))) (Zb ?_)))))))
       exact ⟨rfl,rfl,g'5_1,g'5_5,rfl⟩
     rintro frg'6 _ ⟨rfl,g'6_84,g'6_1,g'6_5,g'6_7⟩
     refine Zd (.b ((decide (((gi s.Edges i1.toNat).Dir) < 0)) || (decide (3 < ((gi s.Edges i1.toNat).Dir))))) g'6_84 ?_
     refine Zad 3 (fun fr' k'=>k'8 = k'∧fr' 88 = .b (((decide (((gi s.Edges i1.toNat).Dir) < 0)) || (decide (3 < ((gi s.Edges i1.toNat).Dir)))) || (!x1))∧fr' 1 = .p r'1 0∧fr' 5 = .n i1) ?_ ?_
     ·rcases bc ((decide (((gi s.Edges i1.toNat).Dir) < 0)) || (decide (3 < ((gi s.Edges i1.toNat).Dir)))) with b'11 | b'11
      ·skip
       refine Z4 rfl b'11 (Z4 rfl b'11 (Ze (zg (t:=((decide (((gi s.Edges i1.toNat).Dir) < 0)) || (decide (3 < ((gi s.Edges i1.toNat).Dir))))) (v:=.b (((decide (((gi s.Edges i1.toNat).Dir) < 0)) || (decide (3 < ((gi s.Edges i1.toNat).Dir)))) || (!x1))) rfl b'11 (Eq.trans (b:=V.b true) rfl (Zbg b'11))) (Zb ?_)))
       exact ⟨rfl,rfl,g'6_1,g'6_5⟩
      ·skip
       refine ZB rfl b'11 (Zd (.b x1) g'6_7 (ZB rfl b'11 (Ze (ZcF (t:=x1) rfl) (Ze (zc (t:=((decide (((gi s.Edges i1.toNat).Dir) < 0)) || (decide (3 < ((gi s.Edges i1.toNat).Dir))))) (v:=.b (((decide (((gi s.Edges i1.toNat).Dir) < 0)) || (decide (3 < ((gi s.Edges i1.toNat).Dir)))) || (!x1))) rfl b'11 (Eq.trans (b:=V.b (!x1)) rfl (Zb7 b'11))) (Zb ?_)))))
       exact ⟨rfl,rfl,g'6_1,g'6_5⟩
     rintro frg'7 _ ⟨rfl,g'7_88,g'7_1,g'7_5⟩
     refine Zb (Za ?_)
     rcases Z2 hp with ⟨b'12,hp⟩ | ⟨b'12,hp⟩
     ·refine zO (t:=(((decide (((gi s.Edges i1.toNat).Dir) < 0)) || (decide (3 < ((gi s.Edges i1.toNat).Dir)))) || (!x1))) g'7_88 b'12 ?_
      refine Zk (Zo (Zd (.n 2) rfl (Zb (Za (Za2 (Zbh (Zaf ?_)))))))
      cases hp
      refine (Or.inr ⟨.inr 2,rfl,(fun h=>nomatch h),(fun he=>?_)⟩)
      subst he; exact ⟨rfl,rfl,(hO'8.pick [] rfl (by decide))⟩
     ·refine zN (t:=(((decide (((gi s.Edges i1.toNat).Dir) < 0)) || (decide (3 < ((gi s.Edges i1.toNat).Dir)))) || (!x1))) g'7_88 b'12 ?_
      refine zU (Zac (Za (Zo (Zd (.n i1) g'7_5 ?_))))
      obtain ⟨c'5,hp⟩:=Zj hp
      refine Ze (zp (a:=i1) (b:=1) rfl rfl c'5) (Zd (.n (i1 + 1)) rfl (Zb ?_))
      cases hp
      exact (Or.inl ⟨i1 + 1,rfl,rfl,g'7_1,rfl,(hO'8.pick [0] rfl (by decide))⟩)
   ·refine zN (t:=(decide (i1 < (s.Edges.length:Int)))) rfl b'5 ?_
    refine ZaT (zR ?_)
    cases hp
    refine (Or.inr ⟨.inl (),rfl,(fun h=>nomatch h),(fun he=>?_)⟩)
    subst he; exact ⟨rfl,(hO'5.pick [] rfl (by decide))⟩
  intro e'2 q'3 k'4 hJ'2
  rcases o'3 with _ | x
  ·obtain ⟨rfl,hO'4⟩:=hJ'2
   refine Zaq (Za (Zk (Zo (Zd (.n 0) rfl (Zb (Za (Za2 ?_)))))))
   refine zW (Zax (n:=2) (v:=.n 0) rfl zx) ?_
   cases hp
   exact ⟨rfl,(hO'4.pick [] rfl (by decide))⟩
  ·obtain ⟨rfl,q'3_2,hO'4⟩:=hJ'2
   refine Zbh (Zaf (zW (Zax (n:=2) (v:=.n x) q'3_2 zx) ?_))
   cases hp
   exact ⟨rfl,(hO'4.pick [] rfl (by decide))⟩

theorem Zab.ok {h:Hp} {e_:z8}   {r:Int} (hp:Zab e_ = some r) :
  ∃ u k',Is G 230 [.ag (Zr.c e_)] h u k'∧V.n r = u∧Own (fun r=>r < h.n) h k' []:=by
 refine WC.is (ZaM Zcp ?_)
 unfold Zab at hp
 let B:Nat→Prop:=(fun r=>r < h.n)
 have hO:Own B h h []:=Own.start0 h
 refine Zk (Zo (zy (hO.boxd (v:=.ag (Zr.c e_)) (cs:=Zr.c e_) hO.fr rfl rfl) ?_))
 rintro _ k'1 ⟨r'1,rfl,n'1,f'1,hW⟩
 have hO'1:=hW
 refine Zd (.n 0) rfl (Zb (Za (Zk (Zo (Ze (z6 (r:=r'1) (o:=0) (o':=2) rfl rfl) (Ze (zi (cs:=(Zr.c e_)) (v:=.n e_.Dir) (hO'1.box 0 rfl) rfl rfl) (Zd (.n e_.Dir) rfl ?_)))))))
 refine Zb (Za (Zk (Zk (Zo (Zd (.n 0) rfl (Zb (Za ?_)))))))
 refine Zaa ?_
 obtain ⟨o'1,ho'1,hp⟩:=Zt hp
 refine W.mono (Q:=fun e fr k=>match (generalizing:=false) o'1 with
   | d1=>e = (.exit 0)∧fr 3 = .n d1∧Own B h k []) ?_ ?_
 ·clear hp
  refine z9 (fun st fr k=>match st with | (d,i)=>fr 1 = .p r'1 0∧fr 3 = .n d∧fr 4 = .n i∧Own B h k [zQ r'1 (Zr.c e_)]) ho'1 (s:=(e_.Dir,0)) ⟨rfl,rfl,rfl,(hO'1.pick [0] rfl (by decide))⟩ ?_
  rintro ⟨d,i⟩ q'2 k'3 ⟨q'2_1,q'2_3,q'2_4,hO'3⟩ o'2 hp
  dsimp only [Zab.s0] at hp
  refine Zk (Zk (Zo (Zd (.n i) q'2_4 (Ze (z6 (r:=r'1) (o:=0) (o':=3) q'2_1 rfl) (Ze (zi (cs:=(Zr.c e_)) (v:=.s e_.Bends) (hO'3.box 0 rfl) rfl rfl) (Ze (ZeM (a:=e_.Bends) rfl) (Ze (zG (a:=i) (b:=(e_.Bends.size:Int)) rfl rfl) ?_)))))))
  refine Zb (Za ?_)
  rcases Z2 hp with ⟨b'1,hp⟩ | ⟨b'1,hp⟩
  ·refine zO (t:=(decide (i < (e_.Bends.size:Int)))) rfl b'1 ?_
   refine zU (Za (Zk (Zaa (Zk (Zo (Ze (z6 (r:=r'1) (o:=0) (o':=3) q'2_1 rfl) (Ze (zi (cs:=(Zr.c e_)) (v:=.s e_.Bends) (hO'3.box 0 rfl) rfl rfl) ?_)))))))
   refine Zd (.n i) q'2_4 ?_
   obtain ⟨c'1,hp⟩:=Zj hp
   refine Ze (Zhd (a:=e_.Bends) (z:=i) rfl rfl c'1) (Ze (ZaW (a:=(sAt e_.Bends i.toNat)) (b:=76) rfl rfl) (Zb (Za ?_)))
   rcases Z2 hp with ⟨b'2,hp⟩ | ⟨b'2,hp⟩
   ·refine zO (t:=(decide (sAt e_.Bends i.toNat = 76))) rfl b'2 ?_
    refine Zo (Zd (.n d) q'2_3 ?_)
    obtain ⟨c'2,hp⟩:=Zj hp
    refine Ze (zp (a:=d) (b:=1) rfl rfl c'2) (Ze (ZbJ (a:=(d + 1)) (b:=4) rfl rfl (by decide)) (Zd (.n ((d + 1).tmod 4)) rfl (Zb (Zac (Za (Zo (Zd (.n i) q'2_4 ?_)))))))
    obtain ⟨c'3,hp⟩:=Zj hp
    refine Ze (zp (a:=i) (b:=1) rfl rfl c'3) (Zd (.n (i + 1)) rfl (Zb ?_))
    cases hp
    exact (Or.inl ⟨((d + 1).tmod 4,i + 1),rfl,rfl,q'2_1,rfl,rfl,(hO'3.pick [0] rfl (by decide))⟩)
   ·refine zN (t:=(decide (sAt e_.Bends i.toNat = 76))) rfl b'2 ?_
    refine Zo (Zd (.n d) q'2_3 ?_)
    obtain ⟨c'4,hp⟩:=Zj hp
    refine Ze (zp (a:=d) (b:=3) rfl rfl c'4) (Ze (ZbJ (a:=(d + 3)) (b:=4) rfl rfl (by decide)) (Zd (.n ((d + 3).tmod 4)) rfl (Zb (Zac (Za (Zo (Zd (.n i) q'2_4 ?_)))))))
    obtain ⟨c'5,hp⟩:=Zj hp
    refine Ze (zp (a:=i) (b:=1) rfl rfl c'5) (Zd (.n (i + 1)) rfl (Zb ?_))
    cases hp
    exact (Or.inl ⟨((d + 3).tmod 4,i + 1),rfl,rfl,q'2_1,rfl,rfl,(hO'3.pick [0] rfl (by decide))⟩)
  ·refine zN (t:=(decide (i < (e_.Bends.size:Int)))) rfl b'1 ?_
   refine ZaT (zR ?_)
   cases hp
   refine (Or.inr ⟨d,rfl,(fun h=>nomatch h),(fun he=>?_)⟩)
   subst he; exact ⟨rfl,q'2_3,(hO'3.pick [] rfl (by decide))⟩
 intro e'1 q'1 k'2 hJ'1
 obtain ⟨d1,rfl⟩:∃ x,x = o'1:=⟨_,rfl⟩
 obtain ⟨rfl,q'1_3,hO'2⟩:=hJ'1
 refine Zaq (Za (Zk (Zo (Zd (.n d1) q'1_3 (Zd (.n d1) rfl (Zb (Za ?_)))))))
 refine Za2 (zW (Zax (n:=2) (v:=.n d1) rfl zx) ?_)
 cases hp
 exact ⟨rfl,(hO'2.pick [] rfl (by decide))⟩

theorem ZaK.ok {h:Hp} {e_:z8}   {r:Int} (hp:ZaK e_ = some r) :
  ∃ u k',Is G 218 [.ag (Zr.c e_)] h u k'∧V.n r = u∧Own (fun r=>r < h.n) h k' []:=by
 refine WC.is (ZaM Zct ?_)
 unfold ZaK at hp
 let B:Nat→Prop:=(fun r=>r < h.n)
 have hO:Own B h h []:=Own.start0 h
 refine Zk (Zo (zy (hO.boxd (v:=.ag (Zr.c e_)) (cs:=Zr.c e_) hO.fr rfl rfl) ?_))
 rintro _ k'1 ⟨r'1,rfl,n'1,f'1,hW⟩
 have hO'1:=hW
 refine Zd (.n 0) rfl (Zb (Za (Zk (Zo (Ze (Zaz (cs:=(Zr.c e_)) (ws:=Zr.c e_) (hO'1.box 0 rfl) rfl rfl) ?_)))))
 obtain ⟨x,hx'1,hp⟩:=Zt hp
 obtain ⟨u'1,k'2,ca'1,rfl,hW'1⟩:=Zab.ok (h:=k'1)   hx'1
 refine Za3 (id:=230) (caps:=[]) rfl (Z3 (v:=.ag (Zr.c e_)) rfl zn) ca'1 ?_
 have hO'2:=hO'1.call hW'1 rfl
 refine Zd (.n x) rfl (Zb (Za (Zk (Zo (Zd (.n x) rfl ?_)))))
 obtain ⟨c'1,hp⟩:=Zj hp
 refine Ze (zp (a:=x) (b:=2) rfl rfl c'1) (Ze (ZbJ (a:=(x + 2)) (b:=4) rfl rfl (by decide)) (Zd (.n ((x + 2).tmod 4)) rfl (Zb (Za (Za2 (zW (Zax (n:=2) (v:=.n ((x + 2).tmod 4)) rfl zx) ?_))))))
 cases hp
 exact ⟨rfl,(hO'2.pick [] rfl (by decide))⟩

theorem z7.ok {h:Hp} {s:zk} {v:Int} {d:Int} {v_s_Boxes:V} {v_s_Edges:V} (s_s_Boxes:Sl e_bool h v_s_Boxes s.Boxes) (s_s_Edges:Sl Zr h v_s_Edges s.Edges) {r:(List Int)} (hp:z7 s v d = some r) :
  ∃ u k',Is G 199 [.ag [v_s_Boxes,v_s_Edges],.n v,.n d] h u k'∧∃ (v'1:V),v'1 = u∧Own (fun r=>r < h.n) h k' [eSl zw v'1 r]:=by
 refine WC.is (ZaM ZcB ?_)
 unfold z7 at hp
 let B:Nat→Prop:=(fun r=>r < h.n)
 have hO:Own B h h []:=Own.start0 h
 refine Zk (Zo (zy (hO.boxd (v:=.ag [v_s_Boxes,v_s_Edges]) (cs:=[v_s_Boxes,v_s_Edges]) hO.fr rfl rfl) ?_))
 rintro _ k'1 ⟨r'1,rfl,n'1,f'1,hW⟩
 have hO'1:=hW
 refine Zd (.sn) rfl (Zb (Za (Zk (Zo (Zd (.sn) rfl (Zb (Za ?_)))))))
 refine Zk (Zk (Zo (Zd (.n 0) rfl (Zb (Za (Zaa ?_))))))
 obtain ⟨o'1,ho'1,hp⟩:=Zt hp
 refine W.mono (Q:=fun e fr k=>match (generalizing:=false) o'1 with
   | l1=>e = (.exit 0)∧∃ (v'3:V),fr 7 = v'3∧Own B h k [eSl zw v'3 l1]) ?_ ?_
 ·clear hp
  have hO'3:=hO'1.nil zw
  refine z9 (fun st fr k=>match st with | (l,i)=>∃ (v'2:V),fr 1 = .n v∧fr 2 = .n d∧fr 3 = .p r'1 0∧fr 7 = v'2∧fr 8 = .n i∧Own B h k [zQ r'1 [v_s_Boxes,v_s_Edges],eSl zw v'2 l]) ho'1 (s:=(([]:List Int),0)) ⟨V.sn,rfl,rfl,rfl,rfl,rfl,(hO'3.pick [0,1] rfl (by decide))⟩ ?_
  rintro ⟨l,i⟩ q'2 k'3 ⟨v'2,q'2_1,q'2_2,q'2_3,q'2_7,q'2_8,hO'4⟩ o'2 hp
  dsimp only [z7.s0] at hp
  refine Zk (Zk (Zo (Zd (.n i) q'2_8 (Ze (z6 (r:=r'1) (o:=0) (o':=1) q'2_3 rfl) (Ze (zi (cs:=[v_s_Boxes,v_s_Edges]) (v:=v_s_Edges) (hO'4.box 0 rfl) rfl rfl) (Ze (Zah (hO'4.rd0 s_s_Edges.rd) rfl) (Ze (zG (a:=i) (b:=(s.Edges.length:Int)) rfl rfl) ?_)))))))
  refine Zb (Za ?_)
  rcases Z2 hp with ⟨b'1,hp⟩ | ⟨b'1,hp⟩
  ·refine zO (t:=(decide (i < (s.Edges.length:Int)))) rfl b'1 ?_
   refine zU (Za (Zk (Zaa (Zk (Zo (Ze (z6 (r:=r'1) (o:=0) (o':=1) q'2_3 rfl) (Ze (zi (cs:=[v_s_Boxes,v_s_Edges]) (v:=v_s_Edges) (hO'4.box 0 rfl) rfl rfl) ?_)))))))
   refine Zd (.n i) q'2_8 ?_
   obtain ⟨c'1,hp⟩:=Zj hp
   refine Ze (zz (E:=Zr) (z:=i) (hO'4.rd0 s_s_Edges.rd) rfl rfl c'1) (Ze (ZdX (E:=Zr) (hO'4.rd0 s_s_Edges.rd) rfl (Zp c'1)) (zy (hO'4.alloc (cs:=Zr.c (⟨0,0,0,(⟨#[]⟩:ByteArray)⟩:z8)) hO'4.fr) ?_))
   rintro _ k'4 ⟨r'2,rfl,n'2,f'2,hW⟩
   have hO'5:=hW
   refine zy (hO'5.stb (ws:=Zr.c (gi s.Edges i.toNat)) (cs':=Zr.c (gi s.Edges i.toNat)) (v:=.ag (Zr.c (gi s.Edges i.toNat))) 2 rfl rfl rfl rfl ⟨rfl,Nat.le_of_ble_eq_true rfl,rfl⟩ rfl) ?_
   rintro _ k'5 ⟨rfl,f'3,m'1,hW⟩
   have hO'6:=hW
   refine Zb (Za (Zk (Zk (Zo (Ze (z6 (r:=r'2) (o:=0) (o':=0) rfl rfl) (Ze (zi (cs:=(Zr.c (gi s.Edges i.toNat))) (v:=.n ((gi s.Edges i.toNat).From)) (hO'6.box 2 rfl) rfl rfl) (Zd (.n v) q'2_1 ?_)))))))
   refine Ze (ZaW (a:=((gi s.Edges i.toNat).From)) (b:=v) rfl rfl) (Zd (.b (decide ((gi s.Edges i.toNat).From = v))) rfl ?_)
   refine Zad 5 (fun fr' k'=>k'5 = k'∧fr' 32 = .b ((decide ((gi s.Edges i.toNat).From = v)) && (decide ((gi s.Edges i.toNat).Dir = d)))∧fr' 1 = .n v∧fr' 2 = .n d∧fr' 3 = .p r'1 0∧fr' 7 = v'2∧fr' 8 = .n i∧fr' 9 = .p r'2 0) ?_ ?_
   ·rcases bc (decide ((gi s.Edges i.toNat).From = v)) with b'2 | b'2
    ·skip
     refine ZB rfl b'2 (Ze (z6 (r:=r'2) (o:=0) (o':=2) rfl rfl) (ZB rfl b'2 (Ze (zi (cs:=(Zr.c (gi s.Edges i.toNat))) (v:=.n ((gi s.Edges i.toNat).Dir)) (hO'6.box 2 rfl) rfl rfl) (ZB rfl b'2 (Zd (.n d) q'2_2 (ZB rfl b'2 (Ze (ZaW (a:=((gi s.Edges i.toNat).Dir)) (b:=d) rfl rfl) ?_)))))))
     refine Ze (zg (t:=(decide ((gi s.Edges i.toNat).From = v))) (v:=.b ((decide ((gi s.Edges i.toNat).From = v)) && (decide ((gi s.Edges i.toNat).Dir = d)))) rfl b'2 (Eq.trans (b:=V.b (decide ((gi s.Edges i.toNat).Dir = d))) rfl (ZbS b'2))) (Zb ?_)
     exact ⟨rfl,rfl,q'2_1,q'2_2,q'2_3,q'2_7,q'2_8,rfl⟩
    ·skip
     refine Z4 rfl b'2 (Z4 rfl b'2 (Z4 rfl b'2 (Z4 rfl b'2 (Ze (zc (t:=(decide ((gi s.Edges i.toNat).From = v))) (v:=.b ((decide ((gi s.Edges i.toNat).From = v)) && (decide ((gi s.Edges i.toNat).Dir = d)))) rfl b'2 (Eq.trans (b:=V.b false) rfl (Zbw b'2))) (Zb ?_)))))
     exact ⟨rfl,rfl,q'2_1,q'2_2,q'2_3,q'2_7,q'2_8,rfl⟩
   rintro frg'1 _ ⟨rfl,g'1_32,g'1_1,g'1_2,g'1_3,g'1_7,g'1_8,g'1_9⟩
   refine Zb (Za ?_)
   obtain ⟨o'3,ho'2,hp⟩:=Zt hp
   refine W.mono (Q:=fun e fr k=>match (generalizing:=false) o'3 with
     | l2=>e = .normal∧∃ (v'4:V),fr 1 = .n v∧fr 2 = .n d∧fr 3 = .p r'1 0∧fr 7 = v'4∧fr 8 = .n i∧fr 9 = .p r'2 0∧Own B h k [zQ r'1 [v_s_Boxes,v_s_Edges],eSl zw v'4 l2,zQ r'2 (Zr.c (gi s.Edges i.toNat))]) ?_ ?_
   ·clear hp; have hp:=ho'2; clear ho'2
    rcases Z2 hp with ⟨b'3,hp⟩ | ⟨b'3,hp⟩
    ·refine zO (t:=((decide ((gi s.Edges i.toNat).From = v)) && (decide ((gi s.Edges i.toNat).Dir = d)))) g'1_32 b'3 ?_
     refine Zo (Zd v'2 g'1_7 (Zd (.n i) g'1_8 ?_))
     obtain ⟨c'2,hp⟩:=Zj hp
     refine Ze (ZeL (a:=2) (b:=i) rfl rfl c'2) (zy (hO'6.bsl (E:=zw) (l:=[2 * i]) hO'6.fr (by rw [(zq (v:=.n (2 * i)) rfl Za5)]; rfl) rfl) ?_)
     rintro v'5 k'7 ⟨r'3,f'4,hW⟩
     have hO'8:=hW
     obtain ⟨c'3,hp⟩:=Zj hp
     refine zy (hO'8.app (E:=zw) (bytes:=8) 1 hO'8.fr rfl (hO'8.sl 3 rfl) rfl rfl (fun _=>rfl) c'3 (by decide)) ?_
     rintro v'6 k'8 ⟨f'5,hW⟩
     have hO'9:=hW
     refine Zd v'6 rfl (Zb ?_)
     cases hp
     exact ⟨rfl,v'6,g'1_1,g'1_2,g'1_3,rfl,g'1_8,g'1_9,(hO'9.pick [0,1,2] rfl (by decide))⟩
    ·refine zN (t:=((decide ((gi s.Edges i.toNat).From = v)) && (decide ((gi s.Edges i.toNat).Dir = d)))) g'1_32 b'3 ?_
     refine zU ?_
     cases hp
     exact ⟨rfl,v'2,g'1_1,g'1_2,g'1_3,g'1_7,g'1_8,g'1_9,(hO'6.pick [0,1,2] rfl (by decide))⟩
   intro e'2 q'3 k'6 hJ'2
   obtain ⟨l2,rfl⟩:∃ x,x = o'3:=⟨_,rfl⟩
   obtain ⟨rfl,v'4,q'3_1,q'3_2,q'3_3,q'3_7,q'3_8,q'3_9,hO'7⟩:=hJ'2
   refine Za (Zk (Zo (Ze (Zaz (cs:=(Zr.c (gi s.Edges i.toNat))) (ws:=Zr.c (gi s.Edges i.toNat)) (hO'7.box 2 rfl) q'3_9 rfl) ?_)))
   obtain ⟨x,hx'1,hp⟩:=Zt hp
   obtain ⟨u'1,k'9,ca'1,rfl,hW'1⟩:=ZaK.ok (h:=k'6)   hx'1
   refine Za3 (id:=218) (caps:=[]) rfl (Z3 (v:=.ag (Zr.c (gi s.Edges i.toNat))) rfl zn) ca'1 ?_
   have hO'10:=hO'7.call hW'1 rfl
   refine Zd (.n x) rfl (Zb (Za (Zk (Zo (Ze (z6 (r:=r'2) (o:=0) (o':=1) q'3_9 rfl) (Ze (zi (cs:=(Zr.c (gi s.Edges i.toNat))) (v:=.n ((gi s.Edges i.toNat).To)) (hO'10.box 2 rfl) rfl rfl) (Zd (.n v) q'3_1 ?_)))))))
   refine Ze (ZaW (a:=((gi s.Edges i.toNat).To)) (b:=v) rfl rfl) (Zd (.b (decide ((gi s.Edges i.toNat).To = v))) rfl ?_)
   refine Zad 4 (fun fr' k'=>k'9 = k'∧fr' 48 = .b ((decide ((gi s.Edges i.toNat).To = v)) && (decide (x = d)))∧fr' 1 = .n v∧fr' 2 = .n d∧fr' 3 = .p r'1 0∧fr' 7 = v'4∧fr' 8 = .n i) ?_ ?_
   ·rcases bc (decide ((gi s.Edges i.toNat).To = v)) with b'4 | b'4
    ·skip
     refine ZB rfl b'4 (Zd (.n x) rfl (ZB rfl b'4 (Zd (.n d) q'3_2 (ZB rfl b'4 (Ze (ZaW (a:=x) (b:=d) rfl rfl) (Ze (zg (t:=(decide ((gi s.Edges i.toNat).To = v))) (v:=.b ((decide ((gi s.Edges i.toNat).To = v)) && (decide (x = d)))) rfl b'4 (Eq.trans (b:=V.b (decide (x = d))) rfl (ZbS b'4))) (Zb ?_)))))))
     exact ⟨rfl,rfl,q'3_1,q'3_2,q'3_3,q'3_7,q'3_8⟩
    ·skip
     refine Z4 rfl b'4 (Z4 rfl b'4 (Z4 rfl b'4 (Ze (zc (t:=(decide ((gi s.Edges i.toNat).To = v))) (v:=.b ((decide ((gi s.Edges i.toNat).To = v)) && (decide (x = d)))) rfl b'4 (Eq.trans (b:=V.b false) rfl (Zbw b'4))) (Zb ?_))))
     exact ⟨rfl,rfl,q'3_1,q'3_2,q'3_3,q'3_7,q'3_8⟩
   rintro frg'2 _ ⟨rfl,g'2_48,g'2_1,g'2_2,g'2_3,g'2_7,g'2_8⟩
   refine Zb (Za ?_)
   rcases Z2 hp with ⟨b'5,hp⟩ | ⟨b'5,hp⟩
   ·refine zO (t:=((decide ((gi s.Edges i.toNat).To = v)) && (decide (x = d)))) g'2_48 b'5 ?_
    refine Zo (Zd v'4 g'2_7 (Zd (.n i) g'2_8 ?_))
    obtain ⟨c'4,hp⟩:=Zj hp
    refine Ze (ZeL (a:=2) (b:=i) rfl rfl c'4) ?_
    obtain ⟨c'5,hp⟩:=Zj hp
    refine Ze (zp (a:=(2 * i)) (b:=1) rfl rfl c'5) (zy (hO'10.bsl (E:=zw) (l:=[(2 * i) + 1]) hO'10.fr (by rw [(zq (v:=.n ((2 * i) + 1)) rfl Za5)]; rfl) rfl) ?_)
    rintro v'7 k'10 ⟨r'4,f'6,hW⟩
    have hO'11:=hW
    obtain ⟨c'6,hp⟩:=Zj hp
    refine zy (hO'11.app (E:=zw) (bytes:=8) 1 hO'11.fr rfl (hO'11.sl 3 rfl) rfl rfl (fun _=>rfl) c'6 (by decide)) ?_
    rintro v'8 k'11 ⟨f'7,hW⟩
    have hO'12:=hW
    refine Zd v'8 rfl (Zb (Zac (Za (Zo (Zd (.n i) g'2_8 ?_)))))
    obtain ⟨c'7,hp⟩:=Zj hp
    refine Ze (zp (a:=i) (b:=1) rfl rfl c'7) (Zd (.n (i + 1)) rfl (Zb ?_))
    cases hp
    exact (Or.inl ⟨(l2++[(2 * i) + 1],i + 1),rfl,rfl,v'8,g'2_1,g'2_2,g'2_3,rfl,rfl,(hO'12.pick [0,1] rfl (by decide))⟩)
   ·refine zN (t:=((decide ((gi s.Edges i.toNat).To = v)) && (decide (x = d)))) g'2_48 b'5 ?_
    refine zU (Zac (Za (Zo (Zd (.n i) g'2_8 ?_))))
    obtain ⟨c'8,hp⟩:=Zj hp
    refine Ze (zp (a:=i) (b:=1) rfl rfl c'8) (Zd (.n (i + 1)) rfl (Zb ?_))
    cases hp
    exact (Or.inl ⟨(l2,i + 1),rfl,rfl,v'4,g'2_1,g'2_2,g'2_3,g'2_7,rfl,(hO'10.pick [0,1] rfl (by decide))⟩)
  ·refine zN (t:=(decide (i < (s.Edges.length:Int)))) rfl b'1 ?_
   refine ZaT (zR ?_)
   cases hp
   refine (Or.inr ⟨l,rfl,(fun h=>nomatch h),(fun he=>?_)⟩)
   subst he; exact ⟨rfl,v'2,q'2_7,(hO'4.pick [1] rfl (by decide))⟩
 intro e'1 q'1 k'2 hJ'1
 obtain ⟨l1,rfl⟩:∃ x,x = o'1:=⟨_,rfl⟩
 obtain ⟨rfl,v'3,q'1_7,hO'2⟩:=hJ'1
 refine Zaq (Za (Zk (Zo (Zd v'3 q'1_7 (Zd v'3 rfl (Zb (Za ?_)))))))
 refine Za2 (zW (Zax (n:=6) (v:=v'3) rfl zx) ?_)
 cases hp
 exact ⟨v'3,rfl,(hO'2.pick [0] rfl (by decide))⟩

theorem ZZ.ok {h:Hp} {s:zk} {v_s_Boxes:V} {v_s_Edges:V} (s_s_Boxes:Sl e_bool h v_s_Boxes s.Boxes) (s_s_Edges:Sl Zr h v_s_Edges s.Edges) {r:Int} (hp:ZZ s = some r) :
  ∃ u k',Is G 198 [.ag [v_s_Boxes,v_s_Edges]] h u k'∧V.n r = u∧Own (fun r=>r < h.n) h k' []:=by
 refine WC.is (ZaM Zcb ?_)
 unfold ZZ at hp
 let B:Nat→Prop:=(fun r=>r < h.n)
 have hO:Own B h h []:=Own.start0 h
 refine Zk (Zo (zy (hO.boxd (v:=.ag [v_s_Boxes,v_s_Edges]) (cs:=[v_s_Boxes,v_s_Edges]) hO.fr rfl rfl) ?_))
 rintro _ k'1 ⟨r'1,rfl,n'1,f'1,hW⟩
 have hO'1:=hW
 refine Zd (.n 0) rfl (Zb (Za (Zk (Zo (Zd (.n 0) rfl (Zb (Za ?_)))))))
 refine Zk (Zk (Zo (Zd (.n 0) rfl (Zb (Za (Zaa ?_))))))
 obtain ⟨o'1,ho'1,hp⟩:=Zt hp
 refine W.mono (Q:=fun e fr k=>match (generalizing:=false) o'1 with
   | n1=>e = (.exit 0)∧fr 1 = .p r'1 0∧fr 3 = .n n1∧Own B h k [zQ r'1 [v_s_Boxes,v_s_Edges]]) ?_ ?_
 ·clear hp
  refine z9 (fun st fr k=>match st with | (n,v)=>fr 1 = .p r'1 0∧fr 3 = .n n∧fr 4 = .n v∧Own B h k [zQ r'1 [v_s_Boxes,v_s_Edges]]) ho'1 (s:=(0,0)) ⟨rfl,rfl,rfl,(hO'1.pick [0] rfl (by decide))⟩ ?_
  rintro ⟨n,v⟩ q'2 k'3 ⟨q'2_1,q'2_3,q'2_4,hO'3⟩ o'2 hp
  dsimp only [ZZ.s0] at hp
  refine Zk (Zk (Zo (Zd (.n v) q'2_4 (Ze (z6 (r:=r'1) (o:=0) (o':=0) q'2_1 rfl) (Ze (zi (cs:=[v_s_Boxes,v_s_Edges]) (v:=v_s_Boxes) (hO'3.box 0 rfl) rfl rfl) (Ze (Zah (hO'3.rd0 s_s_Boxes.rd) rfl) (Ze (zG (a:=v) (b:=(s.Boxes.length:Int)) rfl rfl) ?_)))))))
  refine Zb (Za ?_)
  rcases Z2 hp with ⟨b'1,hp⟩ | ⟨b'1,hp⟩
  ·refine zO (t:=(decide (v < (s.Boxes.length:Int)))) rfl b'1 ?_
   refine zU (Za (Zk (Zaa (Zk (Zo (Zd (.n n) q'2_3 ?_))))))
   obtain ⟨c'1,hp⟩:=Zj hp
   refine Ze (zp (a:=n) (b:=1) rfl rfl c'1) (Zd (.n (n + 1)) rfl (Zb (Za (Zk (Zk (Zo (Zd (.n 0) rfl ?_)))))))
   refine Zb (Za (Zaa ?_))
   obtain ⟨o'3,ho'2,hp⟩:=Zt hp
   refine W.mono (Q:=fun e fr k=>match (generalizing:=false) o'3 with
     | n3=>e = (.exit 2)∧fr 1 = .p r'1 0∧fr 3 = .n n3∧fr 4 = .n v∧Own B h k [zQ r'1 [v_s_Boxes,v_s_Edges]]) ?_ ?_
   ·clear hp
    refine z9 (fun st fr k=>match st with | (n2,d)=>fr 1 = .p r'1 0∧fr 3 = .n n2∧fr 4 = .n v∧fr 5 = .n d∧Own B h k [zQ r'1 [v_s_Boxes,v_s_Edges]]) ho'2 (s:=(n + 1,0)) ⟨q'2_1,rfl,q'2_4,rfl,(hO'3.pick [0] rfl (by decide))⟩ ?_
    rintro ⟨n2,d⟩ q'4 k'5 ⟨q'4_1,q'4_3,q'4_4,q'4_5,hO'5⟩ o'4 hp
    dsimp only [ZZ.s1] at hp
    refine Zk (Zk (Zo (Zd (.n d) q'4_5 (Ze (zG (a:=d) (b:=4) rfl rfl) (Zd (.b (decide (d < 4))) rfl ?_)))))
    obtain ⟨t,hv'1,hp⟩:=Zt hp
    refine Zad 6 (fun fr' k'=>k'5 = k'∧fr' 25 = .b t∧fr' 1 = .p r'1 0∧fr' 3 = .n n2∧fr' 4 = .n v∧fr' 5 = .n d) ?_ ?_
    ·clear hp; rcases Z2 hv'1 with ⟨b'2,hp⟩ | ⟨b'2,hp⟩
     ·skip
      refine ZB rfl b'2 (Ze (z6 (r:=r'1) (o:=0) (o':=0) q'4_1 rfl) (ZB rfl b'2 (Ze (zi (cs:=[v_s_Boxes,v_s_Edges]) (v:=v_s_Boxes) (hO'5.box 0 rfl) rfl rfl) (ZB rfl b'2 (Zd (.n v) q'4_4 (ZB rfl b'2 ?_))))))
      obtain ⟨c'2,hp⟩:=Zj hp
      refine Ze (zz (E:=e_bool) (z:=v) (hO'5.rd0 s_s_Boxes.rd) rfl rfl c'2) (ZB rfl b'2 (Ze (zS (w:=.b (gi s.Boxes v.toNat)) (hO'5.rd0 s_s_Boxes.rd) rfl (Zp c'2) rfl) (Ze (zg (t:=(decide (d < 4))) (v:=.b t) rfl b'2 (Eq.trans (b:=V.b (gi s.Boxes v.toNat)) rfl (congrArg V.b (Option.some.inj hp)))) (Zb ?_))))
      exact ⟨rfl,rfl,q'4_1,q'4_3,q'4_4,q'4_5⟩
     ·skip
      refine Z4 rfl b'2 (Z4 rfl b'2 (Z4 rfl b'2 (Z4 rfl b'2 (Z4 rfl b'2 (Ze (zc (t:=(decide (d < 4))) (v:=.b t) rfl b'2 (Eq.trans (b:=V.b false) rfl (congrArg V.b (Option.some.inj hp)))) (Zb ?_))))))
      exact ⟨rfl,rfl,q'4_1,q'4_3,q'4_4,q'4_5⟩
    rintro frg'1 _ ⟨rfl,g'1_25,g'1_1,g'1_3,g'1_4,g'1_5⟩
    refine Zb (Za ?_)
    rcases Z2 hp with ⟨b'3,hp⟩ | ⟨b'3,hp⟩
    ·refine zO (t:=t) g'1_25 b'3 ?_
     refine zU (Za (Zk (Zaa (Zk (Zo (Ze (Zaz (cs:=[v_s_Boxes,v_s_Edges]) (ws:=[v_s_Boxes,v_s_Edges]) (hO'5.box 0 rfl) g'1_1 rfl) (Zd (.n v) g'1_4 ?_)))))))
     refine Zd (.n d) g'1_5 ?_
     obtain ⟨x,hx'1,hp⟩:=Zt hp
     obtain ⟨u'1,k'6,ca'1,v'1,rfl,hW'1⟩:=z7.ok (h:=k'5)  (hO'5.rd0 s_s_Boxes.rd) (hO'5.rd0 s_s_Edges.rd) hx'1
     refine Za3 (id:=199) (caps:=[]) rfl (Z3 (v:=.ag [v_s_Boxes,v_s_Edges]) rfl (Z3 (v:=.n v) rfl (Z3 (v:=.n d) rfl zn))) ca'1 ?_
     have hO'6:=hO'5.call hW'1 rfl
     refine Zd v'1 rfl (Zb (Za (Zo (Zd (.n n2) g'1_3 (Zd v'1 rfl (Ze (Zah (hO'6.sl 1 rfl) rfl) ?_))))))
     obtain ⟨c'3,hp⟩:=Zj hp
     refine Ze (zp (a:=n2) (b:=(x.length:Int)) rfl rfl c'3) (Zd (.n (n2 + (x.length:Int))) rfl (Zb (Zac (Za (Zo (Zd (.n d) g'1_5 ?_))))))
     obtain ⟨c'4,hp⟩:=Zj hp
     refine Ze (zp (a:=d) (b:=1) rfl rfl c'4) (Zd (.n (d + 1)) rfl (Zb ?_))
     cases hp
     exact (Or.inl ⟨(n2 + (x.length:Int),d + 1),rfl,rfl,g'1_1,rfl,g'1_4,rfl,(hO'6.pick [0] rfl (by decide))⟩)
    ·refine zN (t:=t) g'1_25 b'3 ?_
     refine ZaT (zR ?_)
     cases hp
     refine (Or.inr ⟨n2,rfl,(fun h=>nomatch h),(fun he=>?_)⟩)
     subst he; exact ⟨rfl,g'1_1,g'1_3,g'1_4,(hO'5.pick [0] rfl (by decide))⟩
   intro e'2 q'3 k'4 hJ'2
   obtain ⟨n3,rfl⟩:∃ x,x = o'3:=⟨_,rfl⟩
   obtain ⟨rfl,q'3_1,q'3_3,q'3_4,hO'4⟩:=hJ'2
   refine Zaq (Za (Zk (Zo (Ze (z6 (r:=r'1) (o:=0) (o':=0) q'3_1 rfl) (Ze (zi (cs:=[v_s_Boxes,v_s_Edges]) (v:=v_s_Boxes) (hO'4.box 0 rfl) rfl rfl) (Zd (.n v) q'3_4 ?_))))))
   obtain ⟨c'5,hp⟩:=Zj hp
   refine Ze (zz (E:=e_bool) (z:=v) (hO'4.rd0 s_s_Boxes.rd) rfl rfl c'5) (Ze (zS (w:=.b (gi s.Boxes v.toNat)) (hO'4.rd0 s_s_Boxes.rd) rfl (Zp c'5) rfl) (Zb (Za ?_)))
   rcases Z2 hp with ⟨b'4,hp⟩ | ⟨b'4,hp⟩
   ·refine zO (t:=(gi s.Boxes v.toNat)) rfl b'4 ?_
    refine Zo (Zd (.n n3) q'3_3 ?_)
    obtain ⟨c'6,hp⟩:=Zj hp
    refine Ze (zp (a:=n3) (b:=3) rfl rfl c'6) (Zd (.n (n3 + 3)) rfl (Zb (Zac (Za (Zo (Zd (.n v) q'3_4 ?_))))))
    obtain ⟨c'7,hp⟩:=Zj hp
    refine Ze (zp (a:=v) (b:=1) rfl rfl c'7) (Zd (.n (v + 1)) rfl (Zb ?_))
    cases hp
    exact (Or.inl ⟨(n3 + 3,v + 1),rfl,rfl,q'3_1,rfl,rfl,(hO'4.pick [0] rfl (by decide))⟩)
   ·refine zN (t:=(gi s.Boxes v.toNat)) rfl b'4 ?_
    refine zU (Zac (Za (Zo (Zd (.n v) q'3_4 ?_))))
    obtain ⟨c'8,hp⟩:=Zj hp
    refine Ze (zp (a:=v) (b:=1) rfl rfl c'8) (Zd (.n (v + 1)) rfl (Zb ?_))
    cases hp
    exact (Or.inl ⟨(n3,v + 1),rfl,rfl,q'3_1,q'3_3,rfl,(hO'4.pick [0] rfl (by decide))⟩)
  ·refine zN (t:=(decide (v < (s.Boxes.length:Int)))) rfl b'1 ?_
   refine ZaT (zR ?_)
   cases hp
   refine (Or.inr ⟨n,rfl,(fun h=>nomatch h),(fun he=>?_)⟩)
   subst he; exact ⟨rfl,q'2_1,q'2_3,(hO'3.pick [0] rfl (by decide))⟩
 intro e'1 q'1 k'2 hJ'1
 obtain ⟨n1,rfl⟩:∃ x,x = o'1:=⟨_,rfl⟩
 obtain ⟨rfl,q'1_1,q'1_3,hO'2⟩:=hJ'1
 refine Zaq (Za (Zk (Zk (Zo (Zd (.n 0) rfl (Zb (Za ?_)))))))
 refine Zaa ?_
 obtain ⟨o'5,ho'3,hp⟩:=Zt hp
 refine W.mono (Q:=fun e fr k=>match (generalizing:=false) o'5 with
   | n5=>e = (.exit 4)∧fr 3 = .n n5∧Own B h k []) ?_ ?_
 ·clear hp
  refine z9 (fun st fr k=>match st with | (n4,i)=>fr 1 = .p r'1 0∧fr 3 = .n n4∧fr 7 = .n i∧Own B h k [zQ r'1 [v_s_Boxes,v_s_Edges]]) ho'3 (s:=(n1,0)) ⟨q'1_1,q'1_3,rfl,(hO'2.pick [0] rfl (by decide))⟩ ?_
  rintro ⟨n4,i⟩ q'6 k'8 ⟨q'6_1,q'6_3,q'6_7,hO'8⟩ o'6 hp
  dsimp only [ZZ.s2] at hp
  refine Zk (Zk (Zo (Zd (.n i) q'6_7 (Ze (z6 (r:=r'1) (o:=0) (o':=1) q'6_1 rfl) (Ze (zi (cs:=[v_s_Boxes,v_s_Edges]) (v:=v_s_Edges) (hO'8.box 0 rfl) rfl rfl) (Ze (Zah (hO'8.rd0 s_s_Edges.rd) rfl) (Ze (zG (a:=i) (b:=(s.Edges.length:Int)) rfl rfl) ?_)))))))
  refine Zb (Za ?_)
  rcases Z2 hp with ⟨b'5,hp⟩ | ⟨b'5,hp⟩
  ·refine zO (t:=(decide (i < (s.Edges.length:Int)))) rfl b'5 ?_
   refine zU (Za (Zk (Zaa (Zo (Zd (.n n4) q'6_3 (Ze (z6 (r:=r'1) (o:=0) (o':=1) q'6_1 rfl) (Ze (zi (cs:=[v_s_Boxes,v_s_Edges]) (v:=v_s_Edges) (hO'8.box 0 rfl) rfl rfl) ?_)))))))
   refine Zd (.n i) q'6_7 ?_
   obtain ⟨c'9,hp⟩:=Zj hp
   refine Ze (zz (E:=Zr) (z:=i) (hO'8.rd0 s_s_Edges.rd) rfl rfl c'9) (Ze (ZaE (off':=0) (off2:=3) (hO'8.rd0 s_s_Edges.rd) (Zp c'9) rfl rfl) (Ze (zS (w:=.s ((gi s.Edges i.toNat).Bends)) (hO'8.rd0 s_s_Edges.rd) rfl (Zp c'9) rfl) (Ze (ZeM (a:=((gi s.Edges i.toNat).Bends)) rfl) ?_)))
   obtain ⟨c'10,hp⟩:=Zj hp
   refine Ze (zp (a:=n4) (b:=(((gi s.Edges i.toNat).Bends).size:Int)) rfl rfl c'10) (Zd (.n (n4 + (((gi s.Edges i.toNat).Bends).size:Int))) rfl (Zb (Zac (Za (Zo (Zd (.n i) q'6_7 ?_))))))
   obtain ⟨c'11,hp⟩:=Zj hp
   refine Ze (zp (a:=i) (b:=1) rfl rfl c'11) (Zd (.n (i + 1)) rfl (Zb ?_))
   cases hp
   exact (Or.inl ⟨(n4 + (((gi s.Edges i.toNat).Bends).size:Int),i + 1),rfl,rfl,q'6_1,rfl,rfl,(hO'8.pick [0] rfl (by decide))⟩)
  ·refine zN (t:=(decide (i < (s.Edges.length:Int)))) rfl b'5 ?_
   refine ZaT (zR ?_)
   cases hp
   refine (Or.inr ⟨n4,rfl,(fun h=>nomatch h),(fun he=>?_)⟩)
   subst he; exact ⟨rfl,q'6_3,(hO'8.pick [] rfl (by decide))⟩
 intro e'3 q'5 k'7 hJ'3
 obtain ⟨n5,rfl⟩:∃ x,x = o'5:=⟨_,rfl⟩
 obtain ⟨rfl,q'5_3,hO'7⟩:=hJ'3
 refine Zaq (Za (Zk (Zo (Zd (.n n5) q'5_3 (Zd (.n n5) rfl (Zb (Za ?_)))))))
 refine Za2 (zW (Zax (n:=2) (v:=.n n5) rfl zx) ?_)
 cases hp
 exact ⟨rfl,(hO'7.pick [] rfl (by decide))⟩

theorem ZU.ok {h:Hp} {s:zk} {v_s_Boxes:V} {v_s_Edges:V} (s_s_Boxes:Sl e_bool h v_s_Boxes s.Boxes) (s_s_Edges:Sl Zr h v_s_Edges s.Edges) {r:Int} (hp:ZU s = some r) :
  ∃ u k',Is G 174 [.ag [v_s_Boxes,v_s_Edges]] h u k'∧V.n r = u∧Own (fun r=>r < h.n) h k' []:=by
 refine WC.is (ZaM Zcc ?_)
 unfold ZU at hp
 let B:Nat→Prop:=(fun r=>r < h.n)
 have hO:Own B h h []:=Own.start0 h
 refine Zk (Zo (zy (hO.boxd (v:=.ag [v_s_Boxes,v_s_Edges]) (cs:=[v_s_Boxes,v_s_Edges]) hO.fr rfl rfl) ?_))
 rintro _ k'1 ⟨r'1,rfl,n'1,f'1,hW⟩
 have hO'1:=hW
 refine Zd (.n 0) rfl (Zb (Za (Zk (Zo (Ze (Zaz (cs:=[v_s_Boxes,v_s_Edges]) (ws:=[v_s_Boxes,v_s_Edges]) (hO'1.box 0 rfl) rfl rfl) ?_)))))
 obtain ⟨x,hx'1,hp⟩:=Zt hp
 obtain ⟨u'1,k'2,ca'1,rfl,hW'1⟩:=zl.ok (h:=k'1)  (hO'1.rd0 s_s_Boxes.rd) (hO'1.rd0 s_s_Edges.rd) hx'1
 refine Za3 (id:=197) (caps:=[]) rfl (Z3 (v:=.ag [v_s_Boxes,v_s_Edges]) rfl zn) ca'1 ?_
 have hO'2:=hO'1.call hW'1 rfl
 refine Zd (.n x) rfl (Zb (Za (Zk (Zk (Zo (Zd (.n x) rfl (Ze (ZcE (a:=x) (b:=0) rfl rfl) ?_)))))))
 refine Zb (Za ?_)
 rcases Z2 hp with ⟨b'1,hp⟩ | ⟨b'1,hp⟩
 ·refine zO (t:=(!(decide (x = 0)))) rfl b'1 ?_
  refine Zk (Zo (Zd (.n x) rfl (Zd (.n x) rfl (Zb (Za (Za2 (Zaf ?_)))))))
  refine zW (Zax (n:=2) (v:=.n x) rfl zx) ?_
  cases hp
  exact ⟨rfl,(hO'2.pick [] rfl (by decide))⟩
 ·refine zN (t:=(!(decide (x = 0)))) rfl b'1 ?_
  refine zU (Za (Zk (Zo (Ze (Zaz (cs:=[v_s_Boxes,v_s_Edges]) (ws:=[v_s_Boxes,v_s_Edges]) (hO'2.box 0 rfl) rfl rfl) ?_))))
  obtain ⟨x1,hx'2,hp⟩:=Zt hp
  obtain ⟨u'2,k'3,ca'2,rfl,hW'2⟩:=ZZ.ok (h:=k'2)  (hO'2.rd0 s_s_Boxes.rd) (hO'2.rd0 s_s_Edges.rd) hx'2
  refine Za3 (id:=198) (caps:=[]) rfl (Z3 (v:=.ag [v_s_Boxes,v_s_Edges]) rfl zn) ca'2 ?_
  have hO'3:=hO'2.call hW'2 rfl
  refine Zd (.n x1) rfl (Zb (Za (Zk (Zk (Zo (Zd (.n x1) rfl (Ze (ZcD (a:=x1) (b:=4096) rfl rfl) ?_)))))))
  refine Zb (Za ?_)
  rcases Z2 hp with ⟨b'2,hp⟩ | ⟨b'2,hp⟩
  ·refine zO (t:=(decide (4096 < x1))) rfl b'2 ?_
   refine Zk (Zo (Zd (.n 6) rfl (Zb (Za (Za2 (Zaf (zW (Zax (n:=2) (v:=.n 6) rfl zx) ?_)))))))
   cases hp
   exact ⟨rfl,(hO'3.pick [] rfl (by decide))⟩
  ·refine zN (t:=(decide (4096 < x1))) rfl b'2 ?_
   refine zU (Za (Zk (Zk (Zo (Zd (.n 0) rfl (Zb (Za ?_)))))))
   refine Zaa ?_
   obtain ⟨o'1,ho'1,hp⟩:=Zt hp
   refine W.mono (Q:=fun e fr k=>match (generalizing:=false) o'1 with
     | .inl _=>e = (.exit 0)∧fr 1 = .p r'1 0∧Own B h k [zQ r'1 [v_s_Boxes,v_s_Edges]]
     | .inr _=>e = .ret∧fr 2 = .n 8∧Own B h k []) ?_ ?_
   ·clear hp
    refine z9 (fun st fr k=>match st with | v=>fr 1 = .p r'1 0∧fr 5 = .n v∧Own B h k [zQ r'1 [v_s_Boxes,v_s_Edges]]) ho'1 (s:=0) ⟨rfl,rfl,(hO'3.pick [0] rfl (by decide))⟩ ?_
    rintro v q'2 k'5 ⟨q'2_1,q'2_5,hO'5⟩ o'2 hp
    dsimp only [ZU.s0] at hp
    refine Zk (Zk (Zo (Zd (.n v) q'2_5 (Ze (z6 (r:=r'1) (o:=0) (o':=0) q'2_1 rfl) (Ze (zi (cs:=[v_s_Boxes,v_s_Edges]) (v:=v_s_Boxes) (hO'5.box 0 rfl) rfl rfl) (Ze (Zah (hO'5.rd0 s_s_Boxes.rd) rfl) (Ze (zG (a:=v) (b:=(s.Boxes.length:Int)) rfl rfl) ?_)))))))
    refine Zb (Za ?_)
    rcases Z2 hp with ⟨b'3,hp⟩ | ⟨b'3,hp⟩
    ·refine zO (t:=(decide (v < (s.Boxes.length:Int)))) rfl b'3 ?_
     refine zU (Za (Zk (Zaa (Zk (Zo (Zd (.n 0) rfl (Zb ?_)))))))
     refine Za (Zaa ?_)
     obtain ⟨o'3,ho'2,hp⟩:=Zt hp
     refine W.mono (Q:=fun e fr k=>match (generalizing:=false) o'3 with
       | .inl _=>e = (.exit 2)∧fr 1 = .p r'1 0∧fr 5 = .n v∧Own B h k [zQ r'1 [v_s_Boxes,v_s_Edges]]
       | .inr _=>e = .ret∧fr 2 = .n 8∧Own B h k []) ?_ ?_
     ·clear hp
      refine z9 (fun st fr k=>match st with | d=>fr 1 = .p r'1 0∧fr 5 = .n v∧fr 6 = .n d∧Own B h k [zQ r'1 [v_s_Boxes,v_s_Edges]]) ho'2 (s:=0) ⟨q'2_1,q'2_5,rfl,(hO'5.pick [0] rfl (by decide))⟩ ?_
      rintro d q'4 k'7 ⟨q'4_1,q'4_5,q'4_6,hO'7⟩ o'4 hp
      dsimp only [ZU.s1] at hp
      refine Zk (Zk (Zo (Zd (.n d) q'4_6 (Ze (zG (a:=d) (b:=4) rfl rfl) (Zd (.b (decide (d < 4))) rfl ?_)))))
      obtain ⟨t,hv'1,hp⟩:=Zt hp
      refine Zad 7 (fun fr' k'=>k'7 = k'∧fr' 35 = .b t∧fr' 1 = .p r'1 0∧fr' 5 = .n v∧fr' 6 = .n d) ?_ ?_
      ·clear hp; rcases Z2 hv'1 with ⟨b'4,hp⟩ | ⟨b'4,hp⟩
       ·skip
        refine ZB rfl b'4 (Ze (z6 (r:=r'1) (o:=0) (o':=0) q'4_1 rfl) (ZB rfl b'4 (Ze (zi (cs:=[v_s_Boxes,v_s_Edges]) (v:=v_s_Boxes) (hO'7.box 0 rfl) rfl rfl) (ZB rfl b'4 (Zd (.n v) q'4_5 (ZB rfl b'4 ?_))))))
        obtain ⟨c'1,hp⟩:=Zj hp
        refine Ze (zz (E:=e_bool) (z:=v) (hO'7.rd0 s_s_Boxes.rd) rfl rfl c'1) (ZB rfl b'4 (Ze (zS (w:=.b (gi s.Boxes v.toNat)) (hO'7.rd0 s_s_Boxes.rd) rfl (Zp c'1) rfl) (ZB rfl b'4 (Ze (ZcF (t:=(gi s.Boxes v.toNat)) rfl) (Ze (zg (t:=(decide (d < 4))) (v:=.b t) rfl b'4 (Eq.trans (b:=V.b (!(gi s.Boxes v.toNat))) rfl (congrArg V.b (Option.some.inj hp)))) (Zb ?_))))))
        exact ⟨rfl,rfl,q'4_1,q'4_5,q'4_6⟩
       ·skip
        refine Z4 rfl b'4 (Z4 rfl b'4 (Z4 rfl b'4 (Z4 rfl b'4 (Z4 rfl b'4 (Z4 rfl b'4 (Ze (zc (t:=(decide (d < 4))) (v:=.b t) rfl b'4 (Eq.trans (b:=V.b false) rfl (congrArg V.b (Option.some.inj hp)))) (Zb ?_)))))))
        exact ⟨rfl,rfl,q'4_1,q'4_5,q'4_6⟩
      rintro frg'1 _ ⟨rfl,g'1_35,g'1_1,g'1_5,g'1_6⟩
      refine Zb (Za ?_)
      rcases Z2 hp with ⟨b'5,hp⟩ | ⟨b'5,hp⟩
      ·refine zO (t:=t) g'1_35 b'5 ?_
       refine zU (Za (Zk (Zaa (Zk (Zo (Ze (Zaz (cs:=[v_s_Boxes,v_s_Edges]) (ws:=[v_s_Boxes,v_s_Edges]) (hO'7.box 0 rfl) g'1_1 rfl) (Zd (.n v) g'1_5 ?_)))))))
       refine Zd (.n d) g'1_6 ?_
       obtain ⟨x2,hx'3,hp⟩:=Zt hp
       obtain ⟨u'3,k'8,ca'3,v'1,rfl,hW'3⟩:=z7.ok (h:=k'7)  (hO'7.rd0 s_s_Boxes.rd) (hO'7.rd0 s_s_Edges.rd) hx'3
       refine Za3 (id:=199) (caps:=[]) rfl (Z3 (v:=.ag [v_s_Boxes,v_s_Edges]) rfl (Z3 (v:=.n v) rfl (Z3 (v:=.n d) rfl zn))) ca'3 ?_
       have hO'8:=hO'7.call hW'3 rfl
       refine Zd v'1 rfl (Zb (Za (Zk (Zo (Zd v'1 rfl (Ze (Zah (hO'8.sl 1 rfl) rfl) (Ze (ZcD (a:=(x2.length:Int)) (b:=1) rfl rfl) ?_)))))))
       refine Zb (Za ?_)
       rcases Z2 hp with ⟨b'6,hp⟩ | ⟨b'6,hp⟩
       ·refine zO (t:=(decide (1 < (x2.length:Int)))) rfl b'6 ?_
        refine Zk (Zo (Zd (.n 8) rfl (Zb (Za (Za2 (Zbh (Zaf ?_)))))))
        cases hp
        refine (Or.inr ⟨.inr (),rfl,(fun h=>nomatch h),(fun he=>?_)⟩)
        subst he; exact ⟨rfl,rfl,(hO'8.pick [] rfl (by decide))⟩
       ·refine zN (t:=(decide (1 < (x2.length:Int)))) rfl b'6 ?_
        refine zU (Zac (Za (Zo (Zd (.n d) g'1_6 ?_))))
        obtain ⟨c'2,hp⟩:=Zj hp
        refine Ze (zp (a:=d) (b:=1) rfl rfl c'2) (Zd (.n (d + 1)) rfl (Zb ?_))
        cases hp
        exact (Or.inl ⟨d + 1,rfl,rfl,g'1_1,g'1_5,rfl,(hO'8.pick [0] rfl (by decide))⟩)
      ·refine zN (t:=t) g'1_35 b'5 ?_
       refine ZaT (zR ?_)
       cases hp
       refine (Or.inr ⟨.inl (),rfl,(fun h=>nomatch h),(fun he=>?_)⟩)
       subst he; exact ⟨rfl,g'1_1,g'1_5,(hO'7.pick [0] rfl (by decide))⟩
     intro e'2 q'3 k'6 hJ'2
     rcases o'3 with _ | _
     ·obtain ⟨rfl,q'3_1,q'3_5,hO'6⟩:=hJ'2
      refine Zaq (Zac (Za (Zo (Zd (.n v) q'3_5 ?_))))
      obtain ⟨c'3,hp⟩:=Zj hp
      refine Ze (zp (a:=v) (b:=1) rfl rfl c'3) (Zd (.n (v + 1)) rfl (Zb ?_))
      cases hp
      exact (Or.inl ⟨v + 1,rfl,rfl,q'3_1,rfl,(hO'6.pick [0] rfl (by decide))⟩)
     ·obtain ⟨rfl,q'3_2,hO'6⟩:=hJ'2
      refine Zbh (Zbh (Zaf ?_))
      cases hp
      refine (Or.inr ⟨.inr (),rfl,(fun h=>nomatch h),(fun he=>?_)⟩)
      subst he; exact ⟨rfl,q'3_2,(hO'6.pick [] rfl (by decide))⟩
    ·refine zN (t:=(decide (v < (s.Boxes.length:Int)))) rfl b'3 ?_
     refine ZaT (zR ?_)
     cases hp
     refine (Or.inr ⟨.inl (),rfl,(fun h=>nomatch h),(fun he=>?_)⟩)
     subst he; exact ⟨rfl,q'2_1,(hO'5.pick [0] rfl (by decide))⟩
   intro e'1 q'1 k'4 hJ'1
   rcases o'1 with _ | _
   ·obtain ⟨rfl,q'1_1,hO'4⟩:=hJ'1
    refine Zaq (Za (Zk (Zk (Zo (Zd (.n 0) rfl (Zb (Za ?_)))))))
    refine Zaa ?_
    obtain ⟨o'5,ho'3,hp⟩:=Zt hp
    refine W.mono (Q:=fun e fr k=>match (generalizing:=false) o'5 with
      | .inl _=>e = (.exit 4)∧Own B h k []
      | .inr _=>e = .ret∧fr 2 = .n 10∧Own B h k []) ?_ ?_
    ·clear hp
     refine z9 (fun st fr k=>match st with | i=>fr 1 = .p r'1 0∧fr 8 = .n i∧Own B h k [zQ r'1 [v_s_Boxes,v_s_Edges]]) ho'3 (s:=0) ⟨q'1_1,rfl,(hO'4.pick [0] rfl (by decide))⟩ ?_
     rintro i q'6 k'10 ⟨q'6_1,q'6_8,hO'10⟩ o'6 hp
     dsimp only [ZU.s2] at hp
     refine Zk (Zk (Zo (Zd (.n i) q'6_8 (Ze (z6 (r:=r'1) (o:=0) (o':=1) q'6_1 rfl) (Ze (zi (cs:=[v_s_Boxes,v_s_Edges]) (v:=v_s_Edges) (hO'10.box 0 rfl) rfl rfl) (Ze (Zah (hO'10.rd0 s_s_Edges.rd) rfl) (Ze (zG (a:=i) (b:=(s.Edges.length:Int)) rfl rfl) ?_)))))))
     refine Zb (Za ?_)
     rcases Z2 hp with ⟨b'7,hp⟩ | ⟨b'7,hp⟩
     ·refine zO (t:=(decide (i < (s.Edges.length:Int)))) rfl b'7 ?_
      refine zU (Za (Zk (Zaa (Zk (Zo (Ze (z6 (r:=r'1) (o:=0) (o':=1) q'6_1 rfl) (Ze (zi (cs:=[v_s_Boxes,v_s_Edges]) (v:=v_s_Edges) (hO'10.box 0 rfl) rfl rfl) ?_)))))))
      refine Zd (.n i) q'6_8 ?_
      obtain ⟨c'4,hp⟩:=Zj hp
      refine Ze (zz (E:=Zr) (z:=i) (hO'10.rd0 s_s_Edges.rd) rfl rfl c'4) (Ze (ZdX (E:=Zr) (hO'10.rd0 s_s_Edges.rd) rfl (Zp c'4)) (zy (hO'10.alloc (cs:=Zr.c (⟨0,0,0,(⟨#[]⟩:ByteArray)⟩:z8)) hO'10.fr) ?_))
      rintro _ k'11 ⟨r'2,rfl,n'2,f'2,hW⟩
      have hO'11:=hW
      refine zy (hO'11.stb (ws:=Zr.c (gi s.Edges i.toNat)) (cs':=Zr.c (gi s.Edges i.toNat)) (v:=.ag (Zr.c (gi s.Edges i.toNat))) 1 rfl rfl rfl rfl ⟨rfl,Nat.le_of_ble_eq_true rfl,rfl⟩ rfl) ?_
      rintro _ k'12 ⟨rfl,f'3,m'1,hW⟩
      have hO'12:=hW
      refine Zb (Za (Zk (Zo (Ze (z6 (r:=r'2) (o:=0) (o':=0) rfl rfl) (Ze (zi (cs:=(Zr.c (gi s.Edges i.toNat))) (v:=.n ((gi s.Edges i.toNat).From)) (hO'12.box 1 rfl) rfl rfl) (Ze (z6 (r:=r'2) (o:=0) (o':=1) rfl rfl) (Ze (zi (cs:=(Zr.c (gi s.Edges i.toNat))) (v:=.n ((gi s.Edges i.toNat).To)) (hO'12.box 1 rfl) rfl rfl) ?_)))))))
      refine Ze (ZaW (a:=((gi s.Edges i.toNat).From)) (b:=((gi s.Edges i.toNat).To)) rfl rfl) (Zd (.b (decide ((gi s.Edges i.toNat).From = (gi s.Edges i.toNat).To))) rfl ?_)
      refine Zad 4 (fun fr' k'=>k'12 = k'∧fr' 66 = .b ((decide ((gi s.Edges i.toNat).From = (gi s.Edges i.toNat).To)) && (((gi s.Edges i.toNat).Bends).toList == (⟨#[]⟩:ByteArray).toList))∧fr' 1 = .p r'1 0∧fr' 8 = .n i∧fr' 9 = .p r'2 0) ?_ ?_
      ·rcases bc (decide ((gi s.Edges i.toNat).From = (gi s.Edges i.toNat).To)) with b'8 | b'8
       ·skip
        refine ZB rfl b'8 (Ze (z6 (r:=r'2) (o:=0) (o':=3) rfl rfl) (ZB rfl b'8 (Ze (zi (cs:=(Zr.c (gi s.Edges i.toNat))) (v:=.s ((gi s.Edges i.toNat).Bends)) (hO'12.box 1 rfl) rfl rfl) (ZB rfl b'8 (Ze (ZkU (a:=((gi s.Edges i.toNat).Bends)) (b:=(⟨#[]⟩:ByteArray)) rfl rfl) (Ze (zg (t:=(decide ((gi s.Edges i.toNat).From = (gi s.Edges i.toNat).To))) (v:=.b ((decide ((gi s.Edges i.toNat).From = (gi s.Edges i.toNat).To)) && (((gi s.Edges i.toNat).Bends).toList == (⟨#[]⟩:ByteArray).toList))) rfl b'8 (Eq.trans (b:=V.b (((gi s.Edges i.toNat).Bends).toList == (⟨#[]⟩:ByteArray).toList)) rfl (ZbS b'8))) (Zb ?_)))))))
        exact ⟨rfl,rfl,q'6_1,q'6_8,rfl⟩
       ·skip
        refine Z4 rfl b'8 (Z4 rfl b'8 (Z4 rfl b'8 (Ze (zc (t:=(decide ((gi s.Edges i.toNat).From = (gi s.Edges i.toNat).To))) (v:=.b ((decide ((gi s.Edges i.toNat).From = (gi s.Edges i.toNat).To)) && (((gi s.Edges i.toNat).Bends).toList == (⟨#[]⟩:ByteArray).toList))) rfl b'8 (Eq.trans (b:=V.b false) rfl (Zbw b'8))) (Zb ?_))))
        exact ⟨rfl,rfl,q'6_1,q'6_8,rfl⟩
      rintro frg'2 _ ⟨rfl,g'2_66,g'2_1,g'2_8,g'2_9⟩
      refine Zd (.b ((decide ((gi s.Edges i.toNat).From = (gi s.Edges i.toNat).To)) && (((gi s.Edges i.toNat).Bends).toList == (⟨#[]⟩:ByteArray).toList))) g'2_66 ?_
      obtain ⟨t1,hv'2,hp⟩:=Zt hp
      refine Zad 8 (fun fr' k'=>k'12 = k'∧fr' 75 = .b t1∧fr' 1 = .p r'1 0∧fr' 8 = .n i) ?_ ?_
      ·clear hp; rcases Z2 hv'2 with ⟨b'9,hp⟩ | ⟨b'9,hp⟩
       ·skip
        refine ZB rfl b'9 (Ze (z6 (r:=r'1) (o:=0) (o':=0) g'2_1 rfl) (ZB rfl b'9 (Ze (zi (cs:=[v_s_Boxes,v_s_Edges]) (v:=v_s_Boxes) (hO'12.box 0 rfl) rfl rfl) (ZB rfl b'9 (Ze (z6 (r:=r'2) (o:=0) (o':=0) g'2_9 rfl) (ZB rfl b'9 (Ze (zi (cs:=(Zr.c (gi s.Edges i.toNat))) (v:=.n ((gi s.Edges i.toNat).From)) (hO'12.box 1 rfl) rfl rfl) ?_)))))))
        refine ZB rfl b'9 ?_
        obtain ⟨c'5,hp⟩:=Zj hp
        refine Ze (zz (E:=e_bool) (z:=((gi s.Edges i.toNat).From)) (hO'12.rd0 s_s_Boxes.rd) rfl rfl c'5) (ZB rfl b'9 (Ze (zS (w:=.b (gi s.Boxes ((gi s.Edges i.toNat).From:Int).toNat)) (hO'12.rd0 s_s_Boxes.rd) rfl (Zp c'5) rfl) (ZB rfl b'9 (Ze (ZcF (t:=(gi s.Boxes ((gi s.Edges i.toNat).From:Int).toNat)) rfl) (Ze (zg (t:=((decide ((gi s.Edges i.toNat).From = (gi s.Edges i.toNat).To)) && (((gi s.Edges i.toNat).Bends).toList == (⟨#[]⟩:ByteArray).toList))) (v:=.b t1) rfl b'9 (Eq.trans (b:=V.b (!(gi s.Boxes ((gi s.Edges i.toNat).From:Int).toNat))) rfl (congrArg V.b (Option.some.inj hp)))) (Zb ?_))))))
        exact ⟨rfl,rfl,g'2_1,g'2_8⟩
       ·skip
        refine Z4 rfl b'9 (Z4 rfl b'9 (Z4 rfl b'9 (Z4 rfl b'9 (Z4 rfl b'9 (Z4 rfl b'9 (Z4 rfl b'9 (Ze (zc (t:=((decide ((gi s.Edges i.toNat).From = (gi s.Edges i.toNat).To)) && (((gi s.Edges i.toNat).Bends).toList == (⟨#[]⟩:ByteArray).toList))) (v:=.b t1) rfl b'9 (Eq.trans (b:=V.b false) rfl (congrArg V.b (Option.some.inj hp)))) ?_)))))))
        refine Zb ?_
        exact ⟨rfl,rfl,g'2_1,g'2_8⟩
      rintro frg'3 _ ⟨rfl,g'3_75,g'3_1,g'3_8⟩
      refine Zb (Za ?_)
      rcases Z2 hp with ⟨b'10,hp⟩ | ⟨b'10,hp⟩
      ·refine zO (t:=t1) g'3_75 b'10 ?_
       refine Zk (Zo (Zd (.n 10) rfl (Zb (Za (Za2 (Zbh (Zaf ?_)))))))
       cases hp
       refine (Or.inr ⟨.inr (),rfl,(fun h=>nomatch h),(fun he=>?_)⟩)
       subst he; exact ⟨rfl,rfl,(hO'12.pick [] rfl (by decide))⟩
      ·refine zN (t:=t1) g'3_75 b'10 ?_
       refine zU (Zac (Za (Zo (Zd (.n i) g'3_8 ?_))))
       obtain ⟨c'6,hp⟩:=Zj hp
       refine Ze (zp (a:=i) (b:=1) rfl rfl c'6) (Zd (.n (i + 1)) rfl (Zb ?_))
       cases hp
       exact (Or.inl ⟨i + 1,rfl,rfl,g'3_1,rfl,(hO'12.pick [0] rfl (by decide))⟩)
     ·refine zN (t:=(decide (i < (s.Edges.length:Int)))) rfl b'7 ?_
      refine ZaT (zR ?_)
      cases hp
      refine (Or.inr ⟨.inl (),rfl,(fun h=>nomatch h),(fun he=>?_)⟩)
      subst he; exact ⟨rfl,(hO'10.pick [] rfl (by decide))⟩
    intro e'3 q'5 k'9 hJ'3
    rcases o'5 with _ | _
    ·obtain ⟨rfl,hO'9⟩:=hJ'3
     refine Zaq (Za (Zk (Zo (Zd (.n 0) rfl (Zb (Za (Za2 ?_)))))))
     refine zW (Zax (n:=2) (v:=.n 0) rfl zx) ?_
     cases hp
     exact ⟨rfl,(hO'9.pick [] rfl (by decide))⟩
    ·obtain ⟨rfl,q'5_2,hO'9⟩:=hJ'3
     refine Zbh (Zaf (zW (Zax (n:=2) (v:=.n 10) q'5_2 zx) ?_))
     cases hp
     exact ⟨rfl,(hO'9.pick [] rfl (by decide))⟩
   ·obtain ⟨rfl,q'1_2,hO'4⟩:=hJ'1
    refine Zbh (Zaf (zW (Zax (n:=2) (v:=.n 8) q'1_2 zx) ?_))
    cases hp
    exact ⟨rfl,(hO'4.pick [] rfl (by decide))⟩

theorem zh.ok {h:Hp} {l:List Zc} {v:Int} {d:Int} {w:Int} {o:Int} {v_l:V} (H:Own (Bm h [eSl Zf v_l l]) h h [eSl Zf v_l l]) {r:(List Zc) × Int} (hp:zh l v d w o = some r) :
  ∃ u k',Is G 53 [v_l,.n v,.n d,.n w,.n o] h u k'∧∃ (v'1:V),V.tu [v'1,.n r.2] = u∧Own (Bm h [eSl Zf v_l l]) h k' [eSl Zf v'1 r.1]:=by
 refine WC.is (ZaM Zcq ?_)
 unfold zh at hp
 let B:Nat→Prop:=(Bm h [eSl Zf v_l l])
 have hO:Own B h h [eSl Zf v_l l]:=H
 refine Zk (Zo (Zd (.sn) rfl (Zd (.n 0) rfl (Zb (Za (Zk (Zk ?_)))))))
 refine Zo (Zd (.n v) rfl (Ze (zG (a:=v) (b:=0) rfl rfl) (Zd (.b (decide (v < 0))) rfl ?_)))
 refine Zad 5 (fun fr' k'=>h = k'∧fr' 20 = .b ((decide (v < 0)) || (decide ((l.length:Int)≤v)))∧fr' 0 = v_l∧fr' 1 = .n v∧fr' 2 = .n d∧fr' 3 = .n w∧fr' 4 = .n o) ?_ ?_
 ·rcases bc (decide (v < 0)) with b'1 | b'1
  ·skip
   refine Z4 rfl b'1 (Z4 rfl b'1 (Z4 rfl b'1 (Z4 rfl b'1 (Ze (zg (t:=(decide (v < 0))) (v:=.b ((decide (v < 0)) || (decide ((l.length:Int)≤v)))) rfl b'1 (Eq.trans (b:=V.b true) rfl (Zbg b'1))) (Zb ?_)))))
   exact ⟨rfl,rfl,rfl,rfl,rfl,rfl,rfl⟩
  ·skip
   refine ZB rfl b'1 (Zd (.n v) rfl (ZB rfl b'1 (Zd v_l rfl (ZB rfl b'1 (Ze (Zah (hO.sl 0 rfl) rfl) (ZB rfl b'1 (Ze (ZcC (a:=v) (b:=(l.length:Int)) rfl rfl) ?_)))))))
   refine Ze (zc (t:=(decide (v < 0))) (v:=.b ((decide (v < 0)) || (decide ((l.length:Int)≤v)))) rfl b'1 (Eq.trans (b:=V.b (decide ((l.length:Int)≤v))) rfl (Zb7 b'1))) (Zb ?_)
   exact ⟨rfl,rfl,rfl,rfl,rfl,rfl,rfl⟩
 rintro frg'1 _ ⟨rfl,g'1_20,g'1_0,g'1_1,g'1_2,g'1_3,g'1_4⟩
 refine Zd (.b ((decide (v < 0)) || (decide ((l.length:Int)≤v)))) g'1_20 ?_
 refine Zad 3 (fun fr' k'=>h = k'∧fr' 24 = .b (((decide (v < 0)) || (decide ((l.length:Int)≤v))) || (decide (w < 0)))∧fr' 0 = v_l∧fr' 1 = .n v∧fr' 2 = .n d∧fr' 3 = .n w∧fr' 4 = .n o) ?_ ?_
 ·rcases bc ((decide (v < 0)) || (decide ((l.length:Int)≤v))) with b'2 | b'2
  ·skip
   refine Z4 rfl b'2 (Z4 rfl b'2 (Ze (zg (t:=((decide (v < 0)) || (decide ((l.length:Int)≤v)))) (v:=.b (((decide (v < 0)) || (decide ((l.length:Int)≤v))) || (decide (w < 0)))) rfl b'2 (Eq.trans (b:=V.b true) rfl (Zbg b'2))) (Zb ?_)))
   exact ⟨rfl,rfl,g'1_0,g'1_1,g'1_2,g'1_3,g'1_4⟩
  ·skip
   refine ZB rfl b'2 (Zd (.n w) g'1_3 (ZB rfl b'2 (Ze (zG (a:=w) (b:=0) rfl rfl) (Ze (zc (t:=((decide (v < 0)) || (decide ((l.length:Int)≤v)))) (v:=.b (((decide (v < 0)) || (decide ((l.length:Int)≤v))) || (decide (w < 0)))) rfl b'2 (Eq.trans (b:=V.b (decide (w < 0))) rfl (Zb7 b'2))) (Zb ?_)))))
   exact ⟨rfl,rfl,g'1_0,g'1_1,g'1_2,g'1_3,g'1_4⟩
 rintro frg'2 _ ⟨rfl,g'2_24,g'2_0,g'2_1,g'2_2,g'2_3,g'2_4⟩
 refine Zd (.b (((decide (v < 0)) || (decide ((l.length:Int)≤v))) || (decide (w < 0)))) g'2_24 ?_
 refine Zad 5 (fun fr' k'=>h = k'∧fr' 30 = .b ((((decide (v < 0)) || (decide ((l.length:Int)≤v))) || (decide (w < 0))) || (decide ((l.length:Int)≤w)))∧fr' 0 = v_l∧fr' 1 = .n v∧fr' 2 = .n d∧fr' 3 = .n w∧fr' 4 = .n o) ?_ ?_
 ·rcases bc (((decide (v < 0)) || (decide ((l.length:Int)≤v))) || (decide (w < 0))) with b'3 | b'3
  ·skip
   refine Z4 rfl b'3 (Z4 rfl b'3 (Z4 rfl b'3 (Z4 rfl b'3 (Ze (zg (t:=(((decide (v < 0)) || (decide ((l.length:Int)≤v))) || (decide (w < 0)))) (v:=.b ((((decide (v < 0)) || (decide ((l.length:Int)≤v))) || (decide (w < 0))) || (decide ((l.length:Int)≤w)))) rfl b'3 (Eq.trans (b:=V.b true) rfl (Zbg b'3))) (Zb ?_)))))
   exact ⟨rfl,rfl,g'2_0,g'2_1,g'2_2,g'2_3,g'2_4⟩
  ·skip
   refine ZB rfl b'3 (Zd (.n w) g'2_3 (ZB rfl b'3 (Zd v_l g'2_0 (ZB rfl b'3 (Ze (Zah (hO.sl 0 rfl) rfl) (ZB rfl b'3 (Ze (ZcC (a:=w) (b:=(l.length:Int)) rfl rfl) ?_)))))))
   refine Ze (zc (t:=(((decide (v < 0)) || (decide ((l.length:Int)≤v))) || (decide (w < 0)))) (v:=.b ((((decide (v < 0)) || (decide ((l.length:Int)≤v))) || (decide (w < 0))) || (decide ((l.length:Int)≤w)))) rfl b'3 (Eq.trans (b:=V.b (decide ((l.length:Int)≤w))) rfl (Zb7 b'3))) (Zb ?_)
   exact ⟨rfl,rfl,g'2_0,g'2_1,g'2_2,g'2_3,g'2_4⟩
 rintro frg'3 _ ⟨rfl,g'3_30,g'3_0,g'3_1,g'3_2,g'3_3,g'3_4⟩
 refine Zd (.b ((((decide (v < 0)) || (decide ((l.length:Int)≤v))) || (decide (w < 0))) || (decide ((l.length:Int)≤w)))) g'3_30 ?_
 refine Zad 4 (fun fr' k'=>h = k'∧fr' 35 = .b (((((decide (v < 0)) || (decide ((l.length:Int)≤v))) || (decide (w < 0))) || (decide ((l.length:Int)≤w))) || (decide (v = w)))∧fr' 0 = v_l∧fr' 1 = .n v∧fr' 2 = .n d∧fr' 3 = .n w∧fr' 4 = .n o) ?_ ?_
 ·rcases bc ((((decide (v < 0)) || (decide ((l.length:Int)≤v))) || (decide (w < 0))) || (decide ((l.length:Int)≤w))) with b'4 | b'4
  ·skip
   refine Z4 rfl b'4 (Z4 rfl b'4 (Z4 rfl b'4 (Ze (zg (t:=((((decide (v < 0)) || (decide ((l.length:Int)≤v))) || (decide (w < 0))) || (decide ((l.length:Int)≤w)))) (v:=.b (((((decide (v < 0)) || (decide ((l.length:Int)≤v))) || (decide (w < 0))) || (decide ((l.length:Int)≤w))) || (decide (v = w)))) rfl b'4 (Eq.trans (b:=V.b true) rfl (Zbg b'4))) (Zb ?_))))
   exact ⟨rfl,rfl,g'3_0,g'3_1,g'3_2,g'3_3,g'3_4⟩
  ·skip
   refine ZB rfl b'4 (Zd (.n v) g'3_1 (ZB rfl b'4 (Zd (.n w) g'3_3 (ZB rfl b'4 (Ze (ZaW (a:=v) (b:=w) rfl rfl) (Ze (zc (t:=((((decide (v < 0)) || (decide ((l.length:Int)≤v))) || (decide (w < 0))) || (decide ((l.length:Int)≤w)))) (v:=.b (((((decide (v < 0)) || (decide ((l.length:Int)≤v))) || (decide (w < 0))) || (decide ((l.length:Int)≤w))) || (decide (v = w)))) rfl b'4 (Eq.trans (b:=V.b (decide (v = w))) rfl (Zb7 b'4))) (Zb ?_)))))))
   exact ⟨rfl,rfl,g'3_0,g'3_1,g'3_2,g'3_3,g'3_4⟩
 rintro frg'4 _ ⟨rfl,g'4_35,g'4_0,g'4_1,g'4_2,g'4_3,g'4_4⟩
 refine Zd (.b (((((decide (v < 0)) || (decide ((l.length:Int)≤v))) || (decide (w < 0))) || (decide ((l.length:Int)≤w))) || (decide (v = w)))) g'4_35 ?_
 refine Zad 3 (fun fr' k'=>h = k'∧fr' 39 = .b ((((((decide (v < 0)) || (decide ((l.length:Int)≤v))) || (decide (w < 0))) || (decide ((l.length:Int)≤w))) || (decide (v = w))) || (decide (d < 0)))∧fr' 0 = v_l∧fr' 1 = .n v∧fr' 2 = .n d∧fr' 3 = .n w∧fr' 4 = .n o) ?_ ?_
 ·rcases bc (((((decide (v < 0)) || (decide ((l.length:Int)≤v))) || (decide (w < 0))) || (decide ((l.length:Int)≤w))) || (decide (v = w))) with b'5 | b'5
  ·skip
   refine Z4 rfl b'5 (Z4 rfl b'5 (Ze (zg (t:=(((((decide (v < 0)) || (decide ((l.length:Int)≤v))) || (decide (w < 0))) || (decide ((l.length:Int)≤w))) || (decide (v = w)))) (v:=.b ((((((decide (v < 0)) || (decide ((l.length:Int)≤v))) || (decide (w < 0))) || (decide ((l.length:Int)≤w))) || (decide (v = w))) || (decide (d < 0)))) rfl b'5 (Eq.trans (b:=V.b true) rfl (Zbg b'5))) (Zb ?_)))
   exact ⟨rfl,rfl,g'4_0,g'4_1,g'4_2,g'4_3,g'4_4⟩
  ·skip
   refine ZB rfl b'5 (Zd (.n d) g'4_2 (ZB rfl b'5 (Ze (zG (a:=d) (b:=0) rfl rfl) (Ze (zc (t:=(((((decide (v < 0)) || (decide ((l.length:Int)≤v))) || (decide (w < 0))) || (decide ((l.length:Int)≤w))) || (decide (v = w)))) (v:=.b ((((((decide (v < 0)) || (decide ((l.length:Int)≤v))) || (decide (w < 0))) || (decide ((l.length:Int)≤w))) || (decide (v = w))) || (decide (d < 0)))) rfl b'5 (Eq.trans (b:=V.b (decide (d < 0))) rfl (Zb7 b'5))) (Zb ?_)))))
   exact ⟨rfl,rfl,g'4_0,g'4_1,g'4_2,g'4_3,g'4_4⟩
 rintro frg'5 _ ⟨rfl,g'5_39,g'5_0,g'5_1,g'5_2,g'5_3,g'5_4⟩
 refine Zd (.b ((((((decide (v < 0)) || (decide ((l.length:Int)≤v))) || (decide (w < 0))) || (decide ((l.length:Int)≤w))) || (decide (v = w))) || (decide (d < 0)))) g'5_39 ?_
 refine Zad 3 (fun fr' k'=>h = k'∧fr' 43 = .b (((((((decide (v < 0)) || (decide ((l.length:Int)≤v))) || (decide (w < 0))) || (decide ((l.length:Int)≤w))) || (decide (v = w))) || (decide (d < 0))) || (decide (3 < d)))∧fr' 0 = v_l∧fr' 1 = .n v∧fr' 2 = .n d∧fr' 3 = .n w∧fr' 4 = .n o) ?_ ?_
 ·rcases bc ((((((decide (v < 0)) || (decide ((l.length:Int)≤v))) || (decide (w < 0))) || (decide ((l.length:Int)≤w))) || (decide (v = w))) || (decide (d < 0))) with b'6 | b'6
  ·skip
   refine Z4 rfl b'6 (Z4 rfl b'6 (Ze (zg (t:=((((((decide (v < 0)) || (decide ((l.length:Int)≤v))) || (decide (w < 0))) || (decide ((l.length:Int)≤w))) || (decide (v = w))) || (decide (d < 0)))) (v:=.b (((((((decide (v < 0)) || (decide ((l.length:Int)≤v))) || (decide (w < 0))) || (decide ((l.length:Int)≤w))) || (decide (v = w))) || (decide (d < 0))) || (decide (3 < d)))) rfl b'6 (Eq.trans (b:=V.b true) rfl (Zbg b'6))) (Zb ?_)))
   exact ⟨rfl,rfl,g'5_0,g'5_1,g'5_2,g'5_3,g'5_4⟩
  ·skip
   refine ZB rfl b'6 (Zd (.n d) g'5_2 (ZB rfl b'6 (Ze (ZcD (a:=d) (b:=3) rfl rfl) (Ze (zc (t:=((((((decide (v < 0)) || (decide ((l.length:Int)≤v))) || (decide (w < 0))) || (decide ((l.length:Int)≤w))) || (decide (v = w))) || (decide (d < 0)))) (v:=.b (((((((decide (v < 0)) || (decide ((l.length:Int)≤v))) || (decide (w < 0))) || (decide ((l.length:Int)≤w))) || (decide (v = w))) || (decide (d < 0))) || (decide (3 < d)))) rfl b'6 (Eq.trans (b:=V.b (decide (3 < d))) rfl (Zb7 b'6))) (Zb ?_)))))
   exact ⟨rfl,rfl,g'5_0,g'5_1,g'5_2,g'5_3,g'5_4⟩
 rintro frg'6 _ ⟨rfl,g'6_43,g'6_0,g'6_1,g'6_2,g'6_3,g'6_4⟩
 refine Zd (.b (((((((decide (v < 0)) || (decide ((l.length:Int)≤v))) || (decide (w < 0))) || (decide ((l.length:Int)≤w))) || (decide (v = w))) || (decide (d < 0))) || (decide (3 < d)))) g'6_43 ?_
 refine Zad 3 (fun fr' k'=>h = k'∧fr' 47 = .b ((((((((decide (v < 0)) || (decide ((l.length:Int)≤v))) || (decide (w < 0))) || (decide ((l.length:Int)≤w))) || (decide (v = w))) || (decide (d < 0))) || (decide (3 < d))) || (decide (o < (-2))))∧fr' 0 = v_l∧fr' 1 = .n v∧fr' 2 = .n d∧fr' 3 = .n w∧fr' 4 = .n o) ?_ ?_
 ·rcases bc (((((((decide (v < 0)) || (decide ((l.length:Int)≤v))) || (decide (w < 0))) || (decide ((l.length:Int)≤w))) || (decide (v = w))) || (decide (d < 0))) || (decide (3 < d))) with b'7 | b'7
  ·skip
   refine Z4 rfl b'7 (Z4 rfl b'7 (Ze (zg (t:=(((((((decide (v < 0)) || (decide ((l.length:Int)≤v))) || (decide (w < 0))) || (decide ((l.length:Int)≤w))) || (decide (v = w))) || (decide (d < 0))) || (decide (3 < d)))) (v:=.b ((((((((decide (v < 0)) || (decide ((l.length:Int)≤v))) || (decide (w < 0))) || (decide ((l.length:Int)≤w))) || (decide (v = w))) || (decide (d < 0))) || (decide (3 < d))) || (decide (o < (-2))))) rfl b'7 (Eq.trans (b:=V.b true) rfl (Zbg b'7))) (Zb ?_)))
   exact ⟨rfl,rfl,g'6_0,g'6_1,g'6_2,g'6_3,g'6_4⟩
  ·skip
   refine ZB rfl b'7 (Zd (.n o) g'6_4 (ZB rfl b'7 (Ze (zG (a:=o) (b:=(-2)) rfl rfl) (Ze (zc (t:=(((((((decide (v < 0)) || (decide ((l.length:Int)≤v))) || (decide (w < 0))) || (decide ((l.length:Int)≤w))) || (decide (v = w))) || (decide (d < 0))) || (decide (3 < d)))) (v:=.b ((((((((decide (v < 0)) || (decide ((l.length:Int)≤v))) || (decide (w < 0))) || (decide ((l.length:Int)≤w))) || (decide (v = w))) || (decide (d < 0))) || (decide (3 < d))) || (decide (o < (-2))))) rfl b'7 (Eq.trans (b:=V.b (decide (o < (-2)))) rfl (Zb7 b'7))) (Zb ?_)))))
   exact ⟨rfl,rfl,g'6_0,g'6_1,g'6_2,g'6_3,g'6_4⟩
 rintro frg'7 _ ⟨rfl,g'7_47,g'7_0,g'7_1,g'7_2,g'7_3,g'7_4⟩
 refine Zb (Za ?_)
 rcases Z2 hp with ⟨b'8,hp⟩ | ⟨b'8,hp⟩
 ·refine zO (t:=((((((((decide (v < 0)) || (decide ((l.length:Int)≤v))) || (decide (w < 0))) || (decide ((l.length:Int)≤w))) || (decide (v = w))) || (decide (d < 0))) || (decide (3 < d))) || (decide (o < (-2))))) g'7_47 b'8 ?_
  refine Zk (Zo (Zd v_l g'7_0 (Zd v_l rfl (Zd (.n 2) rfl (Zb (Za (Za2 ?_)))))))
  refine Zaf (zW (Zax (n:=10) (v:=v_l) rfl (Zax (n:=11) (v:=.n 2) rfl zx)) ?_)
  cases hp
  exact ⟨v_l,rfl,(hO.pick [0] rfl (by decide))⟩
 ·refine zN (t:=((((((((decide (v < 0)) || (decide ((l.length:Int)≤v))) || (decide (w < 0))) || (decide ((l.length:Int)≤w))) || (decide (v = w))) || (decide (d < 0))) || (decide (3 < d))) || (decide (o < (-2))))) g'7_47 b'8 ?_
  refine zU (Za (Zk (Zk (Zo (Zd v_l g'7_0 (Zd (.n v) g'7_1 (Zd (.n d) g'7_2 ?_)))))))
  obtain ⟨c'1,hp⟩:=Zj hp
  refine Ze (zz (E:=Zf) (z:=v) (hO.sl 0 rfl) rfl rfl c'1) (Ze (ZaE (off':=0) (off2:=0) (hO.sl 0 rfl) (Zp c'1) rfl rfl) ?_)
  obtain ⟨c'2,hp⟩:=Zj hp
  refine Ze (ZaU (off:=0) (off2:=(0 + d.toNat * 1)) (z:=d) (hO.sl 0 rfl) (Zp c'1) rfl rfl c'2 rfl) (Ze (zS (w:=.n (((gi l v.toNat).Next).get d)) (hO.sl 0 rfl) rfl (Zp c'1) (Zal c'2)) (Ze (ZcE (a:=(((gi l v.toNat).Next).get d)) (b:=(-1)) rfl rfl) (Zd (.b (!(decide (((gi l v.toNat).Next).get d = (-1))))) rfl ?_)))
  obtain ⟨t,hv'1,hp⟩:=Zt hp
  refine Zad 11 (fun fr' k'=>h = k'∧fr' 68 = .b t∧fr' 0 = v_l∧fr' 1 = .n v∧fr' 2 = .n d∧fr' 3 = .n w∧fr' 4 = .n o) ?_ ?_
  ·clear hp; rcases Z2 hv'1 with ⟨b'9,hp⟩ | ⟨b'9,hp⟩
   ·skip
    refine Z4 rfl b'9 (Z4 rfl b'9 (Z4 rfl b'9 (Z4 rfl b'9 (Z4 rfl b'9 (Z4 rfl b'9 (Z4 rfl b'9 (Z4 rfl b'9 ?_)))))))
    refine Z4 rfl b'9 (Z4 rfl b'9 (Ze (zg (t:=(!(decide (((gi l v.toNat).Next).get d = (-1))))) (v:=.b t) rfl b'9 (Eq.trans (b:=V.b true) rfl (congrArg V.b (Option.some.inj hp)))) (Zb ?_)))
    exact ⟨rfl,rfl,g'7_0,g'7_1,g'7_2,g'7_3,g'7_4⟩
   ·skip
    refine ZB rfl b'9 (Zd v_l g'7_0 (ZB rfl b'9 (Zd (.n w) g'7_3 (ZB rfl b'9 (Zd (.n d) g'7_2 (ZB rfl b'9 ?_))))))
    obtain ⟨c'3,hp⟩:=Zj hp
    refine Ze (zp (a:=d) (b:=2) rfl rfl c'3) (ZB rfl b'9 (Ze (ZbJ (a:=(d + 2)) (b:=4) rfl rfl (by decide)) (ZB rfl b'9 ?_)))
    obtain ⟨c'4,hp⟩:=Zj hp
    refine Ze (zz (E:=Zf) (z:=w) (hO.sl 0 rfl) rfl rfl c'4) (ZB rfl b'9 (Ze (ZaE (off':=0) (off2:=0) (hO.sl 0 rfl) (Zp c'4) rfl rfl) (ZB rfl b'9 ?_)))
    obtain ⟨c'5,hp⟩:=Zj hp
    refine Ze (ZaU (off:=0) (off2:=(0 + ((d + 2).tmod 4:Int).toNat * 1)) (z:=((d + 2).tmod 4)) (hO.sl 0 rfl) (Zp c'4) rfl rfl c'5 rfl) (ZB rfl b'9 (Ze (zS (w:=.n (((gi l w.toNat).Next).get ((d + 2).tmod 4))) (hO.sl 0 rfl) rfl (Zp c'4) (Zal c'5)) (ZB rfl b'9 (Ze (ZcE (a:=(((gi l w.toNat).Next).get ((d + 2).tmod 4))) (b:=(-1)) rfl rfl) (Ze (zc (t:=(!(decide (((gi l v.toNat).Next).get d = (-1))))) (v:=.b t) rfl b'9 (Eq.trans (b:=V.b (!(decide (((gi l w.toNat).Next).get ((d + 2).tmod 4) = (-1))))) rfl (congrArg V.b (Option.some.inj hp)))) (Zb ?_))))))
    exact ⟨rfl,rfl,g'7_0,g'7_1,g'7_2,g'7_3,g'7_4⟩
  rintro frg'8 _ ⟨rfl,g'8_68,g'8_0,g'8_1,g'8_2,g'8_3,g'8_4⟩
  refine Zb (Za ?_)
  rcases Z2 hp with ⟨b'10,hp⟩ | ⟨b'10,hp⟩
  ·refine zO (t:=t) g'8_68 b'10 ?_
   refine Zk (Zo (Zd v_l g'8_0 (Zd v_l rfl (Zd (.n 9) rfl (Zb (Za (Za2 ?_)))))))
   refine Zaf (zW (Zax (n:=10) (v:=v_l) rfl (Zax (n:=11) (v:=.n 9) rfl zx)) ?_)
   cases hp
   exact ⟨v_l,rfl,(hO.pick [0] rfl (by decide))⟩
  ·refine zN (t:=t) g'8_68 b'10 ?_
   refine zU (Za (Zk (Zo (Zd v_l g'8_0 (Zd (.n v) g'8_1 (Zd (.n d) g'8_2 (Zd (.n w) g'8_3 ?_)))))))
   refine Zd (.n o) g'8_4 ?_
   obtain ⟨x,hx'1,hp⟩:=Zt hp
   obtain ⟨u'1,k'1,ca'1,v'2,rfl,hW'1⟩:=zK.ok (h:=h)  (hO.sl 0 rfl) hx'1
   refine Za3 (id:=65) (caps:=[]) rfl (Z3 (v:=v_l) rfl (Z3 (v:=.n v) rfl (Z3 (v:=.n d) rfl (Z3 (v:=.n w) rfl (Z3 (v:=.n o) rfl zn))))) ca'1 ?_
   have hO'1:=hO.call hW'1 rfl
   refine Zd v'2 rfl (Zb (Za (Zk (Zo (Zd v'2 rfl (Zd v'2 rfl (Zd (.n 0) rfl ?_)))))))
   refine Zb (Za (Za2 (zW (Zax (n:=10) (v:=v'2) rfl (Zax (n:=11) (v:=.n 0) rfl zx)) ?_)))
   cases hp
   exact ⟨v'2,rfl,(hO'1.pick [1] rfl (by decide))⟩

theorem z5.ok {h:Hp} {n:zZ} {s:zk} {v:Int} {v_n_Cells:V} {v_n_First:V} {v_n_Ends:V} {v_n_Ways:V} {vs_n_Ways:List V} {v_s_Boxes:V} {v_s_Edges:V} (H:Own (Bm h [eSl Zf v_n_Cells n.Cells,eSl zw v_n_First n.First,eSl zJ v_n_Ends n.Ends,eSl eV v_n_Ways vs_n_Ways,Zba zw vs_n_Ways n.Ways]) h h [eSl Zf v_n_Cells n.Cells,eSl zw v_n_First n.First,eSl zJ v_n_Ends n.Ends,eSl eV v_n_Ways vs_n_Ways,Zba zw vs_n_Ways n.Ways]) (s_s_Boxes:Rd (Bm h [eSl Zf v_n_Cells n.Cells,eSl zw v_n_First n.First,eSl zJ v_n_Ends n.Ends,eSl eV v_n_Ways vs_n_Ways,Zba zw vs_n_Ways n.Ways]) h e_bool v_s_Boxes s.Boxes) (s_s_Edges:Rd (Bm h [eSl Zf v_n_Cells n.Cells,eSl zw v_n_First n.First,eSl zJ v_n_Ends n.Ends,eSl eV v_n_Ways vs_n_Ways,Zba zw vs_n_Ways n.Ways]) h Zr v_s_Edges s.Edges) {r:zZ} (hp:z5 n s v = some r) :
  ∃ u k',Is G 200 [.ag [v_n_Cells,v_n_First,v_n_Ends,v_n_Ways],.ag [v_s_Boxes,v_s_Edges],.n v] h u k'∧∃ (v'1:V),∃ (v'2:V),∃ (v'3:V),∃ (v'4:V),∃ (vs'1:List V),V.ag [v'1,v'2,v'3,v'4] = u∧Own (Bm h [eSl Zf v_n_Cells n.Cells,eSl zw v_n_First n.First,eSl zJ v_n_Ends n.Ends,eSl eV v_n_Ways vs_n_Ways,Zba zw vs_n_Ways n.Ways]) h k' [eSl Zf v'1 r.Cells,eSl zw v'2 r.First,eSl zJ v'3 r.Ends,eSl eV v'4 vs'1,Zba zw vs'1 r.Ways]:=by
 refine WC.is (ZaM Zc5 ?_)
 unfold z5 at hp
 let B:Nat→Prop:=(Bm h [eSl Zf v_n_Cells n.Cells,eSl zw v_n_First n.First,eSl zJ v_n_Ends n.Ends,eSl eV v_n_Ways vs_n_Ways,Zba zw vs_n_Ways n.Ways])
 have hO:Own B h h [eSl Zf v_n_Cells n.Cells,eSl zw v_n_First n.First,eSl zJ v_n_Ends n.Ends,eSl eV v_n_Ways vs_n_Ways,Zba zw vs_n_Ways n.Ways]:=H
 refine Zk (Zo (zy (hO.boxd (v:=.ag [v_n_Cells,v_n_First,v_n_Ends,v_n_Ways]) (cs:=[v_n_Cells,v_n_First,v_n_Ends,v_n_Ways]) hO.fr rfl rfl) ?_))
 rintro _ k'1 ⟨r'1,rfl,n'1,f'1,hW⟩
 have hO'1:=hW
 refine zy (hO'1.boxd (v:=.ag [v_s_Boxes,v_s_Edges]) (cs:=[v_s_Boxes,v_s_Edges]) hO'1.fr rfl rfl) ?_
 rintro _ k'2 ⟨r'2,rfl,n'2,f'2,hW⟩
 have hO'2:=hW
 refine zy (hO'2.alloc (cs:=[.sn,.sn,.sn,.sn]) hO'2.fr) ?_
 rintro _ k'3 ⟨r'3,rfl,n'3,f'3,hW⟩
 have hO'3:=hW
 refine Zb (Za (Zk (Zo (Ze (z6 (r:=r'1) (o:=0) (o':=0) rfl rfl) (Ze (zi (cs:=[v_n_Cells,v_n_First,v_n_Ends,v_n_Ways]) (v:=v_n_Cells) (hO'3.box 5 rfl) rfl rfl) (Ze (Zah (hO'3.sl 0 rfl) rfl) (Zd (.n (n.Cells.length:Int)) rfl ?_)))))))
 refine Zb (Za (Zk (Zo ?_)))
 obtain ⟨x,hx'1,hp⟩:=Zt hp
 obtain ⟨u'1,k'4,ca'1,v'5,rfl,hW'1⟩:=ZE.ok (h:=k'3)   hx'1
 refine Za3 (id:=46) (caps:=[]) rfl (Z3 (v:=.n 4) rfl zn) ca'1 ?_
 have hO'4:=hO'3.call hW'1 rfl
 refine Zd v'5 rfl (Zb (Za (Zk (Zo (Ze (z6 (r:=r'1) (o:=0) (o':=0) rfl rfl) (Ze (zi (cs:=[v_n_Cells,v_n_First,v_n_Ends,v_n_Ways]) (v:=v_n_Cells) (hO'4.box 5 rfl) rfl rfl) (Zd v'5 rfl ?_)))))))
 obtain ⟨c'1,hp⟩:=Zj hp
 refine zy (hO'4.app (E:=Zf) (bytes:=64) 0 hO'4.fr rfl (hO'4.sl 8 rfl) rfl rfl (fun _=>rfl) c'1 (by decide)) ?_
 rintro v'6 k'5 ⟨f'4,hW⟩
 have hO'5:=hW
 refine Ze (z6 (r:=r'1) (o:=0) (o':=0) rfl rfl) (zy (hO'5.stb (ws:=[v'6]) (cs':=[v'6,v_n_First,v_n_Ends,v_n_Ways]) (v:=v'6) 5 rfl rfl rfl (hO'5.sl 0 rfl).cells ⟨rfl,Nat.le_of_ble_eq_true rfl,(all_cons (hO'5.sl 0 rfl).oneV rfl)⟩ rfl) ?_)
 rintro _ k'6 ⟨rfl,f'5,m'1,hW⟩
 have hO'6:=hW
 refine Zb (Za (Zk (Zk (Zo (Zd (.n 0) rfl (Zb (Za ?_)))))))
 refine Zaa ?_
 obtain ⟨o'1,ho'1,hp⟩:=Zt hp
 refine W.mono (Q:=fun e fr k=>match (generalizing:=false) o'1 with
   | (n3,n4)=>e = (.exit 0)∧∃ (v'8:V),fr 3 = .p r'1 0∧fr 6 = .p r'3 0∧Own B h k [zQ r'1 [v'8,v_n_First,v_n_Ends,v_n_Ways],eSl Zf v'8 n3,eSl zw v_n_First n.First,eSl zJ v_n_Ends n4,eSl eV v_n_Ways vs_n_Ways,Zba zw vs_n_Ways n.Ways,zQ r'3 [.sn,.sn,.sn,.sn]]) ?_ ?_
 ·clear hp
  refine z9 (fun st fr k=>match st with | (n1,n2,d)=>∃ (v'7:V),fr 2 = .n v∧fr 3 = .p r'1 0∧fr 4 = .p r'2 0∧fr 6 = .p r'3 0∧fr 7 = .n (n.Cells.length:Int)∧fr 9 = .n d∧Own B h k [zQ r'1 [v'7,v_n_First,v_n_Ends,v_n_Ways],eSl Zf v'7 n1,eSl zw v_n_First n.First,eSl zJ v_n_Ends n2,eSl eV v_n_Ways vs_n_Ways,Zba zw vs_n_Ways n.Ways,zQ r'2 [v_s_Boxes,v_s_Edges],zQ r'3 [.sn,.sn,.sn,.sn]]) ho'1 (s:=(n.Cells++x,n.Ends,0)) ⟨v'6,rfl,rfl,rfl,rfl,rfl,rfl,(hO'6.pick [5,0,1,2,3,4,6,7] rfl (by decide))⟩ ?_
  rintro ⟨n1,n2,d⟩ q'2 k'8 ⟨v'7,q'2_2,q'2_3,q'2_4,q'2_6,q'2_7,q'2_9,hO'8⟩ o'2 hp
  dsimp only [z5.s0] at hp
  refine Zk (Zk (Zo (Zd (.n d) q'2_9 (Ze (zG (a:=d) (b:=4) rfl rfl) (Zb (Za ?_))))))
  rcases Z2 hp with ⟨b'1,hp⟩ | ⟨b'1,hp⟩
  ·refine zO (t:=(decide (d < 4))) rfl b'1 ?_
   refine zU (Za (Zk (Zaa (Zk (Zo (Zd (.n (n.Cells.length:Int)) q'2_7 ?_))))))
   obtain ⟨c'2,hp⟩:=Zj hp
   refine Ze (zp (a:=(n.Cells.length:Int)) (b:=1) rfl rfl c'2) (Zd (.n (n.Cells.length:Int)) q'2_7 ?_)
   obtain ⟨c'3,hp⟩:=Zj hp
   refine Ze (zp (a:=(n.Cells.length:Int)) (b:=3) rfl rfl c'3) (Zd (.n (n.Cells.length:Int)) q'2_7 (Zd (.n (n.Cells.length:Int)) q'2_7 (zy (hO'8.bsl (E:=zw) (l:=[(n.Cells.length:Int) + 1,(n.Cells.length:Int) + 3,(n.Cells.length:Int),(n.Cells.length:Int)]) hO'8.fr (by rw [(zq (v:=.n ((n.Cells.length:Int) + 1)) rfl (zq (v:=.n ((n.Cells.length:Int) + 3)) rfl (zq (v:=.n (n.Cells.length:Int)) rfl (zq (v:=.n (n.Cells.length:Int)) rfl Za5))))]; rfl) rfl) ?_)))
   rintro v'9 k'9 ⟨r'4,f'6,hW⟩
   have hO'9:=hW
   refine Zd (.n d) q'2_9 ?_
   obtain ⟨c'4,hp⟩:=Zj hp
   refine Ze (zz (E:=zw) (z:=d) (hO'9.sl 8 rfl) rfl rfl c'4) (Ze (zS (w:=.n (gi [(n.Cells.length:Int) + 1,(n.Cells.length:Int) + 3,(n.Cells.length:Int),(n.Cells.length:Int)] d.toNat)) (hO'9.sl 8 rfl) rfl (Zp c'4) rfl) (Zd (.n (gi [(n.Cells.length:Int) + 1,(n.Cells.length:Int) + 3,(n.Cells.length:Int),(n.Cells.length:Int)] d.toNat)) rfl (Zb (Za (Zk (Zo (Zd (.n (n.Cells.length:Int)) q'2_7 ?_)))))))
   obtain ⟨c'5,hp⟩:=Zj hp
   refine Ze (zp (a:=(n.Cells.length:Int)) (b:=2) rfl rfl c'5) (Zd (.n (n.Cells.length:Int)) q'2_7 (Ze (zp (a:=(n.Cells.length:Int)) (b:=2) rfl rfl c'5) (Zd (.n (n.Cells.length:Int)) q'2_7 (Ze (zp (a:=(n.Cells.length:Int)) (b:=3) rfl rfl c'3) (Zd (.n (n.Cells.length:Int)) q'2_7 (Ze (zp (a:=(n.Cells.length:Int)) (b:=1) rfl rfl c'2) (zy (hO'9.bsl (E:=zw) (l:=[(n.Cells.length:Int) + 2,(n.Cells.length:Int) + 2,(n.Cells.length:Int) + 3,(n.Cells.length:Int) + 1]) hO'9.fr (by rw [(zq (v:=.n ((n.Cells.length:Int) + 2)) rfl (zq (v:=.n ((n.Cells.length:Int) + 2)) rfl (zq (v:=.n ((n.Cells.length:Int) + 3)) rfl (zq (v:=.n ((n.Cells.length:Int) + 1)) rfl Za5))))]; rfl) rfl) ?_)))))))
   rintro v'10 k'10 ⟨r'5,f'7,hW⟩
   have hO'10:=hW
   refine Zd (.n d) q'2_9 ?_
   obtain ⟨c'6,hp⟩:=Zj hp
   refine Ze (zz (E:=zw) (z:=d) (hO'10.sl 9 rfl) rfl rfl c'6) (Ze (zS (w:=.n (gi [(n.Cells.length:Int) + 2,(n.Cells.length:Int) + 2,(n.Cells.length:Int) + 3,(n.Cells.length:Int) + 1] d.toNat)) (hO'10.sl 9 rfl) rfl (Zp c'6) rfl) (Zd (.n (gi [(n.Cells.length:Int) + 2,(n.Cells.length:Int) + 2,(n.Cells.length:Int) + 3,(n.Cells.length:Int) + 1] d.toNat)) rfl (Zb (Za (Zk (Zo (zy (hO'10.bsl (E:=zw) (l:=([1,0,1,0]:List Int)) hO'10.fr (by rw [(zq (v:=.n 1) rfl (zq (v:=.n 0) rfl (zq (v:=.n 1) rfl (zq (v:=.n 0) rfl Za5))))]; rfl) rfl) ?_)))))))
   rintro v'11 k'11 ⟨r'6,f'8,hW⟩
   have hO'11:=hW
   refine Zd (.n d) q'2_9 ?_
   obtain ⟨c'7,hp⟩:=Zj hp
   refine Ze (zz (E:=zw) (z:=d) (hO'11.sl 10 rfl) rfl rfl c'7) (Ze (zS (w:=.n (gi ([1,0,1,0]:List Int) d.toNat)) (hO'11.sl 10 rfl) rfl (Zp c'7) rfl) (Zd (.n (gi ([1,0,1,0]:List Int) d.toNat)) rfl (Zb (Za (Zk (Zo (Ze (Zaz (cs:=[v_s_Boxes,v_s_Edges]) (ws:=[v_s_Boxes,v_s_Edges]) (hO'11.box 6 rfl) q'2_4 rfl) ?_)))))))
   refine Zd (.n v) q'2_2 (Zd (.n d) q'2_9 ?_)
   obtain ⟨x1,hx'2,hp⟩:=Zt hp
   obtain ⟨u'2,k'12,ca'2,v'12,rfl,hW'2⟩:=z7.ok (h:=k'11)  (hO'11.rd0 s_s_Boxes) (hO'11.rd0 s_s_Edges) hx'2
   refine Za3 (id:=199) (caps:=[]) rfl (Z3 (v:=.ag [v_s_Boxes,v_s_Edges]) rfl (Z3 (v:=.n v) rfl (Z3 (v:=.n d) rfl zn))) ca'2 ?_
   have hO'12:=hO'11.call hW'2 rfl
   refine Zd v'12 rfl (Zb (Za (Zk (Zk (Zo (Zd (.n 0) rfl (Zb ?_)))))))
   refine Za (Zaa ?_)
   obtain ⟨o'3,ho'2,hp⟩:=Zt hp
   refine W.mono (Q:=fun e fr k=>match (generalizing:=false) o'3 with
     | (n7,n8,from_1)=>e = (.exit 2)∧∃ (v'14:V),fr 2 = .n v∧fr 3 = .p r'1 0∧fr 4 = .p r'2 0∧fr 6 = .p r'3 0∧fr 7 = .n (n.Cells.length:Int)∧fr 9 = .n d∧fr 10 = .n from_1∧fr 11 = .n (gi [(n.Cells.length:Int) + 2,(n.Cells.length:Int) + 2,(n.Cells.length:Int) + 3,(n.Cells.length:Int) + 1] d.toNat)∧fr 12 = .n (gi ([1,0,1,0]:List Int) d.toNat)∧Own B h k [zQ r'1 [v'14,v_n_First,v_n_Ends,v_n_Ways],eSl Zf v'14 n7,eSl zw v_n_First n.First,eSl zJ v_n_Ends n8,eSl eV v_n_Ways vs_n_Ways,Zba zw vs_n_Ways n.Ways,zQ r'2 [v_s_Boxes,v_s_Edges],zQ r'3 [.sn,.sn,.sn,.sn]]) ?_ ?_
   ·clear hp
    refine z9 (fun st fr k=>match st with | (n5,n6,from_,i)=>∃ (v'13:V),fr 2 = .n v∧fr 3 = .p r'1 0∧fr 4 = .p r'2 0∧fr 6 = .p r'3 0∧fr 7 = .n (n.Cells.length:Int)∧fr 9 = .n d∧fr 10 = .n from_∧fr 11 = .n (gi [(n.Cells.length:Int) + 2,(n.Cells.length:Int) + 2,(n.Cells.length:Int) + 3,(n.Cells.length:Int) + 1] d.toNat)∧fr 12 = .n (gi ([1,0,1,0]:List Int) d.toNat)∧fr 13 = v'12∧fr 14 = .n i∧Own B h k [zQ r'1 [v'13,v_n_First,v_n_Ends,v_n_Ways],eSl Zf v'13 n5,eSl zw v_n_First n.First,eSl zJ v_n_Ends n6,eSl eV v_n_Ways vs_n_Ways,Zba zw vs_n_Ways n.Ways,zQ r'2 [v_s_Boxes,v_s_Edges],zQ r'3 [.sn,.sn,.sn,.sn],eSl zw v'12 x1]) ho'2 (s:=(n1,n2,gi [(n.Cells.length:Int) + 1,(n.Cells.length:Int) + 3,(n.Cells.length:Int),(n.Cells.length:Int)] d.toNat,0)) ⟨v'7,q'2_2,q'2_3,q'2_4,q'2_6,q'2_7,q'2_9,rfl,rfl,rfl,rfl,rfl,(hO'12.pick [0,1,2,3,4,5,6,7,11] rfl (by decide))⟩ ?_
    rintro ⟨n5,n6,from_,i⟩ q'4 k'14 ⟨v'13,q'4_2,q'4_3,q'4_4,q'4_6,q'4_7,q'4_9,q'4_10,q'4_11,q'4_12,q'4_13,q'4_14,hO'14⟩ o'4 hp
    dsimp only [z5.s1] at hp
    refine Zk (Zk (Zo (Zd (.n i) q'4_14 (Zd v'12 q'4_13 (Ze (Zah (hO'14.sl 8 rfl) rfl) (Ze (zG (a:=i) (b:=(x1.length:Int)) rfl rfl) (Zb ?_)))))))
    refine Za ?_
    rcases Z2 hp with ⟨b'2,hp⟩ | ⟨b'2,hp⟩
    ·refine zO (t:=(decide (i < (x1.length:Int)))) rfl b'2 ?_
     refine zU (Za (Zk (Zaa (Zk (Zo (Ze (z6 (r:=r'1) (o:=0) (o':=0) q'4_3 rfl) (Ze (zi (cs:=[v'13,v_n_First,v_n_Ends,v_n_Ways]) (v:=v'13) (hO'14.box 0 rfl) rfl rfl) ?_)))))))
     refine Ze (Zah (hO'14.sl 1 rfl) rfl) (Zd (.n (n5.length:Int)) rfl (Zb (Za (Zk (Zo ?_)))))
     obtain ⟨x2,hx'3,hp⟩:=Zt hp
     obtain ⟨u'3,k'15,ca'3,v'15,rfl,hW'3⟩:=ZE.ok (h:=k'14)   hx'3
     refine Za3 (id:=46) (caps:=[]) rfl (Z3 (v:=.n 1) rfl zn) ca'3 ?_
     have hO'15:=hO'14.call hW'3 rfl
     refine Zd v'15 rfl (Zb (Za (Zk (Zo (Ze (z6 (r:=r'1) (o:=0) (o':=0) q'4_3 rfl) (Ze (zi (cs:=[v'13,v_n_First,v_n_Ends,v_n_Ways]) (v:=v'13) (hO'15.box 0 rfl) rfl rfl) (Zd v'15 rfl ?_)))))))
     obtain ⟨c'8,hp⟩:=Zj hp
     refine zy (hO'15.app (E:=Zf) (bytes:=64) 1 hO'15.fr rfl (hO'15.sl 9 rfl) rfl rfl (fun _=>rfl) c'8 (by decide)) ?_
     rintro v'16 k'16 ⟨f'9,hW⟩
     have hO'16:=hW
     refine Ze (z6 (r:=r'1) (o:=0) (o':=0) q'4_3 rfl) (zy (hO'16.stb (ws:=[v'16]) (cs':=[v'16,v_n_First,v_n_Ends,v_n_Ways]) (v:=v'16) 0 rfl rfl rfl (hO'16.sl 1 rfl).cells ⟨rfl,Nat.le_of_ble_eq_true rfl,(all_cons (hO'16.sl 1 rfl).oneV rfl)⟩ rfl) ?_)
     rintro _ k'17 ⟨rfl,f'10,m'2,hW⟩
     have hO'17:=hW
     refine Zb (Za (Zk (ZfI ?_)))
     have hW:=hO'17.bump 16
     have fr'1:=Fresh.start k'17 16
     have nb'1:∀ {i:Nat},h.n≤k'17.n + i:=Nat.le_trans hO'17.n (Nat.le_add_right _ _)
     have hO'18:=hW
     refine zP (z6 (r:=r'1) (o:=0) (o':=2) q'4_3 rfl) (zP (zi (cs:=[v'16,v_n_First,v_n_Ends,v_n_Ways]) (v:=v_n_Ends) (hO'18.box 0 rfl) rfl rfl) (Zbn v'12 q'4_13 (Zbn (.n i) q'4_14 ?_)))
     obtain ⟨c'9,hp⟩:=Zj hp
     refine zP (zz (E:=zw) (z:=i) (hO'18.sl 8 rfl) rfl rfl c'9) (zP (zS (w:=.n (gi x1 i.toNat)) (hO'18.sl 8 rfl) rfl (Zp c'9) rfl) ?_)
     obtain ⟨c'10,hp⟩:=Zj hp
     refine zP (Zhe (a:=(gi x1 i.toNat)) (b:=2) rfl rfl c'10) (Zbn v'12 q'4_13 (Zbn (.n i) q'4_14 (zP (zz (E:=zw) (z:=i) (hO'18.sl 8 rfl) rfl rfl c'9) (zP (zS (w:=.n (gi x1 i.toNat)) (hO'18.sl 8 rfl) rfl (Zp c'9) rfl) (zP (ZbJ (a:=(gi x1 i.toNat)) (b:=2) rfl rfl (by decide)) (Zbn (.n (n5.length:Int)) rfl ?_))))))
     obtain ⟨c'11,hp⟩:=Zj hp
     refine zP (zz (E:=zJ) (z:=((gi x1 i.toNat).tdiv 2)) (hO'18.sl 3 rfl) rfl rfl c'11) ?_
     obtain ⟨c'12,hp⟩:=Zj hp
     refine zP (ZaU (off:=0) (off2:=(0 + ((gi x1 i.toNat).tmod 2:Int).toNat * 1)) (z:=((gi x1 i.toNat).tmod 2)) (hO'18.sl 3 rfl) (Zp c'11) rfl rfl c'12 rfl) (Ze6 (hO'18.ste (E:=zJ) (y:=((gi n6 ((gi x1 i.toNat).tdiv 2:Int).toNat).set ((gi x1 i.toNat).tmod 2) (n5.length:Int))) (ws:=[.n (n5.length:Int)]) 3 rfl rfl (Zp c'11) rfl rfl ⟨rfl,(by have:=c'12; exact (show 0 + ((gi x1 i.toNat).tmod 2:Int).toNat * 1 + 1≤2 by omega)),rfl⟩ (ZfD c'12)) ?_)
     rintro _ k'19 z'1 ⟨rfl,f'11,m'3,hW⟩
     have fr'2:=fr'1.kept f'11 (by decide)
     have hO'19:=hW
     refine Zc1 ?_
     refine And.intro ?_ ?_
     ·intro q hq
      simp only [List.mem_cons,List.not_mem_nil,or_false] at hq
      rcases hq with rfl | rfl | rfl
      ·refine Zay ?_ ?_
       ·exact (fun h=>nomatch h)
       ·exact (fun h=>nomatch h)
      ·refine Zay ?_ ?_
       ·exact (fun h=>nomatch h)
       ·exact (fun h=>nomatch h)
      ·refine Zay ?_ ?_
       ·exact (fun h=>nomatch h)
       ·exact (fun h=>nomatch h)
     refine Za (Zk (Zo (Ze (z6 (r:=r'1) (o:=0) (o':=0) q'4_3 rfl) (Ze (zi (cs:=[v'16,v_n_First,v_n_Ends,v_n_Ways]) (v:=v'16) (hO'19.box 0 rfl) rfl rfl) (Zd (.n from_) q'4_10 (Zd (.n (gi ([1,0,1,0]:List Int) d.toNat)) q'4_12 (Zd (.n (n5.length:Int)) rfl ?_)))))))
     obtain ⟨⟨x3,x4⟩,hx'4,hp⟩:=Zt hp
     obtain ⟨u'4,k'20,ca'4,v'17,rfl,hW'4⟩:=zh.ok (h:=k'19) (l:=(n5++x2)) (v:=from_) (d:=(gi ([1,0,1,0]:List Int) d.toNat)) (w:=(n5.length:Int)) (o:=(-1)) (hO'19.toM [1] rfl (by decide))  hx'4
     refine Za3 (id:=53) (caps:=[]) rfl (Z3 (v:=v'16) rfl (Z3 (v:=.n from_) rfl (Z3 (v:=.n (gi ([1,0,1,0]:List Int) d.toNat)) rfl (Z3 (v:=.n (n5.length:Int)) rfl (Z3 (v:=.n (-1)) rfl zn))))) ca'4 ?_
     have hO'20:=(hO'19.callM [1] [0,2,3,4,5,6,7,8,9] rfl rfl (by decide) hW'4 rfl).pick [0,900,1,2,3,4,5,6,7,8,9] rfl (by decide)
     refine Zd (.tu [v'17,.n x4]) rfl (Ze (ZaY (vs:=[v'17,.n x4]) (v:=v'17) rfl rfl) (Ze (ZaY (vs:=[v'17,.n x4]) (v:=.n x4) rfl rfl) (Ze (z6 (r:=r'1) (o:=0) (o':=0) q'4_3 rfl) (zy (hO'20.stb (ws:=[v'17]) (cs':=[v'17,v_n_First,v_n_Ends,v_n_Ways]) (v:=v'17) 0 rfl rfl rfl (hO'20.sl 10 rfl).cells ⟨rfl,Nat.le_of_ble_eq_true rfl,(all_cons (hO'20.sl 10 rfl).oneV rfl)⟩ rfl) ?_))))
     rintro _ k'21 ⟨rfl,f'12,m'4,hW⟩
     have hO'21:=hW
     refine Zb (Za (Zo (Zd (.n (n5.length:Int)) rfl (Zd (.n (n5.length:Int)) rfl (Zb (Zac (Za ?_)))))))
     refine Zo (Zd (.n i) q'4_14 ?_)
     obtain ⟨c'13,hp⟩:=Zj hp
     refine Ze (zp (a:=i) (b:=1) rfl rfl c'13) (Zd (.n (i + 1)) rfl (Zb ?_))
     cases hp
     exact (Or.inl ⟨(x3,n6.set ((gi x1 i.toNat).tdiv 2:Int).toNat ((gi n6 ((gi x1 i.toNat).tdiv 2:Int).toNat).set ((gi x1 i.toNat).tmod 2) (n5.length:Int)),(n5.length:Int),i + 1),rfl,rfl,v'17,q'4_2,q'4_3,q'4_4,q'4_6,q'4_7,q'4_9,rfl,q'4_11,q'4_12,q'4_13,rfl,(hO'21.pick [0,10,2,3,4,5,6,7,8] rfl (by decide))⟩)
    ·refine zN (t:=(decide (i < (x1.length:Int)))) rfl b'2 ?_
     refine ZaT (zR ?_)
     cases hp
     refine (Or.inr ⟨(n5,n6,from_),rfl,(fun h=>nomatch h),(fun he=>?_)⟩)
     subst he; exact ⟨rfl,v'13,q'4_2,q'4_3,q'4_4,q'4_6,q'4_7,q'4_9,q'4_10,q'4_11,q'4_12,(hO'14.pick [0,1,2,3,4,5,6,7] rfl (by decide))⟩
   intro e'2 q'3 k'13 hJ'2
   obtain ⟨n7,n8,from_1⟩:=o'3
   obtain ⟨rfl,v'14,q'3_2,q'3_3,q'3_4,q'3_6,q'3_7,q'3_9,q'3_10,q'3_11,q'3_12,hO'13⟩:=hJ'2
   refine Zaq (Za (Zo (Ze (z6 (r:=r'1) (o:=0) (o':=0) q'3_3 rfl) (Ze (zi (cs:=[v'14,v_n_First,v_n_Ends,v_n_Ways]) (v:=v'14) (hO'13.box 0 rfl) rfl rfl) (Zd (.n from_1) q'3_10 (Zd (.n (gi ([1,0,1,0]:List Int) d.toNat)) q'3_12 (Zd (.n (gi [(n.Cells.length:Int) + 2,(n.Cells.length:Int) + 2,(n.Cells.length:Int) + 3,(n.Cells.length:Int) + 1] d.toNat)) q'3_11 ?_)))))))
   obtain ⟨⟨x5,x6⟩,hx'5,hp⟩:=Zt hp
   obtain ⟨u'5,k'22,ca'5,v'18,rfl,hW'5⟩:=zh.ok (h:=k'13) (l:=n7) (v:=from_1) (d:=(gi ([1,0,1,0]:List Int) d.toNat)) (w:=(gi [(n.Cells.length:Int) + 2,(n.Cells.length:Int) + 2,(n.Cells.length:Int) + 3,(n.Cells.length:Int) + 1] d.toNat)) (o:=(-1)) (hO'13.toM [1] rfl (by decide))  hx'5
   refine Za3 (id:=53) (caps:=[]) rfl (Z3 (v:=v'14) rfl (Z3 (v:=.n from_1) rfl (Z3 (v:=.n (gi ([1,0,1,0]:List Int) d.toNat)) rfl (Z3 (v:=.n (gi [(n.Cells.length:Int) + 2,(n.Cells.length:Int) + 2,(n.Cells.length:Int) + 3,(n.Cells.length:Int) + 1] d.toNat)) rfl (Z3 (v:=.n (-1)) rfl zn))))) ca'5 ?_
   have hO'22:=(hO'13.callM [1] [0,2,3,4,5,6,7] rfl rfl (by decide) hW'5 rfl).pick [0,900,1,2,3,4,5,6,7] rfl (by decide)
   refine Zd (.tu [v'18,.n x6]) rfl (Ze (ZaY (vs:=[v'18,.n x6]) (v:=v'18) rfl rfl) (Ze (ZaY (vs:=[v'18,.n x6]) (v:=.n x6) rfl rfl) (Ze (z6 (r:=r'1) (o:=0) (o':=0) q'3_3 rfl) (zy (hO'22.stb (ws:=[v'18]) (cs':=[v'18,v_n_First,v_n_Ends,v_n_Ways]) (v:=v'18) 0 rfl rfl rfl (hO'22.sl 8 rfl).cells ⟨rfl,Nat.le_of_ble_eq_true rfl,(all_cons (hO'22.sl 8 rfl).oneV rfl)⟩ rfl) ?_))))
   rintro _ k'23 ⟨rfl,f'13,m'5,hW⟩
   have hO'23:=hW
   refine Zb (Zac (Za (Zo (Zd (.n d) q'3_9 ?_))))
   obtain ⟨c'14,hp⟩:=Zj hp
   refine Ze (zp (a:=d) (b:=1) rfl rfl c'14) (Zd (.n (d + 1)) rfl (Zb ?_))
   cases hp
   exact (Or.inl ⟨(x5,n8,d + 1),rfl,rfl,v'18,q'3_2,q'3_3,q'3_4,q'3_6,q'3_7,rfl,(hO'23.pick [0,8,2,3,4,5,6,7] rfl (by decide))⟩)
  ·refine zN (t:=(decide (d < 4))) rfl b'1 ?_
   refine ZaT (zR ?_)
   cases hp
   refine (Or.inr ⟨(n1,n2),rfl,(fun h=>nomatch h),(fun he=>?_)⟩)
   subst he; exact ⟨rfl,v'7,q'2_3,q'2_6,(hO'8.pick [0,1,2,3,4,5,7] rfl (by decide))⟩
 intro e'1 q'1 k'7 hJ'1
 obtain ⟨n3,n4⟩:=o'1
 obtain ⟨rfl,v'8,q'1_3,q'1_6,hO'7⟩:=hJ'1
 refine Zaq (Za (Zk (Zo (Ze (Zaz (cs:=[v'8,v_n_First,v_n_Ends,v_n_Ways]) (ws:=[v'8,v_n_First,v_n_Ends,v_n_Ways]) (hO'7.box 0 rfl) q'1_3 rfl) (zy (hO'7.stb (ws:=[v'8,v_n_First,v_n_Ends,v_n_Ways]) (cs':=[v'8,v_n_First,v_n_Ends,v_n_Ways]) (v:=.ag [v'8,v_n_First,v_n_Ends,v_n_Ways]) 6 rfl q'1_6 rfl rfl ⟨rfl,Nat.le_of_ble_eq_true rfl,(all_cons (hO'7.sl 1 rfl).oneV (all_cons (hO'7.sl 2 rfl).oneV (all_cons (hO'7.sl 3 rfl).oneV (all_cons (hO'7.sl 4 rfl).oneV all_nil))))⟩ rfl) ?_)))))
 rintro _ k'24 ⟨rfl,f'14,m'6,hW⟩
 have hO'24:=hW
 refine Zb (Za (Za2 (zW (ZgP (n:=6) (v:=.ag [v'8,v_n_First,v_n_Ends,v_n_Ways]) (r:=r'3) q'1_6 (hO'24.box 6 rfl) rfl zx) ?_)))
 cases hp
 exact ⟨v'8,v_n_First,v_n_Ends,v_n_Ways,vs_n_Ways,rfl,(hO'24.pick [1,2,3,4,5] rfl (by decide))⟩

end Mu
