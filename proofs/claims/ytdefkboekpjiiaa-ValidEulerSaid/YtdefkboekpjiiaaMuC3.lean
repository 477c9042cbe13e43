/- The code comes to what was worked out. -/
import Derived.Test.YtdefkboekpjiiaaMuDf
import Derived.Test.YtdefkboekpjiiaaMuPa
import Derived.Test.YtdefkboekpjiiaaMuC2
set_option linter.unusedVariables false
set_option linter.unnecessarySimpa false
set_option linter.unusedSimpArgs false
set_option maxHeartbeats 2000000
set_option maxRecDepth 10000
namespace Mu
open Go (IntKind BinOp UnOp)
theorem zF.ok {h:Hp} {cells:List Zc} {v_cells:V} (s_cells:Sl Zf h v_cells cells) {r:(List (List Zs)) × Int} (hp:zF cells = some r) :
  ∃ u k',Is G 203 [v_cells] h u k'∧∃ (v'1:V),∃ (vs'1:List V),V.tu [v'1,.n r.2] = u∧Own (fun r=>r < h.n) h k' [eSl eV v'1 vs'1,Zba Zg vs'1 r.1]:=by
 refine WC.is (ZaM Zd0 ?_)
 unfold zF at hp
 let B:Nat→Prop:=(fun r=>r < h.n)
 have hO:Own B h h []:=Own.start0 h
 refine Zk (Zo (Zd (.sn) rfl (Zd (.n 0) rfl (Zb (Za (Zk (Zk ?_)))))))
 refine Zo (Zd v_cells rfl ?_)
 obtain ⟨x,hx'1,hp⟩:=Zt hp
 obtain ⟨u'1,k'1,ca'1,rfl,hW'1⟩:=z4.ok (h:=h)  (hO.rd0 s_cells.rd) hx'1
 refine Za3 (id:=66) (caps:=[]) rfl (Z3 (v:=v_cells) rfl zn) ca'1 ?_
 have hO'1:=hO.call hW'1 rfl
 refine Zd (.n x) rfl (Zb (Za (Zk (Zo (Zd (.n x) rfl (Ze (ZcE (a:=x) (b:=0) rfl rfl) (Zb ?_)))))))
 refine Za ?_
 rcases Z2 hp with ⟨b'1,hp⟩ | ⟨b'1,hp⟩
 ·refine zO (t:=(!(decide (x = 0)))) rfl b'1 ?_
  refine Zk (Zo (Zd (.n x) rfl (Zd (.sn) rfl (Zd (.n x) rfl (Zb (Za (Za2 ?_)))))))
  refine Zaf ?_
  have hO'2:=hO'1.nil eV
  have hO'3:=hO'2.allNil Zg 0
  refine zW (Zax (n:=2) (v:=.sn) rfl (Zax (n:=3) (v:=.n x) rfl zx)) ?_
  cases hp
  exact ⟨V.sn,[],rfl,(hO'3.pick [0,1] rfl (by decide))⟩
 ·refine zN (t:=(!(decide (x = 0)))) rfl b'1 ?_
  refine zU (Za (Zk (Zo (Zd (.sn) rfl (Zb (Za (Zk ?_)))))))
  refine Zo (zy (hO'1.mkm Zg hO'1.fr) ?_)
  rintro _ k'2 ⟨r'1,rfl,n'1,f'1,hW⟩
  have hO'4:=hW
  refine Zd (.mp r'1) rfl (Zb (Za (Zk (Zk (Zo (Zd v_cells rfl (Ze (Zah (hO'4.rd0 s_cells.rd) rfl) ?_)))))))
  refine Zd (.n 0) rfl (Zb (Za (Zaa ?_)))
  obtain ⟨o'1,ho'1,hp⟩:=Zt hp
  refine W.mono (Q:=fun e fr k=>match (generalizing:=false) o'1 with
    | l1=>e = (.exit 0)∧∃ (v'3:V),∃ (vs'3:List V),fr 5 = v'3∧Own B h k [eSl eV v'3 vs'3,Zba Zg vs'3 l1]) ?_ ?_
  ·clear hp
   have hO'6:=hO'4.nil eV
   have hO'7:=hO'6.allNil Zg 0
   refine z9 (fun st fr k=>match st with | (l,met,x1)=>∃ (v'2:V),∃ (vs'2:List V),fr 0 = v_cells∧fr 5 = v'2∧fr 6 = .mp r'1∧fr 19 = .n (cells.length:Int)∧fr 20 = .n x1∧Own B h k [eSl eV v'2 vs'2,Zba Zg vs'2 l,eMp Zg r'1 met]) ho'1 (s:=(([]:List (List Zs)),([]:List (Zs × Bool)),0)) ⟨V.sn,[],rfl,rfl,rfl,rfl,rfl,(hO'7.pick [1,2,0] rfl (by decide))⟩ ?_
   rintro ⟨l,met,x1⟩ q'2 k'4 ⟨v'2,vs'2,q'2_0,q'2_5,q'2_6,q'2_19,q'2_20,hO'8⟩ o'2 hp
   dsimp only [zF.s0] at hp
   refine Zk (Zo (Ze (zG (a:=x1) (b:=(cells.length:Int)) q'2_20 q'2_19) (Zb (Za (Zk ?_)))))
   rcases Z2 hp with ⟨b'2,hp⟩ | ⟨b'2,hp⟩
   ·refine zO (t:=(decide (x1 < (cells.length:Int)))) rfl b'2 ?_
    refine zU (Za (Zk (Zaa (Zk (Zo (Zd (.n x1) q'2_20 (Zd (.n x1) rfl ?_)))))))
    refine Zb (Za (Zk (Zo (Zd (.n 0) rfl (Zb (Za (Zaa ?_)))))))
    obtain ⟨o'3,ho'2,hp⟩:=Zt hp
    refine W.mono (Q:=fun e fr k=>match (generalizing:=false) o'3 with
      | (l3,met2)=>e = (.exit 2)∧∃ (v'5:V),∃ (vs'5:List V),fr 0 = v_cells∧fr 5 = v'5∧fr 6 = .mp r'1∧fr 19 = .n (cells.length:Int)∧fr 20 = .n x1∧Own B h k [eSl eV v'5 vs'5,Zba Zg vs'5 l3,eMp Zg r'1 met2]) ?_ ?_
    ·clear hp
     refine z9 (fun st fr k=>match st with | (l2,met1,x2)=>∃ (v'4:V),∃ (vs'4:List V),fr 0 = v_cells∧fr 5 = v'4∧fr 6 = .mp r'1∧fr 7 = .n x1∧fr 19 = .n (cells.length:Int)∧fr 20 = .n x1∧fr 23 = .n x2∧Own B h k [eSl eV v'4 vs'4,Zba Zg vs'4 l2,eMp Zg r'1 met1]) ho'2 (s:=(l,met,0)) ⟨v'2,vs'2,q'2_0,q'2_5,q'2_6,rfl,q'2_19,q'2_20,rfl,(hO'8.pick [0,1,2] rfl (by decide))⟩ ?_
     rintro ⟨l2,met1,x2⟩ q'4 k'6 ⟨v'4,vs'4,q'4_0,q'4_5,q'4_6,q'4_7,q'4_19,q'4_20,q'4_23,hO'10⟩ o'4 hp
     dsimp only [zF.s1] at hp
     refine Zk (Zo (Ze (zG (a:=x2) (b:=4) q'4_23 rfl) (Zb (Za (Zk ?_)))))
     rcases Z2 hp with ⟨b'3,hp⟩ | ⟨b'3,hp⟩
     ·refine zO (t:=(decide (x2 < 4))) rfl b'3 ?_
      refine zU (Za (Zk (Zaa (Zk (Zo (Zd (.n x2) q'4_23 (Zd (.n x2) rfl ?_)))))))
      refine Zb (Za (Zk (Zo (Zd (.n x1) q'4_7 (Zd (.n x2) rfl (Ze (Zcl (cs:=Zg.c (⟨x1,x2⟩:Zs)) (by rw [(zq (v:=.n x1) rfl (zq (v:=.n x2) rfl Za5))]; rfl)) (zy (hO'10.alloc (cs:=Zg.c (⟨0,0⟩:Zs)) hO'10.fr) ?_)))))))
      rintro _ k'7 ⟨r'2,rfl,n'2,f'2,hW⟩
      have hO'11:=hW
      refine zy (hO'11.stb (ws:=Zg.c (⟨x1,x2⟩:Zs)) (cs':=Zg.c (⟨x1,x2⟩:Zs)) (v:=.ag (Zg.c (⟨x1,x2⟩:Zs))) 3 rfl rfl rfl rfl ⟨rfl,Nat.le_of_ble_eq_true rfl,rfl⟩ rfl) ?_
      rintro _ k'8 ⟨rfl,f'3,m'1,hW⟩
      have hO'12:=hW
      refine Zb (Za (Zk (Zk (Zo (Ze (Zaz (cs:=(Zg.c (⟨x1,x2⟩:Zs))) (ws:=Zg.c (⟨x1,x2⟩:Zs)) (hO'12.box 3 rfl) rfl rfl) (Zd v_cells q'4_0 ?_))))))
      obtain ⟨x3,hx'2,hp⟩:=Zt hp
      obtain ⟨u'2,k'9,ca'2,rfl,hW'2⟩:=Za1.ok (h:=k'8)  (hO'12.rd0 s_cells.rd) hx'2
      refine Za3 (id:=220) (caps:=[]) rfl (Z3 (v:=.ag (Zg.c (⟨x1,x2⟩:Zs))) rfl (Z3 (v:=v_cells) rfl zn)) ca'2 ?_
      have hO'13:=hO'12.call hW'2 rfl
      refine Ze (ZcF (t:=x3) rfl) (Zd (.b (!x3)) rfl ?_)
      refine Zad 4 (fun fr' k'=>k'9 = k'∧fr' 37 = .b ((!x3) || (ZbV false (⟨x1,x2⟩:Zs) met1))∧fr' 0 = v_cells∧fr' 19 = .n (cells.length:Int)∧fr' 20 = .n x1∧fr' 23 = .n x2∧fr' 5 = v'4∧fr' 6 = .mp r'1∧fr' 7 = .n x1∧fr' 9 = .p r'2 0) ?_ ?_
      ·rcases bc (!x3) with b'4 | b'4
       ·skip
        refine Z4 rfl b'4 (Z4 rfl b'4 (Z4 rfl b'4 (Ze (zg (t:=(!x3)) (v:=.b ((!x3) || (ZbV false (⟨x1,x2⟩:Zs) met1))) rfl b'4 (Eq.trans (b:=V.b true) rfl (Zbg b'4))) (Zb ?_))))
        exact ⟨rfl,rfl,q'4_0,q'4_19,q'4_20,q'4_23,q'4_5,q'4_6,q'4_7,rfl⟩
       ·skip
        refine ZB rfl b'4 (Zd (.mp r'1) q'4_6 (ZB rfl b'4 (Ze (Zaz (cs:=(Zg.c (⟨x1,x2⟩:Zs))) (ws:=Zg.c (⟨x1,x2⟩:Zs)) (hO'13.box 3 rfl) rfl rfl) (ZB rfl b'4 (Ze (ZjD (E:=Zg) (m:=met1) (q:=(⟨x1,x2⟩:Zs)) (hO'13.mpP 2 rfl) rfl rfl (Mu.Zg.same)) (Ze (zc (t:=(!x3)) (v:=.b ((!x3) || (ZbV false (⟨x1,x2⟩:Zs) met1))) rfl b'4 (Eq.trans (b:=V.b (ZbV false (⟨x1,x2⟩:Zs) met1)) rfl (Zb7 b'4))) (Zb ?_)))))))
        exact ⟨rfl,rfl,q'4_0,q'4_19,q'4_20,q'4_23,q'4_5,q'4_6,q'4_7,rfl⟩
      rintro frg'1 _ ⟨rfl,g'1_37,g'1_0,g'1_19,g'1_20,g'1_23,g'1_5,g'1_6,g'1_7,g'1_9⟩
      refine Zb (Za ?_)
      rcases Z2 hp with ⟨b'5,hp⟩ | ⟨b'5,hp⟩
      ·refine zO (t:=((!x3) || (ZbV false (⟨x1,x2⟩:Zs) met1))) g'1_37 b'5 ?_
       refine ZaT (zR (Zaq (Za (Zo ?_))))
       obtain ⟨c'1,hp⟩:=Zj hp
       refine Ze (zp (a:=x2) (b:=1) g'1_23 rfl c'1) (Zd (.n (x2 + 1)) rfl (Zb ?_))
       cases hp
       exact (Or.inl ⟨(l2,met1,x2 + 1),rfl,rfl,v'4,vs'4,g'1_0,g'1_5,g'1_6,g'1_7,g'1_19,g'1_20,rfl,(hO'13.pick [0,1,2] rfl (by decide))⟩)
      ·refine zN (t:=((!x3) || (ZbV false (⟨x1,x2⟩:Zs) met1))) g'1_37 b'5 ?_
       refine zU (Za (Zk (Zo (Zd (.sn) rfl (Zb (Za (Zk ?_)))))))
       refine Zk (Zo (Ze (Zaz (cs:=(Zg.c (⟨x1,x2⟩:Zs))) (ws:=Zg.c (⟨x1,x2⟩:Zs)) (hO'13.box 3 rfl) g'1_9 rfl) (zy (hO'13.alloc (cs:=Zg.c (⟨0,0⟩:Zs)) hO'13.fr) ?_)))
       rintro _ k'10 ⟨r'3,rfl,n'3,f'4,hW⟩
       have hO'14:=hW
       refine zy (hO'14.stb (ws:=Zg.c (⟨x1,x2⟩:Zs)) (cs':=Zg.c (⟨x1,x2⟩:Zs)) (v:=.ag (Zg.c (⟨x1,x2⟩:Zs))) 4 rfl rfl rfl rfl ⟨rfl,Nat.le_of_ble_eq_true rfl,rfl⟩ rfl) ?_
       rintro _ k'11 ⟨rfl,f'5,m'2,hW⟩
       have hO'15:=hW
       refine Zb (Za (Zaa ?_))
       obtain ⟨o'5,ho'3,hp⟩:=Zt hp
       refine W.mono (Q:=fun e fr k=>match (generalizing:=false) o'5 with
         | (met4,f1)=>e = (.exit 4)∧∃ (v'7:V),fr 0 = v_cells∧fr 5 = v'4∧fr 6 = .mp r'1∧fr 7 = .n x1∧fr 10 = v'7∧fr 19 = .n (cells.length:Int)∧fr 20 = .n x1∧fr 23 = .n x2∧Own B h k [eSl eV v'4 vs'4,Zba Zg vs'4 l2,eMp Zg r'1 met4,eSl Zg v'7 f1]) ?_ ?_
       ·clear hp
        have hO'17:=hO'15.nil Zg
        refine z9 (fun st fr k=>match st with | (met3,f,x4)=>∃ (v'6:V),∃ (r'4:Nat),fr 0 = v_cells∧fr 5 = v'4∧fr 6 = .mp r'1∧fr 7 = .n x1∧fr 10 = v'6∧fr 11 = .p r'4 0∧fr 19 = .n (cells.length:Int)∧fr 20 = .n x1∧fr 23 = .n x2∧Own B h k [eSl eV v'4 vs'4,Zba Zg vs'4 l2,eMp Zg r'1 met3,eSl Zg v'6 f,zQ r'4 (Zg.c x4)]) ho'3 (s:=(met1,([]:List Zs),(⟨x1,x2⟩:Zs))) ⟨V.sn,r'3,g'1_0,g'1_5,g'1_6,g'1_7,rfl,rfl,g'1_19,g'1_20,g'1_23,(hO'17.pick [0,1,2,5,4] rfl (by decide))⟩ ?_
        rintro ⟨met3,f,x4⟩ q'6 k'13 ⟨v'6,r'4,q'6_0,q'6_5,q'6_6,q'6_7,q'6_10,q'6_11,q'6_19,q'6_20,q'6_23,hO'18⟩ o'6 hp
        dsimp only [zF.s2] at hp
        refine Zk (Zk (Zo (Zd (.mp r'1) q'6_6 (Ze (Zaz (cs:=(Zg.c x4)) (ws:=Zg.c x4) (hO'18.box 4 rfl) q'6_11 rfl) (Ze (ZjD (E:=Zg) (m:=met3) (q:=x4) (hO'18.mpP 2 rfl) rfl rfl (Mu.Zg.same)) (Ze (ZcF (t:=(ZbV false x4 met3)) rfl) (Zb ?_)))))))
        refine Za ?_
        rcases Z2 hp with ⟨b'6,hp⟩ | ⟨b'6,hp⟩
        ·refine zO (t:=(!(ZbV false x4 met3))) rfl b'6 ?_
         refine zU (Za (Zk (Zaa (Zk (Zo (Zd (.mp r'1) q'6_6 (Ze (Zaz (cs:=(Zg.c x4)) (ws:=Zg.c x4) (hO'18.box 4 rfl) q'6_11 rfl) ?_)))))))
         refine zy (hO'18.mup (E:=Zg) (m:=met3) (q:=x4) (v:=true) 2 rfl rfl rfl rfl (Mu.Zg.same)) ?_
         rintro _ k'14 ⟨rfl,f'6,m'3,hW⟩
         have hO'19:=hW
         refine Zb (Za (Zo (Zd v'6 q'6_10 (Ze (Zaz (cs:=(Zg.c x4)) (ws:=Zg.c x4) (hO'19.box 4 rfl) q'6_11 rfl) (zy (hO'19.bsl (E:=Zg) (l:=[x4]) hO'19.fr (by rw [(zq (v:=.ag (Zg.c x4)) rfl Za5)]; rfl) rfl) ?_)))))
         rintro v'8 k'15 ⟨r'5,f'7,hW⟩
         have hO'20:=hW
         obtain ⟨c'2,hp⟩:=Zj hp
         refine zy (hO'20.app (E:=Zg) (bytes:=16) 3 hO'20.fr rfl (hO'20.sl 5 rfl) rfl rfl (fun _=>rfl) c'2 (by decide)) ?_
         rintro v'9 k'16 ⟨f'8,hW⟩
         have hO'21:=hW
         refine Zd v'9 rfl (Zb (Zac (Za (Zk (Zk (Zo (Ze (Zaz (cs:=(Zg.c x4)) (ws:=Zg.c x4) (hO'21.box 4 rfl) q'6_11 rfl) ?_)))))))
         refine Zb (Za (Zo (zy (hO'21.alloc (cs:=Zg.c (⟨0,0⟩:Zs)) hO'21.fr) ?_)))
         rintro _ k'17 ⟨r'6,rfl,n'4,f'9,hW⟩
         have hO'22:=hW
         refine zy (hO'22.stb (ws:=Zg.c x4) (cs':=Zg.c x4) (v:=.ag (Zg.c x4)) 6 rfl rfl rfl rfl ⟨rfl,Nat.le_of_ble_eq_true rfl,rfl⟩ rfl) ?_
         rintro _ k'18 ⟨rfl,f'10,m'4,hW⟩
         have hO'23:=hW
         refine Zb (Za (Zo (Ze (Zaz (cs:=(Zg.c x4)) (ws:=Zg.c x4) (hO'23.box 6 rfl) rfl rfl) (Zd v_cells q'6_0 ?_))))
         obtain ⟨x5,hx'3,hp⟩:=Zt hp
         obtain ⟨u'3,k'19,ca'3,rfl,hW'3⟩:=zA.ok (h:=k'18)  (hO'23.rd0 s_cells.rd) hx'3
         refine Za3 (id:=221) (caps:=[]) rfl (Z3 (v:=.ag (Zg.c x4)) rfl (Z3 (v:=v_cells) rfl zn)) ca'3 ?_
         have hO'24:=hO'23.call hW'3 rfl
         refine zy (hO'24.stb (ws:=Zg.c x5) (cs':=Zg.c x5) (v:=.ag (Zg.c x5)) 6 rfl rfl rfl rfl ⟨rfl,Nat.le_of_ble_eq_true rfl,rfl⟩ rfl) ?_
         rintro _ k'20 ⟨rfl,f'11,m'5,hW⟩
         have hO'25:=hW
         refine Zb ?_
         cases hp
         exact (Or.inl ⟨(ZcT x4 true met3,f++[x4],x5),rfl,rfl,v'9,r'6,q'6_0,q'6_5,q'6_6,q'6_7,rfl,rfl,q'6_19,q'6_20,q'6_23,(hO'25.pick [0,1,2,3,6] rfl (by decide))⟩)
        ·refine zN (t:=(!(ZbV false x4 met3))) rfl b'6 ?_
         refine ZaT (zR ?_)
         cases hp
         refine (Or.inr ⟨(met3,f),rfl,(fun h=>nomatch h),(fun he=>?_)⟩)
         subst he; exact ⟨rfl,v'6,q'6_0,q'6_5,q'6_6,q'6_7,q'6_10,q'6_19,q'6_20,q'6_23,(hO'18.pick [0,1,2,3] rfl (by decide))⟩
       intro e'3 q'5 k'12 hJ'3
       obtain ⟨met4,f1⟩:=o'5
       obtain ⟨rfl,v'7,q'5_0,q'5_5,q'5_6,q'5_7,q'5_10,q'5_19,q'5_20,q'5_23,hO'16⟩:=hJ'3
       refine Zaq (Za (Zo (Zd v'4 q'5_5 (Zd v'7 q'5_10 (zy (hO'16.bsl (E:=eV) (l:=[v'7]) hO'16.fr (by rw [(zq (v:=v'7) rfl Za5)]; simp only [fill,(hO'16.sl 3 rfl).cells]; simp [over]) rfl) ?_)))))
       rintro v'10 k'21 ⟨r'7,f'12,hW⟩
       have hO'26:=hW
       obtain ⟨c'3,hp⟩:=Zj hp
       refine zy (hO'26.appV (bytes:=24) 0 hO'26.fr rfl (hO'26.sl 4 rfl) rfl rfl (by simp only [List.all_cons,List.all_nil,Bool.and_true]; exact (hO'26.sl 3 rfl).oneV) (by rw [(hO'26.allLen 1 rfl:(vs'4).length = (l2).length)]; exact c'3) (by decide)) ?_
       rintro v'11 k'22 ⟨f'13,hW⟩
       have hO'27:=hW
       have hO'28:=hO'27.absorb 1 3 rfl rfl (by decide)
       refine Zd v'11 rfl (Zb (Zac (Za (Zo ?_))))
       obtain ⟨c'4,hp⟩:=Zj hp
       refine Ze (zp (a:=x2) (b:=1) q'5_23 rfl c'4) (Zd (.n (x2 + 1)) rfl (Zb ?_))
       cases hp
       exact (Or.inl ⟨(l2++[f1],met4,x2 + 1),rfl,rfl,v'11,vs'4++[v'7],q'5_0,rfl,q'5_6,q'5_7,q'5_19,q'5_20,rfl,(hO'28.pick [0,1,2] rfl (by decide))⟩)
     ·refine zN (t:=(decide (x2 < 4))) rfl b'3 ?_
      refine ZaT (zR ?_)
      cases hp
      refine (Or.inr ⟨(l2,met1),rfl,(fun h=>nomatch h),(fun he=>?_)⟩)
      subst he; exact ⟨rfl,v'4,vs'4,q'4_0,q'4_5,q'4_6,q'4_19,q'4_20,(hO'10.pick [0,1,2] rfl (by decide))⟩
    intro e'2 q'3 k'5 hJ'2
    obtain ⟨l3,met2⟩:=o'3
    obtain ⟨rfl,v'5,vs'5,q'3_0,q'3_5,q'3_6,q'3_19,q'3_20,hO'9⟩:=hJ'2
    refine Zaq (Zac (Za (Zo ?_)))
    obtain ⟨c'5,hp⟩:=Zj hp
    refine Ze (zp (a:=x1) (b:=1) q'3_20 rfl c'5) (Zd (.n (x1 + 1)) rfl (Zb ?_))
    cases hp
    exact (Or.inl ⟨(l3,met2,x1 + 1),rfl,rfl,v'5,vs'5,q'3_0,q'3_5,q'3_6,q'3_19,rfl,(hO'9.pick [0,1,2] rfl (by decide))⟩)
   ·refine zN (t:=(decide (x1 < (cells.length:Int)))) rfl b'2 ?_
    refine ZaT (zR ?_)
    cases hp
    refine (Or.inr ⟨l,rfl,(fun h=>nomatch h),(fun he=>?_)⟩)
    subst he; exact ⟨rfl,v'2,vs'2,q'2_5,(hO'8.pick [0,1] rfl (by decide))⟩
  intro e'1 q'1 k'3 hJ'1
  obtain ⟨l1,rfl⟩:∃ x,x = o'1:=⟨_,rfl⟩
  obtain ⟨rfl,v'3,vs'3,q'1_5,hO'5⟩:=hJ'1
  refine Zaq (Za (Zk (Zo (Zd v'3 q'1_5 (Zd v'3 rfl (Zd (.n 0) rfl (Zb ?_)))))))
  refine Za (Za2 (zW (Zax (n:=2) (v:=v'3) rfl (Zax (n:=3) (v:=.n 0) rfl zx)) ?_))
  cases hp
  exact ⟨v'3,vs'3,rfl,(hO'5.pick [0,1] rfl (by decide))⟩

theorem Zbf.ok {h:Hp} {d:Int} {e_:Int}   {r:Int} (hp:Zbf d e_ = some r) :
  ∃ u k',Is G 222 [.n d,.n e_] h u k'∧V.n r = u∧Own (fun r=>r < h.n) h k' []:=by
 refine WC.is (ZaM ZcZ ?_)
 unfold Zbf at hp
 let B:Nat→Prop:=(fun r=>r < h.n)
 have hO:Own B h h []:=Own.start0 h
 refine Zk (Zo (Zd (.n 0) rfl (Zb (Za (Zk (Zk (Zo ?_)))))))
 refine Zd (.n d) rfl ?_
 obtain ⟨x,hx'1,hp⟩:=Zt hp
 obtain ⟨u'1,k'1,ca'1,rfl,hW'1⟩:=Za0.ok (h:=h)   hx'1
 refine Za3 (id:=90) (caps:=[]) rfl (Z3 (v:=.n d) rfl zn) ca'1 ?_
 have hO'1:=hO.call hW'1 rfl
 refine Ze (ZcF (t:=x) rfl) (Zd (.b (!x)) rfl ?_)
 obtain ⟨t,hv'1,hp⟩:=Zt hp
 refine Zad 4 (fun fr' k'=>Own B h k' []∧fr' 12 = .b t∧fr' 0 = .n d∧fr' 1 = .n e_) ?_ ?_
 ·clear hp; rcases Z2 hv'1 with ⟨b'1,hp⟩ | ⟨b'1,hp⟩
  ·skip
   refine Z4 rfl b'1 (Z4 rfl b'1 (Z4 rfl b'1 (Ze (zg (t:=(!x)) (v:=.b t) rfl b'1 (Eq.trans (b:=V.b true) rfl (congrArg V.b (Option.some.inj hp)))) (Zb ?_))))
   exact ⟨hO'1.pick [] rfl (by decide),rfl,rfl,rfl⟩
  ·skip
   refine ZB rfl b'1 (Zd (.n e_) rfl (ZB rfl b'1 ?_))
   obtain ⟨x1,hx'2,hp⟩:=Zt hp
   obtain ⟨u'2,k'2,ca'2,rfl,hW'2⟩:=Za0.ok (h:=k'1)   hx'2
   refine Za3 (id:=90) (caps:=[]) rfl (Z3 (v:=.n e_) rfl zn) ca'2 ?_
   have hO'2:=hO'1.call hW'2 rfl
   refine ZB rfl b'1 (Ze (ZcF (t:=x1) rfl) (Ze (zc (t:=(!x)) (v:=.b t) rfl b'1 (Eq.trans (b:=V.b (!x1)) rfl (congrArg V.b (Option.some.inj hp)))) (Zb ?_)))
   exact ⟨hO'2.pick [] rfl (by decide),rfl,rfl,rfl⟩
 rintro frg'1 k'3 ⟨hO'3,g'1_12,g'1_0,g'1_1⟩
 refine Zb (Za ?_)
 rcases Z2 hp with ⟨b'2,hp⟩ | ⟨b'2,hp⟩
 ·refine zO (t:=t) g'1_12 b'2 ?_
  refine Zk (Zo (Zd (.n 0) rfl (Zb (Za (Za2 (Zaf (zW (Zax (n:=4) (v:=.n 0) rfl zx) ?_)))))))
  cases hp
  exact ⟨rfl,(hO'3.pick [] rfl (by decide))⟩
 ·refine zN (t:=t) g'1_12 b'2 ?_
  refine zU (Za (Zk (Zo (Ze (Zcl (cs:=Zbk.c (⟨0,1,(-2),(-1)⟩:A4 Int)) (by rw [(zq (v:=.n 0) rfl (zq (v:=.n 1) rfl (zq (v:=.n (-2)) rfl (zq (v:=.n (-1)) rfl Za5))))]; rfl)) (Zd (.n e_) g'1_1 (Zd (.n d) g'1_0 ?_))))))
  obtain ⟨c'1,hp⟩:=Zj hp
  refine Ze (ZkW (a:=e_) (b:=d) rfl rfl c'1) ?_
  obtain ⟨c'2,hp⟩:=Zj hp
  refine Ze (zp (a:=(e_ - d)) (b:=4) rfl rfl c'2) (Ze (ZbJ (a:=((e_ - d) + 4)) (b:=4) rfl rfl (by decide)) ?_)
  obtain ⟨c'3,hp⟩:=Zj hp
  refine Ze (ZjR (cs:=Zbk.c (⟨0,1,(-2),(-1)⟩:A4 Int)) (z:=(((e_ - d) + 4).tmod 4)) (v:=.n ((⟨0,1,(-2),(-1)⟩:A4 Int).get (((e_ - d) + 4).tmod 4))) rfl rfl c'3 (Zem c'3)) (Zd (.n ((⟨0,1,(-2),(-1)⟩:A4 Int).get (((e_ - d) + 4).tmod 4))) rfl (Zb (Za (Za2 (zW (Zax (n:=4) (v:=.n ((⟨0,1,(-2),(-1)⟩:A4 Int).get (((e_ - d) + 4).tmod 4))) rfl zx) ?_)))))
  cases hp
  exact ⟨rfl,(hO'3.pick [] rfl (by decide))⟩

theorem ZaB.ok {h:Hp} {cells:List Zc} {f:List Zs} {v_cells:V} {v_f:V} (s_cells:Sl Zf h v_cells cells) (s_f:Sl Zg h v_f f) {r:(List Int)} (hp:ZaB cells f = some r) :
  ∃ u k',Is G 204 [v_cells,v_f] h u k'∧∃ (v'1:V),v'1 = u∧Own (fun r=>r < h.n) h k' [eSl zw v'1 r]:=by
 refine WC.is (ZaM Zd1 ?_)
 unfold ZaB at hp
 let B:Nat→Prop:=(fun r=>r < h.n)
 have hO:Own B h h []:=Own.start0 h
 refine Zk (Zo (Zd (.sn) rfl (Zb (Za (Zk (Zo (Zd v_f rfl ?_)))))))
 refine Ze (Zah (hO.rd0 s_f.rd) rfl) ?_
 obtain ⟨c'1,hp⟩:=Zj hp
 refine zy (hO.mks (E:=zw) (y:=(0:Int)) (bytes:=8) (z:=(f.length:Int)) hO.fr rfl rfl rfl c'1 (by decide)) ?_
 rintro v'2 k'1 ⟨r'1,f'1,hW⟩
 have hO'1:=hW
 refine Zd v'2 rfl (Zb (Za (Zk (Zk (Zo (Zd v_cells rfl ?_))))))
 obtain ⟨x,hx'1,hp⟩:=Zt hp
 obtain ⟨u'1,k'2,ca'1,rfl,hW'1⟩:=z4.ok (h:=k'1)  (hO'1.rd0 s_cells.rd) hx'1
 refine Za3 (id:=66) (caps:=[]) rfl (Z3 (v:=v_cells) rfl zn) ca'1 ?_
 have hO'2:=hO'1.call hW'1 rfl
 refine Ze (ZcE (a:=x) (b:=0) rfl rfl) (Zb (Za ?_))
 rcases Z2 hp with ⟨b'1,hp⟩ | ⟨b'1,hp⟩
 ·refine zO (t:=(!(decide (x = 0)))) rfl b'1 ?_
  refine Zk (Zo (Zd v'2 rfl (Zd v'2 rfl (Zb (Za (Za2 (Zaf ?_)))))))
  refine zW (Zax (n:=4) (v:=v'2) rfl zx) ?_
  cases hp
  exact ⟨v'2,rfl,(hO'2.pick [0] rfl (by decide))⟩
 ·refine zN (t:=(!(decide (x = 0)))) rfl b'1 ?_
  refine zU (Za (Zk (Zk (Zo (Zd v_f rfl (Ze (Zah (hO'2.rd0 s_f.rd) rfl) (Zd (.n 0) rfl ?_)))))))
  refine Zb (Za (Zaa ?_))
  obtain ⟨o'1,ho'1,hp⟩:=Zt hp
  refine W.mono (Q:=fun e fr k=>match (generalizing:=false) o'1 with
    | l1=>e = (.exit 0)∧fr 5 = v'2∧Own B h k [eSl zw v'2 l1]) ?_ ?_
  ·clear hp
   refine z9 (fun st fr k=>match st with | (l,x1)=>fr 0 = v_cells∧fr 5 = v'2∧fr 15 = v_f∧fr 16 = .n (f.length:Int)∧fr 17 = .n x1∧Own B h k [eSl zw v'2 l]) ho'1 (s:=(List.replicate ((f.length:Int):Int).toNat (0:Int),0)) ⟨rfl,rfl,rfl,rfl,rfl,(hO'2.pick [0] rfl (by decide))⟩ ?_
   rintro ⟨l,x1⟩ q'2 k'4 ⟨q'2_0,q'2_5,q'2_15,q'2_16,q'2_17,hO'4⟩ o'2 hp
   dsimp only [ZaB.s0] at hp
   refine Zk (Zo (Ze (zG (a:=x1) (b:=(f.length:Int)) q'2_17 q'2_16) (Zb (Za (Zk ?_)))))
   rcases Z2 hp with ⟨b'2,hp⟩ | ⟨b'2,hp⟩
   ·refine zO (t:=(decide (x1 < (f.length:Int)))) rfl b'2 ?_
    refine zU (Za (Zk (Zaa (Zk (Zo (Zd (.n x1) q'2_17 ?_))))))
    obtain ⟨c'2,hp⟩:=Zj hp
    refine Ze (zz (E:=Zg) (z:=x1) (hO'4.rd0 s_f.rd) q'2_15 q'2_17 c'2) (Ze (ZdX (E:=Zg) (hO'4.rd0 s_f.rd) rfl (Zp c'2)) (zy (hO'4.alloc (cs:=Zg.c (⟨0,0⟩:Zs)) hO'4.fr) ?_))
    rintro _ k'5 ⟨r'2,rfl,n'1,f'2,hW⟩
    have hO'5:=hW
    refine Zd (.n x1) rfl (zy (hO'5.stb (ws:=Zg.c (gi f x1.toNat)) (cs':=Zg.c (gi f x1.toNat)) (v:=.ag (Zg.c (gi f x1.toNat))) 1 rfl rfl rfl rfl ⟨rfl,Nat.le_of_ble_eq_true rfl,rfl⟩ rfl) ?_)
    rintro _ k'6 ⟨rfl,f'3,m'1,hW⟩
    have hO'6:=hW
    refine Zb (Za (Zk (Zo (Ze (Zaz (cs:=(Zg.c (gi f x1.toNat))) (ws:=Zg.c (gi f x1.toNat)) (hO'6.box 1 rfl) rfl rfl) (Zd v_cells q'2_0 ?_)))))
    obtain ⟨x2,hx'2,hp⟩:=Zt hp
    obtain ⟨u'2,k'7,ca'2,rfl,hW'2⟩:=Za1.ok (h:=k'6)  (hO'6.rd0 s_cells.rd) hx'2
    refine Za3 (id:=220) (caps:=[]) rfl (Z3 (v:=.ag (Zg.c (gi f x1.toNat))) rfl (Z3 (v:=v_cells) rfl zn)) ca'2 ?_
    have hO'7:=hO'6.call hW'2 rfl
    refine Zb (Za ?_)
    rcases Z2 hp with ⟨b'3,hp⟩ | ⟨b'3,hp⟩
    ·refine zO (t:=x2) rfl b'3 ?_
     refine ZfI ?_
     have hW:=hO'7.bump 11
     have fr'1:=Fresh.start k'7 11
     have nb'1:∀ {i:Nat},h.n≤k'7.n + i:=Nat.le_trans hO'7.n (Nat.le_add_right _ _)
     have hO'8:=hW
     refine Zbn v'2 q'2_5 (Zbn (.n x1) rfl (zP (z6 (r:=r'2) (o:=0) (o':=1) rfl rfl) (zP (zi (cs:=(Zg.c (gi f x1.toNat))) (v:=.n ((gi f x1.toNat).Dir)) (hO'8.box 1 rfl) rfl rfl) (zP (Zaz (cs:=(Zg.c (gi f x1.toNat))) (ws:=Zg.c (gi f x1.toNat)) (hO'8.box 1 rfl) rfl rfl) (Zbn v_cells q'2_0 ?_)))))
     obtain ⟨x3,hx'3,hp⟩:=Zt hp
     obtain ⟨u'3,k'9,ca'3,rfl,hW'3⟩:=zA.ok (h:=(k'7.bump 11))  (hO'8.rd0 s_cells.rd) hx'3
     refine ZiJ (id:=221) (caps:=[]) rfl (Z3 (v:=.ag (Zg.c (gi f x1.toNat))) rfl (Z3 (v:=v_cells) rfl zn)) ca'3 ?_
     have fr'2:=fr'1.call hW'3
     have hO'9:=hO'8.call hW'3 rfl
     refine zP (ZjB (cs:=Zg.c x3) (v:=.n x3.Dir) rfl rfl) ?_
     obtain ⟨x4,hx'4,hp⟩:=Zt hp
     obtain ⟨u'4,k'10,ca'4,rfl,hW'4⟩:=Zbf.ok (h:=k'9)   hx'4
     refine ZiJ (id:=222) (caps:=[]) rfl (Z3 (v:=.n ((gi f x1.toNat).Dir)) rfl (Z3 (v:=.n x3.Dir) rfl zn)) ca'4 ?_
     have fr'3:=fr'2.call hW'4
     have hO'10:=hO'9.call hW'4 rfl
     obtain ⟨c'3,hp⟩:=Zj hp
     refine zP (zz (E:=zw) (z:=x1) (hO'10.sl 0 rfl) rfl rfl c'3) (Ze6 (hO'10.ste (E:=zw) (y:=x4) (ws:=[.n x4]) 0 rfl rfl (Zp c'3) rfl rfl ⟨rfl,Nat.le_of_ble_eq_true rfl,rfl⟩ rfl) ?_)
     rintro _ k'11 z'1 ⟨rfl,f'4,m'2,hW⟩
     have fr'4:=fr'3.kept f'4 (by decide)
     have hO'11:=hW
     refine Zc1 ?_
     refine And.intro ?_ ?_
     ·intro q hq
      simp only [List.mem_cons,List.not_mem_nil,or_false] at hq
      rcases hq with rfl | rfl
      ·refine Zay ?_ ?_
       ·exact (fun h=>nomatch h)
       ·exact (fun h=>nomatch h)
      ·refine ZkX rfl rfl ?_
       ·exact (fun r hm hc=>hc (hW'3.base r (Nat.lt_of_lt_of_le (hO'7.ltAt 1 rfl _ (tch (v:=V.p r'2 1) (ZcR hm) rfl)) (Nat.le_trans (Nat.le_add_right _ _) fr'1.n))))
     refine Zac (Za (Zo ?_))
     obtain ⟨c'4,hp⟩:=Zj hp
     refine Ze (zp (a:=x1) (b:=1) q'2_17 rfl c'4) (Zd (.n (x1 + 1)) rfl (Zb ?_))
     cases hp
     exact (Or.inl ⟨(l.set x1.toNat x4,x1 + 1),rfl,rfl,q'2_0,q'2_5,q'2_15,q'2_16,rfl,(hO'11.pick [0] rfl (by decide))⟩)
    ·refine zN (t:=x2) rfl b'3 ?_
     refine zU (Zac (Za (Zo ?_)))
     obtain ⟨c'5,hp⟩:=Zj hp
     refine Ze (zp (a:=x1) (b:=1) q'2_17 rfl c'5) (Zd (.n (x1 + 1)) rfl (Zb ?_))
     cases hp
     exact (Or.inl ⟨(l,x1 + 1),rfl,rfl,q'2_0,q'2_5,q'2_15,q'2_16,rfl,(hO'7.pick [0] rfl (by decide))⟩)
   ·refine zN (t:=(decide (x1 < (f.length:Int)))) rfl b'2 ?_
    refine ZaT (zR ?_)
    cases hp
    refine (Or.inr ⟨l,rfl,(fun h=>nomatch h),(fun he=>?_)⟩)
    subst he; exact ⟨rfl,q'2_5,(hO'4.pick [0] rfl (by decide))⟩
  intro e'1 q'1 k'3 hJ'1
  obtain ⟨l1,rfl⟩:∃ x,x = o'1:=⟨_,rfl⟩
  obtain ⟨rfl,q'1_5,hO'3⟩:=hJ'1
  refine Zaq (Za (Zk (Zo (Zd v'2 q'1_5 (Zd v'2 rfl (Zb (Za ?_)))))))
  refine Za2 (zW (Zax (n:=4) (v:=v'2) rfl zx) ?_)
  cases hp
  exact ⟨v'2,rfl,(hO'3.pick [0] rfl (by decide))⟩

theorem Zas.ok {h:Hp} {turns:List Int} {v_turns:V} (s_turns:Sl zw h v_turns turns) {r:Int} (hp:Zas turns = some r) :
  ∃ u k',Is G 219 [v_turns] h u k'∧V.n r = u∧Own (fun r=>r < h.n) h k' []:=by
 refine WC.is (ZaM ZcO ?_)
 unfold Zas at hp
 let B:Nat→Prop:=(fun r=>r < h.n)
 have hO:Own B h h []:=Own.start0 h
 refine Zk (Zo (Zd (.n 0) rfl (Zb (Za (Zk (Zo (Zd (.n 0) rfl ?_)))))))
 refine Zb (Za (Zk (Zk (Zo (Zd v_turns rfl (Ze (Zah (hO.rd0 s_turns.rd) rfl) (Zd (.n 0) rfl ?_)))))))
 refine Zb (Za (Zaa ?_))
 obtain ⟨o'1,ho'1,hp⟩:=Zt hp
 refine W.mono (Q:=fun e fr k=>match (generalizing:=false) o'1 with
   | n1=>e = (.exit 0)∧fr 3 = .n n1∧Own B h k []) ?_ ?_
 ·clear hp
  refine z9 (fun st fr k=>match st with | (n,x)=>fr 3 = .n n∧fr 6 = v_turns∧fr 7 = .n (turns.length:Int)∧fr 8 = .n x∧Own B h k []) ho'1 (s:=(0,0)) ⟨rfl,rfl,rfl,rfl,(hO.pick [] rfl (by decide))⟩ ?_
  rintro ⟨n,x⟩ q'2 k'2 ⟨q'2_3,q'2_6,q'2_7,q'2_8,hO'2⟩ o'2 hp
  dsimp only [Zas.s0] at hp
  refine Zk (Zo (Ze (zG (a:=x) (b:=(turns.length:Int)) q'2_8 q'2_7) (Zb (Za (Zk ?_)))))
  rcases Z2 hp with ⟨b'1,hp⟩ | ⟨b'1,hp⟩
  ·refine zO (t:=(decide (x < (turns.length:Int)))) rfl b'1 ?_
   refine zU (Za (Zk (Zaa (Zk (Zo ?_)))))
   obtain ⟨c'1,hp⟩:=Zj hp
   refine Ze (zz (E:=zw) (z:=x) (hO'2.rd0 s_turns.rd) q'2_6 q'2_8 c'1) (Ze (zS (w:=.n (gi turns x.toNat)) (hO'2.rd0 s_turns.rd) rfl (Zp c'1) rfl) (Zd (.n (gi turns x.toNat)) rfl (Zb (Za (Zk (Zo (Zd (.n (gi turns x.toNat)) rfl ?_)))))))
   refine Ze (ZcC (a:=(gi turns x.toNat)) (b:=(-2)) rfl rfl) (Zd (.b (decide ((-2)≤(gi turns x.toNat)))) rfl ?_)
   refine Zad 3 (fun fr' k'=>k'2 = k'∧fr' 17 = .b ((decide ((-2)≤(gi turns x.toNat))) && (decide ((gi turns x.toNat)≤1)))∧fr' 3 = .n n∧fr' 5 = .n (gi turns x.toNat)∧fr' 6 = v_turns∧fr' 7 = .n (turns.length:Int)∧fr' 8 = .n x) ?_ ?_
   ·rcases bc (decide ((-2)≤(gi turns x.toNat))) with b'2 | b'2
    ·skip
     refine ZB rfl b'2 (Zd (.n (gi turns x.toNat)) rfl (ZB rfl b'2 (Ze (ZjC (a:=(gi turns x.toNat)) (b:=1) rfl rfl) (Ze (zg (t:=(decide ((-2)≤(gi turns x.toNat)))) (v:=.b ((decide ((-2)≤(gi turns x.toNat))) && (decide ((gi turns x.toNat)≤1)))) rfl b'2 (Eq.trans (b:=V.b (decide ((gi turns x.toNat)≤1))) rfl (ZbS b'2))) (Zb ?_)))))
     exact ⟨rfl,rfl,q'2_3,rfl,q'2_6,q'2_7,q'2_8⟩
    ·skip
     refine Z4 rfl b'2 (Z4 rfl b'2 (Ze (zc (t:=(decide ((-2)≤(gi turns x.toNat)))) (v:=.b ((decide ((-2)≤(gi turns x.toNat))) && (decide ((gi turns x.toNat)≤1)))) rfl b'2 (Eq.trans (b:=V.b false) rfl (Zbw b'2))) (Zb ?_)))
     exact ⟨rfl,rfl,q'2_3,rfl,q'2_6,q'2_7,q'2_8⟩
   rintro frg'1 _ ⟨rfl,g'1_17,g'1_3,g'1_5,g'1_6,g'1_7,g'1_8⟩
   refine Zb (Za ?_)
   rcases Z2 hp with ⟨b'3,hp⟩ | ⟨b'3,hp⟩
   ·refine zO (t:=((decide ((-2)≤(gi turns x.toNat))) && (decide ((gi turns x.toNat)≤1)))) g'1_17 b'3 ?_
    refine Zo (Zd (.n n) g'1_3 (Zd (.n (gi turns x.toNat)) g'1_5 ?_))
    obtain ⟨c'2,hp⟩:=Zj hp
    refine Ze (zp (a:=n) (b:=(gi turns x.toNat)) rfl rfl c'2) (Zd (.n (n + (gi turns x.toNat))) rfl (Zb (Zac (Za (Zo ?_)))))
    obtain ⟨c'3,hp⟩:=Zj hp
    refine Ze (zp (a:=x) (b:=1) g'1_8 rfl c'3) (Zd (.n (x + 1)) rfl (Zb ?_))
    cases hp
    exact (Or.inl ⟨(n + (gi turns x.toNat),x + 1),rfl,rfl,rfl,g'1_6,g'1_7,rfl,(hO'2.pick [] rfl (by decide))⟩)
   ·refine zN (t:=((decide ((-2)≤(gi turns x.toNat))) && (decide ((gi turns x.toNat)≤1)))) g'1_17 b'3 ?_
    refine zU (Zac (Za (Zo ?_)))
    obtain ⟨c'4,hp⟩:=Zj hp
    refine Ze (zp (a:=x) (b:=1) g'1_8 rfl c'4) (Zd (.n (x + 1)) rfl (Zb ?_))
    cases hp
    exact (Or.inl ⟨(n,x + 1),rfl,rfl,g'1_3,g'1_6,g'1_7,rfl,(hO'2.pick [] rfl (by decide))⟩)
  ·refine zN (t:=(decide (x < (turns.length:Int)))) rfl b'1 ?_
   refine ZaT (zR ?_)
   cases hp
   refine (Or.inr ⟨n,rfl,(fun h=>nomatch h),(fun he=>?_)⟩)
   subst he; exact ⟨rfl,q'2_3,(hO'2.pick [] rfl (by decide))⟩
 intro e'1 q'1 k'1 hJ'1
 obtain ⟨n1,rfl⟩:∃ x,x = o'1:=⟨_,rfl⟩
 obtain ⟨rfl,q'1_3,hO'1⟩:=hJ'1
 refine Zaq (Za (Zk (Zo (Zd (.n n1) q'1_3 (Zd (.n n1) rfl (Zb (Za ?_)))))))
 refine Za2 (zW (Zax (n:=2) (v:=.n n1) rfl zx) ?_)
 cases hp
 exact ⟨rfl,(hO'1.pick [] rfl (by decide))⟩

theorem Zap.ok {h:Hp} {cells:List Zc} {v_cells:V} (s_cells:Sl Zf h v_cells cells) {r:Int × Bool} (hp:Zap cells = some r) :
  ∃ u k',Is G 201 [v_cells] h u k'∧V.tu [.n r.1,.b r.2] = u∧Own (fun r=>r < h.n) h k' []:=by
 refine WC.is (ZaM Zdu ?_)
 unfold Zap at hp
 let B:Nat→Prop:=(fun r=>r < h.n)
 have hO:Own B h h []:=Own.start0 h
 refine Zk (Zo (Zd (.n 0) rfl (Zd (.b false) rfl (Zb (Za (Zk (Zo ?_)))))))
 refine Zd v_cells rfl ?_
 obtain ⟨⟨x,x1⟩,hx'1,hp⟩:=Zt hp
 obtain ⟨u'1,k'1,ca'1,v'1,vs'1,rfl,hW'1⟩:=zF.ok (h:=h)  (hO.rd0 s_cells.rd) hx'1
 refine Za3 (id:=203) (caps:=[]) rfl (Z3 (v:=v_cells) rfl zn) ca'1 ?_
 have hO'1:=hO.call hW'1 rfl
 refine Zd (.tu [v'1,.n x1]) rfl (Ze (ZaY (vs:=[v'1,.n x1]) (v:=v'1) rfl rfl) (Ze (ZaY (vs:=[v'1,.n x1]) (v:=.n x1) rfl rfl) (Zd v'1 rfl (Zd (.n x1) rfl (Zb (Za (Zk ?_)))))))
 refine Zo (Zd (.n (-1)) rfl (Zb (Za (Zk (Zk (Zo (Zd v'1 rfl ?_)))))))
 refine Ze (Zg6 (n:=(x).length) (hO'1.sl 0 rfl) (hO'1.allLen 1 rfl:(vs'1).length = (x).length) rfl) (Zd (.n 0) rfl (Zb (Za (Zaa ?_))))
 obtain ⟨o'1,ho'1,hp⟩:=Zt hp
 refine W.mono (Q:=fun e fr k=>match (generalizing:=false) o'1 with
   | .inl at_1=>e = (.exit 0)∧fr 6 = .n at_1∧Own B h k []
   | .inr _=>e = .ret∧fr 2 = .n 0∧fr 3 = .b false∧Own B h k []) ?_ ?_
 ·clear hp
  refine z9 (fun st fr k=>match st with | (at_,x2)=>fr 0 = v_cells∧fr 6 = .n at_∧fr 14 = v'1∧fr 15 = .n (x.length:Int)∧fr 16 = .n x2∧Own B h k [eSl eV v'1 vs'1,Zba Zg vs'1 x]) ho'1 (s:=((-1),0)) ⟨rfl,rfl,rfl,rfl,rfl,(hO'1.pick [0,1] rfl (by decide))⟩ ?_
  rintro ⟨at_,x2⟩ q'2 k'3 ⟨q'2_0,q'2_6,q'2_14,q'2_15,q'2_16,hO'3⟩ o'2 hp
  dsimp only [Zap.s0] at hp
  refine Zk (Zo (Ze (zG (a:=x2) (b:=(x.length:Int)) q'2_16 q'2_15) (Zb (Za (Zk ?_)))))
  rcases Z2 hp with ⟨b'1,hp⟩ | ⟨b'1,hp⟩
  ·refine zO (t:=(decide (x2 < (x.length:Int)))) rfl b'1 ?_
   refine zU (Za (Zk (Zaa (Zk (Zo (Zd (.n x2) q'2_16 ?_))))))
   obtain ⟨c'1,hp⟩:=Zj hp
   refine Ze (zz (E:=eV) (z:=x2) (hO'3.sl 0 rfl) q'2_14 q'2_16 (by rw [(hO'3.allLen 1 rfl:(vs'1).length = (x).length)]; exact c'1)) (Ze (zS (w:=(gi vs'1 x2.toNat)) (hO'3.sl 0 rfl) rfl (by rw [(hO'3.allLen 1 rfl:(vs'1).length = (x).length)]; exact Zp c'1) rfl) (Zd (.n x2) rfl (Zd ((gi vs'1 x2.toNat)) rfl (Zb (Za (Zk (Zo ?_)))))))
   refine Zd v_cells q'2_0 (Zd ((gi vs'1 x2.toNat)) rfl ?_)
   obtain ⟨x3,hx'2,hp⟩:=Zt hp
   obtain ⟨u'2,k'4,ca'2,v'2,rfl,hW'2⟩:=ZaB.ok (h:=k'3)  (hO'3.rd0 s_cells.rd) (hO'3.inn 1 rfl (Zp c'1):Sl Zg k'3 (gi vs'1 x2.toNat) (gi x x2.toNat)) hx'2
   refine Za3 (id:=204) (caps:=[]) rfl (Z3 (v:=v_cells) rfl (Z3 (v:=(gi vs'1 x2.toNat)) rfl zn)) ca'2 ?_
   have hO'4:=hO'3.call hW'2 rfl
   obtain ⟨x4,hx'3,hp⟩:=Zt hp
   obtain ⟨u'3,k'5,ca'3,rfl,hW'3⟩:=Zas.ok (h:=k'4)  (hO'4.sl 2 rfl) hx'3
   refine Za3 (id:=219) (caps:=[]) rfl (Z3 (v:=v'2) rfl zn) ca'3 ?_
   have hO'5:=hO'4.call hW'3 rfl
   refine Zb (Za (Zaa (Zk (Zo (Ze (ZaW (a:=x4) (b:=4) rfl rfl) (Zd (.b (decide (x4 = 4))) rfl (Zb ?_)))))))
   refine Za ?_
   rcases Z2 hp with ⟨b'2,hp⟩ | ⟨b'2,hp⟩
   ·refine zO (t:=(decide (x4 = 4))) rfl b'2 ?_
    refine zU (Zac (Zac (Za (Zo ?_))))
    obtain ⟨c'2,hp⟩:=Zj hp
    refine Ze (zp (a:=x2) (b:=1) q'2_16 rfl c'2) (Zd (.n (x2 + 1)) rfl (Zb ?_))
    cases hp
    exact (Or.inl ⟨(at_,x2 + 1),rfl,rfl,q'2_0,q'2_6,q'2_14,q'2_15,rfl,(hO'5.pick [0,1] rfl (by decide))⟩)
   ·refine zN (t:=(decide (x4 = 4))) rfl b'2 ?_
    refine Zk (Zo (Ze (ZaW (a:=x4) (b:=(-4)) rfl rfl) (Zd (.b (decide (x4 = (-4)))) rfl (Zb (Za ?_)))))
    rcases Z2 hp with ⟨b'3,hp⟩ | ⟨b'3,hp⟩
    ·refine zO (t:=(decide (x4 = (-4)))) rfl b'3 ?_
     refine Zk (Zk (Zo (Zd (.n at_) q'2_6 (Ze (ZcC (a:=at_) (b:=0) rfl rfl) (Zb (Za ?_))))))
     rcases Z2 hp with ⟨b'4,hp⟩ | ⟨b'4,hp⟩
     ·refine zO (t:=(decide (0≤at_))) rfl b'4 ?_
      refine Zk (Zo (Zd (.n 0) rfl (Zd (.b false) rfl (Zb (Za (Za2 (Zaf ?_)))))))
      refine Zbh (Zbh (Zaf ?_))
      cases hp
      refine (Or.inr ⟨.inr (),rfl,(fun h=>nomatch h),(fun he=>?_)⟩)
      subst he; exact ⟨rfl,rfl,rfl,(hO'5.pick [] rfl (by decide))⟩
     ·refine zN (t:=(decide (0≤at_))) rfl b'4 ?_
      refine zU (Za (Zo (Zd (.n x2) rfl (Zd (.n x2) rfl (Zb (Zac (Zac ?_)))))))
      refine Za (Zo ?_)
      obtain ⟨c'3,hp⟩:=Zj hp
      refine Ze (zp (a:=x2) (b:=1) q'2_16 rfl c'3) (Zd (.n (x2 + 1)) rfl (Zb ?_))
      cases hp
      exact (Or.inl ⟨(x2,x2 + 1),rfl,rfl,q'2_0,rfl,q'2_14,q'2_15,rfl,(hO'5.pick [0,1] rfl (by decide))⟩)
    ·refine zN (t:=(decide (x4 = (-4)))) rfl b'3 ?_
     refine Zk (Zo (Zd (.n 0) rfl (Zd (.b false) rfl (Zb (Za (Za2 (Zbh ?_)))))))
     refine Zbh (Zaf ?_)
     cases hp
     refine (Or.inr ⟨.inr (),rfl,(fun h=>nomatch h),(fun he=>?_)⟩)
     subst he; exact ⟨rfl,rfl,rfl,(hO'5.pick [] rfl (by decide))⟩
  ·refine zN (t:=(decide (x2 < (x.length:Int)))) rfl b'1 ?_
   refine ZaT (zR ?_)
   cases hp
   refine (Or.inr ⟨.inl at_,rfl,(fun h=>nomatch h),(fun he=>?_)⟩)
   subst he; exact ⟨rfl,q'2_6,(hO'3.pick [] rfl (by decide))⟩
 intro e'1 q'1 k'2 hJ'1
 rcases o'1 with at_1 | _
 ·obtain ⟨rfl,q'1_6,hO'2⟩:=hJ'1
  refine Zaq (Za (Zk (Zo (Zd (.n at_1) q'1_6 (Zd (.n at_1) q'1_6 (Ze (ZcC (a:=at_1) (b:=0) rfl rfl) (Zd (.n at_1) rfl ?_)))))))
  refine Zd (.b (decide (0≤at_1))) rfl (Zb (Za (Za2 (zW (Zax (n:=2) (v:=.n at_1) rfl (Zax (n:=3) (v:=.b (decide (0≤at_1))) rfl zx)) ?_))))
  cases hp
  exact ⟨rfl,(hO'2.pick [] rfl (by decide))⟩
 ·obtain ⟨rfl,q'1_2,q'1_3,hO'2⟩:=hJ'1
  refine Zbh (Zaf (zW (Zax (n:=2) (v:=.n 0) q'1_2 (Zax (n:=3) (v:=.b false) q'1_3 zx)) ?_))
  cases hp
  exact ⟨rfl,(hO'2.pick [] rfl (by decide))⟩

theorem zT.ok {h:Hp} {cells:List Zc} {v_cells:V} (s_cells:Sl Zf h v_cells cells) {r:Int} (hp:zT cells = some r) :
  ∃ u k',Is G 176 [v_cells] h u k'∧V.n r = u∧Own (fun r=>r < h.n) h k' []:=by
 refine WC.is (ZaM Zds ?_)
 unfold zT at hp
 let B:Nat→Prop:=(fun r=>r < h.n)
 have hO:Own B h h []:=Own.start0 h
 refine Zk (Zo (Zd (.n 0) rfl (Zb (Za (Zk (Zk (Zo ?_)))))))
 refine Zd v_cells rfl ?_
 obtain ⟨x,hx'1,hp⟩:=Zt hp
 obtain ⟨u'1,k'1,ca'1,rfl,hW'1⟩:=z4.ok (h:=h)  (hO.rd0 s_cells.rd) hx'1
 refine Za3 (id:=66) (caps:=[]) rfl (Z3 (v:=v_cells) rfl zn) ca'1 ?_
 have hO'1:=hO.call hW'1 rfl
 refine Zd (.n x) rfl (Zb (Za (Zk (Zo (Zd (.n x) rfl (Ze (ZcE (a:=x) (b:=0) rfl rfl) (Zb ?_)))))))
 refine Za ?_
 rcases Z2 hp with ⟨b'1,hp⟩ | ⟨b'1,hp⟩
 ·refine zO (t:=(!(decide (x = 0)))) rfl b'1 ?_
  refine Zk (Zo (Zd (.n x) rfl (Zd (.n x) rfl (Zb (Za (Za2 (Zaf ?_)))))))
  refine zW (Zax (n:=2) (v:=.n x) rfl zx) ?_
  cases hp
  exact ⟨rfl,(hO'1.pick [] rfl (by decide))⟩
 ·refine zN (t:=(!(decide (x = 0)))) rfl b'1 ?_
  refine zU (Za (Zk (Zk (Zo (Zd v_cells rfl ?_)))))
  obtain ⟨x1,hx'2,hp⟩:=Zt hp
  obtain ⟨u'2,k'2,ca'2,rfl,hW'2⟩:=Zbt.ok (h:=k'1)  (hO'1.rd0 s_cells.rd) hx'2
  refine Za3 (id:=32) (caps:=[]) rfl (Z3 (v:=v_cells) rfl zn) ca'2 ?_
  have hO'2:=hO'1.call hW'2 rfl
  refine Ze (ZcF (t:=x1) rfl) (Zb (Za ?_))
  rcases Z2 hp with ⟨b'2,hp⟩ | ⟨b'2,hp⟩
  ·refine zO (t:=(!x1)) rfl b'2 ?_
   refine Zk (Zo (Zd (.n 13) rfl (Zb (Za (Za2 (Zaf (zW (Zax (n:=2) (v:=.n 13) rfl zx) ?_)))))))
   cases hp
   exact ⟨rfl,(hO'2.pick [] rfl (by decide))⟩
  ·refine zN (t:=(!x1)) rfl b'2 ?_
   refine zU (Za (Zk (Zk (Zo (Zd v_cells rfl ?_)))))
   obtain ⟨⟨x2,x3⟩,hx'3,hp⟩:=Zt hp
   obtain ⟨u'3,k'3,ca'3,rfl,hW'3⟩:=Zap.ok (h:=k'2)  (hO'2.rd0 s_cells.rd) hx'3
   refine Za3 (id:=201) (caps:=[]) rfl (Z3 (v:=v_cells) rfl zn) ca'3 ?_
   have hO'3:=hO'2.call hW'3 rfl
   refine Zd (.tu [.n x2,.b x3]) rfl (Ze (ZaY (vs:=[.n x2,.b x3]) (v:=.n x2) rfl rfl) (Ze (ZaY (vs:=[.n x2,.b x3]) (v:=.b x3) rfl rfl) (Zd (.n x2) rfl (Zd (.b x3) rfl (Zb (Za (Zk ?_)))))))
   refine Zo (Zd (.b x3) rfl (Ze (ZcF (t:=x3) rfl) (Zd (.b (!x3)) rfl ?_)))
   refine Zad 4 (fun fr' k'=>k'3 = k'∧fr' 25 = .b ((!x3) && (decide (1 < (cells.length:Int))))) ?_ ?_
   ·rcases bc (!x3) with b'3 | b'3
    ·skip
     refine ZB rfl b'3 (Zd v_cells rfl (ZB rfl b'3 (Ze (Zah (hO'3.rd0 s_cells.rd) rfl) (ZB rfl b'3 (Ze (ZcD (a:=(cells.length:Int)) (b:=1) rfl rfl) (Ze (zg (t:=(!x3)) (v:=.b ((!x3) && (decide (1 < (cells.length:Int))))) rfl b'3 (Eq.trans (b:=V.b (decide (1 < (cells.length:Int)))) rfl (ZbS b'3))) (Zb ?_)))))))
     exact ⟨rfl,rfl⟩
    ·skip
     refine Z4 rfl b'3 (Z4 rfl b'3 (Z4 rfl b'3 (Ze (zc (t:=(!x3)) (v:=.b ((!x3) && (decide (1 < (cells.length:Int))))) rfl b'3 (Eq.trans (b:=V.b false) rfl (Zbw b'3))) (Zb ?_))))
     exact ⟨rfl,rfl⟩
   rintro frg'1 _ ⟨rfl,g'1_25⟩
   refine Zb (Za ?_)
   rcases Z2 hp with ⟨b'4,hp⟩ | ⟨b'4,hp⟩
   ·refine zO (t:=((!x3) && (decide (1 < (cells.length:Int))))) g'1_25 b'4 ?_
    refine Zk (Zo (Zd (.n 10) rfl (Zb (Za (Za2 (Zaf (zW (Zax (n:=2) (v:=.n 10) rfl zx) ?_)))))))
    cases hp
    exact ⟨rfl,(hO'3.pick [] rfl (by decide))⟩
   ·refine zN (t:=((!x3) && (decide (1 < (cells.length:Int))))) g'1_25 b'4 ?_
    refine zU (Za (Zk (Zo (Zd (.n 0) rfl (Zb (Za (Za2 ?_)))))))
    refine zW (Zax (n:=2) (v:=.n 0) rfl zx) ?_
    cases hp
    exact ⟨rfl,(hO'3.pick [] rfl (by decide))⟩

theorem ZaA.ok {h:Hp}    {r:(List Zc)} (hp:ZaA  = some r) :
  ∃ u k',Is G 196 [] h u k'∧∃ (v'1:V),v'1 = u∧Own (fun r=>r < h.n) h k' [eSl Zf v'1 r]:=by
 refine WC.is (ZaM ZbO ?_)
 unfold ZaA at hp
 let B:Nat→Prop:=(fun r=>r < h.n)
 have hO:Own B h h []:=Own.start0 h
 refine Zk (Zo (Zd (.sn) rfl (Zb (Za (Zk (Zo ?_))))))
 obtain ⟨x,hx'1,hp⟩:=Zt hp
 obtain ⟨u'1,k'1,ca'1,v'2,rfl,hW'1⟩:=ZE.ok (h:=h)   hx'1
 refine Za3 (id:=46) (caps:=[]) rfl (Z3 (v:=.n 4) rfl zn) ca'1 ?_
 have hO'1:=hO.call hW'1 rfl
 refine Zd v'2 rfl (Zb (Za (Zk (Zo (Zd v'2 rfl ?_)))))
 obtain ⟨⟨x1,x2⟩,hx'2,hp⟩:=Zt hp
 obtain ⟨u'2,k'2,ca'2,v'3,rfl,hW'2⟩:=zh.ok (h:=k'1) (l:=x) (v:=0) (d:=0) (w:=1) (o:=0) (hO'1.toM [0] rfl (by decide))  hx'2
 refine Za3 (id:=53) (caps:=[]) rfl (Z3 (v:=v'2) rfl (Z3 (v:=.n 0) rfl (Z3 (v:=.n 0) rfl (Z3 (v:=.n 1) rfl (Z3 (v:=.n 0) rfl zn))))) ca'2 ?_
 have hO'2:=(hO'1.callM [0] [] rfl rfl (by decide) hW'2 rfl).pick [900,0] rfl (by decide)
 refine Zd (.tu [v'3,.n x2]) rfl (Ze (ZaY (vs:=[v'3,.n x2]) (v:=v'3) rfl rfl) (Ze (ZaY (vs:=[v'3,.n x2]) (v:=.n x2) rfl rfl) (Zd v'3 rfl (Zb (Za (Zk (Zo ?_)))))))
 refine Zd v'3 rfl ?_
 obtain ⟨⟨x3,x4⟩,hx'3,hp⟩:=Zt hp
 obtain ⟨u'3,k'3,ca'3,v'4,rfl,hW'3⟩:=zh.ok (h:=k'2) (l:=x1) (v:=1) (d:=1) (w:=2) (o:=0) (hO'2.toM [1] rfl (by decide))  hx'3
 refine Za3 (id:=53) (caps:=[]) rfl (Z3 (v:=v'3) rfl (Z3 (v:=.n 1) rfl (Z3 (v:=.n 1) rfl (Z3 (v:=.n 2) rfl (Z3 (v:=.n 0) rfl zn))))) ca'3 ?_
 have hO'3:=(hO'2.callM [1] [] rfl rfl (by decide) hW'3 rfl).pick [900,901,0] rfl (by decide)
 refine Zd (.tu [v'4,.n x4]) rfl (Ze (ZaY (vs:=[v'4,.n x4]) (v:=v'4) rfl rfl) (Ze (ZaY (vs:=[v'4,.n x4]) (v:=.n x4) rfl rfl) (Zd v'4 rfl (Zb (Za (Zk (Zo ?_)))))))
 refine Zd v'4 rfl ?_
 obtain ⟨⟨x5,x6⟩,hx'4,hp⟩:=Zt hp
 obtain ⟨u'4,k'4,ca'4,v'5,rfl,hW'4⟩:=zh.ok (h:=k'3) (l:=x3) (v:=2) (d:=2) (w:=3) (o:=0) (hO'3.toM [2] rfl (by decide))  hx'4
 refine Za3 (id:=53) (caps:=[]) rfl (Z3 (v:=v'4) rfl (Z3 (v:=.n 2) rfl (Z3 (v:=.n 2) rfl (Z3 (v:=.n 3) rfl (Z3 (v:=.n 0) rfl zn))))) ca'4 ?_
 have hO'4:=(hO'3.callM [2] [] rfl rfl (by decide) hW'4 rfl).pick [900,901,902,0] rfl (by decide)
 refine Zd (.tu [v'5,.n x6]) rfl (Ze (ZaY (vs:=[v'5,.n x6]) (v:=v'5) rfl rfl) (Ze (ZaY (vs:=[v'5,.n x6]) (v:=.n x6) rfl rfl) (Zd v'5 rfl (Zb (Za (Zk (Zo ?_)))))))
 refine Zd v'5 rfl ?_
 obtain ⟨⟨x7,x8⟩,hx'5,hp⟩:=Zt hp
 obtain ⟨u'5,k'5,ca'5,v'6,rfl,hW'5⟩:=zh.ok (h:=k'4) (l:=x5) (v:=3) (d:=3) (w:=0) (o:=0) (hO'4.toM [3] rfl (by decide))  hx'5
 refine Za3 (id:=53) (caps:=[]) rfl (Z3 (v:=v'5) rfl (Z3 (v:=.n 3) rfl (Z3 (v:=.n 3) rfl (Z3 (v:=.n 0) rfl (Z3 (v:=.n 0) rfl zn))))) ca'5 ?_
 have hO'5:=(hO'4.callM [3] [] rfl rfl (by decide) hW'5 rfl).pick [900,901,902,903,0] rfl (by decide)
 refine Zd (.tu [v'6,.n x8]) rfl (Ze (ZaY (vs:=[v'6,.n x8]) (v:=v'6) rfl rfl) (Ze (ZaY (vs:=[v'6,.n x8]) (v:=.n x8) rfl rfl) (Zd v'6 rfl (Zb (Za (Zk (Zo ?_)))))))
 refine Zd v'6 rfl (Zd v'6 rfl (Zb (Za (Za2 (zW (Zax (n:=0) (v:=v'6) rfl zx) ?_)))))
 cases hp
 exact ⟨v'6,rfl,(hO'5.pick [4] rfl (by decide))⟩

theorem Zbm.ok {h:Hp} {cells:List Zc} {v_cells:V} (s_cells:Sl Zf h v_cells cells) {r:Int × Int} (hp:Zbm cells = some r) :
  ∃ u k',Is G 195 [v_cells] h u k'∧V.tu [.n r.1,.n r.2] = u∧Own (fun r=>r < h.n) h k' []:=by
 refine WC.is (ZaM Zdt ?_)
 unfold Zbm at hp
 let B:Nat→Prop:=(fun r=>r < h.n)
 have hO:Own B h h []:=Own.start0 h
 refine Zk (Zo (Zd (.n 0) rfl (Zd (.n 0) rfl (Zb (Za (Zk (Zk ?_)))))))
 refine Zo (Zd v_cells rfl ?_)
 obtain ⟨x,hx'1,hp⟩:=Zt hp
 obtain ⟨u'1,k'1,ca'1,rfl,hW'1⟩:=zT.ok (h:=h)  (hO.rd0 s_cells.rd) hx'1
 refine Za3 (id:=176) (caps:=[]) rfl (Z3 (v:=v_cells) rfl zn) ca'1 ?_
 have hO'1:=hO.call hW'1 rfl
 refine Zd (.n x) rfl (Zb (Za (Zk (Zo (Zd (.n x) rfl (Ze (ZcE (a:=x) (b:=0) rfl rfl) (Zb ?_)))))))
 refine Za ?_
 rcases Z2 hp with ⟨b'1,hp⟩ | ⟨b'1,hp⟩
 ·refine zO (t:=(!(decide (x = 0)))) rfl b'1 ?_
  refine Zk (Zo (Zd (.n x) rfl (Zd (.n 0) rfl (Zd (.n x) rfl (Zb (Za (Za2 ?_)))))))
  refine Zaf (zW (Zax (n:=2) (v:=.n 0) rfl (Zax (n:=3) (v:=.n x) rfl zx)) ?_)
  cases hp
  exact ⟨rfl,(hO'1.pick [] rfl (by decide))⟩
 ·refine zN (t:=(!(decide (x = 0)))) rfl b'1 ?_
  refine zU (Za (Zk (Zo (Zd v_cells rfl ?_))))
  obtain ⟨⟨x1,x2⟩,hx'2,hp⟩:=Zt hp
  obtain ⟨u'2,k'2,ca'2,rfl,hW'2⟩:=Zap.ok (h:=k'1)  (hO'1.rd0 s_cells.rd) hx'2
  refine Za3 (id:=201) (caps:=[]) rfl (Z3 (v:=v_cells) rfl zn) ca'2 ?_
  have hO'2:=hO'1.call hW'2 rfl
  refine Zd (.tu [.n x1,.b x2]) rfl (Ze (ZaY (vs:=[.n x1,.b x2]) (v:=.n x1) rfl rfl) (Ze (ZaY (vs:=[.n x1,.b x2]) (v:=.b x2) rfl rfl) (Zd (.n x1) rfl (Zd (.b x2) rfl (Zb (Za (Zk ?_)))))))
  refine Zk (Zo (Zd (.b x2) rfl (Ze (ZcF (t:=x2) rfl) (Zb (Za ?_)))))
  rcases Z2 hp with ⟨b'2,hp⟩ | ⟨b'2,hp⟩
  ·refine zO (t:=(!x2)) rfl b'2 ?_
   refine Zk (Zo (Zd (.n 0) rfl (Zd (.n 2) rfl (Zb (Za (Za2 (Zaf ?_)))))))
   refine zW (Zax (n:=2) (v:=.n 0) rfl (Zax (n:=3) (v:=.n 2) rfl zx)) ?_
   cases hp
   exact ⟨rfl,(hO'2.pick [] rfl (by decide))⟩
  ·refine zN (t:=(!x2)) rfl b'2 ?_
   refine zU (Za (Zk (Zo (Zd (.n x1) rfl (Zd (.n x1) rfl (Zd (.n 0) rfl (Zb ?_)))))))
   refine Za (Za2 (zW (Zax (n:=2) (v:=.n x1) rfl (Zax (n:=3) (v:=.n 0) rfl zx)) ?_))
   cases hp
   exact ⟨rfl,(hO'2.pick [] rfl (by decide))⟩

theorem Zam.ok {h:Hp}    {r:Bool} (hp:Zam  = some r) :
  ∃ u k',Is G 172 [] h u k'∧V.b r = u∧Own (fun r=>r < h.n) h k' []:=by
 refine WC.is (ZaM ZbY ?_)
 unfold Zam at hp
 let B:Nat→Prop:=(fun r=>r < h.n)
 have hO:Own B h h []:=Own.start0 h
 refine Zk (Zo (Zd (.b false) rfl (Zb (Za (Zk (Zo ?_))))))
 obtain ⟨x,hx'1,hp⟩:=Zt hp
 obtain ⟨u'1,k'1,ca'1,v'1,rfl,hW'1⟩:=ZaA.ok (h:=h)   hx'1
 refine Za3 (id:=196) (caps:=[]) rfl zn ca'1 ?_
 have hO'1:=hO.call hW'1 rfl
 obtain ⟨⟨x1,x2⟩,hx'2,hp⟩:=Zt hp
 obtain ⟨u'2,k'2,ca'2,rfl,hW'2⟩:=Zbm.ok (h:=k'1)  (hO'1.sl 0 rfl) hx'2
 refine Za3 (id:=195) (caps:=[]) rfl (Z3 (v:=v'1) rfl zn) ca'2 ?_
 have hO'2:=hO'1.call hW'2 rfl
 refine Zd (.tu [.n x1,.n x2]) rfl (Ze (ZaY (vs:=[.n x1,.n x2]) (v:=.n x1) rfl rfl) (Ze (ZaY (vs:=[.n x1,.n x2]) (v:=.n x2) rfl rfl) (Zd (.n x1) rfl (Zd (.n x2) rfl (Zb (Za (Zk ?_)))))))
 refine Zo ?_
 obtain ⟨x3,hx'3,hp⟩:=Zt hp
 obtain ⟨u'3,k'3,ca'3,v'2,rfl,hW'3⟩:=ZE.ok (h:=k'2)   hx'3
 refine Za3 (id:=46) (caps:=[]) rfl (Z3 (v:=.n 1) rfl zn) ca'3 ?_
 have hO'3:=hO'2.call hW'3 rfl
 obtain ⟨⟨x4,x5⟩,hx'4,hp⟩:=Zt hp
 obtain ⟨u'4,k'4,ca'4,rfl,hW'4⟩:=Zbm.ok (h:=k'3)  (hO'3.sl 1 rfl) hx'4
 refine Za3 (id:=195) (caps:=[]) rfl (Z3 (v:=v'2) rfl zn) ca'4 ?_
 have hO'4:=hO'3.call hW'4 rfl
 refine Zd (.tu [.n x4,.n x5]) rfl (Ze (ZaY (vs:=[.n x4,.n x5]) (v:=.n x4) rfl rfl) (Ze (ZaY (vs:=[.n x4,.n x5]) (v:=.n x5) rfl rfl) (Zd (.n x4) rfl (Zd (.n x5) rfl (Zb (Za (Zk ?_)))))))
 refine Zo ?_
 obtain ⟨x6,hx'5,hp⟩:=Zt hp
 obtain ⟨u'5,k'5,ca'5,v'3,rfl,hW'5⟩:=ZaA.ok (h:=k'4)   hx'5
 refine Za3 (id:=196) (caps:=[]) rfl zn ca'5 ?_
 have hO'5:=hO'4.call hW'5 rfl
 obtain ⟨x7,hx'6,hp⟩:=Zt hp
 obtain ⟨u'6,k'6,ca'6,rfl,hW'6⟩:=zT.ok (h:=k'5)  (hO'5.sl 2 rfl) hx'6
 refine Za3 (id:=176) (caps:=[]) rfl (Z3 (v:=v'3) rfl zn) ca'6 ?_
 have hO'6:=hO'5.call hW'6 rfl
 refine Ze (ZaW (a:=x7) (b:=0) rfl rfl) (Zd (.b (decide (x7 = 0))) rfl ?_)
 refine Zad 3 (fun fr' k'=>k'6 = k'∧fr' 21 = .b ((decide (x7 = 0)) && (decide (x1 = 1)))∧fr' 2 = .n x2∧fr' 4 = .n x5) ?_ ?_
 ·rcases bc (decide (x7 = 0)) with b'1 | b'1
  ·skip
   refine ZB rfl b'1 (Zd (.n x1) rfl (ZB rfl b'1 (Ze (ZaW (a:=x1) (b:=1) rfl rfl) (Ze (zg (t:=(decide (x7 = 0))) (v:=.b ((decide (x7 = 0)) && (decide (x1 = 1)))) rfl b'1 (Eq.trans (b:=V.b (decide (x1 = 1))) rfl (ZbS b'1))) (Zb ?_)))))
   exact ⟨rfl,rfl,rfl,rfl⟩
  ·skip
   refine Z4 rfl b'1 (Z4 rfl b'1 (Ze (zc (t:=(decide (x7 = 0))) (v:=.b ((decide (x7 = 0)) && (decide (x1 = 1)))) rfl b'1 (Eq.trans (b:=V.b false) rfl (Zbw b'1))) (Zb ?_)))
   exact ⟨rfl,rfl,rfl,rfl⟩
 rintro frg'1 _ ⟨rfl,g'1_21,g'1_2,g'1_4⟩
 refine Zd (.b ((decide (x7 = 0)) && (decide (x1 = 1)))) g'1_21 ?_
 refine Zad 3 (fun fr' k'=>k'6 = k'∧fr' 25 = .b (((decide (x7 = 0)) && (decide (x1 = 1))) && (decide (x2 = 0)))∧fr' 4 = .n x5) ?_ ?_
 ·rcases bc ((decide (x7 = 0)) && (decide (x1 = 1))) with b'2 | b'2
  ·skip
   refine ZB rfl b'2 (Zd (.n x2) g'1_2 (ZB rfl b'2 (Ze (ZaW (a:=x2) (b:=0) rfl rfl) (Ze (zg (t:=((decide (x7 = 0)) && (decide (x1 = 1)))) (v:=.b (((decide (x7 = 0)) && (decide (x1 = 1))) && (decide (x2 = 0)))) rfl b'2 (Eq.trans (b:=V.b (decide (x2 = 0))) rfl (ZbS b'2))) (Zb ?_)))))
   exact ⟨rfl,rfl,g'1_4⟩
  ·skip
   refine Z4 rfl b'2 (Z4 rfl b'2 (Ze (zc (t:=((decide (x7 = 0)) && (decide (x1 = 1)))) (v:=.b (((decide (x7 = 0)) && (decide (x1 = 1))) && (decide (x2 = 0)))) rfl b'2 (Eq.trans (b:=V.b false) rfl (Zbw b'2))) (Zb ?_)))
   exact ⟨rfl,rfl,g'1_4⟩
 rintro frg'2 _ ⟨rfl,g'2_25,g'2_4⟩
 refine Zd (.b (((decide (x7 = 0)) && (decide (x1 = 1))) && (decide (x2 = 0)))) g'2_25 ?_
 obtain ⟨t,hv'1,hp⟩:=Zt hp
 refine Zad 4 (fun fr' k'=>Own B h k' [eSl Zf v'1 x,eSl Zf v'2 x3,eSl Zf v'3 x6]∧fr' 30 = .b t∧fr' 4 = .n x5) ?_ ?_
 ·clear hp; rcases Z2 hv'1 with ⟨b'3,hp⟩ | ⟨b'3,hp⟩
  ·skip
   refine ZB rfl b'3 ?_
   obtain ⟨x8,hx'7,hp⟩:=Zt hp
   obtain ⟨u'7,k'7,ca'7,v'4,rfl,hW'7⟩:=ZE.ok (h:=k'6)   hx'7
   refine Za3 (id:=46) (caps:=[]) rfl (Z3 (v:=.n 1) rfl zn) ca'7 ?_
   have hO'7:=hO'6.call hW'7 rfl
   refine ZB rfl b'3 ?_
   obtain ⟨x9,hx'8,hp⟩:=Zt hp
   obtain ⟨u'8,k'8,ca'8,rfl,hW'8⟩:=zT.ok (h:=k'7)  (hO'7.sl 3 rfl) hx'8
   refine Za3 (id:=176) (caps:=[]) rfl (Z3 (v:=v'4) rfl zn) ca'8 ?_
   have hO'8:=hO'7.call hW'8 rfl
   refine ZB rfl b'3 (Ze (ZaW (a:=x9) (b:=0) rfl rfl) (Ze (zg (t:=(((decide (x7 = 0)) && (decide (x1 = 1))) && (decide (x2 = 0)))) (v:=.b t) rfl b'3 (Eq.trans (b:=V.b (decide (x9 = 0))) rfl (congrArg V.b (Option.some.inj hp)))) (Zb ?_)))
   exact ⟨hO'8.pick [0,1,2] rfl (by decide),rfl,g'2_4⟩
  ·skip
   refine Z4 rfl b'3 (Z4 rfl b'3 (Z4 rfl b'3 (Ze (zc (t:=(((decide (x7 = 0)) && (decide (x1 = 1))) && (decide (x2 = 0)))) (v:=.b t) rfl b'3 (Eq.trans (b:=V.b false) rfl (congrArg V.b (Option.some.inj hp)))) (Zb ?_))))
   exact ⟨hO'6.pick [0,1,2] rfl (by decide),rfl,g'2_4⟩
 rintro frg'3 k'9 ⟨hO'9,g'3_30,g'3_4⟩
 refine Zd (.b t) g'3_30 ?_
 refine Zad 3 (fun fr' k'=>k'9 = k'∧fr' 34 = .b (t && (decide (x5 = 2)))) ?_ ?_
 ·rcases bc t with b'4 | b'4
  ·skip
   refine ZB rfl b'4 (Zd (.n x5) g'3_4 (ZB rfl b'4 (Ze (ZaW (a:=x5) (b:=2) rfl rfl) (Ze (zg (t:=t) (v:=.b (t && (decide (x5 = 2)))) rfl b'4 (Eq.trans (b:=V.b (decide (x5 = 2))) rfl (ZbS b'4))) (Zb ?_)))))
   exact ⟨rfl,rfl⟩
  ·skip
   refine Z4 rfl b'4 (Z4 rfl b'4 (Ze (zc (t:=t) (v:=.b (t && (decide (x5 = 2)))) rfl b'4 (Eq.trans (b:=V.b false) rfl (Zbw b'4))) (Zb ?_)))
   exact ⟨rfl,rfl⟩
 rintro frg'4 _ ⟨rfl,g'4_34⟩
 refine Zd (.b (t && (decide (x5 = 2)))) g'4_34 ?_
 obtain ⟨t1,hv'2,hp⟩:=Zt hp
 refine Zad 4 (fun fr' k'=>Own B h k' [eSl Zf v'1 x,eSl Zf v'2 x3,eSl Zf v'3 x6]∧fr' 39 = .b t1) ?_ ?_
 ·clear hp; rcases Z2 hv'2 with ⟨b'5,hp⟩ | ⟨b'5,hp⟩
  ·skip
   refine ZB rfl b'5 ?_
   obtain ⟨x10,hx'9,hp⟩:=Zt hp
   obtain ⟨u'9,k'10,ca'9,v'5,rfl,hW'9⟩:=ZE.ok (h:=k'9)   hx'9
   refine Za3 (id:=46) (caps:=[]) rfl (Z3 (v:=.n 2) rfl zn) ca'9 ?_
   have hO'10:=hO'9.call hW'9 rfl
   refine ZB rfl b'5 ?_
   obtain ⟨x11,hx'10,hp⟩:=Zt hp
   obtain ⟨u'10,k'11,ca'10,rfl,hW'10⟩:=zT.ok (h:=k'10)  (hO'10.sl 3 rfl) hx'10
   refine Za3 (id:=176) (caps:=[]) rfl (Z3 (v:=v'5) rfl zn) ca'10 ?_
   have hO'11:=hO'10.call hW'10 rfl
   refine ZB rfl b'5 (Ze (ZaW (a:=x11) (b:=13) rfl rfl) (Ze (zg (t:=(t && (decide (x5 = 2)))) (v:=.b t1) rfl b'5 (Eq.trans (b:=V.b (decide (x11 = 13))) rfl (congrArg V.b (Option.some.inj hp)))) (Zb ?_)))
   exact ⟨hO'11.pick [0,1,2] rfl (by decide),rfl⟩
  ·skip
   refine Z4 rfl b'5 (Z4 rfl b'5 (Z4 rfl b'5 (Ze (zc (t:=(t && (decide (x5 = 2)))) (v:=.b t1) rfl b'5 (Eq.trans (b:=V.b false) rfl (congrArg V.b (Option.some.inj hp)))) (Zb ?_))))
   exact ⟨hO'9.pick [0,1,2] rfl (by decide),rfl⟩
 rintro frg'5 k'12 ⟨hO'12,g'5_39⟩
 refine Zd (.b t1) g'5_39 ?_
 obtain ⟨t2,hv'3,hp⟩:=Zt hp
 refine Zad 3 (fun fr' k'=>Own B h k' [eSl Zf v'1 x,eSl Zf v'2 x3,eSl Zf v'3 x6]∧fr' 43 = .b t2) ?_ ?_
 ·clear hp; rcases Z2 hv'3 with ⟨b'6,hp⟩ | ⟨b'6,hp⟩
  ·skip
   refine ZB rfl b'6 ?_
   obtain ⟨x12,hx'11,hp⟩:=Zt hp
   obtain ⟨u'11,k'13,ca'11,rfl,hW'11⟩:=zT.ok (h:=k'12)  (Sl.nil:Sl Zf k'12 .sn ([]:List Zc)) hx'11
   refine Za3 (id:=176) (caps:=[]) rfl (Z3 (v:=.sn) rfl zn) ca'11 ?_
   have hO'13:=hO'12.call hW'11 rfl
   refine ZB rfl b'6 (Ze (ZaW (a:=x12) (b:=13) rfl rfl) (Ze (zg (t:=t1) (v:=.b t2) rfl b'6 (Eq.trans (b:=V.b (decide (x12 = 13))) rfl (congrArg V.b (Option.some.inj hp)))) (Zb ?_)))
   exact ⟨hO'13.pick [0,1,2] rfl (by decide),rfl⟩
  ·skip
   refine Z4 rfl b'6 (Z4 rfl b'6 (Ze (zc (t:=t1) (v:=.b t2) rfl b'6 (Eq.trans (b:=V.b false) rfl (congrArg V.b (Option.some.inj hp)))) (Zb ?_)))
   exact ⟨hO'12.pick [0,1,2] rfl (by decide),rfl⟩
 rintro frg'6 k'14 ⟨hO'14,g'6_43⟩
 refine Zd (.b t2) g'6_43 (Zb (Za (Za2 (zW (Zax (n:=0) (v:=.b t2) rfl zx) ?_))))
 cases hp
 exact ⟨rfl,(hO'14.pick [] rfl (by decide))⟩

theorem zE.ok {h:Hp} {l:List Zc} {d:Z0} {v_l:V} (s_l:Sl Zf h v_l l) {r:Z0} (hp:zE l d = some r) :
  ∃ u k',Is G 202 [v_l,.ag (Zn.c d)] h u k'∧V.ag (Zn.c r) = u∧Own (fun r=>r < h.n) h k' []:=by
 refine WC.is (ZaM ZbP ?_)
 unfold zE at hp
 let B:Nat→Prop:=(fun r=>r < h.n)
 have hO:Own B h h []:=Own.start0 h
 refine Zk (Zo (zy (hO.boxd (v:=.ag (Zn.c d)) (cs:=Zn.c d) hO.fr rfl rfl) ?_))
 rintro _ k'1 ⟨r'1,rfl,n'1,f'1,hW⟩
 have hO'1:=hW
 refine zy (hO'1.alloc (cs:=Zn.c (⟨0,0⟩:Z0)) hO'1.fr) ?_
 rintro _ k'2 ⟨r'2,rfl,n'2,f'2,hW⟩
 have hO'2:=hW
 refine Zb (Za (Zk (ZfJ ?_)))
 have hW:=hO'2.bump 10
 have hO'3:=hW
 refine Zao v_l rfl (zb rfl (z6 (r:=r'1) (o:=0) (o':=0) rfl rfl) (zb rfl (zi (cs:=(Zn.c d)) (v:=.n d.Cell) (hO'3.box 0 rfl) rfl rfl) (zb rfl (z6 (r:=r'1) (o:=0) (o':=1) rfl rfl) (zb rfl (zi (cs:=(Zn.c d)) (v:=.n d.Dir) (hO'3.box 0 rfl) rfl rfl) ?_))))
 obtain ⟨c'1,hp⟩:=Zj hp
 refine zb rfl (zz (E:=Zf) (z:=d.Cell) (hO'3.rd0 s_l.rd) rfl rfl c'1) (zb rfl (ZaE (off':=0) (off2:=0) (hO'3.rd0 s_l.rd) (Zp c'1) rfl rfl) ?_)
 obtain ⟨c'2,hp⟩:=Zj hp
 refine zb rfl (ZaU (off:=0) (off2:=(0 + (d.Dir:Int).toNat * 1)) (z:=d.Dir) (hO'3.rd0 s_l.rd) (Zp c'1) rfl rfl c'2 rfl) (zb rfl (zS (w:=.n (((gi l (d.Cell:Int).toNat).Next).get d.Dir)) (hO'3.rd0 s_l.rd) rfl (Zp c'1) (Zal c'2)) (Zao (.n (((gi l (d.Cell:Int).toNat).Next).get d.Dir)) rfl (Zak (Za (Zk (Zo (zy (hO'3.bsl (E:=zw) (l:=([1,0,3,2]:List Int)) hO'3.fr (by rw [(zq (v:=.n 1) rfl (zq (v:=.n 0) rfl (zq (v:=.n 3) rfl (zq (v:=.n 2) rfl Za5))))]; rfl) rfl) ?_)))))))
 rintro v'1 k'4 ⟨r'3,f'3,hW⟩
 have hO'4:=hW
 refine Zd v'1 rfl (Zb (Za (Zk (Zk (Zo (Zd (.n 0) rfl (Zb ?_)))))))
 refine Za (Zaa ?_)
 obtain ⟨o'1,ho'1,hp⟩:=Zt hp
 refine W.mono (Q:=fun e fr k=>match (generalizing:=false) o'1 with
   | .inl _=>e = (.exit 0)∧fr 3 = .p r'1 0∧fr 4 = .p r'2 0∧Own B h k [zQ r'1 (Zn.c d),zQ r'2 (Zn.c (⟨0,0⟩:Z0))]
   | .inr x=>e = .ret∧fr 4 = .p r'2 0∧Own B h k [zQ r'2 (Zn.c x)]) ?_ ?_
 ·clear hp
  refine z9 (fun st fr k=>match st with | i=>fr 0 = v_l∧fr 3 = .p r'1 0∧fr 4 = .p r'2 0∧fr 5 = .n (((gi l (d.Cell:Int).toNat).Next).get d.Dir)∧fr 6 = v'1∧fr 7 = .n i∧Own B h k [zQ r'1 (Zn.c d),zQ r'2 (Zn.c (⟨0,0⟩:Z0)),eSl zw v'1 ([1,0,3,2]:List Int)]) ho'1 (s:=0) ⟨rfl,rfl,rfl,rfl,rfl,rfl,(hO'4.pick [0,1,2] rfl (by decide))⟩ ?_
  rintro i q'2 k'6 ⟨q'2_0,q'2_3,q'2_4,q'2_5,q'2_6,q'2_7,hO'6⟩ o'2 hp
  dsimp only [zE.s0] at hp
  refine Zk (Zk (Zo (Zd (.n i) q'2_7 (Ze (zG (a:=i) (b:=4) rfl rfl) (Zb (Za ?_))))))
  rcases Z2 hp with ⟨b'1,hp⟩ | ⟨b'1,hp⟩
  ·refine zO (t:=(decide (i < 4))) rfl b'1 ?_
   refine zU (Za (Zk (Zaa (Zk (ZfJ ?_)))))
   have hW:=hO'6.bump 9
   have hO'7:=hW
   refine zb rfl (z6 (r:=r'1) (o:=0) (o':=1) q'2_3 rfl) (zb rfl (zi (cs:=(Zn.c d)) (v:=.n d.Dir) (hO'7.box 0 rfl) rfl rfl) (Zao v'1 q'2_6 (Zao (.n i) q'2_7 ?_)))
   obtain ⟨c'3,hp⟩:=Zj hp
   refine zb rfl (zz (E:=zw) (z:=i) (hO'7.sl 2 rfl) rfl rfl c'3) (zb rfl (zS (w:=.n (gi ([1,0,3,2]:List Int) i.toNat)) (hO'7.sl 2 rfl) rfl (Zp c'3) rfl) ?_)
   obtain ⟨c'4,hp⟩:=Zj hp
   refine zb rfl (zp (a:=d.Dir) (b:=(gi ([1,0,3,2]:List Int) i.toNat)) rfl rfl c'4) (zb rfl (ZbJ (a:=(d.Dir + (gi ([1,0,3,2]:List Int) i.toNat))) (b:=4) rfl rfl (by decide)) (Zao (.n ((d.Dir + (gi ([1,0,3,2]:List Int) i.toNat)).tmod 4)) rfl (Zak (Za (Zk (Zo (Zd v_l q'2_0 ?_)))))))
   refine Zd (.n (((gi l (d.Cell:Int).toNat).Next).get d.Dir)) q'2_5 (Zd (.n ((d.Dir + (gi ([1,0,3,2]:List Int) i.toNat)).tmod 4)) rfl ?_)
   obtain ⟨c'5,hp⟩:=Zj hp
   refine Ze (zz (E:=Zf) (z:=(((gi l (d.Cell:Int).toNat).Next).get d.Dir)) (hO'7.rd0 s_l.rd) rfl rfl c'5) (Ze (ZaE (off':=0) (off2:=0) (hO'7.rd0 s_l.rd) (Zp c'5) rfl rfl) ?_)
   obtain ⟨c'6,hp⟩:=Zj hp
   refine Ze (ZaU (off:=0) (off2:=(0 + ((d.Dir + (gi ([1,0,3,2]:List Int) i.toNat)).tmod 4:Int).toNat * 1)) (z:=((d.Dir + (gi ([1,0,3,2]:List Int) i.toNat)).tmod 4)) (hO'7.rd0 s_l.rd) (Zp c'5) rfl rfl c'6 rfl) (Ze (zS (w:=.n (((gi l (((gi l (d.Cell:Int).toNat).Next).get d.Dir:Int).toNat).Next).get ((d.Dir + (gi ([1,0,3,2]:List Int) i.toNat)).tmod 4))) (hO'7.rd0 s_l.rd) rfl (Zp c'5) (Zal c'6)) (Ze (ZcC (a:=(((gi l (((gi l (d.Cell:Int).toNat).Next).get d.Dir:Int).toNat).Next).get ((d.Dir + (gi ([1,0,3,2]:List Int) i.toNat)).tmod 4))) (b:=0) rfl rfl) (Zb (Za ?_))))
   rcases Z2 hp with ⟨b'2,hp⟩ | ⟨b'2,hp⟩
   ·refine zO (t:=(decide (0≤(((gi l (((gi l (d.Cell:Int).toNat).Next).get d.Dir:Int).toNat).Next).get ((d.Dir + (gi ([1,0,3,2]:List Int) i.toNat)).tmod 4))))) rfl b'2 ?_
    refine Zk (Zo (Zd (.n (((gi l (d.Cell:Int).toNat).Next).get d.Dir)) q'2_5 (Zd (.n ((d.Dir + (gi ([1,0,3,2]:List Int) i.toNat)).tmod 4)) rfl (Ze (Zcl (cs:=Zn.c (⟨((gi l (d.Cell:Int).toNat).Next).get d.Dir,(d.Dir + (gi ([1,0,3,2]:List Int) i.toNat)).tmod 4⟩:Z0)) (by rw [(zq (v:=.n (((gi l (d.Cell:Int).toNat).Next).get d.Dir)) rfl (zq (v:=.n ((d.Dir + (gi ([1,0,3,2]:List Int) i.toNat)).tmod 4)) rfl Za5))]; rfl)) (zy (hO'7.stb (ws:=Zn.c (⟨((gi l (d.Cell:Int).toNat).Next).get d.Dir,(d.Dir + (gi ([1,0,3,2]:List Int) i.toNat)).tmod 4⟩:Z0)) (cs':=Zn.c (⟨((gi l (d.Cell:Int).toNat).Next).get d.Dir,(d.Dir + (gi ([1,0,3,2]:List Int) i.toNat)).tmod 4⟩:Z0)) (v:=.ag (Zn.c (⟨((gi l (d.Cell:Int).toNat).Next).get d.Dir,(d.Dir + (gi ([1,0,3,2]:List Int) i.toNat)).tmod 4⟩:Z0))) 1 rfl q'2_4 rfl rfl ⟨rfl,Nat.le_of_ble_eq_true rfl,rfl⟩ rfl) ?_)))))
    rintro _ k'8 ⟨rfl,f'4,m'1,hW⟩
    have hO'8:=hW
    refine Zb (Za (Za2 (Zbh (Zaf ?_))))
    cases hp
    refine (Or.inr ⟨(.inr (⟨((gi l (d.Cell:Int).toNat).Next).get d.Dir,(d.Dir + (gi ([1,0,3,2]:List Int) i.toNat)).tmod 4⟩:Z0)),rfl,(fun h=>nomatch h),(fun he=>?_)⟩)
    subst he; exact ⟨rfl,q'2_4,(hO'8.pick [1] rfl (by decide))⟩
   ·refine zN (t:=(decide (0≤(((gi l (((gi l (d.Cell:Int).toNat).Next).get d.Dir:Int).toNat).Next).get ((d.Dir + (gi ([1,0,3,2]:List Int) i.toNat)).tmod 4))))) rfl b'2 ?_
    refine zU (Zac (Za (Zo (Zd (.n i) q'2_7 ?_))))
    obtain ⟨c'7,hp⟩:=Zj hp
    refine Ze (zp (a:=i) (b:=1) rfl rfl c'7) (Zd (.n (i + 1)) rfl (Zb ?_))
    cases hp
    exact (Or.inl ⟨i + 1,rfl,rfl,q'2_0,q'2_3,q'2_4,q'2_5,q'2_6,rfl,(hO'7.pick [0,1,2] rfl (by decide))⟩)
  ·refine zN (t:=(decide (i < 4))) rfl b'1 ?_
   refine ZaT (zR ?_)
   cases hp
   refine (Or.inr ⟨.inl (),rfl,(fun h=>nomatch h),(fun he=>?_)⟩)
   subst he; exact ⟨rfl,q'2_3,q'2_4,(hO'6.pick [0,1] rfl (by decide))⟩
 intro e'1 q'1 k'5 hJ'1
 rcases o'1 with _ | x
 ·obtain ⟨rfl,q'1_3,q'1_4,hO'5⟩:=hJ'1
  refine Zaq (Za (Zk (Zo (Ze (Zaz (cs:=(Zn.c d)) (ws:=Zn.c d) (hO'5.box 0 rfl) q'1_3 rfl) (zy (hO'5.stb (ws:=Zn.c d) (cs':=Zn.c d) (v:=.ag (Zn.c d)) 1 rfl q'1_4 rfl rfl ⟨rfl,Nat.le_of_ble_eq_true rfl,rfl⟩ rfl) ?_)))))
  rintro _ k'9 ⟨rfl,f'5,m'2,hW⟩
  have hO'9:=hW
  refine Zb (Za (Za2 (zW (ZgP (n:=4) (v:=.ag (Zn.c d)) (r:=r'2) q'1_4 (hO'9.box 1 rfl) rfl zx) ?_)))
  cases hp
  exact ⟨rfl,(hO'9.pick [] rfl (by decide))⟩
 ·obtain ⟨rfl,q'1_4,hO'5⟩:=hJ'1
  refine Zbh (Zaf (zW (ZgP (n:=4) (v:=.ag (Zn.c x)) (r:=r'2) q'1_4 (hO'5.box 0 rfl) rfl zx) ?_))
  cases hp
  exact ⟨rfl,(hO'5.pick [] rfl (by decide))⟩

theorem ZK.ok {h:Hp} {l:List Zc} {v_l:V} (s_l:Sl Zf h v_l l) {r:(List (List Z0))} (hp:ZK l = some r) :
  ∃ u k',Is G 177 [v_l] h u k'∧∃ (v'1:V),∃ (vs'1:List V),v'1 = u∧Own (fun r=>r < h.n) h k' [eSl eV v'1 vs'1,Zba Zn vs'1 r]:=by
 refine WC.is (ZaM Zcd ?_)
 unfold ZK at hp
 let B:Nat→Prop:=(fun r=>r < h.n)
 have hO:Own B h h []:=Own.start0 h
 refine Zk (Zo (Zd (.sn) rfl (Zb (Za (Zk (Zo (Zd v_l rfl ?_)))))))
 refine Ze (Zah (hO.rd0 s_l.rd) rfl) ?_
 obtain ⟨c'1,hp⟩:=Zj hp
 refine Ze (ZeL (a:=4) (b:=(l.length:Int)) rfl rfl c'1) ?_
 obtain ⟨c'2,hp⟩:=Zj hp
 refine zy (hO.mks (E:=e_bool) (y:=false) (bytes:=1) (z:=(4 * (l.length:Int))) hO.fr rfl rfl rfl c'2 (by decide)) ?_
 rintro v'2 k'1 ⟨r'1,f'1,hW⟩
 have hO'1:=hW
 refine Zd v'2 rfl (Zb (Za (Zk (Zo (Zd (.sn) rfl (Zb (Za ?_)))))))
 refine Zk (Zk (Zo (Zd (.n 0) rfl (Zb (Za (Zaa ?_))))))
 obtain ⟨o'1,ho'1,hp⟩:=Zt hp
 refine W.mono (Q:=fun e fr k=>match (generalizing:=false) o'1 with
   | out1=>e = (.exit 0)∧∃ (v'4:V),∃ (vs'3:List V),fr 4 = v'4∧Own B h k [eSl eV v'4 vs'3,Zba Zn vs'3 out1]) ?_ ?_
 ·clear hp
  have hO'3:=hO'1.nil eV
  have hO'4:=hO'3.allNil Zn 0
  refine z9 (fun st fr k=>match st with | (met,out,v)=>∃ (v'3:V),∃ (vs'2:List V),fr 0 = v_l∧fr 3 = v'2∧fr 4 = v'3∧fr 5 = .n v∧Own B h k [eSl e_bool v'2 met,eSl eV v'3 vs'2,Zba Zn vs'2 out]) ho'1 (s:=(List.replicate (4 * (l.length:Int):Int).toNat false,([]:List (List Z0)),0)) ⟨V.sn,[],rfl,rfl,rfl,rfl,(hO'4.pick [0,1,2] rfl (by decide))⟩ ?_
  rintro ⟨met,out,v⟩ q'2 k'3 ⟨v'3,vs'2,q'2_0,q'2_3,q'2_4,q'2_5,hO'5⟩ o'2 hp
  dsimp only [ZK.s0] at hp
  refine Zk (Zk (Zo (Zd (.n v) q'2_5 (Zd v_l q'2_0 (Ze (Zah (hO'5.rd0 s_l.rd) rfl) (Ze (zG (a:=v) (b:=(l.length:Int)) rfl rfl) (Zb ?_)))))))
  refine Za ?_
  rcases Z2 hp with ⟨b'1,hp⟩ | ⟨b'1,hp⟩
  ·refine zO (t:=(decide (v < (l.length:Int)))) rfl b'1 ?_
   refine zU (Za (Zk (Zaa (Zk (Zo (Zd (.n 0) rfl (Zb ?_)))))))
   refine Za (Zaa ?_)
   obtain ⟨o'3,ho'2,hp⟩:=Zt hp
   refine W.mono (Q:=fun e fr k=>match (generalizing:=false) o'3 with
     | (met2,out3)=>e = (.exit 2)∧∃ (v'6:V),∃ (vs'5:List V),fr 0 = v_l∧fr 3 = v'2∧fr 4 = v'6∧fr 5 = .n v∧Own B h k [eSl e_bool v'2 met2,eSl eV v'6 vs'5,Zba Zn vs'5 out3]) ?_ ?_
   ·clear hp
    refine z9 (fun st fr k=>match st with | (met1,out2,e_)=>∃ (v'5:V),∃ (vs'4:List V),fr 0 = v_l∧fr 3 = v'2∧fr 4 = v'5∧fr 5 = .n v∧fr 6 = .n e_∧Own B h k [eSl e_bool v'2 met1,eSl eV v'5 vs'4,Zba Zn vs'4 out2]) ho'2 (s:=(met,out,0)) ⟨v'3,vs'2,q'2_0,q'2_3,q'2_4,q'2_5,rfl,(hO'5.pick [0,1,2] rfl (by decide))⟩ ?_
    rintro ⟨met1,out2,e_⟩ q'4 k'5 ⟨v'5,vs'4,q'4_0,q'4_3,q'4_4,q'4_5,q'4_6,hO'7⟩ o'4 hp
    dsimp only [ZK.s1] at hp
    refine Zk (Zk (Zo (Zd (.n e_) q'4_6 (Ze (zG (a:=e_) (b:=4) rfl rfl) (Zb (Za ?_))))))
    rcases Z2 hp with ⟨b'2,hp⟩ | ⟨b'2,hp⟩
    ·refine zO (t:=(decide (e_ < 4))) rfl b'2 ?_
     refine zU (Za (Zk (Zaa (Zk (Zk (Zo (Zd v_l q'4_0 ?_)))))))
     refine Zd (.n v) q'4_5 (Zd (.n e_) q'4_6 ?_)
     obtain ⟨c'3,hp⟩:=Zj hp
     refine Ze (zz (E:=Zf) (z:=v) (hO'7.rd0 s_l.rd) rfl rfl c'3) (Ze (ZaE (off':=0) (off2:=0) (hO'7.rd0 s_l.rd) (Zp c'3) rfl rfl) ?_)
     obtain ⟨c'4,hp⟩:=Zj hp
     refine Ze (ZaU (off:=0) (off2:=(0 + e_.toNat * 1)) (z:=e_) (hO'7.rd0 s_l.rd) (Zp c'3) rfl rfl c'4 rfl) (Ze (zS (w:=.n (((gi l v.toNat).Next).get e_)) (hO'7.rd0 s_l.rd) rfl (Zp c'3) (Zal c'4)) (Ze (zG (a:=(((gi l v.toNat).Next).get e_)) (b:=0) rfl rfl) (Zd (.b (decide ((((gi l v.toNat).Next).get e_) < 0))) rfl ?_)))
     obtain ⟨t,hv'1,hp⟩:=Zt hp
     refine Zad 8 (fun fr' k'=>k'5 = k'∧fr' 39 = .b t∧fr' 0 = v_l∧fr' 3 = v'2∧fr' 4 = v'5∧fr' 5 = .n v∧fr' 6 = .n e_) ?_ ?_
     ·clear hp; rcases Z2 hv'1 with ⟨b'3,hp⟩ | ⟨b'3,hp⟩
      ·skip
       refine Z4 rfl b'3 (Z4 rfl b'3 (Z4 rfl b'3 (Z4 rfl b'3 (Z4 rfl b'3 (Z4 rfl b'3 (Z4 rfl b'3 (Ze (zg (t:=(decide ((((gi l v.toNat).Next).get e_) < 0))) (v:=.b t) rfl b'3 (Eq.trans (b:=V.b true) rfl (congrArg V.b (Option.some.inj hp)))) ?_)))))))
       refine Zb ?_
       exact ⟨rfl,rfl,q'4_0,q'4_3,q'4_4,q'4_5,q'4_6⟩
      ·skip
       refine ZB rfl b'3 (Zd v'2 q'4_3 (ZB rfl b'3 (Zd (.n v) q'4_5 (ZB rfl b'3 ?_))))
       obtain ⟨c'5,hp⟩:=Zj hp
       refine Ze (ZeL (a:=4) (b:=v) rfl rfl c'5) (ZB rfl b'3 (Zd (.n e_) q'4_6 (ZB rfl b'3 ?_)))
       obtain ⟨c'6,hp⟩:=Zj hp
       refine Ze (zp (a:=(4 * v)) (b:=e_) rfl rfl c'6) (ZB rfl b'3 ?_)
       obtain ⟨c'7,hp⟩:=Zj hp
       refine Ze (zz (E:=e_bool) (z:=((4 * v) + e_)) (hO'7.sl 0 rfl) rfl rfl c'7) (ZB rfl b'3 (Ze (zS (w:=.b (gi met1 ((4 * v) + e_:Int).toNat)) (hO'7.sl 0 rfl) rfl (Zp c'7) rfl) (Ze (zc (t:=(decide ((((gi l v.toNat).Next).get e_) < 0))) (v:=.b t) rfl b'3 (Eq.trans (b:=V.b (gi met1 ((4 * v) + e_:Int).toNat)) rfl (congrArg V.b (Option.some.inj hp)))) (Zb ?_))))
       exact ⟨rfl,rfl,q'4_0,q'4_3,q'4_4,q'4_5,q'4_6⟩
     rintro frg'1 _ ⟨rfl,g'1_39,g'1_0,g'1_3,g'1_4,g'1_5,g'1_6⟩
     refine Zb (Za ?_)
     rcases Z2 hp with ⟨b'4,hp⟩ | ⟨b'4,hp⟩
     ·refine zO (t:=t) g'1_39 b'4 ?_
      refine ZaT (zR (Zaq (Za (Zo (Zd (.n e_) g'1_6 ?_)))))
      obtain ⟨c'8,hp⟩:=Zj hp
      refine Ze (zp (a:=e_) (b:=1) rfl rfl c'8) (Zd (.n (e_ + 1)) rfl (Zb ?_))
      cases hp
      exact (Or.inl ⟨(met1,out2,e_ + 1),rfl,rfl,v'5,vs'4,g'1_0,g'1_3,g'1_4,g'1_5,rfl,(hO'7.pick [0,1,2] rfl (by decide))⟩)
     ·refine zN (t:=t) g'1_39 b'4 ?_
      refine zU (Za (Zk (Zo (Zd (.sn) rfl (Zb (Za (Zk ?_)))))))
      refine Zo (Zd (.n v) g'1_5 (Zd (.n e_) g'1_6 (Ze (Zcl (cs:=Zn.c (⟨v,e_⟩:Z0)) (by rw [(zq (v:=.n v) rfl (zq (v:=.n e_) rfl Za5))]; rfl)) (zy (hO'7.alloc (cs:=Zn.c (⟨0,0⟩:Z0)) hO'7.fr) ?_))))
      rintro _ k'6 ⟨r'2,rfl,n'1,f'2,hW⟩
      have hO'8:=hW
      refine zy (hO'8.stb (ws:=Zn.c (⟨v,e_⟩:Z0)) (cs':=Zn.c (⟨v,e_⟩:Z0)) (v:=.ag (Zn.c (⟨v,e_⟩:Z0))) 3 rfl rfl rfl rfl ⟨rfl,Nat.le_of_ble_eq_true rfl,rfl⟩ rfl) ?_
      rintro _ k'7 ⟨rfl,f'3,m'1,hW⟩
      have hO'9:=hW
      refine Zb (Za (Zk (Zaa ?_)))
      obtain ⟨o'5,ho'3,hp⟩:=Zt hp
      refine W.mono (Q:=fun e fr k=>match (generalizing:=false) o'5 with
        | (met4,f1)=>e = (.exit 4)∧∃ (v'8:V),fr 0 = v_l∧fr 3 = v'2∧fr 4 = v'5∧fr 5 = .n v∧fr 6 = .n e_∧fr 7 = v'8∧Own B h k [eSl e_bool v'2 met4,eSl eV v'5 vs'4,Zba Zn vs'4 out2,eSl Zn v'8 f1]) ?_ ?_
      ·clear hp
       have hO'11:=hO'9.nil Zn
       refine z9 (fun st fr k=>match st with | (met3,f,d)=>∃ (v'7:V),fr 0 = v_l∧fr 3 = v'2∧fr 4 = v'5∧fr 5 = .n v∧fr 6 = .n e_∧fr 7 = v'7∧fr 8 = .p r'2 0∧Own B h k [eSl e_bool v'2 met3,eSl eV v'5 vs'4,Zba Zn vs'4 out2,eSl Zn v'7 f,zQ r'2 (Zn.c d)]) ho'3 (s:=(met1,([]:List Z0),(⟨v,e_⟩:Z0))) ⟨V.sn,g'1_0,g'1_3,g'1_4,g'1_5,g'1_6,rfl,rfl,(hO'11.pick [0,1,2,4,3] rfl (by decide))⟩ ?_
       rintro ⟨met3,f,d⟩ q'6 k'9 ⟨v'7,q'6_0,q'6_3,q'6_4,q'6_5,q'6_6,q'6_7,q'6_8,hO'12⟩ o'6 hp
       dsimp only [ZK.s2] at hp
       refine Zk (Zk (Zo (Zd v'2 q'6_3 (Ze (z6 (r:=r'2) (o:=0) (o':=0) q'6_8 rfl) (Ze (zi (cs:=(Zn.c d)) (v:=.n d.Cell) (hO'12.box 4 rfl) rfl rfl) ?_)))))
       obtain ⟨c'9,hp⟩:=Zj hp
       refine Ze (ZeL (a:=4) (b:=d.Cell) rfl rfl c'9) (Ze (z6 (r:=r'2) (o:=0) (o':=1) q'6_8 rfl) (Ze (zi (cs:=(Zn.c d)) (v:=.n d.Dir) (hO'12.box 4 rfl) rfl rfl) ?_))
       obtain ⟨c'10,hp⟩:=Zj hp
       refine Ze (zp (a:=(4 * d.Cell)) (b:=d.Dir) rfl rfl c'10) ?_
       obtain ⟨c'11,hp⟩:=Zj hp
       refine Ze (zz (E:=e_bool) (z:=((4 * d.Cell) + d.Dir)) (hO'12.sl 0 rfl) rfl rfl c'11) (Ze (zS (w:=.b (gi met3 ((4 * d.Cell) + d.Dir:Int).toNat)) (hO'12.sl 0 rfl) rfl (Zp c'11) rfl) (Ze (ZcF (t:=(gi met3 ((4 * d.Cell) + d.Dir:Int).toNat)) rfl) (Zb (Za ?_))))
       rcases Z2 hp with ⟨b'5,hp⟩ | ⟨b'5,hp⟩
       ·refine zO (t:=(!(gi met3 ((4 * d.Cell) + d.Dir:Int).toNat))) rfl b'5 ?_
        refine zU (Za (Zaa (Zk (Zo (Zd v'2 q'6_3 (Ze (z6 (r:=r'2) (o:=0) (o':=0) q'6_8 rfl) (Ze (zi (cs:=(Zn.c d)) (v:=.n d.Cell) (hO'12.box 4 rfl) rfl rfl) ?_)))))))
        refine Ze (ZeL (a:=4) (b:=d.Cell) rfl rfl c'9) (Ze (z6 (r:=r'2) (o:=0) (o':=1) q'6_8 rfl) (Ze (zi (cs:=(Zn.c d)) (v:=.n d.Dir) (hO'12.box 4 rfl) rfl rfl) (Ze (zp (a:=(4 * d.Cell)) (b:=d.Dir) rfl rfl c'10) (Ze (zz (E:=e_bool) (z:=((4 * d.Cell) + d.Dir)) (hO'12.sl 0 rfl) rfl rfl c'11) (zy (hO'12.ste (E:=e_bool) (y:=true) (ws:=[.b true]) 0 rfl rfl (Zp c'11) rfl rfl ⟨rfl,Nat.le_of_ble_eq_true rfl,rfl⟩ rfl) ?_)))))
        rintro _ k'10 ⟨rfl,f'4,m'2,hW⟩
        have hO'13:=hW
        refine Zb (Za (Zk (Zo (Zd v'7 q'6_7 (Ze (Zaz (cs:=(Zn.c d)) (ws:=Zn.c d) (hO'13.box 4 rfl) q'6_8 rfl) (zy (hO'13.bsl (E:=Zn) (l:=[d]) hO'13.fr (by rw [(zq (v:=.ag (Zn.c d)) rfl Za5)]; rfl) rfl) ?_))))))
        rintro v'9 k'11 ⟨r'3,f'5,hW⟩
        have hO'14:=hW
        obtain ⟨c'12,hp⟩:=Zj hp
        refine zy (hO'14.app (E:=Zn) (bytes:=16) 3 hO'14.fr rfl (hO'14.sl 5 rfl) rfl rfl (fun _=>rfl) c'12 (by decide)) ?_
        rintro v'10 k'12 ⟨f'6,hW⟩
        have hO'15:=hW
        refine Zd v'10 rfl (Zb (Za (Zo (Zd v_l q'6_0 (Ze (Zaz (cs:=(Zn.c d)) (ws:=Zn.c d) (hO'15.box 4 rfl) q'6_8 rfl) ?_)))))
        obtain ⟨x,hx'1,hp⟩:=Zt hp
        obtain ⟨u'1,k'13,ca'1,rfl,hW'1⟩:=zE.ok (h:=k'12)  (hO'15.rd0 s_l.rd) hx'1
        refine Za3 (id:=202) (caps:=[]) rfl (Z3 (v:=v_l) rfl (Z3 (v:=.ag (Zn.c d)) rfl zn)) ca'1 ?_
        have hO'16:=hO'15.call hW'1 rfl
        refine zy (hO'16.stb (ws:=Zn.c x) (cs':=Zn.c x) (v:=.ag (Zn.c x)) 4 rfl q'6_8 rfl rfl ⟨rfl,Nat.le_of_ble_eq_true rfl,rfl⟩ rfl) ?_
        rintro _ k'14 ⟨rfl,f'7,m'3,hW⟩
        have hO'17:=hW
        refine Zb (Zac ?_)
        cases hp
        exact (Or.inl ⟨(met3.set ((4 * d.Cell) + d.Dir:Int).toNat true,f++[d],x),rfl,rfl,v'10,q'6_0,q'6_3,q'6_4,q'6_5,q'6_6,rfl,q'6_8,(hO'17.pick [0,1,2,3,4] rfl (by decide))⟩)
       ·refine zN (t:=(!(gi met3 ((4 * d.Cell) + d.Dir:Int).toNat))) rfl b'5 ?_
        refine ZaT (zR ?_)
        cases hp
        refine (Or.inr ⟨(met3,f),rfl,(fun h=>nomatch h),(fun he=>?_)⟩)
        subst he; exact ⟨rfl,v'7,q'6_0,q'6_3,q'6_4,q'6_5,q'6_6,q'6_7,(hO'12.pick [0,1,2,3] rfl (by decide))⟩
      intro e'3 q'5 k'8 hJ'3
      obtain ⟨met4,f1⟩:=o'5
      obtain ⟨rfl,v'8,q'5_0,q'5_3,q'5_4,q'5_5,q'5_6,q'5_7,hO'10⟩:=hJ'3
      refine Zaq (Za (Zo (Zd v'5 q'5_4 (Zd v'8 q'5_7 (zy (hO'10.bsl (E:=eV) (l:=[v'8]) hO'10.fr (by rw [(zq (v:=v'8) rfl Za5)]; simp only [fill,(hO'10.sl 3 rfl).cells]; simp [over]) rfl) ?_)))))
      rintro v'11 k'15 ⟨r'4,f'8,hW⟩
      have hO'18:=hW
      obtain ⟨c'13,hp⟩:=Zj hp
      refine zy (hO'18.appV (bytes:=24) 1 hO'18.fr rfl (hO'18.sl 4 rfl) rfl rfl (by simp only [List.all_cons,List.all_nil,Bool.and_true]; exact (hO'18.sl 3 rfl).oneV) (by rw [(hO'18.allLen 2 rfl:(vs'4).length = (out2).length)]; exact c'13) (by decide)) ?_
      rintro v'12 k'16 ⟨f'9,hW⟩
      have hO'19:=hW
      have hO'20:=hO'19.absorb 2 3 rfl rfl (by decide)
      refine Zd v'12 rfl (Zb (Zac (Za (Zo (Zd (.n e_) q'5_6 ?_)))))
      obtain ⟨c'14,hp⟩:=Zj hp
      refine Ze (zp (a:=e_) (b:=1) rfl rfl c'14) (Zd (.n (e_ + 1)) rfl (Zb ?_))
      cases hp
      exact (Or.inl ⟨(met4,out2++[f1],e_ + 1),rfl,rfl,v'12,vs'4++[v'8],q'5_0,q'5_3,rfl,q'5_5,rfl,(hO'20.pick [0,1,2] rfl (by decide))⟩)
    ·refine zN (t:=(decide (e_ < 4))) rfl b'2 ?_
     refine ZaT (zR ?_)
     cases hp
     refine (Or.inr ⟨(met1,out2),rfl,(fun h=>nomatch h),(fun he=>?_)⟩)
     subst he; exact ⟨rfl,v'5,vs'4,q'4_0,q'4_3,q'4_4,q'4_5,(hO'7.pick [0,1,2] rfl (by decide))⟩
   intro e'2 q'3 k'4 hJ'2
   obtain ⟨met2,out3⟩:=o'3
   obtain ⟨rfl,v'6,vs'5,q'3_0,q'3_3,q'3_4,q'3_5,hO'6⟩:=hJ'2
   refine Zaq (Zac (Za (Zo (Zd (.n v) q'3_5 ?_))))
   obtain ⟨c'15,hp⟩:=Zj hp
   refine Ze (zp (a:=v) (b:=1) rfl rfl c'15) (Zd (.n (v + 1)) rfl (Zb ?_))
   cases hp
   exact (Or.inl ⟨(met2,out3,v + 1),rfl,rfl,v'6,vs'5,q'3_0,q'3_3,q'3_4,rfl,(hO'6.pick [0,1,2] rfl (by decide))⟩)
  ·refine zN (t:=(decide (v < (l.length:Int)))) rfl b'1 ?_
   refine ZaT (zR ?_)
   cases hp
   refine (Or.inr ⟨out,rfl,(fun h=>nomatch h),(fun he=>?_)⟩)
   subst he; exact ⟨rfl,v'3,vs'2,q'2_4,(hO'5.pick [1,2] rfl (by decide))⟩
 intro e'1 q'1 k'2 hJ'1
 obtain ⟨out1,rfl⟩:∃ x,x = o'1:=⟨_,rfl⟩
 obtain ⟨rfl,v'4,vs'3,q'1_4,hO'2⟩:=hJ'1
 refine Zaq (Za (Zk (Zo (Zd v'4 q'1_4 (Zd v'4 rfl (Zb (Za ?_)))))))
 refine Za2 (zW (Zax (n:=2) (v:=v'4) rfl zx) ?_)
 cases hp
 exact ⟨v'4,vs'3,rfl,(hO'2.pick [0,1] rfl (by decide))⟩

theorem ZV.ok {h:Hp} {z:zo} {y:Zag} {v_z_At:V} {v_z_Bits:V} {v_z_Own:V} {v_y_Boxes:V} {v_y_Edges:V} {v_y_Bends:V} (s_z_At:Sl Zd8 h v_z_At z.At) (s_z_Bits:Sl Zd8 h v_z_Bits z.Bits) (s_z_Own:Sl ZgA h v_z_Own z.Own) (s_y_Boxes:Sl e_bool h v_y_Boxes y.Boxes) (s_y_Edges:Sl Zc8 h v_y_Edges y.Edges) (s_y_Bends:Sl Zd8 h v_y_Bends y.Bends) {r:Bool} (hp:ZV z y = some r) :
  ∃ u k',Is G 157 [.ag [v_z_At,v_z_Bits,v_z_Own],.ag [v_y_Boxes,v_y_Edges,v_y_Bends]] h u k'∧V.b r = u∧Own (fun r=>r < h.n) h k' []:=by
 refine WC.is (ZaM Zbx ?_)
 unfold ZV at hp
 let B:Nat→Prop:=(fun r=>r < h.n)
 have hO:Own B h h []:=Own.start0 h
 refine Zk (Zo (zy (hO.boxd (v:=.ag [v_z_At,v_z_Bits,v_z_Own]) (cs:=[v_z_At,v_z_Bits,v_z_Own]) hO.fr rfl rfl) ?_))
 rintro _ k'1 ⟨r'1,rfl,n'1,f'1,hW⟩
 have hO'1:=hW
 refine zy (hO'1.boxd (v:=.ag [v_y_Boxes,v_y_Edges,v_y_Bends]) (cs:=[v_y_Boxes,v_y_Edges,v_y_Bends]) hO'1.fr rfl rfl) ?_
 rintro _ k'2 ⟨r'2,rfl,n'2,f'2,hW⟩
 have hO'2:=hW
 refine Zd (.b false) rfl (Zb (Za (Zk (Zo (Ze (Zaz (cs:=[v_z_At,v_z_Bits,v_z_Own]) (ws:=[v_z_At,v_z_Bits,v_z_Own]) (hO'2.box 0 rfl) rfl rfl) ?_)))))
 obtain ⟨⟨x,x1⟩,hx'1,hp⟩:=Zt hp
 obtain ⟨u'1,k'3,ca'1,v'1,v'2,rfl,hW'1⟩:=ZF.ok (h:=k'2)  (hO'2.rd0 s_z_At.rd) (hO'2.rd0 s_z_Bits.rd) (hO'2.rd0 s_z_Own.rd) hx'1
 refine Za3 (id:=28) (caps:=[]) rfl (Z3 (v:=.ag [v_z_At,v_z_Bits,v_z_Own]) rfl (Z3 (v:=.n 16) rfl zn)) ca'1 ?_
 have hO'3:=hO'2.call hW'1 rfl
 refine Zd (.tu [v'1,v'2]) rfl (Ze (ZaY (vs:=[v'1,v'2]) (v:=v'1) rfl rfl) (Ze (ZaY (vs:=[v'1,v'2]) (v:=v'2) rfl rfl) (Zd v'1 rfl (Zd v'2 rfl (Zb (Za (Zk ?_)))))))
 refine Zo (Ze (Zaz (cs:=[v_y_Boxes,v_y_Edges,v_y_Bends]) (ws:=[v_y_Boxes,v_y_Edges,v_y_Bends]) (hO'3.box 1 rfl) rfl rfl) ?_)
 obtain ⟨x2,hx'2,hp⟩:=Zt hp
 obtain ⟨u'2,k'4,ca'2,v'3,v'4,rfl,hW'2⟩:=ze.ok (h:=k'3)  (hO'3.rd0 s_y_Boxes.rd) (hO'3.rd0 s_y_Edges.rd) (hO'3.rd0 s_y_Bends.rd) hx'2
 refine Za3 (id:=171) (caps:=[]) rfl (Z3 (v:=.ag [v_y_Boxes,v_y_Edges,v_y_Bends]) rfl (Z3 (v:=.n 8) rfl zn)) ca'2 ?_
 have hO'4:=hO'3.call hW'2 rfl
 refine zy (hO'4.alloc (cs:=[.sn,.sn]) hO'4.fr) ?_
 rintro _ k'5 ⟨r'3,rfl,n'3,f'3,hW⟩
 have hO'5:=hW
 refine zy (hO'5.stb (ws:=[v'3,v'4]) (cs':=[v'3,v'4]) (v:=.ag [v'3,v'4]) 6 rfl rfl rfl rfl ⟨rfl,Nat.le_of_ble_eq_true rfl,(all_cons (hO'5.sl 4 rfl).oneV (all_cons (hO'5.sl 5 rfl).oneV all_nil))⟩ rfl) ?_
 rintro _ k'6 ⟨rfl,f'4,m'1,hW⟩
 have hO'6:=hW
 refine Zb (Za (Zk (Zk (Zo (Ze (Zaz (cs:=[v'3,v'4]) (ws:=[v'3,v'4]) (hO'6.box 6 rfl) rfl rfl) ?_)))))
 obtain ⟨x3,hx'3,hp⟩:=Zt hp
 obtain ⟨u'3,k'7,ca'3,rfl,hW'3⟩:=ZU.ok (h:=k'6)  (hO'6.sl 4 rfl) (hO'6.sl 5 rfl) hx'3
 refine Za3 (id:=174) (caps:=[]) rfl (Z3 (v:=.ag [v'3,v'4]) rfl zn) ca'3 ?_
 have hO'7:=hO'6.call hW'3 rfl
 refine Ze (ZaW (a:=x3) (b:=0) rfl rfl) (Zb (Za ?_))
 obtain ⟨o'1,ho'1,hp⟩:=Zt hp
 refine W.mono (Q:=fun e fr k=>match (generalizing:=false) o'1 with
   | l=>e = .normal∧∃ (v'5:V),fr 5 = v'5∧Own B h k [eSl Zf v'5 l]) ?_ ?_
 ·clear hp; have hp:=ho'1; clear ho'1
  rcases Z2 hp with ⟨b'1,hp⟩ | ⟨b'1,hp⟩
  ·refine zO (t:=(decide (x3 = 0))) rfl b'1 ?_
   refine Zk (Zo (Ze (Zaz (cs:=[v'3,v'4]) (ws:=[v'3,v'4]) (hO'7.box 6 rfl) rfl rfl) ?_))
   obtain ⟨x4,hx'4,hp⟩:=Zt hp
   obtain ⟨u'4,k'9,ca'4,v'6,v'7,v'8,v'9,vs'1,rfl,hW'4⟩:=ZO.ok (h:=k'7)  (hO'7.sl 4 rfl) (hO'7.sl 5 rfl) hx'4
   refine Za3 (id:=175) (caps:=[]) rfl (Z3 (v:=.ag [v'3,v'4]) rfl zn) ca'4 ?_
   have hO'9:=hO'7.call hW'4 rfl
   refine Ze (ZjB (cs:=[v'6,v'7,v'8,v'9]) (v:=v'6) rfl rfl) (Zd v'6 rfl (Zb (Za (Zk (Zo (Zd v'6 rfl ?_))))))
   obtain ⟨x5,hx'5,hp⟩:=Zt hp
   obtain ⟨u'5,k'10,ca'5,rfl,hW'5⟩:=zT.ok (h:=k'9)  (hO'9.sl 7 rfl) hx'5
   refine Za3 (id:=176) (caps:=[]) rfl (Z3 (v:=v'6) rfl zn) ca'5 ?_
   have hO'10:=hO'9.call hW'5 rfl
   refine Ze (ZaW (a:=x5) (b:=0) rfl rfl) (Zb (Za ?_))
   rcases Z2 hp with ⟨b'2,hp⟩ | ⟨b'2,hp⟩
   ·refine zO (t:=(decide (x5 = 0))) rfl b'2 ?_
    refine Zo (Zd v'6 rfl (Zd v'6 rfl (Zb ?_)))
    cases hp
    exact ⟨rfl,v'6,rfl,(hO'10.pick [7] rfl (by decide))⟩
   ·refine zN (t:=(decide (x5 = 0))) rfl b'2 ?_
    refine zU ?_
    cases hp
    exact ⟨rfl,v'1,rfl,(hO'10.pick [2] rfl (by decide))⟩
  ·refine zN (t:=(decide (x3 = 0))) rfl b'1 ?_
   refine zU ?_
   cases hp
   exact ⟨rfl,v'1,rfl,(hO'7.pick [2] rfl (by decide))⟩
 intro e'1 q'1 k'8 hJ'1
 obtain ⟨l,rfl⟩:∃ x,x = o'1:=⟨_,rfl⟩
 obtain ⟨rfl,v'5,q'1_5,hO'8⟩:=hJ'1
 refine Za (Zk (Zk (Zo (Zd v'5 q'1_5 ?_))))
 obtain ⟨x6,hx'6,hp⟩:=Zt hp
 obtain ⟨u'6,k'11,ca'6,rfl,hW'6⟩:=zT.ok (h:=k'8)  (hO'8.sl 0 rfl) hx'6
 refine Za3 (id:=176) (caps:=[]) rfl (Z3 (v:=v'5) rfl zn) ca'6 ?_
 have hO'11:=hO'8.call hW'6 rfl
 refine Ze (ZcE (a:=x6) (b:=0) rfl rfl) (Zd (.b (!(decide (x6 = 0)))) rfl ?_)
 refine Zad 4 (fun fr' k'=>k'11 = k'∧fr' 38 = .b ((!(decide (x6 = 0))) || (decide ((l.length:Int) < 2)))∧fr' 5 = v'5) ?_ ?_
 ·rcases bc (!(decide (x6 = 0))) with b'3 | b'3
  ·skip
   refine Z4 rfl b'3 (Z4 rfl b'3 (Z4 rfl b'3 (Ze (zg (t:=(!(decide (x6 = 0)))) (v:=.b ((!(decide (x6 = 0))) || (decide ((l.length:Int) < 2)))) rfl b'3 (Eq.trans (b:=V.b true) rfl (Zbg b'3))) (Zb ?_))))
   exact ⟨rfl,rfl,q'1_5⟩
  ·skip
   refine ZB rfl b'3 (Zd v'5 q'1_5 (ZB rfl b'3 (Ze (Zah (hO'11.sl 0 rfl) rfl) (ZB rfl b'3 (Ze (zG (a:=(l.length:Int)) (b:=2) rfl rfl) (Ze (zc (t:=(!(decide (x6 = 0)))) (v:=.b ((!(decide (x6 = 0))) || (decide ((l.length:Int) < 2)))) rfl b'3 (Eq.trans (b:=V.b (decide ((l.length:Int) < 2))) rfl (Zb7 b'3))) (Zb ?_)))))))
   exact ⟨rfl,rfl,q'1_5⟩
 rintro frg'1 _ ⟨rfl,g'1_38,g'1_5⟩
 refine Zb (Za ?_)
 rcases Z2 hp with ⟨b'4,hp⟩ | ⟨b'4,hp⟩
 ·refine zO (t:=((!(decide (x6 = 0))) || (decide ((l.length:Int) < 2)))) g'1_38 b'4 ?_
  refine Zk (Zo ?_)
  obtain ⟨x7,hx'7,hp⟩:=Zt hp
  obtain ⟨u'7,k'12,ca'7,rfl,hW'7⟩:=Zam.ok (h:=k'11)   hx'7
  refine Za3 (id:=172) (caps:=[]) rfl zn ca'7 ?_
  have hO'12:=hO'11.call hW'7 rfl
  refine Zd (.b x7) rfl (Zb (Za (Za2 (Zaf (zW (Zax (n:=4) (v:=.b x7) rfl zx) ?_)))))
  cases hp
  exact ⟨rfl,(hO'12.pick [] rfl (by decide))⟩
 ·refine zN (t:=((!(decide (x6 = 0))) || (decide ((l.length:Int) < 2)))) g'1_38 b'4 ?_
  refine zU (Za (Zk (Zo (Zd (.n 0) rfl (Zb (Za (Zk ?_)))))))
  refine Zk (Zo (Zd v'5 g'1_5 (Ze (Zah (hO'11.sl 0 rfl) rfl) (Zd (.n 0) rfl (Zb (Za (Zaa ?_)))))))
  obtain ⟨o'2,ho'2,hp⟩:=Zt hp
  refine W.mono (Q:=fun e fr k=>match (generalizing:=false) o'2 with
    | darts1=>e = (.exit 0)∧fr 5 = v'5∧fr 9 = .n darts1∧Own B h k [eSl Zf v'5 l]) ?_ ?_
  ·clear hp
   refine z9 (fun st fr k=>match st with | (Zcg,x8)=>fr 5 = v'5∧fr 9 = .n Zcg∧fr 40 = v'5∧fr 41 = .n (l.length:Int)∧fr 42 = .n x8∧Own B h k [eSl Zf v'5 l]) ho'2 (s:=(0,0)) ⟨g'1_5,rfl,rfl,rfl,rfl,(hO'11.pick [0] rfl (by decide))⟩ ?_
   rintro ⟨Zcg,x8⟩ q'3 k'14 ⟨q'3_5,q'3_9,q'3_40,q'3_41,q'3_42,hO'14⟩ o'3 hp
   dsimp only [ZV.s0] at hp
   refine Zk (Zo (Ze (zG (a:=x8) (b:=(l.length:Int)) q'3_42 q'3_41) (Zb (Za (Zk ?_)))))
   rcases Z2 hp with ⟨b'5,hp⟩ | ⟨b'5,hp⟩
   ·refine zO (t:=(decide (x8 < (l.length:Int)))) rfl b'5 ?_
    refine zU (Za (Zk (Zaa (Zk (Zo ?_)))))
    obtain ⟨c'1,hp⟩:=Zj hp
    refine Ze (zz (E:=Zf) (z:=x8) (hO'14.sl 0 rfl) q'3_40 q'3_42 c'1) (Ze (ZdX (E:=Zf) (hO'14.sl 0 rfl) rfl (Zp c'1)) (zy (hO'14.alloc (cs:=Zf.c (⟨⟨0,0,0,0⟩,⟨0,0,0,0⟩⟩:Zc)) hO'14.fr) ?_))
    rintro _ k'15 ⟨r'4,rfl,n'4,f'5,hW⟩
    have hO'15:=hW
    refine zy (hO'15.stb (ws:=Zf.c (gi l x8.toNat)) (cs':=Zf.c (gi l x8.toNat)) (v:=.ag (Zf.c (gi l x8.toNat))) 1 rfl rfl rfl rfl ⟨rfl,Nat.le_of_ble_eq_true rfl,rfl⟩ rfl) ?_
    rintro _ k'16 ⟨rfl,f'6,m'2,hW⟩
    have hO'16:=hW
    refine Zb (Za (Zk (Zo (Ze (z6 (r:=r'4) (o:=0) (o':=0) rfl rfl) (Ze (Zaz (cs:=(Zf.c (gi l x8.toNat))) (ws:=Zbk.c ((gi l x8.toNat).Next)) (hO'16.box 1 rfl) rfl rfl) (Zd (.n 0) rfl (Zb ?_)))))))
    refine Za (Zaa ?_)
    obtain ⟨o'4,ho'3,hp⟩:=Zt hp
    refine W.mono (Q:=fun e fr k=>match (generalizing:=false) o'4 with
      | darts3=>e = (.exit 2)∧fr 5 = v'5∧fr 9 = .n darts3∧fr 40 = v'5∧fr 41 = .n (l.length:Int)∧fr 42 = .n x8∧Own B h k [eSl Zf v'5 l]) ?_ ?_
    ·clear hp
     refine z9 (fun st fr k=>match st with | (darts2,x9)=>fr 5 = v'5∧fr 9 = .n darts2∧fr 40 = v'5∧fr 41 = .n (l.length:Int)∧fr 42 = .n x8∧fr 47 = .ag (Zbk.c ((gi l x8.toNat).Next))∧fr 48 = .n x9∧Own B h k [eSl Zf v'5 l]) ho'3 (s:=(Zcg,0)) ⟨q'3_5,q'3_9,q'3_40,q'3_41,q'3_42,rfl,rfl,(hO'16.pick [0] rfl (by decide))⟩ ?_
     rintro ⟨darts2,x9⟩ q'5 k'18 ⟨q'5_5,q'5_9,q'5_40,q'5_41,q'5_42,q'5_47,q'5_48,hO'18⟩ o'5 hp
     dsimp only [ZV.s1] at hp
     refine Zk (Zo (Ze (zG (a:=x9) (b:=4) q'5_48 rfl) (Zb (Za (Zk ?_)))))
     rcases Z2 hp with ⟨b'6,hp⟩ | ⟨b'6,hp⟩
     ·refine zO (t:=(decide (x9 < 4))) rfl b'6 ?_
      refine zU (Za (Zk (Zaa (Zk (Zo ?_)))))
      obtain ⟨c'2,hp⟩:=Zj hp
      refine Ze (ZjR (cs:=Zbk.c ((gi l x8.toNat).Next)) (z:=x9) (v:=.n (((gi l x8.toNat).Next).get x9)) q'5_47 q'5_48 c'2 (Zem c'2)) (Zd (.n (((gi l x8.toNat).Next).get x9)) rfl (Zb (Za (Zk (Zo (Zd (.n (((gi l x8.toNat).Next).get x9)) rfl (Ze (ZcC (a:=(((gi l x8.toNat).Next).get x9)) (b:=0) rfl rfl) ?_)))))))
      refine Zb (Za ?_)
      rcases Z2 hp with ⟨b'7,hp⟩ | ⟨b'7,hp⟩
      ·refine zO (t:=(decide (0≤(((gi l x8.toNat).Next).get x9)))) rfl b'7 ?_
       refine Zo (Zd (.n darts2) q'5_9 ?_)
       obtain ⟨c'3,hp⟩:=Zj hp
       refine Ze (zp (a:=darts2) (b:=1) rfl rfl c'3) (Zd (.n (darts2 + 1)) rfl (Zb (Zac (Za (Zo ?_)))))
       obtain ⟨c'4,hp⟩:=Zj hp
       refine Ze (zp (a:=x9) (b:=1) q'5_48 rfl c'4) (Zd (.n (x9 + 1)) rfl (Zb ?_))
       cases hp
       exact (Or.inl ⟨(darts2 + 1,x9 + 1),rfl,rfl,q'5_5,rfl,q'5_40,q'5_41,q'5_42,q'5_47,rfl,(hO'18.pick [0] rfl (by decide))⟩)
      ·refine zN (t:=(decide (0≤(((gi l x8.toNat).Next).get x9)))) rfl b'7 ?_
       refine zU (Zac (Za (Zo ?_)))
       obtain ⟨c'5,hp⟩:=Zj hp
       refine Ze (zp (a:=x9) (b:=1) q'5_48 rfl c'5) (Zd (.n (x9 + 1)) rfl (Zb ?_))
       cases hp
       exact (Or.inl ⟨(darts2,x9 + 1),rfl,rfl,q'5_5,q'5_9,q'5_40,q'5_41,q'5_42,q'5_47,rfl,(hO'18.pick [0] rfl (by decide))⟩)
     ·refine zN (t:=(decide (x9 < 4))) rfl b'6 ?_
      refine ZaT (zR ?_)
      cases hp
      refine (Or.inr ⟨darts2,rfl,(fun h=>nomatch h),(fun he=>?_)⟩)
      subst he; exact ⟨rfl,q'5_5,q'5_9,q'5_40,q'5_41,q'5_42,(hO'18.pick [0] rfl (by decide))⟩
    intro e'3 q'4 k'17 hJ'3
    obtain ⟨darts3,rfl⟩:∃ x,x = o'4:=⟨_,rfl⟩
    obtain ⟨rfl,q'4_5,q'4_9,q'4_40,q'4_41,q'4_42,hO'17⟩:=hJ'3
    refine Zaq (Zac (Za (Zo ?_)))
    obtain ⟨c'6,hp⟩:=Zj hp
    refine Ze (zp (a:=x8) (b:=1) q'4_42 rfl c'6) (Zd (.n (x8 + 1)) rfl (Zb ?_))
    cases hp
    exact (Or.inl ⟨(darts3,x8 + 1),rfl,rfl,q'4_5,q'4_9,q'4_40,q'4_41,rfl,(hO'17.pick [0] rfl (by decide))⟩)
   ·refine zN (t:=(decide (x8 < (l.length:Int)))) rfl b'5 ?_
    refine ZaT (zR ?_)
    cases hp
    refine (Or.inr ⟨Zcg,rfl,(fun h=>nomatch h),(fun he=>?_)⟩)
    subst he; exact ⟨rfl,q'3_5,q'3_9,(hO'14.pick [0] rfl (by decide))⟩
  intro e'2 q'2 k'13 hJ'2
  obtain ⟨darts1,rfl⟩:∃ x,x = o'2:=⟨_,rfl⟩
  obtain ⟨rfl,q'2_5,q'2_9,hO'13⟩:=hJ'2
  refine Zaq (Za (Zk (Zo ?_)))
  obtain ⟨x10,hx'8,hp⟩:=Zt hp
  obtain ⟨u'8,k'19,ca'8,rfl,hW'8⟩:=Zam.ok (h:=k'13)   hx'8
  refine Za3 (id:=172) (caps:=[]) rfl zn ca'8 ?_
  have hO'19:=hO'13.call hW'8 rfl
  refine Zd (.b x10) rfl ?_
  obtain ⟨t,hv'1,hp⟩:=Zt hp
  refine Zad 11 (fun fr' k'=>Own B h k' [eSl Zf v'5 l]∧fr' 69 = .b t) ?_ ?_
  ·clear hp; rcases Z2 hv'1 with ⟨b'8,hp⟩ | ⟨b'8,hp⟩
   ·skip
    refine ZB rfl b'8 (Zd v'5 q'2_5 (ZB rfl b'8 ?_))
    obtain ⟨x11,hx'9,hp⟩:=Zt hp
    obtain ⟨u'9,k'20,ca'9,v'10,vs'2,rfl,hW'9⟩:=ZK.ok (h:=k'19)  (hO'19.sl 0 rfl) hx'9
    refine Za3 (id:=177) (caps:=[]) rfl (Z3 (v:=v'5) rfl zn) ca'9 ?_
    have hO'20:=hO'19.call hW'9 rfl
    refine ZB rfl b'8 (Ze (Zg6 (n:=(x11).length) (hO'20.sl 1 rfl) (hO'20.allLen 2 rfl:(vs'2).length = (x11).length) rfl) (ZB rfl b'8 (Zd v'5 q'2_5 (ZB rfl b'8 (Ze (Zah (hO'20.sl 0 rfl) rfl) (ZB rfl b'8 ?_))))))
    obtain ⟨c'7,hp⟩:=Zj hp
    refine Ze (zp (a:=(x11.length:Int)) (b:=(l.length:Int)) rfl rfl c'7) (ZB rfl b'8 (Zd (.n darts1) q'2_9 (ZB rfl b'8 ?_)))
    obtain ⟨c'8,hp⟩:=Zj hp
    refine Ze (Zhe (a:=darts1) (b:=2) rfl rfl c'8) (ZB rfl b'8 ?_)
    obtain ⟨c'9,hp⟩:=Zj hp
    refine Ze (zp (a:=(darts1.tdiv 2)) (b:=2) rfl rfl c'9) (ZB rfl b'8 (Ze (ZaW (a:=((x11.length:Int) + (l.length:Int))) (b:=((darts1.tdiv 2) + 2)) rfl rfl) (Ze (zg (t:=x10) (v:=.b t) rfl b'8 (Eq.trans (b:=V.b (decide ((x11.length:Int) + (l.length:Int) = (darts1.tdiv 2) + 2))) rfl (congrArg V.b (Option.some.inj hp)))) (Zb ?_))))
    exact ⟨hO'20.pick [0] rfl (by decide),rfl⟩
   ·skip
    refine Z4 rfl b'8 (Z4 rfl b'8 (Z4 rfl b'8 (Z4 rfl b'8 (Z4 rfl b'8 (Z4 rfl b'8 (Z4 rfl b'8 (Z4 rfl b'8 ?_)))))))
    refine Z4 rfl b'8 (Z4 rfl b'8 (Ze (zc (t:=x10) (v:=.b t) rfl b'8 (Eq.trans (b:=V.b false) rfl (congrArg V.b (Option.some.inj hp)))) (Zb ?_)))
    exact ⟨hO'19.pick [0] rfl (by decide),rfl⟩
  rintro frg'2 k'21 ⟨hO'21,g'2_69⟩
  refine Zd (.b t) g'2_69 (Zb (Za (Za2 (zW (Zax (n:=4) (v:=.b t) rfl zx) ?_))))
  cases hp
  exact ⟨rfl,(hO'21.pick [] rfl (by decide))⟩

end Mu
