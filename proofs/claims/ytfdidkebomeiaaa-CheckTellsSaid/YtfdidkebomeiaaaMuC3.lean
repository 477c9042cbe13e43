/- The code comes to what was worked out. -/
import Derived.Test.YtfdidkebomeiaaaMuDf
import Derived.Test.YtfdidkebomeiaaaMuPa
import Derived.Test.YtfdidkebomeiaaaMuC2
set_option linter.unusedVariables false
set_option linter.unnecessarySimpa false
set_option linter.unusedSimpArgs false
set_option maxHeartbeats 2000000
set_option maxRecDepth 10000
namespace Mu
open Go (IntKind BinOp UnOp)
theorem zd.ok {h:Hp} {l:List Ze} {v:Int} {v_l:V} (s_l:Sl Zn h v_l l) {r:(List Int)} (hp:zd l v = some r) :
  ∃ u k',Is G 36 [v_l,.n v] h u k'∧∃ (v'1:V),v'1 = u∧Own (fun r=>r < h.n) h k' [eSl ZM v'1 r]:=by
 refine WC.is (ZaM ZdZ ?_)
 unfold zd at hp
 let B:Nat→Prop:=(fun r=>r < h.n)
 have hO:Own B h h []:=Own.start0 h
 refine Zh (Zk (Zd (.sn) rfl (Zb (Za (Zh (Zk (Zd v_l rfl ?_)))))))
 refine Zg (Zau (hO.rd0 s_l.rd) rfl) ?_
 obtain ⟨c'1,hp⟩:=Zj hp
 refine zQ (hO.mks (E:=ZM) (y:=(0:Int)) (bytes:=8) (z:=(l.length:Int)) hO.fr rfl rfl rfl c'1 (by decide)) ?_
 rintro v'2 k'1 ⟨r'1,f'1,hW⟩
 have hO'1:=hW
 refine Zd v'2 rfl (Zb (Za (Zh (Zh (Zk (Zd (.n 0) rfl (Zb ?_)))))))
 refine Za (Zaq ?_)
 obtain ⟨o'1,ho'1,hp⟩:=Zq hp
 refine W.mono (Q:=fun e fr k=>match (generalizing:=false) o'1 with
   | far1=>e = (.exit 0)∧fr 0 = v_l∧fr 1 = .n v∧fr 5 = v'2∧Own B h k [eSl ZM v'2 far1]) ?_ ?_
 ·clear hp
  refine zP (fun st fr k=>match st with | (far,i)=>fr 0 = v_l∧fr 1 = .n v∧fr 5 = v'2∧fr 6 = .n i∧Own B h k [eSl ZM v'2 far]) ho'1 (s:=(List.replicate ((l.length:Int):Int).toNat (0:Int),0)) ⟨rfl,rfl,rfl,rfl,(hO'1.pick [0] rfl (by decide))⟩ ?_
  rintro ⟨far,i⟩ q'2 k'3 ⟨q'2_0,q'2_1,q'2_5,q'2_6,hO'3⟩ o'2 hp
  dsimp only [zd.s0] at hp
  refine Zh (Zh (Zk (Zd (.n i) q'2_6 (Zd v_l q'2_0 (Zg (Zau (hO'3.rd0 s_l.rd) rfl) (Zg (zN (a:=i) (b:=(l.length:Int)) rfl rfl) (Zb ?_)))))))
  refine Za ?_
  rcases Zp hp with ⟨b'1,hp⟩ | ⟨b'1,hp⟩
  ·refine zA (t:=(decide (i < (l.length:Int)))) rfl b'1 ?_
   refine zD (Za (Zh (Zaq (Zk (Zd v'2 q'2_5 (Zd (.n i) q'2_6 ?_))))))
   obtain ⟨c'2,hp⟩:=Zj hp
   refine Zg (zf (E:=ZM) (z:=i) (hO'3.sl 0 rfl) rfl rfl c'2) (zQ (hO'3.ste (E:=ZM) (y:=(-1)) (ws:=[.n (-1)]) 0 rfl rfl (Zi c'2) rfl rfl ⟨rfl,Nat.le_of_ble_eq_true rfl,rfl⟩ rfl) ?_)
   rintro _ k'4 ⟨rfl,f'2,m'1,hW⟩
   have hO'4:=hW
   refine Zb (Zan (Za (Zk (Zd (.n i) q'2_6 ?_))))
   obtain ⟨c'3,hp⟩:=Zj hp
   refine Zg (z6 (a:=i) (b:=1) rfl rfl c'3) (Zd (.n (i + 1)) rfl (Zb ?_))
   cases hp
   exact (Or.inl ⟨(far.set i.toNat (-1),i + 1),rfl,rfl,q'2_0,q'2_1,q'2_5,rfl,(hO'4.pick [0] rfl (by decide))⟩)
  ·refine z7 (t:=(decide (i < (l.length:Int)))) rfl b'1 ?_
   refine Zbv (zY ?_)
   cases hp
   refine (Or.inr ⟨far,rfl,(fun h=>nomatch h),(fun he=>?_)⟩)
   subst he; exact ⟨rfl,q'2_0,q'2_1,q'2_5,(hO'3.pick [0] rfl (by decide))⟩
 intro e'1 q'1 k'2 hJ'1
 obtain ⟨far1,rfl⟩:∃ x,x = o'1:=⟨_,rfl⟩
 obtain ⟨rfl,q'1_0,q'1_1,q'1_5,hO'2⟩:=hJ'1
 refine ZaD (Za (Zh (Zk (Zd v'2 q'1_5 (Zd (.n v) q'1_1 ?_)))))
 obtain ⟨c'4,hp⟩:=Zj hp
 refine Zg (zf (E:=ZM) (z:=v) (hO'2.sl 0 rfl) rfl rfl c'4) (zQ (hO'2.ste (E:=ZM) (y:=0) (ws:=[.n 0]) 0 rfl rfl (Zi c'4) rfl rfl ⟨rfl,Nat.le_of_ble_eq_true rfl,rfl⟩ rfl) ?_)
 rintro _ k'5 ⟨rfl,f'3,m'2,hW⟩
 have hO'5:=hW
 refine Zb (Za (Zh (Zh (Zk (Zd (.n 0) rfl (Zb (Za ?_)))))))
 refine Zaq ?_
 obtain ⟨o'3,ho'2,hp⟩:=Zq hp
 refine W.mono (Q:=fun e fr k=>match (generalizing:=false) o'3 with
   | far3=>e = (.exit 2)∧fr 5 = v'2∧Own B h k [eSl ZM v'2 far3]) ?_ ?_
 ·clear hp
  refine zP (fun st fr k=>match st with | (far2,round)=>fr 0 = v_l∧fr 5 = v'2∧fr 7 = .n round∧Own B h k [eSl ZM v'2 far2]) ho'2 (s:=(far1.set v.toNat 0,0)) ⟨q'1_0,q'1_5,rfl,(hO'5.pick [0] rfl (by decide))⟩ ?_
  rintro ⟨far2,round⟩ q'4 k'7 ⟨q'4_0,q'4_5,q'4_7,hO'7⟩ o'4 hp
  dsimp only [zd.s1] at hp
  refine Zh (Zh (Zk (Zd (.n round) q'4_7 (Zd v_l q'4_0 (Zg (Zau (hO'7.rd0 s_l.rd) rfl) (Zg (zN (a:=round) (b:=(l.length:Int)) rfl rfl) (Zb ?_)))))))
  refine Za ?_
  rcases Zp hp with ⟨b'2,hp⟩ | ⟨b'2,hp⟩
  ·refine zA (t:=(decide (round < (l.length:Int)))) rfl b'2 ?_
   refine zD (Za (Zh (Zaq (Zh (Zk (Zd (.n 0) rfl (Zb ?_)))))))
   refine Za (Zaq ?_)
   obtain ⟨o'5,ho'3,hp⟩:=Zq hp
   refine W.mono (Q:=fun e fr k=>match (generalizing:=false) o'5 with
     | far5=>e = (.exit 4)∧fr 0 = v_l∧fr 5 = v'2∧fr 7 = .n round∧Own B h k [eSl ZM v'2 far5]) ?_ ?_
   ·clear hp
    refine zP (fun st fr k=>match st with | (far4,i1)=>fr 0 = v_l∧fr 5 = v'2∧fr 7 = .n round∧fr 8 = .n i1∧Own B h k [eSl ZM v'2 far4]) ho'3 (s:=(far2,0)) ⟨q'4_0,q'4_5,q'4_7,rfl,(hO'7.pick [0] rfl (by decide))⟩ ?_
    rintro ⟨far4,i1⟩ q'6 k'9 ⟨q'6_0,q'6_5,q'6_7,q'6_8,hO'9⟩ o'6 hp
    dsimp only [zd.s2] at hp
    refine Zh (Zh (Zk (Zd (.n i1) q'6_8 (Zd v_l q'6_0 (Zg (Zau (hO'9.rd0 s_l.rd) rfl) (Zg (zN (a:=i1) (b:=(l.length:Int)) rfl rfl) (Zb ?_)))))))
    refine Za ?_
    rcases Zp hp with ⟨b'3,hp⟩ | ⟨b'3,hp⟩
    ·refine zA (t:=(decide (i1 < (l.length:Int)))) rfl b'3 ?_
     refine zD (Za (Zh (Zaq (Zh (Zk (Zd (.n 0) rfl (Zb ?_)))))))
     refine Za (Zaq ?_)
     obtain ⟨o'7,ho'4,hp⟩:=Zq hp
     refine W.mono (Q:=fun e fr k=>match (generalizing:=false) o'7 with
       | far7=>e = (.exit 6)∧fr 0 = v_l∧fr 5 = v'2∧fr 7 = .n round∧fr 8 = .n i1∧Own B h k [eSl ZM v'2 far7]) ?_ ?_
     ·clear hp
      refine zP (fun st fr k=>match st with | (far6,d)=>fr 0 = v_l∧fr 5 = v'2∧fr 7 = .n round∧fr 8 = .n i1∧fr 9 = .n d∧Own B h k [eSl ZM v'2 far6]) ho'4 (s:=(far4,0)) ⟨q'6_0,q'6_5,q'6_7,q'6_8,rfl,(hO'9.pick [0] rfl (by decide))⟩ ?_
      rintro ⟨far6,d⟩ q'8 k'11 ⟨q'8_0,q'8_5,q'8_7,q'8_8,q'8_9,hO'11⟩ o'8 hp
      dsimp only [zd.s3] at hp
      refine Zh (Zh (Zk (Zd (.n d) q'8_9 (Zg (zN (a:=d) (b:=4) rfl rfl) (Zb (Za ?_))))))
      rcases Zp hp with ⟨b'4,hp⟩ | ⟨b'4,hp⟩
      ·refine zA (t:=(decide (d < 4))) rfl b'4 ?_
       refine zD (Za (Zh (Zaq (Zh (Zk (Zd v_l q'8_0 (Zd (.n i1) q'8_8 ?_)))))))
       refine Zd (.n d) q'8_9 ?_
       obtain ⟨c'5,hp⟩:=Zj hp
       refine Zg (zf (E:=Zn) (z:=i1) (hO'11.rd0 s_l.rd) rfl rfl c'5) (Zg (Za1 (off':=0) (off2:=0) (hO'11.rd0 s_l.rd) (Zi c'5) rfl rfl) ?_)
       obtain ⟨c'6,hp⟩:=Zj hp
       refine Zg (ZbC (off:=0) (off2:=(0 + d.toNat * 1)) (z:=d) (hO'11.rd0 s_l.rd) (Zi c'5) rfl rfl c'6 rfl) (Zg (zB (w:=.n (((gi l i1.toNat).Next).get d)) (hO'11.rd0 s_l.rd) rfl (Zi c'5) (zO c'6)) (Zd (.n (((gi l i1.toNat).Next).get d)) rfl (Zb (Za (Zh (Zk (Zd v'2 q'8_5 ?_)))))))
       refine Zd (.n i1) q'8_8 ?_
       obtain ⟨c'7,hp⟩:=Zj hp
       refine Zg (zf (E:=ZM) (z:=i1) (hO'11.sl 0 rfl) rfl rfl c'7) (Zg (zB (w:=.n (gi far6 i1.toNat)) (hO'11.sl 0 rfl) rfl (Zi c'7) rfl) (Zd (.n round) q'8_7 (Zg (ZbQ (a:=(gi far6 i1.toNat)) (b:=round) rfl rfl) (Zd (.b (decide (gi far6 i1.toNat = round))) rfl ?_))))
       refine Za0 3 (fun fr' k'=>k'11 = k'∧fr' 58 = .b ((decide (gi far6 i1.toNat = round)) && (decide (0≤(((gi l i1.toNat).Next).get d))))∧fr' 0 = v_l∧fr' 10 = .n (((gi l i1.toNat).Next).get d)∧fr' 5 = v'2∧fr' 7 = .n round∧fr' 8 = .n i1∧fr' 9 = .n d) ?_ ?_
       ·rcases bc (decide (gi far6 i1.toNat = round)) with b'5 | b'5
        ·skip
         refine Z8 rfl b'5 (Zd (.n (((gi l i1.toNat).Next).get d)) rfl (Z8 rfl b'5 (Zg (Zcs (a:=(((gi l i1.toNat).Next).get d)) (b:=0) rfl rfl) (Zg (zr (t:=(decide (gi far6 i1.toNat = round))) (v:=.b ((decide (gi far6 i1.toNat = round)) && (decide (0≤(((gi l i1.toNat).Next).get d))))) rfl b'5 (Eq.trans (b:=V.b (decide (0≤(((gi l i1.toNat).Next).get d)))) rfl (Zd7 b'5))) (Zb ?_)))))
         exact ⟨rfl,rfl,q'8_0,rfl,q'8_5,q'8_7,q'8_8,q'8_9⟩
        ·skip
         refine Zv rfl b'5 (Zv rfl b'5 (Zg (zm (t:=(decide (gi far6 i1.toNat = round))) (v:=.b ((decide (gi far6 i1.toNat = round)) && (decide (0≤(((gi l i1.toNat).Next).get d))))) rfl b'5 (Eq.trans (b:=V.b false) rfl (ZcN b'5))) (Zb ?_)))
         exact ⟨rfl,rfl,q'8_0,rfl,q'8_5,q'8_7,q'8_8,q'8_9⟩
       rintro frg'1 _ ⟨rfl,g'1_58,g'1_0,g'1_10,g'1_5,g'1_7,g'1_8,g'1_9⟩
       refine Zd (.b ((decide (gi far6 i1.toNat = round)) && (decide (0≤(((gi l i1.toNat).Next).get d))))) g'1_58 ?_
       obtain ⟨t,hv'1,hp⟩:=Zq hp
       refine Za0 7 (fun fr' k'=>k'11 = k'∧fr' 66 = .b t∧fr' 0 = v_l∧fr' 10 = .n (((gi l i1.toNat).Next).get d)∧fr' 5 = v'2∧fr' 7 = .n round∧fr' 8 = .n i1∧fr' 9 = .n d) ?_ ?_
       ·clear hp; rcases Zp hv'1 with ⟨b'6,hp⟩ | ⟨b'6,hp⟩
        ·skip
         refine Z8 rfl b'6 (Zd v'2 g'1_5 (Z8 rfl b'6 (Zd (.n (((gi l i1.toNat).Next).get d)) g'1_10 (Z8 rfl b'6 (Zg (Zjx (a:=(((gi l i1.toNat).Next).get d)) (b:=0) rfl rfl) (Z8 rfl b'6 ?_))))))
         obtain ⟨c'8,hp⟩:=Zj hp
         refine Zg (zf (E:=ZM) (z:=(max (((gi l i1.toNat).Next).get d) 0)) (hO'11.sl 0 rfl) rfl rfl c'8) (Z8 rfl b'6 (Zg (zB (w:=.n (gi far6 (max (((gi l i1.toNat).Next).get d) 0:Int).toNat)) (hO'11.sl 0 rfl) rfl (Zi c'8) rfl) (Z8 rfl b'6 (Zg (zN (a:=(gi far6 (max (((gi l i1.toNat).Next).get d) 0:Int).toNat)) (b:=0) rfl rfl) (Zg (zr (t:=((decide (gi far6 i1.toNat = round)) && (decide (0≤(((gi l i1.toNat).Next).get d))))) (v:=.b t) rfl b'6 (Eq.trans (b:=V.b (decide ((gi far6 (max (((gi l i1.toNat).Next).get d) 0:Int).toNat) < 0))) rfl (congrArg V.b (Option.some.inj hp)))) (Zb ?_))))))
         exact ⟨rfl,rfl,g'1_0,g'1_10,g'1_5,g'1_7,g'1_8,g'1_9⟩
        ·skip
         refine Zv rfl b'6 (Zv rfl b'6 (Zv rfl b'6 (Zv rfl b'6 (Zv rfl b'6 (Zv rfl b'6 (Zg (zm (t:=((decide (gi far6 i1.toNat = round)) && (decide (0≤(((gi l i1.toNat).Next).get d))))) (v:=.b t) rfl b'6 (Eq.trans (b:=V.b false) rfl (congrArg V.b (Option.some.inj hp)))) (Zb ?_)))))))
         exact ⟨rfl,rfl,g'1_0,g'1_10,g'1_5,g'1_7,g'1_8,g'1_9⟩
       rintro frg'2 _ ⟨rfl,g'2_66,g'2_0,g'2_10,g'2_5,g'2_7,g'2_8,g'2_9⟩
       refine Zb (Za ?_)
       rcases Zp hp with ⟨b'7,hp⟩ | ⟨b'7,hp⟩
       ·refine zA (t:=t) g'2_66 b'7 ?_
        refine Zk (Zd v'2 g'2_5 (Zd (.n (((gi l i1.toNat).Next).get d)) g'2_10 (Zd (.n round) g'2_7 ?_)))
        obtain ⟨c'9,hp⟩:=Zj hp
        refine Zg (z6 (a:=round) (b:=1) rfl rfl c'9) ?_
        obtain ⟨c'10,hp⟩:=Zj hp
        refine Zg (zf (E:=ZM) (z:=(((gi l i1.toNat).Next).get d)) (hO'11.sl 0 rfl) rfl rfl c'10) (zQ (hO'11.ste (E:=ZM) (y:=(round + 1)) (ws:=[.n (round + 1)]) 0 rfl rfl (Zi c'10) rfl rfl ⟨rfl,Nat.le_of_ble_eq_true rfl,rfl⟩ rfl) ?_)
        rintro _ k'12 ⟨rfl,f'4,m'3,hW⟩
        have hO'12:=hW
        refine Zb (Zan (Za (Zk (Zd (.n d) g'2_9 ?_))))
        obtain ⟨c'11,hp⟩:=Zj hp
        refine Zg (z6 (a:=d) (b:=1) rfl rfl c'11) (Zd (.n (d + 1)) rfl (Zb ?_))
        cases hp
        exact (Or.inl ⟨(far6.set (((gi l i1.toNat).Next).get d:Int).toNat (round + 1),d + 1),rfl,rfl,g'2_0,g'2_5,g'2_7,g'2_8,rfl,(hO'12.pick [0] rfl (by decide))⟩)
       ·refine z7 (t:=t) g'2_66 b'7 ?_
        refine zD (Zan (Za (Zk (Zd (.n d) g'2_9 ?_))))
        obtain ⟨c'12,hp⟩:=Zj hp
        refine Zg (z6 (a:=d) (b:=1) rfl rfl c'12) (Zd (.n (d + 1)) rfl (Zb ?_))
        cases hp
        exact (Or.inl ⟨(far6,d + 1),rfl,rfl,g'2_0,g'2_5,g'2_7,g'2_8,rfl,(hO'11.pick [0] rfl (by decide))⟩)
      ·refine z7 (t:=(decide (d < 4))) rfl b'4 ?_
       refine Zbv (zY ?_)
       cases hp
       refine (Or.inr ⟨far6,rfl,(fun h=>nomatch h),(fun he=>?_)⟩)
       subst he; exact ⟨rfl,q'8_0,q'8_5,q'8_7,q'8_8,(hO'11.pick [0] rfl (by decide))⟩
     intro e'4 q'7 k'10 hJ'4
     obtain ⟨far7,rfl⟩:∃ x,x = o'7:=⟨_,rfl⟩
     obtain ⟨rfl,q'7_0,q'7_5,q'7_7,q'7_8,hO'10⟩:=hJ'4
     refine ZaD (Zan (Za (Zk (Zd (.n i1) q'7_8 ?_))))
     obtain ⟨c'13,hp⟩:=Zj hp
     refine Zg (z6 (a:=i1) (b:=1) rfl rfl c'13) (Zd (.n (i1 + 1)) rfl (Zb ?_))
     cases hp
     exact (Or.inl ⟨(far7,i1 + 1),rfl,rfl,q'7_0,q'7_5,q'7_7,rfl,(hO'10.pick [0] rfl (by decide))⟩)
    ·refine z7 (t:=(decide (i1 < (l.length:Int)))) rfl b'3 ?_
     refine Zbv (zY ?_)
     cases hp
     refine (Or.inr ⟨far4,rfl,(fun h=>nomatch h),(fun he=>?_)⟩)
     subst he; exact ⟨rfl,q'6_0,q'6_5,q'6_7,(hO'9.pick [0] rfl (by decide))⟩
   intro e'3 q'5 k'8 hJ'3
   obtain ⟨far5,rfl⟩:∃ x,x = o'5:=⟨_,rfl⟩
   obtain ⟨rfl,q'5_0,q'5_5,q'5_7,hO'8⟩:=hJ'3
   refine ZaD (Zan (Za (Zk (Zd (.n round) q'5_7 ?_))))
   obtain ⟨c'14,hp⟩:=Zj hp
   refine Zg (z6 (a:=round) (b:=1) rfl rfl c'14) (Zd (.n (round + 1)) rfl (Zb ?_))
   cases hp
   exact (Or.inl ⟨(far5,round + 1),rfl,rfl,q'5_0,q'5_5,rfl,(hO'8.pick [0] rfl (by decide))⟩)
  ·refine z7 (t:=(decide (round < (l.length:Int)))) rfl b'2 ?_
   refine Zbv (zY ?_)
   cases hp
   refine (Or.inr ⟨far2,rfl,(fun h=>nomatch h),(fun he=>?_)⟩)
   subst he; exact ⟨rfl,q'4_5,(hO'7.pick [0] rfl (by decide))⟩
 intro e'2 q'3 k'6 hJ'2
 obtain ⟨far3,rfl⟩:∃ x,x = o'3:=⟨_,rfl⟩
 obtain ⟨rfl,q'3_5,hO'6⟩:=hJ'2
 refine ZaD (Za (Zh (Zk (Zd v'2 q'3_5 (Zd v'2 rfl (Zb (Za ?_)))))))
 refine Zad (zu (zG (n:=4) (v:=v'2) rfl ZN) ?_)
 cases hp
 exact ⟨v'2,rfl,(hO'6.pick [0] rfl (by decide))⟩

theorem zI.ok {h:Hp} {l:List Ze} {v_l:V} (s_l:Sl Zn h v_l l) {r:(List (List Int))} (hp:zI l = some r) :
  ∃ u k',Is G 30 [v_l] h u k'∧∃ (v'1:V),∃ (vs'1:List V),v'1 = u∧Own (fun r=>r < h.n) h k' [eSl eV v'1 vs'1,ZbE ZM vs'1 r]:=by
 refine WC.is (ZaM Zdz ?_)
 unfold zI at hp
 let B:Nat→Prop:=(fun r=>r < h.n)
 have hO:Own B h h []:=Own.start0 h
 refine Zh (Zk (Zd (.sn) rfl (Zb (Za (Zh (Zk (Zd v_l rfl ?_)))))))
 refine Zg (Zau (hO.rd0 s_l.rd) rfl) ?_
 obtain ⟨c'1,hp⟩:=Zj hp
 refine zQ (hO.mks (E:=e_bool) (y:=false) (bytes:=1) (z:=(l.length:Int)) hO.fr rfl rfl rfl c'1 (by decide)) ?_
 rintro v'2 k'1 ⟨r'1,f'1,hW⟩
 have hO'1:=hW
 refine Zd v'2 rfl (Zb (Za (Zh (Zk (Zd (.sn) rfl (Zb (Za ?_)))))))
 refine Zh (Zh (Zk (Zd (.n 0) rfl (Zb (Za (Zaq ?_))))))
 obtain ⟨o'1,ho'1,hp⟩:=Zq hp
 refine W.mono (Q:=fun e fr k=>match (generalizing:=false) o'1 with
   | out1=>e = (.exit 0)∧∃ (v'4:V),∃ (vs'3:List V),fr 4 = v'4∧Own B h k [eSl eV v'4 vs'3,ZbE ZM vs'3 out1]) ?_ ?_
 ·clear hp
  have hO'3:=hO'1.nil eV
  have hO'4:=hO'3.allNil ZM 0
  refine zP (fun st fr k=>match st with | (in_,out,v)=>∃ (v'3:V),∃ (vs'2:List V),fr 0 = v_l∧fr 3 = v'2∧fr 4 = v'3∧fr 5 = .n v∧Own B h k [eSl e_bool v'2 in_,eSl eV v'3 vs'2,ZbE ZM vs'2 out]) ho'1 (s:=(List.replicate ((l.length:Int):Int).toNat false,([]:List (List Int)),0)) ⟨V.sn,[],rfl,rfl,rfl,rfl,(hO'4.pick [0,1,2] rfl (by decide))⟩ ?_
  rintro ⟨in_,out,v⟩ q'2 k'3 ⟨v'3,vs'2,q'2_0,q'2_3,q'2_4,q'2_5,hO'5⟩ o'2 hp
  dsimp only [zI.s0] at hp
  refine Zh (Zh (Zk (Zd (.n v) q'2_5 (Zd v_l q'2_0 (Zg (Zau (hO'5.rd0 s_l.rd) rfl) (Zg (zN (a:=v) (b:=(l.length:Int)) rfl rfl) (Zb ?_)))))))
  refine Za ?_
  rcases Zp hp with ⟨b'1,hp⟩ | ⟨b'1,hp⟩
  ·refine zA (t:=(decide (v < (l.length:Int)))) rfl b'1 ?_
   refine zD (Za (Zh (Zaq (Zh (Zh (Zk (Zd v'2 q'2_3 ?_)))))))
   refine Zd (.n v) q'2_5 ?_
   obtain ⟨c'2,hp⟩:=Zj hp
   refine Zg (zf (E:=e_bool) (z:=v) (hO'5.sl 0 rfl) rfl rfl c'2) (Zg (zB (w:=.b (gi in_ v.toNat)) (hO'5.sl 0 rfl) rfl (Zi c'2) rfl) (Zb (Za ?_)))
   rcases Zp hp with ⟨b'2,hp⟩ | ⟨b'2,hp⟩
   ·refine zA (t:=(gi in_ v.toNat)) rfl b'2 ?_
    refine Zbv (zY (ZaD (Za (Zk (Zd (.n v) q'2_5 ?_)))))
    obtain ⟨c'3,hp⟩:=Zj hp
    refine Zg (z6 (a:=v) (b:=1) rfl rfl c'3) (Zd (.n (v + 1)) rfl (Zb ?_))
    cases hp
    exact (Or.inl ⟨(in_,out,v + 1),rfl,rfl,v'3,vs'2,q'2_0,q'2_3,q'2_4,rfl,(hO'5.pick [0,1,2] rfl (by decide))⟩)
   ·refine z7 (t:=(gi in_ v.toNat)) rfl b'2 ?_
    refine zD (Za (Zh (Zk (Zd v_l q'2_0 (Zd (.n v) q'2_5 ?_)))))
    obtain ⟨x,hx'1,hp⟩:=Zq hp
    obtain ⟨u'1,k'4,ca'1,v'5,rfl,hW'1⟩:=zd.ok (h:=k'3)  (hO'5.rd0 s_l.rd) hx'1
    refine Zbd (id:=36) (caps:=[]) rfl (Zu (v:=v_l) rfl (Zu (v:=.n v) rfl zx)) ca'1 ?_
    have hO'6:=hO'5.call hW'1 rfl
    refine Zd v'5 rfl (Zb (Za (Zh (Zk (Zd (.sn) rfl (Zb (Za ?_)))))))
    refine Zh (Zh (Zk (Zd (.n 0) rfl (Zb (Za (Zaq ?_))))))
    obtain ⟨o'3,ho'2,hp⟩:=Zq hp
    refine W.mono (Q:=fun e fr k=>match (generalizing:=false) o'3 with
      | (in_2,p1)=>e = (.exit 2)∧∃ (v'7:V),fr 0 = v_l∧fr 3 = v'2∧fr 4 = v'3∧fr 5 = .n v∧fr 7 = v'7∧Own B h k [eSl e_bool v'2 in_2,eSl eV v'3 vs'2,ZbE ZM vs'2 out,eSl ZM v'7 p1]) ?_ ?_
    ·clear hp
     have hO'8:=hO'6.nil ZM
     refine zP (fun st fr k=>match st with | (in_1,p,w)=>∃ (v'6:V),fr 0 = v_l∧fr 3 = v'2∧fr 4 = v'3∧fr 5 = .n v∧fr 6 = v'5∧fr 7 = v'6∧fr 8 = .n w∧Own B h k [eSl e_bool v'2 in_1,eSl eV v'3 vs'2,ZbE ZM vs'2 out,eSl ZM v'5 x,eSl ZM v'6 p]) ho'2 (s:=(in_,([]:List Int),0)) ⟨V.sn,q'2_0,q'2_3,q'2_4,q'2_5,rfl,rfl,rfl,(hO'8.pick [0,1,2,3,4] rfl (by decide))⟩ ?_
     rintro ⟨in_1,p,w⟩ q'4 k'6 ⟨v'6,q'4_0,q'4_3,q'4_4,q'4_5,q'4_6,q'4_7,q'4_8,hO'9⟩ o'4 hp
     dsimp only [zI.s1] at hp
     refine Zh (Zh (Zk (Zd (.n w) q'4_8 (Zd v_l q'4_0 (Zg (Zau (hO'9.rd0 s_l.rd) rfl) (Zg (zN (a:=w) (b:=(l.length:Int)) rfl rfl) (Zb ?_)))))))
     refine Za ?_
     rcases Zp hp with ⟨b'3,hp⟩ | ⟨b'3,hp⟩
     ·refine zA (t:=(decide (w < (l.length:Int)))) rfl b'3 ?_
      refine zD (Za (Zh (Zaq (Zh (Zk (Zd v'5 q'4_6 (Zd (.n w) q'4_8 ?_)))))))
      obtain ⟨c'4,hp⟩:=Zj hp
      refine Zg (zf (E:=ZM) (z:=w) (hO'9.sl 3 rfl) rfl rfl c'4) (Zg (zB (w:=.n (gi x w.toNat)) (hO'9.sl 3 rfl) rfl (Zi c'4) rfl) (Zg (Zcs (a:=(gi x w.toNat)) (b:=0) rfl rfl) (Zb (Za ?_))))
      rcases Zp hp with ⟨b'4,hp⟩ | ⟨b'4,hp⟩
      ·refine zA (t:=(decide (0≤(gi x w.toNat)))) rfl b'4 ?_
       refine Zh (Zk (Zd v'2 q'4_3 (Zd (.n w) q'4_8 ?_)))
       obtain ⟨c'5,hp⟩:=Zj hp
       refine Zg (zf (E:=e_bool) (z:=w) (hO'9.sl 0 rfl) rfl rfl c'5) (zQ (hO'9.ste (E:=e_bool) (y:=true) (ws:=[.b true]) 0 rfl rfl (Zi c'5) rfl rfl ⟨rfl,Nat.le_of_ble_eq_true rfl,rfl⟩ rfl) ?_)
       rintro _ k'7 ⟨rfl,f'2,m'1,hW⟩
       have hO'10:=hW
       refine Zb (Za (Zk (Zd v'6 q'4_7 (Zd (.n w) q'4_8 (zQ (hO'10.bsl (E:=ZM) (l:=[w]) hO'10.fr (by rw [(zt (v:=.n w) rfl Za2)]; rfl) rfl) ?_)))))
       rintro v'8 k'8 ⟨r'2,f'3,hW⟩
       have hO'11:=hW
       obtain ⟨c'6,hp⟩:=Zj hp
       refine zQ (hO'11.app (E:=ZM) (bytes:=8) 4 hO'11.fr rfl (hO'11.sl 5 rfl) rfl rfl (fun _=>rfl) c'6 (by decide)) ?_
       rintro v'9 k'9 ⟨f'4,hW⟩
       have hO'12:=hW
       refine Zd v'9 rfl (Zb (Zan (Za (Zk (Zd (.n w) q'4_8 ?_)))))
       obtain ⟨c'7,hp⟩:=Zj hp
       refine Zg (z6 (a:=w) (b:=1) rfl rfl c'7) (Zd (.n (w + 1)) rfl (Zb ?_))
       cases hp
       exact (Or.inl ⟨(in_1.set w.toNat true,p++[w],w + 1),rfl,rfl,v'9,q'4_0,q'4_3,q'4_4,q'4_5,q'4_6,rfl,rfl,(hO'12.pick [0,1,2,3,4] rfl (by decide))⟩)
      ·refine z7 (t:=(decide (0≤(gi x w.toNat)))) rfl b'4 ?_
       refine zD (Zan (Za (Zk (Zd (.n w) q'4_8 ?_))))
       obtain ⟨c'8,hp⟩:=Zj hp
       refine Zg (z6 (a:=w) (b:=1) rfl rfl c'8) (Zd (.n (w + 1)) rfl (Zb ?_))
       cases hp
       exact (Or.inl ⟨(in_1,p,w + 1),rfl,rfl,v'6,q'4_0,q'4_3,q'4_4,q'4_5,q'4_6,q'4_7,rfl,(hO'9.pick [0,1,2,3,4] rfl (by decide))⟩)
     ·refine z7 (t:=(decide (w < (l.length:Int)))) rfl b'3 ?_
      refine Zbv (zY ?_)
      cases hp
      refine (Or.inr ⟨(in_1,p),rfl,(fun h=>nomatch h),(fun he=>?_)⟩)
      subst he; exact ⟨rfl,v'6,q'4_0,q'4_3,q'4_4,q'4_5,q'4_7,(hO'9.pick [0,1,2,4] rfl (by decide))⟩
    intro e'2 q'3 k'5 hJ'2
    obtain ⟨in_2,p1⟩:=o'3
    obtain ⟨rfl,v'7,q'3_0,q'3_3,q'3_4,q'3_5,q'3_7,hO'7⟩:=hJ'2
    refine ZaD (Za (Zk (Zd v'3 q'3_4 (Zd v'7 q'3_7 (zQ (hO'7.bsl (E:=eV) (l:=[v'7]) hO'7.fr (by rw [(zt (v:=v'7) rfl Za2)]; simp only [fill,(hO'7.sl 3 rfl).cells]; simp [over]) rfl) ?_)))))
    rintro v'10 k'10 ⟨r'3,f'5,hW⟩
    have hO'13:=hW
    obtain ⟨c'9,hp⟩:=Zj hp
    refine zQ (hO'13.appV (bytes:=24) 1 hO'13.fr rfl (hO'13.sl 4 rfl) rfl rfl (by simp only [List.all_cons,List.all_nil,Bool.and_true]; exact (hO'13.sl 3 rfl).oneV) (by rw [(hO'13.allLen 2 rfl:(vs'2).length = (out).length)]; exact c'9) (by decide)) ?_
    rintro v'11 k'11 ⟨f'6,hW⟩
    have hO'14:=hW
    have hO'15:=hO'14.absorb 2 3 rfl rfl (by decide)
    refine Zd v'11 rfl (Zb (Zan (Za (Zk (Zd (.n v) q'3_5 ?_)))))
    obtain ⟨c'10,hp⟩:=Zj hp
    refine Zg (z6 (a:=v) (b:=1) rfl rfl c'10) (Zd (.n (v + 1)) rfl (Zb ?_))
    cases hp
    exact (Or.inl ⟨(in_2,out++[p1],v + 1),rfl,rfl,v'11,vs'2++[v'7],q'3_0,q'3_3,rfl,rfl,(hO'15.pick [0,1,2] rfl (by decide))⟩)
  ·refine z7 (t:=(decide (v < (l.length:Int)))) rfl b'1 ?_
   refine Zbv (zY ?_)
   cases hp
   refine (Or.inr ⟨out,rfl,(fun h=>nomatch h),(fun he=>?_)⟩)
   subst he; exact ⟨rfl,v'3,vs'2,q'2_4,(hO'5.pick [1,2] rfl (by decide))⟩
 intro e'1 q'1 k'2 hJ'1
 obtain ⟨out1,rfl⟩:∃ x,x = o'1:=⟨_,rfl⟩
 obtain ⟨rfl,v'4,vs'3,q'1_4,hO'2⟩:=hJ'1
 refine ZaD (Za (Zh (Zk (Zd v'4 q'1_4 (Zd v'4 rfl (Zb (Za ?_)))))))
 refine Zad (zu (zG (n:=2) (v:=v'4) rfl ZN) ?_)
 cases hp
 exact ⟨v'4,vs'3,rfl,(hO'2.pick [0,1] rfl (by decide))⟩

theorem Zaj.ok {h:Hp} {l:List Ze} {d:Zz} {v_l:V} (s_l:Sl Zn h v_l l) {r:Zz} (hp:Zaj l d = some r) :
  ∃ u k',Is G 202 [v_l,.ag (Zo.c d)] h u k'∧V.ag (Zo.c r) = u∧Own (fun r=>r < h.n) h k' []:=by
 refine WC.is (ZaM Zdm ?_)
 unfold Zaj at hp
 let B:Nat→Prop:=(fun r=>r < h.n)
 have hO:Own B h h []:=Own.start0 h
 refine Zh (Zk (zQ (hO.boxd (v:=.ag (Zo.c d)) (cs:=Zo.c d) hO.fr rfl rfl) ?_))
 rintro _ k'1 ⟨r'1,rfl,n'1,f'1,hW⟩
 have hO'1:=hW
 refine zQ (hO'1.alloc (cs:=Zo.c (⟨0,0⟩:Zz)) hO'1.fr) ?_
 rintro _ k'2 ⟨r'2,rfl,n'2,f'2,hW⟩
 have hO'2:=hW
 refine Zb (Za (Zh (ZgF ?_)))
 have hW:=hO'2.bump 10
 have hO'3:=hW
 refine ZaE v_l rfl (ze rfl (ZaL (r:=r'1) (o:=0) (o':=0) rfl rfl) (ze rfl (Zac (cs:=(Zo.c d)) (v:=.n d.Cell) (hO'3.box 0 rfl) rfl rfl) (ze rfl (ZaL (r:=r'1) (o:=0) (o':=1) rfl rfl) (ze rfl (Zac (cs:=(Zo.c d)) (v:=.n d.Dir) (hO'3.box 0 rfl) rfl rfl) ?_))))
 obtain ⟨c'1,hp⟩:=Zj hp
 refine ze rfl (zf (E:=Zn) (z:=d.Cell) (hO'3.rd0 s_l.rd) rfl rfl c'1) (ze rfl (Za1 (off':=0) (off2:=0) (hO'3.rd0 s_l.rd) (Zi c'1) rfl rfl) ?_)
 obtain ⟨c'2,hp⟩:=Zj hp
 refine ze rfl (ZbC (off:=0) (off2:=(0 + (d.Dir:Int).toNat * 1)) (z:=d.Dir) (hO'3.rd0 s_l.rd) (Zi c'1) rfl rfl c'2 rfl) (ze rfl (zB (w:=.n (((gi l (d.Cell:Int).toNat).Next).get d.Dir)) (hO'3.rd0 s_l.rd) rfl (Zi c'1) (zO c'2)) (ZaE (.n (((gi l (d.Cell:Int).toNat).Next).get d.Dir)) rfl (Za9 (Za (Zh (Zk (zQ (hO'3.bsl (E:=ZM) (l:=([1,0,3,2]:List Int)) hO'3.fr (by rw [(zt (v:=.n 1) rfl (zt (v:=.n 0) rfl (zt (v:=.n 3) rfl (zt (v:=.n 2) rfl Za2))))]; rfl) rfl) ?_)))))))
 rintro v'1 k'4 ⟨r'3,f'3,hW⟩
 have hO'4:=hW
 refine Zd v'1 rfl (Zb (Za (Zh (Zh (Zk (Zd (.n 0) rfl (Zb ?_)))))))
 refine Za (Zaq ?_)
 obtain ⟨o'1,ho'1,hp⟩:=Zq hp
 refine W.mono (Q:=fun e fr k=>match (generalizing:=false) o'1 with
   | .inl _=>e = (.exit 0)∧fr 3 = .p r'1 0∧fr 4 = .p r'2 0∧Own B h k [ZbF r'1 (Zo.c d),ZbF r'2 (Zo.c (⟨0,0⟩:Zz))]
   | .inr x=>e = .ret∧fr 4 = .p r'2 0∧Own B h k [ZbF r'2 (Zo.c x)]) ?_ ?_
 ·clear hp
  refine zP (fun st fr k=>match st with | i=>fr 0 = v_l∧fr 3 = .p r'1 0∧fr 4 = .p r'2 0∧fr 5 = .n (((gi l (d.Cell:Int).toNat).Next).get d.Dir)∧fr 6 = v'1∧fr 7 = .n i∧Own B h k [ZbF r'1 (Zo.c d),ZbF r'2 (Zo.c (⟨0,0⟩:Zz)),eSl ZM v'1 ([1,0,3,2]:List Int)]) ho'1 (s:=0) ⟨rfl,rfl,rfl,rfl,rfl,rfl,(hO'4.pick [0,1,2] rfl (by decide))⟩ ?_
  rintro i q'2 k'6 ⟨q'2_0,q'2_3,q'2_4,q'2_5,q'2_6,q'2_7,hO'6⟩ o'2 hp
  dsimp only [Zaj.s0] at hp
  refine Zh (Zh (Zk (Zd (.n i) q'2_7 (Zg (zN (a:=i) (b:=4) rfl rfl) (Zb (Za ?_))))))
  rcases Zp hp with ⟨b'1,hp⟩ | ⟨b'1,hp⟩
  ·refine zA (t:=(decide (i < 4))) rfl b'1 ?_
   refine zD (Za (Zh (Zaq (Zh (ZgF ?_)))))
   have hW:=hO'6.bump 9
   have hO'7:=hW
   refine ze rfl (ZaL (r:=r'1) (o:=0) (o':=1) q'2_3 rfl) (ze rfl (Zac (cs:=(Zo.c d)) (v:=.n d.Dir) (hO'7.box 0 rfl) rfl rfl) (ZaE v'1 q'2_6 (ZaE (.n i) q'2_7 ?_)))
   obtain ⟨c'3,hp⟩:=Zj hp
   refine ze rfl (zf (E:=ZM) (z:=i) (hO'7.sl 2 rfl) rfl rfl c'3) (ze rfl (zB (w:=.n (gi ([1,0,3,2]:List Int) i.toNat)) (hO'7.sl 2 rfl) rfl (Zi c'3) rfl) ?_)
   obtain ⟨c'4,hp⟩:=Zj hp
   refine ze rfl (z6 (a:=d.Dir) (b:=(gi ([1,0,3,2]:List Int) i.toNat)) rfl rfl c'4) (ze rfl (ZcU (a:=(d.Dir + (gi ([1,0,3,2]:List Int) i.toNat))) (b:=4) rfl rfl (by decide)) (ZaE (.n ((d.Dir + (gi ([1,0,3,2]:List Int) i.toNat)).tmod 4)) rfl (Za9 (Za (Zh (Zk (Zd v_l q'2_0 ?_)))))))
   refine Zd (.n (((gi l (d.Cell:Int).toNat).Next).get d.Dir)) q'2_5 (Zd (.n ((d.Dir + (gi ([1,0,3,2]:List Int) i.toNat)).tmod 4)) rfl ?_)
   obtain ⟨c'5,hp⟩:=Zj hp
   refine Zg (zf (E:=Zn) (z:=(((gi l (d.Cell:Int).toNat).Next).get d.Dir)) (hO'7.rd0 s_l.rd) rfl rfl c'5) (Zg (Za1 (off':=0) (off2:=0) (hO'7.rd0 s_l.rd) (Zi c'5) rfl rfl) ?_)
   obtain ⟨c'6,hp⟩:=Zj hp
   refine Zg (ZbC (off:=0) (off2:=(0 + ((d.Dir + (gi ([1,0,3,2]:List Int) i.toNat)).tmod 4:Int).toNat * 1)) (z:=((d.Dir + (gi ([1,0,3,2]:List Int) i.toNat)).tmod 4)) (hO'7.rd0 s_l.rd) (Zi c'5) rfl rfl c'6 rfl) (Zg (zB (w:=.n (((gi l (((gi l (d.Cell:Int).toNat).Next).get d.Dir:Int).toNat).Next).get ((d.Dir + (gi ([1,0,3,2]:List Int) i.toNat)).tmod 4))) (hO'7.rd0 s_l.rd) rfl (Zi c'5) (zO c'6)) (Zg (Zcs (a:=(((gi l (((gi l (d.Cell:Int).toNat).Next).get d.Dir:Int).toNat).Next).get ((d.Dir + (gi ([1,0,3,2]:List Int) i.toNat)).tmod 4))) (b:=0) rfl rfl) (Zb (Za ?_))))
   rcases Zp hp with ⟨b'2,hp⟩ | ⟨b'2,hp⟩
   ·refine zA (t:=(decide (0≤(((gi l (((gi l (d.Cell:Int).toNat).Next).get d.Dir:Int).toNat).Next).get ((d.Dir + (gi ([1,0,3,2]:List Int) i.toNat)).tmod 4))))) rfl b'2 ?_
    refine Zh (Zk (Zd (.n (((gi l (d.Cell:Int).toNat).Next).get d.Dir)) q'2_5 (Zd (.n ((d.Dir + (gi ([1,0,3,2]:List Int) i.toNat)).tmod 4)) rfl (Zg (ZbB (cs:=Zo.c (⟨((gi l (d.Cell:Int).toNat).Next).get d.Dir,(d.Dir + (gi ([1,0,3,2]:List Int) i.toNat)).tmod 4⟩:Zz)) (by rw [(zt (v:=.n (((gi l (d.Cell:Int).toNat).Next).get d.Dir)) rfl (zt (v:=.n ((d.Dir + (gi ([1,0,3,2]:List Int) i.toNat)).tmod 4)) rfl Za2))]; rfl)) (zQ (hO'7.stb (ws:=Zo.c (⟨((gi l (d.Cell:Int).toNat).Next).get d.Dir,(d.Dir + (gi ([1,0,3,2]:List Int) i.toNat)).tmod 4⟩:Zz)) (cs':=Zo.c (⟨((gi l (d.Cell:Int).toNat).Next).get d.Dir,(d.Dir + (gi ([1,0,3,2]:List Int) i.toNat)).tmod 4⟩:Zz)) (v:=.ag (Zo.c (⟨((gi l (d.Cell:Int).toNat).Next).get d.Dir,(d.Dir + (gi ([1,0,3,2]:List Int) i.toNat)).tmod 4⟩:Zz))) 1 rfl q'2_4 rfl rfl ⟨rfl,Nat.le_of_ble_eq_true rfl,rfl⟩ rfl) ?_)))))
    rintro _ k'8 ⟨rfl,f'4,m'1,hW⟩
    have hO'8:=hW
    refine Zb (Za (Zad (ZaP (zk ?_))))
    cases hp
    refine (Or.inr ⟨(.inr (⟨((gi l (d.Cell:Int).toNat).Next).get d.Dir,(d.Dir + (gi ([1,0,3,2]:List Int) i.toNat)).tmod 4⟩:Zz)),rfl,(fun h=>nomatch h),(fun he=>?_)⟩)
    subst he; exact ⟨rfl,q'2_4,(hO'8.pick [1] rfl (by decide))⟩
   ·refine z7 (t:=(decide (0≤(((gi l (((gi l (d.Cell:Int).toNat).Next).get d.Dir:Int).toNat).Next).get ((d.Dir + (gi ([1,0,3,2]:List Int) i.toNat)).tmod 4))))) rfl b'2 ?_
    refine zD (Zan (Za (Zk (Zd (.n i) q'2_7 ?_))))
    obtain ⟨c'7,hp⟩:=Zj hp
    refine Zg (z6 (a:=i) (b:=1) rfl rfl c'7) (Zd (.n (i + 1)) rfl (Zb ?_))
    cases hp
    exact (Or.inl ⟨i + 1,rfl,rfl,q'2_0,q'2_3,q'2_4,q'2_5,q'2_6,rfl,(hO'7.pick [0,1,2] rfl (by decide))⟩)
  ·refine z7 (t:=(decide (i < 4))) rfl b'1 ?_
   refine Zbv (zY ?_)
   cases hp
   refine (Or.inr ⟨.inl (),rfl,(fun h=>nomatch h),(fun he=>?_)⟩)
   subst he; exact ⟨rfl,q'2_3,q'2_4,(hO'6.pick [0,1] rfl (by decide))⟩
 intro e'1 q'1 k'5 hJ'1
 rcases o'1 with _ | x
 ·obtain ⟨rfl,q'1_3,q'1_4,hO'5⟩:=hJ'1
  refine ZaD (Za (Zh (Zk (Zg (Zb7 (cs:=(Zo.c d)) (ws:=Zo.c d) (hO'5.box 0 rfl) q'1_3 rfl) (zQ (hO'5.stb (ws:=Zo.c d) (cs':=Zo.c d) (v:=.ag (Zo.c d)) 1 rfl q'1_4 rfl rfl ⟨rfl,Nat.le_of_ble_eq_true rfl,rfl⟩ rfl) ?_)))))
  rintro _ k'9 ⟨rfl,f'5,m'2,hW⟩
  have hO'9:=hW
  refine Zb (Za (Zad (zu (Zg6 (n:=4) (v:=.ag (Zo.c d)) (r:=r'2) q'1_4 (hO'9.box 1 rfl) rfl ZN) ?_)))
  cases hp
  exact ⟨rfl,(hO'9.pick [] rfl (by decide))⟩
 ·obtain ⟨rfl,q'1_4,hO'5⟩:=hJ'1
  refine ZaP (zk (zu (Zg6 (n:=4) (v:=.ag (Zo.c x)) (r:=r'2) q'1_4 (hO'5.box 0 rfl) rfl ZN) ?_))
  cases hp
  exact ⟨rfl,(hO'5.pick [] rfl (by decide))⟩

theorem zh.ok {h:Hp} {l:List Ze} {v_l:V} (s_l:Sl Zn h v_l l) {r:(List (List Zz))} (hp:zh l = some r) :
  ∃ u k',Is G 177 [v_l] h u k'∧∃ (v'1:V),∃ (vs'1:List V),v'1 = u∧Own (fun r=>r < h.n) h k' [eSl eV v'1 vs'1,ZbE Zo vs'1 r]:=by
 refine WC.is (ZaM Zdx ?_)
 unfold zh at hp
 let B:Nat→Prop:=(fun r=>r < h.n)
 have hO:Own B h h []:=Own.start0 h
 refine Zh (Zk (Zd (.sn) rfl (Zb (Za (Zh (Zk (Zd v_l rfl ?_)))))))
 refine Zg (Zau (hO.rd0 s_l.rd) rfl) ?_
 obtain ⟨c'1,hp⟩:=Zj hp
 refine Zg (ZfJ (a:=4) (b:=(l.length:Int)) rfl rfl c'1) ?_
 obtain ⟨c'2,hp⟩:=Zj hp
 refine zQ (hO.mks (E:=e_bool) (y:=false) (bytes:=1) (z:=(4 * (l.length:Int))) hO.fr rfl rfl rfl c'2 (by decide)) ?_
 rintro v'2 k'1 ⟨r'1,f'1,hW⟩
 have hO'1:=hW
 refine Zd v'2 rfl (Zb (Za (Zh (Zk (Zd (.sn) rfl (Zb (Za ?_)))))))
 refine Zh (Zh (Zk (Zd (.n 0) rfl (Zb (Za (Zaq ?_))))))
 obtain ⟨o'1,ho'1,hp⟩:=Zq hp
 refine W.mono (Q:=fun e fr k=>match (generalizing:=false) o'1 with
   | out1=>e = (.exit 0)∧∃ (v'4:V),∃ (vs'3:List V),fr 4 = v'4∧Own B h k [eSl eV v'4 vs'3,ZbE Zo vs'3 out1]) ?_ ?_
 ·clear hp
  have hO'3:=hO'1.nil eV
  have hO'4:=hO'3.allNil Zo 0
  refine zP (fun st fr k=>match st with | (met,out,v)=>∃ (v'3:V),∃ (vs'2:List V),fr 0 = v_l∧fr 3 = v'2∧fr 4 = v'3∧fr 5 = .n v∧Own B h k [eSl e_bool v'2 met,eSl eV v'3 vs'2,ZbE Zo vs'2 out]) ho'1 (s:=(List.replicate (4 * (l.length:Int):Int).toNat false,([]:List (List Zz)),0)) ⟨V.sn,[],rfl,rfl,rfl,rfl,(hO'4.pick [0,1,2] rfl (by decide))⟩ ?_
  rintro ⟨met,out,v⟩ q'2 k'3 ⟨v'3,vs'2,q'2_0,q'2_3,q'2_4,q'2_5,hO'5⟩ o'2 hp
  dsimp only [zh.s0] at hp
  refine Zh (Zh (Zk (Zd (.n v) q'2_5 (Zd v_l q'2_0 (Zg (Zau (hO'5.rd0 s_l.rd) rfl) (Zg (zN (a:=v) (b:=(l.length:Int)) rfl rfl) (Zb ?_)))))))
  refine Za ?_
  rcases Zp hp with ⟨b'1,hp⟩ | ⟨b'1,hp⟩
  ·refine zA (t:=(decide (v < (l.length:Int)))) rfl b'1 ?_
   refine zD (Za (Zh (Zaq (Zh (Zk (Zd (.n 0) rfl (Zb ?_)))))))
   refine Za (Zaq ?_)
   obtain ⟨o'3,ho'2,hp⟩:=Zq hp
   refine W.mono (Q:=fun e fr k=>match (generalizing:=false) o'3 with
     | (met2,out3)=>e = (.exit 2)∧∃ (v'6:V),∃ (vs'5:List V),fr 0 = v_l∧fr 3 = v'2∧fr 4 = v'6∧fr 5 = .n v∧Own B h k [eSl e_bool v'2 met2,eSl eV v'6 vs'5,ZbE Zo vs'5 out3]) ?_ ?_
   ·clear hp
    refine zP (fun st fr k=>match st with | (met1,out2,e_)=>∃ (v'5:V),∃ (vs'4:List V),fr 0 = v_l∧fr 3 = v'2∧fr 4 = v'5∧fr 5 = .n v∧fr 6 = .n e_∧Own B h k [eSl e_bool v'2 met1,eSl eV v'5 vs'4,ZbE Zo vs'4 out2]) ho'2 (s:=(met,out,0)) ⟨v'3,vs'2,q'2_0,q'2_3,q'2_4,q'2_5,rfl,(hO'5.pick [0,1,2] rfl (by decide))⟩ ?_
    rintro ⟨met1,out2,e_⟩ q'4 k'5 ⟨v'5,vs'4,q'4_0,q'4_3,q'4_4,q'4_5,q'4_6,hO'7⟩ o'4 hp
    dsimp only [zh.s1] at hp
    refine Zh (Zh (Zk (Zd (.n e_) q'4_6 (Zg (zN (a:=e_) (b:=4) rfl rfl) (Zb (Za ?_))))))
    rcases Zp hp with ⟨b'2,hp⟩ | ⟨b'2,hp⟩
    ·refine zA (t:=(decide (e_ < 4))) rfl b'2 ?_
     refine zD (Za (Zh (Zaq (Zh (Zh (Zk (Zd v_l q'4_0 ?_)))))))
     refine Zd (.n v) q'4_5 (Zd (.n e_) q'4_6 ?_)
     obtain ⟨c'3,hp⟩:=Zj hp
     refine Zg (zf (E:=Zn) (z:=v) (hO'7.rd0 s_l.rd) rfl rfl c'3) (Zg (Za1 (off':=0) (off2:=0) (hO'7.rd0 s_l.rd) (Zi c'3) rfl rfl) ?_)
     obtain ⟨c'4,hp⟩:=Zj hp
     refine Zg (ZbC (off:=0) (off2:=(0 + e_.toNat * 1)) (z:=e_) (hO'7.rd0 s_l.rd) (Zi c'3) rfl rfl c'4 rfl) (Zg (zB (w:=.n (((gi l v.toNat).Next).get e_)) (hO'7.rd0 s_l.rd) rfl (Zi c'3) (zO c'4)) (Zg (zN (a:=(((gi l v.toNat).Next).get e_)) (b:=0) rfl rfl) (Zd (.b (decide ((((gi l v.toNat).Next).get e_) < 0))) rfl ?_)))
     obtain ⟨t,hv'1,hp⟩:=Zq hp
     refine Za0 8 (fun fr' k'=>k'5 = k'∧fr' 39 = .b t∧fr' 0 = v_l∧fr' 3 = v'2∧fr' 4 = v'5∧fr' 5 = .n v∧fr' 6 = .n e_) ?_ ?_
     ·clear hp; rcases Zp hv'1 with ⟨b'3,hp⟩ | ⟨b'3,hp⟩
      ·skip
       refine Zv rfl b'3 (Zv rfl b'3 (Zv rfl b'3 (Zv rfl b'3 (Zv rfl b'3 (Zv rfl b'3 (Zv rfl b'3 (Zg (zr (t:=(decide ((((gi l v.toNat).Next).get e_) < 0))) (v:=.b t) rfl b'3 (Eq.trans (b:=V.b true) rfl (congrArg V.b (Option.some.inj hp)))) ?_)))))))
       refine Zb ?_
       exact ⟨rfl,rfl,q'4_0,q'4_3,q'4_4,q'4_5,q'4_6⟩
      ·skip
       refine Z8 rfl b'3 (Zd v'2 q'4_3 (Z8 rfl b'3 (Zd (.n v) q'4_5 (Z8 rfl b'3 ?_))))
       obtain ⟨c'5,hp⟩:=Zj hp
       refine Zg (ZfJ (a:=4) (b:=v) rfl rfl c'5) (Z8 rfl b'3 (Zd (.n e_) q'4_6 (Z8 rfl b'3 ?_)))
       obtain ⟨c'6,hp⟩:=Zj hp
       refine Zg (z6 (a:=(4 * v)) (b:=e_) rfl rfl c'6) (Z8 rfl b'3 ?_)
       obtain ⟨c'7,hp⟩:=Zj hp
       refine Zg (zf (E:=e_bool) (z:=((4 * v) + e_)) (hO'7.sl 0 rfl) rfl rfl c'7) (Z8 rfl b'3 (Zg (zB (w:=.b (gi met1 ((4 * v) + e_:Int).toNat)) (hO'7.sl 0 rfl) rfl (Zi c'7) rfl) (Zg (zm (t:=(decide ((((gi l v.toNat).Next).get e_) < 0))) (v:=.b t) rfl b'3 (Eq.trans (b:=V.b (gi met1 ((4 * v) + e_:Int).toNat)) rfl (congrArg V.b (Option.some.inj hp)))) (Zb ?_))))
       exact ⟨rfl,rfl,q'4_0,q'4_3,q'4_4,q'4_5,q'4_6⟩
     rintro frg'1 _ ⟨rfl,g'1_39,g'1_0,g'1_3,g'1_4,g'1_5,g'1_6⟩
     refine Zb (Za ?_)
     rcases Zp hp with ⟨b'4,hp⟩ | ⟨b'4,hp⟩
     ·refine zA (t:=t) g'1_39 b'4 ?_
      refine Zbv (zY (ZaD (Za (Zk (Zd (.n e_) g'1_6 ?_)))))
      obtain ⟨c'8,hp⟩:=Zj hp
      refine Zg (z6 (a:=e_) (b:=1) rfl rfl c'8) (Zd (.n (e_ + 1)) rfl (Zb ?_))
      cases hp
      exact (Or.inl ⟨(met1,out2,e_ + 1),rfl,rfl,v'5,vs'4,g'1_0,g'1_3,g'1_4,g'1_5,rfl,(hO'7.pick [0,1,2] rfl (by decide))⟩)
     ·refine z7 (t:=t) g'1_39 b'4 ?_
      refine zD (Za (Zh (Zk (Zd (.sn) rfl (Zb (Za (Zh ?_)))))))
      refine Zk (Zd (.n v) g'1_5 (Zd (.n e_) g'1_6 (Zg (ZbB (cs:=Zo.c (⟨v,e_⟩:Zz)) (by rw [(zt (v:=.n v) rfl (zt (v:=.n e_) rfl Za2))]; rfl)) (zQ (hO'7.alloc (cs:=Zo.c (⟨0,0⟩:Zz)) hO'7.fr) ?_))))
      rintro _ k'6 ⟨r'2,rfl,n'1,f'2,hW⟩
      have hO'8:=hW
      refine zQ (hO'8.stb (ws:=Zo.c (⟨v,e_⟩:Zz)) (cs':=Zo.c (⟨v,e_⟩:Zz)) (v:=.ag (Zo.c (⟨v,e_⟩:Zz))) 3 rfl rfl rfl rfl ⟨rfl,Nat.le_of_ble_eq_true rfl,rfl⟩ rfl) ?_
      rintro _ k'7 ⟨rfl,f'3,m'1,hW⟩
      have hO'9:=hW
      refine Zb (Za (Zh (Zaq ?_)))
      obtain ⟨o'5,ho'3,hp⟩:=Zq hp
      refine W.mono (Q:=fun e fr k=>match (generalizing:=false) o'5 with
        | (met4,f1)=>e = (.exit 4)∧∃ (v'8:V),fr 0 = v_l∧fr 3 = v'2∧fr 4 = v'5∧fr 5 = .n v∧fr 6 = .n e_∧fr 7 = v'8∧Own B h k [eSl e_bool v'2 met4,eSl eV v'5 vs'4,ZbE Zo vs'4 out2,eSl Zo v'8 f1]) ?_ ?_
      ·clear hp
       have hO'11:=hO'9.nil Zo
       refine zP (fun st fr k=>match st with | (met3,f,d)=>∃ (v'7:V),fr 0 = v_l∧fr 3 = v'2∧fr 4 = v'5∧fr 5 = .n v∧fr 6 = .n e_∧fr 7 = v'7∧fr 8 = .p r'2 0∧Own B h k [eSl e_bool v'2 met3,eSl eV v'5 vs'4,ZbE Zo vs'4 out2,eSl Zo v'7 f,ZbF r'2 (Zo.c d)]) ho'3 (s:=(met1,([]:List Zz),(⟨v,e_⟩:Zz))) ⟨V.sn,g'1_0,g'1_3,g'1_4,g'1_5,g'1_6,rfl,rfl,(hO'11.pick [0,1,2,4,3] rfl (by decide))⟩ ?_
       rintro ⟨met3,f,d⟩ q'6 k'9 ⟨v'7,q'6_0,q'6_3,q'6_4,q'6_5,q'6_6,q'6_7,q'6_8,hO'12⟩ o'6 hp
       dsimp only [zh.s2] at hp
       refine Zh (Zh (Zk (Zd v'2 q'6_3 (Zg (ZaL (r:=r'2) (o:=0) (o':=0) q'6_8 rfl) (Zg (Zac (cs:=(Zo.c d)) (v:=.n d.Cell) (hO'12.box 4 rfl) rfl rfl) ?_)))))
       obtain ⟨c'9,hp⟩:=Zj hp
       refine Zg (ZfJ (a:=4) (b:=d.Cell) rfl rfl c'9) (Zg (ZaL (r:=r'2) (o:=0) (o':=1) q'6_8 rfl) (Zg (Zac (cs:=(Zo.c d)) (v:=.n d.Dir) (hO'12.box 4 rfl) rfl rfl) ?_))
       obtain ⟨c'10,hp⟩:=Zj hp
       refine Zg (z6 (a:=(4 * d.Cell)) (b:=d.Dir) rfl rfl c'10) ?_
       obtain ⟨c'11,hp⟩:=Zj hp
       refine Zg (zf (E:=e_bool) (z:=((4 * d.Cell) + d.Dir)) (hO'12.sl 0 rfl) rfl rfl c'11) (Zg (zB (w:=.b (gi met3 ((4 * d.Cell) + d.Dir:Int).toNat)) (hO'12.sl 0 rfl) rfl (Zi c'11) rfl) (Zg (Zc3 (t:=(gi met3 ((4 * d.Cell) + d.Dir:Int).toNat)) rfl) (Zb (Za ?_))))
       rcases Zp hp with ⟨b'5,hp⟩ | ⟨b'5,hp⟩
       ·refine zA (t:=(!(gi met3 ((4 * d.Cell) + d.Dir:Int).toNat))) rfl b'5 ?_
        refine zD (Za (Zaq (Zh (Zk (Zd v'2 q'6_3 (Zg (ZaL (r:=r'2) (o:=0) (o':=0) q'6_8 rfl) (Zg (Zac (cs:=(Zo.c d)) (v:=.n d.Cell) (hO'12.box 4 rfl) rfl rfl) ?_)))))))
        refine Zg (ZfJ (a:=4) (b:=d.Cell) rfl rfl c'9) (Zg (ZaL (r:=r'2) (o:=0) (o':=1) q'6_8 rfl) (Zg (Zac (cs:=(Zo.c d)) (v:=.n d.Dir) (hO'12.box 4 rfl) rfl rfl) (Zg (z6 (a:=(4 * d.Cell)) (b:=d.Dir) rfl rfl c'10) (Zg (zf (E:=e_bool) (z:=((4 * d.Cell) + d.Dir)) (hO'12.sl 0 rfl) rfl rfl c'11) (zQ (hO'12.ste (E:=e_bool) (y:=true) (ws:=[.b true]) 0 rfl rfl (Zi c'11) rfl rfl ⟨rfl,Nat.le_of_ble_eq_true rfl,rfl⟩ rfl) ?_)))))
        rintro _ k'10 ⟨rfl,f'4,m'2,hW⟩
        have hO'13:=hW
        refine Zb (Za (Zh (Zk (Zd v'7 q'6_7 (Zg (Zb7 (cs:=(Zo.c d)) (ws:=Zo.c d) (hO'13.box 4 rfl) q'6_8 rfl) (zQ (hO'13.bsl (E:=Zo) (l:=[d]) hO'13.fr (by rw [(zt (v:=.ag (Zo.c d)) rfl Za2)]; rfl) rfl) ?_))))))
        rintro v'9 k'11 ⟨r'3,f'5,hW⟩
        have hO'14:=hW
        obtain ⟨c'12,hp⟩:=Zj hp
        refine zQ (hO'14.app (E:=Zo) (bytes:=16) 3 hO'14.fr rfl (hO'14.sl 5 rfl) rfl rfl (fun _=>rfl) c'12 (by decide)) ?_
        rintro v'10 k'12 ⟨f'6,hW⟩
        have hO'15:=hW
        refine Zd v'10 rfl (Zb (Za (Zk (Zd v_l q'6_0 (Zg (Zb7 (cs:=(Zo.c d)) (ws:=Zo.c d) (hO'15.box 4 rfl) q'6_8 rfl) ?_)))))
        obtain ⟨x,hx'1,hp⟩:=Zq hp
        obtain ⟨u'1,k'13,ca'1,rfl,hW'1⟩:=Zaj.ok (h:=k'12)  (hO'15.rd0 s_l.rd) hx'1
        refine Zbd (id:=202) (caps:=[]) rfl (Zu (v:=v_l) rfl (Zu (v:=.ag (Zo.c d)) rfl zx)) ca'1 ?_
        have hO'16:=hO'15.call hW'1 rfl
        refine zQ (hO'16.stb (ws:=Zo.c x) (cs':=Zo.c x) (v:=.ag (Zo.c x)) 4 rfl q'6_8 rfl rfl ⟨rfl,Nat.le_of_ble_eq_true rfl,rfl⟩ rfl) ?_
        rintro _ k'14 ⟨rfl,f'7,m'3,hW⟩
        have hO'17:=hW
        refine Zb (Zan ?_)
        cases hp
        exact (Or.inl ⟨(met3.set ((4 * d.Cell) + d.Dir:Int).toNat true,f++[d],x),rfl,rfl,v'10,q'6_0,q'6_3,q'6_4,q'6_5,q'6_6,rfl,q'6_8,(hO'17.pick [0,1,2,3,4] rfl (by decide))⟩)
       ·refine z7 (t:=(!(gi met3 ((4 * d.Cell) + d.Dir:Int).toNat))) rfl b'5 ?_
        refine Zbv (zY ?_)
        cases hp
        refine (Or.inr ⟨(met3,f),rfl,(fun h=>nomatch h),(fun he=>?_)⟩)
        subst he; exact ⟨rfl,v'7,q'6_0,q'6_3,q'6_4,q'6_5,q'6_6,q'6_7,(hO'12.pick [0,1,2,3] rfl (by decide))⟩
      intro e'3 q'5 k'8 hJ'3
      obtain ⟨met4,f1⟩:=o'5
      obtain ⟨rfl,v'8,q'5_0,q'5_3,q'5_4,q'5_5,q'5_6,q'5_7,hO'10⟩:=hJ'3
      refine ZaD (Za (Zk (Zd v'5 q'5_4 (Zd v'8 q'5_7 (zQ (hO'10.bsl (E:=eV) (l:=[v'8]) hO'10.fr (by rw [(zt (v:=v'8) rfl Za2)]; simp only [fill,(hO'10.sl 3 rfl).cells]; simp [over]) rfl) ?_)))))
      rintro v'11 k'15 ⟨r'4,f'8,hW⟩
      have hO'18:=hW
      obtain ⟨c'13,hp⟩:=Zj hp
      refine zQ (hO'18.appV (bytes:=24) 1 hO'18.fr rfl (hO'18.sl 4 rfl) rfl rfl (by simp only [List.all_cons,List.all_nil,Bool.and_true]; exact (hO'18.sl 3 rfl).oneV) (by rw [(hO'18.allLen 2 rfl:(vs'4).length = (out2).length)]; exact c'13) (by decide)) ?_
      rintro v'12 k'16 ⟨f'9,hW⟩
      have hO'19:=hW
      have hO'20:=hO'19.absorb 2 3 rfl rfl (by decide)
      refine Zd v'12 rfl (Zb (Zan (Za (Zk (Zd (.n e_) q'5_6 ?_)))))
      obtain ⟨c'14,hp⟩:=Zj hp
      refine Zg (z6 (a:=e_) (b:=1) rfl rfl c'14) (Zd (.n (e_ + 1)) rfl (Zb ?_))
      cases hp
      exact (Or.inl ⟨(met4,out2++[f1],e_ + 1),rfl,rfl,v'12,vs'4++[v'8],q'5_0,q'5_3,rfl,q'5_5,rfl,(hO'20.pick [0,1,2] rfl (by decide))⟩)
    ·refine z7 (t:=(decide (e_ < 4))) rfl b'2 ?_
     refine Zbv (zY ?_)
     cases hp
     refine (Or.inr ⟨(met1,out2),rfl,(fun h=>nomatch h),(fun he=>?_)⟩)
     subst he; exact ⟨rfl,v'5,vs'4,q'4_0,q'4_3,q'4_4,q'4_5,(hO'7.pick [0,1,2] rfl (by decide))⟩
   intro e'2 q'3 k'4 hJ'2
   obtain ⟨met2,out3⟩:=o'3
   obtain ⟨rfl,v'6,vs'5,q'3_0,q'3_3,q'3_4,q'3_5,hO'6⟩:=hJ'2
   refine ZaD (Zan (Za (Zk (Zd (.n v) q'3_5 ?_))))
   obtain ⟨c'15,hp⟩:=Zj hp
   refine Zg (z6 (a:=v) (b:=1) rfl rfl c'15) (Zd (.n (v + 1)) rfl (Zb ?_))
   cases hp
   exact (Or.inl ⟨(met2,out3,v + 1),rfl,rfl,v'6,vs'5,q'3_0,q'3_3,q'3_4,rfl,(hO'6.pick [0,1,2] rfl (by decide))⟩)
  ·refine z7 (t:=(decide (v < (l.length:Int)))) rfl b'1 ?_
   refine Zbv (zY ?_)
   cases hp
   refine (Or.inr ⟨out,rfl,(fun h=>nomatch h),(fun he=>?_)⟩)
   subst he; exact ⟨rfl,v'3,vs'2,q'2_4,(hO'5.pick [1,2] rfl (by decide))⟩
 intro e'1 q'1 k'2 hJ'1
 obtain ⟨out1,rfl⟩:∃ x,x = o'1:=⟨_,rfl⟩
 obtain ⟨rfl,v'4,vs'3,q'1_4,hO'2⟩:=hJ'1
 refine ZaD (Za (Zh (Zk (Zd v'4 q'1_4 (Zd v'4 rfl (Zb (Za ?_)))))))
 refine Zad (zu (zG (n:=2) (v:=v'4) rfl ZN) ?_)
 cases hp
 exact ⟨v'4,vs'3,rfl,(hO'2.pick [0,1] rfl (by decide))⟩

theorem Zbn.ok {h:Hp} {d:Int}   {r:Bool} (hp:Zbn d = some r) :
  ∃ u k',Is G 223 [.n d] h u k'∧V.b r = u∧Own (fun r=>r < h.n) h k' []:=by
 refine WC.is (ZaM ZdD ?_)
 unfold Zbn at hp
 let B:Nat→Prop:=(fun r=>r < h.n)
 have hO:Own B h h []:=Own.start0 h
 refine Zh (Zk (Zd (.b false) rfl (Zb (Za (Zh (Zk (Zd (.n d) rfl ?_)))))))
 refine Zg (Zcs (a:=d) (b:=0) rfl rfl) (Zd (.b (decide (0≤d))) rfl ?_)
 refine Za0 3 (fun fr' k'=>h = k'∧fr' 8 = .b ((decide (0≤d)) && (decide (d≤3)))) ?_ ?_
 ·rcases bc (decide (0≤d)) with b'1 | b'1
  ·skip
   refine Z8 rfl b'1 (Zd (.n d) rfl (Z8 rfl b'1 (Zg (ZgG (a:=d) (b:=3) rfl rfl) (Zg (zr (t:=(decide (0≤d))) (v:=.b ((decide (0≤d)) && (decide (d≤3)))) rfl b'1 (Eq.trans (b:=V.b (decide (d≤3))) rfl (Zd7 b'1))) (Zb ?_)))))
   exact ⟨rfl,rfl⟩
  ·skip
   refine Zv rfl b'1 (Zv rfl b'1 (Zg (zm (t:=(decide (0≤d))) (v:=.b ((decide (0≤d)) && (decide (d≤3)))) rfl b'1 (Eq.trans (b:=V.b false) rfl (ZcN b'1))) (Zb ?_)))
   exact ⟨rfl,rfl⟩
 rintro frg'1 _ ⟨rfl,g'1_8⟩
 refine Zd (.b ((decide (0≤d)) && (decide (d≤3)))) g'1_8 (Zb (Za (Zad (zu (zG (n:=2) (v:=.b ((decide (0≤d)) && (decide (d≤3)))) rfl ZN) ?_))))
 cases hp
 exact ⟨rfl,(hO.pick [] rfl (by decide))⟩

theorem ZbO.ok {h:Hp} {d:Int} {times:Int}   {r:Int} (hp:ZbO d times = some r) :
  ∃ u k',Is G 224 [.n d,.n times] h u k'∧V.n r = u∧Own (fun r=>r < h.n) h k' []:=by
 refine WC.is (ZaM ZdE ?_)
 unfold ZbO at hp
 let B:Nat→Prop:=(fun r=>r < h.n)
 have hO:Own B h h []:=Own.start0 h
 refine Zh (Zk (Zd (.n 0) rfl (Zb (Za (Zh (Zk (Zd (.n d) rfl ?_)))))))
 obtain ⟨x,hx'1,hp⟩:=Zq hp
 obtain ⟨u'1,k'1,ca'1,rfl,hW'1⟩:=Zbn.ok (h:=h)   hx'1
 refine Zbd (id:=223) (caps:=[]) rfl (Zu (v:=.n d) rfl zx) ca'1 ?_
 have hO'1:=hO.call hW'1 rfl
 refine Zd (.b x) rfl (Zb (Za (Zh (Zh (Zk (Zd (.b x) rfl (Zg (Zc3 (t:=x) rfl) ?_)))))))
 refine Zb (Za ?_)
 rcases Zp hp with ⟨b'1,hp⟩ | ⟨b'1,hp⟩
 ·refine zA (t:=(!x)) rfl b'1 ?_
  refine Zh (Zk (Zd (.n 0) rfl (Zb (Za (Zad (zk (zu (zG (n:=4) (v:=.n 0) rfl ZN) ?_)))))))
  cases hp
  exact ⟨rfl,(hO'1.pick [] rfl (by decide))⟩
 ·refine z7 (t:=(!x)) rfl b'1 ?_
  refine zD (Za (Zh (Zk (Zd (.n times) rfl (Zg (ZcU (a:=times) (b:=4) rfl rfl (by decide)) (Zd (.n (times.tmod 4)) rfl (Zb ?_)))))))
  refine Za (Zh (Zh (Zk (Zd (.n (times.tmod 4)) rfl (Zg (zN (a:=(times.tmod 4)) (b:=0) rfl rfl) (Zb (Za ?_)))))))
  rcases Zp hp with ⟨b'2,hp⟩ | ⟨b'2,hp⟩
  ·refine zA (t:=(decide ((times.tmod 4) < 0))) rfl b'2 ?_
   refine Zk (Zd (.n (times.tmod 4)) rfl ?_)
   obtain ⟨c'1,hp⟩:=Zj hp
   refine Zg (z6 (a:=(times.tmod 4)) (b:=4) rfl rfl c'1) (Zd (.n ((times.tmod 4) + 4)) rfl (Zb (Za (Zh (Zk (Zd (.n d) rfl (Zd (.n ((times.tmod 4) + 4)) rfl ?_)))))))
   obtain ⟨c'2,hp⟩:=Zj hp
   refine Zg (z6 (a:=d) (b:=((times.tmod 4) + 4)) rfl rfl c'2) (Zg (ZcU (a:=(d + ((times.tmod 4) + 4))) (b:=4) rfl rfl (by decide)) (Zd (.n ((d + ((times.tmod 4) + 4)).tmod 4)) rfl (Zb (Za (Zad (zu (zG (n:=4) (v:=.n ((d + ((times.tmod 4) + 4)).tmod 4)) rfl ZN) ?_))))))
   cases hp
   exact ⟨rfl,(hO'1.pick [] rfl (by decide))⟩
  ·refine z7 (t:=(decide ((times.tmod 4) < 0))) rfl b'2 ?_
   refine zD (Za (Zh (Zk (Zd (.n d) rfl (Zd (.n (times.tmod 4)) rfl ?_)))))
   obtain ⟨c'3,hp⟩:=Zj hp
   refine Zg (z6 (a:=d) (b:=(times.tmod 4)) rfl rfl c'3) (Zg (ZcU (a:=(d + (times.tmod 4))) (b:=4) rfl rfl (by decide)) (Zd (.n ((d + (times.tmod 4)).tmod 4)) rfl (Zb (Za (Zad (zu (zG (n:=4) (v:=.n ((d + (times.tmod 4)).tmod 4)) rfl ZN) ?_))))))
   cases hp
   exact ⟨rfl,(hO'1.pick [] rfl (by decide))⟩

theorem ZbP.ok {h:Hp} {d:Int} {e_:Int}   {r:Int} (hp:ZbP d e_ = some r) :
  ∃ u k',Is G 207 [.n d,.n e_] h u k'∧V.n r = u∧Own (fun r=>r < h.n) h k' []:=by
 refine WC.is (ZaM ZdF ?_)
 unfold ZbP at hp
 let B:Nat→Prop:=(fun r=>r < h.n)
 have hO:Own B h h []:=Own.start0 h
 refine Zh (Zk (Zd (.n 0) rfl (Zb (Za (Zh (Zk (Zd (.n d) rfl ?_)))))))
 obtain ⟨x,hx'1,hp⟩:=Zq hp
 obtain ⟨u'1,k'1,ca'1,rfl,hW'1⟩:=Zbn.ok (h:=h)   hx'1
 refine Zbd (id:=223) (caps:=[]) rfl (Zu (v:=.n d) rfl zx) ca'1 ?_
 have hO'1:=hO.call hW'1 rfl
 refine Zd (.b x) rfl (Zb (Za (Zh (Zk (Zd (.n e_) rfl ?_)))))
 obtain ⟨x1,hx'2,hp⟩:=Zq hp
 obtain ⟨u'2,k'2,ca'2,rfl,hW'2⟩:=Zbn.ok (h:=k'1)   hx'2
 refine Zbd (id:=223) (caps:=[]) rfl (Zu (v:=.n e_) rfl zx) ca'2 ?_
 have hO'2:=hO'1.call hW'2 rfl
 refine Zd (.b x1) rfl (Zb (Za (Zh (Zh (Zk (Zd (.b x) rfl (Zg (Zc3 (t:=x) rfl) ?_)))))))
 refine Zd (.b (!x)) rfl ?_
 refine Za0 3 (fun fr' k'=>k'2 = k'∧fr' 17 = .b ((!x) || (!x1))∧fr' 0 = .n d∧fr' 1 = .n e_) ?_ ?_
 ·rcases bc (!x) with b'1 | b'1
  ·skip
   refine Zv rfl b'1 (Zv rfl b'1 (Zg (zr (t:=(!x)) (v:=.b ((!x) || (!x1))) rfl b'1 (Eq.trans (b:=V.b true) rfl (Zbx b'1))) (Zb ?_)))
   exact ⟨rfl,rfl,rfl,rfl⟩
  ·skip
   refine Z8 rfl b'1 (Zd (.b x1) rfl (Z8 rfl b'1 (Zg (Zc3 (t:=x1) rfl) (Zg (zm (t:=(!x)) (v:=.b ((!x) || (!x1))) rfl b'1 (Eq.trans (b:=V.b (!x1)) rfl (Zca b'1))) (Zb ?_)))))
   exact ⟨rfl,rfl,rfl,rfl⟩
 rintro frg'1 _ ⟨rfl,g'1_17,g'1_0,g'1_1⟩
 refine Zd (.b ((!x) || (!x1))) g'1_17 ?_
 refine Za0 4 (fun fr' k'=>k'2 = k'∧fr' 22 = .b (((!x) || (!x1)) || (decide (d = e_)))∧fr' 0 = .n d∧fr' 1 = .n e_) ?_ ?_
 ·rcases bc ((!x) || (!x1)) with b'2 | b'2
  ·skip
   refine Zv rfl b'2 (Zv rfl b'2 (Zv rfl b'2 (Zg (zr (t:=((!x) || (!x1))) (v:=.b (((!x) || (!x1)) || (decide (d = e_)))) rfl b'2 (Eq.trans (b:=V.b true) rfl (Zbx b'2))) (Zb ?_))))
   exact ⟨rfl,rfl,g'1_0,g'1_1⟩
  ·skip
   refine Z8 rfl b'2 (Zd (.n d) g'1_0 (Z8 rfl b'2 (Zd (.n e_) g'1_1 (Z8 rfl b'2 (Zg (ZbQ (a:=d) (b:=e_) rfl rfl) (Zg (zm (t:=((!x) || (!x1))) (v:=.b (((!x) || (!x1)) || (decide (d = e_)))) rfl b'2 (Eq.trans (b:=V.b (decide (d = e_))) rfl (Zca b'2))) (Zb ?_)))))))
   exact ⟨rfl,rfl,g'1_0,g'1_1⟩
 rintro frg'2 _ ⟨rfl,g'2_22,g'2_0,g'2_1⟩
 refine Zb (Za ?_)
 rcases Zp hp with ⟨b'3,hp⟩ | ⟨b'3,hp⟩
 ·refine zA (t:=(((!x) || (!x1)) || (decide (d = e_)))) g'2_22 b'3 ?_
  refine Zh (Zk (Zd (.n 0) rfl (Zb (Za (Zad (zk (zu (zG (n:=4) (v:=.n 0) rfl ZN) ?_)))))))
  cases hp
  exact ⟨rfl,(hO'2.pick [] rfl (by decide))⟩
 ·refine z7 (t:=(((!x) || (!x1)) || (decide (d = e_)))) g'2_22 b'3 ?_
  refine zD (Za (Zh (Zk (Zd (.n d) g'2_0 ?_))))
  obtain ⟨x2,hx'3,hp⟩:=Zq hp
  obtain ⟨u'3,k'3,ca'3,rfl,hW'3⟩:=ZbO.ok (h:=k'2)   hx'3
  refine Zbd (id:=224) (caps:=[]) rfl (Zu (v:=.n d) rfl (Zu (v:=.n 1) rfl zx)) ca'3 ?_
  have hO'3:=hO'2.call hW'3 rfl
  refine Zd (.n x2) rfl (Zb (Za (Zh (Zh (Zk (Zd (.n x2) rfl (Zd (.n e_) g'2_1 ?_)))))))
  refine Zg (ZbQ (a:=x2) (b:=e_) rfl rfl) (Zb (Za ?_))
  rcases Zp hp with ⟨b'4,hp⟩ | ⟨b'4,hp⟩
  ·refine zA (t:=(decide (x2 = e_))) rfl b'4 ?_
   refine Zh (Zk (Zd (.n 1) rfl (Zb (Za (Zad (zk (zu (zG (n:=4) (v:=.n 1) rfl ZN) ?_)))))))
   cases hp
   exact ⟨rfl,(hO'3.pick [] rfl (by decide))⟩
  ·refine z7 (t:=(decide (x2 = e_))) rfl b'4 ?_
   refine zD (Za (Zh (Zk (Zd (.n d) g'2_0 ?_))))
   obtain ⟨x3,hx'4,hp⟩:=Zq hp
   obtain ⟨u'4,k'4,ca'4,rfl,hW'4⟩:=ZbO.ok (h:=k'3)   hx'4
   refine Zbd (id:=224) (caps:=[]) rfl (Zu (v:=.n d) rfl (Zu (v:=.n 3) rfl zx)) ca'4 ?_
   have hO'4:=hO'3.call hW'4 rfl
   refine Zd (.n x3) rfl (Zb (Za (Zh (Zh (Zk (Zd (.n x3) rfl (Zd (.n e_) g'2_1 ?_)))))))
   refine Zg (ZbQ (a:=x3) (b:=e_) rfl rfl) (Zb (Za ?_))
   rcases Zp hp with ⟨b'5,hp⟩ | ⟨b'5,hp⟩
   ·refine zA (t:=(decide (x3 = e_))) rfl b'5 ?_
    refine Zh (Zk (Zd (.n (-1)) rfl (Zb (Za (Zad (zk (zu (zG (n:=4) (v:=.n (-1)) rfl ZN) ?_)))))))
    cases hp
    exact ⟨rfl,(hO'4.pick [] rfl (by decide))⟩
   ·refine z7 (t:=(decide (x3 = e_))) rfl b'5 ?_
    refine zD (Za (Zh (Zk (Zd (.n (-2)) rfl (Zb (Za (Zad ?_)))))))
    refine zu (zG (n:=4) (v:=.n (-2)) rfl ZN) ?_
    cases hp
    exact ⟨rfl,(hO'4.pick [] rfl (by decide))⟩

theorem ZaH.ok {h:Hp} {l:List Ze} {f:List Zz} {v_l:V} {v_f:V} (s_l:Sl Zn h v_l l) (s_f:Sl Zo h v_f f) {r:(List Int)} (hp:ZaH l f = some r) :
  ∃ u k',Is G 182 [v_l,v_f] h u k'∧∃ (v'1:V),v'1 = u∧Own (fun r=>r < h.n) h k' [eSl ZM v'1 r]:=by
 refine WC.is (ZaM Zdy ?_)
 unfold ZaH at hp
 let B:Nat→Prop:=(fun r=>r < h.n)
 have hO:Own B h h []:=Own.start0 h
 refine Zh (Zk (Zd (.sn) rfl (Zb (Za (Zh (Zk (Zd (.sn) rfl ?_)))))))
 refine Zb (Za (Zh (Zh (Zk (Zd (.n 0) rfl (Zb (Za ?_)))))))
 refine Zaq ?_
 obtain ⟨o'1,ho'1,hp⟩:=Zq hp
 refine W.mono (Q:=fun e fr k=>match (generalizing:=false) o'1 with
   | out1=>e = (.exit 0)∧∃ (v'3:V),fr 5 = v'3∧Own B h k [eSl ZM v'3 out1]) ?_ ?_
 ·clear hp
  have hO'2:=hO.nil ZM
  refine zP (fun st fr k=>match st with | (out,i)=>∃ (v'2:V),fr 0 = v_l∧fr 1 = v_f∧fr 5 = v'2∧fr 6 = .n i∧Own B h k [eSl ZM v'2 out]) ho'1 (s:=(([]:List Int),0)) ⟨V.sn,rfl,rfl,rfl,rfl,(hO'2.pick [0] rfl (by decide))⟩ ?_
  rintro ⟨out,i⟩ q'2 k'2 ⟨v'2,q'2_0,q'2_1,q'2_5,q'2_6,hO'3⟩ o'2 hp
  dsimp only [ZaH.s0] at hp
  refine Zh (Zh (Zk (Zd (.n i) q'2_6 (Zd v_f q'2_1 (Zg (Zau (hO'3.rd0 s_f.rd) rfl) (Zg (zN (a:=i) (b:=(f.length:Int)) rfl rfl) (Zb ?_)))))))
  refine Za ?_
  rcases Zp hp with ⟨b'1,hp⟩ | ⟨b'1,hp⟩
  ·refine zA (t:=(decide (i < (f.length:Int)))) rfl b'1 ?_
   refine zD (Za (Zh (Zaq (Zh (Zk (Zd v_l q'2_0 (Zd v_f q'2_1 ?_)))))))
   refine Zd (.n i) q'2_6 ?_
   obtain ⟨c'1,hp⟩:=Zj hp
   refine Zg (zf (E:=Zo) (z:=i) (hO'3.rd0 s_f.rd) rfl rfl c'1) (Zg (Zd5 (E:=Zo) (hO'3.rd0 s_f.rd) rfl (Zi c'1)) ?_)
   obtain ⟨x,hx'1,hp⟩:=Zq hp
   obtain ⟨u'1,k'3,ca'1,rfl,hW'1⟩:=Zaj.ok (h:=k'2)  (hO'3.rd0 s_l.rd) hx'1
   refine Zbd (id:=202) (caps:=[]) rfl (Zu (v:=v_l) rfl (Zu (v:=.ag (Zo.c (gi f i.toNat))) rfl zx)) ca'1 ?_
   have hO'4:=hO'3.call hW'1 rfl
   refine zQ (hO'4.alloc (cs:=Zo.c (⟨0,0⟩:Zz)) hO'4.fr) ?_
   rintro _ k'4 ⟨r'1,rfl,n'1,f'1,hW⟩
   have hO'5:=hW
   refine zQ (hO'5.stb (ws:=Zo.c x) (cs':=Zo.c x) (v:=.ag (Zo.c x)) 1 rfl rfl rfl rfl ⟨rfl,Nat.le_of_ble_eq_true rfl,rfl⟩ rfl) ?_
   rintro _ k'5 ⟨rfl,f'2,m'1,hW⟩
   have hO'6:=hW
   refine Zb (Za (Zh (Zfi ?_)))
   have hW:=hO'6.bump 9
   have fr'1:=Fresh.start k'5 9
   have nb'1:∀ {i:Nat},h.n≤k'5.n + i:=Nat.le_trans hO'6.n (Nat.le_add_right _ _)
   have hO'7:=hW
   refine ZaS v_f q'2_1 (ZaS (.n i) q'2_6 (z9 (zf (E:=Zo) (z:=i) (hO'7.rd0 s_f.rd) rfl rfl c'1) (z9 (Za1 (off':=0) (off2:=1) (hO'7.rd0 s_f.rd) (Zi c'1) rfl rfl) (z9 (zB (w:=.n ((gi f i.toNat).Dir)) (hO'7.rd0 s_f.rd) rfl (Zi c'1) rfl) (z9 (ZaL (r:=r'1) (o:=0) (o':=1) rfl rfl) (z9 (Zac (cs:=(Zo.c x)) (v:=.n x.Dir) (hO'7.box 1 rfl) rfl rfl) ?_))))))
   obtain ⟨x1,hx'2,hp⟩:=Zq hp
   obtain ⟨u'2,k'7,ca'2,rfl,hW'2⟩:=ZbP.ok (h:=(k'5.bump 9))   hx'2
   refine Zgf (id:=207) (caps:=[]) rfl (Zu (v:=.n ((gi f i.toNat).Dir)) rfl (Zu (v:=.n x.Dir) rfl zx)) ca'2 ?_
   have fr'2:=fr'1.call hW'2
   have hO'8:=hO'7.call hW'2 rfl
   refine ZaS (.n x1) rfl (Zcu ?_)
   refine And.intro ?_ ?_
   ·intro q hq
    simp only [List.mem_cons,List.not_mem_nil,or_false] at hq
    rcases hq with rfl
    ·refine ZaF ?_ ?_
     ·exact (fun h=>nomatch h)
     ·exact (fun h=>nomatch h)
   refine Za (Zk (Zd v'2 q'2_5 (Zd (.n x1) rfl (zQ (hO'8.bsl (E:=ZM) (l:=[x1]) hO'8.fr (by rw [(zt (v:=.n x1) rfl Za2)]; rfl) rfl) ?_))))
   rintro v'4 k'8 ⟨r'2,f'3,hW⟩
   have hO'9:=hW
   obtain ⟨c'2,hp⟩:=Zj hp
   refine zQ (hO'9.app (E:=ZM) (bytes:=8) 0 hO'9.fr rfl (hO'9.sl 2 rfl) rfl rfl (fun _=>rfl) c'2 (by decide)) ?_
   rintro v'5 k'9 ⟨f'4,hW⟩
   have hO'10:=hW
   refine Zd v'5 rfl (Zb (Zan (Za (Zk (Zd (.n i) q'2_6 ?_)))))
   obtain ⟨c'3,hp⟩:=Zj hp
   refine Zg (z6 (a:=i) (b:=1) rfl rfl c'3) (Zd (.n (i + 1)) rfl (Zb ?_))
   cases hp
   exact (Or.inl ⟨(out++[x1],i + 1),rfl,rfl,v'5,q'2_0,q'2_1,rfl,rfl,(hO'10.pick [0] rfl (by decide))⟩)
  ·refine z7 (t:=(decide (i < (f.length:Int)))) rfl b'1 ?_
   refine Zbv (zY ?_)
   cases hp
   refine (Or.inr ⟨out,rfl,(fun h=>nomatch h),(fun he=>?_)⟩)
   subst he; exact ⟨rfl,v'2,q'2_5,(hO'3.pick [0] rfl (by decide))⟩
 intro e'1 q'1 k'1 hJ'1
 obtain ⟨out1,rfl⟩:∃ x,x = o'1:=⟨_,rfl⟩
 obtain ⟨rfl,v'3,q'1_5,hO'1⟩:=hJ'1
 refine ZaD (Za (Zh (Zk (Zd v'3 q'1_5 (Zd v'3 rfl (Zb (Za ?_)))))))
 refine Zad (zu (zG (n:=4) (v:=v'3) rfl ZN) ?_)
 cases hp
 exact ⟨v'3,rfl,(hO'1.pick [0] rfl (by decide))⟩

theorem Zas.ok {h:Hp} {t:List Int} {v_t:V} (s_t:Sl ZM h v_t t) {r:Int} (hp:Zas t = some r) :
  ∃ u k',Is G 206 [v_t] h u k'∧V.n r = u∧Own (fun r=>r < h.n) h k' []:=by
 refine WC.is (ZaM ZcR ?_)
 unfold Zas at hp
 let B:Nat→Prop:=(fun r=>r < h.n)
 have hO:Own B h h []:=Own.start0 h
 refine Zh (Zk (Zd (.n 0) rfl (Zb (Za (Zh (Zk (Zd (.n 0) rfl ?_)))))))
 refine Zb (Za (Zh (Zh (Zk (Zd (.n 0) rfl (Zb (Za ?_)))))))
 refine Zaq ?_
 obtain ⟨o'1,ho'1,hp⟩:=Zq hp
 refine W.mono (Q:=fun e fr k=>match (generalizing:=false) o'1 with
   | n1=>e = (.exit 0)∧fr 3 = .n n1∧Own B h k []) ?_ ?_
 ·clear hp
  refine zP (fun st fr k=>match st with | (n,i)=>fr 0 = v_t∧fr 3 = .n n∧fr 4 = .n i∧Own B h k []) ho'1 (s:=(0,0)) ⟨rfl,rfl,rfl,(hO.pick [] rfl (by decide))⟩ ?_
  rintro ⟨n,i⟩ q'2 k'2 ⟨q'2_0,q'2_3,q'2_4,hO'2⟩ o'2 hp
  dsimp only [Zas.s0] at hp
  refine Zh (Zh (Zk (Zd (.n i) q'2_4 (Zd v_t q'2_0 (Zg (Zau (hO'2.rd0 s_t.rd) rfl) (Zg (zN (a:=i) (b:=(t.length:Int)) rfl rfl) (Zb ?_)))))))
  refine Za ?_
  rcases Zp hp with ⟨b'1,hp⟩ | ⟨b'1,hp⟩
  ·refine zA (t:=(decide (i < (t.length:Int)))) rfl b'1 ?_
   refine zD (Za (Zh (Zaq (Zh (Zk (Zd v_t q'2_0 (Zd (.n i) q'2_4 ?_)))))))
   obtain ⟨c'1,hp⟩:=Zj hp
   refine Zg (zf (E:=ZM) (z:=i) (hO'2.rd0 s_t.rd) rfl rfl c'1) (Zg (zB (w:=.n (gi t i.toNat)) (hO'2.rd0 s_t.rd) rfl (Zi c'1) rfl) (Zg (Zcs (a:=(gi t i.toNat)) (b:=(-2)) rfl rfl) (Zd (.b (decide ((-2)≤(gi t i.toNat)))) rfl ?_)))
   refine Za0 6 (fun fr' k'=>k'2 = k'∧fr' 22 = .b ((decide ((-2)≤(gi t i.toNat))) && (decide ((gi t i.toNat)≤1)))∧fr' 0 = v_t∧fr' 3 = .n n∧fr' 4 = .n i) ?_ ?_
   ·rcases bc (decide ((-2)≤(gi t i.toNat))) with b'2 | b'2
    ·skip
     refine Z8 rfl b'2 (Zd v_t q'2_0 (Z8 rfl b'2 (Zd (.n i) q'2_4 (Z8 rfl b'2 (Zg (zf (E:=ZM) (z:=i) (hO'2.rd0 s_t.rd) rfl rfl c'1) (Z8 rfl b'2 (Zg (zB (w:=.n (gi t i.toNat)) (hO'2.rd0 s_t.rd) rfl (Zi c'1) rfl) ?_)))))))
     refine Z8 rfl b'2 (Zg (ZgG (a:=(gi t i.toNat)) (b:=1) rfl rfl) (Zg (zr (t:=(decide ((-2)≤(gi t i.toNat)))) (v:=.b ((decide ((-2)≤(gi t i.toNat))) && (decide ((gi t i.toNat)≤1)))) rfl b'2 (Eq.trans (b:=V.b (decide ((gi t i.toNat)≤1))) rfl (Zd7 b'2))) (Zb ?_)))
     exact ⟨rfl,rfl,q'2_0,q'2_3,q'2_4⟩
    ·skip
     refine Zv rfl b'2 (Zv rfl b'2 (Zv rfl b'2 (Zv rfl b'2 (Zv rfl b'2 (Zg (zm (t:=(decide ((-2)≤(gi t i.toNat)))) (v:=.b ((decide ((-2)≤(gi t i.toNat))) && (decide ((gi t i.toNat)≤1)))) rfl b'2 (Eq.trans (b:=V.b false) rfl (ZcN b'2))) (Zb ?_))))))
     exact ⟨rfl,rfl,q'2_0,q'2_3,q'2_4⟩
   rintro frg'1 _ ⟨rfl,g'1_22,g'1_0,g'1_3,g'1_4⟩
   refine Zb (Za ?_)
   rcases Zp hp with ⟨b'3,hp⟩ | ⟨b'3,hp⟩
   ·refine zA (t:=((decide ((-2)≤(gi t i.toNat))) && (decide ((gi t i.toNat)≤1)))) g'1_22 b'3 ?_
    refine Zk (Zd (.n n) g'1_3 (Zd v_t g'1_0 (Zd (.n i) g'1_4 (Zg (zf (E:=ZM) (z:=i) (hO'2.rd0 s_t.rd) rfl rfl c'1) (Zg (zB (w:=.n (gi t i.toNat)) (hO'2.rd0 s_t.rd) rfl (Zi c'1) rfl) ?_)))))
    obtain ⟨c'2,hp⟩:=Zj hp
    refine Zg (z6 (a:=n) (b:=(gi t i.toNat)) rfl rfl c'2) (Zd (.n (n + (gi t i.toNat))) rfl (Zb (Zan (Za (Zk (Zd (.n i) g'1_4 ?_))))))
    obtain ⟨c'3,hp⟩:=Zj hp
    refine Zg (z6 (a:=i) (b:=1) rfl rfl c'3) (Zd (.n (i + 1)) rfl (Zb ?_))
    cases hp
    exact (Or.inl ⟨(n + (gi t i.toNat),i + 1),rfl,rfl,g'1_0,rfl,rfl,(hO'2.pick [] rfl (by decide))⟩)
   ·refine z7 (t:=((decide ((-2)≤(gi t i.toNat))) && (decide ((gi t i.toNat)≤1)))) g'1_22 b'3 ?_
    refine zD (Zan (Za (Zk (Zd (.n i) g'1_4 ?_))))
    obtain ⟨c'4,hp⟩:=Zj hp
    refine Zg (z6 (a:=i) (b:=1) rfl rfl c'4) (Zd (.n (i + 1)) rfl (Zb ?_))
    cases hp
    exact (Or.inl ⟨(n,i + 1),rfl,rfl,g'1_0,g'1_3,rfl,(hO'2.pick [] rfl (by decide))⟩)
  ·refine z7 (t:=(decide (i < (t.length:Int)))) rfl b'1 ?_
   refine Zbv (zY ?_)
   cases hp
   refine (Or.inr ⟨n,rfl,(fun h=>nomatch h),(fun he=>?_)⟩)
   subst he; exact ⟨rfl,q'2_3,(hO'2.pick [] rfl (by decide))⟩
 intro e'1 q'1 k'1 hJ'1
 obtain ⟨n1,rfl⟩:∃ x,x = o'1:=⟨_,rfl⟩
 obtain ⟨rfl,q'1_3,hO'1⟩:=hJ'1
 refine ZaD (Za (Zh (Zk (Zd (.n n1) q'1_3 (Zd (.n n1) rfl (Zb (Za ?_)))))))
 refine Zad (zu (zG (n:=2) (v:=.n n1) rfl ZN) ?_)
 cases hp
 exact ⟨rfl,(hO'1.pick [] rfl (by decide))⟩

theorem Za7.ok {h:Hp} {l:List Ze} {v_l:V} (s_l:Sl Zn h v_l l) {r:Int × Int} (hp:Za7 l = some r) :
  ∃ u k',Is G 181 [v_l] h u k'∧V.tu [.n r.1,.n r.2] = u∧Own (fun r=>r < h.n) h k' []:=by
 refine WC.is (ZaM Zd0 ?_)
 unfold Za7 at hp
 let B:Nat→Prop:=(fun r=>r < h.n)
 have hO:Own B h h []:=Own.start0 h
 refine Zh (Zk (Zd (.n 0) rfl (Zd (.n 0) rfl (Zb (Za (Zh (Zk ?_)))))))
 refine Zd v_l rfl ?_
 obtain ⟨x,hx'1,hp⟩:=Zq hp
 obtain ⟨u'1,k'1,ca'1,rfl,hW'1⟩:=z5.ok (h:=h)  (hO.rd0 s_l.rd) hx'1
 refine Zbd (id:=34) (caps:=[]) rfl (Zu (v:=v_l) rfl zx) ca'1 ?_
 have hO'1:=hO.call hW'1 rfl
 refine Zd (.n x) rfl (Zb (Za (Zh (Zh (Zk (Zd (.n x) rfl (Zg (Zck (a:=x) (b:=0) rfl rfl) ?_)))))))
 refine Zb (Za ?_)
 rcases Zp hp with ⟨b'1,hp⟩ | ⟨b'1,hp⟩
 ·refine zA (t:=(!(decide (x = 0)))) rfl b'1 ?_
  refine Zh (Zk (Zd (.n x) rfl (Zd (.n (-1)) rfl (Zd (.n x) rfl (Zb (Za (Zad ?_)))))))
  refine zk (zu (zG (n:=2) (v:=.n (-1)) rfl (zG (n:=3) (v:=.n x) rfl ZN)) ?_)
  cases hp
  exact ⟨rfl,(hO'1.pick [] rfl (by decide))⟩
 ·refine z7 (t:=(!(decide (x = 0)))) rfl b'1 ?_
  refine zD (Za (Zh (Zk (Zd v_l rfl ?_))))
  obtain ⟨x1,hx'2,hp⟩:=Zq hp
  obtain ⟨u'2,k'2,ca'2,v'1,vs'1,rfl,hW'2⟩:=zI.ok (h:=k'1)  (hO'1.rd0 s_l.rd) hx'2
  refine Zbd (id:=30) (caps:=[]) rfl (Zu (v:=v_l) rfl zx) ca'2 ?_
  have hO'2:=hO'1.call hW'2 rfl
  refine Zd v'1 rfl (Zb (Za (Zh (Zh (Zk (Zd v'1 rfl (Zg (Zej (n:=(x1).length) (hO'2.sl 0 rfl) (hO'2.allLen 1 rfl:(vs'1).length = (x1).length) rfl) ?_)))))))
  refine Zg (Zck (a:=(x1.length:Int)) (b:=1) rfl rfl) (Zb (Za ?_))
  rcases Zp hp with ⟨b'2,hp⟩ | ⟨b'2,hp⟩
  ·refine zA (t:=(!(decide ((x1.length:Int) = 1)))) rfl b'2 ?_
   refine Zh (Zk (Zd (.n (-1)) rfl (Zd (.n 13) rfl (Zb (Za (Zad (zk ?_)))))))
   refine zu (zG (n:=2) (v:=.n (-1)) rfl (zG (n:=3) (v:=.n 13) rfl ZN)) ?_
   cases hp
   exact ⟨rfl,(hO'2.pick [] rfl (by decide))⟩
  ·refine z7 (t:=(!(decide ((x1.length:Int) = 1)))) rfl b'2 ?_
   refine zD (Za (Zh (Zh (Zk (Zd v_l rfl (Zg (Zau (hO'2.rd0 s_l.rd) rfl) (Zg (ZbQ (a:=(l.length:Int)) (b:=1) rfl rfl) ?_)))))))
   refine Zb (Za ?_)
   rcases Zp hp with ⟨b'3,hp⟩ | ⟨b'3,hp⟩
   ·refine zA (t:=(decide ((l.length:Int) = 1))) rfl b'3 ?_
    refine Zh (Zk (Zd (.n (-1)) rfl (Zd (.n 0) rfl (Zb (Za (Zad (zk ?_)))))))
    refine zu (zG (n:=2) (v:=.n (-1)) rfl (zG (n:=3) (v:=.n 0) rfl ZN)) ?_
    cases hp
    exact ⟨rfl,(hO'2.pick [] rfl (by decide))⟩
   ·refine z7 (t:=(decide ((l.length:Int) = 1))) rfl b'3 ?_
    refine zD (Za (Zh (Zk (Zd v_l rfl ?_))))
    obtain ⟨x2,hx'3,hp⟩:=Zq hp
    obtain ⟨u'3,k'3,ca'3,v'2,vs'2,rfl,hW'3⟩:=zh.ok (h:=k'2)  (hO'2.rd0 s_l.rd) hx'3
    refine Zbd (id:=177) (caps:=[]) rfl (Zu (v:=v_l) rfl zx) ca'3 ?_
    have hO'3:=hO'2.call hW'3 rfl
    refine Zd v'2 rfl (Zb (Za (Zh (Zk (Zd (.n (-1)) rfl (Zb (Za ?_)))))))
    refine Zh (Zh (Zk (Zd (.n 0) rfl (Zb (Za (Zaq ?_))))))
    obtain ⟨o'1,ho'1,hp⟩:=Zq hp
    refine W.mono (Q:=fun e fr k=>match (generalizing:=false) o'1 with
      | .inl at_1=>e = (.exit 0)∧fr 7 = .n at_1∧Own B h k []
      | .inr _=>e = .ret∧fr 2 = .n (-1)∧fr 3 = .n 10∧Own B h k []) ?_ ?_
    ·clear hp
     refine zP (fun st fr k=>match st with | (at_,i)=>fr 0 = v_l∧fr 6 = v'2∧fr 7 = .n at_∧fr 8 = .n i∧Own B h k [eSl eV v'2 vs'2,ZbE Zo vs'2 x2]) ho'1 (s:=((-1),0)) ⟨rfl,rfl,rfl,rfl,(hO'3.pick [2,3] rfl (by decide))⟩ ?_
     rintro ⟨at_,i⟩ q'2 k'5 ⟨q'2_0,q'2_6,q'2_7,q'2_8,hO'5⟩ o'2 hp
     dsimp only [Za7.s0] at hp
     refine Zh (Zh (Zk (Zd (.n i) q'2_8 (Zd v'2 q'2_6 (Zg (Zej (n:=(x2).length) (hO'5.sl 0 rfl) (hO'5.allLen 1 rfl:(vs'2).length = (x2).length) rfl) (Zg (zN (a:=i) (b:=(x2.length:Int)) rfl rfl) (Zb ?_)))))))
     refine Za ?_
     rcases Zp hp with ⟨b'4,hp⟩ | ⟨b'4,hp⟩
     ·refine zA (t:=(decide (i < (x2.length:Int)))) rfl b'4 ?_
      refine zD (Za (Zh (Zaq (Zh (Zk (Zd v_l q'2_0 (Zd v'2 q'2_6 ?_)))))))
      refine Zd (.n i) q'2_8 ?_
      obtain ⟨c'1,hp⟩:=Zj hp
      refine Zg (zf (E:=eV) (z:=i) (hO'5.sl 0 rfl) rfl rfl (by rw [(hO'5.allLen 1 rfl:(vs'2).length = (x2).length)]; exact c'1)) (Zg (zB (w:=(gi vs'2 i.toNat)) (hO'5.sl 0 rfl) rfl (by rw [(hO'5.allLen 1 rfl:(vs'2).length = (x2).length)]; exact Zi c'1) rfl) ?_)
      obtain ⟨x3,hx'4,hp⟩:=Zq hp
      obtain ⟨u'4,k'6,ca'4,v'3,rfl,hW'4⟩:=ZaH.ok (h:=k'5)  (hO'5.rd0 s_l.rd) (hO'5.inn 1 rfl (Zi c'1):Sl Zo k'5 (gi vs'2 i.toNat) (gi x2 i.toNat)) hx'4
      refine Zbd (id:=182) (caps:=[]) rfl (Zu (v:=v_l) rfl (Zu (v:=(gi vs'2 i.toNat)) rfl zx)) ca'4 ?_
      have hO'6:=hO'5.call hW'4 rfl
      refine Zd v'3 rfl (Zb (Za (Zh (Zk (Zd v'3 rfl ?_)))))
      obtain ⟨x4,hx'5,hp⟩:=Zq hp
      obtain ⟨u'5,k'7,ca'5,rfl,hW'5⟩:=Zas.ok (h:=k'6)  (hO'6.sl 2 rfl) hx'5
      refine Zbd (id:=206) (caps:=[]) rfl (Zu (v:=v'3) rfl zx) ca'5 ?_
      have hO'7:=hO'6.call hW'5 rfl
      refine Zd (.n x4) rfl (Zb (Za (Zh (Zh (Zk (Zd (.n x4) rfl (Zg (Zck (a:=x4) (b:=4) rfl rfl) ?_)))))))
      refine Zd (.b (!(decide (x4 = 4)))) rfl ?_
      refine Za0 3 (fun fr' k'=>k'7 = k'∧fr' 45 = .b ((!(decide (x4 = 4))) && (!(decide (x4 = (-4)))))∧fr' 0 = v_l∧fr' 10 = .n x4∧fr' 6 = v'2∧fr' 7 = .n at_∧fr' 8 = .n i) ?_ ?_
      ·rcases bc (!(decide (x4 = 4))) with b'5 | b'5
       ·skip
        refine Z8 rfl b'5 (Zd (.n x4) rfl (Z8 rfl b'5 (Zg (Zck (a:=x4) (b:=(-4)) rfl rfl) (Zg (zr (t:=(!(decide (x4 = 4)))) (v:=.b ((!(decide (x4 = 4))) && (!(decide (x4 = (-4)))))) rfl b'5 (Eq.trans (b:=V.b (!(decide (x4 = (-4))))) rfl (Zd7 b'5))) (Zb ?_)))))
        exact ⟨rfl,rfl,q'2_0,rfl,q'2_6,q'2_7,q'2_8⟩
       ·skip
        refine Zv rfl b'5 (Zv rfl b'5 (Zg (zm (t:=(!(decide (x4 = 4)))) (v:=.b ((!(decide (x4 = 4))) && (!(decide (x4 = (-4)))))) rfl b'5 (Eq.trans (b:=V.b false) rfl (ZcN b'5))) (Zb ?_)))
        exact ⟨rfl,rfl,q'2_0,rfl,q'2_6,q'2_7,q'2_8⟩
      rintro frg'1 _ ⟨rfl,g'1_45,g'1_0,g'1_10,g'1_6,g'1_7,g'1_8⟩
      refine Zd (.b ((!(decide (x4 = 4))) && (!(decide (x4 = (-4)))))) g'1_45 ?_
      refine Za0 7 (fun fr' k'=>k'7 = k'∧fr' 53 = .b (((!(decide (x4 = 4))) && (!(decide (x4 = (-4))))) || ((decide (x4 = (-4))) && (decide (0≤at_))))∧fr' 0 = v_l∧fr' 10 = .n x4∧fr' 6 = v'2∧fr' 7 = .n at_∧fr' 8 = .n i) ?_ ?_
      ·rcases bc ((!(decide (x4 = 4))) && (!(decide (x4 = (-4))))) with b'6 | b'6
       ·skip
        refine Zv rfl b'6 (Zv rfl b'6 (Zv rfl b'6 (Zlp rfl (Zlp rfl (Zv rfl b'6 (Zg (zr (t:=((!(decide (x4 = 4))) && (!(decide (x4 = (-4)))))) (v:=.b (((!(decide (x4 = 4))) && (!(decide (x4 = (-4))))) || ((decide (x4 = (-4))) && (decide (0≤at_))))) rfl b'6 (Eq.trans (b:=V.b true) rfl (Zbx b'6))) (Zb ?_)))))))
        exact ⟨rfl,rfl,g'1_0,g'1_10,g'1_6,g'1_7,g'1_8⟩
       ·skip
        refine Z8 rfl b'6 (Zd (.n x4) g'1_10 (Z8 rfl b'6 (Zg (ZbQ (a:=x4) (b:=(-4)) rfl rfl) (Z8 rfl b'6 (Zd (.b (decide (x4 = (-4)))) rfl ?_)))))
        refine Za0 3 (fun fr' k'=>k'7 = k'∧fr' 52 = .b ((decide (x4 = (-4))) && (decide (0≤at_)))∧fr' 0 = v_l∧fr' 10 = .n x4∧fr' 46 = .b ((!(decide (x4 = 4))) && (!(decide (x4 = (-4)))))∧fr' 6 = v'2∧fr' 7 = .n at_∧fr' 8 = .n i) ?_ ?_
        ·rcases bc (decide (x4 = (-4))) with b'7 | b'7
         ·skip
          refine Z8 rfl b'7 (Zd (.n at_) g'1_7 (Z8 rfl b'7 (Zg (Zcs (a:=at_) (b:=0) rfl rfl) (Z8 rfl b'6 (Zg (zr (t:=(decide (x4 = (-4)))) (v:=.b ((decide (x4 = (-4))) && (decide (0≤at_)))) rfl b'7 (Eq.trans (b:=V.b (decide (0≤at_))) rfl (Zd7 b'7))) (Zb ?_))))))
          exact ⟨rfl,rfl,g'1_0,g'1_10,rfl,g'1_6,g'1_7,g'1_8⟩
         ·skip
          refine Zv rfl b'7 (Zv rfl b'7 (Z8 rfl b'6 (Zg (zm (t:=(decide (x4 = (-4)))) (v:=.b ((decide (x4 = (-4))) && (decide (0≤at_)))) rfl b'7 (Eq.trans (b:=V.b false) rfl (ZcN b'7))) (Zb ?_))))
          exact ⟨rfl,rfl,g'1_0,g'1_10,rfl,g'1_6,g'1_7,g'1_8⟩
        rintro frg'2 _ ⟨rfl,g'2_52,g'2_0,g'2_10,g'2_46,g'2_6,g'2_7,g'2_8⟩
        refine Zg (zm (t:=((!(decide (x4 = 4))) && (!(decide (x4 = (-4)))))) (v:=.b (((!(decide (x4 = 4))) && (!(decide (x4 = (-4))))) || ((decide (x4 = (-4))) && (decide (0≤at_))))) g'2_46 b'6 (Eq.trans (b:=V.b ((decide (x4 = (-4))) && (decide (0≤at_)))) g'2_52 (Zca b'6))) (Zb ?_)
        exact ⟨rfl,rfl,g'2_0,g'2_10,g'2_6,g'2_7,g'2_8⟩
      rintro frg'3 _ ⟨rfl,g'3_53,g'3_0,g'3_10,g'3_6,g'3_7,g'3_8⟩
      refine Zb (Za ?_)
      rcases Zp hp with ⟨b'8,hp⟩ | ⟨b'8,hp⟩
      ·refine zA (t:=(((!(decide (x4 = 4))) && (!(decide (x4 = (-4))))) || ((decide (x4 = (-4))) && (decide (0≤at_))))) g'3_53 b'8 ?_
       refine Zh (Zk (Zd (.n (-1)) rfl (Zd (.n 10) rfl (Zb (Za (Zad (zk ?_)))))))
       refine ZaP (zk ?_)
       cases hp
       refine (Or.inr ⟨.inr (),rfl,(fun h=>nomatch h),(fun he=>?_)⟩)
       subst he; exact ⟨rfl,rfl,rfl,(hO'7.pick [] rfl (by decide))⟩
      ·refine z7 (t:=(((!(decide (x4 = 4))) && (!(decide (x4 = (-4))))) || ((decide (x4 = (-4))) && (decide (0≤at_))))) g'3_53 b'8 ?_
       refine zD (Za (Zh (Zk (Zd (.n x4) g'3_10 (Zg (ZbQ (a:=x4) (b:=(-4)) rfl rfl) (Zb (Za ?_)))))))
       rcases Zp hp with ⟨b'9,hp⟩ | ⟨b'9,hp⟩
       ·refine zA (t:=(decide (x4 = (-4)))) rfl b'9 ?_
        refine Zk (Zd (.n i) g'3_8 (Zd (.n i) rfl (Zb (Zan (Za (Zk (Zd (.n i) g'3_8 ?_)))))))
        obtain ⟨c'2,hp⟩:=Zj hp
        refine Zg (z6 (a:=i) (b:=1) rfl rfl c'2) (Zd (.n (i + 1)) rfl (Zb ?_))
        cases hp
        exact (Or.inl ⟨(i,i + 1),rfl,rfl,g'3_0,g'3_6,rfl,rfl,(hO'7.pick [0,1] rfl (by decide))⟩)
       ·refine z7 (t:=(decide (x4 = (-4)))) rfl b'9 ?_
        refine zD (Zan (Za (Zk (Zd (.n i) g'3_8 ?_))))
        obtain ⟨c'3,hp⟩:=Zj hp
        refine Zg (z6 (a:=i) (b:=1) rfl rfl c'3) (Zd (.n (i + 1)) rfl (Zb ?_))
        cases hp
        exact (Or.inl ⟨(at_,i + 1),rfl,rfl,g'3_0,g'3_6,g'3_7,rfl,(hO'7.pick [0,1] rfl (by decide))⟩)
     ·refine z7 (t:=(decide (i < (x2.length:Int)))) rfl b'4 ?_
      refine Zbv (zY ?_)
      cases hp
      refine (Or.inr ⟨.inl at_,rfl,(fun h=>nomatch h),(fun he=>?_)⟩)
      subst he; exact ⟨rfl,q'2_7,(hO'5.pick [] rfl (by decide))⟩
    intro e'1 q'1 k'4 hJ'1
    rcases o'1 with at_1 | _
    ·obtain ⟨rfl,q'1_7,hO'4⟩:=hJ'1
     refine ZaD (Za (Zh (Zh (Zk (Zd (.n at_1) q'1_7 (Zg (zN (a:=at_1) (b:=0) rfl rfl) (Zb ?_)))))))
     refine Za ?_
     rcases Zp hp with ⟨b'10,hp⟩ | ⟨b'10,hp⟩
     ·refine zA (t:=(decide (at_1 < 0))) rfl b'10 ?_
      refine Zh (Zk (Zd (.n (-1)) rfl (Zd (.n 10) rfl (Zb (Za (Zad (zk ?_)))))))
      refine zu (zG (n:=2) (v:=.n (-1)) rfl (zG (n:=3) (v:=.n 10) rfl ZN)) ?_
      cases hp
      exact ⟨rfl,(hO'4.pick [] rfl (by decide))⟩
     ·refine z7 (t:=(decide (at_1 < 0))) rfl b'10 ?_
      refine zD (Za (Zh (Zk (Zd (.n at_1) q'1_7 (Zd (.n at_1) rfl (Zd (.n 0) rfl (Zb ?_)))))))
      refine Za (Zad (zu (zG (n:=2) (v:=.n at_1) rfl (zG (n:=3) (v:=.n 0) rfl ZN)) ?_))
      cases hp
      exact ⟨rfl,(hO'4.pick [] rfl (by decide))⟩
    ·obtain ⟨rfl,q'1_2,q'1_3,hO'4⟩:=hJ'1
     refine ZaP (zk (zu (zG (n:=2) (v:=.n (-1)) q'1_2 (zG (n:=3) (v:=.n 10) q'1_3 ZN)) ?_))
     cases hp
     exact ⟨rfl,(hO'4.pick [] rfl (by decide))⟩

theorem zT.ok {h:Hp} {l:List Ze} {at_:List Zf} {v_l:V} {v_at_:V} (s_l:Sl Zn h v_l l) (s_at_:Sl Zc h v_at_ at_) {r:Bool} (hp:zT l at_ = some r) :
  ∃ u k',Is G 193 [v_l,v_at_] h u k'∧V.b r = u∧Own (fun r=>r < h.n) h k' []:=by
 refine WC.is (ZaM ZcS ?_)
 unfold zT at hp
 let B:Nat→Prop:=(fun r=>r < h.n)
 have hO:Own B h h []:=Own.start0 h
 refine Zh (Zk (Zd (.b false) rfl (Zb (Za (Zh (Zh (Zk ?_)))))))
 refine Zd (.n 0) rfl (Zb (Za (Zaq ?_)))
 obtain ⟨o'1,ho'1,hp⟩:=Zq hp
 refine W.mono (Q:=fun e fr k=>match (generalizing:=false) o'1 with
   | .inl _=>e = (.exit 0)∧Own B h k []
   | .inr _=>e = .ret∧fr 4 = .b false∧Own B h k []) ?_ ?_
 ·clear hp
  refine zP (fun st fr k=>match st with | v=>fr 0 = v_l∧fr 1 = v_at_∧fr 5 = .n v∧Own B h k []) ho'1 (s:=0) ⟨rfl,rfl,rfl,(hO.pick [] rfl (by decide))⟩ ?_
  rintro v q'2 k'2 ⟨q'2_0,q'2_1,q'2_5,hO'2⟩ o'2 hp
  dsimp only [zT.s0] at hp
  refine Zh (Zh (Zk (Zd (.n v) q'2_5 (Zd v_l q'2_0 (Zg (Zau (hO'2.rd0 s_l.rd) rfl) (Zg (zN (a:=v) (b:=(l.length:Int)) rfl rfl) (Zb ?_)))))))
  refine Za ?_
  rcases Zp hp with ⟨b'1,hp⟩ | ⟨b'1,hp⟩
  ·refine zA (t:=(decide (v < (l.length:Int)))) rfl b'1 ?_
   refine zD (Za (Zh (Zaq (Zh (Zk (Zd v_l q'2_0 (Zd (.n v) q'2_5 ?_)))))))
   obtain ⟨c'1,hp⟩:=Zj hp
   refine Zg (zf (E:=Zn) (z:=v) (hO'2.rd0 s_l.rd) rfl rfl c'1) (Zg (Za1 (off':=0) (off2:=0) (hO'2.rd0 s_l.rd) (Zi c'1) rfl rfl) (Zg (ZbC (off:=0) (off2:=0) (z:=0) (hO'2.rd0 s_l.rd) (Zi c'1) rfl rfl (by decide) rfl) (Zg (zB (w:=.n (((gi l v.toNat).Next).get 0)) (hO'2.rd0 s_l.rd) rfl (Zi c'1) rfl) (Zd (.n (((gi l v.toNat).Next).get 0)) rfl (Zb (Za (Zh ?_)))))))
   refine Zh (ZgF ?_)
   have hW:=hO'2.bump 30
   have hO'3:=hW
   refine ZaE (.n (((gi l v.toNat).Next).get 0)) rfl (ze rfl (Zcs (a:=(((gi l v.toNat).Next).get 0)) (b:=0) rfl rfl) (ZaE (.b (decide (0≤(((gi l v.toNat).Next).get 0)))) rfl ?_))
   obtain ⟨t,hv'1,hp⟩:=Zq hp
   refine Zcj 27 (fun fr' k'=>(k'2.bump 30) = k'∧fr' 49 = .b t∧fr' 0 = v_l∧fr' 1 = v_at_∧fr' 5 = .n v) ?_ ?_
   ·clear hp; rcases Zp hv'1 with ⟨b'2,hp⟩ | ⟨b'2,hp⟩
    ·skip
     refine ZB rfl b'2 (ZaE v_at_ q'2_1 (ZB rfl b'2 (ZaE (.n (((gi l v.toNat).Next).get 0)) rfl (ZB rfl b'2 (ze rfl (Zjx (a:=(((gi l v.toNat).Next).get 0)) (b:=0) rfl rfl) (ZB rfl b'2 ?_))))))
     obtain ⟨c'2,hp⟩:=Zj hp
     refine ze rfl (zf (E:=Zc) (z:=(max (((gi l v.toNat).Next).get 0) 0)) (hO'3.rd0 s_at_.rd) rfl rfl c'2) (ZB rfl b'2 (ze rfl (Za1 (off':=0) (off2:=1) (hO'3.rd0 s_at_.rd) (Zi c'2) rfl rfl) (ZB rfl b'2 (ze rfl (zB (w:=.n ((gi at_ (max (((gi l v.toNat).Next).get 0) 0:Int).toNat).Y)) (hO'3.rd0 s_at_.rd) rfl (Zi c'2) rfl) (ZB rfl b'2 (ZaE v_at_ q'2_1 (ZB rfl b'2 ?_)))))))
     refine ZaE (.n v) q'2_5 (ZB rfl b'2 ?_)
     obtain ⟨c'3,hp⟩:=Zj hp
     refine ze rfl (zf (E:=Zc) (z:=v) (hO'3.rd0 s_at_.rd) rfl rfl c'3) (ZB rfl b'2 (ze rfl (Za1 (off':=0) (off2:=1) (hO'3.rd0 s_at_.rd) (Zi c'3) rfl rfl) (ZB rfl b'2 (ze rfl (zB (w:=.n ((gi at_ v.toNat).Y)) (hO'3.rd0 s_at_.rd) rfl (Zi c'3) rfl) (ZB rfl b'2 (ze rfl (Zck (a:=((gi at_ (max (((gi l v.toNat).Next).get 0) 0:Int).toNat).Y)) (b:=((gi at_ v.toNat).Y)) rfl rfl) (ZB rfl b'2 ?_)))))))
     refine ZaE (.b (!(decide ((gi at_ (max (((gi l v.toNat).Next).get 0) 0:Int).toNat).Y = (gi at_ v.toNat).Y)))) rfl ?_
     refine Zcj 13 (fun fr' k'=>(k'2.bump 30) = k'∧fr' 48 = .b ((!(decide ((gi at_ (max (((gi l v.toNat).Next).get 0) 0:Int).toNat).Y = (gi at_ v.toNat).Y))) || (decide (((gi at_ (max (((gi l v.toNat).Next).get 0) 0:Int).toNat).X)≤((gi at_ v.toNat).X))))∧fr' 0 = v_l∧fr' 1 = v_at_∧fr' 22 = .b (decide (0≤(((gi l v.toNat).Next).get 0)))∧fr' 5 = .n v) ?_ ?_
     ·rcases bc (!(decide ((gi at_ (max (((gi l v.toNat).Next).get 0) 0:Int).toNat).Y = (gi at_ v.toNat).Y))) with b'3 | b'3
      ·skip
       refine Zx rfl b'3 (Zx rfl b'3 (Zx rfl b'3 (Zx rfl b'3 (Zx rfl b'3 (Zx rfl b'3 (Zx rfl b'3 (Zx rfl b'3 ?_)))))))
       refine Zx rfl b'3 (Zx rfl b'3 (Zx rfl b'3 (Zx rfl b'3 (ZB rfl b'2 (ze rfl (zr (t:=(!(decide ((gi at_ (max (((gi l v.toNat).Next).get 0) 0:Int).toNat).Y = (gi at_ v.toNat).Y)))) (v:=.b ((!(decide ((gi at_ (max (((gi l v.toNat).Next).get 0) 0:Int).toNat).Y = (gi at_ v.toNat).Y))) || (decide (((gi at_ (max (((gi l v.toNat).Next).get 0) 0:Int).toNat).X)≤((gi at_ v.toNat).X))))) rfl b'3 (Eq.trans (b:=V.b true) rfl (Zbx b'3))) (Za9 ?_))))))
       exact ⟨rfl,rfl,q'2_0,q'2_1,rfl,q'2_5⟩
      ·skip
       refine ZB rfl b'3 (ZaE v_at_ q'2_1 (ZB rfl b'3 (ZaE (.n (((gi l v.toNat).Next).get 0)) rfl (ZB rfl b'3 (ze rfl (Zjx (a:=(((gi l v.toNat).Next).get 0)) (b:=0) rfl rfl) (ZB rfl b'3 (ze rfl (zf (E:=Zc) (z:=(max (((gi l v.toNat).Next).get 0) 0)) (hO'3.rd0 s_at_.rd) rfl rfl c'2) ?_)))))))
       refine ZB rfl b'3 (ze rfl (Za1 (off':=0) (off2:=0) (hO'3.rd0 s_at_.rd) (Zi c'2) rfl rfl) (ZB rfl b'3 (ze rfl (zB (w:=.n ((gi at_ (max (((gi l v.toNat).Next).get 0) 0:Int).toNat).X)) (hO'3.rd0 s_at_.rd) rfl (Zi c'2) rfl) (ZB rfl b'3 (ZaE v_at_ q'2_1 (ZB rfl b'3 (ZaE (.n v) q'2_5 ?_)))))))
       refine ZB rfl b'3 (ze rfl (zf (E:=Zc) (z:=v) (hO'3.rd0 s_at_.rd) rfl rfl c'3) (ZB rfl b'3 (ze rfl (Za1 (off':=0) (off2:=0) (hO'3.rd0 s_at_.rd) (Zi c'3) rfl rfl) (ZB rfl b'3 (ze rfl (zB (w:=.n ((gi at_ v.toNat).X)) (hO'3.rd0 s_at_.rd) rfl (Zi c'3) rfl) (ZB rfl b'3 (ze rfl (ZgG (a:=((gi at_ (max (((gi l v.toNat).Next).get 0) 0:Int).toNat).X)) (b:=((gi at_ v.toNat).X)) rfl rfl) ?_)))))))
       refine ZB rfl b'2 (ze rfl (zm (t:=(!(decide ((gi at_ (max (((gi l v.toNat).Next).get 0) 0:Int).toNat).Y = (gi at_ v.toNat).Y)))) (v:=.b ((!(decide ((gi at_ (max (((gi l v.toNat).Next).get 0) 0:Int).toNat).Y = (gi at_ v.toNat).Y))) || (decide (((gi at_ (max (((gi l v.toNat).Next).get 0) 0:Int).toNat).X)≤((gi at_ v.toNat).X))))) rfl b'3 (Eq.trans (b:=V.b (decide (((gi at_ (max (((gi l v.toNat).Next).get 0) 0:Int).toNat).X)≤((gi at_ v.toNat).X)))) rfl (Zca b'3))) (Za9 ?_))
       exact ⟨rfl,rfl,q'2_0,q'2_1,rfl,q'2_5⟩
     rintro frg'1 _ ⟨rfl,g'1_48,g'1_0,g'1_1,g'1_22,g'1_5⟩
     refine ze rfl (zr (t:=(decide (0≤(((gi l v.toNat).Next).get 0)))) (v:=.b t) g'1_22 b'2 (Eq.trans (b:=V.b ((!(decide ((gi at_ (max (((gi l v.toNat).Next).get 0) 0:Int).toNat).Y = (gi at_ v.toNat).Y))) || (decide (((gi at_ (max (((gi l v.toNat).Next).get 0) 0:Int).toNat).X)≤((gi at_ v.toNat).X))))) g'1_48 (congrArg V.b (Option.some.inj hp)))) (Za9 ?_)
     exact ⟨rfl,rfl,g'1_0,g'1_1,g'1_5⟩
    ·skip
     refine Zx rfl b'2 (Zx rfl b'2 (Zx rfl b'2 (Zx rfl b'2 (Zx rfl b'2 (Zx rfl b'2 (Zx rfl b'2 (Zx rfl b'2 ?_)))))))
     refine Zx rfl b'2 (Zx rfl b'2 (Zx rfl b'2 (Zx rfl b'2 (Zx rfl b'2 (Zb5 rfl (Zb5 rfl (Zb5 rfl ?_)))))))
     refine Zb5 rfl (Zb5 rfl (Zb5 rfl (Zb5 rfl (Zb5 rfl (Zb5 rfl (Zb5 rfl (Zb5 rfl ?_)))))))
     refine Zb5 rfl (Zx rfl b'2 (ze rfl (zm (t:=(decide (0≤(((gi l v.toNat).Next).get 0)))) (v:=.b t) rfl b'2 (Eq.trans (b:=V.b false) rfl (congrArg V.b (Option.some.inj hp)))) (Za9 ?_)))
     exact ⟨rfl,rfl,q'2_0,q'2_1,q'2_5⟩
   rintro frg'2 _ ⟨rfl,g'2_49,g'2_0,g'2_1,g'2_5⟩
   refine Za9 (Za ?_)
   rcases Zp hp with ⟨b'4,hp⟩ | ⟨b'4,hp⟩
   ·refine zA (t:=t) g'2_49 b'4 ?_
    refine Zh (Zk (Zd (.b false) rfl (Zb (Za (Zad (zk (ZaP ?_)))))))
    refine zk ?_
    cases hp
    refine (Or.inr ⟨.inr (),rfl,(fun h=>nomatch h),(fun he=>?_)⟩)
    subst he; exact ⟨rfl,rfl,(hO'3.pick [] rfl (by decide))⟩
   ·refine z7 (t:=t) g'2_49 b'4 ?_
    refine zD (Za (Zh (Zk (Zd v_l g'2_0 (Zd (.n v) g'2_5 (Zg (zf (E:=Zn) (z:=v) (hO'3.rd0 s_l.rd) rfl rfl c'1) (Zg (Za1 (off':=0) (off2:=0) (hO'3.rd0 s_l.rd) (Zi c'1) rfl rfl) ?_)))))))
    refine Zg (ZbC (off:=0) (off2:=1) (z:=1) (hO'3.rd0 s_l.rd) (Zi c'1) rfl rfl (by decide) rfl) (Zg (zB (w:=.n (((gi l v.toNat).Next).get 1)) (hO'3.rd0 s_l.rd) rfl (Zi c'1) rfl) (Zd (.n (((gi l v.toNat).Next).get 1)) rfl (Zb (Za (Zh (ZgF ?_))))))
    have hW:=hO'3.bump 30
    have hO'4:=hW
    refine ZaE (.n (((gi l v.toNat).Next).get 1)) rfl (ze rfl (Zcs (a:=(((gi l v.toNat).Next).get 1)) (b:=0) rfl rfl) (ZaE (.b (decide (0≤(((gi l v.toNat).Next).get 1)))) rfl ?_))
    obtain ⟨t1,hv'2,hp⟩:=Zq hp
    refine Zcj 27 (fun fr' k'=>((k'2.bump 30).bump 30) = k'∧fr' 85 = .b t1∧fr' 0 = v_l∧fr' 1 = v_at_∧fr' 5 = .n v) ?_ ?_
    ·clear hp; rcases Zp hv'2 with ⟨b'5,hp⟩ | ⟨b'5,hp⟩
     ·skip
      refine ZB rfl b'5 (ZaE v_at_ g'2_1 (ZB rfl b'5 (ZaE (.n (((gi l v.toNat).Next).get 1)) rfl (ZB rfl b'5 (ze rfl (Zjx (a:=(((gi l v.toNat).Next).get 1)) (b:=0) rfl rfl) (ZB rfl b'5 ?_))))))
      obtain ⟨c'4,hp⟩:=Zj hp
      refine ze rfl (zf (E:=Zc) (z:=(max (((gi l v.toNat).Next).get 1) 0)) (hO'4.rd0 s_at_.rd:Sl Zc ((k'2.bump 30).bump 30) v_at_ at_) rfl rfl c'4) (ZB rfl b'5 (ze rfl (Za1 (off':=0) (off2:=0) (hO'4.rd0 s_at_.rd:Sl Zc ((k'2.bump 30).bump 30) v_at_ at_) (Zi c'4) rfl rfl) (ZB rfl b'5 (ze rfl (zB (w:=.n ((gi at_ (max (((gi l v.toNat).Next).get 1) 0:Int).toNat).X)) (hO'4.rd0 s_at_.rd:Sl Zc ((k'2.bump 30).bump 30) v_at_ at_) rfl (Zi c'4) rfl) (ZB rfl b'5 (ZaE v_at_ g'2_1 (ZB rfl b'5 ?_)))))))
      refine ZaE (.n v) g'2_5 (ZB rfl b'5 ?_)
      obtain ⟨c'5,hp⟩:=Zj hp
      refine ze rfl (zf (E:=Zc) (z:=v) (hO'4.rd0 s_at_.rd:Sl Zc ((k'2.bump 30).bump 30) v_at_ at_) rfl rfl c'5) (ZB rfl b'5 (ze rfl (Za1 (off':=0) (off2:=0) (hO'4.rd0 s_at_.rd:Sl Zc ((k'2.bump 30).bump 30) v_at_ at_) (Zi c'5) rfl rfl) (ZB rfl b'5 (ze rfl (zB (w:=.n ((gi at_ v.toNat).X)) (hO'4.rd0 s_at_.rd:Sl Zc ((k'2.bump 30).bump 30) v_at_ at_) rfl (Zi c'5) rfl) (ZB rfl b'5 (ze rfl (Zck (a:=((gi at_ (max (((gi l v.toNat).Next).get 1) 0:Int).toNat).X)) (b:=((gi at_ v.toNat).X)) rfl rfl) (ZB rfl b'5 ?_)))))))
      refine ZaE (.b (!(decide ((gi at_ (max (((gi l v.toNat).Next).get 1) 0:Int).toNat).X = (gi at_ v.toNat).X)))) rfl ?_
      refine Zcj 13 (fun fr' k'=>((k'2.bump 30).bump 30) = k'∧fr' 84 = .b ((!(decide ((gi at_ (max (((gi l v.toNat).Next).get 1) 0:Int).toNat).X = (gi at_ v.toNat).X))) || (decide (((gi at_ (max (((gi l v.toNat).Next).get 1) 0:Int).toNat).Y)≤((gi at_ v.toNat).Y))))∧fr' 0 = v_l∧fr' 1 = v_at_∧fr' 5 = .n v∧fr' 58 = .b (decide (0≤(((gi l v.toNat).Next).get 1)))) ?_ ?_
      ·rcases bc (!(decide ((gi at_ (max (((gi l v.toNat).Next).get 1) 0:Int).toNat).X = (gi at_ v.toNat).X))) with b'6 | b'6
       ·skip
        refine Zx rfl b'6 (Zx rfl b'6 (Zx rfl b'6 (Zx rfl b'6 (Zx rfl b'6 (Zx rfl b'6 (Zx rfl b'6 (Zx rfl b'6 ?_)))))))
        refine Zx rfl b'6 (Zx rfl b'6 (Zx rfl b'6 (Zx rfl b'6 (ZB rfl b'5 (ze rfl (zr (t:=(!(decide ((gi at_ (max (((gi l v.toNat).Next).get 1) 0:Int).toNat).X = (gi at_ v.toNat).X)))) (v:=.b ((!(decide ((gi at_ (max (((gi l v.toNat).Next).get 1) 0:Int).toNat).X = (gi at_ v.toNat).X))) || (decide (((gi at_ (max (((gi l v.toNat).Next).get 1) 0:Int).toNat).Y)≤((gi at_ v.toNat).Y))))) rfl b'6 (Eq.trans (b:=V.b true) rfl (Zbx b'6))) (Za9 ?_))))))
        exact ⟨rfl,rfl,g'2_0,g'2_1,g'2_5,rfl⟩
       ·skip
        refine ZB rfl b'6 (ZaE v_at_ g'2_1 (ZB rfl b'6 (ZaE (.n (((gi l v.toNat).Next).get 1)) rfl (ZB rfl b'6 (ze rfl (Zjx (a:=(((gi l v.toNat).Next).get 1)) (b:=0) rfl rfl) (ZB rfl b'6 (ze rfl (zf (E:=Zc) (z:=(max (((gi l v.toNat).Next).get 1) 0)) (hO'4.rd0 s_at_.rd:Sl Zc ((k'2.bump 30).bump 30) v_at_ at_) rfl rfl c'4) ?_)))))))
        refine ZB rfl b'6 (ze rfl (Za1 (off':=0) (off2:=1) (hO'4.rd0 s_at_.rd:Sl Zc ((k'2.bump 30).bump 30) v_at_ at_) (Zi c'4) rfl rfl) (ZB rfl b'6 (ze rfl (zB (w:=.n ((gi at_ (max (((gi l v.toNat).Next).get 1) 0:Int).toNat).Y)) (hO'4.rd0 s_at_.rd:Sl Zc ((k'2.bump 30).bump 30) v_at_ at_) rfl (Zi c'4) rfl) (ZB rfl b'6 (ZaE v_at_ g'2_1 (ZB rfl b'6 (ZaE (.n v) g'2_5 ?_)))))))
        refine ZB rfl b'6 (ze rfl (zf (E:=Zc) (z:=v) (hO'4.rd0 s_at_.rd:Sl Zc ((k'2.bump 30).bump 30) v_at_ at_) rfl rfl c'5) (ZB rfl b'6 (ze rfl (Za1 (off':=0) (off2:=1) (hO'4.rd0 s_at_.rd:Sl Zc ((k'2.bump 30).bump 30) v_at_ at_) (Zi c'5) rfl rfl) (ZB rfl b'6 (ze rfl (zB (w:=.n ((gi at_ v.toNat).Y)) (hO'4.rd0 s_at_.rd:Sl Zc ((k'2.bump 30).bump 30) v_at_ at_) rfl (Zi c'5) rfl) (ZB rfl b'6 (ze rfl (ZgG (a:=((gi at_ (max (((gi l v.toNat).Next).get 1) 0:Int).toNat).Y)) (b:=((gi at_ v.toNat).Y)) rfl rfl) ?_)))))))
        refine ZB rfl b'5 (ze rfl (zm (t:=(!(decide ((gi at_ (max (((gi l v.toNat).Next).get 1) 0:Int).toNat).X = (gi at_ v.toNat).X)))) (v:=.b ((!(decide ((gi at_ (max (((gi l v.toNat).Next).get 1) 0:Int).toNat).X = (gi at_ v.toNat).X))) || (decide (((gi at_ (max (((gi l v.toNat).Next).get 1) 0:Int).toNat).Y)≤((gi at_ v.toNat).Y))))) rfl b'6 (Eq.trans (b:=V.b (decide (((gi at_ (max (((gi l v.toNat).Next).get 1) 0:Int).toNat).Y)≤((gi at_ v.toNat).Y)))) rfl (Zca b'6))) (Za9 ?_))
        exact ⟨rfl,rfl,g'2_0,g'2_1,g'2_5,rfl⟩
      rintro frg'3 _ ⟨rfl,g'3_84,g'3_0,g'3_1,g'3_5,g'3_58⟩
      refine ze rfl (zr (t:=(decide (0≤(((gi l v.toNat).Next).get 1)))) (v:=.b t1) g'3_58 b'5 (Eq.trans (b:=V.b ((!(decide ((gi at_ (max (((gi l v.toNat).Next).get 1) 0:Int).toNat).X = (gi at_ v.toNat).X))) || (decide (((gi at_ (max (((gi l v.toNat).Next).get 1) 0:Int).toNat).Y)≤((gi at_ v.toNat).Y))))) g'3_84 (congrArg V.b (Option.some.inj hp)))) (Za9 ?_)
      exact ⟨rfl,rfl,g'3_0,g'3_1,g'3_5⟩
     ·skip
      refine Zx rfl b'5 (Zx rfl b'5 (Zx rfl b'5 (Zx rfl b'5 (Zx rfl b'5 (Zx rfl b'5 (Zx rfl b'5 (Zx rfl b'5 ?_)))))))
      refine Zx rfl b'5 (Zx rfl b'5 (Zx rfl b'5 (Zx rfl b'5 (Zx rfl b'5 (Zb5 rfl (Zb5 rfl (Zb5 rfl ?_)))))))
      refine Zb5 rfl (Zb5 rfl (Zb5 rfl (Zb5 rfl (Zb5 rfl (Zb5 rfl (Zb5 rfl (Zb5 rfl ?_)))))))
      refine Zb5 rfl (Zx rfl b'5 (ze rfl (zm (t:=(decide (0≤(((gi l v.toNat).Next).get 1)))) (v:=.b t1) rfl b'5 (Eq.trans (b:=V.b false) rfl (congrArg V.b (Option.some.inj hp)))) (Za9 ?_)))
      exact ⟨rfl,rfl,g'2_0,g'2_1,g'2_5⟩
    rintro frg'4 _ ⟨rfl,g'4_85,g'4_0,g'4_1,g'4_5⟩
    refine Za9 (Za ?_)
    rcases Zp hp with ⟨b'7,hp⟩ | ⟨b'7,hp⟩
    ·refine zA (t:=t1) g'4_85 b'7 ?_
     refine Zh (Zk (Zd (.b false) rfl (Zb (Za (Zad (ZaP (zk ?_)))))))
     cases hp
     refine (Or.inr ⟨.inr (),rfl,(fun h=>nomatch h),(fun he=>?_)⟩)
     subst he; exact ⟨rfl,rfl,(hO'4.pick [] rfl (by decide))⟩
    ·refine z7 (t:=t1) g'4_85 b'7 ?_
     refine zD (Zan (Za (Zk (Zd (.n v) g'4_5 ?_))))
     obtain ⟨c'6,hp⟩:=Zj hp
     refine Zg (z6 (a:=v) (b:=1) rfl rfl c'6) (Zd (.n (v + 1)) rfl (Zb ?_))
     cases hp
     exact (Or.inl ⟨v + 1,rfl,rfl,g'4_0,g'4_1,rfl,(hO'4.pick [] rfl (by decide))⟩)
  ·refine z7 (t:=(decide (v < (l.length:Int)))) rfl b'1 ?_
   refine Zbv (zY ?_)
   cases hp
   refine (Or.inr ⟨.inl (),rfl,(fun h=>nomatch h),(fun he=>?_)⟩)
   subst he; exact ⟨rfl,(hO'2.pick [] rfl (by decide))⟩
 intro e'1 q'1 k'1 hJ'1
 rcases o'1 with _ | _
 ·obtain ⟨rfl,hO'1⟩:=hJ'1
  refine ZaD (Za (Zh (Zk (Zd (.b true) rfl (Zb (Za (Zad ?_)))))))
  refine zu (zG (n:=4) (v:=.b true) rfl ZN) ?_
  cases hp
  exact ⟨rfl,(hO'1.pick [] rfl (by decide))⟩
 ·obtain ⟨rfl,q'1_4,hO'1⟩:=hJ'1
  refine ZaP (zk (zu (zG (n:=4) (v:=.b false) q'1_4 ZN) ?_))
  cases hp
  exact ⟨rfl,(hO'1.pick [] rfl (by decide))⟩

theorem Za8.ok {h:Hp} {l:List Ze} {v:Int} {d:Int} {v_l:V} (s_l:Sl Zn h v_l l) {r:Int} (hp:Za8 l v d = some r) :
  ∃ u k',Is G 150 [v_l,.n v,.n d] h u k'∧V.n r = u∧Own (fun r=>r < h.n) h k' []:=by
 refine WC.is (ZaM Zd1 ?_)
 unfold Za8 at hp
 let B:Nat→Prop:=(fun r=>r < h.n)
 have hO:Own B h h []:=Own.start0 h
 refine Zh (Zk (Zd (.n 0) rfl (Zb (Za (Zh (Zh (Zk ?_)))))))
 refine Zd (.n 0) rfl (Zb (Za (Zaq ?_)))
 obtain ⟨o'1,ho'1,hp⟩:=Zq hp
 refine W.mono (Q:=fun e fr k=>match (generalizing:=false) o'1 with
   | .inl _=>e = (.exit 0)∧Own B h k []
   | .inr x=>e = .ret∧fr 6 = .n x∧Own B h k []) ?_ ?_
 ·clear hp
  refine zP (fun st fr k=>match st with | (v1,n)=>fr 0 = v_l∧fr 1 = .n v1∧fr 2 = .n d∧fr 7 = .n n∧Own B h k []) ho'1 (s:=(v,0)) ⟨rfl,rfl,rfl,rfl,(hO.pick [] rfl (by decide))⟩ ?_
  rintro ⟨v1,n⟩ q'2 k'2 ⟨q'2_0,q'2_1,q'2_2,q'2_7,hO'2⟩ o'2 hp
  dsimp only [Za8.s0] at hp
  refine Zh (Zh (Zk (Zd (.n n) q'2_7 (Zd v_l q'2_0 (Zg (Zau (hO'2.rd0 s_l.rd) rfl) (Zg (ZgG (a:=n) (b:=(l.length:Int)) rfl rfl) (Zb ?_)))))))
  refine Za ?_
  rcases Zp hp with ⟨b'1,hp⟩ | ⟨b'1,hp⟩
  ·refine zA (t:=(decide (n≤(l.length:Int)))) rfl b'1 ?_
   refine zD (Za (Zh (Zaq (Zh (Zk (Zd v_l q'2_0 (Zd (.n v1) q'2_1 ?_)))))))
   refine Zd (.n d) q'2_2 ?_
   obtain ⟨c'1,hp⟩:=Zj hp
   refine Zg (z6 (a:=d) (b:=2) rfl rfl c'1) (Zg (ZcU (a:=(d + 2)) (b:=4) rfl rfl (by decide)) ?_)
   obtain ⟨c'2,hp⟩:=Zj hp
   refine Zg (zf (E:=Zn) (z:=v1) (hO'2.rd0 s_l.rd) rfl rfl c'2) (Zg (Za1 (off':=0) (off2:=0) (hO'2.rd0 s_l.rd) (Zi c'2) rfl rfl) ?_)
   obtain ⟨c'3,hp⟩:=Zj hp
   refine Zg (ZbC (off:=0) (off2:=(0 + ((d + 2).tmod 4:Int).toNat * 1)) (z:=((d + 2).tmod 4)) (hO'2.rd0 s_l.rd) (Zi c'2) rfl rfl c'3 rfl) (Zg (zB (w:=.n (((gi l v1.toNat).Next).get ((d + 2).tmod 4))) (hO'2.rd0 s_l.rd) rfl (Zi c'2) (zO c'3)) (Zd (.n (((gi l v1.toNat).Next).get ((d + 2).tmod 4))) rfl (Zb (Za (Zh (Zh (Zk ?_)))))))
   refine Zd (.n (((gi l v1.toNat).Next).get ((d + 2).tmod 4))) rfl (Zg (zN (a:=(((gi l v1.toNat).Next).get ((d + 2).tmod 4))) (b:=0) rfl rfl) (Zb (Za ?_)))
   rcases Zp hp with ⟨b'2,hp⟩ | ⟨b'2,hp⟩
   ·refine zA (t:=(decide ((((gi l v1.toNat).Next).get ((d + 2).tmod 4)) < 0))) rfl b'2 ?_
    refine Zh (Zk (Zd (.n v1) q'2_1 (Zd (.n v1) rfl (Zb (Za (Zad (zk ?_)))))))
    refine ZaP (zk ?_)
    cases hp
    refine (Or.inr ⟨.inr v1,rfl,(fun h=>nomatch h),(fun he=>?_)⟩)
    subst he; exact ⟨rfl,rfl,(hO'2.pick [] rfl (by decide))⟩
   ·refine z7 (t:=(decide ((((gi l v1.toNat).Next).get ((d + 2).tmod 4)) < 0))) rfl b'2 ?_
    refine zD (Za (Zk (Zd (.n (((gi l v1.toNat).Next).get ((d + 2).tmod 4))) rfl (Zd (.n (((gi l v1.toNat).Next).get ((d + 2).tmod 4))) rfl (Zb (Zan (Za ?_)))))))
    refine Zk (Zd (.n n) q'2_7 ?_)
    obtain ⟨c'4,hp⟩:=Zj hp
    refine Zg (z6 (a:=n) (b:=1) rfl rfl c'4) (Zd (.n (n + 1)) rfl (Zb ?_))
    cases hp
    exact (Or.inl ⟨(((gi l v1.toNat).Next).get ((d + 2).tmod 4),n + 1),rfl,rfl,q'2_0,rfl,q'2_2,rfl,(hO'2.pick [] rfl (by decide))⟩)
  ·refine z7 (t:=(decide (n≤(l.length:Int)))) rfl b'1 ?_
   refine Zbv (zY ?_)
   cases hp
   refine (Or.inr ⟨.inl (),rfl,(fun h=>nomatch h),(fun he=>?_)⟩)
   subst he; exact ⟨rfl,(hO'2.pick [] rfl (by decide))⟩
 intro e'1 q'1 k'1 hJ'1
 rcases o'1 with _ | x
 ·obtain ⟨rfl,hO'1⟩:=hJ'1
  refine ZaD (Za (Zh (Zk (Zd (.n (-1)) rfl (Zb (Za (Zad ?_)))))))
  refine zu (zG (n:=6) (v:=.n (-1)) rfl ZN) ?_
  cases hp
  exact ⟨rfl,(hO'1.pick [] rfl (by decide))⟩
 ·obtain ⟨rfl,q'1_6,hO'1⟩:=hJ'1
  refine ZaP (zk (zu (zG (n:=6) (v:=.n x) q'1_6 ZN) ?_))
  cases hp
  exact ⟨rfl,(hO'1.pick [] rfl (by decide))⟩

theorem ZH.ok {h:Hp} {l:List Ze} {d:Int} {v_l:V} (s_l:Sl Zn h v_l l) {r:(List Int) × (List (List Int)) × Bool} (hp:ZH l d = some r) :
  ∃ u k',Is G 138 [v_l,.n d] h u k'∧∃ (v'1:V),∃ (v'2:V),∃ (vs'1:List V),V.tu [v'1,v'2,.b r.2.2] = u∧Own (fun r=>r < h.n) h k' [eSl ZM v'1 r.1,eSl eV v'2 vs'1,ZbE ZM vs'1 r.2.1]:=by
 refine WC.is (ZaM Zdn ?_)
 unfold ZH at hp
 let B:Nat→Prop:=(fun r=>r < h.n)
 have hO:Own B h h []:=Own.start0 h
 refine Zh (Zk (Zd (.sn) rfl (Zd (.sn) rfl (Zd (.b false) rfl (Zb (Za (Zh ?_)))))))
 refine Zk (Zd v_l rfl (Zg (Zau (hO.rd0 s_l.rd) rfl) ?_))
 obtain ⟨c'1,hp⟩:=Zj hp
 refine zQ (hO.mks (E:=ZM) (y:=(0:Int)) (bytes:=8) (z:=(l.length:Int)) hO.fr rfl rfl rfl c'1 (by decide)) ?_
 rintro v'3 k'1 ⟨r'1,f'1,hW⟩
 have hO'1:=hW
 refine Zd v'3 rfl (Zb (Za (Zh (Zk (Zd (.sn) rfl (Zb (Za ?_)))))))
 refine Zh (Zk (Zd (.sn) rfl (Zb (Za (Zh (Zh (Zk ?_)))))))
 refine Zd (.n 0) rfl (Zb (Za (Zaq ?_)))
 obtain ⟨o'1,ho'1,hp⟩:=Zq hp
 refine W.mono (Q:=fun e fr k=>match (generalizing:=false) o'1 with
   | .inl (at_1,out1)=>e = (.exit 0)∧∃ (v'6:V),∃ (vs'3:List V),fr 7 = v'3∧fr 9 = v'6∧Own B h k [eSl ZM v'3 at_1,eSl eV v'6 vs'3,ZbE ZM vs'3 out1]
   | .inr _=>e = .ret∧fr 4 = .sn∧fr 5 = .sn∧fr 6 = .b false∧Own B h k []) ?_ ?_
 ·clear hp
  have hO'3:=hO'1.nil ZM
  have hO'4:=hO'3.nil eV
  have hO'5:=hO'4.allNil ZM 0
  refine zP (fun st fr k=>match st with | (at_,firsts,out,v)=>∃ (v'4:V),∃ (v'5:V),∃ (vs'2:List V),fr 0 = v_l∧fr 1 = .n d∧fr 7 = v'3∧fr 8 = v'4∧fr 9 = v'5∧fr 10 = .n v∧Own B h k [eSl ZM v'3 at_,eSl ZM v'4 firsts,eSl eV v'5 vs'2,ZbE ZM vs'2 out]) ho'1 (s:=(List.replicate ((l.length:Int):Int).toNat (0:Int),([]:List Int),([]:List (List Int)),0)) ⟨V.sn,V.sn,[],rfl,rfl,rfl,rfl,rfl,rfl,(hO'5.pick [0,1,2,3] rfl (by decide))⟩ ?_
  rintro ⟨at_,firsts,out,v⟩ q'2 k'3 ⟨v'4,v'5,vs'2,q'2_0,q'2_1,q'2_7,q'2_8,q'2_9,q'2_10,hO'6⟩ o'2 hp
  dsimp only [ZH.s0] at hp
  refine Zh (Zh (Zk (Zd (.n v) q'2_10 (Zd v_l q'2_0 (Zg (Zau (hO'6.rd0 s_l.rd) rfl) (Zg (zN (a:=v) (b:=(l.length:Int)) rfl rfl) (Zb ?_)))))))
  refine Za ?_
  rcases Zp hp with ⟨b'1,hp⟩ | ⟨b'1,hp⟩
  ·refine zA (t:=(decide (v < (l.length:Int)))) rfl b'1 ?_
   refine zD (Za (Zh (Zaq (Zh (Zk (Zd v_l q'2_0 (Zd (.n v) q'2_10 ?_)))))))
   refine Zd (.n d) q'2_1 ?_
   obtain ⟨x,hx'1,hp⟩:=Zq hp
   obtain ⟨u'1,k'4,ca'1,rfl,hW'1⟩:=Za8.ok (h:=k'3)  (hO'6.rd0 s_l.rd) hx'1
   refine Zbd (id:=150) (caps:=[]) rfl (Zu (v:=v_l) rfl (Zu (v:=.n v) rfl (Zu (v:=.n d) rfl zx))) ca'1 ?_
   have hO'7:=hO'6.call hW'1 rfl
   refine Zd (.n x) rfl (Zb (Za (Zh (Zh (Zk (Zd (.n x) rfl (Zg (zN (a:=x) (b:=0) rfl rfl) ?_)))))))
   refine Zb (Za ?_)
   rcases Zp hp with ⟨b'2,hp⟩ | ⟨b'2,hp⟩
   ·refine zA (t:=(decide (x < 0))) rfl b'2 ?_
    refine Zh (Zk (Zd (.sn) rfl (Zd (.sn) rfl (Zd (.b false) rfl (Zb (Za (Zad ?_)))))))
    refine zk (ZaP (zk ?_))
    cases hp
    refine (Or.inr ⟨.inr (),rfl,(fun h=>nomatch h),(fun he=>?_)⟩)
    subst he; exact ⟨rfl,rfl,rfl,rfl,(hO'7.pick [] rfl (by decide))⟩
   ·refine z7 (t:=(decide (x < 0))) rfl b'2 ?_
    refine zD (Za (Zh (Zk (Zd (.n 0) rfl (Zb (Za (Zh ?_)))))))
    refine Zaq ?_
    obtain ⟨o'3,ho'2,hp⟩:=Zq hp
    refine W.mono (Q:=fun e fr k=>match (generalizing:=false) o'3 with
      | k_1=>e = (.exit 2)∧fr 0 = v_l∧fr 1 = .n d∧fr 7 = v'3∧fr 8 = v'4∧fr 9 = v'5∧fr 10 = .n v∧fr 11 = .n x∧fr 12 = .n k_1∧Own B h k [eSl ZM v'3 at_,eSl ZM v'4 firsts,eSl eV v'5 vs'2,ZbE ZM vs'2 out]) ?_ ?_
    ·clear hp
     refine zP (fun st fr k=>match st with | k_=>fr 0 = v_l∧fr 1 = .n d∧fr 7 = v'3∧fr 8 = v'4∧fr 9 = v'5∧fr 10 = .n v∧fr 11 = .n x∧fr 12 = .n k_∧Own B h k [eSl ZM v'3 at_,eSl ZM v'4 firsts,eSl eV v'5 vs'2,ZbE ZM vs'2 out]) ho'2 (s:=0) ⟨q'2_0,q'2_1,q'2_7,q'2_8,q'2_9,q'2_10,rfl,rfl,(hO'7.pick [0,1,2,3] rfl (by decide))⟩ ?_
     rintro k_ q'4 k'6 ⟨q'4_0,q'4_1,q'4_7,q'4_8,q'4_9,q'4_10,q'4_11,q'4_12,hO'9⟩ o'4 hp
     dsimp only [ZH.s1] at hp
     refine Zh (Zh (Zk (Zd (.n k_) q'4_12 (Zd v'4 q'4_8 (Zg (Zau (hO'9.sl 1 rfl) rfl) (Zg (zN (a:=k_) (b:=(firsts.length:Int)) rfl rfl) (Zd (.b (decide (k_ < (firsts.length:Int)))) rfl ?_)))))))
     obtain ⟨t,hv'1,hp⟩:=Zq hp
     refine Za0 7 (fun fr' k'=>k'6 = k'∧fr' 41 = .b t∧fr' 0 = v_l∧fr' 1 = .n d∧fr' 10 = .n v∧fr' 11 = .n x∧fr' 12 = .n k_∧fr' 7 = v'3∧fr' 8 = v'4∧fr' 9 = v'5) ?_ ?_
     ·clear hp; rcases Zp hv'1 with ⟨b'3,hp⟩ | ⟨b'3,hp⟩
      ·skip
       refine Z8 rfl b'3 (Zd v'4 q'4_8 (Z8 rfl b'3 (Zd (.n k_) q'4_12 (Z8 rfl b'3 ?_))))
       obtain ⟨c'2,hp⟩:=Zj hp
       refine Zg (zf (E:=ZM) (z:=k_) (hO'9.sl 1 rfl) rfl rfl c'2) (Z8 rfl b'3 (Zg (zB (w:=.n (gi firsts k_.toNat)) (hO'9.sl 1 rfl) rfl (Zi c'2) rfl) (Z8 rfl b'3 (Zd (.n x) q'4_11 (Z8 rfl b'3 (Zg (Zck (a:=(gi firsts k_.toNat)) (b:=x) rfl rfl) (Zg (zr (t:=(decide (k_ < (firsts.length:Int)))) (v:=.b t) rfl b'3 (Eq.trans (b:=V.b (!(decide (gi firsts k_.toNat = x)))) rfl (congrArg V.b (Option.some.inj hp)))) ?_)))))))
       refine Zb ?_
       exact ⟨rfl,rfl,q'4_0,q'4_1,q'4_10,q'4_11,q'4_12,q'4_7,q'4_8,q'4_9⟩
      ·skip
       refine Zv rfl b'3 (Zv rfl b'3 (Zv rfl b'3 (Zv rfl b'3 (Zv rfl b'3 (Zv rfl b'3 (Zg (zm (t:=(decide (k_ < (firsts.length:Int)))) (v:=.b t) rfl b'3 (Eq.trans (b:=V.b false) rfl (congrArg V.b (Option.some.inj hp)))) (Zb ?_)))))))
       exact ⟨rfl,rfl,q'4_0,q'4_1,q'4_10,q'4_11,q'4_12,q'4_7,q'4_8,q'4_9⟩
     rintro frg'1 _ ⟨rfl,g'1_41,g'1_0,g'1_1,g'1_10,g'1_11,g'1_12,g'1_7,g'1_8,g'1_9⟩
     refine Zb (Za ?_)
     rcases Zp hp with ⟨b'4,hp⟩ | ⟨b'4,hp⟩
     ·refine zA (t:=t) g'1_41 b'4 ?_
      refine zD (Za (Zaq (Zk (Zd (.n k_) g'1_12 ?_))))
      obtain ⟨c'3,hp⟩:=Zj hp
      refine Zg (z6 (a:=k_) (b:=1) rfl rfl c'3) (Zd (.n (k_ + 1)) rfl (Zb (Zan ?_)))
      cases hp
      exact (Or.inl ⟨k_ + 1,rfl,rfl,g'1_0,g'1_1,g'1_7,g'1_8,g'1_9,g'1_10,g'1_11,rfl,(hO'9.pick [0,1,2,3] rfl (by decide))⟩)
     ·refine z7 (t:=t) g'1_41 b'4 ?_
      refine Zbv (zY ?_)
      cases hp
      refine (Or.inr ⟨k_,rfl,(fun h=>nomatch h),(fun he=>?_)⟩)
      subst he; exact ⟨rfl,g'1_0,g'1_1,g'1_7,g'1_8,g'1_9,g'1_10,g'1_11,g'1_12,(hO'9.pick [0,1,2,3] rfl (by decide))⟩
    intro e'2 q'3 k'5 hJ'2
    obtain ⟨k_1,rfl⟩:∃ x,x = o'3:=⟨_,rfl⟩
    obtain ⟨rfl,q'3_0,q'3_1,q'3_7,q'3_8,q'3_9,q'3_10,q'3_11,q'3_12,hO'8⟩:=hJ'2
    refine ZaD (Za (Zh (Zk (Zd v'3 q'3_7 (Zd (.n v) q'3_10 (Zd (.n k_1) q'3_12 ?_))))))
    obtain ⟨c'4,hp⟩:=Zj hp
    refine Zg (zf (E:=ZM) (z:=v) (hO'8.sl 0 rfl) rfl rfl c'4) (zQ (hO'8.ste (E:=ZM) (y:=k_1) (ws:=[.n k_1]) 0 rfl rfl (Zi c'4) rfl rfl ⟨rfl,Nat.le_of_ble_eq_true rfl,rfl⟩ rfl) ?_)
    rintro _ k'7 ⟨rfl,f'2,m'1,hW⟩
    have hO'10:=hW
    refine Zb (Za (Zh (Zk (Zd (.n k_1) q'3_12 (Zd v'4 q'3_8 (Zg (Zau (hO'10.sl 1 rfl) rfl) (Zg (ZbQ (a:=k_1) (b:=(firsts.length:Int)) rfl rfl) ?_)))))))
    refine Zb (Za ?_)
    rcases Zp hp with ⟨b'5,hp⟩ | ⟨b'5,hp⟩
    ·refine zA (t:=(decide (k_1 = (firsts.length:Int)))) rfl b'5 ?_
     refine Zh (Zk (Zd v'4 q'3_8 (Zd (.n x) q'3_11 (zQ (hO'10.bsl (E:=ZM) (l:=[x]) hO'10.fr (by rw [(zt (v:=.n x) rfl Za2)]; rfl) rfl) ?_))))
     rintro v'7 k'8 ⟨r'2,f'3,hW⟩
     have hO'11:=hW
     obtain ⟨c'5,hp⟩:=Zj hp
     refine zQ (hO'11.app (E:=ZM) (bytes:=8) 1 hO'11.fr rfl (hO'11.sl 4 rfl) rfl rfl (fun _=>rfl) c'5 (by decide)) ?_
     rintro v'8 k'9 ⟨f'4,hW⟩
     have hO'12:=hW
     refine Zd v'8 rfl (Zb (Za (Zh (Zk (Zd (.sn) rfl (Zb (Za ?_)))))))
     refine Zh (Zh (Zk (Zd (.n x) q'3_11 (Zd (.n x) rfl (Zb (Za (Zaq ?_)))))))
     obtain ⟨o'5,ho'3,hp⟩:=Zq hp
     refine W.mono (Q:=fun e fr k=>match (generalizing:=false) o'5 with
       | c1=>e = (.exit 4)∧∃ (v'10:V),fr 0 = v_l∧fr 1 = .n d∧fr 7 = v'3∧fr 8 = v'8∧fr 9 = v'5∧fr 10 = .n v∧fr 13 = v'10∧Own B h k [eSl ZM v'3 (at_.set v.toNat k_1),eSl ZM v'8 (firsts++[x]),eSl eV v'5 vs'2,ZbE ZM vs'2 out,eSl ZM v'10 c1]) ?_ ?_
     ·clear hp
      have hO'14:=hO'12.nil ZM
      refine zP (fun st fr k=>match st with | (c,w)=>∃ (v'9:V),fr 0 = v_l∧fr 1 = .n d∧fr 7 = v'3∧fr 8 = v'8∧fr 9 = v'5∧fr 10 = .n v∧fr 13 = v'9∧fr 14 = .n w∧Own B h k [eSl ZM v'3 (at_.set v.toNat k_1),eSl ZM v'8 (firsts++[x]),eSl eV v'5 vs'2,ZbE ZM vs'2 out,eSl ZM v'9 c]) ho'3 (s:=(([]:List Int),x)) ⟨V.sn,q'3_0,q'3_1,q'3_7,rfl,q'3_9,q'3_10,rfl,rfl,(hO'14.pick [0,1,2,3,5] rfl (by decide))⟩ ?_
      rintro ⟨c,w⟩ q'6 k'11 ⟨v'9,q'6_0,q'6_1,q'6_7,q'6_8,q'6_9,q'6_10,q'6_13,q'6_14,hO'15⟩ o'6 hp
      dsimp only [ZH.s2] at hp
      refine Zh (Zh (Zk (Zd (.n w) q'6_14 (Zg (Zcs (a:=w) (b:=0) rfl rfl) (Zb (Za ?_))))))
      rcases Zp hp with ⟨b'6,hp⟩ | ⟨b'6,hp⟩
      ·refine zA (t:=(decide (0≤w))) rfl b'6 ?_
       refine zD (Za (Zh (Zaq (Zk (Zd v'9 q'6_13 (Zd (.n w) q'6_14 (zQ (hO'15.bsl (E:=ZM) (l:=[w]) hO'15.fr (by rw [(zt (v:=.n w) rfl Za2)]; rfl) rfl) ?_)))))))
       rintro v'11 k'12 ⟨r'3,f'5,hW⟩
       have hO'16:=hW
       obtain ⟨c'6,hp⟩:=Zj hp
       refine zQ (hO'16.app (E:=ZM) (bytes:=8) 4 hO'16.fr rfl (hO'16.sl 5 rfl) rfl rfl (fun _=>rfl) c'6 (by decide)) ?_
       rintro v'12 k'13 ⟨f'6,hW⟩
       have hO'17:=hW
       refine Zd v'12 rfl (Zb (Zan (Za (Zk (Zd v_l q'6_0 (Zd (.n w) q'6_14 (Zd (.n d) q'6_1 ?_)))))))
       obtain ⟨c'7,hp⟩:=Zj hp
       refine Zg (zf (E:=Zn) (z:=w) (hO'17.rd0 s_l.rd) rfl rfl c'7) (Zg (Za1 (off':=0) (off2:=0) (hO'17.rd0 s_l.rd) (Zi c'7) rfl rfl) ?_)
       obtain ⟨c'8,hp⟩:=Zj hp
       refine Zg (ZbC (off:=0) (off2:=(0 + d.toNat * 1)) (z:=d) (hO'17.rd0 s_l.rd) (Zi c'7) rfl rfl c'8 rfl) (Zg (zB (w:=.n (((gi l w.toNat).Next).get d)) (hO'17.rd0 s_l.rd) rfl (Zi c'7) (zO c'8)) (Zd (.n (((gi l w.toNat).Next).get d)) rfl (Zb ?_)))
       cases hp
       exact (Or.inl ⟨(c++[w],((gi l w.toNat).Next).get d),rfl,rfl,v'12,q'6_0,q'6_1,q'6_7,q'6_8,q'6_9,q'6_10,rfl,rfl,(hO'17.pick [0,1,2,3,4] rfl (by decide))⟩)
      ·refine z7 (t:=(decide (0≤w))) rfl b'6 ?_
       refine Zbv (zY ?_)
       cases hp
       refine (Or.inr ⟨c,rfl,(fun h=>nomatch h),(fun he=>?_)⟩)
       subst he; exact ⟨rfl,v'9,q'6_0,q'6_1,q'6_7,q'6_8,q'6_9,q'6_10,q'6_13,(hO'15.pick [0,1,2,3,4] rfl (by decide))⟩
     intro e'3 q'5 k'10 hJ'3
     obtain ⟨c1,rfl⟩:∃ x,x = o'5:=⟨_,rfl⟩
     obtain ⟨rfl,v'10,q'5_0,q'5_1,q'5_7,q'5_8,q'5_9,q'5_10,q'5_13,hO'13⟩:=hJ'3
     refine ZaD (Za (Zk (Zd v'5 q'5_9 (Zd v'10 q'5_13 (zQ (hO'13.bsl (E:=eV) (l:=[v'10]) hO'13.fr (by rw [(zt (v:=v'10) rfl Za2)]; simp only [fill,(hO'13.sl 4 rfl).cells]; simp [over]) rfl) ?_)))))
     rintro v'13 k'14 ⟨r'4,f'7,hW⟩
     have hO'18:=hW
     obtain ⟨c'9,hp⟩:=Zj hp
     refine zQ (hO'18.appV (bytes:=24) 2 hO'18.fr rfl (hO'18.sl 5 rfl) rfl rfl (by simp only [List.all_cons,List.all_nil,Bool.and_true]; exact (hO'18.sl 4 rfl).oneV) (by rw [(hO'18.allLen 3 rfl:(vs'2).length = (out).length)]; exact c'9) (by decide)) ?_
     rintro v'14 k'15 ⟨f'8,hW⟩
     have hO'19:=hW
     have hO'20:=hO'19.absorb 3 4 rfl rfl (by decide)
     refine Zd v'14 rfl (Zb (Zan (Za (Zk (Zd (.n v) q'5_10 ?_)))))
     obtain ⟨c'10,hp⟩:=Zj hp
     refine Zg (z6 (a:=v) (b:=1) rfl rfl c'10) (Zd (.n (v + 1)) rfl (Zb ?_))
     cases hp
     exact (Or.inl ⟨(at_.set v.toNat k_1,firsts++[x],out++[c1],v + 1),rfl,rfl,v'8,v'14,vs'2++[v'10],q'5_0,q'5_1,q'5_7,q'5_8,rfl,rfl,(hO'20.pick [0,1,2,3] rfl (by decide))⟩)
    ·refine z7 (t:=(decide (k_1 = (firsts.length:Int)))) rfl b'5 ?_
     refine zD (Zan (Za (Zk (Zd (.n v) q'3_10 ?_))))
     obtain ⟨c'11,hp⟩:=Zj hp
     refine Zg (z6 (a:=v) (b:=1) rfl rfl c'11) (Zd (.n (v + 1)) rfl (Zb ?_))
     cases hp
     exact (Or.inl ⟨(at_.set v.toNat k_1,firsts,out,v + 1),rfl,rfl,v'4,v'5,vs'2,q'3_0,q'3_1,q'3_7,q'3_8,q'3_9,rfl,(hO'10.pick [0,1,2,3] rfl (by decide))⟩)
  ·refine z7 (t:=(decide (v < (l.length:Int)))) rfl b'1 ?_
   refine Zbv (zY ?_)
   cases hp
   refine (Or.inr ⟨(.inl (at_,out)),rfl,(fun h=>nomatch h),(fun he=>?_)⟩)
   subst he; exact ⟨rfl,v'5,vs'2,q'2_7,q'2_9,(hO'6.pick [0,2,3] rfl (by decide))⟩
 intro e'1 q'1 k'2 hJ'1
 rcases o'1 with ⟨at_1,out1⟩ | _
 ·obtain ⟨rfl,v'6,vs'3,q'1_7,q'1_9,hO'2⟩:=hJ'1
  refine ZaD (Za (Zh (Zk (Zd v'3 q'1_7 (Zd v'6 q'1_9 (Zd v'3 rfl (Zd v'6 rfl ?_)))))))
  refine Zd (.b true) rfl (Zb (Za (Zad (zu (zG (n:=4) (v:=v'3) rfl (zG (n:=5) (v:=v'6) rfl (zG (n:=6) (v:=.b true) rfl ZN))) ?_))))
  cases hp
  exact ⟨v'3,v'6,vs'3,rfl,(hO'2.pick [0,1,2] rfl (by decide))⟩
 ·obtain ⟨rfl,q'1_4,q'1_5,q'1_6,hO'2⟩:=hJ'1
  refine ZaP (zk ?_)
  have hO'21:=hO'2.nil ZM
  have hO'22:=hO'21.nil eV
  have hO'23:=hO'22.allNil ZM 0
  refine zu (zG (n:=4) (v:=.sn) q'1_4 (zG (n:=5) (v:=.sn) q'1_5 (zG (n:=6) (v:=.b false) q'1_6 ZN))) ?_
  cases hp
  exact ⟨V.sn,V.sn,[],rfl,(hO'23.pick [0,1,2] rfl (by decide))⟩

theorem ZaW.ok {h:Hp} {l:List Ze} {v_l:V} (s_l:Sl Zn h v_l l) {r:Zah × Bool} (hp:ZaW l = some r) :
  ∃ u k',Is G 121 [v_l] h u k'∧∃ (v'1:V),∃ (v'2:V),∃ (v'3:V),∃ (vs'1:List V),∃ (v'4:V),∃ (vs'2:List V),V.tu [.ag [v'1,v'2,v'3,v'4],.b r.2] = u∧Own (fun r=>r < h.n) h k' [eSl ZM v'1 r.1.X,eSl ZM v'2 r.1.Y,eSl eV v'3 vs'1,ZbE ZM vs'1 r.1.Vert,eSl eV v'4 vs'2,ZbE ZM vs'2 r.1.Horz]:=by
 refine WC.is (ZaM Zeh ?_)
 unfold ZaW at hp
 let B:Nat→Prop:=(fun r=>r < h.n)
 have hO:Own B h h []:=Own.start0 h
 refine Zh (Zk (zQ (hO.alloc (cs:=[.sn,.sn,.sn,.sn]) hO.fr) ?_))
 rintro _ k'1 ⟨r'1,rfl,n'1,f'1,hW⟩
 have hO'1:=hW
 refine Zd (.b false) rfl (Zb (Za (Zh (Zk (Zd v_l rfl ?_)))))
 obtain ⟨⟨x,x1,x2⟩,hx'1,hp⟩:=Zq hp
 obtain ⟨u'1,k'2,ca'1,v'5,v'6,vs'3,rfl,hW'1⟩:=ZH.ok (h:=k'1)  (hO'1.rd0 s_l.rd) hx'1
 refine Zbd (id:=138) (caps:=[]) rfl (Zu (v:=v_l) rfl (Zu (v:=.n 1) rfl zx)) ca'1 ?_
 have hO'2:=hO'1.call hW'1 rfl
 refine Zd (.tu [v'5,v'6,.b x2]) rfl (Zg (Zb6 (vs:=[v'5,v'6,.b x2]) (v:=v'5) rfl rfl) (Zg (Zb6 (vs:=[v'5,v'6,.b x2]) (v:=v'6) rfl rfl) (Zg (Zb6 (vs:=[v'5,v'6,.b x2]) (v:=.b x2) rfl rfl) (Zd v'5 rfl (Zd v'6 rfl (Zd (.b x2) rfl (Zb ?_)))))))
 refine Za (Zh (Zk (Zd v_l rfl ?_)))
 obtain ⟨⟨x3,x4,x5⟩,hx'2,hp⟩:=Zq hp
 obtain ⟨u'2,k'3,ca'2,v'7,v'8,vs'4,rfl,hW'2⟩:=ZH.ok (h:=k'2)  (hO'2.rd0 s_l.rd) hx'2
 refine Zbd (id:=138) (caps:=[]) rfl (Zu (v:=v_l) rfl (Zu (v:=.n 0) rfl zx)) ca'2 ?_
 have hO'3:=hO'2.call hW'2 rfl
 refine Zd (.tu [v'7,v'8,.b x5]) rfl (Zg (Zb6 (vs:=[v'7,v'8,.b x5]) (v:=v'7) rfl rfl) (Zg (Zb6 (vs:=[v'7,v'8,.b x5]) (v:=v'8) rfl rfl) (Zg (Zb6 (vs:=[v'7,v'8,.b x5]) (v:=.b x5) rfl rfl) (Zd v'7 rfl (Zd v'8 rfl (Zd (.b x5) rfl (Zb ?_)))))))
 refine Za (Zh (Zh (Zk (Zd (.b x2) rfl (Zg (Zc3 (t:=x2) rfl) (Zd (.b (!x2)) rfl ?_))))))
 refine Za0 3 (fun fr' k'=>k'3 = k'∧fr' 27 = .b ((!x2) || (!x5))∧fr' 2 = .p r'1 0∧fr' 4 = v'5∧fr' 5 = v'6∧fr' 7 = v'7∧fr' 8 = v'8) ?_ ?_
 ·rcases bc (!x2) with b'1 | b'1
  ·skip
   refine Zv rfl b'1 (Zv rfl b'1 (Zg (zr (t:=(!x2)) (v:=.b ((!x2) || (!x5))) rfl b'1 (Eq.trans (b:=V.b true) rfl (Zbx b'1))) (Zb ?_)))
   exact ⟨rfl,rfl,rfl,rfl,rfl,rfl,rfl⟩
  ·skip
   refine Z8 rfl b'1 (Zd (.b x5) rfl (Z8 rfl b'1 (Zg (Zc3 (t:=x5) rfl) (Zg (zm (t:=(!x2)) (v:=.b ((!x2) || (!x5))) rfl b'1 (Eq.trans (b:=V.b (!x5)) rfl (Zca b'1))) (Zb ?_)))))
   exact ⟨rfl,rfl,rfl,rfl,rfl,rfl,rfl⟩
 rintro frg'1 _ ⟨rfl,g'1_27,g'1_2,g'1_4,g'1_5,g'1_7,g'1_8⟩
 refine Zb (Za ?_)
 rcases Zp hp with ⟨b'2,hp⟩ | ⟨b'2,hp⟩
 ·refine zA (t:=((!x2) || (!x5))) g'1_27 b'2 ?_
  refine Zh (Zk (Zg (ZbB (cs:=[.sn,.sn,.sn,.sn]) (by rw [Za2]; simp [fill,over,ZfO,ZfM,ZfN,ZfQ,ZfL,ZfP,(Sl.nil:Sl ZM k'3 .sn ([]:List Int)).cells,(Sl.nil:Sl ZM k'3 .sn ([]:List Int)).cells,(Sl.nil:Sl eV k'3 .sn []).cells,(Sl.nil:Sl eV k'3 .sn []).cells])) (zQ (hO'3.stb (ws:=[.sn,.sn,.sn,.sn]) (cs':=[.sn,.sn,.sn,.sn]) (v:=.ag [.sn,.sn,.sn,.sn]) 0 rfl g'1_2 rfl rfl ⟨rfl,Nat.le_of_ble_eq_true rfl,(all_cons (Sl.nil:Sl ZM k'3 .sn ([]:List Int)).oneV (all_cons (Sl.nil:Sl ZM k'3 .sn ([]:List Int)).oneV (all_cons (Sl.nil:Sl eV k'3 .sn []).oneV (all_cons (Sl.nil:Sl eV k'3 .sn []).oneV all_nil))))⟩ rfl) ?_)))
  rintro _ k'4 ⟨rfl,f'2,m'1,hW⟩
  have hO'4:=hW
  refine Zd (.b false) rfl (Zb (Za (Zad (zk ?_))))
  have hO'5:=hO'4.nil ZM
  have hO'6:=hO'5.nil ZM
  have hO'7:=hO'6.nil eV
  have hO'8:=hO'7.allNil ZM 0
  have hO'9:=hO'8.nil eV
  have hO'10:=hO'9.allNil ZM 0
  refine zu (Zg6 (n:=2) (v:=.ag [.sn,.sn,.sn,.sn]) (r:=r'1) g'1_2 (hO'10.box 0 rfl) rfl (zG (n:=3) (v:=.b false) rfl ZN)) ?_
  cases hp
  exact ⟨V.sn,V.sn,V.sn,[],V.sn,[],rfl,(hO'10.pick [7,8,9,10,11,12] rfl (by decide))⟩
 ·refine z7 (t:=((!x2) || (!x5))) g'1_27 b'2 ?_
  refine zD (Za (Zh (Zk (Zd v'5 g'1_4 (Zd v'7 g'1_7 (Zd v'6 g'1_5 (Zd v'8 g'1_8 ?_)))))))
  refine Zg (ZbB (cs:=[v'5,v'7,v'6,v'8]) (by rw [(zt (v:=v'5) rfl (zt (v:=v'7) rfl (zt (v:=v'6) rfl (zt (v:=v'8) rfl Za2))))]; simp [fill,over,ZfO,ZfM,ZfN,ZfQ,ZfL,ZfP,(hO'3.sl 1 rfl).cells,(hO'3.sl 4 rfl).cells,(hO'3.sl 2 rfl).cells,(hO'3.sl 5 rfl).cells])) (zQ (hO'3.stb (ws:=[v'5,v'7,v'6,v'8]) (cs':=[v'5,v'7,v'6,v'8]) (v:=.ag [v'5,v'7,v'6,v'8]) 0 rfl g'1_2 rfl rfl ⟨rfl,Nat.le_of_ble_eq_true rfl,(all_cons (hO'3.sl 1 rfl).oneV (all_cons (hO'3.sl 4 rfl).oneV (all_cons (hO'3.sl 2 rfl).oneV (all_cons (hO'3.sl 5 rfl).oneV all_nil))))⟩ rfl) ?_)
  rintro _ k'5 ⟨rfl,f'3,m'2,hW⟩
  have hO'11:=hW
  refine Zd (.b true) rfl (Zb (Za (Zad (zu (Zg6 (n:=2) (v:=.ag [v'5,v'7,v'6,v'8]) (r:=r'1) g'1_2 (hO'11.box 0 rfl) rfl (zG (n:=3) (v:=.b true) rfl ZN)) ?_))))
  cases hp
  exact ⟨v'5,v'7,v'6,vs'3,v'8,vs'4,rfl,(hO'11.pick [1,4,2,3,5,6] rfl (by decide))⟩

end Mu
