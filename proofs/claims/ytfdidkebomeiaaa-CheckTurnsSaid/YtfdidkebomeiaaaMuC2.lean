/- The code comes to what was worked out. -/
import Derived.Test.YtfdidkebomeiaaaMuDf
import Derived.Test.YtfdidkebomeiaaaMuPa
import Derived.Test.YtfdidkebomeiaaaMuC1
set_option linter.unusedVariables false
set_option linter.unnecessarySimpa false
set_option linter.unusedSimpArgs false
set_option maxHeartbeats 2000000
set_option maxRecDepth 10000
namespace Mu
open Go (IntKind BinOp UnOp)
theorem za.ok {h:Hp} {cells:List Za} {d:Int} {v_cells:V} (s_cells:Sl Zi h v_cells cells) {r:(List Int) × (List (List Int)) × Bool} (hp:za cells d = some r) :
  ∃ u k',Is G 137 [v_cells,.n d] h u k'∧∃ (v'1:V),∃ (v'2:V),∃ (vs'1:List V),V.tu [v'1,v'2,.b r.2.2] = u∧Own (fun r=>r < h.n) h k' [eSl zd v'1 r.1,eSl eV v'2 vs'1,ZbI zd vs'1 r.2.1]:=by
 refine WC.is (Za7 Zec ?_)
 unfold za at hp
 let B:Nat→Prop:=(fun r=>r < h.n)
 have hO:Own B h h []:=Own.start0 h
 refine Zk (Zo (Zf (.sn) rfl (Zf (.sn) rfl (Zf (.b false) rfl (Zd (Zc (Zk ?_)))))))
 refine Zo (zF (hO.bsl (E:=zd) (l:=([(-1)]:List Int)) hO.fr (by rw [(zp (v:=.n (-1)) rfl Zak)]; rfl) rfl) ?_)
 rintro v'3 k'1 ⟨r'1,f'1,hW⟩
 have hO'1:=hW
 refine Zf v_cells rfl (Zj (Za0 (hO'1.rd0 s_cells.rd) rfl) ?_)
 obtain ⟨x,hx'1,hp⟩:=Zs hp
 obtain ⟨u'1,k'2,ca'1,v'4,rfl,hW'1⟩:=zt.ok (h:=k'1)  (hO'1.sl 0 rfl:Sl zd k'1 v'3 ([(-1)]:List Int)) hx'1
 refine ZaN (id:=83) (caps:=[]) rfl (Zu (v:=v'3) rfl (Zu (v:=.n (cells.length:Int)) rfl zi)) ca'1 ?_
 have hO'2:=hO'1.call hW'1 rfl
 refine Zf v'4 rfl (Zd (Zc (Zk (Zo (Zf (.n d) rfl ?_)))))
 obtain ⟨x1,hx'2,hp⟩:=Zs hp
 obtain ⟨u'2,k'3,ca'2,rfl,hW'2⟩:=Za3.ok (h:=k'2)   hx'2
 refine ZaN (id:=77) (caps:=[]) rfl (Zu (v:=.n d) rfl (Zu (v:=.n 2) rfl zi)) ca'2 ?_
 have hO'3:=hO'2.call hW'2 rfl
 refine Zf (.n x1) rfl (Zd (Zc (Zk (Zo (Zf (.sn) rfl (Zd (Zc ?_)))))))
 refine Zk (Zk (Zo (Zf v_cells rfl (Zj (Za0 (hO'3.rd0 s_cells.rd) rfl) (Zf (.n 0) rfl (Zd (Zc ?_)))))))
 refine Zas ?_
 obtain ⟨o'1,ho'1,hp⟩:=Zs hp
 refine W.mono (Q:=fun e fr k=>match (generalizing:=false) o'1 with
   | .inl (at_1,l1)=>e = (.exit 0)∧∃ (v'6:V),∃ (vs'3:List V),fr 7 = v'4∧fr 9 = v'6∧Own B h k [eSl zd v'4 at_1,eSl eV v'6 vs'3,ZbI zd vs'3 l1]
   | .inr _=>e = .ret∧fr 4 = .sn∧fr 5 = .sn∧fr 6 = .b false∧Own B h k []) ?_ ?_
 ·clear hp
  have hO'5:=hO'3.nil eV
  have hO'6:=hO'5.allNil zd 0
  refine zR (fun st fr k=>match st with | (at_,l,x2)=>∃ (v'5:V),∃ (vs'2:List V),fr 0 = v_cells∧fr 1 = .n d∧fr 7 = v'4∧fr 8 = .n x1∧fr 9 = v'5∧fr 22 = .n (cells.length:Int)∧fr 23 = .n x2∧Own B h k [eSl zd v'4 at_,eSl eV v'5 vs'2,ZbI zd vs'2 l]) ho'1 (s:=(x,([]:List (List Int)),0)) ⟨V.sn,[],rfl,rfl,rfl,rfl,rfl,rfl,rfl,(hO'6.pick [1,2,3] rfl (by decide))⟩ ?_
  rintro ⟨at_,l,x2⟩ q'2 k'5 ⟨v'5,vs'2,q'2_0,q'2_1,q'2_7,q'2_8,q'2_9,q'2_22,q'2_23,hO'7⟩ o'2 hp
  dsimp only [za.s0] at hp
  refine Zk (Zo (Zj (zL (a:=x2) (b:=(cells.length:Int)) q'2_23 q'2_22) (Zd (Zc (Zk ?_)))))
  rcases Zt hp with ⟨b'1,hp⟩ | ⟨b'1,hp⟩
  ·refine zK (t:=(decide (x2 < (cells.length:Int)))) rfl b'1 ?_
   refine zN (Zc (Zk (Zas (Zk (Zo (Zf (.n x2) q'2_23 (Zf (.n x2) rfl ?_)))))))
   refine Zd (Zc (Zk (Zk (Zo (Zf v'4 q'2_7 (Zf (.n x2) rfl ?_))))))
   obtain ⟨c'1,hp⟩:=Zm hp
   refine Zj (zq (E:=zd) (z:=x2) (hO'7.sl 0 rfl) rfl rfl c'1) (Zj (zO (w:=.n (gi at_ x2.toNat)) (hO'7.sl 0 rfl) rfl (Zl c'1) rfl) (Zj (Zcy (a:=(gi at_ x2.toNat)) (b:=0) rfl rfl) (Zd (Zc ?_))))
   rcases Zt hp with ⟨b'2,hp⟩ | ⟨b'2,hp⟩
   ·refine zK (t:=(decide (0≤(gi at_ x2.toNat)))) rfl b'2 ?_
    refine Zbp (zZ (ZaJ (Zc (Zo ?_))))
    obtain ⟨c'2,hp⟩:=Zm hp
    refine Zj (zH (a:=x2) (b:=1) q'2_23 rfl c'2) (Zf (.n (x2 + 1)) rfl (Zd ?_))
    cases hp
    exact (Or.inl ⟨(at_,l,x2 + 1),rfl,rfl,v'5,vs'2,q'2_0,q'2_1,q'2_7,q'2_8,q'2_9,q'2_22,rfl,(hO'7.pick [0,1,2] rfl (by decide))⟩)
   ·refine zG (t:=(decide (0≤(gi at_ x2.toNat)))) rfl b'2 ?_
    refine zN (Zc (Zk (Zo (Zf (.n x2) rfl (Zf (.n x2) rfl (Zd (Zc ?_)))))))
    refine Zk (Zk (Zo (Zf (.n 0) rfl (Zd (Zc (Zas ?_))))))
    obtain ⟨o'3,ho'2,hp⟩:=Zs hp
    refine W.mono (Q:=fun e fr k=>match (generalizing:=false) o'3 with
      | .inl first1=>e = (.exit 2)∧fr 0 = v_cells∧fr 1 = .n d∧fr 7 = v'4∧fr 8 = .n x1∧fr 9 = v'5∧fr 11 = .n first1∧fr 22 = .n (cells.length:Int)∧fr 23 = .n x2∧Own B h k [eSl zd v'4 at_,eSl eV v'5 vs'2,ZbI zd vs'2 l]
      | .inr _=>e = .ret∧fr 4 = .sn∧fr 5 = .sn∧fr 6 = .b false∧Own B h k []) ?_ ?_
    ·clear hp
     refine zR (fun st fr k=>match st with | (first,n)=>fr 0 = v_cells∧fr 1 = .n d∧fr 7 = v'4∧fr 8 = .n x1∧fr 9 = v'5∧fr 11 = .n first∧fr 12 = .n n∧fr 22 = .n (cells.length:Int)∧fr 23 = .n x2∧Own B h k [eSl zd v'4 at_,eSl eV v'5 vs'2,ZbI zd vs'2 l]) ho'2 (s:=(x2,0)) ⟨q'2_0,q'2_1,q'2_7,q'2_8,q'2_9,rfl,rfl,q'2_22,q'2_23,(hO'7.pick [0,1,2] rfl (by decide))⟩ ?_
     rintro ⟨first,n⟩ q'4 k'7 ⟨q'4_0,q'4_1,q'4_7,q'4_8,q'4_9,q'4_11,q'4_12,q'4_22,q'4_23,hO'9⟩ o'4 hp
     dsimp only [za.s1] at hp
     refine Zk (Zk (Zo (Zf v_cells q'4_0 (Zf (.n first) q'4_11 (Zf (.n x1) q'4_8 ?_)))))
     obtain ⟨c'3,hp⟩:=Zm hp
     refine Zj (zq (E:=Zi) (z:=first) (hO'9.rd0 s_cells.rd) rfl rfl c'3) (Zj (Zax (off':=0) (off2:=0) (hO'9.rd0 s_cells.rd) (Zl c'3) rfl rfl) ?_)
     obtain ⟨c'4,hp⟩:=Zm hp
     refine Zj (Zb3 (off:=0) (off2:=(0 + x1.toNat * 1)) (z:=x1) (hO'9.rd0 s_cells.rd) (Zl c'3) rfl rfl c'4 rfl) (Zj (zO (w:=.n (((gi cells first.toNat).Next).get x1)) (hO'9.rd0 s_cells.rd) rfl (Zl c'3) (zI c'4)) (Zj (Zcy (a:=(((gi cells first.toNat).Next).get x1)) (b:=0) rfl rfl) (Zd (Zc ?_))))
     rcases Zt hp with ⟨b'3,hp⟩ | ⟨b'3,hp⟩
     ·refine zK (t:=(decide (0≤(((gi cells first.toNat).Next).get x1)))) rfl b'3 ?_
      refine zN (Zc (Zk (Zas (Zk (Zk (Zo (Zf (.n n) q'4_12 ?_)))))))
      refine Zf v_cells q'4_0 (Zj (Za0 (hO'9.rd0 s_cells.rd) rfl) (Zj (Zb2 (a:=n) (b:=(cells.length:Int)) rfl rfl) (Zd (Zc ?_))))
      rcases Zt hp with ⟨b'4,hp⟩ | ⟨b'4,hp⟩
      ·refine zK (t:=(decide (n = (cells.length:Int)))) rfl b'4 ?_
       refine Zk (Zo (Zf (.sn) rfl (Zf (.sn) rfl (Zf (.b false) rfl (Zd (Zc (zY ?_)))))))
       refine z5 (Zbd (z5 ?_))
       cases hp
       refine (Or.inr ⟨.inr (),rfl,(fun h=>nomatch h),(fun he=>?_)⟩)
       subst he; exact ⟨rfl,rfl,rfl,rfl,(hO'9.pick [] rfl (by decide))⟩
      ·refine zG (t:=(decide (n = (cells.length:Int)))) rfl b'4 ?_
       refine zN (Zc (Zo (Zf v_cells q'4_0 (Zf (.n first) q'4_11 (Zf (.n x1) q'4_8 (Zj (zq (E:=Zi) (z:=first) (hO'9.rd0 s_cells.rd) rfl rfl c'3) (Zj (Zax (off':=0) (off2:=0) (hO'9.rd0 s_cells.rd) (Zl c'3) rfl rfl) ?_)))))))
       refine Zj (Zb3 (off:=0) (off2:=(0 + x1.toNat * 1)) (z:=x1) (hO'9.rd0 s_cells.rd) (Zl c'3) rfl rfl c'4 rfl) (Zj (zO (w:=.n (((gi cells first.toNat).Next).get x1)) (hO'9.rd0 s_cells.rd) rfl (Zl c'3) (zI c'4)) (Zf (.n (((gi cells first.toNat).Next).get x1)) rfl (Zd (Zan (Zc (Zo (Zf (.n n) q'4_12 ?_)))))))
       obtain ⟨c'5,hp⟩:=Zm hp
       refine Zj (zH (a:=n) (b:=1) rfl rfl c'5) (Zf (.n (n + 1)) rfl (Zd ?_))
       cases hp
       exact (Or.inl ⟨(((gi cells first.toNat).Next).get x1,n + 1),rfl,rfl,q'4_0,q'4_1,q'4_7,q'4_8,q'4_9,rfl,rfl,q'4_22,q'4_23,(hO'9.pick [0,1,2] rfl (by decide))⟩)
     ·refine zG (t:=(decide (0≤(((gi cells first.toNat).Next).get x1)))) rfl b'3 ?_
      refine Zbp (zZ ?_)
      cases hp
      refine (Or.inr ⟨.inl first,rfl,(fun h=>nomatch h),(fun he=>?_)⟩)
      subst he; exact ⟨rfl,q'4_0,q'4_1,q'4_7,q'4_8,q'4_9,q'4_11,q'4_22,q'4_23,(hO'9.pick [0,1,2] rfl (by decide))⟩
    intro e'2 q'3 k'6 hJ'2
    rcases o'3 with first1 | _
    ·obtain ⟨rfl,q'3_0,q'3_1,q'3_7,q'3_8,q'3_9,q'3_11,q'3_22,q'3_23,hO'8⟩:=hJ'2
     refine ZaJ (Zc (Zk (Zo (Zf (.sn) rfl (Zd (Zc (Zk ?_)))))))
     refine Zk (Zo (Zf (.n first1) q'3_11 (Zf (.n first1) rfl (Zd (Zc (Zas ?_))))))
     obtain ⟨o'5,ho'3,hp⟩:=Zs hp
     refine W.mono (Q:=fun e fr k=>match (generalizing:=false) o'5 with
       | (at_3,chain1)=>e = (.exit 4)∧∃ (v'8:V),fr 0 = v_cells∧fr 1 = .n d∧fr 7 = v'4∧fr 8 = .n x1∧fr 9 = v'5∧fr 13 = v'8∧fr 22 = .n (cells.length:Int)∧fr 23 = .n x2∧Own B h k [eSl zd v'4 at_3,eSl eV v'5 vs'2,ZbI zd vs'2 l,eSl zd v'8 chain1]) ?_ ?_
     ·clear hp
      have hO'11:=hO'8.nil zd
      refine zR (fun st fr k=>match st with | (at_2,chain,w)=>∃ (v'7:V),fr 0 = v_cells∧fr 1 = .n d∧fr 7 = v'4∧fr 8 = .n x1∧fr 9 = v'5∧fr 13 = v'7∧fr 14 = .n w∧fr 22 = .n (cells.length:Int)∧fr 23 = .n x2∧Own B h k [eSl zd v'4 at_2,eSl eV v'5 vs'2,ZbI zd vs'2 l,eSl zd v'7 chain]) ho'3 (s:=(at_,([]:List Int),first1)) ⟨V.sn,q'3_0,q'3_1,q'3_7,q'3_8,q'3_9,rfl,rfl,q'3_22,q'3_23,(hO'11.pick [0,1,2,3] rfl (by decide))⟩ ?_
      rintro ⟨at_2,chain,w⟩ q'6 k'9 ⟨v'7,q'6_0,q'6_1,q'6_7,q'6_8,q'6_9,q'6_13,q'6_14,q'6_22,q'6_23,hO'12⟩ o'6 hp
      dsimp only [za.s2] at hp
      refine Zk (Zk (Zo (Zf (.n w) q'6_14 (Zj (Zcy (a:=w) (b:=0) rfl rfl) (Zd (Zc ?_))))))
      rcases Zt hp with ⟨b'5,hp⟩ | ⟨b'5,hp⟩
      ·refine zK (t:=(decide (0≤w))) rfl b'5 ?_
       refine zN (Zc (Zk (Zas (Zk (Zo (Zf v'4 q'6_7 (Zf (.n w) q'6_14 ?_)))))))
       refine Zf v'5 q'6_9 (Zj (ZeQ (n:=(l).length) (hO'12.sl 1 rfl) (hO'12.allLen 2 rfl:(vs'2).length = (l).length) rfl) ?_)
       obtain ⟨c'6,hp⟩:=Zm hp
       refine Zj (zq (E:=zd) (z:=w) (hO'12.sl 0 rfl) rfl rfl c'6) (zF (hO'12.ste (E:=zd) (y:=(l.length:Int)) (ws:=[.n (l.length:Int)]) 0 rfl rfl (Zl c'6) rfl rfl ⟨rfl,Nat.le_of_ble_eq_true rfl,rfl⟩ rfl) ?_)
       rintro _ k'10 ⟨rfl,f'2,m'1,hW⟩
       have hO'13:=hW
       refine Zd (Zc (Zo (Zf v'7 q'6_13 (Zf (.n w) q'6_14 (zF (hO'13.bsl (E:=zd) (l:=[w]) hO'13.fr (by rw [(zp (v:=.n w) rfl Zak)]; rfl) rfl) ?_)))))
       rintro v'9 k'11 ⟨r'2,f'3,hW⟩
       have hO'14:=hW
       obtain ⟨c'7,hp⟩:=Zm hp
       refine zF (hO'14.app (E:=zd) (bytes:=8) 3 hO'14.fr rfl (hO'14.sl 4 rfl) rfl rfl (fun _=>rfl) c'7 (by decide)) ?_
       rintro v'10 k'12 ⟨f'4,hW⟩
       have hO'15:=hW
       refine Zf v'10 rfl (Zd (Zan (Zc (Zo (Zf v_cells q'6_0 (Zf (.n w) q'6_14 (Zf (.n d) q'6_1 ?_)))))))
       obtain ⟨c'8,hp⟩:=Zm hp
       refine Zj (zq (E:=Zi) (z:=w) (hO'15.rd0 s_cells.rd) rfl rfl c'8) (Zj (Zax (off':=0) (off2:=0) (hO'15.rd0 s_cells.rd) (Zl c'8) rfl rfl) ?_)
       obtain ⟨c'9,hp⟩:=Zm hp
       refine Zj (Zb3 (off:=0) (off2:=(0 + d.toNat * 1)) (z:=d) (hO'15.rd0 s_cells.rd) (Zl c'8) rfl rfl c'9 rfl) (Zj (zO (w:=.n (((gi cells w.toNat).Next).get d)) (hO'15.rd0 s_cells.rd) rfl (Zl c'8) (zI c'9)) (Zf (.n (((gi cells w.toNat).Next).get d)) rfl (Zd ?_)))
       cases hp
       exact (Or.inl ⟨(at_2.set w.toNat (l.length:Int),chain++[w],((gi cells w.toNat).Next).get d),rfl,rfl,v'10,q'6_0,q'6_1,q'6_7,q'6_8,q'6_9,rfl,rfl,q'6_22,q'6_23,(hO'15.pick [0,1,2,3] rfl (by decide))⟩)
      ·refine zG (t:=(decide (0≤w))) rfl b'5 ?_
       refine Zbp (zZ ?_)
       cases hp
       refine (Or.inr ⟨(at_2,chain),rfl,(fun h=>nomatch h),(fun he=>?_)⟩)
       subst he; exact ⟨rfl,v'7,q'6_0,q'6_1,q'6_7,q'6_8,q'6_9,q'6_13,q'6_22,q'6_23,(hO'12.pick [0,1,2,3] rfl (by decide))⟩
     intro e'3 q'5 k'8 hJ'3
     obtain ⟨at_3,chain1⟩:=o'5
     obtain ⟨rfl,v'8,q'5_0,q'5_1,q'5_7,q'5_8,q'5_9,q'5_13,q'5_22,q'5_23,hO'10⟩:=hJ'3
     refine ZaJ (Zc (Zo (Zf v'5 q'5_9 (Zf v'8 q'5_13 (zF (hO'10.bsl (E:=eV) (l:=[v'8]) hO'10.fr (by rw [(zp (v:=v'8) rfl Zak)]; simp only [fill,(hO'10.sl 3 rfl).cells]; simp [over]) rfl) ?_)))))
     rintro v'11 k'13 ⟨r'3,f'5,hW⟩
     have hO'16:=hW
     obtain ⟨c'10,hp⟩:=Zm hp
     refine zF (hO'16.appV (bytes:=24) 1 hO'16.fr rfl (hO'16.sl 4 rfl) rfl rfl (by simp only [List.all_cons,List.all_nil,Bool.and_true]; exact (hO'16.sl 3 rfl).oneV) (by rw [(hO'16.allLen 2 rfl:(vs'2).length = (l).length)]; exact c'10) (by decide)) ?_
     rintro v'12 k'14 ⟨f'6,hW⟩
     have hO'17:=hW
     have hO'18:=hO'17.absorb 2 3 rfl rfl (by decide)
     refine Zf v'12 rfl (Zd (Zan (Zc (Zo ?_))))
     obtain ⟨c'11,hp⟩:=Zm hp
     refine Zj (zH (a:=x2) (b:=1) q'5_23 rfl c'11) (Zf (.n (x2 + 1)) rfl (Zd ?_))
     cases hp
     exact (Or.inl ⟨(at_3,l++[chain1],x2 + 1),rfl,rfl,v'12,vs'2++[v'8],q'5_0,q'5_1,q'5_7,q'5_8,rfl,q'5_22,rfl,(hO'18.pick [0,1,2] rfl (by decide))⟩)
    ·obtain ⟨rfl,q'3_4,q'3_5,q'3_6,hO'8⟩:=hJ'2
     refine Zbd (z5 (Zbd (z5 ?_)))
     cases hp
     refine (Or.inr ⟨.inr (),rfl,(fun h=>nomatch h),(fun he=>?_)⟩)
     subst he; exact ⟨rfl,q'3_4,q'3_5,q'3_6,(hO'8.pick [] rfl (by decide))⟩
  ·refine zG (t:=(decide (x2 < (cells.length:Int)))) rfl b'1 ?_
   refine Zbp (zZ ?_)
   cases hp
   refine (Or.inr ⟨(.inl (at_,l)),rfl,(fun h=>nomatch h),(fun he=>?_)⟩)
   subst he; exact ⟨rfl,v'5,vs'2,q'2_7,q'2_9,(hO'7.pick [0,1,2] rfl (by decide))⟩
 intro e'1 q'1 k'4 hJ'1
 rcases o'1 with ⟨at_1,l1⟩ | _
 ·obtain ⟨rfl,v'6,vs'3,q'1_7,q'1_9,hO'4⟩:=hJ'1
  refine ZaJ (Zc (Zk (Zo (Zf v'4 q'1_7 (Zf v'6 q'1_9 (Zf v'4 rfl (Zf v'6 rfl ?_)))))))
  refine Zf (.b true) rfl (Zd (Zc (zY (zx (zC (n:=4) (v:=v'4) rfl (zC (n:=5) (v:=v'6) rfl (zC (n:=6) (v:=.b true) rfl ZS))) ?_))))
  cases hp
  exact ⟨v'4,v'6,vs'3,rfl,(hO'4.pick [0,1,2] rfl (by decide))⟩
 ·obtain ⟨rfl,q'1_4,q'1_5,q'1_6,hO'4⟩:=hJ'1
  refine Zbd (z5 ?_)
  have hO'19:=hO'4.nil zd
  have hO'20:=hO'19.nil eV
  have hO'21:=hO'20.allNil zd 0
  refine zx (zC (n:=4) (v:=.sn) q'1_4 (zC (n:=5) (v:=.sn) q'1_5 (zC (n:=6) (v:=.b false) q'1_6 ZS))) ?_
  cases hp
  exact ⟨V.sn,V.sn,[],rfl,(hO'21.pick [0,1,2] rfl (by decide))⟩

theorem Zcg.ok {h:Hp} {cells:List Za} {v_cells:V} (s_cells:Sl Zi h v_cells cells) {r:Zag × Int} (hp:Zcg cells = some r) :
  ∃ u k',Is G 120 [v_cells] h u k'∧∃ (v'1:V),∃ (v'2:V),∃ (v'3:V),∃ (vs'1:List V),∃ (v'4:V),∃ (vs'2:List V),V.tu [.ag [v'1,v'2,v'3,v'4],.n r.2] = u∧Own (fun r=>r < h.n) h k' [eSl zd v'1 r.1.X,eSl zd v'2 r.1.Y,eSl eV v'3 vs'1,ZbI zd vs'1 r.1.Vert,eSl eV v'4 vs'2,ZbI zd vs'2 r.1.Horz]:=by
 refine WC.is (Za7 Zfy ?_)
 unfold Zcg at hp
 let B:Nat→Prop:=(fun r=>r < h.n)
 have hO:Own B h h []:=Own.start0 h
 refine Zk (Zo (zF (hO.alloc (cs:=[.sn,.sn,.sn,.sn]) hO.fr) ?_))
 rintro _ k'1 ⟨r'1,rfl,n'1,f'1,hW⟩
 have hO'1:=hW
 refine Zf (.n 0) rfl (Zd (Zc (Zk (Zk (Zo (Zf v_cells rfl ?_))))))
 obtain ⟨x,hx'1,hp⟩:=Zs hp
 obtain ⟨u'1,k'2,ca'1,rfl,hW'1⟩:=zg.ok (h:=k'1)  (hO'1.rd0 s_cells.rd) hx'1
 refine ZaN (id:=66) (caps:=[]) rfl (Zu (v:=v_cells) rfl zi) ca'1 ?_
 have hO'2:=hO'1.call hW'1 rfl
 refine Zf (.n x) rfl (Zd (Zc (Zk (Zo (Zf (.n x) rfl (Zj (ZcM (a:=x) (b:=0) rfl rfl) (Zd ?_)))))))
 refine Zc ?_
 rcases Zt hp with ⟨b'1,hp⟩ | ⟨b'1,hp⟩
 ·refine zK (t:=(!(decide (x = 0)))) rfl b'1 ?_
  refine Zk (Zo (Zj (Zbh (cs:=[.sn,.sn,.sn,.sn]) (by rw [Zak]; simp [fill,over,Zg8,Zg6,Zg7,ZgA,Zg5,Zg9,(Sl.nil:Sl zd k'2 .sn ([]:List Int)).cells,(Sl.nil:Sl zd k'2 .sn ([]:List Int)).cells,(Sl.nil:Sl eV k'2 .sn []).cells,(Sl.nil:Sl eV k'2 .sn []).cells])) (Zf (.n x) rfl (zF (hO'2.stb (ws:=[.sn,.sn,.sn,.sn]) (cs':=[.sn,.sn,.sn,.sn]) (v:=.ag [.sn,.sn,.sn,.sn]) 0 rfl rfl rfl rfl ⟨rfl,Nat.le_of_ble_eq_true rfl,(all_cons (Sl.nil:Sl zd k'2 .sn ([]:List Int)).oneV (all_cons (Sl.nil:Sl zd k'2 .sn ([]:List Int)).oneV (all_cons (Sl.nil:Sl eV k'2 .sn []).oneV (all_cons (Sl.nil:Sl eV k'2 .sn []).oneV all_nil))))⟩ rfl) ?_))))
  rintro _ k'3 ⟨rfl,f'2,m'1,hW⟩
  have hO'3:=hW
  refine Zf (.n x) rfl (Zd (Zc (zY (z5 ?_))))
  have hO'4:=hO'3.nil zd
  have hO'5:=hO'4.nil zd
  have hO'6:=hO'5.nil eV
  have hO'7:=hO'6.allNil zd 0
  have hO'8:=hO'7.nil eV
  have hO'9:=hO'8.allNil zd 0
  refine zx (ZiP (n:=2) (v:=.ag [.sn,.sn,.sn,.sn]) (r:=r'1) rfl (hO'9.box 0 rfl) rfl (zC (n:=3) (v:=.n x) rfl ZS)) ?_
  cases hp
  exact ⟨V.sn,V.sn,V.sn,[],V.sn,[],rfl,(hO'9.pick [1,2,3,4,5,6] rfl (by decide))⟩
 ·refine zG (t:=(!(decide (x = 0)))) rfl b'1 ?_
  refine zN (Zc (Zk (Zo (Zf v_cells rfl ?_))))
  obtain ⟨⟨x1,x2,x3⟩,hx'2,hp⟩:=Zs hp
  obtain ⟨u'2,k'4,ca'2,v'5,v'6,vs'3,rfl,hW'2⟩:=za.ok (h:=k'2)  (hO'2.rd0 s_cells.rd) hx'2
  refine ZaN (id:=137) (caps:=[]) rfl (Zu (v:=v_cells) rfl (Zu (v:=.n 1) rfl zi)) ca'2 ?_
  have hO'10:=hO'2.call hW'2 rfl
  refine Zf (.tu [v'5,v'6,.b x3]) rfl (Zj (Zbn (vs:=[v'5,v'6,.b x3]) (v:=v'5) rfl rfl) (Zj (Zbn (vs:=[v'5,v'6,.b x3]) (v:=v'6) rfl rfl) (Zj (Zbn (vs:=[v'5,v'6,.b x3]) (v:=.b x3) rfl rfl) (Zf v'5 rfl (Zf v'6 rfl (Zf (.b x3) rfl (Zd ?_)))))))
  refine Zc (Zk (Zo (Zf v_cells rfl ?_)))
  obtain ⟨⟨x4,x5,x6⟩,hx'3,hp⟩:=Zs hp
  obtain ⟨u'3,k'5,ca'3,v'7,v'8,vs'4,rfl,hW'3⟩:=za.ok (h:=k'4)  (hO'10.rd0 s_cells.rd) hx'3
  refine ZaN (id:=137) (caps:=[]) rfl (Zu (v:=v_cells) rfl (Zu (v:=.n 0) rfl zi)) ca'3 ?_
  have hO'11:=hO'10.call hW'3 rfl
  refine Zf (.tu [v'7,v'8,.b x6]) rfl (Zj (Zbn (vs:=[v'7,v'8,.b x6]) (v:=v'7) rfl rfl) (Zj (Zbn (vs:=[v'7,v'8,.b x6]) (v:=v'8) rfl rfl) (Zj (Zbn (vs:=[v'7,v'8,.b x6]) (v:=.b x6) rfl rfl) (Zf v'7 rfl (Zf v'8 rfl (Zf (.b x6) rfl (Zd ?_)))))))
  refine Zc (Zk (Zk (Zo (Zf (.b x3) rfl (Zj (Zdd (t:=x3) rfl) (Zf (.b (!x3)) rfl ?_))))))
  refine ZaF 3 (fun fr' k'=>k'5 = k'∧fr' 34 = .b ((!x3) || (!x6))∧fr' 2 = .p r'1 0∧fr' 5 = v'5∧fr' 6 = v'6∧fr' 8 = v'7∧fr' 9 = v'8) ?_ ?_
  ·rcases bc (!x3) with b'2 | b'2
   ·skip
    refine Z1 rfl b'2 (Z1 rfl b'2 (Zj (zn (t:=(!x3)) (v:=.b ((!x3) || (!x6))) rfl b'2 (Eq.trans (b:=V.b true) rfl (Zbz b'2))) (Zd ?_)))
    exact ⟨rfl,rfl,rfl,rfl,rfl,rfl,rfl⟩
   ·skip
    refine ZM rfl b'2 (Zf (.b x6) rfl (ZM rfl b'2 (Zj (Zdd (t:=x6) rfl) (Zj (ze (t:=(!x3)) (v:=.b ((!x3) || (!x6))) rfl b'2 (Eq.trans (b:=V.b (!x6)) rfl (Zcf b'2))) (Zd ?_)))))
    exact ⟨rfl,rfl,rfl,rfl,rfl,rfl,rfl⟩
  rintro frg'1 _ ⟨rfl,g'1_34,g'1_2,g'1_5,g'1_6,g'1_8,g'1_9⟩
  refine Zd (Zc ?_)
  rcases Zt hp with ⟨b'3,hp⟩ | ⟨b'3,hp⟩
  ·refine zK (t:=((!x3) || (!x6))) g'1_34 b'3 ?_
   refine Zk (Zo (Zj (Zbh (cs:=[.sn,.sn,.sn,.sn]) (by rw [Zak]; simp [fill,over,Zg8,Zg6,Zg7,ZgA,Zg5,Zg9,(Sl.nil:Sl zd k'5 .sn ([]:List Int)).cells,(Sl.nil:Sl zd k'5 .sn ([]:List Int)).cells,(Sl.nil:Sl eV k'5 .sn []).cells,(Sl.nil:Sl eV k'5 .sn []).cells])) (zF (hO'11.stb (ws:=[.sn,.sn,.sn,.sn]) (cs':=[.sn,.sn,.sn,.sn]) (v:=.ag [.sn,.sn,.sn,.sn]) 0 rfl g'1_2 rfl rfl ⟨rfl,Nat.le_of_ble_eq_true rfl,(all_cons (Sl.nil:Sl zd k'5 .sn ([]:List Int)).oneV (all_cons (Sl.nil:Sl zd k'5 .sn ([]:List Int)).oneV (all_cons (Sl.nil:Sl eV k'5 .sn []).oneV (all_cons (Sl.nil:Sl eV k'5 .sn []).oneV all_nil))))⟩ rfl) ?_)))
   rintro _ k'6 ⟨rfl,f'3,m'2,hW⟩
   have hO'12:=hW
   refine Zf (.n 10) rfl (Zd (Zc (zY (z5 ?_))))
   have hO'13:=hO'12.nil zd
   have hO'14:=hO'13.nil zd
   have hO'15:=hO'14.nil eV
   have hO'16:=hO'15.allNil zd 0
   have hO'17:=hO'16.nil eV
   have hO'18:=hO'17.allNil zd 0
   refine zx (ZiP (n:=2) (v:=.ag [.sn,.sn,.sn,.sn]) (r:=r'1) g'1_2 (hO'18.box 0 rfl) rfl (zC (n:=3) (v:=.n 10) rfl ZS)) ?_
   cases hp
   exact ⟨V.sn,V.sn,V.sn,[],V.sn,[],rfl,(hO'18.pick [7,8,9,10,11,12] rfl (by decide))⟩
  ·refine zG (t:=((!x3) || (!x6))) g'1_34 b'3 ?_
   refine zN (Zc (Zk (Zo (Zf v'5 g'1_5 (Zf v'7 g'1_8 (Zf v'6 g'1_6 (Zf v'8 g'1_9 ?_)))))))
   refine Zj (Zbh (cs:=[v'5,v'7,v'6,v'8]) (by rw [(zp (v:=v'5) rfl (zp (v:=v'7) rfl (zp (v:=v'6) rfl (zp (v:=v'8) rfl Zak))))]; simp [fill,over,Zg8,Zg6,Zg7,ZgA,Zg5,Zg9,(hO'11.sl 1 rfl).cells,(hO'11.sl 4 rfl).cells,(hO'11.sl 2 rfl).cells,(hO'11.sl 5 rfl).cells])) (zF (hO'11.stb (ws:=[v'5,v'7,v'6,v'8]) (cs':=[v'5,v'7,v'6,v'8]) (v:=.ag [v'5,v'7,v'6,v'8]) 0 rfl g'1_2 rfl rfl ⟨rfl,Nat.le_of_ble_eq_true rfl,(all_cons (hO'11.sl 1 rfl).oneV (all_cons (hO'11.sl 4 rfl).oneV (all_cons (hO'11.sl 2 rfl).oneV (all_cons (hO'11.sl 5 rfl).oneV all_nil))))⟩ rfl) ?_)
   rintro _ k'7 ⟨rfl,f'4,m'3,hW⟩
   have hO'19:=hW
   refine Zf (.n 0) rfl (Zd (Zc (zY (zx (ZiP (n:=2) (v:=.ag [v'5,v'7,v'6,v'8]) (r:=r'1) g'1_2 (hO'19.box 0 rfl) rfl (zC (n:=3) (v:=.n 0) rfl ZS)) ?_))))
   cases hp
   exact ⟨v'5,v'7,v'6,vs'3,v'8,vs'4,rfl,(hO'19.pick [1,4,2,3,5,6] rfl (by decide))⟩

theorem Zai.ok {h:Hp} {c:Zag} {v_c_X:V} {v_c_Y:V} {v_c_Vert:V} {vs_c_Vert:List V} {v_c_Horz:V} {vs_c_Horz:List V} (s_c_X:Sl zd h v_c_X c.X) (s_c_Y:Sl zd h v_c_Y c.Y) (sN_c_Vert:Sl eV h v_c_Vert vs_c_Vert) (lN_c_Vert:vs_c_Vert.length = c.Vert.length) (iN_c_Vert:∀ j,j < c.Vert.length→Sl zd h (gi vs_c_Vert j) (gi c.Vert j)) (sN_c_Horz:Sl eV h v_c_Horz vs_c_Horz) (lN_c_Horz:vs_c_Horz.length = c.Horz.length) (iN_c_Horz:∀ j,j < c.Horz.length→Sl zd h (gi vs_c_Horz j) (gi c.Horz j)) {r:(List zu)} (hp:Zai c = some r) :
  ∃ u k',Is G 209 [.ag [v_c_X,v_c_Y,v_c_Vert,v_c_Horz]] h u k'∧∃ (v'1:V),v'1 = u∧Own (fun r=>r < h.n) h k' [eSl Z4 v'1 r]:=by
 refine WC.is (Za7 Zew ?_)
 unfold Zai at hp
 let B:Nat→Prop:=(fun r=>r < h.n)
 have hO:Own B h h []:=Own.start0 h
 refine Zk (Zo (zF (hO.boxd (v:=.ag [v_c_X,v_c_Y,v_c_Vert,v_c_Horz]) (cs:=[v_c_X,v_c_Y,v_c_Vert,v_c_Horz]) hO.fr rfl rfl) ?_))
 rintro _ k'1 ⟨r'1,rfl,n'1,f'1,hW⟩
 have hO'1:=hW
 refine Zf (.sn) rfl (Zd (Zc (Zk (Zo (Zf (.sn) rfl (Zd (Zc ?_)))))))
 refine Zk (Zk (Zo (Zj (Zaz (r:=r'1) (o:=0) (o':=2) rfl rfl) (Zj (zV (cs:=[v_c_X,v_c_Y,v_c_Vert,v_c_Horz]) (v:=v_c_Vert) (hO'1.box 0 rfl) rfl rfl) (Zj (ZeQ (n:=(c.Vert).length) (hO'1.rd0 sN_c_Vert.rd) lN_c_Vert rfl) (Zf (.n 0) rfl (Zd ?_)))))))
 refine Zc (Zas ?_)
 obtain ⟨o'1,ho'1,hp⟩:=Zs hp
 refine W.mono (Q:=fun e fr k=>match (generalizing:=false) o'1 with
   | l1=>e = (.exit 0)∧∃ (v'3:V),fr 1 = .p r'1 0∧fr 3 = v'3∧Own B h k [Zbw r'1 [v_c_X,v_c_Y,v_c_Vert,v_c_Horz],eSl Z4 v'3 l1]) ?_ ?_
 ·clear hp
  have hO'3:=hO'1.nil Z4
  refine zR (fun st fr k=>match st with | (l,x)=>∃ (v'2:V),fr 1 = .p r'1 0∧fr 3 = v'2∧fr 9 = v_c_Vert∧fr 10 = .n (c.Vert.length:Int)∧fr 11 = .n x∧Own B h k [Zbw r'1 [v_c_X,v_c_Y,v_c_Vert,v_c_Horz],eSl Z4 v'2 l]) ho'1 (s:=(([]:List zu),0)) ⟨V.sn,rfl,rfl,rfl,rfl,rfl,(hO'3.pick [0,1] rfl (by decide))⟩ ?_
  rintro ⟨l,x⟩ q'2 k'3 ⟨v'2,q'2_1,q'2_3,q'2_9,q'2_10,q'2_11,hO'4⟩ o'2 hp
  dsimp only [Zai.s0] at hp
  refine Zk (Zo (Zj (zL (a:=x) (b:=(c.Vert.length:Int)) q'2_11 q'2_10) (Zd (Zc (Zk ?_)))))
  rcases Zt hp with ⟨b'1,hp⟩ | ⟨b'1,hp⟩
  ·refine zK (t:=(decide (x < (c.Vert.length:Int)))) rfl b'1 ?_
   refine zN (Zc (Zk (Zas (Zk (Zo (Zf (.n x) q'2_11 ?_))))))
   obtain ⟨c'1,hp⟩:=Zm hp
   refine Zj (zq (E:=eV) (z:=x) (hO'4.rd0 sN_c_Vert.rd) q'2_9 q'2_11 (by rw [lN_c_Vert]; exact c'1)) (Zj (zO (w:=(gi vs_c_Vert x.toNat)) (hO'4.rd0 sN_c_Vert.rd) rfl (by rw [lN_c_Vert]; exact Zl c'1) rfl) (Zf (.n x) rfl (Zf ((gi vs_c_Vert x.toNat)) rfl (Zd (Zc (Zk (Zo ?_)))))))
   refine Zf ((gi vs_c_Vert x.toNat)) rfl (Zj (Za0 (hO'4.rd0 ((fun j hj=>(iN_c_Vert j hj).rd) _ (Zl c'1)):Sl zd k'3 (gi vs_c_Vert x.toNat) (gi c.Vert x.toNat)) rfl) (Zj (ZdQ (a:=((gi c.Vert x.toNat).length:Int)) (b:=1) rfl rfl) (Zd (Zc ?_))))
   rcases Zt hp with ⟨b'2,hp⟩ | ⟨b'2,hp⟩
   ·refine zK (t:=(decide (1 < ((gi c.Vert x.toNat).length:Int)))) rfl b'2 ?_
    refine Zo (Zf v'2 q'2_3 (Zf (.n x) rfl (Zj (Zbh (cs:=Z4.c (⟨true,x⟩:zu)) (by rw [(zp (v:=.b true) rfl (zp (v:=.n x) rfl Zak))]; rfl)) (zF (hO'4.bsl (E:=Z4) (l:=[(⟨true,x⟩:zu)]) hO'4.fr (by rw [(zp (v:=.ag (Z4.c (⟨true,x⟩:zu))) rfl Zak)]; rfl) rfl) ?_))))
    rintro v'4 k'4 ⟨r'2,f'2,hW⟩
    have hO'5:=hW
    obtain ⟨c'2,hp⟩:=Zm hp
    refine zF (hO'5.app (E:=Z4) (bytes:=16) 1 hO'5.fr rfl (hO'5.sl 2 rfl) rfl rfl (fun _=>rfl) c'2 (by decide)) ?_
    rintro v'5 k'5 ⟨f'3,hW⟩
    have hO'6:=hW
    refine Zf v'5 rfl (Zd (Zan (Zc (Zo ?_))))
    obtain ⟨c'3,hp⟩:=Zm hp
    refine Zj (zH (a:=x) (b:=1) q'2_11 rfl c'3) (Zf (.n (x + 1)) rfl (Zd ?_))
    cases hp
    exact (Or.inl ⟨(l++[(⟨true,x⟩:zu)],x + 1),rfl,rfl,v'5,q'2_1,rfl,q'2_9,q'2_10,rfl,(hO'6.pick [0,1] rfl (by decide))⟩)
   ·refine zG (t:=(decide (1 < ((gi c.Vert x.toNat).length:Int)))) rfl b'2 ?_
    refine zN (Zan (Zc (Zo ?_)))
    obtain ⟨c'4,hp⟩:=Zm hp
    refine Zj (zH (a:=x) (b:=1) q'2_11 rfl c'4) (Zf (.n (x + 1)) rfl (Zd ?_))
    cases hp
    exact (Or.inl ⟨(l,x + 1),rfl,rfl,v'2,q'2_1,q'2_3,q'2_9,q'2_10,rfl,(hO'4.pick [0,1] rfl (by decide))⟩)
  ·refine zG (t:=(decide (x < (c.Vert.length:Int)))) rfl b'1 ?_
   refine Zbp (zZ ?_)
   cases hp
   refine (Or.inr ⟨l,rfl,(fun h=>nomatch h),(fun he=>?_)⟩)
   subst he; exact ⟨rfl,v'2,q'2_1,q'2_3,(hO'4.pick [0,1] rfl (by decide))⟩
 intro e'1 q'1 k'2 hJ'1
 obtain ⟨l1,rfl⟩:∃ x,x = o'1:=⟨_,rfl⟩
 obtain ⟨rfl,v'3,q'1_1,q'1_3,hO'2⟩:=hJ'1
 refine ZaJ (Zc (Zk (Zk (Zo (Zj (Zaz (r:=r'1) (o:=0) (o':=3) q'1_1 rfl) (Zj (zV (cs:=[v_c_X,v_c_Y,v_c_Vert,v_c_Horz]) (v:=v_c_Horz) (hO'2.box 0 rfl) rfl rfl) (Zj (ZeQ (n:=(c.Horz).length) (hO'2.rd0 sN_c_Horz.rd) lN_c_Horz rfl) ?_)))))))
 refine Zf (.n 0) rfl (Zd (Zc (Zas ?_)))
 obtain ⟨o'3,ho'2,hp⟩:=Zs hp
 refine W.mono (Q:=fun e fr k=>match (generalizing:=false) o'3 with
   | l3=>e = (.exit 2)∧∃ (v'7:V),fr 3 = v'7∧Own B h k [eSl Z4 v'7 l3]) ?_ ?_
 ·clear hp
  refine zR (fun st fr k=>match st with | (l2,x1)=>∃ (v'6:V),fr 3 = v'6∧fr 26 = v_c_Horz∧fr 27 = .n (c.Horz.length:Int)∧fr 28 = .n x1∧Own B h k [eSl Z4 v'6 l2]) ho'2 (s:=(l1,0)) ⟨v'3,q'1_3,rfl,rfl,rfl,(hO'2.pick [1] rfl (by decide))⟩ ?_
  rintro ⟨l2,x1⟩ q'4 k'7 ⟨v'6,q'4_3,q'4_26,q'4_27,q'4_28,hO'8⟩ o'4 hp
  dsimp only [Zai.s1] at hp
  refine Zk (Zo (Zj (zL (a:=x1) (b:=(c.Horz.length:Int)) q'4_28 q'4_27) (Zd (Zc (Zk ?_)))))
  rcases Zt hp with ⟨b'3,hp⟩ | ⟨b'3,hp⟩
  ·refine zK (t:=(decide (x1 < (c.Horz.length:Int)))) rfl b'3 ?_
   refine zN (Zc (Zk (Zas (Zk (Zo (Zf (.n x1) q'4_28 ?_))))))
   obtain ⟨c'5,hp⟩:=Zm hp
   refine Zj (zq (E:=eV) (z:=x1) (hO'8.rd0 sN_c_Horz.rd) q'4_26 q'4_28 (by rw [lN_c_Horz]; exact c'5)) (Zj (zO (w:=(gi vs_c_Horz x1.toNat)) (hO'8.rd0 sN_c_Horz.rd) rfl (by rw [lN_c_Horz]; exact Zl c'5) rfl) (Zf (.n x1) rfl (Zf ((gi vs_c_Horz x1.toNat)) rfl (Zd (Zc (Zk (Zo ?_)))))))
   refine Zf ((gi vs_c_Horz x1.toNat)) rfl (Zj (Za0 (hO'8.rd0 ((fun j hj=>(iN_c_Horz j hj).rd) _ (Zl c'5)):Sl zd k'7 (gi vs_c_Horz x1.toNat) (gi c.Horz x1.toNat)) rfl) (Zj (ZdQ (a:=((gi c.Horz x1.toNat).length:Int)) (b:=1) rfl rfl) (Zd (Zc ?_))))
   rcases Zt hp with ⟨b'4,hp⟩ | ⟨b'4,hp⟩
   ·refine zK (t:=(decide (1 < ((gi c.Horz x1.toNat).length:Int)))) rfl b'4 ?_
    refine Zo (Zf v'6 q'4_3 (Zf (.n x1) rfl (Zj (Zbh (cs:=Z4.c (⟨false,x1⟩:zu)) (by rw [(zp (v:=.b false) rfl (zp (v:=.n x1) rfl Zak))]; rfl)) (zF (hO'8.bsl (E:=Z4) (l:=[(⟨false,x1⟩:zu)]) hO'8.fr (by rw [(zp (v:=.ag (Z4.c (⟨false,x1⟩:zu))) rfl Zak)]; rfl) rfl) ?_))))
    rintro v'8 k'8 ⟨r'3,f'4,hW⟩
    have hO'9:=hW
    obtain ⟨c'6,hp⟩:=Zm hp
    refine zF (hO'9.app (E:=Z4) (bytes:=16) 0 hO'9.fr rfl (hO'9.sl 1 rfl) rfl rfl (fun _=>rfl) c'6 (by decide)) ?_
    rintro v'9 k'9 ⟨f'5,hW⟩
    have hO'10:=hW
    refine Zf v'9 rfl (Zd (Zan (Zc (Zo ?_))))
    obtain ⟨c'7,hp⟩:=Zm hp
    refine Zj (zH (a:=x1) (b:=1) q'4_28 rfl c'7) (Zf (.n (x1 + 1)) rfl (Zd ?_))
    cases hp
    exact (Or.inl ⟨(l2++[(⟨false,x1⟩:zu)],x1 + 1),rfl,rfl,v'9,rfl,q'4_26,q'4_27,rfl,(hO'10.pick [0] rfl (by decide))⟩)
   ·refine zG (t:=(decide (1 < ((gi c.Horz x1.toNat).length:Int)))) rfl b'4 ?_
    refine zN (Zan (Zc (Zo ?_)))
    obtain ⟨c'8,hp⟩:=Zm hp
    refine Zj (zH (a:=x1) (b:=1) q'4_28 rfl c'8) (Zf (.n (x1 + 1)) rfl (Zd ?_))
    cases hp
    exact (Or.inl ⟨(l2,x1 + 1),rfl,rfl,v'6,q'4_3,q'4_26,q'4_27,rfl,(hO'8.pick [0] rfl (by decide))⟩)
  ·refine zG (t:=(decide (x1 < (c.Horz.length:Int)))) rfl b'3 ?_
   refine Zbp (zZ ?_)
   cases hp
   refine (Or.inr ⟨l2,rfl,(fun h=>nomatch h),(fun he=>?_)⟩)
   subst he; exact ⟨rfl,v'6,q'4_3,(hO'8.pick [0] rfl (by decide))⟩
 intro e'2 q'3 k'6 hJ'2
 obtain ⟨l3,rfl⟩:∃ x,x = o'3:=⟨_,rfl⟩
 obtain ⟨rfl,v'7,q'3_3,hO'7⟩:=hJ'2
 refine ZaJ (Zc (Zk (Zo (Zf v'7 q'3_3 (Zf v'7 rfl (Zd (Zc ?_)))))))
 refine zY (zx (zC (n:=2) (v:=v'7) rfl ZS) ?_)
 cases hp
 exact ⟨v'7,rfl,(hO'7.pick [0] rfl (by decide))⟩

theorem ZbT.ok {h:Hp} {cells:List Za} {v_cells:V} (s_cells:Sl Zi h v_cells cells) {r:(List zu) × Int} (hp:ZbT cells = some r) :
  ∃ u k',Is G 187 [v_cells] h u k'∧∃ (v'1:V),V.tu [v'1,.n r.2] = u∧Own (fun r=>r < h.n) h k' [eSl Z4 v'1 r.1]:=by
 refine WC.is (Za7 Zev ?_)
 unfold ZbT at hp
 let B:Nat→Prop:=(fun r=>r < h.n)
 have hO:Own B h h []:=Own.start0 h
 refine Zk (Zo (Zf (.sn) rfl (Zf (.n 0) rfl (Zd (Zc (Zk (Zo ?_)))))))
 refine Zf v_cells rfl ?_
 obtain ⟨⟨x,x1⟩,hx'1,hp⟩:=Zs hp
 obtain ⟨u'1,k'1,ca'1,v'2,v'3,v'4,vs'1,v'5,vs'2,rfl,hW'1⟩:=Zcg.ok (h:=h)  (hO.rd0 s_cells.rd) hx'1
 refine ZaN (id:=120) (caps:=[]) rfl (Zu (v:=v_cells) rfl zi) ca'1 ?_
 have hO'1:=hO.call hW'1 rfl
 refine Zf (.tu [.ag [v'2,v'3,v'4,v'5],.n x1]) rfl (Zj (Zbn (vs:=[.ag [v'2,v'3,v'4,v'5],.n x1]) (v:=.ag [v'2,v'3,v'4,v'5]) rfl rfl) (Zj (Zbn (vs:=[.ag [v'2,v'3,v'4,v'5],.n x1]) (v:=.n x1) rfl rfl) (zF (hO'1.alloc (cs:=[.sn,.sn,.sn,.sn]) hO'1.fr) ?_)))
 rintro _ k'2 ⟨r'1,rfl,n'1,f'1,hW⟩
 have hO'2:=hW
 refine zF (hO'2.stb (ws:=[v'2,v'3,v'4,v'5]) (cs':=[v'2,v'3,v'4,v'5]) (v:=.ag [v'2,v'3,v'4,v'5]) 6 rfl rfl rfl rfl ⟨rfl,Nat.le_of_ble_eq_true rfl,(all_cons (hO'2.sl 0 rfl).oneV (all_cons (hO'2.sl 1 rfl).oneV (all_cons (hO'2.sl 2 rfl).oneV (all_cons (hO'2.sl 4 rfl).oneV all_nil))))⟩ rfl) ?_
 rintro _ k'3 ⟨rfl,f'2,m'1,hW⟩
 have hO'3:=hW
 refine Zf (.n x1) rfl (Zd (Zc (Zk (Zk (Zo (Zf (.n x1) rfl (Zj (ZcM (a:=x1) (b:=0) rfl rfl) ?_)))))))
 refine Zd (Zc ?_)
 rcases Zt hp with ⟨b'1,hp⟩ | ⟨b'1,hp⟩
 ·refine zK (t:=(!(decide (x1 = 0)))) rfl b'1 ?_
  refine Zk (Zo (Zf (.n x1) rfl (Zf (.sn) rfl (Zf (.n x1) rfl (Zd (Zc (zY ?_)))))))
  refine z5 ?_
  have hO'4:=hO'3.nil Z4
  refine zx (zC (n:=2) (v:=.sn) rfl (zC (n:=3) (v:=.n x1) rfl ZS)) ?_
  cases hp
  exact ⟨V.sn,rfl,(hO'4.pick [7] rfl (by decide))⟩
 ·refine zG (t:=(!(decide (x1 = 0)))) rfl b'1 ?_
  refine zN (Zc (Zk (Zo (Zj (Zbe (cs:=[v'2,v'3,v'4,v'5]) (ws:=[v'2,v'3,v'4,v'5]) (hO'3.box 6 rfl) rfl rfl) ?_))))
  obtain ⟨x2,hx'2,hp⟩:=Zs hp
  obtain ⟨u'2,k'4,ca'2,v'6,rfl,hW'2⟩:=Zai.ok (h:=k'3)  (hO'3.sl 0 rfl) (hO'3.sl 1 rfl) (hO'3.sl 2 rfl) (hO'3.allLen 3 rfl:(vs'1).length = (x.Vert).length) (fun j hj=>hO'3.inn 3 rfl hj) (hO'3.sl 4 rfl) (hO'3.allLen 5 rfl:(vs'2).length = (x.Horz).length) (fun j hj=>hO'3.inn 5 rfl hj) hx'2
  refine ZaN (id:=209) (caps:=[]) rfl (Zu (v:=.ag [v'2,v'3,v'4,v'5]) rfl zi) ca'2 ?_
  have hO'5:=hO'3.call hW'2 rfl
  refine Zf v'6 rfl (Zf (.n 0) rfl (Zd (Zc (zY (zx (zC (n:=2) (v:=v'6) rfl (zC (n:=3) (v:=.n 0) rfl ZS)) ?_)))))
  cases hp
  exact ⟨v'6,rfl,(hO'5.pick [7] rfl (by decide))⟩

theorem Zbm.ok {h:Hp} {c:Zag} {l:zu} {at_:List Ze} {v_c_X:V} {v_c_Y:V} {v_c_Vert:V} {vs_c_Vert:List V} {v_c_Horz:V} {vs_c_Horz:List V} {v_at_:V} (s_c_X:Sl zd h v_c_X c.X) (s_c_Y:Sl zd h v_c_Y c.Y) (sN_c_Vert:Sl eV h v_c_Vert vs_c_Vert) (lN_c_Vert:vs_c_Vert.length = c.Vert.length) (iN_c_Vert:∀ j,j < c.Vert.length→Sl zd h (gi vs_c_Vert j) (gi c.Vert j)) (sN_c_Horz:Sl eV h v_c_Horz vs_c_Horz) (lN_c_Horz:vs_c_Horz.length = c.Horz.length) (iN_c_Horz:∀ j,j < c.Horz.length→Sl zd h (gi vs_c_Horz j) (gi c.Horz j)) (s_at_:Sl Zb h v_at_ at_) {r:Zal} (hp:Zbm c l at_ = some r) :
  ∃ u k',Is G 231 [.ag [v_c_X,v_c_Y,v_c_Vert,v_c_Horz],.ag (Z4.c l),v_at_] h u k'∧V.ag (ZW.c r) = u∧Own (fun r=>r < h.n) h k' []:=by
 refine WC.is (Za7 ZdW ?_)
 unfold Zbm at hp
 let B:Nat→Prop:=(fun r=>r < h.n)
 have hO:Own B h h []:=Own.start0 h
 refine Zk (Zo (zF (hO.boxd (v:=.ag [v_c_X,v_c_Y,v_c_Vert,v_c_Horz]) (cs:=[v_c_X,v_c_Y,v_c_Vert,v_c_Horz]) hO.fr rfl rfl) ?_))
 rintro _ k'1 ⟨r'1,rfl,n'1,f'1,hW⟩
 have hO'1:=hW
 refine zF (hO'1.boxd (v:=.ag (Z4.c l)) (cs:=Z4.c l) hO'1.fr rfl rfl) ?_
 rintro _ k'2 ⟨r'2,rfl,n'2,f'2,hW⟩
 have hO'2:=hW
 refine zF (hO'2.alloc (cs:=ZW.c (⟨⟨0,0⟩,⟨0,0⟩⟩:Zal)) hO'2.fr) ?_
 rintro _ k'3 ⟨r'3,rfl,n'3,f'3,hW⟩
 have hO'3:=hW
 refine Zd (Zc (Zk (Zo (Zj (Zaz (r:=r'1) (o:=0) (o':=3) rfl rfl) (Zj (zV (cs:=[v_c_X,v_c_Y,v_c_Vert,v_c_Horz]) (v:=v_c_Horz) (hO'3.box 0 rfl) rfl rfl) (Zf v_c_Horz rfl (Zd ?_)))))))
 refine Zc (Zk (Zk (Zo (Zj (Zaz (r:=r'2) (o:=0) (o':=0) rfl rfl) (Zj (zV (cs:=(Z4.c l)) (v:=.b l.Vertical) (hO'3.box 1 rfl) rfl rfl) (Zd (Zc ?_)))))))
 obtain ⟨o'1,ho'1,hp⟩:=Zs hp
 refine W.mono (Q:=fun e fr k=>match (generalizing:=false) o'1 with
   | of=>e = .normal∧∃ (v'1:V),∃ (vs'1:List V),fr 2 = v_at_∧fr 4 = .p r'2 0∧fr 6 = .p r'3 0∧fr 7 = v'1∧Rd B h eV v'1 vs'1∧vs'1.length = of.length∧(∀ j,j < of.length→Rd B h zd (gi vs'1 j) (gi of j))∧Own B h k [Zbw r'2 (Z4.c l),Zbw r'3 (ZW.c (⟨⟨0,0⟩,⟨0,0⟩⟩:Zal))]) ?_ ?_
 ·clear hp; have hp:=ho'1; clear ho'1
  rcases Zt hp with ⟨b'1,hp⟩ | ⟨b'1,hp⟩
  ·refine zK (t:=l.Vertical) rfl b'1 ?_
   refine Zo (Zj (Zaz (r:=r'1) (o:=0) (o':=2) rfl rfl) (Zj (zV (cs:=[v_c_X,v_c_Y,v_c_Vert,v_c_Horz]) (v:=v_c_Vert) (hO'3.box 0 rfl) rfl rfl) (Zf v_c_Vert rfl (Zd ?_))))
   cases hp
   exact ⟨rfl,v_c_Vert,vs_c_Vert,rfl,rfl,rfl,rfl,sN_c_Vert.rd,lN_c_Vert,(fun j hj=>(iN_c_Vert j hj).rd),(hO'3.pick [1,2] rfl (by decide))⟩
  ·refine zG (t:=l.Vertical) rfl b'1 ?_
   refine zN ?_
   cases hp
   exact ⟨rfl,v_c_Horz,vs_c_Horz,rfl,rfl,rfl,rfl,sN_c_Horz.rd,lN_c_Horz,(fun j hj=>(iN_c_Horz j hj).rd),(hO'3.pick [1,2] rfl (by decide))⟩
 intro e'1 q'1 k'4 hJ'1
 obtain ⟨of,rfl⟩:∃ x,x = o'1:=⟨_,rfl⟩
 obtain ⟨rfl,v'1,vs'1,q'1_2,q'1_4,q'1_6,q'1_7,s'1,sl'1,si'1,hO'4⟩:=hJ'1
 refine Zc (Zk (Zo (Zf v'1 q'1_7 (Zj (Zaz (r:=r'2) (o:=0) (o':=1) q'1_4 rfl) (Zj (zV (cs:=(Z4.c l)) (v:=.n l.Place) (hO'4.box 0 rfl) rfl rfl) ?_)))))
 obtain ⟨c'1,hp⟩:=Zm hp
 refine Zj (zq (E:=eV) (z:=l.Place) (hO'4.rd0 s'1) rfl rfl (by rw [sl'1]; exact c'1)) (Zj (zO (w:=(gi vs'1 (l.Place:Int).toNat)) (hO'4.rd0 s'1) rfl (by rw [sl'1]; exact Zl c'1) rfl) (Zf ((gi vs'1 (l.Place:Int).toNat)) rfl (Zd (Zc (Zk (Zfj ?_))))))
 have hW:=hO'4.bump 17
 have fr'1:=Fresh.start k'4 17
 have nb'1:∀ {i:Nat},h.n≤k'4.n + i:=Nat.le_trans hO'4.n (Nat.le_add_right _ _)
 have hO'5:=hW
 refine ZaK v_at_ q'1_2 (ZaK ((gi vs'1 (l.Place:Int).toNat)) rfl ?_)
 obtain ⟨c'2,hp⟩:=Zm hp
 refine zm (zq (E:=zd) (z:=0) (hO'5.rd0 ((fun j hj=>(si'1 j hj)) _ (Zl c'1)):Sl zd (k'4.bump 17) (gi vs'1 (l.Place:Int).toNat) (gi of (l.Place:Int).toNat)) rfl rfl c'2) (zm (zO (w:=.n (gi (gi of (l.Place:Int).toNat) (0:Int).toNat)) (hO'5.rd0 ((fun j hj=>(si'1 j hj)) _ (Zl c'1)):Sl zd (k'4.bump 17) (gi vs'1 (l.Place:Int).toNat) (gi of (l.Place:Int).toNat)) rfl (Zl c'2) rfl) ?_)
 obtain ⟨c'3,hp⟩:=Zm hp
 refine zm (zq (E:=Zb) (z:=(gi (gi of (l.Place:Int).toNat) (0:Int).toNat)) (hO'5.rd0 s_at_.rd) rfl rfl c'3) (zm (Zdp (E:=Zb) (hO'5.rd0 s_at_.rd) rfl (Zl c'3)) (ZaK v_at_ q'1_2 (ZaK ((gi vs'1 (l.Place:Int).toNat)) rfl (ZaK ((gi vs'1 (l.Place:Int).toNat)) rfl (zm (Za0 (hO'5.rd0 ((fun j hj=>(si'1 j hj)) _ (Zl c'1)):Sl zd (k'4.bump 17) (gi vs'1 (l.Place:Int).toNat) (gi of (l.Place:Int).toNat)) rfl) ?_)))))
 obtain ⟨c'4,hp⟩:=Zm hp
 refine zm (Zif (a:=((gi of (l.Place:Int).toNat).length:Int)) (b:=1) rfl rfl c'4) ?_
 obtain ⟨c'5,hp⟩:=Zm hp
 refine zm (zq (E:=zd) (z:=(((gi of (l.Place:Int).toNat).length:Int) - 1)) (hO'5.rd0 ((fun j hj=>(si'1 j hj)) _ (Zl c'1)):Sl zd (k'4.bump 17) (gi vs'1 (l.Place:Int).toNat) (gi of (l.Place:Int).toNat)) rfl rfl c'5) (zm (zO (w:=.n (gi (gi of (l.Place:Int).toNat) (((gi of (l.Place:Int).toNat).length:Int) - 1:Int).toNat)) (hO'5.rd0 ((fun j hj=>(si'1 j hj)) _ (Zl c'1)):Sl zd (k'4.bump 17) (gi vs'1 (l.Place:Int).toNat) (gi of (l.Place:Int).toNat)) rfl (Zl c'5) rfl) ?_)
 obtain ⟨c'6,hp⟩:=Zm hp
 refine zm (zq (E:=Zb) (z:=(gi (gi of (l.Place:Int).toNat) (((gi of (l.Place:Int).toNat).length:Int) - 1:Int).toNat)) (hO'5.rd0 s_at_.rd) rfl rfl c'6) (zm (Zdp (E:=Zb) (hO'5.rd0 s_at_.rd) rfl (Zl c'6)) (zm (Zbh (cs:=ZW.c (⟨gi at_ (gi (gi of (l.Place:Int).toNat) (0:Int).toNat:Int).toNat,gi at_ (gi (gi of (l.Place:Int).toNat) (((gi of (l.Place:Int).toNat).length:Int) - 1:Int).toNat:Int).toNat⟩:Zal)) (by rw [(zp (v:=.ag (Zb.c (gi at_ (gi (gi of (l.Place:Int).toNat) (0:Int).toNat:Int).toNat))) rfl (zp (v:=.ag (Zb.c (gi at_ (gi (gi of (l.Place:Int).toNat) (((gi of (l.Place:Int).toNat).length:Int) - 1:Int).toNat:Int).toNat))) rfl Zak))]; rfl)) (ZfX (hO'5.stb (ws:=ZW.c (⟨gi at_ (gi (gi of (l.Place:Int).toNat) (0:Int).toNat:Int).toNat,gi at_ (gi (gi of (l.Place:Int).toNat) (((gi of (l.Place:Int).toNat).length:Int) - 1:Int).toNat:Int).toNat⟩:Zal)) (cs':=ZW.c (⟨gi at_ (gi (gi of (l.Place:Int).toNat) (0:Int).toNat:Int).toNat,gi at_ (gi (gi of (l.Place:Int).toNat) (((gi of (l.Place:Int).toNat).length:Int) - 1:Int).toNat:Int).toNat⟩:Zal)) (v:=.ag (ZW.c (⟨gi at_ (gi (gi of (l.Place:Int).toNat) (0:Int).toNat:Int).toNat,gi at_ (gi (gi of (l.Place:Int).toNat) (((gi of (l.Place:Int).toNat).length:Int) - 1:Int).toNat:Int).toNat⟩:Zal))) 1 rfl q'1_6 rfl rfl ⟨rfl,Nat.le_of_ble_eq_true rfl,rfl⟩ rfl) ?_)))
 rintro _ k'6 z'1 ⟨rfl,f'4,m'1,hW⟩
 have fr'2:=fr'1.kept f'4 (by decide)
 have hO'6:=hW
 refine ZbZ ?_
 refine And.intro ?_ ?_
 ·intro q hq
  simp only [List.mem_cons,List.not_mem_nil,or_false] at hq
  rcases hq with rfl | rfl | rfl | rfl
  ·refine Za8 ?_ ?_
   ·exact (fun h=>nomatch h)
   ·exact (fun h=>nomatch h)
  ·refine Za8 ?_ ?_
   ·exact (fun h=>nomatch h)
   ·exact (fun h=>nomatch h)
  ·refine Za8 ?_ ?_
   ·exact (fun h=>nomatch h)
   ·exact (fun h=>nomatch h)
  ·refine Za8 ?_ ?_
   ·exact (fun h=>nomatch h)
   ·exact (fun h=>nomatch h)
 refine Zc (zY (zx (ZiP (n:=6) (v:=.ag (ZW.c (⟨gi at_ (gi (gi of (l.Place:Int).toNat) (0:Int).toNat:Int).toNat,gi at_ (gi (gi of (l.Place:Int).toNat) (((gi of (l.Place:Int).toNat).length:Int) - 1:Int).toNat:Int).toNat⟩:Zal))) (r:=r'3) q'1_6 (hO'6.box 1 rfl) rfl ZS) ?_))
 cases hp
 exact ⟨rfl,(hO'6.pick [] rfl (by decide))⟩

theorem Zbo.ok {h:Hp} {a:Zal} {b:Zal}   {r:Bool} (hp:Zbo a b = some r) :
  ∃ u k',Is G 186 [.ag (ZW.c a),.ag (ZW.c b)] h u k'∧V.b r = u∧Own (fun r=>r < h.n) h k' []:=by
 refine WC.is (Za7 ZdM ?_)
 unfold Zbo at hp
 let B:Nat→Prop:=(fun r=>r < h.n)
 have hO:Own B h h []:=Own.start0 h
 refine Zk (Zo (zF (hO.boxd (v:=.ag (ZW.c a)) (cs:=ZW.c a) hO.fr rfl rfl) ?_))
 rintro _ k'1 ⟨r'1,rfl,n'1,f'1,hW⟩
 have hO'1:=hW
 refine zF (hO'1.boxd (v:=.ag (ZW.c b)) (cs:=ZW.c b) hO'1.fr rfl rfl) ?_
 rintro _ k'2 ⟨r'2,rfl,n'2,f'2,hW⟩
 have hO'2:=hW
 refine Zf (.b false) rfl (Zd (Zc (Zk (Zo (Zj (Zaz (r:=r'1) (o:=0) (o':=2) rfl rfl) (Zj (Zaz (r:=r'1) (o:=2) (o':=2) rfl rfl) (Zj (zV (cs:=(ZW.c a)) (v:=.n a.High.X) (hO'2.box 0 rfl) rfl rfl) ?_)))))))
 refine Zj (Zaz (r:=r'2) (o:=0) (o':=0) rfl rfl) (Zj (Zaz (r:=r'2) (o:=0) (o':=0) rfl rfl) (Zj (zV (cs:=(ZW.c b)) (v:=.n b.Low.X) (hO'2.box 1 rfl) rfl rfl) (Zj (zL (a:=a.High.X) (b:=b.Low.X) rfl rfl) (Zf (.b (decide (a.High.X < b.Low.X))) rfl ?_))))
 refine ZaF 8 (fun fr' k'=>k'2 = k'∧fr' 20 = .b ((decide (a.High.X < b.Low.X)) || (decide (b.High.X < a.Low.X)))∧fr' 2 = .p r'1 0∧fr' 3 = .p r'2 0) ?_ ?_
 ·rcases bc (decide (a.High.X < b.Low.X)) with b'1 | b'1
  ·skip
   refine Z1 rfl b'1 (Z1 rfl b'1 (Z1 rfl b'1 (Z1 rfl b'1 (Z1 rfl b'1 (Z1 rfl b'1 (Z1 rfl b'1 (Zj (zn (t:=(decide (a.High.X < b.Low.X))) (v:=.b ((decide (a.High.X < b.Low.X)) || (decide (b.High.X < a.Low.X)))) rfl b'1 (Eq.trans (b:=V.b true) rfl (Zbz b'1))) ?_)))))))
   refine Zd ?_
   exact ⟨rfl,rfl,rfl,rfl⟩
  ·skip
   refine ZM rfl b'1 (Zj (Zaz (r:=r'2) (o:=0) (o':=2) rfl rfl) (ZM rfl b'1 (Zj (Zaz (r:=r'2) (o:=2) (o':=2) rfl rfl) (ZM rfl b'1 (Zj (zV (cs:=(ZW.c b)) (v:=.n b.High.X) (hO'2.box 1 rfl) rfl rfl) (ZM rfl b'1 (Zj (Zaz (r:=r'1) (o:=0) (o':=0) rfl rfl) ?_)))))))
   refine ZM rfl b'1 (Zj (Zaz (r:=r'1) (o:=0) (o':=0) rfl rfl) (ZM rfl b'1 (Zj (zV (cs:=(ZW.c a)) (v:=.n a.Low.X) (hO'2.box 0 rfl) rfl rfl) (ZM rfl b'1 (Zj (zL (a:=b.High.X) (b:=a.Low.X) rfl rfl) (Zj (ze (t:=(decide (a.High.X < b.Low.X))) (v:=.b ((decide (a.High.X < b.Low.X)) || (decide (b.High.X < a.Low.X)))) rfl b'1 (Eq.trans (b:=V.b (decide (b.High.X < a.Low.X))) rfl (Zcf b'1))) (Zd ?_)))))))
   exact ⟨rfl,rfl,rfl,rfl⟩
 rintro frg'1 _ ⟨rfl,g'1_20,g'1_2,g'1_3⟩
 refine Zf (.b ((decide (a.High.X < b.Low.X)) || (decide (b.High.X < a.Low.X)))) g'1_20 ?_
 refine ZaF 8 (fun fr' k'=>k'2 = k'∧fr' 29 = .b (((decide (a.High.X < b.Low.X)) || (decide (b.High.X < a.Low.X))) || (decide (a.High.Y < b.Low.Y)))∧fr' 2 = .p r'1 0∧fr' 3 = .p r'2 0) ?_ ?_
 ·rcases bc ((decide (a.High.X < b.Low.X)) || (decide (b.High.X < a.Low.X))) with b'2 | b'2
  ·skip
   refine Z1 rfl b'2 (Z1 rfl b'2 (Z1 rfl b'2 (Z1 rfl b'2 (Z1 rfl b'2 (Z1 rfl b'2 (Z1 rfl b'2 (Zj (zn (t:=((decide (a.High.X < b.Low.X)) || (decide (b.High.X < a.Low.X)))) (v:=.b (((decide (a.High.X < b.Low.X)) || (decide (b.High.X < a.Low.X))) || (decide (a.High.Y < b.Low.Y)))) rfl b'2 (Eq.trans (b:=V.b true) rfl (Zbz b'2))) ?_)))))))
   refine Zd ?_
   exact ⟨rfl,rfl,g'1_2,g'1_3⟩
  ·skip
   refine ZM rfl b'2 (Zj (Zaz (r:=r'1) (o:=0) (o':=2) g'1_2 rfl) (ZM rfl b'2 (Zj (Zaz (r:=r'1) (o:=2) (o':=3) rfl rfl) (ZM rfl b'2 (Zj (zV (cs:=(ZW.c a)) (v:=.n a.High.Y) (hO'2.box 0 rfl) rfl rfl) (ZM rfl b'2 (Zj (Zaz (r:=r'2) (o:=0) (o':=0) g'1_3 rfl) ?_)))))))
   refine ZM rfl b'2 (Zj (Zaz (r:=r'2) (o:=0) (o':=1) rfl rfl) (ZM rfl b'2 (Zj (zV (cs:=(ZW.c b)) (v:=.n b.Low.Y) (hO'2.box 1 rfl) rfl rfl) (ZM rfl b'2 (Zj (zL (a:=a.High.Y) (b:=b.Low.Y) rfl rfl) (Zj (ze (t:=((decide (a.High.X < b.Low.X)) || (decide (b.High.X < a.Low.X)))) (v:=.b (((decide (a.High.X < b.Low.X)) || (decide (b.High.X < a.Low.X))) || (decide (a.High.Y < b.Low.Y)))) rfl b'2 (Eq.trans (b:=V.b (decide (a.High.Y < b.Low.Y))) rfl (Zcf b'2))) (Zd ?_)))))))
   exact ⟨rfl,rfl,g'1_2,g'1_3⟩
 rintro frg'2 _ ⟨rfl,g'2_29,g'2_2,g'2_3⟩
 refine Zf (.b (((decide (a.High.X < b.Low.X)) || (decide (b.High.X < a.Low.X))) || (decide (a.High.Y < b.Low.Y)))) g'2_29 ?_
 refine ZaF 8 (fun fr' k'=>k'2 = k'∧fr' 38 = .b ((((decide (a.High.X < b.Low.X)) || (decide (b.High.X < a.Low.X))) || (decide (a.High.Y < b.Low.Y))) || (decide (b.High.Y < a.Low.Y)))) ?_ ?_
 ·rcases bc (((decide (a.High.X < b.Low.X)) || (decide (b.High.X < a.Low.X))) || (decide (a.High.Y < b.Low.Y))) with b'3 | b'3
  ·skip
   refine Z1 rfl b'3 (Z1 rfl b'3 (Z1 rfl b'3 (Z1 rfl b'3 (Z1 rfl b'3 (Z1 rfl b'3 (Z1 rfl b'3 (Zj (zn (t:=(((decide (a.High.X < b.Low.X)) || (decide (b.High.X < a.Low.X))) || (decide (a.High.Y < b.Low.Y)))) (v:=.b ((((decide (a.High.X < b.Low.X)) || (decide (b.High.X < a.Low.X))) || (decide (a.High.Y < b.Low.Y))) || (decide (b.High.Y < a.Low.Y)))) rfl b'3 (Eq.trans (b:=V.b true) rfl (Zbz b'3))) ?_)))))))
   refine Zd ?_
   exact ⟨rfl,rfl⟩
  ·skip
   refine ZM rfl b'3 (Zj (Zaz (r:=r'2) (o:=0) (o':=2) g'2_3 rfl) (ZM rfl b'3 (Zj (Zaz (r:=r'2) (o:=2) (o':=3) rfl rfl) (ZM rfl b'3 (Zj (zV (cs:=(ZW.c b)) (v:=.n b.High.Y) (hO'2.box 1 rfl) rfl rfl) (ZM rfl b'3 (Zj (Zaz (r:=r'1) (o:=0) (o':=0) g'2_2 rfl) ?_)))))))
   refine ZM rfl b'3 (Zj (Zaz (r:=r'1) (o:=0) (o':=1) rfl rfl) (ZM rfl b'3 (Zj (zV (cs:=(ZW.c a)) (v:=.n a.Low.Y) (hO'2.box 0 rfl) rfl rfl) (ZM rfl b'3 (Zj (zL (a:=b.High.Y) (b:=a.Low.Y) rfl rfl) (Zj (ze (t:=(((decide (a.High.X < b.Low.X)) || (decide (b.High.X < a.Low.X))) || (decide (a.High.Y < b.Low.Y)))) (v:=.b ((((decide (a.High.X < b.Low.X)) || (decide (b.High.X < a.Low.X))) || (decide (a.High.Y < b.Low.Y))) || (decide (b.High.Y < a.Low.Y)))) rfl b'3 (Eq.trans (b:=V.b (decide (b.High.Y < a.Low.Y))) rfl (Zcf b'3))) (Zd ?_)))))))
   exact ⟨rfl,rfl⟩
 rintro frg'3 _ ⟨rfl,g'3_38⟩
 refine Zf (.b ((((decide (a.High.X < b.Low.X)) || (decide (b.High.X < a.Low.X))) || (decide (a.High.Y < b.Low.Y))) || (decide (b.High.Y < a.Low.Y)))) g'3_38 (Zd (Zc (zY (zx (zC (n:=4) (v:=.b ((((decide (a.High.X < b.Low.X)) || (decide (b.High.X < a.Low.X))) || (decide (a.High.Y < b.Low.Y))) || (decide (b.High.Y < a.Low.Y)))) rfl ZS) ?_))))
 cases hp
 exact ⟨rfl,(hO'2.pick [] rfl (by decide))⟩

theorem Zay.ok {h:Hp} {B0:Nat→Prop} {h0:Hp} {c:Zag} {vertical:Bool} {i:Int} {v_c_X:V} {v_c_Y:V} {v_c_Vert:V} {vs_c_Vert:List V} {v_c_Horz:V} {vs_c_Horz:List V} (HO:Own B0 h0 h []) (S_c_X:Rd B0 h0 zd v_c_X c.X) (S_c_Y:Rd B0 h0 zd v_c_Y c.Y) (SN_c_Vert:Rd B0 h0 eV v_c_Vert vs_c_Vert) (lN_c_Vert:vs_c_Vert.length = c.Vert.length) (IN_c_Vert:∀ j,j < c.Vert.length→Rd B0 h0 zd (gi vs_c_Vert j) (gi c.Vert j)) (SN_c_Horz:Rd B0 h0 eV v_c_Horz vs_c_Horz) (lN_c_Horz:vs_c_Horz.length = c.Horz.length) (IN_c_Horz:∀ j,j < c.Horz.length→Rd B0 h0 zd (gi vs_c_Horz j) (gi c.Horz j)) {r:(List Int)} (hp:Zay c vertical i = some r) :
  ∃ u k',Is G 140 [.ag [v_c_X,v_c_Y,v_c_Vert,v_c_Horz],.b vertical,.n i] h u k'∧∃ (v'1:V),v'1 = u∧Rd B0 h0 zd v'1 r∧Own (fun r=>r < h.n) h k' []:=by
 refine WC.is (Za7 ZcK ?_)
 unfold Zay at hp
 let B:Nat→Prop:=(fun r=>r < h.n)
 have hO:Own B h h []:=Own.start0 h
 refine Zk (Zo (zF (hO.boxd (v:=.ag [v_c_X,v_c_Y,v_c_Vert,v_c_Horz]) (cs:=[v_c_X,v_c_Y,v_c_Vert,v_c_Horz]) hO.fr rfl rfl) ?_))
 rintro _ k'1 ⟨r'1,rfl,n'1,f'1,hW⟩
 have hO'1:=hW
 refine Zf (.sn) rfl (Zd (Zc (Zk (Zo (Zj (Zaz (r:=r'1) (o:=0) (o':=3) rfl rfl) (Zj (zV (cs:=[v_c_X,v_c_Y,v_c_Vert,v_c_Horz]) (v:=v_c_Horz) (hO'1.box 0 rfl) rfl rfl) (Zf v_c_Horz rfl ?_)))))))
 refine Zd (Zc (Zk (Zk (Zo (Zf (.b vertical) rfl (Zd (Zc ?_)))))))
 obtain ⟨o'1,ho'1,hp⟩:=Zs hp
 refine W.mono (Q:=fun e fr k=>match (generalizing:=false) o'1 with
   | l=>e = .normal∧∃ (v'2:V),∃ (vs'1:List V),fr 2 = .n i∧fr 7 = v'2∧Rd B0 h0 eV v'2 vs'1∧vs'1.length = l.length∧(∀ j,j < l.length→Rd B0 h0 zd (gi vs'1 j) (gi l j))∧Own B h k []) ?_ ?_
 ·clear hp; have hp:=ho'1; clear ho'1
  rcases Zt hp with ⟨b'1,hp⟩ | ⟨b'1,hp⟩
  ·refine zK (t:=vertical) rfl b'1 ?_
   refine Zo (Zj (Zaz (r:=r'1) (o:=0) (o':=2) rfl rfl) (Zj (zV (cs:=[v_c_X,v_c_Y,v_c_Vert,v_c_Horz]) (v:=v_c_Vert) (hO'1.box 0 rfl) rfl rfl) (Zf v_c_Vert rfl (Zd ?_))))
   cases hp
   exact ⟨rfl,v_c_Vert,vs_c_Vert,rfl,rfl,SN_c_Vert,lN_c_Vert,(fun j hj=>((IN_c_Vert j hj))),(hO'1.pick [] rfl (by decide))⟩
  ·refine zG (t:=vertical) rfl b'1 ?_
   refine zN ?_
   cases hp
   exact ⟨rfl,v_c_Horz,vs_c_Horz,rfl,rfl,SN_c_Horz,lN_c_Horz,(fun j hj=>((IN_c_Horz j hj))),(hO'1.pick [] rfl (by decide))⟩
 intro e'1 q'1 k'2 hJ'1
 obtain ⟨l,rfl⟩:∃ x,x = o'1:=⟨_,rfl⟩
 obtain ⟨rfl,v'2,vs'1,q'1_2,q'1_7,s'1,sl'1,si'1,hO'2⟩:=hJ'1
 refine Zc (Zk (Zk (Zo (Zf (.n i) q'1_2 (Zj (zL (a:=i) (b:=0) rfl rfl) (Zf (.b (decide (i < 0))) rfl ?_))))))
 refine ZaF 5 (fun fr' k'=>k'2 = k'∧fr' 20 = .b ((decide (i < 0)) || (decide ((l.length:Int)≤i)))∧fr' 2 = .n i∧fr' 7 = v'2) ?_ ?_
 ·rcases bc (decide (i < 0)) with b'2 | b'2
  ·skip
   refine Z1 rfl b'2 (Z1 rfl b'2 (Z1 rfl b'2 (Z1 rfl b'2 (Zj (zn (t:=(decide (i < 0))) (v:=.b ((decide (i < 0)) || (decide ((l.length:Int)≤i)))) rfl b'2 (Eq.trans (b:=V.b true) rfl (Zbz b'2))) (Zd ?_)))))
   exact ⟨rfl,rfl,q'1_2,q'1_7⟩
  ·skip
   refine ZM rfl b'2 (Zf (.n i) q'1_2 (ZM rfl b'2 (Zf v'2 q'1_7 (ZM rfl b'2 (Zj (ZeQ (n:=(l).length) (hO'2.rd0 (Rd.via HO s'1):Sl eV k'2 v'2 vs'1) sl'1 rfl) (ZM rfl b'2 (Zj (Zcy (a:=i) (b:=(l.length:Int)) rfl rfl) ?_)))))))
   refine Zj (ze (t:=(decide (i < 0))) (v:=.b ((decide (i < 0)) || (decide ((l.length:Int)≤i)))) rfl b'2 (Eq.trans (b:=V.b (decide ((l.length:Int)≤i))) rfl (Zcf b'2))) (Zd ?_)
   exact ⟨rfl,rfl,q'1_2,q'1_7⟩
 rintro frg'1 _ ⟨rfl,g'1_20,g'1_2,g'1_7⟩
 refine Zd (Zc ?_)
 rcases Zt hp with ⟨b'3,hp⟩ | ⟨b'3,hp⟩
 ·refine zK (t:=((decide (i < 0)) || (decide ((l.length:Int)≤i)))) g'1_20 b'3 ?_
  refine Zk (Zo (Zf (.sn) rfl (Zd (Zc (zY (z5 (zx (zC (n:=6) (v:=.sn) rfl ZS) ?_)))))))
  cases hp
  exact ⟨V.sn,rfl,(fun _ _=>Sl.nil),(hO'2.pick [] rfl (by decide))⟩
 ·refine zG (t:=((decide (i < 0)) || (decide ((l.length:Int)≤i)))) g'1_20 b'3 ?_
  refine zN (Zc (Zk (Zo (Zf v'2 g'1_7 (Zf (.n i) g'1_2 ?_)))))
  obtain ⟨c'1,hp⟩:=Zm hp
  refine Zj (zq (E:=eV) (z:=i) (hO'2.rd0 (Rd.via HO s'1):Sl eV k'2 v'2 vs'1) rfl rfl (by rw [sl'1]; exact c'1)) (Zj (zO (w:=(gi vs'1 i.toNat)) (hO'2.rd0 (Rd.via HO s'1):Sl eV k'2 v'2 vs'1) rfl (by rw [sl'1]; exact Zl c'1) rfl) (Zf ((gi vs'1 i.toNat)) rfl (Zd (Zc (zY (zx (zC (n:=6) (v:=(gi vs'1 i.toNat)) rfl ZS) ?_))))))
  cases hp
  exact ⟨gi vs'1 i.toNat,rfl,(fun j hj=>((si'1 j hj))) _ (Zl c'1),(hO'2.pick [] rfl (by decide))⟩

theorem z3.ok {h:Hp} {s:List Int} {f:Int→Option Bool} {v_s:V} {id_f:Nat} {cap_f:List V} (s_s:Sl zd h v_s s) (f_f:∀ (k:Hp) (x0:Int) (y:Bool),Ex' (fun r=>r < h.n) h k→f x0 = some y→∃ u k',Is G id_f (.n x0 :: cap_f) k u k'∧V.b y = u∧Own (fun r=>r < k.n) k k' []) {r:Int} (hp:z3 s f = some r) :
  ∃ u k',Is G 91 [v_s,.f id_f cap_f] h u k'∧V.n r = u∧Own (fun r=>r < h.n) h k' []:=by
 refine WC.is (Za7 Zcc ?_)
 unfold z3 at hp
 let B:Nat→Prop:=(fun r=>r < h.n)
 have hO:Own B h h []:=Own.start0 h
 refine Zk (Zo (Zf (.n 0) rfl (Zd (Zc (Zk (Zk (Zo ?_)))))))
 refine Zf v_s rfl (Zj (Za0 (hO.rd0 s_s.rd) rfl) (Zf (.n 0) rfl (Zd (Zc (Zas ?_)))))
 obtain ⟨o'1,ho'1,hp⟩:=Zs hp
 refine W.mono (Q:=fun e fr k=>match (generalizing:=false) o'1 with
   | .inl _=>e = (.exit 0)∧Own B h k []
   | .inr x1=>e = .ret∧fr 4 = .n x1∧Own B h k []) ?_ ?_
 ·clear hp
  refine zR (fun st fr k=>match st with | x=>fr 0 = v_s∧fr 1 = .f id_f cap_f∧fr 7 = .n (s.length:Int)∧fr 8 = .n x∧Own B h k []) ho'1 (s:=0) ⟨rfl,rfl,rfl,rfl,(hO.pick [] rfl (by decide))⟩ ?_
  rintro x q'2 k'2 ⟨q'2_0,q'2_1,q'2_7,q'2_8,hO'2⟩ o'2 hp
  dsimp only [z3.s0] at hp
  refine Zk (Zo (Zj (zL (a:=x) (b:=(s.length:Int)) q'2_8 q'2_7) (Zd (Zc (Zk ?_)))))
  rcases Zt hp with ⟨b'1,hp⟩ | ⟨b'1,hp⟩
  ·refine zK (t:=(decide (x < (s.length:Int)))) rfl b'1 ?_
   refine zN (Zc (Zk (Zas (Zk (Zo (Zf (.n x) q'2_8 (Zf (.n x) rfl ?_)))))))
   refine Zd (Zc (Zk (Zo (Zf (.f id_f cap_f) q'2_1 (Zf v_s q'2_0 (Zf (.n x) rfl ?_))))))
   obtain ⟨c'1,hp⟩:=Zm hp
   refine Zj (zq (E:=zd) (z:=x) (hO'2.rd0 s_s.rd) rfl rfl c'1) (Zj (zO (w:=.n (gi s x.toNat)) (hO'2.rd0 s_s.rd) rfl (Zl c'1) rfl) ?_)
   obtain ⟨x2,hx'1,hp⟩:=Zs hp
   obtain ⟨u'1,k'3,ca'1,rfl,hW'1⟩:=f_f _ _ _ hO'2.ext hx'1
   refine ZaN (id:=id_f) (caps:=cap_f) rfl (Zu (v:=.n (gi s x.toNat)) rfl zi) ca'1 ?_
   have hO'3:=hO'2.call hW'1 rfl
   refine Zd (Zc ?_)
   rcases Zt hp with ⟨b'2,hp⟩ | ⟨b'2,hp⟩
   ·refine zK (t:=x2) rfl b'2 ?_
    refine Zk (Zo (Zf (.n x) rfl (Zf (.n x) rfl (Zd (Zc (zY (Zbd ?_)))))))
    refine z5 ?_
    cases hp
    refine (Or.inr ⟨.inr x,rfl,(fun h=>nomatch h),(fun he=>?_)⟩)
    subst he; exact ⟨rfl,rfl,(hO'3.pick [] rfl (by decide))⟩
   ·refine zG (t:=x2) rfl b'2 ?_
    refine zN (Zan (Zc (Zo ?_)))
    obtain ⟨c'2,hp⟩:=Zm hp
    refine Zj (zH (a:=x) (b:=1) q'2_8 rfl c'2) (Zf (.n (x + 1)) rfl (Zd ?_))
    cases hp
    exact (Or.inl ⟨x + 1,rfl,rfl,q'2_0,q'2_1,q'2_7,rfl,(hO'3.pick [] rfl (by decide))⟩)
  ·refine zG (t:=(decide (x < (s.length:Int)))) rfl b'1 ?_
   refine Zbp (zZ ?_)
   cases hp
   refine (Or.inr ⟨.inl (),rfl,(fun h=>nomatch h),(fun he=>?_)⟩)
   subst he; exact ⟨rfl,(hO'2.pick [] rfl (by decide))⟩
 intro e'1 q'1 k'1 hJ'1
 rcases o'1 with _ | x1
 ·obtain ⟨rfl,hO'1⟩:=hJ'1
  refine ZaJ (Zc (Zk (Zo (Zf (.n (-1)) rfl (Zd (Zc (zY ?_)))))))
  refine zx (zC (n:=4) (v:=.n (-1)) rfl ZS) ?_
  cases hp
  exact ⟨rfl,(hO'1.pick [] rfl (by decide))⟩
 ·obtain ⟨rfl,q'1_4,hO'1⟩:=hJ'1
  refine Zbd (z5 (zx (zC (n:=4) (v:=.n x1) q'1_4 ZS) ?_))
  cases hp
  exact ⟨rfl,(hO'1.pick [] rfl (by decide))⟩

theorem Zac.ok {h:Hp} {s:List Int} {f:Int→Option Bool} {v_s:V} {id_f:Nat} {cap_f:List V} (s_s:Sl zd h v_s s) (f_f:∀ (k:Hp) (x0:Int) (y:Bool),Ex' (fun r=>r < h.n) h k→f x0 = some y→∃ u k',Is G id_f (.n x0 :: cap_f) k u k'∧V.b y = u∧Own (fun r=>r < k.n) k k' []) {r:Bool} (hp:Zac s f = some r) :
  ∃ u k',Is G 78 [v_s,.f id_f cap_f] h u k'∧V.b r = u∧Own (fun r=>r < h.n) h k' []:=by
 refine WC.is (Za7 ZbK ?_)
 unfold Zac at hp
 let B:Nat→Prop:=(fun r=>r < h.n)
 have hO:Own B h h []:=Own.start0 h
 refine Zk (Zo (Zf (.b false) rfl (Zd (Zc (Zk (Zo (Zf v_s rfl ?_)))))))
 refine Zf (.f id_f cap_f) rfl ?_
 obtain ⟨x,hx'1,hp⟩:=Zs hp
 obtain ⟨u'1,k'1,ca'1,rfl,hW'1⟩:=z3.ok (h:=h)  (hO.rd0 s_s.rd) (fun k z0 y hk hx=>f_f k z0 y (Zmz hO hk) hx) hx'1
 refine ZaN (id:=91) (caps:=[]) rfl (Zu (v:=v_s) rfl (Zu (v:=.f id_f cap_f) rfl zi)) ca'1 ?_
 have hO'1:=hO.call hW'1 rfl
 refine Zj (Zcy (a:=x) (b:=0) rfl rfl) (Zf (.b (decide (0≤x))) rfl (Zd (Zc (zY (zx (zC (n:=4) (v:=.b (decide (0≤x))) rfl ZS) ?_)))))
 cases hp
 exact ⟨rfl,(hO'1.pick [] rfl (by decide))⟩

theorem zU.ok {h:Hp} {s:List Int} {v:Int} {v_s:V} (s_s:Sl zd h v_s s) {r:Int} (hp:zU s v = some r) :
  ∃ u k',Is G 136 [v_s,.n v] h u k'∧V.n r = u∧Own (fun r=>r < h.n) h k' []:=by
 refine WC.is (Za7 ZcL ?_)
 unfold zU at hp
 let B:Nat→Prop:=(fun r=>r < h.n)
 have hO:Own B h h []:=Own.start0 h
 refine Zk (Zo (Zf (.n 0) rfl (Zd (Zc (Zk (Zk (Zo ?_)))))))
 refine Zf v_s rfl (Zj (Za0 (hO.rd0 s_s.rd) rfl) (Zf (.n 0) rfl (Zd (Zc (Zas ?_)))))
 obtain ⟨o'1,ho'1,hp⟩:=Zs hp
 refine W.mono (Q:=fun e fr k=>match (generalizing:=false) o'1 with
   | .inl _=>e = (.exit 0)∧Own B h k []
   | .inr x1=>e = .ret∧fr 4 = .n x1∧Own B h k []) ?_ ?_
 ·clear hp
  refine zR (fun st fr k=>match st with | x=>fr 0 = v_s∧fr 1 = .n v∧fr 7 = .n (s.length:Int)∧fr 8 = .n x∧Own B h k []) ho'1 (s:=0) ⟨rfl,rfl,rfl,rfl,(hO.pick [] rfl (by decide))⟩ ?_
  rintro x q'2 k'2 ⟨q'2_0,q'2_1,q'2_7,q'2_8,hO'2⟩ o'2 hp
  dsimp only [zU.s0] at hp
  refine Zk (Zo (Zj (zL (a:=x) (b:=(s.length:Int)) q'2_8 q'2_7) (Zd (Zc (Zk ?_)))))
  rcases Zt hp with ⟨b'1,hp⟩ | ⟨b'1,hp⟩
  ·refine zK (t:=(decide (x < (s.length:Int)))) rfl b'1 ?_
   refine zN (Zc (Zk (Zas (Zk (Zo (Zf (.n x) q'2_8 (Zf (.n x) rfl ?_)))))))
   refine Zd (Zc (Zk (Zo (Zf (.n v) q'2_1 (Zf v_s q'2_0 (Zf (.n x) rfl ?_))))))
   obtain ⟨c'1,hp⟩:=Zm hp
   refine Zj (zq (E:=zd) (z:=x) (hO'2.rd0 s_s.rd) rfl rfl c'1) (Zj (zO (w:=.n (gi s x.toNat)) (hO'2.rd0 s_s.rd) rfl (Zl c'1) rfl) (Zj (Zb2 (a:=v) (b:=(gi s x.toNat)) rfl rfl) (Zd (Zc ?_))))
   rcases Zt hp with ⟨b'2,hp⟩ | ⟨b'2,hp⟩
   ·refine zK (t:=(decide (v = gi s x.toNat))) rfl b'2 ?_
    refine Zk (Zo (Zf (.n x) rfl (Zf (.n x) rfl (Zd (Zc (zY (Zbd ?_)))))))
    refine z5 ?_
    cases hp
    refine (Or.inr ⟨.inr x,rfl,(fun h=>nomatch h),(fun he=>?_)⟩)
    subst he; exact ⟨rfl,rfl,(hO'2.pick [] rfl (by decide))⟩
   ·refine zG (t:=(decide (v = gi s x.toNat))) rfl b'2 ?_
    refine zN (Zan (Zc (Zo ?_)))
    obtain ⟨c'2,hp⟩:=Zm hp
    refine Zj (zH (a:=x) (b:=1) q'2_8 rfl c'2) (Zf (.n (x + 1)) rfl (Zd ?_))
    cases hp
    exact (Or.inl ⟨x + 1,rfl,rfl,q'2_0,q'2_1,q'2_7,rfl,(hO'2.pick [] rfl (by decide))⟩)
  ·refine zG (t:=(decide (x < (s.length:Int)))) rfl b'1 ?_
   refine Zbp (zZ ?_)
   cases hp
   refine (Or.inr ⟨.inl (),rfl,(fun h=>nomatch h),(fun he=>?_)⟩)
   subst he; exact ⟨rfl,(hO'2.pick [] rfl (by decide))⟩
 intro e'1 q'1 k'1 hJ'1
 rcases o'1 with _ | x1
 ·obtain ⟨rfl,hO'1⟩:=hJ'1
  refine ZaJ (Zc (Zk (Zo (Zf (.n (-1)) rfl (Zd (Zc (zY ?_)))))))
  refine zx (zC (n:=4) (v:=.n (-1)) rfl ZS) ?_
  cases hp
  exact ⟨rfl,(hO'1.pick [] rfl (by decide))⟩
 ·obtain ⟨rfl,q'1_4,hO'1⟩:=hJ'1
  refine Zbd (z5 (zx (zC (n:=4) (v:=.n x1) q'1_4 ZS) ?_))
  cases hp
  exact ⟨rfl,(hO'1.pick [] rfl (by decide))⟩

theorem ZaA.ok {h:Hp} {s:List Int} {v:Int} {v_s:V} (s_s:Sl zd h v_s s) {r:Bool} (hp:ZaA s v = some r) :
  ∃ u k',Is G 118 [v_s,.n v] h u k'∧V.b r = u∧Own (fun r=>r < h.n) h k' []:=by
 refine WC.is (Za7 Zcq ?_)
 unfold ZaA at hp
 let B:Nat→Prop:=(fun r=>r < h.n)
 have hO:Own B h h []:=Own.start0 h
 refine Zk (Zo (Zf (.b false) rfl (Zd (Zc (Zk (Zo (Zf v_s rfl ?_)))))))
 refine Zf (.n v) rfl ?_
 obtain ⟨x,hx'1,hp⟩:=Zs hp
 obtain ⟨u'1,k'1,ca'1,rfl,hW'1⟩:=zU.ok (h:=h)  (hO.rd0 s_s.rd) hx'1
 refine ZaN (id:=136) (caps:=[]) rfl (Zu (v:=v_s) rfl (Zu (v:=.n v) rfl zi)) ca'1 ?_
 have hO'1:=hO.call hW'1 rfl
 refine Zj (Zcy (a:=x) (b:=0) rfl rfl) (Zf (.b (decide (0≤x))) rfl (Zd (Zc (zY (zx (zC (n:=4) (v:=.b (decide (0≤x))) rfl ZS) ?_)))))
 cases hp
 exact ⟨rfl,(hO'1.pick [] rfl (by decide))⟩

theorem Zbc.ok {h:Hp} {v:Int} {c0:List Int} {r_c0:Nat} {v_c0:V} {w_c0:Bool} (b_c0:h.m r_c0 = some (.cells w_c0 [v_c0])) (s_c0:Sl zd h v_c0 c0) {r:Bool} (hp:Zbc v c0 = some r) :
  ∃ u k',Is G 141 [.n v,.p r_c0 0] h u k'∧V.b r = u∧Own (fun r=>r < h.n) h k' []:=by
 refine WC.is (Za7 Zc9 ?_)
 unfold Zbc at hp
 let B:Nat→Prop:=(fun r=>r < h.n)
 have hO:Own B h h []:=Own.start0 h
 refine Zk (Zo (Zf (.b false) rfl (Zd (Zc (Zk (Zo (Zj (zV (cs:=[v_c0]) (v:=v_c0) (hO.rdB0 (RdB.of b_c0)).choose_spec rfl rfl) ?_)))))))
 refine Zf (.n v) rfl ?_
 obtain ⟨x,hx'1,hp⟩:=Zs hp
 obtain ⟨u'1,k'1,ca'1,rfl,hW'1⟩:=ZaA.ok (h:=h)  (hO.rd0 s_c0.rd) hx'1
 refine ZaN (id:=118) (caps:=[]) rfl (Zu (v:=v_c0) rfl (Zu (v:=.n v) rfl zi)) ca'1 ?_
 have hO'1:=hO.call hW'1 rfl
 refine Zf (.b x) rfl (Zd (Zc (zY (zx (zC (n:=3) (v:=.b x) rfl ZS) ?_))))
 cases hp
 exact ⟨rfl,(hO'1.pick [] rfl (by decide))⟩

theorem ZaD.ok {h:Hp} {c:Zag} {vertical:Bool} {i:Int} {other:Bool} {k_:Int} {v_c_X:V} {v_c_Y:V} {v_c_Vert:V} {vs_c_Vert:List V} {v_c_Horz:V} {vs_c_Horz:List V} (s_c_X:Sl zd h v_c_X c.X) (s_c_Y:Sl zd h v_c_Y c.Y) (sN_c_Vert:Sl eV h v_c_Vert vs_c_Vert) (lN_c_Vert:vs_c_Vert.length = c.Vert.length) (iN_c_Vert:∀ j,j < c.Vert.length→Sl zd h (gi vs_c_Vert j) (gi c.Vert j)) (sN_c_Horz:Sl eV h v_c_Horz vs_c_Horz) (lN_c_Horz:vs_c_Horz.length = c.Horz.length) (iN_c_Horz:∀ j,j < c.Horz.length→Sl zd h (gi vs_c_Horz j) (gi c.Horz j)) {r:Bool} (hp:ZaD c vertical i other k_ = some r) :
  ∃ u k',Is G 123 [.ag [v_c_X,v_c_Y,v_c_Vert,v_c_Horz],.b vertical,.n i,.b other,.n k_] h u k'∧V.b r = u∧Own (fun r=>r < h.n) h k' []:=by
 refine WC.is (Za7 ZcV ?_)
 unfold ZaD at hp
 let B:Nat→Prop:=(fun r=>r < h.n)
 have hO:Own B h h []:=Own.start0 h
 refine Zk (Zo (zF (hO.boxd (v:=.ag [v_c_X,v_c_Y,v_c_Vert,v_c_Horz]) (cs:=[v_c_X,v_c_Y,v_c_Vert,v_c_Horz]) hO.fr rfl rfl) ?_))
 rintro _ k'1 ⟨r'1,rfl,n'1,f'1,hW⟩
 have hO'1:=hW
 refine Zf (.b false) rfl (Zd (Zc (Zk (Zo (Zj (Zbe (cs:=[v_c_X,v_c_Y,v_c_Vert,v_c_Horz]) (ws:=[v_c_X,v_c_Y,v_c_Vert,v_c_Horz]) (hO'1.box 0 rfl) rfl rfl) (Zf (.b other) rfl (Zf (.n k_) rfl ?_)))))))
 obtain ⟨x,hx'1,hp⟩:=Zs hp
 obtain ⟨u'1,k'2,ca'1,v'1,rfl,hb'1,hW'1⟩:=Zay.ok (h:=k'1)  (hO'1.pick [] rfl (by decide)) s_c_X.rd s_c_Y.rd sN_c_Vert.rd lN_c_Vert (fun j hj=>(iN_c_Vert j hj).rd) sN_c_Horz.rd lN_c_Horz (fun j hj=>(iN_c_Horz j hj).rd) hx'1
 refine ZaN (id:=140) (caps:=[]) rfl (Zu (v:=.ag [v_c_X,v_c_Y,v_c_Vert,v_c_Horz]) rfl (Zu (v:=.b other) rfl (Zu (v:=.n k_) rfl zi))) ca'1 ?_
 have hO'2:=hO'1.call hW'1 rfl
 refine zF (hO'2.alloc (cs:=[.sn]) hO'2.fr) ?_
 rintro _ k'3 ⟨r'2,rfl,n'2,f'2,hW⟩
 have hO'3:=hW
 refine zF (hO'3.stb (ws:=[v'1]) (cs':=[v'1]) (v:=v'1) 1 rfl rfl rfl (hO'3.rd0 hb'1).cells ⟨rfl,Nat.le_of_ble_eq_true rfl,(all_cons (hO'3.rd0 hb'1).oneV rfl)⟩ rfl) ?_
 rintro _ k'4 ⟨rfl,f'3,m'1,hW⟩
 have hO'4:=hW
 refine Zd (Zc (Zk (Zo (Zj (Zbe (cs:=[v_c_X,v_c_Y,v_c_Vert,v_c_Horz]) (ws:=[v_c_X,v_c_Y,v_c_Vert,v_c_Horz]) (hO'4.box 0 rfl) rfl rfl) (Zf (.b vertical) rfl (Zf (.n i) rfl ?_))))))
 obtain ⟨x1,hx'2,hp⟩:=Zs hp
 obtain ⟨u'2,k'5,ca'2,v'2,rfl,hb'2,hW'2⟩:=Zay.ok (h:=k'4)  (hO'4.pick [] rfl (by decide)) s_c_X.rd s_c_Y.rd sN_c_Vert.rd lN_c_Vert (fun j hj=>(iN_c_Vert j hj).rd) sN_c_Horz.rd lN_c_Horz (fun j hj=>(iN_c_Horz j hj).rd) hx'2
 refine ZaN (id:=140) (caps:=[]) rfl (Zu (v:=.ag [v_c_X,v_c_Y,v_c_Vert,v_c_Horz]) rfl (Zu (v:=.b vertical) rfl (Zu (v:=.n i) rfl zi))) ca'2 ?_
 have hO'5:=hO'4.call hW'2 rfl
 refine Zj (Zmr (vs:=[.p r'2 0]) (ZkG (v:=.p r'2 0) rfl ZlO)) ?_
 obtain ⟨x2,hx'3,hp⟩:=Zs hp
 obtain ⟨u'3,k'6,ca'3,rfl,hW'3⟩:=Zac.ok (h:=k'5)  (hO'5.rd0 hb'2) (fun k z0 y hk hx=>Zbc.ok (h:=k) ((hk.2 _ (Hp.lt (hO'5.box 1 rfl))).trans (hO'5.box 1 rfl)) (((hO'5.rd0 hb'1)).ext ⟨hk.1,hk.2⟩) hx) hx'3
 refine ZaN (id:=78) (caps:=[]) rfl (Zu (v:=v'2) rfl (Zu (v:=.f 141 [.p r'2 0]) rfl zi)) ca'3 ?_
 have hO'6:=hO'5.call hW'3 rfl
 refine Zf (.b x2) rfl (Zd (Zc (zY (zx (zC (n:=10) (v:=.b x2) rfl ZS) ?_))))
 cases hp
 exact ⟨rfl,(hO'6.pick [] rfl (by decide))⟩

theorem zo.ok {h:Hp} {cells:List Za} {at_:List Ze} {v_cells:V} {v_at_:V} (s_cells:Sl Zi h v_cells cells) (s_at_:Sl Zb h v_at_ at_) {r:Bool} (hp:zo cells at_ = some r) :
  ∃ u k',Is G 225 [v_cells,v_at_] h u k'∧V.b r = u∧Own (fun r=>r < h.n) h k' []:=by
 refine WC.is (Za7 Zdm ?_)
 unfold zo at hp
 let B:Nat→Prop:=(fun r=>r < h.n)
 have hO:Own B h h []:=Own.start0 h
 refine Zk (Zo (Zf (.b false) rfl (Zd (Zc (Zk (Zo (Zf v_cells rfl ?_)))))))
 obtain ⟨⟨x,x1⟩,hx'1,hp⟩:=Zs hp
 obtain ⟨u'1,k'1,ca'1,v'1,v'2,v'3,vs'1,v'4,vs'2,rfl,hW'1⟩:=Zcg.ok (h:=h)  (hO.rd0 s_cells.rd) hx'1
 refine ZaN (id:=120) (caps:=[]) rfl (Zu (v:=v_cells) rfl zi) ca'1 ?_
 have hO'1:=hO.call hW'1 rfl
 refine Zf (.tu [.ag [v'1,v'2,v'3,v'4],.n x1]) rfl (Zj (Zbn (vs:=[.ag [v'1,v'2,v'3,v'4],.n x1]) (v:=.ag [v'1,v'2,v'3,v'4]) rfl rfl) (Zj (Zbn (vs:=[.ag [v'1,v'2,v'3,v'4],.n x1]) (v:=.n x1) rfl rfl) (zF (hO'1.alloc (cs:=[.sn,.sn,.sn,.sn]) hO'1.fr) ?_)))
 rintro _ k'2 ⟨r'1,rfl,n'1,f'1,hW⟩
 have hO'2:=hW
 refine zF (hO'2.stb (ws:=[v'1,v'2,v'3,v'4]) (cs':=[v'1,v'2,v'3,v'4]) (v:=.ag [v'1,v'2,v'3,v'4]) 6 rfl rfl rfl rfl ⟨rfl,Nat.le_of_ble_eq_true rfl,(all_cons (hO'2.sl 0 rfl).oneV (all_cons (hO'2.sl 1 rfl).oneV (all_cons (hO'2.sl 2 rfl).oneV (all_cons (hO'2.sl 4 rfl).oneV all_nil))))⟩ rfl) ?_
 rintro _ k'3 ⟨rfl,f'2,m'1,hW⟩
 have hO'3:=hW
 refine Zf (.n x1) rfl (Zd (Zc (Zk (Zo (Zf v_cells rfl ?_)))))
 obtain ⟨⟨x2,x3⟩,hx'2,hp⟩:=Zs hp
 obtain ⟨u'2,k'4,ca'2,v'5,rfl,hW'2⟩:=ZbT.ok (h:=k'3)  (hO'3.rd0 s_cells.rd) hx'2
 refine ZaN (id:=187) (caps:=[]) rfl (Zu (v:=v_cells) rfl zi) ca'2 ?_
 have hO'4:=hO'3.call hW'2 rfl
 refine Zf (.tu [v'5,.n x3]) rfl (Zj (Zbn (vs:=[v'5,.n x3]) (v:=v'5) rfl rfl) (Zj (Zbn (vs:=[v'5,.n x3]) (v:=.n x3) rfl rfl) (Zf v'5 rfl (Zf (.n x3) rfl (Zd (Zc (Zk ?_)))))))
 refine Zk (Zo (Zf v'5 rfl (Zj (Za0 (hO'4.sl 7 rfl) rfl) (Zf (.n 0) rfl (Zd (Zc (Zas ?_)))))))
 obtain ⟨o'1,ho'1,hp⟩:=Zs hp
 refine W.mono (Q:=fun e fr k=>match (generalizing:=false) o'1 with
   | .inl _=>e = (.exit 0)∧Own B h k []
   | .inr _=>e = .ret∧fr 4 = .b true∧Own B h k []) ?_ ?_
 ·clear hp
  refine zR (fun st fr k=>match st with | x4=>fr 1 = v_at_∧fr 5 = .p r'1 0∧fr 7 = v'5∧fr 24 = v'5∧fr 25 = .n (x2.length:Int)∧fr 26 = .n x4∧Own B h k [Zbw r'1 [v'1,v'2,v'3,v'4],eSl zd v'1 x.X,eSl zd v'2 x.Y,eSl eV v'3 vs'1,ZbI zd vs'1 x.Vert,eSl eV v'4 vs'2,ZbI zd vs'2 x.Horz,eSl Z4 v'5 x2]) ho'1 (s:=0) ⟨rfl,rfl,rfl,rfl,rfl,rfl,(hO'4.pick [6,0,1,2,3,4,5,7] rfl (by decide))⟩ ?_
  rintro x4 q'2 k'6 ⟨q'2_1,q'2_5,q'2_7,q'2_24,q'2_25,q'2_26,hO'6⟩ o'2 hp
  dsimp only [zo.s0] at hp
  refine Zk (Zo (Zj (zL (a:=x4) (b:=(x2.length:Int)) q'2_26 q'2_25) (Zd (Zc (Zk ?_)))))
  rcases Zt hp with ⟨b'1,hp⟩ | ⟨b'1,hp⟩
  ·refine zK (t:=(decide (x4 < (x2.length:Int)))) rfl b'1 ?_
   refine zN (Zc (Zk (Zas (Zk (Zo (Zf (.n x4) q'2_26 ?_))))))
   obtain ⟨c'1,hp⟩:=Zm hp
   refine Zj (zq (E:=Z4) (z:=x4) (hO'6.sl 7 rfl) q'2_24 q'2_26 c'1) (Zj (Zdp (E:=Z4) (hO'6.sl 7 rfl) rfl (Zl c'1)) (zF (hO'6.alloc (cs:=Z4.c (⟨false,0⟩:zu)) hO'6.fr) ?_))
   rintro _ k'7 ⟨r'2,rfl,n'2,f'3,hW⟩
   have hO'7:=hW
   refine Zf (.n x4) rfl (zF (hO'7.stb (ws:=Z4.c (gi x2 x4.toNat)) (cs':=Z4.c (gi x2 x4.toNat)) (v:=.ag (Z4.c (gi x2 x4.toNat))) 8 rfl rfl rfl rfl ⟨rfl,Nat.le_of_ble_eq_true rfl,rfl⟩ rfl) ?_)
   rintro _ k'8 ⟨rfl,f'4,m'2,hW⟩
   have hO'8:=hW
   refine Zd (Zc (Zk (Zo (Zj (Zbe (cs:=[v'1,v'2,v'3,v'4]) (ws:=[v'1,v'2,v'3,v'4]) (hO'8.box 0 rfl) q'2_5 rfl) (Zj (Zbe (cs:=(Z4.c (gi x2 x4.toNat))) (ws:=Z4.c (gi x2 x4.toNat)) (hO'8.box 8 rfl) rfl rfl) (Zf v_at_ q'2_1 ?_))))))
   obtain ⟨x5,hx'3,hp⟩:=Zs hp
   obtain ⟨u'3,k'9,ca'3,rfl,hW'3⟩:=Zbm.ok (h:=k'8)  (hO'8.sl 1 rfl) (hO'8.sl 2 rfl) (hO'8.sl 3 rfl) (hO'8.allLen 4 rfl:(vs'1).length = (x.Vert).length) (fun j hj=>hO'8.inn 4 rfl hj) (hO'8.sl 5 rfl) (hO'8.allLen 6 rfl:(vs'2).length = (x.Horz).length) (fun j hj=>hO'8.inn 6 rfl hj) (hO'8.rd0 s_at_.rd) hx'3
   refine ZaN (id:=231) (caps:=[]) rfl (Zu (v:=.ag [v'1,v'2,v'3,v'4]) rfl (Zu (v:=.ag (Z4.c (gi x2 x4.toNat))) rfl (Zu (v:=v_at_) rfl zi))) ca'3 ?_
   have hO'9:=hO'8.call hW'3 rfl
   refine zF (hO'9.alloc (cs:=ZW.c (⟨⟨0,0⟩,⟨0,0⟩⟩:Zal)) hO'9.fr) ?_
   rintro _ k'10 ⟨r'3,rfl,n'3,f'5,hW⟩
   have hO'10:=hW
   refine zF (hO'10.stb (ws:=ZW.c x5) (cs':=ZW.c x5) (v:=.ag (ZW.c x5)) 9 rfl rfl rfl rfl ⟨rfl,Nat.le_of_ble_eq_true rfl,rfl⟩ rfl) ?_
   rintro _ k'11 ⟨rfl,f'6,m'3,hW⟩
   have hO'11:=hW
   refine Zd (Zc (Zk (Zo (Zf v'5 q'2_7 (Zf (.n x4) rfl ?_)))))
   obtain ⟨c'2,hp⟩:=Zm hp
   refine Zj (zH (a:=x4) (b:=1) rfl rfl c'2) ?_
   obtain ⟨c'3,hp⟩:=Zm hp
   refine Zj (Zh6 (E:=Z4) (z:=(x4 + 1)) (hO'11.sl 7 rfl) rfl rfl c'3) (Zj (Za0 (Sl.cutF (hO'11.sl 7 rfl) c'3:Sl Z4 k'11 (V.cut v'5 (x4 + 1:Int).toNat (x2).length) (x2.drop (x4 + 1:Int).toNat)) rfl) (Zf (.n 0) rfl (Zd (Zc (Zas ?_)))))
   obtain ⟨o'3,ho'2,hp⟩:=Zs hp
   refine W.mono (Q:=fun e fr k=>match (generalizing:=false) o'3 with
     | .inl _=>e = (.exit 2)∧fr 1 = v_at_∧fr 5 = .p r'1 0∧fr 7 = v'5∧fr 24 = v'5∧fr 25 = .n (x2.length:Int)∧fr 26 = .n x4∧Own B h k [Zbw r'1 [v'1,v'2,v'3,v'4],eSl zd v'1 x.X,eSl zd v'2 x.Y,eSl eV v'3 vs'1,ZbI zd vs'1 x.Vert,eSl eV v'4 vs'2,ZbI zd vs'2 x.Horz,eSl Z4 v'5 x2]
     | .inr _=>e = .ret∧fr 4 = .b true∧Own B h k []) ?_ ?_
   ·clear hp
    refine zR (fun st fr k=>match st with | x6=>fr 1 = v_at_∧fr 5 = .p r'1 0∧fr 7 = v'5∧fr 10 = .p r'2 0∧fr 11 = .p r'3 0∧fr 24 = v'5∧fr 25 = .n (x2.length:Int)∧fr 26 = .n x4∧fr 38 = (V.cut v'5 (x4 + 1:Int).toNat (x2).length)∧fr 39 = .n ((x2.drop (x4 + 1:Int).toNat).length:Int)∧fr 40 = .n x6∧Own B h k [Zbw r'1 [v'1,v'2,v'3,v'4],eSl zd v'1 x.X,eSl zd v'2 x.Y,eSl eV v'3 vs'1,ZbI zd vs'1 x.Vert,eSl eV v'4 vs'2,ZbI zd vs'2 x.Horz,eSl Z4 v'5 x2,Zbw r'2 (Z4.c (gi x2 x4.toNat)),Zbw r'3 (ZW.c x5)]) ho'2 (s:=0) ⟨q'2_1,q'2_5,q'2_7,rfl,rfl,q'2_24,q'2_25,q'2_26,rfl,rfl,rfl,(hO'11.pick [0,1,2,3,4,5,6,7,8,9] rfl (by decide))⟩ ?_
    rintro x6 q'4 k'13 ⟨q'4_1,q'4_5,q'4_7,q'4_10,q'4_11,q'4_24,q'4_25,q'4_26,q'4_38,q'4_39,q'4_40,hO'13⟩ o'4 hp
    dsimp only [zo.s1] at hp
    refine Zk (Zo (Zj (zL (a:=x6) (b:=((x2.drop (x4 + 1:Int).toNat).length:Int)) q'4_40 q'4_39) (Zd (Zc (Zk ?_)))))
    rcases Zt hp with ⟨b'2,hp⟩ | ⟨b'2,hp⟩
    ·refine zK (t:=(decide (x6 < ((x2.drop (x4 + 1:Int).toNat).length:Int)))) rfl b'2 ?_
     refine zN (Zc (Zk (Zas (Zk (Zo ?_)))))
     obtain ⟨c'4,hp⟩:=Zm hp
     refine Zj (zq (E:=Z4) (z:=x6) (Sl.cutF (hO'13.sl 7 rfl) c'3:Sl Z4 k'13 (V.cut v'5 (x4 + 1:Int).toNat (x2).length) (x2.drop (x4 + 1:Int).toNat)) q'4_38 q'4_40 c'4) (Zj (Zdp (E:=Z4) (Sl.cutF (hO'13.sl 7 rfl) c'3:Sl Z4 k'13 (V.cut v'5 (x4 + 1:Int).toNat (x2).length) (x2.drop (x4 + 1:Int).toNat)) rfl (Zl c'4)) (zF (hO'13.alloc (cs:=Z4.c (⟨false,0⟩:zu)) hO'13.fr) ?_))
     rintro _ k'14 ⟨r'4,rfl,n'4,f'7,hW⟩
     have hO'14:=hW
     refine zF (hO'14.stb (ws:=Z4.c (gi (x2.drop (x4 + 1:Int).toNat) x6.toNat)) (cs':=Z4.c (gi (x2.drop (x4 + 1:Int).toNat) x6.toNat)) (v:=.ag (Z4.c (gi (x2.drop (x4 + 1:Int).toNat) x6.toNat))) 10 rfl rfl rfl rfl ⟨rfl,Nat.le_of_ble_eq_true rfl,rfl⟩ rfl) ?_
     rintro _ k'15 ⟨rfl,f'8,m'4,hW⟩
     have hO'15:=hW
     refine Zd (Zc (Zk (Zfj ?_)))
     have hW:=hO'15.bump 20
     have fr'1:=Fresh.start k'15 20
     have nb'1:∀ {i:Nat},h.n≤k'15.n + i:=Nat.le_trans hO'15.n (Nat.le_add_right _ _)
     have hO'16:=hW
     refine zm (Zbe (cs:=(ZW.c x5)) (ws:=ZW.c x5) (hO'16.box 9 rfl) q'4_11 rfl) (zm (Zbe (cs:=[v'1,v'2,v'3,v'4]) (ws:=[v'1,v'2,v'3,v'4]) (hO'16.box 0 rfl) q'4_5 rfl) (zm (Zbe (cs:=(Z4.c (gi (x2.drop (x4 + 1:Int).toNat) x6.toNat))) (ws:=Z4.c (gi (x2.drop (x4 + 1:Int).toNat) x6.toNat)) (hO'16.box 10 rfl) rfl rfl) (ZaK v_at_ q'4_1 ?_)))
     obtain ⟨x7,hx'4,hp⟩:=Zs hp
     obtain ⟨u'4,k'17,ca'4,rfl,hW'4⟩:=Zbm.ok (h:=(k'15.bump 20))  (hO'16.sl 1 rfl) (hO'16.sl 2 rfl) (hO'16.sl 3 rfl) (hO'16.allLen 4 rfl:(vs'1).length = (x.Vert).length) (fun j hj=>hO'16.inn 4 rfl hj) (hO'16.sl 5 rfl) (hO'16.allLen 6 rfl:(vs'2).length = (x.Horz).length) (fun j hj=>hO'16.inn 6 rfl hj) (hO'16.rd0 s_at_.rd) hx'4
     refine Zhc (id:=231) (caps:=[]) rfl (Zu (v:=.ag [v'1,v'2,v'3,v'4]) rfl (Zu (v:=.ag (Z4.c (gi (x2.drop (x4 + 1:Int).toNat) x6.toNat))) rfl (Zu (v:=v_at_) rfl zi))) ca'4 ?_
     have fr'2:=fr'1.call hW'4
     have hO'17:=hO'16.call hW'4 rfl
     obtain ⟨x8,hx'5,hp⟩:=Zs hp
     obtain ⟨u'5,k'18,ca'5,rfl,hW'5⟩:=Zbo.ok (h:=k'17)   hx'5
     refine Zhc (id:=186) (caps:=[]) rfl (Zu (v:=.ag (ZW.c x5)) rfl (Zu (v:=.ag (ZW.c x7)) rfl zi)) ca'5 ?_
     have fr'3:=fr'2.call hW'5
     have hO'18:=hO'17.call hW'5 rfl
     refine zm (Zdd (t:=x8) rfl) (ZaK (.b (!x8)) rfl ?_)
     rcases Zt hp with ⟨b'3,hp⟩ | ⟨b'3,hp⟩
     ·skip
      refine Zbv rfl b'3 (zm (Zbe (cs:=[v'1,v'2,v'3,v'4]) (ws:=[v'1,v'2,v'3,v'4]) (hO'18.box 0 rfl) q'4_5 rfl) (Zbv rfl b'3 (zm (Zaz (r:=r'2) (o:=0) (o':=0) q'4_10 rfl) (Zbv rfl b'3 (zm (zV (cs:=(Z4.c (gi x2 x4.toNat))) (v:=.b ((gi x2 x4.toNat).Vertical)) (hO'18.box 8 rfl) rfl rfl) (Zbv rfl b'3 (zm (Zaz (r:=r'2) (o:=0) (o':=1) q'4_10 rfl) ?_)))))))
      refine Zbv rfl b'3 (zm (zV (cs:=(Z4.c (gi x2 x4.toNat))) (v:=.n ((gi x2 x4.toNat).Place)) (hO'18.box 8 rfl) rfl rfl) (Zbv rfl b'3 (zm (Zaz (r:=r'4) (o:=0) (o':=0) rfl rfl) (Zbv rfl b'3 (zm (zV (cs:=(Z4.c (gi (x2.drop (x4 + 1:Int).toNat) x6.toNat))) (v:=.b ((gi (x2.drop (x4 + 1:Int).toNat) x6.toNat).Vertical)) (hO'18.box 10 rfl) rfl rfl) (Zbv rfl b'3 (zm (Zaz (r:=r'4) (o:=0) (o':=1) rfl rfl) ?_)))))))
      refine Zbv rfl b'3 (zm (zV (cs:=(Z4.c (gi (x2.drop (x4 + 1:Int).toNat) x6.toNat))) (v:=.n ((gi (x2.drop (x4 + 1:Int).toNat) x6.toNat).Place)) (hO'18.box 10 rfl) rfl rfl) (Zbv rfl b'3 ?_))
      obtain ⟨x9,hx'6,hp⟩:=Zs hp
      obtain ⟨u'6,k'19,ca'6,rfl,hW'6⟩:=ZaD.ok (h:=k'18)  (hO'18.sl 1 rfl) (hO'18.sl 2 rfl) (hO'18.sl 3 rfl) (hO'18.allLen 4 rfl:(vs'1).length = (x.Vert).length) (fun j hj=>hO'18.inn 4 rfl hj) (hO'18.sl 5 rfl) (hO'18.allLen 6 rfl:(vs'2).length = (x.Horz).length) (fun j hj=>hO'18.inn 6 rfl hj) hx'6
      refine Zhc (id:=123) (caps:=[]) rfl (Zu (v:=.ag [v'1,v'2,v'3,v'4]) rfl (Zu (v:=.b ((gi x2 x4.toNat).Vertical)) rfl (Zu (v:=.n ((gi x2 x4.toNat).Place)) rfl (Zu (v:=.b ((gi (x2.drop (x4 + 1:Int).toNat) x6.toNat).Vertical)) rfl (Zu (v:=.n ((gi (x2.drop (x4 + 1:Int).toNat) x6.toNat).Place)) rfl zi))))) ca'6 ?_
      have fr'4:=fr'3.call hW'6
      have hO'19:=hO'18.call hW'6 rfl
      refine Zbv rfl b'3 (zm (Zdd (t:=x9) rfl) (zm (zn (t:=(!x8)) (v:=.b (!x9)) rfl b'3 rfl) (ZbZ ?_)))
      refine And.intro ?_ ?_
      ·intro q hq
       simp only [List.mem_cons,List.not_mem_nil,or_false] at hq
       rcases hq with rfl | rfl | rfl | rfl | rfl | rfl | rfl | rfl | rfl | rfl | rfl | rfl | rfl | rfl
       ·refine Za8 ?_ ?_
        ·exact (fun h=>nomatch h)
        ·exact (fun h=>nomatch h)
       ·refine Za8 ?_ ?_
        ·exact (fun h=>nomatch h)
        ·exact (fun h=>nomatch h)
       ·refine Za8 ?_ ?_
        ·exact (fun h=>nomatch h)
        ·exact (fun h=>nomatch h)
       ·refine Zjn rfl rfl ?_
        ·exact (fun r hm hc=>hc (hW'4.base r (Nat.lt_of_lt_of_le (hO'15.ltAt 9 rfl _ (tch (v:=V.p r'3 0) (Zei hm) q'4_11)) (Nat.le_trans (Nat.le_add_right _ _) fr'1.n))))
       ·refine Za8 ?_ ?_
        ·exact (fun h=>nomatch h)
        ·exact (fun h=>nomatch h)
       ·refine Za8 ?_ ?_
        ·exact (fun h=>nomatch h)
        ·exact (fun h=>nomatch h)
       ·refine Za8 ?_ ?_
        ·exact (fun h=>nomatch h)
        ·exact (fun h=>nomatch h)
       ·refine Za8 ?_ ?_
        ·exact (fun h=>nomatch h)
        ·exact (fun h=>nomatch h)
       ·refine Za8 ?_ ?_
        ·exact (fun h=>nomatch h)
        ·exact (fun h=>nomatch h)
       ·refine Za8 ?_ ?_
        ·exact (fun h=>nomatch h)
        ·exact (fun h=>nomatch h)
       ·refine Za8 ?_ ?_
        ·exact (fun h=>nomatch h)
        ·exact (fun h=>nomatch h)
       ·refine Za8 ?_ ?_
        ·exact (fun h=>nomatch h)
        ·exact (fun h=>nomatch h)
       ·refine Za8 ?_ ?_
        ·exact (fun h=>nomatch h)
        ·exact (fun h=>nomatch h)
       ·refine Za8 ?_ ?_
        ·exact (fun h=>nomatch h)
        ·exact (fun h=>nomatch h)
      refine Zc ?_
      rcases Zt hp with ⟨b'4,hp⟩ | ⟨b'4,hp⟩
      ·refine zK (t:=(!x9)) rfl b'4 ?_
       refine Zk (Zo (Zf (.b true) rfl (Zd (Zc (zY (Zbd (z5 ?_)))))))
       cases hp
       refine (Or.inr ⟨.inr (),rfl,(fun h=>nomatch h),(fun he=>?_)⟩)
       subst he; exact ⟨rfl,rfl,(hO'19.pick [] rfl (by decide))⟩
      ·refine zG (t:=(!x9)) rfl b'4 ?_
       refine zN (Zan (Zc (Zo ?_)))
       obtain ⟨c'5,hp⟩:=Zm hp
       refine Zj (zH (a:=x6) (b:=1) q'4_40 rfl c'5) (Zf (.n (x6 + 1)) rfl (Zd ?_))
       cases hp
       exact (Or.inl ⟨x6 + 1,rfl,rfl,q'4_1,q'4_5,q'4_7,q'4_10,q'4_11,q'4_24,q'4_25,q'4_26,q'4_38,q'4_39,rfl,(hO'19.pick [0,1,2,3,4,5,6,7,8,9] rfl (by decide))⟩)
     ·skip
      refine zQ rfl b'3 (zQ rfl b'3 (zQ rfl b'3 (zQ rfl b'3 (zQ rfl b'3 (zQ rfl b'3 (zQ rfl b'3 (zQ rfl b'3 ?_)))))))
      refine zQ rfl b'3 (zQ rfl b'3 (zQ rfl b'3 (zm (ze (t:=(!x8)) (v:=.b false) rfl b'3 rfl) (ZbZ ?_))))
      refine And.intro ?_ ?_
      ·intro q hq
       simp only [List.mem_cons,List.not_mem_nil,or_false] at hq
       rcases hq with rfl | rfl | rfl | rfl | rfl | rfl | rfl | rfl | rfl | rfl | rfl | rfl | rfl | rfl
       ·refine Za8 ?_ ?_
        ·exact (fun h=>nomatch h)
        ·exact (fun h=>nomatch h)
       ·refine Za8 ?_ ?_
        ·exact (fun h=>nomatch h)
        ·exact (fun h=>nomatch h)
       ·refine Za8 ?_ ?_
        ·exact (fun h=>nomatch h)
        ·exact (fun h=>nomatch h)
       ·refine Zjn rfl rfl ?_
        ·exact (fun r hm hc=>hc (hW'4.base r (Nat.lt_of_lt_of_le (hO'15.ltAt 9 rfl _ (tch (v:=V.p r'3 0) (Zei hm) q'4_11)) (Nat.le_trans (Nat.le_add_right _ _) fr'1.n))))
       ·exact Zd1
       ·exact Zd1
       ·exact Zd1
       ·exact Zd1
       ·exact Zd1
       ·exact Zd1
       ·exact Zd1
       ·exact Zd1
       ·exact Zd1
       ·exact Zd1
      refine Zc (zG (t:=false) rfl rfl (zN (Zan (Zc (Zo ?_)))))
      obtain ⟨c'6,hp⟩:=Zm hp
      refine Zj (zH (a:=x6) (b:=1) q'4_40 rfl c'6) (Zf (.n (x6 + 1)) rfl (Zd ?_))
      cases hp
      exact (Or.inl ⟨x6 + 1,rfl,rfl,q'4_1,q'4_5,q'4_7,q'4_10,q'4_11,q'4_24,q'4_25,q'4_26,q'4_38,q'4_39,rfl,(hO'18.pick [0,1,2,3,4,5,6,7,8,9] rfl (by decide))⟩)
    ·refine zG (t:=(decide (x6 < ((x2.drop (x4 + 1:Int).toNat).length:Int)))) rfl b'2 ?_
     refine Zbp (zZ ?_)
     cases hp
     refine (Or.inr ⟨.inl (),rfl,(fun h=>nomatch h),(fun he=>?_)⟩)
     subst he; exact ⟨rfl,q'4_1,q'4_5,q'4_7,q'4_24,q'4_25,q'4_26,(hO'13.pick [0,1,2,3,4,5,6,7] rfl (by decide))⟩
   intro e'2 q'3 k'12 hJ'2
   rcases o'3 with _ | _
   ·obtain ⟨rfl,q'3_1,q'3_5,q'3_7,q'3_24,q'3_25,q'3_26,hO'12⟩:=hJ'2
    refine ZaJ (Zan (Zc (Zo (Zj (zH (a:=x4) (b:=1) q'3_26 rfl c'2) (Zf (.n (x4 + 1)) rfl (Zd ?_))))))
    cases hp
    exact (Or.inl ⟨x4 + 1,rfl,rfl,q'3_1,q'3_5,q'3_7,q'3_24,q'3_25,rfl,(hO'12.pick [0,1,2,3,4,5,6,7] rfl (by decide))⟩)
   ·obtain ⟨rfl,q'3_4,hO'12⟩:=hJ'2
    refine Zbd (Zbd (z5 ?_))
    cases hp
    refine (Or.inr ⟨.inr (),rfl,(fun h=>nomatch h),(fun he=>?_)⟩)
    subst he; exact ⟨rfl,q'3_4,(hO'12.pick [] rfl (by decide))⟩
  ·refine zG (t:=(decide (x4 < (x2.length:Int)))) rfl b'1 ?_
   refine Zbp (zZ ?_)
   cases hp
   refine (Or.inr ⟨.inl (),rfl,(fun h=>nomatch h),(fun he=>?_)⟩)
   subst he; exact ⟨rfl,(hO'6.pick [] rfl (by decide))⟩
 intro e'1 q'1 k'5 hJ'1
 rcases o'1 with _ | _
 ·obtain ⟨rfl,hO'5⟩:=hJ'1
  refine ZaJ (Zc (Zk (Zo (Zf (.b false) rfl (Zd (Zc (zY ?_)))))))
  refine zx (zC (n:=4) (v:=.b false) rfl ZS) ?_
  cases hp
  exact ⟨rfl,(hO'5.pick [] rfl (by decide))⟩
 ·obtain ⟨rfl,q'1_4,hO'5⟩:=hJ'1
  refine Zbd (z5 (zx (zC (n:=4) (v:=.b true) q'1_4 ZS) ?_))
  cases hp
  exact ⟨rfl,(hO'5.pick [] rfl (by decide))⟩

theorem Zah.ok {h:Hp} {cells:List Za} {at_:List Ze} {v_cells:V} {v_at_:V} (s_cells:Sl Zi h v_cells cells) (s_at_:Sl Zb h v_at_ at_) {r:Int} (hp:Zah cells at_ = some r) :
  ∃ u k',Is G 208 [v_cells,v_at_] h u k'∧V.n r = u∧Own (fun r=>r < h.n) h k' []:=by
 refine WC.is (Za7 ZdV ?_)
 unfold Zah at hp
 let B:Nat→Prop:=(fun r=>r < h.n)
 have hO:Own B h h []:=Own.start0 h
 refine Zk (Zo (Zf (.n 0) rfl (Zd (Zc (Zk (Zk (Zo ?_)))))))
 refine Zf v_cells rfl ?_
 obtain ⟨x,hx'1,hp⟩:=Zs hp
 obtain ⟨u'1,k'1,ca'1,rfl,hW'1⟩:=Zb1.ok (h:=h)  (hO.rd0 s_cells.rd) hx'1
 refine ZaN (id:=176) (caps:=[]) rfl (Zu (v:=v_cells) rfl zi) ca'1 ?_
 have hO'1:=hO.call hW'1 rfl
 refine Zf (.n x) rfl (Zd (Zc (Zk (Zo (Zf (.n x) rfl (Zj (ZcM (a:=x) (b:=0) rfl rfl) (Zd ?_)))))))
 refine Zc ?_
 rcases Zt hp with ⟨b'1,hp⟩ | ⟨b'1,hp⟩
 ·refine zK (t:=(!(decide (x = 0)))) rfl b'1 ?_
  refine Zk (Zo (Zf (.n x) rfl (Zf (.n x) rfl (Zd (Zc (zY (z5 ?_)))))))
  refine zx (zC (n:=4) (v:=.n x) rfl ZS) ?_
  cases hp
  exact ⟨rfl,(hO'1.pick [] rfl (by decide))⟩
 ·refine zG (t:=(!(decide (x = 0)))) rfl b'1 ?_
  refine zN (Zc (Zk (Zk (Zo (Zf v_cells rfl (Zf v_at_ rfl ?_))))))
  obtain ⟨⟨x1,x2⟩,hx'2,hp⟩:=Zs hp
  obtain ⟨u'2,k'2,ca'2,rfl,hW'2⟩:=z7.ok (h:=k'1)  (hO'1.rd0 s_cells.rd) (hO'1.rd0 s_at_.rd) hx'2
  refine ZaN (id:=133) (caps:=[]) rfl (Zu (v:=v_cells) rfl (Zu (v:=v_at_) rfl zi)) ca'2 ?_
  have hO'2:=hO'1.call hW'2 rfl
  refine Zf (.tu [.n x1,.n x2]) rfl (Zj (Zbn (vs:=[.n x1,.n x2]) (v:=.n x1) rfl rfl) (Zj (Zbn (vs:=[.n x1,.n x2]) (v:=.n x2) rfl rfl) (Zf (.n x1) rfl (Zf (.n x2) rfl (Zd (Zc (Zk ?_)))))))
  refine Zo (Zf (.n x2) rfl (Zj (ZcM (a:=x2) (b:=0) rfl rfl) (Zd (Zc ?_))))
  rcases Zt hp with ⟨b'2,hp⟩ | ⟨b'2,hp⟩
  ·refine zK (t:=(!(decide (x2 = 0)))) rfl b'2 ?_
   refine Zk (Zo (Zf (.n x2) rfl (Zf (.n x2) rfl (Zd (Zc (zY (z5 ?_)))))))
   refine zx (zC (n:=4) (v:=.n x2) rfl ZS) ?_
   cases hp
   exact ⟨rfl,(hO'2.pick [] rfl (by decide))⟩
  ·refine zG (t:=(!(decide (x2 = 0)))) rfl b'2 ?_
   refine zN (Zc (Zk (Zk (Zo (Zf v_cells rfl (Zf v_at_ rfl ?_))))))
   obtain ⟨x3,hx'3,hp⟩:=Zs hp
   obtain ⟨u'3,k'3,ca'3,rfl,hW'3⟩:=zo.ok (h:=k'2)  (hO'2.rd0 s_cells.rd) (hO'2.rd0 s_at_.rd) hx'3
   refine ZaN (id:=225) (caps:=[]) rfl (Zu (v:=v_cells) rfl (Zu (v:=v_at_) rfl zi)) ca'3 ?_
   have hO'3:=hO'2.call hW'3 rfl
   refine Zd (Zc ?_)
   rcases Zt hp with ⟨b'3,hp⟩ | ⟨b'3,hp⟩
   ·refine zK (t:=x3) rfl b'3 ?_
    refine Zk (Zo (Zf (.n 14) rfl (Zd (Zc (zY (z5 (zx (zC (n:=4) (v:=.n 14) rfl ZS) ?_)))))))
    cases hp
    exact ⟨rfl,(hO'3.pick [] rfl (by decide))⟩
   ·refine zG (t:=x3) rfl b'3 ?_
    refine zN (Zc (Zk (Zo (Zf (.n 0) rfl (Zd (Zc (zY ?_)))))))
    refine zx (zC (n:=4) (v:=.n 0) rfl ZS) ?_
    cases hp
    exact ⟨rfl,(hO'3.pick [] rfl (by decide))⟩

theorem ZaQ.ok {h:Hp} {s:List Ze} {v_s:V} (s_s:Sl Zb h v_s s) {r:List Ze} (hp:ZaQ s = some r) :
  ∃ u k',Is G 165 [v_s] h u k'∧∃ (v:V),v = u∧Own (fun r=>r < h.n) h k' [eSl Zb v r]:=by
 refine WC.is (Za7 ZbM ?_)
 obtain ⟨c1,hp⟩:=Zm hp
 cases hp
 have hO:Own (fun r=>r < h.n) h h []:=Own.start0 h
 refine Zk (Zo (Zf (.sn) rfl (Zd (Zc (Zk (Zk (Zo ?_)))))))
 refine Zf v_s rfl ?_
 rcases ZlT s_s with ⟨rfl,rfl⟩ | hn
 ·refine Zj (v:=.b true) rfl ?_
  refine Zd (Zc (zK (t:=true) rfl rfl (Zk (Zo (Zf (.sn) rfl (Zd (Zc ?_)))))))
  refine zY (z5 (zx (zC (n:=2) (v:=.sn) rfl ZS) ?_))
  exact ⟨.sn,rfl,hO.nil Zb⟩
 ·refine Zj (Zmu (v:=v_s) hn rfl rfl) ?_
  refine Zd (Zc (zG (t:=false) rfl rfl (zN (Zc (Zk (Zo (zF (hO.bsl (E:=Zb) (l:=[]) hO.fr rfl rfl) ?_)))))))
  rintro v1 k1 ⟨r1,f1,hW⟩
  have hO1:Own (fun r=>r < h.n) h k1 [eSl Zb v1 []]:=hW
  refine Zf v_s rfl (zF (hO1.app (E:=Zb) (bytes:=16) 0 hO1.fr rfl (hO1.rd0 s_s.rd) rfl rfl (fun _=>rfl) (by simpa using c1) (by decide)) ?_)
  rintro v2 k2 ⟨f2,hW⟩
  have hO2:Own (fun r=>r < h.n) h k2 [eSl Zb v2 ([]++s)]:=hW
  refine Zf v2 rfl (Zd (Zc (zY (zx (zC (n:=2) (v:=v2) rfl ZS) ?_))))
  exact ⟨v2,rfl,hO2⟩

theorem Zbs.ok {h:Hp} {l:List Za} {v:Int} {d:Int} {w:Int} {o:Int} {v_l:V} (H:Own (Bm h [eSl Zi v_l l]) h h [eSl Zi v_l l]) {r:(List Za) × Int} (hp:Zbs l v d w o = some r) :
  ∃ u k',Is G 53 [v_l,.n v,.n d,.n w,.n o] h u k'∧∃ (v'1:V),V.tu [v'1,.n r.2] = u∧Own (Bm h [eSl Zi v_l l]) h k' [eSl Zi v'1 r.1]:=by
 refine WC.is (Za7 ZcH ?_)
 unfold Zbs at hp
 let B:Nat→Prop:=(Bm h [eSl Zi v_l l])
 have hO:Own B h h [eSl Zi v_l l]:=H
 refine Zk (Zo (Zf (.sn) rfl (Zf (.n 0) rfl (Zd (Zc (Zk (Zk ?_)))))))
 refine Zo (Zf (.n v) rfl (Zj (zL (a:=v) (b:=0) rfl rfl) (Zf (.b (decide (v < 0))) rfl ?_)))
 refine ZaF 5 (fun fr' k'=>h = k'∧fr' 20 = .b ((decide (v < 0)) || (decide ((l.length:Int)≤v)))∧fr' 0 = v_l∧fr' 1 = .n v∧fr' 2 = .n d∧fr' 3 = .n w∧fr' 4 = .n o) ?_ ?_
 ·rcases bc (decide (v < 0)) with b'1 | b'1
  ·skip
   refine Z1 rfl b'1 (Z1 rfl b'1 (Z1 rfl b'1 (Z1 rfl b'1 (Zj (zn (t:=(decide (v < 0))) (v:=.b ((decide (v < 0)) || (decide ((l.length:Int)≤v)))) rfl b'1 (Eq.trans (b:=V.b true) rfl (Zbz b'1))) (Zd ?_)))))
   exact ⟨rfl,rfl,rfl,rfl,rfl,rfl,rfl⟩
  ·skip
   refine ZM rfl b'1 (Zf (.n v) rfl (ZM rfl b'1 (Zf v_l rfl (ZM rfl b'1 (Zj (Za0 (hO.sl 0 rfl) rfl) (ZM rfl b'1 (Zj (Zcy (a:=v) (b:=(l.length:Int)) rfl rfl) ?_)))))))
   refine Zj (ze (t:=(decide (v < 0))) (v:=.b ((decide (v < 0)) || (decide ((l.length:Int)≤v)))) rfl b'1 (Eq.trans (b:=V.b (decide ((l.length:Int)≤v))) rfl (Zcf b'1))) (Zd ?_)
   exact ⟨rfl,rfl,rfl,rfl,rfl,rfl,rfl⟩
 rintro frg'1 _ ⟨rfl,g'1_20,g'1_0,g'1_1,g'1_2,g'1_3,g'1_4⟩
 refine Zf (.b ((decide (v < 0)) || (decide ((l.length:Int)≤v)))) g'1_20 ?_
 refine ZaF 3 (fun fr' k'=>h = k'∧fr' 24 = .b (((decide (v < 0)) || (decide ((l.length:Int)≤v))) || (decide (w < 0)))∧fr' 0 = v_l∧fr' 1 = .n v∧fr' 2 = .n d∧fr' 3 = .n w∧fr' 4 = .n o) ?_ ?_
 ·rcases bc ((decide (v < 0)) || (decide ((l.length:Int)≤v))) with b'2 | b'2
  ·skip
   refine Z1 rfl b'2 (Z1 rfl b'2 (Zj (zn (t:=((decide (v < 0)) || (decide ((l.length:Int)≤v)))) (v:=.b (((decide (v < 0)) || (decide ((l.length:Int)≤v))) || (decide (w < 0)))) rfl b'2 (Eq.trans (b:=V.b true) rfl (Zbz b'2))) (Zd ?_)))
   exact ⟨rfl,rfl,g'1_0,g'1_1,g'1_2,g'1_3,g'1_4⟩
  ·skip
   refine ZM rfl b'2 (Zf (.n w) g'1_3 (ZM rfl b'2 (Zj (zL (a:=w) (b:=0) rfl rfl) (Zj (ze (t:=((decide (v < 0)) || (decide ((l.length:Int)≤v)))) (v:=.b (((decide (v < 0)) || (decide ((l.length:Int)≤v))) || (decide (w < 0)))) rfl b'2 (Eq.trans (b:=V.b (decide (w < 0))) rfl (Zcf b'2))) (Zd ?_)))))
   exact ⟨rfl,rfl,g'1_0,g'1_1,g'1_2,g'1_3,g'1_4⟩
 rintro frg'2 _ ⟨rfl,g'2_24,g'2_0,g'2_1,g'2_2,g'2_3,g'2_4⟩
 refine Zf (.b (((decide (v < 0)) || (decide ((l.length:Int)≤v))) || (decide (w < 0)))) g'2_24 ?_
 refine ZaF 5 (fun fr' k'=>h = k'∧fr' 30 = .b ((((decide (v < 0)) || (decide ((l.length:Int)≤v))) || (decide (w < 0))) || (decide ((l.length:Int)≤w)))∧fr' 0 = v_l∧fr' 1 = .n v∧fr' 2 = .n d∧fr' 3 = .n w∧fr' 4 = .n o) ?_ ?_
 ·rcases bc (((decide (v < 0)) || (decide ((l.length:Int)≤v))) || (decide (w < 0))) with b'3 | b'3
  ·skip
   refine Z1 rfl b'3 (Z1 rfl b'3 (Z1 rfl b'3 (Z1 rfl b'3 (Zj (zn (t:=(((decide (v < 0)) || (decide ((l.length:Int)≤v))) || (decide (w < 0)))) (v:=.b ((((decide (v < 0)) || (decide ((l.length:Int)≤v))) || (decide (w < 0))) || (decide ((l.length:Int)≤w)))) rfl b'3 (Eq.trans (b:=V.b true) rfl (Zbz b'3))) (Zd ?_)))))
   exact ⟨rfl,rfl,g'2_0,g'2_1,g'2_2,g'2_3,g'2_4⟩
  ·skip
   refine ZM rfl b'3 (Zf (.n w) g'2_3 (ZM rfl b'3 (Zf v_l g'2_0 (ZM rfl b'3 (Zj (Za0 (hO.sl 0 rfl) rfl) (ZM rfl b'3 (Zj (Zcy (a:=w) (b:=(l.length:Int)) rfl rfl) ?_)))))))
   refine Zj (ze (t:=(((decide (v < 0)) || (decide ((l.length:Int)≤v))) || (decide (w < 0)))) (v:=.b ((((decide (v < 0)) || (decide ((l.length:Int)≤v))) || (decide (w < 0))) || (decide ((l.length:Int)≤w)))) rfl b'3 (Eq.trans (b:=V.b (decide ((l.length:Int)≤w))) rfl (Zcf b'3))) (Zd ?_)
   exact ⟨rfl,rfl,g'2_0,g'2_1,g'2_2,g'2_3,g'2_4⟩
 rintro frg'3 _ ⟨rfl,g'3_30,g'3_0,g'3_1,g'3_2,g'3_3,g'3_4⟩
 refine Zf (.b ((((decide (v < 0)) || (decide ((l.length:Int)≤v))) || (decide (w < 0))) || (decide ((l.length:Int)≤w)))) g'3_30 ?_
 refine ZaF 4 (fun fr' k'=>h = k'∧fr' 35 = .b (((((decide (v < 0)) || (decide ((l.length:Int)≤v))) || (decide (w < 0))) || (decide ((l.length:Int)≤w))) || (decide (v = w)))∧fr' 0 = v_l∧fr' 1 = .n v∧fr' 2 = .n d∧fr' 3 = .n w∧fr' 4 = .n o) ?_ ?_
 ·rcases bc ((((decide (v < 0)) || (decide ((l.length:Int)≤v))) || (decide (w < 0))) || (decide ((l.length:Int)≤w))) with b'4 | b'4
  ·skip
   refine Z1 rfl b'4 (Z1 rfl b'4 (Z1 rfl b'4 (Zj (zn (t:=((((decide (v < 0)) || (decide ((l.length:Int)≤v))) || (decide (w < 0))) || (decide ((l.length:Int)≤w)))) (v:=.b (((((decide (v < 0)) || (decide ((l.length:Int)≤v))) || (decide (w < 0))) || (decide ((l.length:Int)≤w))) || (decide (v = w)))) rfl b'4 (Eq.trans (b:=V.b true) rfl (Zbz b'4))) (Zd ?_))))
   exact ⟨rfl,rfl,g'3_0,g'3_1,g'3_2,g'3_3,g'3_4⟩
  ·skip
   refine ZM rfl b'4 (Zf (.n v) g'3_1 (ZM rfl b'4 (Zf (.n w) g'3_3 (ZM rfl b'4 (Zj (Zb2 (a:=v) (b:=w) rfl rfl) (Zj (ze (t:=((((decide (v < 0)) || (decide ((l.length:Int)≤v))) || (decide (w < 0))) || (decide ((l.length:Int)≤w)))) (v:=.b (((((decide (v < 0)) || (decide ((l.length:Int)≤v))) || (decide (w < 0))) || (decide ((l.length:Int)≤w))) || (decide (v = w)))) rfl b'4 (Eq.trans (b:=V.b (decide (v = w))) rfl (Zcf b'4))) (Zd ?_)))))))
   exact ⟨rfl,rfl,g'3_0,g'3_1,g'3_2,g'3_3,g'3_4⟩
 rintro frg'4 _ ⟨rfl,g'4_35,g'4_0,g'4_1,g'4_2,g'4_3,g'4_4⟩
 refine Zf (.b (((((decide (v < 0)) || (decide ((l.length:Int)≤v))) || (decide (w < 0))) || (decide ((l.length:Int)≤w))) || (decide (v = w)))) g'4_35 ?_
 refine ZaF 3 (fun fr' k'=>h = k'∧fr' 39 = .b ((((((decide (v < 0)) || (decide ((l.length:Int)≤v))) || (decide (w < 0))) || (decide ((l.length:Int)≤w))) || (decide (v = w))) || (decide (d < 0)))∧fr' 0 = v_l∧fr' 1 = .n v∧fr' 2 = .n d∧fr' 3 = .n w∧fr' 4 = .n o) ?_ ?_
 ·rcases bc (((((decide (v < 0)) || (decide ((l.length:Int)≤v))) || (decide (w < 0))) || (decide ((l.length:Int)≤w))) || (decide (v = w))) with b'5 | b'5
  ·skip
   refine Z1 rfl b'5 (Z1 rfl b'5 (Zj (zn (t:=(((((decide (v < 0)) || (decide ((l.length:Int)≤v))) || (decide (w < 0))) || (decide ((l.length:Int)≤w))) || (decide (v = w)))) (v:=.b ((((((decide (v < 0)) || (decide ((l.length:Int)≤v))) || (decide (w < 0))) || (decide ((l.length:Int)≤w))) || (decide (v = w))) || (decide (d < 0)))) rfl b'5 (Eq.trans (b:=V.b true) rfl (Zbz b'5))) (Zd ?_)))
   exact ⟨rfl,rfl,g'4_0,g'4_1,g'4_2,g'4_3,g'4_4⟩
  ·skip
   refine ZM rfl b'5 (Zf (.n d) g'4_2 (ZM rfl b'5 (Zj (zL (a:=d) (b:=0) rfl rfl) (Zj (ze (t:=(((((decide (v < 0)) || (decide ((l.length:Int)≤v))) || (decide (w < 0))) || (decide ((l.length:Int)≤w))) || (decide (v = w)))) (v:=.b ((((((decide (v < 0)) || (decide ((l.length:Int)≤v))) || (decide (w < 0))) || (decide ((l.length:Int)≤w))) || (decide (v = w))) || (decide (d < 0)))) rfl b'5 (Eq.trans (b:=V.b (decide (d < 0))) rfl (Zcf b'5))) (Zd ?_)))))
   exact ⟨rfl,rfl,g'4_0,g'4_1,g'4_2,g'4_3,g'4_4⟩
 rintro frg'5 _ ⟨rfl,g'5_39,g'5_0,g'5_1,g'5_2,g'5_3,g'5_4⟩
 refine Zf (.b ((((((decide (v < 0)) || (decide ((l.length:Int)≤v))) || (decide (w < 0))) || (decide ((l.length:Int)≤w))) || (decide (v = w))) || (decide (d < 0)))) g'5_39 ?_
 refine ZaF 3 (fun fr' k'=>h = k'∧fr' 43 = .b (((((((decide (v < 0)) || (decide ((l.length:Int)≤v))) || (decide (w < 0))) || (decide ((l.length:Int)≤w))) || (decide (v = w))) || (decide (d < 0))) || (decide (3 < d)))∧fr' 0 = v_l∧fr' 1 = .n v∧fr' 2 = .n d∧fr' 3 = .n w∧fr' 4 = .n o) ?_ ?_
 ·rcases bc ((((((decide (v < 0)) || (decide ((l.length:Int)≤v))) || (decide (w < 0))) || (decide ((l.length:Int)≤w))) || (decide (v = w))) || (decide (d < 0))) with b'6 | b'6
  ·skip
   refine Z1 rfl b'6 (Z1 rfl b'6 (Zj (zn (t:=((((((decide (v < 0)) || (decide ((l.length:Int)≤v))) || (decide (w < 0))) || (decide ((l.length:Int)≤w))) || (decide (v = w))) || (decide (d < 0)))) (v:=.b (((((((decide (v < 0)) || (decide ((l.length:Int)≤v))) || (decide (w < 0))) || (decide ((l.length:Int)≤w))) || (decide (v = w))) || (decide (d < 0))) || (decide (3 < d)))) rfl b'6 (Eq.trans (b:=V.b true) rfl (Zbz b'6))) (Zd ?_)))
   exact ⟨rfl,rfl,g'5_0,g'5_1,g'5_2,g'5_3,g'5_4⟩
  ·skip
   refine ZM rfl b'6 (Zf (.n d) g'5_2 (ZM rfl b'6 (Zj (ZdQ (a:=d) (b:=3) rfl rfl) (Zj (ze (t:=((((((decide (v < 0)) || (decide ((l.length:Int)≤v))) || (decide (w < 0))) || (decide ((l.length:Int)≤w))) || (decide (v = w))) || (decide (d < 0)))) (v:=.b (((((((decide (v < 0)) || (decide ((l.length:Int)≤v))) || (decide (w < 0))) || (decide ((l.length:Int)≤w))) || (decide (v = w))) || (decide (d < 0))) || (decide (3 < d)))) rfl b'6 (Eq.trans (b:=V.b (decide (3 < d))) rfl (Zcf b'6))) (Zd ?_)))))
   exact ⟨rfl,rfl,g'5_0,g'5_1,g'5_2,g'5_3,g'5_4⟩
 rintro frg'6 _ ⟨rfl,g'6_43,g'6_0,g'6_1,g'6_2,g'6_3,g'6_4⟩
 refine Zf (.b (((((((decide (v < 0)) || (decide ((l.length:Int)≤v))) || (decide (w < 0))) || (decide ((l.length:Int)≤w))) || (decide (v = w))) || (decide (d < 0))) || (decide (3 < d)))) g'6_43 ?_
 refine ZaF 3 (fun fr' k'=>h = k'∧fr' 47 = .b ((((((((decide (v < 0)) || (decide ((l.length:Int)≤v))) || (decide (w < 0))) || (decide ((l.length:Int)≤w))) || (decide (v = w))) || (decide (d < 0))) || (decide (3 < d))) || (decide (o < (-2))))∧fr' 0 = v_l∧fr' 1 = .n v∧fr' 2 = .n d∧fr' 3 = .n w∧fr' 4 = .n o) ?_ ?_
 ·rcases bc (((((((decide (v < 0)) || (decide ((l.length:Int)≤v))) || (decide (w < 0))) || (decide ((l.length:Int)≤w))) || (decide (v = w))) || (decide (d < 0))) || (decide (3 < d))) with b'7 | b'7
  ·skip
   refine Z1 rfl b'7 (Z1 rfl b'7 (Zj (zn (t:=(((((((decide (v < 0)) || (decide ((l.length:Int)≤v))) || (decide (w < 0))) || (decide ((l.length:Int)≤w))) || (decide (v = w))) || (decide (d < 0))) || (decide (3 < d)))) (v:=.b ((((((((decide (v < 0)) || (decide ((l.length:Int)≤v))) || (decide (w < 0))) || (decide ((l.length:Int)≤w))) || (decide (v = w))) || (decide (d < 0))) || (decide (3 < d))) || (decide (o < (-2))))) rfl b'7 (Eq.trans (b:=V.b true) rfl (Zbz b'7))) (Zd ?_)))
   exact ⟨rfl,rfl,g'6_0,g'6_1,g'6_2,g'6_3,g'6_4⟩
  ·skip
   refine ZM rfl b'7 (Zf (.n o) g'6_4 (ZM rfl b'7 (Zj (zL (a:=o) (b:=(-2)) rfl rfl) (Zj (ze (t:=(((((((decide (v < 0)) || (decide ((l.length:Int)≤v))) || (decide (w < 0))) || (decide ((l.length:Int)≤w))) || (decide (v = w))) || (decide (d < 0))) || (decide (3 < d)))) (v:=.b ((((((((decide (v < 0)) || (decide ((l.length:Int)≤v))) || (decide (w < 0))) || (decide ((l.length:Int)≤w))) || (decide (v = w))) || (decide (d < 0))) || (decide (3 < d))) || (decide (o < (-2))))) rfl b'7 (Eq.trans (b:=V.b (decide (o < (-2)))) rfl (Zcf b'7))) (Zd ?_)))))
   exact ⟨rfl,rfl,g'6_0,g'6_1,g'6_2,g'6_3,g'6_4⟩
 rintro frg'7 _ ⟨rfl,g'7_47,g'7_0,g'7_1,g'7_2,g'7_3,g'7_4⟩
 refine Zd (Zc ?_)
 rcases Zt hp with ⟨b'8,hp⟩ | ⟨b'8,hp⟩
 ·refine zK (t:=((((((((decide (v < 0)) || (decide ((l.length:Int)≤v))) || (decide (w < 0))) || (decide ((l.length:Int)≤w))) || (decide (v = w))) || (decide (d < 0))) || (decide (3 < d))) || (decide (o < (-2))))) g'7_47 b'8 ?_
  refine Zk (Zo (Zf v_l g'7_0 (Zf v_l rfl (Zf (.n 2) rfl (Zd (Zc (zY ?_)))))))
  refine z5 (zx (zC (n:=10) (v:=v_l) rfl (zC (n:=11) (v:=.n 2) rfl ZS)) ?_)
  cases hp
  exact ⟨v_l,rfl,(hO.pick [0] rfl (by decide))⟩
 ·refine zG (t:=((((((((decide (v < 0)) || (decide ((l.length:Int)≤v))) || (decide (w < 0))) || (decide ((l.length:Int)≤w))) || (decide (v = w))) || (decide (d < 0))) || (decide (3 < d))) || (decide (o < (-2))))) g'7_47 b'8 ?_
  refine zN (Zc (Zk (Zk (Zo (Zf v_l g'7_0 (Zf (.n v) g'7_1 (Zf (.n d) g'7_2 ?_)))))))
  obtain ⟨c'1,hp⟩:=Zm hp
  refine Zj (zq (E:=Zi) (z:=v) (hO.sl 0 rfl) rfl rfl c'1) (Zj (Zax (off':=0) (off2:=0) (hO.sl 0 rfl) (Zl c'1) rfl rfl) ?_)
  obtain ⟨c'2,hp⟩:=Zm hp
  refine Zj (Zb3 (off:=0) (off2:=(0 + d.toNat * 1)) (z:=d) (hO.sl 0 rfl) (Zl c'1) rfl rfl c'2 rfl) (Zj (zO (w:=.n (((gi l v.toNat).Next).get d)) (hO.sl 0 rfl) rfl (Zl c'1) (zI c'2)) (Zj (ZcM (a:=(((gi l v.toNat).Next).get d)) (b:=(-1)) rfl rfl) (Zf (.b (!(decide (((gi l v.toNat).Next).get d = (-1))))) rfl ?_)))
  obtain ⟨t,hv'1,hp⟩:=Zs hp
  refine ZaF 11 (fun fr' k'=>h = k'∧fr' 68 = .b t∧fr' 0 = v_l∧fr' 1 = .n v∧fr' 2 = .n d∧fr' 3 = .n w∧fr' 4 = .n o) ?_ ?_
  ·clear hp; rcases Zt hv'1 with ⟨b'9,hp⟩ | ⟨b'9,hp⟩
   ·skip
    refine Z1 rfl b'9 (Z1 rfl b'9 (Z1 rfl b'9 (Z1 rfl b'9 (Z1 rfl b'9 (Z1 rfl b'9 (Z1 rfl b'9 (Z1 rfl b'9 ?_)))))))
    refine Z1 rfl b'9 (Z1 rfl b'9 (Zj (zn (t:=(!(decide (((gi l v.toNat).Next).get d = (-1))))) (v:=.b t) rfl b'9 (Eq.trans (b:=V.b true) rfl (congrArg V.b (Option.some.inj hp)))) (Zd ?_)))
    exact ⟨rfl,rfl,g'7_0,g'7_1,g'7_2,g'7_3,g'7_4⟩
   ·skip
    refine ZM rfl b'9 (Zf v_l g'7_0 (ZM rfl b'9 (Zf (.n w) g'7_3 (ZM rfl b'9 (Zf (.n d) g'7_2 (ZM rfl b'9 ?_))))))
    obtain ⟨c'3,hp⟩:=Zm hp
    refine Zj (zH (a:=d) (b:=2) rfl rfl c'3) (ZM rfl b'9 (Zj (ZdR (a:=(d + 2)) (b:=4) rfl rfl (by decide)) (ZM rfl b'9 ?_)))
    obtain ⟨c'4,hp⟩:=Zm hp
    refine Zj (zq (E:=Zi) (z:=w) (hO.sl 0 rfl) rfl rfl c'4) (ZM rfl b'9 (Zj (Zax (off':=0) (off2:=0) (hO.sl 0 rfl) (Zl c'4) rfl rfl) (ZM rfl b'9 ?_)))
    obtain ⟨c'5,hp⟩:=Zm hp
    refine Zj (Zb3 (off:=0) (off2:=(0 + ((d + 2).tmod 4:Int).toNat * 1)) (z:=((d + 2).tmod 4)) (hO.sl 0 rfl) (Zl c'4) rfl rfl c'5 rfl) (ZM rfl b'9 (Zj (zO (w:=.n (((gi l w.toNat).Next).get ((d + 2).tmod 4))) (hO.sl 0 rfl) rfl (Zl c'4) (zI c'5)) (ZM rfl b'9 (Zj (ZcM (a:=(((gi l w.toNat).Next).get ((d + 2).tmod 4))) (b:=(-1)) rfl rfl) (Zj (ze (t:=(!(decide (((gi l v.toNat).Next).get d = (-1))))) (v:=.b t) rfl b'9 (Eq.trans (b:=V.b (!(decide (((gi l w.toNat).Next).get ((d + 2).tmod 4) = (-1))))) rfl (congrArg V.b (Option.some.inj hp)))) (Zd ?_))))))
    exact ⟨rfl,rfl,g'7_0,g'7_1,g'7_2,g'7_3,g'7_4⟩
  rintro frg'8 _ ⟨rfl,g'8_68,g'8_0,g'8_1,g'8_2,g'8_3,g'8_4⟩
  refine Zd (Zc ?_)
  rcases Zt hp with ⟨b'10,hp⟩ | ⟨b'10,hp⟩
  ·refine zK (t:=t) g'8_68 b'10 ?_
   refine Zk (Zo (Zf v_l g'8_0 (Zf v_l rfl (Zf (.n 9) rfl (Zd (Zc (zY ?_)))))))
   refine z5 (zx (zC (n:=10) (v:=v_l) rfl (zC (n:=11) (v:=.n 9) rfl ZS)) ?_)
   cases hp
   exact ⟨v_l,rfl,(hO.pick [0] rfl (by decide))⟩
  ·refine zG (t:=t) g'8_68 b'10 ?_
   refine zN (Zc (Zk (Zo (Zf v_l g'8_0 (Zf (.n v) g'8_1 (Zf (.n d) g'8_2 (Zf (.n w) g'8_3 ?_)))))))
   refine Zf (.n o) g'8_4 ?_
   obtain ⟨x,hx'1,hp⟩:=Zs hp
   obtain ⟨u'1,k'1,ca'1,v'2,rfl,hW'1⟩:=zA.ok (h:=h)  (hO.sl 0 rfl) hx'1
   refine ZaN (id:=65) (caps:=[]) rfl (Zu (v:=v_l) rfl (Zu (v:=.n v) rfl (Zu (v:=.n d) rfl (Zu (v:=.n w) rfl (Zu (v:=.n o) rfl zi))))) ca'1 ?_
   have hO'1:=hO.call hW'1 rfl
   refine Zf v'2 rfl (Zd (Zc (Zk (Zo (Zf v'2 rfl (Zf v'2 rfl (Zf (.n 0) rfl ?_)))))))
   refine Zd (Zc (zY (zx (zC (n:=10) (v:=v'2) rfl (zC (n:=11) (v:=.n 0) rfl ZS)) ?_)))
   cases hp
   exact ⟨v'2,rfl,(hO'1.pick [1] rfl (by decide))⟩

theorem Zbb.ok {h:Hp}    {r:Bool} (hp:Zbb  = some r) :
  ∃ u k',Is G 185 [] h u k'∧V.b r = u∧Own (fun r=>r < h.n) h k' []:=by
 refine WC.is (Za7 Zc8 ?_)
 unfold Zbb at hp
 let B:Nat→Prop:=(fun r=>r < h.n)
 have hO:Own B h h []:=Own.start0 h
 refine Zk (Zo (Zf (.b false) rfl (Zd (Zc (Zk (Zo ?_))))))
 obtain ⟨x,hx'1,hp⟩:=Zs hp
 obtain ⟨u'1,k'1,ca'1,v'1,rfl,hW'1⟩:=zf.ok (h:=h)   hx'1
 refine ZaN (id:=46) (caps:=[]) rfl (Zu (v:=.n 2) rfl zi) ca'1 ?_
 have hO'1:=hO.call hW'1 rfl
 refine Zf v'1 rfl (Zd (Zc (Zk (Zo (Zf v'1 rfl ?_)))))
 obtain ⟨⟨x1,x2⟩,hx'2,hp⟩:=Zs hp
 obtain ⟨u'2,k'2,ca'2,v'2,rfl,hW'2⟩:=Zbs.ok (h:=k'1) (l:=x) (v:=0) (d:=0) (w:=1) (o:=0) (hO'1.toM [0] rfl (by decide))  hx'2
 refine ZaN (id:=53) (caps:=[]) rfl (Zu (v:=v'1) rfl (Zu (v:=.n 0) rfl (Zu (v:=.n 0) rfl (Zu (v:=.n 1) rfl (Zu (v:=.n 0) rfl zi))))) ca'2 ?_
 have hO'2:=(hO'1.callM [0] [] rfl rfl (by decide) hW'2 rfl).pick [900,0] rfl (by decide)
 refine Zf (.tu [v'2,.n x2]) rfl (Zj (Zbn (vs:=[v'2,.n x2]) (v:=v'2) rfl rfl) (Zj (Zbn (vs:=[v'2,.n x2]) (v:=.n x2) rfl rfl) (Zf v'2 rfl (Zd (Zc (Zk (Zo ?_)))))))
 refine Zf v'2 rfl (Zj (Zbh (cs:=Zb.c (⟨(0:Int),(0:Int)⟩:Ze)) (by rw [Zak]; rfl)) (Zj (Zbh (cs:=Zb.c (⟨4,(0:Int)⟩:Ze)) (by rw [(zp (v:=.n 4) rfl Zak)]; rfl)) (zF (hO'2.bsl (E:=Zb) (l:=[(⟨(0:Int),(0:Int)⟩:Ze),(⟨4,(0:Int)⟩:Ze)]) hO'2.fr (by rw [(zp (v:=.ag (Zb.c (⟨(0:Int),(0:Int)⟩:Ze))) rfl (zp (v:=.ag (Zb.c (⟨4,(0:Int)⟩:Ze))) rfl Zak))]; rfl) rfl) ?_)))
 rintro v'3 k'3 ⟨r'1,f'1,hW⟩
 have hO'3:=hW
 obtain ⟨x3,hx'3,hp⟩:=Zs hp
 obtain ⟨u'3,k'4,ca'3,rfl,hW'3⟩:=Zah.ok (h:=k'3)  (hO'3.sl 1 rfl) (hO'3.sl 2 rfl:Sl Zb k'3 v'3 [(⟨(0:Int),(0:Int)⟩:Ze),(⟨4,(0:Int)⟩:Ze)]) hx'3
 refine ZaN (id:=208) (caps:=[]) rfl (Zu (v:=v'2) rfl (Zu (v:=v'3) rfl zi)) ca'3 ?_
 have hO'4:=hO'3.call hW'3 rfl
 refine Zj (Zb2 (a:=x3) (b:=0) rfl rfl) (Zf (.b (decide (x3 = 0))) rfl ?_)
 obtain ⟨t,hv'1,hp⟩:=Zs hp
 refine ZaF 7 (fun fr' k'=>Own B h k' [Zcu,eSl Zi v'2 x1,eSl Zb v'3 [(⟨(0:Int),(0:Int)⟩:Ze),(⟨4,(0:Int)⟩:Ze)]]∧fr' 21 = .b t∧fr' 1 = v'2) ?_ ?_
 ·clear hp; rcases Zt hv'1 with ⟨b'1,hp⟩ | ⟨b'1,hp⟩
  ·skip
   refine ZM rfl b'1 (Zf v'2 rfl (ZM rfl b'1 (Zj (Zbh (cs:=Zb.c (⟨(0:Int),(0:Int)⟩:Ze)) (by rw [Zak]; rfl)) (ZM rfl b'1 (Zj (Zbh (cs:=Zb.c (⟨(0:Int),4⟩:Ze)) (by rw [(zp (v:=.n 4) rfl Zak)]; rfl)) (ZM rfl b'1 (zF (hO'4.bsl (E:=Zb) (l:=[(⟨(0:Int),(0:Int)⟩:Ze),(⟨(0:Int),4⟩:Ze)]) hO'4.fr (by rw [(zp (v:=.ag (Zb.c (⟨(0:Int),(0:Int)⟩:Ze))) rfl (zp (v:=.ag (Zb.c (⟨(0:Int),4⟩:Ze))) rfl Zak))]; rfl) rfl) ?_)))))))
   rintro v'4 k'5 ⟨r'2,f'2,hW⟩
   have hO'5:=hW
   refine ZM rfl b'1 ?_
   obtain ⟨x4,hx'4,hp⟩:=Zs hp
   obtain ⟨u'4,k'6,ca'4,rfl,hW'4⟩:=Zah.ok (h:=k'5)  (hO'5.sl 1 rfl) (hO'5.sl 3 rfl:Sl Zb k'5 v'4 [(⟨(0:Int),(0:Int)⟩:Ze),(⟨(0:Int),4⟩:Ze)]) hx'4
   refine ZaN (id:=208) (caps:=[]) rfl (Zu (v:=v'2) rfl (Zu (v:=v'4) rfl zi)) ca'4 ?_
   have hO'6:=hO'5.call hW'4 rfl
   refine ZM rfl b'1 (Zj (Zb2 (a:=x4) (b:=15) rfl rfl) (Zj (zn (t:=(decide (x3 = 0))) (v:=.b t) rfl b'1 (Eq.trans (b:=V.b (decide (x4 = 15))) rfl (congrArg V.b (Option.some.inj hp)))) (Zd ?_)))
   exact ⟨hO'6.pick [0,1,2] rfl (by decide),rfl,rfl⟩
  ·skip
   refine Z1 rfl b'1 (Z1 rfl b'1 (Z1 rfl b'1 (Z1 rfl b'1 (Z1 rfl b'1 (Z1 rfl b'1 (Zj (ze (t:=(decide (x3 = 0))) (v:=.b t) rfl b'1 (Eq.trans (b:=V.b false) rfl (congrArg V.b (Option.some.inj hp)))) (Zd ?_)))))))
   exact ⟨hO'4.pick [0,1,2] rfl (by decide),rfl,rfl⟩
 rintro frg'1 k'7 ⟨hO'7,g'1_21,g'1_1⟩
 refine Zf (.b t) g'1_21 ?_
 obtain ⟨t1,hv'2,hp⟩:=Zs hp
 refine ZaF 4 (fun fr' k'=>Own B h k' [Zcu,eSl Zi v'2 x1,eSl Zb v'3 [(⟨(0:Int),(0:Int)⟩:Ze),(⟨4,(0:Int)⟩:Ze)]]∧fr' 26 = .b t1) ?_ ?_
 ·clear hp; rcases Zt hv'2 with ⟨b'2,hp⟩ | ⟨b'2,hp⟩
  ·skip
   refine ZM rfl b'2 (Zf v'2 g'1_1 (ZM rfl b'2 ?_))
   obtain ⟨x5,hx'5,hp⟩:=Zs hp
   obtain ⟨u'5,k'8,ca'5,rfl,hW'5⟩:=Zah.ok (h:=k'7)  (hO'7.sl 1 rfl) (Sl.nil:Sl Zb k'7 .sn ([]:List Ze)) hx'5
   refine ZaN (id:=208) (caps:=[]) rfl (Zu (v:=v'2) rfl (Zu (v:=.sn) rfl zi)) ca'5 ?_
   have hO'8:=hO'7.call hW'5 rfl
   refine ZM rfl b'2 (Zj (Zb2 (a:=x5) (b:=2) rfl rfl) (Zj (zn (t:=t) (v:=.b t1) rfl b'2 (Eq.trans (b:=V.b (decide (x5 = 2))) rfl (congrArg V.b (Option.some.inj hp)))) (Zd ?_)))
   exact ⟨hO'8.pick [0,1,2] rfl (by decide),rfl⟩
  ·skip
   refine Z1 rfl b'2 (Z1 rfl b'2 (Z1 rfl b'2 (Zj (ze (t:=t) (v:=.b t1) rfl b'2 (Eq.trans (b:=V.b false) rfl (congrArg V.b (Option.some.inj hp)))) (Zd ?_))))
   exact ⟨hO'7.pick [0,1,2] rfl (by decide),rfl⟩
 rintro frg'2 k'9 ⟨hO'9,g'2_26⟩
 refine Zf (.b t1) g'2_26 ?_
 obtain ⟨t2,hv'3,hp⟩:=Zs hp
 refine ZaF 6 (fun fr' k'=>Own B h k' [Zcu,eSl Zi v'2 x1,eSl Zb v'3 [(⟨(0:Int),(0:Int)⟩:Ze),(⟨4,(0:Int)⟩:Ze)]]∧fr' 33 = .b t2) ?_ ?_
 ·clear hp; rcases Zt hv'3 with ⟨b'3,hp⟩ | ⟨b'3,hp⟩
  ·skip
   refine ZM rfl b'3 (Zj (Zbh (cs:=ZW.c (⟨(⟨0,0⟩:Ze),(⟨0,0⟩:Ze)⟩:Zal)) (by rw [Zak]; rfl)) (ZM rfl b'3 (Zj (Zbh (cs:=Zb.c (⟨1,(0:Int)⟩:Ze)) (by rw [(zp (v:=.n 1) rfl Zak)]; rfl)) (ZM rfl b'3 (Zj (Zbh (cs:=Zb.c (⟨1,(0:Int)⟩:Ze)) (by rw [(zp (v:=.n 1) rfl Zak)]; rfl)) (ZM rfl b'3 (Zj (Zbh (cs:=ZW.c (⟨(⟨1,(0:Int)⟩:Ze),(⟨1,(0:Int)⟩:Ze)⟩:Zal)) (by rw [(zp (v:=.ag (Zb.c (⟨1,(0:Int)⟩:Ze))) rfl (zp (v:=.ag (Zb.c (⟨1,(0:Int)⟩:Ze))) rfl Zak))]; rfl)) ?_)))))))
   refine ZM rfl b'3 ?_
   obtain ⟨x6,hx'6,hp⟩:=Zs hp
   obtain ⟨u'6,k'10,ca'6,rfl,hW'6⟩:=Zbo.ok (h:=k'9)   hx'6
   refine ZaN (id:=186) (caps:=[]) rfl (Zu (v:=.ag (ZW.c (⟨(⟨0,0⟩:Ze),(⟨0,0⟩:Ze)⟩:Zal))) rfl (Zu (v:=.ag (ZW.c (⟨(⟨1,(0:Int)⟩:Ze),(⟨1,(0:Int)⟩:Ze)⟩:Zal))) rfl zi)) ca'6 ?_
   have hO'10:=hO'9.call hW'6 rfl
   refine Zj (zn (t:=t1) (v:=.b t2) rfl b'3 (Eq.trans (b:=V.b x6) rfl (congrArg V.b (Option.some.inj hp)))) (Zd ?_)
   exact ⟨hO'10.pick [0,1,2] rfl (by decide),rfl⟩
  ·skip
   refine Z1 rfl b'3 (Z1 rfl b'3 (Z1 rfl b'3 (Z1 rfl b'3 (Z1 rfl b'3 (Zj (ze (t:=t1) (v:=.b t2) rfl b'3 (Eq.trans (b:=V.b false) rfl (congrArg V.b (Option.some.inj hp)))) (Zd ?_))))))
   exact ⟨hO'9.pick [0,1,2] rfl (by decide),rfl⟩
 rintro frg'3 k'11 ⟨hO'11,g'3_33⟩
 refine Zf (.b t2) g'3_33 (Zd (Zc (zY (zx (zC (n:=0) (v:=.b t2) rfl ZS) ?_))))
 cases hp
 exact ⟨rfl,(hO'11.pick [] rfl (by decide))⟩

theorem ZX.ok {h:Hp} {l:List Za} {v_l:V} (s_l:Sl Zi h v_l l) {r:(List Za)} (hp:ZX l = some r) :
  ∃ u k',Is G 116 [v_l] h u k'∧∃ (v'1:V),v'1 = u∧Own (fun r=>r < h.n) h k' [eSl Zi v'1 r]:=by
 refine WC.is (Za7 Zcw ?_)
 unfold ZX at hp
 let B:Nat→Prop:=(fun r=>r < h.n)
 have hO:Own B h h []:=Own.start0 h
 refine Zk (Zo (Zf (.sn) rfl (Zd (Zc (Zk (Zo (Zf (.sn) rfl ?_)))))))
 refine Zd (Zc (Zk (Zk (Zo (Zf (.n 0) rfl (Zd (Zc ?_)))))))
 refine Zas ?_
 obtain ⟨o'1,ho'1,hp⟩:=Zs hp
 refine W.mono (Q:=fun e fr k=>match (generalizing:=false) o'1 with
   | out1=>e = (.exit 0)∧∃ (v'3:V),fr 3 = v'3∧Own B h k [eSl Zi v'3 out1]) ?_ ?_
 ·clear hp
  have hO'2:=hO.nil Zi
  refine zR (fun st fr k=>match st with | (out,v)=>∃ (v'2:V),fr 0 = v_l∧fr 3 = v'2∧fr 4 = .n v∧Own B h k [eSl Zi v'2 out]) ho'1 (s:=(([]:List Za),0)) ⟨V.sn,rfl,rfl,rfl,(hO'2.pick [0] rfl (by decide))⟩ ?_
  rintro ⟨out,v⟩ q'2 k'2 ⟨v'2,q'2_0,q'2_3,q'2_4,hO'3⟩ o'2 hp
  dsimp only [ZX.s0] at hp
  refine Zk (Zk (Zo (Zf (.n v) q'2_4 (Zf v_l q'2_0 (Zj (Za0 (hO'3.rd0 s_l.rd) rfl) (Zj (zL (a:=v) (b:=(l.length:Int)) rfl rfl) (Zd ?_)))))))
  refine Zc ?_
  rcases Zt hp with ⟨b'1,hp⟩ | ⟨b'1,hp⟩
  ·refine zK (t:=(decide (v < (l.length:Int)))) rfl b'1 ?_
   refine zN (Zc (Zk (Zas (Zk (Zo (Zf v_l q'2_0 (Zf (.n v) q'2_4 ?_)))))))
   obtain ⟨c'1,hp⟩:=Zm hp
   refine Zj (zq (E:=Zi) (z:=v) (hO'3.rd0 s_l.rd) rfl rfl c'1) (Zj (Zdp (E:=Zi) (hO'3.rd0 s_l.rd) rfl (Zl c'1)) (zF (hO'3.alloc (cs:=Zi.c (⟨⟨0,0,0,0⟩,⟨0,0,0,0⟩⟩:Za)) hO'3.fr) ?_))
   rintro _ k'3 ⟨r'1,rfl,n'1,f'1,hW⟩
   have hO'4:=hW
   refine zF (hO'4.stb (ws:=Zi.c (gi l v.toNat)) (cs':=Zi.c (gi l v.toNat)) (v:=.ag (Zi.c (gi l v.toNat))) 1 rfl rfl rfl rfl ⟨rfl,Nat.le_of_ble_eq_true rfl,rfl⟩ rfl) ?_
   rintro _ k'4 ⟨rfl,f'2,m'1,hW⟩
   have hO'5:=hW
   refine Zd (Zc (Zk (Zk (Zo (Zf (.n 0) rfl (Zd (Zc ?_)))))))
   refine Zas ?_
   obtain ⟨o'3,ho'2,hp⟩:=Zs hp
   refine W.mono (Q:=fun e fr k=>match (generalizing:=false) o'3 with
     | c1=>e = (.exit 2)∧fr 0 = v_l∧fr 3 = v'2∧fr 4 = .n v∧fr 5 = .p r'1 0∧Own B h k [eSl Zi v'2 out,Zbw r'1 (Zi.c c1)]) ?_ ?_
   ·clear hp
    refine zR (fun st fr k=>match st with | (c,d)=>fr 0 = v_l∧fr 3 = v'2∧fr 4 = .n v∧fr 5 = .p r'1 0∧fr 6 = .n d∧Own B h k [eSl Zi v'2 out,Zbw r'1 (Zi.c c)]) ho'2 (s:=(gi l v.toNat,0)) ⟨q'2_0,q'2_3,q'2_4,rfl,rfl,(hO'5.pick [0,1] rfl (by decide))⟩ ?_
    rintro ⟨c,d⟩ q'4 k'6 ⟨q'4_0,q'4_3,q'4_4,q'4_5,q'4_6,hO'7⟩ o'4 hp
    dsimp only [ZX.s1] at hp
    refine Zk (Zk (Zo (Zf (.n d) q'4_6 (Zj (zL (a:=d) (b:=4) rfl rfl) (Zd (Zc ?_))))))
    rcases Zt hp with ⟨b'2,hp⟩ | ⟨b'2,hp⟩
    ·refine zK (t:=(decide (d < 4))) rfl b'2 ?_
     refine zN (Zc (Zk (Zas (Zk (Zo (Zf (.n d) q'4_6 ?_))))))
     obtain ⟨c'2,hp⟩:=Zm hp
     refine Zj (zH (a:=d) (b:=1) rfl rfl c'2) (Zj (ZdR (a:=(d + 1)) (b:=4) rfl rfl (by decide)) (Zf v_l q'4_0 (Zf (.n v) q'4_4 (Zf (.n d) q'4_6 (Zj (zq (E:=Zi) (z:=v) (hO'7.rd0 s_l.rd) rfl rfl c'1) (Zj (Zax (off':=0) (off2:=0) (hO'7.rd0 s_l.rd) (Zl c'1) rfl rfl) ?_))))))
     obtain ⟨c'3,hp⟩:=Zm hp
     refine Zj (Zb3 (off:=0) (off2:=(0 + d.toNat * 1)) (z:=d) (hO'7.rd0 s_l.rd) (Zl c'1) rfl rfl c'3 rfl) (Zj (zO (w:=.n (((gi l v.toNat).Next).get d)) (hO'7.rd0 s_l.rd) rfl (Zl c'1) (zI c'3)) (Zj (Zaz (r:=r'1) (o:=0) (o':=0) q'4_5 rfl) ?_))
     obtain ⟨c'4,hp⟩:=Zm hp
     refine Zj (Zdc (o:=0) (o':=(0 + ((d + 1).tmod 4:Int).toNat * 1)) (z:=((d + 1).tmod 4)) rfl rfl c'4 rfl) (zF (hO'7.stb (ws:=[.n (((gi l v.toNat).Next).get d)]) (cs':=Zi.c ({ c with Next:=c.Next.set ((d + 1).tmod 4) (((gi l v.toNat).Next).get d) })) (v:=.n (((gi l v.toNat).Next).get d)) 1 rfl rfl rfl rfl ⟨rfl,(by have:=c'4; exact (show 0 + ((d + 1).tmod 4:Int).toNat * 1 + 1≤8 by omega)),rfl⟩ (ZbG c'4)) ?_)
     rintro _ k'7 ⟨rfl,f'3,m'2,hW⟩
     have hO'8:=hW
     refine Zd (Zc (Zo (Zf (.n d) q'4_6 (Zj (zH (a:=d) (b:=1) rfl rfl c'2) (Zj (ZdR (a:=(d + 1)) (b:=4) rfl rfl (by decide)) (Zf v_l q'4_0 (Zf (.n v) q'4_4 ?_)))))))
     refine Zf (.n d) q'4_6 (Zj (zq (E:=Zi) (z:=v) (hO'8.rd0 s_l.rd) rfl rfl c'1) (Zj (Zax (off':=0) (off2:=4) (hO'8.rd0 s_l.rd) (Zl c'1) rfl rfl) (Zj (Zb3 (off:=4) (off2:=(4 + d.toNat * 1)) (z:=d) (hO'8.rd0 s_l.rd) (Zl c'1) rfl rfl c'3 rfl) (Zj (zO (w:=.n (((gi l v.toNat).Owner).get d)) (hO'8.rd0 s_l.rd) rfl (Zl c'1) (Zb5 c'3)) (Zj (Zaz (r:=r'1) (o:=0) (o':=4) q'4_5 rfl) (Zj (Zdc (o:=4) (o':=(4 + ((d + 1).tmod 4:Int).toNat * 1)) (z:=((d + 1).tmod 4)) rfl rfl c'4 rfl) (zF (hO'8.stb (ws:=[.n (((gi l v.toNat).Owner).get d)]) (cs':=Zi.c ({ { c with Next:=c.Next.set ((d + 1).tmod 4) (((gi l v.toNat).Next).get d) } with Owner:=(({ c with Next:=c.Next.set ((d + 1).tmod 4) (((gi l v.toNat).Next).get d) }).Owner).set ((d + 1).tmod 4) (((gi l v.toNat).Owner).get d) })) (v:=.n (((gi l v.toNat).Owner).get d)) 1 rfl rfl rfl rfl ⟨rfl,(by have:=c'4; exact (show 4 + ((d + 1).tmod 4:Int).toNat * 1 + 1≤8 by omega)),rfl⟩ (Zca c'4)) ?_)))))))
     rintro _ k'8 ⟨rfl,f'4,m'3,hW⟩
     have hO'9:=hW
     refine Zd (Zan (Zc (Zo (Zf (.n d) q'4_6 (Zj (zH (a:=d) (b:=1) rfl rfl c'2) (Zf (.n (d + 1)) rfl (Zd ?_)))))))
     cases hp
     exact (Or.inl ⟨({ { c with Next:=c.Next.set ((d + 1).tmod 4) (((gi l v.toNat).Next).get d) } with Owner:=(({ c with Next:=c.Next.set ((d + 1).tmod 4) (((gi l v.toNat).Next).get d) }).Owner).set ((d + 1).tmod 4) (((gi l v.toNat).Owner).get d) },d + 1),rfl,rfl,q'4_0,q'4_3,q'4_4,q'4_5,rfl,(hO'9.pick [0,1] rfl (by decide))⟩)
    ·refine zG (t:=(decide (d < 4))) rfl b'2 ?_
     refine Zbp (zZ ?_)
     cases hp
     refine (Or.inr ⟨c,rfl,(fun h=>nomatch h),(fun he=>?_)⟩)
     subst he; exact ⟨rfl,q'4_0,q'4_3,q'4_4,q'4_5,(hO'7.pick [0,1] rfl (by decide))⟩
   intro e'2 q'3 k'5 hJ'2
   obtain ⟨c1,rfl⟩:∃ x,x = o'3:=⟨_,rfl⟩
   obtain ⟨rfl,q'3_0,q'3_3,q'3_4,q'3_5,hO'6⟩:=hJ'2
   refine ZaJ (Zc (Zo (Zf v'2 q'3_3 (Zj (Zbe (cs:=(Zi.c c1)) (ws:=Zi.c c1) (hO'6.box 1 rfl) q'3_5 rfl) (zF (hO'6.bsl (E:=Zi) (l:=[c1]) hO'6.fr (by rw [(zp (v:=.ag (Zi.c c1)) rfl Zak)]; rfl) rfl) ?_)))))
   rintro v'4 k'9 ⟨r'2,f'5,hW⟩
   have hO'10:=hW
   obtain ⟨c'5,hp⟩:=Zm hp
   refine zF (hO'10.app (E:=Zi) (bytes:=64) 0 hO'10.fr rfl (hO'10.sl 2 rfl) rfl rfl (fun _=>rfl) c'5 (by decide)) ?_
   rintro v'5 k'10 ⟨f'6,hW⟩
   have hO'11:=hW
   refine Zf v'5 rfl (Zd (Zan (Zc (Zo (Zf (.n v) q'3_4 ?_)))))
   obtain ⟨c'6,hp⟩:=Zm hp
   refine Zj (zH (a:=v) (b:=1) rfl rfl c'6) (Zf (.n (v + 1)) rfl (Zd ?_))
   cases hp
   exact (Or.inl ⟨(out++[c1],v + 1),rfl,rfl,v'5,q'3_0,rfl,rfl,(hO'11.pick [0] rfl (by decide))⟩)
  ·refine zG (t:=(decide (v < (l.length:Int)))) rfl b'1 ?_
   refine Zbp (zZ ?_)
   cases hp
   refine (Or.inr ⟨out,rfl,(fun h=>nomatch h),(fun he=>?_)⟩)
   subst he; exact ⟨rfl,v'2,q'2_3,(hO'3.pick [0] rfl (by decide))⟩
 intro e'1 q'1 k'1 hJ'1
 obtain ⟨out1,rfl⟩:∃ x,x = o'1:=⟨_,rfl⟩
 obtain ⟨rfl,v'3,q'1_3,hO'1⟩:=hJ'1
 refine ZaJ (Zc (Zk (Zo (Zf v'3 q'1_3 (Zf v'3 rfl (Zd (Zc ?_)))))))
 refine zY (zx (zC (n:=2) (v:=v'3) rfl ZS) ?_)
 cases hp
 exact ⟨v'3,rfl,(hO'1.pick [0] rfl (by decide))⟩

theorem z2.ok {h:Hp} {at_:List Ze} {v_at_:V} (s_at_:Sl Zb h v_at_ at_) {r:(List Ze)} (hp:z2 at_ = some r) :
  ∃ u k',Is G 164 [v_at_] h u k'∧∃ (v'1:V),v'1 = u∧Own (fun r=>r < h.n) h k' [eSl Zb v'1 r]:=by
 refine WC.is (Za7 Zcb ?_)
 unfold z2 at hp
 let B:Nat→Prop:=(fun r=>r < h.n)
 have hO:Own B h h []:=Own.start0 h
 refine Zk (Zo (Zf (.sn) rfl (Zd (Zc (Zk (Zo (Zf (.sn) rfl ?_)))))))
 refine Zd (Zc (Zk (Zk (Zo (Zf (.n 0) rfl (Zd (Zc ?_)))))))
 refine Zas ?_
 obtain ⟨o'1,ho'1,hp⟩:=Zs hp
 refine W.mono (Q:=fun e fr k=>match (generalizing:=false) o'1 with
   | out1=>e = (.exit 0)∧∃ (v'3:V),fr 3 = v'3∧Own B h k [eSl Zb v'3 out1]) ?_ ?_
 ·clear hp
  have hO'2:=hO.nil Zb
  refine zR (fun st fr k=>match st with | (out,i)=>∃ (v'2:V),fr 0 = v_at_∧fr 3 = v'2∧fr 4 = .n i∧Own B h k [eSl Zb v'2 out]) ho'1 (s:=(([]:List Ze),0)) ⟨V.sn,rfl,rfl,rfl,(hO'2.pick [0] rfl (by decide))⟩ ?_
  rintro ⟨out,i⟩ q'2 k'2 ⟨v'2,q'2_0,q'2_3,q'2_4,hO'3⟩ o'2 hp
  dsimp only [z2.s0] at hp
  refine Zk (Zk (Zo (Zf (.n i) q'2_4 (Zf v_at_ q'2_0 (Zj (Za0 (hO'3.rd0 s_at_.rd) rfl) (Zj (zL (a:=i) (b:=(at_.length:Int)) rfl rfl) (Zd ?_)))))))
  refine Zc ?_
  rcases Zt hp with ⟨b'1,hp⟩ | ⟨b'1,hp⟩
  ·refine zK (t:=(decide (i < (at_.length:Int)))) rfl b'1 ?_
   refine zN (Zc (Zk (Zas (Zfj ?_))))
   have hW:=hO'3.bump 16
   have fr'1:=Fresh.start k'2 16
   have nb'1:∀ {i:Nat},h.n≤k'2.n + i:=Nat.le_trans hO'3.n (Nat.le_add_right _ _)
   have hO'4:=hW
   refine ZaK v'2 q'2_3 (ZaK v_at_ q'2_0 (ZaK (.n i) q'2_4 ?_))
   obtain ⟨c'1,hp⟩:=Zm hp
   refine zm (zq (E:=Zb) (z:=i) (hO'4.rd0 s_at_.rd) rfl rfl c'1) (zm (Zax (off':=0) (off2:=1) (hO'4.rd0 s_at_.rd) (Zl c'1) rfl rfl) (zm (zO (w:=.n ((gi at_ i.toNat).Y)) (hO'4.rd0 s_at_.rd) rfl (Zl c'1) rfl) ?_))
   obtain ⟨c'2,hp⟩:=Zm hp
   refine zm (ZkW (a:=((gi at_ i.toNat).Y)) rfl c'2) (ZaK v_at_ q'2_0 (ZaK (.n i) q'2_4 (zm (zq (E:=Zb) (z:=i) (hO'4.rd0 s_at_.rd) rfl rfl c'1) (zm (Zax (off':=0) (off2:=0) (hO'4.rd0 s_at_.rd) (Zl c'1) rfl rfl) (zm (zO (w:=.n ((gi at_ i.toNat).X)) (hO'4.rd0 s_at_.rd) rfl (Zl c'1) rfl) (zm (Zbh (cs:=Zb.c (⟨-((gi at_ i.toNat).Y),(gi at_ i.toNat).X⟩:Ze)) (by rw [(zp (v:=.n (-((gi at_ i.toNat).Y))) rfl (zp (v:=.n ((gi at_ i.toNat).X)) rfl Zak))]; rfl)) (ZfX (hO'4.bsl (E:=Zb) (l:=[(⟨-((gi at_ i.toNat).Y),(gi at_ i.toNat).X⟩:Ze)]) ⟨fr'1.m 13 (by decide) (by decide),nb'1⟩ (by rw [(zp (v:=.ag (Zb.c (⟨-((gi at_ i.toNat).Y),(gi at_ i.toNat).X⟩:Ze))) rfl Zak)]; rfl) rfl) ?_)))))))
   rintro v'4 k'4 z'1 ⟨r'1,f'1,hW⟩
   have fr'2:=fr'1.kept f'1 (by decide)
   have hO'5:=hW
   obtain ⟨c'3,hp⟩:=Zm hp
   refine ZfX (hO'5.app (E:=Zb) (bytes:=16) 0 ⟨fr'2.m 14 (by decide) (by decide),nb'1⟩ rfl (hO'5.sl 1 rfl:Sl Zb k'4 v'4 [(⟨-((gi at_ i.toNat).Y),(gi at_ i.toNat).X⟩:Ze)]) rfl rfl (fun _=>rfl) c'3 (by decide)) ?_
   rintro v'5 k'5 z'2 ⟨f'2,hW⟩
   have fr'3:=fr'2.kept f'2 (by decide)
   have hO'6:=hW
   refine ZaK v'5 rfl (ZbZ ?_)
   refine And.intro ?_ ?_
   ·intro q hq
    simp only [List.mem_cons,List.not_mem_nil,or_false] at hq
    rcases hq with rfl
    ·refine Za8 ?_ ?_
     ·exact (fun h=>nomatch h)
     ·exact (fun h=>nomatch h)
   refine Zan (Zc (Zo (Zf (.n i) q'2_4 ?_)))
   obtain ⟨c'4,hp⟩:=Zm hp
   refine Zj (zH (a:=i) (b:=1) rfl rfl c'4) (Zf (.n (i + 1)) rfl (Zd ?_))
   cases hp
   exact (Or.inl ⟨(out++[(⟨-((gi at_ i.toNat).Y),(gi at_ i.toNat).X⟩:Ze)],i + 1),rfl,rfl,v'5,q'2_0,rfl,rfl,(hO'6.pick [0] rfl (by decide))⟩)
  ·refine zG (t:=(decide (i < (at_.length:Int)))) rfl b'1 ?_
   refine Zbp (zZ ?_)
   cases hp
   refine (Or.inr ⟨out,rfl,(fun h=>nomatch h),(fun he=>?_)⟩)
   subst he; exact ⟨rfl,v'2,q'2_3,(hO'3.pick [0] rfl (by decide))⟩
 intro e'1 q'1 k'1 hJ'1
 obtain ⟨out1,rfl⟩:∃ x,x = o'1:=⟨_,rfl⟩
 obtain ⟨rfl,v'3,q'1_3,hO'1⟩:=hJ'1
 refine ZaJ (Zc (Zk (Zo (Zf v'3 q'1_3 (Zf v'3 rfl (Zd (Zc ?_)))))))
 refine zY (zx (zC (n:=2) (v:=v'3) rfl ZS) ?_)
 cases hp
 exact ⟨v'3,rfl,(hO'1.pick [0] rfl (by decide))⟩

end Mu
