/- The code comes to what was worked out. -/
import Derived.Test.YtfdidkebomeiaaaMuDf
import Derived.Test.YtfdidkebomeiaaaMuPa
import Derived.Test.YtfdidkebomeiaaaMuC0
set_option linter.unusedVariables false
set_option linter.unnecessarySimpa false
set_option linter.unusedSimpArgs false
set_option maxHeartbeats 2000000
set_option maxRecDepth 10000
namespace Mu
open Go (IntKind BinOp UnOp)
theorem zt.ok {h:Hp} {x:List Int} {count:Int} {v_x:V} (s_x:Sl zd h v_x x) {r:(List Int)} (hp:zt x count = some r) :
  ∃ u k',Is G 83 [v_x,.n count] h u k'∧∃ (v'1:V),v'1 = u∧Own (fun r=>r < h.n) h k' [eSl zd v'1 r]:=by
 refine WC.is (Za7 ZcA ?_)
 unfold zt at hp
 let B:Nat→Prop:=(fun r=>r < h.n)
 have hO:Own B h h []:=Own.start0 h
 refine Zk (Zo (Zf (.sn) rfl (Zd (Zc (Zk (Zk (Zo ?_)))))))
 refine Zf (.n count) rfl (Zj (zL (a:=count) (b:=0) rfl rfl) (Zd (Zc ?_)))
 obtain ⟨o'1,ho'1,hp⟩:=Zs hp
 refine W.mono (Q:=fun e fr k=>match (generalizing:=false) o'1 with
   | _=>e = .normal∧fr 0 = v_x∧fr 1 = .n count∧Own B h k []) ?_ ?_
 ·clear hp; have hp:=ho'1; clear ho'1
  rcases Zt hp with ⟨b'1,hp⟩ | ⟨b'1,hp⟩
  ·refine zK (t:=(decide (count < 0))) rfl b'1 ?_
   exact nomatch hp
  ·refine zG (t:=(decide (count < 0))) rfl b'1 ?_
   refine zN ?_
   cases hp
   exact ⟨rfl,rfl,rfl,(hO.pick [] rfl (by decide))⟩
 intro e'1 q'1 k'1 hJ'1
 obtain ⟨rfl,q'1_0,q'1_1,hO'1⟩:=hJ'1
 refine Zc (Zk (Zo (Zf v_x q'1_0 (Zj (Za0 (hO'1.rd0 s_x.rd) rfl) ?_))))
 obtain ⟨c'1,hp⟩:=Zm hp
 refine Zj (ZdB (a:=(x.length:Int)) rfl c'1) (Zf (.n count) q'1_1 ?_)
 obtain ⟨c'2,hp⟩:=Zm hp
 refine Zj (ZdB (a:=count) rfl c'2) ?_
 obtain ⟨⟨x1,x2⟩,hx'1,hp⟩:=Zs hp
 obtain ⟨u'1,k'2,ca'1,rfl,hW'1⟩:=Zcl.ok (h:=k'1)   hx'1
 refine ZaN (id:=89) (caps:=[]) rfl (Zu (v:=.i .u64 (x.length:Int)) rfl (Zu (v:=.i .u64 count) rfl zi)) ca'1 ?_
 have hO'2:=hO'1.call hW'1 rfl
 refine Zf (.tu [.i .u64 x1,.i .u64 x2]) rfl (Zj (Zbn (vs:=[.i .u64 x1,.i .u64 x2]) (v:=.i .u64 x1) rfl rfl) (Zj (Zbn (vs:=[.i .u64 x1,.i .u64 x2]) (v:=.i .u64 x2) rfl rfl) (Zf (.i .u64 x1) rfl (Zf (.i .u64 x2) rfl (Zd (Zc (Zk ?_)))))))
 refine Zk (Zo (Zf (.i .u64 x1) rfl (Zj (ZdQ (a:=x1) (b:=0) rfl rfl) (Zf (.b (decide (0 < x1))) rfl ?_))))
 refine ZaF 3 (fun fr' k'=>k'2 = k'∧fr' 26 = .b ((decide (0 < x1)) || (decide (9223372036854775807 < x2)))∧fr' 0 = v_x∧fr' 6 = .i .u64 x2) ?_ ?_
 ·rcases bc (decide (0 < x1)) with b'2 | b'2
  ·skip
   refine Z1 rfl b'2 (Z1 rfl b'2 (Zj (zn (t:=(decide (0 < x1))) (v:=.b ((decide (0 < x1)) || (decide (9223372036854775807 < x2)))) rfl b'2 (Eq.trans (b:=V.b true) rfl (Zbz b'2))) (Zd ?_)))
   exact ⟨rfl,rfl,q'1_0,rfl⟩
  ·skip
   refine ZM rfl b'2 (Zf (.i .u64 x2) rfl (ZM rfl b'2 (Zj (ZdQ (a:=x2) (b:=9223372036854775807) rfl rfl) (Zj (ze (t:=(decide (0 < x1))) (v:=.b ((decide (0 < x1)) || (decide (9223372036854775807 < x2)))) rfl b'2 (Eq.trans (b:=V.b (decide (9223372036854775807 < x2))) rfl (Zcf b'2))) (Zd ?_)))))
   exact ⟨rfl,rfl,q'1_0,rfl⟩
 rintro frg'1 _ ⟨rfl,g'1_26,g'1_0,g'1_6⟩
 refine Zd (Zc ?_)
 obtain ⟨o'2,ho'2,hp⟩:=Zs hp
 refine W.mono (Q:=fun e fr k=>match (generalizing:=false) o'2 with
   | _=>e = .normal∧fr 0 = v_x∧fr 6 = .i .u64 x2∧Own B h k []) ?_ ?_
 ·clear hp; have hp:=ho'2; clear ho'2
  rcases Zt hp with ⟨b'3,hp⟩ | ⟨b'3,hp⟩
  ·refine zK (t:=((decide (0 < x1)) || (decide (9223372036854775807 < x2)))) g'1_26 b'3 ?_
   exact nomatch hp
  ·refine zG (t:=((decide (0 < x1)) || (decide (9223372036854775807 < x2)))) g'1_26 b'3 ?_
   refine zN ?_
   cases hp
   exact ⟨rfl,g'1_0,g'1_6,(hO'2.pick [] rfl (by decide))⟩
 intro e'2 q'2 k'3 hJ'2
 obtain ⟨rfl,q'2_0,q'2_6,hO'3⟩:=hJ'2
 refine Zc (Zk (Zo (Zf (.i .u64 x2) q'2_6 ?_)))
 obtain ⟨c'3,hp⟩:=Zm hp
 refine Zj (ZdB (a:=x2) rfl c'3) ?_
 obtain ⟨c'4,hp⟩:=Zm hp
 refine zF (hO'3.mks (E:=zd) (y:=(0:Int)) (bytes:=8) (z:=x2) hO'3.fr rfl rfl rfl c'4 (by decide)) ?_
 rintro v'2 k'4 ⟨r'1,f'1,hW⟩
 have hO'4:=hW
 refine Zf v'2 rfl (Zd (Zc (Zk (Zo (Zf v'2 rfl (Zf v_x q'2_0 (zF (hO'4.cpy (E:=zd) 0 rfl (hO'4.rd0 s_x.rd) rfl rfl (fun _=>rfl)) ?_)))))))
 rintro _ k'5 ⟨rfl,f'2,hW⟩
 have hO'5:=hW
 refine Zf (.n ((min x.length (List.replicate x2.toNat (0:Int)).length:Nat):Int)) rfl (Zd (Zc (Zk (Zas ?_))))
 obtain ⟨o'3,ho'3,hp⟩:=Zs hp
 refine W.mono (Q:=fun e fr k=>match (generalizing:=false) o'3 with
   | newslice1=>e = (.exit 0)∧fr 7 = v'2∧Own B h k [eSl zd v'2 newslice1]) ?_ ?_
 ·clear hp
  refine zR (fun st fr k=>match st with | (newslice,n)=>fr 7 = v'2∧fr 8 = .n n∧Own B h k [eSl zd v'2 newslice]) ho'3 (s:=(x.take (List.replicate x2.toNat (0:Int)).length++(List.replicate x2.toNat (0:Int)).drop x.length,((min x.length (List.replicate x2.toNat (0:Int)).length:Nat):Int))) ⟨rfl,rfl,(hO'5.pick [0] rfl (by decide))⟩ ?_
  rintro ⟨newslice,n⟩ q'4 k'7 ⟨q'4_7,q'4_8,hO'7⟩ o'4 hp
  dsimp only [zt.s0] at hp
  refine Zk (Zk (Zo (Zf (.n n) q'4_8 (Zf v'2 q'4_7 (Zj (Za0 (hO'7.sl 0 rfl) rfl) (Zj (zL (a:=n) (b:=(newslice.length:Int)) rfl rfl) (Zd ?_)))))))
  refine Zc ?_
  rcases Zt hp with ⟨b'4,hp⟩ | ⟨b'4,hp⟩
  ·refine zK (t:=(decide (n < (newslice.length:Int)))) rfl b'4 ?_
   refine zN (Zc (Zas (Zfj ?_)))
   have hW:=hO'7.bump 10
   have fr'1:=Fresh.start k'7 10
   have nb'1:∀ {i:Nat},h.n≤k'7.n + i:=Nat.le_trans hO'7.n (Nat.le_add_right _ _)
   have hO'8:=hW
   refine ZaK (.n n) q'4_8 (ZaK v'2 q'4_7 (ZaK (.n n) q'4_8 ?_))
   obtain ⟨c'5,hp⟩:=Zm hp
   refine zm (Zh6 (E:=zd) (z:=n) (hO'8.sl 0 rfl) rfl rfl c'5) (ZaK v'2 q'4_7 (ZaK (.n n) q'4_8 (zm (Zlk (E:=zd) (z:=n) (hO'8.sl 0 rfl) rfl rfl c'5) (ZfX (hO'8.cpyF (E:=zd) (z:=n) 0 rfl c'5 (Sl.cutU (hO'8.sl 0 rfl) c'5:Sl zd (k'7.bump 10) (V.cut v'2 0 n.toNat) (newslice.take n.toNat)) rfl rfl (fun _=>rfl)) ?_))))
   rintro _ k'9 z'1 ⟨rfl,f'3,hW⟩
   have fr'2:=fr'1.kept f'3 (by decide)
   have hO'9:=hW
   obtain ⟨c'6,hp⟩:=Zm hp
   refine zm (zH (a:=n) (b:=((min (newslice.take n.toNat).length (newslice.drop n.toNat).length:Nat):Int)) rfl rfl c'6) (ZaK (.n (n + ((min (newslice.take n.toNat).length (newslice.drop n.toNat).length:Nat):Int))) rfl (ZbZ ?_))
   refine And.intro ?_ ?_
   ·intro q hq
    cases hq
   refine Zan ?_
   cases hp
   exact (Or.inl ⟨(newslice.take n.toNat++((newslice.take n.toNat).take (newslice.drop n.toNat).length++(newslice.drop n.toNat).drop (newslice.take n.toNat).length),n + ((min (newslice.take n.toNat).length (newslice.drop n.toNat).length:Nat):Int)),rfl,rfl,q'4_7,rfl,(hO'9.pick [0] rfl (by decide))⟩)
  ·refine zG (t:=(decide (n < (newslice.length:Int)))) rfl b'4 ?_
   refine Zbp (zZ ?_)
   cases hp
   refine (Or.inr ⟨newslice,rfl,(fun h=>nomatch h),(fun he=>?_)⟩)
   subst he; exact ⟨rfl,q'4_7,(hO'7.pick [0] rfl (by decide))⟩
 intro e'3 q'3 k'6 hJ'3
 obtain ⟨newslice1,rfl⟩:∃ x,x = o'3:=⟨_,rfl⟩
 obtain ⟨rfl,q'3_7,hO'6⟩:=hJ'3
 refine ZaJ (Zc (Zk (Zo (Zf v'2 q'3_7 (Zf v'2 rfl (Zd (Zc ?_)))))))
 refine zY (zx (zC (n:=4) (v:=v'2) rfl ZS) ?_)
 cases hp
 exact ⟨v'2,rfl,(hO'6.pick [0] rfl (by decide))⟩

theorem zT.ok {h:Hp} {cells:List Za} {v:Int} {v_cells:V} (s_cells:Sl Zi h v_cells cells) {r:(List Int) × (List Int)} (hp:zT cells v = some r) :
  ∃ u k',Is G 67 [v_cells,.n v] h u k'∧∃ (v'1:V),∃ (v'2:V),V.tu [v'1,v'2] = u∧Own (fun r=>r < h.n) h k' [eSl zd v'1 r.1,eSl zd v'2 r.2]:=by
 refine WC.is (Za7 ZdN ?_)
 unfold zT at hp
 let B:Nat→Prop:=(fun r=>r < h.n)
 have hO:Own B h h []:=Own.start0 h
 refine Zk (Zo (Zf (.sn) rfl (Zf (.sn) rfl (Zd (Zc (Zk (Zo ?_)))))))
 refine zF (hO.bsl (E:=zd) (l:=([(-1)]:List Int)) hO.fr (by rw [(zp (v:=.n (-1)) rfl Zak)]; rfl) rfl) ?_
 rintro v'3 k'1 ⟨r'1,f'1,hW⟩
 have hO'1:=hW
 refine Zf v_cells rfl (Zj (Za0 (hO'1.rd0 s_cells.rd) rfl) ?_)
 obtain ⟨x,hx'1,hp⟩:=Zs hp
 obtain ⟨u'1,k'2,ca'1,v'4,rfl,hW'1⟩:=zt.ok (h:=k'1)  (hO'1.sl 0 rfl:Sl zd k'1 v'3 ([(-1)]:List Int)) hx'1
 refine ZaN (id:=83) (caps:=[]) rfl (Zu (v:=v'3) rfl (Zu (v:=.n (cells.length:Int)) rfl zi)) ca'1 ?_
 have hO'2:=hO'1.call hW'1 rfl
 refine zF (hO'2.bsl (E:=zd) (l:=([(-1)]:List Int)) hO'2.fr (by rw [(zp (v:=.n (-1)) rfl Zak)]; rfl) rfl) ?_
 rintro v'5 k'3 ⟨r'2,f'2,hW⟩
 have hO'3:=hW
 refine Zf v_cells rfl (Zj (Za0 (hO'3.rd0 s_cells.rd) rfl) ?_)
 obtain ⟨x1,hx'2,hp⟩:=Zs hp
 obtain ⟨u'2,k'4,ca'2,v'6,rfl,hW'2⟩:=zt.ok (h:=k'3)  (hO'3.sl 2 rfl:Sl zd k'3 v'5 ([(-1)]:List Int)) hx'2
 refine ZaN (id:=83) (caps:=[]) rfl (Zu (v:=v'5) rfl (Zu (v:=.n (cells.length:Int)) rfl zi)) ca'2 ?_
 have hO'4:=hO'3.call hW'2 rfl
 refine Zf v'4 rfl (Zf v'6 rfl (Zd (Zc (Zk (Zo (Zf (.n v) rfl (zF (hO'4.bsl (E:=zd) (l:=[v]) hO'4.fr (by rw [(zp (v:=.n v) rfl Zak)]; rfl) rfl) ?_)))))))
 rintro v'7 k'5 ⟨r'3,f'3,hW⟩
 have hO'5:=hW
 refine Zf v'7 rfl (Zd (Zc (Zk (Zo (Zf v_cells rfl (Zj (Za0 (hO'5.rd0 s_cells.rd) rfl) ?_))))))
 obtain ⟨c'1,hp⟩:=Zm hp
 refine zF (hO'5.mks (E:=e_bool) (y:=false) (bytes:=1) (z:=(cells.length:Int)) hO'5.fr rfl rfl rfl c'1 (by decide)) ?_
 rintro v'8 k'6 ⟨r'4,f'4,hW⟩
 have hO'6:=hW
 refine Zf v'8 rfl (Zd (Zc (Zk (Zo (Zf v'8 rfl (Zf (.n v) rfl ?_))))))
 obtain ⟨c'2,hp⟩:=Zm hp
 refine Zj (zq (E:=e_bool) (z:=v) (hO'6.sl 5 rfl:Sl e_bool k'6 v'8 (List.replicate ((cells.length:Int):Int).toNat false)) rfl rfl c'2) (zF (hO'6.ste (E:=e_bool) (y:=true) (ws:=[.b true]) 5 rfl rfl (Zl c'2) rfl rfl ⟨rfl,Nat.le_of_ble_eq_true rfl,rfl⟩ rfl) ?_)
 rintro _ k'7 ⟨rfl,f'5,m'1,hW⟩
 have hO'7:=hW
 refine Zd (Zc (Zk (Zas ?_)))
 obtain ⟨o'1,ho'1,hp⟩:=Zs hp
 refine W.mono (Q:=fun e fr k=>match (generalizing:=false) o'1 with
   | (from_1,dir1)=>e = (.exit 0)∧fr 6 = v'4∧fr 7 = v'6∧Own B h k [eSl zd v'4 from_1,eSl zd v'6 dir1]) ?_ ?_
 ·clear hp
  refine zR (fun st fr k=>match st with | (from_,dir,l,met)=>∃ (v'9:V),fr 0 = v_cells∧fr 6 = v'4∧fr 7 = v'6∧fr 8 = v'9∧fr 9 = v'8∧Own B h k [eSl zd v'4 from_,eSl zd v'6 dir,eSl zd v'9 l,eSl e_bool v'8 met]) ho'1 (s:=(x,x1,[v],(List.replicate ((cells.length:Int):Int).toNat false).set v.toNat true)) ⟨v'7,rfl,rfl,rfl,rfl,rfl,(hO'7.pick [1,3,4,5] rfl (by decide))⟩ ?_
  rintro ⟨from_,dir,l,met⟩ q'2 k'9 ⟨v'9,q'2_0,q'2_6,q'2_7,q'2_8,q'2_9,hO'9⟩ o'2 hp
  dsimp only [zT.s0] at hp
  refine Zk (Zk (Zo (Zf v'9 q'2_8 (Zj (Za0 (hO'9.sl 2 rfl) rfl) (Zj (ZdQ (a:=(l.length:Int)) (b:=0) rfl rfl) (Zd (Zc ?_)))))))
  rcases Zt hp with ⟨b'1,hp⟩ | ⟨b'1,hp⟩
  ·refine zK (t:=(decide (0 < (l.length:Int)))) rfl b'1 ?_
   refine zN (Zc (Zas (Zk (Zo (Zf v'9 q'2_8 ?_)))))
   obtain ⟨c'3,hp⟩:=Zm hp
   refine Zj (zq (E:=zd) (z:=0) (hO'9.sl 2 rfl) rfl rfl c'3) (Zj (zO (w:=.n (gi l (0:Int).toNat)) (hO'9.sl 2 rfl) rfl (Zl c'3) rfl) (Zf (.n (gi l (0:Int).toNat)) rfl (Zd (Zc (Zk (Zo (Zf v'9 q'2_8 ?_)))))))
   obtain ⟨c'4,hp⟩:=Zm hp
   refine Zj (Zh6 (E:=zd) (z:=1) (hO'9.sl 2 rfl) rfl rfl c'4) (Zf ((V.cut v'9 (1:Int).toNat (l).length)) rfl (Zd (Zc (Zk (Zo (Zf (.n 0) rfl (Zd ?_)))))))
   refine Zc (Zas ?_)
   obtain ⟨o'3,ho'2,hp⟩:=Zs hp
   refine W.mono (Q:=fun e fr k=>match (generalizing:=false) o'3 with
     | (from_3,dir3,l2,met2)=>e = (.exit 2)∧∃ (v'11:V),fr 0 = v_cells∧fr 6 = v'4∧fr 7 = v'6∧fr 8 = v'11∧fr 9 = v'8∧Own B h k [eSl zd v'4 from_3,eSl zd v'6 dir3,eSl zd v'11 l2,eSl e_bool v'8 met2]) ?_ ?_
   ·clear hp
    have hO'11:=hO'9.cutF 2 rfl c'4
    refine zR (fun st fr k=>match st with | (from_2,dir2,l1,met1,x2)=>∃ (v'10:V),fr 0 = v_cells∧fr 6 = v'4∧fr 7 = v'6∧fr 8 = v'10∧fr 9 = v'8∧fr 10 = .n (gi l (0:Int).toNat)∧fr 37 = .n x2∧Own B h k [eSl zd v'4 from_2,eSl zd v'6 dir2,eSl zd v'10 l1,eSl e_bool v'8 met1]) ho'2 (s:=(from_,dir,l.drop (1:Int).toNat,met,0)) ⟨(V.cut v'9 (1:Int).toNat (l).length),q'2_0,q'2_6,q'2_7,rfl,q'2_9,rfl,rfl,(hO'11.pick [0,1,2,3] rfl (by decide))⟩ ?_
    rintro ⟨from_2,dir2,l1,met1,x2⟩ q'4 k'11 ⟨v'10,q'4_0,q'4_6,q'4_7,q'4_8,q'4_9,q'4_10,q'4_37,hO'12⟩ o'4 hp
    dsimp only [zT.s1] at hp
    refine Zk (Zo (Zj (zL (a:=x2) (b:=4) q'4_37 rfl) (Zd (Zc (Zk ?_)))))
    rcases Zt hp with ⟨b'2,hp⟩ | ⟨b'2,hp⟩
    ·refine zK (t:=(decide (x2 < 4))) rfl b'2 ?_
     refine zN (Zc (Zk (Zas (Zk (Zo (Zf (.n x2) q'4_37 (Zf (.n x2) rfl ?_)))))))
     refine Zd (Zc (Zk (Zo (Zf v_cells q'4_0 (Zf (.n (gi l (0:Int).toNat)) q'4_10 (Zf (.n x2) rfl ?_))))))
     obtain ⟨c'5,hp⟩:=Zm hp
     refine Zj (zq (E:=Zi) (z:=(gi l (0:Int).toNat)) (hO'12.rd0 s_cells.rd) rfl rfl c'5) (Zj (Zax (off':=0) (off2:=0) (hO'12.rd0 s_cells.rd) (Zl c'5) rfl rfl) ?_)
     obtain ⟨c'6,hp⟩:=Zm hp
     refine Zj (Zb3 (off:=0) (off2:=(0 + x2.toNat * 1)) (z:=x2) (hO'12.rd0 s_cells.rd) (Zl c'5) rfl rfl c'6 rfl) (Zj (zO (w:=.n (((gi cells (gi l (0:Int).toNat:Int).toNat).Next).get x2)) (hO'12.rd0 s_cells.rd) rfl (Zl c'5) (zI c'6)) (Zf (.n (((gi cells (gi l (0:Int).toNat:Int).toNat).Next).get x2)) rfl (Zd (Zc (Zk (Zo (Zf (.n (((gi cells (gi l (0:Int).toNat:Int).toNat).Next).get x2)) rfl ?_)))))))
     refine Zj (Zcy (a:=(((gi cells (gi l (0:Int).toNat:Int).toNat).Next).get x2)) (b:=0) rfl rfl) (Zf (.b (decide (0≤(((gi cells (gi l (0:Int).toNat:Int).toNat).Next).get x2)))) rfl ?_)
     obtain ⟨t,hv'1,hp⟩:=Zs hp
     refine ZaF 6 (fun fr' k'=>k'11 = k'∧fr' 55 = .b t∧fr' 0 = v_cells∧fr' 10 = .n (gi l (0:Int).toNat)∧fr' 11 = .n x2∧fr' 12 = .n (((gi cells (gi l (0:Int).toNat:Int).toNat).Next).get x2)∧fr' 37 = .n x2∧fr' 6 = v'4∧fr' 7 = v'6∧fr' 8 = v'10∧fr' 9 = v'8) ?_ ?_
     ·clear hp; rcases Zt hv'1 with ⟨b'3,hp⟩ | ⟨b'3,hp⟩
      ·skip
       refine ZM rfl b'3 (Zf v'8 q'4_9 (ZM rfl b'3 (Zf (.n (((gi cells (gi l (0:Int).toNat:Int).toNat).Next).get x2)) rfl (ZM rfl b'3 ?_))))
       obtain ⟨c'7,hp⟩:=Zm hp
       refine Zj (zq (E:=e_bool) (z:=(((gi cells (gi l (0:Int).toNat:Int).toNat).Next).get x2)) (hO'12.sl 3 rfl) rfl rfl c'7) (ZM rfl b'3 (Zj (zO (w:=.b (gi met1 (((gi cells (gi l (0:Int).toNat:Int).toNat).Next).get x2:Int).toNat)) (hO'12.sl 3 rfl) rfl (Zl c'7) rfl) (ZM rfl b'3 (Zj (Zdd (t:=(gi met1 (((gi cells (gi l (0:Int).toNat:Int).toNat).Next).get x2:Int).toNat)) rfl) (Zj (zn (t:=(decide (0≤(((gi cells (gi l (0:Int).toNat:Int).toNat).Next).get x2)))) (v:=.b t) rfl b'3 (Eq.trans (b:=V.b (!(gi met1 (((gi cells (gi l (0:Int).toNat:Int).toNat).Next).get x2:Int).toNat))) rfl (congrArg V.b (Option.some.inj hp)))) (Zd ?_))))))
       exact ⟨rfl,rfl,q'4_0,q'4_10,rfl,rfl,q'4_37,q'4_6,q'4_7,q'4_8,q'4_9⟩
      ·skip
       refine Z1 rfl b'3 (Z1 rfl b'3 (Z1 rfl b'3 (Z1 rfl b'3 (Z1 rfl b'3 (Zj (ze (t:=(decide (0≤(((gi cells (gi l (0:Int).toNat:Int).toNat).Next).get x2)))) (v:=.b t) rfl b'3 (Eq.trans (b:=V.b false) rfl (congrArg V.b (Option.some.inj hp)))) (Zd ?_))))))
       exact ⟨rfl,rfl,q'4_0,q'4_10,rfl,rfl,q'4_37,q'4_6,q'4_7,q'4_8,q'4_9⟩
     rintro frg'1 _ ⟨rfl,g'1_55,g'1_0,g'1_10,g'1_11,g'1_12,g'1_37,g'1_6,g'1_7,g'1_8,g'1_9⟩
     refine Zd (Zc ?_)
     rcases Zt hp with ⟨b'4,hp⟩ | ⟨b'4,hp⟩
     ·refine zK (t:=t) g'1_55 b'4 ?_
      refine Zk (Zo (Zf v'8 g'1_9 (Zf (.n (((gi cells (gi l (0:Int).toNat:Int).toNat).Next).get x2)) g'1_12 (Zf v'4 g'1_6 (Zf (.n (((gi cells (gi l (0:Int).toNat:Int).toNat).Next).get x2)) g'1_12 (Zf v'6 g'1_7 (Zf (.n (((gi cells (gi l (0:Int).toNat:Int).toNat).Next).get x2)) g'1_12 ?_)))))))
      refine Zf (.n (gi l (0:Int).toNat)) g'1_10 (Zf (.n x2) g'1_11 ?_)
      obtain ⟨c'8,hp⟩:=Zm hp
      refine Zj (zq (E:=e_bool) (z:=(((gi cells (gi l (0:Int).toNat:Int).toNat).Next).get x2)) (hO'12.sl 3 rfl) rfl rfl c'8) (zF (hO'12.ste (E:=e_bool) (y:=true) (ws:=[.b true]) 3 rfl rfl (Zl c'8) rfl rfl ⟨rfl,Nat.le_of_ble_eq_true rfl,rfl⟩ rfl) ?_)
      rintro _ k'12 ⟨rfl,f'6,m'2,hW⟩
      have hO'13:=hW
      obtain ⟨c'9,hp⟩:=Zm hp
      refine Zj (zq (E:=zd) (z:=(((gi cells (gi l (0:Int).toNat:Int).toNat).Next).get x2)) (hO'13.sl 0 rfl) rfl rfl c'9) (zF (hO'13.ste (E:=zd) (y:=(gi l (0:Int).toNat)) (ws:=[.n (gi l (0:Int).toNat)]) 0 rfl rfl (Zl c'9) rfl rfl ⟨rfl,Nat.le_of_ble_eq_true rfl,rfl⟩ rfl) ?_)
      rintro _ k'13 ⟨rfl,f'7,m'3,hW⟩
      have hO'14:=hW
      obtain ⟨c'10,hp⟩:=Zm hp
      refine Zj (zq (E:=zd) (z:=(((gi cells (gi l (0:Int).toNat:Int).toNat).Next).get x2)) (hO'14.sl 1 rfl) rfl rfl c'10) (zF (hO'14.ste (E:=zd) (y:=x2) (ws:=[.n x2]) 1 rfl rfl (Zl c'10) rfl rfl ⟨rfl,Nat.le_of_ble_eq_true rfl,rfl⟩ rfl) ?_)
      rintro _ k'14 ⟨rfl,f'8,m'4,hW⟩
      have hO'15:=hW
      refine Zd (Zc (Zo (Zf v'10 g'1_8 (Zf (.n (((gi cells (gi l (0:Int).toNat:Int).toNat).Next).get x2)) g'1_12 (zF (hO'15.bsl (E:=zd) (l:=[((gi cells (gi l (0:Int).toNat:Int).toNat).Next).get x2]) hO'15.fr (by rw [(zp (v:=.n (((gi cells (gi l (0:Int).toNat:Int).toNat).Next).get x2)) rfl Zak)]; rfl) rfl) ?_)))))
      rintro v'12 k'15 ⟨r'5,f'9,hW⟩
      have hO'16:=hW
      obtain ⟨c'11,hp⟩:=Zm hp
      refine zF (hO'16.app (E:=zd) (bytes:=8) 2 hO'16.fr rfl (hO'16.sl 4 rfl:Sl zd k'15 v'12 [((gi cells (gi l (0:Int).toNat:Int).toNat).Next).get x2]) rfl rfl (fun _=>rfl) c'11 (by decide)) ?_
      rintro v'13 k'16 ⟨f'10,hW⟩
      have hO'17:=hW
      refine Zf v'13 rfl (Zd (Zan (Zc (Zo ?_))))
      obtain ⟨c'12,hp⟩:=Zm hp
      refine Zj (zH (a:=x2) (b:=1) g'1_37 rfl c'12) (Zf (.n (x2 + 1)) rfl (Zd ?_))
      cases hp
      exact (Or.inl ⟨(from_2.set (((gi cells (gi l (0:Int).toNat:Int).toNat).Next).get x2:Int).toNat (gi l (0:Int).toNat),dir2.set (((gi cells (gi l (0:Int).toNat:Int).toNat).Next).get x2:Int).toNat x2,l1++[((gi cells (gi l (0:Int).toNat:Int).toNat).Next).get x2],met1.set (((gi cells (gi l (0:Int).toNat:Int).toNat).Next).get x2:Int).toNat true,x2 + 1),rfl,rfl,v'13,g'1_0,g'1_6,g'1_7,rfl,g'1_9,g'1_10,rfl,(hO'17.pick [0,1,2,3] rfl (by decide))⟩)
     ·refine zG (t:=t) g'1_55 b'4 ?_
      refine zN (Zan (Zc (Zo ?_)))
      obtain ⟨c'13,hp⟩:=Zm hp
      refine Zj (zH (a:=x2) (b:=1) g'1_37 rfl c'13) (Zf (.n (x2 + 1)) rfl (Zd ?_))
      cases hp
      exact (Or.inl ⟨(from_2,dir2,l1,met1,x2 + 1),rfl,rfl,v'10,g'1_0,g'1_6,g'1_7,g'1_8,g'1_9,g'1_10,rfl,(hO'12.pick [0,1,2,3] rfl (by decide))⟩)
    ·refine zG (t:=(decide (x2 < 4))) rfl b'2 ?_
     refine Zbp (zZ ?_)
     cases hp
     refine (Or.inr ⟨(from_2,dir2,l1,met1),rfl,(fun h=>nomatch h),(fun he=>?_)⟩)
     subst he; exact ⟨rfl,v'10,q'4_0,q'4_6,q'4_7,q'4_8,q'4_9,(hO'12.pick [0,1,2,3] rfl (by decide))⟩
   intro e'2 q'3 k'10 hJ'2
   obtain ⟨from_3,dir3,l2,met2⟩:=o'3
   obtain ⟨rfl,v'11,q'3_0,q'3_6,q'3_7,q'3_8,q'3_9,hO'10⟩:=hJ'2
   refine ZaJ (Zan ?_)
   cases hp
   exact (Or.inl ⟨(from_3,dir3,l2,met2),rfl,rfl,v'11,q'3_0,q'3_6,q'3_7,q'3_8,q'3_9,(hO'10.pick [0,1,2,3] rfl (by decide))⟩)
  ·refine zG (t:=(decide (0 < (l.length:Int)))) rfl b'1 ?_
   refine Zbp (zZ ?_)
   cases hp
   refine (Or.inr ⟨(from_,dir),rfl,(fun h=>nomatch h),(fun he=>?_)⟩)
   subst he; exact ⟨rfl,q'2_6,q'2_7,(hO'9.pick [0,1] rfl (by decide))⟩
 intro e'1 q'1 k'8 hJ'1
 obtain ⟨from_1,dir1⟩:=o'1
 obtain ⟨rfl,q'1_6,q'1_7,hO'8⟩:=hJ'1
 refine ZaJ (Zc (Zk (Zo (Zf v'4 q'1_6 (Zf v'6 q'1_7 (Zf v'4 rfl (Zf v'6 rfl ?_)))))))
 refine Zd (Zc (zY (zx (zC (n:=4) (v:=v'4) rfl (zC (n:=5) (v:=v'6) rfl ZS)) ?_)))
 cases hp
 exact ⟨v'4,v'6,rfl,(hO'8.pick [0,1] rfl (by decide))⟩

theorem zW.ok {h:Hp} {cells:List Za} {v_cells:V} (s_cells:Sl Zi h v_cells cells) {r:(List (List Int)) × Int} (hp:zW cells = some r) :
  ∃ u k',Is G 29 [v_cells] h u k'∧∃ (v'1:V),∃ (vs'1:List V),V.tu [v'1,.n r.2] = u∧Own (fun r=>r < h.n) h k' [eSl eV v'1 vs'1,ZbI zd vs'1 r.1]:=by
 refine WC.is (Za7 Zea ?_)
 unfold zW at hp
 let B:Nat→Prop:=(fun r=>r < h.n)
 have hO:Own B h h []:=Own.start0 h
 refine Zk (Zo (Zf (.sn) rfl (Zf (.n 0) rfl (Zd (Zc (Zk (Zk ?_)))))))
 refine Zo (Zf v_cells rfl ?_)
 obtain ⟨x,hx'1,hp⟩:=Zs hp
 obtain ⟨u'1,k'1,ca'1,rfl,hW'1⟩:=zg.ok (h:=h)  (hO.rd0 s_cells.rd) hx'1
 refine ZaN (id:=66) (caps:=[]) rfl (Zu (v:=v_cells) rfl zi) ca'1 ?_
 have hO'1:=hO.call hW'1 rfl
 refine Zf (.n x) rfl (Zd (Zc (Zk (Zo (Zf (.n x) rfl (Zj (ZcM (a:=x) (b:=0) rfl rfl) (Zd ?_)))))))
 refine Zc ?_
 rcases Zt hp with ⟨b'1,hp⟩ | ⟨b'1,hp⟩
 ·refine zK (t:=(!(decide (x = 0)))) rfl b'1 ?_
  refine Zk (Zo (Zf (.n x) rfl (Zf (.sn) rfl (Zf (.n x) rfl (Zd (Zc (zY ?_)))))))
  refine z5 ?_
  have hO'2:=hO'1.nil eV
  have hO'3:=hO'2.allNil zd 0
  refine zx (zC (n:=2) (v:=.sn) rfl (zC (n:=3) (v:=.n x) rfl ZS)) ?_
  cases hp
  exact ⟨V.sn,[],rfl,(hO'3.pick [0,1] rfl (by decide))⟩
 ·refine zG (t:=(!(decide (x = 0)))) rfl b'1 ?_
  refine zN (Zc (Zk (Zo (Zf (.sn) rfl (Zd (Zc (Zk ?_)))))))
  refine Zo (Zf v_cells rfl (Zj (Za0 (hO'1.rd0 s_cells.rd) rfl) ?_))
  obtain ⟨c'1,hp⟩:=Zm hp
  refine zF (hO'1.mks (E:=e_bool) (y:=false) (bytes:=1) (z:=(cells.length:Int)) hO'1.fr rfl rfl rfl c'1 (by decide)) ?_
  rintro v'2 k'2 ⟨r'1,f'1,hW⟩
  have hO'4:=hW
  refine Zf v'2 rfl (Zd (Zc (Zk (Zk (Zo (Zf v_cells rfl (Zj (Za0 (hO'4.rd0 s_cells.rd) rfl) ?_)))))))
  refine Zf (.n 0) rfl (Zd (Zc (Zas ?_)))
  obtain ⟨o'1,ho'1,hp⟩:=Zs hp
  refine W.mono (Q:=fun e fr k=>match (generalizing:=false) o'1 with
    | l1=>e = (.exit 0)∧∃ (v'4:V),∃ (vs'3:List V),fr 5 = v'4∧Own B h k [eSl eV v'4 vs'3,ZbI zd vs'3 l1]) ?_ ?_
  ·clear hp
   have hO'6:=hO'4.nil eV
   have hO'7:=hO'6.allNil zd 0
   refine zR (fun st fr k=>match st with | (l,met,x1)=>∃ (v'3:V),∃ (vs'2:List V),fr 0 = v_cells∧fr 5 = v'3∧fr 6 = v'2∧fr 21 = .n (cells.length:Int)∧fr 22 = .n x1∧Own B h k [eSl eV v'3 vs'2,ZbI zd vs'2 l,eSl e_bool v'2 met]) ho'1 (s:=(([]:List (List Int)),List.replicate ((cells.length:Int):Int).toNat false,0)) ⟨V.sn,[],rfl,rfl,rfl,rfl,rfl,(hO'7.pick [1,2,0] rfl (by decide))⟩ ?_
   rintro ⟨l,met,x1⟩ q'2 k'4 ⟨v'3,vs'2,q'2_0,q'2_5,q'2_6,q'2_21,q'2_22,hO'8⟩ o'2 hp
   dsimp only [zW.s0] at hp
   refine Zk (Zo (Zj (zL (a:=x1) (b:=(cells.length:Int)) q'2_22 q'2_21) (Zd (Zc (Zk ?_)))))
   rcases Zt hp with ⟨b'2,hp⟩ | ⟨b'2,hp⟩
   ·refine zK (t:=(decide (x1 < (cells.length:Int)))) rfl b'2 ?_
    refine zN (Zc (Zk (Zas (Zk (Zo (Zf (.n x1) q'2_22 (Zf (.n x1) rfl ?_)))))))
    refine Zd (Zc (Zk (Zk (Zo (Zf v'2 q'2_6 (Zf (.n x1) rfl ?_))))))
    obtain ⟨c'2,hp⟩:=Zm hp
    refine Zj (zq (E:=e_bool) (z:=x1) (hO'8.sl 2 rfl) rfl rfl c'2) (Zj (zO (w:=.b (gi met x1.toNat)) (hO'8.sl 2 rfl) rfl (Zl c'2) rfl) (Zd (Zc ?_)))
    rcases Zt hp with ⟨b'3,hp⟩ | ⟨b'3,hp⟩
    ·refine zK (t:=(gi met x1.toNat)) rfl b'3 ?_
     refine Zbp (zZ (ZaJ (Zc (Zo ?_))))
     obtain ⟨c'3,hp⟩:=Zm hp
     refine Zj (zH (a:=x1) (b:=1) q'2_22 rfl c'3) (Zf (.n (x1 + 1)) rfl (Zd ?_))
     cases hp
     exact (Or.inl ⟨(l,met,x1 + 1),rfl,rfl,v'3,vs'2,q'2_0,q'2_5,q'2_6,q'2_21,rfl,(hO'8.pick [0,1,2] rfl (by decide))⟩)
    ·refine zG (t:=(gi met x1.toNat)) rfl b'3 ?_
     refine zN (Zc (Zk (Zo (Zf v_cells q'2_0 (Zf (.n x1) rfl ?_)))))
     obtain ⟨⟨x2,x3⟩,hx'2,hp⟩:=Zs hp
     obtain ⟨u'2,k'5,ca'2,v'5,v'6,rfl,hW'2⟩:=zT.ok (h:=k'4)  (hO'8.rd0 s_cells.rd) hx'2
     refine ZaN (id:=67) (caps:=[]) rfl (Zu (v:=v_cells) rfl (Zu (v:=.n x1) rfl zi)) ca'2 ?_
     have hO'9:=hO'8.call hW'2 rfl
     refine Zf (.tu [v'5,v'6]) rfl (Zj (Zbn (vs:=[v'5,v'6]) (v:=v'5) rfl rfl) (Zj (Zbn (vs:=[v'5,v'6]) (v:=v'6) rfl rfl) (Zf v'5 rfl (Zf v'6 rfl (Zd (Zc (Zk ?_)))))))
     refine Zo (zF (hO'9.bsl (E:=zd) (l:=[]) hO'9.fr (by rw [Zak]; rfl) rfl) ?_)
     rintro v'7 k'6 ⟨r'2,f'2,hW⟩
     have hO'10:=hW
     refine Zf v'7 rfl (Zd (Zc (Zk (Zk (Zo (Zf v_cells q'2_0 (Zj (Za0 (hO'10.rd0 s_cells.rd) rfl) ?_)))))))
     refine Zf (.n 0) rfl (Zd (Zc (Zas ?_)))
     obtain ⟨o'3,ho'2,hp⟩:=Zs hp
     refine W.mono (Q:=fun e fr k=>match (generalizing:=false) o'3 with
       | (met2,part1)=>e = (.exit 2)∧∃ (v'9:V),fr 0 = v_cells∧fr 5 = v'3∧fr 6 = v'2∧fr 10 = v'9∧fr 21 = .n (cells.length:Int)∧fr 22 = .n x1∧Own B h k [eSl eV v'3 vs'2,ZbI zd vs'2 l,eSl e_bool v'2 met2,eSl zd v'9 part1]) ?_ ?_
     ·clear hp
      refine zR (fun st fr k=>match st with | (met1,part,x4)=>∃ (v'8:V),fr 0 = v_cells∧fr 5 = v'3∧fr 6 = v'2∧fr 7 = .n x1∧fr 9 = v'6∧fr 10 = v'8∧fr 21 = .n (cells.length:Int)∧fr 22 = .n x1∧fr 37 = .n (cells.length:Int)∧fr 38 = .n x4∧Own B h k [eSl eV v'3 vs'2,ZbI zd vs'2 l,eSl e_bool v'2 met1,eSl zd v'6 x3,eSl zd v'8 part]) ho'2 (s:=(met,[],0)) ⟨v'7,q'2_0,q'2_5,q'2_6,rfl,rfl,rfl,q'2_21,q'2_22,rfl,rfl,(hO'10.pick [0,1,2,4,5] rfl (by decide))⟩ ?_
      rintro ⟨met1,part,x4⟩ q'4 k'8 ⟨v'8,q'4_0,q'4_5,q'4_6,q'4_7,q'4_9,q'4_10,q'4_21,q'4_22,q'4_37,q'4_38,hO'12⟩ o'4 hp
      dsimp only [zW.s1] at hp
      refine Zk (Zo (Zj (zL (a:=x4) (b:=(cells.length:Int)) q'4_38 q'4_37) (Zd (Zc (Zk ?_)))))
      rcases Zt hp with ⟨b'4,hp⟩ | ⟨b'4,hp⟩
      ·refine zK (t:=(decide (x4 < (cells.length:Int)))) rfl b'4 ?_
       refine zN (Zc (Zk (Zas (Zk (Zo (Zf (.n x4) q'4_38 (Zf (.n x4) rfl ?_)))))))
       refine Zd (Zc (Zk (Zo (Zf (.n x4) rfl (Zf (.n x1) q'4_7 (Zj (Zb2 (a:=x4) (b:=x1) rfl rfl) (Zf (.b (decide (x4 = x1))) rfl ?_)))))))
       obtain ⟨t,hv'1,hp⟩:=Zs hp
       refine ZaF 6 (fun fr' k'=>k'8 = k'∧fr' 50 = .b t∧fr' 0 = v_cells∧fr' 10 = v'8∧fr' 11 = .n x4∧fr' 21 = .n (cells.length:Int)∧fr' 22 = .n x1∧fr' 37 = .n (cells.length:Int)∧fr' 38 = .n x4∧fr' 5 = v'3∧fr' 6 = v'2∧fr' 7 = .n x1∧fr' 9 = v'6) ?_ ?_
       ·clear hp; rcases Zt hv'1 with ⟨b'5,hp⟩ | ⟨b'5,hp⟩
        ·skip
         refine Z1 rfl b'5 (Z1 rfl b'5 (Z1 rfl b'5 (Z1 rfl b'5 (Z1 rfl b'5 (Zj (zn (t:=(decide (x4 = x1))) (v:=.b t) rfl b'5 (Eq.trans (b:=V.b true) rfl (congrArg V.b (Option.some.inj hp)))) (Zd ?_))))))
         exact ⟨rfl,rfl,q'4_0,q'4_10,rfl,q'4_21,q'4_22,q'4_37,q'4_38,q'4_5,q'4_6,q'4_7,q'4_9⟩
        ·skip
         refine ZM rfl b'5 (Zf v'6 q'4_9 (ZM rfl b'5 (Zf (.n x4) rfl (ZM rfl b'5 ?_))))
         obtain ⟨c'4,hp⟩:=Zm hp
         refine Zj (zq (E:=zd) (z:=x4) (hO'12.sl 3 rfl) rfl rfl c'4) (ZM rfl b'5 (Zj (zO (w:=.n (gi x3 x4.toNat)) (hO'12.sl 3 rfl) rfl (Zl c'4) rfl) (ZM rfl b'5 (Zj (Zcy (a:=(gi x3 x4.toNat)) (b:=0) rfl rfl) (Zj (ze (t:=(decide (x4 = x1))) (v:=.b t) rfl b'5 (Eq.trans (b:=V.b (decide (0≤(gi x3 x4.toNat)))) rfl (congrArg V.b (Option.some.inj hp)))) (Zd ?_))))))
         exact ⟨rfl,rfl,q'4_0,q'4_10,rfl,q'4_21,q'4_22,q'4_37,q'4_38,q'4_5,q'4_6,q'4_7,q'4_9⟩
       rintro frg'1 _ ⟨rfl,g'1_50,g'1_0,g'1_10,g'1_11,g'1_21,g'1_22,g'1_37,g'1_38,g'1_5,g'1_6,g'1_7,g'1_9⟩
       refine Zd (Zc ?_)
       rcases Zt hp with ⟨b'6,hp⟩ | ⟨b'6,hp⟩
       ·refine zK (t:=t) g'1_50 b'6 ?_
        refine Zk (Zo (Zf v'2 g'1_6 (Zf (.n x4) g'1_11 ?_)))
        obtain ⟨c'5,hp⟩:=Zm hp
        refine Zj (zq (E:=e_bool) (z:=x4) (hO'12.sl 2 rfl) rfl rfl c'5) (zF (hO'12.ste (E:=e_bool) (y:=true) (ws:=[.b true]) 2 rfl rfl (Zl c'5) rfl rfl ⟨rfl,Nat.le_of_ble_eq_true rfl,rfl⟩ rfl) ?_)
        rintro _ k'9 ⟨rfl,f'3,m'1,hW⟩
        have hO'13:=hW
        refine Zd (Zc (Zo (Zf v'8 g'1_10 (Zf (.n x4) g'1_11 (zF (hO'13.bsl (E:=zd) (l:=[x4]) hO'13.fr (by rw [(zp (v:=.n x4) rfl Zak)]; rfl) rfl) ?_)))))
        rintro v'10 k'10 ⟨r'3,f'4,hW⟩
        have hO'14:=hW
        obtain ⟨c'6,hp⟩:=Zm hp
        refine zF (hO'14.app (E:=zd) (bytes:=8) 4 hO'14.fr rfl (hO'14.sl 5 rfl) rfl rfl (fun _=>rfl) c'6 (by decide)) ?_
        rintro v'11 k'11 ⟨f'5,hW⟩
        have hO'15:=hW
        refine Zf v'11 rfl (Zd (Zan (Zc (Zo ?_))))
        obtain ⟨c'7,hp⟩:=Zm hp
        refine Zj (zH (a:=x4) (b:=1) g'1_38 rfl c'7) (Zf (.n (x4 + 1)) rfl (Zd ?_))
        cases hp
        exact (Or.inl ⟨(met1.set x4.toNat true,part++[x4],x4 + 1),rfl,rfl,v'11,g'1_0,g'1_5,g'1_6,g'1_7,g'1_9,rfl,g'1_21,g'1_22,g'1_37,rfl,(hO'15.pick [0,1,2,3,4] rfl (by decide))⟩)
       ·refine zG (t:=t) g'1_50 b'6 ?_
        refine zN (Zan (Zc (Zo ?_)))
        obtain ⟨c'8,hp⟩:=Zm hp
        refine Zj (zH (a:=x4) (b:=1) g'1_38 rfl c'8) (Zf (.n (x4 + 1)) rfl (Zd ?_))
        cases hp
        exact (Or.inl ⟨(met1,part,x4 + 1),rfl,rfl,v'8,g'1_0,g'1_5,g'1_6,g'1_7,g'1_9,g'1_10,g'1_21,g'1_22,g'1_37,rfl,(hO'12.pick [0,1,2,3,4] rfl (by decide))⟩)
      ·refine zG (t:=(decide (x4 < (cells.length:Int)))) rfl b'4 ?_
       refine Zbp (zZ ?_)
       cases hp
       refine (Or.inr ⟨(met1,part),rfl,(fun h=>nomatch h),(fun he=>?_)⟩)
       subst he; exact ⟨rfl,v'8,q'4_0,q'4_5,q'4_6,q'4_10,q'4_21,q'4_22,(hO'12.pick [0,1,2,4] rfl (by decide))⟩
     intro e'2 q'3 k'7 hJ'2
     obtain ⟨met2,part1⟩:=o'3
     obtain ⟨rfl,v'9,q'3_0,q'3_5,q'3_6,q'3_10,q'3_21,q'3_22,hO'11⟩:=hJ'2
     refine ZaJ (Zc (Zo (Zf v'3 q'3_5 (Zf v'9 q'3_10 (zF (hO'11.bsl (E:=eV) (l:=[v'9]) hO'11.fr (by rw [(zp (v:=v'9) rfl Zak)]; simp only [fill,(hO'11.sl 3 rfl).cells]; simp [over]) rfl) ?_)))))
     rintro v'12 k'12 ⟨r'4,f'6,hW⟩
     have hO'16:=hW
     obtain ⟨c'9,hp⟩:=Zm hp
     refine zF (hO'16.appV (bytes:=24) 0 hO'16.fr rfl (hO'16.sl 4 rfl) rfl rfl (by simp only [List.all_cons,List.all_nil,Bool.and_true]; exact (hO'16.sl 3 rfl).oneV) (by rw [(hO'16.allLen 1 rfl:(vs'2).length = (l).length)]; exact c'9) (by decide)) ?_
     rintro v'13 k'13 ⟨f'7,hW⟩
     have hO'17:=hW
     have hO'18:=hO'17.absorb 1 3 rfl rfl (by decide)
     refine Zf v'13 rfl (Zd (Zan (Zc (Zo ?_))))
     obtain ⟨c'10,hp⟩:=Zm hp
     refine Zj (zH (a:=x1) (b:=1) q'3_22 rfl c'10) (Zf (.n (x1 + 1)) rfl (Zd ?_))
     cases hp
     exact (Or.inl ⟨(l++[part1],met2,x1 + 1),rfl,rfl,v'13,vs'2++[v'9],q'3_0,rfl,q'3_6,q'3_21,rfl,(hO'18.pick [0,1,2] rfl (by decide))⟩)
   ·refine zG (t:=(decide (x1 < (cells.length:Int)))) rfl b'2 ?_
    refine Zbp (zZ ?_)
    cases hp
    refine (Or.inr ⟨l,rfl,(fun h=>nomatch h),(fun he=>?_)⟩)
    subst he; exact ⟨rfl,v'3,vs'2,q'2_5,(hO'8.pick [0,1] rfl (by decide))⟩
  intro e'1 q'1 k'3 hJ'1
  obtain ⟨l1,rfl⟩:∃ x,x = o'1:=⟨_,rfl⟩
  obtain ⟨rfl,v'4,vs'3,q'1_5,hO'5⟩:=hJ'1
  refine ZaJ (Zc (Zk (Zo (Zf v'4 q'1_5 (Zf v'4 rfl (Zf (.n 0) rfl (Zd ?_)))))))
  refine Zc (zY (zx (zC (n:=2) (v:=v'4) rfl (zC (n:=3) (v:=.n 0) rfl ZS)) ?_))
  cases hp
  exact ⟨v'4,vs'3,rfl,(hO'5.pick [0,1] rfl (by decide))⟩

theorem ZbF.ok {h:Hp} {cells:List Za} {v_cells:V} (s_cells:Sl Zi h v_cells cells) {r:Bool} (hp:ZbF cells = some r) :
  ∃ u k',Is G 32 [v_cells] h u k'∧V.b r = u∧Own (fun r=>r < h.n) h k' []:=by
 refine WC.is (Za7 Zeb ?_)
 unfold ZbF at hp
 let B:Nat→Prop:=(fun r=>r < h.n)
 have hO:Own B h h []:=Own.start0 h
 refine Zk (Zo (Zf (.b false) rfl (Zd (Zc (Zk (Zo (Zf v_cells rfl ?_)))))))
 obtain ⟨⟨x,x1⟩,hx'1,hp⟩:=Zs hp
 obtain ⟨u'1,k'1,ca'1,v'1,vs'1,rfl,hW'1⟩:=zW.ok (h:=h)  (hO.rd0 s_cells.rd) hx'1
 refine ZaN (id:=29) (caps:=[]) rfl (Zu (v:=v_cells) rfl zi) ca'1 ?_
 have hO'1:=hO.call hW'1 rfl
 refine Zf (.tu [v'1,.n x1]) rfl (Zj (Zbn (vs:=[v'1,.n x1]) (v:=v'1) rfl rfl) (Zj (Zbn (vs:=[v'1,.n x1]) (v:=.n x1) rfl rfl) (Zf v'1 rfl (Zf (.n x1) rfl (Zd (Zc (Zk ?_)))))))
 refine Zo (Zf (.n x1) rfl (Zj (Zb2 (a:=x1) (b:=0) rfl rfl) (Zf (.b (decide (x1 = 0))) rfl ?_)))
 refine ZaF 4 (fun fr' k'=>k'1 = k'∧fr' 16 = .b ((decide (x1 = 0)) && (decide ((x.length:Int) = 1)))) ?_ ?_
 ·rcases bc (decide (x1 = 0)) with b'1 | b'1
  ·skip
   refine ZM rfl b'1 (Zf v'1 rfl (ZM rfl b'1 (Zj (ZeQ (n:=(x).length) (hO'1.sl 0 rfl) (hO'1.allLen 1 rfl:(vs'1).length = (x).length) rfl) (ZM rfl b'1 (Zj (Zb2 (a:=(x.length:Int)) (b:=1) rfl rfl) (Zj (zn (t:=(decide (x1 = 0))) (v:=.b ((decide (x1 = 0)) && (decide ((x.length:Int) = 1)))) rfl b'1 (Eq.trans (b:=V.b (decide ((x.length:Int) = 1))) rfl (Zf5 b'1))) (Zd ?_)))))))
   exact ⟨rfl,rfl⟩
  ·skip
   refine Z1 rfl b'1 (Z1 rfl b'1 (Z1 rfl b'1 (Zj (ze (t:=(decide (x1 = 0))) (v:=.b ((decide (x1 = 0)) && (decide ((x.length:Int) = 1)))) rfl b'1 (Eq.trans (b:=V.b false) rfl (ZeA b'1))) (Zd ?_))))
   exact ⟨rfl,rfl⟩
 rintro frg'1 _ ⟨rfl,g'1_16⟩
 refine Zf (.b ((decide (x1 = 0)) && (decide ((x.length:Int) = 1)))) g'1_16 (Zd (Zc (zY (zx (zC (n:=2) (v:=.b ((decide (x1 = 0)) && (decide ((x.length:Int) = 1)))) rfl ZS) ?_))))
 cases hp
 exact ⟨rfl,(hO'1.pick [] rfl (by decide))⟩

theorem Za4.ok {h:Hp} {d:Zq} {cells:List Za} {v_cells:V} (s_cells:Sl Zi h v_cells cells) {r:Bool} (hp:Za4 d cells = some r) :
  ∃ u k',Is G 220 [.ag (Zg.c d),v_cells] h u k'∧V.b r = u∧Own (fun r=>r < h.n) h k' []:=by
 refine WC.is (Za7 Zd0 ?_)
 unfold Za4 at hp
 let B:Nat→Prop:=(fun r=>r < h.n)
 have hO:Own B h h []:=Own.start0 h
 refine Zk (Zo (zF (hO.boxd (v:=.ag (Zg.c d)) (cs:=Zg.c d) hO.fr rfl rfl) ?_))
 rintro _ k'1 ⟨r'1,rfl,n'1,f'1,hW⟩
 have hO'1:=hW
 refine Zf (.b false) rfl (Zd (Zc (Zk (Zfj ?_))))
 have hW:=hO'1.bump 28
 have fr'1:=Fresh.start k'1 28
 have nb'1:∀ {i:Nat},h.n≤k'1.n + i:=Nat.le_trans hO'1.n (Nat.le_add_right _ _)
 have hO'2:=hW
 refine zm (Zaz (r:=r'1) (o:=0) (o':=0) rfl rfl) (zm (zV (cs:=(Zg.c d)) (v:=.n d.Cell) (hO'2.box 0 rfl) rfl rfl) (zm (Zcy (a:=d.Cell) (b:=0) rfl rfl) (ZaK (.b (decide (0≤d.Cell))) rfl ?_)))
 rcases Zt hp with ⟨b'1,hp⟩ | ⟨b'1,hp⟩
 ·skip
  refine Zbv rfl b'1 (zm (Zaz (r:=r'1) (o:=0) (o':=0) rfl rfl) (Zbv rfl b'1 (zm (zV (cs:=(Zg.c d)) (v:=.n d.Cell) (hO'2.box 0 rfl) rfl rfl) (Zbv rfl b'1 (ZaK v_cells rfl (Zbv rfl b'1 (zm (Za0 (hO'2.rd0 s_cells.rd) rfl) ?_)))))))
  refine Zbv rfl b'1 (zm (zL (a:=d.Cell) (b:=(cells.length:Int)) rfl rfl) (zm (zn (t:=(decide (0≤d.Cell))) (v:=.b (decide (d.Cell < (cells.length:Int)))) rfl b'1 rfl) (ZaK (.b (decide (d.Cell < (cells.length:Int)))) rfl ?_)))
  rcases Zt hp with ⟨b'2,hp⟩ | ⟨b'2,hp⟩
  ·skip
   refine Zbv rfl b'2 (zm (Zaz (r:=r'1) (o:=0) (o':=1) rfl rfl) (Zbv rfl b'2 (zm (zV (cs:=(Zg.c d)) (v:=.n d.Dir) (hO'2.box 0 rfl) rfl rfl) (Zbv rfl b'2 ?_))))
   obtain ⟨x,hx'1,hp⟩:=Zs hp
   obtain ⟨u'1,k'3,ca'1,rfl,hW'1⟩:=Za2.ok (h:=(k'1.bump 28))   hx'1
   refine Zhc (id:=90) (caps:=[]) rfl (Zu (v:=.n d.Dir) rfl zi) ca'1 ?_
   have fr'2:=fr'1.call hW'1
   have hO'3:=hO'2.call hW'1 rfl
   refine zm (zn (t:=(decide (d.Cell < (cells.length:Int)))) (v:=.b x) rfl b'2 rfl) (ZaK (.b x) rfl ?_)
   rcases Zt hp with ⟨b'3,hp⟩ | ⟨b'3,hp⟩
   ·skip
    refine Zbv rfl b'3 (ZaK v_cells rfl (Zbv rfl b'3 (zm (Zaz (r:=r'1) (o:=0) (o':=0) rfl rfl) (Zbv rfl b'3 (zm (zV (cs:=(Zg.c d)) (v:=.n d.Cell) (hO'3.box 0 rfl) rfl rfl) (Zbv rfl b'3 (zm (Zaz (r:=r'1) (o:=0) (o':=1) rfl rfl) ?_)))))))
    refine Zbv rfl b'3 (zm (zV (cs:=(Zg.c d)) (v:=.n d.Dir) (hO'3.box 0 rfl) rfl rfl) (Zbv rfl b'3 ?_))
    obtain ⟨c'1,hp⟩:=Zm hp
    refine zm (zq (E:=Zi) (z:=d.Cell) (hO'3.rd0 s_cells.rd) rfl rfl c'1) (Zbv rfl b'3 (zm (Zax (off':=0) (off2:=0) (hO'3.rd0 s_cells.rd) (Zl c'1) rfl rfl) (Zbv rfl b'3 ?_)))
    obtain ⟨c'2,hp⟩:=Zm hp
    refine zm (Zb3 (off:=0) (off2:=(0 + (d.Dir:Int).toNat * 1)) (z:=d.Dir) (hO'3.rd0 s_cells.rd) (Zl c'1) rfl rfl c'2 rfl) (Zbv rfl b'3 (zm (zO (w:=.n (((gi cells (d.Cell:Int).toNat).Next).get d.Dir)) (hO'3.rd0 s_cells.rd) rfl (Zl c'1) (zI c'2)) (Zbv rfl b'3 (zm (Zcy (a:=(((gi cells (d.Cell:Int).toNat).Next).get d.Dir)) (b:=0) rfl rfl) (zm (zn (t:=x) (v:=.b (decide (0≤(((gi cells (d.Cell:Int).toNat).Next).get d.Dir)))) rfl b'3 rfl) (ZaK (.b (decide (0≤(((gi cells (d.Cell:Int).toNat).Next).get d.Dir)))) rfl (ZbZ ?_)))))))
    refine And.intro ?_ ?_
    ·intro q hq
     simp only [List.mem_cons,List.not_mem_nil,or_false] at hq
     rcases hq with rfl
     ·refine Za8 ?_ ?_
      ·exact (fun h=>nomatch h)
      ·exact (fun h=>nomatch h)
    refine Zc (zY (zx (zC (n:=4) (v:=.b (decide (0≤(((gi cells (d.Cell:Int).toNat).Next).get d.Dir)))) rfl ZS) ?_))
    cases hp
    exact ⟨rfl,(hO'3.pick [] rfl (by decide))⟩
   ·skip
    refine zQ rfl b'3 (zQ rfl b'3 (zQ rfl b'3 (zQ rfl b'3 (zQ rfl b'3 (zQ rfl b'3 (zQ rfl b'3 (zQ rfl b'3 ?_)))))))
    refine zQ rfl b'3 (zQ rfl b'3 (zm (ze (t:=x) (v:=.b false) rfl b'3 rfl) (ZaK (.b false) rfl (ZbZ ?_))))
    refine And.intro ?_ ?_
    ·intro q hq
     simp only [List.mem_cons,List.not_mem_nil,or_false] at hq
     rcases hq with rfl
     ·exact Zd1
    refine Zc (zY (zx (zC (n:=4) (v:=.b false) rfl ZS) ?_))
    cases hp
    exact ⟨rfl,(hO'3.pick [] rfl (by decide))⟩
  ·skip
   refine zQ rfl b'2 (zQ rfl b'2 (zQ rfl b'2 (zm (ze (t:=(decide (d.Cell < (cells.length:Int)))) (v:=.b false) rfl b'2 rfl) (ZaK (.b false) rfl (zQ rfl rfl (zQ rfl rfl (zQ rfl rfl ?_)))))))
   refine zQ rfl rfl (zQ rfl rfl (zQ rfl rfl (zQ rfl rfl (zQ rfl rfl (zQ rfl rfl (zQ rfl rfl (zm (ze (t:=false) (v:=.b false) rfl rfl rfl) ?_)))))))
   refine ZaK (.b false) rfl (ZbZ ?_)
   refine And.intro ?_ ?_
   ·intro q hq
    simp only [List.mem_cons,List.not_mem_nil,or_false] at hq
    rcases hq with rfl
    ·exact Zd1
   refine Zc (zY (zx (zC (n:=4) (v:=.b false) rfl ZS) ?_))
   cases hp
   exact ⟨rfl,(hO'2.pick [] rfl (by decide))⟩
 ·skip
  refine zQ rfl b'1 (zQ rfl b'1 (zQ rfl b'1 (zQ rfl b'1 (zQ rfl b'1 (zm (ze (t:=(decide (0≤d.Cell))) (v:=.b false) rfl b'1 rfl) (ZaK (.b false) rfl (zQ rfl rfl ?_)))))))
  refine zQ rfl rfl (zQ rfl rfl (zm (ze (t:=false) (v:=.b false) rfl rfl rfl) (ZaK (.b false) rfl (zQ rfl rfl (zQ rfl rfl (zQ rfl rfl (zQ rfl rfl ?_)))))))
  refine zQ rfl rfl (zQ rfl rfl (zQ rfl rfl (zQ rfl rfl (zQ rfl rfl (zQ rfl rfl (zm (ze (t:=false) (v:=.b false) rfl rfl rfl) (ZaK (.b false) rfl ?_)))))))
  refine ZbZ ?_
  refine And.intro ?_ ?_
  ·intro q hq
   simp only [List.mem_cons,List.not_mem_nil,or_false] at hq
   rcases hq with rfl
   ·exact Zd1
  refine Zc (zY (zx (zC (n:=4) (v:=.b false) rfl ZS) ?_))
  cases hp
  exact ⟨rfl,(hO'2.pick [] rfl (by decide))⟩

theorem z4.ok {h:Hp} {d:Zq} {cells:List Za} {v_cells:V} (s_cells:Sl Zi h v_cells cells) {r:Zq} (hp:z4 d cells = some r) :
  ∃ u k',Is G 221 [.ag (Zg.c d),v_cells] h u k'∧V.ag (Zg.c r) = u∧Own (fun r=>r < h.n) h k' []:=by
 refine WC.is (Za7 ZcG ?_)
 unfold z4 at hp
 let B:Nat→Prop:=(fun r=>r < h.n)
 have hO:Own B h h []:=Own.start0 h
 refine Zk (Zo (zF (hO.boxd (v:=.ag (Zg.c d)) (cs:=Zg.c d) hO.fr rfl rfl) ?_))
 rintro _ k'1 ⟨r'1,rfl,n'1,f'1,hW⟩
 have hO'1:=hW
 refine zF (hO'1.alloc (cs:=Zg.c (⟨0,0⟩:Zq)) hO'1.fr) ?_
 rintro _ k'2 ⟨r'2,rfl,n'2,f'2,hW⟩
 have hO'2:=hW
 refine Zd (Zc (Zk (Zh5 ?_)))
 have hW:=hO'2.bump 10
 have hO'3:=hW
 refine Zap v_cells rfl (ZU rfl (Zaz (r:=r'1) (o:=0) (o':=0) rfl rfl) (ZU rfl (zV (cs:=(Zg.c d)) (v:=.n d.Cell) (hO'3.box 0 rfl) rfl rfl) (ZU rfl (Zaz (r:=r'1) (o:=0) (o':=1) rfl rfl) (ZU rfl (zV (cs:=(Zg.c d)) (v:=.n d.Dir) (hO'3.box 0 rfl) rfl rfl) ?_))))
 obtain ⟨c'1,hp⟩:=Zm hp
 refine ZU rfl (zq (E:=Zi) (z:=d.Cell) (hO'3.rd0 s_cells.rd) rfl rfl c'1) (ZU rfl (Zax (off':=0) (off2:=0) (hO'3.rd0 s_cells.rd) (Zl c'1) rfl rfl) ?_)
 obtain ⟨c'2,hp⟩:=Zm hp
 refine ZU rfl (Zb3 (off:=0) (off2:=(0 + (d.Dir:Int).toNat * 1)) (z:=d.Dir) (hO'3.rd0 s_cells.rd) (Zl c'1) rfl rfl c'2 rfl) (ZU rfl (zO (w:=.n (((gi cells (d.Cell:Int).toNat).Next).get d.Dir)) (hO'3.rd0 s_cells.rd) rfl (Zl c'1) (zI c'2)) (Zap (.n (((gi cells (d.Cell:Int).toNat).Next).get d.Dir)) rfl (Zab (Zc (Zk (Zk (Zo ?_)))))))
 refine Zj (Zbh (cs:=ZbO.c (⟨1,0,(-1),2⟩:A4 Int)) (by rw [(zp (v:=.n 1) rfl (zp (v:=.n 0) rfl (zp (v:=.n (-1)) rfl (zp (v:=.n 2) rfl Zak))))]; rfl)) (Zf (.n 0) rfl (Zd (Zc (Zas ?_))))
 obtain ⟨o'1,ho'1,hp⟩:=Zs hp
 refine W.mono (Q:=fun e fr k=>match (generalizing:=false) o'1 with
   | .inl _=>e = (.exit 0)∧fr 2 = .p r'1 0∧fr 4 = .p r'2 0∧Own B h k [Zbw r'1 (Zg.c d),Zbw r'2 (Zg.c (⟨0,0⟩:Zq))]
   | .inr x1=>e = .ret∧fr 4 = .p r'2 0∧Own B h k [Zbw r'2 (Zg.c x1)]) ?_ ?_
 ·clear hp
  refine zR (fun st fr k=>match st with | x=>fr 1 = v_cells∧fr 2 = .p r'1 0∧fr 4 = .p r'2 0∧fr 5 = .n (((gi cells (d.Cell:Int).toNat).Next).get d.Dir)∧fr 18 = .ag (ZbO.c (⟨1,0,(-1),2⟩:A4 Int))∧fr 19 = .n x∧Own B h k [Zbw r'1 (Zg.c d),Zbw r'2 (Zg.c (⟨0,0⟩:Zq))]) ho'1 (s:=0) ⟨rfl,rfl,rfl,rfl,rfl,rfl,(hO'3.pick [0,1] rfl (by decide))⟩ ?_
  rintro x q'2 k'5 ⟨q'2_1,q'2_2,q'2_4,q'2_5,q'2_18,q'2_19,hO'5⟩ o'2 hp
  dsimp only [z4.s0] at hp
  refine Zk (Zo (Zj (zL (a:=x) (b:=4) q'2_19 rfl) (Zd (Zc (Zk ?_)))))
  rcases Zt hp with ⟨b'1,hp⟩ | ⟨b'1,hp⟩
  ·refine zK (t:=(decide (x < 4))) rfl b'1 ?_
   refine zN (Zc (Zk (Zas (Zk (Zo ?_)))))
   obtain ⟨c'3,hp⟩:=Zm hp
   refine Zj (Zmw (cs:=ZbO.c (⟨1,0,(-1),2⟩:A4 Int)) (z:=x) (v:=.n ((⟨1,0,(-1),2⟩:A4 Int).get x)) q'2_18 q'2_19 c'3 (Zgr c'3)) (Zf (.n ((⟨1,0,(-1),2⟩:A4 Int).get x)) rfl (Zd (Zc (Zk (Zo (Zf (.n (((gi cells (d.Cell:Int).toNat).Next).get d.Dir)) q'2_5 (Zj (Zaz (r:=r'1) (o:=0) (o':=1) q'2_2 rfl) ?_)))))))
   refine Zj (zV (cs:=(Zg.c d)) (v:=.n d.Dir) (hO'5.box 0 rfl) rfl rfl) (Zf (.n ((⟨1,0,(-1),2⟩:A4 Int).get x)) rfl ?_)
   obtain ⟨x2,hx'1,hp⟩:=Zs hp
   obtain ⟨u'1,k'6,ca'1,rfl,hW'1⟩:=Za3.ok (h:=k'5)   hx'1
   refine ZaN (id:=77) (caps:=[]) rfl (Zu (v:=.n d.Dir) rfl (Zu (v:=.n ((⟨1,0,(-1),2⟩:A4 Int).get x)) rfl zi)) ca'1 ?_
   have hO'6:=hO'5.call hW'1 rfl
   refine Zj (Zbh (cs:=Zg.c (⟨((gi cells (d.Cell:Int).toNat).Next).get d.Dir,x2⟩:Zq)) (by rw [(zp (v:=.n (((gi cells (d.Cell:Int).toNat).Next).get d.Dir)) rfl (zp (v:=.n x2) rfl Zak))]; rfl)) (zF (hO'6.alloc (cs:=Zg.c (⟨0,0⟩:Zq)) hO'6.fr) ?_)
   rintro _ k'7 ⟨r'3,rfl,n'3,f'3,hW⟩
   have hO'7:=hW
   refine zF (hO'7.stb (ws:=Zg.c (⟨((gi cells (d.Cell:Int).toNat).Next).get d.Dir,x2⟩:Zq)) (cs':=Zg.c (⟨((gi cells (d.Cell:Int).toNat).Next).get d.Dir,x2⟩:Zq)) (v:=.ag (Zg.c (⟨((gi cells (d.Cell:Int).toNat).Next).get d.Dir,x2⟩:Zq))) 2 rfl rfl rfl rfl ⟨rfl,Nat.le_of_ble_eq_true rfl,rfl⟩ rfl) ?_
   rintro _ k'8 ⟨rfl,f'4,m'1,hW⟩
   have hO'8:=hW
   refine Zd (Zc (Zk (Zo (Zj (Zbe (cs:=(Zg.c (⟨((gi cells (d.Cell:Int).toNat).Next).get d.Dir,x2⟩:Zq))) (ws:=Zg.c (⟨((gi cells (d.Cell:Int).toNat).Next).get d.Dir,x2⟩:Zq)) (hO'8.box 2 rfl) rfl rfl) (Zf v_cells q'2_1 ?_)))))
   obtain ⟨x3,hx'2,hp⟩:=Zs hp
   obtain ⟨u'2,k'9,ca'2,rfl,hW'2⟩:=Za4.ok (h:=k'8)  (hO'8.rd0 s_cells.rd) hx'2
   refine ZaN (id:=220) (caps:=[]) rfl (Zu (v:=.ag (Zg.c (⟨((gi cells (d.Cell:Int).toNat).Next).get d.Dir,x2⟩:Zq))) rfl (Zu (v:=v_cells) rfl zi)) ca'2 ?_
   have hO'9:=hO'8.call hW'2 rfl
   refine Zd (Zc ?_)
   rcases Zt hp with ⟨b'2,hp⟩ | ⟨b'2,hp⟩
   ·refine zK (t:=x3) rfl b'2 ?_
    refine Zk (Zo (Zj (Zbe (cs:=(Zg.c (⟨((gi cells (d.Cell:Int).toNat).Next).get d.Dir,x2⟩:Zq))) (ws:=Zg.c (⟨((gi cells (d.Cell:Int).toNat).Next).get d.Dir,x2⟩:Zq)) (hO'9.box 2 rfl) rfl rfl) (zF (hO'9.stb (ws:=Zg.c (⟨((gi cells (d.Cell:Int).toNat).Next).get d.Dir,x2⟩:Zq)) (cs':=Zg.c (⟨((gi cells (d.Cell:Int).toNat).Next).get d.Dir,x2⟩:Zq)) (v:=.ag (Zg.c (⟨((gi cells (d.Cell:Int).toNat).Next).get d.Dir,x2⟩:Zq))) 1 rfl q'2_4 rfl rfl ⟨rfl,Nat.le_of_ble_eq_true rfl,rfl⟩ rfl) ?_)))
    rintro _ k'10 ⟨rfl,f'5,m'2,hW⟩
    have hO'10:=hW
    refine Zd (Zc (zY (Zbd (z5 ?_))))
    cases hp
    refine (Or.inr ⟨(.inr (⟨((gi cells (d.Cell:Int).toNat).Next).get d.Dir,x2⟩:Zq)),rfl,(fun h=>nomatch h),(fun he=>?_)⟩)
    subst he; exact ⟨rfl,q'2_4,(hO'10.pick [1] rfl (by decide))⟩
   ·refine zG (t:=x3) rfl b'2 ?_
    refine zN (Zan (Zc (Zo ?_)))
    obtain ⟨c'4,hp⟩:=Zm hp
    refine Zj (zH (a:=x) (b:=1) q'2_19 rfl c'4) (Zf (.n (x + 1)) rfl (Zd ?_))
    cases hp
    exact (Or.inl ⟨x + 1,rfl,rfl,q'2_1,q'2_2,q'2_4,q'2_5,q'2_18,rfl,(hO'9.pick [0,1] rfl (by decide))⟩)
  ·refine zG (t:=(decide (x < 4))) rfl b'1 ?_
   refine Zbp (zZ ?_)
   cases hp
   refine (Or.inr ⟨.inl (),rfl,(fun h=>nomatch h),(fun he=>?_)⟩)
   subst he; exact ⟨rfl,q'2_2,q'2_4,(hO'5.pick [0,1] rfl (by decide))⟩
 intro e'1 q'1 k'4 hJ'1
 rcases o'1 with _ | x1
 ·obtain ⟨rfl,q'1_2,q'1_4,hO'4⟩:=hJ'1
  refine ZaJ (Zc (Zk (Zo (Zj (Zbe (cs:=(Zg.c d)) (ws:=Zg.c d) (hO'4.box 0 rfl) q'1_2 rfl) (zF (hO'4.stb (ws:=Zg.c d) (cs':=Zg.c d) (v:=.ag (Zg.c d)) 1 rfl q'1_4 rfl rfl ⟨rfl,Nat.le_of_ble_eq_true rfl,rfl⟩ rfl) ?_)))))
  rintro _ k'11 ⟨rfl,f'6,m'3,hW⟩
  have hO'11:=hW
  refine Zd (Zc (zY (zx (ZiP (n:=4) (v:=.ag (Zg.c d)) (r:=r'2) q'1_4 (hO'11.box 1 rfl) rfl ZS) ?_)))
  cases hp
  exact ⟨rfl,(hO'11.pick [] rfl (by decide))⟩
 ·obtain ⟨rfl,q'1_4,hO'4⟩:=hJ'1
  refine Zbd (z5 (zx (ZiP (n:=4) (v:=.ag (Zg.c x1)) (r:=r'2) q'1_4 (hO'4.box 0 rfl) rfl ZS) ?_))
  cases hp
  exact ⟨rfl,(hO'4.pick [] rfl (by decide))⟩

theorem z9.ok {h:Hp} {cells:List Za} {v_cells:V} (s_cells:Sl Zi h v_cells cells) {r:(List (List Zq)) × Int} (hp:z9 cells = some r) :
  ∃ u k',Is G 203 [v_cells] h u k'∧∃ (v'1:V),∃ (vs'1:List V),V.tu [v'1,.n r.2] = u∧Own (fun r=>r < h.n) h k' [eSl eV v'1 vs'1,ZbI Zg vs'1 r.1]:=by
 refine WC.is (Za7 ZdX ?_)
 unfold z9 at hp
 let B:Nat→Prop:=(fun r=>r < h.n)
 have hO:Own B h h []:=Own.start0 h
 refine Zk (Zo (Zf (.sn) rfl (Zf (.n 0) rfl (Zd (Zc (Zk (Zk ?_)))))))
 refine Zo (Zf v_cells rfl ?_)
 obtain ⟨x,hx'1,hp⟩:=Zs hp
 obtain ⟨u'1,k'1,ca'1,rfl,hW'1⟩:=zg.ok (h:=h)  (hO.rd0 s_cells.rd) hx'1
 refine ZaN (id:=66) (caps:=[]) rfl (Zu (v:=v_cells) rfl zi) ca'1 ?_
 have hO'1:=hO.call hW'1 rfl
 refine Zf (.n x) rfl (Zd (Zc (Zk (Zo (Zf (.n x) rfl (Zj (ZcM (a:=x) (b:=0) rfl rfl) (Zd ?_)))))))
 refine Zc ?_
 rcases Zt hp with ⟨b'1,hp⟩ | ⟨b'1,hp⟩
 ·refine zK (t:=(!(decide (x = 0)))) rfl b'1 ?_
  refine Zk (Zo (Zf (.n x) rfl (Zf (.sn) rfl (Zf (.n x) rfl (Zd (Zc (zY ?_)))))))
  refine z5 ?_
  have hO'2:=hO'1.nil eV
  have hO'3:=hO'2.allNil Zg 0
  refine zx (zC (n:=2) (v:=.sn) rfl (zC (n:=3) (v:=.n x) rfl ZS)) ?_
  cases hp
  exact ⟨V.sn,[],rfl,(hO'3.pick [0,1] rfl (by decide))⟩
 ·refine zG (t:=(!(decide (x = 0)))) rfl b'1 ?_
  refine zN (Zc (Zk (Zo (Zf (.sn) rfl (Zd (Zc (Zk ?_)))))))
  refine Zo (zF (hO'1.mkm Zg hO'1.fr) ?_)
  rintro _ k'2 ⟨r'1,rfl,n'1,f'1,hW⟩
  have hO'4:=hW
  refine Zf (.mp r'1) rfl (Zd (Zc (Zk (Zk (Zo (Zf v_cells rfl (Zj (Za0 (hO'4.rd0 s_cells.rd) rfl) ?_)))))))
  refine Zf (.n 0) rfl (Zd (Zc (Zas ?_)))
  obtain ⟨o'1,ho'1,hp⟩:=Zs hp
  refine W.mono (Q:=fun e fr k=>match (generalizing:=false) o'1 with
    | l1=>e = (.exit 0)∧∃ (v'3:V),∃ (vs'3:List V),fr 5 = v'3∧Own B h k [eSl eV v'3 vs'3,ZbI Zg vs'3 l1]) ?_ ?_
  ·clear hp
   have hO'6:=hO'4.nil eV
   have hO'7:=hO'6.allNil Zg 0
   refine zR (fun st fr k=>match st with | (l,met,x1)=>∃ (v'2:V),∃ (vs'2:List V),fr 0 = v_cells∧fr 5 = v'2∧fr 6 = .mp r'1∧fr 19 = .n (cells.length:Int)∧fr 20 = .n x1∧Own B h k [eSl eV v'2 vs'2,ZbI Zg vs'2 l,eMp Zg r'1 met]) ho'1 (s:=(([]:List (List Zq)),([]:List (Zq × Bool)),0)) ⟨V.sn,[],rfl,rfl,rfl,rfl,rfl,(hO'7.pick [1,2,0] rfl (by decide))⟩ ?_
   rintro ⟨l,met,x1⟩ q'2 k'4 ⟨v'2,vs'2,q'2_0,q'2_5,q'2_6,q'2_19,q'2_20,hO'8⟩ o'2 hp
   dsimp only [z9.s0] at hp
   refine Zk (Zo (Zj (zL (a:=x1) (b:=(cells.length:Int)) q'2_20 q'2_19) (Zd (Zc (Zk ?_)))))
   rcases Zt hp with ⟨b'2,hp⟩ | ⟨b'2,hp⟩
   ·refine zK (t:=(decide (x1 < (cells.length:Int)))) rfl b'2 ?_
    refine zN (Zc (Zk (Zas (Zk (Zo (Zf (.n x1) q'2_20 (Zf (.n x1) rfl ?_)))))))
    refine Zd (Zc (Zk (Zo (Zf (.n 0) rfl (Zd (Zc (Zas ?_)))))))
    obtain ⟨o'3,ho'2,hp⟩:=Zs hp
    refine W.mono (Q:=fun e fr k=>match (generalizing:=false) o'3 with
      | (l3,met2)=>e = (.exit 2)∧∃ (v'5:V),∃ (vs'5:List V),fr 0 = v_cells∧fr 5 = v'5∧fr 6 = .mp r'1∧fr 19 = .n (cells.length:Int)∧fr 20 = .n x1∧Own B h k [eSl eV v'5 vs'5,ZbI Zg vs'5 l3,eMp Zg r'1 met2]) ?_ ?_
    ·clear hp
     refine zR (fun st fr k=>match st with | (l2,met1,x2)=>∃ (v'4:V),∃ (vs'4:List V),fr 0 = v_cells∧fr 5 = v'4∧fr 6 = .mp r'1∧fr 7 = .n x1∧fr 19 = .n (cells.length:Int)∧fr 20 = .n x1∧fr 23 = .n x2∧Own B h k [eSl eV v'4 vs'4,ZbI Zg vs'4 l2,eMp Zg r'1 met1]) ho'2 (s:=(l,met,0)) ⟨v'2,vs'2,q'2_0,q'2_5,q'2_6,rfl,q'2_19,q'2_20,rfl,(hO'8.pick [0,1,2] rfl (by decide))⟩ ?_
     rintro ⟨l2,met1,x2⟩ q'4 k'6 ⟨v'4,vs'4,q'4_0,q'4_5,q'4_6,q'4_7,q'4_19,q'4_20,q'4_23,hO'10⟩ o'4 hp
     dsimp only [z9.s1] at hp
     refine Zk (Zo (Zj (zL (a:=x2) (b:=4) q'4_23 rfl) (Zd (Zc (Zk ?_)))))
     rcases Zt hp with ⟨b'3,hp⟩ | ⟨b'3,hp⟩
     ·refine zK (t:=(decide (x2 < 4))) rfl b'3 ?_
      refine zN (Zc (Zk (Zas (Zk (Zo (Zf (.n x2) q'4_23 (Zf (.n x2) rfl ?_)))))))
      refine Zd (Zc (Zk (Zo (Zf (.n x1) q'4_7 (Zf (.n x2) rfl (Zj (Zbh (cs:=Zg.c (⟨x1,x2⟩:Zq)) (by rw [(zp (v:=.n x1) rfl (zp (v:=.n x2) rfl Zak))]; rfl)) (zF (hO'10.alloc (cs:=Zg.c (⟨0,0⟩:Zq)) hO'10.fr) ?_)))))))
      rintro _ k'7 ⟨r'2,rfl,n'2,f'2,hW⟩
      have hO'11:=hW
      refine zF (hO'11.stb (ws:=Zg.c (⟨x1,x2⟩:Zq)) (cs':=Zg.c (⟨x1,x2⟩:Zq)) (v:=.ag (Zg.c (⟨x1,x2⟩:Zq))) 3 rfl rfl rfl rfl ⟨rfl,Nat.le_of_ble_eq_true rfl,rfl⟩ rfl) ?_
      rintro _ k'8 ⟨rfl,f'3,m'1,hW⟩
      have hO'12:=hW
      refine Zd (Zc (Zk (Zk (Zo (Zj (Zbe (cs:=(Zg.c (⟨x1,x2⟩:Zq))) (ws:=Zg.c (⟨x1,x2⟩:Zq)) (hO'12.box 3 rfl) rfl rfl) (Zf v_cells q'4_0 ?_))))))
      obtain ⟨x3,hx'2,hp⟩:=Zs hp
      obtain ⟨u'2,k'9,ca'2,rfl,hW'2⟩:=Za4.ok (h:=k'8)  (hO'12.rd0 s_cells.rd) hx'2
      refine ZaN (id:=220) (caps:=[]) rfl (Zu (v:=.ag (Zg.c (⟨x1,x2⟩:Zq))) rfl (Zu (v:=v_cells) rfl zi)) ca'2 ?_
      have hO'13:=hO'12.call hW'2 rfl
      refine Zj (Zdd (t:=x3) rfl) (Zf (.b (!x3)) rfl ?_)
      refine ZaF 4 (fun fr' k'=>k'9 = k'∧fr' 37 = .b ((!x3) || (Zc4 false (⟨x1,x2⟩:Zq) met1))∧fr' 0 = v_cells∧fr' 19 = .n (cells.length:Int)∧fr' 20 = .n x1∧fr' 23 = .n x2∧fr' 5 = v'4∧fr' 6 = .mp r'1∧fr' 7 = .n x1∧fr' 9 = .p r'2 0) ?_ ?_
      ·rcases bc (!x3) with b'4 | b'4
       ·skip
        refine Z1 rfl b'4 (Z1 rfl b'4 (Z1 rfl b'4 (Zj (zn (t:=(!x3)) (v:=.b ((!x3) || (Zc4 false (⟨x1,x2⟩:Zq) met1))) rfl b'4 (Eq.trans (b:=V.b true) rfl (Zbz b'4))) (Zd ?_))))
        exact ⟨rfl,rfl,q'4_0,q'4_19,q'4_20,q'4_23,q'4_5,q'4_6,q'4_7,rfl⟩
       ·skip
        refine ZM rfl b'4 (Zf (.mp r'1) q'4_6 (ZM rfl b'4 (Zj (Zbe (cs:=(Zg.c (⟨x1,x2⟩:Zq))) (ws:=Zg.c (⟨x1,x2⟩:Zq)) (hO'13.box 3 rfl) rfl rfl) (ZM rfl b'4 (Zj (ZkV (E:=Zg) (m:=met1) (q:=(⟨x1,x2⟩:Zq)) (hO'13.mpP 2 rfl) rfl rfl (Mu.Zg.same)) (Zj (ze (t:=(!x3)) (v:=.b ((!x3) || (Zc4 false (⟨x1,x2⟩:Zq) met1))) rfl b'4 (Eq.trans (b:=V.b (Zc4 false (⟨x1,x2⟩:Zq) met1)) rfl (Zcf b'4))) (Zd ?_)))))))
        exact ⟨rfl,rfl,q'4_0,q'4_19,q'4_20,q'4_23,q'4_5,q'4_6,q'4_7,rfl⟩
      rintro frg'1 _ ⟨rfl,g'1_37,g'1_0,g'1_19,g'1_20,g'1_23,g'1_5,g'1_6,g'1_7,g'1_9⟩
      refine Zd (Zc ?_)
      rcases Zt hp with ⟨b'5,hp⟩ | ⟨b'5,hp⟩
      ·refine zK (t:=((!x3) || (Zc4 false (⟨x1,x2⟩:Zq) met1))) g'1_37 b'5 ?_
       refine Zbp (zZ (ZaJ (Zc (Zo ?_))))
       obtain ⟨c'1,hp⟩:=Zm hp
       refine Zj (zH (a:=x2) (b:=1) g'1_23 rfl c'1) (Zf (.n (x2 + 1)) rfl (Zd ?_))
       cases hp
       exact (Or.inl ⟨(l2,met1,x2 + 1),rfl,rfl,v'4,vs'4,g'1_0,g'1_5,g'1_6,g'1_7,g'1_19,g'1_20,rfl,(hO'13.pick [0,1,2] rfl (by decide))⟩)
      ·refine zG (t:=((!x3) || (Zc4 false (⟨x1,x2⟩:Zq) met1))) g'1_37 b'5 ?_
       refine zN (Zc (Zk (Zo (Zf (.sn) rfl (Zd (Zc (Zk ?_)))))))
       refine Zk (Zo (Zj (Zbe (cs:=(Zg.c (⟨x1,x2⟩:Zq))) (ws:=Zg.c (⟨x1,x2⟩:Zq)) (hO'13.box 3 rfl) g'1_9 rfl) (zF (hO'13.alloc (cs:=Zg.c (⟨0,0⟩:Zq)) hO'13.fr) ?_)))
       rintro _ k'10 ⟨r'3,rfl,n'3,f'4,hW⟩
       have hO'14:=hW
       refine zF (hO'14.stb (ws:=Zg.c (⟨x1,x2⟩:Zq)) (cs':=Zg.c (⟨x1,x2⟩:Zq)) (v:=.ag (Zg.c (⟨x1,x2⟩:Zq))) 4 rfl rfl rfl rfl ⟨rfl,Nat.le_of_ble_eq_true rfl,rfl⟩ rfl) ?_
       rintro _ k'11 ⟨rfl,f'5,m'2,hW⟩
       have hO'15:=hW
       refine Zd (Zc (Zas ?_))
       obtain ⟨o'5,ho'3,hp⟩:=Zs hp
       refine W.mono (Q:=fun e fr k=>match (generalizing:=false) o'5 with
         | (met4,f1)=>e = (.exit 4)∧∃ (v'7:V),fr 0 = v_cells∧fr 5 = v'4∧fr 6 = .mp r'1∧fr 7 = .n x1∧fr 10 = v'7∧fr 19 = .n (cells.length:Int)∧fr 20 = .n x1∧fr 23 = .n x2∧Own B h k [eSl eV v'4 vs'4,ZbI Zg vs'4 l2,eMp Zg r'1 met4,eSl Zg v'7 f1]) ?_ ?_
       ·clear hp
        have hO'17:=hO'15.nil Zg
        refine zR (fun st fr k=>match st with | (met3,f,x4)=>∃ (v'6:V),∃ (r'4:Nat),fr 0 = v_cells∧fr 5 = v'4∧fr 6 = .mp r'1∧fr 7 = .n x1∧fr 10 = v'6∧fr 11 = .p r'4 0∧fr 19 = .n (cells.length:Int)∧fr 20 = .n x1∧fr 23 = .n x2∧Own B h k [eSl eV v'4 vs'4,ZbI Zg vs'4 l2,eMp Zg r'1 met3,eSl Zg v'6 f,Zbw r'4 (Zg.c x4)]) ho'3 (s:=(met1,([]:List Zq),(⟨x1,x2⟩:Zq))) ⟨V.sn,r'3,g'1_0,g'1_5,g'1_6,g'1_7,rfl,rfl,g'1_19,g'1_20,g'1_23,(hO'17.pick [0,1,2,5,4] rfl (by decide))⟩ ?_
        rintro ⟨met3,f,x4⟩ q'6 k'13 ⟨v'6,r'4,q'6_0,q'6_5,q'6_6,q'6_7,q'6_10,q'6_11,q'6_19,q'6_20,q'6_23,hO'18⟩ o'6 hp
        dsimp only [z9.s2] at hp
        refine Zk (Zk (Zo (Zf (.mp r'1) q'6_6 (Zj (Zbe (cs:=(Zg.c x4)) (ws:=Zg.c x4) (hO'18.box 4 rfl) q'6_11 rfl) (Zj (ZkV (E:=Zg) (m:=met3) (q:=x4) (hO'18.mpP 2 rfl) rfl rfl (Mu.Zg.same)) (Zj (Zdd (t:=(Zc4 false x4 met3)) rfl) (Zd ?_)))))))
        refine Zc ?_
        rcases Zt hp with ⟨b'6,hp⟩ | ⟨b'6,hp⟩
        ·refine zK (t:=(!(Zc4 false x4 met3))) rfl b'6 ?_
         refine zN (Zc (Zk (Zas (Zk (Zo (Zf (.mp r'1) q'6_6 (Zj (Zbe (cs:=(Zg.c x4)) (ws:=Zg.c x4) (hO'18.box 4 rfl) q'6_11 rfl) ?_)))))))
         refine zF (hO'18.mup (E:=Zg) (m:=met3) (q:=x4) (v:=true) 2 rfl rfl rfl rfl (Mu.Zg.same)) ?_
         rintro _ k'14 ⟨rfl,f'6,m'3,hW⟩
         have hO'19:=hW
         refine Zd (Zc (Zo (Zf v'6 q'6_10 (Zj (Zbe (cs:=(Zg.c x4)) (ws:=Zg.c x4) (hO'19.box 4 rfl) q'6_11 rfl) (zF (hO'19.bsl (E:=Zg) (l:=[x4]) hO'19.fr (by rw [(zp (v:=.ag (Zg.c x4)) rfl Zak)]; rfl) rfl) ?_)))))
         rintro v'8 k'15 ⟨r'5,f'7,hW⟩
         have hO'20:=hW
         obtain ⟨c'2,hp⟩:=Zm hp
         refine zF (hO'20.app (E:=Zg) (bytes:=16) 3 hO'20.fr rfl (hO'20.sl 5 rfl) rfl rfl (fun _=>rfl) c'2 (by decide)) ?_
         rintro v'9 k'16 ⟨f'8,hW⟩
         have hO'21:=hW
         refine Zf v'9 rfl (Zd (Zan (Zc (Zk (Zk (Zo (Zj (Zbe (cs:=(Zg.c x4)) (ws:=Zg.c x4) (hO'21.box 4 rfl) q'6_11 rfl) ?_)))))))
         refine Zd (Zc (Zo (zF (hO'21.alloc (cs:=Zg.c (⟨0,0⟩:Zq)) hO'21.fr) ?_)))
         rintro _ k'17 ⟨r'6,rfl,n'4,f'9,hW⟩
         have hO'22:=hW
         refine zF (hO'22.stb (ws:=Zg.c x4) (cs':=Zg.c x4) (v:=.ag (Zg.c x4)) 6 rfl rfl rfl rfl ⟨rfl,Nat.le_of_ble_eq_true rfl,rfl⟩ rfl) ?_
         rintro _ k'18 ⟨rfl,f'10,m'4,hW⟩
         have hO'23:=hW
         refine Zd (Zc (Zo (Zj (Zbe (cs:=(Zg.c x4)) (ws:=Zg.c x4) (hO'23.box 6 rfl) rfl rfl) (Zf v_cells q'6_0 ?_))))
         obtain ⟨x5,hx'3,hp⟩:=Zs hp
         obtain ⟨u'3,k'19,ca'3,rfl,hW'3⟩:=z4.ok (h:=k'18)  (hO'23.rd0 s_cells.rd) hx'3
         refine ZaN (id:=221) (caps:=[]) rfl (Zu (v:=.ag (Zg.c x4)) rfl (Zu (v:=v_cells) rfl zi)) ca'3 ?_
         have hO'24:=hO'23.call hW'3 rfl
         refine zF (hO'24.stb (ws:=Zg.c x5) (cs':=Zg.c x5) (v:=.ag (Zg.c x5)) 6 rfl rfl rfl rfl ⟨rfl,Nat.le_of_ble_eq_true rfl,rfl⟩ rfl) ?_
         rintro _ k'20 ⟨rfl,f'11,m'5,hW⟩
         have hO'25:=hW
         refine Zd ?_
         cases hp
         exact (Or.inl ⟨(Zdt x4 true met3,f++[x4],x5),rfl,rfl,v'9,r'6,q'6_0,q'6_5,q'6_6,q'6_7,rfl,rfl,q'6_19,q'6_20,q'6_23,(hO'25.pick [0,1,2,3,6] rfl (by decide))⟩)
        ·refine zG (t:=(!(Zc4 false x4 met3))) rfl b'6 ?_
         refine Zbp (zZ ?_)
         cases hp
         refine (Or.inr ⟨(met3,f),rfl,(fun h=>nomatch h),(fun he=>?_)⟩)
         subst he; exact ⟨rfl,v'6,q'6_0,q'6_5,q'6_6,q'6_7,q'6_10,q'6_19,q'6_20,q'6_23,(hO'18.pick [0,1,2,3] rfl (by decide))⟩
       intro e'3 q'5 k'12 hJ'3
       obtain ⟨met4,f1⟩:=o'5
       obtain ⟨rfl,v'7,q'5_0,q'5_5,q'5_6,q'5_7,q'5_10,q'5_19,q'5_20,q'5_23,hO'16⟩:=hJ'3
       refine ZaJ (Zc (Zo (Zf v'4 q'5_5 (Zf v'7 q'5_10 (zF (hO'16.bsl (E:=eV) (l:=[v'7]) hO'16.fr (by rw [(zp (v:=v'7) rfl Zak)]; simp only [fill,(hO'16.sl 3 rfl).cells]; simp [over]) rfl) ?_)))))
       rintro v'10 k'21 ⟨r'7,f'12,hW⟩
       have hO'26:=hW
       obtain ⟨c'3,hp⟩:=Zm hp
       refine zF (hO'26.appV (bytes:=24) 0 hO'26.fr rfl (hO'26.sl 4 rfl) rfl rfl (by simp only [List.all_cons,List.all_nil,Bool.and_true]; exact (hO'26.sl 3 rfl).oneV) (by rw [(hO'26.allLen 1 rfl:(vs'4).length = (l2).length)]; exact c'3) (by decide)) ?_
       rintro v'11 k'22 ⟨f'13,hW⟩
       have hO'27:=hW
       have hO'28:=hO'27.absorb 1 3 rfl rfl (by decide)
       refine Zf v'11 rfl (Zd (Zan (Zc (Zo ?_))))
       obtain ⟨c'4,hp⟩:=Zm hp
       refine Zj (zH (a:=x2) (b:=1) q'5_23 rfl c'4) (Zf (.n (x2 + 1)) rfl (Zd ?_))
       cases hp
       exact (Or.inl ⟨(l2++[f1],met4,x2 + 1),rfl,rfl,v'11,vs'4++[v'7],q'5_0,rfl,q'5_6,q'5_7,q'5_19,q'5_20,rfl,(hO'28.pick [0,1,2] rfl (by decide))⟩)
     ·refine zG (t:=(decide (x2 < 4))) rfl b'3 ?_
      refine Zbp (zZ ?_)
      cases hp
      refine (Or.inr ⟨(l2,met1),rfl,(fun h=>nomatch h),(fun he=>?_)⟩)
      subst he; exact ⟨rfl,v'4,vs'4,q'4_0,q'4_5,q'4_6,q'4_19,q'4_20,(hO'10.pick [0,1,2] rfl (by decide))⟩
    intro e'2 q'3 k'5 hJ'2
    obtain ⟨l3,met2⟩:=o'3
    obtain ⟨rfl,v'5,vs'5,q'3_0,q'3_5,q'3_6,q'3_19,q'3_20,hO'9⟩:=hJ'2
    refine ZaJ (Zan (Zc (Zo ?_)))
    obtain ⟨c'5,hp⟩:=Zm hp
    refine Zj (zH (a:=x1) (b:=1) q'3_20 rfl c'5) (Zf (.n (x1 + 1)) rfl (Zd ?_))
    cases hp
    exact (Or.inl ⟨(l3,met2,x1 + 1),rfl,rfl,v'5,vs'5,q'3_0,q'3_5,q'3_6,q'3_19,rfl,(hO'9.pick [0,1,2] rfl (by decide))⟩)
   ·refine zG (t:=(decide (x1 < (cells.length:Int)))) rfl b'2 ?_
    refine Zbp (zZ ?_)
    cases hp
    refine (Or.inr ⟨l,rfl,(fun h=>nomatch h),(fun he=>?_)⟩)
    subst he; exact ⟨rfl,v'2,vs'2,q'2_5,(hO'8.pick [0,1] rfl (by decide))⟩
  intro e'1 q'1 k'3 hJ'1
  obtain ⟨l1,rfl⟩:∃ x,x = o'1:=⟨_,rfl⟩
  obtain ⟨rfl,v'3,vs'3,q'1_5,hO'5⟩:=hJ'1
  refine ZaJ (Zc (Zk (Zo (Zf v'3 q'1_5 (Zf v'3 rfl (Zf (.n 0) rfl (Zd ?_)))))))
  refine Zc (zY (zx (zC (n:=2) (v:=v'3) rfl (zC (n:=3) (v:=.n 0) rfl ZS)) ?_))
  cases hp
  exact ⟨v'3,vs'3,rfl,(hO'5.pick [0,1] rfl (by decide))⟩

theorem Zbr.ok {h:Hp} {d:Int} {e_:Int}   {r:Int} (hp:Zbr d e_ = some r) :
  ∃ u k',Is G 222 [.n d,.n e_] h u k'∧V.n r = u∧Own (fun r=>r < h.n) h k' []:=by
 refine WC.is (Za7 Zdz ?_)
 unfold Zbr at hp
 let B:Nat→Prop:=(fun r=>r < h.n)
 have hO:Own B h h []:=Own.start0 h
 refine Zk (Zo (Zf (.n 0) rfl (Zd (Zc (Zk (Zk (Zo ?_)))))))
 refine Zf (.n d) rfl ?_
 obtain ⟨x,hx'1,hp⟩:=Zs hp
 obtain ⟨u'1,k'1,ca'1,rfl,hW'1⟩:=Za2.ok (h:=h)   hx'1
 refine ZaN (id:=90) (caps:=[]) rfl (Zu (v:=.n d) rfl zi) ca'1 ?_
 have hO'1:=hO.call hW'1 rfl
 refine Zj (Zdd (t:=x) rfl) (Zf (.b (!x)) rfl ?_)
 obtain ⟨t,hv'1,hp⟩:=Zs hp
 refine ZaF 4 (fun fr' k'=>Own B h k' []∧fr' 12 = .b t∧fr' 0 = .n d∧fr' 1 = .n e_) ?_ ?_
 ·clear hp; rcases Zt hv'1 with ⟨b'1,hp⟩ | ⟨b'1,hp⟩
  ·skip
   refine Z1 rfl b'1 (Z1 rfl b'1 (Z1 rfl b'1 (Zj (zn (t:=(!x)) (v:=.b t) rfl b'1 (Eq.trans (b:=V.b true) rfl (congrArg V.b (Option.some.inj hp)))) (Zd ?_))))
   exact ⟨hO'1.pick [] rfl (by decide),rfl,rfl,rfl⟩
  ·skip
   refine ZM rfl b'1 (Zf (.n e_) rfl (ZM rfl b'1 ?_))
   obtain ⟨x1,hx'2,hp⟩:=Zs hp
   obtain ⟨u'2,k'2,ca'2,rfl,hW'2⟩:=Za2.ok (h:=k'1)   hx'2
   refine ZaN (id:=90) (caps:=[]) rfl (Zu (v:=.n e_) rfl zi) ca'2 ?_
   have hO'2:=hO'1.call hW'2 rfl
   refine ZM rfl b'1 (Zj (Zdd (t:=x1) rfl) (Zj (ze (t:=(!x)) (v:=.b t) rfl b'1 (Eq.trans (b:=V.b (!x1)) rfl (congrArg V.b (Option.some.inj hp)))) (Zd ?_)))
   exact ⟨hO'2.pick [] rfl (by decide),rfl,rfl,rfl⟩
 rintro frg'1 k'3 ⟨hO'3,g'1_12,g'1_0,g'1_1⟩
 refine Zd (Zc ?_)
 rcases Zt hp with ⟨b'2,hp⟩ | ⟨b'2,hp⟩
 ·refine zK (t:=t) g'1_12 b'2 ?_
  refine Zk (Zo (Zf (.n 0) rfl (Zd (Zc (zY (z5 (zx (zC (n:=4) (v:=.n 0) rfl ZS) ?_)))))))
  cases hp
  exact ⟨rfl,(hO'3.pick [] rfl (by decide))⟩
 ·refine zG (t:=t) g'1_12 b'2 ?_
  refine zN (Zc (Zk (Zo (Zj (Zbh (cs:=ZbO.c (⟨0,1,(-2),(-1)⟩:A4 Int)) (by rw [(zp (v:=.n 0) rfl (zp (v:=.n 1) rfl (zp (v:=.n (-2)) rfl (zp (v:=.n (-1)) rfl Zak))))]; rfl)) (Zf (.n e_) g'1_1 (Zf (.n d) g'1_0 ?_))))))
  obtain ⟨c'1,hp⟩:=Zm hp
  refine Zj (Zif (a:=e_) (b:=d) rfl rfl c'1) ?_
  obtain ⟨c'2,hp⟩:=Zm hp
  refine Zj (zH (a:=(e_ - d)) (b:=4) rfl rfl c'2) (Zj (ZdR (a:=((e_ - d) + 4)) (b:=4) rfl rfl (by decide)) ?_)
  obtain ⟨c'3,hp⟩:=Zm hp
  refine Zj (Zmw (cs:=ZbO.c (⟨0,1,(-2),(-1)⟩:A4 Int)) (z:=(((e_ - d) + 4).tmod 4)) (v:=.n ((⟨0,1,(-2),(-1)⟩:A4 Int).get (((e_ - d) + 4).tmod 4))) rfl rfl c'3 (Zgr c'3)) (Zf (.n ((⟨0,1,(-2),(-1)⟩:A4 Int).get (((e_ - d) + 4).tmod 4))) rfl (Zd (Zc (zY (zx (zC (n:=4) (v:=.n ((⟨0,1,(-2),(-1)⟩:A4 Int).get (((e_ - d) + 4).tmod 4))) rfl ZS) ?_)))))
  cases hp
  exact ⟨rfl,(hO'3.pick [] rfl (by decide))⟩

theorem ZaL.ok {h:Hp} {cells:List Za} {f:List Zq} {v_cells:V} {v_f:V} (s_cells:Sl Zi h v_cells cells) (s_f:Sl Zg h v_f f) {r:(List Int)} (hp:ZaL cells f = some r) :
  ∃ u k',Is G 204 [v_cells,v_f] h u k'∧∃ (v'1:V),v'1 = u∧Own (fun r=>r < h.n) h k' [eSl zd v'1 r]:=by
 refine WC.is (Za7 ZdY ?_)
 unfold ZaL at hp
 let B:Nat→Prop:=(fun r=>r < h.n)
 have hO:Own B h h []:=Own.start0 h
 refine Zk (Zo (Zf (.sn) rfl (Zd (Zc (Zk (Zo (Zf v_f rfl ?_)))))))
 refine Zj (Za0 (hO.rd0 s_f.rd) rfl) ?_
 obtain ⟨c'1,hp⟩:=Zm hp
 refine zF (hO.mks (E:=zd) (y:=(0:Int)) (bytes:=8) (z:=(f.length:Int)) hO.fr rfl rfl rfl c'1 (by decide)) ?_
 rintro v'2 k'1 ⟨r'1,f'1,hW⟩
 have hO'1:=hW
 refine Zf v'2 rfl (Zd (Zc (Zk (Zk (Zo (Zf v_cells rfl ?_))))))
 obtain ⟨x,hx'1,hp⟩:=Zs hp
 obtain ⟨u'1,k'2,ca'1,rfl,hW'1⟩:=zg.ok (h:=k'1)  (hO'1.rd0 s_cells.rd) hx'1
 refine ZaN (id:=66) (caps:=[]) rfl (Zu (v:=v_cells) rfl zi) ca'1 ?_
 have hO'2:=hO'1.call hW'1 rfl
 refine Zj (ZcM (a:=x) (b:=0) rfl rfl) (Zd (Zc ?_))
 rcases Zt hp with ⟨b'1,hp⟩ | ⟨b'1,hp⟩
 ·refine zK (t:=(!(decide (x = 0)))) rfl b'1 ?_
  refine Zk (Zo (Zf v'2 rfl (Zf v'2 rfl (Zd (Zc (zY (z5 ?_)))))))
  refine zx (zC (n:=4) (v:=v'2) rfl ZS) ?_
  cases hp
  exact ⟨v'2,rfl,(hO'2.pick [0] rfl (by decide))⟩
 ·refine zG (t:=(!(decide (x = 0)))) rfl b'1 ?_
  refine zN (Zc (Zk (Zk (Zo (Zf v_f rfl (Zj (Za0 (hO'2.rd0 s_f.rd) rfl) (Zf (.n 0) rfl ?_)))))))
  refine Zd (Zc (Zas ?_))
  obtain ⟨o'1,ho'1,hp⟩:=Zs hp
  refine W.mono (Q:=fun e fr k=>match (generalizing:=false) o'1 with
    | l1=>e = (.exit 0)∧fr 5 = v'2∧Own B h k [eSl zd v'2 l1]) ?_ ?_
  ·clear hp
   refine zR (fun st fr k=>match st with | (l,x1)=>fr 0 = v_cells∧fr 5 = v'2∧fr 15 = v_f∧fr 16 = .n (f.length:Int)∧fr 17 = .n x1∧Own B h k [eSl zd v'2 l]) ho'1 (s:=(List.replicate ((f.length:Int):Int).toNat (0:Int),0)) ⟨rfl,rfl,rfl,rfl,rfl,(hO'2.pick [0] rfl (by decide))⟩ ?_
   rintro ⟨l,x1⟩ q'2 k'4 ⟨q'2_0,q'2_5,q'2_15,q'2_16,q'2_17,hO'4⟩ o'2 hp
   dsimp only [ZaL.s0] at hp
   refine Zk (Zo (Zj (zL (a:=x1) (b:=(f.length:Int)) q'2_17 q'2_16) (Zd (Zc (Zk ?_)))))
   rcases Zt hp with ⟨b'2,hp⟩ | ⟨b'2,hp⟩
   ·refine zK (t:=(decide (x1 < (f.length:Int)))) rfl b'2 ?_
    refine zN (Zc (Zk (Zas (Zk (Zo (Zf (.n x1) q'2_17 ?_))))))
    obtain ⟨c'2,hp⟩:=Zm hp
    refine Zj (zq (E:=Zg) (z:=x1) (hO'4.rd0 s_f.rd) q'2_15 q'2_17 c'2) (Zj (Zdp (E:=Zg) (hO'4.rd0 s_f.rd) rfl (Zl c'2)) (zF (hO'4.alloc (cs:=Zg.c (⟨0,0⟩:Zq)) hO'4.fr) ?_))
    rintro _ k'5 ⟨r'2,rfl,n'1,f'2,hW⟩
    have hO'5:=hW
    refine Zf (.n x1) rfl (zF (hO'5.stb (ws:=Zg.c (gi f x1.toNat)) (cs':=Zg.c (gi f x1.toNat)) (v:=.ag (Zg.c (gi f x1.toNat))) 1 rfl rfl rfl rfl ⟨rfl,Nat.le_of_ble_eq_true rfl,rfl⟩ rfl) ?_)
    rintro _ k'6 ⟨rfl,f'3,m'1,hW⟩
    have hO'6:=hW
    refine Zd (Zc (Zk (Zo (Zj (Zbe (cs:=(Zg.c (gi f x1.toNat))) (ws:=Zg.c (gi f x1.toNat)) (hO'6.box 1 rfl) rfl rfl) (Zf v_cells q'2_0 ?_)))))
    obtain ⟨x2,hx'2,hp⟩:=Zs hp
    obtain ⟨u'2,k'7,ca'2,rfl,hW'2⟩:=Za4.ok (h:=k'6)  (hO'6.rd0 s_cells.rd) hx'2
    refine ZaN (id:=220) (caps:=[]) rfl (Zu (v:=.ag (Zg.c (gi f x1.toNat))) rfl (Zu (v:=v_cells) rfl zi)) ca'2 ?_
    have hO'7:=hO'6.call hW'2 rfl
    refine Zd (Zc ?_)
    rcases Zt hp with ⟨b'3,hp⟩ | ⟨b'3,hp⟩
    ·refine zK (t:=x2) rfl b'3 ?_
     refine Zfj ?_
     have hW:=hO'7.bump 11
     have fr'1:=Fresh.start k'7 11
     have nb'1:∀ {i:Nat},h.n≤k'7.n + i:=Nat.le_trans hO'7.n (Nat.le_add_right _ _)
     have hO'8:=hW
     refine ZaK v'2 q'2_5 (ZaK (.n x1) rfl (zm (Zaz (r:=r'2) (o:=0) (o':=1) rfl rfl) (zm (zV (cs:=(Zg.c (gi f x1.toNat))) (v:=.n ((gi f x1.toNat).Dir)) (hO'8.box 1 rfl) rfl rfl) (zm (Zbe (cs:=(Zg.c (gi f x1.toNat))) (ws:=Zg.c (gi f x1.toNat)) (hO'8.box 1 rfl) rfl rfl) (ZaK v_cells q'2_0 ?_)))))
     obtain ⟨x3,hx'3,hp⟩:=Zs hp
     obtain ⟨u'3,k'9,ca'3,rfl,hW'3⟩:=z4.ok (h:=(k'7.bump 11))  (hO'8.rd0 s_cells.rd) hx'3
     refine Zhc (id:=221) (caps:=[]) rfl (Zu (v:=.ag (Zg.c (gi f x1.toNat))) rfl (Zu (v:=v_cells) rfl zi)) ca'3 ?_
     have fr'2:=fr'1.call hW'3
     have hO'9:=hO'8.call hW'3 rfl
     refine zm (Zmv (cs:=Zg.c x3) (v:=.n x3.Dir) rfl rfl) ?_
     obtain ⟨x4,hx'4,hp⟩:=Zs hp
     obtain ⟨u'4,k'10,ca'4,rfl,hW'4⟩:=Zbr.ok (h:=k'9)   hx'4
     refine Zhc (id:=222) (caps:=[]) rfl (Zu (v:=.n ((gi f x1.toNat).Dir)) rfl (Zu (v:=.n x3.Dir) rfl zi)) ca'4 ?_
     have fr'3:=fr'2.call hW'4
     have hO'10:=hO'9.call hW'4 rfl
     obtain ⟨c'3,hp⟩:=Zm hp
     refine zm (zq (E:=zd) (z:=x1) (hO'10.sl 0 rfl) rfl rfl c'3) (ZfX (hO'10.ste (E:=zd) (y:=x4) (ws:=[.n x4]) 0 rfl rfl (Zl c'3) rfl rfl ⟨rfl,Nat.le_of_ble_eq_true rfl,rfl⟩ rfl) ?_)
     rintro _ k'11 z'1 ⟨rfl,f'4,m'2,hW⟩
     have fr'4:=fr'3.kept f'4 (by decide)
     have hO'11:=hW
     refine ZbZ ?_
     refine And.intro ?_ ?_
     ·intro q hq
      simp only [List.mem_cons,List.not_mem_nil,or_false] at hq
      rcases hq with rfl | rfl
      ·refine Za8 ?_ ?_
       ·exact (fun h=>nomatch h)
       ·exact (fun h=>nomatch h)
      ·refine Zjn rfl rfl ?_
       ·exact (fun r hm hc=>hc (hW'3.base r (Nat.lt_of_lt_of_le (hO'7.ltAt 1 rfl _ (tch (v:=V.p r'2 1) (Zei hm) rfl)) (Nat.le_trans (Nat.le_add_right _ _) fr'1.n))))
     refine Zan (Zc (Zo ?_))
     obtain ⟨c'4,hp⟩:=Zm hp
     refine Zj (zH (a:=x1) (b:=1) q'2_17 rfl c'4) (Zf (.n (x1 + 1)) rfl (Zd ?_))
     cases hp
     exact (Or.inl ⟨(l.set x1.toNat x4,x1 + 1),rfl,rfl,q'2_0,q'2_5,q'2_15,q'2_16,rfl,(hO'11.pick [0] rfl (by decide))⟩)
    ·refine zG (t:=x2) rfl b'3 ?_
     refine zN (Zan (Zc (Zo ?_)))
     obtain ⟨c'5,hp⟩:=Zm hp
     refine Zj (zH (a:=x1) (b:=1) q'2_17 rfl c'5) (Zf (.n (x1 + 1)) rfl (Zd ?_))
     cases hp
     exact (Or.inl ⟨(l,x1 + 1),rfl,rfl,q'2_0,q'2_5,q'2_15,q'2_16,rfl,(hO'7.pick [0] rfl (by decide))⟩)
   ·refine zG (t:=(decide (x1 < (f.length:Int)))) rfl b'2 ?_
    refine Zbp (zZ ?_)
    cases hp
    refine (Or.inr ⟨l,rfl,(fun h=>nomatch h),(fun he=>?_)⟩)
    subst he; exact ⟨rfl,q'2_5,(hO'4.pick [0] rfl (by decide))⟩
  intro e'1 q'1 k'3 hJ'1
  obtain ⟨l1,rfl⟩:∃ x,x = o'1:=⟨_,rfl⟩
  obtain ⟨rfl,q'1_5,hO'3⟩:=hJ'1
  refine ZaJ (Zc (Zk (Zo (Zf v'2 q'1_5 (Zf v'2 rfl (Zd (Zc ?_)))))))
  refine zY (zx (zC (n:=4) (v:=v'2) rfl ZS) ?_)
  cases hp
  exact ⟨v'2,rfl,(hO'3.pick [0] rfl (by decide))⟩

theorem Zat.ok {h:Hp} {turns:List Int} {v_turns:V} (s_turns:Sl zd h v_turns turns) {r:Int} (hp:Zat turns = some r) :
  ∃ u k',Is G 219 [v_turns] h u k'∧V.n r = u∧Own (fun r=>r < h.n) h k' []:=by
 refine WC.is (Za7 Zdn ?_)
 unfold Zat at hp
 let B:Nat→Prop:=(fun r=>r < h.n)
 have hO:Own B h h []:=Own.start0 h
 refine Zk (Zo (Zf (.n 0) rfl (Zd (Zc (Zk (Zo (Zf (.n 0) rfl ?_)))))))
 refine Zd (Zc (Zk (Zk (Zo (Zf v_turns rfl (Zj (Za0 (hO.rd0 s_turns.rd) rfl) (Zf (.n 0) rfl ?_)))))))
 refine Zd (Zc (Zas ?_))
 obtain ⟨o'1,ho'1,hp⟩:=Zs hp
 refine W.mono (Q:=fun e fr k=>match (generalizing:=false) o'1 with
   | n1=>e = (.exit 0)∧fr 3 = .n n1∧Own B h k []) ?_ ?_
 ·clear hp
  refine zR (fun st fr k=>match st with | (n,x)=>fr 3 = .n n∧fr 6 = v_turns∧fr 7 = .n (turns.length:Int)∧fr 8 = .n x∧Own B h k []) ho'1 (s:=(0,0)) ⟨rfl,rfl,rfl,rfl,(hO.pick [] rfl (by decide))⟩ ?_
  rintro ⟨n,x⟩ q'2 k'2 ⟨q'2_3,q'2_6,q'2_7,q'2_8,hO'2⟩ o'2 hp
  dsimp only [Zat.s0] at hp
  refine Zk (Zo (Zj (zL (a:=x) (b:=(turns.length:Int)) q'2_8 q'2_7) (Zd (Zc (Zk ?_)))))
  rcases Zt hp with ⟨b'1,hp⟩ | ⟨b'1,hp⟩
  ·refine zK (t:=(decide (x < (turns.length:Int)))) rfl b'1 ?_
   refine zN (Zc (Zk (Zas (Zk (Zo ?_)))))
   obtain ⟨c'1,hp⟩:=Zm hp
   refine Zj (zq (E:=zd) (z:=x) (hO'2.rd0 s_turns.rd) q'2_6 q'2_8 c'1) (Zj (zO (w:=.n (gi turns x.toNat)) (hO'2.rd0 s_turns.rd) rfl (Zl c'1) rfl) (Zf (.n (gi turns x.toNat)) rfl (Zd (Zc (Zk (Zo (Zf (.n (gi turns x.toNat)) rfl ?_)))))))
   refine Zj (Zcy (a:=(gi turns x.toNat)) (b:=(-2)) rfl rfl) (Zf (.b (decide ((-2)≤(gi turns x.toNat)))) rfl ?_)
   refine ZaF 3 (fun fr' k'=>k'2 = k'∧fr' 17 = .b ((decide ((-2)≤(gi turns x.toNat))) && (decide ((gi turns x.toNat)≤1)))∧fr' 3 = .n n∧fr' 5 = .n (gi turns x.toNat)∧fr' 6 = v_turns∧fr' 7 = .n (turns.length:Int)∧fr' 8 = .n x) ?_ ?_
   ·rcases bc (decide ((-2)≤(gi turns x.toNat))) with b'2 | b'2
    ·skip
     refine ZM rfl b'2 (Zf (.n (gi turns x.toNat)) rfl (ZM rfl b'2 (Zj (ZkU (a:=(gi turns x.toNat)) (b:=1) rfl rfl) (Zj (zn (t:=(decide ((-2)≤(gi turns x.toNat)))) (v:=.b ((decide ((-2)≤(gi turns x.toNat))) && (decide ((gi turns x.toNat)≤1)))) rfl b'2 (Eq.trans (b:=V.b (decide ((gi turns x.toNat)≤1))) rfl (Zf5 b'2))) (Zd ?_)))))
     exact ⟨rfl,rfl,q'2_3,rfl,q'2_6,q'2_7,q'2_8⟩
    ·skip
     refine Z1 rfl b'2 (Z1 rfl b'2 (Zj (ze (t:=(decide ((-2)≤(gi turns x.toNat)))) (v:=.b ((decide ((-2)≤(gi turns x.toNat))) && (decide ((gi turns x.toNat)≤1)))) rfl b'2 (Eq.trans (b:=V.b false) rfl (ZeA b'2))) (Zd ?_)))
     exact ⟨rfl,rfl,q'2_3,rfl,q'2_6,q'2_7,q'2_8⟩
   rintro frg'1 _ ⟨rfl,g'1_17,g'1_3,g'1_5,g'1_6,g'1_7,g'1_8⟩
   refine Zd (Zc ?_)
   rcases Zt hp with ⟨b'3,hp⟩ | ⟨b'3,hp⟩
   ·refine zK (t:=((decide ((-2)≤(gi turns x.toNat))) && (decide ((gi turns x.toNat)≤1)))) g'1_17 b'3 ?_
    refine Zo (Zf (.n n) g'1_3 (Zf (.n (gi turns x.toNat)) g'1_5 ?_))
    obtain ⟨c'2,hp⟩:=Zm hp
    refine Zj (zH (a:=n) (b:=(gi turns x.toNat)) rfl rfl c'2) (Zf (.n (n + (gi turns x.toNat))) rfl (Zd (Zan (Zc (Zo ?_)))))
    obtain ⟨c'3,hp⟩:=Zm hp
    refine Zj (zH (a:=x) (b:=1) g'1_8 rfl c'3) (Zf (.n (x + 1)) rfl (Zd ?_))
    cases hp
    exact (Or.inl ⟨(n + (gi turns x.toNat),x + 1),rfl,rfl,rfl,g'1_6,g'1_7,rfl,(hO'2.pick [] rfl (by decide))⟩)
   ·refine zG (t:=((decide ((-2)≤(gi turns x.toNat))) && (decide ((gi turns x.toNat)≤1)))) g'1_17 b'3 ?_
    refine zN (Zan (Zc (Zo ?_)))
    obtain ⟨c'4,hp⟩:=Zm hp
    refine Zj (zH (a:=x) (b:=1) g'1_8 rfl c'4) (Zf (.n (x + 1)) rfl (Zd ?_))
    cases hp
    exact (Or.inl ⟨(n,x + 1),rfl,rfl,g'1_3,g'1_6,g'1_7,rfl,(hO'2.pick [] rfl (by decide))⟩)
  ·refine zG (t:=(decide (x < (turns.length:Int)))) rfl b'1 ?_
   refine Zbp (zZ ?_)
   cases hp
   refine (Or.inr ⟨n,rfl,(fun h=>nomatch h),(fun he=>?_)⟩)
   subst he; exact ⟨rfl,q'2_3,(hO'2.pick [] rfl (by decide))⟩
 intro e'1 q'1 k'1 hJ'1
 obtain ⟨n1,rfl⟩:∃ x,x = o'1:=⟨_,rfl⟩
 obtain ⟨rfl,q'1_3,hO'1⟩:=hJ'1
 refine ZaJ (Zc (Zk (Zo (Zf (.n n1) q'1_3 (Zf (.n n1) rfl (Zd (Zc ?_)))))))
 refine zY (zx (zC (n:=2) (v:=.n n1) rfl ZS) ?_)
 cases hp
 exact ⟨rfl,(hO'1.pick [] rfl (by decide))⟩

theorem Za6.ok {h:Hp} {cells:List Za} {v_cells:V} (s_cells:Sl Zi h v_cells cells) {r:Int × Bool} (hp:Za6 cells = some r) :
  ∃ u k',Is G 201 [v_cells] h u k'∧V.tu [.n r.1,.b r.2] = u∧Own (fun r=>r < h.n) h k' []:=by
 refine WC.is (Za7 ZdP ?_)
 unfold Za6 at hp
 let B:Nat→Prop:=(fun r=>r < h.n)
 have hO:Own B h h []:=Own.start0 h
 refine Zk (Zo (Zf (.n 0) rfl (Zf (.b false) rfl (Zd (Zc (Zk (Zo ?_)))))))
 refine Zf v_cells rfl ?_
 obtain ⟨⟨x,x1⟩,hx'1,hp⟩:=Zs hp
 obtain ⟨u'1,k'1,ca'1,v'1,vs'1,rfl,hW'1⟩:=z9.ok (h:=h)  (hO.rd0 s_cells.rd) hx'1
 refine ZaN (id:=203) (caps:=[]) rfl (Zu (v:=v_cells) rfl zi) ca'1 ?_
 have hO'1:=hO.call hW'1 rfl
 refine Zf (.tu [v'1,.n x1]) rfl (Zj (Zbn (vs:=[v'1,.n x1]) (v:=v'1) rfl rfl) (Zj (Zbn (vs:=[v'1,.n x1]) (v:=.n x1) rfl rfl) (Zf v'1 rfl (Zf (.n x1) rfl (Zd (Zc (Zk ?_)))))))
 refine Zo (Zf (.n (-1)) rfl (Zd (Zc (Zk (Zk (Zo (Zf v'1 rfl ?_)))))))
 refine Zj (ZeQ (n:=(x).length) (hO'1.sl 0 rfl) (hO'1.allLen 1 rfl:(vs'1).length = (x).length) rfl) (Zf (.n 0) rfl (Zd (Zc (Zas ?_))))
 obtain ⟨o'1,ho'1,hp⟩:=Zs hp
 refine W.mono (Q:=fun e fr k=>match (generalizing:=false) o'1 with
   | .inl at_1=>e = (.exit 0)∧fr 6 = .n at_1∧Own B h k []
   | .inr _=>e = .ret∧fr 2 = .n 0∧fr 3 = .b false∧Own B h k []) ?_ ?_
 ·clear hp
  refine zR (fun st fr k=>match st with | (at_,x2)=>fr 0 = v_cells∧fr 6 = .n at_∧fr 14 = v'1∧fr 15 = .n (x.length:Int)∧fr 16 = .n x2∧Own B h k [eSl eV v'1 vs'1,ZbI Zg vs'1 x]) ho'1 (s:=((-1),0)) ⟨rfl,rfl,rfl,rfl,rfl,(hO'1.pick [0,1] rfl (by decide))⟩ ?_
  rintro ⟨at_,x2⟩ q'2 k'3 ⟨q'2_0,q'2_6,q'2_14,q'2_15,q'2_16,hO'3⟩ o'2 hp
  dsimp only [Za6.s0] at hp
  refine Zk (Zo (Zj (zL (a:=x2) (b:=(x.length:Int)) q'2_16 q'2_15) (Zd (Zc (Zk ?_)))))
  rcases Zt hp with ⟨b'1,hp⟩ | ⟨b'1,hp⟩
  ·refine zK (t:=(decide (x2 < (x.length:Int)))) rfl b'1 ?_
   refine zN (Zc (Zk (Zas (Zk (Zo (Zf (.n x2) q'2_16 ?_))))))
   obtain ⟨c'1,hp⟩:=Zm hp
   refine Zj (zq (E:=eV) (z:=x2) (hO'3.sl 0 rfl) q'2_14 q'2_16 (by rw [(hO'3.allLen 1 rfl:(vs'1).length = (x).length)]; exact c'1)) (Zj (zO (w:=(gi vs'1 x2.toNat)) (hO'3.sl 0 rfl) rfl (by rw [(hO'3.allLen 1 rfl:(vs'1).length = (x).length)]; exact Zl c'1) rfl) (Zf (.n x2) rfl (Zf ((gi vs'1 x2.toNat)) rfl (Zd (Zc (Zk (Zo ?_)))))))
   refine Zf v_cells q'2_0 (Zf ((gi vs'1 x2.toNat)) rfl ?_)
   obtain ⟨x3,hx'2,hp⟩:=Zs hp
   obtain ⟨u'2,k'4,ca'2,v'2,rfl,hW'2⟩:=ZaL.ok (h:=k'3)  (hO'3.rd0 s_cells.rd) (hO'3.inn 1 rfl (Zl c'1):Sl Zg k'3 (gi vs'1 x2.toNat) (gi x x2.toNat)) hx'2
   refine ZaN (id:=204) (caps:=[]) rfl (Zu (v:=v_cells) rfl (Zu (v:=(gi vs'1 x2.toNat)) rfl zi)) ca'2 ?_
   have hO'4:=hO'3.call hW'2 rfl
   obtain ⟨x4,hx'3,hp⟩:=Zs hp
   obtain ⟨u'3,k'5,ca'3,rfl,hW'3⟩:=Zat.ok (h:=k'4)  (hO'4.sl 2 rfl) hx'3
   refine ZaN (id:=219) (caps:=[]) rfl (Zu (v:=v'2) rfl zi) ca'3 ?_
   have hO'5:=hO'4.call hW'3 rfl
   refine Zd (Zc (Zas (Zk (Zo (Zj (Zb2 (a:=x4) (b:=4) rfl rfl) (Zf (.b (decide (x4 = 4))) rfl (Zd ?_)))))))
   refine Zc ?_
   rcases Zt hp with ⟨b'2,hp⟩ | ⟨b'2,hp⟩
   ·refine zK (t:=(decide (x4 = 4))) rfl b'2 ?_
    refine zN (Zan (Zan (Zc (Zo ?_))))
    obtain ⟨c'2,hp⟩:=Zm hp
    refine Zj (zH (a:=x2) (b:=1) q'2_16 rfl c'2) (Zf (.n (x2 + 1)) rfl (Zd ?_))
    cases hp
    exact (Or.inl ⟨(at_,x2 + 1),rfl,rfl,q'2_0,q'2_6,q'2_14,q'2_15,rfl,(hO'5.pick [0,1] rfl (by decide))⟩)
   ·refine zG (t:=(decide (x4 = 4))) rfl b'2 ?_
    refine Zk (Zo (Zj (Zb2 (a:=x4) (b:=(-4)) rfl rfl) (Zf (.b (decide (x4 = (-4)))) rfl (Zd (Zc ?_)))))
    rcases Zt hp with ⟨b'3,hp⟩ | ⟨b'3,hp⟩
    ·refine zK (t:=(decide (x4 = (-4)))) rfl b'3 ?_
     refine Zk (Zk (Zo (Zf (.n at_) q'2_6 (Zj (Zcy (a:=at_) (b:=0) rfl rfl) (Zd (Zc ?_))))))
     rcases Zt hp with ⟨b'4,hp⟩ | ⟨b'4,hp⟩
     ·refine zK (t:=(decide (0≤at_))) rfl b'4 ?_
      refine Zk (Zo (Zf (.n 0) rfl (Zf (.b false) rfl (Zd (Zc (zY (z5 ?_)))))))
      refine Zbd (Zbd (z5 ?_))
      cases hp
      refine (Or.inr ⟨.inr (),rfl,(fun h=>nomatch h),(fun he=>?_)⟩)
      subst he; exact ⟨rfl,rfl,rfl,(hO'5.pick [] rfl (by decide))⟩
     ·refine zG (t:=(decide (0≤at_))) rfl b'4 ?_
      refine zN (Zc (Zo (Zf (.n x2) rfl (Zf (.n x2) rfl (Zd (Zan (Zan ?_)))))))
      refine Zc (Zo ?_)
      obtain ⟨c'3,hp⟩:=Zm hp
      refine Zj (zH (a:=x2) (b:=1) q'2_16 rfl c'3) (Zf (.n (x2 + 1)) rfl (Zd ?_))
      cases hp
      exact (Or.inl ⟨(x2,x2 + 1),rfl,rfl,q'2_0,rfl,q'2_14,q'2_15,rfl,(hO'5.pick [0,1] rfl (by decide))⟩)
    ·refine zG (t:=(decide (x4 = (-4)))) rfl b'3 ?_
     refine Zk (Zo (Zf (.n 0) rfl (Zf (.b false) rfl (Zd (Zc (zY (Zbd ?_)))))))
     refine Zbd (z5 ?_)
     cases hp
     refine (Or.inr ⟨.inr (),rfl,(fun h=>nomatch h),(fun he=>?_)⟩)
     subst he; exact ⟨rfl,rfl,rfl,(hO'5.pick [] rfl (by decide))⟩
  ·refine zG (t:=(decide (x2 < (x.length:Int)))) rfl b'1 ?_
   refine Zbp (zZ ?_)
   cases hp
   refine (Or.inr ⟨.inl at_,rfl,(fun h=>nomatch h),(fun he=>?_)⟩)
   subst he; exact ⟨rfl,q'2_6,(hO'3.pick [] rfl (by decide))⟩
 intro e'1 q'1 k'2 hJ'1
 rcases o'1 with at_1 | _
 ·obtain ⟨rfl,q'1_6,hO'2⟩:=hJ'1
  refine ZaJ (Zc (Zk (Zo (Zf (.n at_1) q'1_6 (Zf (.n at_1) q'1_6 (Zj (Zcy (a:=at_1) (b:=0) rfl rfl) (Zf (.n at_1) rfl ?_)))))))
  refine Zf (.b (decide (0≤at_1))) rfl (Zd (Zc (zY (zx (zC (n:=2) (v:=.n at_1) rfl (zC (n:=3) (v:=.b (decide (0≤at_1))) rfl ZS)) ?_))))
  cases hp
  exact ⟨rfl,(hO'2.pick [] rfl (by decide))⟩
 ·obtain ⟨rfl,q'1_2,q'1_3,hO'2⟩:=hJ'1
  refine Zbd (z5 (zx (zC (n:=2) (v:=.n 0) q'1_2 (zC (n:=3) (v:=.b false) q'1_3 ZS)) ?_))
  cases hp
  exact ⟨rfl,(hO'2.pick [] rfl (by decide))⟩

theorem Zb1.ok {h:Hp} {cells:List Za} {v_cells:V} (s_cells:Sl Zi h v_cells cells) {r:Int} (hp:Zb1 cells = some r) :
  ∃ u k',Is G 176 [v_cells] h u k'∧V.n r = u∧Own (fun r=>r < h.n) h k' []:=by
 refine WC.is (Za7 ZdO ?_)
 unfold Zb1 at hp
 let B:Nat→Prop:=(fun r=>r < h.n)
 have hO:Own B h h []:=Own.start0 h
 refine Zk (Zo (Zf (.n 0) rfl (Zd (Zc (Zk (Zk (Zo ?_)))))))
 refine Zf v_cells rfl ?_
 obtain ⟨x,hx'1,hp⟩:=Zs hp
 obtain ⟨u'1,k'1,ca'1,rfl,hW'1⟩:=zg.ok (h:=h)  (hO.rd0 s_cells.rd) hx'1
 refine ZaN (id:=66) (caps:=[]) rfl (Zu (v:=v_cells) rfl zi) ca'1 ?_
 have hO'1:=hO.call hW'1 rfl
 refine Zf (.n x) rfl (Zd (Zc (Zk (Zo (Zf (.n x) rfl (Zj (ZcM (a:=x) (b:=0) rfl rfl) (Zd ?_)))))))
 refine Zc ?_
 rcases Zt hp with ⟨b'1,hp⟩ | ⟨b'1,hp⟩
 ·refine zK (t:=(!(decide (x = 0)))) rfl b'1 ?_
  refine Zk (Zo (Zf (.n x) rfl (Zf (.n x) rfl (Zd (Zc (zY (z5 ?_)))))))
  refine zx (zC (n:=2) (v:=.n x) rfl ZS) ?_
  cases hp
  exact ⟨rfl,(hO'1.pick [] rfl (by decide))⟩
 ·refine zG (t:=(!(decide (x = 0)))) rfl b'1 ?_
  refine zN (Zc (Zk (Zk (Zo (Zf v_cells rfl ?_)))))
  obtain ⟨x1,hx'2,hp⟩:=Zs hp
  obtain ⟨u'2,k'2,ca'2,rfl,hW'2⟩:=ZbF.ok (h:=k'1)  (hO'1.rd0 s_cells.rd) hx'2
  refine ZaN (id:=32) (caps:=[]) rfl (Zu (v:=v_cells) rfl zi) ca'2 ?_
  have hO'2:=hO'1.call hW'2 rfl
  refine Zj (Zdd (t:=x1) rfl) (Zd (Zc ?_))
  rcases Zt hp with ⟨b'2,hp⟩ | ⟨b'2,hp⟩
  ·refine zK (t:=(!x1)) rfl b'2 ?_
   refine Zk (Zo (Zf (.n 13) rfl (Zd (Zc (zY (z5 (zx (zC (n:=2) (v:=.n 13) rfl ZS) ?_)))))))
   cases hp
   exact ⟨rfl,(hO'2.pick [] rfl (by decide))⟩
  ·refine zG (t:=(!x1)) rfl b'2 ?_
   refine zN (Zc (Zk (Zk (Zo (Zf v_cells rfl ?_)))))
   obtain ⟨⟨x2,x3⟩,hx'3,hp⟩:=Zs hp
   obtain ⟨u'3,k'3,ca'3,rfl,hW'3⟩:=Za6.ok (h:=k'2)  (hO'2.rd0 s_cells.rd) hx'3
   refine ZaN (id:=201) (caps:=[]) rfl (Zu (v:=v_cells) rfl zi) ca'3 ?_
   have hO'3:=hO'2.call hW'3 rfl
   refine Zf (.tu [.n x2,.b x3]) rfl (Zj (Zbn (vs:=[.n x2,.b x3]) (v:=.n x2) rfl rfl) (Zj (Zbn (vs:=[.n x2,.b x3]) (v:=.b x3) rfl rfl) (Zf (.n x2) rfl (Zf (.b x3) rfl (Zd (Zc (Zk ?_)))))))
   refine Zo (Zf (.b x3) rfl (Zj (Zdd (t:=x3) rfl) (Zf (.b (!x3)) rfl ?_)))
   refine ZaF 4 (fun fr' k'=>k'3 = k'∧fr' 25 = .b ((!x3) && (decide (1 < (cells.length:Int))))) ?_ ?_
   ·rcases bc (!x3) with b'3 | b'3
    ·skip
     refine ZM rfl b'3 (Zf v_cells rfl (ZM rfl b'3 (Zj (Za0 (hO'3.rd0 s_cells.rd) rfl) (ZM rfl b'3 (Zj (ZdQ (a:=(cells.length:Int)) (b:=1) rfl rfl) (Zj (zn (t:=(!x3)) (v:=.b ((!x3) && (decide (1 < (cells.length:Int))))) rfl b'3 (Eq.trans (b:=V.b (decide (1 < (cells.length:Int)))) rfl (Zf5 b'3))) (Zd ?_)))))))
     exact ⟨rfl,rfl⟩
    ·skip
     refine Z1 rfl b'3 (Z1 rfl b'3 (Z1 rfl b'3 (Zj (ze (t:=(!x3)) (v:=.b ((!x3) && (decide (1 < (cells.length:Int))))) rfl b'3 (Eq.trans (b:=V.b false) rfl (ZeA b'3))) (Zd ?_))))
     exact ⟨rfl,rfl⟩
   rintro frg'1 _ ⟨rfl,g'1_25⟩
   refine Zd (Zc ?_)
   rcases Zt hp with ⟨b'4,hp⟩ | ⟨b'4,hp⟩
   ·refine zK (t:=((!x3) && (decide (1 < (cells.length:Int))))) g'1_25 b'4 ?_
    refine Zk (Zo (Zf (.n 10) rfl (Zd (Zc (zY (z5 (zx (zC (n:=2) (v:=.n 10) rfl ZS) ?_)))))))
    cases hp
    exact ⟨rfl,(hO'3.pick [] rfl (by decide))⟩
   ·refine zG (t:=((!x3) && (decide (1 < (cells.length:Int))))) g'1_25 b'4 ?_
    refine zN (Zc (Zk (Zo (Zf (.n 0) rfl (Zd (Zc (zY ?_)))))))
    refine zx (zC (n:=2) (v:=.n 0) rfl ZS) ?_
    cases hp
    exact ⟨rfl,(hO'3.pick [] rfl (by decide))⟩

theorem ZZ.ok {h:Hp} {s:List Ze} {f:Ze→Option Bool} {v_s:V} {id_f:Nat} {cap_f:List V} (s_s:Sl Zb h v_s s) (f_f:∀ (k:Hp) (x0:Ze) (y:Bool),Ex' (fun r=>r < h.n) h k→f x0 = some y→∃ u k',Is G id_f (.ag (Zb.c x0) :: cap_f) k u k'∧V.b y = u∧Own (fun r=>r < k.n) k k' []) {r:Int} (hp:ZZ s f = some r) :
  ∃ u k',Is G 151 [v_s,.f id_f cap_f] h u k'∧V.n r = u∧Own (fun r=>r < h.n) h k' []:=by
 refine WC.is (Za7 Zb6 ?_)
 unfold ZZ at hp
 let B:Nat→Prop:=(fun r=>r < h.n)
 have hO:Own B h h []:=Own.start0 h
 refine Zk (Zo (Zf (.n 0) rfl (Zd (Zc (Zk (Zk (Zo ?_)))))))
 refine Zf v_s rfl (Zj (Za0 (hO.rd0 s_s.rd) rfl) (Zf (.n 0) rfl (Zd (Zc (Zas ?_)))))
 obtain ⟨o'1,ho'1,hp⟩:=Zs hp
 refine W.mono (Q:=fun e fr k=>match (generalizing:=false) o'1 with
   | .inl _=>e = (.exit 0)∧Own B h k []
   | .inr x1=>e = .ret∧fr 4 = .n x1∧Own B h k []) ?_ ?_
 ·clear hp
  refine zR (fun st fr k=>match st with | x=>fr 0 = v_s∧fr 1 = .f id_f cap_f∧fr 7 = .n (s.length:Int)∧fr 8 = .n x∧Own B h k []) ho'1 (s:=0) ⟨rfl,rfl,rfl,rfl,(hO.pick [] rfl (by decide))⟩ ?_
  rintro x q'2 k'2 ⟨q'2_0,q'2_1,q'2_7,q'2_8,hO'2⟩ o'2 hp
  dsimp only [ZZ.s0] at hp
  refine Zk (Zo (Zj (zL (a:=x) (b:=(s.length:Int)) q'2_8 q'2_7) (Zd (Zc (Zk ?_)))))
  rcases Zt hp with ⟨b'1,hp⟩ | ⟨b'1,hp⟩
  ·refine zK (t:=(decide (x < (s.length:Int)))) rfl b'1 ?_
   refine zN (Zc (Zk (Zas (Zk (Zo (Zf (.n x) q'2_8 (Zf (.n x) rfl ?_)))))))
   refine Zd (Zc (Zk (Zo (Zf (.f id_f cap_f) q'2_1 (Zf v_s q'2_0 (Zf (.n x) rfl ?_))))))
   obtain ⟨c'1,hp⟩:=Zm hp
   refine Zj (zq (E:=Zb) (z:=x) (hO'2.rd0 s_s.rd) rfl rfl c'1) (Zj (Zdp (E:=Zb) (hO'2.rd0 s_s.rd) rfl (Zl c'1)) ?_)
   obtain ⟨x2,hx'1,hp⟩:=Zs hp
   obtain ⟨u'1,k'3,ca'1,rfl,hW'1⟩:=f_f _ _ _ hO'2.ext hx'1
   refine ZaN (id:=id_f) (caps:=cap_f) rfl (Zu (v:=.ag (Zb.c (gi s x.toNat))) rfl zi) ca'1 ?_
   have hO'3:=hO'2.call hW'1 rfl
   refine Zd (Zc ?_)
   rcases Zt hp with ⟨b'2,hp⟩ | ⟨b'2,hp⟩
   ·refine zK (t:=x2) rfl b'2 ?_
    refine Zk (Zo (Zf (.n x) rfl (Zf (.n x) rfl (Zd (Zc (zY (Zbd ?_)))))))
    refine z5 ?_
    cases hp
    refine (Or.inr ⟨.inr x,rfl,(fun h=>nomatch h),(fun he=>?_)⟩)
    subst he; exact ⟨rfl,rfl,(hO'3.pick [] rfl (by decide))⟩
   ·refine zG (t:=x2) rfl b'2 ?_
    refine zN (Zan (Zc (Zo ?_)))
    obtain ⟨c'2,hp⟩:=Zm hp
    refine Zj (zH (a:=x) (b:=1) q'2_8 rfl c'2) (Zf (.n (x + 1)) rfl (Zd ?_))
    cases hp
    exact (Or.inl ⟨x + 1,rfl,rfl,q'2_0,q'2_1,q'2_7,rfl,(hO'3.pick [] rfl (by decide))⟩)
  ·refine zG (t:=(decide (x < (s.length:Int)))) rfl b'1 ?_
   refine Zbp (zZ ?_)
   cases hp
   refine (Or.inr ⟨.inl (),rfl,(fun h=>nomatch h),(fun he=>?_)⟩)
   subst he; exact ⟨rfl,(hO'2.pick [] rfl (by decide))⟩
 intro e'1 q'1 k'1 hJ'1
 rcases o'1 with _ | x1
 ·obtain ⟨rfl,hO'1⟩:=hJ'1
  refine ZaJ (Zc (Zk (Zo (Zf (.n (-1)) rfl (Zd (Zc (zY ?_)))))))
  refine zx (zC (n:=4) (v:=.n (-1)) rfl ZS) ?_
  cases hp
  exact ⟨rfl,(hO'1.pick [] rfl (by decide))⟩
 ·obtain ⟨rfl,q'1_4,hO'1⟩:=hJ'1
  refine Zbd (z5 (zx (zC (n:=4) (v:=.n x1) q'1_4 ZS) ?_))
  cases hp
  exact ⟨rfl,(hO'1.pick [] rfl (by decide))⟩

theorem zD.ok {h:Hp} {s:List Ze} {f:Ze→Option Bool} {v_s:V} {id_f:Nat} {cap_f:List V} (s_s:Sl Zb h v_s s) (f_f:∀ (k:Hp) (x0:Ze) (y:Bool),Ex' (fun r=>r < h.n) h k→f x0 = some y→∃ u k',Is G id_f (.ag (Zb.c x0) :: cap_f) k u k'∧V.b y = u∧Own (fun r=>r < k.n) k k' []) {r:Bool} (hp:zD s f = some r) :
  ∃ u k',Is G 146 [v_s,.f id_f cap_f] h u k'∧V.b r = u∧Own (fun r=>r < h.n) h k' []:=by
 refine WC.is (Za7 Zbt ?_)
 unfold zD at hp
 let B:Nat→Prop:=(fun r=>r < h.n)
 have hO:Own B h h []:=Own.start0 h
 refine Zk (Zo (Zf (.b false) rfl (Zd (Zc (Zk (Zo (Zf v_s rfl ?_)))))))
 refine Zf (.f id_f cap_f) rfl ?_
 obtain ⟨x,hx'1,hp⟩:=Zs hp
 obtain ⟨u'1,k'1,ca'1,rfl,hW'1⟩:=ZZ.ok (h:=h)  (hO.rd0 s_s.rd) (fun k z0 y hk hx=>f_f k z0 y (Zmz hO hk) hx) hx'1
 refine ZaN (id:=151) (caps:=[]) rfl (Zu (v:=v_s) rfl (Zu (v:=.f id_f cap_f) rfl zi)) ca'1 ?_
 have hO'1:=hO.call hW'1 rfl
 refine Zj (Zcy (a:=x) (b:=0) rfl rfl) (Zf (.b (decide (0≤x))) rfl (Zd (Zc (zY (zx (zC (n:=4) (v:=.b (decide (0≤x))) rfl ZS) ?_)))))
 cases hp
 exact ⟨rfl,(hO'1.pick [] rfl (by decide))⟩

theorem ZcE.ok {h:Hp} {p:Ze}   {r:Bool} (hp:ZcE p = some r) :
  ∃ u k',Is G 147 [.ag (Zb.c p)] h u k'∧V.b r = u∧Own (fun r=>r < h.n) h k' []:=by
 refine WC.is (Za7 Ze7 ?_)
 unfold ZcE at hp
 let B:Nat→Prop:=(fun r=>r < h.n)
 have hO:Own B h h []:=Own.start0 h
 refine Zk (Zo (zF (hO.boxd (v:=.ag (Zb.c p)) (cs:=Zb.c p) hO.fr rfl rfl) ?_))
 rintro _ k'1 ⟨r'1,rfl,n'1,f'1,hW⟩
 have hO'1:=hW
 refine Zf (.b false) rfl (Zd (Zc (Zk (Zo (Zj (Zaz (r:=r'1) (o:=0) (o':=0) rfl rfl) (Zj (zV (cs:=(Zb.c p)) (v:=.n p.X) (hO'1.box 0 rfl) rfl rfl) (Zj (Zaz (r:=r'1) (o:=0) (o':=1) rfl rfl) ?_)))))))
 refine Zj (zV (cs:=(Zb.c p)) (v:=.n p.Y) (hO'1.box 0 rfl) rfl rfl) (Zj (Zna (a:=p.X) (b:=p.Y) rfl rfl) (Zj (ZdQ (a:=(max p.X p.Y)) (b:=1000000) rfl rfl) (Zf (.b (decide (1000000 < (max p.X p.Y)))) rfl ?_)))
 refine ZaF 7 (fun fr' k'=>k'1 = k'∧fr' 16 = .b ((decide (1000000 < (max p.X p.Y))) || (decide ((min p.X p.Y) < (-1000000))))) ?_ ?_
 ·rcases bc (decide (1000000 < (max p.X p.Y))) with b'1 | b'1
  ·skip
   refine Z1 rfl b'1 (Z1 rfl b'1 (Z1 rfl b'1 (Z1 rfl b'1 (Z1 rfl b'1 (Z1 rfl b'1 (Zj (zn (t:=(decide (1000000 < (max p.X p.Y)))) (v:=.b ((decide (1000000 < (max p.X p.Y))) || (decide ((min p.X p.Y) < (-1000000))))) rfl b'1 (Eq.trans (b:=V.b true) rfl (Zbz b'1))) (Zd ?_)))))))
   exact ⟨rfl,rfl⟩
  ·skip
   refine ZM rfl b'1 (Zj (Zaz (r:=r'1) (o:=0) (o':=0) rfl rfl) (ZM rfl b'1 (Zj (zV (cs:=(Zb.c p)) (v:=.n p.X) (hO'1.box 0 rfl) rfl rfl) (ZM rfl b'1 (Zj (Zaz (r:=r'1) (o:=0) (o':=1) rfl rfl) (ZM rfl b'1 (Zj (zV (cs:=(Zb.c p)) (v:=.n p.Y) (hO'1.box 0 rfl) rfl rfl) ?_)))))))
   refine ZM rfl b'1 (Zj (ZmZ (a:=p.X) (b:=p.Y) rfl rfl) (ZM rfl b'1 (Zj (zL (a:=(min p.X p.Y)) (b:=(-1000000)) rfl rfl) (Zj (ze (t:=(decide (1000000 < (max p.X p.Y)))) (v:=.b ((decide (1000000 < (max p.X p.Y))) || (decide ((min p.X p.Y) < (-1000000))))) rfl b'1 (Eq.trans (b:=V.b (decide ((min p.X p.Y) < (-1000000)))) rfl (Zcf b'1))) (Zd ?_)))))
   exact ⟨rfl,rfl⟩
 rintro frg'1 _ ⟨rfl,g'1_16⟩
 refine Zf (.b ((decide (1000000 < (max p.X p.Y))) || (decide ((min p.X p.Y) < (-1000000))))) g'1_16 (Zd (Zc (zY (zx (zC (n:=2) (v:=.b ((decide (1000000 < (max p.X p.Y))) || (decide ((min p.X p.Y) < (-1000000))))) rfl ZS) ?_))))
 cases hp
 exact ⟨rfl,(hO'1.pick [] rfl (by decide))⟩

theorem ZaC.ok {h:Hp} {a:Ze} {b:Ze}   {r:Int × Bool} (hp:ZaC a b = some r) :
  ∃ u k',Is G 148 [.ag (Zb.c a),.ag (Zb.c b)] h u k'∧V.tu [.n r.1,.b r.2] = u∧Own (fun r=>r < h.n) h k' []:=by
 refine WC.is (Za7 ZcT ?_)
 unfold ZaC at hp
 let B:Nat→Prop:=(fun r=>r < h.n)
 have hO:Own B h h []:=Own.start0 h
 refine Zk (Zo (zF (hO.boxd (v:=.ag (Zb.c a)) (cs:=Zb.c a) hO.fr rfl rfl) ?_))
 rintro _ k'1 ⟨r'1,rfl,n'1,f'1,hW⟩
 have hO'1:=hW
 refine zF (hO'1.boxd (v:=.ag (Zb.c b)) (cs:=Zb.c b) hO'1.fr rfl rfl) ?_
 rintro _ k'2 ⟨r'2,rfl,n'2,f'2,hW⟩
 have hO'2:=hW
 refine Zf (.n 0) rfl (Zf (.b false) rfl (Zd (Zc (Zk (Zas (Zk (Zo ?_)))))))
 refine Zj (Zaz (r:=r'1) (o:=0) (o':=0) rfl rfl) (Zj (zV (cs:=(Zb.c a)) (v:=.n a.X) (hO'2.box 0 rfl) rfl rfl) (Zj (Zaz (r:=r'2) (o:=0) (o':=0) rfl rfl) (Zj (zV (cs:=(Zb.c b)) (v:=.n b.X) (hO'2.box 1 rfl) rfl rfl) (Zj (Zb2 (a:=a.X) (b:=b.X) rfl rfl) (Zj (Zaz (r:=r'1) (o:=0) (o':=1) rfl rfl) (Zj (zV (cs:=(Zb.c a)) (v:=.n a.Y) (hO'2.box 0 rfl) rfl rfl) (Zj (Zaz (r:=r'2) (o:=0) (o':=1) rfl rfl) ?_)))))))
 refine Zj (zV (cs:=(Zb.c b)) (v:=.n b.Y) (hO'2.box 1 rfl) rfl rfl) (Zj (Zb2 (a:=a.Y) (b:=b.Y) rfl rfl) (Zj (Zmt (a:=(decide (a.X = b.X))) (b:=(decide (a.Y = b.Y))) rfl rfl) (Zf (.b (decide ((decide (a.X = b.X)) = (decide (a.Y = b.Y))))) rfl (Zd (Zc ?_)))))
 rcases Zt hp with ⟨b'1,hp⟩ | ⟨b'1,hp⟩
 ·refine zK (t:=(decide ((decide (a.X = b.X)) = (decide (a.Y = b.Y))))) rfl b'1 ?_
  refine Zk (Zo (Zf (.n 0) rfl (Zf (.b false) rfl (Zd (Zc (zY (Zbd ?_)))))))
  refine z5 (zx (zC (n:=4) (v:=.n 0) rfl (zC (n:=5) (v:=.b false) rfl ZS)) ?_)
  cases hp
  exact ⟨rfl,(hO'2.pick [] rfl (by decide))⟩
 ·refine zG (t:=(decide ((decide (a.X = b.X)) = (decide (a.Y = b.Y))))) rfl b'1 ?_
  refine Zk (Zo (Zj (Zaz (r:=r'1) (o:=0) (o':=0) rfl rfl) (Zj (zV (cs:=(Zb.c a)) (v:=.n a.X) (hO'2.box 0 rfl) rfl rfl) (Zj (Zaz (r:=r'2) (o:=0) (o':=0) rfl rfl) (Zj (zV (cs:=(Zb.c b)) (v:=.n b.X) (hO'2.box 1 rfl) rfl rfl) (Zj (zL (a:=a.X) (b:=b.X) rfl rfl) (Zf (.b (decide (a.X < b.X))) rfl ?_)))))))
  refine Zd (Zc ?_)
  rcases Zt hp with ⟨b'2,hp⟩ | ⟨b'2,hp⟩
  ·refine zK (t:=(decide (a.X < b.X))) rfl b'2 ?_
   refine Zk (Zo (Zf (.n 0) rfl (Zf (.b true) rfl (Zd (Zc (zY (Zbd ?_)))))))
   refine z5 (zx (zC (n:=4) (v:=.n 0) rfl (zC (n:=5) (v:=.b true) rfl ZS)) ?_)
   cases hp
   exact ⟨rfl,(hO'2.pick [] rfl (by decide))⟩
  ·refine zG (t:=(decide (a.X < b.X))) rfl b'2 ?_
   refine Zk (Zo (Zj (Zaz (r:=r'1) (o:=0) (o':=0) rfl rfl) (Zj (zV (cs:=(Zb.c a)) (v:=.n a.X) (hO'2.box 0 rfl) rfl rfl) (Zj (Zaz (r:=r'2) (o:=0) (o':=0) rfl rfl) (Zj (zV (cs:=(Zb.c b)) (v:=.n b.X) (hO'2.box 1 rfl) rfl rfl) (Zj (ZdQ (a:=a.X) (b:=b.X) rfl rfl) (Zf (.b (decide (b.X < a.X))) rfl ?_)))))))
   refine Zd (Zc ?_)
   rcases Zt hp with ⟨b'3,hp⟩ | ⟨b'3,hp⟩
   ·refine zK (t:=(decide (b.X < a.X))) rfl b'3 ?_
    refine Zk (Zo (Zf (.n 2) rfl (Zf (.b true) rfl (Zd (Zc (zY (Zbd ?_)))))))
    refine z5 (zx (zC (n:=4) (v:=.n 2) rfl (zC (n:=5) (v:=.b true) rfl ZS)) ?_)
    cases hp
    exact ⟨rfl,(hO'2.pick [] rfl (by decide))⟩
   ·refine zG (t:=(decide (b.X < a.X))) rfl b'3 ?_
    refine Zk (Zo (Zj (Zaz (r:=r'1) (o:=0) (o':=1) rfl rfl) (Zj (zV (cs:=(Zb.c a)) (v:=.n a.Y) (hO'2.box 0 rfl) rfl rfl) (Zj (Zaz (r:=r'2) (o:=0) (o':=1) rfl rfl) (Zj (zV (cs:=(Zb.c b)) (v:=.n b.Y) (hO'2.box 1 rfl) rfl rfl) (Zj (zL (a:=a.Y) (b:=b.Y) rfl rfl) (Zf (.b (decide (a.Y < b.Y))) rfl ?_)))))))
    refine Zd (Zc ?_)
    rcases Zt hp with ⟨b'4,hp⟩ | ⟨b'4,hp⟩
    ·refine zK (t:=(decide (a.Y < b.Y))) rfl b'4 ?_
     refine Zk (Zo (Zf (.n 1) rfl (Zf (.b true) rfl (Zd (Zc (zY (Zbd ?_)))))))
     refine z5 (zx (zC (n:=4) (v:=.n 1) rfl (zC (n:=5) (v:=.b true) rfl ZS)) ?_)
     cases hp
     exact ⟨rfl,(hO'2.pick [] rfl (by decide))⟩
    ·refine zG (t:=(decide (a.Y < b.Y))) rfl b'4 ?_
     refine zN (Zan (Zc (Zk (Zo (Zf (.n 3) rfl (Zf (.b true) rfl (Zd ?_)))))))
     refine Zc (zY (zx (zC (n:=4) (v:=.n 3) rfl (zC (n:=5) (v:=.b true) rfl ZS)) ?_))
     cases hp
     exact ⟨rfl,(hO'2.pick [] rfl (by decide))⟩

theorem Zb0.ok {h:Hp} {owner:Int}   {r:Int} (hp:Zb0 owner = some r) :
  ∃ u k',Is G 149 [.n owner] h u k'∧V.n r = u∧Own (fun r=>r < h.n) h k' []:=by
 refine WC.is (Za7 ZdL ?_)
 unfold Zb0 at hp
 let B:Nat→Prop:=(fun r=>r < h.n)
 have hO:Own B h h []:=Own.start0 h
 refine Zk (Zo (Zf (.n 0) rfl (Zd (Zc (Zk (Zk (Zo ?_)))))))
 refine Zf (.n owner) rfl (Zj (Zcy (a:=owner) (b:=0) rfl rfl) (Zd (Zc ?_)))
 rcases Zt hp with ⟨b'1,hp⟩ | ⟨b'1,hp⟩
 ·refine zK (t:=(decide (0≤owner))) rfl b'1 ?_
  refine Zk (Zo (Zf (.n 1) rfl (Zd (Zc (zY (z5 (zx (zC (n:=2) (v:=.n 1) rfl ZS) ?_)))))))
  cases hp
  exact ⟨rfl,(hO.pick [] rfl (by decide))⟩
 ·refine zG (t:=(decide (0≤owner))) rfl b'1 ?_
  refine zN (Zc (Zk (Zo (Zf (.n 0) rfl (Zd (Zc (zY ?_)))))))
  refine zx (zC (n:=2) (v:=.n 0) rfl ZS) ?_
  cases hp
  exact ⟨rfl,(hO.pick [] rfl (by decide))⟩

theorem z7.ok {h:Hp} {cells:List Za} {at_:List Ze} {v_cells:V} {v_at_:V} (s_cells:Sl Zi h v_cells cells) (s_at_:Sl Zb h v_at_ at_) {r:Int × Int} (hp:z7 cells at_ = some r) :
  ∃ u k',Is G 133 [v_cells,v_at_] h u k'∧V.tu [.n r.1,.n r.2] = u∧Own (fun r=>r < h.n) h k' []:=by
 refine WC.is (Za7 ZdK ?_)
 unfold z7 at hp
 let B:Nat→Prop:=(fun r=>r < h.n)
 have hO:Own B h h []:=Own.start0 h
 refine Zk (Zo (Zf (.n 0) rfl (Zf (.n 0) rfl (Zd (Zc (Zk (Zk ?_)))))))
 refine Zo (Zf v_cells rfl ?_)
 obtain ⟨x,hx'1,hp⟩:=Zs hp
 obtain ⟨u'1,k'1,ca'1,rfl,hW'1⟩:=zg.ok (h:=h)  (hO.rd0 s_cells.rd) hx'1
 refine ZaN (id:=66) (caps:=[]) rfl (Zu (v:=v_cells) rfl zi) ca'1 ?_
 have hO'1:=hO.call hW'1 rfl
 refine Zf (.n x) rfl (Zd (Zc (Zk (Zo (Zf (.n x) rfl (Zj (ZcM (a:=x) (b:=0) rfl rfl) (Zd ?_)))))))
 refine Zc ?_
 rcases Zt hp with ⟨b'1,hp⟩ | ⟨b'1,hp⟩
 ·refine zK (t:=(!(decide (x = 0)))) rfl b'1 ?_
  refine Zk (Zo (Zf (.n x) rfl (Zf (.n 0) rfl (Zf (.n x) rfl (Zd (Zc (zY ?_)))))))
  refine z5 (zx (zC (n:=4) (v:=.n 0) rfl (zC (n:=5) (v:=.n x) rfl ZS)) ?_)
  cases hp
  exact ⟨rfl,(hO'1.pick [] rfl (by decide))⟩
 ·refine zG (t:=(!(decide (x = 0)))) rfl b'1 ?_
  refine zN (Zc (Zk (Zk (Zo (Zf v_at_ rfl (Zj (Za0 (hO'1.rd0 s_at_.rd) rfl) (Zf v_cells rfl ?_)))))))
  refine Zj (Za0 (hO'1.rd0 s_cells.rd) rfl) (Zj (ZcM (a:=(at_.length:Int)) (b:=(cells.length:Int)) rfl rfl) (Zf (.b (!(decide ((at_.length:Int) = (cells.length:Int))))) rfl ?_))
  obtain ⟨t,hv'1,hp⟩:=Zs hp
  refine ZaF 3 (fun fr' k'=>Own B h k' []∧fr' 28 = .b t∧fr' 0 = v_cells∧fr' 1 = v_at_) ?_ ?_
  ·clear hp; rcases Zt hv'1 with ⟨b'2,hp⟩ | ⟨b'2,hp⟩
   ·skip
    refine Z1 rfl b'2 (Z1 rfl b'2 (Zj (zn (t:=(!(decide ((at_.length:Int) = (cells.length:Int))))) (v:=.b t) rfl b'2 (Eq.trans (b:=V.b true) rfl (congrArg V.b (Option.some.inj hp)))) (Zd ?_)))
    exact ⟨hO'1.pick [] rfl (by decide),rfl,rfl,rfl⟩
   ·skip
    refine ZM rfl b'2 (Zf v_at_ rfl (ZM rfl b'2 ?_))
    obtain ⟨x1,hx'2,hp⟩:=Zs hp
    obtain ⟨u'2,k'2,ca'2,rfl,hW'2⟩:=zD.ok (h:=k'1)  (hO'1.rd0 s_at_.rd) (fun k z0 y hk hx=>ZcE.ok (h:=k)  hx) hx'2
    refine ZaN (id:=146) (caps:=[]) rfl (Zu (v:=v_at_) rfl (Zu (v:=.f 147 []) rfl zi)) ca'2 ?_
    have hO'2:=hO'1.call hW'2 rfl
    refine Zj (ze (t:=(!(decide ((at_.length:Int) = (cells.length:Int))))) (v:=.b t) rfl b'2 (Eq.trans (b:=V.b x1) rfl (congrArg V.b (Option.some.inj hp)))) (Zd ?_)
    exact ⟨hO'2.pick [] rfl (by decide),rfl,rfl,rfl⟩
  rintro frg'1 k'3 ⟨hO'3,g'1_28,g'1_0,g'1_1⟩
  refine Zd (Zc ?_)
  rcases Zt hp with ⟨b'3,hp⟩ | ⟨b'3,hp⟩
  ·refine zK (t:=t) g'1_28 b'3 ?_
   refine Zk (Zo (Zf (.n 0) rfl (Zf (.n 2) rfl (Zd (Zc (zY (z5 ?_)))))))
   refine zx (zC (n:=4) (v:=.n 0) rfl (zC (n:=5) (v:=.n 2) rfl ZS)) ?_
   cases hp
   exact ⟨rfl,(hO'3.pick [] rfl (by decide))⟩
  ·refine zG (t:=t) g'1_28 b'3 ?_
   refine zN (Zc (Zk (Zo (Zf (.n 0) rfl (Zd (Zc (Zk ?_)))))))
   refine Zk (Zo (Zf v_cells g'1_0 (Zj (Za0 (hO'3.rd0 s_cells.rd) rfl) (Zf (.n 0) rfl (Zd (Zc (Zas ?_)))))))
   obtain ⟨o'1,ho'1,hp⟩:=Zs hp
   refine W.mono (Q:=fun e fr k=>match (generalizing:=false) o'1 with
     | .inl sum1=>e = (.exit 0)∧fr 7 = .n sum1∧Own B h k []
     | .inr _=>e = .ret∧fr 4 = .n 0∧fr 5 = .n 15∧Own B h k []) ?_ ?_
   ·clear hp
    refine zR (fun st fr k=>match st with | (sum,x2)=>fr 1 = v_at_∧fr 7 = .n sum∧fr 29 = v_cells∧fr 30 = .n (cells.length:Int)∧fr 31 = .n x2∧Own B h k []) ho'1 (s:=(0,0)) ⟨g'1_1,rfl,rfl,rfl,rfl,(hO'3.pick [] rfl (by decide))⟩ ?_
    rintro ⟨sum,x2⟩ q'2 k'5 ⟨q'2_1,q'2_7,q'2_29,q'2_30,q'2_31,hO'5⟩ o'2 hp
    dsimp only [z7.s0] at hp
    refine Zk (Zo (Zj (zL (a:=x2) (b:=(cells.length:Int)) q'2_31 q'2_30) (Zd (Zc (Zk ?_)))))
    rcases Zt hp with ⟨b'4,hp⟩ | ⟨b'4,hp⟩
    ·refine zK (t:=(decide (x2 < (cells.length:Int)))) rfl b'4 ?_
     refine zN (Zc (Zk (Zas (Zk (Zo (Zf (.n x2) q'2_31 ?_))))))
     obtain ⟨c'1,hp⟩:=Zm hp
     refine Zj (zq (E:=Zi) (z:=x2) (hO'5.rd0 s_cells.rd) q'2_29 q'2_31 c'1) (Zj (Zdp (E:=Zi) (hO'5.rd0 s_cells.rd) rfl (Zl c'1)) (zF (hO'5.alloc (cs:=Zi.c (⟨⟨0,0,0,0⟩,⟨0,0,0,0⟩⟩:Za)) hO'5.fr) ?_))
     rintro _ k'6 ⟨r'1,rfl,n'1,f'1,hW⟩
     have hO'6:=hW
     refine Zf (.n x2) rfl (zF (hO'6.stb (ws:=Zi.c (gi cells x2.toNat)) (cs':=Zi.c (gi cells x2.toNat)) (v:=.ag (Zi.c (gi cells x2.toNat))) 0 rfl rfl rfl rfl ⟨rfl,Nat.le_of_ble_eq_true rfl,rfl⟩ rfl) ?_)
     rintro _ k'7 ⟨rfl,f'2,m'1,hW⟩
     have hO'7:=hW
     refine Zd (Zc (Zk (Zo (zF (hO'7.bsl (E:=zd) (l:=([0,1]:List Int)) hO'7.fr (by rw [(zp (v:=.n 0) rfl (zp (v:=.n 1) rfl Zak))]; rfl) rfl) ?_))))
     rintro v'1 k'8 ⟨r'2,f'3,hW⟩
     have hO'8:=hW
     refine Zj (Za0 (hO'8.sl 1 rfl) rfl) (Zf (.n 0) rfl (Zd (Zc (Zas ?_))))
     obtain ⟨o'3,ho'2,hp⟩:=Zs hp
     refine W.mono (Q:=fun e fr k=>match (generalizing:=false) o'3 with
       | .inl sum3=>e = (.exit 2)∧fr 1 = v_at_∧fr 7 = .n sum3∧fr 29 = v_cells∧fr 30 = .n (cells.length:Int)∧fr 31 = .n x2∧Own B h k []
       | .inr _=>e = .ret∧fr 4 = .n 0∧fr 5 = .n 15∧Own B h k []) ?_ ?_
     ·clear hp
      refine zR (fun st fr k=>match st with | (sum2,x3)=>fr 1 = v_at_∧fr 7 = .n sum2∧fr 8 = .n x2∧fr 9 = .p r'1 0∧fr 29 = v_cells∧fr 30 = .n (cells.length:Int)∧fr 31 = .n x2∧fr 36 = v'1∧fr 37 = .n (([0,1]:List Int).length:Int)∧fr 38 = .n x3∧Own B h k [Zbw r'1 (Zi.c (gi cells x2.toNat)),eSl zd v'1 ([0,1]:List Int)]) ho'2 (s:=(sum,0)) ⟨q'2_1,q'2_7,rfl,rfl,q'2_29,q'2_30,q'2_31,rfl,rfl,rfl,(hO'8.pick [0,1] rfl (by decide))⟩ ?_
      rintro ⟨sum2,x3⟩ q'4 k'10 ⟨q'4_1,q'4_7,q'4_8,q'4_9,q'4_29,q'4_30,q'4_31,q'4_36,q'4_37,q'4_38,hO'10⟩ o'4 hp
      dsimp only [z7.s1] at hp
      refine Zk (Zo (Zj (zL (a:=x3) (b:=(([0,1]:List Int).length:Int)) q'4_38 q'4_37) (Zd (Zc (Zk ?_)))))
      rcases Zt hp with ⟨b'5,hp⟩ | ⟨b'5,hp⟩
      ·refine zK (t:=(decide (x3 < (([0,1]:List Int).length:Int)))) rfl b'5 ?_
       refine zN (Zc (Zk (Zas (Zk (Zo ?_)))))
       obtain ⟨c'2,hp⟩:=Zm hp
       refine Zj (zq (E:=zd) (z:=x3) (hO'10.sl 1 rfl) q'4_36 q'4_38 c'2) (Zj (zO (w:=.n (gi ([0,1]:List Int) x3.toNat)) (hO'10.sl 1 rfl) rfl (Zl c'2) rfl) (Zf (.n (gi ([0,1]:List Int) x3.toNat)) rfl (Zd (Zc (Zk (Zo (Zf (.n (gi ([0,1]:List Int) x3.toNat)) rfl ?_)))))))
       refine Zj (Zaz (r:=r'1) (o:=0) (o':=0) q'4_9 rfl) ?_
       obtain ⟨c'3,hp⟩:=Zm hp
       refine Zj (Zdc (o:=0) (o':=(0 + (gi ([0,1]:List Int) x3.toNat:Int).toNat * 1)) (z:=(gi ([0,1]:List Int) x3.toNat)) rfl rfl c'3 rfl) (Zj (zV (cs:=(Zi.c (gi cells x2.toNat))) (v:=.n (((gi cells x2.toNat).Next).get (gi ([0,1]:List Int) x3.toNat))) (hO'10.box 0 rfl) rfl (zI c'3)) (Zf (.n (((gi cells x2.toNat).Next).get (gi ([0,1]:List Int) x3.toNat))) rfl (Zd (Zc (Zk (Zk (Zo ?_)))))))
       refine Zf (.n (((gi cells x2.toNat).Next).get (gi ([0,1]:List Int) x3.toNat))) rfl (Zj (zL (a:=(((gi cells x2.toNat).Next).get (gi ([0,1]:List Int) x3.toNat))) (b:=0) rfl rfl) (Zd (Zc ?_)))
       rcases Zt hp with ⟨b'6,hp⟩ | ⟨b'6,hp⟩
       ·refine zK (t:=(decide ((((gi cells x2.toNat).Next).get (gi ([0,1]:List Int) x3.toNat)) < 0))) rfl b'6 ?_
        refine Zbp (zZ (ZaJ (Zc (Zo ?_))))
        obtain ⟨c'4,hp⟩:=Zm hp
        refine Zj (zH (a:=x3) (b:=1) q'4_38 rfl c'4) (Zf (.n (x3 + 1)) rfl (Zd ?_))
        cases hp
        exact (Or.inl ⟨(sum2,x3 + 1),rfl,rfl,q'4_1,q'4_7,q'4_8,q'4_9,q'4_29,q'4_30,q'4_31,q'4_36,q'4_37,rfl,(hO'10.pick [0,1] rfl (by decide))⟩)
       ·refine zG (t:=(decide ((((gi cells x2.toNat).Next).get (gi ([0,1]:List Int) x3.toNat)) < 0))) rfl b'6 ?_
        refine zN (Zc (Zk (Zk (Zfj ?_))))
        have hW:=hO'10.bump 14
        have fr'1:=Fresh.start k'10 14
        have nb'1:∀ {i:Nat},h.n≤k'10.n + i:=Nat.le_trans hO'10.n (Nat.le_add_right _ _)
        have hO'11:=hW
        refine ZaK v_at_ q'4_1 (ZaK (.n x2) q'4_8 ?_)
        obtain ⟨c'5,hp⟩:=Zm hp
        refine zm (zq (E:=Zb) (z:=x2) (hO'11.rd0 s_at_.rd) rfl rfl c'5) (zm (Zdp (E:=Zb) (hO'11.rd0 s_at_.rd) rfl (Zl c'5)) (ZaK v_at_ q'4_1 (ZaK (.n (((gi cells x2.toNat).Next).get (gi ([0,1]:List Int) x3.toNat))) rfl ?_)))
        obtain ⟨c'6,hp⟩:=Zm hp
        refine zm (zq (E:=Zb) (z:=(((gi cells x2.toNat).Next).get (gi ([0,1]:List Int) x3.toNat))) (hO'11.rd0 s_at_.rd) rfl rfl c'6) (zm (Zdp (E:=Zb) (hO'11.rd0 s_at_.rd) rfl (Zl c'6)) ?_)
        obtain ⟨⟨x4,x5⟩,hx'3,hp⟩:=Zs hp
        obtain ⟨u'3,k'12,ca'3,rfl,hW'3⟩:=ZaC.ok (h:=(k'10.bump 14))   hx'3
        refine Zhc (id:=148) (caps:=[]) rfl (Zu (v:=.ag (Zb.c (gi at_ x2.toNat))) rfl (Zu (v:=.ag (Zb.c (gi at_ (((gi cells x2.toNat).Next).get (gi ([0,1]:List Int) x3.toNat):Int).toNat))) rfl zi)) ca'3 ?_
        have fr'2:=fr'1.call hW'3
        have hO'12:=hO'11.call hW'3 rfl
        refine ZaK (.tu [.n x4,.b x5]) rfl (zm (Zbn (vs:=[.n x4,.b x5]) (v:=.n x4) rfl rfl) (zm (Zbn (vs:=[.n x4,.b x5]) (v:=.b x5) rfl rfl) (ZaK (.n x4) rfl (ZaK (.b x5) rfl (ZbZ ?_)))))
        refine And.intro ?_ ?_
        ·intro q hq
         simp only [List.mem_cons,List.not_mem_nil,or_false] at hq
         rcases hq with rfl
         ·refine Za8 ?_ ?_
          ·exact (fun h=>nomatch h)
          ·exact (fun h=>nomatch h)
        refine Zc (Zk (Zo (Zf (.b x5) rfl (Zj (Zdd (t:=x5) rfl) (Zf (.b (!x5)) rfl ?_)))))
        refine ZaF 4 (fun fr' k'=>k'12 = k'∧fr' 66 = .b ((!x5) || (!(decide (x4 = gi ([0,1]:List Int) x3.toNat))))∧fr' 1 = v_at_∧fr' 11 = .n (gi ([0,1]:List Int) x3.toNat)∧fr' 12 = .n (((gi cells x2.toNat).Next).get (gi ([0,1]:List Int) x3.toNat))∧fr' 29 = v_cells∧fr' 30 = .n (cells.length:Int)∧fr' 31 = .n x2∧fr' 36 = v'1∧fr' 37 = .n (([0,1]:List Int).length:Int)∧fr' 38 = .n x3∧fr' 7 = .n sum2∧fr' 8 = .n x2∧fr' 9 = .p r'1 0) ?_ ?_
        ·rcases bc (!x5) with b'7 | b'7
         ·skip
          refine Z1 rfl b'7 (Z1 rfl b'7 (Z1 rfl b'7 (Zj (zn (t:=(!x5)) (v:=.b ((!x5) || (!(decide (x4 = gi ([0,1]:List Int) x3.toNat))))) rfl b'7 (Eq.trans (b:=V.b true) rfl (Zbz b'7))) (Zd ?_))))
          exact ⟨rfl,rfl,q'4_1,rfl,rfl,q'4_29,q'4_30,q'4_31,q'4_36,q'4_37,q'4_38,q'4_7,q'4_8,q'4_9⟩
         ·skip
          refine ZM rfl b'7 (Zf (.n x4) rfl (ZM rfl b'7 (Zf (.n (gi ([0,1]:List Int) x3.toNat)) rfl (ZM rfl b'7 (Zj (ZcM (a:=x4) (b:=(gi ([0,1]:List Int) x3.toNat)) rfl rfl) (Zj (ze (t:=(!x5)) (v:=.b ((!x5) || (!(decide (x4 = gi ([0,1]:List Int) x3.toNat))))) rfl b'7 (Eq.trans (b:=V.b (!(decide (x4 = gi ([0,1]:List Int) x3.toNat)))) rfl (Zcf b'7))) (Zd ?_)))))))
          exact ⟨rfl,rfl,q'4_1,rfl,rfl,q'4_29,q'4_30,q'4_31,q'4_36,q'4_37,q'4_38,q'4_7,q'4_8,q'4_9⟩
        rintro frg'2 _ ⟨rfl,g'2_66,g'2_1,g'2_11,g'2_12,g'2_29,g'2_30,g'2_31,g'2_36,g'2_37,g'2_38,g'2_7,g'2_8,g'2_9⟩
        refine Zd (Zc ?_)
        rcases Zt hp with ⟨b'8,hp⟩ | ⟨b'8,hp⟩
        ·refine zK (t:=((!x5) || (!(decide (x4 = gi ([0,1]:List Int) x3.toNat))))) g'2_66 b'8 ?_
         refine Zk (Zo (Zf (.n 0) rfl (Zf (.n 15) rfl (Zd (Zc (zY (z5 ?_)))))))
         refine Zbd (z5 ?_)
         cases hp
         refine (Or.inr ⟨.inr (),rfl,(fun h=>nomatch h),(fun he=>?_)⟩)
         subst he; exact ⟨rfl,rfl,rfl,(hO'12.pick [] rfl (by decide))⟩
        ·refine zG (t:=((!x5) || (!(decide (x4 = gi ([0,1]:List Int) x3.toNat))))) g'2_66 b'8 ?_
         refine zN (Zc (Zfj ?_))
         have hW:=hO'12.bump 32
         have fr'3:=Fresh.start k'12 32
         have nb'2:∀ {i:Nat},h.n≤k'12.n + i:=Nat.le_trans hO'12.n (Nat.le_add_right _ _)
         have hO'13:=hW
         refine ZaK (.n sum2) g'2_7 (ZaK (.n (gi ([0,1]:List Int) x3.toNat)) g'2_11 (zm (Zaz (r:=r'1) (o:=0) (o':=4) g'2_9 rfl) (zm (Zdc (o:=4) (o':=(4 + (gi ([0,1]:List Int) x3.toNat:Int).toNat * 1)) (z:=(gi ([0,1]:List Int) x3.toNat)) rfl rfl c'3 rfl) (zm (zV (cs:=(Zi.c (gi cells x2.toNat))) (v:=.n (((gi cells x2.toNat).Owner).get (gi ([0,1]:List Int) x3.toNat))) (hO'13.box 0 rfl) rfl (Zb5 c'3)) ?_))))
         obtain ⟨x6,hx'4,hp⟩:=Zs hp
         obtain ⟨u'4,k'14,ca'4,rfl,hW'4⟩:=Zb0.ok (h:=(k'12.bump 32))   hx'4
         refine Zhc (id:=149) (caps:=[]) rfl (Zu (v:=.n (((gi cells x2.toNat).Owner).get (gi ([0,1]:List Int) x3.toNat))) rfl zi) ca'4 ?_
         have fr'4:=fr'3.call hW'4
         have hO'14:=hO'13.call hW'4 rfl
         refine ZaK v_at_ g'2_1 (ZaK (.n (((gi cells x2.toNat).Next).get (gi ([0,1]:List Int) x3.toNat))) g'2_12 (zm (zq (E:=Zb) (z:=(((gi cells x2.toNat).Next).get (gi ([0,1]:List Int) x3.toNat))) (hO'14.rd0 s_at_.rd) rfl rfl c'6) (zm (Zax (off':=0) (off2:=0) (hO'14.rd0 s_at_.rd) (Zl c'6) rfl rfl) (zm (zO (w:=.n ((gi at_ (((gi cells x2.toNat).Next).get (gi ([0,1]:List Int) x3.toNat):Int).toNat).X)) (hO'14.rd0 s_at_.rd) rfl (Zl c'6) rfl) (ZaK v_at_ g'2_1 (ZaK (.n x2) g'2_8 (zm (zq (E:=Zb) (z:=x2) (hO'14.rd0 s_at_.rd) rfl rfl c'5) ?_)))))))
         refine zm (Zax (off':=0) (off2:=0) (hO'14.rd0 s_at_.rd) (Zl c'5) rfl rfl) (zm (zO (w:=.n ((gi at_ x2.toNat).X)) (hO'14.rd0 s_at_.rd) rfl (Zl c'5) rfl) ?_)
         obtain ⟨c'7,hp⟩:=Zm hp
         refine zm (Zif (a:=((gi at_ (((gi cells x2.toNat).Next).get (gi ([0,1]:List Int) x3.toNat):Int).toNat).X)) (b:=((gi at_ x2.toNat).X)) rfl rfl c'7) (ZaK v_at_ g'2_1 (ZaK (.n (((gi cells x2.toNat).Next).get (gi ([0,1]:List Int) x3.toNat))) g'2_12 (zm (zq (E:=Zb) (z:=(((gi cells x2.toNat).Next).get (gi ([0,1]:List Int) x3.toNat))) (hO'14.rd0 s_at_.rd) rfl rfl c'6) (zm (Zax (off':=0) (off2:=1) (hO'14.rd0 s_at_.rd) (Zl c'6) rfl rfl) (zm (zO (w:=.n ((gi at_ (((gi cells x2.toNat).Next).get (gi ([0,1]:List Int) x3.toNat):Int).toNat).Y)) (hO'14.rd0 s_at_.rd) rfl (Zl c'6) rfl) ?_)))))
         obtain ⟨c'8,hp⟩:=Zm hp
         refine zm (zH (a:=(((gi at_ (((gi cells x2.toNat).Next).get (gi ([0,1]:List Int) x3.toNat):Int).toNat).X) - ((gi at_ x2.toNat).X))) (b:=((gi at_ (((gi cells x2.toNat).Next).get (gi ([0,1]:List Int) x3.toNat):Int).toNat).Y)) rfl rfl c'8) (ZaK v_at_ g'2_1 (ZaK (.n x2) g'2_8 (zm (zq (E:=Zb) (z:=x2) (hO'14.rd0 s_at_.rd) rfl rfl c'5) (zm (Zax (off':=0) (off2:=1) (hO'14.rd0 s_at_.rd) (Zl c'5) rfl rfl) (zm (zO (w:=.n ((gi at_ x2.toNat).Y)) (hO'14.rd0 s_at_.rd) rfl (Zl c'5) rfl) ?_)))))
         obtain ⟨c'9,hp⟩:=Zm hp
         refine zm (Zif (a:=((((gi at_ (((gi cells x2.toNat).Next).get (gi ([0,1]:List Int) x3.toNat):Int).toNat).X) - ((gi at_ x2.toNat).X)) + ((gi at_ (((gi cells x2.toNat).Next).get (gi ([0,1]:List Int) x3.toNat):Int).toNat).Y))) (b:=((gi at_ x2.toNat).Y)) rfl rfl c'9) ?_
         obtain ⟨c'10,hp⟩:=Zm hp
         refine zm (Zjd (a:=x6) (b:=(((((gi at_ (((gi cells x2.toNat).Next).get (gi ([0,1]:List Int) x3.toNat):Int).toNat).X) - ((gi at_ x2.toNat).X)) + ((gi at_ (((gi cells x2.toNat).Next).get (gi ([0,1]:List Int) x3.toNat):Int).toNat).Y)) - ((gi at_ x2.toNat).Y))) rfl rfl c'10) ?_
         obtain ⟨c'11,hp⟩:=Zm hp
         refine zm (zH (a:=sum2) (b:=(x6 * (((((gi at_ (((gi cells x2.toNat).Next).get (gi ([0,1]:List Int) x3.toNat):Int).toNat).X) - ((gi at_ x2.toNat).X)) + ((gi at_ (((gi cells x2.toNat).Next).get (gi ([0,1]:List Int) x3.toNat):Int).toNat).Y)) - ((gi at_ x2.toNat).Y)))) rfl rfl c'11) (ZaK (.n (sum2 + (x6 * (((((gi at_ (((gi cells x2.toNat).Next).get (gi ([0,1]:List Int) x3.toNat):Int).toNat).X) - ((gi at_ x2.toNat).X)) + ((gi at_ (((gi cells x2.toNat).Next).get (gi ([0,1]:List Int) x3.toNat):Int).toNat).Y)) - ((gi at_ x2.toNat).Y))))) rfl (ZbZ ?_))
         refine And.intro ?_ ?_
         ·intro q hq
          simp only [List.mem_cons,List.not_mem_nil,or_false] at hq
          rcases hq with rfl | rfl | rfl | rfl | rfl | rfl | rfl | rfl | rfl | rfl | rfl | rfl | rfl | rfl
          ·refine Za8 ?_ ?_
           ·exact (fun h=>nomatch h)
           ·exact (fun h=>nomatch h)
          ·refine Zij rfl ?_
           ·exact (fun r hm hc=>hc (hW'4.base r (Nat.lt_of_lt_of_le (Nat.lt_of_lt_of_le (hO'12.lo _ (Rd.B s_at_.rd hO'12.lo (Zl c'6) _ (Zd8 (tch (v:=V.elt v_at_ (((gi cells x2.toNat).Next).get (gi ([0,1]:List Int) x3.toNat):Int).toNat 0) (Zei hm) rfl)))) hO'12.n) (Nat.le_trans (Nat.le_add_right _ _) fr'3.n))))
          ·refine Za8 ?_ ?_
           ·exact (fun h=>nomatch h)
           ·exact (fun h=>nomatch h)
          ·refine Zij rfl ?_
           ·exact (fun r hm hc=>hc (hW'4.base r (Nat.lt_of_lt_of_le (Nat.lt_of_lt_of_le (hO'12.lo _ (Rd.B s_at_.rd hO'12.lo (Zl c'5) _ (Zd8 (tch (v:=V.elt v_at_ x2.toNat 0) (Zei hm) rfl)))) hO'12.n) (Nat.le_trans (Nat.le_add_right _ _) fr'3.n))))
          ·refine Za8 ?_ ?_
           ·exact (fun h=>nomatch h)
           ·exact (fun h=>nomatch h)
          ·refine Za8 ?_ ?_
           ·exact (fun h=>nomatch h)
           ·exact (fun h=>nomatch h)
          ·refine Zij rfl ?_
           ·exact (fun r hm hc=>hc (hW'4.base r (Nat.lt_of_lt_of_le (Nat.lt_of_lt_of_le (hO'12.lo _ (Rd.B s_at_.rd hO'12.lo (Zl c'6) _ (Zd8 (tch (v:=V.elt v_at_ (((gi cells x2.toNat).Next).get (gi ([0,1]:List Int) x3.toNat):Int).toNat 1) (Zei hm) rfl)))) hO'12.n) (Nat.le_trans (Nat.le_add_right _ _) fr'3.n))))
          ·refine Za8 ?_ ?_
           ·exact (fun h=>nomatch h)
           ·exact (fun h=>nomatch h)
          ·refine Za8 ?_ ?_
           ·exact (fun h=>nomatch h)
           ·exact (fun h=>nomatch h)
          ·refine Za8 ?_ ?_
           ·exact (fun h=>nomatch h)
           ·exact (fun h=>nomatch h)
          ·refine Zij rfl ?_
           ·exact (fun r hm hc=>hc (hW'4.base r (Nat.lt_of_lt_of_le (Nat.lt_of_lt_of_le (hO'12.lo _ (Rd.B s_at_.rd hO'12.lo (Zl c'5) _ (Zd8 (tch (v:=V.elt v_at_ x2.toNat 1) (Zei hm) rfl)))) hO'12.n) (Nat.le_trans (Nat.le_add_right _ _) fr'3.n))))
          ·refine Za8 ?_ ?_
           ·exact (fun h=>nomatch h)
           ·exact (fun h=>nomatch h)
          ·refine Za8 ?_ ?_
           ·exact (fun h=>nomatch h)
           ·exact (fun h=>nomatch h)
          ·refine Za8 ?_ ?_
           ·exact (fun h=>nomatch h)
           ·exact (fun h=>nomatch h)
         refine Zan (Zc (Zo ?_))
         obtain ⟨c'12,hp⟩:=Zm hp
         refine Zj (zH (a:=x3) (b:=1) g'2_38 rfl c'12) (Zf (.n (x3 + 1)) rfl (Zd ?_))
         cases hp
         exact (Or.inl ⟨(sum2 + (x6 * (((((gi at_ (((gi cells x2.toNat).Next).get (gi ([0,1]:List Int) x3.toNat):Int).toNat).X) - ((gi at_ x2.toNat).X)) + ((gi at_ (((gi cells x2.toNat).Next).get (gi ([0,1]:List Int) x3.toNat):Int).toNat).Y)) - ((gi at_ x2.toNat).Y))),x3 + 1),rfl,rfl,g'2_1,rfl,g'2_8,g'2_9,g'2_29,g'2_30,g'2_31,g'2_36,g'2_37,rfl,(hO'14.pick [0,1] rfl (by decide))⟩)
      ·refine zG (t:=(decide (x3 < (([0,1]:List Int).length:Int)))) rfl b'5 ?_
       refine Zbp (zZ ?_)
       cases hp
       refine (Or.inr ⟨.inl sum2,rfl,(fun h=>nomatch h),(fun he=>?_)⟩)
       subst he; exact ⟨rfl,q'4_1,q'4_7,q'4_29,q'4_30,q'4_31,(hO'10.pick [] rfl (by decide))⟩
     intro e'2 q'3 k'9 hJ'2
     rcases o'3 with sum3 | _
     ·obtain ⟨rfl,q'3_1,q'3_7,q'3_29,q'3_30,q'3_31,hO'9⟩:=hJ'2
      refine ZaJ (Zan (Zc (Zo ?_)))
      obtain ⟨c'13,hp⟩:=Zm hp
      refine Zj (zH (a:=x2) (b:=1) q'3_31 rfl c'13) (Zf (.n (x2 + 1)) rfl (Zd ?_))
      cases hp
      exact (Or.inl ⟨(sum3,x2 + 1),rfl,rfl,q'3_1,q'3_7,q'3_29,q'3_30,rfl,(hO'9.pick [] rfl (by decide))⟩)
     ·obtain ⟨rfl,q'3_4,q'3_5,hO'9⟩:=hJ'2
      refine Zbd (Zbd (z5 ?_))
      cases hp
      refine (Or.inr ⟨.inr (),rfl,(fun h=>nomatch h),(fun he=>?_)⟩)
      subst he; exact ⟨rfl,q'3_4,q'3_5,(hO'9.pick [] rfl (by decide))⟩
    ·refine zG (t:=(decide (x2 < (cells.length:Int)))) rfl b'4 ?_
     refine Zbp (zZ ?_)
     cases hp
     refine (Or.inr ⟨.inl sum,rfl,(fun h=>nomatch h),(fun he=>?_)⟩)
     subst he; exact ⟨rfl,q'2_7,(hO'5.pick [] rfl (by decide))⟩
   intro e'1 q'1 k'4 hJ'1
   rcases o'1 with sum1 | _
   ·obtain ⟨rfl,q'1_7,hO'4⟩:=hJ'1
    refine ZaJ (Zc (Zk (Zo (Zf (.n sum1) q'1_7 (Zf (.n sum1) rfl (Zf (.n 0) rfl (Zd ?_)))))))
    refine Zc (zY (zx (zC (n:=4) (v:=.n sum1) rfl (zC (n:=5) (v:=.n 0) rfl ZS)) ?_))
    cases hp
    exact ⟨rfl,(hO'4.pick [] rfl (by decide))⟩
   ·obtain ⟨rfl,q'1_4,q'1_5,hO'4⟩:=hJ'1
    refine Zbd (z5 (zx (zC (n:=4) (v:=.n 0) q'1_4 (zC (n:=5) (v:=.n 15) q'1_5 ZS)) ?_))
    cases hp
    exact ⟨rfl,(hO'4.pick [] rfl (by decide))⟩

end Mu
