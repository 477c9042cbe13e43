/- The code comes to what was worked out. -/
import Derived.Test.YtfdidkebomeiaaaMuDf
import Derived.Test.YtfdidkebomeiaaaMuPa
import Derived.Test.YtfdidkebomeiaaaMuC0
set_option linter.unusedVariables false
set_option linter.unnecessarySimpa false
set_option linter.unusedSimpArgs false
set_option maxHeartbeats 2000000
set_option maxRecDepth 10000
namespace Mu
open Go (IntKind BinOp UnOp)
theorem zW.ok {h:Hp} {x:List Int} {count:Int} {v_x:V} (s_x:Sl Zao h v_x x) {r:(List Int)} (hp:zW x count = some r) :
  ∃ u k',Is G 83 [v_x,.n count] h u k'∧∃ (v'1:V),v'1 = u∧Own (fun r=>r < h.n) h k' [eSl Zao v'1 r]:=by
 refine WC.is (Za7 Zd5 ?_)
 unfold zW at hp
 let B:Nat→Prop:=(fun r=>r < h.n)
 have hO:Own B h h []:=Own.start0 h
 refine Zi (Zl (Zd (.sn) rfl (Zc (Zb (Zi (Zi (Zl ?_)))))))
 refine Zd (.n count) rfl (Zg (zO (a:=count) (b:=0) rfl rfl) (Zc (Zb ?_)))
 obtain ⟨o'1,ho'1,hp⟩:=Zq hp
 refine W.mono (Q:=fun e fr k=>match (generalizing:=false) o'1 with
   | _=>e = .normal∧fr 0 = v_x∧fr 1 = .n count∧Own B h k []) ?_ ?_
 ·clear hp; have hp:=ho'1; clear ho'1
  rcases Zt hp with ⟨b'1,hp⟩ | ⟨b'1,hp⟩
  ·refine zB (t:=(decide (count < 0))) rfl b'1 ?_
   exact nomatch hp
  ·refine zz (t:=(decide (count < 0))) rfl b'1 ?_
   refine zC ?_
   cases hp
   exact ⟨rfl,rfl,rfl,(hO.pick [] rfl (by decide))⟩
 intro e'1 q'1 k'1 hJ'1
 obtain ⟨rfl,q'1_0,q'1_1,hO'1⟩:=hJ'1
 refine Zb (Zi (Zl (Zd v_x q'1_0 (Zg (ZaC (hO'1.rd0 s_x.rd) rfl) ?_))))
 obtain ⟨c'1,hp⟩:=Zn hp
 refine Zg (Zgv (a:=(x.length:Int)) rfl c'1) (Zd (.n count) q'1_1 ?_)
 obtain ⟨c'2,hp⟩:=Zn hp
 refine Zg (Zgv (a:=count) rfl c'2) ?_
 obtain ⟨⟨x1,x2⟩,hx'1,hp⟩:=Zq hp
 obtain ⟨u'1,k'2,ca'1,rfl,hW'1⟩:=Zdc.ok (h:=k'1)   hx'1
 refine Zai (id:=89) (caps:=[]) rfl (Zp (v:=.i .u64 (x.length:Int)) rfl (Zp (v:=.i .u64 count) rfl ZK)) ca'1 ?_
 have hO'2:=hO'1.call hW'1 rfl
 refine Zd (.tu [.i .u64 x1,.i .u64 x2]) rfl (Zg (Zad (vs:=[.i .u64 x1,.i .u64 x2]) (v:=.i .u64 x1) rfl rfl) (Zg (Zad (vs:=[.i .u64 x1,.i .u64 x2]) (v:=.i .u64 x2) rfl rfl) (Zd (.i .u64 x1) rfl (Zd (.i .u64 x2) rfl (Zc (Zb (Zi ?_)))))))
 refine Zi (Zl (Zd (.i .u64 x1) rfl (Zg (ZeF (a:=x1) (b:=0) rfl rfl) (Zd (.b (decide (0 < x1))) rfl ?_))))
 refine Zaa 3 (fun fr' k'=>k'2 = k'∧fr' 26 = .b ((decide (0 < x1)) || (decide (9223372036854775807 < x2)))∧fr' 0 = v_x∧fr' 6 = .i .u64 x2) ?_ ?_
 ·rcases bc (decide (0 < x1)) with b'2 | b'2
  ·skip
   refine Zw rfl b'2 (Zw rfl b'2 (Zg (za (t:=(decide (0 < x1))) (v:=.b ((decide (0 < x1)) || (decide (9223372036854775807 < x2)))) rfl b'2 (Eq.trans (b:=V.b true) rfl (Zbs b'2))) (Zc ?_)))
   exact ⟨rfl,rfl,q'1_0,rfl⟩
  ·skip
   refine Z7 rfl b'2 (Zd (.i .u64 x2) rfl (Z7 rfl b'2 (Zg (ZeF (a:=x2) (b:=9223372036854775807) rfl rfl) (Zg (ZU (t:=(decide (0 < x1))) (v:=.b ((decide (0 < x1)) || (decide (9223372036854775807 < x2)))) rfl b'2 (Eq.trans (b:=V.b (decide (9223372036854775807 < x2))) rfl (Zcc b'2))) (Zc ?_)))))
   exact ⟨rfl,rfl,q'1_0,rfl⟩
 rintro frg'1 _ ⟨rfl,g'1_26,g'1_0,g'1_6⟩
 refine Zc (Zb ?_)
 obtain ⟨o'2,ho'2,hp⟩:=Zq hp
 refine W.mono (Q:=fun e fr k=>match (generalizing:=false) o'2 with
   | _=>e = .normal∧fr 0 = v_x∧fr 6 = .i .u64 x2∧Own B h k []) ?_ ?_
 ·clear hp; have hp:=ho'2; clear ho'2
  rcases Zt hp with ⟨b'3,hp⟩ | ⟨b'3,hp⟩
  ·refine zB (t:=((decide (0 < x1)) || (decide (9223372036854775807 < x2)))) g'1_26 b'3 ?_
   exact nomatch hp
  ·refine zz (t:=((decide (0 < x1)) || (decide (9223372036854775807 < x2)))) g'1_26 b'3 ?_
   refine zC ?_
   cases hp
   exact ⟨rfl,g'1_0,g'1_6,(hO'2.pick [] rfl (by decide))⟩
 intro e'2 q'2 k'3 hJ'2
 obtain ⟨rfl,q'2_0,q'2_6,hO'3⟩:=hJ'2
 refine Zb (Zi (Zl (Zd (.i .u64 x2) q'2_6 ?_)))
 obtain ⟨c'3,hp⟩:=Zn hp
 refine Zg (Zgv (a:=x2) rfl c'3) ?_
 obtain ⟨c'4,hp⟩:=Zn hp
 refine Za0 (hO'3.mks (E:=Zao) (y:=(0:Int)) (bytes:=8) (z:=x2) hO'3.fr rfl rfl rfl c'4 (by decide)) ?_
 rintro v'2 k'4 ⟨r'1,f'1,hW⟩
 have hO'4:=hW
 refine Zd v'2 rfl (Zc (Zb (Zi (Zl (Zd v'2 rfl (Zd v_x q'2_0 (Za0 (hO'4.cpy (E:=Zao) 0 rfl (hO'4.rd0 s_x.rd) rfl rfl (fun _=>rfl)) ?_)))))))
 rintro _ k'5 ⟨rfl,f'2,hW⟩
 have hO'5:=hW
 refine Zd (.n ((min x.length (List.replicate x2.toNat (0:Int)).length:Nat):Int)) rfl (Zc (Zb (Zi (Zay ?_))))
 obtain ⟨o'3,ho'3,hp⟩:=Zq hp
 refine W.mono (Q:=fun e fr k=>match (generalizing:=false) o'3 with
   | newslice1=>e = (.exit 0)∧fr 7 = v'2∧Own B h k [eSl Zao v'2 newslice1]) ?_ ?_
 ·clear hp
  refine zU (fun st fr k=>match st with | (newslice,n)=>fr 7 = v'2∧fr 8 = .n n∧Own B h k [eSl Zao v'2 newslice]) ho'3 (s:=(x.take (List.replicate x2.toNat (0:Int)).length++(List.replicate x2.toNat (0:Int)).drop x.length,((min x.length (List.replicate x2.toNat (0:Int)).length:Nat):Int))) ⟨rfl,rfl,(hO'5.pick [0] rfl (by decide))⟩ ?_
  rintro ⟨newslice,n⟩ q'4 k'7 ⟨q'4_7,q'4_8,hO'7⟩ o'4 hp
  dsimp only [zW.s0] at hp
  refine Zi (Zi (Zl (Zd (.n n) q'4_8 (Zd v'2 q'4_7 (Zg (ZaC (hO'7.sl 0 rfl) rfl) (Zg (zO (a:=n) (b:=(newslice.length:Int)) rfl rfl) (Zc ?_)))))))
  refine Zb ?_
  rcases Zt hp with ⟨b'4,hp⟩ | ⟨b'4,hp⟩
  ·refine zB (t:=(decide (n < (newslice.length:Int)))) rfl b'4 ?_
   refine zC (Zb (Zay (Zh8 ?_)))
   have hW:=hO'7.bump 10
   have fr'1:=Fresh.start k'7 10
   have nb'1:∀ {i:Nat},h.n≤k'7.n + i:=Nat.le_trans hO'7.n (Nat.le_add_right _ _)
   have hO'8:=hW
   refine ZbD (.n n) q'4_8 (ZbD v'2 q'4_7 (ZbD (.n n) q'4_8 ?_))
   obtain ⟨c'5,hp⟩:=Zn hp
   refine Zar (ZkN (E:=Zao) (z:=n) (hO'8.sl 0 rfl) rfl rfl c'5) (ZbD v'2 q'4_7 (ZbD (.n n) q'4_8 (Zar (ZkO (E:=Zao) (z:=n) (hO'8.sl 0 rfl) rfl rfl c'5) (ZfM (hO'8.cpyF (E:=Zao) (z:=n) 0 rfl c'5 (Sl.cutU (hO'8.sl 0 rfl) c'5:Sl Zao (k'7.bump 10) (V.cut v'2 0 n.toNat) (newslice.take n.toNat)) rfl rfl (fun _=>rfl)) ?_))))
   rintro _ k'9 z'1 ⟨rfl,f'3,hW⟩
   have fr'2:=fr'1.kept f'3 (by decide)
   have hO'9:=hW
   obtain ⟨c'6,hp⟩:=Zn hp
   refine Zar (zD (a:=n) (b:=((min (newslice.take n.toNat).length (newslice.drop n.toNat).length:Nat):Int)) rfl rfl c'6) (ZbD (.n (n + ((min (newslice.take n.toNat).length (newslice.drop n.toNat).length:Nat):Int))) rfl (Zdn ?_))
   refine And.intro ?_ ?_
   ·intro q hq
    cases hq
   refine Zax ?_
   cases hp
   exact (Or.inl ⟨(newslice.take n.toNat++((newslice.take n.toNat).take (newslice.drop n.toNat).length++(newslice.drop n.toNat).drop (newslice.take n.toNat).length),n + ((min (newslice.take n.toNat).length (newslice.drop n.toNat).length:Nat):Int)),rfl,rfl,q'4_7,rfl,(hO'9.pick [0] rfl (by decide))⟩)
  ·refine zz (t:=(decide (n < (newslice.length:Int)))) rfl b'4 ?_
   refine ZbM (Zak ?_)
   cases hp
   refine (Or.inr ⟨newslice,rfl,(fun h=>nomatch h),(fun he=>?_)⟩)
   subst he; exact ⟨rfl,q'4_7,(hO'7.pick [0] rfl (by decide))⟩
 intro e'3 q'3 k'6 hJ'3
 obtain ⟨newslice1,rfl⟩:∃ x,x = o'3:=⟨_,rfl⟩
 obtain ⟨rfl,q'3_7,hO'6⟩:=hJ'3
 refine ZaN (Zb (Zi (Zl (Zd v'2 q'3_7 (Zd v'2 rfl (Zc (Zb ?_)))))))
 refine zL (zf (zl (n:=4) (v:=v'2) rfl ZD) ?_)
 cases hp
 exact ⟨v'2,rfl,(hO'6.pick [0] rfl (by decide))⟩

theorem Za1.ok {h:Hp} {cells:List Za} {v:Int} {v_cells:V} (s_cells:Sl Ze h v_cells cells) {r:(List Int) × (List Int)} (hp:Za1 cells v = some r) :
  ∃ u k',Is G 67 [v_cells,.n v] h u k'∧∃ (v'1:V),∃ (v'2:V),V.tu [v'1,v'2] = u∧Own (fun r=>r < h.n) h k' [eSl Zao v'1 r.1,eSl Zao v'2 r.2]:=by
 refine WC.is (Za7 Zfc ?_)
 unfold Za1 at hp
 let B:Nat→Prop:=(fun r=>r < h.n)
 have hO:Own B h h []:=Own.start0 h
 refine Zi (Zl (Zd (.sn) rfl (Zd (.sn) rfl (Zc (Zb (Zi (Zl ?_)))))))
 refine Za0 (hO.bsl (E:=Zao) (l:=([(-1)]:List Int)) hO.fr (by rw [(Zae (v:=.n (-1)) rfl Zb3)]; rfl) rfl) ?_
 rintro v'3 k'1 ⟨r'1,f'1,hW⟩
 have hO'1:=hW
 refine Zd v_cells rfl (Zg (ZaC (hO'1.rd0 s_cells.rd) rfl) ?_)
 obtain ⟨x,hx'1,hp⟩:=Zq hp
 obtain ⟨u'1,k'2,ca'1,v'4,rfl,hW'1⟩:=zW.ok (h:=k'1)  (hO'1.sl 0 rfl:Sl Zao k'1 v'3 ([(-1)]:List Int)) hx'1
 refine Zai (id:=83) (caps:=[]) rfl (Zp (v:=v'3) rfl (Zp (v:=.n (cells.length:Int)) rfl ZK)) ca'1 ?_
 have hO'2:=hO'1.call hW'1 rfl
 refine Za0 (hO'2.bsl (E:=Zao) (l:=([(-1)]:List Int)) hO'2.fr (by rw [(Zae (v:=.n (-1)) rfl Zb3)]; rfl) rfl) ?_
 rintro v'5 k'3 ⟨r'2,f'2,hW⟩
 have hO'3:=hW
 refine Zd v_cells rfl (Zg (ZaC (hO'3.rd0 s_cells.rd) rfl) ?_)
 obtain ⟨x1,hx'2,hp⟩:=Zq hp
 obtain ⟨u'2,k'4,ca'2,v'6,rfl,hW'2⟩:=zW.ok (h:=k'3)  (hO'3.sl 2 rfl:Sl Zao k'3 v'5 ([(-1)]:List Int)) hx'2
 refine Zai (id:=83) (caps:=[]) rfl (Zp (v:=v'5) rfl (Zp (v:=.n (cells.length:Int)) rfl ZK)) ca'2 ?_
 have hO'4:=hO'3.call hW'2 rfl
 refine Zd v'4 rfl (Zd v'6 rfl (Zc (Zb (Zi (Zl (Zd (.n v) rfl (Za0 (hO'4.bsl (E:=Zao) (l:=[v]) hO'4.fr (by rw [(Zae (v:=.n v) rfl Zb3)]; rfl) rfl) ?_)))))))
 rintro v'7 k'5 ⟨r'3,f'3,hW⟩
 have hO'5:=hW
 refine Zd v'7 rfl (Zc (Zb (Zi (Zl (Zd v_cells rfl (Zg (ZaC (hO'5.rd0 s_cells.rd) rfl) ?_))))))
 obtain ⟨c'1,hp⟩:=Zn hp
 refine Za0 (hO'5.mks (E:=e_bool) (y:=false) (bytes:=1) (z:=(cells.length:Int)) hO'5.fr rfl rfl rfl c'1 (by decide)) ?_
 rintro v'8 k'6 ⟨r'4,f'4,hW⟩
 have hO'6:=hW
 refine Zd v'8 rfl (Zc (Zb (Zi (Zl (Zd v'8 rfl (Zd (.n v) rfl ?_))))))
 obtain ⟨c'2,hp⟩:=Zn hp
 refine Zg (zt (E:=e_bool) (z:=v) (hO'6.sl 5 rfl:Sl e_bool k'6 v'8 (List.replicate ((cells.length:Int):Int).toNat false)) rfl rfl c'2) (Za0 (hO'6.ste (E:=e_bool) (y:=true) (ws:=[.b true]) 5 rfl rfl (Zj c'2) rfl rfl ⟨rfl,Nat.le_of_ble_eq_true rfl,rfl⟩ rfl) ?_)
 rintro _ k'7 ⟨rfl,f'5,m'1,hW⟩
 have hO'7:=hW
 refine Zc (Zb (Zi (Zay ?_)))
 obtain ⟨o'1,ho'1,hp⟩:=Zq hp
 refine W.mono (Q:=fun e fr k=>match (generalizing:=false) o'1 with
   | (from_1,dir1)=>e = (.exit 0)∧fr 6 = v'4∧fr 7 = v'6∧Own B h k [eSl Zao v'4 from_1,eSl Zao v'6 dir1]) ?_ ?_
 ·clear hp
  refine zU (fun st fr k=>match st with | (from_,dir,l,met)=>∃ (v'9:V),fr 0 = v_cells∧fr 6 = v'4∧fr 7 = v'6∧fr 8 = v'9∧fr 9 = v'8∧Own B h k [eSl Zao v'4 from_,eSl Zao v'6 dir,eSl Zao v'9 l,eSl e_bool v'8 met]) ho'1 (s:=(x,x1,[v],(List.replicate ((cells.length:Int):Int).toNat false).set v.toNat true)) ⟨v'7,rfl,rfl,rfl,rfl,rfl,(hO'7.pick [1,3,4,5] rfl (by decide))⟩ ?_
  rintro ⟨from_,dir,l,met⟩ q'2 k'9 ⟨v'9,q'2_0,q'2_6,q'2_7,q'2_8,q'2_9,hO'9⟩ o'2 hp
  dsimp only [Za1.s0] at hp
  refine Zi (Zi (Zl (Zd v'9 q'2_8 (Zg (ZaC (hO'9.sl 2 rfl) rfl) (Zg (ZeF (a:=(l.length:Int)) (b:=0) rfl rfl) (Zc (Zb ?_)))))))
  rcases Zt hp with ⟨b'1,hp⟩ | ⟨b'1,hp⟩
  ·refine zB (t:=(decide (0 < (l.length:Int)))) rfl b'1 ?_
   refine zC (Zb (Zay (Zi (Zl (Zd v'9 q'2_8 ?_)))))
   obtain ⟨c'3,hp⟩:=Zn hp
   refine Zg (zt (E:=Zao) (z:=0) (hO'9.sl 2 rfl) rfl rfl c'3) (Zg (zX (w:=.n (gi l (0:Int).toNat)) (hO'9.sl 2 rfl) rfl (Zj c'3) rfl) (Zd (.n (gi l (0:Int).toNat)) rfl (Zc (Zb (Zi (Zl (Zd v'9 q'2_8 ?_)))))))
   obtain ⟨c'4,hp⟩:=Zn hp
   refine Zg (ZkN (E:=Zao) (z:=1) (hO'9.sl 2 rfl) rfl rfl c'4) (Zd ((V.cut v'9 (1:Int).toNat (l).length)) rfl (Zc (Zb (Zi (Zl (Zd (.n 0) rfl (Zc ?_)))))))
   refine Zb (Zay ?_)
   obtain ⟨o'3,ho'2,hp⟩:=Zq hp
   refine W.mono (Q:=fun e fr k=>match (generalizing:=false) o'3 with
     | (from_3,dir3,l2,met2)=>e = (.exit 2)∧∃ (v'11:V),fr 0 = v_cells∧fr 6 = v'4∧fr 7 = v'6∧fr 8 = v'11∧fr 9 = v'8∧Own B h k [eSl Zao v'4 from_3,eSl Zao v'6 dir3,eSl Zao v'11 l2,eSl e_bool v'8 met2]) ?_ ?_
   ·clear hp
    have hO'11:=hO'9.cutF 2 rfl c'4
    refine zU (fun st fr k=>match st with | (from_2,dir2,l1,met1,x2)=>∃ (v'10:V),fr 0 = v_cells∧fr 6 = v'4∧fr 7 = v'6∧fr 8 = v'10∧fr 9 = v'8∧fr 10 = .n (gi l (0:Int).toNat)∧fr 37 = .n x2∧Own B h k [eSl Zao v'4 from_2,eSl Zao v'6 dir2,eSl Zao v'10 l1,eSl e_bool v'8 met1]) ho'2 (s:=(from_,dir,l.drop (1:Int).toNat,met,0)) ⟨(V.cut v'9 (1:Int).toNat (l).length),q'2_0,q'2_6,q'2_7,rfl,q'2_9,rfl,rfl,(hO'11.pick [0,1,2,3] rfl (by decide))⟩ ?_
    rintro ⟨from_2,dir2,l1,met1,x2⟩ q'4 k'11 ⟨v'10,q'4_0,q'4_6,q'4_7,q'4_8,q'4_9,q'4_10,q'4_37,hO'12⟩ o'4 hp
    dsimp only [Za1.s1] at hp
    refine Zi (Zl (Zg (zO (a:=x2) (b:=4) q'4_37 rfl) (Zc (Zb (Zi ?_)))))
    rcases Zt hp with ⟨b'2,hp⟩ | ⟨b'2,hp⟩
    ·refine zB (t:=(decide (x2 < 4))) rfl b'2 ?_
     refine zC (Zb (Zi (Zay (Zi (Zl (Zd (.n x2) q'4_37 (Zd (.n x2) rfl ?_)))))))
     refine Zc (Zb (Zi (Zl (Zd v_cells q'4_0 (Zd (.n (gi l (0:Int).toNat)) q'4_10 (Zd (.n x2) rfl ?_))))))
     obtain ⟨c'5,hp⟩:=Zn hp
     refine Zg (zt (E:=Ze) (z:=(gi l (0:Int).toNat)) (hO'12.rd0 s_cells.rd) rfl rfl c'5) (Zg (ZaO (off':=0) (off2:=0) (hO'12.rd0 s_cells.rd) (Zj c'5) rfl rfl) ?_)
     obtain ⟨c'6,hp⟩:=Zn hp
     refine Zg (ZaZ (off:=0) (off2:=(0 + x2.toNat * 1)) (z:=x2) (hO'12.rd0 s_cells.rd) (Zj c'5) rfl rfl c'6 rfl) (Zg (zX (w:=.n (((gi cells (gi l (0:Int).toNat:Int).toNat).Next).get x2)) (hO'12.rd0 s_cells.rd) rfl (Zj c'5) (zr c'6)) (Zd (.n (((gi cells (gi l (0:Int).toNat:Int).toNat).Next).get x2)) rfl (Zc (Zb (Zi (Zl (Zd (.n (((gi cells (gi l (0:Int).toNat:Int).toNat).Next).get x2)) rfl ?_)))))))
     refine Zg (ZcA (a:=(((gi cells (gi l (0:Int).toNat:Int).toNat).Next).get x2)) (b:=0) rfl rfl) (Zd (.b (decide (0≤(((gi cells (gi l (0:Int).toNat:Int).toNat).Next).get x2)))) rfl ?_)
     obtain ⟨t,hv'1,hp⟩:=Zq hp
     refine Zaa 6 (fun fr' k'=>k'11 = k'∧fr' 55 = .b t∧fr' 0 = v_cells∧fr' 10 = .n (gi l (0:Int).toNat)∧fr' 11 = .n x2∧fr' 12 = .n (((gi cells (gi l (0:Int).toNat:Int).toNat).Next).get x2)∧fr' 37 = .n x2∧fr' 6 = v'4∧fr' 7 = v'6∧fr' 8 = v'10∧fr' 9 = v'8) ?_ ?_
     ·clear hp; rcases Zt hv'1 with ⟨b'3,hp⟩ | ⟨b'3,hp⟩
      ·skip
       refine Z7 rfl b'3 (Zd v'8 q'4_9 (Z7 rfl b'3 (Zd (.n (((gi cells (gi l (0:Int).toNat:Int).toNat).Next).get x2)) rfl (Z7 rfl b'3 ?_))))
       obtain ⟨c'7,hp⟩:=Zn hp
       refine Zg (zt (E:=e_bool) (z:=(((gi cells (gi l (0:Int).toNat:Int).toNat).Next).get x2)) (hO'12.sl 3 rfl) rfl rfl c'7) (Z7 rfl b'3 (Zg (zX (w:=.b (gi met1 (((gi cells (gi l (0:Int).toNat:Int).toNat).Next).get x2:Int).toNat)) (hO'12.sl 3 rfl) rfl (Zj c'7) rfl) (Z7 rfl b'3 (Zg (Zcp (t:=(gi met1 (((gi cells (gi l (0:Int).toNat:Int).toNat).Next).get x2:Int).toNat)) rfl) (Zg (za (t:=(decide (0≤(((gi cells (gi l (0:Int).toNat:Int).toNat).Next).get x2)))) (v:=.b t) rfl b'3 (Eq.trans (b:=V.b (!(gi met1 (((gi cells (gi l (0:Int).toNat:Int).toNat).Next).get x2:Int).toNat))) rfl (congrArg V.b (Option.some.inj hp)))) (Zc ?_))))))
       exact ⟨rfl,rfl,q'4_0,q'4_10,rfl,rfl,q'4_37,q'4_6,q'4_7,q'4_8,q'4_9⟩
      ·skip
       refine Zw rfl b'3 (Zw rfl b'3 (Zw rfl b'3 (Zw rfl b'3 (Zw rfl b'3 (Zg (ZU (t:=(decide (0≤(((gi cells (gi l (0:Int).toNat:Int).toNat).Next).get x2)))) (v:=.b t) rfl b'3 (Eq.trans (b:=V.b false) rfl (congrArg V.b (Option.some.inj hp)))) (Zc ?_))))))
       exact ⟨rfl,rfl,q'4_0,q'4_10,rfl,rfl,q'4_37,q'4_6,q'4_7,q'4_8,q'4_9⟩
     rintro frg'1 _ ⟨rfl,g'1_55,g'1_0,g'1_10,g'1_11,g'1_12,g'1_37,g'1_6,g'1_7,g'1_8,g'1_9⟩
     refine Zc (Zb ?_)
     rcases Zt hp with ⟨b'4,hp⟩ | ⟨b'4,hp⟩
     ·refine zB (t:=t) g'1_55 b'4 ?_
      refine Zi (Zl (Zd v'8 g'1_9 (Zd (.n (((gi cells (gi l (0:Int).toNat:Int).toNat).Next).get x2)) g'1_12 (Zd v'4 g'1_6 (Zd (.n (((gi cells (gi l (0:Int).toNat:Int).toNat).Next).get x2)) g'1_12 (Zd v'6 g'1_7 (Zd (.n (((gi cells (gi l (0:Int).toNat:Int).toNat).Next).get x2)) g'1_12 ?_)))))))
      refine Zd (.n (gi l (0:Int).toNat)) g'1_10 (Zd (.n x2) g'1_11 ?_)
      obtain ⟨c'8,hp⟩:=Zn hp
      refine Zg (zt (E:=e_bool) (z:=(((gi cells (gi l (0:Int).toNat:Int).toNat).Next).get x2)) (hO'12.sl 3 rfl) rfl rfl c'8) (Za0 (hO'12.ste (E:=e_bool) (y:=true) (ws:=[.b true]) 3 rfl rfl (Zj c'8) rfl rfl ⟨rfl,Nat.le_of_ble_eq_true rfl,rfl⟩ rfl) ?_)
      rintro _ k'12 ⟨rfl,f'6,m'2,hW⟩
      have hO'13:=hW
      obtain ⟨c'9,hp⟩:=Zn hp
      refine Zg (zt (E:=Zao) (z:=(((gi cells (gi l (0:Int).toNat:Int).toNat).Next).get x2)) (hO'13.sl 0 rfl) rfl rfl c'9) (Za0 (hO'13.ste (E:=Zao) (y:=(gi l (0:Int).toNat)) (ws:=[.n (gi l (0:Int).toNat)]) 0 rfl rfl (Zj c'9) rfl rfl ⟨rfl,Nat.le_of_ble_eq_true rfl,rfl⟩ rfl) ?_)
      rintro _ k'13 ⟨rfl,f'7,m'3,hW⟩
      have hO'14:=hW
      obtain ⟨c'10,hp⟩:=Zn hp
      refine Zg (zt (E:=Zao) (z:=(((gi cells (gi l (0:Int).toNat:Int).toNat).Next).get x2)) (hO'14.sl 1 rfl) rfl rfl c'10) (Za0 (hO'14.ste (E:=Zao) (y:=x2) (ws:=[.n x2]) 1 rfl rfl (Zj c'10) rfl rfl ⟨rfl,Nat.le_of_ble_eq_true rfl,rfl⟩ rfl) ?_)
      rintro _ k'14 ⟨rfl,f'8,m'4,hW⟩
      have hO'15:=hW
      refine Zc (Zb (Zl (Zd v'10 g'1_8 (Zd (.n (((gi cells (gi l (0:Int).toNat:Int).toNat).Next).get x2)) g'1_12 (Za0 (hO'15.bsl (E:=Zao) (l:=[((gi cells (gi l (0:Int).toNat:Int).toNat).Next).get x2]) hO'15.fr (by rw [(Zae (v:=.n (((gi cells (gi l (0:Int).toNat:Int).toNat).Next).get x2)) rfl Zb3)]; rfl) rfl) ?_)))))
      rintro v'12 k'15 ⟨r'5,f'9,hW⟩
      have hO'16:=hW
      obtain ⟨c'11,hp⟩:=Zn hp
      refine Za0 (hO'16.app (E:=Zao) (bytes:=8) 2 hO'16.fr rfl (hO'16.sl 4 rfl:Sl Zao k'15 v'12 [((gi cells (gi l (0:Int).toNat:Int).toNat).Next).get x2]) rfl rfl (fun _=>rfl) c'11 (by decide)) ?_
      rintro v'13 k'16 ⟨f'10,hW⟩
      have hO'17:=hW
      refine Zd v'13 rfl (Zc (Zax (Zb (Zl ?_))))
      obtain ⟨c'12,hp⟩:=Zn hp
      refine Zg (zD (a:=x2) (b:=1) g'1_37 rfl c'12) (Zd (.n (x2 + 1)) rfl (Zc ?_))
      cases hp
      exact (Or.inl ⟨(from_2.set (((gi cells (gi l (0:Int).toNat:Int).toNat).Next).get x2:Int).toNat (gi l (0:Int).toNat),dir2.set (((gi cells (gi l (0:Int).toNat:Int).toNat).Next).get x2:Int).toNat x2,l1++[((gi cells (gi l (0:Int).toNat:Int).toNat).Next).get x2],met1.set (((gi cells (gi l (0:Int).toNat:Int).toNat).Next).get x2:Int).toNat true,x2 + 1),rfl,rfl,v'13,g'1_0,g'1_6,g'1_7,rfl,g'1_9,g'1_10,rfl,(hO'17.pick [0,1,2,3] rfl (by decide))⟩)
     ·refine zz (t:=t) g'1_55 b'4 ?_
      refine zC (Zax (Zb (Zl ?_)))
      obtain ⟨c'13,hp⟩:=Zn hp
      refine Zg (zD (a:=x2) (b:=1) g'1_37 rfl c'13) (Zd (.n (x2 + 1)) rfl (Zc ?_))
      cases hp
      exact (Or.inl ⟨(from_2,dir2,l1,met1,x2 + 1),rfl,rfl,v'10,g'1_0,g'1_6,g'1_7,g'1_8,g'1_9,g'1_10,rfl,(hO'12.pick [0,1,2,3] rfl (by decide))⟩)
    ·refine zz (t:=(decide (x2 < 4))) rfl b'2 ?_
     refine ZbM (Zak ?_)
     cases hp
     refine (Or.inr ⟨(from_2,dir2,l1,met1),rfl,(fun h=>nomatch h),(fun he=>?_)⟩)
     subst he; exact ⟨rfl,v'10,q'4_0,q'4_6,q'4_7,q'4_8,q'4_9,(hO'12.pick [0,1,2,3] rfl (by decide))⟩
   intro e'2 q'3 k'10 hJ'2
   obtain ⟨from_3,dir3,l2,met2⟩:=o'3
   obtain ⟨rfl,v'11,q'3_0,q'3_6,q'3_7,q'3_8,q'3_9,hO'10⟩:=hJ'2
   refine ZaN (Zax ?_)
   cases hp
   exact (Or.inl ⟨(from_3,dir3,l2,met2),rfl,rfl,v'11,q'3_0,q'3_6,q'3_7,q'3_8,q'3_9,(hO'10.pick [0,1,2,3] rfl (by decide))⟩)
  ·refine zz (t:=(decide (0 < (l.length:Int)))) rfl b'1 ?_
   refine ZbM (Zak ?_)
   cases hp
   refine (Or.inr ⟨(from_,dir),rfl,(fun h=>nomatch h),(fun he=>?_)⟩)
   subst he; exact ⟨rfl,q'2_6,q'2_7,(hO'9.pick [0,1] rfl (by decide))⟩
 intro e'1 q'1 k'8 hJ'1
 obtain ⟨from_1,dir1⟩:=o'1
 obtain ⟨rfl,q'1_6,q'1_7,hO'8⟩:=hJ'1
 refine ZaN (Zb (Zi (Zl (Zd v'4 q'1_6 (Zd v'6 q'1_7 (Zd v'4 rfl (Zd v'6 rfl ?_)))))))
 refine Zc (Zb (zL (zf (zl (n:=4) (v:=v'4) rfl (zl (n:=5) (v:=v'6) rfl ZD)) ?_)))
 cases hp
 exact ⟨v'4,v'6,rfl,(hO'8.pick [0,1] rfl (by decide))⟩

theorem Za3.ok {h:Hp} {cells:List Za} {v_cells:V} (s_cells:Sl Ze h v_cells cells) {r:(List (List Int)) × Int} (hp:Za3 cells = some r) :
  ∃ u k',Is G 29 [v_cells] h u k'∧∃ (v'1:V),∃ (vs'1:List V),V.tu [v'1,.n r.2] = u∧Own (fun r=>r < h.n) h k' [eSl eV v'1 vs'1,Zc7 Zao vs'1 r.1]:=by
 refine WC.is (Za7 Zfq ?_)
 unfold Za3 at hp
 let B:Nat→Prop:=(fun r=>r < h.n)
 have hO:Own B h h []:=Own.start0 h
 refine Zi (Zl (Zd (.sn) rfl (Zd (.n 0) rfl (Zc (Zb (Zi (Zi ?_)))))))
 refine Zl (Zd v_cells rfl ?_)
 obtain ⟨x,hx'1,hp⟩:=Zq hp
 obtain ⟨u'1,k'1,ca'1,rfl,hW'1⟩:=zE.ok (h:=h)  (hO.rd0 s_cells.rd) hx'1
 refine Zai (id:=66) (caps:=[]) rfl (Zp (v:=v_cells) rfl ZK) ca'1 ?_
 have hO'1:=hO.call hW'1 rfl
 refine Zd (.n x) rfl (Zc (Zb (Zi (Zl (Zd (.n x) rfl (Zg (ZbK (a:=x) (b:=0) rfl rfl) (Zc ?_)))))))
 refine Zb ?_
 rcases Zt hp with ⟨b'1,hp⟩ | ⟨b'1,hp⟩
 ·refine zB (t:=(!(decide (x = 0)))) rfl b'1 ?_
  refine Zi (Zl (Zd (.n x) rfl (Zd (.sn) rfl (Zd (.n x) rfl (Zc (Zb (zL ?_)))))))
  refine zh ?_
  have hO'2:=hO'1.nil eV
  have hO'3:=hO'2.allNil Zao 0
  refine zf (zl (n:=2) (v:=.sn) rfl (zl (n:=3) (v:=.n x) rfl ZD)) ?_
  cases hp
  exact ⟨V.sn,[],rfl,(hO'3.pick [0,1] rfl (by decide))⟩
 ·refine zz (t:=(!(decide (x = 0)))) rfl b'1 ?_
  refine zC (Zb (Zi (Zl (Zd (.sn) rfl (Zc (Zb (Zi ?_)))))))
  refine Zl (Zd v_cells rfl (Zg (ZaC (hO'1.rd0 s_cells.rd) rfl) ?_))
  obtain ⟨c'1,hp⟩:=Zn hp
  refine Za0 (hO'1.mks (E:=e_bool) (y:=false) (bytes:=1) (z:=(cells.length:Int)) hO'1.fr rfl rfl rfl c'1 (by decide)) ?_
  rintro v'2 k'2 ⟨r'1,f'1,hW⟩
  have hO'4:=hW
  refine Zd v'2 rfl (Zc (Zb (Zi (Zi (Zl (Zd v_cells rfl (Zg (ZaC (hO'4.rd0 s_cells.rd) rfl) ?_)))))))
  refine Zd (.n 0) rfl (Zc (Zb (Zay ?_)))
  obtain ⟨o'1,ho'1,hp⟩:=Zq hp
  refine W.mono (Q:=fun e fr k=>match (generalizing:=false) o'1 with
    | l1=>e = (.exit 0)∧∃ (v'4:V),∃ (vs'3:List V),fr 5 = v'4∧Own B h k [eSl eV v'4 vs'3,Zc7 Zao vs'3 l1]) ?_ ?_
  ·clear hp
   have hO'6:=hO'4.nil eV
   have hO'7:=hO'6.allNil Zao 0
   refine zU (fun st fr k=>match st with | (l,met,x1)=>∃ (v'3:V),∃ (vs'2:List V),fr 0 = v_cells∧fr 5 = v'3∧fr 6 = v'2∧fr 21 = .n (cells.length:Int)∧fr 22 = .n x1∧Own B h k [eSl eV v'3 vs'2,Zc7 Zao vs'2 l,eSl e_bool v'2 met]) ho'1 (s:=(([]:List (List Int)),List.replicate ((cells.length:Int):Int).toNat false,0)) ⟨V.sn,[],rfl,rfl,rfl,rfl,rfl,(hO'7.pick [1,2,0] rfl (by decide))⟩ ?_
   rintro ⟨l,met,x1⟩ q'2 k'4 ⟨v'3,vs'2,q'2_0,q'2_5,q'2_6,q'2_21,q'2_22,hO'8⟩ o'2 hp
   dsimp only [Za3.s0] at hp
   refine Zi (Zl (Zg (zO (a:=x1) (b:=(cells.length:Int)) q'2_22 q'2_21) (Zc (Zb (Zi ?_)))))
   rcases Zt hp with ⟨b'2,hp⟩ | ⟨b'2,hp⟩
   ·refine zB (t:=(decide (x1 < (cells.length:Int)))) rfl b'2 ?_
    refine zC (Zb (Zi (Zay (Zi (Zl (Zd (.n x1) q'2_22 (Zd (.n x1) rfl ?_)))))))
    refine Zc (Zb (Zi (Zi (Zl (Zd v'2 q'2_6 (Zd (.n x1) rfl ?_))))))
    obtain ⟨c'2,hp⟩:=Zn hp
    refine Zg (zt (E:=e_bool) (z:=x1) (hO'8.sl 2 rfl) rfl rfl c'2) (Zg (zX (w:=.b (gi met x1.toNat)) (hO'8.sl 2 rfl) rfl (Zj c'2) rfl) (Zc (Zb ?_)))
    rcases Zt hp with ⟨b'3,hp⟩ | ⟨b'3,hp⟩
    ·refine zB (t:=(gi met x1.toNat)) rfl b'3 ?_
     refine ZbM (Zak (ZaN (Zb (Zl ?_))))
     obtain ⟨c'3,hp⟩:=Zn hp
     refine Zg (zD (a:=x1) (b:=1) q'2_22 rfl c'3) (Zd (.n (x1 + 1)) rfl (Zc ?_))
     cases hp
     exact (Or.inl ⟨(l,met,x1 + 1),rfl,rfl,v'3,vs'2,q'2_0,q'2_5,q'2_6,q'2_21,rfl,(hO'8.pick [0,1,2] rfl (by decide))⟩)
    ·refine zz (t:=(gi met x1.toNat)) rfl b'3 ?_
     refine zC (Zb (Zi (Zl (Zd v_cells q'2_0 (Zd (.n x1) rfl ?_)))))
     obtain ⟨⟨x2,x3⟩,hx'2,hp⟩:=Zq hp
     obtain ⟨u'2,k'5,ca'2,v'5,v'6,rfl,hW'2⟩:=Za1.ok (h:=k'4)  (hO'8.rd0 s_cells.rd) hx'2
     refine Zai (id:=67) (caps:=[]) rfl (Zp (v:=v_cells) rfl (Zp (v:=.n x1) rfl ZK)) ca'2 ?_
     have hO'9:=hO'8.call hW'2 rfl
     refine Zd (.tu [v'5,v'6]) rfl (Zg (Zad (vs:=[v'5,v'6]) (v:=v'5) rfl rfl) (Zg (Zad (vs:=[v'5,v'6]) (v:=v'6) rfl rfl) (Zd v'5 rfl (Zd v'6 rfl (Zc (Zb (Zi ?_)))))))
     refine Zl (Za0 (hO'9.bsl (E:=Zao) (l:=[]) hO'9.fr (by rw [Zb3]; rfl) rfl) ?_)
     rintro v'7 k'6 ⟨r'2,f'2,hW⟩
     have hO'10:=hW
     refine Zd v'7 rfl (Zc (Zb (Zi (Zi (Zl (Zd v_cells q'2_0 (Zg (ZaC (hO'10.rd0 s_cells.rd) rfl) ?_)))))))
     refine Zd (.n 0) rfl (Zc (Zb (Zay ?_)))
     obtain ⟨o'3,ho'2,hp⟩:=Zq hp
     refine W.mono (Q:=fun e fr k=>match (generalizing:=false) o'3 with
       | (met2,part1)=>e = (.exit 2)∧∃ (v'9:V),fr 0 = v_cells∧fr 5 = v'3∧fr 6 = v'2∧fr 10 = v'9∧fr 21 = .n (cells.length:Int)∧fr 22 = .n x1∧Own B h k [eSl eV v'3 vs'2,Zc7 Zao vs'2 l,eSl e_bool v'2 met2,eSl Zao v'9 part1]) ?_ ?_
     ·clear hp
      refine zU (fun st fr k=>match st with | (met1,part,x4)=>∃ (v'8:V),fr 0 = v_cells∧fr 5 = v'3∧fr 6 = v'2∧fr 7 = .n x1∧fr 9 = v'6∧fr 10 = v'8∧fr 21 = .n (cells.length:Int)∧fr 22 = .n x1∧fr 37 = .n (cells.length:Int)∧fr 38 = .n x4∧Own B h k [eSl eV v'3 vs'2,Zc7 Zao vs'2 l,eSl e_bool v'2 met1,eSl Zao v'6 x3,eSl Zao v'8 part]) ho'2 (s:=(met,[],0)) ⟨v'7,q'2_0,q'2_5,q'2_6,rfl,rfl,rfl,q'2_21,q'2_22,rfl,rfl,(hO'10.pick [0,1,2,4,5] rfl (by decide))⟩ ?_
      rintro ⟨met1,part,x4⟩ q'4 k'8 ⟨v'8,q'4_0,q'4_5,q'4_6,q'4_7,q'4_9,q'4_10,q'4_21,q'4_22,q'4_37,q'4_38,hO'12⟩ o'4 hp
      dsimp only [Za3.s1] at hp
      refine Zi (Zl (Zg (zO (a:=x4) (b:=(cells.length:Int)) q'4_38 q'4_37) (Zc (Zb (Zi ?_)))))
      rcases Zt hp with ⟨b'4,hp⟩ | ⟨b'4,hp⟩
      ·refine zB (t:=(decide (x4 < (cells.length:Int)))) rfl b'4 ?_
       refine zC (Zb (Zi (Zay (Zi (Zl (Zd (.n x4) q'4_38 (Zd (.n x4) rfl ?_)))))))
       refine Zc (Zb (Zi (Zl (Zd (.n x4) rfl (Zd (.n x1) q'4_7 (Zg (ZbE (a:=x4) (b:=x1) rfl rfl) (Zd (.b (decide (x4 = x1))) rfl ?_)))))))
       obtain ⟨t,hv'1,hp⟩:=Zq hp
       refine Zaa 6 (fun fr' k'=>k'8 = k'∧fr' 50 = .b t∧fr' 0 = v_cells∧fr' 10 = v'8∧fr' 11 = .n x4∧fr' 21 = .n (cells.length:Int)∧fr' 22 = .n x1∧fr' 37 = .n (cells.length:Int)∧fr' 38 = .n x4∧fr' 5 = v'3∧fr' 6 = v'2∧fr' 7 = .n x1∧fr' 9 = v'6) ?_ ?_
       ·clear hp; rcases Zt hv'1 with ⟨b'5,hp⟩ | ⟨b'5,hp⟩
        ·skip
         refine Zw rfl b'5 (Zw rfl b'5 (Zw rfl b'5 (Zw rfl b'5 (Zw rfl b'5 (Zg (za (t:=(decide (x4 = x1))) (v:=.b t) rfl b'5 (Eq.trans (b:=V.b true) rfl (congrArg V.b (Option.some.inj hp)))) (Zc ?_))))))
         exact ⟨rfl,rfl,q'4_0,q'4_10,rfl,q'4_21,q'4_22,q'4_37,q'4_38,q'4_5,q'4_6,q'4_7,q'4_9⟩
        ·skip
         refine Z7 rfl b'5 (Zd v'6 q'4_9 (Z7 rfl b'5 (Zd (.n x4) rfl (Z7 rfl b'5 ?_))))
         obtain ⟨c'4,hp⟩:=Zn hp
         refine Zg (zt (E:=Zao) (z:=x4) (hO'12.sl 3 rfl) rfl rfl c'4) (Z7 rfl b'5 (Zg (zX (w:=.n (gi x3 x4.toNat)) (hO'12.sl 3 rfl) rfl (Zj c'4) rfl) (Z7 rfl b'5 (Zg (ZcA (a:=(gi x3 x4.toNat)) (b:=0) rfl rfl) (Zg (ZU (t:=(decide (x4 = x1))) (v:=.b t) rfl b'5 (Eq.trans (b:=V.b (decide (0≤(gi x3 x4.toNat)))) rfl (congrArg V.b (Option.some.inj hp)))) (Zc ?_))))))
         exact ⟨rfl,rfl,q'4_0,q'4_10,rfl,q'4_21,q'4_22,q'4_37,q'4_38,q'4_5,q'4_6,q'4_7,q'4_9⟩
       rintro frg'1 _ ⟨rfl,g'1_50,g'1_0,g'1_10,g'1_11,g'1_21,g'1_22,g'1_37,g'1_38,g'1_5,g'1_6,g'1_7,g'1_9⟩
       refine Zc (Zb ?_)
       rcases Zt hp with ⟨b'6,hp⟩ | ⟨b'6,hp⟩
       ·refine zB (t:=t) g'1_50 b'6 ?_
        refine Zi (Zl (Zd v'2 g'1_6 (Zd (.n x4) g'1_11 ?_)))
        obtain ⟨c'5,hp⟩:=Zn hp
        refine Zg (zt (E:=e_bool) (z:=x4) (hO'12.sl 2 rfl) rfl rfl c'5) (Za0 (hO'12.ste (E:=e_bool) (y:=true) (ws:=[.b true]) 2 rfl rfl (Zj c'5) rfl rfl ⟨rfl,Nat.le_of_ble_eq_true rfl,rfl⟩ rfl) ?_)
        rintro _ k'9 ⟨rfl,f'3,m'1,hW⟩
        have hO'13:=hW
        refine Zc (Zb (Zl (Zd v'8 g'1_10 (Zd (.n x4) g'1_11 (Za0 (hO'13.bsl (E:=Zao) (l:=[x4]) hO'13.fr (by rw [(Zae (v:=.n x4) rfl Zb3)]; rfl) rfl) ?_)))))
        rintro v'10 k'10 ⟨r'3,f'4,hW⟩
        have hO'14:=hW
        obtain ⟨c'6,hp⟩:=Zn hp
        refine Za0 (hO'14.app (E:=Zao) (bytes:=8) 4 hO'14.fr rfl (hO'14.sl 5 rfl) rfl rfl (fun _=>rfl) c'6 (by decide)) ?_
        rintro v'11 k'11 ⟨f'5,hW⟩
        have hO'15:=hW
        refine Zd v'11 rfl (Zc (Zax (Zb (Zl ?_))))
        obtain ⟨c'7,hp⟩:=Zn hp
        refine Zg (zD (a:=x4) (b:=1) g'1_38 rfl c'7) (Zd (.n (x4 + 1)) rfl (Zc ?_))
        cases hp
        exact (Or.inl ⟨(met1.set x4.toNat true,part++[x4],x4 + 1),rfl,rfl,v'11,g'1_0,g'1_5,g'1_6,g'1_7,g'1_9,rfl,g'1_21,g'1_22,g'1_37,rfl,(hO'15.pick [0,1,2,3,4] rfl (by decide))⟩)
       ·refine zz (t:=t) g'1_50 b'6 ?_
        refine zC (Zax (Zb (Zl ?_)))
        obtain ⟨c'8,hp⟩:=Zn hp
        refine Zg (zD (a:=x4) (b:=1) g'1_38 rfl c'8) (Zd (.n (x4 + 1)) rfl (Zc ?_))
        cases hp
        exact (Or.inl ⟨(met1,part,x4 + 1),rfl,rfl,v'8,g'1_0,g'1_5,g'1_6,g'1_7,g'1_9,g'1_10,g'1_21,g'1_22,g'1_37,rfl,(hO'12.pick [0,1,2,3,4] rfl (by decide))⟩)
      ·refine zz (t:=(decide (x4 < (cells.length:Int)))) rfl b'4 ?_
       refine ZbM (Zak ?_)
       cases hp
       refine (Or.inr ⟨(met1,part),rfl,(fun h=>nomatch h),(fun he=>?_)⟩)
       subst he; exact ⟨rfl,v'8,q'4_0,q'4_5,q'4_6,q'4_10,q'4_21,q'4_22,(hO'12.pick [0,1,2,4] rfl (by decide))⟩
     intro e'2 q'3 k'7 hJ'2
     obtain ⟨met2,part1⟩:=o'3
     obtain ⟨rfl,v'9,q'3_0,q'3_5,q'3_6,q'3_10,q'3_21,q'3_22,hO'11⟩:=hJ'2
     refine ZaN (Zb (Zl (Zd v'3 q'3_5 (Zd v'9 q'3_10 (Za0 (hO'11.bsl (E:=eV) (l:=[v'9]) hO'11.fr (by rw [(Zae (v:=v'9) rfl Zb3)]; simp only [fill,(hO'11.sl 3 rfl).cells]; simp [over]) rfl) ?_)))))
     rintro v'12 k'12 ⟨r'4,f'6,hW⟩
     have hO'16:=hW
     obtain ⟨c'9,hp⟩:=Zn hp
     refine Za0 (hO'16.appV (bytes:=24) 0 hO'16.fr rfl (hO'16.sl 4 rfl) rfl rfl (by simp only [List.all_cons,List.all_nil,Bool.and_true]; exact (hO'16.sl 3 rfl).oneV) (by rw [(hO'16.allLen 1 rfl:(vs'2).length = (l).length)]; exact c'9) (by decide)) ?_
     rintro v'13 k'13 ⟨f'7,hW⟩
     have hO'17:=hW
     have hO'18:=hO'17.absorb 1 3 rfl rfl (by decide)
     refine Zd v'13 rfl (Zc (Zax (Zb (Zl ?_))))
     obtain ⟨c'10,hp⟩:=Zn hp
     refine Zg (zD (a:=x1) (b:=1) q'3_22 rfl c'10) (Zd (.n (x1 + 1)) rfl (Zc ?_))
     cases hp
     exact (Or.inl ⟨(l++[part1],met2,x1 + 1),rfl,rfl,v'13,vs'2++[v'9],q'3_0,rfl,q'3_6,q'3_21,rfl,(hO'18.pick [0,1,2] rfl (by decide))⟩)
   ·refine zz (t:=(decide (x1 < (cells.length:Int)))) rfl b'2 ?_
    refine ZbM (Zak ?_)
    cases hp
    refine (Or.inr ⟨l,rfl,(fun h=>nomatch h),(fun he=>?_)⟩)
    subst he; exact ⟨rfl,v'3,vs'2,q'2_5,(hO'8.pick [0,1] rfl (by decide))⟩
  intro e'1 q'1 k'3 hJ'1
  obtain ⟨l1,rfl⟩:∃ x,x = o'1:=⟨_,rfl⟩
  obtain ⟨rfl,v'4,vs'3,q'1_5,hO'5⟩:=hJ'1
  refine ZaN (Zb (Zi (Zl (Zd v'4 q'1_5 (Zd v'4 rfl (Zd (.n 0) rfl (Zc ?_)))))))
  refine Zb (zL (zf (zl (n:=2) (v:=v'4) rfl (zl (n:=3) (v:=.n 0) rfl ZD)) ?_))
  cases hp
  exact ⟨v'4,vs'3,rfl,(hO'5.pick [0,1] rfl (by decide))⟩

theorem Zc1.ok {h:Hp} {cells:List Za} {v_cells:V} (s_cells:Sl Ze h v_cells cells) {r:Bool} (hp:Zc1 cells = some r) :
  ∃ u k',Is G 32 [v_cells] h u k'∧V.b r = u∧Own (fun r=>r < h.n) h k' []:=by
 refine WC.is (Za7 Zfr ?_)
 unfold Zc1 at hp
 let B:Nat→Prop:=(fun r=>r < h.n)
 have hO:Own B h h []:=Own.start0 h
 refine Zi (Zl (Zd (.b false) rfl (Zc (Zb (Zi (Zl (Zd v_cells rfl ?_)))))))
 obtain ⟨⟨x,x1⟩,hx'1,hp⟩:=Zq hp
 obtain ⟨u'1,k'1,ca'1,v'1,vs'1,rfl,hW'1⟩:=Za3.ok (h:=h)  (hO.rd0 s_cells.rd) hx'1
 refine Zai (id:=29) (caps:=[]) rfl (Zp (v:=v_cells) rfl ZK) ca'1 ?_
 have hO'1:=hO.call hW'1 rfl
 refine Zd (.tu [v'1,.n x1]) rfl (Zg (Zad (vs:=[v'1,.n x1]) (v:=v'1) rfl rfl) (Zg (Zad (vs:=[v'1,.n x1]) (v:=.n x1) rfl rfl) (Zd v'1 rfl (Zd (.n x1) rfl (Zc (Zb (Zi ?_)))))))
 refine Zl (Zd (.n x1) rfl (Zg (ZbE (a:=x1) (b:=0) rfl rfl) (Zd (.b (decide (x1 = 0))) rfl ?_)))
 refine Zaa 4 (fun fr' k'=>k'1 = k'∧fr' 16 = .b ((decide (x1 = 0)) && (decide ((x.length:Int) = 1)))) ?_ ?_
 ·rcases bc (decide (x1 = 0)) with b'1 | b'1
  ·skip
   refine Z7 rfl b'1 (Zd v'1 rfl (Z7 rfl b'1 (Zg (Zgw (n:=(x).length) (hO'1.sl 0 rfl) (hO'1.allLen 1 rfl:(vs'1).length = (x).length) rfl) (Z7 rfl b'1 (Zg (ZbE (a:=(x.length:Int)) (b:=1) rfl rfl) (Zg (za (t:=(decide (x1 = 0))) (v:=.b ((decide (x1 = 0)) && (decide ((x.length:Int) = 1)))) rfl b'1 (Eq.trans (b:=V.b (decide ((x.length:Int) = 1))) rfl (Zcs b'1))) (Zc ?_)))))))
   exact ⟨rfl,rfl⟩
  ·skip
   refine Zw rfl b'1 (Zw rfl b'1 (Zw rfl b'1 (Zg (ZU (t:=(decide (x1 = 0))) (v:=.b ((decide (x1 = 0)) && (decide ((x.length:Int) = 1)))) rfl b'1 (Eq.trans (b:=V.b false) rfl (ZbW b'1))) (Zc ?_))))
   exact ⟨rfl,rfl⟩
 rintro frg'1 _ ⟨rfl,g'1_16⟩
 refine Zd (.b ((decide (x1 = 0)) && (decide ((x.length:Int) = 1)))) g'1_16 (Zc (Zb (zL (zf (zl (n:=2) (v:=.b ((decide (x1 = 0)) && (decide ((x.length:Int) = 1)))) rfl ZD) ?_))))
 cases hp
 exact ⟨rfl,(hO'1.pick [] rfl (by decide))⟩

theorem Zbe.ok {h:Hp} {d:Zr} {cells:List Za} {v_cells:V} (s_cells:Sl Ze h v_cells cells) {r:Bool} (hp:Zbe d cells = some r) :
  ∃ u k',Is G 220 [.ag (Zf.c d),v_cells] h u k'∧V.b r = u∧Own (fun r=>r < h.n) h k' []:=by
 refine WC.is (Za7 ZeB ?_)
 unfold Zbe at hp
 let B:Nat→Prop:=(fun r=>r < h.n)
 have hO:Own B h h []:=Own.start0 h
 refine Zi (Zl (Za0 (hO.boxd (v:=.ag (Zf.c d)) (cs:=Zf.c d) hO.fr rfl rfl) ?_))
 rintro _ k'1 ⟨r'1,rfl,n'1,f'1,hW⟩
 have hO'1:=hW
 refine Zd (.b false) rfl (Zc (Zb (Zi (Zh8 ?_))))
 have hW:=hO'1.bump 28
 have fr'1:=Fresh.start k'1 28
 have nb'1:∀ {i:Nat},h.n≤k'1.n + i:=Nat.le_trans hO'1.n (Nat.le_add_right _ _)
 have hO'2:=hW
 refine Zar (Zbv (r:=r'1) (o:=0) (o':=0) rfl rfl) (Zar (ZaK (cs:=(Zf.c d)) (v:=.n d.Cell) (hO'2.box 0 rfl) rfl rfl) (Zar (ZcA (a:=d.Cell) (b:=0) rfl rfl) (ZbD (.b (decide (0≤d.Cell))) rfl ?_)))
 rcases Zt hp with ⟨b'1,hp⟩ | ⟨b'1,hp⟩
 ·skip
  refine Zci rfl b'1 (Zar (Zbv (r:=r'1) (o:=0) (o':=0) rfl rfl) (Zci rfl b'1 (Zar (ZaK (cs:=(Zf.c d)) (v:=.n d.Cell) (hO'2.box 0 rfl) rfl rfl) (Zci rfl b'1 (ZbD v_cells rfl (Zci rfl b'1 (Zar (ZaC (hO'2.rd0 s_cells.rd) rfl) ?_)))))))
  refine Zci rfl b'1 (Zar (zO (a:=d.Cell) (b:=(cells.length:Int)) rfl rfl) (Zar (za (t:=(decide (0≤d.Cell))) (v:=.b (decide (d.Cell < (cells.length:Int)))) rfl b'1 rfl) (ZbD (.b (decide (d.Cell < (cells.length:Int)))) rfl ?_)))
  rcases Zt hp with ⟨b'2,hp⟩ | ⟨b'2,hp⟩
  ·skip
   refine Zci rfl b'2 (Zar (Zbv (r:=r'1) (o:=0) (o':=1) rfl rfl) (Zci rfl b'2 (Zar (ZaK (cs:=(Zf.c d)) (v:=.n d.Dir) (hO'2.box 0 rfl) rfl rfl) (Zci rfl b'2 ?_))))
   obtain ⟨x,hx'1,hp⟩:=Zq hp
   obtain ⟨u'1,k'3,ca'1,rfl,hW'1⟩:=ZaA.ok (h:=(k'1.bump 28))   hx'1
   refine Zkx (id:=90) (caps:=[]) rfl (Zp (v:=.n d.Dir) rfl ZK) ca'1 ?_
   have fr'2:=fr'1.call hW'1
   have hO'3:=hO'2.call hW'1 rfl
   refine Zar (za (t:=(decide (d.Cell < (cells.length:Int)))) (v:=.b x) rfl b'2 rfl) (ZbD (.b x) rfl ?_)
   rcases Zt hp with ⟨b'3,hp⟩ | ⟨b'3,hp⟩
   ·skip
    refine Zci rfl b'3 (ZbD v_cells rfl (Zci rfl b'3 (Zar (Zbv (r:=r'1) (o:=0) (o':=0) rfl rfl) (Zci rfl b'3 (Zar (ZaK (cs:=(Zf.c d)) (v:=.n d.Cell) (hO'3.box 0 rfl) rfl rfl) (Zci rfl b'3 (Zar (Zbv (r:=r'1) (o:=0) (o':=1) rfl rfl) ?_)))))))
    refine Zci rfl b'3 (Zar (ZaK (cs:=(Zf.c d)) (v:=.n d.Dir) (hO'3.box 0 rfl) rfl rfl) (Zci rfl b'3 ?_))
    obtain ⟨c'1,hp⟩:=Zn hp
    refine Zar (zt (E:=Ze) (z:=d.Cell) (hO'3.rd0 s_cells.rd) rfl rfl c'1) (Zci rfl b'3 (Zar (ZaO (off':=0) (off2:=0) (hO'3.rd0 s_cells.rd) (Zj c'1) rfl rfl) (Zci rfl b'3 ?_)))
    obtain ⟨c'2,hp⟩:=Zn hp
    refine Zar (ZaZ (off:=0) (off2:=(0 + (d.Dir:Int).toNat * 1)) (z:=d.Dir) (hO'3.rd0 s_cells.rd) (Zj c'1) rfl rfl c'2 rfl) (Zci rfl b'3 (Zar (zX (w:=.n (((gi cells (d.Cell:Int).toNat).Next).get d.Dir)) (hO'3.rd0 s_cells.rd) rfl (Zj c'1) (zr c'2)) (Zci rfl b'3 (Zar (ZcA (a:=(((gi cells (d.Cell:Int).toNat).Next).get d.Dir)) (b:=0) rfl rfl) (Zar (za (t:=x) (v:=.b (decide (0≤(((gi cells (d.Cell:Int).toNat).Next).get d.Dir)))) rfl b'3 rfl) (ZbD (.b (decide (0≤(((gi cells (d.Cell:Int).toNat).Next).get d.Dir)))) rfl (Zdn ?_)))))))
    refine And.intro ?_ ?_
    ·intro q hq
     simp only [List.mem_cons,List.not_mem_nil,or_false] at hq
     rcases hq with rfl
     ·refine Zct ?_ ?_
      ·exact (fun h=>nomatch h)
      ·exact (fun h=>nomatch h)
    refine Zb (zL (zf (zl (n:=4) (v:=.b (decide (0≤(((gi cells (d.Cell:Int).toNat).Next).get d.Dir)))) rfl ZD) ?_))
    cases hp
    exact ⟨rfl,(hO'3.pick [] rfl (by decide))⟩
   ·skip
    refine Zat rfl b'3 (Zat rfl b'3 (Zat rfl b'3 (Zat rfl b'3 (Zat rfl b'3 (Zat rfl b'3 (Zat rfl b'3 (Zat rfl b'3 ?_)))))))
    refine Zat rfl b'3 (Zat rfl b'3 (Zar (ZU (t:=x) (v:=.b false) rfl b'3 rfl) (ZbD (.b false) rfl (Zdn ?_))))
    refine And.intro ?_ ?_
    ·intro q hq
     simp only [List.mem_cons,List.not_mem_nil,or_false] at hq
     rcases hq with rfl
     ·exact Zka
    refine Zb (zL (zf (zl (n:=4) (v:=.b false) rfl ZD) ?_))
    cases hp
    exact ⟨rfl,(hO'3.pick [] rfl (by decide))⟩
  ·skip
   refine Zat rfl b'2 (Zat rfl b'2 (Zat rfl b'2 (Zar (ZU (t:=(decide (d.Cell < (cells.length:Int)))) (v:=.b false) rfl b'2 rfl) (ZbD (.b false) rfl (Zat rfl rfl (Zat rfl rfl (Zat rfl rfl ?_)))))))
   refine Zat rfl rfl (Zat rfl rfl (Zat rfl rfl (Zat rfl rfl (Zat rfl rfl (Zat rfl rfl (Zat rfl rfl (Zar (ZU (t:=false) (v:=.b false) rfl rfl rfl) ?_)))))))
   refine ZbD (.b false) rfl (Zdn ?_)
   refine And.intro ?_ ?_
   ·intro q hq
    simp only [List.mem_cons,List.not_mem_nil,or_false] at hq
    rcases hq with rfl
    ·exact Zka
   refine Zb (zL (zf (zl (n:=4) (v:=.b false) rfl ZD) ?_))
   cases hp
   exact ⟨rfl,(hO'2.pick [] rfl (by decide))⟩
 ·skip
  refine Zat rfl b'1 (Zat rfl b'1 (Zat rfl b'1 (Zat rfl b'1 (Zat rfl b'1 (Zar (ZU (t:=(decide (0≤d.Cell))) (v:=.b false) rfl b'1 rfl) (ZbD (.b false) rfl (Zat rfl rfl ?_)))))))
  refine Zat rfl rfl (Zat rfl rfl (Zar (ZU (t:=false) (v:=.b false) rfl rfl rfl) (ZbD (.b false) rfl (Zat rfl rfl (Zat rfl rfl (Zat rfl rfl (Zat rfl rfl ?_)))))))
  refine Zat rfl rfl (Zat rfl rfl (Zat rfl rfl (Zat rfl rfl (Zat rfl rfl (Zat rfl rfl (Zar (ZU (t:=false) (v:=.b false) rfl rfl rfl) (ZbD (.b false) rfl ?_)))))))
  refine Zdn ?_
  refine And.intro ?_ ?_
  ·intro q hq
   simp only [List.mem_cons,List.not_mem_nil,or_false] at hq
   rcases hq with rfl
   ·exact Zka
  refine Zb (zL (zf (zl (n:=4) (v:=.b false) rfl ZD) ?_))
  cases hp
  exact ⟨rfl,(hO'2.pick [] rfl (by decide))⟩

theorem zT.ok {h:Hp} {d:Zr} {cells:List Za} {v_cells:V} (s_cells:Sl Ze h v_cells cells) {r:Zr} (hp:zT d cells = some r) :
  ∃ u k',Is G 221 [.ag (Zf.c d),v_cells] h u k'∧V.ag (Zf.c r) = u∧Own (fun r=>r < h.n) h k' []:=by
 refine WC.is (Za7 ZdI ?_)
 unfold zT at hp
 let B:Nat→Prop:=(fun r=>r < h.n)
 have hO:Own B h h []:=Own.start0 h
 refine Zi (Zl (Za0 (hO.boxd (v:=.ag (Zf.c d)) (cs:=Zf.c d) hO.fr rfl rfl) ?_))
 rintro _ k'1 ⟨r'1,rfl,n'1,f'1,hW⟩
 have hO'1:=hW
 refine Za0 (hO'1.alloc (cs:=Zf.c (⟨0,0⟩:Zr)) hO'1.fr) ?_
 rintro _ k'2 ⟨r'2,rfl,n'2,f'2,hW⟩
 have hO'2:=hW
 refine Zc (Zb (Zi (ZgZ ?_)))
 have hW:=hO'2.bump 10
 have hO'3:=hW
 refine Zah v_cells rfl (ZS rfl (Zbv (r:=r'1) (o:=0) (o':=0) rfl rfl) (ZS rfl (ZaK (cs:=(Zf.c d)) (v:=.n d.Cell) (hO'3.box 0 rfl) rfl rfl) (ZS rfl (Zbv (r:=r'1) (o:=0) (o':=1) rfl rfl) (ZS rfl (ZaK (cs:=(Zf.c d)) (v:=.n d.Dir) (hO'3.box 0 rfl) rfl rfl) ?_))))
 obtain ⟨c'1,hp⟩:=Zn hp
 refine ZS rfl (zt (E:=Ze) (z:=d.Cell) (hO'3.rd0 s_cells.rd) rfl rfl c'1) (ZS rfl (ZaO (off':=0) (off2:=0) (hO'3.rd0 s_cells.rd) (Zj c'1) rfl rfl) ?_)
 obtain ⟨c'2,hp⟩:=Zn hp
 refine ZS rfl (ZaZ (off:=0) (off2:=(0 + (d.Dir:Int).toNat * 1)) (z:=d.Dir) (hO'3.rd0 s_cells.rd) (Zj c'1) rfl rfl c'2 rfl) (ZS rfl (zX (w:=.n (((gi cells (d.Cell:Int).toNat).Next).get d.Dir)) (hO'3.rd0 s_cells.rd) rfl (Zj c'1) (zr c'2)) (Zah (.n (((gi cells (d.Cell:Int).toNat).Next).get d.Dir)) rfl (Zaj (Zb (Zi (Zi (Zl ?_)))))))
 refine Zg (Zdo (cs:=Zbl.c (⟨1,0,(-1),2⟩:A4 Int)) (by rw [(Zae (v:=.n 1) rfl (Zae (v:=.n 0) rfl (Zae (v:=.n (-1)) rfl (Zae (v:=.n 2) rfl Zb3))))]; rfl)) (Zd (.n 0) rfl (Zc (Zb (Zay ?_))))
 obtain ⟨o'1,ho'1,hp⟩:=Zq hp
 refine W.mono (Q:=fun e fr k=>match (generalizing:=false) o'1 with
   | .inl _=>e = (.exit 0)∧fr 2 = .p r'1 0∧fr 4 = .p r'2 0∧Own B h k [ZaD r'1 (Zf.c d),ZaD r'2 (Zf.c (⟨0,0⟩:Zr))]
   | .inr x1=>e = .ret∧fr 4 = .p r'2 0∧Own B h k [ZaD r'2 (Zf.c x1)]) ?_ ?_
 ·clear hp
  refine zU (fun st fr k=>match st with | x=>fr 1 = v_cells∧fr 2 = .p r'1 0∧fr 4 = .p r'2 0∧fr 5 = .n (((gi cells (d.Cell:Int).toNat).Next).get d.Dir)∧fr 18 = .ag (Zbl.c (⟨1,0,(-1),2⟩:A4 Int))∧fr 19 = .n x∧Own B h k [ZaD r'1 (Zf.c d),ZaD r'2 (Zf.c (⟨0,0⟩:Zr))]) ho'1 (s:=0) ⟨rfl,rfl,rfl,rfl,rfl,rfl,(hO'3.pick [0,1] rfl (by decide))⟩ ?_
  rintro x q'2 k'5 ⟨q'2_1,q'2_2,q'2_4,q'2_5,q'2_18,q'2_19,hO'5⟩ o'2 hp
  dsimp only [zT.s0] at hp
  refine Zi (Zl (Zg (zO (a:=x) (b:=4) q'2_19 rfl) (Zc (Zb (Zi ?_)))))
  rcases Zt hp with ⟨b'1,hp⟩ | ⟨b'1,hp⟩
  ·refine zB (t:=(decide (x < 4))) rfl b'1 ?_
   refine zC (Zb (Zi (Zay (Zi (Zl ?_)))))
   obtain ⟨c'3,hp⟩:=Zn hp
   refine Zg (Zn5 (cs:=Zbl.c (⟨1,0,(-1),2⟩:A4 Int)) (z:=x) (v:=.n ((⟨1,0,(-1),2⟩:A4 Int).get x)) q'2_18 q'2_19 c'3 (Zgy c'3)) (Zd (.n ((⟨1,0,(-1),2⟩:A4 Int).get x)) rfl (Zc (Zb (Zi (Zl (Zd (.n (((gi cells (d.Cell:Int).toNat).Next).get d.Dir)) q'2_5 (Zg (Zbv (r:=r'1) (o:=0) (o':=1) q'2_2 rfl) ?_)))))))
   refine Zg (ZaK (cs:=(Zf.c d)) (v:=.n d.Dir) (hO'5.box 0 rfl) rfl rfl) (Zd (.n ((⟨1,0,(-1),2⟩:A4 Int).get x)) rfl ?_)
   obtain ⟨x2,hx'1,hp⟩:=Zq hp
   obtain ⟨u'1,k'6,ca'1,rfl,hW'1⟩:=ZaB.ok (h:=k'5)   hx'1
   refine Zai (id:=77) (caps:=[]) rfl (Zp (v:=.n d.Dir) rfl (Zp (v:=.n ((⟨1,0,(-1),2⟩:A4 Int).get x)) rfl ZK)) ca'1 ?_
   have hO'6:=hO'5.call hW'1 rfl
   refine Zg (Zdo (cs:=Zf.c (⟨((gi cells (d.Cell:Int).toNat).Next).get d.Dir,x2⟩:Zr)) (by rw [(Zae (v:=.n (((gi cells (d.Cell:Int).toNat).Next).get d.Dir)) rfl (Zae (v:=.n x2) rfl Zb3))]; rfl)) (Za0 (hO'6.alloc (cs:=Zf.c (⟨0,0⟩:Zr)) hO'6.fr) ?_)
   rintro _ k'7 ⟨r'3,rfl,n'3,f'3,hW⟩
   have hO'7:=hW
   refine Za0 (hO'7.stb (ws:=Zf.c (⟨((gi cells (d.Cell:Int).toNat).Next).get d.Dir,x2⟩:Zr)) (cs':=Zf.c (⟨((gi cells (d.Cell:Int).toNat).Next).get d.Dir,x2⟩:Zr)) (v:=.ag (Zf.c (⟨((gi cells (d.Cell:Int).toNat).Next).get d.Dir,x2⟩:Zr))) 2 rfl rfl rfl rfl ⟨rfl,Nat.le_of_ble_eq_true rfl,rfl⟩ rfl) ?_
   rintro _ k'8 ⟨rfl,f'4,m'1,hW⟩
   have hO'8:=hW
   refine Zc (Zb (Zi (Zl (Zg (Zce (cs:=(Zf.c (⟨((gi cells (d.Cell:Int).toNat).Next).get d.Dir,x2⟩:Zr))) (ws:=Zf.c (⟨((gi cells (d.Cell:Int).toNat).Next).get d.Dir,x2⟩:Zr)) (hO'8.box 2 rfl) rfl rfl) (Zd v_cells q'2_1 ?_)))))
   obtain ⟨x3,hx'2,hp⟩:=Zq hp
   obtain ⟨u'2,k'9,ca'2,rfl,hW'2⟩:=Zbe.ok (h:=k'8)  (hO'8.rd0 s_cells.rd) hx'2
   refine Zai (id:=220) (caps:=[]) rfl (Zp (v:=.ag (Zf.c (⟨((gi cells (d.Cell:Int).toNat).Next).get d.Dir,x2⟩:Zr))) rfl (Zp (v:=v_cells) rfl ZK)) ca'2 ?_
   have hO'9:=hO'8.call hW'2 rfl
   refine Zc (Zb ?_)
   rcases Zt hp with ⟨b'2,hp⟩ | ⟨b'2,hp⟩
   ·refine zB (t:=x3) rfl b'2 ?_
    refine Zi (Zl (Zg (Zce (cs:=(Zf.c (⟨((gi cells (d.Cell:Int).toNat).Next).get d.Dir,x2⟩:Zr))) (ws:=Zf.c (⟨((gi cells (d.Cell:Int).toNat).Next).get d.Dir,x2⟩:Zr)) (hO'9.box 2 rfl) rfl rfl) (Za0 (hO'9.stb (ws:=Zf.c (⟨((gi cells (d.Cell:Int).toNat).Next).get d.Dir,x2⟩:Zr)) (cs':=Zf.c (⟨((gi cells (d.Cell:Int).toNat).Next).get d.Dir,x2⟩:Zr)) (v:=.ag (Zf.c (⟨((gi cells (d.Cell:Int).toNat).Next).get d.Dir,x2⟩:Zr))) 1 rfl q'2_4 rfl rfl ⟨rfl,Nat.le_of_ble_eq_true rfl,rfl⟩ rfl) ?_)))
    rintro _ k'10 ⟨rfl,f'5,m'2,hW⟩
    have hO'10:=hW
    refine Zc (Zb (zL (Zbd (zh ?_))))
    cases hp
    refine (Or.inr ⟨(.inr (⟨((gi cells (d.Cell:Int).toNat).Next).get d.Dir,x2⟩:Zr)),rfl,(fun h=>nomatch h),(fun he=>?_)⟩)
    subst he; exact ⟨rfl,q'2_4,(hO'10.pick [1] rfl (by decide))⟩
   ·refine zz (t:=x3) rfl b'2 ?_
    refine zC (Zax (Zb (Zl ?_)))
    obtain ⟨c'4,hp⟩:=Zn hp
    refine Zg (zD (a:=x) (b:=1) q'2_19 rfl c'4) (Zd (.n (x + 1)) rfl (Zc ?_))
    cases hp
    exact (Or.inl ⟨x + 1,rfl,rfl,q'2_1,q'2_2,q'2_4,q'2_5,q'2_18,rfl,(hO'9.pick [0,1] rfl (by decide))⟩)
  ·refine zz (t:=(decide (x < 4))) rfl b'1 ?_
   refine ZbM (Zak ?_)
   cases hp
   refine (Or.inr ⟨.inl (),rfl,(fun h=>nomatch h),(fun he=>?_)⟩)
   subst he; exact ⟨rfl,q'2_2,q'2_4,(hO'5.pick [0,1] rfl (by decide))⟩
 intro e'1 q'1 k'4 hJ'1
 rcases o'1 with _ | x1
 ·obtain ⟨rfl,q'1_2,q'1_4,hO'4⟩:=hJ'1
  refine ZaN (Zb (Zi (Zl (Zg (Zce (cs:=(Zf.c d)) (ws:=Zf.c d) (hO'4.box 0 rfl) q'1_2 rfl) (Za0 (hO'4.stb (ws:=Zf.c d) (cs':=Zf.c d) (v:=.ag (Zf.c d)) 1 rfl q'1_4 rfl rfl ⟨rfl,Nat.le_of_ble_eq_true rfl,rfl⟩ rfl) ?_)))))
  rintro _ k'11 ⟨rfl,f'6,m'3,hW⟩
  have hO'11:=hW
  refine Zc (Zb (zL (zf (ZjD (n:=4) (v:=.ag (Zf.c d)) (r:=r'2) q'1_4 (hO'11.box 1 rfl) rfl ZD) ?_)))
  cases hp
  exact ⟨rfl,(hO'11.pick [] rfl (by decide))⟩
 ·obtain ⟨rfl,q'1_4,hO'4⟩:=hJ'1
  refine Zbd (zh (zf (ZjD (n:=4) (v:=.ag (Zf.c x1)) (r:=r'2) q'1_4 (hO'4.box 0 rfl) rfl ZD) ?_))
  cases hp
  exact ⟨rfl,(hO'4.pick [] rfl (by decide))⟩

theorem zx.ok {h:Hp} {cells:List Za} {v_cells:V} (s_cells:Sl Ze h v_cells cells) {r:(List (List Zr)) × Int} (hp:zx cells = some r) :
  ∃ u k',Is G 203 [v_cells] h u k'∧∃ (v'1:V),∃ (vs'1:List V),V.tu [v'1,.n r.2] = u∧Own (fun r=>r < h.n) h k' [eSl eV v'1 vs'1,Zc7 Zf vs'1 r.1]:=by
 refine WC.is (Za7 Zfl ?_)
 unfold zx at hp
 let B:Nat→Prop:=(fun r=>r < h.n)
 have hO:Own B h h []:=Own.start0 h
 refine Zi (Zl (Zd (.sn) rfl (Zd (.n 0) rfl (Zc (Zb (Zi (Zi ?_)))))))
 refine Zl (Zd v_cells rfl ?_)
 obtain ⟨x,hx'1,hp⟩:=Zq hp
 obtain ⟨u'1,k'1,ca'1,rfl,hW'1⟩:=zE.ok (h:=h)  (hO.rd0 s_cells.rd) hx'1
 refine Zai (id:=66) (caps:=[]) rfl (Zp (v:=v_cells) rfl ZK) ca'1 ?_
 have hO'1:=hO.call hW'1 rfl
 refine Zd (.n x) rfl (Zc (Zb (Zi (Zl (Zd (.n x) rfl (Zg (ZbK (a:=x) (b:=0) rfl rfl) (Zc ?_)))))))
 refine Zb ?_
 rcases Zt hp with ⟨b'1,hp⟩ | ⟨b'1,hp⟩
 ·refine zB (t:=(!(decide (x = 0)))) rfl b'1 ?_
  refine Zi (Zl (Zd (.n x) rfl (Zd (.sn) rfl (Zd (.n x) rfl (Zc (Zb (zL ?_)))))))
  refine zh ?_
  have hO'2:=hO'1.nil eV
  have hO'3:=hO'2.allNil Zf 0
  refine zf (zl (n:=2) (v:=.sn) rfl (zl (n:=3) (v:=.n x) rfl ZD)) ?_
  cases hp
  exact ⟨V.sn,[],rfl,(hO'3.pick [0,1] rfl (by decide))⟩
 ·refine zz (t:=(!(decide (x = 0)))) rfl b'1 ?_
  refine zC (Zb (Zi (Zl (Zd (.sn) rfl (Zc (Zb (Zi ?_)))))))
  refine Zl (Za0 (hO'1.mkm Zf hO'1.fr) ?_)
  rintro _ k'2 ⟨r'1,rfl,n'1,f'1,hW⟩
  have hO'4:=hW
  refine Zd (.mp r'1) rfl (Zc (Zb (Zi (Zi (Zl (Zd v_cells rfl (Zg (ZaC (hO'4.rd0 s_cells.rd) rfl) ?_)))))))
  refine Zd (.n 0) rfl (Zc (Zb (Zay ?_)))
  obtain ⟨o'1,ho'1,hp⟩:=Zq hp
  refine W.mono (Q:=fun e fr k=>match (generalizing:=false) o'1 with
    | l1=>e = (.exit 0)∧∃ (v'3:V),∃ (vs'3:List V),fr 5 = v'3∧Own B h k [eSl eV v'3 vs'3,Zc7 Zf vs'3 l1]) ?_ ?_
  ·clear hp
   have hO'6:=hO'4.nil eV
   have hO'7:=hO'6.allNil Zf 0
   refine zU (fun st fr k=>match st with | (l,met,x1)=>∃ (v'2:V),∃ (vs'2:List V),fr 0 = v_cells∧fr 5 = v'2∧fr 6 = .mp r'1∧fr 19 = .n (cells.length:Int)∧fr 20 = .n x1∧Own B h k [eSl eV v'2 vs'2,Zc7 Zf vs'2 l,eMp Zf r'1 met]) ho'1 (s:=(([]:List (List Zr)),([]:List (Zr × Bool)),0)) ⟨V.sn,[],rfl,rfl,rfl,rfl,rfl,(hO'7.pick [1,2,0] rfl (by decide))⟩ ?_
   rintro ⟨l,met,x1⟩ q'2 k'4 ⟨v'2,vs'2,q'2_0,q'2_5,q'2_6,q'2_19,q'2_20,hO'8⟩ o'2 hp
   dsimp only [zx.s0] at hp
   refine Zi (Zl (Zg (zO (a:=x1) (b:=(cells.length:Int)) q'2_20 q'2_19) (Zc (Zb (Zi ?_)))))
   rcases Zt hp with ⟨b'2,hp⟩ | ⟨b'2,hp⟩
   ·refine zB (t:=(decide (x1 < (cells.length:Int)))) rfl b'2 ?_
    refine zC (Zb (Zi (Zay (Zi (Zl (Zd (.n x1) q'2_20 (Zd (.n x1) rfl ?_)))))))
    refine Zc (Zb (Zi (Zl (Zd (.n 0) rfl (Zc (Zb (Zay ?_)))))))
    obtain ⟨o'3,ho'2,hp⟩:=Zq hp
    refine W.mono (Q:=fun e fr k=>match (generalizing:=false) o'3 with
      | (l3,met2)=>e = (.exit 2)∧∃ (v'5:V),∃ (vs'5:List V),fr 0 = v_cells∧fr 5 = v'5∧fr 6 = .mp r'1∧fr 19 = .n (cells.length:Int)∧fr 20 = .n x1∧Own B h k [eSl eV v'5 vs'5,Zc7 Zf vs'5 l3,eMp Zf r'1 met2]) ?_ ?_
    ·clear hp
     refine zU (fun st fr k=>match st with | (l2,met1,x2)=>∃ (v'4:V),∃ (vs'4:List V),fr 0 = v_cells∧fr 5 = v'4∧fr 6 = .mp r'1∧fr 7 = .n x1∧fr 19 = .n (cells.length:Int)∧fr 20 = .n x1∧fr 23 = .n x2∧Own B h k [eSl eV v'4 vs'4,Zc7 Zf vs'4 l2,eMp Zf r'1 met1]) ho'2 (s:=(l,met,0)) ⟨v'2,vs'2,q'2_0,q'2_5,q'2_6,rfl,q'2_19,q'2_20,rfl,(hO'8.pick [0,1,2] rfl (by decide))⟩ ?_
     rintro ⟨l2,met1,x2⟩ q'4 k'6 ⟨v'4,vs'4,q'4_0,q'4_5,q'4_6,q'4_7,q'4_19,q'4_20,q'4_23,hO'10⟩ o'4 hp
     dsimp only [zx.s1] at hp
     refine Zi (Zl (Zg (zO (a:=x2) (b:=4) q'4_23 rfl) (Zc (Zb (Zi ?_)))))
     rcases Zt hp with ⟨b'3,hp⟩ | ⟨b'3,hp⟩
     ·refine zB (t:=(decide (x2 < 4))) rfl b'3 ?_
      refine zC (Zb (Zi (Zay (Zi (Zl (Zd (.n x2) q'4_23 (Zd (.n x2) rfl ?_)))))))
      refine Zc (Zb (Zi (Zl (Zd (.n x1) q'4_7 (Zd (.n x2) rfl (Zg (Zdo (cs:=Zf.c (⟨x1,x2⟩:Zr)) (by rw [(Zae (v:=.n x1) rfl (Zae (v:=.n x2) rfl Zb3))]; rfl)) (Za0 (hO'10.alloc (cs:=Zf.c (⟨0,0⟩:Zr)) hO'10.fr) ?_)))))))
      rintro _ k'7 ⟨r'2,rfl,n'2,f'2,hW⟩
      have hO'11:=hW
      refine Za0 (hO'11.stb (ws:=Zf.c (⟨x1,x2⟩:Zr)) (cs':=Zf.c (⟨x1,x2⟩:Zr)) (v:=.ag (Zf.c (⟨x1,x2⟩:Zr))) 3 rfl rfl rfl rfl ⟨rfl,Nat.le_of_ble_eq_true rfl,rfl⟩ rfl) ?_
      rintro _ k'8 ⟨rfl,f'3,m'1,hW⟩
      have hO'12:=hW
      refine Zc (Zb (Zi (Zi (Zl (Zg (Zce (cs:=(Zf.c (⟨x1,x2⟩:Zr))) (ws:=Zf.c (⟨x1,x2⟩:Zr)) (hO'12.box 3 rfl) rfl rfl) (Zd v_cells q'4_0 ?_))))))
      obtain ⟨x3,hx'2,hp⟩:=Zq hp
      obtain ⟨u'2,k'9,ca'2,rfl,hW'2⟩:=Zbe.ok (h:=k'8)  (hO'12.rd0 s_cells.rd) hx'2
      refine Zai (id:=220) (caps:=[]) rfl (Zp (v:=.ag (Zf.c (⟨x1,x2⟩:Zr))) rfl (Zp (v:=v_cells) rfl ZK)) ca'2 ?_
      have hO'13:=hO'12.call hW'2 rfl
      refine Zg (Zcp (t:=x3) rfl) (Zd (.b (!x3)) rfl ?_)
      refine Zaa 4 (fun fr' k'=>k'9 = k'∧fr' 37 = .b ((!x3) || (Zdt false (⟨x1,x2⟩:Zr) met1))∧fr' 0 = v_cells∧fr' 19 = .n (cells.length:Int)∧fr' 20 = .n x1∧fr' 23 = .n x2∧fr' 5 = v'4∧fr' 6 = .mp r'1∧fr' 7 = .n x1∧fr' 9 = .p r'2 0) ?_ ?_
      ·rcases bc (!x3) with b'4 | b'4
       ·skip
        refine Zw rfl b'4 (Zw rfl b'4 (Zw rfl b'4 (Zg (za (t:=(!x3)) (v:=.b ((!x3) || (Zdt false (⟨x1,x2⟩:Zr) met1))) rfl b'4 (Eq.trans (b:=V.b true) rfl (Zbs b'4))) (Zc ?_))))
        exact ⟨rfl,rfl,q'4_0,q'4_19,q'4_20,q'4_23,q'4_5,q'4_6,q'4_7,rfl⟩
       ·skip
        refine Z7 rfl b'4 (Zd (.mp r'1) q'4_6 (Z7 rfl b'4 (Zg (Zce (cs:=(Zf.c (⟨x1,x2⟩:Zr))) (ws:=Zf.c (⟨x1,x2⟩:Zr)) (hO'13.box 3 rfl) rfl rfl) (Z7 rfl b'4 (Zg (Znk (E:=Zf) (m:=met1) (q:=(⟨x1,x2⟩:Zr)) (hO'13.mpP 2 rfl) rfl rfl (Mu.Zf.same)) (Zg (ZU (t:=(!x3)) (v:=.b ((!x3) || (Zdt false (⟨x1,x2⟩:Zr) met1))) rfl b'4 (Eq.trans (b:=V.b (Zdt false (⟨x1,x2⟩:Zr) met1)) rfl (Zcc b'4))) (Zc ?_)))))))
        exact ⟨rfl,rfl,q'4_0,q'4_19,q'4_20,q'4_23,q'4_5,q'4_6,q'4_7,rfl⟩
      rintro frg'1 _ ⟨rfl,g'1_37,g'1_0,g'1_19,g'1_20,g'1_23,g'1_5,g'1_6,g'1_7,g'1_9⟩
      refine Zc (Zb ?_)
      rcases Zt hp with ⟨b'5,hp⟩ | ⟨b'5,hp⟩
      ·refine zB (t:=((!x3) || (Zdt false (⟨x1,x2⟩:Zr) met1))) g'1_37 b'5 ?_
       refine ZbM (Zak (ZaN (Zb (Zl ?_))))
       obtain ⟨c'1,hp⟩:=Zn hp
       refine Zg (zD (a:=x2) (b:=1) g'1_23 rfl c'1) (Zd (.n (x2 + 1)) rfl (Zc ?_))
       cases hp
       exact (Or.inl ⟨(l2,met1,x2 + 1),rfl,rfl,v'4,vs'4,g'1_0,g'1_5,g'1_6,g'1_7,g'1_19,g'1_20,rfl,(hO'13.pick [0,1,2] rfl (by decide))⟩)
      ·refine zz (t:=((!x3) || (Zdt false (⟨x1,x2⟩:Zr) met1))) g'1_37 b'5 ?_
       refine zC (Zb (Zi (Zl (Zd (.sn) rfl (Zc (Zb (Zi ?_)))))))
       refine Zi (Zl (Zg (Zce (cs:=(Zf.c (⟨x1,x2⟩:Zr))) (ws:=Zf.c (⟨x1,x2⟩:Zr)) (hO'13.box 3 rfl) g'1_9 rfl) (Za0 (hO'13.alloc (cs:=Zf.c (⟨0,0⟩:Zr)) hO'13.fr) ?_)))
       rintro _ k'10 ⟨r'3,rfl,n'3,f'4,hW⟩
       have hO'14:=hW
       refine Za0 (hO'14.stb (ws:=Zf.c (⟨x1,x2⟩:Zr)) (cs':=Zf.c (⟨x1,x2⟩:Zr)) (v:=.ag (Zf.c (⟨x1,x2⟩:Zr))) 4 rfl rfl rfl rfl ⟨rfl,Nat.le_of_ble_eq_true rfl,rfl⟩ rfl) ?_
       rintro _ k'11 ⟨rfl,f'5,m'2,hW⟩
       have hO'15:=hW
       refine Zc (Zb (Zay ?_))
       obtain ⟨o'5,ho'3,hp⟩:=Zq hp
       refine W.mono (Q:=fun e fr k=>match (generalizing:=false) o'5 with
         | (met4,f1)=>e = (.exit 4)∧∃ (v'7:V),fr 0 = v_cells∧fr 5 = v'4∧fr 6 = .mp r'1∧fr 7 = .n x1∧fr 10 = v'7∧fr 19 = .n (cells.length:Int)∧fr 20 = .n x1∧fr 23 = .n x2∧Own B h k [eSl eV v'4 vs'4,Zc7 Zf vs'4 l2,eMp Zf r'1 met4,eSl Zf v'7 f1]) ?_ ?_
       ·clear hp
        have hO'17:=hO'15.nil Zf
        refine zU (fun st fr k=>match st with | (met3,f,x4)=>∃ (v'6:V),∃ (r'4:Nat),fr 0 = v_cells∧fr 5 = v'4∧fr 6 = .mp r'1∧fr 7 = .n x1∧fr 10 = v'6∧fr 11 = .p r'4 0∧fr 19 = .n (cells.length:Int)∧fr 20 = .n x1∧fr 23 = .n x2∧Own B h k [eSl eV v'4 vs'4,Zc7 Zf vs'4 l2,eMp Zf r'1 met3,eSl Zf v'6 f,ZaD r'4 (Zf.c x4)]) ho'3 (s:=(met1,([]:List Zr),(⟨x1,x2⟩:Zr))) ⟨V.sn,r'3,g'1_0,g'1_5,g'1_6,g'1_7,rfl,rfl,g'1_19,g'1_20,g'1_23,(hO'17.pick [0,1,2,5,4] rfl (by decide))⟩ ?_
        rintro ⟨met3,f,x4⟩ q'6 k'13 ⟨v'6,r'4,q'6_0,q'6_5,q'6_6,q'6_7,q'6_10,q'6_11,q'6_19,q'6_20,q'6_23,hO'18⟩ o'6 hp
        dsimp only [zx.s2] at hp
        refine Zi (Zi (Zl (Zd (.mp r'1) q'6_6 (Zg (Zce (cs:=(Zf.c x4)) (ws:=Zf.c x4) (hO'18.box 4 rfl) q'6_11 rfl) (Zg (Znk (E:=Zf) (m:=met3) (q:=x4) (hO'18.mpP 2 rfl) rfl rfl (Mu.Zf.same)) (Zg (Zcp (t:=(Zdt false x4 met3)) rfl) (Zc ?_)))))))
        refine Zb ?_
        rcases Zt hp with ⟨b'6,hp⟩ | ⟨b'6,hp⟩
        ·refine zB (t:=(!(Zdt false x4 met3))) rfl b'6 ?_
         refine zC (Zb (Zi (Zay (Zi (Zl (Zd (.mp r'1) q'6_6 (Zg (Zce (cs:=(Zf.c x4)) (ws:=Zf.c x4) (hO'18.box 4 rfl) q'6_11 rfl) ?_)))))))
         refine Za0 (hO'18.mup (E:=Zf) (m:=met3) (q:=x4) (v:=true) 2 rfl rfl rfl rfl (Mu.Zf.same)) ?_
         rintro _ k'14 ⟨rfl,f'6,m'3,hW⟩
         have hO'19:=hW
         refine Zc (Zb (Zl (Zd v'6 q'6_10 (Zg (Zce (cs:=(Zf.c x4)) (ws:=Zf.c x4) (hO'19.box 4 rfl) q'6_11 rfl) (Za0 (hO'19.bsl (E:=Zf) (l:=[x4]) hO'19.fr (by rw [(Zae (v:=.ag (Zf.c x4)) rfl Zb3)]; rfl) rfl) ?_)))))
         rintro v'8 k'15 ⟨r'5,f'7,hW⟩
         have hO'20:=hW
         obtain ⟨c'2,hp⟩:=Zn hp
         refine Za0 (hO'20.app (E:=Zf) (bytes:=16) 3 hO'20.fr rfl (hO'20.sl 5 rfl) rfl rfl (fun _=>rfl) c'2 (by decide)) ?_
         rintro v'9 k'16 ⟨f'8,hW⟩
         have hO'21:=hW
         refine Zd v'9 rfl (Zc (Zax (Zb (Zi (Zi (Zl (Zg (Zce (cs:=(Zf.c x4)) (ws:=Zf.c x4) (hO'21.box 4 rfl) q'6_11 rfl) ?_)))))))
         refine Zc (Zb (Zl (Za0 (hO'21.alloc (cs:=Zf.c (⟨0,0⟩:Zr)) hO'21.fr) ?_)))
         rintro _ k'17 ⟨r'6,rfl,n'4,f'9,hW⟩
         have hO'22:=hW
         refine Za0 (hO'22.stb (ws:=Zf.c x4) (cs':=Zf.c x4) (v:=.ag (Zf.c x4)) 6 rfl rfl rfl rfl ⟨rfl,Nat.le_of_ble_eq_true rfl,rfl⟩ rfl) ?_
         rintro _ k'18 ⟨rfl,f'10,m'4,hW⟩
         have hO'23:=hW
         refine Zc (Zb (Zl (Zg (Zce (cs:=(Zf.c x4)) (ws:=Zf.c x4) (hO'23.box 6 rfl) rfl rfl) (Zd v_cells q'6_0 ?_))))
         obtain ⟨x5,hx'3,hp⟩:=Zq hp
         obtain ⟨u'3,k'19,ca'3,rfl,hW'3⟩:=zT.ok (h:=k'18)  (hO'23.rd0 s_cells.rd) hx'3
         refine Zai (id:=221) (caps:=[]) rfl (Zp (v:=.ag (Zf.c x4)) rfl (Zp (v:=v_cells) rfl ZK)) ca'3 ?_
         have hO'24:=hO'23.call hW'3 rfl
         refine Za0 (hO'24.stb (ws:=Zf.c x5) (cs':=Zf.c x5) (v:=.ag (Zf.c x5)) 6 rfl rfl rfl rfl ⟨rfl,Nat.le_of_ble_eq_true rfl,rfl⟩ rfl) ?_
         rintro _ k'20 ⟨rfl,f'11,m'5,hW⟩
         have hO'25:=hW
         refine Zc ?_
         cases hp
         exact (Or.inl ⟨(Ze3 x4 true met3,f++[x4],x5),rfl,rfl,v'9,r'6,q'6_0,q'6_5,q'6_6,q'6_7,rfl,rfl,q'6_19,q'6_20,q'6_23,(hO'25.pick [0,1,2,3,6] rfl (by decide))⟩)
        ·refine zz (t:=(!(Zdt false x4 met3))) rfl b'6 ?_
         refine ZbM (Zak ?_)
         cases hp
         refine (Or.inr ⟨(met3,f),rfl,(fun h=>nomatch h),(fun he=>?_)⟩)
         subst he; exact ⟨rfl,v'6,q'6_0,q'6_5,q'6_6,q'6_7,q'6_10,q'6_19,q'6_20,q'6_23,(hO'18.pick [0,1,2,3] rfl (by decide))⟩
       intro e'3 q'5 k'12 hJ'3
       obtain ⟨met4,f1⟩:=o'5
       obtain ⟨rfl,v'7,q'5_0,q'5_5,q'5_6,q'5_7,q'5_10,q'5_19,q'5_20,q'5_23,hO'16⟩:=hJ'3
       refine ZaN (Zb (Zl (Zd v'4 q'5_5 (Zd v'7 q'5_10 (Za0 (hO'16.bsl (E:=eV) (l:=[v'7]) hO'16.fr (by rw [(Zae (v:=v'7) rfl Zb3)]; simp only [fill,(hO'16.sl 3 rfl).cells]; simp [over]) rfl) ?_)))))
       rintro v'10 k'21 ⟨r'7,f'12,hW⟩
       have hO'26:=hW
       obtain ⟨c'3,hp⟩:=Zn hp
       refine Za0 (hO'26.appV (bytes:=24) 0 hO'26.fr rfl (hO'26.sl 4 rfl) rfl rfl (by simp only [List.all_cons,List.all_nil,Bool.and_true]; exact (hO'26.sl 3 rfl).oneV) (by rw [(hO'26.allLen 1 rfl:(vs'4).length = (l2).length)]; exact c'3) (by decide)) ?_
       rintro v'11 k'22 ⟨f'13,hW⟩
       have hO'27:=hW
       have hO'28:=hO'27.absorb 1 3 rfl rfl (by decide)
       refine Zd v'11 rfl (Zc (Zax (Zb (Zl ?_))))
       obtain ⟨c'4,hp⟩:=Zn hp
       refine Zg (zD (a:=x2) (b:=1) q'5_23 rfl c'4) (Zd (.n (x2 + 1)) rfl (Zc ?_))
       cases hp
       exact (Or.inl ⟨(l2++[f1],met4,x2 + 1),rfl,rfl,v'11,vs'4++[v'7],q'5_0,rfl,q'5_6,q'5_7,q'5_19,q'5_20,rfl,(hO'28.pick [0,1,2] rfl (by decide))⟩)
     ·refine zz (t:=(decide (x2 < 4))) rfl b'3 ?_
      refine ZbM (Zak ?_)
      cases hp
      refine (Or.inr ⟨(l2,met1),rfl,(fun h=>nomatch h),(fun he=>?_)⟩)
      subst he; exact ⟨rfl,v'4,vs'4,q'4_0,q'4_5,q'4_6,q'4_19,q'4_20,(hO'10.pick [0,1,2] rfl (by decide))⟩
    intro e'2 q'3 k'5 hJ'2
    obtain ⟨l3,met2⟩:=o'3
    obtain ⟨rfl,v'5,vs'5,q'3_0,q'3_5,q'3_6,q'3_19,q'3_20,hO'9⟩:=hJ'2
    refine ZaN (Zax (Zb (Zl ?_)))
    obtain ⟨c'5,hp⟩:=Zn hp
    refine Zg (zD (a:=x1) (b:=1) q'3_20 rfl c'5) (Zd (.n (x1 + 1)) rfl (Zc ?_))
    cases hp
    exact (Or.inl ⟨(l3,met2,x1 + 1),rfl,rfl,v'5,vs'5,q'3_0,q'3_5,q'3_6,q'3_19,rfl,(hO'9.pick [0,1,2] rfl (by decide))⟩)
   ·refine zz (t:=(decide (x1 < (cells.length:Int)))) rfl b'2 ?_
    refine ZbM (Zak ?_)
    cases hp
    refine (Or.inr ⟨l,rfl,(fun h=>nomatch h),(fun he=>?_)⟩)
    subst he; exact ⟨rfl,v'2,vs'2,q'2_5,(hO'8.pick [0,1] rfl (by decide))⟩
  intro e'1 q'1 k'3 hJ'1
  obtain ⟨l1,rfl⟩:∃ x,x = o'1:=⟨_,rfl⟩
  obtain ⟨rfl,v'3,vs'3,q'1_5,hO'5⟩:=hJ'1
  refine ZaN (Zb (Zi (Zl (Zd v'3 q'1_5 (Zd v'3 rfl (Zd (.n 0) rfl (Zc ?_)))))))
  refine Zb (zL (zf (zl (n:=2) (v:=v'3) rfl (zl (n:=3) (v:=.n 0) rfl ZD)) ?_))
  cases hp
  exact ⟨v'3,vs'3,rfl,(hO'5.pick [0,1] rfl (by decide))⟩

theorem Zcg.ok {h:Hp} {d:Int} {e_:Int}   {r:Int} (hp:Zcg d e_ = some r) :
  ∃ u k',Is G 222 [.n d,.n e_] h u k'∧V.n r = u∧Own (fun r=>r < h.n) h k' []:=by
 refine WC.is (Za7 ZeA ?_)
 unfold Zcg at hp
 let B:Nat→Prop:=(fun r=>r < h.n)
 have hO:Own B h h []:=Own.start0 h
 refine Zi (Zl (Zd (.n 0) rfl (Zc (Zb (Zi (Zi (Zl ?_)))))))
 refine Zd (.n d) rfl ?_
 obtain ⟨x,hx'1,hp⟩:=Zq hp
 obtain ⟨u'1,k'1,ca'1,rfl,hW'1⟩:=ZaA.ok (h:=h)   hx'1
 refine Zai (id:=90) (caps:=[]) rfl (Zp (v:=.n d) rfl ZK) ca'1 ?_
 have hO'1:=hO.call hW'1 rfl
 refine Zg (Zcp (t:=x) rfl) (Zd (.b (!x)) rfl ?_)
 obtain ⟨t,hv'1,hp⟩:=Zq hp
 refine Zaa 4 (fun fr' k'=>Own B h k' []∧fr' 12 = .b t∧fr' 0 = .n d∧fr' 1 = .n e_) ?_ ?_
 ·clear hp; rcases Zt hv'1 with ⟨b'1,hp⟩ | ⟨b'1,hp⟩
  ·skip
   refine Zw rfl b'1 (Zw rfl b'1 (Zw rfl b'1 (Zg (za (t:=(!x)) (v:=.b t) rfl b'1 (Eq.trans (b:=V.b true) rfl (congrArg V.b (Option.some.inj hp)))) (Zc ?_))))
   exact ⟨hO'1.pick [] rfl (by decide),rfl,rfl,rfl⟩
  ·skip
   refine Z7 rfl b'1 (Zd (.n e_) rfl (Z7 rfl b'1 ?_))
   obtain ⟨x1,hx'2,hp⟩:=Zq hp
   obtain ⟨u'2,k'2,ca'2,rfl,hW'2⟩:=ZaA.ok (h:=k'1)   hx'2
   refine Zai (id:=90) (caps:=[]) rfl (Zp (v:=.n e_) rfl ZK) ca'2 ?_
   have hO'2:=hO'1.call hW'2 rfl
   refine Z7 rfl b'1 (Zg (Zcp (t:=x1) rfl) (Zg (ZU (t:=(!x)) (v:=.b t) rfl b'1 (Eq.trans (b:=V.b (!x1)) rfl (congrArg V.b (Option.some.inj hp)))) (Zc ?_)))
   exact ⟨hO'2.pick [] rfl (by decide),rfl,rfl,rfl⟩
 rintro frg'1 k'3 ⟨hO'3,g'1_12,g'1_0,g'1_1⟩
 refine Zc (Zb ?_)
 rcases Zt hp with ⟨b'2,hp⟩ | ⟨b'2,hp⟩
 ·refine zB (t:=t) g'1_12 b'2 ?_
  refine Zi (Zl (Zd (.n 0) rfl (Zc (Zb (zL (zh (zf (zl (n:=4) (v:=.n 0) rfl ZD) ?_)))))))
  cases hp
  exact ⟨rfl,(hO'3.pick [] rfl (by decide))⟩
 ·refine zz (t:=t) g'1_12 b'2 ?_
  refine zC (Zb (Zi (Zl (Zg (Zdo (cs:=Zbl.c (⟨0,1,(-2),(-1)⟩:A4 Int)) (by rw [(Zae (v:=.n 0) rfl (Zae (v:=.n 1) rfl (Zae (v:=.n (-2)) rfl (Zae (v:=.n (-1)) rfl Zb3))))]; rfl)) (Zd (.n e_) g'1_1 (Zd (.n d) g'1_0 ?_))))))
  obtain ⟨c'1,hp⟩:=Zn hp
  refine Zg (Znl (a:=e_) (b:=d) rfl rfl c'1) ?_
  obtain ⟨c'2,hp⟩:=Zn hp
  refine Zg (zD (a:=(e_ - d)) (b:=4) rfl rfl c'2) (Zg (Zd6 (a:=((e_ - d) + 4)) (b:=4) rfl rfl (by decide)) ?_)
  obtain ⟨c'3,hp⟩:=Zn hp
  refine Zg (Zn5 (cs:=Zbl.c (⟨0,1,(-2),(-1)⟩:A4 Int)) (z:=(((e_ - d) + 4).tmod 4)) (v:=.n ((⟨0,1,(-2),(-1)⟩:A4 Int).get (((e_ - d) + 4).tmod 4))) rfl rfl c'3 (Zgy c'3)) (Zd (.n ((⟨0,1,(-2),(-1)⟩:A4 Int).get (((e_ - d) + 4).tmod 4))) rfl (Zc (Zb (zL (zf (zl (n:=4) (v:=.n ((⟨0,1,(-2),(-1)⟩:A4 Int).get (((e_ - d) + 4).tmod 4))) rfl ZD) ?_)))))
  cases hp
  exact ⟨rfl,(hO'3.pick [] rfl (by decide))⟩

theorem Za2.ok {h:Hp} {cells:List Za} {f:List Zr} {v_cells:V} {v_f:V} (s_cells:Sl Ze h v_cells cells) (s_f:Sl Zf h v_f f) {r:(List Int)} (hp:Za2 cells f = some r) :
  ∃ u k',Is G 204 [v_cells,v_f] h u k'∧∃ (v'1:V),v'1 = u∧Own (fun r=>r < h.n) h k' [eSl Zao v'1 r]:=by
 refine WC.is (Za7 Zfm ?_)
 unfold Za2 at hp
 let B:Nat→Prop:=(fun r=>r < h.n)
 have hO:Own B h h []:=Own.start0 h
 refine Zi (Zl (Zd (.sn) rfl (Zc (Zb (Zi (Zl (Zd v_f rfl ?_)))))))
 refine Zg (ZaC (hO.rd0 s_f.rd) rfl) ?_
 obtain ⟨c'1,hp⟩:=Zn hp
 refine Za0 (hO.mks (E:=Zao) (y:=(0:Int)) (bytes:=8) (z:=(f.length:Int)) hO.fr rfl rfl rfl c'1 (by decide)) ?_
 rintro v'2 k'1 ⟨r'1,f'1,hW⟩
 have hO'1:=hW
 refine Zd v'2 rfl (Zc (Zb (Zi (Zi (Zl (Zd v_cells rfl ?_))))))
 obtain ⟨x,hx'1,hp⟩:=Zq hp
 obtain ⟨u'1,k'2,ca'1,rfl,hW'1⟩:=zE.ok (h:=k'1)  (hO'1.rd0 s_cells.rd) hx'1
 refine Zai (id:=66) (caps:=[]) rfl (Zp (v:=v_cells) rfl ZK) ca'1 ?_
 have hO'2:=hO'1.call hW'1 rfl
 refine Zg (ZbK (a:=x) (b:=0) rfl rfl) (Zc (Zb ?_))
 rcases Zt hp with ⟨b'1,hp⟩ | ⟨b'1,hp⟩
 ·refine zB (t:=(!(decide (x = 0)))) rfl b'1 ?_
  refine Zi (Zl (Zd v'2 rfl (Zd v'2 rfl (Zc (Zb (zL (zh ?_)))))))
  refine zf (zl (n:=4) (v:=v'2) rfl ZD) ?_
  cases hp
  exact ⟨v'2,rfl,(hO'2.pick [0] rfl (by decide))⟩
 ·refine zz (t:=(!(decide (x = 0)))) rfl b'1 ?_
  refine zC (Zb (Zi (Zi (Zl (Zd v_f rfl (Zg (ZaC (hO'2.rd0 s_f.rd) rfl) (Zd (.n 0) rfl ?_)))))))
  refine Zc (Zb (Zay ?_))
  obtain ⟨o'1,ho'1,hp⟩:=Zq hp
  refine W.mono (Q:=fun e fr k=>match (generalizing:=false) o'1 with
    | l1=>e = (.exit 0)∧fr 5 = v'2∧Own B h k [eSl Zao v'2 l1]) ?_ ?_
  ·clear hp
   refine zU (fun st fr k=>match st with | (l,x1)=>fr 0 = v_cells∧fr 5 = v'2∧fr 15 = v_f∧fr 16 = .n (f.length:Int)∧fr 17 = .n x1∧Own B h k [eSl Zao v'2 l]) ho'1 (s:=(List.replicate ((f.length:Int):Int).toNat (0:Int),0)) ⟨rfl,rfl,rfl,rfl,rfl,(hO'2.pick [0] rfl (by decide))⟩ ?_
   rintro ⟨l,x1⟩ q'2 k'4 ⟨q'2_0,q'2_5,q'2_15,q'2_16,q'2_17,hO'4⟩ o'2 hp
   dsimp only [Za2.s0] at hp
   refine Zi (Zl (Zg (zO (a:=x1) (b:=(f.length:Int)) q'2_17 q'2_16) (Zc (Zb (Zi ?_)))))
   rcases Zt hp with ⟨b'2,hp⟩ | ⟨b'2,hp⟩
   ·refine zB (t:=(decide (x1 < (f.length:Int)))) rfl b'2 ?_
    refine zC (Zb (Zi (Zay (Zi (Zl (Zd (.n x1) q'2_17 ?_))))))
    obtain ⟨c'2,hp⟩:=Zn hp
    refine Zg (zt (E:=Zf) (z:=x1) (hO'4.rd0 s_f.rd) q'2_15 q'2_17 c'2) (Zg (ZfI (E:=Zf) (hO'4.rd0 s_f.rd) rfl (Zj c'2)) (Za0 (hO'4.alloc (cs:=Zf.c (⟨0,0⟩:Zr)) hO'4.fr) ?_))
    rintro _ k'5 ⟨r'2,rfl,n'1,f'2,hW⟩
    have hO'5:=hW
    refine Zd (.n x1) rfl (Za0 (hO'5.stb (ws:=Zf.c (gi f x1.toNat)) (cs':=Zf.c (gi f x1.toNat)) (v:=.ag (Zf.c (gi f x1.toNat))) 1 rfl rfl rfl rfl ⟨rfl,Nat.le_of_ble_eq_true rfl,rfl⟩ rfl) ?_)
    rintro _ k'6 ⟨rfl,f'3,m'1,hW⟩
    have hO'6:=hW
    refine Zc (Zb (Zi (Zl (Zg (Zce (cs:=(Zf.c (gi f x1.toNat))) (ws:=Zf.c (gi f x1.toNat)) (hO'6.box 1 rfl) rfl rfl) (Zd v_cells q'2_0 ?_)))))
    obtain ⟨x2,hx'2,hp⟩:=Zq hp
    obtain ⟨u'2,k'7,ca'2,rfl,hW'2⟩:=Zbe.ok (h:=k'6)  (hO'6.rd0 s_cells.rd) hx'2
    refine Zai (id:=220) (caps:=[]) rfl (Zp (v:=.ag (Zf.c (gi f x1.toNat))) rfl (Zp (v:=v_cells) rfl ZK)) ca'2 ?_
    have hO'7:=hO'6.call hW'2 rfl
    refine Zc (Zb ?_)
    rcases Zt hp with ⟨b'3,hp⟩ | ⟨b'3,hp⟩
    ·refine zB (t:=x2) rfl b'3 ?_
     refine Zh8 ?_
     have hW:=hO'7.bump 11
     have fr'1:=Fresh.start k'7 11
     have nb'1:∀ {i:Nat},h.n≤k'7.n + i:=Nat.le_trans hO'7.n (Nat.le_add_right _ _)
     have hO'8:=hW
     refine ZbD v'2 q'2_5 (ZbD (.n x1) rfl (Zar (Zbv (r:=r'2) (o:=0) (o':=1) rfl rfl) (Zar (ZaK (cs:=(Zf.c (gi f x1.toNat))) (v:=.n ((gi f x1.toNat).Dir)) (hO'8.box 1 rfl) rfl rfl) (Zar (Zce (cs:=(Zf.c (gi f x1.toNat))) (ws:=Zf.c (gi f x1.toNat)) (hO'8.box 1 rfl) rfl rfl) (ZbD v_cells q'2_0 ?_)))))
     obtain ⟨x3,hx'3,hp⟩:=Zq hp
     obtain ⟨u'3,k'9,ca'3,rfl,hW'3⟩:=zT.ok (h:=(k'7.bump 11))  (hO'8.rd0 s_cells.rd) hx'3
     refine Zkx (id:=221) (caps:=[]) rfl (Zp (v:=.ag (Zf.c (gi f x1.toNat))) rfl (Zp (v:=v_cells) rfl ZK)) ca'3 ?_
     have fr'2:=fr'1.call hW'3
     have hO'9:=hO'8.call hW'3 rfl
     refine Zar (ZoK (cs:=Zf.c x3) (v:=.n x3.Dir) rfl rfl) ?_
     obtain ⟨x4,hx'4,hp⟩:=Zq hp
     obtain ⟨u'4,k'10,ca'4,rfl,hW'4⟩:=Zcg.ok (h:=k'9)   hx'4
     refine Zkx (id:=222) (caps:=[]) rfl (Zp (v:=.n ((gi f x1.toNat).Dir)) rfl (Zp (v:=.n x3.Dir) rfl ZK)) ca'4 ?_
     have fr'3:=fr'2.call hW'4
     have hO'10:=hO'9.call hW'4 rfl
     obtain ⟨c'3,hp⟩:=Zn hp
     refine Zar (zt (E:=Zao) (z:=x1) (hO'10.sl 0 rfl) rfl rfl c'3) (ZfM (hO'10.ste (E:=Zao) (y:=x4) (ws:=[.n x4]) 0 rfl rfl (Zj c'3) rfl rfl ⟨rfl,Nat.le_of_ble_eq_true rfl,rfl⟩ rfl) ?_)
     rintro _ k'11 z'1 ⟨rfl,f'4,m'2,hW⟩
     have fr'4:=fr'3.kept f'4 (by decide)
     have hO'11:=hW
     refine Zdn ?_
     refine And.intro ?_ ?_
     ·intro q hq
      simp only [List.mem_cons,List.not_mem_nil,or_false] at hq
      rcases hq with rfl | rfl
      ·refine Zct ?_ ?_
       ·exact (fun h=>nomatch h)
       ·exact (fun h=>nomatch h)
      ·refine ZkX rfl rfl ?_
       ·exact (fun r hm hc=>hc (hW'3.base r (Nat.lt_of_lt_of_le (hO'7.ltAt 1 rfl _ (tch (v:=V.p r'2 1) (Zdj hm) rfl)) (Nat.le_trans (Nat.le_add_right _ _) fr'1.n))))
     refine Zax (Zb (Zl ?_))
     obtain ⟨c'4,hp⟩:=Zn hp
     refine Zg (zD (a:=x1) (b:=1) q'2_17 rfl c'4) (Zd (.n (x1 + 1)) rfl (Zc ?_))
     cases hp
     exact (Or.inl ⟨(l.set x1.toNat x4,x1 + 1),rfl,rfl,q'2_0,q'2_5,q'2_15,q'2_16,rfl,(hO'11.pick [0] rfl (by decide))⟩)
    ·refine zz (t:=x2) rfl b'3 ?_
     refine zC (Zax (Zb (Zl ?_)))
     obtain ⟨c'5,hp⟩:=Zn hp
     refine Zg (zD (a:=x1) (b:=1) q'2_17 rfl c'5) (Zd (.n (x1 + 1)) rfl (Zc ?_))
     cases hp
     exact (Or.inl ⟨(l,x1 + 1),rfl,rfl,q'2_0,q'2_5,q'2_15,q'2_16,rfl,(hO'7.pick [0] rfl (by decide))⟩)
   ·refine zz (t:=(decide (x1 < (f.length:Int)))) rfl b'2 ?_
    refine ZbM (Zak ?_)
    cases hp
    refine (Or.inr ⟨l,rfl,(fun h=>nomatch h),(fun he=>?_)⟩)
    subst he; exact ⟨rfl,q'2_5,(hO'4.pick [0] rfl (by decide))⟩
  intro e'1 q'1 k'3 hJ'1
  obtain ⟨l1,rfl⟩:∃ x,x = o'1:=⟨_,rfl⟩
  obtain ⟨rfl,q'1_5,hO'3⟩:=hJ'1
  refine ZaN (Zb (Zi (Zl (Zd v'2 q'1_5 (Zd v'2 rfl (Zc (Zb ?_)))))))
  refine zL (zf (zl (n:=4) (v:=v'2) rfl ZD) ?_)
  cases hp
  exact ⟨v'2,rfl,(hO'3.pick [0] rfl (by decide))⟩

theorem ZaQ.ok {h:Hp} {turns:List Int} {v_turns:V} (s_turns:Sl Zao h v_turns turns) {r:Int} (hp:ZaQ turns = some r) :
  ∃ u k',Is G 219 [v_turns] h u k'∧V.n r = u∧Own (fun r=>r < h.n) h k' []:=by
 refine WC.is (Za7 Zeu ?_)
 unfold ZaQ at hp
 let B:Nat→Prop:=(fun r=>r < h.n)
 have hO:Own B h h []:=Own.start0 h
 refine Zi (Zl (Zd (.n 0) rfl (Zc (Zb (Zi (Zl (Zd (.n 0) rfl ?_)))))))
 refine Zc (Zb (Zi (Zi (Zl (Zd v_turns rfl (Zg (ZaC (hO.rd0 s_turns.rd) rfl) (Zd (.n 0) rfl ?_)))))))
 refine Zc (Zb (Zay ?_))
 obtain ⟨o'1,ho'1,hp⟩:=Zq hp
 refine W.mono (Q:=fun e fr k=>match (generalizing:=false) o'1 with
   | n1=>e = (.exit 0)∧fr 3 = .n n1∧Own B h k []) ?_ ?_
 ·clear hp
  refine zU (fun st fr k=>match st with | (n,x)=>fr 3 = .n n∧fr 6 = v_turns∧fr 7 = .n (turns.length:Int)∧fr 8 = .n x∧Own B h k []) ho'1 (s:=(0,0)) ⟨rfl,rfl,rfl,rfl,(hO.pick [] rfl (by decide))⟩ ?_
  rintro ⟨n,x⟩ q'2 k'2 ⟨q'2_3,q'2_6,q'2_7,q'2_8,hO'2⟩ o'2 hp
  dsimp only [ZaQ.s0] at hp
  refine Zi (Zl (Zg (zO (a:=x) (b:=(turns.length:Int)) q'2_8 q'2_7) (Zc (Zb (Zi ?_)))))
  rcases Zt hp with ⟨b'1,hp⟩ | ⟨b'1,hp⟩
  ·refine zB (t:=(decide (x < (turns.length:Int)))) rfl b'1 ?_
   refine zC (Zb (Zi (Zay (Zi (Zl ?_)))))
   obtain ⟨c'1,hp⟩:=Zn hp
   refine Zg (zt (E:=Zao) (z:=x) (hO'2.rd0 s_turns.rd) q'2_6 q'2_8 c'1) (Zg (zX (w:=.n (gi turns x.toNat)) (hO'2.rd0 s_turns.rd) rfl (Zj c'1) rfl) (Zd (.n (gi turns x.toNat)) rfl (Zc (Zb (Zi (Zl (Zd (.n (gi turns x.toNat)) rfl ?_)))))))
   refine Zg (ZcA (a:=(gi turns x.toNat)) (b:=(-2)) rfl rfl) (Zd (.b (decide ((-2)≤(gi turns x.toNat)))) rfl ?_)
   refine Zaa 3 (fun fr' k'=>k'2 = k'∧fr' 17 = .b ((decide ((-2)≤(gi turns x.toNat))) && (decide ((gi turns x.toNat)≤1)))∧fr' 3 = .n n∧fr' 5 = .n (gi turns x.toNat)∧fr' 6 = v_turns∧fr' 7 = .n (turns.length:Int)∧fr' 8 = .n x) ?_ ?_
   ·rcases bc (decide ((-2)≤(gi turns x.toNat))) with b'2 | b'2
    ·skip
     refine Z7 rfl b'2 (Zd (.n (gi turns x.toNat)) rfl (Z7 rfl b'2 (Zg (ZjW (a:=(gi turns x.toNat)) (b:=1) rfl rfl) (Zg (za (t:=(decide ((-2)≤(gi turns x.toNat)))) (v:=.b ((decide ((-2)≤(gi turns x.toNat))) && (decide ((gi turns x.toNat)≤1)))) rfl b'2 (Eq.trans (b:=V.b (decide ((gi turns x.toNat)≤1))) rfl (Zcs b'2))) (Zc ?_)))))
     exact ⟨rfl,rfl,q'2_3,rfl,q'2_6,q'2_7,q'2_8⟩
    ·skip
     refine Zw rfl b'2 (Zw rfl b'2 (Zg (ZU (t:=(decide ((-2)≤(gi turns x.toNat)))) (v:=.b ((decide ((-2)≤(gi turns x.toNat))) && (decide ((gi turns x.toNat)≤1)))) rfl b'2 (Eq.trans (b:=V.b false) rfl (ZbW b'2))) (Zc ?_)))
     exact ⟨rfl,rfl,q'2_3,rfl,q'2_6,q'2_7,q'2_8⟩
   rintro frg'1 _ ⟨rfl,g'1_17,g'1_3,g'1_5,g'1_6,g'1_7,g'1_8⟩
   refine Zc (Zb ?_)
   rcases Zt hp with ⟨b'3,hp⟩ | ⟨b'3,hp⟩
   ·refine zB (t:=((decide ((-2)≤(gi turns x.toNat))) && (decide ((gi turns x.toNat)≤1)))) g'1_17 b'3 ?_
    refine Zl (Zd (.n n) g'1_3 (Zd (.n (gi turns x.toNat)) g'1_5 ?_))
    obtain ⟨c'2,hp⟩:=Zn hp
    refine Zg (zD (a:=n) (b:=(gi turns x.toNat)) rfl rfl c'2) (Zd (.n (n + (gi turns x.toNat))) rfl (Zc (Zax (Zb (Zl ?_)))))
    obtain ⟨c'3,hp⟩:=Zn hp
    refine Zg (zD (a:=x) (b:=1) g'1_8 rfl c'3) (Zd (.n (x + 1)) rfl (Zc ?_))
    cases hp
    exact (Or.inl ⟨(n + (gi turns x.toNat),x + 1),rfl,rfl,rfl,g'1_6,g'1_7,rfl,(hO'2.pick [] rfl (by decide))⟩)
   ·refine zz (t:=((decide ((-2)≤(gi turns x.toNat))) && (decide ((gi turns x.toNat)≤1)))) g'1_17 b'3 ?_
    refine zC (Zax (Zb (Zl ?_)))
    obtain ⟨c'4,hp⟩:=Zn hp
    refine Zg (zD (a:=x) (b:=1) g'1_8 rfl c'4) (Zd (.n (x + 1)) rfl (Zc ?_))
    cases hp
    exact (Or.inl ⟨(n,x + 1),rfl,rfl,g'1_3,g'1_6,g'1_7,rfl,(hO'2.pick [] rfl (by decide))⟩)
  ·refine zz (t:=(decide (x < (turns.length:Int)))) rfl b'1 ?_
   refine ZbM (Zak ?_)
   cases hp
   refine (Or.inr ⟨n,rfl,(fun h=>nomatch h),(fun he=>?_)⟩)
   subst he; exact ⟨rfl,q'2_3,(hO'2.pick [] rfl (by decide))⟩
 intro e'1 q'1 k'1 hJ'1
 obtain ⟨n1,rfl⟩:∃ x,x = o'1:=⟨_,rfl⟩
 obtain ⟨rfl,q'1_3,hO'1⟩:=hJ'1
 refine ZaN (Zb (Zi (Zl (Zd (.n n1) q'1_3 (Zd (.n n1) rfl (Zc (Zb ?_)))))))
 refine zL (zf (zl (n:=2) (v:=.n n1) rfl ZD) ?_)
 cases hp
 exact ⟨rfl,(hO'1.pick [] rfl (by decide))⟩

theorem ZaM.ok {h:Hp} {cells:List Za} {v_cells:V} (s_cells:Sl Ze h v_cells cells) {r:Int × Bool} (hp:ZaM cells = some r) :
  ∃ u k',Is G 201 [v_cells] h u k'∧V.tu [.n r.1,.b r.2] = u∧Own (fun r=>r < h.n) h k' []:=by
 refine WC.is (Za7 Zfh ?_)
 unfold ZaM at hp
 let B:Nat→Prop:=(fun r=>r < h.n)
 have hO:Own B h h []:=Own.start0 h
 refine Zi (Zl (Zd (.n 0) rfl (Zd (.b false) rfl (Zc (Zb (Zi (Zl ?_)))))))
 refine Zd v_cells rfl ?_
 obtain ⟨⟨x,x1⟩,hx'1,hp⟩:=Zq hp
 obtain ⟨u'1,k'1,ca'1,v'1,vs'1,rfl,hW'1⟩:=zx.ok (h:=h)  (hO.rd0 s_cells.rd) hx'1
 refine Zai (id:=203) (caps:=[]) rfl (Zp (v:=v_cells) rfl ZK) ca'1 ?_
 have hO'1:=hO.call hW'1 rfl
 refine Zd (.tu [v'1,.n x1]) rfl (Zg (Zad (vs:=[v'1,.n x1]) (v:=v'1) rfl rfl) (Zg (Zad (vs:=[v'1,.n x1]) (v:=.n x1) rfl rfl) (Zd v'1 rfl (Zd (.n x1) rfl (Zc (Zb (Zi ?_)))))))
 refine Zl (Zd (.n (-1)) rfl (Zc (Zb (Zi (Zi (Zl (Zd v'1 rfl ?_)))))))
 refine Zg (Zgw (n:=(x).length) (hO'1.sl 0 rfl) (hO'1.allLen 1 rfl:(vs'1).length = (x).length) rfl) (Zd (.n 0) rfl (Zc (Zb (Zay ?_))))
 obtain ⟨o'1,ho'1,hp⟩:=Zq hp
 refine W.mono (Q:=fun e fr k=>match (generalizing:=false) o'1 with
   | .inl at_1=>e = (.exit 0)∧fr 6 = .n at_1∧Own B h k []
   | .inr _=>e = .ret∧fr 2 = .n 0∧fr 3 = .b false∧Own B h k []) ?_ ?_
 ·clear hp
  refine zU (fun st fr k=>match st with | (at_,x2)=>fr 0 = v_cells∧fr 6 = .n at_∧fr 14 = v'1∧fr 15 = .n (x.length:Int)∧fr 16 = .n x2∧Own B h k [eSl eV v'1 vs'1,Zc7 Zf vs'1 x]) ho'1 (s:=((-1),0)) ⟨rfl,rfl,rfl,rfl,rfl,(hO'1.pick [0,1] rfl (by decide))⟩ ?_
  rintro ⟨at_,x2⟩ q'2 k'3 ⟨q'2_0,q'2_6,q'2_14,q'2_15,q'2_16,hO'3⟩ o'2 hp
  dsimp only [ZaM.s0] at hp
  refine Zi (Zl (Zg (zO (a:=x2) (b:=(x.length:Int)) q'2_16 q'2_15) (Zc (Zb (Zi ?_)))))
  rcases Zt hp with ⟨b'1,hp⟩ | ⟨b'1,hp⟩
  ·refine zB (t:=(decide (x2 < (x.length:Int)))) rfl b'1 ?_
   refine zC (Zb (Zi (Zay (Zi (Zl (Zd (.n x2) q'2_16 ?_))))))
   obtain ⟨c'1,hp⟩:=Zn hp
   refine Zg (zt (E:=eV) (z:=x2) (hO'3.sl 0 rfl) q'2_14 q'2_16 (by rw [(hO'3.allLen 1 rfl:(vs'1).length = (x).length)]; exact c'1)) (Zg (zX (w:=(gi vs'1 x2.toNat)) (hO'3.sl 0 rfl) rfl (by rw [(hO'3.allLen 1 rfl:(vs'1).length = (x).length)]; exact Zj c'1) rfl) (Zd (.n x2) rfl (Zd ((gi vs'1 x2.toNat)) rfl (Zc (Zb (Zi (Zl ?_)))))))
   refine Zd v_cells q'2_0 (Zd ((gi vs'1 x2.toNat)) rfl ?_)
   obtain ⟨x3,hx'2,hp⟩:=Zq hp
   obtain ⟨u'2,k'4,ca'2,v'2,rfl,hW'2⟩:=Za2.ok (h:=k'3)  (hO'3.rd0 s_cells.rd) (hO'3.inn 1 rfl (Zj c'1):Sl Zf k'3 (gi vs'1 x2.toNat) (gi x x2.toNat)) hx'2
   refine Zai (id:=204) (caps:=[]) rfl (Zp (v:=v_cells) rfl (Zp (v:=(gi vs'1 x2.toNat)) rfl ZK)) ca'2 ?_
   have hO'4:=hO'3.call hW'2 rfl
   obtain ⟨x4,hx'3,hp⟩:=Zq hp
   obtain ⟨u'3,k'5,ca'3,rfl,hW'3⟩:=ZaQ.ok (h:=k'4)  (hO'4.sl 2 rfl) hx'3
   refine Zai (id:=219) (caps:=[]) rfl (Zp (v:=v'2) rfl ZK) ca'3 ?_
   have hO'5:=hO'4.call hW'3 rfl
   refine Zc (Zb (Zay (Zi (Zl (Zg (ZbE (a:=x4) (b:=4) rfl rfl) (Zd (.b (decide (x4 = 4))) rfl (Zc ?_)))))))
   refine Zb ?_
   rcases Zt hp with ⟨b'2,hp⟩ | ⟨b'2,hp⟩
   ·refine zB (t:=(decide (x4 = 4))) rfl b'2 ?_
    refine zC (Zax (Zax (Zb (Zl ?_))))
    obtain ⟨c'2,hp⟩:=Zn hp
    refine Zg (zD (a:=x2) (b:=1) q'2_16 rfl c'2) (Zd (.n (x2 + 1)) rfl (Zc ?_))
    cases hp
    exact (Or.inl ⟨(at_,x2 + 1),rfl,rfl,q'2_0,q'2_6,q'2_14,q'2_15,rfl,(hO'5.pick [0,1] rfl (by decide))⟩)
   ·refine zz (t:=(decide (x4 = 4))) rfl b'2 ?_
    refine Zi (Zl (Zg (ZbE (a:=x4) (b:=(-4)) rfl rfl) (Zd (.b (decide (x4 = (-4)))) rfl (Zc (Zb ?_)))))
    rcases Zt hp with ⟨b'3,hp⟩ | ⟨b'3,hp⟩
    ·refine zB (t:=(decide (x4 = (-4)))) rfl b'3 ?_
     refine Zi (Zi (Zl (Zd (.n at_) q'2_6 (Zg (ZcA (a:=at_) (b:=0) rfl rfl) (Zc (Zb ?_))))))
     rcases Zt hp with ⟨b'4,hp⟩ | ⟨b'4,hp⟩
     ·refine zB (t:=(decide (0≤at_))) rfl b'4 ?_
      refine Zi (Zl (Zd (.n 0) rfl (Zd (.b false) rfl (Zc (Zb (zL (zh ?_)))))))
      refine Zbd (Zbd (zh ?_))
      cases hp
      refine (Or.inr ⟨.inr (),rfl,(fun h=>nomatch h),(fun he=>?_)⟩)
      subst he; exact ⟨rfl,rfl,rfl,(hO'5.pick [] rfl (by decide))⟩
     ·refine zz (t:=(decide (0≤at_))) rfl b'4 ?_
      refine zC (Zb (Zl (Zd (.n x2) rfl (Zd (.n x2) rfl (Zc (Zax (Zax ?_)))))))
      refine Zb (Zl ?_)
      obtain ⟨c'3,hp⟩:=Zn hp
      refine Zg (zD (a:=x2) (b:=1) q'2_16 rfl c'3) (Zd (.n (x2 + 1)) rfl (Zc ?_))
      cases hp
      exact (Or.inl ⟨(x2,x2 + 1),rfl,rfl,q'2_0,rfl,q'2_14,q'2_15,rfl,(hO'5.pick [0,1] rfl (by decide))⟩)
    ·refine zz (t:=(decide (x4 = (-4)))) rfl b'3 ?_
     refine Zi (Zl (Zd (.n 0) rfl (Zd (.b false) rfl (Zc (Zb (zL (Zbd ?_)))))))
     refine Zbd (zh ?_)
     cases hp
     refine (Or.inr ⟨.inr (),rfl,(fun h=>nomatch h),(fun he=>?_)⟩)
     subst he; exact ⟨rfl,rfl,rfl,(hO'5.pick [] rfl (by decide))⟩
  ·refine zz (t:=(decide (x2 < (x.length:Int)))) rfl b'1 ?_
   refine ZbM (Zak ?_)
   cases hp
   refine (Or.inr ⟨.inl at_,rfl,(fun h=>nomatch h),(fun he=>?_)⟩)
   subst he; exact ⟨rfl,q'2_6,(hO'3.pick [] rfl (by decide))⟩
 intro e'1 q'1 k'2 hJ'1
 rcases o'1 with at_1 | _
 ·obtain ⟨rfl,q'1_6,hO'2⟩:=hJ'1
  refine ZaN (Zb (Zi (Zl (Zd (.n at_1) q'1_6 (Zd (.n at_1) q'1_6 (Zg (ZcA (a:=at_1) (b:=0) rfl rfl) (Zd (.n at_1) rfl ?_)))))))
  refine Zd (.b (decide (0≤at_1))) rfl (Zc (Zb (zL (zf (zl (n:=2) (v:=.n at_1) rfl (zl (n:=3) (v:=.b (decide (0≤at_1))) rfl ZD)) ?_))))
  cases hp
  exact ⟨rfl,(hO'2.pick [] rfl (by decide))⟩
 ·obtain ⟨rfl,q'1_2,q'1_3,hO'2⟩:=hJ'1
  refine Zbd (zh (zf (zl (n:=2) (v:=.n 0) q'1_2 (zl (n:=3) (v:=.b false) q'1_3 ZD)) ?_))
  cases hp
  exact ⟨rfl,(hO'2.pick [] rfl (by decide))⟩

theorem ZbT.ok {h:Hp} {cells:List Za} {v_cells:V} (s_cells:Sl Ze h v_cells cells) {r:Int} (hp:ZbT cells = some r) :
  ∃ u k',Is G 176 [v_cells] h u k'∧V.n r = u∧Own (fun r=>r < h.n) h k' []:=by
 refine WC.is (Za7 Zff ?_)
 unfold ZbT at hp
 let B:Nat→Prop:=(fun r=>r < h.n)
 have hO:Own B h h []:=Own.start0 h
 refine Zi (Zl (Zd (.n 0) rfl (Zc (Zb (Zi (Zi (Zl ?_)))))))
 refine Zd v_cells rfl ?_
 obtain ⟨x,hx'1,hp⟩:=Zq hp
 obtain ⟨u'1,k'1,ca'1,rfl,hW'1⟩:=zE.ok (h:=h)  (hO.rd0 s_cells.rd) hx'1
 refine Zai (id:=66) (caps:=[]) rfl (Zp (v:=v_cells) rfl ZK) ca'1 ?_
 have hO'1:=hO.call hW'1 rfl
 refine Zd (.n x) rfl (Zc (Zb (Zi (Zl (Zd (.n x) rfl (Zg (ZbK (a:=x) (b:=0) rfl rfl) (Zc ?_)))))))
 refine Zb ?_
 rcases Zt hp with ⟨b'1,hp⟩ | ⟨b'1,hp⟩
 ·refine zB (t:=(!(decide (x = 0)))) rfl b'1 ?_
  refine Zi (Zl (Zd (.n x) rfl (Zd (.n x) rfl (Zc (Zb (zL (zh ?_)))))))
  refine zf (zl (n:=2) (v:=.n x) rfl ZD) ?_
  cases hp
  exact ⟨rfl,(hO'1.pick [] rfl (by decide))⟩
 ·refine zz (t:=(!(decide (x = 0)))) rfl b'1 ?_
  refine zC (Zb (Zi (Zi (Zl (Zd v_cells rfl ?_)))))
  obtain ⟨x1,hx'2,hp⟩:=Zq hp
  obtain ⟨u'2,k'2,ca'2,rfl,hW'2⟩:=Zc1.ok (h:=k'1)  (hO'1.rd0 s_cells.rd) hx'2
  refine Zai (id:=32) (caps:=[]) rfl (Zp (v:=v_cells) rfl ZK) ca'2 ?_
  have hO'2:=hO'1.call hW'2 rfl
  refine Zg (Zcp (t:=x1) rfl) (Zc (Zb ?_))
  rcases Zt hp with ⟨b'2,hp⟩ | ⟨b'2,hp⟩
  ·refine zB (t:=(!x1)) rfl b'2 ?_
   refine Zi (Zl (Zd (.n 13) rfl (Zc (Zb (zL (zh (zf (zl (n:=2) (v:=.n 13) rfl ZD) ?_)))))))
   cases hp
   exact ⟨rfl,(hO'2.pick [] rfl (by decide))⟩
  ·refine zz (t:=(!x1)) rfl b'2 ?_
   refine zC (Zb (Zi (Zi (Zl (Zd v_cells rfl ?_)))))
   obtain ⟨⟨x2,x3⟩,hx'3,hp⟩:=Zq hp
   obtain ⟨u'3,k'3,ca'3,rfl,hW'3⟩:=ZaM.ok (h:=k'2)  (hO'2.rd0 s_cells.rd) hx'3
   refine Zai (id:=201) (caps:=[]) rfl (Zp (v:=v_cells) rfl ZK) ca'3 ?_
   have hO'3:=hO'2.call hW'3 rfl
   refine Zd (.tu [.n x2,.b x3]) rfl (Zg (Zad (vs:=[.n x2,.b x3]) (v:=.n x2) rfl rfl) (Zg (Zad (vs:=[.n x2,.b x3]) (v:=.b x3) rfl rfl) (Zd (.n x2) rfl (Zd (.b x3) rfl (Zc (Zb (Zi ?_)))))))
   refine Zl (Zd (.b x3) rfl (Zg (Zcp (t:=x3) rfl) (Zd (.b (!x3)) rfl ?_)))
   refine Zaa 4 (fun fr' k'=>k'3 = k'∧fr' 25 = .b ((!x3) && (decide (1 < (cells.length:Int))))) ?_ ?_
   ·rcases bc (!x3) with b'3 | b'3
    ·skip
     refine Z7 rfl b'3 (Zd v_cells rfl (Z7 rfl b'3 (Zg (ZaC (hO'3.rd0 s_cells.rd) rfl) (Z7 rfl b'3 (Zg (ZeF (a:=(cells.length:Int)) (b:=1) rfl rfl) (Zg (za (t:=(!x3)) (v:=.b ((!x3) && (decide (1 < (cells.length:Int))))) rfl b'3 (Eq.trans (b:=V.b (decide (1 < (cells.length:Int)))) rfl (Zcs b'3))) (Zc ?_)))))))
     exact ⟨rfl,rfl⟩
    ·skip
     refine Zw rfl b'3 (Zw rfl b'3 (Zw rfl b'3 (Zg (ZU (t:=(!x3)) (v:=.b ((!x3) && (decide (1 < (cells.length:Int))))) rfl b'3 (Eq.trans (b:=V.b false) rfl (ZbW b'3))) (Zc ?_))))
     exact ⟨rfl,rfl⟩
   rintro frg'1 _ ⟨rfl,g'1_25⟩
   refine Zc (Zb ?_)
   rcases Zt hp with ⟨b'4,hp⟩ | ⟨b'4,hp⟩
   ·refine zB (t:=((!x3) && (decide (1 < (cells.length:Int))))) g'1_25 b'4 ?_
    refine Zi (Zl (Zd (.n 10) rfl (Zc (Zb (zL (zh (zf (zl (n:=2) (v:=.n 10) rfl ZD) ?_)))))))
    cases hp
    exact ⟨rfl,(hO'3.pick [] rfl (by decide))⟩
   ·refine zz (t:=((!x3) && (decide (1 < (cells.length:Int))))) g'1_25 b'4 ?_
    refine zC (Zb (Zi (Zl (Zd (.n 0) rfl (Zc (Zb (zL ?_)))))))
    refine zf (zl (n:=2) (v:=.n 0) rfl ZD) ?_
    cases hp
    exact ⟨rfl,(hO'3.pick [] rfl (by decide))⟩

theorem ZbU.ok {h:Hp} {cells:List Za} {v_cells:V} (s_cells:Sl Ze h v_cells cells) {r:Int × Int} (hp:ZbU cells = some r) :
  ∃ u k',Is G 195 [v_cells] h u k'∧V.tu [.n r.1,.n r.2] = u∧Own (fun r=>r < h.n) h k' []:=by
 refine WC.is (Za7 Zfg ?_)
 unfold ZbU at hp
 let B:Nat→Prop:=(fun r=>r < h.n)
 have hO:Own B h h []:=Own.start0 h
 refine Zi (Zl (Zd (.n 0) rfl (Zd (.n 0) rfl (Zc (Zb (Zi (Zi ?_)))))))
 refine Zl (Zd v_cells rfl ?_)
 obtain ⟨x,hx'1,hp⟩:=Zq hp
 obtain ⟨u'1,k'1,ca'1,rfl,hW'1⟩:=ZbT.ok (h:=h)  (hO.rd0 s_cells.rd) hx'1
 refine Zai (id:=176) (caps:=[]) rfl (Zp (v:=v_cells) rfl ZK) ca'1 ?_
 have hO'1:=hO.call hW'1 rfl
 refine Zd (.n x) rfl (Zc (Zb (Zi (Zl (Zd (.n x) rfl (Zg (ZbK (a:=x) (b:=0) rfl rfl) (Zc ?_)))))))
 refine Zb ?_
 rcases Zt hp with ⟨b'1,hp⟩ | ⟨b'1,hp⟩
 ·refine zB (t:=(!(decide (x = 0)))) rfl b'1 ?_
  refine Zi (Zl (Zd (.n x) rfl (Zd (.n 0) rfl (Zd (.n x) rfl (Zc (Zb (zL ?_)))))))
  refine zh (zf (zl (n:=2) (v:=.n 0) rfl (zl (n:=3) (v:=.n x) rfl ZD)) ?_)
  cases hp
  exact ⟨rfl,(hO'1.pick [] rfl (by decide))⟩
 ·refine zz (t:=(!(decide (x = 0)))) rfl b'1 ?_
  refine zC (Zb (Zi (Zl (Zd v_cells rfl ?_))))
  obtain ⟨⟨x1,x2⟩,hx'2,hp⟩:=Zq hp
  obtain ⟨u'2,k'2,ca'2,rfl,hW'2⟩:=ZaM.ok (h:=k'1)  (hO'1.rd0 s_cells.rd) hx'2
  refine Zai (id:=201) (caps:=[]) rfl (Zp (v:=v_cells) rfl ZK) ca'2 ?_
  have hO'2:=hO'1.call hW'2 rfl
  refine Zd (.tu [.n x1,.b x2]) rfl (Zg (Zad (vs:=[.n x1,.b x2]) (v:=.n x1) rfl rfl) (Zg (Zad (vs:=[.n x1,.b x2]) (v:=.b x2) rfl rfl) (Zd (.n x1) rfl (Zd (.b x2) rfl (Zc (Zb (Zi ?_)))))))
  refine Zi (Zl (Zd (.b x2) rfl (Zg (Zcp (t:=x2) rfl) (Zc (Zb ?_)))))
  rcases Zt hp with ⟨b'2,hp⟩ | ⟨b'2,hp⟩
  ·refine zB (t:=(!x2)) rfl b'2 ?_
   refine Zi (Zl (Zd (.n 0) rfl (Zd (.n 2) rfl (Zc (Zb (zL (zh ?_)))))))
   refine zf (zl (n:=2) (v:=.n 0) rfl (zl (n:=3) (v:=.n 2) rfl ZD)) ?_
   cases hp
   exact ⟨rfl,(hO'2.pick [] rfl (by decide))⟩
  ·refine zz (t:=(!x2)) rfl b'2 ?_
   refine zC (Zb (Zi (Zl (Zd (.n x1) rfl (Zd (.n x1) rfl (Zd (.n 0) rfl (Zc ?_)))))))
   refine Zb (zL (zf (zl (n:=2) (v:=.n x1) rfl (zl (n:=3) (v:=.n 0) rfl ZD)) ?_))
   cases hp
   exact ⟨rfl,(hO'2.pick [] rfl (by decide))⟩

theorem zg.ok {h:Hp} {s:List Int} {f:Int→Option Bool} {v_s:V} {id_f:Nat} {cap_f:List V} (s_s:Sl Zao h v_s s) (f_f:∀ (k:Hp) (x0:Int) (y:Bool),Ex' (fun r=>r < h.n) h k→f x0 = some y→∃ u k',Is G id_f (.n x0 :: cap_f) k u k'∧V.b y = u∧Own (fun r=>r < k.n) k k' []) {r:Int} (hp:zg s f = some r) :
  ∃ u k',Is G 91 [v_s,.f id_f cap_f] h u k'∧V.n r = u∧Own (fun r=>r < h.n) h k' []:=by
 refine WC.is (Za7 ZcU ?_)
 unfold zg at hp
 let B:Nat→Prop:=(fun r=>r < h.n)
 have hO:Own B h h []:=Own.start0 h
 refine Zi (Zl (Zd (.n 0) rfl (Zc (Zb (Zi (Zi (Zl ?_)))))))
 refine Zd v_s rfl (Zg (ZaC (hO.rd0 s_s.rd) rfl) (Zd (.n 0) rfl (Zc (Zb (Zay ?_)))))
 obtain ⟨o'1,ho'1,hp⟩:=Zq hp
 refine W.mono (Q:=fun e fr k=>match (generalizing:=false) o'1 with
   | .inl _=>e = (.exit 0)∧Own B h k []
   | .inr x1=>e = .ret∧fr 4 = .n x1∧Own B h k []) ?_ ?_
 ·clear hp
  refine zU (fun st fr k=>match st with | x=>fr 0 = v_s∧fr 1 = .f id_f cap_f∧fr 7 = .n (s.length:Int)∧fr 8 = .n x∧Own B h k []) ho'1 (s:=0) ⟨rfl,rfl,rfl,rfl,(hO.pick [] rfl (by decide))⟩ ?_
  rintro x q'2 k'2 ⟨q'2_0,q'2_1,q'2_7,q'2_8,hO'2⟩ o'2 hp
  dsimp only [zg.s0] at hp
  refine Zi (Zl (Zg (zO (a:=x) (b:=(s.length:Int)) q'2_8 q'2_7) (Zc (Zb (Zi ?_)))))
  rcases Zt hp with ⟨b'1,hp⟩ | ⟨b'1,hp⟩
  ·refine zB (t:=(decide (x < (s.length:Int)))) rfl b'1 ?_
   refine zC (Zb (Zi (Zay (Zi (Zl (Zd (.n x) q'2_8 (Zd (.n x) rfl ?_)))))))
   refine Zc (Zb (Zi (Zl (Zd (.f id_f cap_f) q'2_1 (Zd v_s q'2_0 (Zd (.n x) rfl ?_))))))
   obtain ⟨c'1,hp⟩:=Zn hp
   refine Zg (zt (E:=Zao) (z:=x) (hO'2.rd0 s_s.rd) rfl rfl c'1) (Zg (zX (w:=.n (gi s x.toNat)) (hO'2.rd0 s_s.rd) rfl (Zj c'1) rfl) ?_)
   obtain ⟨x2,hx'1,hp⟩:=Zq hp
   obtain ⟨u'1,k'3,ca'1,rfl,hW'1⟩:=f_f _ _ _ hO'2.ext hx'1
   refine Zai (id:=id_f) (caps:=cap_f) rfl (Zp (v:=.n (gi s x.toNat)) rfl ZK) ca'1 ?_
   have hO'3:=hO'2.call hW'1 rfl
   refine Zc (Zb ?_)
   rcases Zt hp with ⟨b'2,hp⟩ | ⟨b'2,hp⟩
   ·refine zB (t:=x2) rfl b'2 ?_
    refine Zi (Zl (Zd (.n x) rfl (Zd (.n x) rfl (Zc (Zb (zL (Zbd ?_)))))))
    refine zh ?_
    cases hp
    refine (Or.inr ⟨.inr x,rfl,(fun h=>nomatch h),(fun he=>?_)⟩)
    subst he; exact ⟨rfl,rfl,(hO'3.pick [] rfl (by decide))⟩
   ·refine zz (t:=x2) rfl b'2 ?_
    refine zC (Zax (Zb (Zl ?_)))
    obtain ⟨c'2,hp⟩:=Zn hp
    refine Zg (zD (a:=x) (b:=1) q'2_8 rfl c'2) (Zd (.n (x + 1)) rfl (Zc ?_))
    cases hp
    exact (Or.inl ⟨x + 1,rfl,rfl,q'2_0,q'2_1,q'2_7,rfl,(hO'3.pick [] rfl (by decide))⟩)
  ·refine zz (t:=(decide (x < (s.length:Int)))) rfl b'1 ?_
   refine ZbM (Zak ?_)
   cases hp
   refine (Or.inr ⟨.inl (),rfl,(fun h=>nomatch h),(fun he=>?_)⟩)
   subst he; exact ⟨rfl,(hO'2.pick [] rfl (by decide))⟩
 intro e'1 q'1 k'1 hJ'1
 rcases o'1 with _ | x1
 ·obtain ⟨rfl,hO'1⟩:=hJ'1
  refine ZaN (Zb (Zi (Zl (Zd (.n (-1)) rfl (Zc (Zb (zL ?_)))))))
  refine zf (zl (n:=4) (v:=.n (-1)) rfl ZD) ?_
  cases hp
  exact ⟨rfl,(hO'1.pick [] rfl (by decide))⟩
 ·obtain ⟨rfl,q'1_4,hO'1⟩:=hJ'1
  refine Zbd (zh (zf (zl (n:=4) (v:=.n x1) q'1_4 ZD) ?_))
  cases hp
  exact ⟨rfl,(hO'1.pick [] rfl (by decide))⟩

theorem ZaW.ok {h:Hp} {s:List Int} {f:Int→Option Bool} {v_s:V} {id_f:Nat} {cap_f:List V} (s_s:Sl Zao h v_s s) (f_f:∀ (k:Hp) (x0:Int) (y:Bool),Ex' (fun r=>r < h.n) h k→f x0 = some y→∃ u k',Is G id_f (.n x0 :: cap_f) k u k'∧V.b y = u∧Own (fun r=>r < k.n) k k' []) {r:Bool} (hp:ZaW s f = some r) :
  ∃ u k',Is G 78 [v_s,.f id_f cap_f] h u k'∧V.b r = u∧Own (fun r=>r < h.n) h k' []:=by
 refine WC.is (Za7 Zc9 ?_)
 unfold ZaW at hp
 let B:Nat→Prop:=(fun r=>r < h.n)
 have hO:Own B h h []:=Own.start0 h
 refine Zi (Zl (Zd (.b false) rfl (Zc (Zb (Zi (Zl (Zd v_s rfl ?_)))))))
 refine Zd (.f id_f cap_f) rfl ?_
 obtain ⟨x,hx'1,hp⟩:=Zq hp
 obtain ⟨u'1,k'1,ca'1,rfl,hW'1⟩:=zg.ok (h:=h)  (hO.rd0 s_s.rd) (fun k z0 y hk hx=>f_f k z0 y (Zp4 hO hk) hx) hx'1
 refine Zai (id:=91) (caps:=[]) rfl (Zp (v:=v_s) rfl (Zp (v:=.f id_f cap_f) rfl ZK)) ca'1 ?_
 have hO'1:=hO.call hW'1 rfl
 refine Zg (ZcA (a:=x) (b:=0) rfl rfl) (Zd (.b (decide (0≤x))) rfl (Zc (Zb (zL (zf (zl (n:=4) (v:=.b (decide (0≤x))) rfl ZD) ?_)))))
 cases hp
 exact ⟨rfl,(hO'1.pick [] rfl (by decide))⟩

theorem Zck.ok {h:Hp} {t:Int}   {r:Bool} (hp:Zck t = some r) :
  ∃ u k',Is G 79 [.n t] h u k'∧V.b r = u∧Own (fun r=>r < h.n) h k' []:=by
 refine WC.is (Za7 Zew ?_)
 unfold Zck at hp
 let B:Nat→Prop:=(fun r=>r < h.n)
 have hO:Own B h h []:=Own.start0 h
 refine Zi (Zl (Zd (.b false) rfl (Zc (Zb (Zi (Zl (Zd (.n t) rfl ?_)))))))
 refine Zg (zO (a:=t) (b:=(-2)) rfl rfl) (Zd (.b (decide (t < (-2)))) rfl ?_)
 refine Zaa 3 (fun fr' k'=>h = k'∧fr' 8 = .b ((decide (t < (-2))) || (decide (1 < t)))) ?_ ?_
 ·rcases bc (decide (t < (-2))) with b'1 | b'1
  ·skip
   refine Zw rfl b'1 (Zw rfl b'1 (Zg (za (t:=(decide (t < (-2)))) (v:=.b ((decide (t < (-2))) || (decide (1 < t)))) rfl b'1 (Eq.trans (b:=V.b true) rfl (Zbs b'1))) (Zc ?_)))
   exact ⟨rfl,rfl⟩
  ·skip
   refine Z7 rfl b'1 (Zd (.n t) rfl (Z7 rfl b'1 (Zg (ZeF (a:=t) (b:=1) rfl rfl) (Zg (ZU (t:=(decide (t < (-2)))) (v:=.b ((decide (t < (-2))) || (decide (1 < t)))) rfl b'1 (Eq.trans (b:=V.b (decide (1 < t))) rfl (Zcc b'1))) (Zc ?_)))))
   exact ⟨rfl,rfl⟩
 rintro frg'1 _ ⟨rfl,g'1_8⟩
 refine Zd (.b ((decide (t < (-2))) || (decide (1 < t)))) g'1_8 (Zc (Zb (zL (zf (zl (n:=2) (v:=.b ((decide (t < (-2))) || (decide (1 < t)))) rfl ZD) ?_))))
 cases hp
 exact ⟨rfl,(hO.pick [] rfl (by decide))⟩

theorem ZbS.ok {h:Hp} {turns:List Int} {v_turns:V} (s_turns:Sl Zao h v_turns turns) {r:Bool} (hp:ZbS turns = some r) :
  ∃ u k',Is G 58 [v_turns] h u k'∧V.b r = u∧Own (fun r=>r < h.n) h k' []:=by
 refine WC.is (Za7 Zfb ?_)
 unfold ZbS at hp
 let B:Nat→Prop:=(fun r=>r < h.n)
 have hO:Own B h h []:=Own.start0 h
 refine Zi (Zl (Zd (.b false) rfl (Zc (Zb (Zi (Zl (Zd v_turns rfl ?_)))))))
 obtain ⟨x,hx'1,hp⟩:=Zq hp
 obtain ⟨u'1,k'1,ca'1,rfl,hW'1⟩:=ZaW.ok (h:=h)  (hO.rd0 s_turns.rd) (fun k z0 y hk hx=>Zck.ok (h:=k)  hx) hx'1
 refine Zai (id:=78) (caps:=[]) rfl (Zp (v:=v_turns) rfl (Zp (v:=.f 79 []) rfl ZK)) ca'1 ?_
 have hO'1:=hO.call hW'1 rfl
 refine Zg (Zcp (t:=x) rfl) (Zd (.b (!x)) rfl (Zc (Zb (zL (zf (zl (n:=2) (v:=.b (!x)) rfl ZD) ?_)))))
 cases hp
 exact ⟨rfl,(hO'1.pick [] rfl (by decide))⟩

theorem ZaT.ok {h:Hp} {turns:List Int} {i:Int} {v_turns:V} (s_turns:Sl Zao h v_turns turns) {r:Int × Bool} (hp:ZaT turns i = some r) :
  ∃ u k',Is G 13 [v_turns,.n i] h u k'∧V.tu [.n r.1,.b r.2] = u∧Own (fun r=>r < h.n) h k' []:=by
 refine WC.is (Za7 ZfZ ?_)
 unfold ZaT at hp
 let B:Nat→Prop:=(fun r=>r < h.n)
 have hO:Own B h h []:=Own.start0 h
 refine Zi (Zl (Zd (.n 0) rfl (Zd (.b false) rfl (Zc (Zb (Zi (Zi ?_)))))))
 refine Zl (Zd v_turns rfl ?_)
 obtain ⟨x,hx'1,hp⟩:=Zq hp
 obtain ⟨u'1,k'1,ca'1,rfl,hW'1⟩:=ZbS.ok (h:=h)  (hO.rd0 s_turns.rd) hx'1
 refine Zai (id:=58) (caps:=[]) rfl (Zp (v:=v_turns) rfl ZK) ca'1 ?_
 have hO'1:=hO.call hW'1 rfl
 refine Zg (Zcp (t:=x) rfl) (Zd (.b (!x)) rfl ?_)
 refine Zaa 3 (fun fr' k'=>k'1 = k'∧fr' 15 = .b ((!x) || (decide (i < 0)))∧fr' 0 = v_turns∧fr' 1 = .n i) ?_ ?_
 ·rcases bc (!x) with b'1 | b'1
  ·skip
   refine Zw rfl b'1 (Zw rfl b'1 (Zg (za (t:=(!x)) (v:=.b ((!x) || (decide (i < 0)))) rfl b'1 (Eq.trans (b:=V.b true) rfl (Zbs b'1))) (Zc ?_)))
   exact ⟨rfl,rfl,rfl,rfl⟩
  ·skip
   refine Z7 rfl b'1 (Zd (.n i) rfl (Z7 rfl b'1 (Zg (zO (a:=i) (b:=0) rfl rfl) (Zg (ZU (t:=(!x)) (v:=.b ((!x) || (decide (i < 0)))) rfl b'1 (Eq.trans (b:=V.b (decide (i < 0))) rfl (Zcc b'1))) (Zc ?_)))))
   exact ⟨rfl,rfl,rfl,rfl⟩
 rintro frg'1 _ ⟨rfl,g'1_15,g'1_0,g'1_1⟩
 refine Zd (.b ((!x) || (decide (i < 0)))) g'1_15 ?_
 refine Zaa 5 (fun fr' k'=>k'1 = k'∧fr' 21 = .b (((!x) || (decide (i < 0))) || (decide ((turns.length:Int)≤i)))∧fr' 0 = v_turns∧fr' 1 = .n i) ?_ ?_
 ·rcases bc ((!x) || (decide (i < 0))) with b'2 | b'2
  ·skip
   refine Zw rfl b'2 (Zw rfl b'2 (Zw rfl b'2 (Zw rfl b'2 (Zg (za (t:=((!x) || (decide (i < 0)))) (v:=.b (((!x) || (decide (i < 0))) || (decide ((turns.length:Int)≤i)))) rfl b'2 (Eq.trans (b:=V.b true) rfl (Zbs b'2))) (Zc ?_)))))
   exact ⟨rfl,rfl,g'1_0,g'1_1⟩
  ·skip
   refine Z7 rfl b'2 (Zd (.n i) g'1_1 (Z7 rfl b'2 (Zd v_turns g'1_0 (Z7 rfl b'2 (Zg (ZaC (hO'1.rd0 s_turns.rd) rfl) (Z7 rfl b'2 (Zg (ZcA (a:=i) (b:=(turns.length:Int)) rfl rfl) ?_)))))))
   refine Zg (ZU (t:=((!x) || (decide (i < 0)))) (v:=.b (((!x) || (decide (i < 0))) || (decide ((turns.length:Int)≤i)))) rfl b'2 (Eq.trans (b:=V.b (decide ((turns.length:Int)≤i))) rfl (Zcc b'2))) (Zc ?_)
   exact ⟨rfl,rfl,g'1_0,g'1_1⟩
 rintro frg'2 _ ⟨rfl,g'2_21,g'2_0,g'2_1⟩
 refine Zd (.b (((!x) || (decide (i < 0))) || (decide ((turns.length:Int)≤i)))) g'2_21 ?_
 obtain ⟨t,hv'1,hp⟩:=Zq hp
 refine Zaa 6 (fun fr' k'=>k'1 = k'∧fr' 28 = .b t∧fr' 0 = v_turns∧fr' 1 = .n i) ?_ ?_
 ·clear hp; rcases Zt hv'1 with ⟨b'3,hp⟩ | ⟨b'3,hp⟩
  ·skip
   refine Zw rfl b'3 (Zw rfl b'3 (Zw rfl b'3 (Zw rfl b'3 (Zw rfl b'3 (Zg (za (t:=(((!x) || (decide (i < 0))) || (decide ((turns.length:Int)≤i)))) (v:=.b t) rfl b'3 (Eq.trans (b:=V.b true) rfl (congrArg V.b (Option.some.inj hp)))) (Zc ?_))))))
   exact ⟨rfl,rfl,g'2_0,g'2_1⟩
  ·skip
   refine Z7 rfl b'3 (Zd v_turns g'2_0 (Z7 rfl b'3 (Zd (.n i) g'2_1 (Z7 rfl b'3 ?_))))
   obtain ⟨c'1,hp⟩:=Zn hp
   refine Zg (zt (E:=Zao) (z:=i) (hO'1.rd0 s_turns.rd) rfl rfl c'1) (Z7 rfl b'3 (Zg (zX (w:=.n (gi turns i.toNat)) (hO'1.rd0 s_turns.rd) rfl (Zj c'1) rfl) (Z7 rfl b'3 (Zg (ZcA (a:=(gi turns i.toNat)) (b:=0) rfl rfl) (Zg (ZU (t:=(((!x) || (decide (i < 0))) || (decide ((turns.length:Int)≤i)))) (v:=.b t) rfl b'3 (Eq.trans (b:=V.b (decide (0≤(gi turns i.toNat)))) rfl (congrArg V.b (Option.some.inj hp)))) (Zc ?_))))))
   exact ⟨rfl,rfl,g'2_0,g'2_1⟩
 rintro frg'3 _ ⟨rfl,g'3_28,g'3_0,g'3_1⟩
 refine Zc (Zb ?_)
 rcases Zt hp with ⟨b'4,hp⟩ | ⟨b'4,hp⟩
 ·refine zB (t:=t) g'3_28 b'4 ?_
  refine Zi (Zl (Zd (.n 0) rfl (Zd (.b false) rfl (Zc (Zb (zL (zh ?_)))))))
  refine zf (zl (n:=4) (v:=.n 0) rfl (zl (n:=5) (v:=.b false) rfl ZD)) ?_
  cases hp
  exact ⟨rfl,(hO'1.pick [] rfl (by decide))⟩
 ·refine zz (t:=t) g'3_28 b'4 ?_
  refine zC (Zb (Zi (Zl (Zd (.n 0) rfl (Zc (Zb (Zi ?_)))))))
  refine Zi (Zl (Zd v_turns g'3_0 (Zg (ZaC (hO'1.rd0 s_turns.rd) rfl) (Zd (.n 0) rfl (Zc (Zb (Zay ?_)))))))
  obtain ⟨o'1,ho'1,hp⟩:=Zq hp
  refine W.mono (Q:=fun e fr k=>match (generalizing:=false) o'1 with
    | .inl _=>e = (.exit 0)∧Own B h k []
    | .inr x2=>e = .ret∧fr 4 = .n x2∧fr 5 = .b true∧Own B h k []) ?_ ?_
  ·clear hp
   refine zU (fun st fr k=>match st with | (sum,x1)=>fr 0 = v_turns∧fr 1 = .n i∧fr 6 = .n sum∧fr 30 = .n (turns.length:Int)∧fr 31 = .n x1∧Own B h k []) ho'1 (s:=(0,0)) ⟨g'3_0,g'3_1,rfl,rfl,rfl,(hO'1.pick [] rfl (by decide))⟩ ?_
   rintro ⟨sum,x1⟩ q'2 k'3 ⟨q'2_0,q'2_1,q'2_6,q'2_30,q'2_31,hO'3⟩ o'2 hp
   dsimp only [ZaT.s0] at hp
   refine Zi (Zl (Zg (zO (a:=x1) (b:=(turns.length:Int)) q'2_31 q'2_30) (Zc (Zb (Zi ?_)))))
   rcases Zt hp with ⟨b'5,hp⟩ | ⟨b'5,hp⟩
   ·refine zB (t:=(decide (x1 < (turns.length:Int)))) rfl b'5 ?_
    refine zC (Zb (Zi (Zay (Zi (Zl (Zd (.n x1) q'2_31 (Zd (.n x1) rfl ?_)))))))
    refine Zc (Zb (Zi (Zl (Zd (.n i) q'2_1 (Zd (.n x1) rfl ?_)))))
    obtain ⟨c'2,hp⟩:=Zn hp
    refine Zg (zD (a:=i) (b:=x1) rfl rfl c'2) (Zd v_turns q'2_0 (Zg (ZaC (hO'3.rd0 s_turns.rd) rfl) ?_))
    obtain ⟨c'3,hp⟩:=Zn hp
    refine Zg (Zd6 (a:=(i + x1)) (b:=(turns.length:Int)) rfl rfl c'3) (Zd (.n ((i + x1).tmod (turns.length:Int))) rfl (Zc (Zb (Zi (Zl (Zd (.n sum) q'2_6 (Zd v_turns q'2_0 ?_)))))))
    refine Zd (.n ((i + x1).tmod (turns.length:Int))) rfl ?_
    obtain ⟨c'4,hp⟩:=Zn hp
    refine Zg (zt (E:=Zao) (z:=((i + x1).tmod (turns.length:Int))) (hO'3.rd0 s_turns.rd) rfl rfl c'4) (Zg (zX (w:=.n (gi turns ((i + x1).tmod (turns.length:Int):Int).toNat)) (hO'3.rd0 s_turns.rd) rfl (Zj c'4) rfl) ?_)
    obtain ⟨c'5,hp⟩:=Zn hp
    refine Zg (zD (a:=sum) (b:=(gi turns ((i + x1).tmod (turns.length:Int):Int).toNat)) rfl rfl c'5) (Zd (.n (sum + (gi turns ((i + x1).tmod (turns.length:Int):Int).toNat))) rfl (Zc (Zb (Zi (Zl (Zd (.n (sum + (gi turns ((i + x1).tmod (turns.length:Int):Int).toNat))) rfl (Zg (ZbE (a:=(sum + (gi turns ((i + x1).tmod (turns.length:Int):Int).toNat))) (b:=1) rfl rfl) ?_)))))))
    refine Zc (Zb ?_)
    rcases Zt hp with ⟨b'6,hp⟩ | ⟨b'6,hp⟩
    ·refine zB (t:=(decide (sum + (gi turns ((i + x1).tmod (turns.length:Int):Int).toNat) = 1))) rfl b'6 ?_
     refine Zi (Zl (Zd (.n ((i + x1).tmod (turns.length:Int))) rfl ?_))
     obtain ⟨c'6,hp⟩:=Zn hp
     refine Zg (zD (a:=((i + x1).tmod (turns.length:Int))) (b:=1) rfl rfl c'6) (Zd v_turns q'2_0 (Zg (ZaC (hO'3.rd0 s_turns.rd) rfl) (Zg (Zd6 (a:=(((i + x1).tmod (turns.length:Int)) + 1)) (b:=(turns.length:Int)) rfl rfl c'3) (Zd (.n ((((i + x1).tmod (turns.length:Int)) + 1).tmod (turns.length:Int))) rfl (Zd (.b true) rfl (Zc (Zb ?_)))))))
     refine zL (Zbd (zh ?_))
     cases hp
     refine (Or.inr ⟨(.inr ((((i + x1).tmod (turns.length:Int)) + 1).tmod (turns.length:Int))),rfl,(fun h=>nomatch h),(fun he=>?_)⟩)
     subst he; exact ⟨rfl,rfl,rfl,(hO'3.pick [] rfl (by decide))⟩
    ·refine zz (t:=(decide (sum + (gi turns ((i + x1).tmod (turns.length:Int):Int).toNat) = 1))) rfl b'6 ?_
     refine zC (Zax (Zb (Zl ?_)))
     obtain ⟨c'7,hp⟩:=Zn hp
     refine Zg (zD (a:=x1) (b:=1) q'2_31 rfl c'7) (Zd (.n (x1 + 1)) rfl (Zc ?_))
     cases hp
     exact (Or.inl ⟨(sum + (gi turns ((i + x1).tmod (turns.length:Int):Int).toNat),x1 + 1),rfl,rfl,q'2_0,q'2_1,rfl,q'2_30,rfl,(hO'3.pick [] rfl (by decide))⟩)
   ·refine zz (t:=(decide (x1 < (turns.length:Int)))) rfl b'5 ?_
    refine ZbM (Zak ?_)
    cases hp
    refine (Or.inr ⟨.inl (),rfl,(fun h=>nomatch h),(fun he=>?_)⟩)
    subst he; exact ⟨rfl,(hO'3.pick [] rfl (by decide))⟩
  intro e'1 q'1 k'2 hJ'1
  rcases o'1 with _ | x2
  ·obtain ⟨rfl,hO'2⟩:=hJ'1
   refine ZaN (Zb (Zi (Zl (Zd (.n 0) rfl (Zd (.b false) rfl (Zc (Zb ?_)))))))
   refine zL (zf (zl (n:=4) (v:=.n 0) rfl (zl (n:=5) (v:=.b false) rfl ZD)) ?_)
   cases hp
   exact ⟨rfl,(hO'2.pick [] rfl (by decide))⟩
  ·obtain ⟨rfl,q'1_4,q'1_5,hO'2⟩:=hJ'1
   refine Zbd (zh (zf (zl (n:=4) (v:=.n x2) q'1_4 (zl (n:=5) (v:=.b true) q'1_5 ZD)) ?_))
   cases hp
   exact ⟨rfl,(hO'2.pick [] rfl (by decide))⟩

theorem Zby.ok {h:Hp} {turns:List Int} {v_turns:V} (s_turns:Sl Zao h v_turns turns) {r:Int × Bool} (hp:Zby turns = some r) :
  ∃ u k',Is G 15 [v_turns] h u k'∧V.tu [.n r.1,.b r.2] = u∧Own (fun r=>r < h.n) h k' []:=by
 refine WC.is (Za7 Zfn ?_)
 unfold Zby at hp
 let B:Nat→Prop:=(fun r=>r < h.n)
 have hO:Own B h h []:=Own.start0 h
 refine Zi (Zl (Zd (.n 0) rfl (Zd (.b false) rfl (Zc (Zb (Zi (Zi ?_)))))))
 refine Zl (Zd v_turns rfl ?_)
 obtain ⟨x,hx'1,hp⟩:=Zq hp
 obtain ⟨u'1,k'1,ca'1,rfl,hW'1⟩:=ZbS.ok (h:=h)  (hO.rd0 s_turns.rd) hx'1
 refine Zai (id:=58) (caps:=[]) rfl (Zp (v:=v_turns) rfl ZK) ca'1 ?_
 have hO'1:=hO.call hW'1 rfl
 refine Zg (Zcp (t:=x) rfl) (Zc (Zb ?_))
 rcases Zt hp with ⟨b'1,hp⟩ | ⟨b'1,hp⟩
 ·refine zB (t:=(!x)) rfl b'1 ?_
  refine Zi (Zl (Zd (.n 0) rfl (Zd (.b false) rfl (Zc (Zb (zL (zh ?_)))))))
  refine zf (zl (n:=2) (v:=.n 0) rfl (zl (n:=3) (v:=.b false) rfl ZD)) ?_
  cases hp
  exact ⟨rfl,(hO'1.pick [] rfl (by decide))⟩
 ·refine zz (t:=(!x)) rfl b'1 ?_
  refine zC (Zb (Zi (Zi (Zl (Zd v_turns rfl (Zg (ZaC (hO'1.rd0 s_turns.rd) rfl) (Zd (.n 0) rfl ?_)))))))
  refine Zc (Zb (Zay ?_))
  obtain ⟨o'1,ho'1,hp⟩:=Zq hp
  refine W.mono (Q:=fun e fr k=>match (generalizing:=false) o'1 with
    | .inl _=>e = (.exit 0)∧Own B h k []
    | .inr x2=>e = .ret∧fr 2 = .n x2∧fr 3 = .b true∧Own B h k []) ?_ ?_
  ·clear hp
   refine zU (fun st fr k=>match st with | x1=>fr 0 = v_turns∧fr 11 = v_turns∧fr 12 = .n (turns.length:Int)∧fr 13 = .n x1∧Own B h k []) ho'1 (s:=0) ⟨rfl,rfl,rfl,rfl,(hO'1.pick [] rfl (by decide))⟩ ?_
   rintro x1 q'2 k'3 ⟨q'2_0,q'2_11,q'2_12,q'2_13,hO'3⟩ o'2 hp
   dsimp only [Zby.s0] at hp
   refine Zi (Zl (Zg (zO (a:=x1) (b:=(turns.length:Int)) q'2_13 q'2_12) (Zc (Zb (Zi ?_)))))
   rcases Zt hp with ⟨b'2,hp⟩ | ⟨b'2,hp⟩
   ·refine zB (t:=(decide (x1 < (turns.length:Int)))) rfl b'2 ?_
    refine zC (Zb (Zi (Zay (Zi (Zl (Zd (.n x1) q'2_13 ?_))))))
    obtain ⟨c'1,hp⟩:=Zn hp
    refine Zg (zt (E:=Zao) (z:=x1) (hO'3.rd0 s_turns.rd) q'2_11 q'2_13 c'1) (Zg (zX (w:=.n (gi turns x1.toNat)) (hO'3.rd0 s_turns.rd) rfl (Zj c'1) rfl) (Zd (.n x1) rfl (Zd (.n (gi turns x1.toNat)) rfl (Zc (Zb (Zi (Zl ?_)))))))
    refine Zd v_turns q'2_0 (Zd (.n x1) rfl ?_)
    obtain ⟨⟨x3,x4⟩,hx'2,hp⟩:=Zq hp
    obtain ⟨u'2,k'4,ca'2,rfl,hW'2⟩:=ZaT.ok (h:=k'3)  (hO'3.rd0 s_turns.rd) hx'2
    refine Zai (id:=13) (caps:=[]) rfl (Zp (v:=v_turns) rfl (Zp (v:=.n x1) rfl ZK)) ca'2 ?_
    have hO'4:=hO'3.call hW'2 rfl
    refine Zd (.tu [.n x3,.b x4]) rfl (Zg (Zad (vs:=[.n x3,.b x4]) (v:=.n x3) rfl rfl) (Zg (Zad (vs:=[.n x3,.b x4]) (v:=.b x4) rfl rfl) (Zd (.n x3) rfl (Zd (.b x4) rfl (Zc (Zb (Zi ?_)))))))
    refine Zl (Zd (.n (gi turns x1.toNat)) rfl (Zg (zO (a:=(gi turns x1.toNat)) (b:=0) rfl rfl) (Zd (.b (decide ((gi turns x1.toNat) < 0))) rfl ?_)))
    refine Zaa 3 (fun fr' k'=>k'4 = k'∧fr' 29 = .b ((decide ((gi turns x1.toNat) < 0)) && (!x4))∧fr' 0 = v_turns∧fr' 11 = v_turns∧fr' 12 = .n (turns.length:Int)∧fr' 13 = .n x1∧fr' 4 = .n x1) ?_ ?_
    ·rcases bc (decide ((gi turns x1.toNat) < 0)) with b'3 | b'3
     ·skip
      refine Z7 rfl b'3 (Zd (.b x4) rfl (Z7 rfl b'3 (Zg (Zcp (t:=x4) rfl) (Zg (za (t:=(decide ((gi turns x1.toNat) < 0))) (v:=.b ((decide ((gi turns x1.toNat) < 0)) && (!x4))) rfl b'3 (Eq.trans (b:=V.b (!x4)) rfl (Zcs b'3))) (Zc ?_)))))
      exact ⟨rfl,rfl,q'2_0,q'2_11,q'2_12,q'2_13,rfl⟩
     ·skip
      refine Zw rfl b'3 (Zw rfl b'3 (Zg (ZU (t:=(decide ((gi turns x1.toNat) < 0))) (v:=.b ((decide ((gi turns x1.toNat) < 0)) && (!x4))) rfl b'3 (Eq.trans (b:=V.b false) rfl (ZbW b'3))) (Zc ?_)))
      exact ⟨rfl,rfl,q'2_0,q'2_11,q'2_12,q'2_13,rfl⟩
    rintro frg'1 _ ⟨rfl,g'1_29,g'1_0,g'1_11,g'1_12,g'1_13,g'1_4⟩
    refine Zc (Zb ?_)
    rcases Zt hp with ⟨b'4,hp⟩ | ⟨b'4,hp⟩
    ·refine zB (t:=((decide ((gi turns x1.toNat) < 0)) && (!x4))) g'1_29 b'4 ?_
     refine Zi (Zl (Zd (.n x1) g'1_4 (Zd (.n x1) rfl (Zd (.b true) rfl (Zc (Zb (zL ?_)))))))
     refine Zbd (zh ?_)
     cases hp
     refine (Or.inr ⟨.inr x1,rfl,(fun h=>nomatch h),(fun he=>?_)⟩)
     subst he; exact ⟨rfl,rfl,rfl,(hO'4.pick [] rfl (by decide))⟩
    ·refine zz (t:=((decide ((gi turns x1.toNat) < 0)) && (!x4))) g'1_29 b'4 ?_
     refine zC (Zax (Zb (Zl ?_)))
     obtain ⟨c'2,hp⟩:=Zn hp
     refine Zg (zD (a:=x1) (b:=1) g'1_13 rfl c'2) (Zd (.n (x1 + 1)) rfl (Zc ?_))
     cases hp
     exact (Or.inl ⟨x1 + 1,rfl,rfl,g'1_0,g'1_11,g'1_12,rfl,(hO'4.pick [] rfl (by decide))⟩)
   ·refine zz (t:=(decide (x1 < (turns.length:Int)))) rfl b'2 ?_
    refine ZbM (Zak ?_)
    cases hp
    refine (Or.inr ⟨.inl (),rfl,(fun h=>nomatch h),(fun he=>?_)⟩)
    subst he; exact ⟨rfl,(hO'3.pick [] rfl (by decide))⟩
  intro e'1 q'1 k'2 hJ'1
  rcases o'1 with _ | x2
  ·obtain ⟨rfl,hO'2⟩:=hJ'1
   refine ZaN (Zb (Zi (Zl (Zd (.n 0) rfl (Zd (.b false) rfl (Zc (Zb ?_)))))))
   refine zL (zf (zl (n:=2) (v:=.n 0) rfl (zl (n:=3) (v:=.b false) rfl ZD)) ?_)
   cases hp
   exact ⟨rfl,(hO'2.pick [] rfl (by decide))⟩
  ·obtain ⟨rfl,q'1_2,q'1_3,hO'2⟩:=hJ'1
   refine Zbd (zh (zf (zl (n:=2) (v:=.n x2) q'1_2 (zl (n:=3) (v:=.b true) q'1_3 ZD)) ?_))
   cases hp
   exact ⟨rfl,(hO'2.pick [] rfl (by decide))⟩

theorem ZbG.ok {h:Hp} {cells:List Za} {v_cells:V} (s_cells:Sl Ze h v_cells cells) {r:Zr × Int} (hp:ZbG cells = some r) :
  ∃ u k',Is G 278 [v_cells] h u k'∧V.tu [.ag (Zf.c r.1),.n r.2] = u∧Own (fun r=>r < h.n) h k' []:=by
 refine WC.is (Za7 ZeD ?_)
 unfold ZbG at hp
 let B:Nat→Prop:=(fun r=>r < h.n)
 have hO:Own B h h []:=Own.start0 h
 refine Zi (Zl (Za0 (hO.alloc (cs:=Zf.c (⟨0,0⟩:Zr)) hO.fr) ?_))
 rintro _ k'1 ⟨r'1,rfl,n'1,f'1,hW⟩
 have hO'1:=hW
 refine Zd (.n 0) rfl (Zc (Zb (Zi (Zl (Zd v_cells rfl ?_)))))
 obtain ⟨⟨x,x1⟩,hx'1,hp⟩:=Zq hp
 obtain ⟨u'1,k'2,ca'1,rfl,hW'1⟩:=ZbU.ok (h:=k'1)  (hO'1.rd0 s_cells.rd) hx'1
 refine Zai (id:=195) (caps:=[]) rfl (Zp (v:=v_cells) rfl ZK) ca'1 ?_
 have hO'2:=hO'1.call hW'1 rfl
 refine Zd (.tu [.n x,.n x1]) rfl (Zg (Zad (vs:=[.n x,.n x1]) (v:=.n x) rfl rfl) (Zg (Zad (vs:=[.n x,.n x1]) (v:=.n x1) rfl rfl) (Zd (.n x) rfl (Zd (.n x1) rfl (Zc (Zb (Zi ?_)))))))
 refine Zi (Zl (Zd (.n x1) rfl (Zg (ZbK (a:=x1) (b:=0) rfl rfl) (Zc (Zb ?_)))))
 rcases Zt hp with ⟨b'1,hp⟩ | ⟨b'1,hp⟩
 ·refine zB (t:=(!(decide (x1 = 0)))) rfl b'1 ?_
  refine Zi (Zl (Zg (Zdo (cs:=Zf.c (⟨(0:Int),(0:Int)⟩:Zr)) (by rw [Zb3]; rfl)) (Zd (.n x1) rfl (Za0 (hO'2.stb (ws:=Zf.c (⟨(0:Int),(0:Int)⟩:Zr)) (cs':=Zf.c (⟨(0:Int),(0:Int)⟩:Zr)) (v:=.ag (Zf.c (⟨(0:Int),(0:Int)⟩:Zr))) 0 rfl rfl rfl rfl ⟨rfl,Nat.le_of_ble_eq_true rfl,rfl⟩ rfl) ?_))))
  rintro _ k'3 ⟨rfl,f'2,m'1,hW⟩
  have hO'3:=hW
  refine Zd (.n x1) rfl (Zc (Zb (zL (zh (zf (ZjD (n:=2) (v:=.ag (Zf.c (⟨(0:Int),(0:Int)⟩:Zr))) (r:=r'1) rfl (hO'3.box 0 rfl) rfl (zl (n:=3) (v:=.n x1) rfl ZD)) ?_)))))
  cases hp
  exact ⟨rfl,(hO'3.pick [] rfl (by decide))⟩
 ·refine zz (t:=(!(decide (x1 = 0)))) rfl b'1 ?_
  refine zC (Zb (Zi (Zl (Zd v_cells rfl ?_))))
  obtain ⟨⟨x2,x3⟩,hx'2,hp⟩:=Zq hp
  obtain ⟨u'2,k'4,ca'2,v'1,vs'1,rfl,hW'2⟩:=zx.ok (h:=k'2)  (hO'2.rd0 s_cells.rd) hx'2
  refine Zai (id:=203) (caps:=[]) rfl (Zp (v:=v_cells) rfl ZK) ca'2 ?_
  have hO'4:=hO'2.call hW'2 rfl
  refine Zd (.tu [v'1,.n x3]) rfl (Zg (Zad (vs:=[v'1,.n x3]) (v:=v'1) rfl rfl) (Zg (Zad (vs:=[v'1,.n x3]) (v:=.n x3) rfl rfl) (Zd v'1 rfl (Zd (.n x3) rfl (Zc (Zb (Zi ?_)))))))
  refine Zl (Zd v_cells rfl (Zd v'1 rfl (Zd (.n x) rfl ?_)))
  obtain ⟨c'1,hp⟩:=Zn hp
  refine Zg (zt (E:=eV) (z:=x) (hO'4.sl 1 rfl) rfl rfl (by rw [(hO'4.allLen 2 rfl:(vs'1).length = (x2).length)]; exact c'1)) (Zg (zX (w:=(gi vs'1 x.toNat)) (hO'4.sl 1 rfl) rfl (by rw [(hO'4.allLen 2 rfl:(vs'1).length = (x2).length)]; exact Zj c'1) rfl) ?_)
  obtain ⟨x4,hx'3,hp⟩:=Zq hp
  obtain ⟨u'3,k'5,ca'3,v'2,rfl,hW'3⟩:=Za2.ok (h:=k'4)  (hO'4.rd0 s_cells.rd) (hO'4.inn 2 rfl (Zj c'1):Sl Zf k'4 (gi vs'1 x.toNat) (gi x2 x.toNat)) hx'3
  refine Zai (id:=204) (caps:=[]) rfl (Zp (v:=v_cells) rfl (Zp (v:=(gi vs'1 x.toNat)) rfl ZK)) ca'3 ?_
  have hO'5:=hO'4.call hW'3 rfl
  obtain ⟨⟨x5,x6⟩,hx'4,hp⟩:=Zq hp
  obtain ⟨u'4,k'6,ca'4,rfl,hW'4⟩:=Zby.ok (h:=k'5)  (hO'5.sl 3 rfl) hx'4
  refine Zai (id:=15) (caps:=[]) rfl (Zp (v:=v'2) rfl ZK) ca'4 ?_
  have hO'6:=hO'5.call hW'4 rfl
  refine Zd (.tu [.n x5,.b x6]) rfl (Zg (Zad (vs:=[.n x5,.b x6]) (v:=.n x5) rfl rfl) (Zg (Zad (vs:=[.n x5,.b x6]) (v:=.b x6) rfl rfl) (Zd (.n x5) rfl (Zd (.b x6) rfl (Zc (Zb (Zi ?_)))))))
  refine Zl (Zd v'1 rfl (Zd (.n x) rfl (Zg (zt (E:=eV) (z:=x) (hO'6.sl 1 rfl) rfl rfl (by rw [(hO'6.allLen 2 rfl:(vs'1).length = (x2).length)]; exact c'1)) (Zg (zX (w:=(gi vs'1 x.toNat)) (hO'6.sl 1 rfl) rfl (by rw [(hO'6.allLen 2 rfl:(vs'1).length = (x2).length)]; exact Zj c'1) rfl) (Zd (.n x5) rfl ?_)))))
  obtain ⟨c'2,hp⟩:=Zn hp
  refine Zg (zt (E:=Zf) (z:=x5) (hO'6.inn 2 rfl (Zj c'1):Sl Zf k'6 (gi vs'1 x.toNat) (gi x2 x.toNat)) rfl rfl c'2) (Zg (ZfI (E:=Zf) (hO'6.inn 2 rfl (Zj c'1):Sl Zf k'6 (gi vs'1 x.toNat) (gi x2 x.toNat)) rfl (Zj c'2)) (Za0 (hO'6.stb (ws:=Zf.c (gi (gi x2 x.toNat) x5.toNat)) (cs':=Zf.c (gi (gi x2 x.toNat) x5.toNat)) (v:=.ag (Zf.c (gi (gi x2 x.toNat) x5.toNat))) 0 rfl rfl rfl rfl ⟨rfl,Nat.le_of_ble_eq_true rfl,rfl⟩ rfl) ?_))
  rintro _ k'7 ⟨rfl,f'3,m'2,hW⟩
  have hO'7:=hW
  refine Zd (.n 0) rfl (Zc (Zb (zL (zf (ZjD (n:=2) (v:=.ag (Zf.c (gi (gi x2 x.toNat) x5.toNat))) (r:=r'1) rfl (hO'7.box 0 rfl) rfl (zl (n:=3) (v:=.n 0) rfl ZD)) ?_))))
  cases hp
  exact ⟨rfl,(hO'7.pick [] rfl (by decide))⟩

theorem zZ.ok {h:Hp} {s:List Za} {v_s:V} (s_s:Sl Ze h v_s s) {r:List Za} (hp:zZ s = some r) :
  ∃ u k',Is G 51 [v_s] h u k'∧∃ (v:V),v = u∧Own (fun r=>r < h.n) h k' [eSl Ze v r]:=by
 refine WC.is (Za7 ZcR ?_)
 obtain ⟨c1,hp⟩:=Zn hp
 cases hp
 have hO:Own (fun r=>r < h.n) h h []:=Own.start0 h
 refine Zi (Zl (Zd (.sn) rfl (Zc (Zb (Zi (Zi (Zl ?_)))))))
 refine Zd v_s rfl ?_
 rcases Zou s_s with ⟨rfl,rfl⟩ | hn
 ·refine Zg (v:=.b true) rfl ?_
  refine Zc (Zb (zB (t:=true) rfl rfl (Zi (Zl (Zd (.sn) rfl (Zc (Zb ?_)))))))
  refine zL (zh (zf (zl (n:=2) (v:=.sn) rfl ZD) ?_))
  exact ⟨.sn,rfl,hO.nil Ze⟩
 ·refine Zg (ZoJ (v:=v_s) hn rfl rfl) ?_
  refine Zc (Zb (zz (t:=false) rfl rfl (zC (Zb (Zi (Zl (Za0 (hO.bsl (E:=Ze) (l:=[]) hO.fr rfl rfl) ?_)))))))
  rintro v1 k1 ⟨r1,f1,hW⟩
  have hO1:Own (fun r=>r < h.n) h k1 [eSl Ze v1 []]:=hW
  refine Zd v_s rfl (Za0 (hO1.app (E:=Ze) (bytes:=64) 0 hO1.fr rfl (hO1.rd0 s_s.rd) rfl rfl (fun _=>rfl) (by simpa using c1) (by decide)) ?_)
  rintro v2 k2 ⟨f2,hW⟩
  have hO2:Own (fun r=>r < h.n) h k2 [eSl Ze v2 ([]++s)]:=hW
  refine Zd v2 rfl (Zc (Zb (zL (zf (zl (n:=2) (v:=v2) rfl ZD) ?_))))
  exact ⟨v2,rfl,hO2⟩

theorem ZdE.ok {h:Hp} {cells:List Za} {v_cells:V} (s_cells:Sl Ze h v_cells cells) {r:(Option ZQ) × Int} (hp:ZdE cells = some r) :
  ∃ u k',Is G 119 [v_cells] h u k'∧∃ (r'1:Nat),∃ (v'1:V),V.tu [(if (r.1).isSome = true then V.p r'1 0 else V.pn),.n r.2] = u∧Own (fun r=>r < h.n) h k' [eIf (r.1).isSome (ZaD r'1 [v'1]),eIf (r.1).isSome (eSl Ze v'1 ((r.1.getD default).cells))]:=by
 refine WC.is (Za7 Zg6 ?_)
 unfold ZdE at hp
 let B:Nat→Prop:=(fun r=>r < h.n)
 have hO:Own B h h []:=Own.start0 h
 refine Zi (Zl (Zd (.pn) rfl (Zd (.n 0) rfl (Zc (Zb (Zi (Zi ?_)))))))
 refine Zl (Zd v_cells rfl ?_)
 obtain ⟨x,hx'1,hp⟩:=Zq hp
 obtain ⟨u'1,k'1,ca'1,rfl,hW'1⟩:=zE.ok (h:=h)  (hO.rd0 s_cells.rd) hx'1
 refine Zai (id:=66) (caps:=[]) rfl (Zp (v:=v_cells) rfl ZK) ca'1 ?_
 have hO'1:=hO.call hW'1 rfl
 refine Zd (.n x) rfl (Zc (Zb (Zi (Zl (Zd (.n x) rfl (Zg (ZbK (a:=x) (b:=0) rfl rfl) (Zc ?_)))))))
 refine Zb ?_
 rcases Zt hp with ⟨b'1,hp⟩ | ⟨b'1,hp⟩
 ·refine zB (t:=(!(decide (x = 0)))) rfl b'1 ?_
  refine Zi (Zl (Zd (.n x) rfl (Zd (.pn) rfl (Zd (.n x) rfl (Zc (Zb (zL ?_)))))))
  refine zh (zf (zl (n:=2) (v:=.pn) rfl (zl (n:=3) (v:=.n x) rfl ZD)) ?_)
  cases hp
  exact ⟨0,V.sn,rfl,(hO'1.pick [900,901] rfl (by decide))⟩
 ·refine zz (t:=(!(decide (x = 0)))) rfl b'1 ?_
  refine zC (Zb (Zi (Zl (Zd v_cells rfl ?_))))
  obtain ⟨x1,hx'2,hp⟩:=Zq hp
  obtain ⟨u'2,k'2,ca'2,v'3,rfl,hW'2⟩:=zZ.ok (h:=k'1)  (hO'1.rd0 s_cells.rd) hx'2
  refine Zai (id:=51) (caps:=[]) rfl (Zp (v:=v_cells) rfl ZK) ca'2 ?_
  have hO'2:=hO'1.call hW'2 rfl
  refine Zg (Zdo (cs:=[v'3]) (by rw [(Zae (v:=v'3) rfl Zb3)]; simp [fill,over,Zmw,Zmu,Zmv,Zmy,Zmt,Zmx,(hO'2.sl 0 rfl).cells])) (Za0 (hO'2.boxd (v:=.ag [v'3]) (cs:=[v'3]) hO'2.fr rfl rfl) ?_)
  rintro _ k'3 ⟨r'3,rfl,n'1,f'1,hW⟩
  have hO'3:=hW
  refine Zd (.p r'3 0) rfl (Zd (.n 0) rfl (Zc (Zb (zL (zf (zl (n:=2) (v:=.p r'3 0) rfl (zl (n:=3) (v:=.n 0) rfl ZD)) ?_)))))
  cases hp
  exact ⟨r'3,v'3,rfl,(hO'3.pick [1,0] rfl (by decide))⟩

theorem Za8.ok {h:Hp} {g:ZQ} {r_g:Nat} {v_g_cells:V} {w_g:Bool} (b_g:h.m r_g = some (.cells w_g [v_g_cells])) (s_g_cells:Sl Ze h v_g_cells g.cells) {r:Int} (hp:Za8 g = some r) :
  ∃ u k',Is G 55 [.p r_g 0] h u k'∧V.n r = u∧Own (fun r=>r < h.n) h k' []:=by
 refine WC.is (Za7 Zey ?_)
 unfold Za8 at hp
 let B:Nat→Prop:=(fun r=>r < h.n)
 have hO:Own B h h []:=Own.start0 h
 refine Zi (Zl (Zd (.n 0) rfl (Zc (Zb (Zi (Zi (Zl ?_)))))))
 refine Zd (.p r_g 0) rfl (Zg (ZiK rfl rfl) (Zc (Zb (zz (t:=false) rfl rfl (zC (Zb (Zi ?_)))))))
 refine Zl (Zd (.p r_g 0) rfl (Zg (ZdA (r:=r_g) (o:=0) rfl) (Zg (Zbv (r:=r_g) (o:=0) (o':=0) rfl rfl) (Zg (ZaK (cs:=[v_g_cells]) (v:=v_g_cells) (hO.rdB0 (RdB.of b_g)).choose_spec rfl rfl) (Zg (ZaC (hO.rd0 s_g_cells.rd) rfl) (Zd (.n (g.cells.length:Int)) rfl (Zc ?_)))))))
 refine Zb (zL (zf (zl (n:=2) (v:=.n (g.cells.length:Int)) rfl ZD) ?_))
 cases hp
 exact ⟨rfl,(hO.pick [] rfl (by decide))⟩

theorem ZaU.ok {h:Hp} {g:ZQ} {v:Int} {d:Int} {r_g:Nat} {v_g_cells:V} {w_g:Bool} (b_g:h.m r_g = some (.cells w_g [v_g_cells])) (s_g_cells:Sl Ze h v_g_cells g.cells) {r:Bool} (hp:ZaU g v d = some r) :
  ∃ u k',Is G 75 [.p r_g 0,.n v,.n d] h u k'∧V.b r = u∧Own (fun r=>r < h.n) h k' []:=by
 refine WC.is (Za7 ZeC ?_)
 unfold ZaU at hp
 let B:Nat→Prop:=(fun r=>r < h.n)
 have hO:Own B h h []:=Own.start0 h
 refine Zi (Zl (Zd (.b false) rfl (Zc (Zb (Zi (Zl (Zd (.n v) rfl ?_)))))))
 refine Zg (ZcA (a:=v) (b:=0) rfl rfl) (Zd (.b (decide (0≤v))) rfl ?_)
 obtain ⟨t,hv'1,hp⟩:=Zq hp
 refine Zaa 5 (fun fr' k'=>Own B h k' []∧fr' 14 = .b t∧fr' 2 = .n d) ?_ ?_
 ·clear hp; rcases Zt hv'1 with ⟨b'1,hp⟩ | ⟨b'1,hp⟩
  ·skip
   refine Z7 rfl b'1 (Zd (.n v) rfl (Z7 rfl b'1 (Zd (.p r_g 0) rfl (Z7 rfl b'1 ?_))))
   obtain ⟨x,hx'1,hp⟩:=Zq hp
   obtain ⟨u'1,k'1,ca'1,rfl,hW'1⟩:=Za8.ok (h:=h)  (hO.rdB0 (RdB.of b_g)).choose_spec (hO.rd0 s_g_cells.rd) hx'1
   refine Zai (id:=55) (caps:=[]) rfl (Zp (v:=.p r_g 0) rfl ZK) ca'1 ?_
   have hO'1:=hO.call hW'1 rfl
   refine Z7 rfl b'1 (Zg (zO (a:=v) (b:=x) rfl rfl) (Zg (za (t:=(decide (0≤v))) (v:=.b t) rfl b'1 (Eq.trans (b:=V.b (decide (v < x))) rfl (congrArg V.b (Option.some.inj hp)))) (Zc ?_)))
   exact ⟨hO'1.pick [] rfl (by decide),rfl,rfl⟩
  ·skip
   refine Zw rfl b'1 (Zw rfl b'1 (Zw rfl b'1 (Zw rfl b'1 (Zg (ZU (t:=(decide (0≤v))) (v:=.b t) rfl b'1 (Eq.trans (b:=V.b false) rfl (congrArg V.b (Option.some.inj hp)))) (Zc ?_)))))
   exact ⟨hO.pick [] rfl (by decide),rfl,rfl⟩
 rintro frg'1 k'2 ⟨hO'2,g'1_14,g'1_2⟩
 refine Zd (.b t) g'1_14 ?_
 obtain ⟨t1,hv'2,hp⟩:=Zq hp
 refine Zaa 3 (fun fr' k'=>Own B h k' []∧fr' 18 = .b t1) ?_ ?_
 ·clear hp; rcases Zt hv'2 with ⟨b'2,hp⟩ | ⟨b'2,hp⟩
  ·skip
   refine Z7 rfl b'2 (Zd (.n d) g'1_2 (Z7 rfl b'2 ?_))
   obtain ⟨x1,hx'2,hp⟩:=Zq hp
   obtain ⟨u'2,k'3,ca'2,rfl,hW'2⟩:=ZaA.ok (h:=k'2)   hx'2
   refine Zai (id:=90) (caps:=[]) rfl (Zp (v:=.n d) rfl ZK) ca'2 ?_
   have hO'3:=hO'2.call hW'2 rfl
   refine Zg (za (t:=t) (v:=.b t1) rfl b'2 (Eq.trans (b:=V.b x1) rfl (congrArg V.b (Option.some.inj hp)))) (Zc ?_)
   exact ⟨hO'3.pick [] rfl (by decide),rfl⟩
  ·skip
   refine Zw rfl b'2 (Zw rfl b'2 (Zg (ZU (t:=t) (v:=.b t1) rfl b'2 (Eq.trans (b:=V.b false) rfl (congrArg V.b (Option.some.inj hp)))) (Zc ?_)))
   exact ⟨hO'2.pick [] rfl (by decide),rfl⟩
 rintro frg'2 k'4 ⟨hO'4,g'2_18⟩
 refine Zd (.b t1) g'2_18 (Zc (Zb (zL (zf (zl (n:=6) (v:=.b t1) rfl ZD) ?_))))
 cases hp
 exact ⟨rfl,(hO'4.pick [] rfl (by decide))⟩

end Mu
