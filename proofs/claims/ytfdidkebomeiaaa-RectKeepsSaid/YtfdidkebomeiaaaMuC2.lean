/- The code comes to what was worked out. -/
import Derived.Test.YtfdidkebomeiaaaMuDf
import Derived.Test.YtfdidkebomeiaaaMuPa
import Derived.Test.YtfdidkebomeiaaaMuC1
set_option linter.unusedVariables false
set_option linter.unnecessarySimpa false
set_option linter.unusedSimpArgs false
set_option maxHeartbeats 2000000
set_option maxRecDepth 10000
namespace Mu
open Go (IntKind BinOp UnOp)
theorem Za6.ok {h:Hp} {g:ZQ} {v:Int} {d:Int} {r_g:Nat} {v_g_cells:V} {w_g:Bool} (b_g:h.m r_g = some (.cells w_g [v_g_cells])) (s_g_cells:Sl Ze h v_g_cells g.cells) {r:Int × Int × Bool} (hp:Za6 g v d = some r) :
  ∃ u k',Is G 54 [.p r_g 0,.n v,.n d] h u k'∧V.tu [.n r.1,.n r.2.1,.b r.2.2] = u∧Own (fun r=>r < h.n) h k' []:=by
 refine WC.is (Za7 Zei ?_)
 unfold Za6 at hp
 let B:Nat→Prop:=(fun r=>r < h.n)
 have hO:Own B h h []:=Own.start0 h
 refine Zi (Zl (Zd (.n 0) rfl (Zd (.n 0) rfl (Zd (.b false) rfl (Zc (Zb (Zi ?_)))))))
 refine Zi (Zl (Zd (.p r_g 0) rfl (Zd (.n v) rfl (Zd (.n d) rfl ?_))))
 obtain ⟨x,hx'1,hp⟩:=Zq hp
 obtain ⟨u'1,k'1,ca'1,rfl,hW'1⟩:=ZaU.ok (h:=h)  (hO.rdB0 (RdB.of b_g)).choose_spec (hO.rd0 s_g_cells.rd) hx'1
 refine Zai (id:=75) (caps:=[]) rfl (Zp (v:=.p r_g 0) rfl (Zp (v:=.n v) rfl (Zp (v:=.n d) rfl ZK))) ca'1 ?_
 have hO'1:=hO.call hW'1 rfl
 refine Zg (Zcp (t:=x) rfl) (Zd (.b (!x)) rfl ?_)
 obtain ⟨t,hv'1,hp⟩:=Zq hp
 refine Zaa 12 (fun fr' k'=>k'1 = k'∧fr' 26 = .b t∧fr' 0 = .p r_g 0∧fr' 1 = .n v∧fr' 2 = .n d) ?_ ?_
 ·clear hp; rcases Zt hv'1 with ⟨b'1,hp⟩ | ⟨b'1,hp⟩
  ·skip
   refine Zw rfl b'1 (Zw rfl b'1 (Zw rfl b'1 (Zw rfl b'1 (Zw rfl b'1 (Zw rfl b'1 (Zw rfl b'1 (Zw rfl b'1 ?_)))))))
   refine Zw rfl b'1 (Zw rfl b'1 (Zw rfl b'1 (Zg (za (t:=(!x)) (v:=.b t) rfl b'1 (Eq.trans (b:=V.b true) rfl (congrArg V.b (Option.some.inj hp)))) (Zc ?_))))
   exact ⟨rfl,rfl,rfl,rfl,rfl⟩
  ·skip
   refine Z7 rfl b'1 (Zd (.p r_g 0) rfl (Z7 rfl b'1 (Zg (ZdA (r:=r_g) (o:=0) rfl) (Z7 rfl b'1 (Zg (Zbv (r:=r_g) (o:=0) (o':=0) rfl rfl) (Z7 rfl b'1 (Zg (ZaK (cs:=[v_g_cells]) (v:=v_g_cells) (hO'1.rdB0 (RdB.of b_g)).choose_spec rfl rfl) ?_)))))))
   refine Z7 rfl b'1 (Zd (.n v) rfl (Z7 rfl b'1 (Zd (.n d) rfl (Z7 rfl b'1 ?_))))
   obtain ⟨c'1,hp⟩:=Zn hp
   refine Zg (zt (E:=Ze) (z:=v) (hO'1.rd0 s_g_cells.rd) rfl rfl c'1) (Z7 rfl b'1 (Zg (ZaO (off':=0) (off2:=0) (hO'1.rd0 s_g_cells.rd) (Zj c'1) rfl rfl) (Z7 rfl b'1 ?_)))
   obtain ⟨c'2,hp⟩:=Zn hp
   refine Zg (ZaZ (off:=0) (off2:=(0 + d.toNat * 1)) (z:=d) (hO'1.rd0 s_g_cells.rd) (Zj c'1) rfl rfl c'2 rfl) (Z7 rfl b'1 (Zg (zX (w:=.n (((gi g.cells v.toNat).Next).get d)) (hO'1.rd0 s_g_cells.rd) rfl (Zj c'1) (zr c'2)) (Z7 rfl b'1 (Zg (ZbE (a:=(((gi g.cells v.toNat).Next).get d)) (b:=(-1)) rfl rfl) (Zg (ZU (t:=(!x)) (v:=.b t) rfl b'1 (Eq.trans (b:=V.b (decide (((gi g.cells v.toNat).Next).get d = (-1)))) rfl (congrArg V.b (Option.some.inj hp)))) (Zc ?_))))))
   exact ⟨rfl,rfl,rfl,rfl,rfl⟩
 rintro frg'1 _ ⟨rfl,g'1_26,g'1_0,g'1_1,g'1_2⟩
 refine Zc (Zb ?_)
 rcases Zt hp with ⟨b'2,hp⟩ | ⟨b'2,hp⟩
 ·refine zB (t:=t) g'1_26 b'2 ?_
  refine Zi (Zl (Zd (.n 0) rfl (Zd (.n 0) rfl (Zd (.b false) rfl (Zc (Zb (zL ?_)))))))
  refine zh (zf (zl (n:=6) (v:=.n 0) rfl (zl (n:=7) (v:=.n 0) rfl (zl (n:=8) (v:=.b false) rfl ZD))) ?_)
  cases hp
  exact ⟨rfl,(hO'1.pick [] rfl (by decide))⟩
 ·refine zz (t:=t) g'1_26 b'2 ?_
  refine zC (Zb (Zi (ZgZ ?_)))
  have hW:=hO'1.bump 23
  have hO'2:=hW
  refine Zah (.p r_g 0) g'1_0 (ZS rfl (ZdA (r:=r_g) (o:=0) rfl) (ZS rfl (Zbv (r:=r_g) (o:=0) (o':=0) rfl rfl) (ZS rfl (ZaK (cs:=[v_g_cells]) (v:=v_g_cells) (hO'2.rdB0 (RdB.of b_g)).choose_spec rfl rfl) (Zah (.n v) g'1_1 (Zah (.n d) g'1_2 ?_)))))
  obtain ⟨c'3,hp⟩:=Zn hp
  refine ZS rfl (zt (E:=Ze) (z:=v) (hO'2.rd0 s_g_cells.rd) rfl rfl c'3) (ZS rfl (ZaO (off':=0) (off2:=0) (hO'2.rd0 s_g_cells.rd) (Zj c'3) rfl rfl) ?_)
  obtain ⟨c'4,hp⟩:=Zn hp
  refine ZS rfl (ZaZ (off:=0) (off2:=(0 + d.toNat * 1)) (z:=d) (hO'2.rd0 s_g_cells.rd) (Zj c'3) rfl rfl c'4 rfl) (ZS rfl (zX (w:=.n (((gi g.cells v.toNat).Next).get d)) (hO'2.rd0 s_g_cells.rd) rfl (Zj c'3) (zr c'4)) (Zah (.p r_g 0) g'1_0 (ZS rfl (ZdA (r:=r_g) (o:=0) rfl) (ZS rfl (Zbv (r:=r_g) (o:=0) (o':=0) rfl rfl) (ZS rfl (ZaK (cs:=[v_g_cells]) (v:=v_g_cells) (hO'2.rdB0 (RdB.of b_g)).choose_spec rfl rfl) (Zah (.n v) g'1_1 (Zah (.n d) g'1_2 ?_)))))))
  refine ZS rfl (zt (E:=Ze) (z:=v) (hO'2.rd0 s_g_cells.rd) rfl rfl c'3) (ZS rfl (ZaO (off':=0) (off2:=4) (hO'2.rd0 s_g_cells.rd) (Zj c'3) rfl rfl) (ZS rfl (ZaZ (off:=4) (off2:=(4 + d.toNat * 1)) (z:=d) (hO'2.rd0 s_g_cells.rd) (Zj c'3) rfl rfl c'4 rfl) (ZS rfl (zX (w:=.n (((gi g.cells v.toNat).Owner).get d)) (hO'2.rd0 s_g_cells.rd) rfl (Zj c'3) (Zbo c'4)) (Zah (.n (((gi g.cells v.toNat).Next).get d)) rfl (Zah (.n (((gi g.cells v.toNat).Owner).get d)) rfl (Zah (.b true) rfl (Zaj ?_)))))))
  refine Zb (zL (zf (zl (n:=6) (v:=.n (((gi g.cells v.toNat).Next).get d)) rfl (zl (n:=7) (v:=.n (((gi g.cells v.toNat).Owner).get d)) rfl (zl (n:=8) (v:=.b true) rfl ZD))) ?_))
  cases hp
  exact ⟨rfl,(hO'2.pick [] rfl (by decide))⟩

theorem ZcN.ok {h:Hp}    {r:Za} (hp:ZcN  = some r) :
  ∃ u k',Is G 74 [] h u k'∧V.ag (Ze.c r) = u∧Own (fun r=>r < h.n) h k' []:=by
 refine WC.is (Za7 Zfp ?_)
 unfold ZcN at hp
 let B:Nat→Prop:=(fun r=>r < h.n)
 have hO:Own B h h []:=Own.start0 h
 refine Zi (Zl (Za0 (hO.alloc (cs:=Ze.c (⟨⟨0,0,0,0⟩,⟨0,0,0,0⟩⟩:Za)) hO.fr) ?_))
 rintro _ k'1 ⟨r'1,rfl,n'1,f'1,hW⟩
 have hO'1:=hW
 refine Zc (Zb (Zi (Zl (Zg (Zdo (cs:=Zbl.c (⟨(-1),(-1),(-1),(-1)⟩:A4 Int)) (by rw [(Zae (v:=.n (-1)) rfl (Zae (v:=.n (-1)) rfl (Zae (v:=.n (-1)) rfl (Zae (v:=.n (-1)) rfl Zb3))))]; rfl)) (Zg (Zdo (cs:=Ze.c (⟨(⟨(-1),(-1),(-1),(-1)⟩:A4 Int),(⟨0,0,0,0⟩:A4 Int)⟩:Za)) (by rw [(Zae (v:=.ag (Zbl.c (⟨(-1),(-1),(-1),(-1)⟩:A4 Int))) rfl Zb3)]; rfl)) (Za0 (hO'1.stb (ws:=Ze.c (⟨(⟨(-1),(-1),(-1),(-1)⟩:A4 Int),(⟨0,0,0,0⟩:A4 Int)⟩:Za)) (cs':=Ze.c (⟨(⟨(-1),(-1),(-1),(-1)⟩:A4 Int),(⟨0,0,0,0⟩:A4 Int)⟩:Za)) (v:=.ag (Ze.c (⟨(⟨(-1),(-1),(-1),(-1)⟩:A4 Int),(⟨0,0,0,0⟩:A4 Int)⟩:Za))) 0 rfl rfl rfl rfl ⟨rfl,Nat.le_of_ble_eq_true rfl,rfl⟩ rfl) ?_))))))
 rintro _ k'2 ⟨rfl,f'2,m'1,hW⟩
 have hO'2:=hW
 refine Zc (Zb (zL (zf (ZjD (n:=0) (v:=.ag (Ze.c (⟨(⟨(-1),(-1),(-1),(-1)⟩:A4 Int),(⟨0,0,0,0⟩:A4 Int)⟩:Za))) (r:=r'1) rfl (hO'2.box 0 rfl) rfl ZD) ?_)))
 cases hp
 exact ⟨rfl,(hO'2.pick [] rfl (by decide))⟩

theorem Zbz.ok {h:Hp} {g:ZQ} {r_g:Nat} {v_g_cells:V} (H:Own (Bm h [ZaD r_g [v_g_cells],eSl Ze v_g_cells g.cells]) h h [ZaD r_g [v_g_cells],eSl Ze v_g_cells g.cells]) {r:Int × Int × ZQ} (hp:Zbz g = some r) :
  ∃ u k',Is G 50 [.p r_g 0] h u k'∧∃ (v'1:V),V.tu [.n r.1,.n r.2.1] = u∧Own (Bm h [ZaD r_g [v_g_cells],eSl Ze v_g_cells g.cells]) h k' [ZaD r_g [v'1],eSl Ze v'1 r.2.2.cells]:=by
 refine WC.is (Za7 Zex ?_)
 unfold Zbz at hp
 let B:Nat→Prop:=(Bm h [ZaD r_g [v_g_cells],eSl Ze v_g_cells g.cells])
 have hO:Own B h h [ZaD r_g [v_g_cells],eSl Ze v_g_cells g.cells]:=H
 refine Zi (Zl (Zd (.n 0) rfl (Zd (.n 0) rfl (Zc (Zb (Zi (Zay ?_)))))))
 refine Zi (Zl (Zd (.p r_g 0) rfl (Zg (ZiK rfl rfl) (Zd (.b false) rfl (Zc (Zb (zz (t:=false) rfl rfl ?_)))))))
 refine Zi (Zl (Zd (.p r_g 0) rfl ?_))
 obtain ⟨x,hx'1,hp⟩:=Zq hp
 obtain ⟨u'1,k'1,ca'1,rfl,hW'1⟩:=Za8.ok (h:=h)  (hO.box 0 rfl) (hO.sl 1 rfl) hx'1
 refine Zai (id:=55) (caps:=[]) rfl (Zp (v:=.p r_g 0) rfl ZK) ca'1 ?_
 have hO'1:=hO.call hW'1 rfl
 refine Zg (ZbE (a:=x) (b:=4096) rfl rfl) (Zd (.b (decide (x = 4096))) rfl (Zc (Zb ?_)))
 rcases Zt hp with ⟨b'1,hp⟩ | ⟨b'1,hp⟩
 ·refine zB (t:=(decide (x = 4096))) rfl b'1 ?_
  refine Zi (Zl (Zd (.n 0) rfl (Zd (.n 6) rfl (Zc (Zb (zL (Zbd ?_)))))))
  refine zh (zf (zl (n:=2) (v:=.n 0) rfl (zl (n:=3) (v:=.n 6) rfl ZD)) ?_)
  cases hp
  exact ⟨v_g_cells,rfl,(hO'1.pick [0,1] rfl (by decide))⟩
 ·refine zz (t:=(decide (x = 4096))) rfl b'1 ?_
  refine zC (Zax (Zb (Zi (Zh8 ?_))))
  have hW:=hO'1.bump 11
  have fr'1:=Fresh.start k'1 11
  have nb'1:∀ {i:Nat},h.n≤k'1.n + i:=Nat.le_trans hO'1.n (Nat.le_add_right _ _)
  have hO'2:=hW
  refine ZbD (.p r_g 0) rfl (ZbD (.p r_g 0) rfl (Zar (ZdA (r:=r_g) (o:=0) rfl) (Zar (Zbv (r:=r_g) (o:=0) (o':=0) rfl rfl) (Zar (ZaK (cs:=[v_g_cells]) (v:=v_g_cells) (hO'2.box 0 rfl) rfl rfl) ?_))))
  obtain ⟨x1,hx'2,hp⟩:=Zq hp
  obtain ⟨u'2,k'3,ca'2,rfl,hW'2⟩:=ZcN.ok (h:=(k'1.bump 11))   hx'2
  refine Zkx (id:=74) (caps:=[]) rfl ZK ca'2 ?_
  have fr'2:=fr'1.call hW'2
  have hO'3:=hO'2.call hW'2 rfl
  refine ZfM (hO'3.bsl (E:=Ze) (l:=[x1]) ⟨fr'2.m 6 (by decide) (by decide),nb'1⟩ (by rw [(Zae (v:=.ag (Ze.c x1)) rfl Zb3)]; rfl) rfl) ?_
  rintro v'2 k'4 z'1 ⟨r'1,f'1,hW⟩
  have fr'3:=fr'2.kept f'1 (by decide)
  have hO'4:=hW
  obtain ⟨c'1,hp⟩:=Zn hp
  refine ZfM (hO'4.app (E:=Ze) (bytes:=64) 1 ⟨fr'3.m 7 (by decide) (by decide),nb'1⟩ rfl (hO'4.sl 2 rfl) rfl rfl (fun _=>rfl) c'1 (by decide)) ?_
  rintro v'3 k'5 z'2 ⟨f'2,hW⟩
  have fr'4:=fr'3.kept f'2 (by decide)
  have hO'5:=hW
  refine Zar (ZdA (r:=r_g) (o:=0) rfl) (Zar (Zbv (r:=r_g) (o:=0) (o':=0) rfl rfl) (ZfM (hO'5.stb (ws:=[v'3]) (cs':=[v'3]) (v:=v'3) 0 rfl rfl rfl (hO'5.sl 1 rfl).cells ⟨rfl,Nat.le_of_ble_eq_true rfl,(all_cons (hO'5.sl 1 rfl).oneV rfl)⟩ rfl) ?_))
  rintro _ k'6 z'3 ⟨rfl,f'3,m'1,hW⟩
  have fr'5:=fr'4.kept f'3 (by decide)
  have hO'6:=hW
  refine Zdn ?_
  refine And.intro ?_ ?_
  ·intro q hq
   simp only [List.mem_cons,List.not_mem_nil,or_false] at hq
   rcases hq with rfl | rfl
   ·refine ZkX rfl rfl ?_
    ·exact (fun r hm hc=>hc (hW'2.base r (Nat.lt_of_lt_of_le (hO'1.ltAt 0 rfl _ (tch (v:=V.p r_g 0) (Zdj hm) rfl)) (Nat.le_trans (Nat.le_add_right _ _) fr'1.n))))
   ·refine Zct ?_ ?_
    ·exact (fun h=>nomatch h)
    ·exact (fun _ hm=>Nat.lt_irrefl _ (Nat.lt_of_lt_of_le (hO'1.ltAt 0 rfl _ (tch (v:=V.p r_g 0) (Zdj hm) rfl)) (Nat.le_add_right _ _)))
  refine Zb (Zi (Zl (Zd (.p r_g 0) rfl ?_)))
  obtain ⟨x2,hx'3,hp⟩:=Zq hp
  obtain ⟨u'3,k'7,ca'3,rfl,hW'3⟩:=Za8.ok (h:=k'6)  (hO'6.box 0 rfl) (hO'6.sl 1 rfl) hx'3
  refine Zai (id:=55) (caps:=[]) rfl (Zp (v:=.p r_g 0) rfl ZK) ca'3 ?_
  have hO'7:=hO'6.call hW'3 rfl
  obtain ⟨c'2,hp⟩:=Zn hp
  refine Zg (Znl (a:=x2) (b:=1) rfl rfl c'2) (Zd (.n (x2 - 1)) rfl (Zd (.n 0) rfl (Zc (Zb (zL (zf (zl (n:=2) (v:=.n (x2 - 1)) rfl (zl (n:=3) (v:=.n 0) rfl ZD)) ?_))))))
  cases hp
  exact ⟨v'3,rfl,(hO'7.pick [0,1] rfl (by decide))⟩

theorem Zbf.ok {h:Hp} {g:ZQ} {v:Int} {d:Int} {w:Int} {owner:Int} {r_g:Nat} {v_g_cells:V} (H:Own (Bm h [ZaD r_g [v_g_cells],eSl Ze v_g_cells g.cells]) h h [ZaD r_g [v_g_cells],eSl Ze v_g_cells g.cells]) {r:ZQ} (hp:Zbf g v d w owner = some r) :
  ∃ u k',Is G 76 [.p r_g 0,.n v,.n d,.n w,.n owner] h u k'∧∃ (v'1:V),V.tu [] = u∧Own (Bm h [ZaD r_g [v_g_cells],eSl Ze v_g_cells g.cells]) h k' [ZaD r_g [v'1],eSl Ze v'1 r.cells]:=by
 refine WC.is (Za7 Zez ?_)
 unfold Zbf at hp
 let B:Nat→Prop:=(Bm h [ZaD r_g [v_g_cells],eSl Ze v_g_cells g.cells])
 have hO:Own B h h [ZaD r_g [v_g_cells],eSl Ze v_g_cells g.cells]:=H
 refine Zi (Zl (Zd (.n d) rfl ?_))
 obtain ⟨x,hx'1,hp⟩:=Zq hp
 obtain ⟨u'1,k'1,ca'1,rfl,hW'1⟩:=ZaB.ok (h:=h)   hx'1
 refine Zai (id:=77) (caps:=[]) rfl (Zp (v:=.n d) rfl (Zp (v:=.n 2) rfl ZK)) ca'1 ?_
 have hO'1:=hO.call hW'1 rfl
 refine Zd (.n x) rfl (Zc (Zb (Zi (Zh8 ?_))))
 have hW:=hO'1.bump 22
 have fr'1:=Fresh.start k'1 22
 have nb'1:∀ {i:Nat},h.n≤k'1.n + i:=Nat.le_trans hO'1.n (Nat.le_add_right _ _)
 have hO'2:=hW
 refine ZbD (.p r_g 0) rfl (Zar (ZdA (r:=r_g) (o:=0) rfl) (Zar (Zbv (r:=r_g) (o:=0) (o':=0) rfl rfl) (Zar (ZaK (cs:=[v_g_cells]) (v:=v_g_cells) (hO'2.box 0 rfl) rfl rfl) (ZbD (.n v) rfl (ZbD (.n d) rfl (ZbD (.p r_g 0) rfl (Zar (ZdA (r:=r_g) (o:=0) rfl) ?_)))))))
 refine Zar (Zbv (r:=r_g) (o:=0) (o':=0) rfl rfl) (Zar (ZaK (cs:=[v_g_cells]) (v:=v_g_cells) (hO'2.box 0 rfl) rfl rfl) (ZbD (.n v) rfl (ZbD (.n d) rfl (ZbD (.n w) rfl (ZbD (.n owner) rfl ?_)))))
 obtain ⟨c'1,hp⟩:=Zn hp
 refine Zar (zt (E:=Ze) (z:=v) (hO'2.sl 1 rfl) rfl rfl c'1) (Zar (ZaO (off':=0) (off2:=0) (hO'2.sl 1 rfl) (Zj c'1) rfl rfl) ?_)
 obtain ⟨c'2,hp⟩:=Zn hp
 refine Zar (ZaZ (off:=0) (off2:=(0 + d.toNat * 1)) (z:=d) (hO'2.sl 1 rfl) (Zj c'1) rfl rfl c'2 rfl) (ZfM (hO'2.ste (E:=Ze) (y:=({ gi g.cells v.toNat with Next:=((gi g.cells v.toNat).Next).set d w })) (ws:=[.n w]) 1 rfl rfl (Zj c'1) rfl rfl ⟨rfl,(by have:=c'2; exact (show 0 + d.toNat * 1 + 1≤8 by omega)),rfl⟩ (Zch c'2)) ?_)
 rintro _ k'3 z'1 ⟨rfl,f'1,m'1,hW⟩
 have fr'2:=fr'1.kept f'1 (by decide)
 have hO'3:=hW
 obtain ⟨c'3,hp⟩:=Zn hp
 refine Zar (zt (E:=Ze) (z:=v) (hO'3.sl 1 rfl:Sl Ze k'3 v_g_cells (g.cells.set v.toNat ({ gi g.cells v.toNat with Next:=((gi g.cells v.toNat).Next).set d w }))) rfl rfl c'3) (Zar (ZaO (off':=0) (off2:=4) (hO'3.sl 1 rfl:Sl Ze k'3 v_g_cells (g.cells.set v.toNat ({ gi g.cells v.toNat with Next:=((gi g.cells v.toNat).Next).set d w }))) (Zj c'3) rfl rfl) (Zar (ZaZ (off:=4) (off2:=(4 + d.toNat * 1)) (z:=d) (hO'3.sl 1 rfl:Sl Ze k'3 v_g_cells (g.cells.set v.toNat ({ gi g.cells v.toNat with Next:=((gi g.cells v.toNat).Next).set d w }))) (Zj c'3) rfl rfl c'2 rfl) (ZfM (hO'3.ste (E:=Ze) (y:=({ gi (g.cells.set v.toNat ({ gi g.cells v.toNat with Next:=((gi g.cells v.toNat).Next).set d w })) v.toNat with Owner:=((gi (g.cells.set v.toNat ({ gi g.cells v.toNat with Next:=((gi g.cells v.toNat).Next).set d w })) v.toNat).Owner).set d owner })) (ws:=[.n owner]) 1 rfl rfl (Zj c'3) rfl rfl ⟨rfl,(by have:=c'2; exact (show 4 + d.toNat * 1 + 1≤8 by omega)),rfl⟩ (Zcr c'2)) ?_)))
 rintro _ k'4 z'2 ⟨rfl,f'2,m'2,hW⟩
 have fr'3:=fr'2.kept f'2 (by decide)
 have hO'4:=hW
 refine Zdn ?_
 refine And.intro ?_ ?_
 ·intro q hq
  simp only [List.mem_cons,List.not_mem_nil,or_false] at hq
  rcases hq with rfl
  ·refine Zct ?_ ?_
   ·exact (fun h=>nomatch h)
   ·exact (fun h=>nomatch h)
 refine Zb (Zh8 ?_)
 have hW:=hO'4.bump 22
 have fr'4:=Fresh.start k'4 22
 have nb'2:∀ {i:Nat},h.n≤k'4.n + i:=Nat.le_trans hO'4.n (Nat.le_add_right _ _)
 have hO'5:=hW
 refine ZbD (.p r_g 0) rfl (Zar (ZdA (r:=r_g) (o:=0) rfl) (Zar (Zbv (r:=r_g) (o:=0) (o':=0) rfl rfl) (Zar (ZaK (cs:=[v_g_cells]) (v:=v_g_cells) (hO'5.box 0 rfl) rfl rfl) (ZbD (.n w) rfl (ZbD (.n x) rfl (ZbD (.p r_g 0) rfl (Zar (ZdA (r:=r_g) (o:=0) rfl) ?_)))))))
 refine Zar (Zbv (r:=r_g) (o:=0) (o':=0) rfl rfl) (Zar (ZaK (cs:=[v_g_cells]) (v:=v_g_cells) (hO'5.box 0 rfl) rfl rfl) (ZbD (.n w) rfl (ZbD (.n x) rfl (ZbD (.n v) rfl (ZbD (.n owner) rfl ?_)))))
 obtain ⟨c'4,hp⟩:=Zn hp
 refine Zar (zt (E:=Ze) (z:=w) (hO'5.sl 1 rfl:Sl Ze (k'4.bump 22) v_g_cells ((g.cells.set v.toNat ({ gi g.cells v.toNat with Next:=((gi g.cells v.toNat).Next).set d w })).set v.toNat ({ gi (g.cells.set v.toNat ({ gi g.cells v.toNat with Next:=((gi g.cells v.toNat).Next).set d w })) v.toNat with Owner:=((gi (g.cells.set v.toNat ({ gi g.cells v.toNat with Next:=((gi g.cells v.toNat).Next).set d w })) v.toNat).Owner).set d owner }))) rfl rfl c'4) (Zar (ZaO (off':=0) (off2:=0) (hO'5.sl 1 rfl:Sl Ze (k'4.bump 22) v_g_cells ((g.cells.set v.toNat ({ gi g.cells v.toNat with Next:=((gi g.cells v.toNat).Next).set d w })).set v.toNat ({ gi (g.cells.set v.toNat ({ gi g.cells v.toNat with Next:=((gi g.cells v.toNat).Next).set d w })) v.toNat with Owner:=((gi (g.cells.set v.toNat ({ gi g.cells v.toNat with Next:=((gi g.cells v.toNat).Next).set d w })) v.toNat).Owner).set d owner }))) (Zj c'4) rfl rfl) ?_)
 obtain ⟨c'5,hp⟩:=Zn hp
 refine Zar (ZaZ (off:=0) (off2:=(0 + x.toNat * 1)) (z:=x) (hO'5.sl 1 rfl:Sl Ze (k'4.bump 22) v_g_cells ((g.cells.set v.toNat ({ gi g.cells v.toNat with Next:=((gi g.cells v.toNat).Next).set d w })).set v.toNat ({ gi (g.cells.set v.toNat ({ gi g.cells v.toNat with Next:=((gi g.cells v.toNat).Next).set d w })) v.toNat with Owner:=((gi (g.cells.set v.toNat ({ gi g.cells v.toNat with Next:=((gi g.cells v.toNat).Next).set d w })) v.toNat).Owner).set d owner }))) (Zj c'4) rfl rfl c'5 rfl) (ZfM (hO'5.ste (E:=Ze) (y:=({ gi ((g.cells.set v.toNat ({ gi g.cells v.toNat with Next:=((gi g.cells v.toNat).Next).set d w })).set v.toNat ({ gi (g.cells.set v.toNat ({ gi g.cells v.toNat with Next:=((gi g.cells v.toNat).Next).set d w })) v.toNat with Owner:=((gi (g.cells.set v.toNat ({ gi g.cells v.toNat with Next:=((gi g.cells v.toNat).Next).set d w })) v.toNat).Owner).set d owner })) w.toNat with Next:=((gi ((g.cells.set v.toNat ({ gi g.cells v.toNat with Next:=((gi g.cells v.toNat).Next).set d w })).set v.toNat ({ gi (g.cells.set v.toNat ({ gi g.cells v.toNat with Next:=((gi g.cells v.toNat).Next).set d w })) v.toNat with Owner:=((gi (g.cells.set v.toNat ({ gi g.cells v.toNat with Next:=((gi g.cells v.toNat).Next).set d w })) v.toNat).Owner).set d owner })) w.toNat).Next).set x v })) (ws:=[.n v]) 1 rfl rfl (Zj c'4) rfl rfl ⟨rfl,(by have:=c'5; exact (show 0 + x.toNat * 1 + 1≤8 by omega)),rfl⟩ (Zch c'5)) ?_)
 rintro _ k'6 z'3 ⟨rfl,f'3,m'3,hW⟩
 have fr'5:=fr'4.kept f'3 (by decide)
 have hO'6:=hW
 obtain ⟨c'6,hp⟩:=Zn hp
 refine Zar (zt (E:=Ze) (z:=w) (hO'6.sl 1 rfl:Sl Ze k'6 v_g_cells (((g.cells.set v.toNat ({ gi g.cells v.toNat with Next:=((gi g.cells v.toNat).Next).set d w })).set v.toNat ({ gi (g.cells.set v.toNat ({ gi g.cells v.toNat with Next:=((gi g.cells v.toNat).Next).set d w })) v.toNat with Owner:=((gi (g.cells.set v.toNat ({ gi g.cells v.toNat with Next:=((gi g.cells v.toNat).Next).set d w })) v.toNat).Owner).set d owner })).set w.toNat ({ gi ((g.cells.set v.toNat ({ gi g.cells v.toNat with Next:=((gi g.cells v.toNat).Next).set d w })).set v.toNat ({ gi (g.cells.set v.toNat ({ gi g.cells v.toNat with Next:=((gi g.cells v.toNat).Next).set d w })) v.toNat with Owner:=((gi (g.cells.set v.toNat ({ gi g.cells v.toNat with Next:=((gi g.cells v.toNat).Next).set d w })) v.toNat).Owner).set d owner })) w.toNat with Next:=((gi ((g.cells.set v.toNat ({ gi g.cells v.toNat with Next:=((gi g.cells v.toNat).Next).set d w })).set v.toNat ({ gi (g.cells.set v.toNat ({ gi g.cells v.toNat with Next:=((gi g.cells v.toNat).Next).set d w })) v.toNat with Owner:=((gi (g.cells.set v.toNat ({ gi g.cells v.toNat with Next:=((gi g.cells v.toNat).Next).set d w })) v.toNat).Owner).set d owner })) w.toNat).Next).set x v }))) rfl rfl c'6) (Zar (ZaO (off':=0) (off2:=4) (hO'6.sl 1 rfl:Sl Ze k'6 v_g_cells (((g.cells.set v.toNat ({ gi g.cells v.toNat with Next:=((gi g.cells v.toNat).Next).set d w })).set v.toNat ({ gi (g.cells.set v.toNat ({ gi g.cells v.toNat with Next:=((gi g.cells v.toNat).Next).set d w })) v.toNat with Owner:=((gi (g.cells.set v.toNat ({ gi g.cells v.toNat with Next:=((gi g.cells v.toNat).Next).set d w })) v.toNat).Owner).set d owner })).set w.toNat ({ gi ((g.cells.set v.toNat ({ gi g.cells v.toNat with Next:=((gi g.cells v.toNat).Next).set d w })).set v.toNat ({ gi (g.cells.set v.toNat ({ gi g.cells v.toNat with Next:=((gi g.cells v.toNat).Next).set d w })) v.toNat with Owner:=((gi (g.cells.set v.toNat ({ gi g.cells v.toNat with Next:=((gi g.cells v.toNat).Next).set d w })) v.toNat).Owner).set d owner })) w.toNat with Next:=((gi ((g.cells.set v.toNat ({ gi g.cells v.toNat with Next:=((gi g.cells v.toNat).Next).set d w })).set v.toNat ({ gi (g.cells.set v.toNat ({ gi g.cells v.toNat with Next:=((gi g.cells v.toNat).Next).set d w })) v.toNat with Owner:=((gi (g.cells.set v.toNat ({ gi g.cells v.toNat with Next:=((gi g.cells v.toNat).Next).set d w })) v.toNat).Owner).set d owner })) w.toNat).Next).set x v }))) (Zj c'6) rfl rfl) (Zar (ZaZ (off:=4) (off2:=(4 + x.toNat * 1)) (z:=x) (hO'6.sl 1 rfl:Sl Ze k'6 v_g_cells (((g.cells.set v.toNat ({ gi g.cells v.toNat with Next:=((gi g.cells v.toNat).Next).set d w })).set v.toNat ({ gi (g.cells.set v.toNat ({ gi g.cells v.toNat with Next:=((gi g.cells v.toNat).Next).set d w })) v.toNat with Owner:=((gi (g.cells.set v.toNat ({ gi g.cells v.toNat with Next:=((gi g.cells v.toNat).Next).set d w })) v.toNat).Owner).set d owner })).set w.toNat ({ gi ((g.cells.set v.toNat ({ gi g.cells v.toNat with Next:=((gi g.cells v.toNat).Next).set d w })).set v.toNat ({ gi (g.cells.set v.toNat ({ gi g.cells v.toNat with Next:=((gi g.cells v.toNat).Next).set d w })) v.toNat with Owner:=((gi (g.cells.set v.toNat ({ gi g.cells v.toNat with Next:=((gi g.cells v.toNat).Next).set d w })) v.toNat).Owner).set d owner })) w.toNat with Next:=((gi ((g.cells.set v.toNat ({ gi g.cells v.toNat with Next:=((gi g.cells v.toNat).Next).set d w })).set v.toNat ({ gi (g.cells.set v.toNat ({ gi g.cells v.toNat with Next:=((gi g.cells v.toNat).Next).set d w })) v.toNat with Owner:=((gi (g.cells.set v.toNat ({ gi g.cells v.toNat with Next:=((gi g.cells v.toNat).Next).set d w })) v.toNat).Owner).set d owner })) w.toNat).Next).set x v }))) (Zj c'6) rfl rfl c'5 rfl) (ZfM (hO'6.ste (E:=Ze) (y:=({ gi (((g.cells.set v.toNat ({ gi g.cells v.toNat with Next:=((gi g.cells v.toNat).Next).set d w })).set v.toNat ({ gi (g.cells.set v.toNat ({ gi g.cells v.toNat with Next:=((gi g.cells v.toNat).Next).set d w })) v.toNat with Owner:=((gi (g.cells.set v.toNat ({ gi g.cells v.toNat with Next:=((gi g.cells v.toNat).Next).set d w })) v.toNat).Owner).set d owner })).set w.toNat ({ gi ((g.cells.set v.toNat ({ gi g.cells v.toNat with Next:=((gi g.cells v.toNat).Next).set d w })).set v.toNat ({ gi (g.cells.set v.toNat ({ gi g.cells v.toNat with Next:=((gi g.cells v.toNat).Next).set d w })) v.toNat with Owner:=((gi (g.cells.set v.toNat ({ gi g.cells v.toNat with Next:=((gi g.cells v.toNat).Next).set d w })) v.toNat).Owner).set d owner })) w.toNat with Next:=((gi ((g.cells.set v.toNat ({ gi g.cells v.toNat with Next:=((gi g.cells v.toNat).Next).set d w })).set v.toNat ({ gi (g.cells.set v.toNat ({ gi g.cells v.toNat with Next:=((gi g.cells v.toNat).Next).set d w })) v.toNat with Owner:=((gi (g.cells.set v.toNat ({ gi g.cells v.toNat with Next:=((gi g.cells v.toNat).Next).set d w })) v.toNat).Owner).set d owner })) w.toNat).Next).set x v })) w.toNat with Owner:=((gi (((g.cells.set v.toNat ({ gi g.cells v.toNat with Next:=((gi g.cells v.toNat).Next).set d w })).set v.toNat ({ gi (g.cells.set v.toNat ({ gi g.cells v.toNat with Next:=((gi g.cells v.toNat).Next).set d w })) v.toNat with Owner:=((gi (g.cells.set v.toNat ({ gi g.cells v.toNat with Next:=((gi g.cells v.toNat).Next).set d w })) v.toNat).Owner).set d owner })).set w.toNat ({ gi ((g.cells.set v.toNat ({ gi g.cells v.toNat with Next:=((gi g.cells v.toNat).Next).set d w })).set v.toNat ({ gi (g.cells.set v.toNat ({ gi g.cells v.toNat with Next:=((gi g.cells v.toNat).Next).set d w })) v.toNat with Owner:=((gi (g.cells.set v.toNat ({ gi g.cells v.toNat with Next:=((gi g.cells v.toNat).Next).set d w })) v.toNat).Owner).set d owner })) w.toNat with Next:=((gi ((g.cells.set v.toNat ({ gi g.cells v.toNat with Next:=((gi g.cells v.toNat).Next).set d w })).set v.toNat ({ gi (g.cells.set v.toNat ({ gi g.cells v.toNat with Next:=((gi g.cells v.toNat).Next).set d w })) v.toNat with Owner:=((gi (g.cells.set v.toNat ({ gi g.cells v.toNat with Next:=((gi g.cells v.toNat).Next).set d w })) v.toNat).Owner).set d owner })) w.toNat).Next).set x v })) w.toNat).Owner).set x owner })) (ws:=[.n owner]) 1 rfl rfl (Zj c'6) rfl rfl ⟨rfl,(by have:=c'5; exact (show 4 + x.toNat * 1 + 1≤8 by omega)),rfl⟩ (Zcr c'5)) ?_)))
 rintro _ k'7 z'4 ⟨rfl,f'4,m'4,hW⟩
 have fr'6:=fr'5.kept f'4 (by decide)
 have hO'7:=hW
 refine Zdn ?_
 refine And.intro ?_ ?_
 ·intro q hq
  simp only [List.mem_cons,List.not_mem_nil,or_false] at hq
  rcases hq with rfl
  ·refine Zct ?_ ?_
   ·exact (fun h=>nomatch h)
   ·exact (fun h=>nomatch h)
 refine Zni ZD ?_
 cases hp
 exact ⟨v_g_cells,rfl,(hO'7.pick [0,1] rfl (by decide))⟩

theorem zM.ok {h:Hp} {g:ZQ} {v:Int} {d:Int} {w:Int} {owner:Int} {r_g:Nat} {v_g_cells:V} (H:Own (Bm h [ZaD r_g [v_g_cells],eSl Ze v_g_cells g.cells]) h h [ZaD r_g [v_g_cells],eSl Ze v_g_cells g.cells]) {r:Int × ZQ} (hp:zM g v d w owner = some r) :
  ∃ u k',Is G 52 [.p r_g 0,.n v,.n d,.n w,.n owner] h u k'∧∃ (v'1:V),V.n r.1 = u∧Own (Bm h [ZaD r_g [v_g_cells],eSl Ze v_g_cells g.cells]) h k' [ZaD r_g [v'1],eSl Ze v'1 r.2.cells]:=by
 refine WC.is (Za7 Zeh ?_)
 unfold zM at hp
 let B:Nat→Prop:=(Bm h [ZaD r_g [v_g_cells],eSl Ze v_g_cells g.cells])
 have hO:Own B h h [ZaD r_g [v_g_cells],eSl Ze v_g_cells g.cells]:=H
 refine Zi (Zl (Zd (.n 0) rfl (Zc (Zb (Zi (Zay (Zi ?_)))))))
 refine Zl (Zd (.p r_g 0) rfl (Zg (ZiK rfl rfl) (Zd (.b false) rfl (Zc (Zb (zz (t:=false) rfl rfl (Zi ?_)))))))
 refine Zl (Zd (.p r_g 0) rfl (Zd (.n v) rfl (Zd (.n d) rfl ?_)))
 obtain ⟨x,hx'1,hp⟩:=Zq hp
 obtain ⟨u'1,k'1,ca'1,rfl,hW'1⟩:=ZaU.ok (h:=h)  (hO.box 0 rfl) (hO.sl 1 rfl) hx'1
 refine Zai (id:=75) (caps:=[]) rfl (Zp (v:=.p r_g 0) rfl (Zp (v:=.n v) rfl (Zp (v:=.n d) rfl ZK))) ca'1 ?_
 have hO'1:=hO.call hW'1 rfl
 refine Zg (Zcp (t:=x) rfl) (Zd (.b (!x)) rfl ?_)
 obtain ⟨t,hv'1,hp⟩:=Zq hp
 refine Zaa 6 (fun fr' k'=>Own B h k' [ZaD r_g [v_g_cells],eSl Ze v_g_cells g.cells]∧fr' 26 = .b t∧fr' 0 = .p r_g 0∧fr' 1 = .n v∧fr' 2 = .n d∧fr' 3 = .n w∧fr' 4 = .n owner) ?_ ?_
 ·clear hp; rcases Zt hv'1 with ⟨b'1,hp⟩ | ⟨b'1,hp⟩
  ·skip
   refine Zw rfl b'1 (Zw rfl b'1 (Zw rfl b'1 (Zw rfl b'1 (Zw rfl b'1 (Zg (za (t:=(!x)) (v:=.b t) rfl b'1 (Eq.trans (b:=V.b true) rfl (congrArg V.b (Option.some.inj hp)))) (Zc ?_))))))
   exact ⟨hO'1.pick [0,1] rfl (by decide),rfl,rfl,rfl,rfl,rfl,rfl⟩
  ·skip
   refine Z7 rfl b'1 (Zd (.p r_g 0) rfl (Z7 rfl b'1 (Zd (.n w) rfl (Z7 rfl b'1 (Zd (.n d) rfl (Z7 rfl b'1 ?_))))))
   obtain ⟨x1,hx'2,hp⟩:=Zq hp
   obtain ⟨u'2,k'2,ca'2,rfl,hW'2⟩:=ZaU.ok (h:=k'1)  (hO'1.box 0 rfl) (hO'1.sl 1 rfl) hx'2
   refine Zai (id:=75) (caps:=[]) rfl (Zp (v:=.p r_g 0) rfl (Zp (v:=.n w) rfl (Zp (v:=.n d) rfl ZK))) ca'2 ?_
   have hO'2:=hO'1.call hW'2 rfl
   refine Z7 rfl b'1 (Zg (Zcp (t:=x1) rfl) (Zg (ZU (t:=(!x)) (v:=.b t) rfl b'1 (Eq.trans (b:=V.b (!x1)) rfl (congrArg V.b (Option.some.inj hp)))) (Zc ?_)))
   exact ⟨hO'2.pick [0,1] rfl (by decide),rfl,rfl,rfl,rfl,rfl,rfl⟩
 rintro frg'1 k'3 ⟨hO'3,g'1_26,g'1_0,g'1_1,g'1_2,g'1_3,g'1_4⟩
 refine Zd (.b t) g'1_26 ?_
 refine Zaa 4 (fun fr' k'=>k'3 = k'∧fr' 31 = .b (t || (decide (v = w)))∧fr' 0 = .p r_g 0∧fr' 1 = .n v∧fr' 2 = .n d∧fr' 3 = .n w∧fr' 4 = .n owner) ?_ ?_
 ·rcases bc t with b'2 | b'2
  ·skip
   refine Zw rfl b'2 (Zw rfl b'2 (Zw rfl b'2 (Zg (za (t:=t) (v:=.b (t || (decide (v = w)))) rfl b'2 (Eq.trans (b:=V.b true) rfl (Zbs b'2))) (Zc ?_))))
   exact ⟨rfl,rfl,g'1_0,g'1_1,g'1_2,g'1_3,g'1_4⟩
  ·skip
   refine Z7 rfl b'2 (Zd (.n v) g'1_1 (Z7 rfl b'2 (Zd (.n w) g'1_3 (Z7 rfl b'2 (Zg (ZbE (a:=v) (b:=w) rfl rfl) (Zg (ZU (t:=t) (v:=.b (t || (decide (v = w)))) rfl b'2 (Eq.trans (b:=V.b (decide (v = w))) rfl (Zcc b'2))) (Zc ?_)))))))
   exact ⟨rfl,rfl,g'1_0,g'1_1,g'1_2,g'1_3,g'1_4⟩
 rintro frg'2 _ ⟨rfl,g'2_31,g'2_0,g'2_1,g'2_2,g'2_3,g'2_4⟩
 refine Zd (.b (t || (decide (v = w)))) g'2_31 ?_
 refine Zaa 3 (fun fr' k'=>k'3 = k'∧fr' 35 = .b ((t || (decide (v = w))) || (decide (owner < (-2))))∧fr' 0 = .p r_g 0∧fr' 1 = .n v∧fr' 2 = .n d∧fr' 3 = .n w∧fr' 4 = .n owner) ?_ ?_
 ·rcases bc (t || (decide (v = w))) with b'3 | b'3
  ·skip
   refine Zw rfl b'3 (Zw rfl b'3 (Zg (za (t:=(t || (decide (v = w)))) (v:=.b ((t || (decide (v = w))) || (decide (owner < (-2))))) rfl b'3 (Eq.trans (b:=V.b true) rfl (Zbs b'3))) (Zc ?_)))
   exact ⟨rfl,rfl,g'2_0,g'2_1,g'2_2,g'2_3,g'2_4⟩
  ·skip
   refine Z7 rfl b'3 (Zd (.n owner) g'2_4 (Z7 rfl b'3 (Zg (zO (a:=owner) (b:=(-2)) rfl rfl) (Zg (ZU (t:=(t || (decide (v = w)))) (v:=.b ((t || (decide (v = w))) || (decide (owner < (-2))))) rfl b'3 (Eq.trans (b:=V.b (decide (owner < (-2)))) rfl (Zcc b'3))) (Zc ?_)))))
   exact ⟨rfl,rfl,g'2_0,g'2_1,g'2_2,g'2_3,g'2_4⟩
 rintro frg'3 _ ⟨rfl,g'3_35,g'3_0,g'3_1,g'3_2,g'3_3,g'3_4⟩
 refine Zd (.b ((t || (decide (v = w))) || (decide (owner < (-2))))) g'3_35 (Zc (Zb ?_))
 rcases Zt hp with ⟨b'4,hp⟩ | ⟨b'4,hp⟩
 ·refine zB (t:=((t || (decide (v = w))) || (decide (owner < (-2))))) rfl b'4 ?_
  refine Zi (Zl (Zd (.n 2) rfl (Zc (Zb (zL (Zbd (zh ?_)))))))
  refine zf (zl (n:=10) (v:=.n 2) rfl ZD) ?_
  cases hp
  exact ⟨v_g_cells,rfl,(hO'3.pick [0,1] rfl (by decide))⟩
 ·refine zz (t:=((t || (decide (v = w))) || (decide (owner < (-2))))) rfl b'4 ?_
  refine Zi ?_
  obtain ⟨o'1,ho'1,hp⟩:=Zq hp
  refine W.mono (Q:=fun e fr k=>match (generalizing:=false) o'1 with
    | x2=>e = .normal∧fr 0 = .p r_g 0∧fr 1 = .n v∧fr 2 = .n d∧fr 3 = .n w∧fr 4 = .n owner∧fr 36 = .b x2∧Own B h k [ZaD r_g [v_g_cells],eSl Ze v_g_cells g.cells]) ?_ ?_
  ·clear hp; have hp:=ho'1; clear ho'1
   refine Zh8 ?_
   have hW:=hO'3.bump 26
   have fr'1:=Fresh.start k'3 26
   have nb'1:∀ {i:Nat},h.n≤k'3.n + i:=Nat.le_trans hO'3.n (Nat.le_add_right _ _)
   have hO'5:=hW
   refine ZbD (.p r_g 0) g'3_0 (Zar (ZdA (r:=r_g) (o:=0) rfl) (Zar (Zbv (r:=r_g) (o:=0) (o':=0) rfl rfl) (Zar (ZaK (cs:=[v_g_cells]) (v:=v_g_cells) (hO'5.box 0 rfl) rfl rfl) (ZbD (.n v) g'3_1 (ZbD (.n d) g'3_2 ?_)))))
   obtain ⟨c'1,hp⟩:=Zn hp
   refine Zar (zt (E:=Ze) (z:=v) (hO'5.sl 1 rfl) rfl rfl c'1) (Zar (ZaO (off':=0) (off2:=0) (hO'5.sl 1 rfl) (Zj c'1) rfl rfl) ?_)
   obtain ⟨c'2,hp⟩:=Zn hp
   refine Zar (ZaZ (off:=0) (off2:=(0 + d.toNat * 1)) (z:=d) (hO'5.sl 1 rfl) (Zj c'1) rfl rfl c'2 rfl) (Zar (zX (w:=.n (((gi g.cells v.toNat).Next).get d)) (hO'5.sl 1 rfl) rfl (Zj c'1) (zr c'2)) (Zar (ZbK (a:=(((gi g.cells v.toNat).Next).get d)) (b:=(-1)) rfl rfl) (ZbD (.b (!(decide (((gi g.cells v.toNat).Next).get d = (-1))))) rfl ?_)))
   rcases Zt hp with ⟨b'5,hp⟩ | ⟨b'5,hp⟩
   ·skip
    refine Zat rfl b'5 (Zat rfl b'5 (Zat rfl b'5 (Zat rfl b'5 (Zat rfl b'5 (Zat rfl b'5 (Zat rfl b'5 (Zat rfl b'5 ?_)))))))
    refine Zat rfl b'5 (Zat rfl b'5 (Zat rfl b'5 (Zat rfl b'5 (Zar (za (t:=(!(decide (((gi g.cells v.toNat).Next).get d = (-1))))) (v:=.b true) rfl b'5 rfl) (ZbD (.b true) rfl (Zdn ?_))))))
    refine And.intro ?_ ?_
    ·intro q hq
     simp only [List.mem_cons,List.not_mem_nil,or_false] at hq
     rcases hq with rfl
     ·exact Zka
    cases hp
    exact ⟨rfl,g'3_0,g'3_1,g'3_2,g'3_3,g'3_4,rfl,(hO'5.pick [0,1] rfl (by decide))⟩
   ·skip
    refine Zci rfl b'5 (ZbD (.p r_g 0) g'3_0 (Zci rfl b'5 (Zar (ZdA (r:=r_g) (o:=0) rfl) (Zci rfl b'5 (Zar (Zbv (r:=r_g) (o:=0) (o':=0) rfl rfl) (Zci rfl b'5 (Zar (ZaK (cs:=[v_g_cells]) (v:=v_g_cells) (hO'5.box 0 rfl) rfl rfl) ?_)))))))
    refine Zci rfl b'5 (ZbD (.n w) g'3_3 (Zci rfl b'5 (ZbD (.n d) g'3_2 (Zci rfl b'5 ?_))))
    obtain ⟨x3,hx'3,hp⟩:=Zq hp
    obtain ⟨u'3,k'6,ca'3,rfl,hW'3⟩:=ZaB.ok (h:=(k'3.bump 26))   hx'3
    refine Zkx (id:=77) (caps:=[]) rfl (Zp (v:=.n d) rfl (Zp (v:=.n 2) rfl ZK)) ca'3 ?_
    have fr'2:=fr'1.call hW'3
    have hO'6:=hO'5.call hW'3 rfl
    refine Zci rfl b'5 ?_
    obtain ⟨c'3,hp⟩:=Zn hp
    refine Zar (zt (E:=Ze) (z:=w) (hO'6.sl 1 rfl) rfl rfl c'3) (Zci rfl b'5 (Zar (ZaO (off':=0) (off2:=0) (hO'6.sl 1 rfl) (Zj c'3) rfl rfl) (Zci rfl b'5 ?_)))
    obtain ⟨c'4,hp⟩:=Zn hp
    refine Zar (ZaZ (off:=0) (off2:=(0 + x3.toNat * 1)) (z:=x3) (hO'6.sl 1 rfl) (Zj c'3) rfl rfl c'4 rfl) (Zci rfl b'5 (Zar (zX (w:=.n (((gi g.cells w.toNat).Next).get x3)) (hO'6.sl 1 rfl) rfl (Zj c'3) (zr c'4)) (Zci rfl b'5 (Zar (ZbK (a:=(((gi g.cells w.toNat).Next).get x3)) (b:=(-1)) rfl rfl) (Zar (ZU (t:=(!(decide (((gi g.cells v.toNat).Next).get d = (-1))))) (v:=.b (!(decide (((gi g.cells w.toNat).Next).get x3 = (-1))))) rfl b'5 rfl) (ZbD (.b (!(decide (((gi g.cells w.toNat).Next).get x3 = (-1))))) rfl (Zdn ?_)))))))
    refine And.intro ?_ ?_
    ·intro q hq
     simp only [List.mem_cons,List.not_mem_nil,or_false] at hq
     rcases hq with rfl
     ·refine ZkX rfl rfl ?_
      ·exact (fun r hm hc=>hc (hW'3.base r (Nat.lt_of_lt_of_le (hO'3.ltAt 0 rfl _ (tch (v:=V.p r_g 0) (Zdj hm) rfl)) (Nat.le_trans (Nat.le_add_right _ _) fr'1.n))))
    cases hp
    exact ⟨rfl,g'3_0,g'3_1,g'3_2,g'3_3,g'3_4,rfl,(hO'6.pick [0,1] rfl (by decide))⟩
  intro e'1 q'1 k'4 hJ'1
  obtain ⟨x2,rfl⟩:∃ x,x = o'1:=⟨_,rfl⟩
  obtain ⟨rfl,q'1_0,q'1_1,q'1_2,q'1_3,q'1_4,q'1_36,hO'4⟩:=hJ'1
  refine Zb ?_
  rcases Zt hp with ⟨b'6,hp⟩ | ⟨b'6,hp⟩
  ·refine zB (t:=x2) q'1_36 b'6 ?_
   refine Zi (Zl (Zd (.n 9) rfl (Zc (Zb (zL (Zbd (zh ?_)))))))
   refine zf (zl (n:=10) (v:=.n 9) rfl ZD) ?_
   cases hp
   exact ⟨v_g_cells,rfl,(hO'4.pick [0,1] rfl (by decide))⟩
  ·refine zz (t:=x2) q'1_36 b'6 ?_
   refine zC (Zax (Zb (Zi (Zl (Zd (.p r_g 0) q'1_0 (Zd (.n v) q'1_1 (Zd (.n d) q'1_2 ?_)))))))
   refine Zd (.n w) q'1_3 (Zd (.n owner) q'1_4 ?_)
   obtain ⟨m,hx'4,hp⟩:=Zq hp
   obtain ⟨u'4,k'7,ca'4,v'2,rfl,hW'4⟩:=Zbf.ok (h:=k'4) (g:=g) (v:=v) (d:=d) (w:=w) (owner:=owner) (hO'4.toM [0,1] rfl (by decide))  hx'4
   refine Zai (id:=76) (caps:=[]) rfl (Zp (v:=.p r_g 0) rfl (Zp (v:=.n v) rfl (Zp (v:=.n d) rfl (Zp (v:=.n w) rfl (Zp (v:=.n owner) rfl ZK))))) ca'4 ?_
   have hO'7:=(hO'4.callM [0,1] [] rfl rfl (by decide) hW'4 rfl).pick [0,1] rfl (by decide)
   refine Zc (Zb (Zi (Zl (Zd (.n 0) rfl (Zc (Zb (zL ?_)))))))
   refine zf (zl (n:=10) (v:=.n 0) rfl ZD) ?_
   cases hp
   exact ⟨v'2,rfl,(hO'7.pick [0,1] rfl (by decide))⟩

theorem Za4.ok {h:Hp} {g:ZQ} {d:Zr} {r_g:Nat} {v_g_cells:V} (H:Own (Bm h [ZaD r_g [v_g_cells],eSl Ze v_g_cells g.cells]) h h [ZaD r_g [v_g_cells],eSl Ze v_g_cells g.cells]) {r:ZQ} (hp:Za4 g d = some r) :
  ∃ u k',Is G 279 [.p r_g 0,.ag (Zf.c d)] h u k'∧∃ (v'1:V),V.tu [] = u∧Own (Bm h [ZaD r_g [v_g_cells],eSl Ze v_g_cells g.cells]) h k' [ZaD r_g [v'1],eSl Ze v'1 r.cells]:=by
 refine WC.is (Za7 Zft ?_)
 unfold Za4 at hp
 let B:Nat→Prop:=(Bm h [ZaD r_g [v_g_cells],eSl Ze v_g_cells g.cells])
 have hO:Own B h h [ZaD r_g [v_g_cells],eSl Ze v_g_cells g.cells]:=H
 refine Zi (Zl (Za0 (hO.boxd (v:=.ag (Zf.c d)) (cs:=Zf.c d) hO.fr rfl rfl) ?_))
 rintro _ k'1 ⟨r'1,rfl,n'1,f'1,hW⟩
 have hO'1:=hW
 refine Zc (Zb (Zi (Zl (Zd (.p r_g 0) rfl (Zg (Zbv (r:=r'1) (o:=0) (o':=0) rfl rfl) (Zg (ZaK (cs:=(Zf.c d)) (v:=.n d.Cell) (hO'1.box 2 rfl) rfl rfl) (Zg (Zbv (r:=r'1) (o:=0) (o':=1) rfl rfl) ?_)))))))
 refine Zg (ZaK (cs:=(Zf.c d)) (v:=.n d.Dir) (hO'1.box 2 rfl) rfl rfl) ?_
 obtain ⟨⟨x,x1,x2⟩,hx'1,hp⟩:=Zq hp
 obtain ⟨u'1,k'2,ca'1,rfl,hW'1⟩:=Za6.ok (h:=k'1)  (hO'1.box 0 rfl) (hO'1.sl 1 rfl) hx'1
 refine Zai (id:=54) (caps:=[]) rfl (Zp (v:=.p r_g 0) rfl (Zp (v:=.n d.Cell) rfl (Zp (v:=.n d.Dir) rfl ZK))) ca'1 ?_
 have hO'2:=hO'1.call hW'1 rfl
 refine Zd (.tu [.n x,.n x1,.b x2]) rfl (Zg (Zad (vs:=[.n x,.n x1,.b x2]) (v:=.n x) rfl rfl) (Zg (Zad (vs:=[.n x,.n x1,.b x2]) (v:=.n x1) rfl rfl) (Zg (Zad (vs:=[.n x,.n x1,.b x2]) (v:=.b x2) rfl rfl) (Zd (.n x) rfl (Zd (.n x1) rfl (Zd (.b x2) rfl (Zc ?_)))))))
 refine Zb (Zi (Zl (Zd (.p r_g 0) rfl ?_)))
 obtain ⟨x3,hx'2,hp⟩:=Zq hp
 obtain ⟨u'2,k'3,ca'2,rfl,hW'2⟩:=Za8.ok (h:=k'2)  (hO'2.box 0 rfl) (hO'2.sl 1 rfl) hx'2
 refine Zai (id:=55) (caps:=[]) rfl (Zp (v:=.p r_g 0) rfl ZK) ca'2 ?_
 have hO'3:=hO'2.call hW'2 rfl
 refine Zd (.n x3) rfl (Zc (Zb (Zi (Zi (Zl (Zd (.n 0) rfl (Zc ?_)))))))
 refine Zb (Zay ?_)
 obtain ⟨o'1,ho'1,hp⟩:=Zq hp
 refine W.mono (Q:=fun e fr k=>match (generalizing:=false) o'1 with
   | g2=>e = (.exit 0)∧∃ (v'3:V),fr 0 = .p r_g 0∧fr 3 = .p r'1 0∧fr 4 = .n x∧fr 7 = .n x3∧Own B h k [ZaD r_g [v'3],eSl Ze v'3 g2,ZaD r'1 (Zf.c d)]) ?_ ?_
 ·clear hp
  refine zU (fun st fr k=>match st with | (g1,x4)=>∃ (v'2:V),fr 0 = .p r_g 0∧fr 3 = .p r'1 0∧fr 4 = .n x∧fr 7 = .n x3∧fr 25 = .n x4∧Own B h k [ZaD r_g [v'2],eSl Ze v'2 g1,ZaD r'1 (Zf.c d)]) ho'1 (s:=(g.cells,0)) ⟨v_g_cells,rfl,rfl,rfl,rfl,rfl,(hO'3.pick [0,1,2] rfl (by decide))⟩ ?_
  rintro ⟨g1,x4⟩ q'2 k'5 ⟨v'2,q'2_0,q'2_3,q'2_4,q'2_7,q'2_25,hO'5⟩ o'2 hp
  dsimp only [Za4.s0] at hp
  refine Zi (Zl (Zg (zO (a:=x4) (b:=5) q'2_25 rfl) (Zc (Zb (Zi ?_)))))
  rcases Zt hp with ⟨b'1,hp⟩ | ⟨b'1,hp⟩
  ·refine zB (t:=(decide (x4 < 5))) rfl b'1 ?_
   refine zC (Zb (Zi (Zay (Zl (Zd (.p r_g 0) q'2_0 ?_)))))
   obtain ⟨⟨x5,x6,m⟩,hx'3,hp⟩:=Zq hp
   obtain ⟨u'3,k'6,ca'3,v'4,rfl,hW'3⟩:=Zbz.ok (h:=k'5) (g:=(⟨g1⟩:ZQ)) (hO'5.toM [0,1] rfl (by decide))  hx'3
   refine Zai (id:=50) (caps:=[]) rfl (Zp (v:=.p r_g 0) rfl ZK) ca'3 ?_
   have hO'6:=(hO'5.callM [0,1] [2] rfl rfl (by decide) hW'3 rfl).pick [1,2,0] rfl (by decide)
   refine Zc (Zax (Zb (Zl ?_)))
   obtain ⟨c'1,hp⟩:=Zn hp
   refine Zg (zD (a:=x4) (b:=1) q'2_25 rfl c'1) (Zd (.n (x4 + 1)) rfl (Zc ?_))
   cases hp
   exact (Or.inl ⟨(m.cells,x4 + 1),rfl,rfl,v'4,q'2_0,q'2_3,q'2_4,q'2_7,rfl,(hO'6.pick [0,1,2] rfl (by decide))⟩)
  ·refine zz (t:=(decide (x4 < 5))) rfl b'1 ?_
   refine ZbM (Zak ?_)
   cases hp
   refine (Or.inr ⟨g1,rfl,(fun h=>nomatch h),(fun he=>?_)⟩)
   subst he; exact ⟨rfl,v'2,q'2_0,q'2_3,q'2_4,q'2_7,(hO'5.pick [0,1,2] rfl (by decide))⟩
 intro e'1 q'1 k'4 hJ'1
 obtain ⟨g2,rfl⟩:∃ x,x = o'1:=⟨_,rfl⟩
 obtain ⟨rfl,v'3,q'1_0,q'1_3,q'1_4,q'1_7,hO'4⟩:=hJ'1
 refine ZaN (Zb (Zi (Zi (Zl (Zd (.n 0) rfl (Zc (Zb ?_)))))))
 refine Zay ?_
 obtain ⟨o'3,ho'2,hp⟩:=Zq hp
 refine W.mono (Q:=fun e fr k=>match (generalizing:=false) o'3 with
   | g4=>e = (.exit 2)∧∃ (v'6:V),fr 0 = .p r_g 0∧fr 3 = .p r'1 0∧fr 4 = .n x∧fr 7 = .n x3∧Own B h k [ZaD r_g [v'6],eSl Ze v'6 g4,ZaD r'1 (Zf.c d)]) ?_ ?_
 ·clear hp
  refine zU (fun st fr k=>match st with | (g3,x7)=>∃ (v'5:V),fr 0 = .p r_g 0∧fr 3 = .p r'1 0∧fr 4 = .n x∧fr 7 = .n x3∧fr 30 = .n x7∧Own B h k [ZaD r_g [v'5],eSl Ze v'5 g3,ZaD r'1 (Zf.c d)]) ho'2 (s:=(g2,0)) ⟨v'3,q'1_0,q'1_3,q'1_4,q'1_7,rfl,(hO'4.pick [0,1,2] rfl (by decide))⟩ ?_
  rintro ⟨g3,x7⟩ q'4 k'8 ⟨v'5,q'4_0,q'4_3,q'4_4,q'4_7,q'4_30,hO'8⟩ o'4 hp
  dsimp only [Za4.s1] at hp
  refine Zi (Zl (Zg (zO (a:=x7) (b:=4) q'4_30 rfl) (Zc (Zb (Zi ?_)))))
  rcases Zt hp with ⟨b'2,hp⟩ | ⟨b'2,hp⟩
  ·refine zB (t:=(decide (x7 < 4))) rfl b'2 ?_
   refine zC (Zb (Zi (Zay (Zi (Zl (Zd (.n x7) q'4_30 (Zd (.n x7) rfl ?_)))))))
   refine Zc (Zb (Zi (Zl (Zd (.n x7) rfl ?_))))
   obtain ⟨c'2,hp⟩:=Zn hp
   refine Zg (zD (a:=x7) (b:=3) rfl rfl c'2) (Zg (Zd6 (a:=(x7 + 3)) (b:=4) rfl rfl (by decide)) (Zd (.n x7) rfl (Zd (.n ((x7 + 3).tmod 4)) rfl (Zd (.n x7) rfl (Zc (Zb (Zi ?_)))))))
   refine Zl (Zd (.n x3) q'4_7 (Zd (.n x7) rfl ?_))
   obtain ⟨c'3,hp⟩:=Zn hp
   refine Zg (zD (a:=x3) (b:=x7) rfl rfl c'3) (Zd (.n x3) q'4_7 (Zd (.n x7) rfl ?_))
   obtain ⟨c'4,hp⟩:=Zn hp
   refine Zg (zD (a:=x7) (b:=1) rfl rfl c'4) (Zg (Zd6 (a:=(x7 + 1)) (b:=4) rfl rfl (by decide)) ?_)
   obtain ⟨c'5,hp⟩:=Zn hp
   refine Zg (zD (a:=x3) (b:=((x7 + 1).tmod 4)) rfl rfl c'5) (Zd (.n (x3 + x7)) rfl (Zd (.n (x3 + ((x7 + 1).tmod 4))) rfl (Zc (Zb (Zi (Zi (Zl ?_)))))))
   refine Zd (.n ((x7 + 3).tmod 4)) rfl (Zg (Zbv (r:=r'1) (o:=0) (o':=1) q'4_3 rfl) (Zg (ZaK (cs:=(Zf.c d)) (v:=.n d.Dir) (hO'8.box 2 rfl) rfl rfl) (Zg (ZbE (a:=((x7 + 3).tmod 4)) (b:=d.Dir) rfl rfl) (Zc (Zb ?_)))))
   rcases Zt hp with ⟨b'3,hp⟩ | ⟨b'3,hp⟩
   ·refine zB (t:=(decide ((x7 + 3).tmod 4 = d.Dir))) rfl b'3 ?_
    refine Zi (Zl (Zd (.p r_g 0) q'4_0 (Zd (.n (x3 + x7)) rfl (Zd (.n x7) rfl (Zd (.n x3) q'4_7 ?_)))))
    obtain ⟨c'6,hp⟩:=Zn hp
    refine Zg (zD (a:=x3) (b:=4) rfl rfl c'6) ?_
    obtain ⟨⟨x8,m1⟩,hx'4,hp⟩:=Zq hp
    obtain ⟨u'4,k'9,ca'4,v'7,rfl,hW'4⟩:=zM.ok (h:=k'8) (g:=(⟨g3⟩:ZQ)) (v:=(x3 + x7)) (d:=x7) (w:=(x3 + 4)) (owner:=(-2)) (hO'8.toM [0,1] rfl (by decide))  hx'4
    refine Zai (id:=52) (caps:=[]) rfl (Zp (v:=.p r_g 0) rfl (Zp (v:=.n (x3 + x7)) rfl (Zp (v:=.n x7) rfl (Zp (v:=.n (x3 + 4)) rfl (Zp (v:=.n (-2)) rfl ZK))))) ca'4 ?_
    have hO'9:=(hO'8.callM [0,1] [2] rfl rfl (by decide) hW'4 rfl).pick [1,2,0] rfl (by decide)
    refine Zc (Zb (Zl (Zd (.n x3) q'4_7 (Zg (zD (a:=x3) (b:=4) rfl rfl c'6) (Zd (.n (x3 + 4)) rfl (Zc (Zb ?_)))))))
    refine Zl (Zd (.p r_g 0) q'4_0 (Zd (.n (x3 + 4)) rfl (Zd (.n x7) rfl (Zd (.n (x3 + ((x7 + 1).tmod 4))) rfl ?_))))
    obtain ⟨⟨x9,m2⟩,hx'5,hp⟩:=Zq hp
    obtain ⟨u'5,k'10,ca'5,v'8,rfl,hW'5⟩:=zM.ok (h:=k'9) (g:=m1) (v:=(x3 + 4)) (d:=x7) (w:=(x3 + ((x7 + 1).tmod 4))) (owner:=(-2)) (hO'9.toM [0,1] rfl (by decide))  hx'5
    refine Zai (id:=52) (caps:=[]) rfl (Zp (v:=.p r_g 0) rfl (Zp (v:=.n (x3 + 4)) rfl (Zp (v:=.n x7) rfl (Zp (v:=.n (x3 + ((x7 + 1).tmod 4))) rfl (Zp (v:=.n (-2)) rfl ZK))))) ca'5 ?_
    have hO'10:=(hO'9.callM [0,1] [2] rfl rfl (by decide) hW'5 rfl).pick [1,2,0] rfl (by decide)
    refine Zc (Zax (Zb (Zl (Zg (zD (a:=x7) (b:=1) q'4_30 rfl c'4) (Zd (.n (x7 + 1)) rfl (Zc ?_))))))
    cases hp
    exact (Or.inl ⟨(m2.cells,x7 + 1),rfl,rfl,v'8,q'4_0,q'4_3,q'4_4,q'4_7,rfl,(hO'10.pick [0,1,2] rfl (by decide))⟩)
   ·refine zz (t:=(decide ((x7 + 3).tmod 4 = d.Dir))) rfl b'3 ?_
    refine zC (Zb (Zl (Zd (.p r_g 0) q'4_0 (Zd (.n (x3 + x7)) rfl (Zd (.n x7) rfl (Zd (.n (x3 + ((x7 + 1).tmod 4))) rfl ?_))))))
    obtain ⟨⟨x10,m3⟩,hx'6,hp⟩:=Zq hp
    obtain ⟨u'6,k'11,ca'6,v'9,rfl,hW'6⟩:=zM.ok (h:=k'8) (g:=(⟨g3⟩:ZQ)) (v:=(x3 + x7)) (d:=x7) (w:=(x3 + ((x7 + 1).tmod 4))) (owner:=(-2)) (hO'8.toM [0,1] rfl (by decide))  hx'6
    refine Zai (id:=52) (caps:=[]) rfl (Zp (v:=.p r_g 0) rfl (Zp (v:=.n (x3 + x7)) rfl (Zp (v:=.n x7) rfl (Zp (v:=.n (x3 + ((x7 + 1).tmod 4))) rfl (Zp (v:=.n (-2)) rfl ZK))))) ca'6 ?_
    have hO'11:=(hO'8.callM [0,1] [2] rfl rfl (by decide) hW'6 rfl).pick [1,2,0] rfl (by decide)
    refine Zc (Zax (Zb (Zl (Zg (zD (a:=x7) (b:=1) q'4_30 rfl c'4) (Zd (.n (x7 + 1)) rfl (Zc ?_))))))
    cases hp
    exact (Or.inl ⟨(m3.cells,x7 + 1),rfl,rfl,v'9,q'4_0,q'4_3,q'4_4,q'4_7,rfl,(hO'11.pick [0,1,2] rfl (by decide))⟩)
  ·refine zz (t:=(decide (x7 < 4))) rfl b'2 ?_
   refine ZbM (Zak ?_)
   cases hp
   refine (Or.inr ⟨g3,rfl,(fun h=>nomatch h),(fun he=>?_)⟩)
   subst he; exact ⟨rfl,v'5,q'4_0,q'4_3,q'4_4,q'4_7,(hO'8.pick [0,1,2] rfl (by decide))⟩
 intro e'2 q'3 k'7 hJ'2
 obtain ⟨g4,rfl⟩:∃ x,x = o'3:=⟨_,rfl⟩
 obtain ⟨rfl,v'6,q'3_0,q'3_3,q'3_4,q'3_7,hO'7⟩:=hJ'2
 refine ZaN (Zb (Zl (Zd (.p r_g 0) q'3_0 (Zd (.n x) q'3_4 (Zg (Zbv (r:=r'1) (o:=0) (o':=1) q'3_3 rfl) (Zg (ZaK (cs:=(Zf.c d)) (v:=.n d.Dir) (hO'7.box 2 rfl) rfl rfl) (Zd (.n x3) q'3_7 ?_)))))))
 obtain ⟨c'7,hp⟩:=Zn hp
 refine Zg (zD (a:=x3) (b:=4) rfl rfl c'7) ?_
 obtain ⟨⟨x11,m4⟩,hx'7,hp⟩:=Zq hp
 obtain ⟨u'7,k'12,ca'7,v'10,rfl,hW'7⟩:=zM.ok (h:=k'7) (g:=(⟨g4⟩:ZQ)) (v:=x) (d:=d.Dir) (w:=(x3 + 4)) (owner:=(-2)) (hO'7.toM [0,1] rfl (by decide))  hx'7
 refine Zai (id:=52) (caps:=[]) rfl (Zp (v:=.p r_g 0) rfl (Zp (v:=.n x) rfl (Zp (v:=.n d.Dir) rfl (Zp (v:=.n (x3 + 4)) rfl (Zp (v:=.n (-2)) rfl ZK))))) ca'7 ?_
 have hO'12:=(hO'7.callM [0,1] [2] rfl rfl (by decide) hW'7 rfl).pick [1,2,0] rfl (by decide)
 refine Zc (Zni ZD ?_)
 cases hp
 exact ⟨v'10,rfl,(hO'12.pick [0,1] rfl (by decide))⟩

theorem Zbg.ok {h:Hp} {cells:List Za} {v_cells:V} (s_cells:Sl Ze h v_cells cells) {r:(Option ZQ) × Int} (hp:Zbg cells = some r) :
  ∃ u k',Is G 275 [v_cells] h u k'∧∃ (r'1:Nat),∃ (v'1:V),V.tu [(if (r.1).isSome = true then V.p r'1 0 else V.pn),.n r.2] = u∧Own (fun r=>r < h.n) h k' [eIf (r.1).isSome (ZaD r'1 [v'1]),eIf (r.1).isSome (eSl Ze v'1 ((r.1.getD default).cells))]:=by
 refine WC.is (Za7 Zfe ?_)
 unfold Zbg at hp
 let B:Nat→Prop:=(fun r=>r < h.n)
 have hO:Own B h h []:=Own.start0 h
 refine Zi (Zl (Zd (.pn) rfl (Zd (.n 0) rfl (Zc (Zb (Zi (Zl ?_)))))))
 refine Zd v_cells rfl ?_
 obtain ⟨⟨x,x1⟩,hx'1,hp⟩:=Zq hp
 obtain ⟨u'1,k'1,ca'1,rfl,hW'1⟩:=ZbG.ok (h:=h)  (hO.rd0 s_cells.rd) hx'1
 refine Zai (id:=278) (caps:=[]) rfl (Zp (v:=v_cells) rfl ZK) ca'1 ?_
 have hO'1:=hO.call hW'1 rfl
 refine Zd (.tu [.ag (Zf.c x),.n x1]) rfl (Zg (Zad (vs:=[.ag (Zf.c x),.n x1]) (v:=.ag (Zf.c x)) rfl rfl) (Zg (Zad (vs:=[.ag (Zf.c x),.n x1]) (v:=.n x1) rfl rfl) (Za0 (hO'1.alloc (cs:=Zf.c (⟨0,0⟩:Zr)) hO'1.fr) ?_)))
 rintro _ k'2 ⟨r'2,rfl,n'1,f'1,hW⟩
 have hO'2:=hW
 refine Za0 (hO'2.stb (ws:=Zf.c x) (cs':=Zf.c x) (v:=.ag (Zf.c x)) 0 rfl rfl rfl rfl ⟨rfl,Nat.le_of_ble_eq_true rfl,rfl⟩ rfl) ?_
 rintro _ k'3 ⟨rfl,f'2,m'1,hW⟩
 have hO'3:=hW
 refine Zd (.n x1) rfl (Zc (Zb (Zi (Zi (Zl (Zd (.n x1) rfl (Zg (ZbK (a:=x1) (b:=0) rfl rfl) ?_)))))))
 refine Zc (Zb ?_)
 rcases Zt hp with ⟨b'1,hp⟩ | ⟨b'1,hp⟩
 ·refine zB (t:=(!(decide (x1 = 0)))) rfl b'1 ?_
  refine Zi (Zl (Zd (.n x1) rfl (Zd (.pn) rfl (Zd (.n x1) rfl (Zc (Zb (zL ?_)))))))
  refine zh (zf (zl (n:=2) (v:=.pn) rfl (zl (n:=3) (v:=.n x1) rfl ZD)) ?_)
  cases hp
  exact ⟨0,V.sn,rfl,(hO'3.pick [900,901] rfl (by decide))⟩
 ·refine zz (t:=(!(decide (x1 = 0)))) rfl b'1 ?_
  refine zC (Zb (Zi (Zi (Zl (Zd v_cells rfl (Zg (ZaC (hO'3.rd0 s_cells.rd) rfl) ?_))))))
  obtain ⟨c'1,hp⟩:=Zn hp
  refine Zg (zD (a:=(cells.length:Int)) (b:=4) rfl rfl c'1) ?_
  obtain ⟨c'2,hp⟩:=Zn hp
  refine Zg (zD (a:=((cells.length:Int) + 4)) (b:=1) rfl rfl c'2) (Zg (ZeF (a:=(((cells.length:Int) + 4) + 1)) (b:=4096) rfl rfl) (Zc (Zb ?_)))
  rcases Zt hp with ⟨b'2,hp⟩ | ⟨b'2,hp⟩
  ·refine zB (t:=(decide (4096 < (((cells.length:Int) + 4) + 1)))) rfl b'2 ?_
   refine Zi (Zl (Zd (.pn) rfl (Zd (.n 6) rfl (Zc (Zb (zL (zh ?_)))))))
   refine zf (zl (n:=2) (v:=.pn) rfl (zl (n:=3) (v:=.n 6) rfl ZD)) ?_
   cases hp
   exact ⟨0,V.sn,rfl,(hO'3.pick [900,901] rfl (by decide))⟩
  ·refine zz (t:=(decide (4096 < (((cells.length:Int) + 4) + 1)))) rfl b'2 ?_
   refine zC (Zb (Zi (Zl (Zd v_cells rfl ?_))))
   obtain ⟨⟨x2,x3⟩,hx'2,hp⟩:=Zq hp
   obtain ⟨u'2,k'4,ca'2,r'5,v'4,rfl,hW'2⟩:=ZdE.ok (h:=k'3)  (hO'3.rd0 s_cells.rd) hx'2
   refine Zai (id:=119) (caps:=[]) rfl (Zp (v:=v_cells) rfl ZK) ca'2 ?_
   have hO'4:=hO'3.call hW'2 rfl
   refine Zd (.tu [(if (x2).isSome = true then V.p r'5 0 else V.pn),.n x3]) rfl (Zg (Zad (vs:=[(if (x2).isSome = true then V.p r'5 0 else V.pn),.n x3]) (v:=(if (x2).isSome = true then V.p r'5 0 else V.pn)) rfl rfl) (Zg (Zad (vs:=[(if (x2).isSome = true then V.p r'5 0 else V.pn),.n x3]) (v:=.n x3) rfl rfl) (Zd ((if (x2).isSome = true then V.p r'5 0 else V.pn)) rfl (Zd (.n x3) rfl (Zc (Zb (Zi ?_)))))))
   refine Zl (Zd ((if (x2).isSome = true then V.p r'5 0 else V.pn)) rfl (Zg (Zce (cs:=(Zf.c x)) (ws:=Zf.c x) (hO'4.box 0 rfl) rfl rfl) ?_))
   obtain ⟨g,hg'1,hp⟩:=Zq hp
   replace hg'1:x2 = some g:=hg'1
   have hO'5:Own B h k'4 [ZaD r'2 (Zf.c x),ZaD r'5 [v'4],eSl Ze v'4 g.cells]:=by have hq:=hO'4; rw [hg'1] at hq; exact hq
   obtain ⟨m,hx'3,hp⟩:=Zq hp
   obtain ⟨u'3,k'5,ca'3,v'5,rfl,hW'3⟩:=Za4.ok (h:=k'4) (g:=g) (d:=x) (hO'5.toM [1,2] rfl (by decide))  hx'3
   refine Zai (id:=279) (caps:=[]) rfl (Zp (v:=.p r'5 0) (unw hg'1) (Zp (v:=.ag (Zf.c x)) rfl ZK)) ca'3 ?_
   have hO'6:=(hO'5.callM [1,2] [0] rfl rfl (by decide) hW'3 rfl).pick [0,1,2] rfl (by decide)
   refine Zc (Zb (Zi (Zl (Zd (.p r'5 0) (unw hg'1) (Zd (.p r'5 0) rfl (Zd (.n 0) rfl (Zc ?_)))))))
   refine Zb (zL (zf (zl (n:=2) (v:=.p r'5 0) rfl (zl (n:=3) (v:=.n 0) rfl ZD)) ?_))
   cases hp
   exact ⟨r'5,v'5,rfl,(hO'6.pick [1,2] rfl (by decide))⟩

theorem ZaJ.ok {h:Hp} {g:ZQ} {r_g:Nat} {v_g_cells:V} {w_g:Bool} (b_g:h.m r_g = some (.cells w_g [v_g_cells])) (s_g_cells:Sl Ze h v_g_cells g.cells) {r:(List Za)} (hp:ZaJ g = some r) :
  ∃ u k',Is G 57 [.p r_g 0] h u k'∧∃ (v'1:V),v'1 = u∧Own (fun r=>r < h.n) h k' [eSl Ze v'1 r]:=by
 refine WC.is (Za7 ZdW ?_)
 unfold ZaJ at hp
 let B:Nat→Prop:=(fun r=>r < h.n)
 have hO:Own B h h []:=Own.start0 h
 refine Zi (Zl (Zd (.sn) rfl (Zc (Zb (Zi (Zi (Zl ?_)))))))
 refine Zd (.p r_g 0) rfl (Zg (ZiK rfl rfl) (Zc (Zb (zz (t:=false) rfl rfl (zC (Zb (Zi ?_)))))))
 refine Zl (Zd (.p r_g 0) rfl (Zg (ZdA (r:=r_g) (o:=0) rfl) (Zg (Zbv (r:=r_g) (o:=0) (o':=0) rfl rfl) (Zg (ZaK (cs:=[v_g_cells]) (v:=v_g_cells) (hO.rdB0 (RdB.of b_g)).choose_spec rfl rfl) ?_))))
 obtain ⟨x,hx'1,hp⟩:=Zq hp
 obtain ⟨u'1,k'1,ca'1,v'2,rfl,hW'1⟩:=zZ.ok (h:=h)  (hO.rd0 s_g_cells.rd) hx'1
 refine Zai (id:=51) (caps:=[]) rfl (Zp (v:=v_g_cells) rfl ZK) ca'1 ?_
 have hO'1:=hO.call hW'1 rfl
 refine Zd v'2 rfl (Zc (Zb (zL (zf (zl (n:=2) (v:=v'2) rfl ZD) ?_))))
 cases hp
 exact ⟨v'2,rfl,(hO'1.pick [0] rfl (by decide))⟩

theorem Zbm.ok {h:Hp} {cells:List Za} {v_cells:V} (s_cells:Sl Ze h v_cells cells) {r:(List Za) × Int} (hp:Zbm cells = some r) :
  ∃ u k',Is G 268 [v_cells] h u k'∧∃ (v'1:V),V.tu [v'1,.n r.2] = u∧Own (fun r=>r < h.n) h k' [eSl Ze v'1 r.1]:=by
 refine WC.is (Za7 Zfs ?_)
 unfold Zbm at hp
 let B:Nat→Prop:=(fun r=>r < h.n)
 have hO:Own B h h []:=Own.start0 h
 refine Zi (Zl (Zd (.sn) rfl (Zd (.n 0) rfl (Zc (Zb (Zi (Zl ?_)))))))
 refine Zd v_cells rfl ?_
 obtain ⟨⟨x,x1⟩,hx'1,hp⟩:=Zq hp
 obtain ⟨u'1,k'1,ca'1,r'1,v'2,rfl,hW'1⟩:=Zbg.ok (h:=h)  (hO.rd0 s_cells.rd) hx'1
 refine Zai (id:=275) (caps:=[]) rfl (Zp (v:=v_cells) rfl ZK) ca'1 ?_
 have hO'1:=hO.call hW'1 rfl
 refine Zd (.tu [(if (x).isSome = true then V.p r'1 0 else V.pn),.n x1]) rfl (Zg (Zad (vs:=[(if (x).isSome = true then V.p r'1 0 else V.pn),.n x1]) (v:=(if (x).isSome = true then V.p r'1 0 else V.pn)) rfl rfl) (Zg (Zad (vs:=[(if (x).isSome = true then V.p r'1 0 else V.pn),.n x1]) (v:=.n x1) rfl rfl) (Zd ((if (x).isSome = true then V.p r'1 0 else V.pn)) rfl (Zd (.n x1) rfl (Zc (Zb (Zi ?_)))))))
 refine Zi (Zl (Zd (.n x1) rfl (Zg (ZbK (a:=x1) (b:=0) rfl rfl) (Zc (Zb ?_)))))
 rcases Zt hp with ⟨b'1,hp⟩ | ⟨b'1,hp⟩
 ·refine zB (t:=(!(decide (x1 = 0)))) rfl b'1 ?_
  refine Zi (Zl (Zd (.n x1) rfl (Zd (.sn) rfl (Zd (.n x1) rfl (Zc (Zb (zL ?_)))))))
  refine zh ?_
  have hO'2:=hO'1.nil Ze
  refine zf (zl (n:=2) (v:=.sn) rfl (zl (n:=3) (v:=.n x1) rfl ZD)) ?_
  cases hp
  exact ⟨V.sn,rfl,(hO'2.pick [2] rfl (by decide))⟩
 ·refine zz (t:=(!(decide (x1 = 0)))) rfl b'1 ?_
  refine zC (Zb (Zi (Zl (Zd ((if (x).isSome = true then V.p r'1 0 else V.pn)) rfl ?_))))
  obtain ⟨g,hg'1,hp⟩:=Zq hp
  replace hg'1:x = some g:=hg'1
  have hO'3:Own B h k'1 [ZaD r'1 [v'2],eSl Ze v'2 g.cells]:=by have hq:=hO'1; rw [hg'1] at hq; exact hq
  obtain ⟨x2,hx'2,hp⟩:=Zq hp
  obtain ⟨u'2,k'2,ca'2,v'3,rfl,hW'2⟩:=ZaJ.ok (h:=k'1)  (hO'3.box 0 rfl) (hO'3.sl 1 rfl) hx'2
  refine Zai (id:=57) (caps:=[]) rfl (Zp (v:=.p r'1 0) (unw hg'1) ZK) ca'2 ?_
  have hO'4:=hO'3.call hW'2 rfl
  refine Zd v'3 rfl (Zd (.n 0) rfl (Zc (Zb (zL (zf (zl (n:=2) (v:=v'3) rfl (zl (n:=3) (v:=.n 0) rfl ZD)) ?_)))))
  cases hp
  exact ⟨v'3,rfl,(hO'4.pick [2] rfl (by decide))⟩

theorem ZbL.ok {h:Hp} {t:Int}   {r:Bool} (hp:ZbL t = some r) :
  ∃ u k',Is G 205 [.n t] h u k'∧V.b r = u∧Own (fun r=>r < h.n) h k' []:=by
 refine WC.is (Za7 Zev ?_)
 unfold ZbL at hp
 let B:Nat→Prop:=(fun r=>r < h.n)
 have hO:Own B h h []:=Own.start0 h
 refine Zi (Zl (Zd (.b false) rfl (Zc (Zb (Zi (Zl (Zd (.n t) rfl ?_)))))))
 refine Zg (zO (a:=t) (b:=0) rfl rfl) (Zd (.b (decide (t < 0))) rfl (Zc (Zb (zL (zf (zl (n:=2) (v:=.b (decide (t < 0))) rfl ZD) ?_)))))
 cases hp
 exact ⟨rfl,(hO.pick [] rfl (by decide))⟩

theorem ZaL.ok {h:Hp} {cells:List Za} {v_cells:V} (s_cells:Sl Ze h v_cells cells) {r:Int × Int × Bool} (hp:ZaL cells = some r) :
  ∃ u k',Is G 178 [v_cells] h u k'∧V.tu [.n r.1,.n r.2.1,.b r.2.2] = u∧Own (fun r=>r < h.n) h k' []:=by
 refine WC.is (Za7 Zfa ?_)
 unfold ZaL at hp
 let B:Nat→Prop:=(fun r=>r < h.n)
 have hO:Own B h h []:=Own.start0 h
 refine Zi (Zl (Zd (.n 0) rfl (Zd (.n 0) rfl (Zd (.b false) rfl (Zc (Zb (Zi ?_)))))))
 refine Zl (Zd v_cells rfl ?_)
 obtain ⟨⟨x,x1⟩,hx'1,hp⟩:=Zq hp
 obtain ⟨u'1,k'1,ca'1,rfl,hW'1⟩:=ZbU.ok (h:=h)  (hO.rd0 s_cells.rd) hx'1
 refine Zai (id:=195) (caps:=[]) rfl (Zp (v:=v_cells) rfl ZK) ca'1 ?_
 have hO'1:=hO.call hW'1 rfl
 refine Zd (.tu [.n x,.n x1]) rfl (Zg (Zad (vs:=[.n x,.n x1]) (v:=.n x) rfl rfl) (Zg (Zad (vs:=[.n x,.n x1]) (v:=.n x1) rfl rfl) (Zd (.n x) rfl (Zd (.n x1) rfl (Zc (Zb (Zi ?_)))))))
 refine Zi (Zl (Zd (.n x1) rfl (Zg (ZbK (a:=x1) (b:=0) rfl rfl) (Zc (Zb ?_)))))
 rcases Zt hp with ⟨b'1,hp⟩ | ⟨b'1,hp⟩
 ·refine zB (t:=(!(decide (x1 = 0)))) rfl b'1 ?_
  refine Zi (Zl (Zd (.n 0) rfl (Zd (.n 0) rfl (Zd (.b false) rfl (Zc (Zb (zL ?_)))))))
  refine zh (zf (zl (n:=2) (v:=.n 0) rfl (zl (n:=3) (v:=.n 0) rfl (zl (n:=4) (v:=.b false) rfl ZD))) ?_)
  cases hp
  exact ⟨rfl,(hO'1.pick [] rfl (by decide))⟩
 ·refine zz (t:=(!(decide (x1 = 0)))) rfl b'1 ?_
  refine zC (Zb (Zi (Zl (Zd v_cells rfl ?_))))
  obtain ⟨⟨x2,x3⟩,hx'2,hp⟩:=Zq hp
  obtain ⟨u'2,k'2,ca'2,v'1,vs'1,rfl,hW'2⟩:=zx.ok (h:=k'1)  (hO'1.rd0 s_cells.rd) hx'2
  refine Zai (id:=203) (caps:=[]) rfl (Zp (v:=v_cells) rfl ZK) ca'2 ?_
  have hO'2:=hO'1.call hW'2 rfl
  refine Zd (.tu [v'1,.n x3]) rfl (Zg (Zad (vs:=[v'1,.n x3]) (v:=v'1) rfl rfl) (Zg (Zad (vs:=[v'1,.n x3]) (v:=.n x3) rfl rfl) (Zd v'1 rfl (Zd (.n x3) rfl (Zc (Zb (Zi ?_)))))))
  refine Zi (Zl (Zd v'1 rfl (Zg (Zgw (n:=(x2).length) (hO'2.sl 0 rfl) (hO'2.allLen 1 rfl:(vs'1).length = (x2).length) rfl) (Zd (.n 0) rfl (Zc (Zb (Zay ?_)))))))
  obtain ⟨o'1,ho'1,hp⟩:=Zq hp
  refine W.mono (Q:=fun e fr k=>match (generalizing:=false) o'1 with
    | .inl _=>e = (.exit 0)∧Own B h k []
    | .inr (x5,x6)=>e = .ret∧fr 2 = .n x5∧fr 3 = .n x6∧fr 4 = .b true∧Own B h k []) ?_ ?_
  ·clear hp
   refine zU (fun st fr k=>match st with | x4=>fr 0 = v_cells∧fr 5 = .n x∧fr 24 = v'1∧fr 25 = .n (x2.length:Int)∧fr 26 = .n x4∧Own B h k [eSl eV v'1 vs'1,Zc7 Zf vs'1 x2]) ho'1 (s:=0) ⟨rfl,rfl,rfl,rfl,rfl,(hO'2.pick [0,1] rfl (by decide))⟩ ?_
   rintro x4 q'2 k'4 ⟨q'2_0,q'2_5,q'2_24,q'2_25,q'2_26,hO'4⟩ o'2 hp
   dsimp only [ZaL.s0] at hp
   refine Zi (Zl (Zg (zO (a:=x4) (b:=(x2.length:Int)) q'2_26 q'2_25) (Zc (Zb (Zi ?_)))))
   rcases Zt hp with ⟨b'2,hp⟩ | ⟨b'2,hp⟩
   ·refine zB (t:=(decide (x4 < (x2.length:Int)))) rfl b'2 ?_
    refine zC (Zb (Zi (Zay (Zi (Zl (Zd (.n x4) q'2_26 ?_))))))
    obtain ⟨c'1,hp⟩:=Zn hp
    refine Zg (zt (E:=eV) (z:=x4) (hO'4.sl 0 rfl) q'2_24 q'2_26 (by rw [(hO'4.allLen 1 rfl:(vs'1).length = (x2).length)]; exact c'1)) (Zg (zX (w:=(gi vs'1 x4.toNat)) (hO'4.sl 0 rfl) rfl (by rw [(hO'4.allLen 1 rfl:(vs'1).length = (x2).length)]; exact Zj c'1) rfl) (Zd (.n x4) rfl (Zd ((gi vs'1 x4.toNat)) rfl (Zc (Zb (Zi (Zl ?_)))))))
    refine Zd v_cells q'2_0 (Zd ((gi vs'1 x4.toNat)) rfl ?_)
    obtain ⟨x7,hx'3,hp⟩:=Zq hp
    obtain ⟨u'3,k'5,ca'3,v'2,rfl,hW'3⟩:=Za2.ok (h:=k'4)  (hO'4.rd0 s_cells.rd) (hO'4.inn 1 rfl (Zj c'1):Sl Zf k'4 (gi vs'1 x4.toNat) (gi x2 x4.toNat)) hx'3
    refine Zai (id:=204) (caps:=[]) rfl (Zp (v:=v_cells) rfl (Zp (v:=(gi vs'1 x4.toNat)) rfl ZK)) ca'3 ?_
    have hO'5:=hO'4.call hW'3 rfl
    obtain ⟨x8,hx'4,hp⟩:=Zq hp
    obtain ⟨u'4,k'6,ca'4,rfl,hW'4⟩:=zg.ok (h:=k'5)  (hO'5.sl 2 rfl) (fun k z0 y hk hx=>ZbL.ok (h:=k)  hx) hx'4
    refine Zai (id:=91) (caps:=[]) rfl (Zp (v:=v'2) rfl (Zp (v:=.f 205 []) rfl ZK)) ca'4 ?_
    have hO'6:=hO'5.call hW'4 rfl
    refine Zd (.n x8) rfl (Zc (Zb (Zi (Zl (Zd (.n x4) rfl (Zd (.n x) q'2_5 (Zg (ZbK (a:=x4) (b:=x) rfl rfl) ?_)))))))
    refine Zd (.b (!(decide (x4 = x)))) rfl ?_
    refine Zaa 3 (fun fr' k'=>k'6 = k'∧fr' 41 = .b ((!(decide (x4 = x))) && (decide (0≤x8)))∧fr' 0 = v_cells∧fr' 11 = .n x8∧fr' 24 = v'1∧fr' 25 = .n (x2.length:Int)∧fr' 26 = .n x4∧fr' 5 = .n x∧fr' 9 = .n x4) ?_ ?_
    ·rcases bc (!(decide (x4 = x))) with b'3 | b'3
     ·skip
      refine Z7 rfl b'3 (Zd (.n x8) rfl (Z7 rfl b'3 (Zg (ZcA (a:=x8) (b:=0) rfl rfl) (Zg (za (t:=(!(decide (x4 = x)))) (v:=.b ((!(decide (x4 = x))) && (decide (0≤x8)))) rfl b'3 (Eq.trans (b:=V.b (decide (0≤x8))) rfl (Zcs b'3))) (Zc ?_)))))
      exact ⟨rfl,rfl,q'2_0,rfl,q'2_24,q'2_25,q'2_26,q'2_5,rfl⟩
     ·skip
      refine Zw rfl b'3 (Zw rfl b'3 (Zg (ZU (t:=(!(decide (x4 = x)))) (v:=.b ((!(decide (x4 = x))) && (decide (0≤x8)))) rfl b'3 (Eq.trans (b:=V.b false) rfl (ZbW b'3))) (Zc ?_)))
      exact ⟨rfl,rfl,q'2_0,rfl,q'2_24,q'2_25,q'2_26,q'2_5,rfl⟩
    rintro frg'1 _ ⟨rfl,g'1_41,g'1_0,g'1_11,g'1_24,g'1_25,g'1_26,g'1_5,g'1_9⟩
    refine Zc (Zb ?_)
    rcases Zt hp with ⟨b'4,hp⟩ | ⟨b'4,hp⟩
    ·refine zB (t:=((!(decide (x4 = x))) && (decide (0≤x8)))) g'1_41 b'4 ?_
     refine Zi (Zl (Zd (.n x4) g'1_9 (Zd (.n x8) g'1_11 (Zd (.n x4) rfl (Zd (.n x8) rfl (Zd (.b true) rfl (Zc ?_)))))))
     refine Zb (zL (Zbd (zh ?_)))
     cases hp
     refine (Or.inr ⟨(.inr (x4,x8)),rfl,(fun h=>nomatch h),(fun he=>?_)⟩)
     subst he; exact ⟨rfl,rfl,rfl,rfl,(hO'6.pick [] rfl (by decide))⟩
    ·refine zz (t:=((!(decide (x4 = x))) && (decide (0≤x8)))) g'1_41 b'4 ?_
     refine zC (Zax (Zb (Zl ?_)))
     obtain ⟨c'2,hp⟩:=Zn hp
     refine Zg (zD (a:=x4) (b:=1) g'1_26 rfl c'2) (Zd (.n (x4 + 1)) rfl (Zc ?_))
     cases hp
     exact (Or.inl ⟨x4 + 1,rfl,rfl,g'1_0,g'1_5,g'1_24,g'1_25,rfl,(hO'6.pick [0,1] rfl (by decide))⟩)
   ·refine zz (t:=(decide (x4 < (x2.length:Int)))) rfl b'2 ?_
    refine ZbM (Zak ?_)
    cases hp
    refine (Or.inr ⟨.inl (),rfl,(fun h=>nomatch h),(fun he=>?_)⟩)
    subst he; exact ⟨rfl,(hO'4.pick [] rfl (by decide))⟩
  intro e'1 q'1 k'3 hJ'1
  rcases o'1 with _ | ⟨x5,x6⟩
  ·obtain ⟨rfl,hO'3⟩:=hJ'1
   refine ZaN (Zb (Zi (Zl (Zd (.n 0) rfl (Zd (.n 0) rfl (Zd (.b false) rfl (Zc ?_)))))))
   refine Zb (zL (zf (zl (n:=2) (v:=.n 0) rfl (zl (n:=3) (v:=.n 0) rfl (zl (n:=4) (v:=.b false) rfl ZD))) ?_))
   cases hp
   exact ⟨rfl,(hO'3.pick [] rfl (by decide))⟩
  ·obtain ⟨rfl,q'1_2,q'1_3,q'1_4,hO'3⟩:=hJ'1
   refine Zbd (zh (zf (zl (n:=2) (v:=.n x5) q'1_2 (zl (n:=3) (v:=.n x6) q'1_3 (zl (n:=4) (v:=.b true) q'1_4 ZD))) ?_))
   cases hp
   exact ⟨rfl,(hO'3.pick [] rfl (by decide))⟩

theorem Zbp.ok {h:Hp} {g:ZQ} {v:Int} {d:Int} {r_g:Nat} {v_g_cells:V} (H:Own (Bm h [ZaD r_g [v_g_cells],eSl Ze v_g_cells g.cells]) h h [ZaD r_g [v_g_cells],eSl Ze v_g_cells g.cells]) {r:Int × Int × ZQ} (hp:Zbp g v d = some r) :
  ∃ u k',Is G 48 [.p r_g 0,.n v,.n d] h u k'∧∃ (v'1:V),V.tu [.n r.1,.n r.2.1] = u∧Own (Bm h [ZaD r_g [v_g_cells],eSl Ze v_g_cells g.cells]) h k' [ZaD r_g [v'1],eSl Ze v'1 r.2.2.cells]:=by
 refine WC.is (Za7 ZdX ?_)
 unfold Zbp at hp
 let B:Nat→Prop:=(Bm h [ZaD r_g [v_g_cells],eSl Ze v_g_cells g.cells])
 have hO:Own B h h [ZaD r_g [v_g_cells],eSl Ze v_g_cells g.cells]:=H
 refine Zi (Zl (Zd (.n 0) rfl (Zd (.n 0) rfl (Zc (Zb (Zi (Zay ?_)))))))
 refine Zi (Zl (Zd (.p r_g 0) rfl (Zg (ZiK rfl rfl) (Zd (.b false) rfl (Zc (Zb (zz (t:=false) rfl rfl ?_)))))))
 refine Zi (Zl (Zd (.p r_g 0) rfl (Zd (.n v) rfl (Zd (.n d) rfl ?_))))
 obtain ⟨x,hx'1,hp⟩:=Zq hp
 obtain ⟨u'1,k'1,ca'1,rfl,hW'1⟩:=ZaU.ok (h:=h)  (hO.box 0 rfl) (hO.sl 1 rfl) hx'1
 refine Zai (id:=75) (caps:=[]) rfl (Zp (v:=.p r_g 0) rfl (Zp (v:=.n v) rfl (Zp (v:=.n d) rfl ZK))) ca'1 ?_
 have hO'1:=hO.call hW'1 rfl
 refine Zg (Zcp (t:=x) rfl) (Zd (.b (!x)) rfl (Zc (Zb ?_)))
 rcases Zt hp with ⟨b'1,hp⟩ | ⟨b'1,hp⟩
 ·refine zB (t:=(!x)) rfl b'1 ?_
  refine Zi (Zl (Zd (.n 0) rfl (Zd (.n 2) rfl (Zc (Zb (zL (Zbd ?_)))))))
  refine zh (zf (zl (n:=6) (v:=.n 0) rfl (zl (n:=7) (v:=.n 2) rfl ZD)) ?_)
  cases hp
  exact ⟨v_g_cells,rfl,(hO'1.pick [0,1] rfl (by decide))⟩
 ·refine zz (t:=(!x)) rfl b'1 ?_
  refine zC (Zax (Zb (Zi (Zl (Zd (.p r_g 0) rfl (Zd (.n v) rfl (Zd (.n d) rfl ?_)))))))
  obtain ⟨⟨x1,x2,x3⟩,hx'2,hp⟩:=Zq hp
  obtain ⟨u'2,k'2,ca'2,rfl,hW'2⟩:=Za6.ok (h:=k'1)  (hO'1.box 0 rfl) (hO'1.sl 1 rfl) hx'2
  refine Zai (id:=54) (caps:=[]) rfl (Zp (v:=.p r_g 0) rfl (Zp (v:=.n v) rfl (Zp (v:=.n d) rfl ZK))) ca'2 ?_
  have hO'2:=hO'1.call hW'2 rfl
  refine Zd (.tu [.n x1,.n x2,.b x3]) rfl (Zg (Zad (vs:=[.n x1,.n x2,.b x3]) (v:=.n x1) rfl rfl) (Zg (Zad (vs:=[.n x1,.n x2,.b x3]) (v:=.n x2) rfl rfl) (Zg (Zad (vs:=[.n x1,.n x2,.b x3]) (v:=.b x3) rfl rfl) (Zd (.n x1) rfl (Zd (.n x2) rfl (Zd (.b x3) rfl (Zc ?_)))))))
  refine Zb (Zi (Zi (Zl (Zd (.b x3) rfl (Zg (Zcp (t:=x3) rfl) (Zc (Zb ?_)))))))
  rcases Zt hp with ⟨b'2,hp⟩ | ⟨b'2,hp⟩
  ·refine zB (t:=(!x3)) rfl b'2 ?_
   refine Zi (Zl (Zd (.n 0) rfl (Zd (.n 9) rfl (Zc (Zb (zL (zh ?_)))))))
   refine zf (zl (n:=6) (v:=.n 0) rfl (zl (n:=7) (v:=.n 9) rfl ZD)) ?_
   cases hp
   exact ⟨v_g_cells,rfl,(hO'2.pick [0,1] rfl (by decide))⟩
  ·refine zz (t:=(!x3)) rfl b'2 ?_
   refine zC (Zb (Zi (Zl (Zd (.p r_g 0) rfl ?_))))
   obtain ⟨⟨x4,x5,m⟩,hx'3,hp⟩:=Zq hp
   obtain ⟨u'3,k'3,ca'3,v'2,rfl,hW'3⟩:=Zbz.ok (h:=k'2) (g:=g) (hO'2.toM [0,1] rfl (by decide))  hx'3
   refine Zai (id:=50) (caps:=[]) rfl (Zp (v:=.p r_g 0) rfl ZK) ca'3 ?_
   have hO'3:=(hO'2.callM [0,1] [] rfl rfl (by decide) hW'3 rfl).pick [0,1] rfl (by decide)
   refine Zd (.tu [.n x4,.n x5]) rfl (Zg (Zad (vs:=[.n x4,.n x5]) (v:=.n x4) rfl rfl) (Zg (Zad (vs:=[.n x4,.n x5]) (v:=.n x5) rfl rfl) (Zd (.n x4) rfl (Zd (.n x5) rfl (Zc (Zb (Zi ?_)))))))
   refine Zi (Zl (Zd (.n x5) rfl (Zg (ZbK (a:=x5) (b:=0) rfl rfl) (Zc (Zb ?_)))))
   rcases Zt hp with ⟨b'3,hp⟩ | ⟨b'3,hp⟩
   ·refine zB (t:=(!(decide (x5 = 0)))) rfl b'3 ?_
    refine Zi (Zl (Zd (.n x5) rfl (Zd (.n 0) rfl (Zd (.n x5) rfl (Zc (Zb (zL ?_)))))))
    refine zh (zf (zl (n:=6) (v:=.n 0) rfl (zl (n:=7) (v:=.n x5) rfl ZD)) ?_)
    cases hp
    exact ⟨v'2,rfl,(hO'3.pick [0,1] rfl (by decide))⟩
   ·refine zz (t:=(!(decide (x5 = 0)))) rfl b'3 ?_
    refine zC (Zb (Zi (Zl (Zd (.p r_g 0) rfl (Zd (.n v) rfl (Zd (.n d) rfl (Zd (.n x4) rfl ?_)))))))
    refine Zd (.n x2) rfl ?_
    obtain ⟨m1,hx'4,hp⟩:=Zq hp
    obtain ⟨u'4,k'4,ca'4,v'3,rfl,hW'4⟩:=Zbf.ok (h:=k'3) (g:=m) (v:=v) (d:=d) (w:=x4) (owner:=x2) (hO'3.toM [0,1] rfl (by decide))  hx'4
    refine Zai (id:=76) (caps:=[]) rfl (Zp (v:=.p r_g 0) rfl (Zp (v:=.n v) rfl (Zp (v:=.n d) rfl (Zp (v:=.n x4) rfl (Zp (v:=.n x2) rfl ZK))))) ca'4 ?_
    have hO'4:=(hO'3.callM [0,1] [] rfl rfl (by decide) hW'4 rfl).pick [0,1] rfl (by decide)
    refine Zc (Zb (Zi (Zl (Zd (.p r_g 0) rfl (Zd (.n x4) rfl (Zd (.n d) rfl (Zd (.n x1) rfl ?_)))))))
    refine Zd (.n x2) rfl ?_
    obtain ⟨m2,hx'5,hp⟩:=Zq hp
    obtain ⟨u'5,k'5,ca'5,v'4,rfl,hW'5⟩:=Zbf.ok (h:=k'4) (g:=m1) (v:=x4) (d:=d) (w:=x1) (owner:=x2) (hO'4.toM [0,1] rfl (by decide))  hx'5
    refine Zai (id:=76) (caps:=[]) rfl (Zp (v:=.p r_g 0) rfl (Zp (v:=.n x4) rfl (Zp (v:=.n d) rfl (Zp (v:=.n x1) rfl (Zp (v:=.n x2) rfl ZK))))) ca'5 ?_
    have hO'5:=(hO'4.callM [0,1] [] rfl rfl (by decide) hW'5 rfl).pick [0,1] rfl (by decide)
    refine Zc (Zb (Zi (Zl (Zd (.n x4) rfl (Zd (.n x4) rfl (Zd (.n 0) rfl (Zc ?_)))))))
    refine Zb (zL (zf (zl (n:=6) (v:=.n x4) rfl (zl (n:=7) (v:=.n 0) rfl ZD)) ?_))
    cases hp
    exact ⟨v'4,rfl,(hO'5.pick [0,1] rfl (by decide))⟩

theorem ZcJ.ok {h:Hp} {g:ZQ} {r_g:Nat} {v_g_cells:V} (H:Own (Bm h [ZaD r_g [v_g_cells],eSl Ze v_g_cells g.cells]) h h [ZaD r_g [v_g_cells],eSl Ze v_g_cells g.cells]) {r:Bool × Int × ZQ} (hp:ZcJ g = some r) :
  ∃ u k',Is G 276 [.p r_g 0] h u k'∧∃ (v'1:V),V.tu [.b r.1,.n r.2.1] = u∧Own (Bm h [ZaD r_g [v_g_cells],eSl Ze v_g_cells g.cells]) h k' [ZaD r_g [v'1],eSl Ze v'1 r.2.2.cells]:=by
 refine WC.is (Za7 Zga ?_)
 unfold ZcJ at hp
 let B:Nat→Prop:=(Bm h [ZaD r_g [v_g_cells],eSl Ze v_g_cells g.cells])
 have hO:Own B h h [ZaD r_g [v_g_cells],eSl Ze v_g_cells g.cells]:=H
 refine Zi (Zl (Zd (.b false) rfl (Zd (.n 0) rfl (Zc (Zb (Zi (Zl ?_)))))))
 refine Zd (.p r_g 0) rfl ?_
 obtain ⟨x,hx'1,hp⟩:=Zq hp
 obtain ⟨u'1,k'1,ca'1,v'2,rfl,hW'1⟩:=ZaJ.ok (h:=h)  (hO.box 0 rfl) (hO.sl 1 rfl) hx'1
 refine Zai (id:=57) (caps:=[]) rfl (Zp (v:=.p r_g 0) rfl ZK) ca'1 ?_
 have hO'1:=hO.call hW'1 rfl
 refine Zd v'2 rfl (Zc (Zb (Zi (Zl (Zd v'2 rfl ?_)))))
 obtain ⟨⟨x1,x2,x3⟩,hx'2,hp⟩:=Zq hp
 obtain ⟨u'2,k'2,ca'2,rfl,hW'2⟩:=ZaL.ok (h:=k'1)  (hO'1.sl 2 rfl) hx'2
 refine Zai (id:=178) (caps:=[]) rfl (Zp (v:=v'2) rfl ZK) ca'2 ?_
 have hO'2:=hO'1.call hW'2 rfl
 refine Zd (.tu [.n x1,.n x2,.b x3]) rfl (Zg (Zad (vs:=[.n x1,.n x2,.b x3]) (v:=.n x1) rfl rfl) (Zg (Zad (vs:=[.n x1,.n x2,.b x3]) (v:=.n x2) rfl rfl) (Zg (Zad (vs:=[.n x1,.n x2,.b x3]) (v:=.b x3) rfl rfl) (Zd (.n x1) rfl (Zd (.n x2) rfl (Zd (.b x3) rfl (Zc ?_)))))))
 refine Zb (Zi (Zi (Zl (Zd (.b x3) rfl (Zg (Zcp (t:=x3) rfl) (Zc (Zb ?_)))))))
 rcases Zt hp with ⟨b'1,hp⟩ | ⟨b'1,hp⟩
 ·refine zB (t:=(!x3)) rfl b'1 ?_
  refine Zi (Zl (Zd (.b false) rfl (Zd (.n 0) rfl (Zc (Zb (zL (zh ?_)))))))
  refine zf (zl (n:=2) (v:=.b false) rfl (zl (n:=3) (v:=.n 0) rfl ZD)) ?_
  cases hp
  exact ⟨v_g_cells,rfl,(hO'2.pick [0,1] rfl (by decide))⟩
 ·refine zz (t:=(!x3)) rfl b'1 ?_
  refine zC (Zb (Zi (Zl (Zd v'2 rfl ?_))))
  obtain ⟨⟨x4,x5⟩,hx'3,hp⟩:=Zq hp
  obtain ⟨u'3,k'3,ca'3,v'3,vs'1,rfl,hW'3⟩:=zx.ok (h:=k'2)  (hO'2.sl 2 rfl) hx'3
  refine Zai (id:=203) (caps:=[]) rfl (Zp (v:=v'2) rfl ZK) ca'3 ?_
  have hO'3:=hO'2.call hW'3 rfl
  refine Zd (.tu [v'3,.n x5]) rfl (Zg (Zad (vs:=[v'3,.n x5]) (v:=v'3) rfl rfl) (Zg (Zad (vs:=[v'3,.n x5]) (v:=.n x5) rfl rfl) (Zd v'3 rfl (Zd (.n x5) rfl (Zc (Zb (Zi ?_)))))))
  refine Zl (Zd v'2 rfl (Zd v'3 rfl (Zd (.n x1) rfl ?_)))
  obtain ⟨c'1,hp⟩:=Zn hp
  refine Zg (zt (E:=eV) (z:=x1) (hO'3.sl 3 rfl) rfl rfl (by rw [(hO'3.allLen 4 rfl:(vs'1).length = (x4).length)]; exact c'1)) (Zg (zX (w:=(gi vs'1 x1.toNat)) (hO'3.sl 3 rfl) rfl (by rw [(hO'3.allLen 4 rfl:(vs'1).length = (x4).length)]; exact Zj c'1) rfl) ?_)
  obtain ⟨x6,hx'4,hp⟩:=Zq hp
  obtain ⟨u'4,k'4,ca'4,v'4,rfl,hW'4⟩:=Za2.ok (h:=k'3)  (hO'3.sl 2 rfl) (hO'3.inn 4 rfl (Zj c'1):Sl Zf k'3 (gi vs'1 x1.toNat) (gi x4 x1.toNat)) hx'4
  refine Zai (id:=204) (caps:=[]) rfl (Zp (v:=v'2) rfl (Zp (v:=(gi vs'1 x1.toNat)) rfl ZK)) ca'4 ?_
  have hO'4:=hO'3.call hW'4 rfl
  refine Zd (.n x2) rfl ?_
  obtain ⟨⟨x7,x8⟩,hx'5,hp⟩:=Zq hp
  obtain ⟨u'5,k'5,ca'5,rfl,hW'5⟩:=ZaT.ok (h:=k'4)  (hO'4.sl 5 rfl) hx'5
  refine Zai (id:=13) (caps:=[]) rfl (Zp (v:=v'4) rfl (Zp (v:=.n x2) rfl ZK)) ca'5 ?_
  have hO'5:=hO'4.call hW'5 rfl
  refine Zd (.tu [.n x7,.b x8]) rfl (Zg (Zad (vs:=[.n x7,.b x8]) (v:=.n x7) rfl rfl) (Zg (Zad (vs:=[.n x7,.b x8]) (v:=.b x8) rfl rfl) (Zd (.n x7) rfl (Zd (.b x8) rfl (Zc (Zb (Zi ?_)))))))
  refine Zh8 ?_
  have hW:=hO'5.bump 18
  have fr'1:=Fresh.start k'5 18
  have nb'1:∀ {i:Nat},h.n≤k'5.n + i:=Nat.le_trans hO'5.n (Nat.le_add_right _ _)
  have hO'6:=hW
  refine ZbD v'3 rfl (ZbD (.n x1) rfl (Zar (zt (E:=eV) (z:=x1) (hO'6.sl 3 rfl) rfl rfl (by rw [(hO'6.allLen 4 rfl:(vs'1).length = (x4).length)]; exact c'1)) (Zar (zX (w:=(gi vs'1 x1.toNat)) (hO'6.sl 3 rfl) rfl (by rw [(hO'6.allLen 4 rfl:(vs'1).length = (x4).length)]; exact Zj c'1) rfl) (ZbD (.n x2) rfl ?_))))
  obtain ⟨c'2,hp⟩:=Zn hp
  refine Zar (zt (E:=Zf) (z:=x2) (hO'6.inn 4 rfl (Zj c'1):Sl Zf (k'5.bump 18) (gi vs'1 x1.toNat) (gi x4 x1.toNat)) rfl rfl c'2) (Zar (ZfI (E:=Zf) (hO'6.inn 4 rfl (Zj c'1):Sl Zf (k'5.bump 18) (gi vs'1 x1.toNat) (gi x4 x1.toNat)) rfl (Zj c'2)) (ZbD v'3 rfl (ZbD (.n x1) rfl (Zar (zt (E:=eV) (z:=x1) (hO'6.sl 3 rfl) rfl rfl (by rw [(hO'6.allLen 4 rfl:(vs'1).length = (x4).length)]; exact c'1)) (Zar (zX (w:=(gi vs'1 x1.toNat)) (hO'6.sl 3 rfl) rfl (by rw [(hO'6.allLen 4 rfl:(vs'1).length = (x4).length)]; exact Zj c'1) rfl) (ZbD (.n x7) rfl ?_))))))
  obtain ⟨c'3,hp⟩:=Zn hp
  refine Zar (zt (E:=Zf) (z:=x7) (hO'6.inn 4 rfl (Zj c'1):Sl Zf (k'5.bump 18) (gi vs'1 x1.toNat) (gi x4 x1.toNat)) rfl rfl c'3) (Zar (ZfI (E:=Zf) (hO'6.inn 4 rfl (Zj c'1):Sl Zf (k'5.bump 18) (gi vs'1 x1.toNat) (gi x4 x1.toNat)) rfl (Zj c'3)) (ZfM (hO'6.alloc (cs:=Zf.c (⟨0,0⟩:Zr)) ⟨fr'1.m 14 (by decide) (by decide),nb'1⟩) ?_))
  rintro _ k'7 z'1 ⟨r'1,rfl,n'1,f'1,hW⟩
  have fr'2:=fr'1.kept f'1 (by decide)
  have hO'7:=hW
  refine ZfM (hO'7.alloc (cs:=Zf.c (⟨0,0⟩:Zr)) ⟨fr'2.m 15 (by decide) (by decide),nb'1⟩) ?_
  rintro _ k'8 z'2 ⟨r'2,rfl,n'2,f'2,hW⟩
  have fr'3:=fr'2.kept f'2 (by decide)
  have hO'8:=hW
  refine ZfM (hO'8.stb (ws:=Zf.c (gi (gi x4 x1.toNat) x2.toNat)) (cs':=Zf.c (gi (gi x4 x1.toNat) x2.toNat)) (v:=.ag (Zf.c (gi (gi x4 x1.toNat) x2.toNat))) 6 rfl rfl rfl rfl ⟨rfl,Nat.le_of_ble_eq_true rfl,rfl⟩ rfl) ?_
  rintro _ k'9 z'3 ⟨rfl,f'3,m'1,hW⟩
  have fr'4:=fr'3.kept f'3 (by decide)
  have hO'9:=hW
  refine ZfM (hO'9.stb (ws:=Zf.c (gi (gi x4 x1.toNat) x7.toNat)) (cs':=Zf.c (gi (gi x4 x1.toNat) x7.toNat)) (v:=.ag (Zf.c (gi (gi x4 x1.toNat) x7.toNat))) 7 rfl rfl rfl rfl ⟨rfl,Nat.le_of_ble_eq_true rfl,rfl⟩ rfl) ?_
  rintro _ k'10 z'4 ⟨rfl,f'4,m'2,hW⟩
  have fr'5:=fr'4.kept f'4 (by decide)
  have hO'10:=hW
  refine Zdn ?_
  refine And.intro ?_ ?_
  ·intro q hq
   simp only [List.mem_cons,List.not_mem_nil,or_false] at hq
   rcases hq with rfl | rfl | rfl | rfl | rfl | rfl | rfl | rfl | rfl | rfl | rfl | rfl | rfl | rfl | rfl
   ·refine Zct ?_ ?_
    ·exact (fun h=>nomatch h)
    ·exact (fun h=>nomatch h)
   ·refine Zct ?_ ?_
    ·exact (fun h=>nomatch h)
    ·exact (fun h=>nomatch h)
   ·refine Zct ?_ ?_
    ·exact (fun h=>nomatch h)
    ·exact (fun h=>nomatch h)
   ·refine Zct ?_ ?_
    ·exact (fun h=>nomatch h)
    ·exact (fun h=>nomatch h)
   ·refine Zct ?_ ?_
    ·exact (fun h=>nomatch h)
    ·exact (fun _ hm=>Nat.lt_irrefl _ (Nat.lt_of_lt_of_le (hO'5.ltAt 3 rfl _ (Zcl (tch (v:=V.elt v'3 x1.toNat 0) (Zdj hm) rfl))) (Nat.le_add_right _ _)))
   ·refine Zct ?_ ?_
    ·exact (fun h=>nomatch h)
    ·exact (fun _ hm=>Nat.lt_irrefl _ (Nat.lt_of_lt_of_le (hO'5.ltAt 4 rfl _ (ZfD (j:=x1.toNat) (by have q:(vs'1).length = (x4).length:=hO'5.allLen 4 rfl; have:=c'1; omega) (Zcl (tch (v:=V.elt (gi vs'1 x1.toNat) x2.toNat 0) (Zdj hm) rfl)))) (Nat.le_add_right _ _)))
   ·refine Zct ?_ ?_
    ·exact (fun h=>nomatch h)
    ·exact (fun _ hm=>Nat.lt_irrefl _ (Nat.lt_of_lt_of_le (hO'5.ltAt 3 rfl _ (Zcl (tch (v:=V.elt v'3 x1.toNat 0) (Zdj hm) rfl))) (Nat.le_add_right _ _)))
   ·refine Zct ?_ ?_
    ·exact (fun h=>nomatch h)
    ·exact (fun _ hm=>Nat.lt_irrefl _ (Nat.lt_of_lt_of_le (hO'5.ltAt 4 rfl _ (ZfD (j:=x1.toNat) (by have q:(vs'1).length = (x4).length:=hO'5.allLen 4 rfl; have:=c'1; omega) (Zcl (tch (v:=V.elt (gi vs'1 x1.toNat) x7.toNat 0) (Zdj hm) rfl)))) (Nat.le_add_right _ _)))
   ·refine Zct ?_ ?_
    ·exact (fun h=>nomatch h)
    ·exact (fun _ hm=>Nat.lt_irrefl _ (Nat.lt_of_lt_of_le (hO'5.ltAt 3 rfl _ (Zcl (tch (v:=V.elt v'3 x1.toNat 0) (Zdj hm) rfl))) (Nat.le_add_right _ _)))
   ·refine Zct ?_ ?_
    ·exact (fun h=>nomatch h)
    ·exact (fun _ hm=>Nat.lt_irrefl _ (Nat.lt_of_lt_of_le (hO'5.ltAt 4 rfl _ (ZfD (j:=x1.toNat) (by have q:(vs'1).length = (x4).length:=hO'5.allLen 4 rfl; have:=c'1; omega) (Zcl (tch (v:=V.elt (gi vs'1 x1.toNat) x2.toNat 0) (Zdj hm) rfl)))) (Nat.le_add_right _ _)))
   ·refine Zct ?_ ?_
    ·exact (fun h=>nomatch h)
    ·exact (fun _ hm=>Nat.lt_irrefl _ (Nat.lt_of_lt_of_le (hO'5.ltAt 3 rfl _ (Zcl (tch (v:=V.elt v'3 x1.toNat 0) (Zdj hm) rfl))) (Nat.le_add_right _ _)))
   ·refine Zct ?_ ?_
    ·exact (fun h=>nomatch h)
    ·exact (fun _ hm=>Nat.lt_irrefl _ (Nat.lt_of_lt_of_le (hO'5.ltAt 4 rfl _ (ZfD (j:=x1.toNat) (by have q:(vs'1).length = (x4).length:=hO'5.allLen 4 rfl; have:=c'1; omega) (Zcl (tch (v:=V.elt (gi vs'1 x1.toNat) x7.toNat 0) (Zdj hm) rfl)))) (Nat.le_add_right _ _)))
   ·refine Zct ?_ ?_
    ·exact (fun _=>List.not_mem_nil)
    ·exact (fun _=>List.not_mem_nil)
   ·refine Znm ?_ ?_ ?_
    ·exact (fun r h1 h2=>by have h3:=(hO'5.ltAt 3 rfl _ (Zcl (tch (v:=V.elt v'3 x1.toNat 0) (Zdj h1) rfl))); have h4:=(Zkl n'1 (tch (v:=V.p r'1 0) (Zny h2) rfl)); omega)
    ·exact (fun h=>nomatch h)
    ·exact (fun _ hm=>Nat.lt_irrefl _ (Nat.lt_of_lt_of_le (hO'5.ltAt 3 rfl _ (Zcl (tch (v:=V.elt v'3 x1.toNat 0) (Zdj hm) rfl))) (Nat.le_add_right _ _)))
   ·refine Znm ?_ ?_ ?_
    ·exact (fun r h1 h2=>by have h3:=(hO'5.ltAt 4 rfl _ (ZfD (j:=x1.toNat) (by have q:(vs'1).length = (x4).length:=hO'5.allLen 4 rfl; have:=c'1; omega) (Zcl (tch (v:=V.elt (gi vs'1 x1.toNat) x7.toNat 0) (Zdj h1) rfl)))); have h4:=(Zkl n'1 (tch (v:=V.p r'1 0) (Zny h2) rfl)); omega)
    ·exact (fun h=>nomatch h)
    ·exact (fun _ hm=>Nat.lt_irrefl _ (Nat.lt_of_lt_of_le (hO'5.ltAt 4 rfl _ (ZfD (j:=x1.toNat) (by have q:(vs'1).length = (x4).length:=hO'5.allLen 4 rfl; have:=c'1; omega) (Zcl (tch (v:=V.elt (gi vs'1 x1.toNat) x7.toNat 0) (Zdj hm) rfl)))) (Nat.le_add_right _ _)))
  refine Zb (Zi (Zl (Zd (.p r_g 0) rfl (Zg (Zbv (r:=r'1) (o:=0) (o':=0) rfl rfl) (Zg (ZaK (cs:=(Zf.c (gi (gi x4 x1.toNat) x2.toNat))) (v:=.n ((gi (gi x4 x1.toNat) x2.toNat).Cell)) (hO'10.box 6 rfl) rfl rfl) (Zg (Zbv (r:=r'1) (o:=0) (o':=1) rfl rfl) (Zg (ZaK (cs:=(Zf.c (gi (gi x4 x1.toNat) x2.toNat))) (v:=.n ((gi (gi x4 x1.toNat) x2.toNat).Dir)) (hO'10.box 6 rfl) rfl rfl) ?_)))))))
  obtain ⟨⟨x9,x10,x11⟩,hx'6,hp⟩:=Zq hp
  obtain ⟨u'6,k'11,ca'6,rfl,hW'6⟩:=Za6.ok (h:=k'10)  (hO'10.box 0 rfl) (hO'10.sl 1 rfl) hx'6
  refine Zai (id:=54) (caps:=[]) rfl (Zp (v:=.p r_g 0) rfl (Zp (v:=.n ((gi (gi x4 x1.toNat) x2.toNat).Cell)) rfl (Zp (v:=.n ((gi (gi x4 x1.toNat) x2.toNat).Dir)) rfl ZK))) ca'6 ?_
  have hO'11:=hO'10.call hW'6 rfl
  refine Zd (.tu [.n x9,.n x10,.b x11]) rfl (Zg (Zad (vs:=[.n x9,.n x10,.b x11]) (v:=.n x9) rfl rfl) (Zg (Zad (vs:=[.n x9,.n x10,.b x11]) (v:=.n x10) rfl rfl) (Zg (Zad (vs:=[.n x9,.n x10,.b x11]) (v:=.b x11) rfl rfl) (Zd (.n x9) rfl (Zd (.n x10) rfl (Zd (.b x11) rfl (Zc ?_)))))))
  refine Zb (Zi (Zl (Zd (.p r_g 0) rfl (Zg (Zbv (r:=r'2) (o:=0) (o':=0) rfl rfl) (Zg (ZaK (cs:=(Zf.c (gi (gi x4 x1.toNat) x7.toNat))) (v:=.n ((gi (gi x4 x1.toNat) x7.toNat).Cell)) (hO'11.box 7 rfl) rfl rfl) (Zg (Zbv (r:=r'2) (o:=0) (o':=1) rfl rfl) (Zg (ZaK (cs:=(Zf.c (gi (gi x4 x1.toNat) x7.toNat))) (v:=.n ((gi (gi x4 x1.toNat) x7.toNat).Dir)) (hO'11.box 7 rfl) rfl rfl) ?_)))))))
  obtain ⟨⟨x12,x13,m⟩,hx'7,hp⟩:=Zq hp
  obtain ⟨u'7,k'12,ca'7,v'5,rfl,hW'7⟩:=Zbp.ok (h:=k'11) (g:=g) (v:=((gi (gi x4 x1.toNat) x7.toNat).Cell)) (d:=((gi (gi x4 x1.toNat) x7.toNat).Dir)) (hO'11.toM [0,1] rfl (by decide))  hx'7
  refine Zai (id:=48) (caps:=[]) rfl (Zp (v:=.p r_g 0) rfl (Zp (v:=.n ((gi (gi x4 x1.toNat) x7.toNat).Cell)) rfl (Zp (v:=.n ((gi (gi x4 x1.toNat) x7.toNat).Dir)) rfl ZK))) ca'7 ?_
  have hO'12:=(hO'11.callM [0,1] [2,3,4,5,6,7] rfl rfl (by decide) hW'7 rfl).pick [6,7,0,1,2,3,4,5] rfl (by decide)
  refine Zd (.tu [.n x12,.n x13]) rfl (Zg (Zad (vs:=[.n x12,.n x13]) (v:=.n x12) rfl rfl) (Zg (Zad (vs:=[.n x12,.n x13]) (v:=.n x13) rfl rfl) (Zd (.n x12) rfl (Zd (.n x13) rfl (Zc (Zb (Zi ?_)))))))
  refine Zi (Zl (Zd (.n x13) rfl (Zg (ZbK (a:=x13) (b:=0) rfl rfl) (Zc (Zb ?_)))))
  rcases Zt hp with ⟨b'2,hp⟩ | ⟨b'2,hp⟩
  ·refine zB (t:=(!(decide (x13 = 0)))) rfl b'2 ?_
   refine Zi (Zl (Zd (.n x13) rfl (Zd (.b false) rfl (Zd (.n x13) rfl (Zc (Zb (zL ?_)))))))
   refine zh (zf (zl (n:=2) (v:=.b false) rfl (zl (n:=3) (v:=.n x13) rfl ZD)) ?_)
   cases hp
   exact ⟨v'5,rfl,(hO'12.pick [0,1] rfl (by decide))⟩
  ·refine zz (t:=(!(decide (x13 = 0)))) rfl b'2 ?_
   refine zC (Zb (Zi (Zl (Zd (.p r_g 0) rfl (Zd (.n x9) rfl (Zg (Zbv (r:=r'1) (o:=0) (o':=1) rfl rfl) (Zg (ZaK (cs:=(Zf.c (gi (gi x4 x1.toNat) x2.toNat))) (v:=.n ((gi (gi x4 x1.toNat) x2.toNat).Dir)) (hO'12.box 6 rfl) rfl rfl) ?_)))))))
   refine Zd (.n x12) rfl ?_
   obtain ⟨⟨x14,m1⟩,hx'8,hp⟩:=Zq hp
   obtain ⟨u'8,k'13,ca'8,v'6,rfl,hW'8⟩:=zM.ok (h:=k'12) (g:=m) (v:=x9) (d:=((gi (gi x4 x1.toNat) x2.toNat).Dir)) (w:=x12) (owner:=(-2)) (hO'12.toM [0,1] rfl (by decide))  hx'8
   refine Zai (id:=52) (caps:=[]) rfl (Zp (v:=.p r_g 0) rfl (Zp (v:=.n x9) rfl (Zp (v:=.n ((gi (gi x4 x1.toNat) x2.toNat).Dir)) rfl (Zp (v:=.n x12) rfl (Zp (v:=.n (-2)) rfl ZK))))) ca'8 ?_
   have hO'13:=(hO'12.callM [0,1] [2,3,4,5,6,7] rfl rfl (by decide) hW'8 rfl).pick [6,7,0,1,2,3,4,5] rfl (by decide)
   refine Zd (.b true) rfl (Zd (.n x14) rfl (Zc (Zb (zL (zf (zl (n:=2) (v:=.b true) rfl (zl (n:=3) (v:=.n x14) rfl ZD)) ?_)))))
   cases hp
   exact ⟨v'6,rfl,(hO'13.pick [0,1] rfl (by decide))⟩

theorem Zam.ok {h:Hp} {cells:List Za} {v_cells:V} (s_cells:Sl Ze h v_cells cells) {r:(List Za) × Int} (hp:Zam cells = some r) :
  ∃ u k',Is G 266 [v_cells] h u k'∧∃ (v'1:V),V.tu [v'1,.n r.2] = u∧Own (fun r=>r < h.n) h k' [eSl Ze v'1 r.1]:=by
 refine WC.is (Za7 Zfd ?_)
 unfold Zam at hp
 let B:Nat→Prop:=(fun r=>r < h.n)
 have hO:Own B h h []:=Own.start0 h
 refine Zi (Zl (Zd (.sn) rfl (Zd (.n 0) rfl (Zc (Zb (Zi (Zl ?_)))))))
 refine Zd v_cells rfl ?_
 obtain ⟨⟨x,x1⟩,hx'1,hp⟩:=Zq hp
 obtain ⟨u'1,k'1,ca'1,r'1,v'2,rfl,hW'1⟩:=Zbg.ok (h:=h)  (hO.rd0 s_cells.rd) hx'1
 refine Zai (id:=275) (caps:=[]) rfl (Zp (v:=v_cells) rfl ZK) ca'1 ?_
 have hO'1:=hO.call hW'1 rfl
 refine Zd (.tu [(if (x).isSome = true then V.p r'1 0 else V.pn),.n x1]) rfl (Zg (Zad (vs:=[(if (x).isSome = true then V.p r'1 0 else V.pn),.n x1]) (v:=(if (x).isSome = true then V.p r'1 0 else V.pn)) rfl rfl) (Zg (Zad (vs:=[(if (x).isSome = true then V.p r'1 0 else V.pn),.n x1]) (v:=.n x1) rfl rfl) (Zd ((if (x).isSome = true then V.p r'1 0 else V.pn)) rfl (Zd (.n x1) rfl (Zc (Zb (Zi ?_)))))))
 refine Zay (Zi (Zl (Zd (.n x1) rfl (Zg (ZbE (a:=x1) (b:=2) rfl rfl) (Zd (.b (decide (x1 = 2))) rfl (Zc (Zb ?_)))))))
 rcases Zt hp with ⟨b'1,hp⟩ | ⟨b'1,hp⟩
 ·refine zB (t:=(decide (x1 = 2))) rfl b'1 ?_
  refine Zi (Zl (Zd v_cells rfl ?_))
  obtain ⟨x2,hx'2,hp⟩:=Zq hp
  obtain ⟨u'2,k'2,ca'2,v'3,rfl,hW'2⟩:=zZ.ok (h:=k'1)  (hO'1.rd0 s_cells.rd) hx'2
  refine Zai (id:=51) (caps:=[]) rfl (Zp (v:=v_cells) rfl ZK) ca'2 ?_
  have hO'2:=hO'1.call hW'2 rfl
  refine Zd v'3 rfl (Zd (.n 0) rfl (Zc (Zb (zL (Zbd (zh (zf (zl (n:=2) (v:=v'3) rfl (zl (n:=3) (v:=.n 0) rfl ZD)) ?_)))))))
  cases hp
  exact ⟨v'3,rfl,(hO'2.pick [2] rfl (by decide))⟩
 ·refine zz (t:=(decide (x1 = 2))) rfl b'1 ?_
  refine Zi (Zl (Zd (.n x1) rfl (Zg (ZbK (a:=x1) (b:=0) rfl rfl) (Zd (.b (!(decide (x1 = 0)))) rfl (Zc (Zb ?_))))))
  rcases Zt hp with ⟨b'2,hp⟩ | ⟨b'2,hp⟩
  ·refine zB (t:=(!(decide (x1 = 0)))) rfl b'2 ?_
   refine Zi (Zl (Zd (.n x1) rfl (Zd (.sn) rfl (Zd (.n x1) rfl (Zc (Zb (zL ?_)))))))
   refine Zbd (zh ?_)
   have hO'3:=hO'1.nil Ze
   refine zf (zl (n:=2) (v:=.sn) rfl (zl (n:=3) (v:=.n x1) rfl ZD)) ?_
   cases hp
   exact ⟨V.sn,rfl,(hO'3.pick [2] rfl (by decide))⟩
  ·refine zz (t:=(!(decide (x1 = 0)))) rfl b'2 ?_
   refine zC (Zax (Zb (Zi (Zi (Zl (Zd (.b true) rfl (Zc ?_)))))))
   refine Zb (Zay ?_)
   obtain ⟨g,hg'1,hp⟩:=Zq hp
   replace hg'1:x = some g:=hg'1
   have hO'4:Own B h k'1 [ZaD r'1 [v'2],eSl Ze v'2 g.cells]:=by have hq:=hO'1; rw [hg'1] at hq; exact hq
   obtain ⟨o'1,ho'1,hp⟩:=Zq hp
   refine W.mono (Q:=fun e fr k=>match (generalizing:=false) o'1 with
     | .inl g2=>e = (.exit 1)∧∃ (v'5:V),fr 4 = .p r'1 0∧Own B h k [ZaD r'1 [v'5],eSl Ze v'5 g2]
     | .inr x3=>e = .ret∧fr 2 = .sn∧fr 3 = .n x3∧Own B h k []) ?_ ?_
   ·clear hp
    refine zU (fun st fr k=>match st with | (g1,more)=>∃ (v'4:V),fr 4 = .p r'1 0∧fr 6 = .b more∧Own B h k [ZaD r'1 [v'4],eSl Ze v'4 g1]) ho'1 (s:=(g.cells,true)) ⟨v'2,(unw hg'1),rfl,(hO'4.pick [0,1] rfl (by decide))⟩ ?_
    rintro ⟨g1,more⟩ q'2 k'4 ⟨v'4,q'2_4,q'2_6,hO'6⟩ o'2 hp
    dsimp only [Zam.s0] at hp
    refine Zi (Zi (Zl (Zd (.b more) q'2_6 (Zc (Zb ?_)))))
    rcases Zt hp with ⟨b'3,hp⟩ | ⟨b'3,hp⟩
    ·refine zB (t:=more) rfl b'3 ?_
     refine zC (Zb (Zay (Zi (Zl (Zd (.p r'1 0) q'2_4 ?_)))))
     obtain ⟨⟨x4,x5,m⟩,hx'3,hp⟩:=Zq hp
     obtain ⟨u'3,k'5,ca'3,v'6,rfl,hW'3⟩:=ZcJ.ok (h:=k'4) (g:=(⟨g1⟩:ZQ)) (hO'6.toM [0,1] rfl (by decide))  hx'3
     refine Zai (id:=276) (caps:=[]) rfl (Zp (v:=.p r'1 0) rfl ZK) ca'3 ?_
     have hO'7:=(hO'6.callM [0,1] [] rfl rfl (by decide) hW'3 rfl).pick [0,1] rfl (by decide)
     refine Zd (.tu [.b x4,.n x5]) rfl (Zg (Zad (vs:=[.b x4,.n x5]) (v:=.b x4) rfl rfl) (Zg (Zad (vs:=[.b x4,.n x5]) (v:=.n x5) rfl rfl) (Zd (.b x4) rfl (Zd (.n x5) rfl (Zc (Zb (Zi ?_)))))))
     refine Zl (Zd (.n x5) rfl (Zg (ZbK (a:=x5) (b:=0) rfl rfl) (Zc (Zb ?_))))
     rcases Zt hp with ⟨b'4,hp⟩ | ⟨b'4,hp⟩
     ·refine zB (t:=(!(decide (x5 = 0)))) rfl b'4 ?_
      refine Zi (Zl (Zd (.n x5) rfl (Zd (.sn) rfl (Zd (.n x5) rfl (Zc (Zb (zL ?_)))))))
      refine Zbd ?_
      cases hp
      refine (Or.inr ⟨.inr x5,rfl,(fun h=>nomatch h),(fun he=>?_)⟩)
      subst he; exact ⟨rfl,rfl,rfl,(hO'7.pick [] rfl (by decide))⟩
     ·refine zz (t:=(!(decide (x5 = 0)))) rfl b'4 ?_
      refine zC (Zax ?_)
      cases hp
      exact (Or.inl ⟨(m.cells,x4),rfl,rfl,v'6,q'2_4,rfl,(hO'7.pick [0,1] rfl (by decide))⟩)
    ·refine zz (t:=more) rfl b'3 ?_
     refine ZbM (Zak ?_)
     cases hp
     refine (Or.inr ⟨.inl g1,rfl,(fun h=>nomatch h),(fun he=>?_)⟩)
     subst he; exact ⟨rfl,v'4,q'2_4,(hO'6.pick [0,1] rfl (by decide))⟩
   intro e'1 q'1 k'3 hJ'1
   rcases o'1 with g2 | x3
   ·obtain ⟨rfl,v'5,q'1_4,hO'5⟩:=hJ'1
    refine ZaN (Zb (Zi (Zl (Zd (.p r'1 0) q'1_4 ?_))))
    obtain ⟨x6,hx'4,hp⟩:=Zq hp
    obtain ⟨u'4,k'6,ca'4,v'7,rfl,hW'4⟩:=ZaJ.ok (h:=k'3)  (hO'5.box 0 rfl) (hO'5.sl 1 rfl) hx'4
    refine Zai (id:=57) (caps:=[]) rfl (Zp (v:=.p r'1 0) rfl ZK) ca'4 ?_
    have hO'8:=hO'5.call hW'4 rfl
    refine Zd v'7 rfl (Zd (.n 0) rfl (Zc (Zb (zL (zf (zl (n:=2) (v:=v'7) rfl (zl (n:=3) (v:=.n 0) rfl ZD)) ?_)))))
    cases hp
    exact ⟨v'7,rfl,(hO'8.pick [2] rfl (by decide))⟩
   ·obtain ⟨rfl,q'1_2,q'1_3,hO'5⟩:=hJ'1
    refine Zbd (zh ?_)
    have hO'9:=hO'5.nil Ze
    refine zf (zl (n:=2) (v:=.sn) q'1_2 (zl (n:=3) (v:=.n x3) q'1_3 ZD)) ?_
    cases hp
    exact ⟨V.sn,rfl,(hO'9.pick [0] rfl (by decide))⟩

theorem Zb6.ok {h:Hp} {l:List Za} {v:Int} {d:Int} {w:Int} {o:Int} {v_l:V} (H:Own (Bm h [eSl Ze v_l l]) h h [eSl Ze v_l l]) {r:(List Za) × Int} (hp:Zb6 l v d w o = some r) :
  ∃ u k',Is G 53 [v_l,.n v,.n d,.n w,.n o] h u k'∧∃ (v'1:V),V.tu [v'1,.n r.2] = u∧Own (Bm h [eSl Ze v_l l]) h k' [eSl Ze v'1 r.1]:=by
 refine WC.is (Za7 ZdM ?_)
 unfold Zb6 at hp
 let B:Nat→Prop:=(Bm h [eSl Ze v_l l])
 have hO:Own B h h [eSl Ze v_l l]:=H
 refine Zi (Zl (Zd (.sn) rfl (Zd (.n 0) rfl (Zc (Zb (Zi (Zi ?_)))))))
 refine Zl (Zd (.n v) rfl (Zg (zO (a:=v) (b:=0) rfl rfl) (Zd (.b (decide (v < 0))) rfl ?_)))
 refine Zaa 5 (fun fr' k'=>h = k'∧fr' 20 = .b ((decide (v < 0)) || (decide ((l.length:Int)≤v)))∧fr' 0 = v_l∧fr' 1 = .n v∧fr' 2 = .n d∧fr' 3 = .n w∧fr' 4 = .n o) ?_ ?_
 ·rcases bc (decide (v < 0)) with b'1 | b'1
  ·skip
   refine Zw rfl b'1 (Zw rfl b'1 (Zw rfl b'1 (Zw rfl b'1 (Zg (za (t:=(decide (v < 0))) (v:=.b ((decide (v < 0)) || (decide ((l.length:Int)≤v)))) rfl b'1 (Eq.trans (b:=V.b true) rfl (Zbs b'1))) (Zc ?_)))))
   exact ⟨rfl,rfl,rfl,rfl,rfl,rfl,rfl⟩
  ·skip
   refine Z7 rfl b'1 (Zd (.n v) rfl (Z7 rfl b'1 (Zd v_l rfl (Z7 rfl b'1 (Zg (ZaC (hO.sl 0 rfl) rfl) (Z7 rfl b'1 (Zg (ZcA (a:=v) (b:=(l.length:Int)) rfl rfl) ?_)))))))
   refine Zg (ZU (t:=(decide (v < 0))) (v:=.b ((decide (v < 0)) || (decide ((l.length:Int)≤v)))) rfl b'1 (Eq.trans (b:=V.b (decide ((l.length:Int)≤v))) rfl (Zcc b'1))) (Zc ?_)
   exact ⟨rfl,rfl,rfl,rfl,rfl,rfl,rfl⟩
 rintro frg'1 _ ⟨rfl,g'1_20,g'1_0,g'1_1,g'1_2,g'1_3,g'1_4⟩
 refine Zd (.b ((decide (v < 0)) || (decide ((l.length:Int)≤v)))) g'1_20 ?_
 refine Zaa 3 (fun fr' k'=>h = k'∧fr' 24 = .b (((decide (v < 0)) || (decide ((l.length:Int)≤v))) || (decide (w < 0)))∧fr' 0 = v_l∧fr' 1 = .n v∧fr' 2 = .n d∧fr' 3 = .n w∧fr' 4 = .n o) ?_ ?_
 ·rcases bc ((decide (v < 0)) || (decide ((l.length:Int)≤v))) with b'2 | b'2
  ·skip
   refine Zw rfl b'2 (Zw rfl b'2 (Zg (za (t:=((decide (v < 0)) || (decide ((l.length:Int)≤v)))) (v:=.b (((decide (v < 0)) || (decide ((l.length:Int)≤v))) || (decide (w < 0)))) rfl b'2 (Eq.trans (b:=V.b true) rfl (Zbs b'2))) (Zc ?_)))
   exact ⟨rfl,rfl,g'1_0,g'1_1,g'1_2,g'1_3,g'1_4⟩
  ·skip
   refine Z7 rfl b'2 (Zd (.n w) g'1_3 (Z7 rfl b'2 (Zg (zO (a:=w) (b:=0) rfl rfl) (Zg (ZU (t:=((decide (v < 0)) || (decide ((l.length:Int)≤v)))) (v:=.b (((decide (v < 0)) || (decide ((l.length:Int)≤v))) || (decide (w < 0)))) rfl b'2 (Eq.trans (b:=V.b (decide (w < 0))) rfl (Zcc b'2))) (Zc ?_)))))
   exact ⟨rfl,rfl,g'1_0,g'1_1,g'1_2,g'1_3,g'1_4⟩
 rintro frg'2 _ ⟨rfl,g'2_24,g'2_0,g'2_1,g'2_2,g'2_3,g'2_4⟩
 refine Zd (.b (((decide (v < 0)) || (decide ((l.length:Int)≤v))) || (decide (w < 0)))) g'2_24 ?_
 refine Zaa 5 (fun fr' k'=>h = k'∧fr' 30 = .b ((((decide (v < 0)) || (decide ((l.length:Int)≤v))) || (decide (w < 0))) || (decide ((l.length:Int)≤w)))∧fr' 0 = v_l∧fr' 1 = .n v∧fr' 2 = .n d∧fr' 3 = .n w∧fr' 4 = .n o) ?_ ?_
 ·rcases bc (((decide (v < 0)) || (decide ((l.length:Int)≤v))) || (decide (w < 0))) with b'3 | b'3
  ·skip
   refine Zw rfl b'3 (Zw rfl b'3 (Zw rfl b'3 (Zw rfl b'3 (Zg (za (t:=(((decide (v < 0)) || (decide ((l.length:Int)≤v))) || (decide (w < 0)))) (v:=.b ((((decide (v < 0)) || (decide ((l.length:Int)≤v))) || (decide (w < 0))) || (decide ((l.length:Int)≤w)))) rfl b'3 (Eq.trans (b:=V.b true) rfl (Zbs b'3))) (Zc ?_)))))
   exact ⟨rfl,rfl,g'2_0,g'2_1,g'2_2,g'2_3,g'2_4⟩
  ·skip
   refine Z7 rfl b'3 (Zd (.n w) g'2_3 (Z7 rfl b'3 (Zd v_l g'2_0 (Z7 rfl b'3 (Zg (ZaC (hO.sl 0 rfl) rfl) (Z7 rfl b'3 (Zg (ZcA (a:=w) (b:=(l.length:Int)) rfl rfl) ?_)))))))
   refine Zg (ZU (t:=(((decide (v < 0)) || (decide ((l.length:Int)≤v))) || (decide (w < 0)))) (v:=.b ((((decide (v < 0)) || (decide ((l.length:Int)≤v))) || (decide (w < 0))) || (decide ((l.length:Int)≤w)))) rfl b'3 (Eq.trans (b:=V.b (decide ((l.length:Int)≤w))) rfl (Zcc b'3))) (Zc ?_)
   exact ⟨rfl,rfl,g'2_0,g'2_1,g'2_2,g'2_3,g'2_4⟩
 rintro frg'3 _ ⟨rfl,g'3_30,g'3_0,g'3_1,g'3_2,g'3_3,g'3_4⟩
 refine Zd (.b ((((decide (v < 0)) || (decide ((l.length:Int)≤v))) || (decide (w < 0))) || (decide ((l.length:Int)≤w)))) g'3_30 ?_
 refine Zaa 4 (fun fr' k'=>h = k'∧fr' 35 = .b (((((decide (v < 0)) || (decide ((l.length:Int)≤v))) || (decide (w < 0))) || (decide ((l.length:Int)≤w))) || (decide (v = w)))∧fr' 0 = v_l∧fr' 1 = .n v∧fr' 2 = .n d∧fr' 3 = .n w∧fr' 4 = .n o) ?_ ?_
 ·rcases bc ((((decide (v < 0)) || (decide ((l.length:Int)≤v))) || (decide (w < 0))) || (decide ((l.length:Int)≤w))) with b'4 | b'4
  ·skip
   refine Zw rfl b'4 (Zw rfl b'4 (Zw rfl b'4 (Zg (za (t:=((((decide (v < 0)) || (decide ((l.length:Int)≤v))) || (decide (w < 0))) || (decide ((l.length:Int)≤w)))) (v:=.b (((((decide (v < 0)) || (decide ((l.length:Int)≤v))) || (decide (w < 0))) || (decide ((l.length:Int)≤w))) || (decide (v = w)))) rfl b'4 (Eq.trans (b:=V.b true) rfl (Zbs b'4))) (Zc ?_))))
   exact ⟨rfl,rfl,g'3_0,g'3_1,g'3_2,g'3_3,g'3_4⟩
  ·skip
   refine Z7 rfl b'4 (Zd (.n v) g'3_1 (Z7 rfl b'4 (Zd (.n w) g'3_3 (Z7 rfl b'4 (Zg (ZbE (a:=v) (b:=w) rfl rfl) (Zg (ZU (t:=((((decide (v < 0)) || (decide ((l.length:Int)≤v))) || (decide (w < 0))) || (decide ((l.length:Int)≤w)))) (v:=.b (((((decide (v < 0)) || (decide ((l.length:Int)≤v))) || (decide (w < 0))) || (decide ((l.length:Int)≤w))) || (decide (v = w)))) rfl b'4 (Eq.trans (b:=V.b (decide (v = w))) rfl (Zcc b'4))) (Zc ?_)))))))
   exact ⟨rfl,rfl,g'3_0,g'3_1,g'3_2,g'3_3,g'3_4⟩
 rintro frg'4 _ ⟨rfl,g'4_35,g'4_0,g'4_1,g'4_2,g'4_3,g'4_4⟩
 refine Zd (.b (((((decide (v < 0)) || (decide ((l.length:Int)≤v))) || (decide (w < 0))) || (decide ((l.length:Int)≤w))) || (decide (v = w)))) g'4_35 ?_
 refine Zaa 3 (fun fr' k'=>h = k'∧fr' 39 = .b ((((((decide (v < 0)) || (decide ((l.length:Int)≤v))) || (decide (w < 0))) || (decide ((l.length:Int)≤w))) || (decide (v = w))) || (decide (d < 0)))∧fr' 0 = v_l∧fr' 1 = .n v∧fr' 2 = .n d∧fr' 3 = .n w∧fr' 4 = .n o) ?_ ?_
 ·rcases bc (((((decide (v < 0)) || (decide ((l.length:Int)≤v))) || (decide (w < 0))) || (decide ((l.length:Int)≤w))) || (decide (v = w))) with b'5 | b'5
  ·skip
   refine Zw rfl b'5 (Zw rfl b'5 (Zg (za (t:=(((((decide (v < 0)) || (decide ((l.length:Int)≤v))) || (decide (w < 0))) || (decide ((l.length:Int)≤w))) || (decide (v = w)))) (v:=.b ((((((decide (v < 0)) || (decide ((l.length:Int)≤v))) || (decide (w < 0))) || (decide ((l.length:Int)≤w))) || (decide (v = w))) || (decide (d < 0)))) rfl b'5 (Eq.trans (b:=V.b true) rfl (Zbs b'5))) (Zc ?_)))
   exact ⟨rfl,rfl,g'4_0,g'4_1,g'4_2,g'4_3,g'4_4⟩
  ·skip
   refine Z7 rfl b'5 (Zd (.n d) g'4_2 (Z7 rfl b'5 (Zg (zO (a:=d) (b:=0) rfl rfl) (Zg (ZU (t:=(((((decide (v < 0)) || (decide ((l.length:Int)≤v))) || (decide (w < 0))) || (decide ((l.length:Int)≤w))) || (decide (v = w)))) (v:=.b ((((((decide (v < 0)) || (decide ((l.length:Int)≤v))) || (decide (w < 0))) || (decide ((l.length:Int)≤w))) || (decide (v = w))) || (decide (d < 0)))) rfl b'5 (Eq.trans (b:=V.b (decide (d < 0))) rfl (Zcc b'5))) (Zc ?_)))))
   exact ⟨rfl,rfl,g'4_0,g'4_1,g'4_2,g'4_3,g'4_4⟩
 rintro frg'5 _ ⟨rfl,g'5_39,g'5_0,g'5_1,g'5_2,g'5_3,g'5_4⟩
 refine Zd (.b ((((((decide (v < 0)) || (decide ((l.length:Int)≤v))) || (decide (w < 0))) || (decide ((l.length:Int)≤w))) || (decide (v = w))) || (decide (d < 0)))) g'5_39 ?_
 refine Zaa 3 (fun fr' k'=>h = k'∧fr' 43 = .b (((((((decide (v < 0)) || (decide ((l.length:Int)≤v))) || (decide (w < 0))) || (decide ((l.length:Int)≤w))) || (decide (v = w))) || (decide (d < 0))) || (decide (3 < d)))∧fr' 0 = v_l∧fr' 1 = .n v∧fr' 2 = .n d∧fr' 3 = .n w∧fr' 4 = .n o) ?_ ?_
 ·rcases bc ((((((decide (v < 0)) || (decide ((l.length:Int)≤v))) || (decide (w < 0))) || (decide ((l.length:Int)≤w))) || (decide (v = w))) || (decide (d < 0))) with b'6 | b'6
  ·skip
   refine Zw rfl b'6 (Zw rfl b'6 (Zg (za (t:=((((((decide (v < 0)) || (decide ((l.length:Int)≤v))) || (decide (w < 0))) || (decide ((l.length:Int)≤w))) || (decide (v = w))) || (decide (d < 0)))) (v:=.b (((((((decide (v < 0)) || (decide ((l.length:Int)≤v))) || (decide (w < 0))) || (decide ((l.length:Int)≤w))) || (decide (v = w))) || (decide (d < 0))) || (decide (3 < d)))) rfl b'6 (Eq.trans (b:=V.b true) rfl (Zbs b'6))) (Zc ?_)))
   exact ⟨rfl,rfl,g'5_0,g'5_1,g'5_2,g'5_3,g'5_4⟩
  ·skip
   refine Z7 rfl b'6 (Zd (.n d) g'5_2 (Z7 rfl b'6 (Zg (ZeF (a:=d) (b:=3) rfl rfl) (Zg (ZU (t:=((((((decide (v < 0)) || (decide ((l.length:Int)≤v))) || (decide (w < 0))) || (decide ((l.length:Int)≤w))) || (decide (v = w))) || (decide (d < 0)))) (v:=.b (((((((decide (v < 0)) || (decide ((l.length:Int)≤v))) || (decide (w < 0))) || (decide ((l.length:Int)≤w))) || (decide (v = w))) || (decide (d < 0))) || (decide (3 < d)))) rfl b'6 (Eq.trans (b:=V.b (decide (3 < d))) rfl (Zcc b'6))) (Zc ?_)))))
   exact ⟨rfl,rfl,g'5_0,g'5_1,g'5_2,g'5_3,g'5_4⟩
 rintro frg'6 _ ⟨rfl,g'6_43,g'6_0,g'6_1,g'6_2,g'6_3,g'6_4⟩
 refine Zd (.b (((((((decide (v < 0)) || (decide ((l.length:Int)≤v))) || (decide (w < 0))) || (decide ((l.length:Int)≤w))) || (decide (v = w))) || (decide (d < 0))) || (decide (3 < d)))) g'6_43 ?_
 refine Zaa 3 (fun fr' k'=>h = k'∧fr' 47 = .b ((((((((decide (v < 0)) || (decide ((l.length:Int)≤v))) || (decide (w < 0))) || (decide ((l.length:Int)≤w))) || (decide (v = w))) || (decide (d < 0))) || (decide (3 < d))) || (decide (o < (-2))))∧fr' 0 = v_l∧fr' 1 = .n v∧fr' 2 = .n d∧fr' 3 = .n w∧fr' 4 = .n o) ?_ ?_
 ·rcases bc (((((((decide (v < 0)) || (decide ((l.length:Int)≤v))) || (decide (w < 0))) || (decide ((l.length:Int)≤w))) || (decide (v = w))) || (decide (d < 0))) || (decide (3 < d))) with b'7 | b'7
  ·skip
   refine Zw rfl b'7 (Zw rfl b'7 (Zg (za (t:=(((((((decide (v < 0)) || (decide ((l.length:Int)≤v))) || (decide (w < 0))) || (decide ((l.length:Int)≤w))) || (decide (v = w))) || (decide (d < 0))) || (decide (3 < d)))) (v:=.b ((((((((decide (v < 0)) || (decide ((l.length:Int)≤v))) || (decide (w < 0))) || (decide ((l.length:Int)≤w))) || (decide (v = w))) || (decide (d < 0))) || (decide (3 < d))) || (decide (o < (-2))))) rfl b'7 (Eq.trans (b:=V.b true) rfl (Zbs b'7))) (Zc ?_)))
   exact ⟨rfl,rfl,g'6_0,g'6_1,g'6_2,g'6_3,g'6_4⟩
  ·skip
   refine Z7 rfl b'7 (Zd (.n o) g'6_4 (Z7 rfl b'7 (Zg (zO (a:=o) (b:=(-2)) rfl rfl) (Zg (ZU (t:=(((((((decide (v < 0)) || (decide ((l.length:Int)≤v))) || (decide (w < 0))) || (decide ((l.length:Int)≤w))) || (decide (v = w))) || (decide (d < 0))) || (decide (3 < d)))) (v:=.b ((((((((decide (v < 0)) || (decide ((l.length:Int)≤v))) || (decide (w < 0))) || (decide ((l.length:Int)≤w))) || (decide (v = w))) || (decide (d < 0))) || (decide (3 < d))) || (decide (o < (-2))))) rfl b'7 (Eq.trans (b:=V.b (decide (o < (-2)))) rfl (Zcc b'7))) (Zc ?_)))))
   exact ⟨rfl,rfl,g'6_0,g'6_1,g'6_2,g'6_3,g'6_4⟩
 rintro frg'7 _ ⟨rfl,g'7_47,g'7_0,g'7_1,g'7_2,g'7_3,g'7_4⟩
 refine Zc (Zb ?_)
 rcases Zt hp with ⟨b'8,hp⟩ | ⟨b'8,hp⟩
 ·refine zB (t:=((((((((decide (v < 0)) || (decide ((l.length:Int)≤v))) || (decide (w < 0))) || (decide ((l.length:Int)≤w))) || (decide (v = w))) || (decide (d < 0))) || (decide (3 < d))) || (decide (o < (-2))))) g'7_47 b'8 ?_
  refine Zi (Zl (Zd v_l g'7_0 (Zd v_l rfl (Zd (.n 2) rfl (Zc (Zb (zL ?_)))))))
  refine zh (zf (zl (n:=10) (v:=v_l) rfl (zl (n:=11) (v:=.n 2) rfl ZD)) ?_)
  cases hp
  exact ⟨v_l,rfl,(hO.pick [0] rfl (by decide))⟩
 ·refine zz (t:=((((((((decide (v < 0)) || (decide ((l.length:Int)≤v))) || (decide (w < 0))) || (decide ((l.length:Int)≤w))) || (decide (v = w))) || (decide (d < 0))) || (decide (3 < d))) || (decide (o < (-2))))) g'7_47 b'8 ?_
  refine zC (Zb (Zi (Zi (Zl (Zd v_l g'7_0 (Zd (.n v) g'7_1 (Zd (.n d) g'7_2 ?_)))))))
  obtain ⟨c'1,hp⟩:=Zn hp
  refine Zg (zt (E:=Ze) (z:=v) (hO.sl 0 rfl) rfl rfl c'1) (Zg (ZaO (off':=0) (off2:=0) (hO.sl 0 rfl) (Zj c'1) rfl rfl) ?_)
  obtain ⟨c'2,hp⟩:=Zn hp
  refine Zg (ZaZ (off:=0) (off2:=(0 + d.toNat * 1)) (z:=d) (hO.sl 0 rfl) (Zj c'1) rfl rfl c'2 rfl) (Zg (zX (w:=.n (((gi l v.toNat).Next).get d)) (hO.sl 0 rfl) rfl (Zj c'1) (zr c'2)) (Zg (ZbK (a:=(((gi l v.toNat).Next).get d)) (b:=(-1)) rfl rfl) (Zd (.b (!(decide (((gi l v.toNat).Next).get d = (-1))))) rfl ?_)))
  obtain ⟨t,hv'1,hp⟩:=Zq hp
  refine Zaa 11 (fun fr' k'=>h = k'∧fr' 68 = .b t∧fr' 0 = v_l∧fr' 1 = .n v∧fr' 2 = .n d∧fr' 3 = .n w∧fr' 4 = .n o) ?_ ?_
  ·clear hp; rcases Zt hv'1 with ⟨b'9,hp⟩ | ⟨b'9,hp⟩
   ·skip
    refine Zw rfl b'9 (Zw rfl b'9 (Zw rfl b'9 (Zw rfl b'9 (Zw rfl b'9 (Zw rfl b'9 (Zw rfl b'9 (Zw rfl b'9 ?_)))))))
    refine Zw rfl b'9 (Zw rfl b'9 (Zg (za (t:=(!(decide (((gi l v.toNat).Next).get d = (-1))))) (v:=.b t) rfl b'9 (Eq.trans (b:=V.b true) rfl (congrArg V.b (Option.some.inj hp)))) (Zc ?_)))
    exact ⟨rfl,rfl,g'7_0,g'7_1,g'7_2,g'7_3,g'7_4⟩
   ·skip
    refine Z7 rfl b'9 (Zd v_l g'7_0 (Z7 rfl b'9 (Zd (.n w) g'7_3 (Z7 rfl b'9 (Zd (.n d) g'7_2 (Z7 rfl b'9 ?_))))))
    obtain ⟨c'3,hp⟩:=Zn hp
    refine Zg (zD (a:=d) (b:=2) rfl rfl c'3) (Z7 rfl b'9 (Zg (Zd6 (a:=(d + 2)) (b:=4) rfl rfl (by decide)) (Z7 rfl b'9 ?_)))
    obtain ⟨c'4,hp⟩:=Zn hp
    refine Zg (zt (E:=Ze) (z:=w) (hO.sl 0 rfl) rfl rfl c'4) (Z7 rfl b'9 (Zg (ZaO (off':=0) (off2:=0) (hO.sl 0 rfl) (Zj c'4) rfl rfl) (Z7 rfl b'9 ?_)))
    obtain ⟨c'5,hp⟩:=Zn hp
    refine Zg (ZaZ (off:=0) (off2:=(0 + ((d + 2).tmod 4:Int).toNat * 1)) (z:=((d + 2).tmod 4)) (hO.sl 0 rfl) (Zj c'4) rfl rfl c'5 rfl) (Z7 rfl b'9 (Zg (zX (w:=.n (((gi l w.toNat).Next).get ((d + 2).tmod 4))) (hO.sl 0 rfl) rfl (Zj c'4) (zr c'5)) (Z7 rfl b'9 (Zg (ZbK (a:=(((gi l w.toNat).Next).get ((d + 2).tmod 4))) (b:=(-1)) rfl rfl) (Zg (ZU (t:=(!(decide (((gi l v.toNat).Next).get d = (-1))))) (v:=.b t) rfl b'9 (Eq.trans (b:=V.b (!(decide (((gi l w.toNat).Next).get ((d + 2).tmod 4) = (-1))))) rfl (congrArg V.b (Option.some.inj hp)))) (Zc ?_))))))
    exact ⟨rfl,rfl,g'7_0,g'7_1,g'7_2,g'7_3,g'7_4⟩
  rintro frg'8 _ ⟨rfl,g'8_68,g'8_0,g'8_1,g'8_2,g'8_3,g'8_4⟩
  refine Zc (Zb ?_)
  rcases Zt hp with ⟨b'10,hp⟩ | ⟨b'10,hp⟩
  ·refine zB (t:=t) g'8_68 b'10 ?_
   refine Zi (Zl (Zd v_l g'8_0 (Zd v_l rfl (Zd (.n 9) rfl (Zc (Zb (zL ?_)))))))
   refine zh (zf (zl (n:=10) (v:=v_l) rfl (zl (n:=11) (v:=.n 9) rfl ZD)) ?_)
   cases hp
   exact ⟨v_l,rfl,(hO.pick [0] rfl (by decide))⟩
  ·refine zz (t:=t) g'8_68 b'10 ?_
   refine zC (Zb (Zi (Zl (Zd v_l g'8_0 (Zd (.n v) g'8_1 (Zd (.n d) g'8_2 (Zd (.n w) g'8_3 ?_)))))))
   refine Zd (.n o) g'8_4 ?_
   obtain ⟨x,hx'1,hp⟩:=Zq hp
   obtain ⟨u'1,k'1,ca'1,v'2,rfl,hW'1⟩:=Zaf.ok (h:=h)  (hO.sl 0 rfl) hx'1
   refine Zai (id:=65) (caps:=[]) rfl (Zp (v:=v_l) rfl (Zp (v:=.n v) rfl (Zp (v:=.n d) rfl (Zp (v:=.n w) rfl (Zp (v:=.n o) rfl ZK))))) ca'1 ?_
   have hO'1:=hO.call hW'1 rfl
   refine Zd v'2 rfl (Zc (Zb (Zi (Zl (Zd v'2 rfl (Zd v'2 rfl (Zd (.n 0) rfl ?_)))))))
   refine Zc (Zb (zL (zf (zl (n:=10) (v:=v'2) rfl (zl (n:=11) (v:=.n 0) rfl ZD)) ?_)))
   cases hp
   exact ⟨v'2,rfl,(hO'1.pick [1] rfl (by decide))⟩

theorem Zbb.ok {h:Hp} {cells:List Za} {v_cells:V} (s_cells:Sl Ze h v_cells cells) {r:Bool × Int} (hp:Zbb cells = some r) :
  ∃ u k',Is G 269 [v_cells] h u k'∧V.tu [.b r.1,.n r.2] = u∧Own (fun r=>r < h.n) h k' []:=by
 refine WC.is (Za7 ZdP ?_)
 unfold Zbb at hp
 let B:Nat→Prop:=(fun r=>r < h.n)
 have hO:Own B h h []:=Own.start0 h
 refine Zi (Zl (Zd (.b false) rfl (Zd (.n 0) rfl (Zc (Zb (Zi (Zi ?_)))))))
 refine Zl (Zd v_cells rfl ?_)
 obtain ⟨x,hx'1,hp⟩:=Zq hp
 obtain ⟨u'1,k'1,ca'1,rfl,hW'1⟩:=ZbT.ok (h:=h)  (hO.rd0 s_cells.rd) hx'1
 refine Zai (id:=176) (caps:=[]) rfl (Zp (v:=v_cells) rfl ZK) ca'1 ?_
 have hO'1:=hO.call hW'1 rfl
 refine Zd (.n x) rfl (Zc (Zb (Zi (Zl (Zd (.n x) rfl (Zg (ZbK (a:=x) (b:=0) rfl rfl) (Zc ?_)))))))
 refine Zb ?_
 rcases Zt hp with ⟨b'1,hp⟩ | ⟨b'1,hp⟩
 ·refine zB (t:=(!(decide (x = 0)))) rfl b'1 ?_
  refine Zi (Zl (Zd (.n x) rfl (Zd (.b false) rfl (Zd (.n x) rfl (Zc (Zb (zL ?_)))))))
  refine zh (zf (zl (n:=2) (v:=.b false) rfl (zl (n:=3) (v:=.n x) rfl ZD)) ?_)
  cases hp
  exact ⟨rfl,(hO'1.pick [] rfl (by decide))⟩
 ·refine zz (t:=(!(decide (x = 0)))) rfl b'1 ?_
  refine zC (Zb (Zi (Zl (Zd v_cells rfl ?_))))
  obtain ⟨⟨x1,x2,x3⟩,hx'2,hp⟩:=Zq hp
  obtain ⟨u'2,k'2,ca'2,rfl,hW'2⟩:=ZaL.ok (h:=k'1)  (hO'1.rd0 s_cells.rd) hx'2
  refine Zai (id:=178) (caps:=[]) rfl (Zp (v:=v_cells) rfl ZK) ca'2 ?_
  have hO'2:=hO'1.call hW'2 rfl
  refine Zd (.tu [.n x1,.n x2,.b x3]) rfl (Zg (Zad (vs:=[.n x1,.n x2,.b x3]) (v:=.n x1) rfl rfl) (Zg (Zad (vs:=[.n x1,.n x2,.b x3]) (v:=.n x2) rfl rfl) (Zg (Zad (vs:=[.n x1,.n x2,.b x3]) (v:=.b x3) rfl rfl) (Zd (.n x1) rfl (Zd (.n x2) rfl (Zd (.b x3) rfl (Zc ?_)))))))
  refine Zb (Zi (Zl (Zd (.b x3) rfl (Zg (Zcp (t:=x3) rfl) (Zd (.b (!x3)) rfl (Zd (.n 0) rfl (Zc ?_)))))))
  refine Zb (zL (zf (zl (n:=2) (v:=.b (!x3)) rfl (zl (n:=3) (v:=.n 0) rfl ZD)) ?_))
  cases hp
  exact ⟨rfl,(hO'2.pick [] rfl (by decide))⟩

theorem Zbh.ok {h:Hp}    {r:Bool} (hp:Zbh  = some r) :
  ∃ u k',Is G 264 [] h u k'∧V.b r = u∧Own (fun r=>r < h.n) h k' []:=by
 refine WC.is (Za7 Zdz ?_)
 unfold Zbh at hp
 let B:Nat→Prop:=(fun r=>r < h.n)
 have hO:Own B h h []:=Own.start0 h
 refine Zi (Zl (Zd (.b false) rfl (Zc (Zb (Zi (Zl ?_))))))
 obtain ⟨x,hx'1,hp⟩:=Zq hp
 obtain ⟨u'1,k'1,ca'1,v'1,rfl,hW'1⟩:=zw.ok (h:=h)   hx'1
 refine Zai (id:=46) (caps:=[]) rfl (Zp (v:=.n 2) rfl ZK) ca'1 ?_
 have hO'1:=hO.call hW'1 rfl
 refine Zd v'1 rfl (Zc (Zb (Zi (Zl (Zd v'1 rfl ?_)))))
 obtain ⟨⟨x1,x2⟩,hx'2,hp⟩:=Zq hp
 obtain ⟨u'2,k'2,ca'2,v'2,rfl,hW'2⟩:=Zb6.ok (h:=k'1) (l:=x) (v:=0) (d:=0) (w:=1) (o:=0) (hO'1.toM [0] rfl (by decide))  hx'2
 refine Zai (id:=53) (caps:=[]) rfl (Zp (v:=v'1) rfl (Zp (v:=.n 0) rfl (Zp (v:=.n 0) rfl (Zp (v:=.n 1) rfl (Zp (v:=.n 0) rfl ZK))))) ca'2 ?_
 have hO'2:=(hO'1.callM [0] [] rfl rfl (by decide) hW'2 rfl).pick [900,0] rfl (by decide)
 refine Zd (.tu [v'2,.n x2]) rfl (Zg (Zad (vs:=[v'2,.n x2]) (v:=v'2) rfl rfl) (Zg (Zad (vs:=[v'2,.n x2]) (v:=.n x2) rfl rfl) (Zd v'2 rfl (Zc (Zb (Zi (Zl ?_)))))))
 refine Zd v'2 rfl ?_
 obtain ⟨⟨x3,x4⟩,hx'3,hp⟩:=Zq hp
 obtain ⟨u'3,k'3,ca'3,v'3,rfl,hW'3⟩:=Zbm.ok (h:=k'2)  (hO'2.sl 1 rfl) hx'3
 refine Zai (id:=268) (caps:=[]) rfl (Zp (v:=v'2) rfl ZK) ca'3 ?_
 have hO'3:=hO'2.call hW'3 rfl
 refine Zd (.tu [v'3,.n x4]) rfl (Zg (Zad (vs:=[v'3,.n x4]) (v:=v'3) rfl rfl) (Zg (Zad (vs:=[v'3,.n x4]) (v:=.n x4) rfl rfl) (Zd v'3 rfl (Zd (.n x4) rfl (Zc (Zb (Zi ?_)))))))
 refine Zl (Zd v'2 rfl ?_)
 obtain ⟨⟨x5,x6⟩,hx'4,hp⟩:=Zq hp
 obtain ⟨u'4,k'4,ca'4,v'4,rfl,hW'4⟩:=Zam.ok (h:=k'3)  (hO'3.sl 1 rfl) hx'4
 refine Zai (id:=266) (caps:=[]) rfl (Zp (v:=v'2) rfl ZK) ca'4 ?_
 have hO'4:=hO'3.call hW'4 rfl
 refine Zd (.tu [v'4,.n x6]) rfl (Zg (Zad (vs:=[v'4,.n x6]) (v:=v'4) rfl rfl) (Zg (Zad (vs:=[v'4,.n x6]) (v:=.n x6) rfl rfl) (Zd v'4 rfl (Zd (.n x6) rfl (Zc (Zb (Zi ?_)))))))
 refine Zl (Zd v'4 rfl ?_)
 obtain ⟨⟨x7,x8⟩,hx'5,hp⟩:=Zq hp
 obtain ⟨u'5,k'5,ca'5,rfl,hW'5⟩:=Zbb.ok (h:=k'4)  (hO'4.sl 3 rfl) hx'5
 refine Zai (id:=269) (caps:=[]) rfl (Zp (v:=v'4) rfl ZK) ca'5 ?_
 have hO'5:=hO'4.call hW'5 rfl
 refine Zd (.tu [.b x7,.n x8]) rfl (Zg (Zad (vs:=[.b x7,.n x8]) (v:=.b x7) rfl rfl) (Zg (Zad (vs:=[.b x7,.n x8]) (v:=.n x8) rfl rfl) (Zd (.b x7) rfl (Zd (.n x8) rfl (Zc (Zb (Zi ?_)))))))
 refine Zl (Zd v'2 rfl ?_)
 obtain ⟨c'1,hp⟩:=Zn hp
 refine Zg (ZkO (E:=Ze) (z:=1) (hO'5.sl 1 rfl) rfl rfl c'1) ?_
 obtain ⟨⟨x9,x10⟩,hx'6,hp⟩:=Zq hp
 obtain ⟨u'6,k'6,ca'6,v'5,rfl,hW'6⟩:=Zbm.ok (h:=k'5)  (Sl.cutU (hO'5.sl 1 rfl) c'1:Sl Ze k'5 (V.cut v'2 0 (1:Int).toNat) (x1.take (1:Int).toNat)) hx'6
 refine Zai (id:=268) (caps:=[]) rfl (Zp (v:=(V.cut v'2 0 (1:Int).toNat)) rfl ZK) ca'6 ?_
 have hO'6:=hO'5.call hW'6 rfl
 refine Zd (.tu [v'5,.n x10]) rfl (Zg (Zad (vs:=[v'5,.n x10]) (v:=v'5) rfl rfl) (Zg (Zad (vs:=[v'5,.n x10]) (v:=.n x10) rfl rfl) (Zd v'5 rfl (Zd (.n x10) rfl (Zc (Zb (Zi ?_)))))))
 refine Zl (Zd (.n x4) rfl (Zg (ZbE (a:=x4) (b:=0) rfl rfl) (Zd (.b (decide (x4 = 0))) rfl ?_)))
 refine Zaa 4 (fun fr' k'=>k'6 = k'∧fr' 43 = .b ((decide (x4 = 0)) && (decide ((x3.length:Int) = 7)))∧fr' 4 = v'4∧fr' 5 = .n x6∧fr' 6 = .b x7∧fr' 7 = .n x8∧fr' 9 = .n x10) ?_ ?_
 ·rcases bc (decide (x4 = 0)) with b'1 | b'1
  ·skip
   refine Z7 rfl b'1 (Zd v'3 rfl (Z7 rfl b'1 (Zg (ZaC (hO'6.sl 2 rfl) rfl) (Z7 rfl b'1 (Zg (ZbE (a:=(x3.length:Int)) (b:=7) rfl rfl) (Zg (za (t:=(decide (x4 = 0))) (v:=.b ((decide (x4 = 0)) && (decide ((x3.length:Int) = 7)))) rfl b'1 (Eq.trans (b:=V.b (decide ((x3.length:Int) = 7))) rfl (Zcs b'1))) (Zc ?_)))))))
   exact ⟨rfl,rfl,rfl,rfl,rfl,rfl,rfl⟩
  ·skip
   refine Zw rfl b'1 (Zw rfl b'1 (Zw rfl b'1 (Zg (ZU (t:=(decide (x4 = 0))) (v:=.b ((decide (x4 = 0)) && (decide ((x3.length:Int) = 7)))) rfl b'1 (Eq.trans (b:=V.b false) rfl (ZbW b'1))) (Zc ?_))))
   exact ⟨rfl,rfl,rfl,rfl,rfl,rfl,rfl⟩
 rintro frg'1 _ ⟨rfl,g'1_43,g'1_4,g'1_5,g'1_6,g'1_7,g'1_9⟩
 refine Zd (.b ((decide (x4 = 0)) && (decide ((x3.length:Int) = 7)))) g'1_43 ?_
 refine Zaa 3 (fun fr' k'=>k'6 = k'∧fr' 47 = .b (((decide (x4 = 0)) && (decide ((x3.length:Int) = 7))) && (decide (x6 = 0)))∧fr' 4 = v'4∧fr' 6 = .b x7∧fr' 7 = .n x8∧fr' 9 = .n x10) ?_ ?_
 ·rcases bc ((decide (x4 = 0)) && (decide ((x3.length:Int) = 7))) with b'2 | b'2
  ·skip
   refine Z7 rfl b'2 (Zd (.n x6) g'1_5 (Z7 rfl b'2 (Zg (ZbE (a:=x6) (b:=0) rfl rfl) (Zg (za (t:=((decide (x4 = 0)) && (decide ((x3.length:Int) = 7)))) (v:=.b (((decide (x4 = 0)) && (decide ((x3.length:Int) = 7))) && (decide (x6 = 0)))) rfl b'2 (Eq.trans (b:=V.b (decide (x6 = 0))) rfl (Zcs b'2))) (Zc ?_)))))
   exact ⟨rfl,rfl,g'1_4,g'1_6,g'1_7,g'1_9⟩
  ·skip
   refine Zw rfl b'2 (Zw rfl b'2 (Zg (ZU (t:=((decide (x4 = 0)) && (decide ((x3.length:Int) = 7)))) (v:=.b (((decide (x4 = 0)) && (decide ((x3.length:Int) = 7))) && (decide (x6 = 0)))) rfl b'2 (Eq.trans (b:=V.b false) rfl (ZbW b'2))) (Zc ?_)))
   exact ⟨rfl,rfl,g'1_4,g'1_6,g'1_7,g'1_9⟩
 rintro frg'2 _ ⟨rfl,g'2_47,g'2_4,g'2_6,g'2_7,g'2_9⟩
 refine Zd (.b (((decide (x4 = 0)) && (decide ((x3.length:Int) = 7))) && (decide (x6 = 0)))) g'2_47 ?_
 refine Zaa 4 (fun fr' k'=>k'6 = k'∧fr' 52 = .b ((((decide (x4 = 0)) && (decide ((x3.length:Int) = 7))) && (decide (x6 = 0))) && (decide (7 < (x5.length:Int))))∧fr' 6 = .b x7∧fr' 7 = .n x8∧fr' 9 = .n x10) ?_ ?_
 ·rcases bc (((decide (x4 = 0)) && (decide ((x3.length:Int) = 7))) && (decide (x6 = 0))) with b'3 | b'3
  ·skip
   refine Z7 rfl b'3 (Zd v'4 g'2_4 (Z7 rfl b'3 (Zg (ZaC (hO'6.sl 3 rfl) rfl) (Z7 rfl b'3 (Zg (ZeF (a:=(x5.length:Int)) (b:=7) rfl rfl) (Zg (za (t:=(((decide (x4 = 0)) && (decide ((x3.length:Int) = 7))) && (decide (x6 = 0)))) (v:=.b ((((decide (x4 = 0)) && (decide ((x3.length:Int) = 7))) && (decide (x6 = 0))) && (decide (7 < (x5.length:Int))))) rfl b'3 (Eq.trans (b:=V.b (decide (7 < (x5.length:Int)))) rfl (Zcs b'3))) (Zc ?_)))))))
   exact ⟨rfl,rfl,g'2_6,g'2_7,g'2_9⟩
  ·skip
   refine Zw rfl b'3 (Zw rfl b'3 (Zw rfl b'3 (Zg (ZU (t:=(((decide (x4 = 0)) && (decide ((x3.length:Int) = 7))) && (decide (x6 = 0)))) (v:=.b ((((decide (x4 = 0)) && (decide ((x3.length:Int) = 7))) && (decide (x6 = 0))) && (decide (7 < (x5.length:Int))))) rfl b'3 (Eq.trans (b:=V.b false) rfl (ZbW b'3))) (Zc ?_))))
   exact ⟨rfl,rfl,g'2_6,g'2_7,g'2_9⟩
 rintro frg'3 _ ⟨rfl,g'3_52,g'3_6,g'3_7,g'3_9⟩
 refine Zd (.b ((((decide (x4 = 0)) && (decide ((x3.length:Int) = 7))) && (decide (x6 = 0))) && (decide (7 < (x5.length:Int))))) g'3_52 ?_
 refine Zaa 2 (fun fr' k'=>k'6 = k'∧fr' 55 = .b (((((decide (x4 = 0)) && (decide ((x3.length:Int) = 7))) && (decide (x6 = 0))) && (decide (7 < (x5.length:Int)))) && x7)∧fr' 7 = .n x8∧fr' 9 = .n x10) ?_ ?_
 ·rcases bc ((((decide (x4 = 0)) && (decide ((x3.length:Int) = 7))) && (decide (x6 = 0))) && (decide (7 < (x5.length:Int)))) with b'4 | b'4
  ·skip
   refine Z7 rfl b'4 (Zd (.b x7) g'3_6 (Zg (za (t:=((((decide (x4 = 0)) && (decide ((x3.length:Int) = 7))) && (decide (x6 = 0))) && (decide (7 < (x5.length:Int))))) (v:=.b (((((decide (x4 = 0)) && (decide ((x3.length:Int) = 7))) && (decide (x6 = 0))) && (decide (7 < (x5.length:Int)))) && x7)) rfl b'4 (Eq.trans (b:=V.b x7) rfl (Zcs b'4))) (Zc ?_)))
   exact ⟨rfl,rfl,g'3_7,g'3_9⟩
  ·skip
   refine Zw rfl b'4 (Zg (ZU (t:=((((decide (x4 = 0)) && (decide ((x3.length:Int) = 7))) && (decide (x6 = 0))) && (decide (7 < (x5.length:Int))))) (v:=.b (((((decide (x4 = 0)) && (decide ((x3.length:Int) = 7))) && (decide (x6 = 0))) && (decide (7 < (x5.length:Int)))) && x7)) rfl b'4 (Eq.trans (b:=V.b false) rfl (ZbW b'4))) (Zc ?_))
   exact ⟨rfl,rfl,g'3_7,g'3_9⟩
 rintro frg'4 _ ⟨rfl,g'4_55,g'4_7,g'4_9⟩
 refine Zd (.b (((((decide (x4 = 0)) && (decide ((x3.length:Int) = 7))) && (decide (x6 = 0))) && (decide (7 < (x5.length:Int)))) && x7)) g'4_55 ?_
 refine Zaa 3 (fun fr' k'=>k'6 = k'∧fr' 59 = .b ((((((decide (x4 = 0)) && (decide ((x3.length:Int) = 7))) && (decide (x6 = 0))) && (decide (7 < (x5.length:Int)))) && x7) && (decide (x8 = 0)))∧fr' 9 = .n x10) ?_ ?_
 ·rcases bc (((((decide (x4 = 0)) && (decide ((x3.length:Int) = 7))) && (decide (x6 = 0))) && (decide (7 < (x5.length:Int)))) && x7) with b'5 | b'5
  ·skip
   refine Z7 rfl b'5 (Zd (.n x8) g'4_7 (Z7 rfl b'5 (Zg (ZbE (a:=x8) (b:=0) rfl rfl) (Zg (za (t:=(((((decide (x4 = 0)) && (decide ((x3.length:Int) = 7))) && (decide (x6 = 0))) && (decide (7 < (x5.length:Int)))) && x7)) (v:=.b ((((((decide (x4 = 0)) && (decide ((x3.length:Int) = 7))) && (decide (x6 = 0))) && (decide (7 < (x5.length:Int)))) && x7) && (decide (x8 = 0)))) rfl b'5 (Eq.trans (b:=V.b (decide (x8 = 0))) rfl (Zcs b'5))) (Zc ?_)))))
   exact ⟨rfl,rfl,g'4_9⟩
  ·skip
   refine Zw rfl b'5 (Zw rfl b'5 (Zg (ZU (t:=(((((decide (x4 = 0)) && (decide ((x3.length:Int) = 7))) && (decide (x6 = 0))) && (decide (7 < (x5.length:Int)))) && x7)) (v:=.b ((((((decide (x4 = 0)) && (decide ((x3.length:Int) = 7))) && (decide (x6 = 0))) && (decide (7 < (x5.length:Int)))) && x7) && (decide (x8 = 0)))) rfl b'5 (Eq.trans (b:=V.b false) rfl (ZbW b'5))) (Zc ?_)))
   exact ⟨rfl,rfl,g'4_9⟩
 rintro frg'5 _ ⟨rfl,g'5_59,g'5_9⟩
 refine Zd (.b ((((((decide (x4 = 0)) && (decide ((x3.length:Int) = 7))) && (decide (x6 = 0))) && (decide (7 < (x5.length:Int)))) && x7) && (decide (x8 = 0)))) g'5_59 ?_
 refine Zaa 3 (fun fr' k'=>k'6 = k'∧fr' 63 = .b (((((((decide (x4 = 0)) && (decide ((x3.length:Int) = 7))) && (decide (x6 = 0))) && (decide (7 < (x5.length:Int)))) && x7) && (decide (x8 = 0))) && (decide (x10 = 3)))) ?_ ?_
 ·rcases bc ((((((decide (x4 = 0)) && (decide ((x3.length:Int) = 7))) && (decide (x6 = 0))) && (decide (7 < (x5.length:Int)))) && x7) && (decide (x8 = 0))) with b'6 | b'6
  ·skip
   refine Z7 rfl b'6 (Zd (.n x10) g'5_9 (Z7 rfl b'6 (Zg (ZbE (a:=x10) (b:=3) rfl rfl) (Zg (za (t:=((((((decide (x4 = 0)) && (decide ((x3.length:Int) = 7))) && (decide (x6 = 0))) && (decide (7 < (x5.length:Int)))) && x7) && (decide (x8 = 0)))) (v:=.b (((((((decide (x4 = 0)) && (decide ((x3.length:Int) = 7))) && (decide (x6 = 0))) && (decide (7 < (x5.length:Int)))) && x7) && (decide (x8 = 0))) && (decide (x10 = 3)))) rfl b'6 (Eq.trans (b:=V.b (decide (x10 = 3))) rfl (Zcs b'6))) (Zc ?_)))))
   exact ⟨rfl,rfl⟩
  ·skip
   refine Zw rfl b'6 (Zw rfl b'6 (Zg (ZU (t:=((((((decide (x4 = 0)) && (decide ((x3.length:Int) = 7))) && (decide (x6 = 0))) && (decide (7 < (x5.length:Int)))) && x7) && (decide (x8 = 0)))) (v:=.b (((((((decide (x4 = 0)) && (decide ((x3.length:Int) = 7))) && (decide (x6 = 0))) && (decide (7 < (x5.length:Int)))) && x7) && (decide (x8 = 0))) && (decide (x10 = 3)))) rfl b'6 (Eq.trans (b:=V.b false) rfl (ZbW b'6))) (Zc ?_)))
   exact ⟨rfl,rfl⟩
 rintro frg'6 _ ⟨rfl,g'6_63⟩
 refine Zd (.b (((((((decide (x4 = 0)) && (decide ((x3.length:Int) = 7))) && (decide (x6 = 0))) && (decide (7 < (x5.length:Int)))) && x7) && (decide (x8 = 0))) && (decide (x10 = 3)))) g'6_63 (Zc (Zb (zL (zf (zl (n:=0) (v:=.b (((((((decide (x4 = 0)) && (decide ((x3.length:Int) = 7))) && (decide (x6 = 0))) && (decide (7 < (x5.length:Int)))) && x7) && (decide (x8 = 0))) && (decide (x10 = 3)))) rfl ZD) ?_))))
 cases hp
 exact ⟨rfl,(hO'6.pick [] rfl (by decide))⟩

end Mu
