/- The code comes to what was worked out. -/
import Derived.Test.YtfdidkebomeiaaaMuDf
import Derived.Test.YtfdidkebomeiaaaMuPa
import Derived.Test.YtfdidkebomeiaaaMuC1
set_option linter.unusedVariables false
set_option linter.unnecessarySimpa false
set_option linter.unusedSimpArgs false
set_option maxHeartbeats 2000000
set_option maxRecDepth 10000
namespace Mu
open Go (IntKind BinOp UnOp)
theorem Zam.ok {h:Hp} {cells:List Ze} {at_:List Zf} {v_cells:V} {v_at_:V} (s_cells:Sl Zn h v_cells cells) (s_at_:Sl Zc h v_at_ at_) {r:Int × Int} (hp:Zam cells at_ = some r) :
  ∃ u k',Is G 133 [v_cells,v_at_] h u k'∧V.tu [.n r.1,.n r.2] = u∧Own (fun r=>r < h.n) h k' []:=by
 refine WC.is (ZaM ZeP ?_)
 unfold Zam at hp
 let B:Nat→Prop:=(fun r=>r < h.n)
 have hO:Own B h h []:=Own.start0 h
 refine Zh (Zk (Zd (.n 0) rfl (Zd (.n 0) rfl (Zb (Za (Zh (Zh ?_)))))))
 refine Zk (Zd v_cells rfl ?_)
 obtain ⟨x,hx'1,hp⟩:=Zq hp
 obtain ⟨u'1,k'1,ca'1,rfl,hW'1⟩:=zV.ok (h:=h)  (hO.rd0 s_cells.rd) hx'1
 refine Zbd (id:=66) (caps:=[]) rfl (Zu (v:=v_cells) rfl zx) ca'1 ?_
 have hO'1:=hO.call hW'1 rfl
 refine Zd (.n x) rfl (Zb (Za (Zh (Zk (Zd (.n x) rfl (Zg (Zck (a:=x) (b:=0) rfl rfl) (Zb ?_)))))))
 refine Za ?_
 rcases Zp hp with ⟨b'1,hp⟩ | ⟨b'1,hp⟩
 ·refine zA (t:=(!(decide (x = 0)))) rfl b'1 ?_
  refine Zh (Zk (Zd (.n x) rfl (Zd (.n 0) rfl (Zd (.n x) rfl (Zb (Za (Zad ?_)))))))
  refine zk (zu (zG (n:=4) (v:=.n 0) rfl (zG (n:=5) (v:=.n x) rfl ZN)) ?_)
  cases hp
  exact ⟨rfl,(hO'1.pick [] rfl (by decide))⟩
 ·refine z7 (t:=(!(decide (x = 0)))) rfl b'1 ?_
  refine zD (Za (Zh (Zh (Zk (Zd v_at_ rfl (Zg (Zau (hO'1.rd0 s_at_.rd) rfl) (Zd v_cells rfl ?_)))))))
  refine Zg (Zau (hO'1.rd0 s_cells.rd) rfl) (Zg (Zck (a:=(at_.length:Int)) (b:=(cells.length:Int)) rfl rfl) (Zd (.b (!(decide ((at_.length:Int) = (cells.length:Int))))) rfl ?_))
  obtain ⟨t,hv'1,hp⟩:=Zq hp
  refine Za0 3 (fun fr' k'=>Own B h k' []∧fr' 28 = .b t∧fr' 0 = v_cells∧fr' 1 = v_at_) ?_ ?_
  ·clear hp; rcases Zp hv'1 with ⟨b'2,hp⟩ | ⟨b'2,hp⟩
   ·skip
    refine Zv rfl b'2 (Zv rfl b'2 (Zg (zr (t:=(!(decide ((at_.length:Int) = (cells.length:Int))))) (v:=.b t) rfl b'2 (Eq.trans (b:=V.b true) rfl (congrArg V.b (Option.some.inj hp)))) (Zb ?_)))
    exact ⟨hO'1.pick [] rfl (by decide),rfl,rfl,rfl⟩
   ·skip
    refine Z8 rfl b'2 (Zd v_at_ rfl (Z8 rfl b'2 ?_))
    obtain ⟨x1,hx'2,hp⟩:=Zq hp
    obtain ⟨u'2,k'2,ca'2,rfl,hW'2⟩:=ZaA.ok (h:=k'1)  (hO'1.rd0 s_at_.rd) (fun k z0 y hk hx=>ZcZ.ok (h:=k)  hx) hx'2
    refine Zbd (id:=146) (caps:=[]) rfl (Zu (v:=v_at_) rfl (Zu (v:=.f 147 []) rfl zx)) ca'2 ?_
    have hO'2:=hO'1.call hW'2 rfl
    refine Zg (zm (t:=(!(decide ((at_.length:Int) = (cells.length:Int))))) (v:=.b t) rfl b'2 (Eq.trans (b:=V.b x1) rfl (congrArg V.b (Option.some.inj hp)))) (Zb ?_)
    exact ⟨hO'2.pick [] rfl (by decide),rfl,rfl,rfl⟩
  rintro frg'1 k'3 ⟨hO'3,g'1_28,g'1_0,g'1_1⟩
  refine Zb (Za ?_)
  rcases Zp hp with ⟨b'3,hp⟩ | ⟨b'3,hp⟩
  ·refine zA (t:=t) g'1_28 b'3 ?_
   refine Zh (Zk (Zd (.n 0) rfl (Zd (.n 2) rfl (Zb (Za (Zad (zk ?_)))))))
   refine zu (zG (n:=4) (v:=.n 0) rfl (zG (n:=5) (v:=.n 2) rfl ZN)) ?_
   cases hp
   exact ⟨rfl,(hO'3.pick [] rfl (by decide))⟩
  ·refine z7 (t:=t) g'1_28 b'3 ?_
   refine zD (Za (Zh (Zk (Zd (.n 0) rfl (Zb (Za (Zh ?_)))))))
   refine Zh (Zk (Zd v_cells g'1_0 (Zg (Zau (hO'3.rd0 s_cells.rd) rfl) (Zd (.n 0) rfl (Zb (Za (Zaq ?_)))))))
   obtain ⟨o'1,ho'1,hp⟩:=Zq hp
   refine W.mono (Q:=fun e fr k=>match (generalizing:=false) o'1 with
     | .inl sum1=>e = (.exit 0)∧fr 7 = .n sum1∧Own B h k []
     | .inr _=>e = .ret∧fr 4 = .n 0∧fr 5 = .n 15∧Own B h k []) ?_ ?_
   ·clear hp
    refine zP (fun st fr k=>match st with | (sum,x2)=>fr 1 = v_at_∧fr 7 = .n sum∧fr 29 = v_cells∧fr 30 = .n (cells.length:Int)∧fr 31 = .n x2∧Own B h k []) ho'1 (s:=(0,0)) ⟨g'1_1,rfl,rfl,rfl,rfl,(hO'3.pick [] rfl (by decide))⟩ ?_
    rintro ⟨sum,x2⟩ q'2 k'5 ⟨q'2_1,q'2_7,q'2_29,q'2_30,q'2_31,hO'5⟩ o'2 hp
    dsimp only [Zam.s0] at hp
    refine Zh (Zk (Zg (zN (a:=x2) (b:=(cells.length:Int)) q'2_31 q'2_30) (Zb (Za (Zh ?_)))))
    rcases Zp hp with ⟨b'4,hp⟩ | ⟨b'4,hp⟩
    ·refine zA (t:=(decide (x2 < (cells.length:Int)))) rfl b'4 ?_
     refine zD (Za (Zh (Zaq (Zh (Zk (Zd (.n x2) q'2_31 ?_))))))
     obtain ⟨c'1,hp⟩:=Zj hp
     refine Zg (zf (E:=Zn) (z:=x2) (hO'5.rd0 s_cells.rd) q'2_29 q'2_31 c'1) (Zg (Zd5 (E:=Zn) (hO'5.rd0 s_cells.rd) rfl (Zi c'1)) (zQ (hO'5.alloc (cs:=Zn.c (⟨⟨0,0,0,0⟩,⟨0,0,0,0⟩⟩:Ze)) hO'5.fr) ?_))
     rintro _ k'6 ⟨r'1,rfl,n'1,f'1,hW⟩
     have hO'6:=hW
     refine Zd (.n x2) rfl (zQ (hO'6.stb (ws:=Zn.c (gi cells x2.toNat)) (cs':=Zn.c (gi cells x2.toNat)) (v:=.ag (Zn.c (gi cells x2.toNat))) 0 rfl rfl rfl rfl ⟨rfl,Nat.le_of_ble_eq_true rfl,rfl⟩ rfl) ?_)
     rintro _ k'7 ⟨rfl,f'2,m'1,hW⟩
     have hO'7:=hW
     refine Zb (Za (Zh (Zk (zQ (hO'7.bsl (E:=ZM) (l:=([0,1]:List Int)) hO'7.fr (by rw [(zt (v:=.n 0) rfl (zt (v:=.n 1) rfl Za2))]; rfl) rfl) ?_))))
     rintro v'1 k'8 ⟨r'2,f'3,hW⟩
     have hO'8:=hW
     refine Zg (Zau (hO'8.sl 1 rfl) rfl) (Zd (.n 0) rfl (Zb (Za (Zaq ?_))))
     obtain ⟨o'3,ho'2,hp⟩:=Zq hp
     refine W.mono (Q:=fun e fr k=>match (generalizing:=false) o'3 with
       | .inl sum3=>e = (.exit 2)∧fr 1 = v_at_∧fr 7 = .n sum3∧fr 29 = v_cells∧fr 30 = .n (cells.length:Int)∧fr 31 = .n x2∧Own B h k []
       | .inr _=>e = .ret∧fr 4 = .n 0∧fr 5 = .n 15∧Own B h k []) ?_ ?_
     ·clear hp
      refine zP (fun st fr k=>match st with | (sum2,x3)=>fr 1 = v_at_∧fr 7 = .n sum2∧fr 8 = .n x2∧fr 9 = .p r'1 0∧fr 29 = v_cells∧fr 30 = .n (cells.length:Int)∧fr 31 = .n x2∧fr 36 = v'1∧fr 37 = .n (([0,1]:List Int).length:Int)∧fr 38 = .n x3∧Own B h k [ZbF r'1 (Zn.c (gi cells x2.toNat)),eSl ZM v'1 ([0,1]:List Int)]) ho'2 (s:=(sum,0)) ⟨q'2_1,q'2_7,rfl,rfl,q'2_29,q'2_30,q'2_31,rfl,rfl,rfl,(hO'8.pick [0,1] rfl (by decide))⟩ ?_
      rintro ⟨sum2,x3⟩ q'4 k'10 ⟨q'4_1,q'4_7,q'4_8,q'4_9,q'4_29,q'4_30,q'4_31,q'4_36,q'4_37,q'4_38,hO'10⟩ o'4 hp
      dsimp only [Zam.s1] at hp
      refine Zh (Zk (Zg (zN (a:=x3) (b:=(([0,1]:List Int).length:Int)) q'4_38 q'4_37) (Zb (Za (Zh ?_)))))
      rcases Zp hp with ⟨b'5,hp⟩ | ⟨b'5,hp⟩
      ·refine zA (t:=(decide (x3 < (([0,1]:List Int).length:Int)))) rfl b'5 ?_
       refine zD (Za (Zh (Zaq (Zh (Zk ?_)))))
       obtain ⟨c'2,hp⟩:=Zj hp
       refine Zg (zf (E:=ZM) (z:=x3) (hO'10.sl 1 rfl) q'4_36 q'4_38 c'2) (Zg (zB (w:=.n (gi ([0,1]:List Int) x3.toNat)) (hO'10.sl 1 rfl) rfl (Zi c'2) rfl) (Zd (.n (gi ([0,1]:List Int) x3.toNat)) rfl (Zb (Za (Zh (Zk (Zd (.n (gi ([0,1]:List Int) x3.toNat)) rfl ?_)))))))
       refine Zg (ZaL (r:=r'1) (o:=0) (o':=0) q'4_9 rfl) ?_
       obtain ⟨c'3,hp⟩:=Zj hp
       refine Zg (ZdU (o:=0) (o':=(0 + (gi ([0,1]:List Int) x3.toNat:Int).toNat * 1)) (z:=(gi ([0,1]:List Int) x3.toNat)) rfl rfl c'3 rfl) (Zg (Zac (cs:=(Zn.c (gi cells x2.toNat))) (v:=.n (((gi cells x2.toNat).Next).get (gi ([0,1]:List Int) x3.toNat))) (hO'10.box 0 rfl) rfl (zO c'3)) (Zd (.n (((gi cells x2.toNat).Next).get (gi ([0,1]:List Int) x3.toNat))) rfl (Zb (Za (Zh (Zh (Zk ?_)))))))
       refine Zd (.n (((gi cells x2.toNat).Next).get (gi ([0,1]:List Int) x3.toNat))) rfl (Zg (zN (a:=(((gi cells x2.toNat).Next).get (gi ([0,1]:List Int) x3.toNat))) (b:=0) rfl rfl) (Zb (Za ?_)))
       rcases Zp hp with ⟨b'6,hp⟩ | ⟨b'6,hp⟩
       ·refine zA (t:=(decide ((((gi cells x2.toNat).Next).get (gi ([0,1]:List Int) x3.toNat)) < 0))) rfl b'6 ?_
        refine Zbv (zY (ZaD (Za (Zk ?_))))
        obtain ⟨c'4,hp⟩:=Zj hp
        refine Zg (z6 (a:=x3) (b:=1) q'4_38 rfl c'4) (Zd (.n (x3 + 1)) rfl (Zb ?_))
        cases hp
        exact (Or.inl ⟨(sum2,x3 + 1),rfl,rfl,q'4_1,q'4_7,q'4_8,q'4_9,q'4_29,q'4_30,q'4_31,q'4_36,q'4_37,rfl,(hO'10.pick [0,1] rfl (by decide))⟩)
       ·refine z7 (t:=(decide ((((gi cells x2.toNat).Next).get (gi ([0,1]:List Int) x3.toNat)) < 0))) rfl b'6 ?_
        refine zD (Za (Zh (Zh (Zfi ?_))))
        have hW:=hO'10.bump 14
        have fr'1:=Fresh.start k'10 14
        have nb'1:∀ {i:Nat},h.n≤k'10.n + i:=Nat.le_trans hO'10.n (Nat.le_add_right _ _)
        have hO'11:=hW
        refine ZaS v_at_ q'4_1 (ZaS (.n x2) q'4_8 ?_)
        obtain ⟨c'5,hp⟩:=Zj hp
        refine z9 (zf (E:=Zc) (z:=x2) (hO'11.rd0 s_at_.rd) rfl rfl c'5) (z9 (Zd5 (E:=Zc) (hO'11.rd0 s_at_.rd) rfl (Zi c'5)) (ZaS v_at_ q'4_1 (ZaS (.n (((gi cells x2.toNat).Next).get (gi ([0,1]:List Int) x3.toNat))) rfl ?_)))
        obtain ⟨c'6,hp⟩:=Zj hp
        refine z9 (zf (E:=Zc) (z:=(((gi cells x2.toNat).Next).get (gi ([0,1]:List Int) x3.toNat))) (hO'11.rd0 s_at_.rd) rfl rfl c'6) (z9 (Zd5 (E:=Zc) (hO'11.rd0 s_at_.rd) rfl (Zi c'6)) ?_)
        obtain ⟨⟨x4,x5⟩,hx'3,hp⟩:=Zq hp
        obtain ⟨u'3,k'12,ca'3,rfl,hW'3⟩:=Zb0.ok (h:=(k'10.bump 14))   hx'3
        refine Zgf (id:=148) (caps:=[]) rfl (Zu (v:=.ag (Zc.c (gi at_ x2.toNat))) rfl (Zu (v:=.ag (Zc.c (gi at_ (((gi cells x2.toNat).Next).get (gi ([0,1]:List Int) x3.toNat):Int).toNat))) rfl zx)) ca'3 ?_
        have fr'2:=fr'1.call hW'3
        have hO'12:=hO'11.call hW'3 rfl
        refine ZaS (.tu [.n x4,.b x5]) rfl (z9 (Zb6 (vs:=[.n x4,.b x5]) (v:=.n x4) rfl rfl) (z9 (Zb6 (vs:=[.n x4,.b x5]) (v:=.b x5) rfl rfl) (ZaS (.n x4) rfl (ZaS (.b x5) rfl (Zcu ?_)))))
        refine And.intro ?_ ?_
        ·intro q hq
         simp only [List.mem_cons,List.not_mem_nil,or_false] at hq
         rcases hq with rfl
         ·refine ZaF ?_ ?_
          ·exact (fun h=>nomatch h)
          ·exact (fun h=>nomatch h)
        refine Za (Zh (Zk (Zd (.b x5) rfl (Zg (Zc3 (t:=x5) rfl) (Zd (.b (!x5)) rfl ?_)))))
        refine Za0 4 (fun fr' k'=>k'12 = k'∧fr' 66 = .b ((!x5) || (!(decide (x4 = gi ([0,1]:List Int) x3.toNat))))∧fr' 1 = v_at_∧fr' 11 = .n (gi ([0,1]:List Int) x3.toNat)∧fr' 12 = .n (((gi cells x2.toNat).Next).get (gi ([0,1]:List Int) x3.toNat))∧fr' 29 = v_cells∧fr' 30 = .n (cells.length:Int)∧fr' 31 = .n x2∧fr' 36 = v'1∧fr' 37 = .n (([0,1]:List Int).length:Int)∧fr' 38 = .n x3∧fr' 7 = .n sum2∧fr' 8 = .n x2∧fr' 9 = .p r'1 0) ?_ ?_
        ·rcases bc (!x5) with b'7 | b'7
         ·skip
          refine Zv rfl b'7 (Zv rfl b'7 (Zv rfl b'7 (Zg (zr (t:=(!x5)) (v:=.b ((!x5) || (!(decide (x4 = gi ([0,1]:List Int) x3.toNat))))) rfl b'7 (Eq.trans (b:=V.b true) rfl (Zbx b'7))) (Zb ?_))))
          exact ⟨rfl,rfl,q'4_1,rfl,rfl,q'4_29,q'4_30,q'4_31,q'4_36,q'4_37,q'4_38,q'4_7,q'4_8,q'4_9⟩
         ·skip
          refine Z8 rfl b'7 (Zd (.n x4) rfl (Z8 rfl b'7 (Zd (.n (gi ([0,1]:List Int) x3.toNat)) rfl (Z8 rfl b'7 (Zg (Zck (a:=x4) (b:=(gi ([0,1]:List Int) x3.toNat)) rfl rfl) (Zg (zm (t:=(!x5)) (v:=.b ((!x5) || (!(decide (x4 = gi ([0,1]:List Int) x3.toNat))))) rfl b'7 (Eq.trans (b:=V.b (!(decide (x4 = gi ([0,1]:List Int) x3.toNat)))) rfl (Zca b'7))) (Zb ?_)))))))
          exact ⟨rfl,rfl,q'4_1,rfl,rfl,q'4_29,q'4_30,q'4_31,q'4_36,q'4_37,q'4_38,q'4_7,q'4_8,q'4_9⟩
        rintro frg'2 _ ⟨rfl,g'2_66,g'2_1,g'2_11,g'2_12,g'2_29,g'2_30,g'2_31,g'2_36,g'2_37,g'2_38,g'2_7,g'2_8,g'2_9⟩
        refine Zb (Za ?_)
        rcases Zp hp with ⟨b'8,hp⟩ | ⟨b'8,hp⟩
        ·refine zA (t:=((!x5) || (!(decide (x4 = gi ([0,1]:List Int) x3.toNat))))) g'2_66 b'8 ?_
         refine Zh (Zk (Zd (.n 0) rfl (Zd (.n 15) rfl (Zb (Za (Zad (zk ?_)))))))
         refine ZaP (zk ?_)
         cases hp
         refine (Or.inr ⟨.inr (),rfl,(fun h=>nomatch h),(fun he=>?_)⟩)
         subst he; exact ⟨rfl,rfl,rfl,(hO'12.pick [] rfl (by decide))⟩
        ·refine z7 (t:=((!x5) || (!(decide (x4 = gi ([0,1]:List Int) x3.toNat))))) g'2_66 b'8 ?_
         refine zD (Za (Zfi ?_))
         have hW:=hO'12.bump 32
         have fr'3:=Fresh.start k'12 32
         have nb'2:∀ {i:Nat},h.n≤k'12.n + i:=Nat.le_trans hO'12.n (Nat.le_add_right _ _)
         have hO'13:=hW
         refine ZaS (.n sum2) g'2_7 (ZaS (.n (gi ([0,1]:List Int) x3.toNat)) g'2_11 (z9 (ZaL (r:=r'1) (o:=0) (o':=4) g'2_9 rfl) (z9 (ZdU (o:=4) (o':=(4 + (gi ([0,1]:List Int) x3.toNat:Int).toNat * 1)) (z:=(gi ([0,1]:List Int) x3.toNat)) rfl rfl c'3 rfl) (z9 (Zac (cs:=(Zn.c (gi cells x2.toNat))) (v:=.n (((gi cells x2.toNat).Owner).get (gi ([0,1]:List Int) x3.toNat))) (hO'13.box 0 rfl) rfl (Zce c'3)) ?_))))
         obtain ⟨x6,hx'4,hp⟩:=Zq hp
         obtain ⟨u'4,k'14,ca'4,rfl,hW'4⟩:=Zcw.ok (h:=(k'12.bump 32))   hx'4
         refine Zgf (id:=149) (caps:=[]) rfl (Zu (v:=.n (((gi cells x2.toNat).Owner).get (gi ([0,1]:List Int) x3.toNat))) rfl zx) ca'4 ?_
         have fr'4:=fr'3.call hW'4
         have hO'14:=hO'13.call hW'4 rfl
         refine ZaS v_at_ g'2_1 (ZaS (.n (((gi cells x2.toNat).Next).get (gi ([0,1]:List Int) x3.toNat))) g'2_12 (z9 (zf (E:=Zc) (z:=(((gi cells x2.toNat).Next).get (gi ([0,1]:List Int) x3.toNat))) (hO'14.rd0 s_at_.rd) rfl rfl c'6) (z9 (Za1 (off':=0) (off2:=0) (hO'14.rd0 s_at_.rd) (Zi c'6) rfl rfl) (z9 (zB (w:=.n ((gi at_ (((gi cells x2.toNat).Next).get (gi ([0,1]:List Int) x3.toNat):Int).toNat).X)) (hO'14.rd0 s_at_.rd) rfl (Zi c'6) rfl) (ZaS v_at_ g'2_1 (ZaS (.n x2) g'2_8 (z9 (zf (E:=Zc) (z:=x2) (hO'14.rd0 s_at_.rd) rfl rfl c'5) ?_)))))))
         refine z9 (Za1 (off':=0) (off2:=0) (hO'14.rd0 s_at_.rd) (Zi c'5) rfl rfl) (z9 (zB (w:=.n ((gi at_ x2.toNat).X)) (hO'14.rd0 s_at_.rd) rfl (Zi c'5) rfl) ?_)
         obtain ⟨c'7,hp⟩:=Zj hp
         refine z9 (ZgH (a:=((gi at_ (((gi cells x2.toNat).Next).get (gi ([0,1]:List Int) x3.toNat):Int).toNat).X)) (b:=((gi at_ x2.toNat).X)) rfl rfl c'7) (ZaS v_at_ g'2_1 (ZaS (.n (((gi cells x2.toNat).Next).get (gi ([0,1]:List Int) x3.toNat))) g'2_12 (z9 (zf (E:=Zc) (z:=(((gi cells x2.toNat).Next).get (gi ([0,1]:List Int) x3.toNat))) (hO'14.rd0 s_at_.rd) rfl rfl c'6) (z9 (Za1 (off':=0) (off2:=1) (hO'14.rd0 s_at_.rd) (Zi c'6) rfl rfl) (z9 (zB (w:=.n ((gi at_ (((gi cells x2.toNat).Next).get (gi ([0,1]:List Int) x3.toNat):Int).toNat).Y)) (hO'14.rd0 s_at_.rd) rfl (Zi c'6) rfl) ?_)))))
         obtain ⟨c'8,hp⟩:=Zj hp
         refine z9 (z6 (a:=(((gi at_ (((gi cells x2.toNat).Next).get (gi ([0,1]:List Int) x3.toNat):Int).toNat).X) - ((gi at_ x2.toNat).X))) (b:=((gi at_ (((gi cells x2.toNat).Next).get (gi ([0,1]:List Int) x3.toNat):Int).toNat).Y)) rfl rfl c'8) (ZaS v_at_ g'2_1 (ZaS (.n x2) g'2_8 (z9 (zf (E:=Zc) (z:=x2) (hO'14.rd0 s_at_.rd) rfl rfl c'5) (z9 (Za1 (off':=0) (off2:=1) (hO'14.rd0 s_at_.rd) (Zi c'5) rfl rfl) (z9 (zB (w:=.n ((gi at_ x2.toNat).Y)) (hO'14.rd0 s_at_.rd) rfl (Zi c'5) rfl) ?_)))))
         obtain ⟨c'9,hp⟩:=Zj hp
         refine z9 (ZgH (a:=((((gi at_ (((gi cells x2.toNat).Next).get (gi ([0,1]:List Int) x3.toNat):Int).toNat).X) - ((gi at_ x2.toNat).X)) + ((gi at_ (((gi cells x2.toNat).Next).get (gi ([0,1]:List Int) x3.toNat):Int).toNat).Y))) (b:=((gi at_ x2.toNat).Y)) rfl rfl c'9) ?_
         obtain ⟨c'10,hp⟩:=Zj hp
         refine z9 (ZfJ (a:=x6) (b:=(((((gi at_ (((gi cells x2.toNat).Next).get (gi ([0,1]:List Int) x3.toNat):Int).toNat).X) - ((gi at_ x2.toNat).X)) + ((gi at_ (((gi cells x2.toNat).Next).get (gi ([0,1]:List Int) x3.toNat):Int).toNat).Y)) - ((gi at_ x2.toNat).Y))) rfl rfl c'10) ?_
         obtain ⟨c'11,hp⟩:=Zj hp
         refine z9 (z6 (a:=sum2) (b:=(x6 * (((((gi at_ (((gi cells x2.toNat).Next).get (gi ([0,1]:List Int) x3.toNat):Int).toNat).X) - ((gi at_ x2.toNat).X)) + ((gi at_ (((gi cells x2.toNat).Next).get (gi ([0,1]:List Int) x3.toNat):Int).toNat).Y)) - ((gi at_ x2.toNat).Y)))) rfl rfl c'11) (ZaS (.n (sum2 + (x6 * (((((gi at_ (((gi cells x2.toNat).Next).get (gi ([0,1]:List Int) x3.toNat):Int).toNat).X) - ((gi at_ x2.toNat).X)) + ((gi at_ (((gi cells x2.toNat).Next).get (gi ([0,1]:List Int) x3.toNat):Int).toNat).Y)) - ((gi at_ x2.toNat).Y))))) rfl (Zcu ?_))
         refine And.intro ?_ ?_
         ·intro q hq
          simp only [List.mem_cons,List.not_mem_nil,or_false] at hq
          rcases hq with rfl | rfl | rfl | rfl | rfl | rfl | rfl | rfl | rfl | rfl | rfl | rfl | rfl | rfl
          ·refine ZaF ?_ ?_
           ·exact (fun h=>nomatch h)
           ·exact (fun h=>nomatch h)
          ·refine Zgn rfl ?_
           ·exact (fun r hm hc=>hc (hW'4.base r (Nat.lt_of_lt_of_le (Nat.lt_of_lt_of_le (hO'12.lo _ (Rd.B s_at_.rd hO'12.lo (Zi c'6) _ (Zct (tch (v:=V.elt v_at_ (((gi cells x2.toNat).Next).get (gi ([0,1]:List Int) x3.toNat):Int).toNat 0) (ZcH hm) rfl)))) hO'12.n) (Nat.le_trans (Nat.le_add_right _ _) fr'3.n))))
          ·refine ZaF ?_ ?_
           ·exact (fun h=>nomatch h)
           ·exact (fun h=>nomatch h)
          ·refine Zgn rfl ?_
           ·exact (fun r hm hc=>hc (hW'4.base r (Nat.lt_of_lt_of_le (Nat.lt_of_lt_of_le (hO'12.lo _ (Rd.B s_at_.rd hO'12.lo (Zi c'5) _ (Zct (tch (v:=V.elt v_at_ x2.toNat 0) (ZcH hm) rfl)))) hO'12.n) (Nat.le_trans (Nat.le_add_right _ _) fr'3.n))))
          ·refine ZaF ?_ ?_
           ·exact (fun h=>nomatch h)
           ·exact (fun h=>nomatch h)
          ·refine ZaF ?_ ?_
           ·exact (fun h=>nomatch h)
           ·exact (fun h=>nomatch h)
          ·refine Zgn rfl ?_
           ·exact (fun r hm hc=>hc (hW'4.base r (Nat.lt_of_lt_of_le (Nat.lt_of_lt_of_le (hO'12.lo _ (Rd.B s_at_.rd hO'12.lo (Zi c'6) _ (Zct (tch (v:=V.elt v_at_ (((gi cells x2.toNat).Next).get (gi ([0,1]:List Int) x3.toNat):Int).toNat 1) (ZcH hm) rfl)))) hO'12.n) (Nat.le_trans (Nat.le_add_right _ _) fr'3.n))))
          ·refine ZaF ?_ ?_
           ·exact (fun h=>nomatch h)
           ·exact (fun h=>nomatch h)
          ·refine ZaF ?_ ?_
           ·exact (fun h=>nomatch h)
           ·exact (fun h=>nomatch h)
          ·refine ZaF ?_ ?_
           ·exact (fun h=>nomatch h)
           ·exact (fun h=>nomatch h)
          ·refine Zgn rfl ?_
           ·exact (fun r hm hc=>hc (hW'4.base r (Nat.lt_of_lt_of_le (Nat.lt_of_lt_of_le (hO'12.lo _ (Rd.B s_at_.rd hO'12.lo (Zi c'5) _ (Zct (tch (v:=V.elt v_at_ x2.toNat 1) (ZcH hm) rfl)))) hO'12.n) (Nat.le_trans (Nat.le_add_right _ _) fr'3.n))))
          ·refine ZaF ?_ ?_
           ·exact (fun h=>nomatch h)
           ·exact (fun h=>nomatch h)
          ·refine ZaF ?_ ?_
           ·exact (fun h=>nomatch h)
           ·exact (fun h=>nomatch h)
          ·refine ZaF ?_ ?_
           ·exact (fun h=>nomatch h)
           ·exact (fun h=>nomatch h)
         refine Zan (Za (Zk ?_))
         obtain ⟨c'12,hp⟩:=Zj hp
         refine Zg (z6 (a:=x3) (b:=1) g'2_38 rfl c'12) (Zd (.n (x3 + 1)) rfl (Zb ?_))
         cases hp
         exact (Or.inl ⟨(sum2 + (x6 * (((((gi at_ (((gi cells x2.toNat).Next).get (gi ([0,1]:List Int) x3.toNat):Int).toNat).X) - ((gi at_ x2.toNat).X)) + ((gi at_ (((gi cells x2.toNat).Next).get (gi ([0,1]:List Int) x3.toNat):Int).toNat).Y)) - ((gi at_ x2.toNat).Y))),x3 + 1),rfl,rfl,g'2_1,rfl,g'2_8,g'2_9,g'2_29,g'2_30,g'2_31,g'2_36,g'2_37,rfl,(hO'14.pick [0,1] rfl (by decide))⟩)
      ·refine z7 (t:=(decide (x3 < (([0,1]:List Int).length:Int)))) rfl b'5 ?_
       refine Zbv (zY ?_)
       cases hp
       refine (Or.inr ⟨.inl sum2,rfl,(fun h=>nomatch h),(fun he=>?_)⟩)
       subst he; exact ⟨rfl,q'4_1,q'4_7,q'4_29,q'4_30,q'4_31,(hO'10.pick [] rfl (by decide))⟩
     intro e'2 q'3 k'9 hJ'2
     rcases o'3 with sum3 | _
     ·obtain ⟨rfl,q'3_1,q'3_7,q'3_29,q'3_30,q'3_31,hO'9⟩:=hJ'2
      refine ZaD (Zan (Za (Zk ?_)))
      obtain ⟨c'13,hp⟩:=Zj hp
      refine Zg (z6 (a:=x2) (b:=1) q'3_31 rfl c'13) (Zd (.n (x2 + 1)) rfl (Zb ?_))
      cases hp
      exact (Or.inl ⟨(sum3,x2 + 1),rfl,rfl,q'3_1,q'3_7,q'3_29,q'3_30,rfl,(hO'9.pick [] rfl (by decide))⟩)
     ·obtain ⟨rfl,q'3_4,q'3_5,hO'9⟩:=hJ'2
      refine ZaP (ZaP (zk ?_))
      cases hp
      refine (Or.inr ⟨.inr (),rfl,(fun h=>nomatch h),(fun he=>?_)⟩)
      subst he; exact ⟨rfl,q'3_4,q'3_5,(hO'9.pick [] rfl (by decide))⟩
    ·refine z7 (t:=(decide (x2 < (cells.length:Int)))) rfl b'4 ?_
     refine Zbv (zY ?_)
     cases hp
     refine (Or.inr ⟨.inl sum,rfl,(fun h=>nomatch h),(fun he=>?_)⟩)
     subst he; exact ⟨rfl,q'2_7,(hO'5.pick [] rfl (by decide))⟩
   intro e'1 q'1 k'4 hJ'1
   rcases o'1 with sum1 | _
   ·obtain ⟨rfl,q'1_7,hO'4⟩:=hJ'1
    refine ZaD (Za (Zh (Zk (Zd (.n sum1) q'1_7 (Zd (.n sum1) rfl (Zd (.n 0) rfl (Zb ?_)))))))
    refine Za (Zad (zu (zG (n:=4) (v:=.n sum1) rfl (zG (n:=5) (v:=.n 0) rfl ZN)) ?_))
    cases hp
    exact ⟨rfl,(hO'4.pick [] rfl (by decide))⟩
   ·obtain ⟨rfl,q'1_4,q'1_5,hO'4⟩:=hJ'1
    refine ZaP (zk (zu (zG (n:=4) (v:=.n 0) q'1_4 (zG (n:=5) (v:=.n 15) q'1_5 ZN)) ?_))
    cases hp
    exact ⟨rfl,(hO'4.pick [] rfl (by decide))⟩

theorem zK.ok {h:Hp} {cells:List Ze} {d:Int} {v_cells:V} (s_cells:Sl Zn h v_cells cells) {r:(List Int) × (List (List Int)) × Bool} (hp:zK cells d = some r) :
  ∃ u k',Is G 137 [v_cells,.n d] h u k'∧∃ (v'1:V),∃ (v'2:V),∃ (vs'1:List V),V.tu [v'1,v'2,.b r.2.2] = u∧Own (fun r=>r < h.n) h k' [eSl ZM v'1 r.1,eSl eV v'2 vs'1,ZbE ZM vs'1 r.2.1]:=by
 refine WC.is (ZaM Zfh ?_)
 unfold zK at hp
 let B:Nat→Prop:=(fun r=>r < h.n)
 have hO:Own B h h []:=Own.start0 h
 refine Zh (Zk (Zd (.sn) rfl (Zd (.sn) rfl (Zd (.b false) rfl (Zb (Za (Zh ?_)))))))
 refine Zk (zQ (hO.bsl (E:=ZM) (l:=([(-1)]:List Int)) hO.fr (by rw [(zt (v:=.n (-1)) rfl Za2)]; rfl) rfl) ?_)
 rintro v'3 k'1 ⟨r'1,f'1,hW⟩
 have hO'1:=hW
 refine Zd v_cells rfl (Zg (Zau (hO'1.rd0 s_cells.rd) rfl) ?_)
 obtain ⟨x,hx'1,hp⟩:=Zq hp
 obtain ⟨u'1,k'2,ca'1,v'4,rfl,hW'1⟩:=Zaf.ok (h:=k'1)  (hO'1.sl 0 rfl:Sl ZM k'1 v'3 ([(-1)]:List Int)) hx'1
 refine Zbd (id:=83) (caps:=[]) rfl (Zu (v:=v'3) rfl (Zu (v:=.n (cells.length:Int)) rfl zx)) ca'1 ?_
 have hO'2:=hO'1.call hW'1 rfl
 refine Zd v'4 rfl (Zb (Za (Zh (Zk (Zd (.n d) rfl ?_)))))
 obtain ⟨x1,hx'2,hp⟩:=Zq hp
 obtain ⟨u'2,k'3,ca'2,rfl,hW'2⟩:=Zbr.ok (h:=k'2)   hx'2
 refine Zbd (id:=77) (caps:=[]) rfl (Zu (v:=.n d) rfl (Zu (v:=.n 2) rfl zx)) ca'2 ?_
 have hO'3:=hO'2.call hW'2 rfl
 refine Zd (.n x1) rfl (Zb (Za (Zh (Zk (Zd (.sn) rfl (Zb (Za ?_)))))))
 refine Zh (Zh (Zk (Zd v_cells rfl (Zg (Zau (hO'3.rd0 s_cells.rd) rfl) (Zd (.n 0) rfl (Zb (Za ?_)))))))
 refine Zaq ?_
 obtain ⟨o'1,ho'1,hp⟩:=Zq hp
 refine W.mono (Q:=fun e fr k=>match (generalizing:=false) o'1 with
   | .inl (at_1,l1)=>e = (.exit 0)∧∃ (v'6:V),∃ (vs'3:List V),fr 7 = v'4∧fr 9 = v'6∧Own B h k [eSl ZM v'4 at_1,eSl eV v'6 vs'3,ZbE ZM vs'3 l1]
   | .inr _=>e = .ret∧fr 4 = .sn∧fr 5 = .sn∧fr 6 = .b false∧Own B h k []) ?_ ?_
 ·clear hp
  have hO'5:=hO'3.nil eV
  have hO'6:=hO'5.allNil ZM 0
  refine zP (fun st fr k=>match st with | (at_,l,x2)=>∃ (v'5:V),∃ (vs'2:List V),fr 0 = v_cells∧fr 1 = .n d∧fr 7 = v'4∧fr 8 = .n x1∧fr 9 = v'5∧fr 22 = .n (cells.length:Int)∧fr 23 = .n x2∧Own B h k [eSl ZM v'4 at_,eSl eV v'5 vs'2,ZbE ZM vs'2 l]) ho'1 (s:=(x,([]:List (List Int)),0)) ⟨V.sn,[],rfl,rfl,rfl,rfl,rfl,rfl,rfl,(hO'6.pick [1,2,3] rfl (by decide))⟩ ?_
  rintro ⟨at_,l,x2⟩ q'2 k'5 ⟨v'5,vs'2,q'2_0,q'2_1,q'2_7,q'2_8,q'2_9,q'2_22,q'2_23,hO'7⟩ o'2 hp
  dsimp only [zK.s0] at hp
  refine Zh (Zk (Zg (zN (a:=x2) (b:=(cells.length:Int)) q'2_23 q'2_22) (Zb (Za (Zh ?_)))))
  rcases Zp hp with ⟨b'1,hp⟩ | ⟨b'1,hp⟩
  ·refine zA (t:=(decide (x2 < (cells.length:Int)))) rfl b'1 ?_
   refine zD (Za (Zh (Zaq (Zh (Zk (Zd (.n x2) q'2_23 (Zd (.n x2) rfl ?_)))))))
   refine Zb (Za (Zh (Zh (Zk (Zd v'4 q'2_7 (Zd (.n x2) rfl ?_))))))
   obtain ⟨c'1,hp⟩:=Zj hp
   refine Zg (zf (E:=ZM) (z:=x2) (hO'7.sl 0 rfl) rfl rfl c'1) (Zg (zB (w:=.n (gi at_ x2.toNat)) (hO'7.sl 0 rfl) rfl (Zi c'1) rfl) (Zg (Zcs (a:=(gi at_ x2.toNat)) (b:=0) rfl rfl) (Zb (Za ?_))))
   rcases Zp hp with ⟨b'2,hp⟩ | ⟨b'2,hp⟩
   ·refine zA (t:=(decide (0≤(gi at_ x2.toNat)))) rfl b'2 ?_
    refine Zbv (zY (ZaD (Za (Zk ?_))))
    obtain ⟨c'2,hp⟩:=Zj hp
    refine Zg (z6 (a:=x2) (b:=1) q'2_23 rfl c'2) (Zd (.n (x2 + 1)) rfl (Zb ?_))
    cases hp
    exact (Or.inl ⟨(at_,l,x2 + 1),rfl,rfl,v'5,vs'2,q'2_0,q'2_1,q'2_7,q'2_8,q'2_9,q'2_22,rfl,(hO'7.pick [0,1,2] rfl (by decide))⟩)
   ·refine z7 (t:=(decide (0≤(gi at_ x2.toNat)))) rfl b'2 ?_
    refine zD (Za (Zh (Zk (Zd (.n x2) rfl (Zd (.n x2) rfl (Zb (Za ?_)))))))
    refine Zh (Zh (Zk (Zd (.n 0) rfl (Zb (Za (Zaq ?_))))))
    obtain ⟨o'3,ho'2,hp⟩:=Zq hp
    refine W.mono (Q:=fun e fr k=>match (generalizing:=false) o'3 with
      | .inl first1=>e = (.exit 2)∧fr 0 = v_cells∧fr 1 = .n d∧fr 7 = v'4∧fr 8 = .n x1∧fr 9 = v'5∧fr 11 = .n first1∧fr 22 = .n (cells.length:Int)∧fr 23 = .n x2∧Own B h k [eSl ZM v'4 at_,eSl eV v'5 vs'2,ZbE ZM vs'2 l]
      | .inr _=>e = .ret∧fr 4 = .sn∧fr 5 = .sn∧fr 6 = .b false∧Own B h k []) ?_ ?_
    ·clear hp
     refine zP (fun st fr k=>match st with | (first,n)=>fr 0 = v_cells∧fr 1 = .n d∧fr 7 = v'4∧fr 8 = .n x1∧fr 9 = v'5∧fr 11 = .n first∧fr 12 = .n n∧fr 22 = .n (cells.length:Int)∧fr 23 = .n x2∧Own B h k [eSl ZM v'4 at_,eSl eV v'5 vs'2,ZbE ZM vs'2 l]) ho'2 (s:=(x2,0)) ⟨q'2_0,q'2_1,q'2_7,q'2_8,q'2_9,rfl,rfl,q'2_22,q'2_23,(hO'7.pick [0,1,2] rfl (by decide))⟩ ?_
     rintro ⟨first,n⟩ q'4 k'7 ⟨q'4_0,q'4_1,q'4_7,q'4_8,q'4_9,q'4_11,q'4_12,q'4_22,q'4_23,hO'9⟩ o'4 hp
     dsimp only [zK.s1] at hp
     refine Zh (Zh (Zk (Zd v_cells q'4_0 (Zd (.n first) q'4_11 (Zd (.n x1) q'4_8 ?_)))))
     obtain ⟨c'3,hp⟩:=Zj hp
     refine Zg (zf (E:=Zn) (z:=first) (hO'9.rd0 s_cells.rd) rfl rfl c'3) (Zg (Za1 (off':=0) (off2:=0) (hO'9.rd0 s_cells.rd) (Zi c'3) rfl rfl) ?_)
     obtain ⟨c'4,hp⟩:=Zj hp
     refine Zg (ZbC (off:=0) (off2:=(0 + x1.toNat * 1)) (z:=x1) (hO'9.rd0 s_cells.rd) (Zi c'3) rfl rfl c'4 rfl) (Zg (zB (w:=.n (((gi cells first.toNat).Next).get x1)) (hO'9.rd0 s_cells.rd) rfl (Zi c'3) (zO c'4)) (Zg (Zcs (a:=(((gi cells first.toNat).Next).get x1)) (b:=0) rfl rfl) (Zb (Za ?_))))
     rcases Zp hp with ⟨b'3,hp⟩ | ⟨b'3,hp⟩
     ·refine zA (t:=(decide (0≤(((gi cells first.toNat).Next).get x1)))) rfl b'3 ?_
      refine zD (Za (Zh (Zaq (Zh (Zh (Zk (Zd (.n n) q'4_12 ?_)))))))
      refine Zd v_cells q'4_0 (Zg (Zau (hO'9.rd0 s_cells.rd) rfl) (Zg (ZbQ (a:=n) (b:=(cells.length:Int)) rfl rfl) (Zb (Za ?_))))
      rcases Zp hp with ⟨b'4,hp⟩ | ⟨b'4,hp⟩
      ·refine zA (t:=(decide (n = (cells.length:Int)))) rfl b'4 ?_
       refine Zh (Zk (Zd (.sn) rfl (Zd (.sn) rfl (Zd (.b false) rfl (Zb (Za (Zad ?_)))))))
       refine zk (ZaP (zk ?_))
       cases hp
       refine (Or.inr ⟨.inr (),rfl,(fun h=>nomatch h),(fun he=>?_)⟩)
       subst he; exact ⟨rfl,rfl,rfl,rfl,(hO'9.pick [] rfl (by decide))⟩
      ·refine z7 (t:=(decide (n = (cells.length:Int)))) rfl b'4 ?_
       refine zD (Za (Zk (Zd v_cells q'4_0 (Zd (.n first) q'4_11 (Zd (.n x1) q'4_8 (Zg (zf (E:=Zn) (z:=first) (hO'9.rd0 s_cells.rd) rfl rfl c'3) (Zg (Za1 (off':=0) (off2:=0) (hO'9.rd0 s_cells.rd) (Zi c'3) rfl rfl) ?_)))))))
       refine Zg (ZbC (off:=0) (off2:=(0 + x1.toNat * 1)) (z:=x1) (hO'9.rd0 s_cells.rd) (Zi c'3) rfl rfl c'4 rfl) (Zg (zB (w:=.n (((gi cells first.toNat).Next).get x1)) (hO'9.rd0 s_cells.rd) rfl (Zi c'3) (zO c'4)) (Zd (.n (((gi cells first.toNat).Next).get x1)) rfl (Zb (Zan (Za (Zk (Zd (.n n) q'4_12 ?_)))))))
       obtain ⟨c'5,hp⟩:=Zj hp
       refine Zg (z6 (a:=n) (b:=1) rfl rfl c'5) (Zd (.n (n + 1)) rfl (Zb ?_))
       cases hp
       exact (Or.inl ⟨(((gi cells first.toNat).Next).get x1,n + 1),rfl,rfl,q'4_0,q'4_1,q'4_7,q'4_8,q'4_9,rfl,rfl,q'4_22,q'4_23,(hO'9.pick [0,1,2] rfl (by decide))⟩)
     ·refine z7 (t:=(decide (0≤(((gi cells first.toNat).Next).get x1)))) rfl b'3 ?_
      refine Zbv (zY ?_)
      cases hp
      refine (Or.inr ⟨.inl first,rfl,(fun h=>nomatch h),(fun he=>?_)⟩)
      subst he; exact ⟨rfl,q'4_0,q'4_1,q'4_7,q'4_8,q'4_9,q'4_11,q'4_22,q'4_23,(hO'9.pick [0,1,2] rfl (by decide))⟩
    intro e'2 q'3 k'6 hJ'2
    rcases o'3 with first1 | _
    ·obtain ⟨rfl,q'3_0,q'3_1,q'3_7,q'3_8,q'3_9,q'3_11,q'3_22,q'3_23,hO'8⟩:=hJ'2
     refine ZaD (Za (Zh (Zk (Zd (.sn) rfl (Zb (Za (Zh ?_)))))))
     refine Zh (Zk (Zd (.n first1) q'3_11 (Zd (.n first1) rfl (Zb (Za (Zaq ?_))))))
     obtain ⟨o'5,ho'3,hp⟩:=Zq hp
     refine W.mono (Q:=fun e fr k=>match (generalizing:=false) o'5 with
       | (at_3,chain1)=>e = (.exit 4)∧∃ (v'8:V),fr 0 = v_cells∧fr 1 = .n d∧fr 7 = v'4∧fr 8 = .n x1∧fr 9 = v'5∧fr 13 = v'8∧fr 22 = .n (cells.length:Int)∧fr 23 = .n x2∧Own B h k [eSl ZM v'4 at_3,eSl eV v'5 vs'2,ZbE ZM vs'2 l,eSl ZM v'8 chain1]) ?_ ?_
     ·clear hp
      have hO'11:=hO'8.nil ZM
      refine zP (fun st fr k=>match st with | (at_2,chain,w)=>∃ (v'7:V),fr 0 = v_cells∧fr 1 = .n d∧fr 7 = v'4∧fr 8 = .n x1∧fr 9 = v'5∧fr 13 = v'7∧fr 14 = .n w∧fr 22 = .n (cells.length:Int)∧fr 23 = .n x2∧Own B h k [eSl ZM v'4 at_2,eSl eV v'5 vs'2,ZbE ZM vs'2 l,eSl ZM v'7 chain]) ho'3 (s:=(at_,([]:List Int),first1)) ⟨V.sn,q'3_0,q'3_1,q'3_7,q'3_8,q'3_9,rfl,rfl,q'3_22,q'3_23,(hO'11.pick [0,1,2,3] rfl (by decide))⟩ ?_
      rintro ⟨at_2,chain,w⟩ q'6 k'9 ⟨v'7,q'6_0,q'6_1,q'6_7,q'6_8,q'6_9,q'6_13,q'6_14,q'6_22,q'6_23,hO'12⟩ o'6 hp
      dsimp only [zK.s2] at hp
      refine Zh (Zh (Zk (Zd (.n w) q'6_14 (Zg (Zcs (a:=w) (b:=0) rfl rfl) (Zb (Za ?_))))))
      rcases Zp hp with ⟨b'5,hp⟩ | ⟨b'5,hp⟩
      ·refine zA (t:=(decide (0≤w))) rfl b'5 ?_
       refine zD (Za (Zh (Zaq (Zh (Zk (Zd v'4 q'6_7 (Zd (.n w) q'6_14 ?_)))))))
       refine Zd v'5 q'6_9 (Zg (Zej (n:=(l).length) (hO'12.sl 1 rfl) (hO'12.allLen 2 rfl:(vs'2).length = (l).length) rfl) ?_)
       obtain ⟨c'6,hp⟩:=Zj hp
       refine Zg (zf (E:=ZM) (z:=w) (hO'12.sl 0 rfl) rfl rfl c'6) (zQ (hO'12.ste (E:=ZM) (y:=(l.length:Int)) (ws:=[.n (l.length:Int)]) 0 rfl rfl (Zi c'6) rfl rfl ⟨rfl,Nat.le_of_ble_eq_true rfl,rfl⟩ rfl) ?_)
       rintro _ k'10 ⟨rfl,f'2,m'1,hW⟩
       have hO'13:=hW
       refine Zb (Za (Zk (Zd v'7 q'6_13 (Zd (.n w) q'6_14 (zQ (hO'13.bsl (E:=ZM) (l:=[w]) hO'13.fr (by rw [(zt (v:=.n w) rfl Za2)]; rfl) rfl) ?_)))))
       rintro v'9 k'11 ⟨r'2,f'3,hW⟩
       have hO'14:=hW
       obtain ⟨c'7,hp⟩:=Zj hp
       refine zQ (hO'14.app (E:=ZM) (bytes:=8) 3 hO'14.fr rfl (hO'14.sl 4 rfl) rfl rfl (fun _=>rfl) c'7 (by decide)) ?_
       rintro v'10 k'12 ⟨f'4,hW⟩
       have hO'15:=hW
       refine Zd v'10 rfl (Zb (Zan (Za (Zk (Zd v_cells q'6_0 (Zd (.n w) q'6_14 (Zd (.n d) q'6_1 ?_)))))))
       obtain ⟨c'8,hp⟩:=Zj hp
       refine Zg (zf (E:=Zn) (z:=w) (hO'15.rd0 s_cells.rd) rfl rfl c'8) (Zg (Za1 (off':=0) (off2:=0) (hO'15.rd0 s_cells.rd) (Zi c'8) rfl rfl) ?_)
       obtain ⟨c'9,hp⟩:=Zj hp
       refine Zg (ZbC (off:=0) (off2:=(0 + d.toNat * 1)) (z:=d) (hO'15.rd0 s_cells.rd) (Zi c'8) rfl rfl c'9 rfl) (Zg (zB (w:=.n (((gi cells w.toNat).Next).get d)) (hO'15.rd0 s_cells.rd) rfl (Zi c'8) (zO c'9)) (Zd (.n (((gi cells w.toNat).Next).get d)) rfl (Zb ?_)))
       cases hp
       exact (Or.inl ⟨(at_2.set w.toNat (l.length:Int),chain++[w],((gi cells w.toNat).Next).get d),rfl,rfl,v'10,q'6_0,q'6_1,q'6_7,q'6_8,q'6_9,rfl,rfl,q'6_22,q'6_23,(hO'15.pick [0,1,2,3] rfl (by decide))⟩)
      ·refine z7 (t:=(decide (0≤w))) rfl b'5 ?_
       refine Zbv (zY ?_)
       cases hp
       refine (Or.inr ⟨(at_2,chain),rfl,(fun h=>nomatch h),(fun he=>?_)⟩)
       subst he; exact ⟨rfl,v'7,q'6_0,q'6_1,q'6_7,q'6_8,q'6_9,q'6_13,q'6_22,q'6_23,(hO'12.pick [0,1,2,3] rfl (by decide))⟩
     intro e'3 q'5 k'8 hJ'3
     obtain ⟨at_3,chain1⟩:=o'5
     obtain ⟨rfl,v'8,q'5_0,q'5_1,q'5_7,q'5_8,q'5_9,q'5_13,q'5_22,q'5_23,hO'10⟩:=hJ'3
     refine ZaD (Za (Zk (Zd v'5 q'5_9 (Zd v'8 q'5_13 (zQ (hO'10.bsl (E:=eV) (l:=[v'8]) hO'10.fr (by rw [(zt (v:=v'8) rfl Za2)]; simp only [fill,(hO'10.sl 3 rfl).cells]; simp [over]) rfl) ?_)))))
     rintro v'11 k'13 ⟨r'3,f'5,hW⟩
     have hO'16:=hW
     obtain ⟨c'10,hp⟩:=Zj hp
     refine zQ (hO'16.appV (bytes:=24) 1 hO'16.fr rfl (hO'16.sl 4 rfl) rfl rfl (by simp only [List.all_cons,List.all_nil,Bool.and_true]; exact (hO'16.sl 3 rfl).oneV) (by rw [(hO'16.allLen 2 rfl:(vs'2).length = (l).length)]; exact c'10) (by decide)) ?_
     rintro v'12 k'14 ⟨f'6,hW⟩
     have hO'17:=hW
     have hO'18:=hO'17.absorb 2 3 rfl rfl (by decide)
     refine Zd v'12 rfl (Zb (Zan (Za (Zk ?_))))
     obtain ⟨c'11,hp⟩:=Zj hp
     refine Zg (z6 (a:=x2) (b:=1) q'5_23 rfl c'11) (Zd (.n (x2 + 1)) rfl (Zb ?_))
     cases hp
     exact (Or.inl ⟨(at_3,l++[chain1],x2 + 1),rfl,rfl,v'12,vs'2++[v'8],q'5_0,q'5_1,q'5_7,q'5_8,rfl,q'5_22,rfl,(hO'18.pick [0,1,2] rfl (by decide))⟩)
    ·obtain ⟨rfl,q'3_4,q'3_5,q'3_6,hO'8⟩:=hJ'2
     refine ZaP (zk (ZaP (zk ?_)))
     cases hp
     refine (Or.inr ⟨.inr (),rfl,(fun h=>nomatch h),(fun he=>?_)⟩)
     subst he; exact ⟨rfl,q'3_4,q'3_5,q'3_6,(hO'8.pick [] rfl (by decide))⟩
  ·refine z7 (t:=(decide (x2 < (cells.length:Int)))) rfl b'1 ?_
   refine Zbv (zY ?_)
   cases hp
   refine (Or.inr ⟨(.inl (at_,l)),rfl,(fun h=>nomatch h),(fun he=>?_)⟩)
   subst he; exact ⟨rfl,v'5,vs'2,q'2_7,q'2_9,(hO'7.pick [0,1,2] rfl (by decide))⟩
 intro e'1 q'1 k'4 hJ'1
 rcases o'1 with ⟨at_1,l1⟩ | _
 ·obtain ⟨rfl,v'6,vs'3,q'1_7,q'1_9,hO'4⟩:=hJ'1
  refine ZaD (Za (Zh (Zk (Zd v'4 q'1_7 (Zd v'6 q'1_9 (Zd v'4 rfl (Zd v'6 rfl ?_)))))))
  refine Zd (.b true) rfl (Zb (Za (Zad (zu (zG (n:=4) (v:=v'4) rfl (zG (n:=5) (v:=v'6) rfl (zG (n:=6) (v:=.b true) rfl ZN))) ?_))))
  cases hp
  exact ⟨v'4,v'6,vs'3,rfl,(hO'4.pick [0,1,2] rfl (by decide))⟩
 ·obtain ⟨rfl,q'1_4,q'1_5,q'1_6,hO'4⟩:=hJ'1
  refine ZaP (zk ?_)
  have hO'19:=hO'4.nil ZM
  have hO'20:=hO'19.nil eV
  have hO'21:=hO'20.allNil ZM 0
  refine zu (zG (n:=4) (v:=.sn) q'1_4 (zG (n:=5) (v:=.sn) q'1_5 (zG (n:=6) (v:=.b false) q'1_6 ZN))) ?_
  cases hp
  exact ⟨V.sn,V.sn,[],rfl,(hO'21.pick [0,1,2] rfl (by decide))⟩

theorem Zcg.ok {h:Hp} {cells:List Ze} {v_cells:V} (s_cells:Sl Zn h v_cells cells) {r:ZaZ × Int} (hp:Zcg cells = some r) :
  ∃ u k',Is G 120 [v_cells] h u k'∧∃ (v'1:V),∃ (v'2:V),∃ (v'3:V),∃ (vs'1:List V),∃ (v'4:V),∃ (vs'2:List V),V.tu [.ag [v'1,v'2,v'3,v'4],.n r.2] = u∧Own (fun r=>r < h.n) h k' [eSl ZM v'1 r.1.X,eSl ZM v'2 r.1.Y,eSl eV v'3 vs'1,ZbE ZM vs'1 r.1.Vert,eSl eV v'4 vs'2,ZbE ZM vs'2 r.1.Horz]:=by
 refine WC.is (ZaM ZgB ?_)
 unfold Zcg at hp
 let B:Nat→Prop:=(fun r=>r < h.n)
 have hO:Own B h h []:=Own.start0 h
 refine Zh (Zk (zQ (hO.alloc (cs:=[.sn,.sn,.sn,.sn]) hO.fr) ?_))
 rintro _ k'1 ⟨r'1,rfl,n'1,f'1,hW⟩
 have hO'1:=hW
 refine Zd (.n 0) rfl (Zb (Za (Zh (Zh (Zk (Zd v_cells rfl ?_))))))
 obtain ⟨x,hx'1,hp⟩:=Zq hp
 obtain ⟨u'1,k'2,ca'1,rfl,hW'1⟩:=zV.ok (h:=k'1)  (hO'1.rd0 s_cells.rd) hx'1
 refine Zbd (id:=66) (caps:=[]) rfl (Zu (v:=v_cells) rfl zx) ca'1 ?_
 have hO'2:=hO'1.call hW'1 rfl
 refine Zd (.n x) rfl (Zb (Za (Zh (Zk (Zd (.n x) rfl (Zg (Zck (a:=x) (b:=0) rfl rfl) (Zb ?_)))))))
 refine Za ?_
 rcases Zp hp with ⟨b'1,hp⟩ | ⟨b'1,hp⟩
 ·refine zA (t:=(!(decide (x = 0)))) rfl b'1 ?_
  refine Zh (Zk (Zg (ZbB (cs:=[.sn,.sn,.sn,.sn]) (by rw [Za2]; simp [fill,over,ZfO,ZfM,ZfN,ZfQ,ZfL,ZfP,(Sl.nil:Sl ZM k'2 .sn ([]:List Int)).cells,(Sl.nil:Sl ZM k'2 .sn ([]:List Int)).cells,(Sl.nil:Sl eV k'2 .sn []).cells,(Sl.nil:Sl eV k'2 .sn []).cells])) (Zd (.n x) rfl (zQ (hO'2.stb (ws:=[.sn,.sn,.sn,.sn]) (cs':=[.sn,.sn,.sn,.sn]) (v:=.ag [.sn,.sn,.sn,.sn]) 0 rfl rfl rfl rfl ⟨rfl,Nat.le_of_ble_eq_true rfl,(all_cons (Sl.nil:Sl ZM k'2 .sn ([]:List Int)).oneV (all_cons (Sl.nil:Sl ZM k'2 .sn ([]:List Int)).oneV (all_cons (Sl.nil:Sl eV k'2 .sn []).oneV (all_cons (Sl.nil:Sl eV k'2 .sn []).oneV all_nil))))⟩ rfl) ?_))))
  rintro _ k'3 ⟨rfl,f'2,m'1,hW⟩
  have hO'3:=hW
  refine Zd (.n x) rfl (Zb (Za (Zad (zk ?_))))
  have hO'4:=hO'3.nil ZM
  have hO'5:=hO'4.nil ZM
  have hO'6:=hO'5.nil eV
  have hO'7:=hO'6.allNil ZM 0
  have hO'8:=hO'7.nil eV
  have hO'9:=hO'8.allNil ZM 0
  refine zu (Zg6 (n:=2) (v:=.ag [.sn,.sn,.sn,.sn]) (r:=r'1) rfl (hO'9.box 0 rfl) rfl (zG (n:=3) (v:=.n x) rfl ZN)) ?_
  cases hp
  exact ⟨V.sn,V.sn,V.sn,[],V.sn,[],rfl,(hO'9.pick [1,2,3,4,5,6] rfl (by decide))⟩
 ·refine z7 (t:=(!(decide (x = 0)))) rfl b'1 ?_
  refine zD (Za (Zh (Zk (Zd v_cells rfl ?_))))
  obtain ⟨⟨x1,x2,x3⟩,hx'2,hp⟩:=Zq hp
  obtain ⟨u'2,k'4,ca'2,v'5,v'6,vs'3,rfl,hW'2⟩:=zK.ok (h:=k'2)  (hO'2.rd0 s_cells.rd) hx'2
  refine Zbd (id:=137) (caps:=[]) rfl (Zu (v:=v_cells) rfl (Zu (v:=.n 1) rfl zx)) ca'2 ?_
  have hO'10:=hO'2.call hW'2 rfl
  refine Zd (.tu [v'5,v'6,.b x3]) rfl (Zg (Zb6 (vs:=[v'5,v'6,.b x3]) (v:=v'5) rfl rfl) (Zg (Zb6 (vs:=[v'5,v'6,.b x3]) (v:=v'6) rfl rfl) (Zg (Zb6 (vs:=[v'5,v'6,.b x3]) (v:=.b x3) rfl rfl) (Zd v'5 rfl (Zd v'6 rfl (Zd (.b x3) rfl (Zb ?_)))))))
  refine Za (Zh (Zk (Zd v_cells rfl ?_)))
  obtain ⟨⟨x4,x5,x6⟩,hx'3,hp⟩:=Zq hp
  obtain ⟨u'3,k'5,ca'3,v'7,v'8,vs'4,rfl,hW'3⟩:=zK.ok (h:=k'4)  (hO'10.rd0 s_cells.rd) hx'3
  refine Zbd (id:=137) (caps:=[]) rfl (Zu (v:=v_cells) rfl (Zu (v:=.n 0) rfl zx)) ca'3 ?_
  have hO'11:=hO'10.call hW'3 rfl
  refine Zd (.tu [v'7,v'8,.b x6]) rfl (Zg (Zb6 (vs:=[v'7,v'8,.b x6]) (v:=v'7) rfl rfl) (Zg (Zb6 (vs:=[v'7,v'8,.b x6]) (v:=v'8) rfl rfl) (Zg (Zb6 (vs:=[v'7,v'8,.b x6]) (v:=.b x6) rfl rfl) (Zd v'7 rfl (Zd v'8 rfl (Zd (.b x6) rfl (Zb ?_)))))))
  refine Za (Zh (Zh (Zk (Zd (.b x3) rfl (Zg (Zc3 (t:=x3) rfl) (Zd (.b (!x3)) rfl ?_))))))
  refine Za0 3 (fun fr' k'=>k'5 = k'∧fr' 34 = .b ((!x3) || (!x6))∧fr' 2 = .p r'1 0∧fr' 5 = v'5∧fr' 6 = v'6∧fr' 8 = v'7∧fr' 9 = v'8) ?_ ?_
  ·rcases bc (!x3) with b'2 | b'2
   ·skip
    refine Zv rfl b'2 (Zv rfl b'2 (Zg (zr (t:=(!x3)) (v:=.b ((!x3) || (!x6))) rfl b'2 (Eq.trans (b:=V.b true) rfl (Zbx b'2))) (Zb ?_)))
    exact ⟨rfl,rfl,rfl,rfl,rfl,rfl,rfl⟩
   ·skip
    refine Z8 rfl b'2 (Zd (.b x6) rfl (Z8 rfl b'2 (Zg (Zc3 (t:=x6) rfl) (Zg (zm (t:=(!x3)) (v:=.b ((!x3) || (!x6))) rfl b'2 (Eq.trans (b:=V.b (!x6)) rfl (Zca b'2))) (Zb ?_)))))
    exact ⟨rfl,rfl,rfl,rfl,rfl,rfl,rfl⟩
  rintro frg'1 _ ⟨rfl,g'1_34,g'1_2,g'1_5,g'1_6,g'1_8,g'1_9⟩
  refine Zb (Za ?_)
  rcases Zp hp with ⟨b'3,hp⟩ | ⟨b'3,hp⟩
  ·refine zA (t:=((!x3) || (!x6))) g'1_34 b'3 ?_
   refine Zh (Zk (Zg (ZbB (cs:=[.sn,.sn,.sn,.sn]) (by rw [Za2]; simp [fill,over,ZfO,ZfM,ZfN,ZfQ,ZfL,ZfP,(Sl.nil:Sl ZM k'5 .sn ([]:List Int)).cells,(Sl.nil:Sl ZM k'5 .sn ([]:List Int)).cells,(Sl.nil:Sl eV k'5 .sn []).cells,(Sl.nil:Sl eV k'5 .sn []).cells])) (zQ (hO'11.stb (ws:=[.sn,.sn,.sn,.sn]) (cs':=[.sn,.sn,.sn,.sn]) (v:=.ag [.sn,.sn,.sn,.sn]) 0 rfl g'1_2 rfl rfl ⟨rfl,Nat.le_of_ble_eq_true rfl,(all_cons (Sl.nil:Sl ZM k'5 .sn ([]:List Int)).oneV (all_cons (Sl.nil:Sl ZM k'5 .sn ([]:List Int)).oneV (all_cons (Sl.nil:Sl eV k'5 .sn []).oneV (all_cons (Sl.nil:Sl eV k'5 .sn []).oneV all_nil))))⟩ rfl) ?_)))
   rintro _ k'6 ⟨rfl,f'3,m'2,hW⟩
   have hO'12:=hW
   refine Zd (.n 10) rfl (Zb (Za (Zad (zk ?_))))
   have hO'13:=hO'12.nil ZM
   have hO'14:=hO'13.nil ZM
   have hO'15:=hO'14.nil eV
   have hO'16:=hO'15.allNil ZM 0
   have hO'17:=hO'16.nil eV
   have hO'18:=hO'17.allNil ZM 0
   refine zu (Zg6 (n:=2) (v:=.ag [.sn,.sn,.sn,.sn]) (r:=r'1) g'1_2 (hO'18.box 0 rfl) rfl (zG (n:=3) (v:=.n 10) rfl ZN)) ?_
   cases hp
   exact ⟨V.sn,V.sn,V.sn,[],V.sn,[],rfl,(hO'18.pick [7,8,9,10,11,12] rfl (by decide))⟩
  ·refine z7 (t:=((!x3) || (!x6))) g'1_34 b'3 ?_
   refine zD (Za (Zh (Zk (Zd v'5 g'1_5 (Zd v'7 g'1_8 (Zd v'6 g'1_6 (Zd v'8 g'1_9 ?_)))))))
   refine Zg (ZbB (cs:=[v'5,v'7,v'6,v'8]) (by rw [(zt (v:=v'5) rfl (zt (v:=v'7) rfl (zt (v:=v'6) rfl (zt (v:=v'8) rfl Za2))))]; simp [fill,over,ZfO,ZfM,ZfN,ZfQ,ZfL,ZfP,(hO'11.sl 1 rfl).cells,(hO'11.sl 4 rfl).cells,(hO'11.sl 2 rfl).cells,(hO'11.sl 5 rfl).cells])) (zQ (hO'11.stb (ws:=[v'5,v'7,v'6,v'8]) (cs':=[v'5,v'7,v'6,v'8]) (v:=.ag [v'5,v'7,v'6,v'8]) 0 rfl g'1_2 rfl rfl ⟨rfl,Nat.le_of_ble_eq_true rfl,(all_cons (hO'11.sl 1 rfl).oneV (all_cons (hO'11.sl 4 rfl).oneV (all_cons (hO'11.sl 2 rfl).oneV (all_cons (hO'11.sl 5 rfl).oneV all_nil))))⟩ rfl) ?_)
   rintro _ k'7 ⟨rfl,f'4,m'3,hW⟩
   have hO'19:=hW
   refine Zd (.n 0) rfl (Zb (Za (Zad (zu (Zg6 (n:=2) (v:=.ag [v'5,v'7,v'6,v'8]) (r:=r'1) g'1_2 (hO'19.box 0 rfl) rfl (zG (n:=3) (v:=.n 0) rfl ZN)) ?_))))
   cases hp
   exact ⟨v'5,v'7,v'6,vs'3,v'8,vs'4,rfl,(hO'19.pick [1,4,2,3,5,6] rfl (by decide))⟩

theorem Zbc.ok {h:Hp} {c:ZaZ} {v_c_X:V} {v_c_Y:V} {v_c_Vert:V} {vs_c_Vert:List V} {v_c_Horz:V} {vs_c_Horz:List V} (s_c_X:Sl ZM h v_c_X c.X) (s_c_Y:Sl ZM h v_c_Y c.Y) (sN_c_Vert:Sl eV h v_c_Vert vs_c_Vert) (lN_c_Vert:vs_c_Vert.length = c.Vert.length) (iN_c_Vert:∀ j,j < c.Vert.length→Sl ZM h (gi vs_c_Vert j) (gi c.Vert j)) (sN_c_Horz:Sl eV h v_c_Horz vs_c_Horz) (lN_c_Horz:vs_c_Horz.length = c.Horz.length) (iN_c_Horz:∀ j,j < c.Horz.length→Sl ZM h (gi vs_c_Horz j) (gi c.Horz j)) {r:(List Zai)} (hp:Zbc c = some r) :
  ∃ u k',Is G 209 [.ag [v_c_X,v_c_Y,v_c_Vert,v_c_Horz]] h u k'∧∃ (v'1:V),v'1 = u∧Own (fun r=>r < h.n) h k' [eSl ZP v'1 r]:=by
 refine WC.is (ZaM Zf1 ?_)
 unfold Zbc at hp
 let B:Nat→Prop:=(fun r=>r < h.n)
 have hO:Own B h h []:=Own.start0 h
 refine Zh (Zk (zQ (hO.boxd (v:=.ag [v_c_X,v_c_Y,v_c_Vert,v_c_Horz]) (cs:=[v_c_X,v_c_Y,v_c_Vert,v_c_Horz]) hO.fr rfl rfl) ?_))
 rintro _ k'1 ⟨r'1,rfl,n'1,f'1,hW⟩
 have hO'1:=hW
 refine Zd (.sn) rfl (Zb (Za (Zh (Zk (Zd (.sn) rfl (Zb (Za ?_)))))))
 refine Zh (Zh (Zk (Zg (ZaL (r:=r'1) (o:=0) (o':=2) rfl rfl) (Zg (Zac (cs:=[v_c_X,v_c_Y,v_c_Vert,v_c_Horz]) (v:=v_c_Vert) (hO'1.box 0 rfl) rfl rfl) (Zg (Zej (n:=(c.Vert).length) (hO'1.rd0 sN_c_Vert.rd) lN_c_Vert rfl) (Zd (.n 0) rfl (Zb ?_)))))))
 refine Za (Zaq ?_)
 obtain ⟨o'1,ho'1,hp⟩:=Zq hp
 refine W.mono (Q:=fun e fr k=>match (generalizing:=false) o'1 with
   | l1=>e = (.exit 0)∧∃ (v'3:V),fr 1 = .p r'1 0∧fr 3 = v'3∧Own B h k [ZbF r'1 [v_c_X,v_c_Y,v_c_Vert,v_c_Horz],eSl ZP v'3 l1]) ?_ ?_
 ·clear hp
  have hO'3:=hO'1.nil ZP
  refine zP (fun st fr k=>match st with | (l,x)=>∃ (v'2:V),fr 1 = .p r'1 0∧fr 3 = v'2∧fr 9 = v_c_Vert∧fr 10 = .n (c.Vert.length:Int)∧fr 11 = .n x∧Own B h k [ZbF r'1 [v_c_X,v_c_Y,v_c_Vert,v_c_Horz],eSl ZP v'2 l]) ho'1 (s:=(([]:List Zai),0)) ⟨V.sn,rfl,rfl,rfl,rfl,rfl,(hO'3.pick [0,1] rfl (by decide))⟩ ?_
  rintro ⟨l,x⟩ q'2 k'3 ⟨v'2,q'2_1,q'2_3,q'2_9,q'2_10,q'2_11,hO'4⟩ o'2 hp
  dsimp only [Zbc.s0] at hp
  refine Zh (Zk (Zg (zN (a:=x) (b:=(c.Vert.length:Int)) q'2_11 q'2_10) (Zb (Za (Zh ?_)))))
  rcases Zp hp with ⟨b'1,hp⟩ | ⟨b'1,hp⟩
  ·refine zA (t:=(decide (x < (c.Vert.length:Int)))) rfl b'1 ?_
   refine zD (Za (Zh (Zaq (Zh (Zk (Zd (.n x) q'2_11 ?_))))))
   obtain ⟨c'1,hp⟩:=Zj hp
   refine Zg (zf (E:=eV) (z:=x) (hO'4.rd0 sN_c_Vert.rd) q'2_9 q'2_11 (by rw [lN_c_Vert]; exact c'1)) (Zg (zB (w:=(gi vs_c_Vert x.toNat)) (hO'4.rd0 sN_c_Vert.rd) rfl (by rw [lN_c_Vert]; exact Zi c'1) rfl) (Zd (.n x) rfl (Zd ((gi vs_c_Vert x.toNat)) rfl (Zb (Za (Zh (Zk ?_)))))))
   refine Zd ((gi vs_c_Vert x.toNat)) rfl (Zg (Zau (hO'4.rd0 ((fun j hj=>(iN_c_Vert j hj).rd) _ (Zi c'1)):Sl ZM k'3 (gi vs_c_Vert x.toNat) (gi c.Vert x.toNat)) rfl) (Zg (ZdP (a:=((gi c.Vert x.toNat).length:Int)) (b:=1) rfl rfl) (Zb (Za ?_))))
   rcases Zp hp with ⟨b'2,hp⟩ | ⟨b'2,hp⟩
   ·refine zA (t:=(decide (1 < ((gi c.Vert x.toNat).length:Int)))) rfl b'2 ?_
    refine Zk (Zd v'2 q'2_3 (Zd (.n x) rfl (Zg (ZbB (cs:=ZP.c (⟨true,x⟩:Zai)) (by rw [(zt (v:=.b true) rfl (zt (v:=.n x) rfl Za2))]; rfl)) (zQ (hO'4.bsl (E:=ZP) (l:=[(⟨true,x⟩:Zai)]) hO'4.fr (by rw [(zt (v:=.ag (ZP.c (⟨true,x⟩:Zai))) rfl Za2)]; rfl) rfl) ?_))))
    rintro v'4 k'4 ⟨r'2,f'2,hW⟩
    have hO'5:=hW
    obtain ⟨c'2,hp⟩:=Zj hp
    refine zQ (hO'5.app (E:=ZP) (bytes:=16) 1 hO'5.fr rfl (hO'5.sl 2 rfl) rfl rfl (fun _=>rfl) c'2 (by decide)) ?_
    rintro v'5 k'5 ⟨f'3,hW⟩
    have hO'6:=hW
    refine Zd v'5 rfl (Zb (Zan (Za (Zk ?_))))
    obtain ⟨c'3,hp⟩:=Zj hp
    refine Zg (z6 (a:=x) (b:=1) q'2_11 rfl c'3) (Zd (.n (x + 1)) rfl (Zb ?_))
    cases hp
    exact (Or.inl ⟨(l++[(⟨true,x⟩:Zai)],x + 1),rfl,rfl,v'5,q'2_1,rfl,q'2_9,q'2_10,rfl,(hO'6.pick [0,1] rfl (by decide))⟩)
   ·refine z7 (t:=(decide (1 < ((gi c.Vert x.toNat).length:Int)))) rfl b'2 ?_
    refine zD (Zan (Za (Zk ?_)))
    obtain ⟨c'4,hp⟩:=Zj hp
    refine Zg (z6 (a:=x) (b:=1) q'2_11 rfl c'4) (Zd (.n (x + 1)) rfl (Zb ?_))
    cases hp
    exact (Or.inl ⟨(l,x + 1),rfl,rfl,v'2,q'2_1,q'2_3,q'2_9,q'2_10,rfl,(hO'4.pick [0,1] rfl (by decide))⟩)
  ·refine z7 (t:=(decide (x < (c.Vert.length:Int)))) rfl b'1 ?_
   refine Zbv (zY ?_)
   cases hp
   refine (Or.inr ⟨l,rfl,(fun h=>nomatch h),(fun he=>?_)⟩)
   subst he; exact ⟨rfl,v'2,q'2_1,q'2_3,(hO'4.pick [0,1] rfl (by decide))⟩
 intro e'1 q'1 k'2 hJ'1
 obtain ⟨l1,rfl⟩:∃ x,x = o'1:=⟨_,rfl⟩
 obtain ⟨rfl,v'3,q'1_1,q'1_3,hO'2⟩:=hJ'1
 refine ZaD (Za (Zh (Zh (Zk (Zg (ZaL (r:=r'1) (o:=0) (o':=3) q'1_1 rfl) (Zg (Zac (cs:=[v_c_X,v_c_Y,v_c_Vert,v_c_Horz]) (v:=v_c_Horz) (hO'2.box 0 rfl) rfl rfl) (Zg (Zej (n:=(c.Horz).length) (hO'2.rd0 sN_c_Horz.rd) lN_c_Horz rfl) ?_)))))))
 refine Zd (.n 0) rfl (Zb (Za (Zaq ?_)))
 obtain ⟨o'3,ho'2,hp⟩:=Zq hp
 refine W.mono (Q:=fun e fr k=>match (generalizing:=false) o'3 with
   | l3=>e = (.exit 2)∧∃ (v'7:V),fr 3 = v'7∧Own B h k [eSl ZP v'7 l3]) ?_ ?_
 ·clear hp
  refine zP (fun st fr k=>match st with | (l2,x1)=>∃ (v'6:V),fr 3 = v'6∧fr 26 = v_c_Horz∧fr 27 = .n (c.Horz.length:Int)∧fr 28 = .n x1∧Own B h k [eSl ZP v'6 l2]) ho'2 (s:=(l1,0)) ⟨v'3,q'1_3,rfl,rfl,rfl,(hO'2.pick [1] rfl (by decide))⟩ ?_
  rintro ⟨l2,x1⟩ q'4 k'7 ⟨v'6,q'4_3,q'4_26,q'4_27,q'4_28,hO'8⟩ o'4 hp
  dsimp only [Zbc.s1] at hp
  refine Zh (Zk (Zg (zN (a:=x1) (b:=(c.Horz.length:Int)) q'4_28 q'4_27) (Zb (Za (Zh ?_)))))
  rcases Zp hp with ⟨b'3,hp⟩ | ⟨b'3,hp⟩
  ·refine zA (t:=(decide (x1 < (c.Horz.length:Int)))) rfl b'3 ?_
   refine zD (Za (Zh (Zaq (Zh (Zk (Zd (.n x1) q'4_28 ?_))))))
   obtain ⟨c'5,hp⟩:=Zj hp
   refine Zg (zf (E:=eV) (z:=x1) (hO'8.rd0 sN_c_Horz.rd) q'4_26 q'4_28 (by rw [lN_c_Horz]; exact c'5)) (Zg (zB (w:=(gi vs_c_Horz x1.toNat)) (hO'8.rd0 sN_c_Horz.rd) rfl (by rw [lN_c_Horz]; exact Zi c'5) rfl) (Zd (.n x1) rfl (Zd ((gi vs_c_Horz x1.toNat)) rfl (Zb (Za (Zh (Zk ?_)))))))
   refine Zd ((gi vs_c_Horz x1.toNat)) rfl (Zg (Zau (hO'8.rd0 ((fun j hj=>(iN_c_Horz j hj).rd) _ (Zi c'5)):Sl ZM k'7 (gi vs_c_Horz x1.toNat) (gi c.Horz x1.toNat)) rfl) (Zg (ZdP (a:=((gi c.Horz x1.toNat).length:Int)) (b:=1) rfl rfl) (Zb (Za ?_))))
   rcases Zp hp with ⟨b'4,hp⟩ | ⟨b'4,hp⟩
   ·refine zA (t:=(decide (1 < ((gi c.Horz x1.toNat).length:Int)))) rfl b'4 ?_
    refine Zk (Zd v'6 q'4_3 (Zd (.n x1) rfl (Zg (ZbB (cs:=ZP.c (⟨false,x1⟩:Zai)) (by rw [(zt (v:=.b false) rfl (zt (v:=.n x1) rfl Za2))]; rfl)) (zQ (hO'8.bsl (E:=ZP) (l:=[(⟨false,x1⟩:Zai)]) hO'8.fr (by rw [(zt (v:=.ag (ZP.c (⟨false,x1⟩:Zai))) rfl Za2)]; rfl) rfl) ?_))))
    rintro v'8 k'8 ⟨r'3,f'4,hW⟩
    have hO'9:=hW
    obtain ⟨c'6,hp⟩:=Zj hp
    refine zQ (hO'9.app (E:=ZP) (bytes:=16) 0 hO'9.fr rfl (hO'9.sl 1 rfl) rfl rfl (fun _=>rfl) c'6 (by decide)) ?_
    rintro v'9 k'9 ⟨f'5,hW⟩
    have hO'10:=hW
    refine Zd v'9 rfl (Zb (Zan (Za (Zk ?_))))
    obtain ⟨c'7,hp⟩:=Zj hp
    refine Zg (z6 (a:=x1) (b:=1) q'4_28 rfl c'7) (Zd (.n (x1 + 1)) rfl (Zb ?_))
    cases hp
    exact (Or.inl ⟨(l2++[(⟨false,x1⟩:Zai)],x1 + 1),rfl,rfl,v'9,rfl,q'4_26,q'4_27,rfl,(hO'10.pick [0] rfl (by decide))⟩)
   ·refine z7 (t:=(decide (1 < ((gi c.Horz x1.toNat).length:Int)))) rfl b'4 ?_
    refine zD (Zan (Za (Zk ?_)))
    obtain ⟨c'8,hp⟩:=Zj hp
    refine Zg (z6 (a:=x1) (b:=1) q'4_28 rfl c'8) (Zd (.n (x1 + 1)) rfl (Zb ?_))
    cases hp
    exact (Or.inl ⟨(l2,x1 + 1),rfl,rfl,v'6,q'4_3,q'4_26,q'4_27,rfl,(hO'8.pick [0] rfl (by decide))⟩)
  ·refine z7 (t:=(decide (x1 < (c.Horz.length:Int)))) rfl b'3 ?_
   refine Zbv (zY ?_)
   cases hp
   refine (Or.inr ⟨l2,rfl,(fun h=>nomatch h),(fun he=>?_)⟩)
   subst he; exact ⟨rfl,v'6,q'4_3,(hO'8.pick [0] rfl (by decide))⟩
 intro e'2 q'3 k'6 hJ'2
 obtain ⟨l3,rfl⟩:∃ x,x = o'3:=⟨_,rfl⟩
 obtain ⟨rfl,v'7,q'3_3,hO'7⟩:=hJ'2
 refine ZaD (Za (Zh (Zk (Zd v'7 q'3_3 (Zd v'7 rfl (Zb (Za ?_)))))))
 refine Zad (zu (zG (n:=2) (v:=v'7) rfl ZN) ?_)
 cases hp
 exact ⟨v'7,rfl,(hO'7.pick [0] rfl (by decide))⟩

theorem ZcL.ok {h:Hp} {cells:List Ze} {v_cells:V} (s_cells:Sl Zn h v_cells cells) {r:(List Zai) × Int} (hp:ZcL cells = some r) :
  ∃ u k',Is G 187 [v_cells] h u k'∧∃ (v'1:V),V.tu [v'1,.n r.2] = u∧Own (fun r=>r < h.n) h k' [eSl ZP v'1 r.1]:=by
 refine WC.is (ZaM Zf0 ?_)
 unfold ZcL at hp
 let B:Nat→Prop:=(fun r=>r < h.n)
 have hO:Own B h h []:=Own.start0 h
 refine Zh (Zk (Zd (.sn) rfl (Zd (.n 0) rfl (Zb (Za (Zh (Zk ?_)))))))
 refine Zd v_cells rfl ?_
 obtain ⟨⟨x,x1⟩,hx'1,hp⟩:=Zq hp
 obtain ⟨u'1,k'1,ca'1,v'2,v'3,v'4,vs'1,v'5,vs'2,rfl,hW'1⟩:=Zcg.ok (h:=h)  (hO.rd0 s_cells.rd) hx'1
 refine Zbd (id:=120) (caps:=[]) rfl (Zu (v:=v_cells) rfl zx) ca'1 ?_
 have hO'1:=hO.call hW'1 rfl
 refine Zd (.tu [.ag [v'2,v'3,v'4,v'5],.n x1]) rfl (Zg (Zb6 (vs:=[.ag [v'2,v'3,v'4,v'5],.n x1]) (v:=.ag [v'2,v'3,v'4,v'5]) rfl rfl) (Zg (Zb6 (vs:=[.ag [v'2,v'3,v'4,v'5],.n x1]) (v:=.n x1) rfl rfl) (zQ (hO'1.alloc (cs:=[.sn,.sn,.sn,.sn]) hO'1.fr) ?_)))
 rintro _ k'2 ⟨r'1,rfl,n'1,f'1,hW⟩
 have hO'2:=hW
 refine zQ (hO'2.stb (ws:=[v'2,v'3,v'4,v'5]) (cs':=[v'2,v'3,v'4,v'5]) (v:=.ag [v'2,v'3,v'4,v'5]) 6 rfl rfl rfl rfl ⟨rfl,Nat.le_of_ble_eq_true rfl,(all_cons (hO'2.sl 0 rfl).oneV (all_cons (hO'2.sl 1 rfl).oneV (all_cons (hO'2.sl 2 rfl).oneV (all_cons (hO'2.sl 4 rfl).oneV all_nil))))⟩ rfl) ?_
 rintro _ k'3 ⟨rfl,f'2,m'1,hW⟩
 have hO'3:=hW
 refine Zd (.n x1) rfl (Zb (Za (Zh (Zh (Zk (Zd (.n x1) rfl (Zg (Zck (a:=x1) (b:=0) rfl rfl) ?_)))))))
 refine Zb (Za ?_)
 rcases Zp hp with ⟨b'1,hp⟩ | ⟨b'1,hp⟩
 ·refine zA (t:=(!(decide (x1 = 0)))) rfl b'1 ?_
  refine Zh (Zk (Zd (.n x1) rfl (Zd (.sn) rfl (Zd (.n x1) rfl (Zb (Za (Zad ?_)))))))
  refine zk ?_
  have hO'4:=hO'3.nil ZP
  refine zu (zG (n:=2) (v:=.sn) rfl (zG (n:=3) (v:=.n x1) rfl ZN)) ?_
  cases hp
  exact ⟨V.sn,rfl,(hO'4.pick [7] rfl (by decide))⟩
 ·refine z7 (t:=(!(decide (x1 = 0)))) rfl b'1 ?_
  refine zD (Za (Zh (Zk (Zg (Zb7 (cs:=[v'2,v'3,v'4,v'5]) (ws:=[v'2,v'3,v'4,v'5]) (hO'3.box 6 rfl) rfl rfl) ?_))))
  obtain ⟨x2,hx'2,hp⟩:=Zq hp
  obtain ⟨u'2,k'4,ca'2,v'6,rfl,hW'2⟩:=Zbc.ok (h:=k'3)  (hO'3.sl 0 rfl) (hO'3.sl 1 rfl) (hO'3.sl 2 rfl) (hO'3.allLen 3 rfl:(vs'1).length = (x.Vert).length) (fun j hj=>hO'3.inn 3 rfl hj) (hO'3.sl 4 rfl) (hO'3.allLen 5 rfl:(vs'2).length = (x.Horz).length) (fun j hj=>hO'3.inn 5 rfl hj) hx'2
  refine Zbd (id:=209) (caps:=[]) rfl (Zu (v:=.ag [v'2,v'3,v'4,v'5]) rfl zx) ca'2 ?_
  have hO'5:=hO'3.call hW'2 rfl
  refine Zd v'6 rfl (Zd (.n 0) rfl (Zb (Za (Zad (zu (zG (n:=2) (v:=v'6) rfl (zG (n:=3) (v:=.n 0) rfl ZN)) ?_)))))
  cases hp
  exact ⟨v'6,rfl,(hO'5.pick [7] rfl (by decide))⟩

theorem Zch.ok {h:Hp} {c:ZaZ} {l:Zai} {at_:List Zf} {v_c_X:V} {v_c_Y:V} {v_c_Vert:V} {vs_c_Vert:List V} {v_c_Horz:V} {vs_c_Horz:List V} {v_at_:V} (s_c_X:Sl ZM h v_c_X c.X) (s_c_Y:Sl ZM h v_c_Y c.Y) (sN_c_Vert:Sl eV h v_c_Vert vs_c_Vert) (lN_c_Vert:vs_c_Vert.length = c.Vert.length) (iN_c_Vert:∀ j,j < c.Vert.length→Sl ZM h (gi vs_c_Vert j) (gi c.Vert j)) (sN_c_Horz:Sl eV h v_c_Horz vs_c_Horz) (lN_c_Horz:vs_c_Horz.length = c.Horz.length) (iN_c_Horz:∀ j,j < c.Horz.length→Sl ZM h (gi vs_c_Horz j) (gi c.Horz j)) (s_at_:Sl Zc h v_at_ at_) {r:Zbe} (hp:Zch c l at_ = some r) :
  ∃ u k',Is G 231 [.ag [v_c_X,v_c_Y,v_c_Vert,v_c_Horz],.ag (ZP.c l),v_at_] h u k'∧V.ag (zH.c r) = u∧Own (fun r=>r < h.n) h k' []:=by
 refine WC.is (ZaM Zfb ?_)
 unfold Zch at hp
 let B:Nat→Prop:=(fun r=>r < h.n)
 have hO:Own B h h []:=Own.start0 h
 refine Zh (Zk (zQ (hO.boxd (v:=.ag [v_c_X,v_c_Y,v_c_Vert,v_c_Horz]) (cs:=[v_c_X,v_c_Y,v_c_Vert,v_c_Horz]) hO.fr rfl rfl) ?_))
 rintro _ k'1 ⟨r'1,rfl,n'1,f'1,hW⟩
 have hO'1:=hW
 refine zQ (hO'1.boxd (v:=.ag (ZP.c l)) (cs:=ZP.c l) hO'1.fr rfl rfl) ?_
 rintro _ k'2 ⟨r'2,rfl,n'2,f'2,hW⟩
 have hO'2:=hW
 refine zQ (hO'2.alloc (cs:=zH.c (⟨⟨0,0⟩,⟨0,0⟩⟩:Zbe)) hO'2.fr) ?_
 rintro _ k'3 ⟨r'3,rfl,n'3,f'3,hW⟩
 have hO'3:=hW
 refine Zb (Za (Zh (Zk (Zg (ZaL (r:=r'1) (o:=0) (o':=3) rfl rfl) (Zg (Zac (cs:=[v_c_X,v_c_Y,v_c_Vert,v_c_Horz]) (v:=v_c_Horz) (hO'3.box 0 rfl) rfl rfl) (Zd v_c_Horz rfl (Zb ?_)))))))
 refine Za (Zh (Zh (Zk (Zg (ZaL (r:=r'2) (o:=0) (o':=0) rfl rfl) (Zg (Zac (cs:=(ZP.c l)) (v:=.b l.Vertical) (hO'3.box 1 rfl) rfl rfl) (Zb (Za ?_)))))))
 obtain ⟨o'1,ho'1,hp⟩:=Zq hp
 refine W.mono (Q:=fun e fr k=>match (generalizing:=false) o'1 with
   | of=>e = .normal∧∃ (v'1:V),∃ (vs'1:List V),fr 2 = v_at_∧fr 4 = .p r'2 0∧fr 6 = .p r'3 0∧fr 7 = v'1∧Rd B h eV v'1 vs'1∧vs'1.length = of.length∧(∀ j,j < of.length→Rd B h ZM (gi vs'1 j) (gi of j))∧Own B h k [ZbF r'2 (ZP.c l),ZbF r'3 (zH.c (⟨⟨0,0⟩,⟨0,0⟩⟩:Zbe))]) ?_ ?_
 ·clear hp; have hp:=ho'1; clear ho'1
  rcases Zp hp with ⟨b'1,hp⟩ | ⟨b'1,hp⟩
  ·refine zA (t:=l.Vertical) rfl b'1 ?_
   refine Zk (Zg (ZaL (r:=r'1) (o:=0) (o':=2) rfl rfl) (Zg (Zac (cs:=[v_c_X,v_c_Y,v_c_Vert,v_c_Horz]) (v:=v_c_Vert) (hO'3.box 0 rfl) rfl rfl) (Zd v_c_Vert rfl (Zb ?_))))
   cases hp
   exact ⟨rfl,v_c_Vert,vs_c_Vert,rfl,rfl,rfl,rfl,sN_c_Vert.rd,lN_c_Vert,(fun j hj=>(iN_c_Vert j hj).rd),(hO'3.pick [1,2] rfl (by decide))⟩
  ·refine z7 (t:=l.Vertical) rfl b'1 ?_
   refine zD ?_
   cases hp
   exact ⟨rfl,v_c_Horz,vs_c_Horz,rfl,rfl,rfl,rfl,sN_c_Horz.rd,lN_c_Horz,(fun j hj=>(iN_c_Horz j hj).rd),(hO'3.pick [1,2] rfl (by decide))⟩
 intro e'1 q'1 k'4 hJ'1
 obtain ⟨of,rfl⟩:∃ x,x = o'1:=⟨_,rfl⟩
 obtain ⟨rfl,v'1,vs'1,q'1_2,q'1_4,q'1_6,q'1_7,s'1,sl'1,si'1,hO'4⟩:=hJ'1
 refine Za (Zh (Zk (Zd v'1 q'1_7 (Zg (ZaL (r:=r'2) (o:=0) (o':=1) q'1_4 rfl) (Zg (Zac (cs:=(ZP.c l)) (v:=.n l.Place) (hO'4.box 0 rfl) rfl rfl) ?_)))))
 obtain ⟨c'1,hp⟩:=Zj hp
 refine Zg (zf (E:=eV) (z:=l.Place) (hO'4.rd0 s'1) rfl rfl (by rw [sl'1]; exact c'1)) (Zg (zB (w:=(gi vs'1 (l.Place:Int).toNat)) (hO'4.rd0 s'1) rfl (by rw [sl'1]; exact Zi c'1) rfl) (Zd ((gi vs'1 (l.Place:Int).toNat)) rfl (Zb (Za (Zh (Zfi ?_))))))
 have hW:=hO'4.bump 17
 have fr'1:=Fresh.start k'4 17
 have nb'1:∀ {i:Nat},h.n≤k'4.n + i:=Nat.le_trans hO'4.n (Nat.le_add_right _ _)
 have hO'5:=hW
 refine ZaS v_at_ q'1_2 (ZaS ((gi vs'1 (l.Place:Int).toNat)) rfl ?_)
 obtain ⟨c'2,hp⟩:=Zj hp
 refine z9 (zf (E:=ZM) (z:=0) (hO'5.rd0 ((fun j hj=>(si'1 j hj)) _ (Zi c'1)):Sl ZM (k'4.bump 17) (gi vs'1 (l.Place:Int).toNat) (gi of (l.Place:Int).toNat)) rfl rfl c'2) (z9 (zB (w:=.n (gi (gi of (l.Place:Int).toNat) (0:Int).toNat)) (hO'5.rd0 ((fun j hj=>(si'1 j hj)) _ (Zi c'1)):Sl ZM (k'4.bump 17) (gi vs'1 (l.Place:Int).toNat) (gi of (l.Place:Int).toNat)) rfl (Zi c'2) rfl) ?_)
 obtain ⟨c'3,hp⟩:=Zj hp
 refine z9 (zf (E:=Zc) (z:=(gi (gi of (l.Place:Int).toNat) (0:Int).toNat)) (hO'5.rd0 s_at_.rd) rfl rfl c'3) (z9 (Zd5 (E:=Zc) (hO'5.rd0 s_at_.rd) rfl (Zi c'3)) (ZaS v_at_ q'1_2 (ZaS ((gi vs'1 (l.Place:Int).toNat)) rfl (ZaS ((gi vs'1 (l.Place:Int).toNat)) rfl (z9 (Zau (hO'5.rd0 ((fun j hj=>(si'1 j hj)) _ (Zi c'1)):Sl ZM (k'4.bump 17) (gi vs'1 (l.Place:Int).toNat) (gi of (l.Place:Int).toNat)) rfl) ?_)))))
 obtain ⟨c'4,hp⟩:=Zj hp
 refine z9 (ZgH (a:=((gi of (l.Place:Int).toNat).length:Int)) (b:=1) rfl rfl c'4) ?_
 obtain ⟨c'5,hp⟩:=Zj hp
 refine z9 (zf (E:=ZM) (z:=(((gi of (l.Place:Int).toNat).length:Int) - 1)) (hO'5.rd0 ((fun j hj=>(si'1 j hj)) _ (Zi c'1)):Sl ZM (k'4.bump 17) (gi vs'1 (l.Place:Int).toNat) (gi of (l.Place:Int).toNat)) rfl rfl c'5) (z9 (zB (w:=.n (gi (gi of (l.Place:Int).toNat) (((gi of (l.Place:Int).toNat).length:Int) - 1:Int).toNat)) (hO'5.rd0 ((fun j hj=>(si'1 j hj)) _ (Zi c'1)):Sl ZM (k'4.bump 17) (gi vs'1 (l.Place:Int).toNat) (gi of (l.Place:Int).toNat)) rfl (Zi c'5) rfl) ?_)
 obtain ⟨c'6,hp⟩:=Zj hp
 refine z9 (zf (E:=Zc) (z:=(gi (gi of (l.Place:Int).toNat) (((gi of (l.Place:Int).toNat).length:Int) - 1:Int).toNat)) (hO'5.rd0 s_at_.rd) rfl rfl c'6) (z9 (Zd5 (E:=Zc) (hO'5.rd0 s_at_.rd) rfl (Zi c'6)) (z9 (ZbB (cs:=zH.c (⟨gi at_ (gi (gi of (l.Place:Int).toNat) (0:Int).toNat:Int).toNat,gi at_ (gi (gi of (l.Place:Int).toNat) (((gi of (l.Place:Int).toNat).length:Int) - 1:Int).toNat:Int).toNat⟩:Zbe)) (by rw [(zt (v:=.ag (Zc.c (gi at_ (gi (gi of (l.Place:Int).toNat) (0:Int).toNat:Int).toNat))) rfl (zt (v:=.ag (Zc.c (gi at_ (gi (gi of (l.Place:Int).toNat) (((gi of (l.Place:Int).toNat).length:Int) - 1:Int).toNat:Int).toNat))) rfl Za2))]; rfl)) (Ze5 (hO'5.stb (ws:=zH.c (⟨gi at_ (gi (gi of (l.Place:Int).toNat) (0:Int).toNat:Int).toNat,gi at_ (gi (gi of (l.Place:Int).toNat) (((gi of (l.Place:Int).toNat).length:Int) - 1:Int).toNat:Int).toNat⟩:Zbe)) (cs':=zH.c (⟨gi at_ (gi (gi of (l.Place:Int).toNat) (0:Int).toNat:Int).toNat,gi at_ (gi (gi of (l.Place:Int).toNat) (((gi of (l.Place:Int).toNat).length:Int) - 1:Int).toNat:Int).toNat⟩:Zbe)) (v:=.ag (zH.c (⟨gi at_ (gi (gi of (l.Place:Int).toNat) (0:Int).toNat:Int).toNat,gi at_ (gi (gi of (l.Place:Int).toNat) (((gi of (l.Place:Int).toNat).length:Int) - 1:Int).toNat:Int).toNat⟩:Zbe))) 1 rfl q'1_6 rfl rfl ⟨rfl,Nat.le_of_ble_eq_true rfl,rfl⟩ rfl) ?_)))
 rintro _ k'6 z'1 ⟨rfl,f'4,m'1,hW⟩
 have fr'2:=fr'1.kept f'4 (by decide)
 have hO'6:=hW
 refine Zcu ?_
 refine And.intro ?_ ?_
 ·intro q hq
  simp only [List.mem_cons,List.not_mem_nil,or_false] at hq
  rcases hq with rfl | rfl | rfl | rfl
  ·refine ZaF ?_ ?_
   ·exact (fun h=>nomatch h)
   ·exact (fun h=>nomatch h)
  ·refine ZaF ?_ ?_
   ·exact (fun h=>nomatch h)
   ·exact (fun h=>nomatch h)
  ·refine ZaF ?_ ?_
   ·exact (fun h=>nomatch h)
   ·exact (fun h=>nomatch h)
  ·refine ZaF ?_ ?_
   ·exact (fun h=>nomatch h)
   ·exact (fun h=>nomatch h)
 refine Za (Zad (zu (Zg6 (n:=6) (v:=.ag (zH.c (⟨gi at_ (gi (gi of (l.Place:Int).toNat) (0:Int).toNat:Int).toNat,gi at_ (gi (gi of (l.Place:Int).toNat) (((gi of (l.Place:Int).toNat).length:Int) - 1:Int).toNat:Int).toNat⟩:Zbe))) (r:=r'3) q'1_6 (hO'6.box 1 rfl) rfl ZN) ?_))
 cases hp
 exact ⟨rfl,(hO'6.pick [] rfl (by decide))⟩

theorem Zci.ok {h:Hp} {a:Zbe} {b:Zbe}   {r:Bool} (hp:Zci a b = some r) :
  ∃ u k',Is G 186 [.ag (zH.c a),.ag (zH.c b)] h u k'∧V.b r = u∧Own (fun r=>r < h.n) h k' []:=by
 refine WC.is (ZaM ZeR ?_)
 unfold Zci at hp
 let B:Nat→Prop:=(fun r=>r < h.n)
 have hO:Own B h h []:=Own.start0 h
 refine Zh (Zk (zQ (hO.boxd (v:=.ag (zH.c a)) (cs:=zH.c a) hO.fr rfl rfl) ?_))
 rintro _ k'1 ⟨r'1,rfl,n'1,f'1,hW⟩
 have hO'1:=hW
 refine zQ (hO'1.boxd (v:=.ag (zH.c b)) (cs:=zH.c b) hO'1.fr rfl rfl) ?_
 rintro _ k'2 ⟨r'2,rfl,n'2,f'2,hW⟩
 have hO'2:=hW
 refine Zd (.b false) rfl (Zb (Za (Zh (Zk (Zg (ZaL (r:=r'1) (o:=0) (o':=2) rfl rfl) (Zg (ZaL (r:=r'1) (o:=2) (o':=2) rfl rfl) (Zg (Zac (cs:=(zH.c a)) (v:=.n a.High.X) (hO'2.box 0 rfl) rfl rfl) ?_)))))))
 refine Zg (ZaL (r:=r'2) (o:=0) (o':=0) rfl rfl) (Zg (ZaL (r:=r'2) (o:=0) (o':=0) rfl rfl) (Zg (Zac (cs:=(zH.c b)) (v:=.n b.Low.X) (hO'2.box 1 rfl) rfl rfl) (Zg (zN (a:=a.High.X) (b:=b.Low.X) rfl rfl) (Zd (.b (decide (a.High.X < b.Low.X))) rfl ?_))))
 refine Za0 8 (fun fr' k'=>k'2 = k'∧fr' 20 = .b ((decide (a.High.X < b.Low.X)) || (decide (b.High.X < a.Low.X)))∧fr' 2 = .p r'1 0∧fr' 3 = .p r'2 0) ?_ ?_
 ·rcases bc (decide (a.High.X < b.Low.X)) with b'1 | b'1
  ·skip
   refine Zv rfl b'1 (Zv rfl b'1 (Zv rfl b'1 (Zv rfl b'1 (Zv rfl b'1 (Zv rfl b'1 (Zv rfl b'1 (Zg (zr (t:=(decide (a.High.X < b.Low.X))) (v:=.b ((decide (a.High.X < b.Low.X)) || (decide (b.High.X < a.Low.X)))) rfl b'1 (Eq.trans (b:=V.b true) rfl (Zbx b'1))) ?_)))))))
   refine Zb ?_
   exact ⟨rfl,rfl,rfl,rfl⟩
  ·skip
   refine Z8 rfl b'1 (Zg (ZaL (r:=r'2) (o:=0) (o':=2) rfl rfl) (Z8 rfl b'1 (Zg (ZaL (r:=r'2) (o:=2) (o':=2) rfl rfl) (Z8 rfl b'1 (Zg (Zac (cs:=(zH.c b)) (v:=.n b.High.X) (hO'2.box 1 rfl) rfl rfl) (Z8 rfl b'1 (Zg (ZaL (r:=r'1) (o:=0) (o':=0) rfl rfl) ?_)))))))
   refine Z8 rfl b'1 (Zg (ZaL (r:=r'1) (o:=0) (o':=0) rfl rfl) (Z8 rfl b'1 (Zg (Zac (cs:=(zH.c a)) (v:=.n a.Low.X) (hO'2.box 0 rfl) rfl rfl) (Z8 rfl b'1 (Zg (zN (a:=b.High.X) (b:=a.Low.X) rfl rfl) (Zg (zm (t:=(decide (a.High.X < b.Low.X))) (v:=.b ((decide (a.High.X < b.Low.X)) || (decide (b.High.X < a.Low.X)))) rfl b'1 (Eq.trans (b:=V.b (decide (b.High.X < a.Low.X))) rfl (Zca b'1))) (Zb ?_)))))))
   exact ⟨rfl,rfl,rfl,rfl⟩
 rintro frg'1 _ ⟨rfl,g'1_20,g'1_2,g'1_3⟩
 refine Zd (.b ((decide (a.High.X < b.Low.X)) || (decide (b.High.X < a.Low.X)))) g'1_20 ?_
 refine Za0 8 (fun fr' k'=>k'2 = k'∧fr' 29 = .b (((decide (a.High.X < b.Low.X)) || (decide (b.High.X < a.Low.X))) || (decide (a.High.Y < b.Low.Y)))∧fr' 2 = .p r'1 0∧fr' 3 = .p r'2 0) ?_ ?_
 ·rcases bc ((decide (a.High.X < b.Low.X)) || (decide (b.High.X < a.Low.X))) with b'2 | b'2
  ·skip
   refine Zv rfl b'2 (Zv rfl b'2 (Zv rfl b'2 (Zv rfl b'2 (Zv rfl b'2 (Zv rfl b'2 (Zv rfl b'2 (Zg (zr (t:=((decide (a.High.X < b.Low.X)) || (decide (b.High.X < a.Low.X)))) (v:=.b (((decide (a.High.X < b.Low.X)) || (decide (b.High.X < a.Low.X))) || (decide (a.High.Y < b.Low.Y)))) rfl b'2 (Eq.trans (b:=V.b true) rfl (Zbx b'2))) ?_)))))))
   refine Zb ?_
   exact ⟨rfl,rfl,g'1_2,g'1_3⟩
  ·skip
   refine Z8 rfl b'2 (Zg (ZaL (r:=r'1) (o:=0) (o':=2) g'1_2 rfl) (Z8 rfl b'2 (Zg (ZaL (r:=r'1) (o:=2) (o':=3) rfl rfl) (Z8 rfl b'2 (Zg (Zac (cs:=(zH.c a)) (v:=.n a.High.Y) (hO'2.box 0 rfl) rfl rfl) (Z8 rfl b'2 (Zg (ZaL (r:=r'2) (o:=0) (o':=0) g'1_3 rfl) ?_)))))))
   refine Z8 rfl b'2 (Zg (ZaL (r:=r'2) (o:=0) (o':=1) rfl rfl) (Z8 rfl b'2 (Zg (Zac (cs:=(zH.c b)) (v:=.n b.Low.Y) (hO'2.box 1 rfl) rfl rfl) (Z8 rfl b'2 (Zg (zN (a:=a.High.Y) (b:=b.Low.Y) rfl rfl) (Zg (zm (t:=((decide (a.High.X < b.Low.X)) || (decide (b.High.X < a.Low.X)))) (v:=.b (((decide (a.High.X < b.Low.X)) || (decide (b.High.X < a.Low.X))) || (decide (a.High.Y < b.Low.Y)))) rfl b'2 (Eq.trans (b:=V.b (decide (a.High.Y < b.Low.Y))) rfl (Zca b'2))) (Zb ?_)))))))
   exact ⟨rfl,rfl,g'1_2,g'1_3⟩
 rintro frg'2 _ ⟨rfl,g'2_29,g'2_2,g'2_3⟩
 refine Zd (.b (((decide (a.High.X < b.Low.X)) || (decide (b.High.X < a.Low.X))) || (decide (a.High.Y < b.Low.Y)))) g'2_29 ?_
 refine Za0 8 (fun fr' k'=>k'2 = k'∧fr' 38 = .b ((((decide (a.High.X < b.Low.X)) || (decide (b.High.X < a.Low.X))) || (decide (a.High.Y < b.Low.Y))) || (decide (b.High.Y < a.Low.Y)))) ?_ ?_
 ·rcases bc (((decide (a.High.X < b.Low.X)) || (decide (b.High.X < a.Low.X))) || (decide (a.High.Y < b.Low.Y))) with b'3 | b'3
  ·skip
   refine Zv rfl b'3 (Zv rfl b'3 (Zv rfl b'3 (Zv rfl b'3 (Zv rfl b'3 (Zv rfl b'3 (Zv rfl b'3 (Zg (zr (t:=(((decide (a.High.X < b.Low.X)) || (decide (b.High.X < a.Low.X))) || (decide (a.High.Y < b.Low.Y)))) (v:=.b ((((decide (a.High.X < b.Low.X)) || (decide (b.High.X < a.Low.X))) || (decide (a.High.Y < b.Low.Y))) || (decide (b.High.Y < a.Low.Y)))) rfl b'3 (Eq.trans (b:=V.b true) rfl (Zbx b'3))) ?_)))))))
   refine Zb ?_
   exact ⟨rfl,rfl⟩
  ·skip
   refine Z8 rfl b'3 (Zg (ZaL (r:=r'2) (o:=0) (o':=2) g'2_3 rfl) (Z8 rfl b'3 (Zg (ZaL (r:=r'2) (o:=2) (o':=3) rfl rfl) (Z8 rfl b'3 (Zg (Zac (cs:=(zH.c b)) (v:=.n b.High.Y) (hO'2.box 1 rfl) rfl rfl) (Z8 rfl b'3 (Zg (ZaL (r:=r'1) (o:=0) (o':=0) g'2_2 rfl) ?_)))))))
   refine Z8 rfl b'3 (Zg (ZaL (r:=r'1) (o:=0) (o':=1) rfl rfl) (Z8 rfl b'3 (Zg (Zac (cs:=(zH.c a)) (v:=.n a.Low.Y) (hO'2.box 0 rfl) rfl rfl) (Z8 rfl b'3 (Zg (zN (a:=b.High.Y) (b:=a.Low.Y) rfl rfl) (Zg (zm (t:=(((decide (a.High.X < b.Low.X)) || (decide (b.High.X < a.Low.X))) || (decide (a.High.Y < b.Low.Y)))) (v:=.b ((((decide (a.High.X < b.Low.X)) || (decide (b.High.X < a.Low.X))) || (decide (a.High.Y < b.Low.Y))) || (decide (b.High.Y < a.Low.Y)))) rfl b'3 (Eq.trans (b:=V.b (decide (b.High.Y < a.Low.Y))) rfl (Zca b'3))) (Zb ?_)))))))
   exact ⟨rfl,rfl⟩
 rintro frg'3 _ ⟨rfl,g'3_38⟩
 refine Zd (.b ((((decide (a.High.X < b.Low.X)) || (decide (b.High.X < a.Low.X))) || (decide (a.High.Y < b.Low.Y))) || (decide (b.High.Y < a.Low.Y)))) g'3_38 (Zb (Za (Zad (zu (zG (n:=4) (v:=.b ((((decide (a.High.X < b.Low.X)) || (decide (b.High.X < a.Low.X))) || (decide (a.High.Y < b.Low.Y))) || (decide (b.High.Y < a.Low.Y)))) rfl ZN) ?_))))
 cases hp
 exact ⟨rfl,(hO'2.pick [] rfl (by decide))⟩

theorem Zbp.ok {h:Hp} {B0:Nat→Prop} {h0:Hp} {c:ZaZ} {vertical:Bool} {i:Int} {v_c_X:V} {v_c_Y:V} {v_c_Vert:V} {vs_c_Vert:List V} {v_c_Horz:V} {vs_c_Horz:List V} (HO:Own B0 h0 h []) (S_c_X:Rd B0 h0 ZM v_c_X c.X) (S_c_Y:Rd B0 h0 ZM v_c_Y c.Y) (SN_c_Vert:Rd B0 h0 eV v_c_Vert vs_c_Vert) (lN_c_Vert:vs_c_Vert.length = c.Vert.length) (IN_c_Vert:∀ j,j < c.Vert.length→Rd B0 h0 ZM (gi vs_c_Vert j) (gi c.Vert j)) (SN_c_Horz:Rd B0 h0 eV v_c_Horz vs_c_Horz) (lN_c_Horz:vs_c_Horz.length = c.Horz.length) (IN_c_Horz:∀ j,j < c.Horz.length→Rd B0 h0 ZM (gi vs_c_Horz j) (gi c.Horz j)) {r:(List Int)} (hp:Zbp c vertical i = some r) :
  ∃ u k',Is G 140 [.ag [v_c_X,v_c_Y,v_c_Vert,v_c_Horz],.b vertical,.n i] h u k'∧∃ (v'1:V),v'1 = u∧Rd B0 h0 ZM v'1 r∧Own (fun r=>r < h.n) h k' []:=by
 refine WC.is (ZaM ZdN ?_)
 unfold Zbp at hp
 let B:Nat→Prop:=(fun r=>r < h.n)
 have hO:Own B h h []:=Own.start0 h
 refine Zh (Zk (zQ (hO.boxd (v:=.ag [v_c_X,v_c_Y,v_c_Vert,v_c_Horz]) (cs:=[v_c_X,v_c_Y,v_c_Vert,v_c_Horz]) hO.fr rfl rfl) ?_))
 rintro _ k'1 ⟨r'1,rfl,n'1,f'1,hW⟩
 have hO'1:=hW
 refine Zd (.sn) rfl (Zb (Za (Zh (Zk (Zg (ZaL (r:=r'1) (o:=0) (o':=3) rfl rfl) (Zg (Zac (cs:=[v_c_X,v_c_Y,v_c_Vert,v_c_Horz]) (v:=v_c_Horz) (hO'1.box 0 rfl) rfl rfl) (Zd v_c_Horz rfl ?_)))))))
 refine Zb (Za (Zh (Zh (Zk (Zd (.b vertical) rfl (Zb (Za ?_)))))))
 obtain ⟨o'1,ho'1,hp⟩:=Zq hp
 refine W.mono (Q:=fun e fr k=>match (generalizing:=false) o'1 with
   | l=>e = .normal∧∃ (v'2:V),∃ (vs'1:List V),fr 2 = .n i∧fr 7 = v'2∧Rd B0 h0 eV v'2 vs'1∧vs'1.length = l.length∧(∀ j,j < l.length→Rd B0 h0 ZM (gi vs'1 j) (gi l j))∧Own B h k []) ?_ ?_
 ·clear hp; have hp:=ho'1; clear ho'1
  rcases Zp hp with ⟨b'1,hp⟩ | ⟨b'1,hp⟩
  ·refine zA (t:=vertical) rfl b'1 ?_
   refine Zk (Zg (ZaL (r:=r'1) (o:=0) (o':=2) rfl rfl) (Zg (Zac (cs:=[v_c_X,v_c_Y,v_c_Vert,v_c_Horz]) (v:=v_c_Vert) (hO'1.box 0 rfl) rfl rfl) (Zd v_c_Vert rfl (Zb ?_))))
   cases hp
   exact ⟨rfl,v_c_Vert,vs_c_Vert,rfl,rfl,SN_c_Vert,lN_c_Vert,(fun j hj=>((IN_c_Vert j hj))),(hO'1.pick [] rfl (by decide))⟩
  ·refine z7 (t:=vertical) rfl b'1 ?_
   refine zD ?_
   cases hp
   exact ⟨rfl,v_c_Horz,vs_c_Horz,rfl,rfl,SN_c_Horz,lN_c_Horz,(fun j hj=>((IN_c_Horz j hj))),(hO'1.pick [] rfl (by decide))⟩
 intro e'1 q'1 k'2 hJ'1
 obtain ⟨l,rfl⟩:∃ x,x = o'1:=⟨_,rfl⟩
 obtain ⟨rfl,v'2,vs'1,q'1_2,q'1_7,s'1,sl'1,si'1,hO'2⟩:=hJ'1
 refine Za (Zh (Zh (Zk (Zd (.n i) q'1_2 (Zg (zN (a:=i) (b:=0) rfl rfl) (Zd (.b (decide (i < 0))) rfl ?_))))))
 refine Za0 5 (fun fr' k'=>k'2 = k'∧fr' 20 = .b ((decide (i < 0)) || (decide ((l.length:Int)≤i)))∧fr' 2 = .n i∧fr' 7 = v'2) ?_ ?_
 ·rcases bc (decide (i < 0)) with b'2 | b'2
  ·skip
   refine Zv rfl b'2 (Zv rfl b'2 (Zv rfl b'2 (Zv rfl b'2 (Zg (zr (t:=(decide (i < 0))) (v:=.b ((decide (i < 0)) || (decide ((l.length:Int)≤i)))) rfl b'2 (Eq.trans (b:=V.b true) rfl (Zbx b'2))) (Zb ?_)))))
   exact ⟨rfl,rfl,q'1_2,q'1_7⟩
  ·skip
   refine Z8 rfl b'2 (Zd (.n i) q'1_2 (Z8 rfl b'2 (Zd v'2 q'1_7 (Z8 rfl b'2 (Zg (Zej (n:=(l).length) (hO'2.rd0 (Rd.via HO s'1):Sl eV k'2 v'2 vs'1) sl'1 rfl) (Z8 rfl b'2 (Zg (Zcs (a:=i) (b:=(l.length:Int)) rfl rfl) ?_)))))))
   refine Zg (zm (t:=(decide (i < 0))) (v:=.b ((decide (i < 0)) || (decide ((l.length:Int)≤i)))) rfl b'2 (Eq.trans (b:=V.b (decide ((l.length:Int)≤i))) rfl (Zca b'2))) (Zb ?_)
   exact ⟨rfl,rfl,q'1_2,q'1_7⟩
 rintro frg'1 _ ⟨rfl,g'1_20,g'1_2,g'1_7⟩
 refine Zb (Za ?_)
 rcases Zp hp with ⟨b'3,hp⟩ | ⟨b'3,hp⟩
 ·refine zA (t:=((decide (i < 0)) || (decide ((l.length:Int)≤i)))) g'1_20 b'3 ?_
  refine Zh (Zk (Zd (.sn) rfl (Zb (Za (Zad (zk (zu (zG (n:=6) (v:=.sn) rfl ZN) ?_)))))))
  cases hp
  exact ⟨V.sn,rfl,(fun _ _=>Sl.nil),(hO'2.pick [] rfl (by decide))⟩
 ·refine z7 (t:=((decide (i < 0)) || (decide ((l.length:Int)≤i)))) g'1_20 b'3 ?_
  refine zD (Za (Zh (Zk (Zd v'2 g'1_7 (Zd (.n i) g'1_2 ?_)))))
  obtain ⟨c'1,hp⟩:=Zj hp
  refine Zg (zf (E:=eV) (z:=i) (hO'2.rd0 (Rd.via HO s'1):Sl eV k'2 v'2 vs'1) rfl rfl (by rw [sl'1]; exact c'1)) (Zg (zB (w:=(gi vs'1 i.toNat)) (hO'2.rd0 (Rd.via HO s'1):Sl eV k'2 v'2 vs'1) rfl (by rw [sl'1]; exact Zi c'1) rfl) (Zd ((gi vs'1 i.toNat)) rfl (Zb (Za (Zad (zu (zG (n:=6) (v:=(gi vs'1 i.toNat)) rfl ZN) ?_))))))
  cases hp
  exact ⟨gi vs'1 i.toNat,rfl,(fun j hj=>((si'1 j hj))) _ (Zi c'1),(hO'2.pick [] rfl (by decide))⟩

theorem Zat.ok {h:Hp} {s:List Int} {f:Int→Option Bool} {v_s:V} {id_f:Nat} {cap_f:List V} (s_s:Sl ZM h v_s s) (f_f:∀ (k:Hp) (x0:Int) (y:Bool),Ex' (fun r=>r < h.n) h k→f x0 = some y→∃ u k',Is G id_f (.n x0 :: cap_f) k u k'∧V.b y = u∧Own (fun r=>r < k.n) k k' []) {r:Int} (hp:Zat s f = some r) :
  ∃ u k',Is G 91 [v_s,.f id_f cap_f] h u k'∧V.n r = u∧Own (fun r=>r < h.n) h k' []:=by
 refine WC.is (ZaM ZcT ?_)
 unfold Zat at hp
 let B:Nat→Prop:=(fun r=>r < h.n)
 have hO:Own B h h []:=Own.start0 h
 refine Zh (Zk (Zd (.n 0) rfl (Zb (Za (Zh (Zh (Zk ?_)))))))
 refine Zd v_s rfl (Zg (Zau (hO.rd0 s_s.rd) rfl) (Zd (.n 0) rfl (Zb (Za (Zaq ?_)))))
 obtain ⟨o'1,ho'1,hp⟩:=Zq hp
 refine W.mono (Q:=fun e fr k=>match (generalizing:=false) o'1 with
   | .inl _=>e = (.exit 0)∧Own B h k []
   | .inr x1=>e = .ret∧fr 4 = .n x1∧Own B h k []) ?_ ?_
 ·clear hp
  refine zP (fun st fr k=>match st with | x=>fr 0 = v_s∧fr 1 = .f id_f cap_f∧fr 7 = .n (s.length:Int)∧fr 8 = .n x∧Own B h k []) ho'1 (s:=0) ⟨rfl,rfl,rfl,rfl,(hO.pick [] rfl (by decide))⟩ ?_
  rintro x q'2 k'2 ⟨q'2_0,q'2_1,q'2_7,q'2_8,hO'2⟩ o'2 hp
  dsimp only [Zat.s0] at hp
  refine Zh (Zk (Zg (zN (a:=x) (b:=(s.length:Int)) q'2_8 q'2_7) (Zb (Za (Zh ?_)))))
  rcases Zp hp with ⟨b'1,hp⟩ | ⟨b'1,hp⟩
  ·refine zA (t:=(decide (x < (s.length:Int)))) rfl b'1 ?_
   refine zD (Za (Zh (Zaq (Zh (Zk (Zd (.n x) q'2_8 (Zd (.n x) rfl ?_)))))))
   refine Zb (Za (Zh (Zk (Zd (.f id_f cap_f) q'2_1 (Zd v_s q'2_0 (Zd (.n x) rfl ?_))))))
   obtain ⟨c'1,hp⟩:=Zj hp
   refine Zg (zf (E:=ZM) (z:=x) (hO'2.rd0 s_s.rd) rfl rfl c'1) (Zg (zB (w:=.n (gi s x.toNat)) (hO'2.rd0 s_s.rd) rfl (Zi c'1) rfl) ?_)
   obtain ⟨x2,hx'1,hp⟩:=Zq hp
   obtain ⟨u'1,k'3,ca'1,rfl,hW'1⟩:=f_f _ _ _ hO'2.ext hx'1
   refine Zbd (id:=id_f) (caps:=cap_f) rfl (Zu (v:=.n (gi s x.toNat)) rfl zx) ca'1 ?_
   have hO'3:=hO'2.call hW'1 rfl
   refine Zb (Za ?_)
   rcases Zp hp with ⟨b'2,hp⟩ | ⟨b'2,hp⟩
   ·refine zA (t:=x2) rfl b'2 ?_
    refine Zh (Zk (Zd (.n x) rfl (Zd (.n x) rfl (Zb (Za (Zad (ZaP ?_)))))))
    refine zk ?_
    cases hp
    refine (Or.inr ⟨.inr x,rfl,(fun h=>nomatch h),(fun he=>?_)⟩)
    subst he; exact ⟨rfl,rfl,(hO'3.pick [] rfl (by decide))⟩
   ·refine z7 (t:=x2) rfl b'2 ?_
    refine zD (Zan (Za (Zk ?_)))
    obtain ⟨c'2,hp⟩:=Zj hp
    refine Zg (z6 (a:=x) (b:=1) q'2_8 rfl c'2) (Zd (.n (x + 1)) rfl (Zb ?_))
    cases hp
    exact (Or.inl ⟨x + 1,rfl,rfl,q'2_0,q'2_1,q'2_7,rfl,(hO'3.pick [] rfl (by decide))⟩)
  ·refine z7 (t:=(decide (x < (s.length:Int)))) rfl b'1 ?_
   refine Zbv (zY ?_)
   cases hp
   refine (Or.inr ⟨.inl (),rfl,(fun h=>nomatch h),(fun he=>?_)⟩)
   subst he; exact ⟨rfl,(hO'2.pick [] rfl (by decide))⟩
 intro e'1 q'1 k'1 hJ'1
 rcases o'1 with _ | x1
 ·obtain ⟨rfl,hO'1⟩:=hJ'1
  refine ZaD (Za (Zh (Zk (Zd (.n (-1)) rfl (Zb (Za (Zad ?_)))))))
  refine zu (zG (n:=4) (v:=.n (-1)) rfl ZN) ?_
  cases hp
  exact ⟨rfl,(hO'1.pick [] rfl (by decide))⟩
 ·obtain ⟨rfl,q'1_4,hO'1⟩:=hJ'1
  refine ZaP (zk (zu (zG (n:=4) (v:=.n x1) q'1_4 ZN) ?_))
  cases hp
  exact ⟨rfl,(hO'1.pick [] rfl (by decide))⟩

theorem ZaU.ok {h:Hp} {s:List Int} {f:Int→Option Bool} {v_s:V} {id_f:Nat} {cap_f:List V} (s_s:Sl ZM h v_s s) (f_f:∀ (k:Hp) (x0:Int) (y:Bool),Ex' (fun r=>r < h.n) h k→f x0 = some y→∃ u k',Is G id_f (.n x0 :: cap_f) k u k'∧V.b y = u∧Own (fun r=>r < k.n) k k' []) {r:Bool} (hp:ZaU s f = some r) :
  ∃ u k',Is G 78 [v_s,.f id_f cap_f] h u k'∧V.b r = u∧Own (fun r=>r < h.n) h k' []:=by
 refine WC.is (ZaM ZcA ?_)
 unfold ZaU at hp
 let B:Nat→Prop:=(fun r=>r < h.n)
 have hO:Own B h h []:=Own.start0 h
 refine Zh (Zk (Zd (.b false) rfl (Zb (Za (Zh (Zk (Zd v_s rfl ?_)))))))
 refine Zd (.f id_f cap_f) rfl ?_
 obtain ⟨x,hx'1,hp⟩:=Zq hp
 obtain ⟨u'1,k'1,ca'1,rfl,hW'1⟩:=Zat.ok (h:=h)  (hO.rd0 s_s.rd) (fun k z0 y hk hx=>f_f k z0 y (ZmU hO hk) hx) hx'1
 refine Zbd (id:=91) (caps:=[]) rfl (Zu (v:=v_s) rfl (Zu (v:=.f id_f cap_f) rfl zx)) ca'1 ?_
 have hO'1:=hO.call hW'1 rfl
 refine Zg (Zcs (a:=x) (b:=0) rfl rfl) (Zd (.b (decide (0≤x))) rfl (Zb (Za (Zad (zu (zG (n:=4) (v:=.b (decide (0≤x))) rfl ZN) ?_)))))
 cases hp
 exact ⟨rfl,(hO'1.pick [] rfl (by decide))⟩

theorem ZaO.ok {h:Hp} {s:List Int} {v:Int} {v_s:V} (s_s:Sl ZM h v_s s) {r:Int} (hp:ZaO s v = some r) :
  ∃ u k',Is G 136 [v_s,.n v] h u k'∧V.n r = u∧Own (fun r=>r < h.n) h k' []:=by
 refine WC.is (ZaM ZdO ?_)
 unfold ZaO at hp
 let B:Nat→Prop:=(fun r=>r < h.n)
 have hO:Own B h h []:=Own.start0 h
 refine Zh (Zk (Zd (.n 0) rfl (Zb (Za (Zh (Zh (Zk ?_)))))))
 refine Zd v_s rfl (Zg (Zau (hO.rd0 s_s.rd) rfl) (Zd (.n 0) rfl (Zb (Za (Zaq ?_)))))
 obtain ⟨o'1,ho'1,hp⟩:=Zq hp
 refine W.mono (Q:=fun e fr k=>match (generalizing:=false) o'1 with
   | .inl _=>e = (.exit 0)∧Own B h k []
   | .inr x1=>e = .ret∧fr 4 = .n x1∧Own B h k []) ?_ ?_
 ·clear hp
  refine zP (fun st fr k=>match st with | x=>fr 0 = v_s∧fr 1 = .n v∧fr 7 = .n (s.length:Int)∧fr 8 = .n x∧Own B h k []) ho'1 (s:=0) ⟨rfl,rfl,rfl,rfl,(hO.pick [] rfl (by decide))⟩ ?_
  rintro x q'2 k'2 ⟨q'2_0,q'2_1,q'2_7,q'2_8,hO'2⟩ o'2 hp
  dsimp only [ZaO.s0] at hp
  refine Zh (Zk (Zg (zN (a:=x) (b:=(s.length:Int)) q'2_8 q'2_7) (Zb (Za (Zh ?_)))))
  rcases Zp hp with ⟨b'1,hp⟩ | ⟨b'1,hp⟩
  ·refine zA (t:=(decide (x < (s.length:Int)))) rfl b'1 ?_
   refine zD (Za (Zh (Zaq (Zh (Zk (Zd (.n x) q'2_8 (Zd (.n x) rfl ?_)))))))
   refine Zb (Za (Zh (Zk (Zd (.n v) q'2_1 (Zd v_s q'2_0 (Zd (.n x) rfl ?_))))))
   obtain ⟨c'1,hp⟩:=Zj hp
   refine Zg (zf (E:=ZM) (z:=x) (hO'2.rd0 s_s.rd) rfl rfl c'1) (Zg (zB (w:=.n (gi s x.toNat)) (hO'2.rd0 s_s.rd) rfl (Zi c'1) rfl) (Zg (ZbQ (a:=v) (b:=(gi s x.toNat)) rfl rfl) (Zb (Za ?_))))
   rcases Zp hp with ⟨b'2,hp⟩ | ⟨b'2,hp⟩
   ·refine zA (t:=(decide (v = gi s x.toNat))) rfl b'2 ?_
    refine Zh (Zk (Zd (.n x) rfl (Zd (.n x) rfl (Zb (Za (Zad (ZaP ?_)))))))
    refine zk ?_
    cases hp
    refine (Or.inr ⟨.inr x,rfl,(fun h=>nomatch h),(fun he=>?_)⟩)
    subst he; exact ⟨rfl,rfl,(hO'2.pick [] rfl (by decide))⟩
   ·refine z7 (t:=(decide (v = gi s x.toNat))) rfl b'2 ?_
    refine zD (Zan (Za (Zk ?_)))
    obtain ⟨c'2,hp⟩:=Zj hp
    refine Zg (z6 (a:=x) (b:=1) q'2_8 rfl c'2) (Zd (.n (x + 1)) rfl (Zb ?_))
    cases hp
    exact (Or.inl ⟨x + 1,rfl,rfl,q'2_0,q'2_1,q'2_7,rfl,(hO'2.pick [] rfl (by decide))⟩)
  ·refine z7 (t:=(decide (x < (s.length:Int)))) rfl b'1 ?_
   refine Zbv (zY ?_)
   cases hp
   refine (Or.inr ⟨.inl (),rfl,(fun h=>nomatch h),(fun he=>?_)⟩)
   subst he; exact ⟨rfl,(hO'2.pick [] rfl (by decide))⟩
 intro e'1 q'1 k'1 hJ'1
 rcases o'1 with _ | x1
 ·obtain ⟨rfl,hO'1⟩:=hJ'1
  refine ZaD (Za (Zh (Zk (Zd (.n (-1)) rfl (Zb (Za (Zad ?_)))))))
  refine zu (zG (n:=4) (v:=.n (-1)) rfl ZN) ?_
  cases hp
  exact ⟨rfl,(hO'1.pick [] rfl (by decide))⟩
 ·obtain ⟨rfl,q'1_4,hO'1⟩:=hJ'1
  refine ZaP (zk (zu (zG (n:=4) (v:=.n x1) q'1_4 ZN) ?_))
  cases hp
  exact ⟨rfl,(hO'1.pick [] rfl (by decide))⟩

theorem Zby.ok {h:Hp} {s:List Int} {v:Int} {v_s:V} (s_s:Sl ZM h v_s s) {r:Bool} (hp:Zby s v = some r) :
  ∃ u k',Is G 118 [v_s,.n v] h u k'∧V.b r = u∧Own (fun r=>r < h.n) h k' []:=by
 refine WC.is (ZaM Zdg ?_)
 unfold Zby at hp
 let B:Nat→Prop:=(fun r=>r < h.n)
 have hO:Own B h h []:=Own.start0 h
 refine Zh (Zk (Zd (.b false) rfl (Zb (Za (Zh (Zk (Zd v_s rfl ?_)))))))
 refine Zd (.n v) rfl ?_
 obtain ⟨x,hx'1,hp⟩:=Zq hp
 obtain ⟨u'1,k'1,ca'1,rfl,hW'1⟩:=ZaO.ok (h:=h)  (hO.rd0 s_s.rd) hx'1
 refine Zbd (id:=136) (caps:=[]) rfl (Zu (v:=v_s) rfl (Zu (v:=.n v) rfl zx)) ca'1 ?_
 have hO'1:=hO.call hW'1 rfl
 refine Zg (Zcs (a:=x) (b:=0) rfl rfl) (Zd (.b (decide (0≤x))) rfl (Zb (Za (Zad (zu (zG (n:=4) (v:=.b (decide (0≤x))) rfl ZN) ?_)))))
 cases hp
 exact ⟨rfl,(hO'1.pick [] rfl (by decide))⟩

theorem ZbX.ok {h:Hp} {v:Int} {c0:List Int} {r_c0:Nat} {v_c0:V} {w_c0:Bool} (b_c0:h.m r_c0 = some (.cells w_c0 [v_c0])) (s_c0:Sl ZM h v_c0 c0) {r:Bool} (hp:ZbX v c0 = some r) :
  ∃ u k',Is G 141 [.n v,.p r_c0 0] h u k'∧V.b r = u∧Own (fun r=>r < h.n) h k' []:=by
 refine WC.is (ZaM Zd3 ?_)
 unfold ZbX at hp
 let B:Nat→Prop:=(fun r=>r < h.n)
 have hO:Own B h h []:=Own.start0 h
 refine Zh (Zk (Zd (.b false) rfl (Zb (Za (Zh (Zk (Zg (Zac (cs:=[v_c0]) (v:=v_c0) (hO.rdB0 (RdB.of b_c0)).choose_spec rfl rfl) ?_)))))))
 refine Zd (.n v) rfl ?_
 obtain ⟨x,hx'1,hp⟩:=Zq hp
 obtain ⟨u'1,k'1,ca'1,rfl,hW'1⟩:=Zby.ok (h:=h)  (hO.rd0 s_c0.rd) hx'1
 refine Zbd (id:=118) (caps:=[]) rfl (Zu (v:=v_c0) rfl (Zu (v:=.n v) rfl zx)) ca'1 ?_
 have hO'1:=hO.call hW'1 rfl
 refine Zd (.b x) rfl (Zb (Za (Zad (zu (zG (n:=3) (v:=.b x) rfl ZN) ?_))))
 cases hp
 exact ⟨rfl,(hO'1.pick [] rfl (by decide))⟩

theorem Zbb.ok {h:Hp} {c:ZaZ} {vertical:Bool} {i:Int} {other:Bool} {k_:Int} {v_c_X:V} {v_c_Y:V} {v_c_Vert:V} {vs_c_Vert:List V} {v_c_Horz:V} {vs_c_Horz:List V} (s_c_X:Sl ZM h v_c_X c.X) (s_c_Y:Sl ZM h v_c_Y c.Y) (sN_c_Vert:Sl eV h v_c_Vert vs_c_Vert) (lN_c_Vert:vs_c_Vert.length = c.Vert.length) (iN_c_Vert:∀ j,j < c.Vert.length→Sl ZM h (gi vs_c_Vert j) (gi c.Vert j)) (sN_c_Horz:Sl eV h v_c_Horz vs_c_Horz) (lN_c_Horz:vs_c_Horz.length = c.Horz.length) (iN_c_Horz:∀ j,j < c.Horz.length→Sl ZM h (gi vs_c_Horz j) (gi c.Horz j)) {r:Bool} (hp:Zbb c vertical i other k_ = some r) :
  ∃ u k',Is G 123 [.ag [v_c_X,v_c_Y,v_c_Vert,v_c_Horz],.b vertical,.n i,.b other,.n k_] h u k'∧V.b r = u∧Own (fun r=>r < h.n) h k' []:=by
 refine WC.is (ZaM Zea ?_)
 unfold Zbb at hp
 let B:Nat→Prop:=(fun r=>r < h.n)
 have hO:Own B h h []:=Own.start0 h
 refine Zh (Zk (zQ (hO.boxd (v:=.ag [v_c_X,v_c_Y,v_c_Vert,v_c_Horz]) (cs:=[v_c_X,v_c_Y,v_c_Vert,v_c_Horz]) hO.fr rfl rfl) ?_))
 rintro _ k'1 ⟨r'1,rfl,n'1,f'1,hW⟩
 have hO'1:=hW
 refine Zd (.b false) rfl (Zb (Za (Zh (Zk (Zg (Zb7 (cs:=[v_c_X,v_c_Y,v_c_Vert,v_c_Horz]) (ws:=[v_c_X,v_c_Y,v_c_Vert,v_c_Horz]) (hO'1.box 0 rfl) rfl rfl) (Zd (.b other) rfl (Zd (.n k_) rfl ?_)))))))
 obtain ⟨x,hx'1,hp⟩:=Zq hp
 obtain ⟨u'1,k'2,ca'1,v'1,rfl,hb'1,hW'1⟩:=Zbp.ok (h:=k'1)  (hO'1.pick [] rfl (by decide)) s_c_X.rd s_c_Y.rd sN_c_Vert.rd lN_c_Vert (fun j hj=>(iN_c_Vert j hj).rd) sN_c_Horz.rd lN_c_Horz (fun j hj=>(iN_c_Horz j hj).rd) hx'1
 refine Zbd (id:=140) (caps:=[]) rfl (Zu (v:=.ag [v_c_X,v_c_Y,v_c_Vert,v_c_Horz]) rfl (Zu (v:=.b other) rfl (Zu (v:=.n k_) rfl zx))) ca'1 ?_
 have hO'2:=hO'1.call hW'1 rfl
 refine zQ (hO'2.alloc (cs:=[.sn]) hO'2.fr) ?_
 rintro _ k'3 ⟨r'2,rfl,n'2,f'2,hW⟩
 have hO'3:=hW
 refine zQ (hO'3.stb (ws:=[v'1]) (cs':=[v'1]) (v:=v'1) 1 rfl rfl rfl (hO'3.rd0 hb'1).cells ⟨rfl,Nat.le_of_ble_eq_true rfl,(all_cons (hO'3.rd0 hb'1).oneV rfl)⟩ rfl) ?_
 rintro _ k'4 ⟨rfl,f'3,m'1,hW⟩
 have hO'4:=hW
 refine Zb (Za (Zh (Zk (Zg (Zb7 (cs:=[v_c_X,v_c_Y,v_c_Vert,v_c_Horz]) (ws:=[v_c_X,v_c_Y,v_c_Vert,v_c_Horz]) (hO'4.box 0 rfl) rfl rfl) (Zd (.b vertical) rfl (Zd (.n i) rfl ?_))))))
 obtain ⟨x1,hx'2,hp⟩:=Zq hp
 obtain ⟨u'2,k'5,ca'2,v'2,rfl,hb'2,hW'2⟩:=Zbp.ok (h:=k'4)  (hO'4.pick [] rfl (by decide)) s_c_X.rd s_c_Y.rd sN_c_Vert.rd lN_c_Vert (fun j hj=>(iN_c_Vert j hj).rd) sN_c_Horz.rd lN_c_Horz (fun j hj=>(iN_c_Horz j hj).rd) hx'2
 refine Zbd (id:=140) (caps:=[]) rfl (Zu (v:=.ag [v_c_X,v_c_Y,v_c_Vert,v_c_Horz]) rfl (Zu (v:=.b vertical) rfl (Zu (v:=.n i) rfl zx))) ca'2 ?_
 have hO'5:=hO'4.call hW'2 rfl
 refine Zg (ZmM (vs:=[.p r'2 0]) (Zle (v:=.p r'2 0) rfl Zmn)) ?_
 obtain ⟨x2,hx'3,hp⟩:=Zq hp
 obtain ⟨u'3,k'6,ca'3,rfl,hW'3⟩:=ZaU.ok (h:=k'5)  (hO'5.rd0 hb'2) (fun k z0 y hk hx=>ZbX.ok (h:=k) ((hk.2 _ (Hp.lt (hO'5.box 1 rfl))).trans (hO'5.box 1 rfl)) (((hO'5.rd0 hb'1)).ext ⟨hk.1,hk.2⟩) hx) hx'3
 refine Zbd (id:=78) (caps:=[]) rfl (Zu (v:=v'2) rfl (Zu (v:=.f 141 [.p r'2 0]) rfl zx)) ca'3 ?_
 have hO'6:=hO'5.call hW'3 rfl
 refine Zd (.b x2) rfl (Zb (Za (Zad (zu (zG (n:=10) (v:=.b x2) rfl ZN) ?_))))
 cases hp
 exact ⟨rfl,(hO'6.pick [] rfl (by decide))⟩

theorem Zab.ok {h:Hp} {cells:List Ze} {at_:List Zf} {v_cells:V} {v_at_:V} (s_cells:Sl Zn h v_cells cells) (s_at_:Sl Zc h v_at_ at_) {r:Bool} (hp:Zab cells at_ = some r) :
  ∃ u k',Is G 225 [v_cells,v_at_] h u k'∧V.b r = u∧Own (fun r=>r < h.n) h k' []:=by
 refine WC.is (ZaM Zet ?_)
 unfold Zab at hp
 let B:Nat→Prop:=(fun r=>r < h.n)
 have hO:Own B h h []:=Own.start0 h
 refine Zh (Zk (Zd (.b false) rfl (Zb (Za (Zh (Zk (Zd v_cells rfl ?_)))))))
 obtain ⟨⟨x,x1⟩,hx'1,hp⟩:=Zq hp
 obtain ⟨u'1,k'1,ca'1,v'1,v'2,v'3,vs'1,v'4,vs'2,rfl,hW'1⟩:=Zcg.ok (h:=h)  (hO.rd0 s_cells.rd) hx'1
 refine Zbd (id:=120) (caps:=[]) rfl (Zu (v:=v_cells) rfl zx) ca'1 ?_
 have hO'1:=hO.call hW'1 rfl
 refine Zd (.tu [.ag [v'1,v'2,v'3,v'4],.n x1]) rfl (Zg (Zb6 (vs:=[.ag [v'1,v'2,v'3,v'4],.n x1]) (v:=.ag [v'1,v'2,v'3,v'4]) rfl rfl) (Zg (Zb6 (vs:=[.ag [v'1,v'2,v'3,v'4],.n x1]) (v:=.n x1) rfl rfl) (zQ (hO'1.alloc (cs:=[.sn,.sn,.sn,.sn]) hO'1.fr) ?_)))
 rintro _ k'2 ⟨r'1,rfl,n'1,f'1,hW⟩
 have hO'2:=hW
 refine zQ (hO'2.stb (ws:=[v'1,v'2,v'3,v'4]) (cs':=[v'1,v'2,v'3,v'4]) (v:=.ag [v'1,v'2,v'3,v'4]) 6 rfl rfl rfl rfl ⟨rfl,Nat.le_of_ble_eq_true rfl,(all_cons (hO'2.sl 0 rfl).oneV (all_cons (hO'2.sl 1 rfl).oneV (all_cons (hO'2.sl 2 rfl).oneV (all_cons (hO'2.sl 4 rfl).oneV all_nil))))⟩ rfl) ?_
 rintro _ k'3 ⟨rfl,f'2,m'1,hW⟩
 have hO'3:=hW
 refine Zd (.n x1) rfl (Zb (Za (Zh (Zk (Zd v_cells rfl ?_)))))
 obtain ⟨⟨x2,x3⟩,hx'2,hp⟩:=Zq hp
 obtain ⟨u'2,k'4,ca'2,v'5,rfl,hW'2⟩:=ZcL.ok (h:=k'3)  (hO'3.rd0 s_cells.rd) hx'2
 refine Zbd (id:=187) (caps:=[]) rfl (Zu (v:=v_cells) rfl zx) ca'2 ?_
 have hO'4:=hO'3.call hW'2 rfl
 refine Zd (.tu [v'5,.n x3]) rfl (Zg (Zb6 (vs:=[v'5,.n x3]) (v:=v'5) rfl rfl) (Zg (Zb6 (vs:=[v'5,.n x3]) (v:=.n x3) rfl rfl) (Zd v'5 rfl (Zd (.n x3) rfl (Zb (Za (Zh ?_)))))))
 refine Zh (Zk (Zd v'5 rfl (Zg (Zau (hO'4.sl 7 rfl) rfl) (Zd (.n 0) rfl (Zb (Za (Zaq ?_)))))))
 obtain ⟨o'1,ho'1,hp⟩:=Zq hp
 refine W.mono (Q:=fun e fr k=>match (generalizing:=false) o'1 with
   | .inl _=>e = (.exit 0)∧Own B h k []
   | .inr _=>e = .ret∧fr 4 = .b true∧Own B h k []) ?_ ?_
 ·clear hp
  refine zP (fun st fr k=>match st with | x4=>fr 1 = v_at_∧fr 5 = .p r'1 0∧fr 7 = v'5∧fr 24 = v'5∧fr 25 = .n (x2.length:Int)∧fr 26 = .n x4∧Own B h k [ZbF r'1 [v'1,v'2,v'3,v'4],eSl ZM v'1 x.X,eSl ZM v'2 x.Y,eSl eV v'3 vs'1,ZbE ZM vs'1 x.Vert,eSl eV v'4 vs'2,ZbE ZM vs'2 x.Horz,eSl ZP v'5 x2]) ho'1 (s:=0) ⟨rfl,rfl,rfl,rfl,rfl,rfl,(hO'4.pick [6,0,1,2,3,4,5,7] rfl (by decide))⟩ ?_
  rintro x4 q'2 k'6 ⟨q'2_1,q'2_5,q'2_7,q'2_24,q'2_25,q'2_26,hO'6⟩ o'2 hp
  dsimp only [Zab.s0] at hp
  refine Zh (Zk (Zg (zN (a:=x4) (b:=(x2.length:Int)) q'2_26 q'2_25) (Zb (Za (Zh ?_)))))
  rcases Zp hp with ⟨b'1,hp⟩ | ⟨b'1,hp⟩
  ·refine zA (t:=(decide (x4 < (x2.length:Int)))) rfl b'1 ?_
   refine zD (Za (Zh (Zaq (Zh (Zk (Zd (.n x4) q'2_26 ?_))))))
   obtain ⟨c'1,hp⟩:=Zj hp
   refine Zg (zf (E:=ZP) (z:=x4) (hO'6.sl 7 rfl) q'2_24 q'2_26 c'1) (Zg (Zd5 (E:=ZP) (hO'6.sl 7 rfl) rfl (Zi c'1)) (zQ (hO'6.alloc (cs:=ZP.c (⟨false,0⟩:Zai)) hO'6.fr) ?_))
   rintro _ k'7 ⟨r'2,rfl,n'2,f'3,hW⟩
   have hO'7:=hW
   refine Zd (.n x4) rfl (zQ (hO'7.stb (ws:=ZP.c (gi x2 x4.toNat)) (cs':=ZP.c (gi x2 x4.toNat)) (v:=.ag (ZP.c (gi x2 x4.toNat))) 8 rfl rfl rfl rfl ⟨rfl,Nat.le_of_ble_eq_true rfl,rfl⟩ rfl) ?_)
   rintro _ k'8 ⟨rfl,f'4,m'2,hW⟩
   have hO'8:=hW
   refine Zb (Za (Zh (Zk (Zg (Zb7 (cs:=[v'1,v'2,v'3,v'4]) (ws:=[v'1,v'2,v'3,v'4]) (hO'8.box 0 rfl) q'2_5 rfl) (Zg (Zb7 (cs:=(ZP.c (gi x2 x4.toNat))) (ws:=ZP.c (gi x2 x4.toNat)) (hO'8.box 8 rfl) rfl rfl) (Zd v_at_ q'2_1 ?_))))))
   obtain ⟨x5,hx'3,hp⟩:=Zq hp
   obtain ⟨u'3,k'9,ca'3,rfl,hW'3⟩:=Zch.ok (h:=k'8)  (hO'8.sl 1 rfl) (hO'8.sl 2 rfl) (hO'8.sl 3 rfl) (hO'8.allLen 4 rfl:(vs'1).length = (x.Vert).length) (fun j hj=>hO'8.inn 4 rfl hj) (hO'8.sl 5 rfl) (hO'8.allLen 6 rfl:(vs'2).length = (x.Horz).length) (fun j hj=>hO'8.inn 6 rfl hj) (hO'8.rd0 s_at_.rd) hx'3
   refine Zbd (id:=231) (caps:=[]) rfl (Zu (v:=.ag [v'1,v'2,v'3,v'4]) rfl (Zu (v:=.ag (ZP.c (gi x2 x4.toNat))) rfl (Zu (v:=v_at_) rfl zx))) ca'3 ?_
   have hO'9:=hO'8.call hW'3 rfl
   refine zQ (hO'9.alloc (cs:=zH.c (⟨⟨0,0⟩,⟨0,0⟩⟩:Zbe)) hO'9.fr) ?_
   rintro _ k'10 ⟨r'3,rfl,n'3,f'5,hW⟩
   have hO'10:=hW
   refine zQ (hO'10.stb (ws:=zH.c x5) (cs':=zH.c x5) (v:=.ag (zH.c x5)) 9 rfl rfl rfl rfl ⟨rfl,Nat.le_of_ble_eq_true rfl,rfl⟩ rfl) ?_
   rintro _ k'11 ⟨rfl,f'6,m'3,hW⟩
   have hO'11:=hW
   refine Zb (Za (Zh (Zk (Zd v'5 q'2_7 (Zd (.n x4) rfl ?_)))))
   obtain ⟨c'2,hp⟩:=Zj hp
   refine Zg (z6 (a:=x4) (b:=1) rfl rfl c'2) ?_
   obtain ⟨c'3,hp⟩:=Zj hp
   refine Zg (Zi7 (E:=ZP) (z:=(x4 + 1)) (hO'11.sl 7 rfl) rfl rfl c'3) (Zg (Zau (Sl.cutF (hO'11.sl 7 rfl) c'3:Sl ZP k'11 (V.cut v'5 (x4 + 1:Int).toNat (x2).length) (x2.drop (x4 + 1:Int).toNat)) rfl) (Zd (.n 0) rfl (Zb (Za (Zaq ?_)))))
   obtain ⟨o'3,ho'2,hp⟩:=Zq hp
   refine W.mono (Q:=fun e fr k=>match (generalizing:=false) o'3 with
     | .inl _=>e = (.exit 2)∧fr 1 = v_at_∧fr 5 = .p r'1 0∧fr 7 = v'5∧fr 24 = v'5∧fr 25 = .n (x2.length:Int)∧fr 26 = .n x4∧Own B h k [ZbF r'1 [v'1,v'2,v'3,v'4],eSl ZM v'1 x.X,eSl ZM v'2 x.Y,eSl eV v'3 vs'1,ZbE ZM vs'1 x.Vert,eSl eV v'4 vs'2,ZbE ZM vs'2 x.Horz,eSl ZP v'5 x2]
     | .inr _=>e = .ret∧fr 4 = .b true∧Own B h k []) ?_ ?_
   ·clear hp
    refine zP (fun st fr k=>match st with | x6=>fr 1 = v_at_∧fr 5 = .p r'1 0∧fr 7 = v'5∧fr 10 = .p r'2 0∧fr 11 = .p r'3 0∧fr 24 = v'5∧fr 25 = .n (x2.length:Int)∧fr 26 = .n x4∧fr 38 = (V.cut v'5 (x4 + 1:Int).toNat (x2).length)∧fr 39 = .n ((x2.drop (x4 + 1:Int).toNat).length:Int)∧fr 40 = .n x6∧Own B h k [ZbF r'1 [v'1,v'2,v'3,v'4],eSl ZM v'1 x.X,eSl ZM v'2 x.Y,eSl eV v'3 vs'1,ZbE ZM vs'1 x.Vert,eSl eV v'4 vs'2,ZbE ZM vs'2 x.Horz,eSl ZP v'5 x2,ZbF r'2 (ZP.c (gi x2 x4.toNat)),ZbF r'3 (zH.c x5)]) ho'2 (s:=0) ⟨q'2_1,q'2_5,q'2_7,rfl,rfl,q'2_24,q'2_25,q'2_26,rfl,rfl,rfl,(hO'11.pick [0,1,2,3,4,5,6,7,8,9] rfl (by decide))⟩ ?_
    rintro x6 q'4 k'13 ⟨q'4_1,q'4_5,q'4_7,q'4_10,q'4_11,q'4_24,q'4_25,q'4_26,q'4_38,q'4_39,q'4_40,hO'13⟩ o'4 hp
    dsimp only [Zab.s1] at hp
    refine Zh (Zk (Zg (zN (a:=x6) (b:=((x2.drop (x4 + 1:Int).toNat).length:Int)) q'4_40 q'4_39) (Zb (Za (Zh ?_)))))
    rcases Zp hp with ⟨b'2,hp⟩ | ⟨b'2,hp⟩
    ·refine zA (t:=(decide (x6 < ((x2.drop (x4 + 1:Int).toNat).length:Int)))) rfl b'2 ?_
     refine zD (Za (Zh (Zaq (Zh (Zk ?_)))))
     obtain ⟨c'4,hp⟩:=Zj hp
     refine Zg (zf (E:=ZP) (z:=x6) (Sl.cutF (hO'13.sl 7 rfl) c'3:Sl ZP k'13 (V.cut v'5 (x4 + 1:Int).toNat (x2).length) (x2.drop (x4 + 1:Int).toNat)) q'4_38 q'4_40 c'4) (Zg (Zd5 (E:=ZP) (Sl.cutF (hO'13.sl 7 rfl) c'3:Sl ZP k'13 (V.cut v'5 (x4 + 1:Int).toNat (x2).length) (x2.drop (x4 + 1:Int).toNat)) rfl (Zi c'4)) (zQ (hO'13.alloc (cs:=ZP.c (⟨false,0⟩:Zai)) hO'13.fr) ?_))
     rintro _ k'14 ⟨r'4,rfl,n'4,f'7,hW⟩
     have hO'14:=hW
     refine zQ (hO'14.stb (ws:=ZP.c (gi (x2.drop (x4 + 1:Int).toNat) x6.toNat)) (cs':=ZP.c (gi (x2.drop (x4 + 1:Int).toNat) x6.toNat)) (v:=.ag (ZP.c (gi (x2.drop (x4 + 1:Int).toNat) x6.toNat))) 10 rfl rfl rfl rfl ⟨rfl,Nat.le_of_ble_eq_true rfl,rfl⟩ rfl) ?_
     rintro _ k'15 ⟨rfl,f'8,m'4,hW⟩
     have hO'15:=hW
     refine Zb (Za (Zh (Zfi ?_)))
     have hW:=hO'15.bump 20
     have fr'1:=Fresh.start k'15 20
     have nb'1:∀ {i:Nat},h.n≤k'15.n + i:=Nat.le_trans hO'15.n (Nat.le_add_right _ _)
     have hO'16:=hW
     refine z9 (Zb7 (cs:=(zH.c x5)) (ws:=zH.c x5) (hO'16.box 9 rfl) q'4_11 rfl) (z9 (Zb7 (cs:=[v'1,v'2,v'3,v'4]) (ws:=[v'1,v'2,v'3,v'4]) (hO'16.box 0 rfl) q'4_5 rfl) (z9 (Zb7 (cs:=(ZP.c (gi (x2.drop (x4 + 1:Int).toNat) x6.toNat))) (ws:=ZP.c (gi (x2.drop (x4 + 1:Int).toNat) x6.toNat)) (hO'16.box 10 rfl) rfl rfl) (ZaS v_at_ q'4_1 ?_)))
     obtain ⟨x7,hx'4,hp⟩:=Zq hp
     obtain ⟨u'4,k'17,ca'4,rfl,hW'4⟩:=Zch.ok (h:=(k'15.bump 20))  (hO'16.sl 1 rfl) (hO'16.sl 2 rfl) (hO'16.sl 3 rfl) (hO'16.allLen 4 rfl:(vs'1).length = (x.Vert).length) (fun j hj=>hO'16.inn 4 rfl hj) (hO'16.sl 5 rfl) (hO'16.allLen 6 rfl:(vs'2).length = (x.Horz).length) (fun j hj=>hO'16.inn 6 rfl hj) (hO'16.rd0 s_at_.rd) hx'4
     refine Zgf (id:=231) (caps:=[]) rfl (Zu (v:=.ag [v'1,v'2,v'3,v'4]) rfl (Zu (v:=.ag (ZP.c (gi (x2.drop (x4 + 1:Int).toNat) x6.toNat))) rfl (Zu (v:=v_at_) rfl zx))) ca'4 ?_
     have fr'2:=fr'1.call hW'4
     have hO'17:=hO'16.call hW'4 rfl
     obtain ⟨x8,hx'5,hp⟩:=Zq hp
     obtain ⟨u'5,k'18,ca'5,rfl,hW'5⟩:=Zci.ok (h:=k'17)   hx'5
     refine Zgf (id:=186) (caps:=[]) rfl (Zu (v:=.ag (zH.c x5)) rfl (Zu (v:=.ag (zH.c x7)) rfl zx)) ca'5 ?_
     have fr'3:=fr'2.call hW'5
     have hO'18:=hO'17.call hW'5 rfl
     refine z9 (Zc3 (t:=x8) rfl) (ZaS (.b (!x8)) rfl ?_)
     rcases Zp hp with ⟨b'3,hp⟩ | ⟨b'3,hp⟩
     ·skip
      refine Zcr rfl b'3 (z9 (Zb7 (cs:=[v'1,v'2,v'3,v'4]) (ws:=[v'1,v'2,v'3,v'4]) (hO'18.box 0 rfl) q'4_5 rfl) (Zcr rfl b'3 (z9 (ZaL (r:=r'2) (o:=0) (o':=0) q'4_10 rfl) (Zcr rfl b'3 (z9 (Zac (cs:=(ZP.c (gi x2 x4.toNat))) (v:=.b ((gi x2 x4.toNat).Vertical)) (hO'18.box 8 rfl) rfl rfl) (Zcr rfl b'3 (z9 (ZaL (r:=r'2) (o:=0) (o':=1) q'4_10 rfl) ?_)))))))
      refine Zcr rfl b'3 (z9 (Zac (cs:=(ZP.c (gi x2 x4.toNat))) (v:=.n ((gi x2 x4.toNat).Place)) (hO'18.box 8 rfl) rfl rfl) (Zcr rfl b'3 (z9 (ZaL (r:=r'4) (o:=0) (o':=0) rfl rfl) (Zcr rfl b'3 (z9 (Zac (cs:=(ZP.c (gi (x2.drop (x4 + 1:Int).toNat) x6.toNat))) (v:=.b ((gi (x2.drop (x4 + 1:Int).toNat) x6.toNat).Vertical)) (hO'18.box 10 rfl) rfl rfl) (Zcr rfl b'3 (z9 (ZaL (r:=r'4) (o:=0) (o':=1) rfl rfl) ?_)))))))
      refine Zcr rfl b'3 (z9 (Zac (cs:=(ZP.c (gi (x2.drop (x4 + 1:Int).toNat) x6.toNat))) (v:=.n ((gi (x2.drop (x4 + 1:Int).toNat) x6.toNat).Place)) (hO'18.box 10 rfl) rfl rfl) (Zcr rfl b'3 ?_))
      obtain ⟨x9,hx'6,hp⟩:=Zq hp
      obtain ⟨u'6,k'19,ca'6,rfl,hW'6⟩:=Zbb.ok (h:=k'18)  (hO'18.sl 1 rfl) (hO'18.sl 2 rfl) (hO'18.sl 3 rfl) (hO'18.allLen 4 rfl:(vs'1).length = (x.Vert).length) (fun j hj=>hO'18.inn 4 rfl hj) (hO'18.sl 5 rfl) (hO'18.allLen 6 rfl:(vs'2).length = (x.Horz).length) (fun j hj=>hO'18.inn 6 rfl hj) hx'6
      refine Zgf (id:=123) (caps:=[]) rfl (Zu (v:=.ag [v'1,v'2,v'3,v'4]) rfl (Zu (v:=.b ((gi x2 x4.toNat).Vertical)) rfl (Zu (v:=.n ((gi x2 x4.toNat).Place)) rfl (Zu (v:=.b ((gi (x2.drop (x4 + 1:Int).toNat) x6.toNat).Vertical)) rfl (Zu (v:=.n ((gi (x2.drop (x4 + 1:Int).toNat) x6.toNat).Place)) rfl zx))))) ca'6 ?_
      have fr'4:=fr'3.call hW'6
      have hO'19:=hO'18.call hW'6 rfl
      refine Zcr rfl b'3 (z9 (Zc3 (t:=x9) rfl) (z9 (zr (t:=(!x8)) (v:=.b (!x9)) rfl b'3 rfl) (Zcu ?_)))
      refine And.intro ?_ ?_
      ·intro q hq
       simp only [List.mem_cons,List.not_mem_nil,or_false] at hq
       rcases hq with rfl | rfl | rfl | rfl | rfl | rfl | rfl | rfl | rfl | rfl | rfl | rfl | rfl | rfl
       ·refine ZaF ?_ ?_
        ·exact (fun h=>nomatch h)
        ·exact (fun h=>nomatch h)
       ·refine ZaF ?_ ?_
        ·exact (fun h=>nomatch h)
        ·exact (fun h=>nomatch h)
       ·refine ZaF ?_ ?_
        ·exact (fun h=>nomatch h)
        ·exact (fun h=>nomatch h)
       ·refine ZjO rfl rfl ?_
        ·exact (fun r hm hc=>hc (hW'4.base r (Nat.lt_of_lt_of_le (hO'15.ltAt 9 rfl _ (tch (v:=V.p r'3 0) (ZcH hm) q'4_11)) (Nat.le_trans (Nat.le_add_right _ _) fr'1.n))))
       ·refine ZaF ?_ ?_
        ·exact (fun h=>nomatch h)
        ·exact (fun h=>nomatch h)
       ·refine ZaF ?_ ?_
        ·exact (fun h=>nomatch h)
        ·exact (fun h=>nomatch h)
       ·refine ZaF ?_ ?_
        ·exact (fun h=>nomatch h)
        ·exact (fun h=>nomatch h)
       ·refine ZaF ?_ ?_
        ·exact (fun h=>nomatch h)
        ·exact (fun h=>nomatch h)
       ·refine ZaF ?_ ?_
        ·exact (fun h=>nomatch h)
        ·exact (fun h=>nomatch h)
       ·refine ZaF ?_ ?_
        ·exact (fun h=>nomatch h)
        ·exact (fun h=>nomatch h)
       ·refine ZaF ?_ ?_
        ·exact (fun h=>nomatch h)
        ·exact (fun h=>nomatch h)
       ·refine ZaF ?_ ?_
        ·exact (fun h=>nomatch h)
        ·exact (fun h=>nomatch h)
       ·refine ZaF ?_ ?_
        ·exact (fun h=>nomatch h)
        ·exact (fun h=>nomatch h)
       ·refine ZaF ?_ ?_
        ·exact (fun h=>nomatch h)
        ·exact (fun h=>nomatch h)
      refine Za ?_
      rcases Zp hp with ⟨b'4,hp⟩ | ⟨b'4,hp⟩
      ·refine zA (t:=(!x9)) rfl b'4 ?_
       refine Zh (Zk (Zd (.b true) rfl (Zb (Za (Zad (ZaP (zk ?_)))))))
       cases hp
       refine (Or.inr ⟨.inr (),rfl,(fun h=>nomatch h),(fun he=>?_)⟩)
       subst he; exact ⟨rfl,rfl,(hO'19.pick [] rfl (by decide))⟩
      ·refine z7 (t:=(!x9)) rfl b'4 ?_
       refine zD (Zan (Za (Zk ?_)))
       obtain ⟨c'5,hp⟩:=Zj hp
       refine Zg (z6 (a:=x6) (b:=1) q'4_40 rfl c'5) (Zd (.n (x6 + 1)) rfl (Zb ?_))
       cases hp
       exact (Or.inl ⟨x6 + 1,rfl,rfl,q'4_1,q'4_5,q'4_7,q'4_10,q'4_11,q'4_24,q'4_25,q'4_26,q'4_38,q'4_39,rfl,(hO'19.pick [0,1,2,3,4,5,6,7,8,9] rfl (by decide))⟩)
     ·skip
      refine ZaK rfl b'3 (ZaK rfl b'3 (ZaK rfl b'3 (ZaK rfl b'3 (ZaK rfl b'3 (ZaK rfl b'3 (ZaK rfl b'3 (ZaK rfl b'3 ?_)))))))
      refine ZaK rfl b'3 (ZaK rfl b'3 (ZaK rfl b'3 (z9 (zm (t:=(!x8)) (v:=.b false) rfl b'3 rfl) (Zcu ?_))))
      refine And.intro ?_ ?_
      ·intro q hq
       simp only [List.mem_cons,List.not_mem_nil,or_false] at hq
       rcases hq with rfl | rfl | rfl | rfl | rfl | rfl | rfl | rfl | rfl | rfl | rfl | rfl | rfl | rfl
       ·refine ZaF ?_ ?_
        ·exact (fun h=>nomatch h)
        ·exact (fun h=>nomatch h)
       ·refine ZaF ?_ ?_
        ·exact (fun h=>nomatch h)
        ·exact (fun h=>nomatch h)
       ·refine ZaF ?_ ?_
        ·exact (fun h=>nomatch h)
        ·exact (fun h=>nomatch h)
       ·refine ZjO rfl rfl ?_
        ·exact (fun r hm hc=>hc (hW'4.base r (Nat.lt_of_lt_of_le (hO'15.ltAt 9 rfl _ (tch (v:=V.p r'3 0) (ZcH hm) q'4_11)) (Nat.le_trans (Nat.le_add_right _ _) fr'1.n))))
       ·exact Ze7
       ·exact Ze7
       ·exact Ze7
       ·exact Ze7
       ·exact Ze7
       ·exact Ze7
       ·exact Ze7
       ·exact Ze7
       ·exact Ze7
       ·exact Ze7
      refine Za (z7 (t:=false) rfl rfl (zD (Zan (Za (Zk ?_)))))
      obtain ⟨c'6,hp⟩:=Zj hp
      refine Zg (z6 (a:=x6) (b:=1) q'4_40 rfl c'6) (Zd (.n (x6 + 1)) rfl (Zb ?_))
      cases hp
      exact (Or.inl ⟨x6 + 1,rfl,rfl,q'4_1,q'4_5,q'4_7,q'4_10,q'4_11,q'4_24,q'4_25,q'4_26,q'4_38,q'4_39,rfl,(hO'18.pick [0,1,2,3,4,5,6,7,8,9] rfl (by decide))⟩)
    ·refine z7 (t:=(decide (x6 < ((x2.drop (x4 + 1:Int).toNat).length:Int)))) rfl b'2 ?_
     refine Zbv (zY ?_)
     cases hp
     refine (Or.inr ⟨.inl (),rfl,(fun h=>nomatch h),(fun he=>?_)⟩)
     subst he; exact ⟨rfl,q'4_1,q'4_5,q'4_7,q'4_24,q'4_25,q'4_26,(hO'13.pick [0,1,2,3,4,5,6,7] rfl (by decide))⟩
   intro e'2 q'3 k'12 hJ'2
   rcases o'3 with _ | _
   ·obtain ⟨rfl,q'3_1,q'3_5,q'3_7,q'3_24,q'3_25,q'3_26,hO'12⟩:=hJ'2
    refine ZaD (Zan (Za (Zk (Zg (z6 (a:=x4) (b:=1) q'3_26 rfl c'2) (Zd (.n (x4 + 1)) rfl (Zb ?_))))))
    cases hp
    exact (Or.inl ⟨x4 + 1,rfl,rfl,q'3_1,q'3_5,q'3_7,q'3_24,q'3_25,rfl,(hO'12.pick [0,1,2,3,4,5,6,7] rfl (by decide))⟩)
   ·obtain ⟨rfl,q'3_4,hO'12⟩:=hJ'2
    refine ZaP (ZaP (zk ?_))
    cases hp
    refine (Or.inr ⟨.inr (),rfl,(fun h=>nomatch h),(fun he=>?_)⟩)
    subst he; exact ⟨rfl,q'3_4,(hO'12.pick [] rfl (by decide))⟩
  ·refine z7 (t:=(decide (x4 < (x2.length:Int)))) rfl b'1 ?_
   refine Zbv (zY ?_)
   cases hp
   refine (Or.inr ⟨.inl (),rfl,(fun h=>nomatch h),(fun he=>?_)⟩)
   subst he; exact ⟨rfl,(hO'6.pick [] rfl (by decide))⟩
 intro e'1 q'1 k'5 hJ'1
 rcases o'1 with _ | _
 ·obtain ⟨rfl,hO'5⟩:=hJ'1
  refine ZaD (Za (Zh (Zk (Zd (.b false) rfl (Zb (Za (Zad ?_)))))))
  refine zu (zG (n:=4) (v:=.b false) rfl ZN) ?_
  cases hp
  exact ⟨rfl,(hO'5.pick [] rfl (by decide))⟩
 ·obtain ⟨rfl,q'1_4,hO'5⟩:=hJ'1
  refine ZaP (zk (zu (zG (n:=4) (v:=.b true) q'1_4 ZN) ?_))
  cases hp
  exact ⟨rfl,(hO'5.pick [] rfl (by decide))⟩

theorem Zb8.ok {h:Hp} {cells:List Ze} {at_:List Zf} {v_cells:V} {v_at_:V} (s_cells:Sl Zn h v_cells cells) (s_at_:Sl Zc h v_at_ at_) {r:Int} (hp:Zb8 cells at_ = some r) :
  ∃ u k',Is G 208 [v_cells,v_at_] h u k'∧V.n r = u∧Own (fun r=>r < h.n) h k' []:=by
 refine WC.is (ZaM Zfa ?_)
 unfold Zb8 at hp
 let B:Nat→Prop:=(fun r=>r < h.n)
 have hO:Own B h h []:=Own.start0 h
 refine Zh (Zk (Zd (.n 0) rfl (Zb (Za (Zh (Zh (Zk ?_)))))))
 refine Zd v_cells rfl ?_
 obtain ⟨x,hx'1,hp⟩:=Zq hp
 obtain ⟨u'1,k'1,ca'1,rfl,hW'1⟩:=Zcx.ok (h:=h)  (hO.rd0 s_cells.rd) hx'1
 refine Zbd (id:=176) (caps:=[]) rfl (Zu (v:=v_cells) rfl zx) ca'1 ?_
 have hO'1:=hO.call hW'1 rfl
 refine Zd (.n x) rfl (Zb (Za (Zh (Zk (Zd (.n x) rfl (Zg (Zck (a:=x) (b:=0) rfl rfl) (Zb ?_)))))))
 refine Za ?_
 rcases Zp hp with ⟨b'1,hp⟩ | ⟨b'1,hp⟩
 ·refine zA (t:=(!(decide (x = 0)))) rfl b'1 ?_
  refine Zh (Zk (Zd (.n x) rfl (Zd (.n x) rfl (Zb (Za (Zad (zk ?_)))))))
  refine zu (zG (n:=4) (v:=.n x) rfl ZN) ?_
  cases hp
  exact ⟨rfl,(hO'1.pick [] rfl (by decide))⟩
 ·refine z7 (t:=(!(decide (x = 0)))) rfl b'1 ?_
  refine zD (Za (Zh (Zh (Zk (Zd v_cells rfl (Zd v_at_ rfl ?_))))))
  obtain ⟨⟨x1,x2⟩,hx'2,hp⟩:=Zq hp
  obtain ⟨u'2,k'2,ca'2,rfl,hW'2⟩:=Zam.ok (h:=k'1)  (hO'1.rd0 s_cells.rd) (hO'1.rd0 s_at_.rd) hx'2
  refine Zbd (id:=133) (caps:=[]) rfl (Zu (v:=v_cells) rfl (Zu (v:=v_at_) rfl zx)) ca'2 ?_
  have hO'2:=hO'1.call hW'2 rfl
  refine Zd (.tu [.n x1,.n x2]) rfl (Zg (Zb6 (vs:=[.n x1,.n x2]) (v:=.n x1) rfl rfl) (Zg (Zb6 (vs:=[.n x1,.n x2]) (v:=.n x2) rfl rfl) (Zd (.n x1) rfl (Zd (.n x2) rfl (Zb (Za (Zh ?_)))))))
  refine Zk (Zd (.n x2) rfl (Zg (Zck (a:=x2) (b:=0) rfl rfl) (Zb (Za ?_))))
  rcases Zp hp with ⟨b'2,hp⟩ | ⟨b'2,hp⟩
  ·refine zA (t:=(!(decide (x2 = 0)))) rfl b'2 ?_
   refine Zh (Zk (Zd (.n x2) rfl (Zd (.n x2) rfl (Zb (Za (Zad (zk ?_)))))))
   refine zu (zG (n:=4) (v:=.n x2) rfl ZN) ?_
   cases hp
   exact ⟨rfl,(hO'2.pick [] rfl (by decide))⟩
  ·refine z7 (t:=(!(decide (x2 = 0)))) rfl b'2 ?_
   refine zD (Za (Zh (Zh (Zk (Zd v_cells rfl (Zd v_at_ rfl ?_))))))
   obtain ⟨x3,hx'3,hp⟩:=Zq hp
   obtain ⟨u'3,k'3,ca'3,rfl,hW'3⟩:=Zab.ok (h:=k'2)  (hO'2.rd0 s_cells.rd) (hO'2.rd0 s_at_.rd) hx'3
   refine Zbd (id:=225) (caps:=[]) rfl (Zu (v:=v_cells) rfl (Zu (v:=v_at_) rfl zx)) ca'3 ?_
   have hO'3:=hO'2.call hW'3 rfl
   refine Zb (Za ?_)
   rcases Zp hp with ⟨b'3,hp⟩ | ⟨b'3,hp⟩
   ·refine zA (t:=x3) rfl b'3 ?_
    refine Zh (Zk (Zd (.n 14) rfl (Zb (Za (Zad (zk (zu (zG (n:=4) (v:=.n 14) rfl ZN) ?_)))))))
    cases hp
    exact ⟨rfl,(hO'3.pick [] rfl (by decide))⟩
   ·refine z7 (t:=x3) rfl b'3 ?_
    refine zD (Za (Zh (Zk (Zd (.n 0) rfl (Zb (Za (Zad ?_)))))))
    refine zu (zG (n:=4) (v:=.n 0) rfl ZN) ?_
    cases hp
    exact ⟨rfl,(hO'3.pick [] rfl (by decide))⟩

theorem z5.ok {h:Hp} {l:List Ze} {v_l:V} (s_l:Sl Zn h v_l l) {r:Int} (hp:z5 l = some r) :
  ∃ u k',Is G 34 [v_l] h u k'∧V.n r = u∧Own (fun r=>r < h.n) h k' []:=by
 refine WC.is (ZaM Zdw ?_)
 unfold z5 at hp
 let B:Nat→Prop:=(fun r=>r < h.n)
 have hO:Own B h h []:=Own.start0 h
 refine Zh (Zk (Zd (.n 0) rfl (Zb (Za (Zh (Zh (Zk ?_)))))))
 refine Zd v_l rfl (Zg (Zau (hO.rd0 s_l.rd) rfl) (Zg (ZdP (a:=(l.length:Int)) (b:=4096) rfl rfl) (Zb (Za ?_))))
 rcases Zp hp with ⟨b'1,hp⟩ | ⟨b'1,hp⟩
 ·refine zA (t:=(decide (4096 < (l.length:Int)))) rfl b'1 ?_
  refine Zh (Zk (Zd (.n 6) rfl (Zb (Za (Zad (zk (zu (zG (n:=2) (v:=.n 6) rfl ZN) ?_)))))))
  cases hp
  exact ⟨rfl,(hO.pick [] rfl (by decide))⟩
 ·refine z7 (t:=(decide (4096 < (l.length:Int)))) rfl b'1 ?_
  refine zD (Za (Zh (Zh (Zk (Zd (.n 0) rfl (Zb (Za ?_)))))))
  refine Zaq ?_
  obtain ⟨o'1,ho'1,hp⟩:=Zq hp
  refine W.mono (Q:=fun e fr k=>match (generalizing:=false) o'1 with
    | .inl _=>e = (.exit 0)∧Own B h k []
    | .inr x=>e = .ret∧fr 2 = .n x∧Own B h k []) ?_ ?_
  ·clear hp
   refine zP (fun st fr k=>match st with | v=>fr 0 = v_l∧fr 3 = .n v∧Own B h k []) ho'1 (s:=0) ⟨rfl,rfl,(hO.pick [] rfl (by decide))⟩ ?_
   rintro v q'2 k'2 ⟨q'2_0,q'2_3,hO'2⟩ o'2 hp
   dsimp only [z5.s0] at hp
   refine Zh (Zh (Zk (Zd (.n v) q'2_3 (Zd v_l q'2_0 (Zg (Zau (hO'2.rd0 s_l.rd) rfl) (Zg (zN (a:=v) (b:=(l.length:Int)) rfl rfl) (Zb ?_)))))))
   refine Za ?_
   rcases Zp hp with ⟨b'2,hp⟩ | ⟨b'2,hp⟩
   ·refine zA (t:=(decide (v < (l.length:Int)))) rfl b'2 ?_
    refine zD (Za (Zh (Zaq (Zh (Zk (Zd (.n 0) rfl (Zb ?_)))))))
    refine Za (Zaq ?_)
    obtain ⟨o'3,ho'2,hp⟩:=Zq hp
    refine W.mono (Q:=fun e fr k=>match (generalizing:=false) o'3 with
      | .inl _=>e = (.exit 2)∧fr 0 = v_l∧fr 3 = .n v∧Own B h k []
      | .inr x1=>e = .ret∧fr 2 = .n x1∧Own B h k []) ?_ ?_
    ·clear hp
     refine zP (fun st fr k=>match st with | d=>fr 0 = v_l∧fr 3 = .n v∧fr 4 = .n d∧Own B h k []) ho'2 (s:=0) ⟨q'2_0,q'2_3,rfl,(hO'2.pick [] rfl (by decide))⟩ ?_
     rintro d q'4 k'4 ⟨q'4_0,q'4_3,q'4_4,hO'4⟩ o'4 hp
     dsimp only [z5.s1] at hp
     refine Zh (Zh (Zk (Zd (.n d) q'4_4 (Zg (zN (a:=d) (b:=4) rfl rfl) (Zb (Za ?_))))))
     rcases Zp hp with ⟨b'3,hp⟩ | ⟨b'3,hp⟩
     ·refine zA (t:=(decide (d < 4))) rfl b'3 ?_
      refine zD (Za (Zh (Zaq (Zh (Zk (Zd v_l q'4_0 (Zd (.n v) q'4_3 ?_)))))))
      refine Zd (.n d) q'4_4 ?_
      obtain ⟨c'1,hp⟩:=Zj hp
      refine Zg (zf (E:=Zn) (z:=v) (hO'4.rd0 s_l.rd) rfl rfl c'1) (Zg (Za1 (off':=0) (off2:=0) (hO'4.rd0 s_l.rd) (Zi c'1) rfl rfl) ?_)
      obtain ⟨c'2,hp⟩:=Zj hp
      refine Zg (ZbC (off:=0) (off2:=(0 + d.toNat * 1)) (z:=d) (hO'4.rd0 s_l.rd) (Zi c'1) rfl rfl c'2 rfl) (Zg (zB (w:=.n (((gi l v.toNat).Next).get d)) (hO'4.rd0 s_l.rd) rfl (Zi c'1) (zO c'2)) (Zd (.n (((gi l v.toNat).Next).get d)) rfl (Zb (Za (Zh (Zk (Zd v_l q'4_0 ?_)))))))
      refine Zd (.n v) q'4_3 (Zd (.n d) q'4_4 (Zg (zf (E:=Zn) (z:=v) (hO'4.rd0 s_l.rd) rfl rfl c'1) (Zg (Za1 (off':=0) (off2:=4) (hO'4.rd0 s_l.rd) (Zi c'1) rfl rfl) (Zg (ZbC (off:=4) (off2:=(4 + d.toNat * 1)) (z:=d) (hO'4.rd0 s_l.rd) (Zi c'1) rfl rfl c'2 rfl) (Zg (zB (w:=.n (((gi l v.toNat).Owner).get d)) (hO'4.rd0 s_l.rd) rfl (Zi c'1) (Zce c'2)) (Zd (.n (((gi l v.toNat).Owner).get d)) rfl (Zb ?_)))))))
      refine Za (Zh (Zh (Zk (Zd (.n (((gi l v.toNat).Next).get d)) rfl (Zg (ZbQ (a:=(((gi l v.toNat).Next).get d)) (b:=(-1)) rfl rfl) (Zb (Za ?_)))))))
      rcases Zp hp with ⟨b'4,hp⟩ | ⟨b'4,hp⟩
      ·refine zA (t:=(decide (((gi l v.toNat).Next).get d = (-1)))) rfl b'4 ?_
       refine Zh (Zh (Zk (Zd (.n (((gi l v.toNat).Owner).get d)) rfl (Zg (Zck (a:=(((gi l v.toNat).Owner).get d)) (b:=0) rfl rfl) (Zb (Za ?_))))))
       rcases Zp hp with ⟨b'5,hp⟩ | ⟨b'5,hp⟩
       ·refine zA (t:=(!(decide (((gi l v.toNat).Owner).get d = 0)))) rfl b'5 ?_
        refine Zh (Zk (Zd (.n 9) rfl (Zb (Za (Zad (zk (zk ?_)))))))
        refine ZaP (zk ?_)
        cases hp
        refine (Or.inr ⟨.inr 9,rfl,(fun h=>nomatch h),(fun he=>?_)⟩)
        subst he; exact ⟨rfl,rfl,(hO'4.pick [] rfl (by decide))⟩
       ·refine z7 (t:=(!(decide (((gi l v.toNat).Owner).get d = 0)))) rfl b'5 ?_
        refine zD (Za (Zbv (zY (ZaD (Za (Zk (Zd (.n d) q'4_4 ?_)))))))
        obtain ⟨c'3,hp⟩:=Zj hp
        refine Zg (z6 (a:=d) (b:=1) rfl rfl c'3) (Zd (.n (d + 1)) rfl (Zb ?_))
        cases hp
        exact (Or.inl ⟨d + 1,rfl,rfl,q'4_0,q'4_3,rfl,(hO'4.pick [] rfl (by decide))⟩)
      ·refine z7 (t:=(decide (((gi l v.toNat).Next).get d = (-1)))) rfl b'4 ?_
       refine zD (Za (Zh (Zh (Zk (Zd (.n (((gi l v.toNat).Next).get d)) rfl (Zg (zN (a:=(((gi l v.toNat).Next).get d)) (b:=0) rfl rfl) (Zd (.b (decide ((((gi l v.toNat).Next).get d) < 0))) rfl ?_)))))))
       refine Za0 5 (fun fr' k'=>k'4 = k'∧fr' 45 = .b ((decide ((((gi l v.toNat).Next).get d) < 0)) || (decide ((l.length:Int)≤(((gi l v.toNat).Next).get d))))∧fr' 0 = v_l∧fr' 3 = .n v∧fr' 4 = .n d∧fr' 5 = .n (((gi l v.toNat).Next).get d)∧fr' 6 = .n (((gi l v.toNat).Owner).get d)) ?_ ?_
       ·rcases bc (decide ((((gi l v.toNat).Next).get d) < 0)) with b'6 | b'6
        ·skip
         refine Zv rfl b'6 (Zv rfl b'6 (Zv rfl b'6 (Zv rfl b'6 (Zg (zr (t:=(decide ((((gi l v.toNat).Next).get d) < 0))) (v:=.b ((decide ((((gi l v.toNat).Next).get d) < 0)) || (decide ((l.length:Int)≤(((gi l v.toNat).Next).get d))))) rfl b'6 (Eq.trans (b:=V.b true) rfl (Zbx b'6))) (Zb ?_)))))
         exact ⟨rfl,rfl,q'4_0,q'4_3,q'4_4,rfl,rfl⟩
        ·skip
         refine Z8 rfl b'6 (Zd (.n (((gi l v.toNat).Next).get d)) rfl (Z8 rfl b'6 (Zd v_l q'4_0 (Z8 rfl b'6 (Zg (Zau (hO'4.rd0 s_l.rd) rfl) (Z8 rfl b'6 (Zg (Zcs (a:=(((gi l v.toNat).Next).get d)) (b:=(l.length:Int)) rfl rfl) ?_)))))))
         refine Zg (zm (t:=(decide ((((gi l v.toNat).Next).get d) < 0))) (v:=.b ((decide ((((gi l v.toNat).Next).get d) < 0)) || (decide ((l.length:Int)≤(((gi l v.toNat).Next).get d))))) rfl b'6 (Eq.trans (b:=V.b (decide ((l.length:Int)≤(((gi l v.toNat).Next).get d)))) rfl (Zca b'6))) (Zb ?_)
         exact ⟨rfl,rfl,q'4_0,q'4_3,q'4_4,rfl,rfl⟩
       rintro frg'1 _ ⟨rfl,g'1_45,g'1_0,g'1_3,g'1_4,g'1_5,g'1_6⟩
       refine Zd (.b ((decide ((((gi l v.toNat).Next).get d) < 0)) || (decide ((l.length:Int)≤(((gi l v.toNat).Next).get d))))) g'1_45 ?_
       refine Za0 4 (fun fr' k'=>k'4 = k'∧fr' 50 = .b (((decide ((((gi l v.toNat).Next).get d) < 0)) || (decide ((l.length:Int)≤(((gi l v.toNat).Next).get d)))) || (decide (((gi l v.toNat).Next).get d = v)))∧fr' 0 = v_l∧fr' 3 = .n v∧fr' 4 = .n d∧fr' 5 = .n (((gi l v.toNat).Next).get d)∧fr' 6 = .n (((gi l v.toNat).Owner).get d)) ?_ ?_
       ·rcases bc ((decide ((((gi l v.toNat).Next).get d) < 0)) || (decide ((l.length:Int)≤(((gi l v.toNat).Next).get d)))) with b'7 | b'7
        ·skip
         refine Zv rfl b'7 (Zv rfl b'7 (Zv rfl b'7 (Zg (zr (t:=((decide ((((gi l v.toNat).Next).get d) < 0)) || (decide ((l.length:Int)≤(((gi l v.toNat).Next).get d))))) (v:=.b (((decide ((((gi l v.toNat).Next).get d) < 0)) || (decide ((l.length:Int)≤(((gi l v.toNat).Next).get d)))) || (decide (((gi l v.toNat).Next).get d = v)))) rfl b'7 (Eq.trans (b:=V.b true) rfl (Zbx b'7))) (Zb ?_))))
         exact ⟨rfl,rfl,g'1_0,g'1_3,g'1_4,g'1_5,g'1_6⟩
        ·skip
         refine Z8 rfl b'7 (Zd (.n (((gi l v.toNat).Next).get d)) g'1_5 (Z8 rfl b'7 (Zd (.n v) g'1_3 (Z8 rfl b'7 (Zg (ZbQ (a:=(((gi l v.toNat).Next).get d)) (b:=v) rfl rfl) (Zg (zm (t:=((decide ((((gi l v.toNat).Next).get d) < 0)) || (decide ((l.length:Int)≤(((gi l v.toNat).Next).get d))))) (v:=.b (((decide ((((gi l v.toNat).Next).get d) < 0)) || (decide ((l.length:Int)≤(((gi l v.toNat).Next).get d)))) || (decide (((gi l v.toNat).Next).get d = v)))) rfl b'7 (Eq.trans (b:=V.b (decide (((gi l v.toNat).Next).get d = v))) rfl (Zca b'7))) (Zb ?_)))))))
         exact ⟨rfl,rfl,g'1_0,g'1_3,g'1_4,g'1_5,g'1_6⟩
       rintro frg'2 _ ⟨rfl,g'2_50,g'2_0,g'2_3,g'2_4,g'2_5,g'2_6⟩
       refine Zb (Za ?_)
       rcases Zp hp with ⟨b'8,hp⟩ | ⟨b'8,hp⟩
       ·refine zA (t:=(((decide ((((gi l v.toNat).Next).get d) < 0)) || (decide ((l.length:Int)≤(((gi l v.toNat).Next).get d)))) || (decide (((gi l v.toNat).Next).get d = v)))) g'2_50 b'8 ?_
        refine Zh (Zk (Zd (.n 3) rfl (Zb (Za (Zad (zk (ZaP ?_)))))))
        refine zk ?_
        cases hp
        refine (Or.inr ⟨.inr 3,rfl,(fun h=>nomatch h),(fun he=>?_)⟩)
        subst he; exact ⟨rfl,rfl,(hO'4.pick [] rfl (by decide))⟩
       ·refine z7 (t:=(((decide ((((gi l v.toNat).Next).get d) < 0)) || (decide ((l.length:Int)≤(((gi l v.toNat).Next).get d)))) || (decide (((gi l v.toNat).Next).get d = v)))) g'2_50 b'8 ?_
        refine zD (Za (Zh (Zk (Zd v_l g'2_0 (Zd (.n (((gi l v.toNat).Next).get d)) g'2_5 (Zd (.n d) g'2_4 ?_))))))
        obtain ⟨c'4,hp⟩:=Zj hp
        refine Zg (z6 (a:=d) (b:=2) rfl rfl c'4) (Zg (ZcU (a:=(d + 2)) (b:=4) rfl rfl (by decide)) ?_)
        obtain ⟨c'5,hp⟩:=Zj hp
        refine Zg (zf (E:=Zn) (z:=(((gi l v.toNat).Next).get d)) (hO'4.rd0 s_l.rd) rfl rfl c'5) (Zg (Za1 (off':=0) (off2:=0) (hO'4.rd0 s_l.rd) (Zi c'5) rfl rfl) ?_)
        obtain ⟨c'6,hp⟩:=Zj hp
        refine Zg (ZbC (off:=0) (off2:=(0 + ((d + 2).tmod 4:Int).toNat * 1)) (z:=((d + 2).tmod 4)) (hO'4.rd0 s_l.rd) (Zi c'5) rfl rfl c'6 rfl) (Zg (zB (w:=.n (((gi l (((gi l v.toNat).Next).get d:Int).toNat).Next).get ((d + 2).tmod 4))) (hO'4.rd0 s_l.rd) rfl (Zi c'5) (zO c'6)) (Zd (.n v) g'2_3 (Zg (Zck (a:=(((gi l (((gi l v.toNat).Next).get d:Int).toNat).Next).get ((d + 2).tmod 4))) (b:=v) rfl rfl) (Zd (.b (!(decide (((gi l (((gi l v.toNat).Next).get d:Int).toNat).Next).get ((d + 2).tmod 4) = v)))) rfl ?_))))
        refine Za0 12 (fun fr' k'=>k'4 = k'∧fr' 74 = .b ((!(decide (((gi l (((gi l v.toNat).Next).get d:Int).toNat).Next).get ((d + 2).tmod 4) = v))) || (!(decide (((gi l (((gi l v.toNat).Next).get d:Int).toNat).Owner).get ((d + 2).tmod 4) = ((gi l v.toNat).Owner).get d))))∧fr' 0 = v_l∧fr' 3 = .n v∧fr' 4 = .n d∧fr' 6 = .n (((gi l v.toNat).Owner).get d)) ?_ ?_
        ·rcases bc (!(decide (((gi l (((gi l v.toNat).Next).get d:Int).toNat).Next).get ((d + 2).tmod 4) = v))) with b'9 | b'9
         ·skip
          refine Zv rfl b'9 (Zv rfl b'9 (Zv rfl b'9 (Zv rfl b'9 (Zv rfl b'9 (Zv rfl b'9 (Zv rfl b'9 (Zv rfl b'9 ?_)))))))
          refine Zv rfl b'9 (Zv rfl b'9 (Zv rfl b'9 (Zg (zr (t:=(!(decide (((gi l (((gi l v.toNat).Next).get d:Int).toNat).Next).get ((d + 2).tmod 4) = v)))) (v:=.b ((!(decide (((gi l (((gi l v.toNat).Next).get d:Int).toNat).Next).get ((d + 2).tmod 4) = v))) || (!(decide (((gi l (((gi l v.toNat).Next).get d:Int).toNat).Owner).get ((d + 2).tmod 4) = ((gi l v.toNat).Owner).get d))))) rfl b'9 (Eq.trans (b:=V.b true) rfl (Zbx b'9))) (Zb ?_))))
          exact ⟨rfl,rfl,g'2_0,g'2_3,g'2_4,g'2_6⟩
         ·skip
          refine Z8 rfl b'9 (Zd v_l g'2_0 (Z8 rfl b'9 (Zd (.n (((gi l v.toNat).Next).get d)) g'2_5 (Z8 rfl b'9 (Zd (.n d) g'2_4 (Z8 rfl b'9 (Zg (z6 (a:=d) (b:=2) rfl rfl c'4) ?_)))))))
          refine Z8 rfl b'9 (Zg (ZcU (a:=(d + 2)) (b:=4) rfl rfl (by decide)) (Z8 rfl b'9 (Zg (zf (E:=Zn) (z:=(((gi l v.toNat).Next).get d)) (hO'4.rd0 s_l.rd) rfl rfl c'5) (Z8 rfl b'9 (Zg (Za1 (off':=0) (off2:=4) (hO'4.rd0 s_l.rd) (Zi c'5) rfl rfl) (Z8 rfl b'9 (Zg (ZbC (off:=4) (off2:=(4 + ((d + 2).tmod 4:Int).toNat * 1)) (z:=((d + 2).tmod 4)) (hO'4.rd0 s_l.rd) (Zi c'5) rfl rfl c'6 rfl) ?_)))))))
          refine Z8 rfl b'9 (Zg (zB (w:=.n (((gi l (((gi l v.toNat).Next).get d:Int).toNat).Owner).get ((d + 2).tmod 4))) (hO'4.rd0 s_l.rd) rfl (Zi c'5) (Zce c'6)) (Z8 rfl b'9 (Zd (.n (((gi l v.toNat).Owner).get d)) g'2_6 (Z8 rfl b'9 (Zg (Zck (a:=(((gi l (((gi l v.toNat).Next).get d:Int).toNat).Owner).get ((d + 2).tmod 4))) (b:=(((gi l v.toNat).Owner).get d)) rfl rfl) (Zg (zm (t:=(!(decide (((gi l (((gi l v.toNat).Next).get d:Int).toNat).Next).get ((d + 2).tmod 4) = v)))) (v:=.b ((!(decide (((gi l (((gi l v.toNat).Next).get d:Int).toNat).Next).get ((d + 2).tmod 4) = v))) || (!(decide (((gi l (((gi l v.toNat).Next).get d:Int).toNat).Owner).get ((d + 2).tmod 4) = ((gi l v.toNat).Owner).get d))))) rfl b'9 (Eq.trans (b:=V.b (!(decide (((gi l (((gi l v.toNat).Next).get d:Int).toNat).Owner).get ((d + 2).tmod 4) = ((gi l v.toNat).Owner).get d)))) rfl (Zca b'9))) (Zb ?_)))))))
          exact ⟨rfl,rfl,g'2_0,g'2_3,g'2_4,g'2_6⟩
        rintro frg'3 _ ⟨rfl,g'3_74,g'3_0,g'3_3,g'3_4,g'3_6⟩
        refine Zd (.b ((!(decide (((gi l (((gi l v.toNat).Next).get d:Int).toNat).Next).get ((d + 2).tmod 4) = v))) || (!(decide (((gi l (((gi l v.toNat).Next).get d:Int).toNat).Owner).get ((d + 2).tmod 4) = ((gi l v.toNat).Owner).get d))))) g'3_74 ?_
        refine Za0 3 (fun fr' k'=>k'4 = k'∧fr' 78 = .b (((!(decide (((gi l (((gi l v.toNat).Next).get d:Int).toNat).Next).get ((d + 2).tmod 4) = v))) || (!(decide (((gi l (((gi l v.toNat).Next).get d:Int).toNat).Owner).get ((d + 2).tmod 4) = ((gi l v.toNat).Owner).get d)))) || (decide ((((gi l v.toNat).Owner).get d) < (-2))))∧fr' 0 = v_l∧fr' 3 = .n v∧fr' 4 = .n d) ?_ ?_
        ·rcases bc ((!(decide (((gi l (((gi l v.toNat).Next).get d:Int).toNat).Next).get ((d + 2).tmod 4) = v))) || (!(decide (((gi l (((gi l v.toNat).Next).get d:Int).toNat).Owner).get ((d + 2).tmod 4) = ((gi l v.toNat).Owner).get d)))) with b'10 | b'10
         ·skip
          refine Zv rfl b'10 (Zv rfl b'10 (Zg (zr (t:=((!(decide (((gi l (((gi l v.toNat).Next).get d:Int).toNat).Next).get ((d + 2).tmod 4) = v))) || (!(decide (((gi l (((gi l v.toNat).Next).get d:Int).toNat).Owner).get ((d + 2).tmod 4) = ((gi l v.toNat).Owner).get d))))) (v:=.b (((!(decide (((gi l (((gi l v.toNat).Next).get d:Int).toNat).Next).get ((d + 2).tmod 4) = v))) || (!(decide (((gi l (((gi l v.toNat).Next).get d:Int).toNat).Owner).get ((d + 2).tmod 4) = ((gi l v.toNat).Owner).get d)))) || (decide ((((gi l v.toNat).Owner).get d) < (-2))))) rfl b'10 (Eq.trans (b:=V.b true) rfl (Zbx b'10))) (Zb ?_)))
          exact ⟨rfl,rfl,g'3_0,g'3_3,g'3_4⟩
         ·skip
          refine Z8 rfl b'10 (Zd (.n (((gi l v.toNat).Owner).get d)) g'3_6 (Z8 rfl b'10 (Zg (zN (a:=(((gi l v.toNat).Owner).get d)) (b:=(-2)) rfl rfl) (Zg (zm (t:=((!(decide (((gi l (((gi l v.toNat).Next).get d:Int).toNat).Next).get ((d + 2).tmod 4) = v))) || (!(decide (((gi l (((gi l v.toNat).Next).get d:Int).toNat).Owner).get ((d + 2).tmod 4) = ((gi l v.toNat).Owner).get d))))) (v:=.b (((!(decide (((gi l (((gi l v.toNat).Next).get d:Int).toNat).Next).get ((d + 2).tmod 4) = v))) || (!(decide (((gi l (((gi l v.toNat).Next).get d:Int).toNat).Owner).get ((d + 2).tmod 4) = ((gi l v.toNat).Owner).get d)))) || (decide ((((gi l v.toNat).Owner).get d) < (-2))))) rfl b'10 (Eq.trans (b:=V.b (decide ((((gi l v.toNat).Owner).get d) < (-2)))) rfl (Zca b'10))) (Zb ?_)))))
          exact ⟨rfl,rfl,g'3_0,g'3_3,g'3_4⟩
        rintro frg'4 _ ⟨rfl,g'4_78,g'4_0,g'4_3,g'4_4⟩
        refine Zb (Za ?_)
        rcases Zp hp with ⟨b'11,hp⟩ | ⟨b'11,hp⟩
        ·refine zA (t:=(((!(decide (((gi l (((gi l v.toNat).Next).get d:Int).toNat).Next).get ((d + 2).tmod 4) = v))) || (!(decide (((gi l (((gi l v.toNat).Next).get d:Int).toNat).Owner).get ((d + 2).tmod 4) = ((gi l v.toNat).Owner).get d)))) || (decide ((((gi l v.toNat).Owner).get d) < (-2))))) g'4_78 b'11 ?_
         refine Zh (Zk (Zd (.n 9) rfl (Zb (Za (Zad (ZaP (zk ?_)))))))
         cases hp
         refine (Or.inr ⟨.inr 9,rfl,(fun h=>nomatch h),(fun he=>?_)⟩)
         subst he; exact ⟨rfl,rfl,(hO'4.pick [] rfl (by decide))⟩
        ·refine z7 (t:=(((!(decide (((gi l (((gi l v.toNat).Next).get d:Int).toNat).Next).get ((d + 2).tmod 4) = v))) || (!(decide (((gi l (((gi l v.toNat).Next).get d:Int).toNat).Owner).get ((d + 2).tmod 4) = ((gi l v.toNat).Owner).get d)))) || (decide ((((gi l v.toNat).Owner).get d) < (-2))))) g'4_78 b'11 ?_
         refine zD (Zan (Za (Zk (Zd (.n d) g'4_4 ?_))))
         obtain ⟨c'7,hp⟩:=Zj hp
         refine Zg (z6 (a:=d) (b:=1) rfl rfl c'7) (Zd (.n (d + 1)) rfl (Zb ?_))
         cases hp
         exact (Or.inl ⟨d + 1,rfl,rfl,g'4_0,g'4_3,rfl,(hO'4.pick [] rfl (by decide))⟩)
     ·refine z7 (t:=(decide (d < 4))) rfl b'3 ?_
      refine Zbv (zY ?_)
      cases hp
      refine (Or.inr ⟨.inl (),rfl,(fun h=>nomatch h),(fun he=>?_)⟩)
      subst he; exact ⟨rfl,q'4_0,q'4_3,(hO'4.pick [] rfl (by decide))⟩
    intro e'2 q'3 k'3 hJ'2
    rcases o'3 with _ | x1
    ·obtain ⟨rfl,q'3_0,q'3_3,hO'3⟩:=hJ'2
     refine ZaD (Zan (Za (Zk (Zd (.n v) q'3_3 ?_))))
     obtain ⟨c'8,hp⟩:=Zj hp
     refine Zg (z6 (a:=v) (b:=1) rfl rfl c'8) (Zd (.n (v + 1)) rfl (Zb ?_))
     cases hp
     exact (Or.inl ⟨v + 1,rfl,rfl,q'3_0,rfl,(hO'3.pick [] rfl (by decide))⟩)
    ·obtain ⟨rfl,q'3_2,hO'3⟩:=hJ'2
     refine ZaP (ZaP (zk ?_))
     cases hp
     refine (Or.inr ⟨.inr x1,rfl,(fun h=>nomatch h),(fun he=>?_)⟩)
     subst he; exact ⟨rfl,q'3_2,(hO'3.pick [] rfl (by decide))⟩
   ·refine z7 (t:=(decide (v < (l.length:Int)))) rfl b'2 ?_
    refine Zbv (zY ?_)
    cases hp
    refine (Or.inr ⟨.inl (),rfl,(fun h=>nomatch h),(fun he=>?_)⟩)
    subst he; exact ⟨rfl,(hO'2.pick [] rfl (by decide))⟩
  intro e'1 q'1 k'1 hJ'1
  rcases o'1 with _ | x
  ·obtain ⟨rfl,hO'1⟩:=hJ'1
   refine ZaD (Za (Zh (Zk (Zd (.n 0) rfl (Zb (Za (Zad ?_)))))))
   refine zu (zG (n:=2) (v:=.n 0) rfl ZN) ?_
   cases hp
   exact ⟨rfl,(hO'1.pick [] rfl (by decide))⟩
  ·obtain ⟨rfl,q'1_2,hO'1⟩:=hJ'1
   refine ZaP (zk (zu (zG (n:=2) (v:=.n x) q'1_2 ZN) ?_))
   cases hp
   exact ⟨rfl,(hO'1.pick [] rfl (by decide))⟩

end Mu
