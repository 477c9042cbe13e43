/- The code comes to what was worked out. -/
import Derived.Test.YtfdidkebomeiaaaMuDf
import Derived.Test.YtfdidkebomeiaaaMuPa
import Derived.Test.YtfdidkebomeiaaaMuC3
set_option linter.unusedVariables false
set_option linter.unnecessarySimpa false
set_option linter.unusedSimpArgs false
set_option maxHeartbeats 2000000
set_option maxRecDepth 10000
namespace Mu
open Go (IntKind BinOp UnOp)
theorem Z3.ok {h:Hp} {z:zy} {v_z_At:V} {v_z_Bits:V} {v_z_Own:V} (s_z_At:Sl ZgK h v_z_At z.At) (s_z_Bits:Sl ZgK h v_z_Bits z.Bits) (s_z_Own:Sl Zjq h v_z_Own z.Own) {r:Bool} (hp:Z3 z = some r) :
  ∃ u k',Is G 255 [.ag [v_z_At,v_z_Bits,v_z_Own]] h u k'∧V.b r = u∧Own (fun r=>r < h.n) h k' []:=by
 refine WC.is (Za7 ZcQ ?_)
 unfold Z3 at hp
 let B:Nat→Prop:=(fun r=>r < h.n)
 have hO:Own B h h []:=Own.start0 h
 refine Zi (Zl (Za0 (hO.boxd (v:=.ag [v_z_At,v_z_Bits,v_z_Own]) (cs:=[v_z_At,v_z_Bits,v_z_Own]) hO.fr rfl rfl) ?_))
 rintro _ k'1 ⟨r'1,rfl,n'1,f'1,hW⟩
 have hO'1:=hW
 refine Zd (.b false) rfl (Zc (Zb (Zi (Zl (Zg (Zce (cs:=[v_z_At,v_z_Bits,v_z_Own]) (ws:=[v_z_At,v_z_Bits,v_z_Own]) (hO'1.box 0 rfl) rfl rfl) ?_)))))
 obtain ⟨⟨x,x1⟩,hx'1,hp⟩:=Zq hp
 obtain ⟨u'1,k'2,ca'1,v'1,v'2,rfl,hW'1⟩:=ZE.ok (h:=k'1)  (hO'1.rd0 s_z_At.rd) (hO'1.rd0 s_z_Bits.rd) (hO'1.rd0 s_z_Own.rd) hx'1
 refine Zai (id:=28) (caps:=[]) rfl (Zp (v:=.ag [v_z_At,v_z_Bits,v_z_Own]) rfl (Zp (v:=.n 14) rfl ZK)) ca'1 ?_
 have hO'2:=hO'1.call hW'1 rfl
 refine Zd (.tu [v'1,v'2]) rfl (Zg (Zad (vs:=[v'1,v'2]) (v:=v'1) rfl rfl) (Zg (Zad (vs:=[v'1,v'2]) (v:=v'2) rfl rfl) (Zd v'1 rfl (Zd v'2 rfl (Zc (Zb (Zi ?_)))))))
 refine Zl (Zd v'1 rfl ?_)
 obtain ⟨⟨x2,x3⟩,hx'2,hp⟩:=Zq hp
 obtain ⟨u'2,k'3,ca'2,v'3,rfl,hW'2⟩:=Zbm.ok (h:=k'2)  (hO'2.sl 1 rfl) hx'2
 refine Zai (id:=268) (caps:=[]) rfl (Zp (v:=v'1) rfl ZK) ca'2 ?_
 have hO'3:=hO'2.call hW'2 rfl
 refine Zd (.tu [v'3,.n x3]) rfl (Zg (Zad (vs:=[v'3,.n x3]) (v:=v'3) rfl rfl) (Zg (Zad (vs:=[v'3,.n x3]) (v:=.n x3) rfl rfl) (Zd v'3 rfl (Zd (.n x3) rfl (Zc (Zb (Zi ?_)))))))
 refine Zl (Zd v'1 rfl ?_)
 obtain ⟨⟨x4,x5⟩,hx'3,hp⟩:=Zq hp
 obtain ⟨u'3,k'4,ca'3,v'4,rfl,hW'3⟩:=Zam.ok (h:=k'3)  (hO'3.sl 1 rfl) hx'3
 refine Zai (id:=266) (caps:=[]) rfl (Zp (v:=v'1) rfl ZK) ca'3 ?_
 have hO'4:=hO'3.call hW'3 rfl
 refine Zd (.tu [v'4,.n x5]) rfl (Zg (Zad (vs:=[v'4,.n x5]) (v:=v'4) rfl rfl) (Zg (Zad (vs:=[v'4,.n x5]) (v:=.n x5) rfl rfl) (Zd v'4 rfl (Zd (.n x5) rfl (Zc (Zb (Zi ?_)))))))
 refine Zi (Zl ?_)
 obtain ⟨x6,hx'4,hp⟩:=Zq hp
 obtain ⟨u'4,k'5,ca'4,rfl,hW'4⟩:=Zbh.ok (h:=k'4)   hx'4
 refine Zai (id:=264) (caps:=[]) rfl ZK ca'4 ?_
 have hO'5:=hO'4.call hW'4 rfl
 refine Zg (Zcp (t:=x6) rfl) (Zd (.b (!x6)) rfl ?_)
 refine Zaa 3 (fun fr' k'=>k'5 = k'∧fr' 41 = .b ((!x6) || (!(decide (x5 = 0))))∧fr' 3 = v'1∧fr' 5 = v'3∧fr' 6 = .n x3∧fr' 7 = v'4) ?_ ?_
 ·rcases bc (!x6) with b'1 | b'1
  ·skip
   refine Zw rfl b'1 (Zw rfl b'1 (Zg (za (t:=(!x6)) (v:=.b ((!x6) || (!(decide (x5 = 0))))) rfl b'1 (Eq.trans (b:=V.b true) rfl (Zbs b'1))) (Zc ?_)))
   exact ⟨rfl,rfl,rfl,rfl,rfl,rfl⟩
  ·skip
   refine Z7 rfl b'1 (Zd (.n x5) rfl (Z7 rfl b'1 (Zg (ZbK (a:=x5) (b:=0) rfl rfl) (Zg (ZU (t:=(!x6)) (v:=.b ((!x6) || (!(decide (x5 = 0))))) rfl b'1 (Eq.trans (b:=V.b (!(decide (x5 = 0)))) rfl (Zcc b'1))) (Zc ?_)))))
   exact ⟨rfl,rfl,rfl,rfl,rfl,rfl⟩
 rintro frg'1 _ ⟨rfl,g'1_41,g'1_3,g'1_5,g'1_6,g'1_7⟩
 refine Zd (.b ((!x6) || (!(decide (x5 = 0))))) g'1_41 ?_
 refine Zaa 4 (fun fr' k'=>k'5 = k'∧fr' 46 = .b (((!x6) || (!(decide (x5 = 0)))) || (decide ((x.length:Int) < 2)))∧fr' 3 = v'1∧fr' 5 = v'3∧fr' 6 = .n x3∧fr' 7 = v'4) ?_ ?_
 ·rcases bc ((!x6) || (!(decide (x5 = 0)))) with b'2 | b'2
  ·skip
   refine Zw rfl b'2 (Zw rfl b'2 (Zw rfl b'2 (Zg (za (t:=((!x6) || (!(decide (x5 = 0))))) (v:=.b (((!x6) || (!(decide (x5 = 0)))) || (decide ((x.length:Int) < 2)))) rfl b'2 (Eq.trans (b:=V.b true) rfl (Zbs b'2))) (Zc ?_))))
   exact ⟨rfl,rfl,g'1_3,g'1_5,g'1_6,g'1_7⟩
  ·skip
   refine Z7 rfl b'2 (Zd v'1 g'1_3 (Z7 rfl b'2 (Zg (ZaC (hO'5.sl 1 rfl) rfl) (Z7 rfl b'2 (Zg (zO (a:=(x.length:Int)) (b:=2) rfl rfl) (Zg (ZU (t:=((!x6) || (!(decide (x5 = 0))))) (v:=.b (((!x6) || (!(decide (x5 = 0)))) || (decide ((x.length:Int) < 2)))) rfl b'2 (Eq.trans (b:=V.b (decide ((x.length:Int) < 2))) rfl (Zcc b'2))) (Zc ?_)))))))
   exact ⟨rfl,rfl,g'1_3,g'1_5,g'1_6,g'1_7⟩
 rintro frg'2 _ ⟨rfl,g'2_46,g'2_3,g'2_5,g'2_6,g'2_7⟩
 refine Zc (Zb ?_)
 rcases Zt hp with ⟨b'3,hp⟩ | ⟨b'3,hp⟩
 ·refine zB (t:=(((!x6) || (!(decide (x5 = 0)))) || (decide ((x.length:Int) < 2)))) g'2_46 b'3 ?_
  refine Zi (Zl ?_)
  obtain ⟨x7,hx'5,hp⟩:=Zq hp
  obtain ⟨u'5,k'6,ca'5,rfl,hW'5⟩:=Zbh.ok (h:=k'5)   hx'5
  refine Zai (id:=264) (caps:=[]) rfl ZK ca'5 ?_
  have hO'6:=hO'5.call hW'5 rfl
  refine Zd (.b x7) rfl (Zc (Zb (zL (zh (zf (zl (n:=2) (v:=.b x7) rfl ZD) ?_)))))
  cases hp
  exact ⟨rfl,(hO'6.pick [] rfl (by decide))⟩
 ·refine zz (t:=(((!x6) || (!(decide (x5 = 0)))) || (decide ((x.length:Int) < 2)))) g'2_46 b'3 ?_
  refine zC (Zb (Zi (Zl (Zd v'4 g'2_7 ?_))))
  obtain ⟨⟨x8,x9⟩,hx'6,hp⟩:=Zq hp
  obtain ⟨u'6,k'7,ca'6,rfl,hW'6⟩:=Zbb.ok (h:=k'5)  (hO'5.sl 4 rfl) hx'6
  refine Zai (id:=269) (caps:=[]) rfl (Zp (v:=v'4) rfl ZK) ca'6 ?_
  have hO'7:=hO'5.call hW'6 rfl
  refine Zd (.tu [.b x8,.n x9]) rfl (Zg (Zad (vs:=[.b x8,.n x9]) (v:=.b x8) rfl rfl) (Zg (Zad (vs:=[.b x8,.n x9]) (v:=.n x9) rfl rfl) (Zd (.b x8) rfl (Zd (.n x9) rfl (Zc (Zb (Zi ?_)))))))
  refine Zi (Zl (Zd (.n x3) g'2_6 (Zg (ZbK (a:=x3) (b:=0) rfl rfl) (Zd (.b (!(decide (x3 = 0)))) rfl ?_))))
  refine Zaa 3 (fun fr' k'=>k'7 = k'∧fr' 58 = .b ((!(decide (x3 = 0))) || (!x8))∧fr' 10 = .n x9∧fr' 3 = v'1∧fr' 5 = v'3∧fr' 7 = v'4) ?_ ?_
  ·rcases bc (!(decide (x3 = 0))) with b'4 | b'4
   ·skip
    refine Zw rfl b'4 (Zw rfl b'4 (Zg (za (t:=(!(decide (x3 = 0)))) (v:=.b ((!(decide (x3 = 0))) || (!x8))) rfl b'4 (Eq.trans (b:=V.b true) rfl (Zbs b'4))) (Zc ?_)))
    exact ⟨rfl,rfl,rfl,g'2_3,g'2_5,g'2_7⟩
   ·skip
    refine Z7 rfl b'4 (Zd (.b x8) rfl (Z7 rfl b'4 (Zg (Zcp (t:=x8) rfl) (Zg (ZU (t:=(!(decide (x3 = 0)))) (v:=.b ((!(decide (x3 = 0))) || (!x8))) rfl b'4 (Eq.trans (b:=V.b (!x8)) rfl (Zcc b'4))) (Zc ?_)))))
    exact ⟨rfl,rfl,rfl,g'2_3,g'2_5,g'2_7⟩
  rintro frg'3 _ ⟨rfl,g'3_58,g'3_10,g'3_3,g'3_5,g'3_7⟩
  refine Zd (.b ((!(decide (x3 = 0))) || (!x8))) g'3_58 ?_
  refine Zaa 3 (fun fr' k'=>k'7 = k'∧fr' 62 = .b (((!(decide (x3 = 0))) || (!x8)) || (!(decide (x9 = 0))))∧fr' 3 = v'1∧fr' 5 = v'3∧fr' 7 = v'4) ?_ ?_
  ·rcases bc ((!(decide (x3 = 0))) || (!x8)) with b'5 | b'5
   ·skip
    refine Zw rfl b'5 (Zw rfl b'5 (Zg (za (t:=((!(decide (x3 = 0))) || (!x8))) (v:=.b (((!(decide (x3 = 0))) || (!x8)) || (!(decide (x9 = 0))))) rfl b'5 (Eq.trans (b:=V.b true) rfl (Zbs b'5))) (Zc ?_)))
    exact ⟨rfl,rfl,g'3_3,g'3_5,g'3_7⟩
   ·skip
    refine Z7 rfl b'5 (Zd (.n x9) g'3_10 (Z7 rfl b'5 (Zg (ZbK (a:=x9) (b:=0) rfl rfl) (Zg (ZU (t:=((!(decide (x3 = 0))) || (!x8))) (v:=.b (((!(decide (x3 = 0))) || (!x8)) || (!(decide (x9 = 0))))) rfl b'5 (Eq.trans (b:=V.b (!(decide (x9 = 0)))) rfl (Zcc b'5))) (Zc ?_)))))
    exact ⟨rfl,rfl,g'3_3,g'3_5,g'3_7⟩
  rintro frg'4 _ ⟨rfl,g'4_62,g'4_3,g'4_5,g'4_7⟩
  refine Zc (Zb ?_)
  rcases Zt hp with ⟨b'6,hp⟩ | ⟨b'6,hp⟩
  ·refine zB (t:=(((!(decide (x3 = 0))) || (!x8)) || (!(decide (x9 = 0))))) g'4_62 b'6 ?_
   refine Zi (Zl (Zd (.b false) rfl (Zc (Zb (zL (zh (zf (zl (n:=2) (v:=.b false) rfl ZD) ?_)))))))
   cases hp
   exact ⟨rfl,(hO'7.pick [] rfl (by decide))⟩
  ·refine zz (t:=(((!(decide (x3 = 0))) || (!x8)) || (!(decide (x9 = 0))))) g'4_62 b'6 ?_
   refine zC (Zb (Zi (Zi (Zl (Zd v'3 g'4_5 (Zd v'4 g'4_7 (Za0 (hO'7.bsl (E:=eV) (l:=[v'3,v'4]) hO'7.fr (by rw [(Zae (v:=v'3) rfl (Zae (v:=v'4) rfl Zb3))]; simp only [fill,(hO'7.sl 3 rfl).cells,(hO'7.sl 4 rfl).cells]; simp [over]) rfl) ?_)))))))
   rintro v'5 k'8 ⟨r'2,f'2,hW⟩
   have hO'8:=hW
   refine Zg (Zgw (n:=([x2,x4]).length) (hO'8.sl 5 rfl) rfl rfl) (Zd (.n 0) rfl (Zc (Zb (Zay ?_))))
   obtain ⟨o'1,ho'1,hp⟩:=Zq hp
   refine W.mono (Q:=fun e fr k=>match (generalizing:=false) o'1 with
     | .inl _=>e = (.exit 0)∧Own B h k []
     | .inr _=>e = .ret∧fr 2 = .b false∧Own B h k []) ?_ ?_
   ·clear hp
    refine zU (fun st fr k=>match st with | x10=>fr 3 = v'1∧fr 65 = v'5∧fr 66 = .n ([x2,x4].length:Int)∧fr 67 = .n x10∧Own B h k [eSl Ze v'1 x,eSl eV v'5 [v'3,v'4],eSl Ze v'3 x2,eSl Ze v'4 x4]) ho'1 (s:=0) ⟨g'4_3,rfl,rfl,rfl,(hO'8.pick [1,5,3,4] rfl (by decide))⟩ ?_
    rintro x10 q'2 k'10 ⟨q'2_3,q'2_65,q'2_66,q'2_67,hO'10⟩ o'2 hp
    dsimp only [Z3.s0] at hp
    refine Zi (Zl (Zg (zO (a:=x10) (b:=([x2,x4].length:Int)) q'2_67 q'2_66) (Zc (Zb (Zi ?_)))))
    rcases Zt hp with ⟨b'7,hp⟩ | ⟨b'7,hp⟩
    ·refine zB (t:=(decide (x10 < ([x2,x4].length:Int)))) rfl b'7 ?_
     refine zC (Zb (Zi (Zay (Zi (Zl ?_)))))
     obtain ⟨c'1,hp⟩:=Zn hp
     refine Zg (zt (E:=eV) (z:=x10) (hO'10.sl 1 rfl) q'2_65 q'2_67 c'1) (Zg (zX (w:=(gi [v'3,v'4] x10.toNat)) (hO'10.sl 1 rfl) rfl (Zj c'1) rfl) (Zd ((gi [v'3,v'4] x10.toNat)) rfl (Zc (Zb (Zi (Zi (Zl ?_)))))))
     refine Zd ((gi [v'3,v'4] x10.toNat)) rfl ?_
     obtain ⟨⟨x11,x12⟩,hx'7,hp⟩:=Zq hp
     obtain ⟨u'7,k'11,ca'7,rfl,hW'7⟩:=Zag.ok (h:=k'10)  (Lit.at (Lit.cons (hO'10.sl 2 rfl) (Lit.cons (hO'10.sl 3 rfl) Lit.nil)) (Zj c'1):Sl Ze k'10 (gi [v'3,v'4] x10.toNat) (gi [x2,x4] x10.toNat)) hx'7
     refine Zai (id:=181) (caps:=[]) rfl (Zp (v:=(gi [v'3,v'4] x10.toNat)) rfl ZK) ca'7 ?_
     have hO'11:=hO'10.call hW'7 rfl
     refine Zd (.tu [.n x11,.n x12]) rfl (Zg (Zad (vs:=[.n x11,.n x12]) (v:=.n x11) rfl rfl) (Zg (Zad (vs:=[.n x11,.n x12]) (v:=.n x12) rfl rfl) (Zd (.n x11) rfl (Zd (.n x12) rfl (Zc (Zb (Zi ?_)))))))
     refine Zl (Zd (.n x12) rfl (Zg (ZbK (a:=x12) (b:=0) rfl rfl) (Zd (.b (!(decide (x12 = 0)))) rfl ?_)))
     refine Zaa 6 (fun fr' k'=>k'11 = k'∧fr' 84 = .b ((!(decide (x12 = 0))) || (decide (((gi [x2,x4] x10.toNat).length:Int) < (x.length:Int))))∧fr' 12 = (gi [v'3,v'4] x10.toNat)∧fr' 3 = v'1∧fr' 65 = v'5∧fr' 66 = .n ([x2,x4].length:Int)∧fr' 67 = .n x10) ?_ ?_
     ·rcases bc (!(decide (x12 = 0))) with b'8 | b'8
      ·skip
       refine Zw rfl b'8 (Zw rfl b'8 (Zw rfl b'8 (Zw rfl b'8 (Zw rfl b'8 (Zg (za (t:=(!(decide (x12 = 0)))) (v:=.b ((!(decide (x12 = 0))) || (decide (((gi [x2,x4] x10.toNat).length:Int) < (x.length:Int))))) rfl b'8 (Eq.trans (b:=V.b true) rfl (Zbs b'8))) (Zc ?_))))))
       exact ⟨rfl,rfl,rfl,q'2_3,q'2_65,q'2_66,q'2_67⟩
      ·skip
       refine Z7 rfl b'8 (Zd ((gi [v'3,v'4] x10.toNat)) rfl (Z7 rfl b'8 (Zg (ZaC (Lit.at (Lit.cons (hO'11.sl 2 rfl) (Lit.cons (hO'11.sl 3 rfl) Lit.nil)) (Zj c'1):Sl Ze k'11 (gi [v'3,v'4] x10.toNat) (gi [x2,x4] x10.toNat)) rfl) (Z7 rfl b'8 (Zd v'1 q'2_3 (Z7 rfl b'8 (Zg (ZaC (hO'11.sl 0 rfl) rfl) ?_)))))))
       refine Z7 rfl b'8 (Zg (zO (a:=((gi [x2,x4] x10.toNat).length:Int)) (b:=(x.length:Int)) rfl rfl) (Zg (ZU (t:=(!(decide (x12 = 0)))) (v:=.b ((!(decide (x12 = 0))) || (decide (((gi [x2,x4] x10.toNat).length:Int) < (x.length:Int))))) rfl b'8 (Eq.trans (b:=V.b (decide (((gi [x2,x4] x10.toNat).length:Int) < (x.length:Int)))) rfl (Zcc b'8))) (Zc ?_)))
       exact ⟨rfl,rfl,rfl,q'2_3,q'2_65,q'2_66,q'2_67⟩
     rintro frg'5 _ ⟨rfl,g'5_84,g'5_12,g'5_3,g'5_65,g'5_66,g'5_67⟩
     refine Zc (Zb ?_)
     rcases Zt hp with ⟨b'9,hp⟩ | ⟨b'9,hp⟩
     ·refine zB (t:=((!(decide (x12 = 0))) || (decide (((gi [x2,x4] x10.toNat).length:Int) < (x.length:Int))))) g'5_84 b'9 ?_
      refine Zi (Zl (Zd (.b false) rfl (Zc (Zb (zL (zh (Zbd ?_)))))))
      refine zh ?_
      cases hp
      refine (Or.inr ⟨.inr (),rfl,(fun h=>nomatch h),(fun he=>?_)⟩)
      subst he; exact ⟨rfl,rfl,(hO'11.pick [] rfl (by decide))⟩
     ·refine zz (t:=((!(decide (x12 = 0))) || (decide (((gi [x2,x4] x10.toNat).length:Int) < (x.length:Int))))) g'5_84 b'9 ?_
      refine zC (Zb (Zi (Zl (Zd v'1 g'5_3 (Zg (ZaC (hO'11.sl 0 rfl) rfl) (Zd (.n 0) rfl (Zc ?_)))))))
      refine Zb (Zay ?_)
      obtain ⟨o'3,ho'2,hp⟩:=Zq hp
      refine W.mono (Q:=fun e fr k=>match (generalizing:=false) o'3 with
        | .inl _=>e = (.exit 2)∧fr 3 = v'1∧fr 65 = v'5∧fr 66 = .n ([x2,x4].length:Int)∧fr 67 = .n x10∧Own B h k [eSl Ze v'1 x,eSl eV v'5 [v'3,v'4],eSl Ze v'3 x2,eSl Ze v'4 x4]
        | .inr _=>e = .ret∧fr 2 = .b false∧Own B h k []) ?_ ?_
      ·clear hp
       refine zU (fun st fr k=>match st with | x13=>fr 3 = v'1∧fr 12 = (gi [v'3,v'4] x10.toNat)∧fr 65 = v'5∧fr 66 = .n ([x2,x4].length:Int)∧fr 67 = .n x10∧fr 85 = v'1∧fr 86 = .n (x.length:Int)∧fr 87 = .n x13∧Own B h k [eSl Ze v'1 x,eSl Ze v'3 x2,eSl Ze v'4 x4,eSl eV v'5 [v'3,v'4]]) ho'2 (s:=0) ⟨g'5_3,g'5_12,g'5_65,g'5_66,g'5_67,rfl,rfl,rfl,(hO'11.pick [0,2,3,1] rfl (by decide))⟩ ?_
       rintro x13 q'4 k'13 ⟨q'4_3,q'4_12,q'4_65,q'4_66,q'4_67,q'4_85,q'4_86,q'4_87,hO'13⟩ o'4 hp
       dsimp only [Z3.s1] at hp
       refine Zi (Zl (Zg (zO (a:=x13) (b:=(x.length:Int)) q'4_87 q'4_86) (Zc (Zb (Zi ?_)))))
       rcases Zt hp with ⟨b'10,hp⟩ | ⟨b'10,hp⟩
       ·refine zB (t:=(decide (x13 < (x.length:Int)))) rfl b'10 ?_
        refine zC (Zb (Zi (Zay (Zi (Zl (Zd (.n x13) q'4_87 ?_))))))
        obtain ⟨c'2,hp⟩:=Zn hp
        refine Zg (zt (E:=Ze) (z:=x13) (hO'13.sl 0 rfl) q'4_85 q'4_87 c'2) (Zg (ZfI (E:=Ze) (hO'13.sl 0 rfl) rfl (Zj c'2)) (Za0 (hO'13.alloc (cs:=Ze.c (⟨⟨0,0,0,0⟩,⟨0,0,0,0⟩⟩:Za)) hO'13.fr) ?_))
        rintro _ k'14 ⟨r'3,rfl,n'2,f'3,hW⟩
        have hO'14:=hW
        refine Zd (.n x13) rfl (Za0 (hO'14.stb (ws:=Ze.c (gi x x13.toNat)) (cs':=Ze.c (gi x x13.toNat)) (v:=.ag (Ze.c (gi x x13.toNat))) 4 rfl rfl rfl rfl ⟨rfl,Nat.le_of_ble_eq_true rfl,rfl⟩ rfl) ?_)
        rintro _ k'15 ⟨rfl,f'4,m'1,hW⟩
        have hO'15:=hW
        refine Zc (Zb (Zi (Zl (Zg (Zbv (r:=r'3) (o:=0) (o':=0) rfl rfl) (Zg (Zce (cs:=(Ze.c (gi x x13.toNat))) (ws:=Zbl.c ((gi x x13.toNat).Next)) (hO'15.box 4 rfl) rfl rfl) (Zd (.n 0) rfl (Zc ?_)))))))
        refine Zb (Zay ?_)
        obtain ⟨o'5,ho'3,hp⟩:=Zq hp
        refine W.mono (Q:=fun e fr k=>match (generalizing:=false) o'5 with
          | .inl _=>e = (.exit 4)∧fr 3 = v'1∧fr 12 = (gi [v'3,v'4] x10.toNat)∧fr 65 = v'5∧fr 66 = .n ([x2,x4].length:Int)∧fr 67 = .n x10∧fr 85 = v'1∧fr 86 = .n (x.length:Int)∧fr 87 = .n x13∧Own B h k [eSl Ze v'1 x,eSl Ze v'3 x2,eSl Ze v'4 x4,eSl eV v'5 [v'3,v'4]]
          | .inr _=>e = .ret∧fr 2 = .b false∧Own B h k []) ?_ ?_
        ·clear hp
         refine zU (fun st fr k=>match st with | x14=>fr 3 = v'1∧fr 12 = (gi [v'3,v'4] x10.toNat)∧fr 15 = .n x13∧fr 16 = .p r'3 0∧fr 65 = v'5∧fr 66 = .n ([x2,x4].length:Int)∧fr 67 = .n x10∧fr 85 = v'1∧fr 86 = .n (x.length:Int)∧fr 87 = .n x13∧fr 93 = .ag (Zbl.c ((gi x x13.toNat).Next))∧fr 94 = .n x14∧Own B h k [eSl Ze v'1 x,eSl Ze v'3 x2,eSl Ze v'4 x4,ZaD r'3 (Ze.c (gi x x13.toNat)),eSl eV v'5 [v'3,v'4]]) ho'3 (s:=0) ⟨q'4_3,q'4_12,rfl,rfl,q'4_65,q'4_66,q'4_67,q'4_85,q'4_86,q'4_87,rfl,rfl,(hO'15.pick [0,1,2,4,3] rfl (by decide))⟩ ?_
         rintro x14 q'6 k'17 ⟨q'6_3,q'6_12,q'6_15,q'6_16,q'6_65,q'6_66,q'6_67,q'6_85,q'6_86,q'6_87,q'6_93,q'6_94,hO'17⟩ o'6 hp
         dsimp only [Z3.s2] at hp
         refine Zi (Zl (Zg (zO (a:=x14) (b:=4) q'6_94 rfl) (Zc (Zb (Zi ?_)))))
         rcases Zt hp with ⟨b'11,hp⟩ | ⟨b'11,hp⟩
         ·refine zB (t:=(decide (x14 < 4))) rfl b'11 ?_
          refine zC (Zb (Zi (Zay (Zi (Zl (Zd (.n x14) q'6_94 ?_))))))
          obtain ⟨c'3,hp⟩:=Zn hp
          refine Zg (Zn5 (cs:=Zbl.c ((gi x x13.toNat).Next)) (z:=x14) (v:=.n (((gi x x13.toNat).Next).get x14)) q'6_93 q'6_94 c'3 (Zgy c'3)) (Zd (.n x14) rfl (Zd (.n (((gi x x13.toNat).Next).get x14)) rfl (Zc (Zb (Zi (Zl (Zd (.n x13) q'6_15 ?_)))))))
          refine Zd (.n x13) rfl (Zc (Zb (Zi (Zl (Zd (.n 0) rfl (Zc (Zb ?_)))))))
          refine Zay ?_
          obtain ⟨o'7,ho'4,hp⟩:=Zq hp
          refine W.mono (Q:=fun e fr k=>match (generalizing:=false) o'7 with
            | .inl _=>e = (.exit 6)∧fr 3 = v'1∧fr 12 = (gi [v'3,v'4] x10.toNat)∧fr 15 = .n x13∧fr 16 = .p r'3 0∧fr 65 = v'5∧fr 66 = .n ([x2,x4].length:Int)∧fr 67 = .n x10∧fr 85 = v'1∧fr 86 = .n (x.length:Int)∧fr 87 = .n x13∧fr 93 = .ag (Zbl.c ((gi x x13.toNat).Next))∧fr 94 = .n x14∧Own B h k [eSl Ze v'1 x,eSl Ze v'3 x2,eSl Ze v'4 x4,ZaD r'3 (Ze.c (gi x x13.toNat)),eSl eV v'5 [v'3,v'4]]
            | .inr _=>e = .ret∧fr 2 = .b false∧Own B h k []) ?_ ?_
          ·clear hp
           refine zU (fun st fr k=>match st with | (at_,n)=>fr 3 = v'1∧fr 12 = (gi [v'3,v'4] x10.toNat)∧fr 15 = .n x13∧fr 16 = .p r'3 0∧fr 17 = .n x14∧fr 18 = .n (((gi x x13.toNat).Next).get x14)∧fr 19 = .n at_∧fr 20 = .n n∧fr 65 = v'5∧fr 66 = .n ([x2,x4].length:Int)∧fr 67 = .n x10∧fr 85 = v'1∧fr 86 = .n (x.length:Int)∧fr 87 = .n x13∧fr 93 = .ag (Zbl.c ((gi x x13.toNat).Next))∧fr 94 = .n x14∧Own B h k [eSl Ze v'1 x,eSl Ze v'3 x2,eSl Ze v'4 x4,ZaD r'3 (Ze.c (gi x x13.toNat)),eSl eV v'5 [v'3,v'4]]) ho'4 (s:=(x13,0)) ⟨q'6_3,q'6_12,q'6_15,q'6_16,rfl,rfl,rfl,rfl,q'6_65,q'6_66,q'6_67,q'6_85,q'6_86,q'6_87,q'6_93,q'6_94,(hO'17.pick [0,1,2,3,4] rfl (by decide))⟩ ?_
           rintro ⟨at_,n⟩ q'8 k'19 ⟨q'8_3,q'8_12,q'8_15,q'8_16,q'8_17,q'8_18,q'8_19,q'8_20,q'8_65,q'8_66,q'8_67,q'8_85,q'8_86,q'8_87,q'8_93,q'8_94,hO'19⟩ o'8 hp
           dsimp only [Z3.s3] at hp
           refine Zi (Zi (Zl (Zd (.n (((gi x x13.toNat).Next).get x14)) q'8_18 (Zg (ZcA (a:=(((gi x x13.toNat).Next).get x14)) (b:=0) rfl rfl) (Zd (.b (decide (0≤(((gi x x13.toNat).Next).get x14)))) rfl ?_)))))
           refine Zaa 4 (fun fr' k'=>k'19 = k'∧fr' 105 = .b ((decide (0≤(((gi x x13.toNat).Next).get x14))) && (!(decide (at_ = ((gi x x13.toNat).Next).get x14))))∧fr' 12 = (gi [v'3,v'4] x10.toNat)∧fr' 15 = .n x13∧fr' 16 = .p r'3 0∧fr' 17 = .n x14∧fr' 18 = .n (((gi x x13.toNat).Next).get x14)∧fr' 19 = .n at_∧fr' 20 = .n n∧fr' 3 = v'1∧fr' 65 = v'5∧fr' 66 = .n ([x2,x4].length:Int)∧fr' 67 = .n x10∧fr' 85 = v'1∧fr' 86 = .n (x.length:Int)∧fr' 87 = .n x13∧fr' 93 = .ag (Zbl.c ((gi x x13.toNat).Next))∧fr' 94 = .n x14) ?_ ?_
           ·rcases bc (decide (0≤(((gi x x13.toNat).Next).get x14))) with b'12 | b'12
            ·skip
             refine Z7 rfl b'12 (Zd (.n at_) q'8_19 (Z7 rfl b'12 (Zd (.n (((gi x x13.toNat).Next).get x14)) q'8_18 (Z7 rfl b'12 (Zg (ZbK (a:=at_) (b:=(((gi x x13.toNat).Next).get x14)) rfl rfl) (Zg (za (t:=(decide (0≤(((gi x x13.toNat).Next).get x14)))) (v:=.b ((decide (0≤(((gi x x13.toNat).Next).get x14))) && (!(decide (at_ = ((gi x x13.toNat).Next).get x14))))) rfl b'12 (Eq.trans (b:=V.b (!(decide (at_ = ((gi x x13.toNat).Next).get x14)))) rfl (Zcs b'12))) (Zc ?_)))))))
             exact ⟨rfl,rfl,q'8_12,q'8_15,q'8_16,q'8_17,q'8_18,q'8_19,q'8_20,q'8_3,q'8_65,q'8_66,q'8_67,q'8_85,q'8_86,q'8_87,q'8_93,q'8_94⟩
            ·skip
             refine Zw rfl b'12 (Zw rfl b'12 (Zw rfl b'12 (Zg (ZU (t:=(decide (0≤(((gi x x13.toNat).Next).get x14)))) (v:=.b ((decide (0≤(((gi x x13.toNat).Next).get x14))) && (!(decide (at_ = ((gi x x13.toNat).Next).get x14))))) rfl b'12 (Eq.trans (b:=V.b false) rfl (ZbW b'12))) (Zc ?_))))
             exact ⟨rfl,rfl,q'8_12,q'8_15,q'8_16,q'8_17,q'8_18,q'8_19,q'8_20,q'8_3,q'8_65,q'8_66,q'8_67,q'8_85,q'8_86,q'8_87,q'8_93,q'8_94⟩
           rintro frg'6 _ ⟨rfl,g'6_105,g'6_12,g'6_15,g'6_16,g'6_17,g'6_18,g'6_19,g'6_20,g'6_3,g'6_65,g'6_66,g'6_67,g'6_85,g'6_86,g'6_87,g'6_93,g'6_94⟩
           refine Zc (Zb ?_)
           rcases Zt hp with ⟨b'13,hp⟩ | ⟨b'13,hp⟩
           ·refine zB (t:=((decide (0≤(((gi x x13.toNat).Next).get x14))) && (!(decide (at_ = ((gi x x13.toNat).Next).get x14))))) g'6_105 b'13 ?_
            refine zC (Zb (Zi (Zay (Zi (Zi (ZgZ ?_))))))
            have hW:=hO'19.bump 39
            have hO'20:=hW
            refine Zah (.n n) g'6_20 (Zah ((gi [v'3,v'4] x10.toNat)) g'6_12 (ZS rfl (ZaC (Lit.at (Lit.cons (hO'20.sl 1 rfl) (Lit.cons (hO'20.sl 2 rfl) Lit.nil)) (Zj c'1):Sl Ze (k'19.bump 39) (gi [v'3,v'4] x10.toNat) (gi [x2,x4] x10.toNat)) rfl) (ZS rfl (ZeF (a:=n) (b:=((gi [x2,x4] x10.toNat).length:Int)) rfl rfl) (Zah (.b (decide (((gi [x2,x4] x10.toNat).length:Int) < n))) rfl ?_))))
            obtain ⟨t,hv'1,hp⟩:=Zq hp
            refine Zcd 9 (fun fr' k'=>(k'19.bump 39) = k'∧fr' 121 = .b t∧fr' 12 = (gi [v'3,v'4] x10.toNat)∧fr' 15 = .n x13∧fr' 16 = .p r'3 0∧fr' 17 = .n x14∧fr' 18 = .n (((gi x x13.toNat).Next).get x14)∧fr' 19 = .n at_∧fr' 20 = .n n∧fr' 3 = v'1∧fr' 65 = v'5∧fr' 66 = .n ([x2,x4].length:Int)∧fr' 67 = .n x10∧fr' 85 = v'1∧fr' 86 = .n (x.length:Int)∧fr' 87 = .n x13∧fr' 93 = .ag (Zbl.c ((gi x x13.toNat).Next))∧fr' 94 = .n x14) ?_ ?_
            ·clear hp; rcases Zt hv'1 with ⟨b'14,hp⟩ | ⟨b'14,hp⟩
             ·skip
              refine Z1 rfl b'14 (Z1 rfl b'14 (Z1 rfl b'14 (Z1 rfl b'14 (Z1 rfl b'14 (Z1 rfl b'14 (Z1 rfl b'14 (Z1 rfl b'14 ?_)))))))
              refine ZS rfl (za (t:=(decide (((gi [x2,x4] x10.toNat).length:Int) < n))) (v:=.b t) rfl b'14 (Eq.trans (b:=V.b true) rfl (congrArg V.b (Option.some.inj hp)))) (Zaj ?_)
              exact ⟨rfl,rfl,g'6_12,g'6_15,g'6_16,g'6_17,g'6_18,g'6_19,g'6_20,g'6_3,g'6_65,g'6_66,g'6_67,g'6_85,g'6_86,g'6_87,g'6_93,g'6_94⟩
             ·skip
              refine Z8 rfl b'14 (Zah ((gi [v'3,v'4] x10.toNat)) g'6_12 (Z8 rfl b'14 (Zah (.n at_) g'6_19 (Z8 rfl b'14 (Zah (.n x14) g'6_17 (Z8 rfl b'14 ?_))))))
              obtain ⟨c'4,hp⟩:=Zn hp
              refine ZS rfl (zt (E:=Ze) (z:=at_) (Lit.at (Lit.cons (hO'20.sl 1 rfl) (Lit.cons (hO'20.sl 2 rfl) Lit.nil)) (Zj c'1):Sl Ze (k'19.bump 39) (gi [v'3,v'4] x10.toNat) (gi [x2,x4] x10.toNat)) rfl rfl c'4) (Z8 rfl b'14 (ZS rfl (ZaO (off':=0) (off2:=0) (Lit.at (Lit.cons (hO'20.sl 1 rfl) (Lit.cons (hO'20.sl 2 rfl) Lit.nil)) (Zj c'1):Sl Ze (k'19.bump 39) (gi [v'3,v'4] x10.toNat) (gi [x2,x4] x10.toNat)) (Zj c'4) rfl rfl) (Z8 rfl b'14 (ZS rfl (ZaZ (off:=0) (off2:=(0 + x14.toNat * 1)) (z:=x14) (Lit.at (Lit.cons (hO'20.sl 1 rfl) (Lit.cons (hO'20.sl 2 rfl) Lit.nil)) (Zj c'1):Sl Ze (k'19.bump 39) (gi [v'3,v'4] x10.toNat) (gi [x2,x4] x10.toNat)) (Zj c'4) rfl rfl c'3 rfl) (Z8 rfl b'14 (ZS rfl (zX (w:=.n (((gi (gi [x2,x4] x10.toNat) at_.toNat).Next).get x14)) (Lit.at (Lit.cons (hO'20.sl 1 rfl) (Lit.cons (hO'20.sl 2 rfl) Lit.nil)) (Zj c'1):Sl Ze (k'19.bump 39) (gi [v'3,v'4] x10.toNat) (gi [x2,x4] x10.toNat)) rfl (Zj c'4) (zr c'3)) (Z8 rfl b'14 ?_)))))))
              refine ZS rfl (zO (a:=(((gi (gi [x2,x4] x10.toNat) at_.toNat).Next).get x14)) (b:=0) rfl rfl) (ZS rfl (ZU (t:=(decide (((gi [x2,x4] x10.toNat).length:Int) < n))) (v:=.b t) rfl b'14 (Eq.trans (b:=V.b (decide ((((gi (gi [x2,x4] x10.toNat) at_.toNat).Next).get x14) < 0))) rfl (congrArg V.b (Option.some.inj hp)))) (Zaj ?_))
              exact ⟨rfl,rfl,g'6_12,g'6_15,g'6_16,g'6_17,g'6_18,g'6_19,g'6_20,g'6_3,g'6_65,g'6_66,g'6_67,g'6_85,g'6_86,g'6_87,g'6_93,g'6_94⟩
            rintro frg'7 _ ⟨rfl,g'7_121,g'7_12,g'7_15,g'7_16,g'7_17,g'7_18,g'7_19,g'7_20,g'7_3,g'7_65,g'7_66,g'7_67,g'7_85,g'7_86,g'7_87,g'7_93,g'7_94⟩
            refine Zah (.b t) g'7_121 ?_
            obtain ⟨t1,hv'2,hp⟩:=Zq hp
            refine Zcd 13 (fun fr' k'=>(k'19.bump 39) = k'∧fr' 135 = .b t1∧fr' 12 = (gi [v'3,v'4] x10.toNat)∧fr' 15 = .n x13∧fr' 16 = .p r'3 0∧fr' 17 = .n x14∧fr' 18 = .n (((gi x x13.toNat).Next).get x14)∧fr' 19 = .n at_∧fr' 20 = .n n∧fr' 3 = v'1∧fr' 65 = v'5∧fr' 66 = .n ([x2,x4].length:Int)∧fr' 67 = .n x10∧fr' 85 = v'1∧fr' 86 = .n (x.length:Int)∧fr' 87 = .n x13∧fr' 93 = .ag (Zbl.c ((gi x x13.toNat).Next))∧fr' 94 = .n x14) ?_ ?_
            ·clear hp; rcases Zt hv'2 with ⟨b'15,hp⟩ | ⟨b'15,hp⟩
             ·skip
              refine Z1 rfl b'15 (Z1 rfl b'15 (Z1 rfl b'15 (Z1 rfl b'15 (Z1 rfl b'15 (Z1 rfl b'15 (Z1 rfl b'15 (Z1 rfl b'15 ?_)))))))
              refine Z1 rfl b'15 (Z1 rfl b'15 (Z1 rfl b'15 (Z1 rfl b'15 (ZS rfl (za (t:=t) (v:=.b t1) rfl b'15 (Eq.trans (b:=V.b true) rfl (congrArg V.b (Option.some.inj hp)))) (Zaj ?_)))))
              exact ⟨rfl,rfl,g'7_12,g'7_15,g'7_16,g'7_17,g'7_18,g'7_19,g'7_20,g'7_3,g'7_65,g'7_66,g'7_67,g'7_85,g'7_86,g'7_87,g'7_93,g'7_94⟩
             ·skip
              refine Z8 rfl b'15 (Zah ((gi [v'3,v'4] x10.toNat)) g'7_12 (Z8 rfl b'15 (Zah (.n at_) g'7_19 (Z8 rfl b'15 (Zah (.n x14) g'7_17 (Z8 rfl b'15 ?_))))))
              obtain ⟨c'5,hp⟩:=Zn hp
              refine ZS rfl (zt (E:=Ze) (z:=at_) (Lit.at (Lit.cons (hO'20.sl 1 rfl) (Lit.cons (hO'20.sl 2 rfl) Lit.nil)) (Zj c'1):Sl Ze (k'19.bump 39) (gi [v'3,v'4] x10.toNat) (gi [x2,x4] x10.toNat)) rfl rfl c'5) (Z8 rfl b'15 (ZS rfl (ZaO (off':=0) (off2:=4) (Lit.at (Lit.cons (hO'20.sl 1 rfl) (Lit.cons (hO'20.sl 2 rfl) Lit.nil)) (Zj c'1):Sl Ze (k'19.bump 39) (gi [v'3,v'4] x10.toNat) (gi [x2,x4] x10.toNat)) (Zj c'5) rfl rfl) (Z8 rfl b'15 (ZS rfl (ZaZ (off:=4) (off2:=(4 + x14.toNat * 1)) (z:=x14) (Lit.at (Lit.cons (hO'20.sl 1 rfl) (Lit.cons (hO'20.sl 2 rfl) Lit.nil)) (Zj c'1):Sl Ze (k'19.bump 39) (gi [v'3,v'4] x10.toNat) (gi [x2,x4] x10.toNat)) (Zj c'5) rfl rfl c'3 rfl) (Z8 rfl b'15 (ZS rfl (zX (w:=.n (((gi (gi [x2,x4] x10.toNat) at_.toNat).Owner).get x14)) (Lit.at (Lit.cons (hO'20.sl 1 rfl) (Lit.cons (hO'20.sl 2 rfl) Lit.nil)) (Zj c'1):Sl Ze (k'19.bump 39) (gi [v'3,v'4] x10.toNat) (gi [x2,x4] x10.toNat)) rfl (Zj c'5) (Zbo c'3)) (Z8 rfl b'15 ?_)))))))
              refine Zah (.n x14) g'7_17 (Z8 rfl b'15 (ZS rfl (Zbv (r:=r'3) (o:=0) (o':=4) g'7_16 rfl) (Z8 rfl b'15 (ZS rfl (Zha (o:=4) (o':=(4 + x14.toNat * 1)) (z:=x14) rfl rfl c'3 rfl) (Z8 rfl b'15 (ZS rfl (ZaK (cs:=(Ze.c (gi x x13.toNat))) (v:=.n (((gi x x13.toNat).Owner).get x14)) (hO'20.box 3 rfl) rfl (Zbo c'3)) (Z8 rfl b'15 ?_)))))))
              refine ZS rfl (ZbK (a:=(((gi (gi [x2,x4] x10.toNat) at_.toNat).Owner).get x14)) (b:=(((gi x x13.toNat).Owner).get x14)) rfl rfl) (ZS rfl (ZU (t:=t) (v:=.b t1) rfl b'15 (Eq.trans (b:=V.b (!(decide (((gi (gi [x2,x4] x10.toNat) at_.toNat).Owner).get x14 = ((gi x x13.toNat).Owner).get x14)))) rfl (congrArg V.b (Option.some.inj hp)))) (Zaj ?_))
              exact ⟨rfl,rfl,g'7_12,g'7_15,g'7_16,g'7_17,g'7_18,g'7_19,g'7_20,g'7_3,g'7_65,g'7_66,g'7_67,g'7_85,g'7_86,g'7_87,g'7_93,g'7_94⟩
            rintro frg'8 _ ⟨rfl,g'8_135,g'8_12,g'8_15,g'8_16,g'8_17,g'8_18,g'8_19,g'8_20,g'8_3,g'8_65,g'8_66,g'8_67,g'8_85,g'8_86,g'8_87,g'8_93,g'8_94⟩
            refine Zah (.b t1) g'8_135 ?_
            refine Zcd 10 (fun fr' k'=>(k'19.bump 39) = k'∧fr' 146 = .b (t1 || ((!(decide (at_ = x13))) && (decide (at_ < (x.length:Int)))))∧fr' 12 = (gi [v'3,v'4] x10.toNat)∧fr' 15 = .n x13∧fr' 16 = .p r'3 0∧fr' 17 = .n x14∧fr' 18 = .n (((gi x x13.toNat).Next).get x14)∧fr' 19 = .n at_∧fr' 20 = .n n∧fr' 3 = v'1∧fr' 65 = v'5∧fr' 66 = .n ([x2,x4].length:Int)∧fr' 67 = .n x10∧fr' 85 = v'1∧fr' 86 = .n (x.length:Int)∧fr' 87 = .n x13∧fr' 93 = .ag (Zbl.c ((gi x x13.toNat).Next))∧fr' 94 = .n x14) ?_ ?_
            ·rcases bc t1 with b'16 | b'16
             ·skip
              refine Z1 rfl b'16 (Z1 rfl b'16 (Z1 rfl b'16 (Z1 rfl b'16 (Zcw rfl (Zcw rfl (Zcw rfl (Zcw rfl ?_)))))))
              refine Z1 rfl b'16 (ZS rfl (za (t:=t1) (v:=.b (t1 || ((!(decide (at_ = x13))) && (decide (at_ < (x.length:Int)))))) rfl b'16 (Eq.trans (b:=V.b true) rfl (Zbs b'16))) (Zaj ?_))
              exact ⟨rfl,rfl,g'8_12,g'8_15,g'8_16,g'8_17,g'8_18,g'8_19,g'8_20,g'8_3,g'8_65,g'8_66,g'8_67,g'8_85,g'8_86,g'8_87,g'8_93,g'8_94⟩
             ·skip
              refine Z8 rfl b'16 (Zah (.n at_) g'8_19 (Z8 rfl b'16 (Zah (.n x13) g'8_15 (Z8 rfl b'16 (ZS rfl (ZbK (a:=at_) (b:=x13) rfl rfl) (Z8 rfl b'16 (Zah (.b (!(decide (at_ = x13)))) rfl ?_)))))))
              refine Zcd 5 (fun fr' k'=>(k'19.bump 39) = k'∧fr' 145 = .b ((!(decide (at_ = x13))) && (decide (at_ < (x.length:Int))))∧fr' 12 = (gi [v'3,v'4] x10.toNat)∧fr' 136 = .b t1∧fr' 15 = .n x13∧fr' 16 = .p r'3 0∧fr' 17 = .n x14∧fr' 18 = .n (((gi x x13.toNat).Next).get x14)∧fr' 19 = .n at_∧fr' 20 = .n n∧fr' 3 = v'1∧fr' 65 = v'5∧fr' 66 = .n ([x2,x4].length:Int)∧fr' 67 = .n x10∧fr' 85 = v'1∧fr' 86 = .n (x.length:Int)∧fr' 87 = .n x13∧fr' 93 = .ag (Zbl.c ((gi x x13.toNat).Next))∧fr' 94 = .n x14) ?_ ?_
              ·rcases bc (!(decide (at_ = x13))) with b'17 | b'17
               ·skip
                refine Z8 rfl b'17 (Zah (.n at_) g'8_19 (Z8 rfl b'17 (Zah v'1 g'8_3 (Z8 rfl b'17 (ZS rfl (ZaC (hO'20.sl 0 rfl) rfl) (Z8 rfl b'17 (ZS rfl (zO (a:=at_) (b:=(x.length:Int)) rfl rfl) ?_)))))))
                refine Z8 rfl b'16 (ZS rfl (za (t:=(!(decide (at_ = x13)))) (v:=.b ((!(decide (at_ = x13))) && (decide (at_ < (x.length:Int))))) rfl b'17 (Eq.trans (b:=V.b (decide (at_ < (x.length:Int)))) rfl (Zcs b'17))) (Zaj ?_))
                exact ⟨rfl,rfl,g'8_12,rfl,g'8_15,g'8_16,g'8_17,g'8_18,g'8_19,g'8_20,g'8_3,g'8_65,g'8_66,g'8_67,g'8_85,g'8_86,g'8_87,g'8_93,g'8_94⟩
               ·skip
                refine Z1 rfl b'17 (Z1 rfl b'17 (Z1 rfl b'17 (Z1 rfl b'17 (Z8 rfl b'16 (ZS rfl (ZU (t:=(!(decide (at_ = x13)))) (v:=.b ((!(decide (at_ = x13))) && (decide (at_ < (x.length:Int))))) rfl b'17 (Eq.trans (b:=V.b false) rfl (ZbW b'17))) (Zaj ?_))))))
                exact ⟨rfl,rfl,g'8_12,rfl,g'8_15,g'8_16,g'8_17,g'8_18,g'8_19,g'8_20,g'8_3,g'8_65,g'8_66,g'8_67,g'8_85,g'8_86,g'8_87,g'8_93,g'8_94⟩
              rintro frg'9 _ ⟨rfl,g'9_145,g'9_12,g'9_136,g'9_15,g'9_16,g'9_17,g'9_18,g'9_19,g'9_20,g'9_3,g'9_65,g'9_66,g'9_67,g'9_85,g'9_86,g'9_87,g'9_93,g'9_94⟩
              refine ZS rfl (ZU (t:=t1) (v:=.b (t1 || ((!(decide (at_ = x13))) && (decide (at_ < (x.length:Int)))))) g'9_136 b'16 (Eq.trans (b:=V.b ((!(decide (at_ = x13))) && (decide (at_ < (x.length:Int))))) g'9_145 (Zcc b'16))) (Zaj ?_)
              exact ⟨rfl,rfl,g'9_12,g'9_15,g'9_16,g'9_17,g'9_18,g'9_19,g'9_20,g'9_3,g'9_65,g'9_66,g'9_67,g'9_85,g'9_86,g'9_87,g'9_93,g'9_94⟩
            rintro frg'10 _ ⟨rfl,g'10_146,g'10_12,g'10_15,g'10_16,g'10_17,g'10_18,g'10_19,g'10_20,g'10_3,g'10_65,g'10_66,g'10_67,g'10_85,g'10_86,g'10_87,g'10_93,g'10_94⟩
            refine Zaj (Zb ?_)
            rcases Zt hp with ⟨b'18,hp⟩ | ⟨b'18,hp⟩
            ·refine zB (t:=(t1 || ((!(decide (at_ = x13))) && (decide (at_ < (x.length:Int)))))) g'10_146 b'18 ?_
             refine Zi (Zl (Zd (.b false) rfl (Zc (Zb (zL (zh (Zbd ?_)))))))
             refine zh ?_
             cases hp
             refine (Or.inr ⟨.inr (),rfl,(fun h=>nomatch h),(fun he=>?_)⟩)
             subst he; exact ⟨rfl,rfl,(hO'20.pick [] rfl (by decide))⟩
            ·refine zz (t:=(t1 || ((!(decide (at_ = x13))) && (decide (at_ < (x.length:Int)))))) g'10_146 b'18 ?_
             refine zC (Zb (Zl (Zd ((gi [v'3,v'4] x10.toNat)) g'10_12 (Zd (.n at_) g'10_19 (Zd (.n x14) g'10_17 ?_)))))
             obtain ⟨c'6,hp⟩:=Zn hp
             refine Zg (zt (E:=Ze) (z:=at_) (Lit.at (Lit.cons (hO'20.sl 1 rfl) (Lit.cons (hO'20.sl 2 rfl) Lit.nil)) (Zj c'1):Sl Ze (k'19.bump 39) (gi [v'3,v'4] x10.toNat) (gi [x2,x4] x10.toNat)) rfl rfl c'6) (Zg (ZaO (off':=0) (off2:=0) (Lit.at (Lit.cons (hO'20.sl 1 rfl) (Lit.cons (hO'20.sl 2 rfl) Lit.nil)) (Zj c'1):Sl Ze (k'19.bump 39) (gi [v'3,v'4] x10.toNat) (gi [x2,x4] x10.toNat)) (Zj c'6) rfl rfl) (Zg (ZaZ (off:=0) (off2:=(0 + x14.toNat * 1)) (z:=x14) (Lit.at (Lit.cons (hO'20.sl 1 rfl) (Lit.cons (hO'20.sl 2 rfl) Lit.nil)) (Zj c'1):Sl Ze (k'19.bump 39) (gi [v'3,v'4] x10.toNat) (gi [x2,x4] x10.toNat)) (Zj c'6) rfl rfl c'3 rfl) (Zg (zX (w:=.n (((gi (gi [x2,x4] x10.toNat) at_.toNat).Next).get x14)) (Lit.at (Lit.cons (hO'20.sl 1 rfl) (Lit.cons (hO'20.sl 2 rfl) Lit.nil)) (Zj c'1):Sl Ze (k'19.bump 39) (gi [v'3,v'4] x10.toNat) (gi [x2,x4] x10.toNat)) rfl (Zj c'6) (zr c'3)) (Zd (.n (((gi (gi [x2,x4] x10.toNat) at_.toNat).Next).get x14)) rfl (Zc (Zax (Zb ?_)))))))
             refine Zl (Zd (.n n) g'10_20 ?_)
             obtain ⟨c'7,hp⟩:=Zn hp
             refine Zg (zD (a:=n) (b:=1) rfl rfl c'7) (Zd (.n (n + 1)) rfl (Zc ?_))
             cases hp
             exact (Or.inl ⟨(((gi (gi [x2,x4] x10.toNat) at_.toNat).Next).get x14,n + 1),rfl,rfl,g'10_3,g'10_12,g'10_15,g'10_16,g'10_17,g'10_18,rfl,rfl,g'10_65,g'10_66,g'10_67,g'10_85,g'10_86,g'10_87,g'10_93,g'10_94,(hO'20.pick [0,1,2,3,4] rfl (by decide))⟩)
           ·refine zz (t:=((decide (0≤(((gi x x13.toNat).Next).get x14))) && (!(decide (at_ = ((gi x x13.toNat).Next).get x14))))) g'6_105 b'13 ?_
            refine ZbM (Zak ?_)
            cases hp
            refine (Or.inr ⟨.inl (),rfl,(fun h=>nomatch h),(fun he=>?_)⟩)
            subst he; exact ⟨rfl,g'6_3,g'6_12,g'6_15,g'6_16,g'6_65,g'6_66,g'6_67,g'6_85,g'6_86,g'6_87,g'6_93,g'6_94,(hO'19.pick [0,1,2,3,4] rfl (by decide))⟩
          intro e'4 q'7 k'18 hJ'4
          rcases o'7 with _ | _
          ·obtain ⟨rfl,q'7_3,q'7_12,q'7_15,q'7_16,q'7_65,q'7_66,q'7_67,q'7_85,q'7_86,q'7_87,q'7_93,q'7_94,hO'18⟩:=hJ'4
           refine ZaN (Zax (Zb (Zl ?_)))
           obtain ⟨c'8,hp⟩:=Zn hp
           refine Zg (zD (a:=x14) (b:=1) q'7_94 rfl c'8) (Zd (.n (x14 + 1)) rfl (Zc ?_))
           cases hp
           exact (Or.inl ⟨x14 + 1,rfl,rfl,q'7_3,q'7_12,q'7_15,q'7_16,q'7_65,q'7_66,q'7_67,q'7_85,q'7_86,q'7_87,q'7_93,rfl,(hO'18.pick [0,1,2,3,4] rfl (by decide))⟩)
          ·obtain ⟨rfl,q'7_2,hO'18⟩:=hJ'4
           refine Zbd (Zbd (zh ?_))
           cases hp
           refine (Or.inr ⟨.inr (),rfl,(fun h=>nomatch h),(fun he=>?_)⟩)
           subst he; exact ⟨rfl,q'7_2,(hO'18.pick [] rfl (by decide))⟩
         ·refine zz (t:=(decide (x14 < 4))) rfl b'11 ?_
          refine ZbM (Zak ?_)
          cases hp
          refine (Or.inr ⟨.inl (),rfl,(fun h=>nomatch h),(fun he=>?_)⟩)
          subst he; exact ⟨rfl,q'6_3,q'6_12,q'6_65,q'6_66,q'6_67,q'6_85,q'6_86,q'6_87,(hO'17.pick [0,1,2,4] rfl (by decide))⟩
        intro e'3 q'5 k'16 hJ'3
        rcases o'5 with _ | _
        ·obtain ⟨rfl,q'5_3,q'5_12,q'5_65,q'5_66,q'5_67,q'5_85,q'5_86,q'5_87,hO'16⟩:=hJ'3
         refine ZaN (Zax (Zb (Zl ?_)))
         obtain ⟨c'9,hp⟩:=Zn hp
         refine Zg (zD (a:=x13) (b:=1) q'5_87 rfl c'9) (Zd (.n (x13 + 1)) rfl (Zc ?_))
         cases hp
         exact (Or.inl ⟨x13 + 1,rfl,rfl,q'5_3,q'5_12,q'5_65,q'5_66,q'5_67,q'5_85,q'5_86,rfl,(hO'16.pick [0,1,2,3] rfl (by decide))⟩)
        ·obtain ⟨rfl,q'5_2,hO'16⟩:=hJ'3
         refine Zbd (Zbd (zh ?_))
         cases hp
         refine (Or.inr ⟨.inr (),rfl,(fun h=>nomatch h),(fun he=>?_)⟩)
         subst he; exact ⟨rfl,q'5_2,(hO'16.pick [] rfl (by decide))⟩
       ·refine zz (t:=(decide (x13 < (x.length:Int)))) rfl b'10 ?_
        refine ZbM (Zak ?_)
        cases hp
        refine (Or.inr ⟨.inl (),rfl,(fun h=>nomatch h),(fun he=>?_)⟩)
        subst he; exact ⟨rfl,q'4_3,q'4_65,q'4_66,q'4_67,(hO'13.pick [0,3,1,2] rfl (by decide))⟩
      intro e'2 q'3 k'12 hJ'2
      rcases o'3 with _ | _
      ·obtain ⟨rfl,q'3_3,q'3_65,q'3_66,q'3_67,hO'12⟩:=hJ'2
       refine ZaN (Zax (Zb (Zl ?_)))
       obtain ⟨c'10,hp⟩:=Zn hp
       refine Zg (zD (a:=x10) (b:=1) q'3_67 rfl c'10) (Zd (.n (x10 + 1)) rfl (Zc ?_))
       cases hp
       exact (Or.inl ⟨x10 + 1,rfl,rfl,q'3_3,q'3_65,q'3_66,rfl,(hO'12.pick [0,1,2,3] rfl (by decide))⟩)
      ·obtain ⟨rfl,q'3_2,hO'12⟩:=hJ'2
       refine Zbd (Zbd (zh ?_))
       cases hp
       refine (Or.inr ⟨.inr (),rfl,(fun h=>nomatch h),(fun he=>?_)⟩)
       subst he; exact ⟨rfl,q'3_2,(hO'12.pick [] rfl (by decide))⟩
    ·refine zz (t:=(decide (x10 < ([x2,x4].length:Int)))) rfl b'7 ?_
     refine ZbM (Zak ?_)
     cases hp
     refine (Or.inr ⟨.inl (),rfl,(fun h=>nomatch h),(fun he=>?_)⟩)
     subst he; exact ⟨rfl,(hO'10.pick [] rfl (by decide))⟩
   intro e'1 q'1 k'9 hJ'1
   rcases o'1 with _ | _
   ·obtain ⟨rfl,hO'9⟩:=hJ'1
    refine ZaN (Zb (Zi (Zl (Zd (.b true) rfl (Zc (Zb (zL ?_)))))))
    refine zf (zl (n:=2) (v:=.b true) rfl ZD) ?_
    cases hp
    exact ⟨rfl,(hO'9.pick [] rfl (by decide))⟩
   ·obtain ⟨rfl,q'1_2,hO'9⟩:=hJ'1
    refine Zbd (zh (zf (zl (n:=2) (v:=.b false) q'1_2 ZD) ?_))
    cases hp
    exact ⟨rfl,(hO'9.pick [] rfl (by decide))⟩

end Mu
