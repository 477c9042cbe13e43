/- The code comes to what was worked out. -/
import Derived.Test.YtfdidkebomeiaaaMuDf
import Derived.Test.YtfdidkebomeiaaaMuPa
import Derived.Test.YtfdidkebomeiaaaMuC2
set_option linter.unusedVariables false
set_option linter.unnecessarySimpa false
set_option linter.unusedSimpArgs false
set_option maxHeartbeats 2000000
set_option maxRecDepth 10000
namespace Mu
open Go (IntKind BinOp UnOp)
theorem ZO.ok {h:Hp} {z:zj} {raw:List Ze} {by_:A3 Int} {v_z_At:V} {v_z_Bits:V} {v_z_Own:V} {v_raw:V} (s_z_At:Sl Zfn h v_z_At z.At) (s_z_Bits:Sl Zfn h v_z_Bits z.Bits) (s_z_Own:Sl ZhB h v_z_Own z.Own) (s_raw:Sl Zb h v_raw raw) {r:Bool} (hp:ZO z raw by_ = some r) :
  ∃ u k',Is G 252 [.ag [v_z_At,v_z_Bits,v_z_Own],v_raw,.ag (ZbV.c by_)] h u k'∧V.b r = u∧Own (fun r=>r < h.n) h k' []:=by
 refine WC.is (Za7 ZbL ?_)
 unfold ZO at hp
 let B:Nat→Prop:=(fun r=>r < h.n)
 have hO:Own B h h []:=Own.start0 h
 refine Zk (Zo (zF (hO.boxd (v:=.ag [v_z_At,v_z_Bits,v_z_Own]) (cs:=[v_z_At,v_z_Bits,v_z_Own]) hO.fr rfl rfl) ?_))
 rintro _ k'1 ⟨r'1,rfl,n'1,f'1,hW⟩
 have hO'1:=hW
 refine zF (hO'1.boxd (v:=.ag (ZbV.c by_)) (cs:=ZbV.c by_) hO'1.fr rfl rfl) ?_
 rintro _ k'2 ⟨r'2,rfl,n'2,f'2,hW⟩
 have hO'2:=hW
 refine Zf (.b false) rfl (Zd (Zc (Zk (Zo (Zj (Zbe (cs:=[v_z_At,v_z_Bits,v_z_Own]) (ws:=[v_z_At,v_z_Bits,v_z_Own]) (hO'2.box 0 rfl) rfl rfl) ?_)))))
 obtain ⟨⟨x,x1⟩,hx'1,hp⟩:=Zs hp
 obtain ⟨u'1,k'3,ca'1,v'1,v'2,rfl,hW'1⟩:=Z9.ok (h:=k'2)  (hO'2.rd0 s_z_At.rd) (hO'2.rd0 s_z_Bits.rd) (hO'2.rd0 s_z_Own.rd) hx'1
 refine ZaN (id:=28) (caps:=[]) rfl (Zu (v:=.ag [v_z_At,v_z_Bits,v_z_Own]) rfl (Zu (v:=.n 14) rfl zi)) ca'1 ?_
 have hO'3:=hO'2.call hW'1 rfl
 refine Zf (.tu [v'1,v'2]) rfl (Zj (Zbn (vs:=[v'1,v'2]) (v:=v'1) rfl rfl) (Zj (Zbn (vs:=[v'1,v'2]) (v:=v'2) rfl rfl) (Zf v'1 rfl (Zf v'2 rfl (Zd (Zc (Zk ?_)))))))
 refine Zk (Zo (Zf v'2 rfl (Zj (Za0 (hO'3.sl 3 rfl) rfl) (Zf (.n 0) rfl (Zd (Zc (Zas ?_)))))))
 obtain ⟨o'1,ho'1,hp⟩:=Zs hp
 refine W.mono (Q:=fun e fr k=>match (generalizing:=false) o'1 with
   | at_1=>e = (.exit 0)∧fr 5 = .p r'2 0∧fr 7 = v'1∧fr 8 = v'2∧Own B h k [Zbw r'2 (ZbV.c by_),eSl Zi v'1 x,eSl Zb v'2 at_1]) ?_ ?_
 ·clear hp
  refine zR (fun st fr k=>match st with | (at_,x2)=>fr 1 = v_raw∧fr 5 = .p r'2 0∧fr 7 = v'1∧fr 8 = v'2∧fr 20 = .n (x1.length:Int)∧fr 21 = .n x2∧Own B h k [Zbw r'2 (ZbV.c by_),eSl Zi v'1 x,eSl Zb v'2 at_]) ho'1 (s:=(x1,0)) ⟨rfl,rfl,rfl,rfl,rfl,rfl,(hO'3.pick [1,2,3] rfl (by decide))⟩ ?_
  rintro ⟨at_,x2⟩ q'2 k'5 ⟨q'2_1,q'2_5,q'2_7,q'2_8,q'2_20,q'2_21,hO'5⟩ o'2 hp
  dsimp only [ZO.s0] at hp
  refine Zk (Zo (Zj (zL (a:=x2) (b:=(x1.length:Int)) q'2_21 q'2_20) (Zd (Zc (Zk ?_)))))
  rcases Zt hp with ⟨b'1,hp⟩ | ⟨b'1,hp⟩
  ·refine zK (t:=(decide (x2 < (x1.length:Int)))) rfl b'1 ?_
   refine zN (Zc (Zk (Zas (Zk (Zo (Zf (.n x2) q'2_21 (Zf (.n x2) rfl ?_)))))))
   refine Zd (Zc (Zk (Zo (Zf (.n x2) rfl (Zf v_raw q'2_1 (Zj (Za0 (hO'5.rd0 s_raw.rd) rfl) (Zj (zL (a:=x2) (b:=(raw.length:Int)) rfl rfl) ?_)))))))
   refine Zd (Zc ?_)
   rcases Zt hp with ⟨b'2,hp⟩ | ⟨b'2,hp⟩
   ·refine zK (t:=(decide (x2 < (raw.length:Int)))) rfl b'2 ?_
    refine Zk (Zfj ?_)
    have hW:=hO'5.bump 15
    have fr'1:=Fresh.start k'5 15
    have nb'1:∀ {i:Nat},h.n≤k'5.n + i:=Nat.le_trans hO'5.n (Nat.le_add_right _ _)
    have hO'6:=hW
    refine ZaK v'2 q'2_8 (ZaK (.n x2) rfl ?_)
    obtain ⟨c'1,hp⟩:=Zm hp
    refine zm (zq (E:=Zb) (z:=x2) (hO'6.sl 2 rfl) rfl rfl c'1) (zm (Zax (off':=0) (off2:=0) (hO'6.sl 2 rfl) (Zl c'1) rfl rfl) (zm (zO (w:=.n ((gi at_ x2.toNat).X)) (hO'6.sl 2 rfl) rfl (Zl c'1) rfl) (ZaK v_raw q'2_1 (ZaK (.n x2) rfl ?_))))
    obtain ⟨c'2,hp⟩:=Zm hp
    refine zm (zq (E:=Zb) (z:=x2) (hO'6.rd0 s_raw.rd) rfl rfl c'2) (zm (Zax (off':=0) (off2:=0) (hO'6.rd0 s_raw.rd) (Zl c'2) rfl rfl) (zm (zO (w:=.n ((gi raw x2.toNat).X)) (hO'6.rd0 s_raw.rd) rfl (Zl c'2) rfl) (zm (ZdR (a:=((gi raw x2.toNat).X)) (b:=4) rfl rfl (by decide)) ?_)))
    obtain ⟨c'3,hp⟩:=Zm hp
    refine zm (zH (a:=((gi at_ x2.toNat).X)) (b:=(((gi raw x2.toNat).X).tmod 4)) rfl rfl c'3) (zm (zq (E:=Zb) (z:=x2) (hO'6.sl 2 rfl) rfl rfl c'1) (zm (Zax (off':=0) (off2:=0) (hO'6.sl 2 rfl) (Zl c'1) rfl rfl) (ZfX (hO'6.ste (E:=Zb) (y:=({ gi at_ x2.toNat with X:=((gi at_ x2.toNat).X) + (((gi raw x2.toNat).X).tmod 4) })) (ws:=[.n (((gi at_ x2.toNat).X) + (((gi raw x2.toNat).X).tmod 4))]) 2 rfl rfl (Zl c'1) rfl rfl ⟨rfl,Nat.le_of_ble_eq_true rfl,rfl⟩ rfl) ?_)))
    rintro _ k'7 z'1 ⟨rfl,f'3,m'1,hW⟩
    have fr'2:=fr'1.kept f'3 (by decide)
    have hO'7:=hW
    refine ZbZ ?_
    refine And.intro ?_ ?_
    ·intro q hq
     simp only [List.mem_cons,List.not_mem_nil,or_false] at hq
     rcases hq with rfl
     ·refine Za8 ?_ ?_
      ·exact (fun h=>nomatch h)
      ·exact (fun h=>nomatch h)
    refine Zc (Zfj ?_)
    have hW:=hO'7.bump 15
    have fr'3:=Fresh.start k'7 15
    have nb'2:∀ {i:Nat},h.n≤k'7.n + i:=Nat.le_trans hO'7.n (Nat.le_add_right _ _)
    have hO'8:=hW
    refine ZaK v'2 q'2_8 (ZaK (.n x2) rfl ?_)
    obtain ⟨c'4,hp⟩:=Zm hp
    refine zm (zq (E:=Zb) (z:=x2) (hO'8.sl 2 rfl:Sl Zb (k'7.bump 15) v'2 (at_.set x2.toNat ({ gi at_ x2.toNat with X:=((gi at_ x2.toNat).X) + (((gi raw x2.toNat).X).tmod 4) }))) rfl rfl c'4) (zm (Zax (off':=0) (off2:=1) (hO'8.sl 2 rfl:Sl Zb (k'7.bump 15) v'2 (at_.set x2.toNat ({ gi at_ x2.toNat with X:=((gi at_ x2.toNat).X) + (((gi raw x2.toNat).X).tmod 4) }))) (Zl c'4) rfl rfl) (zm (zO (w:=.n ((gi (at_.set x2.toNat ({ gi at_ x2.toNat with X:=((gi at_ x2.toNat).X) + (((gi raw x2.toNat).X).tmod 4) })) x2.toNat).Y)) (hO'8.sl 2 rfl:Sl Zb (k'7.bump 15) v'2 (at_.set x2.toNat ({ gi at_ x2.toNat with X:=((gi at_ x2.toNat).X) + (((gi raw x2.toNat).X).tmod 4) }))) rfl (Zl c'4) rfl) (ZaK v_raw q'2_1 (ZaK (.n x2) rfl (zm (zq (E:=Zb) (z:=x2) (hO'8.rd0 s_raw.rd) rfl rfl c'2) (zm (Zax (off':=0) (off2:=1) (hO'8.rd0 s_raw.rd) (Zl c'2) rfl rfl) (zm (zO (w:=.n ((gi raw x2.toNat).Y)) (hO'8.rd0 s_raw.rd) rfl (Zl c'2) rfl) ?_)))))))
    refine zm (ZdR (a:=((gi raw x2.toNat).Y)) (b:=4) rfl rfl (by decide)) ?_
    obtain ⟨c'5,hp⟩:=Zm hp
    refine zm (zH (a:=((gi (at_.set x2.toNat ({ gi at_ x2.toNat with X:=((gi at_ x2.toNat).X) + (((gi raw x2.toNat).X).tmod 4) })) x2.toNat).Y)) (b:=(((gi raw x2.toNat).Y).tmod 4)) rfl rfl c'5) (zm (zq (E:=Zb) (z:=x2) (hO'8.sl 2 rfl:Sl Zb (k'7.bump 15) v'2 (at_.set x2.toNat ({ gi at_ x2.toNat with X:=((gi at_ x2.toNat).X) + (((gi raw x2.toNat).X).tmod 4) }))) rfl rfl c'4) (zm (Zax (off':=0) (off2:=1) (hO'8.sl 2 rfl:Sl Zb (k'7.bump 15) v'2 (at_.set x2.toNat ({ gi at_ x2.toNat with X:=((gi at_ x2.toNat).X) + (((gi raw x2.toNat).X).tmod 4) }))) (Zl c'4) rfl rfl) (ZfX (hO'8.ste (E:=Zb) (y:=({ gi (at_.set x2.toNat ({ gi at_ x2.toNat with X:=((gi at_ x2.toNat).X) + (((gi raw x2.toNat).X).tmod 4) })) x2.toNat with Y:=((gi (at_.set x2.toNat ({ gi at_ x2.toNat with X:=((gi at_ x2.toNat).X) + (((gi raw x2.toNat).X).tmod 4) })) x2.toNat).Y) + (((gi raw x2.toNat).Y).tmod 4) })) (ws:=[.n (((gi (at_.set x2.toNat ({ gi at_ x2.toNat with X:=((gi at_ x2.toNat).X) + (((gi raw x2.toNat).X).tmod 4) })) x2.toNat).Y) + (((gi raw x2.toNat).Y).tmod 4))]) 2 rfl rfl (Zl c'4) rfl rfl ⟨rfl,Nat.le_of_ble_eq_true rfl,rfl⟩ rfl) ?_)))
    rintro _ k'9 z'2 ⟨rfl,f'4,m'2,hW⟩
    have fr'4:=fr'3.kept f'4 (by decide)
    have hO'9:=hW
    refine ZbZ ?_
    refine And.intro ?_ ?_
    ·intro q hq
     simp only [List.mem_cons,List.not_mem_nil,or_false] at hq
     rcases hq with rfl
     ·refine Za8 ?_ ?_
      ·exact (fun h=>nomatch h)
      ·exact (fun h=>nomatch h)
    refine Zan (Zc (Zo ?_))
    obtain ⟨c'6,hp⟩:=Zm hp
    refine Zj (zH (a:=x2) (b:=1) q'2_21 rfl c'6) (Zf (.n (x2 + 1)) rfl (Zd ?_))
    cases hp
    exact (Or.inl ⟨((at_.set x2.toNat ({ gi at_ x2.toNat with X:=((gi at_ x2.toNat).X) + (((gi raw x2.toNat).X).tmod 4) })).set x2.toNat ({ gi (at_.set x2.toNat ({ gi at_ x2.toNat with X:=((gi at_ x2.toNat).X) + (((gi raw x2.toNat).X).tmod 4) })) x2.toNat with Y:=((gi (at_.set x2.toNat ({ gi at_ x2.toNat with X:=((gi at_ x2.toNat).X) + (((gi raw x2.toNat).X).tmod 4) })) x2.toNat).Y) + (((gi raw x2.toNat).Y).tmod 4) }),x2 + 1),rfl,rfl,q'2_1,q'2_5,q'2_7,q'2_8,q'2_20,rfl,(hO'9.pick [0,1,2] rfl (by decide))⟩)
   ·refine zG (t:=(decide (x2 < (raw.length:Int)))) rfl b'2 ?_
    refine zN (Zan (Zc (Zo ?_)))
    obtain ⟨c'7,hp⟩:=Zm hp
    refine Zj (zH (a:=x2) (b:=1) q'2_21 rfl c'7) (Zf (.n (x2 + 1)) rfl (Zd ?_))
    cases hp
    exact (Or.inl ⟨(at_,x2 + 1),rfl,rfl,q'2_1,q'2_5,q'2_7,q'2_8,q'2_20,rfl,(hO'5.pick [0,1,2] rfl (by decide))⟩)
  ·refine zG (t:=(decide (x2 < (x1.length:Int)))) rfl b'1 ?_
   refine Zbp (zZ ?_)
   cases hp
   refine (Or.inr ⟨at_,rfl,(fun h=>nomatch h),(fun he=>?_)⟩)
   subst he; exact ⟨rfl,q'2_5,q'2_7,q'2_8,(hO'5.pick [0,1,2] rfl (by decide))⟩
 intro e'1 q'1 k'4 hJ'1
 obtain ⟨at_1,rfl⟩:∃ x,x = o'1:=⟨_,rfl⟩
 obtain ⟨rfl,q'1_5,q'1_7,q'1_8,hO'4⟩:=hJ'1
 refine ZaJ (Zc (Zk (Zo (Zf v'1 q'1_7 (Zf v'2 q'1_8 ?_)))))
 obtain ⟨x3,hx'2,hp⟩:=Zs hp
 obtain ⟨u'2,k'10,ca'2,rfl,hW'2⟩:=Zah.ok (h:=k'4)  (hO'4.sl 1 rfl) (hO'4.sl 2 rfl) hx'2
 refine ZaN (id:=208) (caps:=[]) rfl (Zu (v:=v'1) rfl (Zu (v:=v'2) rfl zi)) ca'2 ?_
 have hO'10:=hO'4.call hW'2 rfl
 refine Zf (.n x3) rfl (Zd (Zc (Zk (Zo (Zj (Zdc (o:=0) (o':=2) (z:=2) q'1_5 rfl (by decide) rfl) (Zj (zV (cs:=(ZbV.c by_)) (v:=.i .i8 (by_.get 2)) (hO'10.box 0 rfl) rfl rfl) (Zj (Zdo (a:=(by_.get 2)) (b:=7) (v:=.i .i8 (Zp .i8 (by_.get 2) 7)) rfl rfl (by decide) rfl) ?_)))))))
 obtain ⟨c'8,hp⟩:=Zm hp
 refine Zj (ZdB (a:=(Zp .i8 (by_.get 2) 7)) rfl c'8) ?_
 obtain ⟨c'9,hp⟩:=Zm hp
 refine Zj (zH (a:=1) (b:=(Zp .i8 (by_.get 2) 7)) rfl rfl c'9) (Zf (.n (1 + (Zp .i8 (by_.get 2) 7))) rfl (Zd (Zc (Zk (Zo (Zf v'2 q'1_8 ?_))))))
 obtain ⟨x4,hx'3,hp⟩:=Zs hp
 obtain ⟨u'3,k'11,ca'3,v'3,rfl,hW'3⟩:=ZaQ.ok (h:=k'10)  (hO'10.sl 2 rfl) hx'3
 refine ZaN (id:=165) (caps:=[]) rfl (Zu (v:=v'2) rfl zi) ca'3 ?_
 have hO'11:=hO'10.call hW'3 rfl
 refine Zf v'3 rfl (Zd (Zc (Zk (Zk (Zo (Zf v'3 rfl (Zj (Za0 (hO'11.sl 3 rfl) rfl) ?_)))))))
 refine Zf (.n 0) rfl (Zd (Zc (Zas ?_)))
 obtain ⟨o'3,ho'2,hp⟩:=Zs hp
 refine W.mono (Q:=fun e fr k=>match (generalizing:=false) o'3 with
   | wide1=>e = (.exit 2)∧fr 7 = v'1∧fr 8 = v'2∧fr 10 = .n x3∧fr 12 = v'3∧Own B h k [eSl Zi v'1 x,eSl Zb v'2 at_1,eSl Zb v'3 wide1]) ?_ ?_
 ·clear hp
  refine zR (fun st fr k=>match st with | (wide,x5)=>fr 5 = .p r'2 0∧fr 7 = v'1∧fr 8 = v'2∧fr 10 = .n x3∧fr 11 = .n (1 + (Zp .i8 (by_.get 2) 7))∧fr 12 = v'3∧fr 68 = .n (x4.length:Int)∧fr 69 = .n x5∧Own B h k [Zbw r'2 (ZbV.c by_),eSl Zi v'1 x,eSl Zb v'2 at_1,eSl Zb v'3 wide]) ho'2 (s:=(x4,0)) ⟨q'1_5,q'1_7,q'1_8,rfl,rfl,rfl,rfl,rfl,(hO'11.pick [0,1,2,3] rfl (by decide))⟩ ?_
  rintro ⟨wide,x5⟩ q'4 k'13 ⟨q'4_5,q'4_7,q'4_8,q'4_10,q'4_11,q'4_12,q'4_68,q'4_69,hO'13⟩ o'4 hp
  dsimp only [ZO.s1] at hp
  refine Zk (Zo (Zj (zL (a:=x5) (b:=(x4.length:Int)) q'4_69 q'4_68) (Zd (Zc (Zk ?_)))))
  rcases Zt hp with ⟨b'3,hp⟩ | ⟨b'3,hp⟩
  ·refine zK (t:=(decide (x5 < (x4.length:Int)))) rfl b'3 ?_
   refine zN (Zc (Zk (Zas (Zk (Zo (Zf (.n x5) q'4_69 (Zf (.n x5) rfl ?_)))))))
   refine Zd (Zc (Zfj ?_))
   have hW:=hO'13.bump 27
   have fr'5:=Fresh.start k'13 27
   have nb'3:∀ {i:Nat},h.n≤k'13.n + i:=Nat.le_trans hO'13.n (Nat.le_add_right _ _)
   have hO'14:=hW
   refine ZaK v'3 q'4_12 (ZaK (.n x5) rfl (ZaK (.n (1 + (Zp .i8 (by_.get 2) 7))) q'4_11 (ZaK v'3 q'4_12 (ZaK (.n x5) rfl ?_))))
   obtain ⟨c'10,hp⟩:=Zm hp
   refine zm (zq (E:=Zb) (z:=x5) (hO'14.sl 3 rfl) rfl rfl c'10) (zm (Zax (off':=0) (off2:=0) (hO'14.sl 3 rfl) (Zl c'10) rfl rfl) (zm (zO (w:=.n ((gi wide x5.toNat).X)) (hO'14.sl 3 rfl) rfl (Zl c'10) rfl) ?_))
   obtain ⟨c'11,hp⟩:=Zm hp
   refine zm (Zjd (a:=(1 + (Zp .i8 (by_.get 2) 7))) (b:=((gi wide x5.toNat).X)) rfl rfl c'11) (zm (Zdc (o:=0) (o':=0) (z:=0) q'4_5 rfl (by decide) rfl) (zm (zV (cs:=(ZbV.c by_)) (v:=.i .i8 (by_.get 0)) (hO'14.box 0 rfl) rfl rfl) ?_))
   obtain ⟨c'12,hp⟩:=Zm hp
   refine zm (ZdB (a:=(by_.get 0)) rfl c'12) ?_
   obtain ⟨c'13,hp⟩:=Zm hp
   refine zm (zH (a:=((1 + (Zp .i8 (by_.get 2) 7)) * ((gi wide x5.toNat).X))) (b:=(by_.get 0)) rfl rfl c'13) (ZaK (.n (1 + (Zp .i8 (by_.get 2) 7))) q'4_11 (ZaK v'3 q'4_12 (ZaK (.n x5) rfl (zm (zq (E:=Zb) (z:=x5) (hO'14.sl 3 rfl) rfl rfl c'10) (zm (Zax (off':=0) (off2:=1) (hO'14.sl 3 rfl) (Zl c'10) rfl rfl) (zm (zO (w:=.n ((gi wide x5.toNat).Y)) (hO'14.sl 3 rfl) rfl (Zl c'10) rfl) ?_))))))
   obtain ⟨c'14,hp⟩:=Zm hp
   refine zm (Zjd (a:=(1 + (Zp .i8 (by_.get 2) 7))) (b:=((gi wide x5.toNat).Y)) rfl rfl c'14) (zm (Zdc (o:=0) (o':=1) (z:=1) q'4_5 rfl (by decide) rfl) (zm (zV (cs:=(ZbV.c by_)) (v:=.i .i8 (by_.get 1)) (hO'14.box 0 rfl) rfl rfl) ?_))
   obtain ⟨c'15,hp⟩:=Zm hp
   refine zm (ZdB (a:=(by_.get 1)) rfl c'15) ?_
   obtain ⟨c'16,hp⟩:=Zm hp
   refine zm (zH (a:=((1 + (Zp .i8 (by_.get 2) 7)) * ((gi wide x5.toNat).Y))) (b:=(by_.get 1)) rfl rfl c'16) (zm (Zbh (cs:=Zb.c (⟨((1 + (Zp .i8 (by_.get 2) 7)) * ((gi wide x5.toNat).X)) + (by_.get 0),((1 + (Zp .i8 (by_.get 2) 7)) * ((gi wide x5.toNat).Y)) + (by_.get 1)⟩:Ze)) (by rw [(zp (v:=.n (((1 + (Zp .i8 (by_.get 2) 7)) * ((gi wide x5.toNat).X)) + (by_.get 0))) rfl (zp (v:=.n (((1 + (Zp .i8 (by_.get 2) 7)) * ((gi wide x5.toNat).Y)) + (by_.get 1))) rfl Zak))]; rfl)) (zm (zq (E:=Zb) (z:=x5) (hO'14.sl 3 rfl) rfl rfl c'10) (ZfX (hO'14.ste (E:=Zb) (y:=(⟨((1 + (Zp .i8 (by_.get 2) 7)) * ((gi wide x5.toNat).X)) + (by_.get 0),((1 + (Zp .i8 (by_.get 2) 7)) * ((gi wide x5.toNat).Y)) + (by_.get 1)⟩:Ze)) (ws:=Zb.c (⟨((1 + (Zp .i8 (by_.get 2) 7)) * ((gi wide x5.toNat).X)) + (by_.get 0),((1 + (Zp .i8 (by_.get 2) 7)) * ((gi wide x5.toNat).Y)) + (by_.get 1)⟩:Ze)) 3 rfl rfl (Zl c'10) rfl rfl ⟨rfl,Nat.le_of_ble_eq_true rfl,rfl⟩ rfl) ?_)))
   rintro _ k'15 z'3 ⟨rfl,f'5,m'3,hW⟩
   have fr'6:=fr'5.kept f'5 (by decide)
   have hO'15:=hW
   refine ZbZ ?_
   refine And.intro ?_ ?_
   ·intro q hq
    simp only [List.mem_cons,List.not_mem_nil,or_false] at hq
    rcases hq with rfl | rfl | rfl | rfl | rfl | rfl
    ·refine Za8 ?_ ?_
     ·exact (fun h=>nomatch h)
     ·exact (fun h=>nomatch h)
    ·refine Za8 ?_ ?_
     ·exact (fun h=>nomatch h)
     ·exact (fun h=>nomatch h)
    ·refine Za8 ?_ ?_
     ·exact (fun h=>nomatch h)
     ·exact (fun h=>nomatch h)
    ·refine Za8 ?_ ?_
     ·exact (fun h=>nomatch h)
     ·exact (fun h=>nomatch h)
    ·refine Za8 ?_ ?_
     ·exact (fun h=>nomatch h)
     ·exact (fun h=>nomatch h)
    ·refine Za8 ?_ ?_
     ·exact (fun h=>nomatch h)
     ·exact (fun h=>nomatch h)
   refine Zan (Zc (Zo ?_))
   obtain ⟨c'17,hp⟩:=Zm hp
   refine Zj (zH (a:=x5) (b:=1) q'4_69 rfl c'17) (Zf (.n (x5 + 1)) rfl (Zd ?_))
   cases hp
   exact (Or.inl ⟨(wide.set x5.toNat (⟨((1 + (Zp .i8 (by_.get 2) 7)) * ((gi wide x5.toNat).X)) + (by_.get 0),((1 + (Zp .i8 (by_.get 2) 7)) * ((gi wide x5.toNat).Y)) + (by_.get 1)⟩:Ze),x5 + 1),rfl,rfl,q'4_5,q'4_7,q'4_8,q'4_10,q'4_11,q'4_12,q'4_68,rfl,(hO'15.pick [0,1,2,3] rfl (by decide))⟩)
  ·refine zG (t:=(decide (x5 < (x4.length:Int)))) rfl b'3 ?_
   refine Zbp (zZ ?_)
   cases hp
   refine (Or.inr ⟨wide,rfl,(fun h=>nomatch h),(fun he=>?_)⟩)
   subst he; exact ⟨rfl,q'4_7,q'4_8,q'4_10,q'4_12,(hO'13.pick [1,2,3] rfl (by decide))⟩
 intro e'2 q'3 k'12 hJ'2
 obtain ⟨wide1,rfl⟩:∃ x,x = o'3:=⟨_,rfl⟩
 obtain ⟨rfl,q'3_7,q'3_8,q'3_10,q'3_12,hO'12⟩:=hJ'2
 refine ZaJ (Zc (Zk (Zo ?_)))
 obtain ⟨x6,hx'4,hp⟩:=Zs hp
 obtain ⟨u'4,k'16,ca'4,rfl,hW'4⟩:=Zbb.ok (h:=k'12)   hx'4
 refine ZaN (id:=185) (caps:=[]) rfl zi ca'4 ?_
 have hO'16:=hO'12.call hW'4 rfl
 refine Zf (.b x6) rfl ?_
 obtain ⟨t,hv'1,hp⟩:=Zs hp
 refine ZaF 6 (fun fr' k'=>Own B h k' [eSl Zi v'1 x,eSl Zb v'2 at_1,eSl Zb v'3 wide1]∧fr' 106 = .b t∧fr' 10 = .n x3∧fr' 7 = v'1∧fr' 8 = v'2) ?_ ?_
 ·clear hp; rcases Zt hv'1 with ⟨b'4,hp⟩ | ⟨b'4,hp⟩
  ·skip
   refine ZM rfl b'4 (Zf v'1 q'3_7 (ZM rfl b'4 (Zf v'3 q'3_12 (ZM rfl b'4 ?_))))
   obtain ⟨x7,hx'5,hp⟩:=Zs hp
   obtain ⟨u'5,k'17,ca'5,rfl,hW'5⟩:=Zah.ok (h:=k'16)  (hO'16.sl 0 rfl) (hO'16.sl 2 rfl) hx'5
   refine ZaN (id:=208) (caps:=[]) rfl (Zu (v:=v'1) rfl (Zu (v:=v'3) rfl zi)) ca'5 ?_
   have hO'17:=hO'16.call hW'5 rfl
   refine ZM rfl b'4 (Zf (.n x3) q'3_10 (ZM rfl b'4 (Zj (Zb2 (a:=x7) (b:=x3) rfl rfl) (Zj (zn (t:=x6) (v:=.b t) rfl b'4 (Eq.trans (b:=V.b (decide (x7 = x3))) rfl (congrArg V.b (Option.some.inj hp)))) (Zd ?_)))))
   exact ⟨hO'17.pick [0,1,2] rfl (by decide),rfl,q'3_10,q'3_7,q'3_8⟩
  ·skip
   refine Z1 rfl b'4 (Z1 rfl b'4 (Z1 rfl b'4 (Z1 rfl b'4 (Z1 rfl b'4 (Zj (ze (t:=x6) (v:=.b t) rfl b'4 (Eq.trans (b:=V.b false) rfl (congrArg V.b (Option.some.inj hp)))) (Zd ?_))))))
   exact ⟨hO'16.pick [0,1,2] rfl (by decide),rfl,q'3_10,q'3_7,q'3_8⟩
 rintro frg'1 k'18 ⟨hO'18,g'1_106,g'1_10,g'1_7,g'1_8⟩
 refine Zf (.b t) g'1_106 ?_
 obtain ⟨t1,hv'2,hp⟩:=Zs hp
 refine ZaF 8 (fun fr' k'=>Own B h k' [eSl Zi v'1 x,eSl Zb v'2 at_1,eSl Zb v'3 wide1]∧fr' 115 = .b t1) ?_ ?_
 ·clear hp; rcases Zt hv'2 with ⟨b'5,hp⟩ | ⟨b'5,hp⟩
  ·skip
   refine ZM rfl b'5 (Zf v'1 g'1_7 (ZM rfl b'5 ?_))
   obtain ⟨x8,hx'6,hp⟩:=Zs hp
   obtain ⟨u'6,k'19,ca'6,v'4,rfl,hW'6⟩:=ZX.ok (h:=k'18)  (hO'18.sl 0 rfl) hx'6
   refine ZaN (id:=116) (caps:=[]) rfl (Zu (v:=v'1) rfl zi) ca'6 ?_
   have hO'19:=hO'18.call hW'6 rfl
   refine ZM rfl b'5 (Zf v'2 g'1_8 (ZM rfl b'5 ?_))
   obtain ⟨x9,hx'7,hp⟩:=Zs hp
   obtain ⟨u'7,k'20,ca'7,v'5,rfl,hW'7⟩:=z2.ok (h:=k'19)  (hO'19.sl 1 rfl) hx'7
   refine ZaN (id:=164) (caps:=[]) rfl (Zu (v:=v'2) rfl zi) ca'7 ?_
   have hO'20:=hO'19.call hW'7 rfl
   refine ZM rfl b'5 ?_
   obtain ⟨x10,hx'8,hp⟩:=Zs hp
   obtain ⟨u'8,k'21,ca'8,rfl,hW'8⟩:=Zah.ok (h:=k'20)  (hO'20.sl 3 rfl) (hO'20.sl 4 rfl) hx'8
   refine ZaN (id:=208) (caps:=[]) rfl (Zu (v:=v'4) rfl (Zu (v:=v'5) rfl zi)) ca'8 ?_
   have hO'21:=hO'20.call hW'8 rfl
   refine ZM rfl b'5 (Zf (.n x3) g'1_10 (ZM rfl b'5 (Zj (Zb2 (a:=x10) (b:=x3) rfl rfl) (Zj (zn (t:=t) (v:=.b t1) rfl b'5 (Eq.trans (b:=V.b (decide (x10 = x3))) rfl (congrArg V.b (Option.some.inj hp)))) (Zd ?_)))))
   exact ⟨hO'21.pick [0,1,2] rfl (by decide),rfl⟩
  ·skip
   refine Z1 rfl b'5 (Z1 rfl b'5 (Z1 rfl b'5 (Z1 rfl b'5 (Z1 rfl b'5 (Z1 rfl b'5 (Z1 rfl b'5 (Zj (ze (t:=t) (v:=.b t1) rfl b'5 (Eq.trans (b:=V.b false) rfl (congrArg V.b (Option.some.inj hp)))) ?_)))))))
   refine Zd ?_
   exact ⟨hO'18.pick [0,1,2] rfl (by decide),rfl⟩
 rintro frg'2 k'22 ⟨hO'22,g'2_115⟩
 refine Zf (.b t1) g'2_115 (Zd (Zc (zY (zx (zC (n:=6) (v:=.b t1) rfl ZS) ?_))))
 cases hp
 exact ⟨rfl,(hO'22.pick [] rfl (by decide))⟩

end Mu
