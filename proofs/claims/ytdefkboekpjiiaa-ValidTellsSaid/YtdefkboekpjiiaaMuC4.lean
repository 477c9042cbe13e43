/- The code comes to what was worked out. -/
import Derived.Test.YtdefkboekpjiiaaMuDf
import Derived.Test.YtdefkboekpjiiaaMuPa
import Derived.Test.YtdefkboekpjiiaaMuC3
set_option linter.unusedVariables false
set_option linter.unnecessarySimpa false
set_option linter.unusedSimpArgs false
set_option maxHeartbeats 2000000
set_option maxRecDepth 10000
namespace Mu
open Go (IntKind BinOp UnOp)
theorem ZT.ok {h:Hp} {s:z6} {v_s_Boxes:V} {v_s_Edges:V} (s_s_Boxes:Sl e_bool h v_s_Boxes s.Boxes) (s_s_Edges:Sl Zs h v_s_Edges s.Edges) {r:Zau} (hp:ZT s = some r) :
  ∃ u k',Is G 175 [.ag [v_s_Boxes,v_s_Edges]] h u k'∧∃ (v'1:V),∃ (v'2:V),∃ (v'3:V),∃ (v'4:V),∃ (vs'1:List V),V.ag [v'1,v'2,v'3,v'4] = u∧Own (fun r=>r < h.n) h k' [eSl Zh v'1 r.Cells,eSl zn v'2 r.First,eSl Zai v'3 r.Ends,eSl eV v'4 vs'1,Zbt zn vs'1 r.Ways]:=by
 refine WC.is (ZaQ Zdk ?_)
 unfold ZT at hp
 let B:Nat→Prop:=(fun r=>r < h.n)
 have hO:Own B h h []:=Own.start0 h
 refine Zf (Zl (zA (hO.boxd (v:=.ag [v_s_Boxes,v_s_Edges]) (cs:=[v_s_Boxes,v_s_Edges]) hO.fr rfl rfl) ?_))
 rintro _ k'1 ⟨r'1,rfl,n'1,f'1,hW⟩
 have hO'1:=hW
 refine zA (hO'1.alloc (cs:=[.sn,.sn,.sn,.sn]) hO'1.fr) ?_
 rintro _ k'2 ⟨r'2,rfl,n'2,f'2,hW⟩
 have hO'2:=hW
 refine Zb (Za (Zf (Zl (Ze (zU (r:=r'1) (o:=0) (o':=1) rfl rfl) (Ze (zy (cs:=[v_s_Boxes,v_s_Edges]) (v:=v_s_Edges) (hO'2.box 0 rfl) rfl rfl) (Ze (Zao (hO'2.rd0 s_s_Edges.rd) rfl) ?_))))))
 obtain ⟨c'1,hp⟩:=Zg hp
 refine zA (hO'2.mks (E:=Zai) (y:=(⟨0,0⟩:A2 Int)) (bytes:=16) (z:=(s.Edges.length:Int)) hO'2.fr rfl rfl rfl c'1 (by decide)) ?_
 rintro v'5 k'3 ⟨r'3,f'3,hW⟩
 have hO'3:=hW
 refine Ze (ZcG (cs:=[.sn,.sn,v'5,.sn]) (by rw [(z9 (v:=v'5) rfl ZaI)]; simp [fill,over,Zh9,Zh7,Zh8,ZhB,Zh6,ZhA,(Sl.nil:Sl Zh k'3 .sn ([]:List Zc)).cells,(Sl.nil:Sl zn k'3 .sn ([]:List Int)).cells,(hO'3.sl 2 rfl:Sl Zai k'3 v'5 (List.replicate ((s.Edges.length:Int):Int).toNat (⟨0,0⟩:A2 Int))).cells,(Sl.nil:Sl eV k'3 .sn []).cells])) (zA (hO'3.alloc (cs:=[.sn,.sn,.sn,.sn]) hO'3.fr) ?_)
 rintro _ k'4 ⟨r'4,rfl,n'3,f'4,hW⟩
 have hO'4:=hW
 refine zA (hO'4.stb (ws:=[.sn,.sn,v'5,.sn]) (cs':=[.sn,.sn,v'5,.sn]) (v:=.ag [.sn,.sn,v'5,.sn]) 3 rfl rfl rfl rfl ⟨rfl,Nat.le_of_ble_eq_true rfl,(all_cons (Sl.nil:Sl Zh k'4 .sn ([]:List Zc)).oneV (all_cons (Sl.nil:Sl zn k'4 .sn ([]:List Int)).oneV (all_cons (hO'4.sl 2 rfl:Sl Zai k'4 v'5 (List.replicate ((s.Edges.length:Int):Int).toNat (⟨0,0⟩:A2 Int))).oneV (all_cons (Sl.nil:Sl eV k'4 .sn []).oneV all_nil))))⟩ rfl) ?_
 rintro _ k'5 ⟨rfl,f'5,m'1,hW⟩
 have hO'5:=hW
 refine Zb (Za (Zf (Zf (Zl (Zd (.n 0) rfl (Zb (Za ?_)))))))
 refine Zae ?_
 obtain ⟨o'1,ho'1,hp⟩:=Zp hp
 refine W.mono (Q:=fun e fr k=>match (generalizing:=false) o'1 with
   | (n4,n5,n6,n7)=>e = (.exit 0)∧∃ (v'10:V),∃ (v'11:V),∃ (v'12:V),∃ (v'13:V),∃ (vs'3:List V),fr 1 = .p r'1 0∧fr 2 = .p r'2 0∧fr 3 = .p r'4 0∧Own B h k [Zac r'1 [v_s_Boxes,v_s_Edges],Zac r'2 [.sn,.sn,.sn,.sn],Zac r'4 [v'10,v'11,v'12,v'13],eSl Zh v'10 n4,eSl zn v'11 n5,eSl Zai v'12 n6,eSl eV v'13 vs'3,Zbt zn vs'3 n7]) ?_ ?_
 ·clear hp
  have hO'7:=hO'5.nil Zh
  have hO'8:=hO'7.nil zn
  have hO'9:=hO'8.nil eV
  have hO'10:=hO'9.allNil zn 0
  refine zC (fun st fr k=>match st with | (n,n1,n2,n3,v)=>∃ (v'6:V),∃ (v'7:V),∃ (v'8:V),∃ (v'9:V),∃ (vs'2:List V),fr 1 = .p r'1 0∧fr 2 = .p r'2 0∧fr 3 = .p r'4 0∧fr 4 = .n v∧Own B h k [Zac r'1 [v_s_Boxes,v_s_Edges],Zac r'2 [.sn,.sn,.sn,.sn],Zac r'4 [v'6,v'7,v'8,v'9],eSl Zh v'6 n,eSl zn v'7 n1,eSl Zai v'8 n2,eSl eV v'9 vs'2,Zbt zn vs'2 n3]) ho'1 (s:=(([]:List Zc),([]:List Int),List.replicate ((s.Edges.length:Int):Int).toNat (⟨0,0⟩:A2 Int),([]:List (List Int)),0)) ⟨V.sn,V.sn,v'5,V.sn,[],rfl,rfl,rfl,rfl,(hO'10.pick [0,1,3,4,5,2,6,7] rfl (by decide))⟩ ?_
  rintro ⟨n,n1,n2,n3,v⟩ q'2 k'7 ⟨v'6,v'7,v'8,v'9,vs'2,q'2_1,q'2_2,q'2_3,q'2_4,hO'11⟩ o'2 hp
  dsimp only [ZT.s0] at hp
  refine Zf (Zf (Zl (Zd (.n v) q'2_4 (Ze (zU (r:=r'1) (o:=0) (o':=0) q'2_1 rfl) (Ze (zy (cs:=[v_s_Boxes,v_s_Edges]) (v:=v_s_Boxes) (hO'11.box 0 rfl) rfl rfl) (Ze (Zao (hO'11.rd0 s_s_Boxes.rd) rfl) (Ze (zJ (a:=v) (b:=(s.Boxes.length:Int)) rfl rfl) ?_)))))))
  refine Zb (Za ?_)
  rcases Zt hp with ⟨b'1,hp⟩ | ⟨b'1,hp⟩
  ·refine zH (t:=(decide (v < (s.Boxes.length:Int)))) rfl b'1 ?_
   refine zM (Za (Zf (Zae (Zf (Zl (Ze (zU (r:=r'4) (o:=0) (o':=0) q'2_3 rfl) (Ze (zy (cs:=[v'6,v'7,v'8,v'9]) (v:=v'6) (hO'11.box 2 rfl) rfl rfl) ?_)))))))
   refine Ze (Zao (hO'11.sl 3 rfl) rfl) (Zd (.n (n.length:Int)) rfl (Zb (Za (Zf (Zl (Ze (zU (r:=r'4) (o:=0) (o':=1) q'2_3 rfl) (Ze (zy (cs:=[v'6,v'7,v'8,v'9]) (v:=v'7) (hO'11.box 2 rfl) rfl rfl) ?_)))))))
   refine Zd (.n (n.length:Int)) rfl (zA (hO'11.bsl (E:=zn) (l:=[(n.length:Int)]) hO'11.fr (by rw [(z9 (v:=.n (n.length:Int)) rfl ZaI)]; rfl) rfl) ?_)
   rintro v'14 k'8 ⟨r'5,f'6,hW⟩
   have hO'12:=hW
   obtain ⟨c'2,hp⟩:=Zg hp
   refine zA (hO'12.app (E:=zn) (bytes:=8) 4 hO'12.fr rfl (hO'12.sl 8 rfl) rfl rfl (fun _=>rfl) c'2 (by decide)) ?_
   rintro v'15 k'9 ⟨f'7,hW⟩
   have hO'13:=hW
   refine Ze (zU (r:=r'4) (o:=0) (o':=1) q'2_3 rfl) (zA (hO'13.stb (ws:=[v'15]) (cs':=[v'6,v'15,v'8,v'9]) (v:=v'15) 2 rfl rfl rfl (hO'13.sl 4 rfl:Sl zn k'9 v'15 (n1++[(n.length:Int)])).cells ⟨rfl,Nat.le_of_ble_eq_true rfl,(all_cons (hO'13.sl 4 rfl:Sl zn k'9 v'15 (n1++[(n.length:Int)])).oneV rfl)⟩ rfl) ?_)
   rintro _ k'10 ⟨rfl,f'8,m'2,hW⟩
   have hO'14:=hW
   refine Zb (Za (Zf (Zf (Zl (Ze (zU (r:=r'1) (o:=0) (o':=0) q'2_1 rfl) (Ze (zy (cs:=[v_s_Boxes,v_s_Edges]) (v:=v_s_Boxes) (hO'14.box 0 rfl) rfl rfl) (Zd (.n v) q'2_4 ?_)))))))
   obtain ⟨c'3,hp⟩:=Zg hp
   refine Ze (z3 (E:=e_bool) (z:=v) (hO'14.rd0 s_s_Boxes.rd) rfl rfl c'3) (Ze (zO (w:=.b (gi s.Boxes v.toNat)) (hO'14.rd0 s_s_Boxes.rd) rfl (Zo c'3) rfl) (Zb (Za ?_)))
   rcases Zt hp with ⟨b'2,hp⟩ | ⟨b'2,hp⟩
   ·refine zH (t:=(gi s.Boxes v.toNat)) rfl b'2 ?_
    refine Zf (Zl (Ze (ZaM (cs:=[v'6,v'15,v'8,v'9]) (ws:=[v'6,v'15,v'8,v'9]) (hO'14.box 2 rfl) q'2_3 rfl) (Ze (ZaM (cs:=[v_s_Boxes,v_s_Edges]) (ws:=[v_s_Boxes,v_s_Edges]) (hO'14.box 0 rfl) q'2_1 rfl) (Zd (.n v) q'2_4 ?_))))
    obtain ⟨x,hx'1,hp⟩:=Zp hp
    obtain ⟨u'1,k'11,ca'1,v'16,v'17,v'18,v'19,vs'4,rfl,hW'1⟩:=zS.ok (h:=k'10) (n:=(⟨n,n1++[(n.length:Int)],n2,n3⟩:Zau)) (s:=s) (v:=v) (hO'14.toM [3,4,5,6,7] rfl (by decide)) (hO'14.rdM [3,4,5,6,7] rfl s_s_Boxes.rd) (hO'14.rdM [3,4,5,6,7] rfl s_s_Edges.rd) hx'1
    refine Za8 (id:=200) (caps:=[]) rfl (Zx (v:=.ag [v'6,v'15,v'8,v'9]) rfl (Zx (v:=.ag [v_s_Boxes,v_s_Edges]) rfl (Zx (v:=.n v) rfl zo))) ca'1 ?_
    have hO'15:=(hO'14.callM [3,4,5,6,7] [0,1,2,8] rfl rfl (by decide) hW'1 rfl).pick [0,1,2,900,901,902,903,904,3,4,5,6,7,8] rfl (by decide)
    refine zA (hO'15.stb (ws:=[v'16,v'17,v'18,v'19]) (cs':=[v'16,v'17,v'18,v'19]) (v:=.ag [v'16,v'17,v'18,v'19]) 2 rfl q'2_3 rfl rfl ⟨rfl,Nat.le_of_ble_eq_true rfl,(all_cons (hO'15.sl 9 rfl).oneV (all_cons (hO'15.sl 10 rfl).oneV (all_cons (hO'15.sl 11 rfl).oneV (all_cons (hO'15.sl 12 rfl).oneV all_nil))))⟩ rfl) ?_
    rintro _ k'12 ⟨rfl,f'9,m'3,hW⟩
    have hO'16:=hW
    refine Zb (Za (ZaZ (zN (Zax (Za (Zl (Zd (.n v) q'2_4 ?_)))))))
    obtain ⟨c'4,hp⟩:=Zg hp
    refine Ze (zu (a:=v) (b:=1) rfl rfl c'4) (Zd (.n (v + 1)) rfl (Zb ?_))
    cases hp
    exact (Or.inl ⟨(x.Cells,x.First,x.Ends,x.Ways,v + 1),rfl,rfl,v'16,v'17,v'18,v'19,vs'4,q'2_1,q'2_2,q'2_3,rfl,(hO'16.pick [0,1,2,9,10,11,12,13] rfl (by decide))⟩)
   ·refine zG (t:=(gi s.Boxes v.toNat)) rfl b'2 ?_
    refine zM (Za (Zf (Zl ?_)))
    obtain ⟨x1,hx'2,hp⟩:=Zp hp
    obtain ⟨u'2,k'13,ca'2,v'20,rfl,hW'2⟩:=ZJ.ok (h:=k'10)   hx'2
    refine Za8 (id:=46) (caps:=[]) rfl (Zx (v:=.n 1) rfl zo) ca'2 ?_
    have hO'17:=hO'14.call hW'2 rfl
    refine Zd v'20 rfl (Zb (Za (Zf (Zl (Ze (zU (r:=r'4) (o:=0) (o':=0) q'2_3 rfl) (Ze (zy (cs:=[v'6,v'15,v'8,v'9]) (v:=v'6) (hO'17.box 2 rfl) rfl rfl) (Zd v'20 rfl ?_)))))))
    obtain ⟨c'5,hp⟩:=Zg hp
    refine zA (hO'17.app (E:=Zh) (bytes:=64) 3 hO'17.fr rfl (hO'17.sl 9 rfl) rfl rfl (fun _=>rfl) c'5 (by decide)) ?_
    rintro v'21 k'14 ⟨f'10,hW⟩
    have hO'18:=hW
    refine Ze (zU (r:=r'4) (o:=0) (o':=0) q'2_3 rfl) (zA (hO'18.stb (ws:=[v'21]) (cs':=[v'21,v'15,v'8,v'9]) (v:=v'21) 2 rfl rfl rfl (hO'18.sl 3 rfl).cells ⟨rfl,Nat.le_of_ble_eq_true rfl,(all_cons (hO'18.sl 3 rfl).oneV rfl)⟩ rfl) ?_)
    rintro _ k'15 ⟨rfl,f'11,m'4,hW⟩
    have hO'19:=hW
    refine Zb (Za (Zf (Zl (Zd (.n 0) rfl (Zb (Za (Zae ?_)))))))
    obtain ⟨o'3,ho'2,hp⟩:=Zp hp
    refine W.mono (Q:=fun e fr k=>match (generalizing:=false) o'3 with
      | n9=>e = (.exit 2)∧fr 1 = .p r'1 0∧fr 2 = .p r'2 0∧fr 3 = .p r'4 0∧fr 4 = .n v∧Own B h k [Zac r'1 [v_s_Boxes,v_s_Edges],Zac r'2 [.sn,.sn,.sn,.sn],Zac r'4 [v'21,v'15,v'8,v'9],eSl Zh v'21 (n++x1),eSl zn v'15 (n1++[(n.length:Int)]),eSl Zai v'8 n9,eSl eV v'9 vs'2,Zbt zn vs'2 n3]) ?_ ?_
    ·clear hp
     refine zC (fun st fr k=>match st with | (n8,d)=>fr 1 = .p r'1 0∧fr 2 = .p r'2 0∧fr 3 = .p r'4 0∧fr 4 = .n v∧fr 5 = .n (n.length:Int)∧fr 7 = .n d∧Own B h k [Zac r'1 [v_s_Boxes,v_s_Edges],Zac r'2 [.sn,.sn,.sn,.sn],Zac r'4 [v'21,v'15,v'8,v'9],eSl Zh v'21 (n++x1),eSl zn v'15 (n1++[(n.length:Int)]),eSl Zai v'8 n8,eSl eV v'9 vs'2,Zbt zn vs'2 n3]) ho'2 (s:=(n2,0)) ⟨q'2_1,q'2_2,q'2_3,q'2_4,rfl,rfl,(hO'19.pick [0,1,2,3,4,5,6,7] rfl (by decide))⟩ ?_
     rintro ⟨n8,d⟩ q'4 k'17 ⟨q'4_1,q'4_2,q'4_3,q'4_4,q'4_5,q'4_7,hO'21⟩ o'4 hp
     dsimp only [ZT.s1] at hp
     refine Zf (Zf (Zl (Zd (.n d) q'4_7 (Ze (zJ (a:=d) (b:=4) rfl rfl) (Zb (Za ?_))))))
     rcases Zt hp with ⟨b'3,hp⟩ | ⟨b'3,hp⟩
     ·refine zH (t:=(decide (d < 4))) rfl b'3 ?_
      refine zM (Za (Zf (Zae (Zf (Zl (Ze (ZaM (cs:=[v_s_Boxes,v_s_Edges]) (ws:=[v_s_Boxes,v_s_Edges]) (hO'21.box 0 rfl) q'4_1 rfl) (Zd (.n v) q'4_4 ?_)))))))
      refine Zd (.n d) q'4_7 ?_
      obtain ⟨x2,hx'3,hp⟩:=Zp hp
      obtain ⟨u'3,k'18,ca'3,v'22,rfl,hW'3⟩:=zV.ok (h:=k'17)  (hO'21.rd0 s_s_Boxes.rd) (hO'21.rd0 s_s_Edges.rd) hx'3
      refine Za8 (id:=199) (caps:=[]) rfl (Zx (v:=.ag [v_s_Boxes,v_s_Edges]) rfl (Zx (v:=.n v) rfl (Zx (v:=.n d) rfl zo))) ca'3 ?_
      have hO'22:=hO'21.call hW'3 rfl
      refine Zd v'22 rfl (Zb (Za (Zf (Zl (Zd (.n 0) rfl (Zb (Za ?_)))))))
      refine Zae ?_
      obtain ⟨o'5,ho'3,hp⟩:=Zp hp
      refine W.mono (Q:=fun e fr k=>match (generalizing:=false) o'5 with
        | n11=>e = (.exit 4)∧fr 1 = .p r'1 0∧fr 2 = .p r'2 0∧fr 3 = .p r'4 0∧fr 4 = .n v∧fr 5 = .n (n.length:Int)∧fr 7 = .n d∧Own B h k [Zac r'1 [v_s_Boxes,v_s_Edges],Zac r'2 [.sn,.sn,.sn,.sn],Zac r'4 [v'21,v'15,v'8,v'9],eSl Zh v'21 (n++x1),eSl zn v'15 (n1++[(n.length:Int)]),eSl Zai v'8 n11,eSl eV v'9 vs'2,Zbt zn vs'2 n3]) ?_ ?_
      ·clear hp
       refine zC (fun st fr k=>match st with | (n10,i)=>fr 1 = .p r'1 0∧fr 2 = .p r'2 0∧fr 3 = .p r'4 0∧fr 4 = .n v∧fr 5 = .n (n.length:Int)∧fr 7 = .n d∧fr 8 = v'22∧fr 9 = .n i∧Own B h k [Zac r'1 [v_s_Boxes,v_s_Edges],Zac r'2 [.sn,.sn,.sn,.sn],Zac r'4 [v'21,v'15,v'8,v'9],eSl Zh v'21 (n++x1),eSl zn v'15 (n1++[(n.length:Int)]),eSl Zai v'8 n10,eSl eV v'9 vs'2,Zbt zn vs'2 n3,eSl zn v'22 x2]) ho'3 (s:=(n8,0)) ⟨q'4_1,q'4_2,q'4_3,q'4_4,q'4_5,q'4_7,rfl,rfl,(hO'22.pick [0,1,2,3,4,5,6,7,8] rfl (by decide))⟩ ?_
       rintro ⟨n10,i⟩ q'6 k'20 ⟨q'6_1,q'6_2,q'6_3,q'6_4,q'6_5,q'6_7,q'6_8,q'6_9,hO'24⟩ o'6 hp
       dsimp only [ZT.s2] at hp
       refine Zf (Zf (Zl (Zd (.n i) q'6_9 (Zd v'22 q'6_8 (Ze (Zao (hO'24.sl 8 rfl) rfl) (Ze (zJ (a:=i) (b:=(x2.length:Int)) rfl rfl) (Zb ?_)))))))
       refine Za ?_
       rcases Zt hp with ⟨b'4,hp⟩ | ⟨b'4,hp⟩
       ·refine zH (t:=(decide (i < (x2.length:Int)))) rfl b'4 ?_
        refine zM (Za (Zf (Zae (ZfN ?_))))
        have hW:=hO'24.bump 16
        have fr'1:=Fresh.start k'20 16
        have nb'1:∀ {i:Nat},h.n≤k'20.n + i:=Nat.le_trans hO'24.n (Nat.le_add_right _ _)
        have hO'25:=hW
        refine Zah (zU (r:=r'4) (o:=0) (o':=2) q'6_3 rfl) (Zah (zy (cs:=[v'21,v'15,v'8,v'9]) (v:=v'8) (hO'25.box 2 rfl) rfl rfl) (Zb7 v'22 q'6_8 (Zb7 (.n i) q'6_9 ?_)))
        obtain ⟨c'6,hp⟩:=Zg hp
        refine Zah (z3 (E:=zn) (z:=i) (hO'25.sl 8 rfl) rfl rfl c'6) (Zah (zO (w:=.n (gi x2 i.toNat)) (hO'25.sl 8 rfl) rfl (Zo c'6) rfl) ?_)
        obtain ⟨c'7,hp⟩:=Zg hp
        refine Zah (Zik (a:=(gi x2 i.toNat)) (b:=2) rfl rfl c'7) (Zb7 v'22 q'6_8 (Zb7 (.n i) q'6_9 (Zah (z3 (E:=zn) (z:=i) (hO'25.sl 8 rfl) rfl rfl c'6) (Zah (zO (w:=.n (gi x2 i.toNat)) (hO'25.sl 8 rfl) rfl (Zo c'6) rfl) (Zah (ZbJ (a:=(gi x2 i.toNat)) (b:=2) rfl rfl (by decide)) (Zb7 (.n (n.length:Int)) q'6_5 ?_))))))
        obtain ⟨c'8,hp⟩:=Zg hp
        refine Zah (z3 (E:=Zai) (z:=((gi x2 i.toNat).tdiv 2)) (hO'25.sl 5 rfl) rfl rfl c'8) ?_
        obtain ⟨c'9,hp⟩:=Zg hp
        refine Zah (ZaX (off:=0) (off2:=(0 + ((gi x2 i.toNat).tmod 2:Int).toNat * 1)) (z:=((gi x2 i.toNat).tmod 2)) (hO'25.sl 5 rfl) (Zo c'8) rfl rfl c'9 rfl) (Zfc (hO'25.ste (E:=Zai) (y:=((gi n10 ((gi x2 i.toNat).tdiv 2:Int).toNat).set ((gi x2 i.toNat).tmod 2) (n.length:Int))) (ws:=[.n (n.length:Int)]) 5 rfl rfl (Zo c'8) rfl rfl ⟨rfl,(by have:=c'9; exact (show 0 + ((gi x2 i.toNat).tmod 2:Int).toNat * 1 + 1≤2 by omega)),rfl⟩ (Zgp c'9)) ?_)
        rintro _ k'22 z'1 ⟨rfl,f'12,m'5,hW⟩
        have fr'2:=fr'1.kept f'12 (by decide)
        have hO'26:=hW
        refine ZcC ?_
        refine And.intro ?_ ?_
        ·intro q hq
         simp only [List.mem_cons,List.not_mem_nil,or_false] at hq
         rcases hq with rfl | rfl | rfl
         ·refine ZaG ?_ ?_
          ·exact (fun h=>nomatch h)
          ·exact (fun h=>nomatch h)
         ·refine ZaG ?_ ?_
          ·exact (fun h=>nomatch h)
          ·exact (fun h=>nomatch h)
         ·refine ZaG ?_ ?_
          ·exact (fun h=>nomatch h)
          ·exact (fun h=>nomatch h)
        refine Zaf (Za (Zl (Zd (.n i) q'6_9 ?_)))
        obtain ⟨c'10,hp⟩:=Zg hp
        refine Ze (zu (a:=i) (b:=1) rfl rfl c'10) (Zd (.n (i + 1)) rfl (Zb ?_))
        cases hp
        exact (Or.inl ⟨(n10.set ((gi x2 i.toNat).tdiv 2:Int).toNat ((gi n10 ((gi x2 i.toNat).tdiv 2:Int).toNat).set ((gi x2 i.toNat).tmod 2) (n.length:Int)),i + 1),rfl,rfl,q'6_1,q'6_2,q'6_3,q'6_4,q'6_5,q'6_7,q'6_8,rfl,(hO'26.pick [0,1,2,3,4,5,6,7,8] rfl (by decide))⟩)
       ·refine zG (t:=(decide (i < (x2.length:Int)))) rfl b'4 ?_
        refine ZaZ (zN ?_)
        cases hp
        refine (Or.inr ⟨n10,rfl,(fun h=>nomatch h),(fun he=>?_)⟩)
        subst he; exact ⟨rfl,q'6_1,q'6_2,q'6_3,q'6_4,q'6_5,q'6_7,(hO'24.pick [0,1,2,3,4,5,6,7] rfl (by decide))⟩
      intro e'3 q'5 k'19 hJ'3
      obtain ⟨n11,rfl⟩:∃ x,x = o'5:=⟨_,rfl⟩
      obtain ⟨rfl,q'5_1,q'5_2,q'5_3,q'5_4,q'5_5,q'5_7,hO'23⟩:=hJ'3
      refine Zax (Zaf (Za (Zl (Zd (.n d) q'5_7 ?_))))
      obtain ⟨c'11,hp⟩:=Zg hp
      refine Ze (zu (a:=d) (b:=1) rfl rfl c'11) (Zd (.n (d + 1)) rfl (Zb ?_))
      cases hp
      exact (Or.inl ⟨(n11,d + 1),rfl,rfl,q'5_1,q'5_2,q'5_3,q'5_4,q'5_5,rfl,(hO'23.pick [0,1,2,3,4,5,6,7] rfl (by decide))⟩)
     ·refine zG (t:=(decide (d < 4))) rfl b'3 ?_
      refine ZaZ (zN ?_)
      cases hp
      refine (Or.inr ⟨n8,rfl,(fun h=>nomatch h),(fun he=>?_)⟩)
      subst he; exact ⟨rfl,q'4_1,q'4_2,q'4_3,q'4_4,(hO'21.pick [0,1,2,3,4,5,6,7] rfl (by decide))⟩
    intro e'2 q'3 k'16 hJ'2
    obtain ⟨n9,rfl⟩:∃ x,x = o'3:=⟨_,rfl⟩
    obtain ⟨rfl,q'3_1,q'3_2,q'3_3,q'3_4,hO'20⟩:=hJ'2
    refine Zax (Zaf (Za (Zl (Zd (.n v) q'3_4 ?_))))
    obtain ⟨c'12,hp⟩:=Zg hp
    refine Ze (zu (a:=v) (b:=1) rfl rfl c'12) (Zd (.n (v + 1)) rfl (Zb ?_))
    cases hp
    exact (Or.inl ⟨(n++x1,n1++[(n.length:Int)],n9,n3,v + 1),rfl,rfl,v'21,v'15,v'8,v'9,vs'2,q'3_1,q'3_2,q'3_3,rfl,(hO'20.pick [0,1,2,3,4,5,6,7] rfl (by decide))⟩)
  ·refine zG (t:=(decide (v < (s.Boxes.length:Int)))) rfl b'1 ?_
   refine ZaZ (zN ?_)
   cases hp
   refine (Or.inr ⟨(n,n1,n2,n3),rfl,(fun h=>nomatch h),(fun he=>?_)⟩)
   subst he; exact ⟨rfl,v'6,v'7,v'8,v'9,vs'2,q'2_1,q'2_2,q'2_3,(hO'11.pick [0,1,2,3,4,5,6,7] rfl (by decide))⟩
 intro e'1 q'1 k'6 hJ'1
 obtain ⟨n4,n5,n6,n7⟩:=o'1
 obtain ⟨rfl,v'10,v'11,v'12,v'13,vs'3,q'1_1,q'1_2,q'1_3,hO'6⟩:=hJ'1
 refine Zax (Za (Zf (Zf (Zl (Zd (.n 0) rfl (Zb (Za ?_)))))))
 refine Zae ?_
 obtain ⟨o'7,ho'4,hp⟩:=Zp hp
 refine W.mono (Q:=fun e fr k=>match (generalizing:=false) o'7 with
   | (n14,n15)=>e = (.exit 6)∧∃ (v'25:V),∃ (v'26:V),∃ (vs'6:List V),fr 2 = .p r'2 0∧fr 3 = .p r'4 0∧Own B h k [Zac r'2 [.sn,.sn,.sn,.sn],Zac r'4 [v'25,v'11,v'12,v'26],eSl Zh v'25 n14,eSl zn v'11 n5,eSl Zai v'12 n6,eSl eV v'26 vs'6,Zbt zn vs'6 n15]) ?_ ?_
 ·clear hp
  refine zC (fun st fr k=>match st with | (n12,n13,i1)=>∃ (v'23:V),∃ (v'24:V),∃ (vs'5:List V),fr 1 = .p r'1 0∧fr 2 = .p r'2 0∧fr 3 = .p r'4 0∧fr 10 = .n i1∧Own B h k [Zac r'1 [v_s_Boxes,v_s_Edges],Zac r'2 [.sn,.sn,.sn,.sn],Zac r'4 [v'23,v'11,v'12,v'24],eSl Zh v'23 n12,eSl zn v'11 n5,eSl Zai v'12 n6,eSl eV v'24 vs'5,Zbt zn vs'5 n13]) ho'4 (s:=(n4,n7,0)) ⟨v'10,v'13,vs'3,q'1_1,q'1_2,q'1_3,rfl,(hO'6.pick [0,1,2,3,4,5,6,7] rfl (by decide))⟩ ?_
  rintro ⟨n12,n13,i1⟩ q'8 k'24 ⟨v'23,v'24,vs'5,q'8_1,q'8_2,q'8_3,q'8_10,hO'28⟩ o'8 hp
  dsimp only [ZT.s3] at hp
  refine Zf (Zf (Zl (Zd (.n i1) q'8_10 (Ze (zU (r:=r'1) (o:=0) (o':=1) q'8_1 rfl) (Ze (zy (cs:=[v_s_Boxes,v_s_Edges]) (v:=v_s_Edges) (hO'28.box 0 rfl) rfl rfl) (Ze (Zao (hO'28.rd0 s_s_Edges.rd) rfl) (Ze (zJ (a:=i1) (b:=(s.Edges.length:Int)) rfl rfl) ?_)))))))
  refine Zb (Za ?_)
  rcases Zt hp with ⟨b'5,hp⟩ | ⟨b'5,hp⟩
  ·refine zH (t:=(decide (i1 < (s.Edges.length:Int)))) rfl b'5 ?_
   refine zM (Za (Zf (Zae (Zf (Zl (Ze (zU (r:=r'4) (o:=0) (o':=2) q'8_3 rfl) (Ze (zy (cs:=[v'23,v'11,v'12,v'24]) (v:=v'12) (hO'28.box 2 rfl) rfl rfl) ?_)))))))
   refine Zd (.n i1) q'8_10 ?_
   obtain ⟨c'13,hp⟩:=Zg hp
   refine Ze (z3 (E:=Zai) (z:=i1) (hO'28.sl 5 rfl) rfl rfl c'13) (Ze (ZaX (off:=0) (off2:=0) (z:=0) (hO'28.sl 5 rfl) (Zo c'13) rfl rfl (by decide) rfl) (Ze (zO (w:=.n ((gi n6 i1.toNat).get 0)) (hO'28.sl 5 rfl) rfl (Zo c'13) rfl) (Zd (.n ((gi n6 i1.toNat).get 0)) rfl (Zb (Za (Zf (Zl ?_)))))))
   refine Ze (zU (r:=r'1) (o:=0) (o':=1) q'8_1 rfl) (Ze (zy (cs:=[v_s_Boxes,v_s_Edges]) (v:=v_s_Edges) (hO'28.box 0 rfl) rfl rfl) (Zd (.n i1) q'8_10 ?_))
   obtain ⟨c'14,hp⟩:=Zg hp
   refine Ze (z3 (E:=Zs) (z:=i1) (hO'28.rd0 s_s_Edges.rd) rfl rfl c'14) (Ze (ZaT (off':=0) (off2:=2) (hO'28.rd0 s_s_Edges.rd) (Zo c'14) rfl rfl) (Ze (zO (w:=.n ((gi s.Edges i1.toNat).Dir)) (hO'28.rd0 s_s_Edges.rd) rfl (Zo c'14) rfl) (Zd (.n ((gi s.Edges i1.toNat).Dir)) rfl (Zb (Za (Zf (Zl ?_)))))))
   refine Zd (.n ((gi n6 i1.toNat).get 0)) rfl (zA (hO'28.bsl (E:=zn) (l:=[(gi n6 i1.toNat).get 0]) hO'28.fr (by rw [(z9 (v:=.n ((gi n6 i1.toNat).get 0)) rfl ZaI)]; rfl) rfl) ?_)
   rintro v'27 k'25 ⟨r'6,f'13,hW⟩
   have hO'29:=hW
   refine Zd v'27 rfl (Zb (Za (Zf (Zf (Zl (Zd (.n 0) rfl (Zb ?_)))))))
   refine Za (Zae ?_)
   obtain ⟨o'9,ho'5,hp⟩:=Zp hp
   refine W.mono (Q:=fun e fr k=>match (generalizing:=false) o'9 with
     | (n17,at_1,d2,way1)=>e = (.exit 8)∧∃ (v'30:V),∃ (v'31:V),fr 1 = .p r'1 0∧fr 2 = .p r'2 0∧fr 3 = .p r'4 0∧fr 10 = .n i1∧fr 11 = .n at_1∧fr 12 = .n d2∧fr 13 = v'31∧Own B h k [Zac r'1 [v_s_Boxes,v_s_Edges],Zac r'2 [.sn,.sn,.sn,.sn],Zac r'4 [v'30,v'11,v'12,v'24],eSl Zh v'30 n17,eSl zn v'11 n5,eSl Zai v'12 n6,eSl eV v'24 vs'5,Zbt zn vs'5 n13,eSl zn v'31 way1]) ?_ ?_
   ·clear hp
    refine zC (fun st fr k=>match st with | (n16,at_,d1,way,k_)=>∃ (v'28:V),∃ (v'29:V),fr 1 = .p r'1 0∧fr 2 = .p r'2 0∧fr 3 = .p r'4 0∧fr 10 = .n i1∧fr 11 = .n at_∧fr 12 = .n d1∧fr 13 = v'29∧fr 14 = .n k_∧Own B h k [Zac r'1 [v_s_Boxes,v_s_Edges],Zac r'2 [.sn,.sn,.sn,.sn],Zac r'4 [v'28,v'11,v'12,v'24],eSl Zh v'28 n16,eSl zn v'11 n5,eSl Zai v'12 n6,eSl eV v'24 vs'5,Zbt zn vs'5 n13,eSl zn v'29 way]) ho'5 (s:=(n12,(gi n6 i1.toNat).get 0,(gi s.Edges i1.toNat).Dir,[(gi n6 i1.toNat).get 0],0)) ⟨v'23,v'27,q'8_1,q'8_2,q'8_3,q'8_10,rfl,rfl,rfl,rfl,(hO'29.pick [0,1,2,3,4,5,6,7,8] rfl (by decide))⟩ ?_
    rintro ⟨n16,at_,d1,way,k_⟩ q'10 k'27 ⟨v'28,v'29,q'10_1,q'10_2,q'10_3,q'10_10,q'10_11,q'10_12,q'10_13,q'10_14,hO'31⟩ o'10 hp
    dsimp only [ZT.s4] at hp
    refine Zf (Zf (Zl (Zd (.n k_) q'10_14 (Ze (zU (r:=r'1) (o:=0) (o':=1) q'10_1 rfl) (Ze (zy (cs:=[v_s_Boxes,v_s_Edges]) (v:=v_s_Edges) (hO'31.box 0 rfl) rfl rfl) (Zd (.n i1) q'10_10 (Ze (z3 (E:=Zs) (z:=i1) (hO'31.rd0 s_s_Edges.rd) rfl rfl c'14) ?_)))))))
    refine Ze (ZaT (off':=0) (off2:=3) (hO'31.rd0 s_s_Edges.rd) (Zo c'14) rfl rfl) (Ze (zO (w:=.s ((gi s.Edges i1.toNat).Bends)) (hO'31.rd0 s_s_Edges.rd) rfl (Zo c'14) rfl) (Ze (Zfq (a:=((gi s.Edges i1.toNat).Bends)) rfl) (Ze (zJ (a:=k_) (b:=(((gi s.Edges i1.toNat).Bends).size:Int)) rfl rfl) (Zb (Za ?_)))))
    rcases Zt hp with ⟨b'6,hp⟩ | ⟨b'6,hp⟩
    ·refine zH (t:=(decide (k_ < (((gi s.Edges i1.toNat).Bends).size:Int)))) rfl b'6 ?_
     refine zM (Za (Zf (Zae (Zf (Zl (Ze (zU (r:=r'4) (o:=0) (o':=0) q'10_3 rfl) (Ze (zy (cs:=[v'28,v'11,v'12,v'24]) (v:=v'28) (hO'31.box 2 rfl) rfl rfl) ?_)))))))
     refine Ze (Zao (hO'31.sl 3 rfl) rfl) (Zd (.n (n16.length:Int)) rfl (Zb (Za (Zf (Zl ?_)))))
     obtain ⟨x3,hx'4,hp⟩:=Zp hp
     obtain ⟨u'4,k'28,ca'4,v'32,rfl,hW'4⟩:=ZJ.ok (h:=k'27)   hx'4
     refine Za8 (id:=46) (caps:=[]) rfl (Zx (v:=.n 1) rfl zo) ca'4 ?_
     have hO'32:=hO'31.call hW'4 rfl
     refine Zd v'32 rfl (Zb (Za (Zf (Zl (Ze (zU (r:=r'4) (o:=0) (o':=0) q'10_3 rfl) (Ze (zy (cs:=[v'28,v'11,v'12,v'24]) (v:=v'28) (hO'32.box 2 rfl) rfl rfl) (Zd v'32 rfl ?_)))))))
     obtain ⟨c'15,hp⟩:=Zg hp
     refine zA (hO'32.app (E:=Zh) (bytes:=64) 3 hO'32.fr rfl (hO'32.sl 9 rfl) rfl rfl (fun _=>rfl) c'15 (by decide)) ?_
     rintro v'33 k'29 ⟨f'14,hW⟩
     have hO'33:=hW
     refine Ze (zU (r:=r'4) (o:=0) (o':=0) q'10_3 rfl) (zA (hO'33.stb (ws:=[v'33]) (cs':=[v'33,v'11,v'12,v'24]) (v:=v'33) 2 rfl rfl rfl (hO'33.sl 3 rfl).cells ⟨rfl,Nat.le_of_ble_eq_true rfl,(all_cons (hO'33.sl 3 rfl).oneV rfl)⟩ rfl) ?_)
     rintro _ k'30 ⟨rfl,f'15,m'6,hW⟩
     have hO'34:=hW
     refine Zb (Za (Zf (Zl (Ze (zU (r:=r'4) (o:=0) (o':=0) q'10_3 rfl) (Ze (zy (cs:=[v'33,v'11,v'12,v'24]) (v:=v'33) (hO'34.box 2 rfl) rfl rfl) (Zd (.n at_) q'10_11 (Zd (.n d1) q'10_12 ?_)))))))
     refine Zd (.n (n16.length:Int)) rfl (Zd (.n i1) q'10_10 ?_)
     obtain ⟨⟨x4,x5⟩,hx'5,hp⟩:=Zp hp
     obtain ⟨u'5,k'31,ca'5,v'34,rfl,hW'5⟩:=zx.ok (h:=k'30) (l:=(n16++x3)) (v:=at_) (d:=d1) (w:=(n16.length:Int)) (o:=i1) (hO'34.toM [3] rfl (by decide))  hx'5
     refine Za8 (id:=53) (caps:=[]) rfl (Zx (v:=v'33) rfl (Zx (v:=.n at_) rfl (Zx (v:=.n d1) rfl (Zx (v:=.n (n16.length:Int)) rfl (Zx (v:=.n i1) rfl zo))))) ca'5 ?_
     have hO'35:=(hO'34.callM [3] [0,1,2,4,5,6,7,8,9] rfl rfl (by decide) hW'5 rfl).pick [0,1,2,900,3,4,5,6,7,8,9] rfl (by decide)
     refine Zd (.tu [v'34,.n x5]) rfl (Ze (Zbn (vs:=[v'34,.n x5]) (v:=v'34) rfl rfl) (Ze (Zbn (vs:=[v'34,.n x5]) (v:=.n x5) rfl rfl) (Ze (zU (r:=r'4) (o:=0) (o':=0) q'10_3 rfl) (zA (hO'35.stb (ws:=[v'34]) (cs':=[v'34,v'11,v'12,v'24]) (v:=v'34) 2 rfl rfl rfl (hO'35.sl 10 rfl).cells ⟨rfl,Nat.le_of_ble_eq_true rfl,(all_cons (hO'35.sl 10 rfl).oneV rfl)⟩ rfl) ?_))))
     rintro _ k'32 ⟨rfl,f'16,m'7,hW⟩
     have hO'36:=hW
     refine Zb (Za (Zf (Zl (Zd (.n (n16.length:Int)) rfl (Zd (.n (n16.length:Int)) rfl (Zb (Za ?_)))))))
     refine Zf (Zl (Zd v'29 q'10_13 (Zd (.n (n16.length:Int)) rfl (zA (hO'36.bsl (E:=zn) (l:=[(n16.length:Int)]) hO'36.fr (by rw [(z9 (v:=.n (n16.length:Int)) rfl ZaI)]; rfl) rfl) ?_))))
     rintro v'35 k'33 ⟨r'7,f'17,hW⟩
     have hO'37:=hW
     obtain ⟨c'16,hp⟩:=Zg hp
     refine zA (hO'37.app (E:=zn) (bytes:=8) 8 hO'37.fr rfl (hO'37.sl 11 rfl) rfl rfl (fun _=>rfl) c'16 (by decide)) ?_
     rintro v'36 k'34 ⟨f'18,hW⟩
     have hO'38:=hW
     refine Zd v'36 rfl (Zb (Za (Zf (Zl (Ze (zU (r:=r'1) (o:=0) (o':=1) q'10_1 rfl) (Ze (zy (cs:=[v_s_Boxes,v_s_Edges]) (v:=v_s_Edges) (hO'38.box 0 rfl) rfl rfl) (Zd (.n i1) q'10_10 ?_)))))))
     refine Ze (z3 (E:=Zs) (z:=i1) (hO'38.rd0 s_s_Edges.rd) rfl rfl c'14) (Ze (ZaT (off':=0) (off2:=3) (hO'38.rd0 s_s_Edges.rd) (Zo c'14) rfl rfl) (Ze (zO (w:=.s ((gi s.Edges i1.toNat).Bends)) (hO'38.rd0 s_s_Edges.rd) rfl (Zo c'14) rfl) (Zd (.n k_) q'10_14 ?_)))
     obtain ⟨c'17,hp⟩:=Zg hp
     refine Ze (Zh2 (a:=((gi s.Edges i1.toNat).Bends)) (z:=k_) rfl rfl c'17) (Ze (ZaS (a:=(sAt ((gi s.Edges i1.toNat).Bends) k_.toNat)) (b:=76) rfl rfl) (Zb (Za ?_)))
     rcases Zt hp with ⟨b'7,hp⟩ | ⟨b'7,hp⟩
     ·refine zH (t:=(decide (sAt ((gi s.Edges i1.toNat).Bends) k_.toNat = 76))) rfl b'7 ?_
      refine Zl (Zd (.n d1) q'10_12 ?_)
      obtain ⟨c'18,hp⟩:=Zg hp
      refine Ze (zu (a:=d1) (b:=1) rfl rfl c'18) (Ze (ZbJ (a:=(d1 + 1)) (b:=4) rfl rfl (by decide)) (Zd (.n ((d1 + 1).tmod 4)) rfl (Zb (Zaf (Za (Zl (Zd (.n k_) q'10_14 ?_)))))))
      obtain ⟨c'19,hp⟩:=Zg hp
      refine Ze (zu (a:=k_) (b:=1) rfl rfl c'19) (Zd (.n (k_ + 1)) rfl (Zb ?_))
      cases hp
      exact (Or.inl ⟨(x4,(n16.length:Int),(d1 + 1).tmod 4,way++[(n16.length:Int)],k_ + 1),rfl,rfl,v'34,v'36,q'10_1,q'10_2,q'10_3,q'10_10,rfl,rfl,rfl,rfl,(hO'38.pick [0,1,2,10,4,5,6,7,8] rfl (by decide))⟩)
     ·refine zG (t:=(decide (sAt ((gi s.Edges i1.toNat).Bends) k_.toNat = 76))) rfl b'7 ?_
      refine Zl (Zd (.n d1) q'10_12 ?_)
      obtain ⟨c'20,hp⟩:=Zg hp
      refine Ze (zu (a:=d1) (b:=3) rfl rfl c'20) (Ze (ZbJ (a:=(d1 + 3)) (b:=4) rfl rfl (by decide)) (Zd (.n ((d1 + 3).tmod 4)) rfl (Zb (Zaf (Za (Zl (Zd (.n k_) q'10_14 ?_)))))))
      obtain ⟨c'21,hp⟩:=Zg hp
      refine Ze (zu (a:=k_) (b:=1) rfl rfl c'21) (Zd (.n (k_ + 1)) rfl (Zb ?_))
      cases hp
      exact (Or.inl ⟨(x4,(n16.length:Int),(d1 + 3).tmod 4,way++[(n16.length:Int)],k_ + 1),rfl,rfl,v'34,v'36,q'10_1,q'10_2,q'10_3,q'10_10,rfl,rfl,rfl,rfl,(hO'38.pick [0,1,2,10,4,5,6,7,8] rfl (by decide))⟩)
    ·refine zG (t:=(decide (k_ < (((gi s.Edges i1.toNat).Bends).size:Int)))) rfl b'6 ?_
     refine ZaZ (zN ?_)
     cases hp
     refine (Or.inr ⟨(n16,at_,d1,way),rfl,(fun h=>nomatch h),(fun he=>?_)⟩)
     subst he; exact ⟨rfl,v'28,v'29,q'10_1,q'10_2,q'10_3,q'10_10,q'10_11,q'10_12,q'10_13,(hO'31.pick [0,1,2,3,4,5,6,7,8] rfl (by decide))⟩
   intro e'5 q'9 k'26 hJ'5
   obtain ⟨n17,at_1,d2,way1⟩:=o'9
   obtain ⟨rfl,v'30,v'31,q'9_1,q'9_2,q'9_3,q'9_10,q'9_11,q'9_12,q'9_13,hO'30⟩:=hJ'5
   refine Zax (Za (Zf (ZfN ?_)))
   have hW:=hO'30.bump 17
   have fr'3:=Fresh.start k'26 17
   have nb'2:∀ {i:Nat},h.n≤k'26.n + i:=Nat.le_trans hO'30.n (Nat.le_add_right _ _)
   have hO'39:=hW
   refine Zah (zU (r:=r'4) (o:=0) (o':=0) q'9_3 rfl) (Zah (zy (cs:=[v'30,v'11,v'12,v'24]) (v:=v'30) (hO'39.box 2 rfl) rfl rfl) (Zb7 (.n at_1) q'9_11 (Zb7 (.n d2) q'9_12 (Zah (zU (r:=r'4) (o:=0) (o':=2) q'9_3 rfl) (Zah (zy (cs:=[v'30,v'11,v'12,v'24]) (v:=v'12) (hO'39.box 2 rfl) rfl rfl) (Zb7 (.n i1) q'9_10 (Zah (z3 (E:=Zai) (z:=i1) (hO'39.sl 5 rfl) rfl rfl c'13) ?_)))))))
   refine Zah (ZaX (off:=0) (off2:=1) (z:=1) (hO'39.sl 5 rfl) (Zo c'13) rfl rfl (by decide) rfl) (Zah (zO (w:=.n ((gi n6 i1.toNat).get 1)) (hO'39.sl 5 rfl) rfl (Zo c'13) rfl) (Zb7 (.n i1) q'9_10 ?_))
   obtain ⟨⟨x6,x7⟩,hx'6,hp⟩:=Zp hp
   obtain ⟨u'6,k'36,ca'6,v'37,rfl,hW'6⟩:=zx.ok (h:=(k'26.bump 17)) (l:=n17) (v:=at_1) (d:=d2) (w:=((gi n6 i1.toNat).get 1)) (o:=i1) (hO'39.toM [3] rfl (by decide))  hx'6
   refine Zig (id:=53) (caps:=[]) rfl (Zx (v:=v'30) rfl (Zx (v:=.n at_1) rfl (Zx (v:=.n d2) rfl (Zx (v:=.n ((gi n6 i1.toNat).get 1)) rfl (Zx (v:=.n i1) rfl zo))))) ca'6 ?_
   have fr'4:=fr'3.callM (hO'39.pick [3] rfl (by decide)).P hW'6
   have hO'40:=(hO'39.callM [3] [0,1,2,4,5,6,7,8] rfl rfl (by decide) hW'6 rfl).pick [0,1,2,900,3,4,5,6,7,8] rfl (by decide)
   refine Zb7 (.tu [v'37,.n x7]) rfl (Zah (Zbn (vs:=[v'37,.n x7]) (v:=v'37) rfl rfl) (Zah (Zbn (vs:=[v'37,.n x7]) (v:=.n x7) rfl rfl) (Zah (zU (r:=r'4) (o:=0) (o':=0) q'9_3 rfl) (Zfc (hO'40.stb (ws:=[v'37]) (cs':=[v'37,v'11,v'12,v'24]) (v:=v'37) 2 rfl rfl rfl (hO'40.sl 9 rfl).cells ⟨rfl,Nat.le_of_ble_eq_true rfl,(all_cons (hO'40.sl 9 rfl).oneV rfl)⟩ rfl) ?_))))
   rintro _ k'37 z'2 ⟨rfl,f'19,m'8,hW⟩
   have fr'5:=fr'4.kept f'19 (by decide)
   have hO'41:=hW
   refine ZcC ?_
   refine And.intro ?_ ?_
   ·intro q hq
    simp only [List.mem_cons,List.not_mem_nil,or_false] at hq
    rcases hq with rfl | rfl
    ·refine ZaG ?_ ?_
     ·exact (fun h=>nomatch h)
     ·exact (fun h=>nomatch h)
    ·refine ZaG ?_ ?_
     ·exact (fun h=>nomatch h)
     ·exact (fun h=>nomatch h)
   refine Za (Zf (Zl (Zd v'31 q'9_13 (Ze (zU (r:=r'4) (o:=0) (o':=2) q'9_3 rfl) (Ze (zy (cs:=[v'37,v'11,v'12,v'24]) (v:=v'12) (hO'41.box 2 rfl) rfl rfl) (Zd (.n i1) q'9_10 (Ze (z3 (E:=Zai) (z:=i1) (hO'41.sl 5 rfl) rfl rfl c'13) ?_)))))))
   refine Ze (ZaX (off:=0) (off2:=1) (z:=1) (hO'41.sl 5 rfl) (Zo c'13) rfl rfl (by decide) rfl) (Ze (zO (w:=.n ((gi n6 i1.toNat).get 1)) (hO'41.sl 5 rfl) rfl (Zo c'13) rfl) (zA (hO'41.bsl (E:=zn) (l:=[(gi n6 i1.toNat).get 1]) hO'41.fr (by rw [(z9 (v:=.n ((gi n6 i1.toNat).get 1)) rfl ZaI)]; rfl) rfl) ?_))
   rintro v'38 k'38 ⟨r'8,f'20,hW⟩
   have hO'42:=hW
   obtain ⟨c'22,hp⟩:=Zg hp
   refine zA (hO'42.app (E:=zn) (bytes:=8) 8 hO'42.fr rfl (hO'42.sl 10 rfl:Sl zn k'38 v'38 [(gi n6 i1.toNat).get 1]) rfl rfl (fun _=>rfl) c'22 (by decide)) ?_
   rintro v'39 k'39 ⟨f'21,hW⟩
   have hO'43:=hW
   refine Zd v'39 rfl (Zb (Za (Zl (Ze (zU (r:=r'4) (o:=0) (o':=3) q'9_3 rfl) (Ze (zy (cs:=[v'37,v'11,v'12,v'24]) (v:=v'24) (hO'43.box 2 rfl) rfl rfl) (Zd v'39 rfl (zA (hO'43.bsl (E:=eV) (l:=[v'39]) hO'43.fr (by rw [(z9 (v:=v'39) rfl ZaI)]; simp only [fill,(hO'43.sl 8 rfl:Sl zn k'39 v'39 (way1++[(gi n6 i1.toNat).get 1])).cells]; simp [over]) rfl) ?_)))))))
   rintro v'40 k'40 ⟨r'9,f'22,hW⟩
   have hO'44:=hW
   obtain ⟨c'23,hp⟩:=Zg hp
   refine zA (hO'44.appV (bytes:=24) 6 hO'44.fr rfl (hO'44.sl 11 rfl) rfl rfl (by simp only [List.all_cons,List.all_nil,Bool.and_true]; exact (hO'44.sl 8 rfl:Sl zn k'40 v'39 (way1++[(gi n6 i1.toNat).get 1])).oneV) (by rw [(hO'44.allLen 7 rfl:(vs'5).length = (n13).length)]; exact c'23) (by decide)) ?_
   rintro v'41 k'41 ⟨f'23,hW⟩
   have hO'45:=hW
   have hO'46:=hO'45.absorb 7 8 rfl rfl (by decide)
   refine Ze (zU (r:=r'4) (o:=0) (o':=3) q'9_3 rfl) (zA (hO'46.stb (ws:=[v'41]) (cs':=[v'37,v'11,v'12,v'41]) (v:=v'41) 2 rfl rfl rfl (hO'46.sl 6 rfl).cells ⟨rfl,Nat.le_of_ble_eq_true rfl,(all_cons (hO'46.sl 6 rfl).oneV rfl)⟩ rfl) ?_)
   rintro _ k'42 ⟨rfl,f'24,m'9,hW⟩
   have hO'47:=hW
   refine Zb (Zaf (Za (Zl (Zd (.n i1) q'9_10 ?_))))
   obtain ⟨c'24,hp⟩:=Zg hp
   refine Ze (zu (a:=i1) (b:=1) rfl rfl c'24) (Zd (.n (i1 + 1)) rfl (Zb ?_))
   cases hp
   exact (Or.inl ⟨(x6,n13++[way1++[(gi n6 i1.toNat).get 1]],i1 + 1),rfl,rfl,v'37,v'41,vs'5++[v'39],q'9_1,q'9_2,q'9_3,rfl,(hO'47.pick [0,1,2,9,4,5,6,7] rfl (by decide))⟩)
  ·refine zG (t:=(decide (i1 < (s.Edges.length:Int)))) rfl b'5 ?_
   refine ZaZ (zN ?_)
   cases hp
   refine (Or.inr ⟨(n12,n13),rfl,(fun h=>nomatch h),(fun he=>?_)⟩)
   subst he; exact ⟨rfl,v'23,v'24,vs'5,q'8_2,q'8_3,(hO'28.pick [1,2,3,4,5,6,7] rfl (by decide))⟩
 intro e'4 q'7 k'23 hJ'4
 obtain ⟨n14,n15⟩:=o'7
 obtain ⟨rfl,v'25,v'26,vs'6,q'7_2,q'7_3,hO'27⟩:=hJ'4
 refine Zax (Za (Zf (Zl (Ze (ZaM (cs:=[v'25,v'11,v'12,v'26]) (ws:=[v'25,v'11,v'12,v'26]) (hO'27.box 1 rfl) q'7_3 rfl) (zA (hO'27.stb (ws:=[v'25,v'11,v'12,v'26]) (cs':=[v'25,v'11,v'12,v'26]) (v:=.ag [v'25,v'11,v'12,v'26]) 0 rfl q'7_2 rfl rfl ⟨rfl,Nat.le_of_ble_eq_true rfl,(all_cons (hO'27.sl 2 rfl).oneV (all_cons (hO'27.sl 3 rfl).oneV (all_cons (hO'27.sl 4 rfl).oneV (all_cons (hO'27.sl 5 rfl).oneV all_nil))))⟩ rfl) ?_)))))
 rintro _ k'43 ⟨rfl,f'25,m'10,hW⟩
 have hO'48:=hW
 refine Zb (Za (Zav (zF (Zhq (n:=2) (v:=.ag [v'25,v'11,v'12,v'26]) (r:=r'2) q'7_2 (hO'48.box 0 rfl) rfl zk) ?_)))
 cases hp
 exact ⟨v'25,v'11,v'12,v'26,vs'6,rfl,(hO'48.pick [2,3,4,5,6] rfl (by decide))⟩

theorem ZaP.ok {h:Hp} {z:zB} {y:Za0} {raw:List Zc} {v_z_At:V} {v_z_Bits:V} {v_z_Own:V} {v_y_Boxes:V} {v_y_Edges:V} {v_y_Bends:V} {v_raw:V} (s_z_At:Sl Zed h v_z_At z.At) (s_z_Bits:Sl Zed h v_z_Bits z.Bits) (s_z_Own:Sl Zhe h v_z_Own z.Own) (s_y_Boxes:Sl e_bool h v_y_Boxes y.Boxes) (s_y_Edges:Sl Zdg h v_y_Edges y.Edges) (s_y_Bends:Sl Zed h v_y_Bends y.Bends) (s_raw:Sl Zh h v_raw raw) {r:Bool} (hp:ZaP z y raw = some r) :
  ∃ u k',Is G 155 [.ag [v_z_At,v_z_Bits,v_z_Own],.ag [v_y_Boxes,v_y_Edges,v_y_Bends],v_raw] h u k'∧V.b r = u∧Own (fun r=>r < h.n) h k' []:=by
 refine WC.is (ZaQ ZbM ?_)
 unfold ZaP at hp
 let B:Nat→Prop:=(fun r=>r < h.n)
 have hO:Own B h h []:=Own.start0 h
 refine Zf (Zl (zA (hO.boxd (v:=.ag [v_z_At,v_z_Bits,v_z_Own]) (cs:=[v_z_At,v_z_Bits,v_z_Own]) hO.fr rfl rfl) ?_))
 rintro _ k'1 ⟨r'1,rfl,n'1,f'1,hW⟩
 have hO'1:=hW
 refine zA (hO'1.boxd (v:=.ag [v_y_Boxes,v_y_Edges,v_y_Bends]) (cs:=[v_y_Boxes,v_y_Edges,v_y_Bends]) hO'1.fr rfl rfl) ?_
 rintro _ k'2 ⟨r'2,rfl,n'2,f'2,hW⟩
 have hO'2:=hW
 refine Zd (.b false) rfl (Zb (Za (Zf (Zl (Ze (ZaM (cs:=[v_z_At,v_z_Bits,v_z_Own]) (ws:=[v_z_At,v_z_Bits,v_z_Own]) (hO'2.box 0 rfl) rfl rfl) ?_)))))
 obtain ⟨⟨x,x1⟩,hx'1,hp⟩:=Zp hp
 obtain ⟨u'1,k'3,ca'1,v'1,v'2,rfl,hW'1⟩:=ZK.ok (h:=k'2)  (hO'2.rd0 s_z_At.rd) (hO'2.rd0 s_z_Bits.rd) (hO'2.rd0 s_z_Own.rd) hx'1
 refine Za8 (id:=28) (caps:=[]) rfl (Zx (v:=.ag [v_z_At,v_z_Bits,v_z_Own]) rfl (Zx (v:=.n 16) rfl zo)) ca'1 ?_
 have hO'3:=hO'2.call hW'1 rfl
 refine Zd (.tu [v'1,v'2]) rfl (Ze (Zbn (vs:=[v'1,v'2]) (v:=v'1) rfl rfl) (Ze (Zbn (vs:=[v'1,v'2]) (v:=v'2) rfl rfl) (Zd v'1 rfl (Zd v'2 rfl (Zb (Za (Zf ?_)))))))
 refine Zl (Ze (ZaM (cs:=[v_y_Boxes,v_y_Edges,v_y_Bends]) (ws:=[v_y_Boxes,v_y_Edges,v_y_Bends]) (hO'3.box 1 rfl) rfl rfl) ?_)
 obtain ⟨x2,hx'2,hp⟩:=Zp hp
 obtain ⟨u'2,k'4,ca'2,v'3,v'4,rfl,hW'2⟩:=zr.ok (h:=k'3)  (hO'3.rd0 s_y_Boxes.rd) (hO'3.rd0 s_y_Edges.rd) (hO'3.rd0 s_y_Bends.rd) hx'2
 refine Za8 (id:=171) (caps:=[]) rfl (Zx (v:=.ag [v_y_Boxes,v_y_Edges,v_y_Bends]) rfl (Zx (v:=.n 8) rfl zo)) ca'2 ?_
 have hO'4:=hO'3.call hW'2 rfl
 refine zA (hO'4.alloc (cs:=[.sn,.sn]) hO'4.fr) ?_
 rintro _ k'5 ⟨r'3,rfl,n'3,f'3,hW⟩
 have hO'5:=hW
 refine zA (hO'5.stb (ws:=[v'3,v'4]) (cs':=[v'3,v'4]) (v:=.ag [v'3,v'4]) 6 rfl rfl rfl rfl ⟨rfl,Nat.le_of_ble_eq_true rfl,(all_cons (hO'5.sl 4 rfl).oneV (all_cons (hO'5.sl 5 rfl).oneV all_nil))⟩ rfl) ?_
 rintro _ k'6 ⟨rfl,f'4,m'1,hW⟩
 have hO'6:=hW
 refine Zb (Za (Zf (Zf (Zl ?_))))
 obtain ⟨x3,hx'3,hp⟩:=Zp hp
 obtain ⟨u'3,k'7,ca'3,rfl,hW'3⟩:=Zbw.ok (h:=k'6)   hx'3
 refine Za8 (id:=172) (caps:=[]) rfl zo ca'3 ?_
 have hO'7:=hO'6.call hW'3 rfl
 refine Ze (Zcb (t:=x3) rfl) (Zd (.b (!x3)) rfl ?_)
 obtain ⟨t,hv'1,hp⟩:=Zp hp
 refine zT 4 (fun fr' k'=>Own B h k' [Zac r'1 [v_z_At,v_z_Bits,v_z_Own],Zac r'2 [v_y_Boxes,v_y_Edges,v_y_Bends],eSl Zh v'1 x,eSl Zn v'2 x1,eSl e_bool v'3 x2.Boxes,eSl Zs v'4 x2.Edges,Zac r'3 [v'3,v'4]]∧fr' 23 = .b t∧fr' 2 = v_raw∧fr' 9 = .p r'3 0) ?_ ?_
 ·clear hp; rcases Zt hv'1 with ⟨b'1,hp⟩ | ⟨b'1,hp⟩
  ·skip
   refine Zr rfl b'1 (Zr rfl b'1 (Zr rfl b'1 (Ze (zb (t:=(!x3)) (v:=.b t) rfl b'1 (Eq.trans (b:=V.b true) rfl (congrArg V.b (Option.some.inj hp)))) (Zb ?_))))
   exact ⟨hO'7.pick [0,1,2,3,4,5,6] rfl (by decide),rfl,rfl,rfl⟩
  ·skip
   refine Z9 rfl b'1 (Zd v'1 rfl (Z9 rfl b'1 ?_))
   obtain ⟨x4,hx'4,hp⟩:=Zp hp
   obtain ⟨u'4,k'8,ca'4,rfl,hW'4⟩:=Za5.ok (h:=k'7)  (hO'7.sl 2 rfl) hx'4
   refine Za8 (id:=173) (caps:=[]) rfl (Zx (v:=v'1) rfl zo) ca'4 ?_
   have hO'8:=hO'7.call hW'4 rfl
   refine Z9 rfl b'1 (Ze (Zcb (t:=x4) rfl) (Ze (ZU (t:=(!x3)) (v:=.b t) rfl b'1 (Eq.trans (b:=V.b (!x4)) rfl (congrArg V.b (Option.some.inj hp)))) (Zb ?_)))
   exact ⟨hO'8.pick [0,1,2,3,4,5,6] rfl (by decide),rfl,rfl,rfl⟩
 rintro frg'1 k'9 ⟨hO'9,g'1_23,g'1_2,g'1_9⟩
 refine Zd (.b t) g'1_23 ?_
 obtain ⟨t1,hv'2,hp⟩:=Zp hp
 refine zT 8 (fun fr' k'=>Own B h k' [Zac r'1 [v_z_At,v_z_Bits,v_z_Own],Zac r'2 [v_y_Boxes,v_y_Edges,v_y_Bends],eSl Zh v'1 x,eSl Zn v'2 x1,eSl e_bool v'3 x2.Boxes,eSl Zs v'4 x2.Edges,Zac r'3 [v'3,v'4]]∧fr' 32 = .b t1∧fr' 9 = .p r'3 0) ?_ ?_
 ·clear hp; rcases Zt hv'2 with ⟨b'2,hp⟩ | ⟨b'2,hp⟩
  ·skip
   refine Zr rfl b'2 (Zr rfl b'2 (Zr rfl b'2 (Zr rfl b'2 (Zr rfl b'2 (Zr rfl b'2 (Zr rfl b'2 (Ze (zb (t:=t) (v:=.b t1) rfl b'2 (Eq.trans (b:=V.b true) rfl (congrArg V.b (Option.some.inj hp)))) ?_)))))))
   refine Zb ?_
   exact ⟨hO'9.pick [0,1,2,3,4,5,6] rfl (by decide),rfl,g'1_9⟩
  ·skip
   refine Z9 rfl b'2 (Zd v_raw g'1_2 (Z9 rfl b'2 (Zd v_raw g'1_2 (Z9 rfl b'2 (Ze (Zao (hO'9.rd0 s_raw.rd) rfl) (Z9 rfl b'2 (Ze (ZlM (a:=(raw.length:Int)) (b:=5) rfl rfl) ?_)))))))
   refine Z9 rfl b'2 ?_
   obtain ⟨c'1,hp⟩:=Zg hp
   refine Ze (Zin (E:=Zh) (z:=(min (raw.length:Int) 5)) (hO'9.rd0 s_raw.rd) rfl rfl c'1) (Z9 rfl b'2 ?_)
   obtain ⟨x5,hx'5,hp⟩:=Zp hp
   obtain ⟨u'5,k'10,ca'5,rfl,hW'5⟩:=Za5.ok (h:=k'9)  (Sl.cutU (hO'9.rd0 s_raw.rd) c'1:Sl Zh k'9 (V.cut v_raw 0 (min (raw.length:Int) 5:Int).toNat) (raw.take (min (raw.length:Int) 5:Int).toNat)) hx'5
   refine Za8 (id:=173) (caps:=[]) rfl (Zx (v:=(V.cut v_raw 0 (min (raw.length:Int) 5:Int).toNat)) rfl zo) ca'5 ?_
   have hO'10:=hO'9.call hW'5 rfl
   refine Z9 rfl b'2 (Ze (Zcb (t:=x5) rfl) (Ze (ZU (t:=t) (v:=.b t1) rfl b'2 (Eq.trans (b:=V.b (!x5)) rfl (congrArg V.b (Option.some.inj hp)))) (Zb ?_)))
   exact ⟨hO'10.pick [0,1,2,3,4,5,6] rfl (by decide),rfl,g'1_9⟩
 rintro frg'2 k'11 ⟨hO'11,g'2_32,g'2_9⟩
 refine Zb (Za ?_)
 rcases Zt hp with ⟨b'3,hp⟩ | ⟨b'3,hp⟩
 ·refine zH (t:=t1) g'2_32 b'3 ?_
  refine Zf (Zl (Zd (.b false) rfl (Zb (Za (Zav (zI (zF (Zap (n:=6) (v:=.b false) rfl zk) ?_)))))))
  cases hp
  exact ⟨rfl,(hO'11.pick [] rfl (by decide))⟩
 ·refine zG (t:=t1) g'2_32 b'3 ?_
  refine zM (Za (Zf (Zl (Ze (ZaM (cs:=[v'3,v'4]) (ws:=[v'3,v'4]) (hO'11.box 6 rfl) g'2_9 rfl) ?_))))
  obtain ⟨x6,hx'6,hp⟩:=Zp hp
  obtain ⟨u'6,k'12,ca'6,rfl,hW'6⟩:=zd.ok (h:=k'11)  (hO'11.sl 4 rfl) (hO'11.sl 5 rfl) hx'6
  refine Za8 (id:=174) (caps:=[]) rfl (Zx (v:=.ag [v'3,v'4]) rfl zo) ca'6 ?_
  have hO'12:=hO'11.call hW'6 rfl
  refine Ze (ZbL (a:=x6) (b:=0) rfl rfl) (Zd (.b (!(decide (x6 = 0)))) rfl ?_)
  obtain ⟨t2,hv'3,hp⟩:=Zp hp
  refine zT 5 (fun fr' k'=>Own B h k' [Zac r'1 [v_z_At,v_z_Bits,v_z_Own],Zac r'2 [v_y_Boxes,v_y_Edges,v_y_Bends],eSl Zh v'1 x,eSl Zn v'2 x1,eSl e_bool v'3 x2.Boxes,eSl Zs v'4 x2.Edges,Zac r'3 [v'3,v'4]]∧fr' 41 = .b t2) ?_ ?_
  ·clear hp; rcases Zt hv'3 with ⟨b'4,hp⟩ | ⟨b'4,hp⟩
   ·skip
    refine Zr rfl b'4 (Zr rfl b'4 (Zr rfl b'4 (Zr rfl b'4 (Ze (zb (t:=(!(decide (x6 = 0)))) (v:=.b t2) rfl b'4 (Eq.trans (b:=V.b true) rfl (congrArg V.b (Option.some.inj hp)))) (Zb ?_)))))
    exact ⟨hO'12.pick [0,1,2,3,4,5,6] rfl (by decide),rfl⟩
   ·skip
    refine Z9 rfl b'4 (Ze (ZaM (cs:=[v'3,v'4]) (ws:=[v'3,v'4]) (hO'12.box 6 rfl) g'2_9 rfl) (Z9 rfl b'4 ?_))
    obtain ⟨x7,hx'7,hp⟩:=Zp hp
    obtain ⟨u'7,k'13,ca'7,v'5,v'6,v'7,v'8,vs'1,rfl,hW'7⟩:=ZT.ok (h:=k'12)  (hO'12.sl 4 rfl) (hO'12.sl 5 rfl) hx'7
    refine Za8 (id:=175) (caps:=[]) rfl (Zx (v:=.ag [v'3,v'4]) rfl zo) ca'7 ?_
    have hO'13:=hO'12.call hW'7 rfl
    refine Z9 rfl b'4 (Ze (ZjM (cs:=[v'5,v'6,v'7,v'8]) (v:=v'5) rfl rfl) (Z9 rfl b'4 ?_))
    obtain ⟨x8,hx'8,hp⟩:=Zp hp
    obtain ⟨u'8,k'14,ca'8,rfl,hW'8⟩:=Za5.ok (h:=k'13)  (hO'13.sl 7 rfl) hx'8
    refine Za8 (id:=173) (caps:=[]) rfl (Zx (v:=v'5) rfl zo) ca'8 ?_
    have hO'14:=hO'13.call hW'8 rfl
    refine Ze (ZU (t:=(!(decide (x6 = 0)))) (v:=.b t2) rfl b'4 (Eq.trans (b:=V.b x8) rfl (congrArg V.b (Option.some.inj hp)))) (Zb ?_)
    exact ⟨hO'14.pick [0,1,2,3,4,5,6] rfl (by decide),rfl⟩
  rintro frg'3 k'15 ⟨hO'15,g'3_41⟩
  refine Zd (.b t2) g'3_41 (Zb (Za (Zav (zF (Zap (n:=6) (v:=.b t2) rfl zk) ?_))))
  cases hp
  exact ⟨rfl,(hO'15.pick [] rfl (by decide))⟩

end Mu
