/- The code comes to what was worked out. -/
import Derived.Test.YtdefkboekpjiiaaMuDf
import Derived.Test.YtdefkboekpjiiaaMuPa
import Derived.Test.YtdefkboekpjiiaaMuC1
set_option linter.unusedVariables false
set_option linter.unnecessarySimpa false
set_option linter.unusedSimpArgs false
set_option maxHeartbeats 2000000
set_option maxRecDepth 10000
namespace Mu
open Go (IntKind BinOp UnOp)
theorem ZO.ok {h:Hp} {s:zk} {v_s_Boxes:V} {v_s_Edges:V} (s_s_Boxes:Sl e_bool h v_s_Boxes s.Boxes) (s_s_Edges:Sl Zr h v_s_Edges s.Edges) {r:zZ} (hp:ZO s = some r) :
  ∃ u k',Is G 175 [.ag [v_s_Boxes,v_s_Edges]] h u k'∧∃ (v'1:V),∃ (v'2:V),∃ (v'3:V),∃ (v'4:V),∃ (vs'1:List V),V.ag [v'1,v'2,v'3,v'4] = u∧Own (fun r=>r < h.n) h k' [eSl Zf v'1 r.Cells,eSl zw v'2 r.First,eSl zJ v'3 r.Ends,eSl eV v'4 vs'1,Zba zw vs'1 r.Ways]:=by
 refine WC.is (ZaM ZcA ?_)
 unfold ZO at hp
 let B:Nat→Prop:=(fun r=>r < h.n)
 have hO:Own B h h []:=Own.start0 h
 refine Zk (Zo (zy (hO.boxd (v:=.ag [v_s_Boxes,v_s_Edges]) (cs:=[v_s_Boxes,v_s_Edges]) hO.fr rfl rfl) ?_))
 rintro _ k'1 ⟨r'1,rfl,n'1,f'1,hW⟩
 have hO'1:=hW
 refine zy (hO'1.alloc (cs:=[.sn,.sn,.sn,.sn]) hO'1.fr) ?_
 rintro _ k'2 ⟨r'2,rfl,n'2,f'2,hW⟩
 have hO'2:=hW
 refine Zb (Za (Zk (Zo (Ze (z6 (r:=r'1) (o:=0) (o':=1) rfl rfl) (Ze (zi (cs:=[v_s_Boxes,v_s_Edges]) (v:=v_s_Edges) (hO'2.box 0 rfl) rfl rfl) (Ze (Zah (hO'2.rd0 s_s_Edges.rd) rfl) ?_))))))
 obtain ⟨c'1,hp⟩:=Zj hp
 refine zy (hO'2.mks (E:=zJ) (y:=(⟨0,0⟩:A2 Int)) (bytes:=16) (z:=(s.Edges.length:Int)) hO'2.fr rfl rfl rfl c'1 (by decide)) ?_
 rintro v'5 k'3 ⟨r'3,f'3,hW⟩
 have hO'3:=hW
 refine Ze (Zcl (cs:=[.sn,.sn,v'5,.sn]) (by rw [(zq (v:=v'5) rfl Za5)]; simp [fill,over,Zhl,Zhj,Zhk,Zhn,Zhi,Zhm,(Sl.nil:Sl Zf k'3 .sn ([]:List Zc)).cells,(Sl.nil:Sl zw k'3 .sn ([]:List Int)).cells,(hO'3.sl 2 rfl:Sl zJ k'3 v'5 (List.replicate ((s.Edges.length:Int):Int).toNat (⟨0,0⟩:A2 Int))).cells,(Sl.nil:Sl eV k'3 .sn []).cells])) (zy (hO'3.alloc (cs:=[.sn,.sn,.sn,.sn]) hO'3.fr) ?_)
 rintro _ k'4 ⟨r'4,rfl,n'3,f'4,hW⟩
 have hO'4:=hW
 refine zy (hO'4.stb (ws:=[.sn,.sn,v'5,.sn]) (cs':=[.sn,.sn,v'5,.sn]) (v:=.ag [.sn,.sn,v'5,.sn]) 3 rfl rfl rfl rfl ⟨rfl,Nat.le_of_ble_eq_true rfl,(all_cons (Sl.nil:Sl Zf k'4 .sn ([]:List Zc)).oneV (all_cons (Sl.nil:Sl zw k'4 .sn ([]:List Int)).oneV (all_cons (hO'4.sl 2 rfl:Sl zJ k'4 v'5 (List.replicate ((s.Edges.length:Int):Int).toNat (⟨0,0⟩:A2 Int))).oneV (all_cons (Sl.nil:Sl eV k'4 .sn []).oneV all_nil))))⟩ rfl) ?_
 rintro _ k'5 ⟨rfl,f'5,m'1,hW⟩
 have hO'5:=hW
 refine Zb (Za (Zk (Zk (Zo (Zd (.n 0) rfl (Zb (Za ?_)))))))
 refine Zaa ?_
 obtain ⟨o'1,ho'1,hp⟩:=Zt hp
 refine W.mono (Q:=fun e fr k=>match (generalizing:=false) o'1 with
   | (n4,n5,n6,n7)=>e = (.exit 0)∧∃ (v'10:V),∃ (v'11:V),∃ (v'12:V),∃ (v'13:V),∃ (vs'3:List V),fr 1 = .p r'1 0∧fr 2 = .p r'2 0∧fr 3 = .p r'4 0∧Own B h k [zQ r'1 [v_s_Boxes,v_s_Edges],zQ r'2 [.sn,.sn,.sn,.sn],zQ r'4 [v'10,v'11,v'12,v'13],eSl Zf v'10 n4,eSl zw v'11 n5,eSl zJ v'12 n6,eSl eV v'13 vs'3,Zba zw vs'3 n7]) ?_ ?_
 ·clear hp
  have hO'7:=hO'5.nil Zf
  have hO'8:=hO'7.nil zw
  have hO'9:=hO'8.nil eV
  have hO'10:=hO'9.allNil zw 0
  refine z9 (fun st fr k=>match st with | (n,n1,n2,n3,v)=>∃ (v'6:V),∃ (v'7:V),∃ (v'8:V),∃ (v'9:V),∃ (vs'2:List V),fr 1 = .p r'1 0∧fr 2 = .p r'2 0∧fr 3 = .p r'4 0∧fr 4 = .n v∧Own B h k [zQ r'1 [v_s_Boxes,v_s_Edges],zQ r'2 [.sn,.sn,.sn,.sn],zQ r'4 [v'6,v'7,v'8,v'9],eSl Zf v'6 n,eSl zw v'7 n1,eSl zJ v'8 n2,eSl eV v'9 vs'2,Zba zw vs'2 n3]) ho'1 (s:=(([]:List Zc),([]:List Int),List.replicate ((s.Edges.length:Int):Int).toNat (⟨0,0⟩:A2 Int),([]:List (List Int)),0)) ⟨V.sn,V.sn,v'5,V.sn,[],rfl,rfl,rfl,rfl,(hO'10.pick [0,1,3,4,5,2,6,7] rfl (by decide))⟩ ?_
  rintro ⟨n,n1,n2,n3,v⟩ q'2 k'7 ⟨v'6,v'7,v'8,v'9,vs'2,q'2_1,q'2_2,q'2_3,q'2_4,hO'11⟩ o'2 hp
  dsimp only [ZO.s0] at hp
  refine Zk (Zk (Zo (Zd (.n v) q'2_4 (Ze (z6 (r:=r'1) (o:=0) (o':=0) q'2_1 rfl) (Ze (zi (cs:=[v_s_Boxes,v_s_Edges]) (v:=v_s_Boxes) (hO'11.box 0 rfl) rfl rfl) (Ze (Zah (hO'11.rd0 s_s_Boxes.rd) rfl) (Ze (zG (a:=v) (b:=(s.Boxes.length:Int)) rfl rfl) ?_)))))))
  refine Zb (Za ?_)
  rcases Z2 hp with ⟨b'1,hp⟩ | ⟨b'1,hp⟩
  ·refine zO (t:=(decide (v < (s.Boxes.length:Int)))) rfl b'1 ?_
   refine zU (Za (Zk (Zaa (Zk (Zo (Ze (z6 (r:=r'4) (o:=0) (o':=0) q'2_3 rfl) (Ze (zi (cs:=[v'6,v'7,v'8,v'9]) (v:=v'6) (hO'11.box 2 rfl) rfl rfl) ?_)))))))
   refine Ze (Zah (hO'11.sl 3 rfl) rfl) (Zd (.n (n.length:Int)) rfl (Zb (Za (Zk (Zo (Ze (z6 (r:=r'4) (o:=0) (o':=1) q'2_3 rfl) (Ze (zi (cs:=[v'6,v'7,v'8,v'9]) (v:=v'7) (hO'11.box 2 rfl) rfl rfl) ?_)))))))
   refine Zd (.n (n.length:Int)) rfl (zy (hO'11.bsl (E:=zw) (l:=[(n.length:Int)]) hO'11.fr (by rw [(zq (v:=.n (n.length:Int)) rfl Za5)]; rfl) rfl) ?_)
   rintro v'14 k'8 ⟨r'5,f'6,hW⟩
   have hO'12:=hW
   obtain ⟨c'2,hp⟩:=Zj hp
   refine zy (hO'12.app (E:=zw) (bytes:=8) 4 hO'12.fr rfl (hO'12.sl 8 rfl) rfl rfl (fun _=>rfl) c'2 (by decide)) ?_
   rintro v'15 k'9 ⟨f'7,hW⟩
   have hO'13:=hW
   refine Ze (z6 (r:=r'4) (o:=0) (o':=1) q'2_3 rfl) (zy (hO'13.stb (ws:=[v'15]) (cs':=[v'6,v'15,v'8,v'9]) (v:=v'15) 2 rfl rfl rfl (hO'13.sl 4 rfl:Sl zw k'9 v'15 (n1++[(n.length:Int)])).cells ⟨rfl,Nat.le_of_ble_eq_true rfl,(all_cons (hO'13.sl 4 rfl:Sl zw k'9 v'15 (n1++[(n.length:Int)])).oneV rfl)⟩ rfl) ?_)
   rintro _ k'10 ⟨rfl,f'8,m'2,hW⟩
   have hO'14:=hW
   refine Zb (Za (Zk (Zk (Zo (Ze (z6 (r:=r'1) (o:=0) (o':=0) q'2_1 rfl) (Ze (zi (cs:=[v_s_Boxes,v_s_Edges]) (v:=v_s_Boxes) (hO'14.box 0 rfl) rfl rfl) (Zd (.n v) q'2_4 ?_)))))))
   obtain ⟨c'3,hp⟩:=Zj hp
   refine Ze (zz (E:=e_bool) (z:=v) (hO'14.rd0 s_s_Boxes.rd) rfl rfl c'3) (Ze (zS (w:=.b (gi s.Boxes v.toNat)) (hO'14.rd0 s_s_Boxes.rd) rfl (Zp c'3) rfl) (Zb (Za ?_)))
   rcases Z2 hp with ⟨b'2,hp⟩ | ⟨b'2,hp⟩
   ·refine zO (t:=(gi s.Boxes v.toNat)) rfl b'2 ?_
    refine Zk (Zo (Ze (Zaz (cs:=[v'6,v'15,v'8,v'9]) (ws:=[v'6,v'15,v'8,v'9]) (hO'14.box 2 rfl) q'2_3 rfl) (Ze (Zaz (cs:=[v_s_Boxes,v_s_Edges]) (ws:=[v_s_Boxes,v_s_Edges]) (hO'14.box 0 rfl) q'2_1 rfl) (Zd (.n v) q'2_4 ?_))))
    obtain ⟨x,hx'1,hp⟩:=Zt hp
    obtain ⟨u'1,k'11,ca'1,v'16,v'17,v'18,v'19,vs'4,rfl,hW'1⟩:=z5.ok (h:=k'10) (n:=(⟨n,n1++[(n.length:Int)],n2,n3⟩:zZ)) (s:=s) (v:=v) (hO'14.toM [3,4,5,6,7] rfl (by decide)) (hO'14.rdM [3,4,5,6,7] rfl s_s_Boxes.rd) (hO'14.rdM [3,4,5,6,7] rfl s_s_Edges.rd) hx'1
    refine Za3 (id:=200) (caps:=[]) rfl (Z3 (v:=.ag [v'6,v'15,v'8,v'9]) rfl (Z3 (v:=.ag [v_s_Boxes,v_s_Edges]) rfl (Z3 (v:=.n v) rfl zn))) ca'1 ?_
    have hO'15:=(hO'14.callM [3,4,5,6,7] [0,1,2,8] rfl rfl (by decide) hW'1 rfl).pick [0,1,2,900,901,902,903,904,3,4,5,6,7,8] rfl (by decide)
    refine zy (hO'15.stb (ws:=[v'16,v'17,v'18,v'19]) (cs':=[v'16,v'17,v'18,v'19]) (v:=.ag [v'16,v'17,v'18,v'19]) 2 rfl q'2_3 rfl rfl ⟨rfl,Nat.le_of_ble_eq_true rfl,(all_cons (hO'15.sl 9 rfl).oneV (all_cons (hO'15.sl 10 rfl).oneV (all_cons (hO'15.sl 11 rfl).oneV (all_cons (hO'15.sl 12 rfl).oneV all_nil))))⟩ rfl) ?_
    rintro _ k'12 ⟨rfl,f'9,m'3,hW⟩
    have hO'16:=hW
    refine Zb (Za (ZaT (zR (Zaq (Za (Zo (Zd (.n v) q'2_4 ?_)))))))
    obtain ⟨c'4,hp⟩:=Zj hp
    refine Ze (zp (a:=v) (b:=1) rfl rfl c'4) (Zd (.n (v + 1)) rfl (Zb ?_))
    cases hp
    exact (Or.inl ⟨(x.Cells,x.First,x.Ends,x.Ways,v + 1),rfl,rfl,v'16,v'17,v'18,v'19,vs'4,q'2_1,q'2_2,q'2_3,rfl,(hO'16.pick [0,1,2,9,10,11,12,13] rfl (by decide))⟩)
   ·refine zN (t:=(gi s.Boxes v.toNat)) rfl b'2 ?_
    refine zU (Za (Zk (Zo ?_)))
    obtain ⟨x1,hx'2,hp⟩:=Zt hp
    obtain ⟨u'2,k'13,ca'2,v'20,rfl,hW'2⟩:=ZE.ok (h:=k'10)   hx'2
    refine Za3 (id:=46) (caps:=[]) rfl (Z3 (v:=.n 1) rfl zn) ca'2 ?_
    have hO'17:=hO'14.call hW'2 rfl
    refine Zd v'20 rfl (Zb (Za (Zk (Zo (Ze (z6 (r:=r'4) (o:=0) (o':=0) q'2_3 rfl) (Ze (zi (cs:=[v'6,v'15,v'8,v'9]) (v:=v'6) (hO'17.box 2 rfl) rfl rfl) (Zd v'20 rfl ?_)))))))
    obtain ⟨c'5,hp⟩:=Zj hp
    refine zy (hO'17.app (E:=Zf) (bytes:=64) 3 hO'17.fr rfl (hO'17.sl 9 rfl) rfl rfl (fun _=>rfl) c'5 (by decide)) ?_
    rintro v'21 k'14 ⟨f'10,hW⟩
    have hO'18:=hW
    refine Ze (z6 (r:=r'4) (o:=0) (o':=0) q'2_3 rfl) (zy (hO'18.stb (ws:=[v'21]) (cs':=[v'21,v'15,v'8,v'9]) (v:=v'21) 2 rfl rfl rfl (hO'18.sl 3 rfl).cells ⟨rfl,Nat.le_of_ble_eq_true rfl,(all_cons (hO'18.sl 3 rfl).oneV rfl)⟩ rfl) ?_)
    rintro _ k'15 ⟨rfl,f'11,m'4,hW⟩
    have hO'19:=hW
    refine Zb (Za (Zk (Zo (Zd (.n 0) rfl (Zb (Za (Zaa ?_)))))))
    obtain ⟨o'3,ho'2,hp⟩:=Zt hp
    refine W.mono (Q:=fun e fr k=>match (generalizing:=false) o'3 with
      | n9=>e = (.exit 2)∧fr 1 = .p r'1 0∧fr 2 = .p r'2 0∧fr 3 = .p r'4 0∧fr 4 = .n v∧Own B h k [zQ r'1 [v_s_Boxes,v_s_Edges],zQ r'2 [.sn,.sn,.sn,.sn],zQ r'4 [v'21,v'15,v'8,v'9],eSl Zf v'21 (n++x1),eSl zw v'15 (n1++[(n.length:Int)]),eSl zJ v'8 n9,eSl eV v'9 vs'2,Zba zw vs'2 n3]) ?_ ?_
    ·clear hp
     refine z9 (fun st fr k=>match st with | (n8,d)=>fr 1 = .p r'1 0∧fr 2 = .p r'2 0∧fr 3 = .p r'4 0∧fr 4 = .n v∧fr 5 = .n (n.length:Int)∧fr 7 = .n d∧Own B h k [zQ r'1 [v_s_Boxes,v_s_Edges],zQ r'2 [.sn,.sn,.sn,.sn],zQ r'4 [v'21,v'15,v'8,v'9],eSl Zf v'21 (n++x1),eSl zw v'15 (n1++[(n.length:Int)]),eSl zJ v'8 n8,eSl eV v'9 vs'2,Zba zw vs'2 n3]) ho'2 (s:=(n2,0)) ⟨q'2_1,q'2_2,q'2_3,q'2_4,rfl,rfl,(hO'19.pick [0,1,2,3,4,5,6,7] rfl (by decide))⟩ ?_
     rintro ⟨n8,d⟩ q'4 k'17 ⟨q'4_1,q'4_2,q'4_3,q'4_4,q'4_5,q'4_7,hO'21⟩ o'4 hp
     dsimp only [ZO.s1] at hp
     refine Zk (Zk (Zo (Zd (.n d) q'4_7 (Ze (zG (a:=d) (b:=4) rfl rfl) (Zb (Za ?_))))))
     rcases Z2 hp with ⟨b'3,hp⟩ | ⟨b'3,hp⟩
     ·refine zO (t:=(decide (d < 4))) rfl b'3 ?_
      refine zU (Za (Zk (Zaa (Zk (Zo (Ze (Zaz (cs:=[v_s_Boxes,v_s_Edges]) (ws:=[v_s_Boxes,v_s_Edges]) (hO'21.box 0 rfl) q'4_1 rfl) (Zd (.n v) q'4_4 ?_)))))))
      refine Zd (.n d) q'4_7 ?_
      obtain ⟨x2,hx'3,hp⟩:=Zt hp
      obtain ⟨u'3,k'18,ca'3,v'22,rfl,hW'3⟩:=z7.ok (h:=k'17)  (hO'21.rd0 s_s_Boxes.rd) (hO'21.rd0 s_s_Edges.rd) hx'3
      refine Za3 (id:=199) (caps:=[]) rfl (Z3 (v:=.ag [v_s_Boxes,v_s_Edges]) rfl (Z3 (v:=.n v) rfl (Z3 (v:=.n d) rfl zn))) ca'3 ?_
      have hO'22:=hO'21.call hW'3 rfl
      refine Zd v'22 rfl (Zb (Za (Zk (Zo (Zd (.n 0) rfl (Zb (Za ?_)))))))
      refine Zaa ?_
      obtain ⟨o'5,ho'3,hp⟩:=Zt hp
      refine W.mono (Q:=fun e fr k=>match (generalizing:=false) o'5 with
        | n11=>e = (.exit 4)∧fr 1 = .p r'1 0∧fr 2 = .p r'2 0∧fr 3 = .p r'4 0∧fr 4 = .n v∧fr 5 = .n (n.length:Int)∧fr 7 = .n d∧Own B h k [zQ r'1 [v_s_Boxes,v_s_Edges],zQ r'2 [.sn,.sn,.sn,.sn],zQ r'4 [v'21,v'15,v'8,v'9],eSl Zf v'21 (n++x1),eSl zw v'15 (n1++[(n.length:Int)]),eSl zJ v'8 n11,eSl eV v'9 vs'2,Zba zw vs'2 n3]) ?_ ?_
      ·clear hp
       refine z9 (fun st fr k=>match st with | (n10,i)=>fr 1 = .p r'1 0∧fr 2 = .p r'2 0∧fr 3 = .p r'4 0∧fr 4 = .n v∧fr 5 = .n (n.length:Int)∧fr 7 = .n d∧fr 8 = v'22∧fr 9 = .n i∧Own B h k [zQ r'1 [v_s_Boxes,v_s_Edges],zQ r'2 [.sn,.sn,.sn,.sn],zQ r'4 [v'21,v'15,v'8,v'9],eSl Zf v'21 (n++x1),eSl zw v'15 (n1++[(n.length:Int)]),eSl zJ v'8 n10,eSl eV v'9 vs'2,Zba zw vs'2 n3,eSl zw v'22 x2]) ho'3 (s:=(n8,0)) ⟨q'4_1,q'4_2,q'4_3,q'4_4,q'4_5,q'4_7,rfl,rfl,(hO'22.pick [0,1,2,3,4,5,6,7,8] rfl (by decide))⟩ ?_
       rintro ⟨n10,i⟩ q'6 k'20 ⟨q'6_1,q'6_2,q'6_3,q'6_4,q'6_5,q'6_7,q'6_8,q'6_9,hO'24⟩ o'6 hp
       dsimp only [ZO.s2] at hp
       refine Zk (Zk (Zo (Zd (.n i) q'6_9 (Zd v'22 q'6_8 (Ze (Zah (hO'24.sl 8 rfl) rfl) (Ze (zG (a:=i) (b:=(x2.length:Int)) rfl rfl) (Zb ?_)))))))
       refine Za ?_
       rcases Z2 hp with ⟨b'4,hp⟩ | ⟨b'4,hp⟩
       ·refine zO (t:=(decide (i < (x2.length:Int)))) rfl b'4 ?_
        refine zU (Za (Zk (Zaa (ZfI ?_))))
        have hW:=hO'24.bump 16
        have fr'1:=Fresh.start k'20 16
        have nb'1:∀ {i:Nat},h.n≤k'20.n + i:=Nat.le_trans hO'24.n (Nat.le_add_right _ _)
        have hO'25:=hW
        refine zP (z6 (r:=r'4) (o:=0) (o':=2) q'6_3 rfl) (zP (zi (cs:=[v'21,v'15,v'8,v'9]) (v:=v'8) (hO'25.box 2 rfl) rfl rfl) (Zbn v'22 q'6_8 (Zbn (.n i) q'6_9 ?_)))
        obtain ⟨c'6,hp⟩:=Zj hp
        refine zP (zz (E:=zw) (z:=i) (hO'25.sl 8 rfl) rfl rfl c'6) (zP (zS (w:=.n (gi x2 i.toNat)) (hO'25.sl 8 rfl) rfl (Zp c'6) rfl) ?_)
        obtain ⟨c'7,hp⟩:=Zj hp
        refine zP (Zhe (a:=(gi x2 i.toNat)) (b:=2) rfl rfl c'7) (Zbn v'22 q'6_8 (Zbn (.n i) q'6_9 (zP (zz (E:=zw) (z:=i) (hO'25.sl 8 rfl) rfl rfl c'6) (zP (zS (w:=.n (gi x2 i.toNat)) (hO'25.sl 8 rfl) rfl (Zp c'6) rfl) (zP (ZbJ (a:=(gi x2 i.toNat)) (b:=2) rfl rfl (by decide)) (Zbn (.n (n.length:Int)) q'6_5 ?_))))))
        obtain ⟨c'8,hp⟩:=Zj hp
        refine zP (zz (E:=zJ) (z:=((gi x2 i.toNat).tdiv 2)) (hO'25.sl 5 rfl) rfl rfl c'8) ?_
        obtain ⟨c'9,hp⟩:=Zj hp
        refine zP (ZaU (off:=0) (off2:=(0 + ((gi x2 i.toNat).tmod 2:Int).toNat * 1)) (z:=((gi x2 i.toNat).tmod 2)) (hO'25.sl 5 rfl) (Zp c'8) rfl rfl c'9 rfl) (Ze6 (hO'25.ste (E:=zJ) (y:=((gi n10 ((gi x2 i.toNat).tdiv 2:Int).toNat).set ((gi x2 i.toNat).tmod 2) (n.length:Int))) (ws:=[.n (n.length:Int)]) 5 rfl rfl (Zp c'8) rfl rfl ⟨rfl,(by have:=c'9; exact (show 0 + ((gi x2 i.toNat).tmod 2:Int).toNat * 1 + 1≤2 by omega)),rfl⟩ (ZfD c'9)) ?_)
        rintro _ k'22 z'1 ⟨rfl,f'12,m'5,hW⟩
        have fr'2:=fr'1.kept f'12 (by decide)
        have hO'26:=hW
        refine Zc1 ?_
        refine And.intro ?_ ?_
        ·intro q hq
         simp only [List.mem_cons,List.not_mem_nil,or_false] at hq
         rcases hq with rfl | rfl | rfl
         ·refine Zay ?_ ?_
          ·exact (fun h=>nomatch h)
          ·exact (fun h=>nomatch h)
         ·refine Zay ?_ ?_
          ·exact (fun h=>nomatch h)
          ·exact (fun h=>nomatch h)
         ·refine Zay ?_ ?_
          ·exact (fun h=>nomatch h)
          ·exact (fun h=>nomatch h)
        refine Zac (Za (Zo (Zd (.n i) q'6_9 ?_)))
        obtain ⟨c'10,hp⟩:=Zj hp
        refine Ze (zp (a:=i) (b:=1) rfl rfl c'10) (Zd (.n (i + 1)) rfl (Zb ?_))
        cases hp
        exact (Or.inl ⟨(n10.set ((gi x2 i.toNat).tdiv 2:Int).toNat ((gi n10 ((gi x2 i.toNat).tdiv 2:Int).toNat).set ((gi x2 i.toNat).tmod 2) (n.length:Int)),i + 1),rfl,rfl,q'6_1,q'6_2,q'6_3,q'6_4,q'6_5,q'6_7,q'6_8,rfl,(hO'26.pick [0,1,2,3,4,5,6,7,8] rfl (by decide))⟩)
       ·refine zN (t:=(decide (i < (x2.length:Int)))) rfl b'4 ?_
        refine ZaT (zR ?_)
        cases hp
        refine (Or.inr ⟨n10,rfl,(fun h=>nomatch h),(fun he=>?_)⟩)
        subst he; exact ⟨rfl,q'6_1,q'6_2,q'6_3,q'6_4,q'6_5,q'6_7,(hO'24.pick [0,1,2,3,4,5,6,7] rfl (by decide))⟩
      intro e'3 q'5 k'19 hJ'3
      obtain ⟨n11,rfl⟩:∃ x,x = o'5:=⟨_,rfl⟩
      obtain ⟨rfl,q'5_1,q'5_2,q'5_3,q'5_4,q'5_5,q'5_7,hO'23⟩:=hJ'3
      refine Zaq (Zac (Za (Zo (Zd (.n d) q'5_7 ?_))))
      obtain ⟨c'11,hp⟩:=Zj hp
      refine Ze (zp (a:=d) (b:=1) rfl rfl c'11) (Zd (.n (d + 1)) rfl (Zb ?_))
      cases hp
      exact (Or.inl ⟨(n11,d + 1),rfl,rfl,q'5_1,q'5_2,q'5_3,q'5_4,q'5_5,rfl,(hO'23.pick [0,1,2,3,4,5,6,7] rfl (by decide))⟩)
     ·refine zN (t:=(decide (d < 4))) rfl b'3 ?_
      refine ZaT (zR ?_)
      cases hp
      refine (Or.inr ⟨n8,rfl,(fun h=>nomatch h),(fun he=>?_)⟩)
      subst he; exact ⟨rfl,q'4_1,q'4_2,q'4_3,q'4_4,(hO'21.pick [0,1,2,3,4,5,6,7] rfl (by decide))⟩
    intro e'2 q'3 k'16 hJ'2
    obtain ⟨n9,rfl⟩:∃ x,x = o'3:=⟨_,rfl⟩
    obtain ⟨rfl,q'3_1,q'3_2,q'3_3,q'3_4,hO'20⟩:=hJ'2
    refine Zaq (Zac (Za (Zo (Zd (.n v) q'3_4 ?_))))
    obtain ⟨c'12,hp⟩:=Zj hp
    refine Ze (zp (a:=v) (b:=1) rfl rfl c'12) (Zd (.n (v + 1)) rfl (Zb ?_))
    cases hp
    exact (Or.inl ⟨(n++x1,n1++[(n.length:Int)],n9,n3,v + 1),rfl,rfl,v'21,v'15,v'8,v'9,vs'2,q'3_1,q'3_2,q'3_3,rfl,(hO'20.pick [0,1,2,3,4,5,6,7] rfl (by decide))⟩)
  ·refine zN (t:=(decide (v < (s.Boxes.length:Int)))) rfl b'1 ?_
   refine ZaT (zR ?_)
   cases hp
   refine (Or.inr ⟨(n,n1,n2,n3),rfl,(fun h=>nomatch h),(fun he=>?_)⟩)
   subst he; exact ⟨rfl,v'6,v'7,v'8,v'9,vs'2,q'2_1,q'2_2,q'2_3,(hO'11.pick [0,1,2,3,4,5,6,7] rfl (by decide))⟩
 intro e'1 q'1 k'6 hJ'1
 obtain ⟨n4,n5,n6,n7⟩:=o'1
 obtain ⟨rfl,v'10,v'11,v'12,v'13,vs'3,q'1_1,q'1_2,q'1_3,hO'6⟩:=hJ'1
 refine Zaq (Za (Zk (Zk (Zo (Zd (.n 0) rfl (Zb (Za ?_)))))))
 refine Zaa ?_
 obtain ⟨o'7,ho'4,hp⟩:=Zt hp
 refine W.mono (Q:=fun e fr k=>match (generalizing:=false) o'7 with
   | (n14,n15)=>e = (.exit 6)∧∃ (v'25:V),∃ (v'26:V),∃ (vs'6:List V),fr 2 = .p r'2 0∧fr 3 = .p r'4 0∧Own B h k [zQ r'2 [.sn,.sn,.sn,.sn],zQ r'4 [v'25,v'11,v'12,v'26],eSl Zf v'25 n14,eSl zw v'11 n5,eSl zJ v'12 n6,eSl eV v'26 vs'6,Zba zw vs'6 n15]) ?_ ?_
 ·clear hp
  refine z9 (fun st fr k=>match st with | (n12,n13,i1)=>∃ (v'23:V),∃ (v'24:V),∃ (vs'5:List V),fr 1 = .p r'1 0∧fr 2 = .p r'2 0∧fr 3 = .p r'4 0∧fr 10 = .n i1∧Own B h k [zQ r'1 [v_s_Boxes,v_s_Edges],zQ r'2 [.sn,.sn,.sn,.sn],zQ r'4 [v'23,v'11,v'12,v'24],eSl Zf v'23 n12,eSl zw v'11 n5,eSl zJ v'12 n6,eSl eV v'24 vs'5,Zba zw vs'5 n13]) ho'4 (s:=(n4,n7,0)) ⟨v'10,v'13,vs'3,q'1_1,q'1_2,q'1_3,rfl,(hO'6.pick [0,1,2,3,4,5,6,7] rfl (by decide))⟩ ?_
  rintro ⟨n12,n13,i1⟩ q'8 k'24 ⟨v'23,v'24,vs'5,q'8_1,q'8_2,q'8_3,q'8_10,hO'28⟩ o'8 hp
  dsimp only [ZO.s3] at hp
  refine Zk (Zk (Zo (Zd (.n i1) q'8_10 (Ze (z6 (r:=r'1) (o:=0) (o':=1) q'8_1 rfl) (Ze (zi (cs:=[v_s_Boxes,v_s_Edges]) (v:=v_s_Edges) (hO'28.box 0 rfl) rfl rfl) (Ze (Zah (hO'28.rd0 s_s_Edges.rd) rfl) (Ze (zG (a:=i1) (b:=(s.Edges.length:Int)) rfl rfl) ?_)))))))
  refine Zb (Za ?_)
  rcases Z2 hp with ⟨b'5,hp⟩ | ⟨b'5,hp⟩
  ·refine zO (t:=(decide (i1 < (s.Edges.length:Int)))) rfl b'5 ?_
   refine zU (Za (Zk (Zaa (Zk (Zo (Ze (z6 (r:=r'4) (o:=0) (o':=2) q'8_3 rfl) (Ze (zi (cs:=[v'23,v'11,v'12,v'24]) (v:=v'12) (hO'28.box 2 rfl) rfl rfl) ?_)))))))
   refine Zd (.n i1) q'8_10 ?_
   obtain ⟨c'13,hp⟩:=Zj hp
   refine Ze (zz (E:=zJ) (z:=i1) (hO'28.sl 5 rfl) rfl rfl c'13) (Ze (ZaU (off:=0) (off2:=0) (z:=0) (hO'28.sl 5 rfl) (Zp c'13) rfl rfl (by decide) rfl) (Ze (zS (w:=.n ((gi n6 i1.toNat).get 0)) (hO'28.sl 5 rfl) rfl (Zp c'13) rfl) (Zd (.n ((gi n6 i1.toNat).get 0)) rfl (Zb (Za (Zk (Zo ?_)))))))
   refine Ze (z6 (r:=r'1) (o:=0) (o':=1) q'8_1 rfl) (Ze (zi (cs:=[v_s_Boxes,v_s_Edges]) (v:=v_s_Edges) (hO'28.box 0 rfl) rfl rfl) (Zd (.n i1) q'8_10 ?_))
   obtain ⟨c'14,hp⟩:=Zj hp
   refine Ze (zz (E:=Zr) (z:=i1) (hO'28.rd0 s_s_Edges.rd) rfl rfl c'14) (Ze (ZaE (off':=0) (off2:=2) (hO'28.rd0 s_s_Edges.rd) (Zp c'14) rfl rfl) (Ze (zS (w:=.n ((gi s.Edges i1.toNat).Dir)) (hO'28.rd0 s_s_Edges.rd) rfl (Zp c'14) rfl) (Zd (.n ((gi s.Edges i1.toNat).Dir)) rfl (Zb (Za (Zk (Zo ?_)))))))
   refine Zd (.n ((gi n6 i1.toNat).get 0)) rfl (zy (hO'28.bsl (E:=zw) (l:=[(gi n6 i1.toNat).get 0]) hO'28.fr (by rw [(zq (v:=.n ((gi n6 i1.toNat).get 0)) rfl Za5)]; rfl) rfl) ?_)
   rintro v'27 k'25 ⟨r'6,f'13,hW⟩
   have hO'29:=hW
   refine Zd v'27 rfl (Zb (Za (Zk (Zk (Zo (Zd (.n 0) rfl (Zb ?_)))))))
   refine Za (Zaa ?_)
   obtain ⟨o'9,ho'5,hp⟩:=Zt hp
   refine W.mono (Q:=fun e fr k=>match (generalizing:=false) o'9 with
     | (n17,at_1,d2,way1)=>e = (.exit 8)∧∃ (v'30:V),∃ (v'31:V),fr 1 = .p r'1 0∧fr 2 = .p r'2 0∧fr 3 = .p r'4 0∧fr 10 = .n i1∧fr 11 = .n at_1∧fr 12 = .n d2∧fr 13 = v'31∧Own B h k [zQ r'1 [v_s_Boxes,v_s_Edges],zQ r'2 [.sn,.sn,.sn,.sn],zQ r'4 [v'30,v'11,v'12,v'24],eSl Zf v'30 n17,eSl zw v'11 n5,eSl zJ v'12 n6,eSl eV v'24 vs'5,Zba zw vs'5 n13,eSl zw v'31 way1]) ?_ ?_
   ·clear hp
    refine z9 (fun st fr k=>match st with | (n16,at_,d1,way,k_)=>∃ (v'28:V),∃ (v'29:V),fr 1 = .p r'1 0∧fr 2 = .p r'2 0∧fr 3 = .p r'4 0∧fr 10 = .n i1∧fr 11 = .n at_∧fr 12 = .n d1∧fr 13 = v'29∧fr 14 = .n k_∧Own B h k [zQ r'1 [v_s_Boxes,v_s_Edges],zQ r'2 [.sn,.sn,.sn,.sn],zQ r'4 [v'28,v'11,v'12,v'24],eSl Zf v'28 n16,eSl zw v'11 n5,eSl zJ v'12 n6,eSl eV v'24 vs'5,Zba zw vs'5 n13,eSl zw v'29 way]) ho'5 (s:=(n12,(gi n6 i1.toNat).get 0,(gi s.Edges i1.toNat).Dir,[(gi n6 i1.toNat).get 0],0)) ⟨v'23,v'27,q'8_1,q'8_2,q'8_3,q'8_10,rfl,rfl,rfl,rfl,(hO'29.pick [0,1,2,3,4,5,6,7,8] rfl (by decide))⟩ ?_
    rintro ⟨n16,at_,d1,way,k_⟩ q'10 k'27 ⟨v'28,v'29,q'10_1,q'10_2,q'10_3,q'10_10,q'10_11,q'10_12,q'10_13,q'10_14,hO'31⟩ o'10 hp
    dsimp only [ZO.s4] at hp
    refine Zk (Zk (Zo (Zd (.n k_) q'10_14 (Ze (z6 (r:=r'1) (o:=0) (o':=1) q'10_1 rfl) (Ze (zi (cs:=[v_s_Boxes,v_s_Edges]) (v:=v_s_Edges) (hO'31.box 0 rfl) rfl rfl) (Zd (.n i1) q'10_10 (Ze (zz (E:=Zr) (z:=i1) (hO'31.rd0 s_s_Edges.rd) rfl rfl c'14) ?_)))))))
    refine Ze (ZaE (off':=0) (off2:=3) (hO'31.rd0 s_s_Edges.rd) (Zp c'14) rfl rfl) (Ze (zS (w:=.s ((gi s.Edges i1.toNat).Bends)) (hO'31.rd0 s_s_Edges.rd) rfl (Zp c'14) rfl) (Ze (ZeM (a:=((gi s.Edges i1.toNat).Bends)) rfl) (Ze (zG (a:=k_) (b:=(((gi s.Edges i1.toNat).Bends).size:Int)) rfl rfl) (Zb (Za ?_)))))
    rcases Z2 hp with ⟨b'6,hp⟩ | ⟨b'6,hp⟩
    ·refine zO (t:=(decide (k_ < (((gi s.Edges i1.toNat).Bends).size:Int)))) rfl b'6 ?_
     refine zU (Za (Zk (Zaa (Zk (Zo (Ze (z6 (r:=r'4) (o:=0) (o':=0) q'10_3 rfl) (Ze (zi (cs:=[v'28,v'11,v'12,v'24]) (v:=v'28) (hO'31.box 2 rfl) rfl rfl) ?_)))))))
     refine Ze (Zah (hO'31.sl 3 rfl) rfl) (Zd (.n (n16.length:Int)) rfl (Zb (Za (Zk (Zo ?_)))))
     obtain ⟨x3,hx'4,hp⟩:=Zt hp
     obtain ⟨u'4,k'28,ca'4,v'32,rfl,hW'4⟩:=ZE.ok (h:=k'27)   hx'4
     refine Za3 (id:=46) (caps:=[]) rfl (Z3 (v:=.n 1) rfl zn) ca'4 ?_
     have hO'32:=hO'31.call hW'4 rfl
     refine Zd v'32 rfl (Zb (Za (Zk (Zo (Ze (z6 (r:=r'4) (o:=0) (o':=0) q'10_3 rfl) (Ze (zi (cs:=[v'28,v'11,v'12,v'24]) (v:=v'28) (hO'32.box 2 rfl) rfl rfl) (Zd v'32 rfl ?_)))))))
     obtain ⟨c'15,hp⟩:=Zj hp
     refine zy (hO'32.app (E:=Zf) (bytes:=64) 3 hO'32.fr rfl (hO'32.sl 9 rfl) rfl rfl (fun _=>rfl) c'15 (by decide)) ?_
     rintro v'33 k'29 ⟨f'14,hW⟩
     have hO'33:=hW
     refine Ze (z6 (r:=r'4) (o:=0) (o':=0) q'10_3 rfl) (zy (hO'33.stb (ws:=[v'33]) (cs':=[v'33,v'11,v'12,v'24]) (v:=v'33) 2 rfl rfl rfl (hO'33.sl 3 rfl).cells ⟨rfl,Nat.le_of_ble_eq_true rfl,(all_cons (hO'33.sl 3 rfl).oneV rfl)⟩ rfl) ?_)
     rintro _ k'30 ⟨rfl,f'15,m'6,hW⟩
     have hO'34:=hW
     refine Zb (Za (Zk (Zo (Ze (z6 (r:=r'4) (o:=0) (o':=0) q'10_3 rfl) (Ze (zi (cs:=[v'33,v'11,v'12,v'24]) (v:=v'33) (hO'34.box 2 rfl) rfl rfl) (Zd (.n at_) q'10_11 (Zd (.n d1) q'10_12 ?_)))))))
     refine Zd (.n (n16.length:Int)) rfl (Zd (.n i1) q'10_10 ?_)
     obtain ⟨⟨x4,x5⟩,hx'5,hp⟩:=Zt hp
     obtain ⟨u'5,k'31,ca'5,v'34,rfl,hW'5⟩:=zh.ok (h:=k'30) (l:=(n16++x3)) (v:=at_) (d:=d1) (w:=(n16.length:Int)) (o:=i1) (hO'34.toM [3] rfl (by decide))  hx'5
     refine Za3 (id:=53) (caps:=[]) rfl (Z3 (v:=v'33) rfl (Z3 (v:=.n at_) rfl (Z3 (v:=.n d1) rfl (Z3 (v:=.n (n16.length:Int)) rfl (Z3 (v:=.n i1) rfl zn))))) ca'5 ?_
     have hO'35:=(hO'34.callM [3] [0,1,2,4,5,6,7,8,9] rfl rfl (by decide) hW'5 rfl).pick [0,1,2,900,3,4,5,6,7,8,9] rfl (by decide)
     refine Zd (.tu [v'34,.n x5]) rfl (Ze (ZaY (vs:=[v'34,.n x5]) (v:=v'34) rfl rfl) (Ze (ZaY (vs:=[v'34,.n x5]) (v:=.n x5) rfl rfl) (Ze (z6 (r:=r'4) (o:=0) (o':=0) q'10_3 rfl) (zy (hO'35.stb (ws:=[v'34]) (cs':=[v'34,v'11,v'12,v'24]) (v:=v'34) 2 rfl rfl rfl (hO'35.sl 10 rfl).cells ⟨rfl,Nat.le_of_ble_eq_true rfl,(all_cons (hO'35.sl 10 rfl).oneV rfl)⟩ rfl) ?_))))
     rintro _ k'32 ⟨rfl,f'16,m'7,hW⟩
     have hO'36:=hW
     refine Zb (Za (Zk (Zo (Zd (.n (n16.length:Int)) rfl (Zd (.n (n16.length:Int)) rfl (Zb (Za ?_)))))))
     refine Zk (Zo (Zd v'29 q'10_13 (Zd (.n (n16.length:Int)) rfl (zy (hO'36.bsl (E:=zw) (l:=[(n16.length:Int)]) hO'36.fr (by rw [(zq (v:=.n (n16.length:Int)) rfl Za5)]; rfl) rfl) ?_))))
     rintro v'35 k'33 ⟨r'7,f'17,hW⟩
     have hO'37:=hW
     obtain ⟨c'16,hp⟩:=Zj hp
     refine zy (hO'37.app (E:=zw) (bytes:=8) 8 hO'37.fr rfl (hO'37.sl 11 rfl) rfl rfl (fun _=>rfl) c'16 (by decide)) ?_
     rintro v'36 k'34 ⟨f'18,hW⟩
     have hO'38:=hW
     refine Zd v'36 rfl (Zb (Za (Zk (Zo (Ze (z6 (r:=r'1) (o:=0) (o':=1) q'10_1 rfl) (Ze (zi (cs:=[v_s_Boxes,v_s_Edges]) (v:=v_s_Edges) (hO'38.box 0 rfl) rfl rfl) (Zd (.n i1) q'10_10 ?_)))))))
     refine Ze (zz (E:=Zr) (z:=i1) (hO'38.rd0 s_s_Edges.rd) rfl rfl c'14) (Ze (ZaE (off':=0) (off2:=3) (hO'38.rd0 s_s_Edges.rd) (Zp c'14) rfl rfl) (Ze (zS (w:=.s ((gi s.Edges i1.toNat).Bends)) (hO'38.rd0 s_s_Edges.rd) rfl (Zp c'14) rfl) (Zd (.n k_) q'10_14 ?_)))
     obtain ⟨c'17,hp⟩:=Zj hp
     refine Ze (Zhd (a:=((gi s.Edges i1.toNat).Bends)) (z:=k_) rfl rfl c'17) (Ze (ZaW (a:=(sAt ((gi s.Edges i1.toNat).Bends) k_.toNat)) (b:=76) rfl rfl) (Zb (Za ?_)))
     rcases Z2 hp with ⟨b'7,hp⟩ | ⟨b'7,hp⟩
     ·refine zO (t:=(decide (sAt ((gi s.Edges i1.toNat).Bends) k_.toNat = 76))) rfl b'7 ?_
      refine Zo (Zd (.n d1) q'10_12 ?_)
      obtain ⟨c'18,hp⟩:=Zj hp
      refine Ze (zp (a:=d1) (b:=1) rfl rfl c'18) (Ze (ZbJ (a:=(d1 + 1)) (b:=4) rfl rfl (by decide)) (Zd (.n ((d1 + 1).tmod 4)) rfl (Zb (Zac (Za (Zo (Zd (.n k_) q'10_14 ?_)))))))
      obtain ⟨c'19,hp⟩:=Zj hp
      refine Ze (zp (a:=k_) (b:=1) rfl rfl c'19) (Zd (.n (k_ + 1)) rfl (Zb ?_))
      cases hp
      exact (Or.inl ⟨(x4,(n16.length:Int),(d1 + 1).tmod 4,way++[(n16.length:Int)],k_ + 1),rfl,rfl,v'34,v'36,q'10_1,q'10_2,q'10_3,q'10_10,rfl,rfl,rfl,rfl,(hO'38.pick [0,1,2,10,4,5,6,7,8] rfl (by decide))⟩)
     ·refine zN (t:=(decide (sAt ((gi s.Edges i1.toNat).Bends) k_.toNat = 76))) rfl b'7 ?_
      refine Zo (Zd (.n d1) q'10_12 ?_)
      obtain ⟨c'20,hp⟩:=Zj hp
      refine Ze (zp (a:=d1) (b:=3) rfl rfl c'20) (Ze (ZbJ (a:=(d1 + 3)) (b:=4) rfl rfl (by decide)) (Zd (.n ((d1 + 3).tmod 4)) rfl (Zb (Zac (Za (Zo (Zd (.n k_) q'10_14 ?_)))))))
      obtain ⟨c'21,hp⟩:=Zj hp
      refine Ze (zp (a:=k_) (b:=1) rfl rfl c'21) (Zd (.n (k_ + 1)) rfl (Zb ?_))
      cases hp
      exact (Or.inl ⟨(x4,(n16.length:Int),(d1 + 3).tmod 4,way++[(n16.length:Int)],k_ + 1),rfl,rfl,v'34,v'36,q'10_1,q'10_2,q'10_3,q'10_10,rfl,rfl,rfl,rfl,(hO'38.pick [0,1,2,10,4,5,6,7,8] rfl (by decide))⟩)
    ·refine zN (t:=(decide (k_ < (((gi s.Edges i1.toNat).Bends).size:Int)))) rfl b'6 ?_
     refine ZaT (zR ?_)
     cases hp
     refine (Or.inr ⟨(n16,at_,d1,way),rfl,(fun h=>nomatch h),(fun he=>?_)⟩)
     subst he; exact ⟨rfl,v'28,v'29,q'10_1,q'10_2,q'10_3,q'10_10,q'10_11,q'10_12,q'10_13,(hO'31.pick [0,1,2,3,4,5,6,7,8] rfl (by decide))⟩
   intro e'5 q'9 k'26 hJ'5
   obtain ⟨n17,at_1,d2,way1⟩:=o'9
   obtain ⟨rfl,v'30,v'31,q'9_1,q'9_2,q'9_3,q'9_10,q'9_11,q'9_12,q'9_13,hO'30⟩:=hJ'5
   refine Zaq (Za (Zk (ZfI ?_)))
   have hW:=hO'30.bump 17
   have fr'3:=Fresh.start k'26 17
   have nb'2:∀ {i:Nat},h.n≤k'26.n + i:=Nat.le_trans hO'30.n (Nat.le_add_right _ _)
   have hO'39:=hW
   refine zP (z6 (r:=r'4) (o:=0) (o':=0) q'9_3 rfl) (zP (zi (cs:=[v'30,v'11,v'12,v'24]) (v:=v'30) (hO'39.box 2 rfl) rfl rfl) (Zbn (.n at_1) q'9_11 (Zbn (.n d2) q'9_12 (zP (z6 (r:=r'4) (o:=0) (o':=2) q'9_3 rfl) (zP (zi (cs:=[v'30,v'11,v'12,v'24]) (v:=v'12) (hO'39.box 2 rfl) rfl rfl) (Zbn (.n i1) q'9_10 (zP (zz (E:=zJ) (z:=i1) (hO'39.sl 5 rfl) rfl rfl c'13) ?_)))))))
   refine zP (ZaU (off:=0) (off2:=1) (z:=1) (hO'39.sl 5 rfl) (Zp c'13) rfl rfl (by decide) rfl) (zP (zS (w:=.n ((gi n6 i1.toNat).get 1)) (hO'39.sl 5 rfl) rfl (Zp c'13) rfl) (Zbn (.n i1) q'9_10 ?_))
   obtain ⟨⟨x6,x7⟩,hx'6,hp⟩:=Zt hp
   obtain ⟨u'6,k'36,ca'6,v'37,rfl,hW'6⟩:=zh.ok (h:=(k'26.bump 17)) (l:=n17) (v:=at_1) (d:=d2) (w:=((gi n6 i1.toNat).get 1)) (o:=i1) (hO'39.toM [3] rfl (by decide))  hx'6
   refine ZiJ (id:=53) (caps:=[]) rfl (Z3 (v:=v'30) rfl (Z3 (v:=.n at_1) rfl (Z3 (v:=.n d2) rfl (Z3 (v:=.n ((gi n6 i1.toNat).get 1)) rfl (Z3 (v:=.n i1) rfl zn))))) ca'6 ?_
   have fr'4:=fr'3.callM (hO'39.pick [3] rfl (by decide)).P hW'6
   have hO'40:=(hO'39.callM [3] [0,1,2,4,5,6,7,8] rfl rfl (by decide) hW'6 rfl).pick [0,1,2,900,3,4,5,6,7,8] rfl (by decide)
   refine Zbn (.tu [v'37,.n x7]) rfl (zP (ZaY (vs:=[v'37,.n x7]) (v:=v'37) rfl rfl) (zP (ZaY (vs:=[v'37,.n x7]) (v:=.n x7) rfl rfl) (zP (z6 (r:=r'4) (o:=0) (o':=0) q'9_3 rfl) (Ze6 (hO'40.stb (ws:=[v'37]) (cs':=[v'37,v'11,v'12,v'24]) (v:=v'37) 2 rfl rfl rfl (hO'40.sl 9 rfl).cells ⟨rfl,Nat.le_of_ble_eq_true rfl,(all_cons (hO'40.sl 9 rfl).oneV rfl)⟩ rfl) ?_))))
   rintro _ k'37 z'2 ⟨rfl,f'19,m'8,hW⟩
   have fr'5:=fr'4.kept f'19 (by decide)
   have hO'41:=hW
   refine Zc1 ?_
   refine And.intro ?_ ?_
   ·intro q hq
    simp only [List.mem_cons,List.not_mem_nil,or_false] at hq
    rcases hq with rfl | rfl
    ·refine Zay ?_ ?_
     ·exact (fun h=>nomatch h)
     ·exact (fun h=>nomatch h)
    ·refine Zay ?_ ?_
     ·exact (fun h=>nomatch h)
     ·exact (fun h=>nomatch h)
   refine Za (Zk (Zo (Zd v'31 q'9_13 (Ze (z6 (r:=r'4) (o:=0) (o':=2) q'9_3 rfl) (Ze (zi (cs:=[v'37,v'11,v'12,v'24]) (v:=v'12) (hO'41.box 2 rfl) rfl rfl) (Zd (.n i1) q'9_10 (Ze (zz (E:=zJ) (z:=i1) (hO'41.sl 5 rfl) rfl rfl c'13) ?_)))))))
   refine Ze (ZaU (off:=0) (off2:=1) (z:=1) (hO'41.sl 5 rfl) (Zp c'13) rfl rfl (by decide) rfl) (Ze (zS (w:=.n ((gi n6 i1.toNat).get 1)) (hO'41.sl 5 rfl) rfl (Zp c'13) rfl) (zy (hO'41.bsl (E:=zw) (l:=[(gi n6 i1.toNat).get 1]) hO'41.fr (by rw [(zq (v:=.n ((gi n6 i1.toNat).get 1)) rfl Za5)]; rfl) rfl) ?_))
   rintro v'38 k'38 ⟨r'8,f'20,hW⟩
   have hO'42:=hW
   obtain ⟨c'22,hp⟩:=Zj hp
   refine zy (hO'42.app (E:=zw) (bytes:=8) 8 hO'42.fr rfl (hO'42.sl 10 rfl:Sl zw k'38 v'38 [(gi n6 i1.toNat).get 1]) rfl rfl (fun _=>rfl) c'22 (by decide)) ?_
   rintro v'39 k'39 ⟨f'21,hW⟩
   have hO'43:=hW
   refine Zd v'39 rfl (Zb (Za (Zo (Ze (z6 (r:=r'4) (o:=0) (o':=3) q'9_3 rfl) (Ze (zi (cs:=[v'37,v'11,v'12,v'24]) (v:=v'24) (hO'43.box 2 rfl) rfl rfl) (Zd v'39 rfl (zy (hO'43.bsl (E:=eV) (l:=[v'39]) hO'43.fr (by rw [(zq (v:=v'39) rfl Za5)]; simp only [fill,(hO'43.sl 8 rfl:Sl zw k'39 v'39 (way1++[(gi n6 i1.toNat).get 1])).cells]; simp [over]) rfl) ?_)))))))
   rintro v'40 k'40 ⟨r'9,f'22,hW⟩
   have hO'44:=hW
   obtain ⟨c'23,hp⟩:=Zj hp
   refine zy (hO'44.appV (bytes:=24) 6 hO'44.fr rfl (hO'44.sl 11 rfl) rfl rfl (by simp only [List.all_cons,List.all_nil,Bool.and_true]; exact (hO'44.sl 8 rfl:Sl zw k'40 v'39 (way1++[(gi n6 i1.toNat).get 1])).oneV) (by rw [(hO'44.allLen 7 rfl:(vs'5).length = (n13).length)]; exact c'23) (by decide)) ?_
   rintro v'41 k'41 ⟨f'23,hW⟩
   have hO'45:=hW
   have hO'46:=hO'45.absorb 7 8 rfl rfl (by decide)
   refine Ze (z6 (r:=r'4) (o:=0) (o':=3) q'9_3 rfl) (zy (hO'46.stb (ws:=[v'41]) (cs':=[v'37,v'11,v'12,v'41]) (v:=v'41) 2 rfl rfl rfl (hO'46.sl 6 rfl).cells ⟨rfl,Nat.le_of_ble_eq_true rfl,(all_cons (hO'46.sl 6 rfl).oneV rfl)⟩ rfl) ?_)
   rintro _ k'42 ⟨rfl,f'24,m'9,hW⟩
   have hO'47:=hW
   refine Zb (Zac (Za (Zo (Zd (.n i1) q'9_10 ?_))))
   obtain ⟨c'24,hp⟩:=Zj hp
   refine Ze (zp (a:=i1) (b:=1) rfl rfl c'24) (Zd (.n (i1 + 1)) rfl (Zb ?_))
   cases hp
   exact (Or.inl ⟨(x6,n13++[way1++[(gi n6 i1.toNat).get 1]],i1 + 1),rfl,rfl,v'37,v'41,vs'5++[v'39],q'9_1,q'9_2,q'9_3,rfl,(hO'47.pick [0,1,2,9,4,5,6,7] rfl (by decide))⟩)
  ·refine zN (t:=(decide (i1 < (s.Edges.length:Int)))) rfl b'5 ?_
   refine ZaT (zR ?_)
   cases hp
   refine (Or.inr ⟨(n12,n13),rfl,(fun h=>nomatch h),(fun he=>?_)⟩)
   subst he; exact ⟨rfl,v'23,v'24,vs'5,q'8_2,q'8_3,(hO'28.pick [1,2,3,4,5,6,7] rfl (by decide))⟩
 intro e'4 q'7 k'23 hJ'4
 obtain ⟨n14,n15⟩:=o'7
 obtain ⟨rfl,v'25,v'26,vs'6,q'7_2,q'7_3,hO'27⟩:=hJ'4
 refine Zaq (Za (Zk (Zo (Ze (Zaz (cs:=[v'25,v'11,v'12,v'26]) (ws:=[v'25,v'11,v'12,v'26]) (hO'27.box 1 rfl) q'7_3 rfl) (zy (hO'27.stb (ws:=[v'25,v'11,v'12,v'26]) (cs':=[v'25,v'11,v'12,v'26]) (v:=.ag [v'25,v'11,v'12,v'26]) 0 rfl q'7_2 rfl rfl ⟨rfl,Nat.le_of_ble_eq_true rfl,(all_cons (hO'27.sl 2 rfl).oneV (all_cons (hO'27.sl 3 rfl).oneV (all_cons (hO'27.sl 4 rfl).oneV (all_cons (hO'27.sl 5 rfl).oneV all_nil))))⟩ rfl) ?_)))))
 rintro _ k'43 ⟨rfl,f'25,m'10,hW⟩
 have hO'48:=hW
 refine Zb (Za (Za2 (zW (ZgP (n:=2) (v:=.ag [v'25,v'11,v'12,v'26]) (r:=r'2) q'7_2 (hO'48.box 0 rfl) rfl zx) ?_)))
 cases hp
 exact ⟨v'25,v'11,v'12,v'26,vs'6,rfl,(hO'48.pick [2,3,4,5,6] rfl (by decide))⟩

theorem Za0.ok {h:Hp} {d:Int}   {r:Bool} (hp:Za0 d = some r) :
  ∃ u k',Is G 90 [.n d] h u k'∧V.b r = u∧Own (fun r=>r < h.n) h k' []:=by
 refine WC.is (ZaM ZcX ?_)
 unfold Za0 at hp
 let B:Nat→Prop:=(fun r=>r < h.n)
 have hO:Own B h h []:=Own.start0 h
 refine Zk (Zo (Zd (.b false) rfl (Zb (Za (Zk (Zo (Zd (.n d) rfl ?_)))))))
 refine Ze (ZcC (a:=d) (b:=0) rfl rfl) (Zd (.b (decide (0≤d))) rfl ?_)
 refine Zad 3 (fun fr' k'=>h = k'∧fr' 8 = .b ((decide (0≤d)) && (decide (d≤3)))) ?_ ?_
 ·rcases bc (decide (0≤d)) with b'1 | b'1
  ·skip
   refine ZB rfl b'1 (Zd (.n d) rfl (ZB rfl b'1 (Ze (ZjC (a:=d) (b:=3) rfl rfl) (Ze (zg (t:=(decide (0≤d))) (v:=.b ((decide (0≤d)) && (decide (d≤3)))) rfl b'1 (Eq.trans (b:=V.b (decide (d≤3))) rfl (ZbS b'1))) (Zb ?_)))))
   exact ⟨rfl,rfl⟩
  ·skip
   refine Z4 rfl b'1 (Z4 rfl b'1 (Ze (zc (t:=(decide (0≤d))) (v:=.b ((decide (0≤d)) && (decide (d≤3)))) rfl b'1 (Eq.trans (b:=V.b false) rfl (Zbw b'1))) (Zb ?_)))
   exact ⟨rfl,rfl⟩
 rintro frg'1 _ ⟨rfl,g'1_8⟩
 refine Zd (.b ((decide (0≤d)) && (decide (d≤3)))) g'1_8 (Zb (Za (Za2 (zW (Zax (n:=2) (v:=.b ((decide (0≤d)) && (decide (d≤3)))) rfl zx) ?_))))
 cases hp
 exact ⟨rfl,(hO.pick [] rfl (by decide))⟩

theorem ZaF.ok {h:Hp} {d:Int} {times:Int}   {r:Int} (hp:ZaF d times = some r) :
  ∃ u k',Is G 77 [.n d,.n times] h u k'∧V.n r = u∧Own (fun r=>r < h.n) h k' []:=by
 refine WC.is (ZaM ZcY ?_)
 unfold ZaF at hp
 let B:Nat→Prop:=(fun r=>r < h.n)
 have hO:Own B h h []:=Own.start0 h
 refine Zk (Zo (Zd (.n 0) rfl (Zb (Za (Zk (Zk (Zo ?_)))))))
 refine Zd (.n d) rfl ?_
 obtain ⟨x,hx'1,hp⟩:=Zt hp
 obtain ⟨u'1,k'1,ca'1,rfl,hW'1⟩:=Za0.ok (h:=h)   hx'1
 refine Za3 (id:=90) (caps:=[]) rfl (Z3 (v:=.n d) rfl zn) ca'1 ?_
 have hO'1:=hO.call hW'1 rfl
 refine Ze (ZcF (t:=x) rfl) (Zb (Za ?_))
 rcases Z2 hp with ⟨b'1,hp⟩ | ⟨b'1,hp⟩
 ·refine zO (t:=(!x)) rfl b'1 ?_
  refine Zk (Zo (Zd (.n 0) rfl (Zb (Za (Za2 (Zaf (zW (Zax (n:=4) (v:=.n 0) rfl zx) ?_)))))))
  cases hp
  exact ⟨rfl,(hO'1.pick [] rfl (by decide))⟩
 ·refine zN (t:=(!x)) rfl b'1 ?_
  refine zU (Za (Zk (Zo (Zd (.n d) rfl (Zd (.n times) rfl (Ze (ZbJ (a:=times) (b:=4) rfl rfl (by decide)) ?_))))))
  obtain ⟨c'1,hp⟩:=Zj hp
  refine Ze (zp (a:=d) (b:=(times.tmod 4)) rfl rfl c'1) ?_
  obtain ⟨c'2,hp⟩:=Zj hp
  refine Ze (zp (a:=(d + (times.tmod 4))) (b:=4) rfl rfl c'2) (Ze (ZbJ (a:=((d + (times.tmod 4)) + 4)) (b:=4) rfl rfl (by decide)) (Zd (.n (((d + (times.tmod 4)) + 4).tmod 4)) rfl (Zb (Za (Za2 (zW (Zax (n:=4) (v:=.n (((d + (times.tmod 4)) + 4).tmod 4)) rfl zx) ?_))))))
  cases hp
  exact ⟨rfl,(hO'1.pick [] rfl (by decide))⟩

theorem Zb1.ok {h:Hp} {cells:List Zc} {v:Int} {d:Int} {v_cells:V} (s_cells:Sl Zf h v_cells cells) {r:Int} (hp:Zb1 cells v d = some r) :
  ∃ u k',Is G 82 [v_cells,.n v,.n d] h u k'∧V.n r = u∧Own (fun r=>r < h.n) h k' []:=by
 refine WC.is (ZaM ZdL ?_)
 unfold Zb1 at hp
 let B:Nat→Prop:=(fun r=>r < h.n)
 have hO:Own B h h []:=Own.start0 h
 refine Zk (Zo (Zd (.n 0) rfl (Zb (Za (Zk (ZfJ ?_))))))
 have hW:=hO.bump 16
 have hO'1:=hW
 refine Zao v_cells rfl (Zao (.n v) rfl (Zao (.n d) rfl ?_))
 obtain ⟨c'1,hp⟩:=Zj hp
 refine zb rfl (zz (E:=Zf) (z:=v) (hO'1.rd0 s_cells.rd) rfl rfl c'1) (zb rfl (ZaE (off':=0) (off2:=0) (hO'1.rd0 s_cells.rd) (Zp c'1) rfl rfl) ?_)
 obtain ⟨c'2,hp⟩:=Zj hp
 refine zb rfl (ZaU (off:=0) (off2:=(0 + d.toNat * 1)) (z:=d) (hO'1.rd0 s_cells.rd) (Zp c'1) rfl rfl c'2 rfl) (zb rfl (zS (w:=.n (((gi cells v.toNat).Next).get d)) (hO'1.rd0 s_cells.rd) rfl (Zp c'1) (Zal c'2)) (Zao v_cells rfl (Zao (.n v) rfl (Zao (.n d) rfl (zb rfl (zz (E:=Zf) (z:=v) (hO'1.rd0 s_cells.rd) rfl rfl c'1) (zb rfl (ZaE (off':=0) (off2:=4) (hO'1.rd0 s_cells.rd) (Zp c'1) rfl rfl) (zb rfl (ZaU (off:=4) (off2:=(4 + d.toNat * 1)) (z:=d) (hO'1.rd0 s_cells.rd) (Zp c'1) rfl rfl c'2 rfl) ?_)))))))
 refine zb rfl (zS (w:=.n (((gi cells v.toNat).Owner).get d)) (hO'1.rd0 s_cells.rd) rfl (Zp c'1) (Zc6 c'2)) (Zao (.n (((gi cells v.toNat).Next).get d)) rfl (Zao (.n (((gi cells v.toNat).Owner).get d)) rfl (Zak (Za (Zk (Zk (Zo ?_)))))))
 refine Zd (.n (((gi cells v.toNat).Next).get d)) rfl (Ze (ZaW (a:=(((gi cells v.toNat).Next).get d)) (b:=(-1)) rfl rfl) (Zb (Za ?_)))
 rcases Z2 hp with ⟨b'1,hp⟩ | ⟨b'1,hp⟩
 ·refine zO (t:=(decide (((gi cells v.toNat).Next).get d = (-1)))) rfl b'1 ?_
  refine Zk (Zk (Zo (Zd (.n (((gi cells v.toNat).Owner).get d)) rfl (Ze (ZcE (a:=(((gi cells v.toNat).Owner).get d)) (b:=0) rfl rfl) (Zb (Za ?_))))))
  rcases Z2 hp with ⟨b'2,hp⟩ | ⟨b'2,hp⟩
  ·refine zO (t:=(!(decide (((gi cells v.toNat).Owner).get d = 0)))) rfl b'2 ?_
   refine Zk (Zo (Zd (.n 9) rfl (Zb (Za (Za2 (Zaf (Zaf ?_)))))))
   refine zW (Zax (n:=6) (v:=.n 9) rfl zx) ?_
   cases hp
   exact ⟨rfl,(hO'1.pick [] rfl (by decide))⟩
  ·refine zN (t:=(!(decide (((gi cells v.toNat).Owner).get d = 0)))) rfl b'2 ?_
   refine zU (Za (Zk (Zo (Zd (.n 0) rfl (Zb (Za (Za2 ?_)))))))
   refine Zaf (zW (Zax (n:=6) (v:=.n 0) rfl zx) ?_)
   cases hp
   exact ⟨rfl,(hO'1.pick [] rfl (by decide))⟩
 ·refine zN (t:=(decide (((gi cells v.toNat).Next).get d = (-1)))) rfl b'1 ?_
  refine zU (Za (Zk (Zk (Zo (Zd (.n (((gi cells v.toNat).Next).get d)) rfl (Ze (zG (a:=(((gi cells v.toNat).Next).get d)) (b:=0) rfl rfl) (Zd (.b (decide ((((gi cells v.toNat).Next).get d) < 0))) rfl ?_)))))))
  refine Zad 5 (fun fr' k'=>(h.bump 16) = k'∧fr' 35 = .b ((decide ((((gi cells v.toNat).Next).get d) < 0)) || (decide ((cells.length:Int)≤(((gi cells v.toNat).Next).get d))))∧fr' 0 = v_cells∧fr' 1 = .n v∧fr' 2 = .n d∧fr' 7 = .n (((gi cells v.toNat).Next).get d)∧fr' 8 = .n (((gi cells v.toNat).Owner).get d)) ?_ ?_
  ·rcases bc (decide ((((gi cells v.toNat).Next).get d) < 0)) with b'3 | b'3
   ·skip
    refine Z4 rfl b'3 (Z4 rfl b'3 (Z4 rfl b'3 (Z4 rfl b'3 (Ze (zg (t:=(decide ((((gi cells v.toNat).Next).get d) < 0))) (v:=.b ((decide ((((gi cells v.toNat).Next).get d) < 0)) || (decide ((cells.length:Int)≤(((gi cells v.toNat).Next).get d))))) rfl b'3 (Eq.trans (b:=V.b true) rfl (Zbg b'3))) (Zb ?_)))))
    exact ⟨rfl,rfl,rfl,rfl,rfl,rfl,rfl⟩
   ·skip
    refine ZB rfl b'3 (Zd (.n (((gi cells v.toNat).Next).get d)) rfl (ZB rfl b'3 (Zd v_cells rfl (ZB rfl b'3 (Ze (Zah (hO'1.rd0 s_cells.rd) rfl) (ZB rfl b'3 (Ze (ZcC (a:=(((gi cells v.toNat).Next).get d)) (b:=(cells.length:Int)) rfl rfl) ?_)))))))
    refine Ze (zc (t:=(decide ((((gi cells v.toNat).Next).get d) < 0))) (v:=.b ((decide ((((gi cells v.toNat).Next).get d) < 0)) || (decide ((cells.length:Int)≤(((gi cells v.toNat).Next).get d))))) rfl b'3 (Eq.trans (b:=V.b (decide ((cells.length:Int)≤(((gi cells v.toNat).Next).get d)))) rfl (Zb7 b'3))) (Zb ?_)
    exact ⟨rfl,rfl,rfl,rfl,rfl,rfl,rfl⟩
  rintro frg'1 _ ⟨rfl,g'1_35,g'1_0,g'1_1,g'1_2,g'1_7,g'1_8⟩
  refine Zd (.b ((decide ((((gi cells v.toNat).Next).get d) < 0)) || (decide ((cells.length:Int)≤(((gi cells v.toNat).Next).get d))))) g'1_35 ?_
  refine Zad 4 (fun fr' k'=>(h.bump 16) = k'∧fr' 40 = .b (((decide ((((gi cells v.toNat).Next).get d) < 0)) || (decide ((cells.length:Int)≤(((gi cells v.toNat).Next).get d)))) || (decide (((gi cells v.toNat).Next).get d = v)))∧fr' 0 = v_cells∧fr' 1 = .n v∧fr' 2 = .n d∧fr' 7 = .n (((gi cells v.toNat).Next).get d)∧fr' 8 = .n (((gi cells v.toNat).Owner).get d)) ?_ ?_
  ·rcases bc ((decide ((((gi cells v.toNat).Next).get d) < 0)) || (decide ((cells.length:Int)≤(((gi cells v.toNat).Next).get d)))) with b'4 | b'4
   ·skip
    refine Z4 rfl b'4 (Z4 rfl b'4 (Z4 rfl b'4 (Ze (zg (t:=((decide ((((gi cells v.toNat).Next).get d) < 0)) || (decide ((cells.length:Int)≤(((gi cells v.toNat).Next).get d))))) (v:=.b (((decide ((((gi cells v.toNat).Next).get d) < 0)) || (decide ((cells.length:Int)≤(((gi cells v.toNat).Next).get d)))) || (decide (((gi cells v.toNat).Next).get d = v)))) rfl b'4 (Eq.trans (b:=V.b true) rfl (Zbg b'4))) (Zb ?_))))
    exact ⟨rfl,rfl,g'1_0,g'1_1,g'1_2,g'1_7,g'1_8⟩
   ·skip
    refine ZB rfl b'4 (Zd (.n (((gi cells v.toNat).Next).get d)) g'1_7 (ZB rfl b'4 (Zd (.n v) g'1_1 (ZB rfl b'4 (Ze (ZaW (a:=(((gi cells v.toNat).Next).get d)) (b:=v) rfl rfl) (Ze (zc (t:=((decide ((((gi cells v.toNat).Next).get d) < 0)) || (decide ((cells.length:Int)≤(((gi cells v.toNat).Next).get d))))) (v:=.b (((decide ((((gi cells v.toNat).Next).get d) < 0)) || (decide ((cells.length:Int)≤(((gi cells v.toNat).Next).get d)))) || (decide (((gi cells v.toNat).Next).get d = v)))) rfl b'4 (Eq.trans (b:=V.b (decide (((gi cells v.toNat).Next).get d = v))) rfl (Zb7 b'4))) (Zb ?_)))))))
    exact ⟨rfl,rfl,g'1_0,g'1_1,g'1_2,g'1_7,g'1_8⟩
  rintro frg'2 _ ⟨rfl,g'2_40,g'2_0,g'2_1,g'2_2,g'2_7,g'2_8⟩
  refine Zb (Za ?_)
  rcases Z2 hp with ⟨b'5,hp⟩ | ⟨b'5,hp⟩
  ·refine zO (t:=(((decide ((((gi cells v.toNat).Next).get d) < 0)) || (decide ((cells.length:Int)≤(((gi cells v.toNat).Next).get d)))) || (decide (((gi cells v.toNat).Next).get d = v)))) g'2_40 b'5 ?_
   refine Zk (Zo (Zd (.n 3) rfl (Zb (Za (Za2 (Zaf (zW (Zax (n:=6) (v:=.n 3) rfl zx) ?_)))))))
   cases hp
   exact ⟨rfl,(hO'1.pick [] rfl (by decide))⟩
  ·refine zN (t:=(((decide ((((gi cells v.toNat).Next).get d) < 0)) || (decide ((cells.length:Int)≤(((gi cells v.toNat).Next).get d)))) || (decide (((gi cells v.toNat).Next).get d = v)))) g'2_40 b'5 ?_
   refine zU (Za (Zk (Zo (Zd (.n d) g'2_2 ?_))))
   obtain ⟨x,hx'1,hp⟩:=Zt hp
   obtain ⟨u'1,k'2,ca'1,rfl,hW'1⟩:=ZaF.ok (h:=(h.bump 16))   hx'1
   refine Za3 (id:=77) (caps:=[]) rfl (Z3 (v:=.n d) rfl (Z3 (v:=.n 2) rfl zn)) ca'1 ?_
   have hO'2:=hO'1.call hW'1 rfl
   refine Zd (.n x) rfl (Zb (Za (Zk (Zk (Zo (Zd v_cells g'2_0 (Zd (.n (((gi cells v.toNat).Next).get d)) g'2_7 ?_)))))))
   refine Zd (.n x) rfl ?_
   obtain ⟨c'3,hp⟩:=Zj hp
   refine Ze (zz (E:=Zf) (z:=(((gi cells v.toNat).Next).get d)) (hO'2.rd0 s_cells.rd) rfl rfl c'3) (Ze (ZaE (off':=0) (off2:=0) (hO'2.rd0 s_cells.rd) (Zp c'3) rfl rfl) ?_)
   obtain ⟨c'4,hp⟩:=Zj hp
   refine Ze (ZaU (off:=0) (off2:=(0 + x.toNat * 1)) (z:=x) (hO'2.rd0 s_cells.rd) (Zp c'3) rfl rfl c'4 rfl) (Ze (zS (w:=.n (((gi cells (((gi cells v.toNat).Next).get d:Int).toNat).Next).get x)) (hO'2.rd0 s_cells.rd) rfl (Zp c'3) (Zal c'4)) (Zd (.n v) g'2_1 (Ze (ZcE (a:=(((gi cells (((gi cells v.toNat).Next).get d:Int).toNat).Next).get x)) (b:=v) rfl rfl) (Zd (.b (!(decide (((gi cells (((gi cells v.toNat).Next).get d:Int).toNat).Next).get x = v)))) rfl ?_))))
   refine Zad 10 (fun fr' k'=>k'2 = k'∧fr' 62 = .b ((!(decide (((gi cells (((gi cells v.toNat).Next).get d:Int).toNat).Next).get x = v))) || (!(decide (((gi cells (((gi cells v.toNat).Next).get d:Int).toNat).Owner).get x = ((gi cells v.toNat).Owner).get d))))∧fr' 8 = .n (((gi cells v.toNat).Owner).get d)) ?_ ?_
   ·rcases bc (!(decide (((gi cells (((gi cells v.toNat).Next).get d:Int).toNat).Next).get x = v))) with b'6 | b'6
    ·skip
     refine Z4 rfl b'6 (Z4 rfl b'6 (Z4 rfl b'6 (Z4 rfl b'6 (Z4 rfl b'6 (Z4 rfl b'6 (Z4 rfl b'6 (Z4 rfl b'6 ?_)))))))
     refine Z4 rfl b'6 (Ze (zg (t:=(!(decide (((gi cells (((gi cells v.toNat).Next).get d:Int).toNat).Next).get x = v)))) (v:=.b ((!(decide (((gi cells (((gi cells v.toNat).Next).get d:Int).toNat).Next).get x = v))) || (!(decide (((gi cells (((gi cells v.toNat).Next).get d:Int).toNat).Owner).get x = ((gi cells v.toNat).Owner).get d))))) rfl b'6 (Eq.trans (b:=V.b true) rfl (Zbg b'6))) (Zb ?_))
     exact ⟨rfl,rfl,g'2_8⟩
    ·skip
     refine ZB rfl b'6 (Zd v_cells g'2_0 (ZB rfl b'6 (Zd (.n (((gi cells v.toNat).Next).get d)) g'2_7 (ZB rfl b'6 (Zd (.n x) rfl (ZB rfl b'6 (Ze (zz (E:=Zf) (z:=(((gi cells v.toNat).Next).get d)) (hO'2.rd0 s_cells.rd) rfl rfl c'3) ?_)))))))
     refine ZB rfl b'6 (Ze (ZaE (off':=0) (off2:=4) (hO'2.rd0 s_cells.rd) (Zp c'3) rfl rfl) (ZB rfl b'6 (Ze (ZaU (off:=4) (off2:=(4 + x.toNat * 1)) (z:=x) (hO'2.rd0 s_cells.rd) (Zp c'3) rfl rfl c'4 rfl) (ZB rfl b'6 (Ze (zS (w:=.n (((gi cells (((gi cells v.toNat).Next).get d:Int).toNat).Owner).get x)) (hO'2.rd0 s_cells.rd) rfl (Zp c'3) (Zc6 c'4)) (ZB rfl b'6 (Zd (.n (((gi cells v.toNat).Owner).get d)) g'2_8 ?_)))))))
     refine ZB rfl b'6 (Ze (ZcE (a:=(((gi cells (((gi cells v.toNat).Next).get d:Int).toNat).Owner).get x)) (b:=(((gi cells v.toNat).Owner).get d)) rfl rfl) (Ze (zc (t:=(!(decide (((gi cells (((gi cells v.toNat).Next).get d:Int).toNat).Next).get x = v)))) (v:=.b ((!(decide (((gi cells (((gi cells v.toNat).Next).get d:Int).toNat).Next).get x = v))) || (!(decide (((gi cells (((gi cells v.toNat).Next).get d:Int).toNat).Owner).get x = ((gi cells v.toNat).Owner).get d))))) rfl b'6 (Eq.trans (b:=V.b (!(decide (((gi cells (((gi cells v.toNat).Next).get d:Int).toNat).Owner).get x = ((gi cells v.toNat).Owner).get d)))) rfl (Zb7 b'6))) (Zb ?_)))
     exact ⟨rfl,rfl,g'2_8⟩
   rintro frg'3 _ ⟨rfl,g'3_62,g'3_8⟩
   refine Zd (.b ((!(decide (((gi cells (((gi cells v.toNat).Next).get d:Int).toNat).Next).get x = v))) || (!(decide (((gi cells (((gi cells v.toNat).Next).get d:Int).toNat).Owner).get x = ((gi cells v.toNat).Owner).get d))))) g'3_62 ?_
   refine Zad 3 (fun fr' k'=>k'2 = k'∧fr' 66 = .b (((!(decide (((gi cells (((gi cells v.toNat).Next).get d:Int).toNat).Next).get x = v))) || (!(decide (((gi cells (((gi cells v.toNat).Next).get d:Int).toNat).Owner).get x = ((gi cells v.toNat).Owner).get d)))) || (decide ((((gi cells v.toNat).Owner).get d) < (-2))))) ?_ ?_
   ·rcases bc ((!(decide (((gi cells (((gi cells v.toNat).Next).get d:Int).toNat).Next).get x = v))) || (!(decide (((gi cells (((gi cells v.toNat).Next).get d:Int).toNat).Owner).get x = ((gi cells v.toNat).Owner).get d)))) with b'7 | b'7
    ·skip
     refine Z4 rfl b'7 (Z4 rfl b'7 (Ze (zg (t:=((!(decide (((gi cells (((gi cells v.toNat).Next).get d:Int).toNat).Next).get x = v))) || (!(decide (((gi cells (((gi cells v.toNat).Next).get d:Int).toNat).Owner).get x = ((gi cells v.toNat).Owner).get d))))) (v:=.b (((!(decide (((gi cells (((gi cells v.toNat).Next).get d:Int).toNat).Next).get x = v))) || (!(decide (((gi cells (((gi cells v.toNat).Next).get d:Int).toNat).Owner).get x = ((gi cells v.toNat).Owner).get d)))) || (decide ((((gi cells v.toNat).Owner).get d) < (-2))))) rfl b'7 (Eq.trans (b:=V.b true) rfl (Zbg b'7))) (Zb ?_)))
     exact ⟨rfl,rfl⟩
    ·skip
     refine ZB rfl b'7 (Zd (.n (((gi cells v.toNat).Owner).get d)) g'3_8 (ZB rfl b'7 (Ze (zG (a:=(((gi cells v.toNat).Owner).get d)) (b:=(-2)) rfl rfl) (Ze (zc (t:=((!(decide (((gi cells (((gi cells v.toNat).Next).get d:Int).toNat).Next).get x = v))) || (!(decide (((gi cells (((gi cells v.toNat).Next).get d:Int).toNat).Owner).get x = ((gi cells v.toNat).Owner).get d))))) (v:=.b (((!(decide (((gi cells (((gi cells v.toNat).Next).get d:Int).toNat).Next).get x = v))) || (!(decide (((gi cells (((gi cells v.toNat).Next).get d:Int).toNat).Owner).get x = ((gi cells v.toNat).Owner).get d)))) || (decide ((((gi cells v.toNat).Owner).get d) < (-2))))) rfl b'7 (Eq.trans (b:=V.b (decide ((((gi cells v.toNat).Owner).get d) < (-2)))) rfl (Zb7 b'7))) (Zb ?_)))))
     exact ⟨rfl,rfl⟩
   rintro frg'4 _ ⟨rfl,g'4_66⟩
   refine Zb (Za ?_)
   rcases Z2 hp with ⟨b'8,hp⟩ | ⟨b'8,hp⟩
   ·refine zO (t:=(((!(decide (((gi cells (((gi cells v.toNat).Next).get d:Int).toNat).Next).get x = v))) || (!(decide (((gi cells (((gi cells v.toNat).Next).get d:Int).toNat).Owner).get x = ((gi cells v.toNat).Owner).get d)))) || (decide ((((gi cells v.toNat).Owner).get d) < (-2))))) g'4_66 b'8 ?_
    refine Zk (Zo (Zd (.n 9) rfl (Zb (Za (Za2 (Zaf (zW (Zax (n:=6) (v:=.n 9) rfl zx) ?_)))))))
    cases hp
    exact ⟨rfl,(hO'2.pick [] rfl (by decide))⟩
   ·refine zN (t:=(((!(decide (((gi cells (((gi cells v.toNat).Next).get d:Int).toNat).Next).get x = v))) || (!(decide (((gi cells (((gi cells v.toNat).Next).get d:Int).toNat).Owner).get x = ((gi cells v.toNat).Owner).get d)))) || (decide ((((gi cells v.toNat).Owner).get d) < (-2))))) g'4_66 b'8 ?_
    refine zU (Za (Zk (Zo (Zd (.n 0) rfl (Zb (Za (Za2 ?_)))))))
    refine zW (Zax (n:=6) (v:=.n 0) rfl zx) ?_
    cases hp
    exact ⟨rfl,(hO'2.pick [] rfl (by decide))⟩

theorem z4.ok {h:Hp} {cells:List Zc} {v_cells:V} (s_cells:Sl Zf h v_cells cells) {r:Int} (hp:z4 cells = some r) :
  ∃ u k',Is G 66 [v_cells] h u k'∧V.n r = u∧Own (fun r=>r < h.n) h k' []:=by
 refine WC.is (ZaM Zd2 ?_)
 unfold z4 at hp
 let B:Nat→Prop:=(fun r=>r < h.n)
 have hO:Own B h h []:=Own.start0 h
 refine Zk (Zo (Zd (.n 0) rfl (Zb (Za (Zk (Zk (Zo ?_)))))))
 refine Zd v_cells rfl (Ze (Zah (hO.rd0 s_cells.rd) rfl) (Ze (ZcD (a:=(cells.length:Int)) (b:=4096) rfl rfl) (Zb (Za ?_))))
 rcases Z2 hp with ⟨b'1,hp⟩ | ⟨b'1,hp⟩
 ·refine zO (t:=(decide (4096 < (cells.length:Int)))) rfl b'1 ?_
  refine Zk (Zo (Zd (.n 6) rfl (Zb (Za (Za2 (Zaf (zW (Zax (n:=2) (v:=.n 6) rfl zx) ?_)))))))
  cases hp
  exact ⟨rfl,(hO.pick [] rfl (by decide))⟩
 ·refine zN (t:=(decide (4096 < (cells.length:Int)))) rfl b'1 ?_
  refine zU (Za (Zk (Zk (Zo (Zd v_cells rfl (Ze (Zah (hO.rd0 s_cells.rd) rfl) (Zd (.n 0) rfl ?_)))))))
  refine Zb (Za (Zaa ?_))
  obtain ⟨o'1,ho'1,hp⟩:=Zt hp
  refine W.mono (Q:=fun e fr k=>match (generalizing:=false) o'1 with
    | .inl _=>e = (.exit 0)∧Own B h k []
    | .inr x1=>e = .ret∧fr 2 = .n x1∧Own B h k []) ?_ ?_
  ·clear hp
   refine z9 (fun st fr k=>match st with | x=>fr 0 = v_cells∧fr 10 = .n (cells.length:Int)∧fr 11 = .n x∧Own B h k []) ho'1 (s:=0) ⟨rfl,rfl,rfl,(hO.pick [] rfl (by decide))⟩ ?_
   rintro x q'2 k'2 ⟨q'2_0,q'2_10,q'2_11,hO'2⟩ o'2 hp
   dsimp only [z4.s0] at hp
   refine Zk (Zo (Ze (zG (a:=x) (b:=(cells.length:Int)) q'2_11 q'2_10) (Zb (Za (Zk ?_)))))
   rcases Z2 hp with ⟨b'2,hp⟩ | ⟨b'2,hp⟩
   ·refine zO (t:=(decide (x < (cells.length:Int)))) rfl b'2 ?_
    refine zU (Za (Zk (Zaa (Zk (Zo (Zd (.n x) q'2_11 (Zd (.n x) rfl ?_)))))))
    refine Zb (Za (Zk (Zo (Zd (.n 0) rfl (Zb (Za (Zaa ?_)))))))
    obtain ⟨o'3,ho'2,hp⟩:=Zt hp
    refine W.mono (Q:=fun e fr k=>match (generalizing:=false) o'3 with
      | .inl _=>e = (.exit 2)∧fr 0 = v_cells∧fr 10 = .n (cells.length:Int)∧fr 11 = .n x∧Own B h k []
      | .inr x3=>e = .ret∧fr 2 = .n x3∧Own B h k []) ?_ ?_
    ·clear hp
     refine z9 (fun st fr k=>match st with | x2=>fr 0 = v_cells∧fr 3 = .n x∧fr 10 = .n (cells.length:Int)∧fr 11 = .n x∧fr 14 = .n x2∧Own B h k []) ho'2 (s:=0) ⟨q'2_0,rfl,q'2_10,q'2_11,rfl,(hO'2.pick [] rfl (by decide))⟩ ?_
     rintro x2 q'4 k'4 ⟨q'4_0,q'4_3,q'4_10,q'4_11,q'4_14,hO'4⟩ o'4 hp
     dsimp only [z4.s1] at hp
     refine Zk (Zo (Ze (zG (a:=x2) (b:=4) q'4_14 rfl) (Zb (Za (Zk ?_)))))
     rcases Z2 hp with ⟨b'3,hp⟩ | ⟨b'3,hp⟩
     ·refine zO (t:=(decide (x2 < 4))) rfl b'3 ?_
      refine zU (Za (Zk (Zaa (Zk (Zo (Zd (.n x2) q'4_14 (Zd (.n x2) rfl ?_)))))))
      refine Zb (Za (Zk (Zo (Zd v_cells q'4_0 (Zd (.n x) q'4_3 (Zd (.n x2) rfl ?_))))))
      obtain ⟨x4,hx'1,hp⟩:=Zt hp
      obtain ⟨u'1,k'5,ca'1,rfl,hW'1⟩:=Zb1.ok (h:=k'4)  (hO'4.rd0 s_cells.rd) hx'1
      refine Za3 (id:=82) (caps:=[]) rfl (Z3 (v:=v_cells) rfl (Z3 (v:=.n x) rfl (Z3 (v:=.n x2) rfl zn))) ca'1 ?_
      have hO'5:=hO'4.call hW'1 rfl
      refine Zd (.n x4) rfl (Zb (Za (Zk (Zo (Zd (.n x4) rfl (Ze (ZcE (a:=x4) (b:=0) rfl rfl) (Zb ?_)))))))
      refine Za ?_
      rcases Z2 hp with ⟨b'4,hp⟩ | ⟨b'4,hp⟩
      ·refine zO (t:=(!(decide (x4 = 0)))) rfl b'4 ?_
       refine Zk (Zo (Zd (.n x4) rfl (Zd (.n x4) rfl (Zb (Za (Za2 (Zbh ?_)))))))
       refine Zaf ?_
       cases hp
       refine (Or.inr ⟨.inr x4,rfl,(fun h=>nomatch h),(fun he=>?_)⟩)
       subst he; exact ⟨rfl,rfl,(hO'5.pick [] rfl (by decide))⟩
      ·refine zN (t:=(!(decide (x4 = 0)))) rfl b'4 ?_
       refine zU (Zac (Za (Zo ?_)))
       obtain ⟨c'1,hp⟩:=Zj hp
       refine Ze (zp (a:=x2) (b:=1) q'4_14 rfl c'1) (Zd (.n (x2 + 1)) rfl (Zb ?_))
       cases hp
       exact (Or.inl ⟨x2 + 1,rfl,rfl,q'4_0,q'4_3,q'4_10,q'4_11,rfl,(hO'5.pick [] rfl (by decide))⟩)
     ·refine zN (t:=(decide (x2 < 4))) rfl b'3 ?_
      refine ZaT (zR ?_)
      cases hp
      refine (Or.inr ⟨.inl (),rfl,(fun h=>nomatch h),(fun he=>?_)⟩)
      subst he; exact ⟨rfl,q'4_0,q'4_10,q'4_11,(hO'4.pick [] rfl (by decide))⟩
    intro e'2 q'3 k'3 hJ'2
    rcases o'3 with _ | x3
    ·obtain ⟨rfl,q'3_0,q'3_10,q'3_11,hO'3⟩:=hJ'2
     refine Zaq (Zac (Za (Zo ?_)))
     obtain ⟨c'2,hp⟩:=Zj hp
     refine Ze (zp (a:=x) (b:=1) q'3_11 rfl c'2) (Zd (.n (x + 1)) rfl (Zb ?_))
     cases hp
     exact (Or.inl ⟨x + 1,rfl,rfl,q'3_0,q'3_10,rfl,(hO'3.pick [] rfl (by decide))⟩)
    ·obtain ⟨rfl,q'3_2,hO'3⟩:=hJ'2
     refine Zbh (Zbh (Zaf ?_))
     cases hp
     refine (Or.inr ⟨.inr x3,rfl,(fun h=>nomatch h),(fun he=>?_)⟩)
     subst he; exact ⟨rfl,q'3_2,(hO'3.pick [] rfl (by decide))⟩
   ·refine zN (t:=(decide (x < (cells.length:Int)))) rfl b'2 ?_
    refine ZaT (zR ?_)
    cases hp
    refine (Or.inr ⟨.inl (),rfl,(fun h=>nomatch h),(fun he=>?_)⟩)
    subst he; exact ⟨rfl,(hO'2.pick [] rfl (by decide))⟩
  intro e'1 q'1 k'1 hJ'1
  rcases o'1 with _ | x1
  ·obtain ⟨rfl,hO'1⟩:=hJ'1
   refine Zaq (Za (Zk (Zo (Zd (.n 0) rfl (Zb (Za (Za2 ?_)))))))
   refine zW (Zax (n:=2) (v:=.n 0) rfl zx) ?_
   cases hp
   exact ⟨rfl,(hO'1.pick [] rfl (by decide))⟩
  ·obtain ⟨rfl,q'1_2,hO'1⟩:=hJ'1
   refine Zbh (Zaf (zW (Zax (n:=2) (v:=.n x1) q'1_2 zx) ?_))
   cases hp
   exact ⟨rfl,(hO'1.pick [] rfl (by decide))⟩

theorem ZbW.ok {h:Hp} {x:Int} {y:Int}   {r:Int × Int} (hp:ZbW x y = some r) :
  ∃ u k',Is G 98 [.i .u64 x,.i .u64 y] h u k'∧V.tu [.i .u64 r.1,.i .u64 r.2] = u∧Own (fun r=>r < h.n) h k' []:=by
 refine WC.is (ZaM Zdz ?_)
 unfold ZbW at hp
 let B:Nat→Prop:=(fun r=>r < h.n)
 have hO:Own B h h []:=Own.start0 h
 refine Zk (Zo (Zd (.i .u64 0) rfl (Zd (.i .u64 0) rfl (Zb (Za (Zk (Zo ?_)))))))
 refine Zd (.i .u64 x) rfl (Ze (ZcP (a:=x) (b:=4294967295) (v:=.i .u64 (Zx .u64 x 4294967295)) rfl rfl (by decide) rfl) (Zd (.i .u64 (Zx .u64 x 4294967295)) rfl (Zb (Za (Zk (Zo (Zd (.i .u64 x) rfl ?_)))))))
 refine Ze (Zdj (a:=x) (b:=32) (v:=.i .u64 (Z9 .u64 x 32)) rfl rfl (by decide) (Zck (by decide))) (Zd (.i .u64 (Z9 .u64 x 32)) rfl (Zb (Za (Zk (Zo (Zd (.i .u64 y) rfl (Ze (ZcP (a:=y) (b:=4294967295) (v:=.i .u64 (Zx .u64 y 4294967295)) rfl rfl (by decide) rfl) ?_)))))))
 refine Zd (.i .u64 (Zx .u64 y 4294967295)) rfl (Zb (Za (Zk (Zo (Zd (.i .u64 y) rfl (Ze (Zdj (a:=y) (b:=32) (v:=.i .u64 (Z9 .u64 y 32)) rfl rfl (by decide) (Zck (by decide))) (Zd (.i .u64 (Z9 .u64 y 32)) rfl ?_)))))))
 refine Zb (Za (Zk (Zo (Zd (.i .u64 (Zx .u64 x 4294967295)) rfl (Zd (.i .u64 (Zx .u64 y 4294967295)) rfl (Ze (ZcP (a:=(Zx .u64 x 4294967295)) (b:=(Zx .u64 y 4294967295)) (v:=.i .u64 (ZN .u64 (Zx .u64 x 4294967295) (Zx .u64 y 4294967295))) rfl rfl (by decide) rfl) (Zd (.i .u64 (ZN .u64 (Zx .u64 x 4294967295) (Zx .u64 y 4294967295))) rfl ?_)))))))
 refine Zb (Za (Zk (Zo (Zd (.i .u64 (Z9 .u64 x 32)) rfl (Zd (.i .u64 (Zx .u64 y 4294967295)) rfl (Ze (ZcP (a:=(Z9 .u64 x 32)) (b:=(Zx .u64 y 4294967295)) (v:=.i .u64 (ZN .u64 (Z9 .u64 x 32) (Zx .u64 y 4294967295))) rfl rfl (by decide) rfl) (Zd (.i .u64 (ZN .u64 (Zx .u64 x 4294967295) (Zx .u64 y 4294967295))) rfl ?_)))))))
 refine Ze (Zdj (a:=(ZN .u64 (Zx .u64 x 4294967295) (Zx .u64 y 4294967295))) (b:=32) (v:=.i .u64 (Z9 .u64 (ZN .u64 (Zx .u64 x 4294967295) (Zx .u64 y 4294967295)) 32)) rfl rfl (by decide) (Zck (by decide))) (Ze (ZcP (a:=(ZN .u64 (Z9 .u64 x 32) (Zx .u64 y 4294967295))) (b:=(Z9 .u64 (ZN .u64 (Zx .u64 x 4294967295) (Zx .u64 y 4294967295)) 32)) (v:=.i .u64 (zB .u64 (ZN .u64 (Z9 .u64 x 32) (Zx .u64 y 4294967295)) (Z9 .u64 (ZN .u64 (Zx .u64 x 4294967295) (Zx .u64 y 4294967295)) 32))) rfl rfl (by decide) rfl) (Zd (.i .u64 (zB .u64 (ZN .u64 (Z9 .u64 x 32) (Zx .u64 y 4294967295)) (Z9 .u64 (ZN .u64 (Zx .u64 x 4294967295) (Zx .u64 y 4294967295)) 32))) rfl (Zb (Za (Zk (Zo (Zd (.i .u64 (zB .u64 (ZN .u64 (Z9 .u64 x 32) (Zx .u64 y 4294967295)) (Z9 .u64 (ZN .u64 (Zx .u64 x 4294967295) (Zx .u64 y 4294967295)) 32))) rfl ?_)))))))
 refine Ze (ZcP (a:=(zB .u64 (ZN .u64 (Z9 .u64 x 32) (Zx .u64 y 4294967295)) (Z9 .u64 (ZN .u64 (Zx .u64 x 4294967295) (Zx .u64 y 4294967295)) 32))) (b:=4294967295) (v:=.i .u64 (Zx .u64 (zB .u64 (ZN .u64 (Z9 .u64 x 32) (Zx .u64 y 4294967295)) (Z9 .u64 (ZN .u64 (Zx .u64 x 4294967295) (Zx .u64 y 4294967295)) 32)) 4294967295)) rfl rfl (by decide) rfl) (Zd (.i .u64 (Zx .u64 (zB .u64 (ZN .u64 (Z9 .u64 x 32) (Zx .u64 y 4294967295)) (Z9 .u64 (ZN .u64 (Zx .u64 x 4294967295) (Zx .u64 y 4294967295)) 32)) 4294967295)) rfl (Zb (Za (Zk (Zo (Zd (.i .u64 (zB .u64 (ZN .u64 (Z9 .u64 x 32) (Zx .u64 y 4294967295)) (Z9 .u64 (ZN .u64 (Zx .u64 x 4294967295) (Zx .u64 y 4294967295)) 32))) rfl (Ze (Zdj (a:=(zB .u64 (ZN .u64 (Z9 .u64 x 32) (Zx .u64 y 4294967295)) (Z9 .u64 (ZN .u64 (Zx .u64 x 4294967295) (Zx .u64 y 4294967295)) 32))) (b:=32) (v:=.i .u64 (Z9 .u64 (zB .u64 (ZN .u64 (Z9 .u64 x 32) (Zx .u64 y 4294967295)) (Z9 .u64 (ZN .u64 (Zx .u64 x 4294967295) (Zx .u64 y 4294967295)) 32)) 32)) rfl rfl (by decide) (Zck (by decide))) ?_)))))))
 refine Zd (.i .u64 (Z9 .u64 (zB .u64 (ZN .u64 (Z9 .u64 x 32) (Zx .u64 y 4294967295)) (Z9 .u64 (ZN .u64 (Zx .u64 x 4294967295) (Zx .u64 y 4294967295)) 32)) 32)) rfl (Zb (Za (Zk (Zo (Zd (.i .u64 (Zx .u64 (zB .u64 (ZN .u64 (Z9 .u64 x 32) (Zx .u64 y 4294967295)) (Z9 .u64 (ZN .u64 (Zx .u64 x 4294967295) (Zx .u64 y 4294967295)) 32)) 4294967295)) rfl (Zd (.i .u64 (Zx .u64 x 4294967295)) rfl (Zd (.i .u64 (Z9 .u64 y 32)) rfl ?_)))))))
 refine Ze (ZcP (a:=(Zx .u64 x 4294967295)) (b:=(Z9 .u64 y 32)) (v:=.i .u64 (ZN .u64 (Zx .u64 x 4294967295) (Z9 .u64 y 32))) rfl rfl (by decide) rfl) (Ze (ZcP (a:=(Zx .u64 (zB .u64 (ZN .u64 (Z9 .u64 x 32) (Zx .u64 y 4294967295)) (Z9 .u64 (ZN .u64 (Zx .u64 x 4294967295) (Zx .u64 y 4294967295)) 32)) 4294967295)) (b:=(ZN .u64 (Zx .u64 x 4294967295) (Z9 .u64 y 32))) (v:=.i .u64 (zB .u64 (Zx .u64 (zB .u64 (ZN .u64 (Z9 .u64 x 32) (Zx .u64 y 4294967295)) (Z9 .u64 (ZN .u64 (Zx .u64 x 4294967295) (Zx .u64 y 4294967295)) 32)) 4294967295) (ZN .u64 (Zx .u64 x 4294967295) (Z9 .u64 y 32)))) rfl rfl (by decide) rfl) (Zd (.i .u64 (zB .u64 (Zx .u64 (zB .u64 (ZN .u64 (Z9 .u64 x 32) (Zx .u64 y 4294967295)) (Z9 .u64 (ZN .u64 (Zx .u64 x 4294967295) (Zx .u64 y 4294967295)) 32)) 4294967295) (ZN .u64 (Zx .u64 x 4294967295) (Z9 .u64 y 32)))) rfl (Zb (Za (Zk (Zo (Zd (.i .u64 (Z9 .u64 x 32)) rfl ?_)))))))
 refine Zd (.i .u64 (Z9 .u64 y 32)) rfl (Ze (ZcP (a:=(Z9 .u64 x 32)) (b:=(Z9 .u64 y 32)) (v:=.i .u64 (ZN .u64 (Z9 .u64 x 32) (Z9 .u64 y 32))) rfl rfl (by decide) rfl) (Zd (.i .u64 (Z9 .u64 (zB .u64 (ZN .u64 (Z9 .u64 x 32) (Zx .u64 y 4294967295)) (Z9 .u64 (ZN .u64 (Zx .u64 x 4294967295) (Zx .u64 y 4294967295)) 32)) 32)) rfl (Ze (ZcP (a:=(ZN .u64 (Z9 .u64 x 32) (Z9 .u64 y 32))) (b:=(Z9 .u64 (zB .u64 (ZN .u64 (Z9 .u64 x 32) (Zx .u64 y 4294967295)) (Z9 .u64 (ZN .u64 (Zx .u64 x 4294967295) (Zx .u64 y 4294967295)) 32)) 32)) (v:=.i .u64 (zB .u64 (ZN .u64 (Z9 .u64 x 32) (Z9 .u64 y 32)) (Z9 .u64 (zB .u64 (ZN .u64 (Z9 .u64 x 32) (Zx .u64 y 4294967295)) (Z9 .u64 (ZN .u64 (Zx .u64 x 4294967295) (Zx .u64 y 4294967295)) 32)) 32))) rfl rfl (by decide) rfl) (Zd (.i .u64 (zB .u64 (Zx .u64 (zB .u64 (ZN .u64 (Z9 .u64 x 32) (Zx .u64 y 4294967295)) (Z9 .u64 (ZN .u64 (Zx .u64 x 4294967295) (Zx .u64 y 4294967295)) 32)) 4294967295) (ZN .u64 (Zx .u64 x 4294967295) (Z9 .u64 y 32)))) rfl (Ze (Zdj (a:=(zB .u64 (Zx .u64 (zB .u64 (ZN .u64 (Z9 .u64 x 32) (Zx .u64 y 4294967295)) (Z9 .u64 (ZN .u64 (Zx .u64 x 4294967295) (Zx .u64 y 4294967295)) 32)) 4294967295) (ZN .u64 (Zx .u64 x 4294967295) (Z9 .u64 y 32)))) (b:=32) (v:=.i .u64 (Z9 .u64 (zB .u64 (Zx .u64 (zB .u64 (ZN .u64 (Z9 .u64 x 32) (Zx .u64 y 4294967295)) (Z9 .u64 (ZN .u64 (Zx .u64 x 4294967295) (Zx .u64 y 4294967295)) 32)) 4294967295) (ZN .u64 (Zx .u64 x 4294967295) (Z9 .u64 y 32))) 32)) rfl rfl (by decide) (Zck (by decide))) (Ze (ZcP (a:=(zB .u64 (ZN .u64 (Z9 .u64 x 32) (Z9 .u64 y 32)) (Z9 .u64 (zB .u64 (ZN .u64 (Z9 .u64 x 32) (Zx .u64 y 4294967295)) (Z9 .u64 (ZN .u64 (Zx .u64 x 4294967295) (Zx .u64 y 4294967295)) 32)) 32))) (b:=(Z9 .u64 (zB .u64 (Zx .u64 (zB .u64 (ZN .u64 (Z9 .u64 x 32) (Zx .u64 y 4294967295)) (Z9 .u64 (ZN .u64 (Zx .u64 x 4294967295) (Zx .u64 y 4294967295)) 32)) 4294967295) (ZN .u64 (Zx .u64 x 4294967295) (Z9 .u64 y 32))) 32)) (v:=.i .u64 (zB .u64 (zB .u64 (ZN .u64 (Z9 .u64 x 32) (Z9 .u64 y 32)) (Z9 .u64 (zB .u64 (ZN .u64 (Z9 .u64 x 32) (Zx .u64 y 4294967295)) (Z9 .u64 (ZN .u64 (Zx .u64 x 4294967295) (Zx .u64 y 4294967295)) 32)) 32)) (Z9 .u64 (zB .u64 (Zx .u64 (zB .u64 (ZN .u64 (Z9 .u64 x 32) (Zx .u64 y 4294967295)) (Z9 .u64 (ZN .u64 (Zx .u64 x 4294967295) (Zx .u64 y 4294967295)) 32)) 4294967295) (ZN .u64 (Zx .u64 x 4294967295) (Z9 .u64 y 32))) 32))) rfl rfl (by decide) rfl) (Zd (.i .u64 (zB .u64 (zB .u64 (ZN .u64 (Z9 .u64 x 32) (Z9 .u64 y 32)) (Z9 .u64 (zB .u64 (ZN .u64 (Z9 .u64 x 32) (Zx .u64 y 4294967295)) (Z9 .u64 (ZN .u64 (Zx .u64 x 4294967295) (Zx .u64 y 4294967295)) 32)) 32)) (Z9 .u64 (zB .u64 (Zx .u64 (zB .u64 (ZN .u64 (Z9 .u64 x 32) (Zx .u64 y 4294967295)) (Z9 .u64 (ZN .u64 (Zx .u64 x 4294967295) (Zx .u64 y 4294967295)) 32)) 4294967295) (ZN .u64 (Zx .u64 x 4294967295) (Z9 .u64 y 32))) 32))) rfl ?_)))))))
 refine Zb (Za (Zk (Zo (Zd (.i .u64 x) rfl (Zd (.i .u64 y) rfl (Ze (ZcP (a:=x) (b:=y) (v:=.i .u64 (ZN .u64 x y)) rfl rfl (by decide) rfl) (Zd (.i .u64 (ZN .u64 x y)) rfl ?_)))))))
 refine Zb (Za (Za2 (zW (Zax (n:=4) (v:=.i .u64 (zB .u64 (zB .u64 (ZN .u64 (Z9 .u64 x 32) (Z9 .u64 y 32)) (Z9 .u64 (zB .u64 (ZN .u64 (Z9 .u64 x 32) (Zx .u64 y 4294967295)) (Z9 .u64 (ZN .u64 (Zx .u64 x 4294967295) (Zx .u64 y 4294967295)) 32)) 32)) (Z9 .u64 (zB .u64 (Zx .u64 (zB .u64 (ZN .u64 (Z9 .u64 x 32) (Zx .u64 y 4294967295)) (Z9 .u64 (ZN .u64 (Zx .u64 x 4294967295) (Zx .u64 y 4294967295)) 32)) 4294967295) (ZN .u64 (Zx .u64 x 4294967295) (Z9 .u64 y 32))) 32))) rfl (Zax (n:=5) (v:=.i .u64 (ZN .u64 x y)) rfl zx)) ?_)))
 cases hp
 exact ⟨rfl,(hO.pick [] rfl (by decide))⟩

theorem ZbF.ok {h:Hp} {x:Int} {y:Int}   {r:Int × Int} (hp:ZbF x y = some r) :
  ∃ u k',Is G 89 [.i .u64 x,.i .u64 y] h u k'∧V.tu [.i .u64 r.1,.i .u64 r.2] = u∧Own (fun r=>r < h.n) h k' []:=by
 refine WC.is (ZaM ZdV ?_)
 unfold ZbF at hp
 let B:Nat→Prop:=(fun r=>r < h.n)
 have hO:Own B h h []:=Own.start0 h
 refine Zk (Zo (Zd (.i .u64 0) rfl (Zd (.i .u64 0) rfl (Zb (Za (Zk (zN (t:=false) rfl rfl ?_)))))))
 refine zU (Za (Zk (Zo (Zd (.i .u64 x) rfl (Zd (.i .u64 y) rfl ?_)))))
 obtain ⟨⟨x1,x2⟩,hx'1,hp⟩:=Zt hp
 obtain ⟨u'1,k'1,ca'1,rfl,hW'1⟩:=ZbW.ok (h:=h)   hx'1
 refine Za3 (id:=98) (caps:=[]) rfl (Z3 (v:=.i .u64 x) rfl (Z3 (v:=.i .u64 y) rfl zn)) ca'1 ?_
 have hO'1:=hO.call hW'1 rfl
 refine Zd (.tu [.i .u64 x1,.i .u64 x2]) rfl (Ze (ZaY (vs:=[.i .u64 x1,.i .u64 x2]) (v:=.i .u64 x1) rfl rfl) (Ze (ZaY (vs:=[.i .u64 x1,.i .u64 x2]) (v:=.i .u64 x2) rfl rfl) (Zd (.i .u64 x1) rfl (Zd (.i .u64 x2) rfl (Zb (Za (Zk ?_)))))))
 refine Zo (Zd (.i .u64 x1) rfl (Zd (.i .u64 x2) rfl (Zd (.i .u64 x1) rfl (Zd (.i .u64 x2) rfl (Zb (Za (Za2 ?_)))))))
 refine zW (Zax (n:=4) (v:=.i .u64 x1) rfl (Zax (n:=5) (v:=.i .u64 x2) rfl zx)) ?_
 cases hp
 exact ⟨rfl,(hO'1.pick [] rfl (by decide))⟩

theorem zC.ok {h:Hp} {x:List Int} {count:Int} {v_x:V} (s_x:Sl zw h v_x x) {r:(List Int)} (hp:zC x count = some r) :
  ∃ u k',Is G 83 [v_x,.n count] h u k'∧∃ (v'1:V),v'1 = u∧Own (fun r=>r < h.n) h k' [eSl zw v'1 r]:=by
 refine WC.is (ZaM Zce ?_)
 unfold zC at hp
 let B:Nat→Prop:=(fun r=>r < h.n)
 have hO:Own B h h []:=Own.start0 h
 refine Zk (Zo (Zd (.sn) rfl (Zb (Za (Zk (Zk (Zo ?_)))))))
 refine Zd (.n count) rfl (Ze (zG (a:=count) (b:=0) rfl rfl) (Zb (Za ?_)))
 obtain ⟨o'1,ho'1,hp⟩:=Zt hp
 refine W.mono (Q:=fun e fr k=>match (generalizing:=false) o'1 with
   | _=>e = .normal∧fr 0 = v_x∧fr 1 = .n count∧Own B h k []) ?_ ?_
 ·clear hp; have hp:=ho'1; clear ho'1
  rcases Z2 hp with ⟨b'1,hp⟩ | ⟨b'1,hp⟩
  ·refine zO (t:=(decide (count < 0))) rfl b'1 ?_
   exact nomatch hp
  ·refine zN (t:=(decide (count < 0))) rfl b'1 ?_
   refine zU ?_
   cases hp
   exact ⟨rfl,rfl,rfl,(hO.pick [] rfl (by decide))⟩
 intro e'1 q'1 k'1 hJ'1
 obtain ⟨rfl,q'1_0,q'1_1,hO'1⟩:=hJ'1
 refine Za (Zk (Zo (Zd v_x q'1_0 (Ze (Zah (hO'1.rd0 s_x.rd) rfl) ?_))))
 obtain ⟨c'1,hp⟩:=Zj hp
 refine Ze (ZcU (a:=(x.length:Int)) rfl c'1) (Zd (.n count) q'1_1 ?_)
 obtain ⟨c'2,hp⟩:=Zj hp
 refine Ze (ZcU (a:=count) rfl c'2) ?_
 obtain ⟨⟨x1,x2⟩,hx'1,hp⟩:=Zt hp
 obtain ⟨u'1,k'2,ca'1,rfl,hW'1⟩:=ZbF.ok (h:=k'1)   hx'1
 refine Za3 (id:=89) (caps:=[]) rfl (Z3 (v:=.i .u64 (x.length:Int)) rfl (Z3 (v:=.i .u64 count) rfl zn)) ca'1 ?_
 have hO'2:=hO'1.call hW'1 rfl
 refine Zd (.tu [.i .u64 x1,.i .u64 x2]) rfl (Ze (ZaY (vs:=[.i .u64 x1,.i .u64 x2]) (v:=.i .u64 x1) rfl rfl) (Ze (ZaY (vs:=[.i .u64 x1,.i .u64 x2]) (v:=.i .u64 x2) rfl rfl) (Zd (.i .u64 x1) rfl (Zd (.i .u64 x2) rfl (Zb (Za (Zk ?_)))))))
 refine Zk (Zo (Zd (.i .u64 x1) rfl (Ze (ZcD (a:=x1) (b:=0) rfl rfl) (Zd (.b (decide (0 < x1))) rfl ?_))))
 refine Zad 3 (fun fr' k'=>k'2 = k'∧fr' 26 = .b ((decide (0 < x1)) || (decide (9223372036854775807 < x2)))∧fr' 0 = v_x∧fr' 6 = .i .u64 x2) ?_ ?_
 ·rcases bc (decide (0 < x1)) with b'2 | b'2
  ·skip
   refine Z4 rfl b'2 (Z4 rfl b'2 (Ze (zg (t:=(decide (0 < x1))) (v:=.b ((decide (0 < x1)) || (decide (9223372036854775807 < x2)))) rfl b'2 (Eq.trans (b:=V.b true) rfl (Zbg b'2))) (Zb ?_)))
   exact ⟨rfl,rfl,q'1_0,rfl⟩
  ·skip
   refine ZB rfl b'2 (Zd (.i .u64 x2) rfl (ZB rfl b'2 (Ze (ZcD (a:=x2) (b:=9223372036854775807) rfl rfl) (Ze (zc (t:=(decide (0 < x1))) (v:=.b ((decide (0 < x1)) || (decide (9223372036854775807 < x2)))) rfl b'2 (Eq.trans (b:=V.b (decide (9223372036854775807 < x2))) rfl (Zb7 b'2))) (Zb ?_)))))
   exact ⟨rfl,rfl,q'1_0,rfl⟩
 rintro frg'1 _ ⟨rfl,g'1_26,g'1_0,g'1_6⟩
 refine Zb (Za ?_)
 obtain ⟨o'2,ho'2,hp⟩:=Zt hp
 refine W.mono (Q:=fun e fr k=>match (generalizing:=false) o'2 with
   | _=>e = .normal∧fr 0 = v_x∧fr 6 = .i .u64 x2∧Own B h k []) ?_ ?_
 ·clear hp; have hp:=ho'2; clear ho'2
  rcases Z2 hp with ⟨b'3,hp⟩ | ⟨b'3,hp⟩
  ·refine zO (t:=((decide (0 < x1)) || (decide (9223372036854775807 < x2)))) g'1_26 b'3 ?_
   exact nomatch hp
  ·refine zN (t:=((decide (0 < x1)) || (decide (9223372036854775807 < x2)))) g'1_26 b'3 ?_
   refine zU ?_
   cases hp
   exact ⟨rfl,g'1_0,g'1_6,(hO'2.pick [] rfl (by decide))⟩
 intro e'2 q'2 k'3 hJ'2
 obtain ⟨rfl,q'2_0,q'2_6,hO'3⟩:=hJ'2
 refine Za (Zk (Zo (Zd (.i .u64 x2) q'2_6 ?_)))
 obtain ⟨c'3,hp⟩:=Zj hp
 refine Ze (ZcU (a:=x2) rfl c'3) ?_
 obtain ⟨c'4,hp⟩:=Zj hp
 refine zy (hO'3.mks (E:=zw) (y:=(0:Int)) (bytes:=8) (z:=x2) hO'3.fr rfl rfl rfl c'4 (by decide)) ?_
 rintro v'2 k'4 ⟨r'1,f'1,hW⟩
 have hO'4:=hW
 refine Zd v'2 rfl (Zb (Za (Zk (Zo (Zd v'2 rfl (Zd v_x q'2_0 (zy (hO'4.cpy (E:=zw) 0 rfl (hO'4.rd0 s_x.rd) rfl rfl (fun _=>rfl)) ?_)))))))
 rintro _ k'5 ⟨rfl,f'2,hW⟩
 have hO'5:=hW
 refine Zd (.n ((min x.length (List.replicate x2.toNat (0:Int)).length:Nat):Int)) rfl (Zb (Za (Zk (Zaa ?_))))
 obtain ⟨o'3,ho'3,hp⟩:=Zt hp
 refine W.mono (Q:=fun e fr k=>match (generalizing:=false) o'3 with
   | newslice1=>e = (.exit 0)∧fr 7 = v'2∧Own B h k [eSl zw v'2 newslice1]) ?_ ?_
 ·clear hp
  refine z9 (fun st fr k=>match st with | (newslice,n)=>fr 7 = v'2∧fr 8 = .n n∧Own B h k [eSl zw v'2 newslice]) ho'3 (s:=(x.take (List.replicate x2.toNat (0:Int)).length++(List.replicate x2.toNat (0:Int)).drop x.length,((min x.length (List.replicate x2.toNat (0:Int)).length:Nat):Int))) ⟨rfl,rfl,(hO'5.pick [0] rfl (by decide))⟩ ?_
  rintro ⟨newslice,n⟩ q'4 k'7 ⟨q'4_7,q'4_8,hO'7⟩ o'4 hp
  dsimp only [zC.s0] at hp
  refine Zk (Zk (Zo (Zd (.n n) q'4_8 (Zd v'2 q'4_7 (Ze (Zah (hO'7.sl 0 rfl) rfl) (Ze (zG (a:=n) (b:=(newslice.length:Int)) rfl rfl) (Zb ?_)))))))
  refine Za ?_
  rcases Z2 hp with ⟨b'4,hp⟩ | ⟨b'4,hp⟩
  ·refine zO (t:=(decide (n < (newslice.length:Int)))) rfl b'4 ?_
   refine zU (Za (Zaa (ZfI ?_)))
   have hW:=hO'7.bump 10
   have fr'1:=Fresh.start k'7 10
   have nb'1:∀ {i:Nat},h.n≤k'7.n + i:=Nat.le_trans hO'7.n (Nat.le_add_right _ _)
   have hO'8:=hW
   refine Zbn (.n n) q'4_8 (Zbn v'2 q'4_7 (Zbn (.n n) q'4_8 ?_))
   obtain ⟨c'5,hp⟩:=Zj hp
   refine zP (ZhV (E:=zw) (z:=n) (hO'8.sl 0 rfl) rfl rfl c'5) (Zbn v'2 q'4_7 (Zbn (.n n) q'4_8 (zP (ZjT (E:=zw) (z:=n) (hO'8.sl 0 rfl) rfl rfl c'5) (Ze6 (hO'8.cpyF (E:=zw) (z:=n) 0 rfl c'5 (Sl.cutU (hO'8.sl 0 rfl) c'5:Sl zw (k'7.bump 10) (V.cut v'2 0 n.toNat) (newslice.take n.toNat)) rfl rfl (fun _=>rfl)) ?_))))
   rintro _ k'9 z'1 ⟨rfl,f'3,hW⟩
   have fr'2:=fr'1.kept f'3 (by decide)
   have hO'9:=hW
   obtain ⟨c'6,hp⟩:=Zj hp
   refine zP (zp (a:=n) (b:=((min (newslice.take n.toNat).length (newslice.drop n.toNat).length:Nat):Int)) rfl rfl c'6) (Zbn (.n (n + ((min (newslice.take n.toNat).length (newslice.drop n.toNat).length:Nat):Int))) rfl (Zc1 ?_))
   refine And.intro ?_ ?_
   ·intro q hq
    cases hq
   refine Zac ?_
   cases hp
   exact (Or.inl ⟨(newslice.take n.toNat++((newslice.take n.toNat).take (newslice.drop n.toNat).length++(newslice.drop n.toNat).drop (newslice.take n.toNat).length),n + ((min (newslice.take n.toNat).length (newslice.drop n.toNat).length:Nat):Int)),rfl,rfl,q'4_7,rfl,(hO'9.pick [0] rfl (by decide))⟩)
  ·refine zN (t:=(decide (n < (newslice.length:Int)))) rfl b'4 ?_
   refine ZaT (zR ?_)
   cases hp
   refine (Or.inr ⟨newslice,rfl,(fun h=>nomatch h),(fun he=>?_)⟩)
   subst he; exact ⟨rfl,q'4_7,(hO'7.pick [0] rfl (by decide))⟩
 intro e'3 q'3 k'6 hJ'3
 obtain ⟨newslice1,rfl⟩:∃ x,x = o'3:=⟨_,rfl⟩
 obtain ⟨rfl,q'3_7,hO'6⟩:=hJ'3
 refine Zaq (Za (Zk (Zo (Zd v'2 q'3_7 (Zd v'2 rfl (Zb (Za ?_)))))))
 refine Za2 (zW (Zax (n:=4) (v:=v'2) rfl zx) ?_)
 cases hp
 exact ⟨v'2,rfl,(hO'6.pick [0] rfl (by decide))⟩

theorem zY.ok {h:Hp} {cells:List Zc} {v:Int} {v_cells:V} (s_cells:Sl Zf h v_cells cells) {r:(List Int) × (List Int)} (hp:zY cells v = some r) :
  ∃ u k',Is G 67 [v_cells,.n v] h u k'∧∃ (v'1:V),∃ (v'2:V),V.tu [v'1,v'2] = u∧Own (fun r=>r < h.n) h k' [eSl zw v'1 r.1,eSl zw v'2 r.2]:=by
 refine WC.is (ZaM Zdr ?_)
 unfold zY at hp
 let B:Nat→Prop:=(fun r=>r < h.n)
 have hO:Own B h h []:=Own.start0 h
 refine Zk (Zo (Zd (.sn) rfl (Zd (.sn) rfl (Zb (Za (Zk (Zo ?_)))))))
 refine zy (hO.bsl (E:=zw) (l:=([(-1)]:List Int)) hO.fr (by rw [(zq (v:=.n (-1)) rfl Za5)]; rfl) rfl) ?_
 rintro v'3 k'1 ⟨r'1,f'1,hW⟩
 have hO'1:=hW
 refine Zd v_cells rfl (Ze (Zah (hO'1.rd0 s_cells.rd) rfl) ?_)
 obtain ⟨x,hx'1,hp⟩:=Zt hp
 obtain ⟨u'1,k'2,ca'1,v'4,rfl,hW'1⟩:=zC.ok (h:=k'1)  (hO'1.sl 0 rfl:Sl zw k'1 v'3 ([(-1)]:List Int)) hx'1
 refine Za3 (id:=83) (caps:=[]) rfl (Z3 (v:=v'3) rfl (Z3 (v:=.n (cells.length:Int)) rfl zn)) ca'1 ?_
 have hO'2:=hO'1.call hW'1 rfl
 refine zy (hO'2.bsl (E:=zw) (l:=([(-1)]:List Int)) hO'2.fr (by rw [(zq (v:=.n (-1)) rfl Za5)]; rfl) rfl) ?_
 rintro v'5 k'3 ⟨r'2,f'2,hW⟩
 have hO'3:=hW
 refine Zd v_cells rfl (Ze (Zah (hO'3.rd0 s_cells.rd) rfl) ?_)
 obtain ⟨x1,hx'2,hp⟩:=Zt hp
 obtain ⟨u'2,k'4,ca'2,v'6,rfl,hW'2⟩:=zC.ok (h:=k'3)  (hO'3.sl 2 rfl:Sl zw k'3 v'5 ([(-1)]:List Int)) hx'2
 refine Za3 (id:=83) (caps:=[]) rfl (Z3 (v:=v'5) rfl (Z3 (v:=.n (cells.length:Int)) rfl zn)) ca'2 ?_
 have hO'4:=hO'3.call hW'2 rfl
 refine Zd v'4 rfl (Zd v'6 rfl (Zb (Za (Zk (Zo (Zd (.n v) rfl (zy (hO'4.bsl (E:=zw) (l:=[v]) hO'4.fr (by rw [(zq (v:=.n v) rfl Za5)]; rfl) rfl) ?_)))))))
 rintro v'7 k'5 ⟨r'3,f'3,hW⟩
 have hO'5:=hW
 refine Zd v'7 rfl (Zb (Za (Zk (Zo (Zd v_cells rfl (Ze (Zah (hO'5.rd0 s_cells.rd) rfl) ?_))))))
 obtain ⟨c'1,hp⟩:=Zj hp
 refine zy (hO'5.mks (E:=e_bool) (y:=false) (bytes:=1) (z:=(cells.length:Int)) hO'5.fr rfl rfl rfl c'1 (by decide)) ?_
 rintro v'8 k'6 ⟨r'4,f'4,hW⟩
 have hO'6:=hW
 refine Zd v'8 rfl (Zb (Za (Zk (Zo (Zd v'8 rfl (Zd (.n v) rfl ?_))))))
 obtain ⟨c'2,hp⟩:=Zj hp
 refine Ze (zz (E:=e_bool) (z:=v) (hO'6.sl 5 rfl:Sl e_bool k'6 v'8 (List.replicate ((cells.length:Int):Int).toNat false)) rfl rfl c'2) (zy (hO'6.ste (E:=e_bool) (y:=true) (ws:=[.b true]) 5 rfl rfl (Zp c'2) rfl rfl ⟨rfl,Nat.le_of_ble_eq_true rfl,rfl⟩ rfl) ?_)
 rintro _ k'7 ⟨rfl,f'5,m'1,hW⟩
 have hO'7:=hW
 refine Zb (Za (Zk (Zaa ?_)))
 obtain ⟨o'1,ho'1,hp⟩:=Zt hp
 refine W.mono (Q:=fun e fr k=>match (generalizing:=false) o'1 with
   | (from_1,dir1)=>e = (.exit 0)∧fr 6 = v'4∧fr 7 = v'6∧Own B h k [eSl zw v'4 from_1,eSl zw v'6 dir1]) ?_ ?_
 ·clear hp
  refine z9 (fun st fr k=>match st with | (from_,dir,l,met)=>∃ (v'9:V),fr 0 = v_cells∧fr 6 = v'4∧fr 7 = v'6∧fr 8 = v'9∧fr 9 = v'8∧Own B h k [eSl zw v'4 from_,eSl zw v'6 dir,eSl zw v'9 l,eSl e_bool v'8 met]) ho'1 (s:=(x,x1,[v],(List.replicate ((cells.length:Int):Int).toNat false).set v.toNat true)) ⟨v'7,rfl,rfl,rfl,rfl,rfl,(hO'7.pick [1,3,4,5] rfl (by decide))⟩ ?_
  rintro ⟨from_,dir,l,met⟩ q'2 k'9 ⟨v'9,q'2_0,q'2_6,q'2_7,q'2_8,q'2_9,hO'9⟩ o'2 hp
  dsimp only [zY.s0] at hp
  refine Zk (Zk (Zo (Zd v'9 q'2_8 (Ze (Zah (hO'9.sl 2 rfl) rfl) (Ze (ZcD (a:=(l.length:Int)) (b:=0) rfl rfl) (Zb (Za ?_)))))))
  rcases Z2 hp with ⟨b'1,hp⟩ | ⟨b'1,hp⟩
  ·refine zO (t:=(decide (0 < (l.length:Int)))) rfl b'1 ?_
   refine zU (Za (Zaa (Zk (Zo (Zd v'9 q'2_8 ?_)))))
   obtain ⟨c'3,hp⟩:=Zj hp
   refine Ze (zz (E:=zw) (z:=0) (hO'9.sl 2 rfl) rfl rfl c'3) (Ze (zS (w:=.n (gi l (0:Int).toNat)) (hO'9.sl 2 rfl) rfl (Zp c'3) rfl) (Zd (.n (gi l (0:Int).toNat)) rfl (Zb (Za (Zk (Zo (Zd v'9 q'2_8 ?_)))))))
   obtain ⟨c'4,hp⟩:=Zj hp
   refine Ze (ZhV (E:=zw) (z:=1) (hO'9.sl 2 rfl) rfl rfl c'4) (Zd ((V.cut v'9 (1:Int).toNat (l).length)) rfl (Zb (Za (Zk (Zo (Zd (.n 0) rfl (Zb ?_)))))))
   refine Za (Zaa ?_)
   obtain ⟨o'3,ho'2,hp⟩:=Zt hp
   refine W.mono (Q:=fun e fr k=>match (generalizing:=false) o'3 with
     | (from_3,dir3,l2,met2)=>e = (.exit 2)∧∃ (v'11:V),fr 0 = v_cells∧fr 6 = v'4∧fr 7 = v'6∧fr 8 = v'11∧fr 9 = v'8∧Own B h k [eSl zw v'4 from_3,eSl zw v'6 dir3,eSl zw v'11 l2,eSl e_bool v'8 met2]) ?_ ?_
   ·clear hp
    have hO'11:=hO'9.cutF 2 rfl c'4
    refine z9 (fun st fr k=>match st with | (from_2,dir2,l1,met1,x2)=>∃ (v'10:V),fr 0 = v_cells∧fr 6 = v'4∧fr 7 = v'6∧fr 8 = v'10∧fr 9 = v'8∧fr 10 = .n (gi l (0:Int).toNat)∧fr 37 = .n x2∧Own B h k [eSl zw v'4 from_2,eSl zw v'6 dir2,eSl zw v'10 l1,eSl e_bool v'8 met1]) ho'2 (s:=(from_,dir,l.drop (1:Int).toNat,met,0)) ⟨(V.cut v'9 (1:Int).toNat (l).length),q'2_0,q'2_6,q'2_7,rfl,q'2_9,rfl,rfl,(hO'11.pick [0,1,2,3] rfl (by decide))⟩ ?_
    rintro ⟨from_2,dir2,l1,met1,x2⟩ q'4 k'11 ⟨v'10,q'4_0,q'4_6,q'4_7,q'4_8,q'4_9,q'4_10,q'4_37,hO'12⟩ o'4 hp
    dsimp only [zY.s1] at hp
    refine Zk (Zo (Ze (zG (a:=x2) (b:=4) q'4_37 rfl) (Zb (Za (Zk ?_)))))
    rcases Z2 hp with ⟨b'2,hp⟩ | ⟨b'2,hp⟩
    ·refine zO (t:=(decide (x2 < 4))) rfl b'2 ?_
     refine zU (Za (Zk (Zaa (Zk (Zo (Zd (.n x2) q'4_37 (Zd (.n x2) rfl ?_)))))))
     refine Zb (Za (Zk (Zo (Zd v_cells q'4_0 (Zd (.n (gi l (0:Int).toNat)) q'4_10 (Zd (.n x2) rfl ?_))))))
     obtain ⟨c'5,hp⟩:=Zj hp
     refine Ze (zz (E:=Zf) (z:=(gi l (0:Int).toNat)) (hO'12.rd0 s_cells.rd) rfl rfl c'5) (Ze (ZaE (off':=0) (off2:=0) (hO'12.rd0 s_cells.rd) (Zp c'5) rfl rfl) ?_)
     obtain ⟨c'6,hp⟩:=Zj hp
     refine Ze (ZaU (off:=0) (off2:=(0 + x2.toNat * 1)) (z:=x2) (hO'12.rd0 s_cells.rd) (Zp c'5) rfl rfl c'6 rfl) (Ze (zS (w:=.n (((gi cells (gi l (0:Int).toNat:Int).toNat).Next).get x2)) (hO'12.rd0 s_cells.rd) rfl (Zp c'5) (Zal c'6)) (Zd (.n (((gi cells (gi l (0:Int).toNat:Int).toNat).Next).get x2)) rfl (Zb (Za (Zk (Zo (Zd (.n (((gi cells (gi l (0:Int).toNat:Int).toNat).Next).get x2)) rfl ?_)))))))
     refine Ze (ZcC (a:=(((gi cells (gi l (0:Int).toNat:Int).toNat).Next).get x2)) (b:=0) rfl rfl) (Zd (.b (decide (0≤(((gi cells (gi l (0:Int).toNat:Int).toNat).Next).get x2)))) rfl ?_)
     obtain ⟨t,hv'1,hp⟩:=Zt hp
     refine Zad 6 (fun fr' k'=>k'11 = k'∧fr' 55 = .b t∧fr' 0 = v_cells∧fr' 10 = .n (gi l (0:Int).toNat)∧fr' 11 = .n x2∧fr' 12 = .n (((gi cells (gi l (0:Int).toNat:Int).toNat).Next).get x2)∧fr' 37 = .n x2∧fr' 6 = v'4∧fr' 7 = v'6∧fr' 8 = v'10∧fr' 9 = v'8) ?_ ?_
     ·clear hp; rcases Z2 hv'1 with ⟨b'3,hp⟩ | ⟨b'3,hp⟩
      ·skip
       refine ZB rfl b'3 (Zd v'8 q'4_9 (ZB rfl b'3 (Zd (.n (((gi cells (gi l (0:Int).toNat:Int).toNat).Next).get x2)) rfl (ZB rfl b'3 ?_))))
       obtain ⟨c'7,hp⟩:=Zj hp
       refine Ze (zz (E:=e_bool) (z:=(((gi cells (gi l (0:Int).toNat:Int).toNat).Next).get x2)) (hO'12.sl 3 rfl) rfl rfl c'7) (ZB rfl b'3 (Ze (zS (w:=.b (gi met1 (((gi cells (gi l (0:Int).toNat:Int).toNat).Next).get x2:Int).toNat)) (hO'12.sl 3 rfl) rfl (Zp c'7) rfl) (ZB rfl b'3 (Ze (ZcF (t:=(gi met1 (((gi cells (gi l (0:Int).toNat:Int).toNat).Next).get x2:Int).toNat)) rfl) (Ze (zg (t:=(decide (0≤(((gi cells (gi l (0:Int).toNat:Int).toNat).Next).get x2)))) (v:=.b t) rfl b'3 (Eq.trans (b:=V.b (!(gi met1 (((gi cells (gi l (0:Int).toNat:Int).toNat).Next).get x2:Int).toNat))) rfl (congrArg V.b (Option.some.inj hp)))) (Zb ?_))))))
       exact ⟨rfl,rfl,q'4_0,q'4_10,rfl,rfl,q'4_37,q'4_6,q'4_7,q'4_8,q'4_9⟩
      ·skip
       refine Z4 rfl b'3 (Z4 rfl b'3 (Z4 rfl b'3 (Z4 rfl b'3 (Z4 rfl b'3 (Ze (zc (t:=(decide (0≤(((gi cells (gi l (0:Int).toNat:Int).toNat).Next).get x2)))) (v:=.b t) rfl b'3 (Eq.trans (b:=V.b false) rfl (congrArg V.b (Option.some.inj hp)))) (Zb ?_))))))
       exact ⟨rfl,rfl,q'4_0,q'4_10,rfl,rfl,q'4_37,q'4_6,q'4_7,q'4_8,q'4_9⟩
     rintro frg'1 _ ⟨rfl,g'1_55,g'1_0,g'1_10,g'1_11,g'1_12,g'1_37,g'1_6,g'1_7,g'1_8,g'1_9⟩
     refine Zb (Za ?_)
     rcases Z2 hp with ⟨b'4,hp⟩ | ⟨b'4,hp⟩
     ·refine zO (t:=t) g'1_55 b'4 ?_
      refine Zk (Zo (Zd v'8 g'1_9 (Zd (.n (((gi cells (gi l (0:Int).toNat:Int).toNat).Next).get x2)) g'1_12 (Zd v'4 g'1_6 (Zd (.n (((gi cells (gi l (0:Int).toNat:Int).toNat).Next).get x2)) g'1_12 (Zd v'6 g'1_7 (Zd (.n (((gi cells (gi l (0:Int).toNat:Int).toNat).Next).get x2)) g'1_12 ?_)))))))
      refine Zd (.n (gi l (0:Int).toNat)) g'1_10 (Zd (.n x2) g'1_11 ?_)
      obtain ⟨c'8,hp⟩:=Zj hp
      refine Ze (zz (E:=e_bool) (z:=(((gi cells (gi l (0:Int).toNat:Int).toNat).Next).get x2)) (hO'12.sl 3 rfl) rfl rfl c'8) (zy (hO'12.ste (E:=e_bool) (y:=true) (ws:=[.b true]) 3 rfl rfl (Zp c'8) rfl rfl ⟨rfl,Nat.le_of_ble_eq_true rfl,rfl⟩ rfl) ?_)
      rintro _ k'12 ⟨rfl,f'6,m'2,hW⟩
      have hO'13:=hW
      obtain ⟨c'9,hp⟩:=Zj hp
      refine Ze (zz (E:=zw) (z:=(((gi cells (gi l (0:Int).toNat:Int).toNat).Next).get x2)) (hO'13.sl 0 rfl) rfl rfl c'9) (zy (hO'13.ste (E:=zw) (y:=(gi l (0:Int).toNat)) (ws:=[.n (gi l (0:Int).toNat)]) 0 rfl rfl (Zp c'9) rfl rfl ⟨rfl,Nat.le_of_ble_eq_true rfl,rfl⟩ rfl) ?_)
      rintro _ k'13 ⟨rfl,f'7,m'3,hW⟩
      have hO'14:=hW
      obtain ⟨c'10,hp⟩:=Zj hp
      refine Ze (zz (E:=zw) (z:=(((gi cells (gi l (0:Int).toNat:Int).toNat).Next).get x2)) (hO'14.sl 1 rfl) rfl rfl c'10) (zy (hO'14.ste (E:=zw) (y:=x2) (ws:=[.n x2]) 1 rfl rfl (Zp c'10) rfl rfl ⟨rfl,Nat.le_of_ble_eq_true rfl,rfl⟩ rfl) ?_)
      rintro _ k'14 ⟨rfl,f'8,m'4,hW⟩
      have hO'15:=hW
      refine Zb (Za (Zo (Zd v'10 g'1_8 (Zd (.n (((gi cells (gi l (0:Int).toNat:Int).toNat).Next).get x2)) g'1_12 (zy (hO'15.bsl (E:=zw) (l:=[((gi cells (gi l (0:Int).toNat:Int).toNat).Next).get x2]) hO'15.fr (by rw [(zq (v:=.n (((gi cells (gi l (0:Int).toNat:Int).toNat).Next).get x2)) rfl Za5)]; rfl) rfl) ?_)))))
      rintro v'12 k'15 ⟨r'5,f'9,hW⟩
      have hO'16:=hW
      obtain ⟨c'11,hp⟩:=Zj hp
      refine zy (hO'16.app (E:=zw) (bytes:=8) 2 hO'16.fr rfl (hO'16.sl 4 rfl:Sl zw k'15 v'12 [((gi cells (gi l (0:Int).toNat:Int).toNat).Next).get x2]) rfl rfl (fun _=>rfl) c'11 (by decide)) ?_
      rintro v'13 k'16 ⟨f'10,hW⟩
      have hO'17:=hW
      refine Zd v'13 rfl (Zb (Zac (Za (Zo ?_))))
      obtain ⟨c'12,hp⟩:=Zj hp
      refine Ze (zp (a:=x2) (b:=1) g'1_37 rfl c'12) (Zd (.n (x2 + 1)) rfl (Zb ?_))
      cases hp
      exact (Or.inl ⟨(from_2.set (((gi cells (gi l (0:Int).toNat:Int).toNat).Next).get x2:Int).toNat (gi l (0:Int).toNat),dir2.set (((gi cells (gi l (0:Int).toNat:Int).toNat).Next).get x2:Int).toNat x2,l1++[((gi cells (gi l (0:Int).toNat:Int).toNat).Next).get x2],met1.set (((gi cells (gi l (0:Int).toNat:Int).toNat).Next).get x2:Int).toNat true,x2 + 1),rfl,rfl,v'13,g'1_0,g'1_6,g'1_7,rfl,g'1_9,g'1_10,rfl,(hO'17.pick [0,1,2,3] rfl (by decide))⟩)
     ·refine zN (t:=t) g'1_55 b'4 ?_
      refine zU (Zac (Za (Zo ?_)))
      obtain ⟨c'13,hp⟩:=Zj hp
      refine Ze (zp (a:=x2) (b:=1) g'1_37 rfl c'13) (Zd (.n (x2 + 1)) rfl (Zb ?_))
      cases hp
      exact (Or.inl ⟨(from_2,dir2,l1,met1,x2 + 1),rfl,rfl,v'10,g'1_0,g'1_6,g'1_7,g'1_8,g'1_9,g'1_10,rfl,(hO'12.pick [0,1,2,3] rfl (by decide))⟩)
    ·refine zN (t:=(decide (x2 < 4))) rfl b'2 ?_
     refine ZaT (zR ?_)
     cases hp
     refine (Or.inr ⟨(from_2,dir2,l1,met1),rfl,(fun h=>nomatch h),(fun he=>?_)⟩)
     subst he; exact ⟨rfl,v'10,q'4_0,q'4_6,q'4_7,q'4_8,q'4_9,(hO'12.pick [0,1,2,3] rfl (by decide))⟩
   intro e'2 q'3 k'10 hJ'2
   obtain ⟨from_3,dir3,l2,met2⟩:=o'3
   obtain ⟨rfl,v'11,q'3_0,q'3_6,q'3_7,q'3_8,q'3_9,hO'10⟩:=hJ'2
   refine Zaq (Zac ?_)
   cases hp
   exact (Or.inl ⟨(from_3,dir3,l2,met2),rfl,rfl,v'11,q'3_0,q'3_6,q'3_7,q'3_8,q'3_9,(hO'10.pick [0,1,2,3] rfl (by decide))⟩)
  ·refine zN (t:=(decide (0 < (l.length:Int)))) rfl b'1 ?_
   refine ZaT (zR ?_)
   cases hp
   refine (Or.inr ⟨(from_,dir),rfl,(fun h=>nomatch h),(fun he=>?_)⟩)
   subst he; exact ⟨rfl,q'2_6,q'2_7,(hO'9.pick [0,1] rfl (by decide))⟩
 intro e'1 q'1 k'8 hJ'1
 obtain ⟨from_1,dir1⟩:=o'1
 obtain ⟨rfl,q'1_6,q'1_7,hO'8⟩:=hJ'1
 refine Zaq (Za (Zk (Zo (Zd v'4 q'1_6 (Zd v'6 q'1_7 (Zd v'4 rfl (Zd v'6 rfl ?_)))))))
 refine Zb (Za (Za2 (zW (Zax (n:=4) (v:=v'4) rfl (Zax (n:=5) (v:=v'6) rfl zx)) ?_)))
 cases hp
 exact ⟨v'4,v'6,rfl,(hO'8.pick [0,1] rfl (by decide))⟩

theorem Zae.ok {h:Hp} {cells:List Zc} {v_cells:V} (s_cells:Sl Zf h v_cells cells) {r:(List (List Int)) × Int} (hp:Zae cells = some r) :
  ∃ u k',Is G 29 [v_cells] h u k'∧∃ (v'1:V),∃ (vs'1:List V),V.tu [v'1,.n r.2] = u∧Own (fun r=>r < h.n) h k' [eSl eV v'1 vs'1,Zba zw vs'1 r.1]:=by
 refine WC.is (ZaM Zd3 ?_)
 unfold Zae at hp
 let B:Nat→Prop:=(fun r=>r < h.n)
 have hO:Own B h h []:=Own.start0 h
 refine Zk (Zo (Zd (.sn) rfl (Zd (.n 0) rfl (Zb (Za (Zk (Zk ?_)))))))
 refine Zo (Zd v_cells rfl ?_)
 obtain ⟨x,hx'1,hp⟩:=Zt hp
 obtain ⟨u'1,k'1,ca'1,rfl,hW'1⟩:=z4.ok (h:=h)  (hO.rd0 s_cells.rd) hx'1
 refine Za3 (id:=66) (caps:=[]) rfl (Z3 (v:=v_cells) rfl zn) ca'1 ?_
 have hO'1:=hO.call hW'1 rfl
 refine Zd (.n x) rfl (Zb (Za (Zk (Zo (Zd (.n x) rfl (Ze (ZcE (a:=x) (b:=0) rfl rfl) (Zb ?_)))))))
 refine Za ?_
 rcases Z2 hp with ⟨b'1,hp⟩ | ⟨b'1,hp⟩
 ·refine zO (t:=(!(decide (x = 0)))) rfl b'1 ?_
  refine Zk (Zo (Zd (.n x) rfl (Zd (.sn) rfl (Zd (.n x) rfl (Zb (Za (Za2 ?_)))))))
  refine Zaf ?_
  have hO'2:=hO'1.nil eV
  have hO'3:=hO'2.allNil zw 0
  refine zW (Zax (n:=2) (v:=.sn) rfl (Zax (n:=3) (v:=.n x) rfl zx)) ?_
  cases hp
  exact ⟨V.sn,[],rfl,(hO'3.pick [0,1] rfl (by decide))⟩
 ·refine zN (t:=(!(decide (x = 0)))) rfl b'1 ?_
  refine zU (Za (Zk (Zo (Zd (.sn) rfl (Zb (Za (Zk ?_)))))))
  refine Zo (Zd v_cells rfl (Ze (Zah (hO'1.rd0 s_cells.rd) rfl) ?_))
  obtain ⟨c'1,hp⟩:=Zj hp
  refine zy (hO'1.mks (E:=e_bool) (y:=false) (bytes:=1) (z:=(cells.length:Int)) hO'1.fr rfl rfl rfl c'1 (by decide)) ?_
  rintro v'2 k'2 ⟨r'1,f'1,hW⟩
  have hO'4:=hW
  refine Zd v'2 rfl (Zb (Za (Zk (Zk (Zo (Zd v_cells rfl (Ze (Zah (hO'4.rd0 s_cells.rd) rfl) ?_)))))))
  refine Zd (.n 0) rfl (Zb (Za (Zaa ?_)))
  obtain ⟨o'1,ho'1,hp⟩:=Zt hp
  refine W.mono (Q:=fun e fr k=>match (generalizing:=false) o'1 with
    | l1=>e = (.exit 0)∧∃ (v'4:V),∃ (vs'3:List V),fr 5 = v'4∧Own B h k [eSl eV v'4 vs'3,Zba zw vs'3 l1]) ?_ ?_
  ·clear hp
   have hO'6:=hO'4.nil eV
   have hO'7:=hO'6.allNil zw 0
   refine z9 (fun st fr k=>match st with | (l,met,x1)=>∃ (v'3:V),∃ (vs'2:List V),fr 0 = v_cells∧fr 5 = v'3∧fr 6 = v'2∧fr 21 = .n (cells.length:Int)∧fr 22 = .n x1∧Own B h k [eSl eV v'3 vs'2,Zba zw vs'2 l,eSl e_bool v'2 met]) ho'1 (s:=(([]:List (List Int)),List.replicate ((cells.length:Int):Int).toNat false,0)) ⟨V.sn,[],rfl,rfl,rfl,rfl,rfl,(hO'7.pick [1,2,0] rfl (by decide))⟩ ?_
   rintro ⟨l,met,x1⟩ q'2 k'4 ⟨v'3,vs'2,q'2_0,q'2_5,q'2_6,q'2_21,q'2_22,hO'8⟩ o'2 hp
   dsimp only [Zae.s0] at hp
   refine Zk (Zo (Ze (zG (a:=x1) (b:=(cells.length:Int)) q'2_22 q'2_21) (Zb (Za (Zk ?_)))))
   rcases Z2 hp with ⟨b'2,hp⟩ | ⟨b'2,hp⟩
   ·refine zO (t:=(decide (x1 < (cells.length:Int)))) rfl b'2 ?_
    refine zU (Za (Zk (Zaa (Zk (Zo (Zd (.n x1) q'2_22 (Zd (.n x1) rfl ?_)))))))
    refine Zb (Za (Zk (Zk (Zo (Zd v'2 q'2_6 (Zd (.n x1) rfl ?_))))))
    obtain ⟨c'2,hp⟩:=Zj hp
    refine Ze (zz (E:=e_bool) (z:=x1) (hO'8.sl 2 rfl) rfl rfl c'2) (Ze (zS (w:=.b (gi met x1.toNat)) (hO'8.sl 2 rfl) rfl (Zp c'2) rfl) (Zb (Za ?_)))
    rcases Z2 hp with ⟨b'3,hp⟩ | ⟨b'3,hp⟩
    ·refine zO (t:=(gi met x1.toNat)) rfl b'3 ?_
     refine ZaT (zR (Zaq (Za (Zo ?_))))
     obtain ⟨c'3,hp⟩:=Zj hp
     refine Ze (zp (a:=x1) (b:=1) q'2_22 rfl c'3) (Zd (.n (x1 + 1)) rfl (Zb ?_))
     cases hp
     exact (Or.inl ⟨(l,met,x1 + 1),rfl,rfl,v'3,vs'2,q'2_0,q'2_5,q'2_6,q'2_21,rfl,(hO'8.pick [0,1,2] rfl (by decide))⟩)
    ·refine zN (t:=(gi met x1.toNat)) rfl b'3 ?_
     refine zU (Za (Zk (Zo (Zd v_cells q'2_0 (Zd (.n x1) rfl ?_)))))
     obtain ⟨⟨x2,x3⟩,hx'2,hp⟩:=Zt hp
     obtain ⟨u'2,k'5,ca'2,v'5,v'6,rfl,hW'2⟩:=zY.ok (h:=k'4)  (hO'8.rd0 s_cells.rd) hx'2
     refine Za3 (id:=67) (caps:=[]) rfl (Z3 (v:=v_cells) rfl (Z3 (v:=.n x1) rfl zn)) ca'2 ?_
     have hO'9:=hO'8.call hW'2 rfl
     refine Zd (.tu [v'5,v'6]) rfl (Ze (ZaY (vs:=[v'5,v'6]) (v:=v'5) rfl rfl) (Ze (ZaY (vs:=[v'5,v'6]) (v:=v'6) rfl rfl) (Zd v'5 rfl (Zd v'6 rfl (Zb (Za (Zk ?_)))))))
     refine Zo (zy (hO'9.bsl (E:=zw) (l:=[]) hO'9.fr (by rw [Za5]; rfl) rfl) ?_)
     rintro v'7 k'6 ⟨r'2,f'2,hW⟩
     have hO'10:=hW
     refine Zd v'7 rfl (Zb (Za (Zk (Zk (Zo (Zd v_cells q'2_0 (Ze (Zah (hO'10.rd0 s_cells.rd) rfl) ?_)))))))
     refine Zd (.n 0) rfl (Zb (Za (Zaa ?_)))
     obtain ⟨o'3,ho'2,hp⟩:=Zt hp
     refine W.mono (Q:=fun e fr k=>match (generalizing:=false) o'3 with
       | (met2,part1)=>e = (.exit 2)∧∃ (v'9:V),fr 0 = v_cells∧fr 5 = v'3∧fr 6 = v'2∧fr 10 = v'9∧fr 21 = .n (cells.length:Int)∧fr 22 = .n x1∧Own B h k [eSl eV v'3 vs'2,Zba zw vs'2 l,eSl e_bool v'2 met2,eSl zw v'9 part1]) ?_ ?_
     ·clear hp
      refine z9 (fun st fr k=>match st with | (met1,part,x4)=>∃ (v'8:V),fr 0 = v_cells∧fr 5 = v'3∧fr 6 = v'2∧fr 7 = .n x1∧fr 9 = v'6∧fr 10 = v'8∧fr 21 = .n (cells.length:Int)∧fr 22 = .n x1∧fr 37 = .n (cells.length:Int)∧fr 38 = .n x4∧Own B h k [eSl eV v'3 vs'2,Zba zw vs'2 l,eSl e_bool v'2 met1,eSl zw v'6 x3,eSl zw v'8 part]) ho'2 (s:=(met,[],0)) ⟨v'7,q'2_0,q'2_5,q'2_6,rfl,rfl,rfl,q'2_21,q'2_22,rfl,rfl,(hO'10.pick [0,1,2,4,5] rfl (by decide))⟩ ?_
      rintro ⟨met1,part,x4⟩ q'4 k'8 ⟨v'8,q'4_0,q'4_5,q'4_6,q'4_7,q'4_9,q'4_10,q'4_21,q'4_22,q'4_37,q'4_38,hO'12⟩ o'4 hp
      dsimp only [Zae.s1] at hp
      refine Zk (Zo (Ze (zG (a:=x4) (b:=(cells.length:Int)) q'4_38 q'4_37) (Zb (Za (Zk ?_)))))
      rcases Z2 hp with ⟨b'4,hp⟩ | ⟨b'4,hp⟩
      ·refine zO (t:=(decide (x4 < (cells.length:Int)))) rfl b'4 ?_
       refine zU (Za (Zk (Zaa (Zk (Zo (Zd (.n x4) q'4_38 (Zd (.n x4) rfl ?_)))))))
       refine Zb (Za (Zk (Zo (Zd (.n x4) rfl (Zd (.n x1) q'4_7 (Ze (ZaW (a:=x4) (b:=x1) rfl rfl) (Zd (.b (decide (x4 = x1))) rfl ?_)))))))
       obtain ⟨t,hv'1,hp⟩:=Zt hp
       refine Zad 6 (fun fr' k'=>k'8 = k'∧fr' 50 = .b t∧fr' 0 = v_cells∧fr' 10 = v'8∧fr' 11 = .n x4∧fr' 21 = .n (cells.length:Int)∧fr' 22 = .n x1∧fr' 37 = .n (cells.length:Int)∧fr' 38 = .n x4∧fr' 5 = v'3∧fr' 6 = v'2∧fr' 7 = .n x1∧fr' 9 = v'6) ?_ ?_
       ·clear hp; rcases Z2 hv'1 with ⟨b'5,hp⟩ | ⟨b'5,hp⟩
        ·skip
         refine Z4 rfl b'5 (Z4 rfl b'5 (Z4 rfl b'5 (Z4 rfl b'5 (Z4 rfl b'5 (Ze (zg (t:=(decide (x4 = x1))) (v:=.b t) rfl b'5 (Eq.trans (b:=V.b true) rfl (congrArg V.b (Option.some.inj hp)))) (Zb ?_))))))
         exact ⟨rfl,rfl,q'4_0,q'4_10,rfl,q'4_21,q'4_22,q'4_37,q'4_38,q'4_5,q'4_6,q'4_7,q'4_9⟩
        ·skip
         refine ZB rfl b'5 (Zd v'6 q'4_9 (ZB rfl b'5 (Zd (.n x4) rfl (ZB rfl b'5 ?_))))
         obtain ⟨c'4,hp⟩:=Zj hp
         refine Ze (zz (E:=zw) (z:=x4) (hO'12.sl 3 rfl) rfl rfl c'4) (ZB rfl b'5 (Ze (zS (w:=.n (gi x3 x4.toNat)) (hO'12.sl 3 rfl) rfl (Zp c'4) rfl) (ZB rfl b'5 (Ze (ZcC (a:=(gi x3 x4.toNat)) (b:=0) rfl rfl) (Ze (zc (t:=(decide (x4 = x1))) (v:=.b t) rfl b'5 (Eq.trans (b:=V.b (decide (0≤(gi x3 x4.toNat)))) rfl (congrArg V.b (Option.some.inj hp)))) (Zb ?_))))))
         exact ⟨rfl,rfl,q'4_0,q'4_10,rfl,q'4_21,q'4_22,q'4_37,q'4_38,q'4_5,q'4_6,q'4_7,q'4_9⟩
       rintro frg'1 _ ⟨rfl,g'1_50,g'1_0,g'1_10,g'1_11,g'1_21,g'1_22,g'1_37,g'1_38,g'1_5,g'1_6,g'1_7,g'1_9⟩
       refine Zb (Za ?_)
       rcases Z2 hp with ⟨b'6,hp⟩ | ⟨b'6,hp⟩
       ·refine zO (t:=t) g'1_50 b'6 ?_
        refine Zk (Zo (Zd v'2 g'1_6 (Zd (.n x4) g'1_11 ?_)))
        obtain ⟨c'5,hp⟩:=Zj hp
        refine Ze (zz (E:=e_bool) (z:=x4) (hO'12.sl 2 rfl) rfl rfl c'5) (zy (hO'12.ste (E:=e_bool) (y:=true) (ws:=[.b true]) 2 rfl rfl (Zp c'5) rfl rfl ⟨rfl,Nat.le_of_ble_eq_true rfl,rfl⟩ rfl) ?_)
        rintro _ k'9 ⟨rfl,f'3,m'1,hW⟩
        have hO'13:=hW
        refine Zb (Za (Zo (Zd v'8 g'1_10 (Zd (.n x4) g'1_11 (zy (hO'13.bsl (E:=zw) (l:=[x4]) hO'13.fr (by rw [(zq (v:=.n x4) rfl Za5)]; rfl) rfl) ?_)))))
        rintro v'10 k'10 ⟨r'3,f'4,hW⟩
        have hO'14:=hW
        obtain ⟨c'6,hp⟩:=Zj hp
        refine zy (hO'14.app (E:=zw) (bytes:=8) 4 hO'14.fr rfl (hO'14.sl 5 rfl) rfl rfl (fun _=>rfl) c'6 (by decide)) ?_
        rintro v'11 k'11 ⟨f'5,hW⟩
        have hO'15:=hW
        refine Zd v'11 rfl (Zb (Zac (Za (Zo ?_))))
        obtain ⟨c'7,hp⟩:=Zj hp
        refine Ze (zp (a:=x4) (b:=1) g'1_38 rfl c'7) (Zd (.n (x4 + 1)) rfl (Zb ?_))
        cases hp
        exact (Or.inl ⟨(met1.set x4.toNat true,part++[x4],x4 + 1),rfl,rfl,v'11,g'1_0,g'1_5,g'1_6,g'1_7,g'1_9,rfl,g'1_21,g'1_22,g'1_37,rfl,(hO'15.pick [0,1,2,3,4] rfl (by decide))⟩)
       ·refine zN (t:=t) g'1_50 b'6 ?_
        refine zU (Zac (Za (Zo ?_)))
        obtain ⟨c'8,hp⟩:=Zj hp
        refine Ze (zp (a:=x4) (b:=1) g'1_38 rfl c'8) (Zd (.n (x4 + 1)) rfl (Zb ?_))
        cases hp
        exact (Or.inl ⟨(met1,part,x4 + 1),rfl,rfl,v'8,g'1_0,g'1_5,g'1_6,g'1_7,g'1_9,g'1_10,g'1_21,g'1_22,g'1_37,rfl,(hO'12.pick [0,1,2,3,4] rfl (by decide))⟩)
      ·refine zN (t:=(decide (x4 < (cells.length:Int)))) rfl b'4 ?_
       refine ZaT (zR ?_)
       cases hp
       refine (Or.inr ⟨(met1,part),rfl,(fun h=>nomatch h),(fun he=>?_)⟩)
       subst he; exact ⟨rfl,v'8,q'4_0,q'4_5,q'4_6,q'4_10,q'4_21,q'4_22,(hO'12.pick [0,1,2,4] rfl (by decide))⟩
     intro e'2 q'3 k'7 hJ'2
     obtain ⟨met2,part1⟩:=o'3
     obtain ⟨rfl,v'9,q'3_0,q'3_5,q'3_6,q'3_10,q'3_21,q'3_22,hO'11⟩:=hJ'2
     refine Zaq (Za (Zo (Zd v'3 q'3_5 (Zd v'9 q'3_10 (zy (hO'11.bsl (E:=eV) (l:=[v'9]) hO'11.fr (by rw [(zq (v:=v'9) rfl Za5)]; simp only [fill,(hO'11.sl 3 rfl).cells]; simp [over]) rfl) ?_)))))
     rintro v'12 k'12 ⟨r'4,f'6,hW⟩
     have hO'16:=hW
     obtain ⟨c'9,hp⟩:=Zj hp
     refine zy (hO'16.appV (bytes:=24) 0 hO'16.fr rfl (hO'16.sl 4 rfl) rfl rfl (by simp only [List.all_cons,List.all_nil,Bool.and_true]; exact (hO'16.sl 3 rfl).oneV) (by rw [(hO'16.allLen 1 rfl:(vs'2).length = (l).length)]; exact c'9) (by decide)) ?_
     rintro v'13 k'13 ⟨f'7,hW⟩
     have hO'17:=hW
     have hO'18:=hO'17.absorb 1 3 rfl rfl (by decide)
     refine Zd v'13 rfl (Zb (Zac (Za (Zo ?_))))
     obtain ⟨c'10,hp⟩:=Zj hp
     refine Ze (zp (a:=x1) (b:=1) q'3_22 rfl c'10) (Zd (.n (x1 + 1)) rfl (Zb ?_))
     cases hp
     exact (Or.inl ⟨(l++[part1],met2,x1 + 1),rfl,rfl,v'13,vs'2++[v'9],q'3_0,rfl,q'3_6,q'3_21,rfl,(hO'18.pick [0,1,2] rfl (by decide))⟩)
   ·refine zN (t:=(decide (x1 < (cells.length:Int)))) rfl b'2 ?_
    refine ZaT (zR ?_)
    cases hp
    refine (Or.inr ⟨l,rfl,(fun h=>nomatch h),(fun he=>?_)⟩)
    subst he; exact ⟨rfl,v'3,vs'2,q'2_5,(hO'8.pick [0,1] rfl (by decide))⟩
  intro e'1 q'1 k'3 hJ'1
  obtain ⟨l1,rfl⟩:∃ x,x = o'1:=⟨_,rfl⟩
  obtain ⟨rfl,v'4,vs'3,q'1_5,hO'5⟩:=hJ'1
  refine Zaq (Za (Zk (Zo (Zd v'4 q'1_5 (Zd v'4 rfl (Zd (.n 0) rfl (Zb ?_)))))))
  refine Za (Za2 (zW (Zax (n:=2) (v:=v'4) rfl (Zax (n:=3) (v:=.n 0) rfl zx)) ?_))
  cases hp
  exact ⟨v'4,vs'3,rfl,(hO'5.pick [0,1] rfl (by decide))⟩

theorem Zbt.ok {h:Hp} {cells:List Zc} {v_cells:V} (s_cells:Sl Zf h v_cells cells) {r:Bool} (hp:Zbt cells = some r) :
  ∃ u k',Is G 32 [v_cells] h u k'∧V.b r = u∧Own (fun r=>r < h.n) h k' []:=by
 refine WC.is (ZaM Zd4 ?_)
 unfold Zbt at hp
 let B:Nat→Prop:=(fun r=>r < h.n)
 have hO:Own B h h []:=Own.start0 h
 refine Zk (Zo (Zd (.b false) rfl (Zb (Za (Zk (Zo (Zd v_cells rfl ?_)))))))
 obtain ⟨⟨x,x1⟩,hx'1,hp⟩:=Zt hp
 obtain ⟨u'1,k'1,ca'1,v'1,vs'1,rfl,hW'1⟩:=Zae.ok (h:=h)  (hO.rd0 s_cells.rd) hx'1
 refine Za3 (id:=29) (caps:=[]) rfl (Z3 (v:=v_cells) rfl zn) ca'1 ?_
 have hO'1:=hO.call hW'1 rfl
 refine Zd (.tu [v'1,.n x1]) rfl (Ze (ZaY (vs:=[v'1,.n x1]) (v:=v'1) rfl rfl) (Ze (ZaY (vs:=[v'1,.n x1]) (v:=.n x1) rfl rfl) (Zd v'1 rfl (Zd (.n x1) rfl (Zb (Za (Zk ?_)))))))
 refine Zo (Zd (.n x1) rfl (Ze (ZaW (a:=x1) (b:=0) rfl rfl) (Zd (.b (decide (x1 = 0))) rfl ?_)))
 refine Zad 4 (fun fr' k'=>k'1 = k'∧fr' 16 = .b ((decide (x1 = 0)) && (decide ((x.length:Int) = 1)))) ?_ ?_
 ·rcases bc (decide (x1 = 0)) with b'1 | b'1
  ·skip
   refine ZB rfl b'1 (Zd v'1 rfl (ZB rfl b'1 (Ze (Zg6 (n:=(x).length) (hO'1.sl 0 rfl) (hO'1.allLen 1 rfl:(vs'1).length = (x).length) rfl) (ZB rfl b'1 (Ze (ZaW (a:=(x.length:Int)) (b:=1) rfl rfl) (Ze (zg (t:=(decide (x1 = 0))) (v:=.b ((decide (x1 = 0)) && (decide ((x.length:Int) = 1)))) rfl b'1 (Eq.trans (b:=V.b (decide ((x.length:Int) = 1))) rfl (ZbS b'1))) (Zb ?_)))))))
   exact ⟨rfl,rfl⟩
  ·skip
   refine Z4 rfl b'1 (Z4 rfl b'1 (Z4 rfl b'1 (Ze (zc (t:=(decide (x1 = 0))) (v:=.b ((decide (x1 = 0)) && (decide ((x.length:Int) = 1)))) rfl b'1 (Eq.trans (b:=V.b false) rfl (Zbw b'1))) (Zb ?_))))
   exact ⟨rfl,rfl⟩
 rintro frg'1 _ ⟨rfl,g'1_16⟩
 refine Zd (.b ((decide (x1 = 0)) && (decide ((x.length:Int) = 1)))) g'1_16 (Zb (Za (Za2 (zW (Zax (n:=2) (v:=.b ((decide (x1 = 0)) && (decide ((x.length:Int) = 1)))) rfl zx) ?_))))
 cases hp
 exact ⟨rfl,(hO'1.pick [] rfl (by decide))⟩

theorem Za1.ok {h:Hp} {d:Zs} {cells:List Zc} {v_cells:V} (s_cells:Sl Zf h v_cells cells) {r:Bool} (hp:Za1 d cells = some r) :
  ∃ u k',Is G 220 [.ag (Zg.c d),v_cells] h u k'∧V.b r = u∧Own (fun r=>r < h.n) h k' []:=by
 refine WC.is (ZaM Zda ?_)
 unfold Za1 at hp
 let B:Nat→Prop:=(fun r=>r < h.n)
 have hO:Own B h h []:=Own.start0 h
 refine Zk (Zo (zy (hO.boxd (v:=.ag (Zg.c d)) (cs:=Zg.c d) hO.fr rfl rfl) ?_))
 rintro _ k'1 ⟨r'1,rfl,n'1,f'1,hW⟩
 have hO'1:=hW
 refine Zd (.b false) rfl (Zb (Za (Zk (ZfI ?_))))
 have hW:=hO'1.bump 28
 have fr'1:=Fresh.start k'1 28
 have nb'1:∀ {i:Nat},h.n≤k'1.n + i:=Nat.le_trans hO'1.n (Nat.le_add_right _ _)
 have hO'2:=hW
 refine zP (z6 (r:=r'1) (o:=0) (o':=0) rfl rfl) (zP (zi (cs:=(Zg.c d)) (v:=.n d.Cell) (hO'2.box 0 rfl) rfl rfl) (zP (ZcC (a:=d.Cell) (b:=0) rfl rfl) (Zbn (.b (decide (0≤d.Cell))) rfl ?_)))
 rcases Z2 hp with ⟨b'1,hp⟩ | ⟨b'1,hp⟩
 ·skip
  refine Zcf rfl b'1 (zP (z6 (r:=r'1) (o:=0) (o':=0) rfl rfl) (Zcf rfl b'1 (zP (zi (cs:=(Zg.c d)) (v:=.n d.Cell) (hO'2.box 0 rfl) rfl rfl) (Zcf rfl b'1 (Zbn v_cells rfl (Zcf rfl b'1 (zP (Zah (hO'2.rd0 s_cells.rd) rfl) ?_)))))))
  refine Zcf rfl b'1 (zP (zG (a:=d.Cell) (b:=(cells.length:Int)) rfl rfl) (zP (zg (t:=(decide (0≤d.Cell))) (v:=.b (decide (d.Cell < (cells.length:Int)))) rfl b'1 rfl) (Zbn (.b (decide (d.Cell < (cells.length:Int)))) rfl ?_)))
  rcases Z2 hp with ⟨b'2,hp⟩ | ⟨b'2,hp⟩
  ·skip
   refine Zcf rfl b'2 (zP (z6 (r:=r'1) (o:=0) (o':=1) rfl rfl) (Zcf rfl b'2 (zP (zi (cs:=(Zg.c d)) (v:=.n d.Dir) (hO'2.box 0 rfl) rfl rfl) (Zcf rfl b'2 ?_))))
   obtain ⟨x,hx'1,hp⟩:=Zt hp
   obtain ⟨u'1,k'3,ca'1,rfl,hW'1⟩:=Za0.ok (h:=(k'1.bump 28))   hx'1
   refine ZiJ (id:=90) (caps:=[]) rfl (Z3 (v:=.n d.Dir) rfl zn) ca'1 ?_
   have fr'2:=fr'1.call hW'1
   have hO'3:=hO'2.call hW'1 rfl
   refine zP (zg (t:=(decide (d.Cell < (cells.length:Int)))) (v:=.b x) rfl b'2 rfl) (Zbn (.b x) rfl ?_)
   rcases Z2 hp with ⟨b'3,hp⟩ | ⟨b'3,hp⟩
   ·skip
    refine Zcf rfl b'3 (Zbn v_cells rfl (Zcf rfl b'3 (zP (z6 (r:=r'1) (o:=0) (o':=0) rfl rfl) (Zcf rfl b'3 (zP (zi (cs:=(Zg.c d)) (v:=.n d.Cell) (hO'3.box 0 rfl) rfl rfl) (Zcf rfl b'3 (zP (z6 (r:=r'1) (o:=0) (o':=1) rfl rfl) ?_)))))))
    refine Zcf rfl b'3 (zP (zi (cs:=(Zg.c d)) (v:=.n d.Dir) (hO'3.box 0 rfl) rfl rfl) (Zcf rfl b'3 ?_))
    obtain ⟨c'1,hp⟩:=Zj hp
    refine zP (zz (E:=Zf) (z:=d.Cell) (hO'3.rd0 s_cells.rd) rfl rfl c'1) (Zcf rfl b'3 (zP (ZaE (off':=0) (off2:=0) (hO'3.rd0 s_cells.rd) (Zp c'1) rfl rfl) (Zcf rfl b'3 ?_)))
    obtain ⟨c'2,hp⟩:=Zj hp
    refine zP (ZaU (off:=0) (off2:=(0 + (d.Dir:Int).toNat * 1)) (z:=d.Dir) (hO'3.rd0 s_cells.rd) (Zp c'1) rfl rfl c'2 rfl) (Zcf rfl b'3 (zP (zS (w:=.n (((gi cells (d.Cell:Int).toNat).Next).get d.Dir)) (hO'3.rd0 s_cells.rd) rfl (Zp c'1) (Zal c'2)) (Zcf rfl b'3 (zP (ZcC (a:=(((gi cells (d.Cell:Int).toNat).Next).get d.Dir)) (b:=0) rfl rfl) (zP (zg (t:=x) (v:=.b (decide (0≤(((gi cells (d.Cell:Int).toNat).Next).get d.Dir)))) rfl b'3 rfl) (Zbn (.b (decide (0≤(((gi cells (d.Cell:Int).toNat).Next).get d.Dir)))) rfl (Zc1 ?_)))))))
    refine And.intro ?_ ?_
    ·intro q hq
     simp only [List.mem_cons,List.not_mem_nil,or_false] at hq
     rcases hq with rfl
     ·refine Zay ?_ ?_
      ·exact (fun h=>nomatch h)
      ·exact (fun h=>nomatch h)
    refine Za (Za2 (zW (Zax (n:=4) (v:=.b (decide (0≤(((gi cells (d.Cell:Int).toNat).Next).get d.Dir)))) rfl zx) ?_))
    cases hp
    exact ⟨rfl,(hO'3.pick [] rfl (by decide))⟩
   ·skip
    refine Zav rfl b'3 (Zav rfl b'3 (Zav rfl b'3 (Zav rfl b'3 (Zav rfl b'3 (Zav rfl b'3 (Zav rfl b'3 (Zav rfl b'3 ?_)))))))
    refine Zav rfl b'3 (Zav rfl b'3 (zP (zc (t:=x) (v:=.b false) rfl b'3 rfl) (Zbn (.b false) rfl (Zc1 ?_))))
    refine And.intro ?_ ?_
    ·intro q hq
     simp only [List.mem_cons,List.not_mem_nil,or_false] at hq
     rcases hq with rfl
     ·exact Zie
    refine Za (Za2 (zW (Zax (n:=4) (v:=.b false) rfl zx) ?_))
    cases hp
    exact ⟨rfl,(hO'3.pick [] rfl (by decide))⟩
  ·skip
   refine Zav rfl b'2 (Zav rfl b'2 (Zav rfl b'2 (zP (zc (t:=(decide (d.Cell < (cells.length:Int)))) (v:=.b false) rfl b'2 rfl) (Zbn (.b false) rfl (Zav rfl rfl (Zav rfl rfl (Zav rfl rfl ?_)))))))
   refine Zav rfl rfl (Zav rfl rfl (Zav rfl rfl (Zav rfl rfl (Zav rfl rfl (Zav rfl rfl (Zav rfl rfl (zP (zc (t:=false) (v:=.b false) rfl rfl rfl) ?_)))))))
   refine Zbn (.b false) rfl (Zc1 ?_)
   refine And.intro ?_ ?_
   ·intro q hq
    simp only [List.mem_cons,List.not_mem_nil,or_false] at hq
    rcases hq with rfl
    ·exact Zie
   refine Za (Za2 (zW (Zax (n:=4) (v:=.b false) rfl zx) ?_))
   cases hp
   exact ⟨rfl,(hO'2.pick [] rfl (by decide))⟩
 ·skip
  refine Zav rfl b'1 (Zav rfl b'1 (Zav rfl b'1 (Zav rfl b'1 (Zav rfl b'1 (zP (zc (t:=(decide (0≤d.Cell))) (v:=.b false) rfl b'1 rfl) (Zbn (.b false) rfl (Zav rfl rfl ?_)))))))
  refine Zav rfl rfl (Zav rfl rfl (zP (zc (t:=false) (v:=.b false) rfl rfl rfl) (Zbn (.b false) rfl (Zav rfl rfl (Zav rfl rfl (Zav rfl rfl (Zav rfl rfl ?_)))))))
  refine Zav rfl rfl (Zav rfl rfl (Zav rfl rfl (Zav rfl rfl (Zav rfl rfl (Zav rfl rfl (zP (zc (t:=false) (v:=.b false) rfl rfl rfl) (Zbn (.b false) rfl ?_)))))))
  refine Zc1 ?_
  refine And.intro ?_ ?_
  ·intro q hq
   simp only [List.mem_cons,List.not_mem_nil,or_false] at hq
   rcases hq with rfl
   ·exact Zie
  refine Za (Za2 (zW (Zax (n:=4) (v:=.b false) rfl zx) ?_))
  cases hp
  exact ⟨rfl,(hO'2.pick [] rfl (by decide))⟩

theorem zA.ok {h:Hp} {d:Zs} {cells:List Zc} {v_cells:V} (s_cells:Sl Zf h v_cells cells) {r:Zs} (hp:zA d cells = some r) :
  ∃ u k',Is G 221 [.ag (Zg.c d),v_cells] h u k'∧V.ag (Zg.c r) = u∧Own (fun r=>r < h.n) h k' []:=by
 refine WC.is (ZaM Zcn ?_)
 unfold zA at hp
 let B:Nat→Prop:=(fun r=>r < h.n)
 have hO:Own B h h []:=Own.start0 h
 refine Zk (Zo (zy (hO.boxd (v:=.ag (Zg.c d)) (cs:=Zg.c d) hO.fr rfl rfl) ?_))
 rintro _ k'1 ⟨r'1,rfl,n'1,f'1,hW⟩
 have hO'1:=hW
 refine zy (hO'1.alloc (cs:=Zg.c (⟨0,0⟩:Zs)) hO'1.fr) ?_
 rintro _ k'2 ⟨r'2,rfl,n'2,f'2,hW⟩
 have hO'2:=hW
 refine Zb (Za (Zk (ZfJ ?_)))
 have hW:=hO'2.bump 10
 have hO'3:=hW
 refine Zao v_cells rfl (zb rfl (z6 (r:=r'1) (o:=0) (o':=0) rfl rfl) (zb rfl (zi (cs:=(Zg.c d)) (v:=.n d.Cell) (hO'3.box 0 rfl) rfl rfl) (zb rfl (z6 (r:=r'1) (o:=0) (o':=1) rfl rfl) (zb rfl (zi (cs:=(Zg.c d)) (v:=.n d.Dir) (hO'3.box 0 rfl) rfl rfl) ?_))))
 obtain ⟨c'1,hp⟩:=Zj hp
 refine zb rfl (zz (E:=Zf) (z:=d.Cell) (hO'3.rd0 s_cells.rd) rfl rfl c'1) (zb rfl (ZaE (off':=0) (off2:=0) (hO'3.rd0 s_cells.rd) (Zp c'1) rfl rfl) ?_)
 obtain ⟨c'2,hp⟩:=Zj hp
 refine zb rfl (ZaU (off:=0) (off2:=(0 + (d.Dir:Int).toNat * 1)) (z:=d.Dir) (hO'3.rd0 s_cells.rd) (Zp c'1) rfl rfl c'2 rfl) (zb rfl (zS (w:=.n (((gi cells (d.Cell:Int).toNat).Next).get d.Dir)) (hO'3.rd0 s_cells.rd) rfl (Zp c'1) (Zal c'2)) (Zao (.n (((gi cells (d.Cell:Int).toNat).Next).get d.Dir)) rfl (Zak (Za (Zk (Zk (Zo ?_)))))))
 refine Ze (Zcl (cs:=Zbk.c (⟨1,0,(-1),2⟩:A4 Int)) (by rw [(zq (v:=.n 1) rfl (zq (v:=.n 0) rfl (zq (v:=.n (-1)) rfl (zq (v:=.n 2) rfl Za5))))]; rfl)) (Zd (.n 0) rfl (Zb (Za (Zaa ?_))))
 obtain ⟨o'1,ho'1,hp⟩:=Zt hp
 refine W.mono (Q:=fun e fr k=>match (generalizing:=false) o'1 with
   | .inl _=>e = (.exit 0)∧fr 2 = .p r'1 0∧fr 4 = .p r'2 0∧Own B h k [zQ r'1 (Zg.c d),zQ r'2 (Zg.c (⟨0,0⟩:Zs))]
   | .inr x1=>e = .ret∧fr 4 = .p r'2 0∧Own B h k [zQ r'2 (Zg.c x1)]) ?_ ?_
 ·clear hp
  refine z9 (fun st fr k=>match st with | x=>fr 1 = v_cells∧fr 2 = .p r'1 0∧fr 4 = .p r'2 0∧fr 5 = .n (((gi cells (d.Cell:Int).toNat).Next).get d.Dir)∧fr 18 = .ag (Zbk.c (⟨1,0,(-1),2⟩:A4 Int))∧fr 19 = .n x∧Own B h k [zQ r'1 (Zg.c d),zQ r'2 (Zg.c (⟨0,0⟩:Zs))]) ho'1 (s:=0) ⟨rfl,rfl,rfl,rfl,rfl,rfl,(hO'3.pick [0,1] rfl (by decide))⟩ ?_
  rintro x q'2 k'5 ⟨q'2_1,q'2_2,q'2_4,q'2_5,q'2_18,q'2_19,hO'5⟩ o'2 hp
  dsimp only [zA.s0] at hp
  refine Zk (Zo (Ze (zG (a:=x) (b:=4) q'2_19 rfl) (Zb (Za (Zk ?_)))))
  rcases Z2 hp with ⟨b'1,hp⟩ | ⟨b'1,hp⟩
  ·refine zO (t:=(decide (x < 4))) rfl b'1 ?_
   refine zU (Za (Zk (Zaa (Zk (Zo ?_)))))
   obtain ⟨c'3,hp⟩:=Zj hp
   refine Ze (ZjR (cs:=Zbk.c (⟨1,0,(-1),2⟩:A4 Int)) (z:=x) (v:=.n ((⟨1,0,(-1),2⟩:A4 Int).get x)) q'2_18 q'2_19 c'3 (Zem c'3)) (Zd (.n ((⟨1,0,(-1),2⟩:A4 Int).get x)) rfl (Zb (Za (Zk (Zo (Zd (.n (((gi cells (d.Cell:Int).toNat).Next).get d.Dir)) q'2_5 (Ze (z6 (r:=r'1) (o:=0) (o':=1) q'2_2 rfl) ?_)))))))
   refine Ze (zi (cs:=(Zg.c d)) (v:=.n d.Dir) (hO'5.box 0 rfl) rfl rfl) (Zd (.n ((⟨1,0,(-1),2⟩:A4 Int).get x)) rfl ?_)
   obtain ⟨x2,hx'1,hp⟩:=Zt hp
   obtain ⟨u'1,k'6,ca'1,rfl,hW'1⟩:=ZaF.ok (h:=k'5)   hx'1
   refine Za3 (id:=77) (caps:=[]) rfl (Z3 (v:=.n d.Dir) rfl (Z3 (v:=.n ((⟨1,0,(-1),2⟩:A4 Int).get x)) rfl zn)) ca'1 ?_
   have hO'6:=hO'5.call hW'1 rfl
   refine Ze (Zcl (cs:=Zg.c (⟨((gi cells (d.Cell:Int).toNat).Next).get d.Dir,x2⟩:Zs)) (by rw [(zq (v:=.n (((gi cells (d.Cell:Int).toNat).Next).get d.Dir)) rfl (zq (v:=.n x2) rfl Za5))]; rfl)) (zy (hO'6.alloc (cs:=Zg.c (⟨0,0⟩:Zs)) hO'6.fr) ?_)
   rintro _ k'7 ⟨r'3,rfl,n'3,f'3,hW⟩
   have hO'7:=hW
   refine zy (hO'7.stb (ws:=Zg.c (⟨((gi cells (d.Cell:Int).toNat).Next).get d.Dir,x2⟩:Zs)) (cs':=Zg.c (⟨((gi cells (d.Cell:Int).toNat).Next).get d.Dir,x2⟩:Zs)) (v:=.ag (Zg.c (⟨((gi cells (d.Cell:Int).toNat).Next).get d.Dir,x2⟩:Zs))) 2 rfl rfl rfl rfl ⟨rfl,Nat.le_of_ble_eq_true rfl,rfl⟩ rfl) ?_
   rintro _ k'8 ⟨rfl,f'4,m'1,hW⟩
   have hO'8:=hW
   refine Zb (Za (Zk (Zo (Ze (Zaz (cs:=(Zg.c (⟨((gi cells (d.Cell:Int).toNat).Next).get d.Dir,x2⟩:Zs))) (ws:=Zg.c (⟨((gi cells (d.Cell:Int).toNat).Next).get d.Dir,x2⟩:Zs)) (hO'8.box 2 rfl) rfl rfl) (Zd v_cells q'2_1 ?_)))))
   obtain ⟨x3,hx'2,hp⟩:=Zt hp
   obtain ⟨u'2,k'9,ca'2,rfl,hW'2⟩:=Za1.ok (h:=k'8)  (hO'8.rd0 s_cells.rd) hx'2
   refine Za3 (id:=220) (caps:=[]) rfl (Z3 (v:=.ag (Zg.c (⟨((gi cells (d.Cell:Int).toNat).Next).get d.Dir,x2⟩:Zs))) rfl (Z3 (v:=v_cells) rfl zn)) ca'2 ?_
   have hO'9:=hO'8.call hW'2 rfl
   refine Zb (Za ?_)
   rcases Z2 hp with ⟨b'2,hp⟩ | ⟨b'2,hp⟩
   ·refine zO (t:=x3) rfl b'2 ?_
    refine Zk (Zo (Ze (Zaz (cs:=(Zg.c (⟨((gi cells (d.Cell:Int).toNat).Next).get d.Dir,x2⟩:Zs))) (ws:=Zg.c (⟨((gi cells (d.Cell:Int).toNat).Next).get d.Dir,x2⟩:Zs)) (hO'9.box 2 rfl) rfl rfl) (zy (hO'9.stb (ws:=Zg.c (⟨((gi cells (d.Cell:Int).toNat).Next).get d.Dir,x2⟩:Zs)) (cs':=Zg.c (⟨((gi cells (d.Cell:Int).toNat).Next).get d.Dir,x2⟩:Zs)) (v:=.ag (Zg.c (⟨((gi cells (d.Cell:Int).toNat).Next).get d.Dir,x2⟩:Zs))) 1 rfl q'2_4 rfl rfl ⟨rfl,Nat.le_of_ble_eq_true rfl,rfl⟩ rfl) ?_)))
    rintro _ k'10 ⟨rfl,f'5,m'2,hW⟩
    have hO'10:=hW
    refine Zb (Za (Za2 (Zbh (Zaf ?_))))
    cases hp
    refine (Or.inr ⟨(.inr (⟨((gi cells (d.Cell:Int).toNat).Next).get d.Dir,x2⟩:Zs)),rfl,(fun h=>nomatch h),(fun he=>?_)⟩)
    subst he; exact ⟨rfl,q'2_4,(hO'10.pick [1] rfl (by decide))⟩
   ·refine zN (t:=x3) rfl b'2 ?_
    refine zU (Zac (Za (Zo ?_)))
    obtain ⟨c'4,hp⟩:=Zj hp
    refine Ze (zp (a:=x) (b:=1) q'2_19 rfl c'4) (Zd (.n (x + 1)) rfl (Zb ?_))
    cases hp
    exact (Or.inl ⟨x + 1,rfl,rfl,q'2_1,q'2_2,q'2_4,q'2_5,q'2_18,rfl,(hO'9.pick [0,1] rfl (by decide))⟩)
  ·refine zN (t:=(decide (x < 4))) rfl b'1 ?_
   refine ZaT (zR ?_)
   cases hp
   refine (Or.inr ⟨.inl (),rfl,(fun h=>nomatch h),(fun he=>?_)⟩)
   subst he; exact ⟨rfl,q'2_2,q'2_4,(hO'5.pick [0,1] rfl (by decide))⟩
 intro e'1 q'1 k'4 hJ'1
 rcases o'1 with _ | x1
 ·obtain ⟨rfl,q'1_2,q'1_4,hO'4⟩:=hJ'1
  refine Zaq (Za (Zk (Zo (Ze (Zaz (cs:=(Zg.c d)) (ws:=Zg.c d) (hO'4.box 0 rfl) q'1_2 rfl) (zy (hO'4.stb (ws:=Zg.c d) (cs':=Zg.c d) (v:=.ag (Zg.c d)) 1 rfl q'1_4 rfl rfl ⟨rfl,Nat.le_of_ble_eq_true rfl,rfl⟩ rfl) ?_)))))
  rintro _ k'11 ⟨rfl,f'6,m'3,hW⟩
  have hO'11:=hW
  refine Zb (Za (Za2 (zW (ZgP (n:=4) (v:=.ag (Zg.c d)) (r:=r'2) q'1_4 (hO'11.box 1 rfl) rfl zx) ?_)))
  cases hp
  exact ⟨rfl,(hO'11.pick [] rfl (by decide))⟩
 ·obtain ⟨rfl,q'1_4,hO'4⟩:=hJ'1
  refine Zbh (Zaf (zW (ZgP (n:=4) (v:=.ag (Zg.c x1)) (r:=r'2) q'1_4 (hO'4.box 0 rfl) rfl zx) ?_))
  cases hp
  exact ⟨rfl,(hO'4.pick [] rfl (by decide))⟩

end Mu
