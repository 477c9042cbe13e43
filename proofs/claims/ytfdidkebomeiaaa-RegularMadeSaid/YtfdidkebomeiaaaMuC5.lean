/- The code comes to what was worked out. -/
import Derived.Test.YtfdidkebomeiaaaMuDf
import Derived.Test.YtfdidkebomeiaaaMuPa
import Derived.Test.YtfdidkebomeiaaaMuC4
set_option linter.unusedVariables false
set_option linter.unnecessarySimpa false
set_option linter.unusedSimpArgs false
set_option maxHeartbeats 2000000
set_option maxRecDepth 10000
namespace Mu
open Go (IntKind BinOp UnOp)
theorem ZJ.ok {h:Hp} {z:Zaj} {y:Zbf} {picks:List Bool} {v_z_At:V} {v_z_Bits:V} {v_z_Own:V} {v_y_Boxes:V} {v_y_Edges:V} {v_y_Bends:V} {v_picks:V} (s_z_At:Sl Zhz h v_z_At z.At) (s_z_Bits:Sl Zhz h v_z_Bits z.Bits) (s_z_Own:Sl ZkV h v_z_Own z.Own) (s_y_Boxes:Sl e_bool h v_y_Boxes y.Boxes) (s_y_Edges:Sl Zge h v_y_Edges y.Edges) (s_y_Bends:Sl Zhz h v_y_Bends y.Bends) (s_picks:Sl e_bool h v_picks picks) {r:Bool} (hp:ZJ z y picks=some r) :
  ∃ u k',Is G 248 [.ag [v_z_At,v_z_Bits,v_z_Own],.ag [v_y_Boxes,v_y_Edges,v_y_Bends],v_picks] h u k'∧V.b r=u∧Own (fun r=>r < h.n) h k' []:=by
 refine WC.is (ZaP ZcV ?_)
 unfold ZJ at hp
 let B:Nat→Prop:=(fun r=>r < h.n)
 have hO:Own B h h []:=Own.start0 h
 refine Zk (zw (hO.boxd (cs:=[v_z_At,v_z_Bits,v_z_Own]) hO.fr rfl rfl) ?_)
 rintro _ cA ⟨da,rfl,cV,cn,au⟩
 refine zw (au.boxd (cs:=[v_y_Boxes,v_y_Edges,v_y_Bends]) au.fr rfl rfl) ?_
 rintro _ b0 ⟨db,rfl,cW,co,D⟩
 refine Zb (.b false) rfl (Ze (Zk (Zc (Zbu (D.box 0 rfl) rfl rfl) ?_)))
 obtain ⟨⟨x,x1⟩,⟨de,b2,a9,R,aT,rfl,bG⟩,hp⟩:=bdk hp fun _=>ZT.ok (h:=b0)  (D.rd0 s_z_At.rd) (D.rd0 s_z_Bits.rd) (D.rd0 s_z_Own.rd)
 refine ZaK rfl rfl a9 ?_
 have E:=D.call bG rfl
 refine Zb (.tu [R,aT]) rfl (Zc (ZbF rfl rfl) (Zc (ZbF rfl rfl) (Zb R rfl (Zb aT rfl (Ze (ZB (ZB ?_)))))))
 refine zD (Zc (Zbu (E.box 1 rfl) rfl rfl) ?_)
 obtain ⟨x2,⟨dl,cP,bh,ci,cj,rfl,bN⟩,hp⟩:=bdk hp fun _=>zJ.ok (h:=b2)  (E.rd0 s_y_Boxes.rd) (E.rd0 s_y_Edges.rd) (E.rd0 s_y_Bends.rd)
 refine ZaK rfl rfl bh ?_
 have aD:=E.call bN rfl
 refine zw (aD.alloc (cs:=[.sn,.sn]) aD.fr) ?_
 rintro _ cQ ⟨ch,rfl,cX,cp,ae⟩
 refine zw (ae.stb (cs':=[ci,cj]) 6 rfl rfl rfl rfl ⟨rfl,Nat.le_of_ble_eq_true rfl,(all_cons (ae.sl 4 rfl).oneV (all_cons (ae.sl 5 rfl).oneV all_nil))⟩ rfl) ?_
 rintro _ b3 ⟨rfl,cq,cS,L⟩
 refine Ze (Zk (Zc (Zbu (L.box 6 rfl) rfl rfl) ?_))
 obtain ⟨x3,⟨dm,aG,bi,rfl,bO⟩,hp⟩:=bdk hp fun _=>zu.ok (h:=b3)  (L.sl 4 rfl) (L.sl 5 rfl)
 refine ZaK rfl rfl bi ?_
 have A:=L.call bO rfl
 refine Zc (Zb0 rfl rfl) (Zb (.b (decide (x3=0))) rfl (Zai 5 (fun f k=>aG=k∧f 38=.b ((decide (x3=0)) && (decide ((picks.length:Int).tmod 2=0)))∧f 2=v_picks∧f 7=R∧f 9=.p ch 0) ?_ ?_))
 ·rcases bc (decide (x3=0)) with j | j
  ·refine Zu rfl j (Zb v_picks rfl (Zu rfl j (Zc (Zak (A.rd0 s_picks.rd) rfl) (Zu rfl j (Zc (ZcL rfl rfl (by decide)) (Zu rfl j (Zc (Zb0 rfl rfl) (Zc (ZcY rfl j rfl) ?_))))))))
   refine Zh ?_
   exact ⟨rfl,rfl,rfl,rfl,rfl⟩
  ·refine Zl rfl j (Zl rfl j (Zl rfl j (Zl rfl j (Zc (ZcX (w:=(decide (x3=0)) && (decide ((picks.length:Int).tmod 2=0))) rfl j rfl) (Zh ?_)))))
   exact ⟨rfl,rfl,rfl,rfl,rfl⟩
 rintro cw _ ⟨rfl,bp,an,bq,br⟩
 refine Ze (Zg4 hp (fun l e fr k=>e=.normal∧∃ i,fr 2=v_picks∧fr 7=i∧Own B h k [eSl Zd i l]) (fun _ hp=>?_) ?_)
 ·refine zC hp bp (fun aY hp=>?_) (fun aY hp=>?_)
  ·refine zD (Zc (Zbu (A.box 6 rfl) br rfl) ?_)
   obtain ⟨x4,⟨dn,cR,bj,S,ck,cl,cm,dx,rfl,bP⟩,hp⟩:=bdk hp fun _=>zj.ok (h:=aG)  (A.sl 4 rfl) (A.sl 5 rfl)
   refine ZaK rfl rfl bj ?_
   have bF:=A.call bP rfl
   refine Zc (ZnK (cs:=[S,ck,cl,cm]) (v:=S) rfl rfl) (Zb S rfl (Zh ?_))
   cases hp
   exact ⟨rfl,S,an,rfl,(bF.pk [7])⟩
  ·refine Zc1 ?_
   cases hp
   exact ⟨rfl,R,an,bq,(A.pk [2])⟩
 rintro l hp _ c3 aH ⟨rfl,i,b4,M,F⟩
 refine Zo (ZB (Zk (Zb _ M (Zc (Zak (F.sl 0 rfl) rfl) (Zc (ZdC rfl rfl) (Ze (zC hp rfl (fun aZ hp=>?_) (fun aZ hp=>?_))))))))
 ·refine Zk ?_
  obtain ⟨x5,⟨dp,cB,bk,rfl,bQ⟩,hp⟩:=bdk hp fun _=>Zbm.ok (h:=aH)  
  refine ZaK rfl ZhV bk ?_
  have bx:=F.call bQ rfl
  refine Zb (.b x5) rfl (Ze (Zav (zE (z8 (Zag rfl ZQ) ?_))))
  cases hp
  exact ⟨rfl,(bx.pk [])⟩
 ·refine Zat (Zk (Zb _ M (Zb _ b4 ?_)))
  obtain ⟨⟨x6,x7,x8⟩,⟨dq,bW,bl,a,rfl,bR⟩,hp⟩:=bdk hp fun _=>ZaD.ok (h:=aH)  (F.sl 0 rfl) (F.rd0 s_picks.rd)
  refine ZaK rfl rfl bl ?_
  have bz:=F.call bR rfl
  refine Zb (.tu [a,.n x7,.n x8]) rfl (Zc (ZbF rfl rfl) (Zc (ZbF rfl rfl) (Zc (ZbF rfl rfl) (Zb a rfl (Zb (.n x7) rfl (Zb (.n x8) rfl (Ze ?_)))))))
  refine ZB (Zk ?_)
  obtain ⟨x9,⟨dr,af,bm,rfl,bS⟩,hp⟩:=bdk hp fun _=>Zbm.ok (h:=bW)  
  refine ZaK rfl ZhV bm ?_
  have Y:=bz.call bS rfl
  refine Zc (ZcR rfl) (Zb (.b (!x9)) rfl (Zai 3 (fun f k=>af=k∧f 58=.b ((!x9) || (!(decide (x8=0))))∧f 10=a∧f 11=.n x7∧f 7=i) ?_ ?_))
  ·rcases bc (!x9) with s | s
   ·refine Zl rfl s (Zl rfl s (Zc (Zcs (w:=(!x9) || (!(decide (x8=0)))) rfl s rfl) (Zh ?_)))
    exact ⟨rfl,rfl,rfl,rfl,M⟩
   ·refine Zu rfl s (Zb (.n x8) rfl (Zu rfl s (Zc (Zc2 rfl rfl) (Zc (Zct rfl s rfl) (Zh ?_)))))
    exact ⟨rfl,rfl,rfl,rfl,M⟩
  rintro cx _ ⟨rfl,bs,K,ao,U⟩
  refine Ze (zC hp bs (fun a0 hp=>?_) (fun a0 hp=>?_))
  ·refine Zk ?_
   obtain ⟨x10,⟨ds,cC,bn,rfl,bT⟩,hp⟩:=bdk hp fun _=>Zbm.ok (h:=af)  
   refine ZaK rfl ZhV bn ?_
   have bA:=Y.call bT rfl
   refine Zb (.b x10) rfl (Ze (Zav (zE (z8 (Zag rfl ZQ) ?_))))
   cases hp
   exact ⟨rfl,(bA.pk [])⟩
  ·refine Zat (ZB (Zk (Zb _ K ?_)))
   obtain ⟨⟨x11,x12⟩,⟨dt,aE,bo,rfl,bU⟩,hp⟩:=bdk hp fun _=>ZaG.ok (h:=af)  (Y.sl 1 rfl)
   refine ZaK rfl rfl bo ?_
   have C:=Y.call bU rfl
   refine Zb (.tu [.n x11,.n x12]) rfl (Zc (ZbF rfl rfl) (Zc (ZbF rfl rfl) (Zb (.n x11) rfl (Zb (.n x12) rfl (Ze (Zk ?_))))))
   refine Zb (.n x12) rfl (Zc (Zc2 rfl rfl) (Zb (.b (!(decide (x12=0)))) rfl (Zai 6 (fun f k=>aE=k∧f 73=.b ((!(decide (x12=0))) || (!(decide ((x6.length:Int)=(l.length:Int)))))∧f 10=a∧f 11=.n x7∧f 7=i) ?_ ?_)))
   ·rcases bc (!(decide (x12=0))) with g | g
    ·refine Zl rfl g (Zl rfl g (Zl rfl g (Zl rfl g (Zl rfl g (Zc (Zcs (w:=(!(decide (x12=0))) || (!(decide ((x6.length:Int)=(l.length:Int))))) rfl g rfl) (Zh ?_))))))
     exact ⟨rfl,rfl,K,ao,U⟩
    ·refine Zu rfl g (Zb _ K (Zu rfl g (Zc (Zak (C.sl 1 rfl) rfl) (Zu rfl g (Zb _ U (Zu rfl g (Zc (Zak (C.sl 0 rfl) rfl) (Zu rfl g ?_))))))))
     refine Zc (Zc2 rfl rfl) (Zc (Zct rfl g rfl) (Zh ?_))
     exact ⟨rfl,rfl,K,ao,U⟩
   rintro cy _ ⟨rfl,bt,W,ap,X⟩
   refine Zb _ bt ?_
   obtain ⟨t,bV,hp⟩:=ZaZ hp
   refine Zai 7 (fun f k=>Own B h k [eSl Zd i l,eSl Zd a x6]∧f 81=.b t∧f 10=a∧f 11=.n x7∧f 7=i) ?_ ?_
   ·clear hp; rcases Zbn bV with ⟨d,hp⟩ | ⟨d,hp⟩
    ·refine Zl rfl d (Zl rfl d (Zl rfl d (Zl rfl d (Zl rfl d (Zl rfl d (Zc (ZaS (v:=.b t) rfl d (Eq.trans (b:=V.b true) rfl (congrArg V.b (Option.some.inj hp)))) (Zh ?_)))))))
     exact ⟨C.pick [0,1] rfl (by decide),rfl,W,ap,X⟩
    ·refine Zu rfl d (Zb _ W (Zu rfl d ?_))
     obtain ⟨x13,⟨df,bX,ba,du,rfl,bH⟩,hp⟩:=bdk hp fun _=>zQ.ok (h:=aE)  (C.sl 1 rfl)
     refine ZaK rfl rfl ba ?_
     have av:=C.call bH rfl
     refine Zu rfl d (Zb _ X (Zu rfl d ?_))
     obtain ⟨x14,⟨dg,bY,bb,dv,rfl,bI⟩,hp⟩:=bdk hp fun _=>zQ.ok (h:=bX)  (av.sl 0 rfl)
     refine ZaK rfl rfl bb ?_
     have aa:=av.call bI rfl
     refine Zu rfl d ?_
     obtain ⟨x15,⟨dh,cD,bd,rfl,bJ⟩,hp⟩:=bdk hp fun _=>Za6.ok (h:=bY)  (aa.sl 2 rfl) (aa.sl 3 rfl)
     refine ZaK rfl rfl bd ?_
     have bB:=aa.call bJ rfl
     refine Zu rfl d (Zc (ZcR rfl) (Zc (ZaL (v:=.b t) rfl d (Eq.trans (b:=V.b (!x15)) rfl (congrArg V.b (Option.some.inj hp)))) (Zh ?_)))
     exact ⟨bB.pick [0,1] rfl (by decide),rfl,W,ap,X⟩
   rintro cz cE ⟨ab,bw,aq,bu,bv⟩
   refine Ze (zC hp bw (fun a1 hp=>?_) (fun a1 hp=>?_))
   ·refine Zk (Zb (.b false) rfl (Ze (Zav (zE (z8 (Zag rfl ZQ) ?_)))))
    cases hp
    exact ⟨rfl,(ab.pk [])⟩
   ·refine Zat (Zk (Zb (.n 0) rfl (Ze (ZB (ZB ?_)))))
    refine zD (Zb _ aq (Zc (Zak (ab.sl 1 rfl) rfl) (Zb (.n 0) rfl (Ze (zX (Zb7 hp (fun | (more,x16),fr,k=>fr 7=i∧fr 10=a∧fr 11=.n x7∧fr 15=.n more∧fr 83=.n (x6.length:Int)∧fr 84=.n x16∧Own B h k [eSl Zd i l,eSl Zd a x6]) (fun more1 e fr k=>e=(.exit 0)∧fr 10=a∧fr 11=.n x7∧fr 15=.n more1∧Own B h k [eSl Zd a x6]) ⟨bv,aq,bu,rfl,rfl,rfl,(ab.pk [0,1])⟩ ?_ ?_))))))
    ·rintro ⟨more,x16⟩ c5 cF ⟨b7,aJ,aK,aL,aM,ah,ax⟩ c0 hp
     dsimp only [ZJ.s0] at hp
     refine Zk (Zc (zH ah aM) (Ze (ZB (zC hp rfl (fun a2 hp=>?_) (fun a2 hp=>?_)))))
     ·refine Zat (ZB (zX (Zk (Zb _ ah (Zb (.n x16) rfl (Zh ?_))))))
      refine Zo (Zk (Zb (.n 0) rfl (Ze (zX (Zb7 hp (fun | (more2,x17),fr,k=>fr 7=i∧fr 10=a∧fr 11=.n x7∧fr 15=.n more2∧fr 16=.n x16∧fr 83=.n (x6.length:Int)∧fr 84=.n x16∧fr 87=.n x17∧Own B h k [eSl Zd i l,eSl Zd a x6]) (fun more3 e fr k=>e=(.exit 2)∧fr 7=i∧fr 10=a∧fr 11=.n x7∧fr 15=.n more3∧fr 83=.n (x6.length:Int)∧fr 84=.n x16∧Own B h k [eSl Zd i l,eSl Zd a x6]) ⟨b7,aJ,aK,aL,rfl,aM,ah,rfl,(ax.pk [0,1])⟩ ?_ ?_)))))
      ·rintro ⟨more2,x17⟩ c7 cH ⟨P,N,ai,aj,O,ak,al,Q,ay⟩ c1 hp
       dsimp only [ZJ.s1] at hp
       refine Zk (Zc (zH Q rfl) (Ze (ZB (zC hp rfl (fun aU hp=>?_) (fun aU hp=>?_)))))
       ·refine Zat (ZB (zX (Zk (Zb _ Q (Zb (.n x17) rfl (Zh ?_))))))
        refine Zo (ZB (Zhw ?_))
        have m:=ay.bump 15
        refine ZaV _ N (ZaV _ O (ZaV (.n x17) rfl (ckk hp fun H hp=>zt rfl (zi (m.sl 1 rfl) rfl rfl H) (zt rfl (Zbt (m.sl 1 rfl) (Zg H) rfl rfl) (ckk hp fun I hp=>zt rfl (Zbj (m.sl 1 rfl) (Zg H) rfl rfl I rfl) (zt rfl (zS (m.sl 1 rfl) rfl (Zg H) (zI I)) ?_))))))
        refine ZaV _ P (ZaV _ O (ZaV (.n x17) rfl (ckk hp fun J hp=>zt rfl (zi (m.sl 0 rfl) rfl rfl J) (zt rfl (Zbt (m.sl 0 rfl) (Zg J) rfl rfl) (zt rfl (Zbj (m.sl 0 rfl) (Zg J) rfl rfl I rfl) (zt rfl (zS (m.sl 0 rfl) rfl (Zg J) (zI I)) (zt rfl (Zc2 rfl rfl) ?_)))))))
        refine Zba (Zo (zC hp rfl (fun aV hp=>?_) (fun aV hp=>?_)))
        ·refine zD (Zb _ aj (ckk hp fun a4 hp=>Zc (zf rfl rfl a4) (Zb (.n (more2 + 1)) rfl (Zh (Zaa (Zo (zD ?_)))))))
         refine ckk hp fun a5 hp=>Zc (zf Q rfl a5) (Zb (.n (x17 + 1)) rfl (Zh ?_))
         cases hp
         exact ⟨rfl,P,N,ai,rfl,O,ak,al,rfl,(m.pk [0,1])⟩
        ·refine Zc1 (Zaa (Zo (zD (ckk hp fun a6 hp=>Zc (zf Q rfl a6) (Zb (.n (x17 + 1)) rfl (Zh ?_))))))
         cases hp
         exact ⟨rfl,P,N,ai,aj,O,ak,al,rfl,(m.pk [0,1])⟩
       ·refine Zbo (zK ?_)
        cases hp
        exact ⟨nofun,rfl,P,N,ai,aj,ak,al,(ay.pk [0,1])⟩
      rintro more3 hp _ c6 cG ⟨rfl,cb,b8,b9,ca,cc,cd,bC⟩
      refine Zaw (Zaa (Zo (zD (ckk hp fun a7 hp=>Zc (zf cd rfl a7) (Zb (.n (x16 + 1)) rfl (Zh ?_))))))
      cases hp
      exact ⟨rfl,cb,b8,b9,ca,cc,rfl,(bC.pk [0,1])⟩
     ·refine Zbo (zK ?_)
      cases hp
      exact ⟨nofun,rfl,aJ,aK,aL,(ax.pk [1])⟩
    rintro more1 hp _ c4 bZ ⟨rfl,aI,b5,b6,aw⟩
    refine Zaw (Zo (ZB (Zk (Zb _ aI ?_))))
    obtain ⟨x18,⟨di,cI,be,aS,q,rfl,bK⟩,hp⟩:=bdk hp fun _=>ZX.ok (h:=bZ)  (aw.sl 0 rfl)
    refine ZaK rfl rfl be ?_
    have ac:=aw.call bK rfl
    refine Zc (ZgP (n:=(x18).length) (ac.sl 1 rfl) (ac.allLen 2 rfl:(q).length=(x18).length) rfl) (Zb (.n 0) rfl (Ze (zX (Zb7 hp (fun x19 fr k=>fr 10=a∧fr 11=.n x7∧fr 15=.n more1∧fr 110=aS∧fr 111=.n (x18.length:Int)∧fr 112=.n x19∧Own B h k [eSl Zd a x6,eSl eV aS q,Zce ZA q x18]) (fun | .inl _,e,fr,k=>e=(.exit 4)∧fr 11=.n x7∧fr 15=.n more1∧Own B h k [] | .inr _,e,fr,k=>e=.ret∧fr 6=.b false∧Own B h k []) ⟨aI,b5,b6,rfl,rfl,rfl,(ac.pk [0,1,2])⟩ ?_ ?_))))
    ·rintro x19 c9 aF ⟨aN,aO,aR,aP,aQ,am,o⟩ c2 hp
     dsimp only [ZJ.s2] at hp
     refine Zk (Zc (zH am aQ) (Ze (ZB (zC hp rfl (fun aW hp=>?_) (fun aW hp=>?_)))))
     ·refine Zat (ZB (zX (Zk (ckk hp fun T hp=>Zc (zi (o.sl 1 rfl) aP am (by rw [(o.allLen 2 rfl:(q).length=(x18).length)]; exact T)) (Zc (zS (o.sl 1 rfl) rfl (by rw [(o.allLen 2 rfl:(q).length=(x18).length)]; exact Zg T) rfl) ?_)))))
      refine Zb ((gi q x19.toNat)) rfl (Ze (Zk (Zb _ aN (Zb ((gi q x19.toNat)) rfl ?_))))
      obtain ⟨x20,⟨dj,b1,bf,dw,rfl,bL⟩,hp⟩:=bdk hp fun _=>Za7.ok (h:=aF)  (o.sl 0 rfl) (o.inn 2 rfl (Zg T):Sl ZA aF (gi q x19.toNat) (gi x18 x19.toNat))
      refine ZaK rfl rfl bf ?_
      have az:=o.call bL rfl
      obtain ⟨⟨x21,x22,x23⟩,⟨dk,cK,bg,rfl,bM⟩,hp⟩:=bdk hp fun _=>zP.ok (h:=b1)  (az.sl 3 rfl)
      refine ZaK rfl rfl bg ?_
      have aA:=az.call bM rfl
      refine Zb (.tu [.ag (Zm.c x21),.ag (Zm.c x22),.b x23]) rfl (Zc (ZbF rfl rfl) (Zc (ZbF rfl rfl) (Zc (ZbF rfl rfl) (zw (aA.alloc (cs:=Zm.c (⟨0,0⟩:Zp)) aA.fr) ?_))))
      rintro _ cL ⟨dc,rfl,cY,cr,aB⟩
      refine zw (aB.alloc (cs:=Zm.c (⟨0,0⟩:Zp)) aB.fr) ?_
      rintro _ cM ⟨dd,rfl,cZ,ct,bD⟩
      refine zw (bD.stb (cs':=Zm.c x21) 4 rfl rfl rfl rfl ⟨rfl,Nat.le_of_ble_eq_true rfl,rfl⟩ rfl) ?_
      rintro _ cN ⟨rfl,cu,cT,bE⟩
      refine zw (bE.stb (cs':=Zm.c x22) 5 rfl rfl rfl rfl ⟨rfl,Nat.le_of_ble_eq_true rfl,rfl⟩ rfl) ?_
      rintro _ cO ⟨rfl,cv,cU,aC⟩
      refine Zb (.b x23) rfl (Ze (Zk (Zb (.b x23) rfl (Ze (zC hp rfl (fun aX hp=>?_) (fun aX hp=>?_))))))
      ·refine Zk (Zb (.b false) rfl (Ze (Zav (Zbw (zE ?_)))))
       cases hp
       exact ⟨nofun,rfl,rfl,(aC.pk [])⟩
      ·refine Zc1 (Zaa (Zo (zD (ckk hp fun a8 hp=>Zc (zf am rfl a8) (Zb (.n (x19 + 1)) rfl (Zh ?_))))))
       cases hp
       exact ⟨rfl,aN,aO,aR,aP,aQ,rfl,(aC.pk [0,1,2])⟩
     ·refine Zbo (zK ?_)
      cases hp
      exact ⟨nofun,rfl,aO,aR,(o.pk [])⟩
    rintro (_ | _) hp _ c8 cJ ar
    ·obtain ⟨rfl,ce,cf,ad⟩:=ar
     refine Zaw (Zo (Zk (Zb _ cf (Zb _ ce (ckk hp fun a3 hp=>Zc (Zhk rfl rfl a3) (Zc (Zb0 rfl rfl) ?_))))))
     refine Zb (.b (decide (more1=2 * x7))) rfl (Ze (Zav (z8 (Zag rfl ZQ) ?_)))
     cases hp
     exact ⟨rfl,(ad.pk [])⟩
    ·obtain ⟨rfl,cg,ad⟩:=ar
     refine Zbw (zE (z8 (Zag cg ZQ) ?_))
     cases hp
     exact ⟨rfl,(ad.pk [])⟩

end Mu
