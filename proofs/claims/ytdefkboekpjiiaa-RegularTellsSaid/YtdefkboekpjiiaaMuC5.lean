/- The code comes to what was worked out. -/
import Derived.Test.YtdefkboekpjiiaaMuDf
import Derived.Test.YtdefkboekpjiiaaMuPa
import Derived.Test.YtdefkboekpjiiaaMuC4
set_option linter.unusedVariables false
set_option linter.unnecessarySimpa false
set_option linter.unusedSimpArgs false
set_option maxHeartbeats 2000000
set_option maxRecDepth 10000
namespace Mu
open Go (IntKind BinOp UnOp)
theorem zw.ok {h:Hp} {s:Zac} {v_s_Boxes:V} {v_s_Edges:V} (s_s_Boxes:Sl e_bool h v_s_Boxes s.Boxes) (s_s_Edges:Sl z1 h v_s_Edges s.Edges) {r:Int} (hp:zw s=some r) :
  ∃ u k',Is G 174 [.ag [v_s_Boxes,v_s_Edges]] h u k'∧V.n r=u∧Own (fun r=>r < h.n) h k' []:=by
 refine WC.is (ZaP Zeb ?_)
 unfold zw at hp
 let B:Nat→Prop:=(fun r=>r < h.n)
 have hO:Own B h h []:=Own.start0 h
 refine Zi (zz (hO.boxd (cs:=[v_s_Boxes,v_s_Edges]) hO.fr rfl rfl) ?_)
 rintro _ aK ⟨a,rfl,a7,aS,D⟩
 refine Zb (.n 0) rfl (Ze (Zi (Zc (Zbz (D.box 0 rfl) rfl rfl) ?_)))
 obtain ⟨x,⟨bj,aL,av,rfl,aF⟩,hp⟩:=bdk hp fun _=>Zag.ok (h:=aK)  (D.rd0 s_s_Boxes.rd) (D.rd0 s_s_Edges.rd)
 refine ZaI rfl rfl av ?_
 have A:=D.call aF rfl
 refine Zb (.n x) rfl (Ze (ZB (Zi (Zb (.n x) rfl (Zc (Zc5 rfl rfl) (Zg ?_))))))
 refine Zo (zD hp rfl (fun aj hp=>?_) (fun aj hp=>?_))
 ·refine Zi (Zb (.n x) rfl (Zb (.n x) rfl (Ze (Zar (zE (z4 (zX rfl ZK) ?_))))))
  cases hp
  exact ⟨rfl,(A.pk [])⟩
 ·refine Zas (Zi (Zc (Zbz (A.box 0 rfl) rfl rfl) ?_))
  obtain ⟨x1,⟨bk,a0,aw,rfl,aG⟩,hp⟩:=bdk hp fun _=>zH.ok (h:=aL)  (A.rd0 s_s_Boxes.rd) (A.rd0 s_s_Edges.rd)
  refine ZaI rfl rfl aw ?_
  have ad:=A.call aG rfl
  refine Zb (.n x1) rfl (Ze (ZB (Zi (Zb (.n x1) rfl (Zc (Zd2 rfl rfl) (Zg ?_))))))
  refine Zo (zD hp rfl (fun al hp=>?_) (fun al hp=>?_))
  ·refine Zi (Zb (.n 6) rfl (Ze (Zar (zE (z4 (zX rfl ZK) ?_)))))
   cases hp
   exact ⟨rfl,(ad.pk [])⟩
  ·refine Zas (ZB (Zi (Zb (.n 0) rfl (Ze (Zaa (Zb7 hp (fun v fr k=>fr 1=.p a 0∧fr 5=.n v∧Own B h k [zP a [v_s_Boxes,v_s_Edges]]) (fun | .inl _,e,fr,k=>e=(.exit 0)∧fr 1=.p a 0∧Own B h k [zP a [v_s_Boxes,v_s_Edges]] | .inr _,e,fr,k=>e=.ret∧fr 2=.n 8∧Own B h k []) ⟨rfl,rfl,(ad.pk [0])⟩ ?_ ?_))))))
   ·rintro v be a2 ⟨P,ah,E⟩ a9 hp
    dsimp only [zw.s0] at hp
    refine ZB (Zi (Zb _ ah (Zc (zG (r:=a) (o:=0) P rfl) (Zc (ZU (E.box 0 rfl) rfl rfl) (Zc (Zae (E.rd0 s_s_Boxes.rd) rfl) (Zc (zF rfl rfl) (Zg ?_)))))))
    refine Zo (zD hp rfl (fun am hp=>?_) (fun am hp=>?_))
    ·refine Zas (ZB (Zaa (Zi (Zb (.n 0) rfl (Ze ?_)))))
     refine Zaa (Zb7 hp (fun d fr k=>fr 1=.p a 0∧fr 5=.n v∧fr 6=.n d∧Own B h k [zP a [v_s_Boxes,v_s_Edges]]) (fun | .inl _,e,fr,k=>e=(.exit 2)∧fr 1=.p a 0∧fr 5=.n v∧Own B h k [zP a [v_s_Boxes,v_s_Edges]] | .inr _,e,fr,k=>e=.ret∧fr 2=.n 8∧Own B h k []) ⟨P,ah,rfl,(E.pk [0])⟩ ?_ ?_)
     ·rintro d bg af ⟨Q,R,S,y⟩ ba hp
      dsimp only [zw.s1] at hp
      refine ZB (Zi (Zb _ S (Zc (zF rfl rfl) (Zb (.b (decide (d < 4))) rfl ?_))))
      obtain ⟨t,aI,hp⟩:=ZaH hp
      refine zK 7 (fun f k=>af=k∧f 35=.b t∧f 1=.p a 0∧f 5=.n v∧f 6=.n d) ?_ ?_
      ·clear hp; rcases ZaR aI with ⟨j,hp⟩ | ⟨j,hp⟩
       ·refine Zp rfl j (Zc (zG (r:=a) (o:=0) Q rfl) (Zp rfl j (Zc (ZU (y.box 0 rfl) rfl rfl) (Zp rfl j (Zb _ R (Zp rfl j (ckk hp fun T hp=>Zc (ZZ (y.rd0 s_s_Boxes.rd) rfl rfl T) ?_)))))))
        refine Zp rfl j (Zc (zN (y.rd0 s_s_Boxes.rd) rfl (Zf T) rfl) (Zp rfl j (Zc (ZcO rfl) (Zc (ZaF (v:=.b t) rfl j (Eq.trans (b:=V.b (!(gi s.Boxes v.toNat))) rfl (congrArg V.b (Option.some.inj hp)))) (Zg ?_)))))
        exact ⟨rfl,rfl,Q,R,S⟩
       ·refine Zh rfl j (Zh rfl j (Zh rfl j (Zh rfl j (Zh rfl j (Zh rfl j (Zc (Za5 (v:=.b t) rfl j (Eq.trans (b:=V.b false) rfl (congrArg V.b (Option.some.inj hp)))) (Zg ?_)))))))
        exact ⟨rfl,rfl,Q,R,S⟩
      rintro aV _ ⟨rfl,ay,I,J,X⟩
      refine Ze (zD hp ay (fun an hp=>?_) (fun an hp=>?_))
      ·refine Zas (ZB (Zaa (Zi (Zc (Zbz (y.box 0 rfl) I rfl) (Zb _ J (Zb _ X ?_))))))
       obtain ⟨x2,⟨bl,a4,ax,ai,rfl,aH⟩,hp⟩:=bdk hp fun _=>Za4.ok (h:=af)  (y.rd0 s_s_Boxes.rd) (y.rd0 s_s_Edges.rd)
       refine ZaI rfl rfl ax ?_
       have N:=y.call aH rfl
       refine Zb ai rfl (Ze (Zi (Zb ai rfl (Zc (Zae (N.sl 1 rfl) rfl) (Zc (Zd2 rfl rfl) (Zg ?_))))))
       refine Zo (zD hp rfl (fun ao hp=>?_) (fun ao hp=>?_))
       ·refine Zi (Zb (.n 8) rfl (Ze (Zar (Zbv (zE ?_)))))
        cases hp
        exact ⟨nofun,rfl,rfl,(N.pk [])⟩
       ·refine Zc2 (Zaf (Zo (zI (Zb _ X (ckk hp fun aq hp=>Zc (zc rfl rfl aq) (Zb (.n (d + 1)) rfl (Zg ?_)))))))
        cases hp
        exact ⟨rfl,I,J,rfl,(N.pk [0])⟩
      ·refine Zbq (zM ?_)
       cases hp
       exact ⟨nofun,rfl,I,J,(y.pk [0])⟩
     rintro (_ | _) hp _ bf a3 ab
     ·obtain ⟨rfl,aO,aQ,M⟩:=ab
      refine Zav (Zaf (Zo (zI (Zb _ aQ (ckk hp fun ar hp=>Zc (zc rfl rfl ar) (Zb (.n (v + 1)) rfl (Zg ?_)))))))
      cases hp
      exact ⟨rfl,aO,rfl,(M.pk [0])⟩
     ·obtain ⟨rfl,aP,M⟩:=ab
      refine Zbv (Zbv (zE ?_))
      cases hp
      exact ⟨nofun,rfl,aP,(M.pk [])⟩
    ·refine Zbq (zM ?_)
     cases hp
     exact ⟨nofun,rfl,P,(E.pk [0])⟩
   rintro (_ | _) hp _ bd a1 aa
   ·obtain ⟨rfl,aM,L⟩:=aa
    refine Zav (Zo (ZB (Zi (Zb (.n 0) rfl (Ze (Zaa (Zb7 hp (fun i fr k=>fr 1=.p a 0∧fr 8=.n i∧Own B h k [zP a [v_s_Boxes,v_s_Edges]]) (fun | .inl _,e,fr,k=>e=(.exit 4)∧Own B h k [] | .inr _,e,fr,k=>e=.ret∧fr 2=.n 10∧Own B h k []) ⟨aM,rfl,(L.pk [0])⟩ ?_ ?_)))))))
    ·rintro i bi aY ⟨F,H,q⟩ bb hp
     dsimp only [zw.s2] at hp
     refine ZB (Zi (Zb _ H (Zc (zG (r:=a) (o:=0) F rfl) (Zc (ZU (q.box 0 rfl) rfl rfl) (Zc (Zae (q.rd0 s_s_Edges.rd) rfl) (Zc (zF rfl rfl) (Zg ?_)))))))
     refine Zo (zD hp rfl (fun ap hp=>?_) (fun ap hp=>?_))
     ·refine Zas (ZB (Zaa (Zi (Zc (zG (r:=a) (o:=0) F rfl) (Zc (ZU (q.box 0 rfl) rfl rfl) (Zb _ H ?_))))))
      refine ckk hp fun U hp=>Zc (ZZ (q.rd0 s_s_Edges.rd) rfl rfl U) (Zc (Zdb (q.rd0 s_s_Edges.rd) rfl (Zf U)) (zz (q.alloc (cs:=z1.c (⟨0,0,0,(⟨#[]⟩:ByteArray)⟩:ZaO)) q.fr) ?_))
      rintro _ aZ ⟨C,rfl,a8,aT,aE⟩
      refine zz (aE.stb (cs':=z1.c (gi s.Edges i.toNat)) 1 rfl rfl rfl rfl ⟨rfl,Nat.le_of_ble_eq_true rfl,rfl⟩ rfl) ?_
      rintro _ ae ⟨rfl,aU,a6,m⟩
      refine Ze (Zi (Zc (zG (r:=C) (o:=0) rfl rfl) (Zc (ZU (m.box 1 rfl) rfl rfl) (Zc (zG (r:=C) (o:=0) rfl rfl) (Zc (ZU (m.box 1 rfl) rfl rfl) (Zc (Zbl rfl rfl) ?_))))))
      refine Zb (.b (decide ((gi s.Edges i.toNat).From=(gi s.Edges i.toNat).To))) rfl (zK 4 (fun f k=>ae=k∧f 66=.b ((decide ((gi s.Edges i.toNat).From=(gi s.Edges i.toNat).To)) && (((gi s.Edges i.toNat).Bends).toList == (⟨#[]⟩:ByteArray).toList))∧f 1=.p a 0∧f 8=.n i∧f 9=.p C 0) ?_ ?_)
      ·rcases bc (decide ((gi s.Edges i.toNat).From=(gi s.Edges i.toNat).To)) with l | l
       ·refine Zp rfl l (Zc (zG (r:=C) (o:=0) rfl rfl) (Zp rfl l (Zc (ZU (m.box 1 rfl) rfl rfl) (Zp rfl l (Zc (ZpA rfl rfl) (Zc (ZcN rfl l rfl) (Zg ?_)))))))
        exact ⟨rfl,rfl,F,H,rfl⟩
       ·refine Zh rfl l (Zh rfl l (Zh rfl l (Zc (ZcM (w:=(decide ((gi s.Edges i.toNat).From=(gi s.Edges i.toNat).To)) && (((gi s.Edges i.toNat).Bends).toList == (⟨#[]⟩:ByteArray).toList)) rfl l rfl) (Zg ?_))))
        exact ⟨rfl,rfl,F,H,rfl⟩
      rintro aW _ ⟨rfl,az,K,Y,aA⟩
      refine Zb _ az ?_
      obtain ⟨t1,aJ,hp⟩:=ZaH hp
      refine zK 8 (fun f k=>ae=k∧f 75=.b t1∧f 1=.p a 0∧f 8=.n i) ?_ ?_
      ·clear hp; rcases ZaR aJ with ⟨g,hp⟩ | ⟨g,hp⟩
       ·refine Zp rfl g (Zc (zG (r:=a) (o:=0) K rfl) (Zp rfl g (Zc (ZU (m.box 0 rfl) rfl rfl) (Zp rfl g (Zc (zG (r:=C) (o:=0) aA rfl) (Zp rfl g (Zc (ZU (m.box 1 rfl) rfl rfl) (Zp rfl g ?_))))))))
        refine ckk hp fun W hp=>Zc (ZZ (m.rd0 s_s_Boxes.rd) rfl rfl W) (Zp rfl g (Zc (zN (m.rd0 s_s_Boxes.rd) rfl (Zf W) rfl) (Zp rfl g (Zc (ZcO rfl) (Zc (ZaF (v:=.b t1) rfl g (Eq.trans (b:=V.b (!(gi s.Boxes ((gi s.Edges i.toNat).From:Int).toNat))) rfl (congrArg V.b (Option.some.inj hp)))) (Zg ?_))))))
        exact ⟨rfl,rfl,K,Y⟩
       ·refine Zh rfl g (Zh rfl g (Zh rfl g (Zh rfl g (Zh rfl g (Zh rfl g (Zh rfl g (Zc (Za5 (v:=.b t1) rfl g (Eq.trans (b:=V.b false) rfl (congrArg V.b (Option.some.inj hp)))) (Zg ?_))))))))
        exact ⟨rfl,rfl,K,Y⟩
      rintro aX _ ⟨rfl,aC,aB,aD⟩
      refine Ze (zD hp aC (fun ak hp=>?_) (fun ak hp=>?_))
      ·refine Zi (Zb (.n 10) rfl (Ze (Zar (Zbv (zE ?_)))))
       cases hp
       exact ⟨nofun,rfl,rfl,(m.pk [])⟩
      ·refine Zc2 (Zaf (Zo (zI (Zb _ aD (ckk hp fun au hp=>Zc (zc rfl rfl au) (Zb (.n (i + 1)) rfl (Zg ?_)))))))
       cases hp
       exact ⟨rfl,aB,rfl,(m.pk [0])⟩
     ·refine Zbq (zM ?_)
      cases hp
      exact ⟨nofun,rfl,(q.pk [])⟩
    rintro (_ | _) hp _ bh a5 ac
    ·obtain ⟨rfl,O⟩:=ac
     refine Zav (Zo (Zi (Zb (.n 0) rfl (Ze (Zar (z4 (zX rfl ZK) ?_))))))
     cases hp
     exact ⟨rfl,(O.pk [])⟩
    ·obtain ⟨rfl,aR,O⟩:=ac
     refine Zbv (zE (z4 (zX aR ZK) ?_))
     cases hp
     exact ⟨rfl,(O.pk [])⟩
   ·obtain ⟨rfl,aN,L⟩:=aa
    refine Zbv (zE (z4 (zX aN ZK) ?_))
    cases hp
    exact ⟨rfl,(L.pk [])⟩

theorem Za3.ok {h:Hp} {n:Zbb} {s:Zac} {v:Int} {v_n_Cells:V} {v_n_First:V} {v_n_Ends:V} {v_n_Ways:V} {vs_n_Ways:List V} {v_s_Boxes:V} {v_s_Edges:V} (H:Own (Bm h [eSl Zd v_n_Cells n.Cells,eSl zT v_n_First n.First,eSl Zbf v_n_Ends n.Ends,eSl eV v_n_Ways vs_n_Ways,ZbW zT vs_n_Ways n.Ways]) h h [eSl Zd v_n_Cells n.Cells,eSl zT v_n_First n.First,eSl Zbf v_n_Ends n.Ends,eSl eV v_n_Ways vs_n_Ways,ZbW zT vs_n_Ways n.Ways]) (s_s_Boxes:Rd (Bm h [eSl Zd v_n_Cells n.Cells,eSl zT v_n_First n.First,eSl Zbf v_n_Ends n.Ends,eSl eV v_n_Ways vs_n_Ways,ZbW zT vs_n_Ways n.Ways]) h e_bool v_s_Boxes s.Boxes) (s_s_Edges:Rd (Bm h [eSl Zd v_n_Cells n.Cells,eSl zT v_n_First n.First,eSl Zbf v_n_Ends n.Ends,eSl eV v_n_Ways vs_n_Ways,ZbW zT vs_n_Ways n.Ways]) h z1 v_s_Edges s.Edges) {r:Zbb} (hp:Za3 n s v=some r) :
  ∃ u k',Is G 200 [.ag [v_n_Cells,v_n_First,v_n_Ends,v_n_Ways],.ag [v_s_Boxes,v_s_Edges],.n v] h u k'∧∃ aI aK aL aM aP,V.ag [aI,aK,aL,aM]=u∧Own (Bm h [eSl Zd v_n_Cells n.Cells,eSl zT v_n_First n.First,eSl Zbf v_n_Ends n.Ends,eSl eV v_n_Ways vs_n_Ways,ZbW zT vs_n_Ways n.Ways]) h k' [eSl Zd aI r.Cells,eSl zT aK r.First,eSl Zbf aL r.Ends,eSl eV aM aP,ZbW zT aP r.Ways]:=by
 refine WC.is (ZaP ZeD ?_)
 unfold Za3 at hp
 let B:Nat→Prop:=(Bm h [eSl Zd v_n_Cells n.Cells,eSl zT v_n_First n.First,eSl Zbf v_n_Ends n.Ends,eSl eV v_n_Ways vs_n_Ways,ZbW zT vs_n_Ways n.Ways])
 have hO:Own B h h [eSl Zd v_n_Cells n.Cells,eSl zT v_n_First n.First,eSl Zbf v_n_Ends n.Ends,eSl eV v_n_Ways vs_n_Ways,ZbW zT vs_n_Ways n.Ways]:=H
 refine Zi (zz (hO.boxd (cs:=[v_n_Cells,v_n_First,v_n_Ends,v_n_Ways]) hO.fr rfl rfl) ?_)
 rintro _ bH ⟨a,rfl,b4,bs,ap⟩
 refine zz (ap.boxd (cs:=[v_s_Boxes,v_s_Edges]) ap.fr rfl rfl) ?_
 rintro _ bM ⟨A,rfl,b5,bx,ar⟩
 refine zz (ar.alloc (cs:=[.sn,.sn,.sn,.sn]) ar.fr) ?_
 rintro _ bh ⟨g,rfl,b6,bz,Y⟩
 refine Ze (Zi (Zc (zG (r:=a) (o:=0) rfl rfl) (Zc (ZU (Y.box 5 rfl) rfl rfl) (Zc (Zae (Y.sl 0 rfl) rfl) (Zb (.n (n.Cells.length:Int)) rfl (Zg ?_))))))
 refine Zo (Zi ?_)
 obtain ⟨x,⟨ch,bS,aX,aN,rfl,a8⟩,hp⟩:=bdk hp fun _=>zk.ok (h:=bh)  
 refine ZaI rfl rfl aX ?_
 have L:=Y.call a8 rfl
 refine Zb aN rfl (Ze (Zi (Zc (zG (r:=a) (o:=0) rfl rfl) (Zc (ZU (L.box 5 rfl) rfl rfl) (Zb aN rfl (ckk hp fun aS hp=>?_))))))
 refine zz (L.app (bytes:=64) 0 L.fr rfl (L.sl 8 rfl) rfl rfl (fun _=>rfl) aS (by decide)) ?_
 rintro aO bT ⟨bA,aa⟩
 refine Zc (zG (r:=a) (o:=0) rfl rfl) (zz (aa.stb (cs':=[aO,v_n_First,v_n_Ends,v_n_Ways]) 5 rfl rfl rfl (aa.sl 0 rfl).cells ⟨rfl,Nat.le_of_ble_eq_true rfl,(all_cons (aa.sl 0 rfl).oneV rfl)⟩ rfl) ?_)
 rintro _ bU ⟨rfl,bB,bY,a7⟩
 refine Ze (ZB (Zi (Zb (.n 0) rfl (Ze (Zaa (Zb7 hp (fun | (n1,n2,d),fr,k=>∃ D,fr 2=.n v∧fr 3=.p a 0∧fr 4=.p A 0∧fr 6=.p g 0∧fr 7=.n (n.Cells.length:Int)∧fr 9=.n d∧Own B h k [zP a [D,v_n_First,v_n_Ends,v_n_Ways],eSl Zd D n1,eSl zT v_n_First n.First,eSl Zbf v_n_Ends n2,eSl eV v_n_Ways vs_n_Ways,ZbW zT vs_n_Ways n.Ways,zP A [v_s_Boxes,v_s_Edges],zP g [.sn,.sn,.sn,.sn]]) (fun | (n3,n4),e,fr,k=>e=(.exit 0)∧∃ F,fr 3=.p a 0∧fr 6=.p g 0∧Own B h k [zP a [F,v_n_First,v_n_Ends,v_n_Ways],eSl Zd F n3,eSl zT v_n_First n.First,eSl Zbf v_n_Ends n4,eSl eV v_n_Ways vs_n_Ways,ZbW zT vs_n_Ways n.Ways,zP g [.sn,.sn,.sn,.sn]]) ⟨aO,rfl,rfl,rfl,rfl,rfl,rfl,(a7.pk [5,0,1,2,3,4,6,7])⟩ ?_ ?_))))))
 ·rintro ⟨n1,n2,d⟩ cb bW ⟨D,ax,ay,az,aA,b,t,ab⟩ b8 hp
  dsimp only [Za3.s0] at hp
  refine ZB (Zi (Zb _ t (Zc (zF rfl rfl) (Ze (zD hp rfl (fun aQ hp=>?_) (fun aQ hp=>?_))))))
  ·refine Zas (ZB (Zaa (Zi (Zb _ b (ckk hp fun aj hp=>Zc (zc rfl rfl aj) ?_)))))
   refine Zb _ b (ckk hp fun ak hp=>Zc (zc rfl rfl ak) (Zb _ b (Zb _ b (zz (ab.bsl (E:=zT) (l:=[(n.Cells.length:Int) + 1,(n.Cells.length:Int) + 3,(n.Cells.length:Int),(n.Cells.length:Int)]) ab.fr (by rw [(zp (v:=.n ((n.Cells.length:Int) + 1)) rfl (zp (v:=.n ((n.Cells.length:Int) + 3)) rfl (zp (v:=.n (n.Cells.length:Int)) rfl (zp (v:=.n (n.Cells.length:Int)) rfl ZaN))))]; rfl) rfl) ?_))))
   rintro co bX ⟨ce,bC,M⟩
   refine Zb _ t (ckk hp fun al hp=>Zc (ZZ (M.sl 8 rfl) rfl rfl al) (Zc (zN (M.sl 8 rfl) rfl (Zf al) rfl) (Zb (.n (gi [(n.Cells.length:Int) + 1,(n.Cells.length:Int) + 3,(n.Cells.length:Int),(n.Cells.length:Int)] d.toNat)) rfl (Ze (Zi ?_)))))
   refine Zb _ b (ckk hp fun am hp=>Zc (zc rfl rfl am) (Zb _ b (Zc (zc rfl rfl am) (Zb _ b (Zc (zc rfl rfl ak) (Zb _ b (Zc (zc rfl rfl aj) ?_)))))))
   refine zz (M.bsl (E:=zT) (l:=[(n.Cells.length:Int) + 2,(n.Cells.length:Int) + 2,(n.Cells.length:Int) + 3,(n.Cells.length:Int) + 1]) M.fr (by rw [(zp (v:=.n ((n.Cells.length:Int) + 2)) rfl (zp (v:=.n ((n.Cells.length:Int) + 2)) rfl (zp (v:=.n ((n.Cells.length:Int) + 3)) rfl (zp (v:=.n ((n.Cells.length:Int) + 1)) rfl ZaN))))]; rfl) rfl) ?_
   rintro cm bI ⟨cf,bD,J⟩
   refine Zb _ t (ckk hp fun an hp=>Zc (ZZ (J.sl 9 rfl) rfl rfl an) (Zc (zN (J.sl 9 rfl) rfl (Zf an) rfl) (Zb (.n (gi [(n.Cells.length:Int) + 2,(n.Cells.length:Int) + 2,(n.Cells.length:Int) + 3,(n.Cells.length:Int) + 1] d.toNat)) rfl (Ze (Zi ?_)))))
   refine zz (J.bsl (E:=zT) (l:=([1,0,1,0]:List Int)) J.fr (by rw [(zp (v:=.n 1) rfl (zp (v:=.n 0) rfl (zp (v:=.n 1) rfl (zp (v:=.n 0) rfl ZaN))))]; rfl) rfl) ?_
   rintro cn bd ⟨cg,bE,j⟩
   refine Zb _ t (ckk hp fun ao hp=>Zc (ZZ (j.sl 10 rfl) rfl rfl ao) (Zc (zN (j.sl 10 rfl) rfl (Zf ao) rfl) (Zb (.n (gi ([1,0,1,0]:List Int) d.toNat)) rfl (Ze (Zi ?_)))))
   refine Zc (Zbz (j.box 6 rfl) az rfl) (Zb _ ax (Zb _ t ?_))
   obtain ⟨x1,⟨ci,bJ,aY,ae,rfl,a9⟩,hp⟩:=bdk hp fun _=>Za4.ok (h:=bd)  (j.rd0 s_s_Boxes) (j.rd0 s_s_Edges)
   refine ZaI rfl rfl aY ?_
   have a4:=j.call a9 rfl
   refine Zb ae rfl (Ze (ZB (Zi (Zb (.n 0) rfl (Ze ?_)))))
   refine Zaa (Zb7 hp (fun | (n5,n6,from_,i),fr,k=>∃ P,fr 2=.n v∧fr 3=.p a 0∧fr 4=.p A 0∧fr 6=.p g 0∧fr 7=.n (n.Cells.length:Int)∧fr 9=.n d∧fr 10=.n from_∧fr 11=.n (gi [(n.Cells.length:Int) + 2,(n.Cells.length:Int) + 2,(n.Cells.length:Int) + 3,(n.Cells.length:Int) + 1] d.toNat)∧fr 12=.n (gi ([1,0,1,0]:List Int) d.toNat)∧fr 13=ae∧fr 14=.n i∧Own B h k [zP a [P,v_n_First,v_n_Ends,v_n_Ways],eSl Zd P n5,eSl zT v_n_First n.First,eSl Zbf v_n_Ends n6,eSl eV v_n_Ways vs_n_Ways,ZbW zT vs_n_Ways n.Ways,zP A [v_s_Boxes,v_s_Edges],zP g [.sn,.sn,.sn,.sn],eSl zT ae x1]) (fun | (n7,n8,from_1),e,fr,k=>e=(.exit 2)∧∃ af,fr 2=.n v∧fr 3=.p a 0∧fr 4=.p A 0∧fr 6=.p g 0∧fr 7=.n (n.Cells.length:Int)∧fr 9=.n d∧fr 10=.n from_1∧fr 11=.n (gi [(n.Cells.length:Int) + 2,(n.Cells.length:Int) + 2,(n.Cells.length:Int) + 3,(n.Cells.length:Int) + 1] d.toNat)∧fr 12=.n (gi ([1,0,1,0]:List Int) d.toNat)∧Own B h k [zP a [af,v_n_First,v_n_Ends,v_n_Ways],eSl Zd af n7,eSl zT v_n_First n.First,eSl Zbf v_n_Ends n8,eSl eV v_n_Ways vs_n_Ways,ZbW zT vs_n_Ways n.Ways,zP A [v_s_Boxes,v_s_Edges],zP g [.sn,.sn,.sn,.sn]]) ⟨D,ax,ay,az,aA,b,t,rfl,rfl,rfl,rfl,rfl,(a4.pk [0,1,2,3,4,5,6,7,11])⟩ ?_ ?_)
   ·rintro ⟨n5,n6,from_,i⟩ cd bf ⟨P,aD,f,aE,aF,aG,aH,aB,aC,ad,N,O,C⟩ b9 hp
    dsimp only [Za3.s1] at hp
    refine ZB (Zi (Zb _ O (Zb _ N (Zc (Zae (C.sl 8 rfl) rfl) (Zc (zF rfl rfl) (Ze (zD hp rfl (fun aR hp=>?_) (fun aR hp=>?_))))))))
    ·refine Zas (ZB (Zaa (Zi (Zc (zG (r:=a) (o:=0) f rfl) (Zc (ZU (C.box 0 rfl) rfl rfl) (Zc (Zae (C.sl 1 rfl) rfl) ?_))))))
     refine Zb (.n (n5.length:Int)) rfl (Ze (Zi ?_))
     obtain ⟨x2,⟨cj,bK,aZ,aJ,rfl,ba⟩,hp⟩:=bdk hp fun _=>zk.ok (h:=bf)  
     refine ZaI rfl rfl aZ ?_
     have K:=C.call ba rfl
     refine Zb aJ rfl (Ze (Zi (Zc (zG (r:=a) (o:=0) f rfl) (Zc (ZU (K.box 0 rfl) rfl rfl) (Zb aJ rfl (ckk hp fun aW hp=>?_))))))
     refine zz (K.app (bytes:=64) 1 K.fr rfl (K.sl 9 rfl) rfl rfl (fun _=>rfl) aW (by decide)) ?_
     rintro br bL ⟨bF,T⟩
     refine Zc (zG (r:=a) (o:=0) f rfl) (zz (T.stb (cs':=[br,v_n_First,v_n_Ends,v_n_Ways]) 0 rfl rfl rfl (T.sl 1 rfl).cells ⟨rfl,Nat.le_of_ble_eq_true rfl,(all_cons (T.sl 1 rfl).oneV rfl)⟩ rfl) ?_)
     rintro _ av ⟨rfl,bt,bZ,aq⟩
     refine Ze (ZB (ZeH ?_))
     have c:=aq.bump 16
     have a3:=Fresh.start av 16
     have b7:∀ {i:Nat},h.n≤av.n + i:=Nat.le_trans aq.n (Nat.le_add_right _ _)
     refine ZT (zG (r:=a) (o:=0) f rfl) (ZT (ZU (c.box 0 rfl) rfl rfl) (ZaU _ N (ZaU _ O (ckk hp fun I hp=>ZT (ZZ (c.sl 8 rfl) rfl rfl I) (ZT (zN (c.sl 8 rfl) rfl (Zf I) rfl) (ckk hp fun aT hp=>ZT (ZlG rfl rfl aT) ?_))))))
     refine ZaU _ N (ZaU _ O (ZT (ZZ (c.sl 8 rfl) rfl rfl I) (ZT (zN (c.sl 8 rfl) rfl (Zf I) rfl) (ZT (Zc6 rfl rfl (by decide)) (ZaU (.n (n5.length:Int)) rfl (ckk hp fun Q hp=>ZT (ZZ (c.sl 3 rfl) rfl rfl Q) (ckk hp fun R hp=>?_)))))))
     refine ZT (ZaZ (c.sl 3 rfl) (Zf Q) rfl rfl R rfl) (Zd1 (c.ste (y:=((gi n6 ((gi x1 i.toNat).tdiv 2:Int).toNat).set ((gi x1 i.toNat).tmod 2) (n5.length:Int))) 3 rfl rfl (Zf Q) rfl rfl ⟨rfl,(by have:=R; exact (show 0 + ((gi x1 i.toNat).tmod 2:Int).toNat * 1 + 1≤2 by omega)),rfl⟩ (ZiR R)) ?_)
     rintro _ bg cp ⟨rfl,a2,b0,U⟩
     have bG:=a3.kept a2 (by decide)
     refine Zcv ?_
     refine And.intro ?_ ?_
     ·intro q hq
      simp only [List.mem_cons,List.not_mem_nil,or_false] at hq
      rcases hq with rfl | rfl | rfl
      ·refine z9 ?_ ?_
       ·exact (fun h=>nomatch h)
       ·exact (fun h=>nomatch h)
      ·refine z9 ?_ ?_
       ·exact (fun h=>nomatch h)
       ·exact (fun h=>nomatch h)
      ·refine z9 ?_ ?_
       ·exact (fun h=>nomatch h)
       ·exact (fun h=>nomatch h)
     refine Zo (Zi (Zc (zG (r:=a) (o:=0) f rfl) (Zc (ZU (U.box 0 rfl) rfl rfl) (Zb _ aB (Zb _ ad (Zb (.n (n5.length:Int)) rfl ?_))))))
     obtain ⟨⟨x3,x4⟩,⟨ck,bN,a0,ah,rfl,bb⟩,hp⟩:=bdk hp fun _=>zR.ok (h:=bg) (l:=(n5++x2)) (v:=from_) (d:=(gi ([1,0,1,0]:List Int) d.toNat)) (w:=(n5.length:Int)) (o:=(-1)) (U.toM [1] rfl (by decide)) 
     refine ZaI rfl rfl a0 ?_
     have W:=(U.callM [1] [0,2,3,4,5,6,7,8,9] rfl rfl (by decide) bb rfl).pick [0,900,1,2,3,4,5,6,7,8,9] rfl (by decide)
     refine Zb (.tu [ah,.n x4]) rfl (Zc (Zbr rfl rfl) (Zc (Zbr rfl rfl) (Zc (zG (r:=a) (o:=0) f rfl) (zz (W.stb (cs':=[ah,v_n_First,v_n_Ends,v_n_Ways]) 0 rfl rfl rfl (W.sl 10 rfl).cells ⟨rfl,Nat.le_of_ble_eq_true rfl,(all_cons (W.sl 10 rfl).oneV rfl)⟩ rfl) ?_))))
     rintro _ bO ⟨rfl,bu,b1,a5⟩
     refine Ze (zI (Zb (.n (n5.length:Int)) rfl (Zb (.n (n5.length:Int)) rfl (Zg (Zaf (Zo (zI ?_)))))))
     refine Zb _ O (ckk hp fun aU hp=>Zc (zc rfl rfl aU) (Zb (.n (i + 1)) rfl (Zg ?_)))
     cases hp
     exact ⟨rfl,ah,aD,f,aE,aF,aG,aH,rfl,aC,ad,N,rfl,(a5.pk [0,10,2,3,4,5,6,7,8])⟩
    ·refine Zbq (zM ?_)
     cases hp
     exact ⟨nofun,rfl,P,aD,f,aE,aF,aG,aH,aB,aC,ad,(C.pk [0,1,2,3,4,5,6,7])⟩
   rintro ⟨n7,n8,from_1⟩ hp _ cc be ⟨rfl,af,bm,ac,bn,bo,bp,bq,bj,bk,bl,S⟩
   refine Zav (Zo (zI (Zc (zG (r:=a) (o:=0) ac rfl) (Zc (ZU (S.box 0 rfl) rfl rfl) (Zb _ bj (Zb _ bl (Zb _ bk ?_)))))))
   obtain ⟨⟨x5,x6⟩,⟨cl,bP,a1,ai,rfl,bc⟩,hp⟩:=bdk hp fun _=>zR.ok (h:=be) (l:=n7) (v:=from_1) (d:=(gi ([1,0,1,0]:List Int) d.toNat)) (w:=(gi [(n.Cells.length:Int) + 2,(n.Cells.length:Int) + 2,(n.Cells.length:Int) + 3,(n.Cells.length:Int) + 1] d.toNat)) (o:=(-1)) (S.toM [1] rfl (by decide)) 
   refine ZaI rfl rfl a1 ?_
   have X:=(S.callM [1] [0,2,3,4,5,6,7] rfl rfl (by decide) bc rfl).pick [0,900,1,2,3,4,5,6,7] rfl (by decide)
   refine Zb (.tu [ai,.n x6]) rfl (Zc (Zbr rfl rfl) (Zc (Zbr rfl rfl) (Zc (zG (r:=a) (o:=0) ac rfl) (zz (X.stb (cs':=[ai,v_n_First,v_n_Ends,v_n_Ways]) 0 rfl rfl rfl (X.sl 8 rfl).cells ⟨rfl,Nat.le_of_ble_eq_true rfl,(all_cons (X.sl 8 rfl).oneV rfl)⟩ rfl) ?_))))
   rintro _ bQ ⟨rfl,bv,b2,a6⟩
   refine Zg (Zaf (Zo (zI (Zb _ bq (ckk hp fun aV hp=>Zc (zc rfl rfl aV) (Zb (.n (d + 1)) rfl (Zg ?_)))))))
   cases hp
   exact ⟨rfl,ai,bm,ac,bn,bo,bp,rfl,(a6.pk [0,8,2,3,4,5,6,7])⟩
  ·refine Zbq (zM ?_)
   cases hp
   exact ⟨nofun,rfl,D,ay,aA,(ab.pk [0,1,2,3,4,5,7])⟩
 rintro ⟨n3,n4⟩ hp _ ca bV ⟨rfl,F,bi,aw,m⟩
 refine Zav (Zo (Zi (Zc (Zbz (m.box 0 rfl) bi rfl) (zz (m.stb (cs':=[F,v_n_First,v_n_Ends,v_n_Ways]) 6 rfl aw rfl rfl ⟨rfl,Nat.le_of_ble_eq_true rfl,(all_cons (m.sl 1 rfl).oneV (all_cons (m.sl 2 rfl).oneV (all_cons (m.sl 3 rfl).oneV (all_cons (m.sl 4 rfl).oneV all_nil))))⟩ rfl) ?_))))
 rintro _ bR ⟨rfl,bw,b3,au⟩
 refine Ze (Zar (z4 (Zgs aw (au.box 6 rfl) rfl ZK) ?_))
 cases hp
 exact ⟨F,v_n_First,v_n_Ends,v_n_Ways,vs_n_Ways,rfl,(au.pk [1,2,3,4,5])⟩

theorem zl.ok {h:Hp} {s:Zac} {v_s_Boxes:V} {v_s_Edges:V} (s_s_Boxes:Sl e_bool h v_s_Boxes s.Boxes) (s_s_Edges:Sl z1 h v_s_Edges s.Edges) {r:Zbb} (hp:zl s=some r) :
  ∃ u k',Is G 175 [.ag [v_s_Boxes,v_s_Edges]] h u k'∧∃ bx bD bG bI bK,V.ag [bx,bD,bG,bI]=u∧Own (fun r=>r < h.n) h k' [eSl Zd bx r.Cells,eSl zT bD r.First,eSl Zbf bG r.Ends,eSl eV bI bK,ZbW zT bK r.Ways]:=by
 refine WC.is (ZaP ZeO ?_)
 unfold zl at hp
 let B:Nat→Prop:=(fun r=>r < h.n)
 have hO:Own B h h []:=Own.start0 h
 refine Zi (zz (hO.boxd (cs:=[v_s_Boxes,v_s_Edges]) hO.fr rfl rfl) ?_)
 rintro _ dz ⟨c,rfl,ee,c9,be⟩
 refine zz (be.alloc (cs:=[.sn,.sn,.sn,.sn]) be.fr) ?_
 rintro _ dI ⟨f,rfl,ef,di,ap⟩
 refine Ze (Zi (Zc (zG (r:=c) (o:=0) rfl rfl) (Zc (ZU (ap.box 0 rfl) rfl rfl) (Zc (Zae (ap.rd0 s_s_Edges.rd) rfl) (ckk hp fun bS hp=>zz (ap.mks (E:=Zbf) (y:=(⟨0,0⟩:A2 Int)) (bytes:=16) (z:=(s.Edges.length:Int)) ap.fr rfl rfl rfl bS (by decide)) ?_)))))
 rintro ac av ⟨ey,dq,aR⟩
 refine Zc (Zc4 (cs:=[.sn,.sn,ac,.sn]) (by rw [(zp (v:=ac) rfl ZaN)]; simp [fill,over,Zja,ZiY,ZiZ,Zjc,ZiX,Zjb,(Sl.nil:Sl Zd av .sn ([]:List Za)).cells,(Sl.nil:Sl zT av .sn ([]:List Int)).cells,(aR.sl 2 rfl:Sl Zbf av ac (List.replicate ((s.Edges.length:Int):Int).toNat (⟨0,0⟩:A2 Int))).cells,(Sl.nil:Sl eV av .sn []).cells])) (zz (aR.alloc (cs:=[.sn,.sn,.sn,.sn]) aR.fr) ?_)
 rintro _ aw ⟨b,rfl,eg,dr,bh⟩
 refine zz (bh.stb (cs':=[.sn,.sn,ac,.sn]) 3 rfl rfl rfl rfl ⟨rfl,Nat.le_of_ble_eq_true rfl,(all_cons (Sl.nil:Sl Zd aw .sn ([]:List Za)).oneV (all_cons (Sl.nil:Sl zT aw .sn ([]:List Int)).oneV (all_cons (bh.sl 2 rfl:Sl Zbf aw ac (List.replicate ((s.Edges.length:Int):Int).toNat (⟨0,0⟩:A2 Int))).oneV (all_cons (Sl.nil:Sl eV aw .sn []).oneV all_nil))))⟩ rfl) ?_
 rintro _ dY ⟨rfl,ds,d4,cw⟩
 refine Ze (ZB (Zi (Zb (.n 0) rfl (Ze (Zaa ?_)))))
 have cy:=cw.nil Zd
 have cz:=cy.nil zT
 have cA:=cz.nil eV
 have cl:=cA.allNil zT 0
 refine Zb7 hp (fun | (n,n1,n2,n3,v),fr,k=>∃ am aJ m t D,fr 1=.p c 0∧fr 2=.p f 0∧fr 3=.p b 0∧fr 4=.n v∧Own B h k [zP c [v_s_Boxes,v_s_Edges],zP f [.sn,.sn,.sn,.sn],zP b [am,aJ,m,t],eSl Zd am n,eSl zT aJ n1,eSl Zbf m n2,eSl eV t D,ZbW zT D n3]) (fun | (n4,n5,n6,n7),e,fr,k=>e=(.exit 0)∧∃ aD g j aE aK,fr 1=.p c 0∧fr 2=.p f 0∧fr 3=.p b 0∧Own B h k [zP c [v_s_Boxes,v_s_Edges],zP f [.sn,.sn,.sn,.sn],zP b [aD,g,j,aE],eSl Zd aD n4,eSl zT g n5,eSl Zbf j n6,eSl eV aE aK,ZbW zT aK n7]) ⟨V.sn,V.sn,ac,V.sn,[],rfl,rfl,rfl,rfl,(cl.pk [0,1,3,4,5,2,6,7])⟩ ?_ ?_
 ·rintro ⟨n,n1,n2,n3,v⟩ eq d0 ⟨am,aJ,m,t,D,ab,a1,I,ai,N⟩ ek hp
  dsimp only [zl.s0] at hp
  refine ZB (Zi (Zb _ ai (Zc (zG (r:=c) (o:=0) ab rfl) (Zc (ZU (N.box 0 rfl) rfl rfl) (Zc (Zae (N.rd0 s_s_Boxes.rd) rfl) (Zc (zF rfl rfl) (Zg ?_)))))))
  refine Zo (zD hp rfl (fun bL hp=>?_) (fun bL hp=>?_))
  ·refine Zas (ZB (Zaa (Zi (Zc (zG (r:=b) (o:=0) I rfl) (Zc (ZU (N.box 2 rfl) rfl rfl) (Zc (Zae (N.sl 3 rfl) rfl) ?_))))))
   refine Zb (.n (n.length:Int)) rfl (Ze (Zi (Zc (zG (r:=b) (o:=0) I rfl) (Zc (ZU (N.box 2 rfl) rfl rfl) (Zb (.n (n.length:Int)) rfl (zz (N.bsl (E:=zT) (l:=[(n.length:Int)]) N.fr (by rw [(zp (v:=.n (n.length:Int)) rfl ZaN)]; rfl) rfl) ?_))))))
   rintro eK d3 ⟨ez,dt,aO⟩
   refine ckk hp fun b1 hp=>zz (aO.app (bytes:=8) 4 aO.fr rfl (aO.sl 8 rfl) rfl rfl (fun _=>rfl) b1 (by decide)) ?_
   rintro C bm ⟨du,aP⟩
   refine Zc (zG (r:=b) (o:=0) I rfl) (zz (aP.stb (cs':=[am,C,m,t]) 2 rfl rfl rfl (aP.sl 4 rfl:Sl zT bm C (n1++[(n.length:Int)])).cells ⟨rfl,Nat.le_of_ble_eq_true rfl,(all_cons (aP.sl 4 rfl:Sl zT bm C (n1++[(n.length:Int)])).oneV rfl)⟩ rfl) ?_)
   rintro _ bk ⟨rfl,dv,d6,H⟩
   refine Ze (ZB (Zi (Zc (zG (r:=c) (o:=0) ab rfl) (Zc (ZU (H.box 0 rfl) rfl rfl) (Zb _ ai (ckk hp fun bd hp=>?_))))))
   refine Zc (ZZ (H.rd0 s_s_Boxes.rd) rfl rfl bd) (Zc (zN (H.rd0 s_s_Boxes.rd) rfl (Zf bd) rfl) (Ze (zD hp rfl (fun bM hp=>?_) (fun bM hp=>?_))))
   ·refine Zi (Zc (Zbz (H.box 2 rfl) I rfl) (Zc (Zbz (H.box 0 rfl) ab rfl) (Zb _ ai ?_)))
    obtain ⟨x,⟨eE,dA,ca,bz,bA,bB,bC,c8,rfl,cB⟩,hp⟩:=bdk hp fun _=>Za3.ok (h:=bk) (n:=(⟨n,n1++[(n.length:Int)],n2,n3⟩:Zbb)) (s:=s) (v:=v) (H.toM [3,4,5,6,7] rfl (by decide)) (H.rdM [3,4,5,6,7] rfl s_s_Boxes.rd) (H.rdM [3,4,5,6,7] rfl s_s_Edges.rd)
    refine ZaI rfl rfl ca ?_
    have ad:=(H.callM [3,4,5,6,7] [0,1,2,8] rfl rfl (by decide) cB rfl).pick [0,1,2,900,901,902,903,904,3,4,5,6,7,8] rfl (by decide)
    refine zz (ad.stb (cs':=[bz,bA,bB,bC]) 2 rfl I rfl rfl ⟨rfl,Nat.le_of_ble_eq_true rfl,(all_cons (ad.sl 9 rfl).oneV (all_cons (ad.sl 10 rfl).oneV (all_cons (ad.sl 11 rfl).oneV (all_cons (ad.sl 12 rfl).oneV all_nil))))⟩ rfl) ?_
    rintro _ dB ⟨rfl,dw,d7,cm⟩
    refine Ze (Zbq (zM (Zav (Zo (zI (Zb _ ai (ckk hp fun b7 hp=>?_)))))))
    refine Zc (zc rfl rfl b7) (Zb (.n (v + 1)) rfl (Zg ?_))
    cases hp
    exact ⟨rfl,bz,bA,bB,bC,c8,ab,a1,I,rfl,(cm.pk [0,1,2,9,10,11,12,13])⟩
   ·refine Zas (Zi ?_)
    obtain ⟨x1,⟨eF,dC,cb,bE,rfl,cC⟩,hp⟩:=bdk hp fun _=>zk.ok (h:=bk)  
    refine ZaI rfl rfl cb ?_
    have ao:=H.call cC rfl
    refine Zb bE rfl (Ze (Zi (Zc (zG (r:=b) (o:=0) I rfl) (Zc (ZU (ao.box 2 rfl) rfl rfl) (Zb bE rfl (ckk hp fun b8 hp=>?_))))))
    refine zz (ao.app (bytes:=64) 3 ao.fr rfl (ao.sl 9 rfl) rfl rfl (fun _=>rfl) b8 (by decide)) ?_
    rintro J dD ⟨da,aQ⟩
    refine Zc (zG (r:=b) (o:=0) I rfl) (zz (aQ.stb (cs':=[J,C,m,t]) 2 rfl rfl rfl (aQ.sl 3 rfl).cells ⟨rfl,Nat.le_of_ble_eq_true rfl,(all_cons (aQ.sl 3 rfl).oneV rfl)⟩ rfl) ?_)
    rintro _ dE ⟨rfl,db,d8,cn⟩
    refine Ze (Zi (Zb (.n 0) rfl (Ze (Zaa (Zb7 hp (fun | (n8,d),fr,k=>fr 1=.p c 0∧fr 2=.p f 0∧fr 3=.p b 0∧fr 4=.n v∧fr 5=.n (n.length:Int)∧fr 7=.n d∧Own B h k [zP c [v_s_Boxes,v_s_Edges],zP f [.sn,.sn,.sn,.sn],zP b [J,C,m,t],eSl Zd J (n++x1),eSl zT C (n1++[(n.length:Int)]),eSl Zbf m n8,eSl eV t D,ZbW zT D n3]) (fun n9 e fr k=>e=(.exit 2)∧fr 1=.p c 0∧fr 2=.p f 0∧fr 3=.p b 0∧fr 4=.n v∧Own B h k [zP c [v_s_Boxes,v_s_Edges],zP f [.sn,.sn,.sn,.sn],zP b [J,C,m,t],eSl Zd J (n++x1),eSl zT C (n1++[(n.length:Int)]),eSl Zbf m n9,eSl eV t D,ZbW zT D n3]) ⟨ab,a1,I,ai,rfl,rfl,(cn.pk [0,1,2,3,4,5,6,7])⟩ ?_ ?_)))))
    ·rintro ⟨n8,d⟩ es cG ⟨a2,bp,bq,a3,cT,a4,ae⟩ el hp
     dsimp only [zl.s1] at hp
     refine ZB (Zi (Zb _ a4 (Zc (zF rfl rfl) (Ze (zD hp rfl (fun bN hp=>?_) (fun bN hp=>?_))))))
     ·refine Zas (ZB (Zaa (Zi (Zc (Zbz (ae.box 0 rfl) a2 rfl) (Zb _ a3 (Zb _ a4 ?_))))))
      obtain ⟨x2,⟨eG,dG,cc,a9,rfl,cD⟩,hp⟩:=bdk hp fun _=>Za4.ok (h:=cG)  (ae.rd0 s_s_Boxes.rd) (ae.rd0 s_s_Edges.rd)
      refine ZaI rfl rfl cc ?_
      have cp:=ae.call cD rfl
      refine Zb a9 rfl (Ze (Zi (Zb (.n 0) rfl (Ze (Zaa (Zb7 hp (fun | (n10,i),fr,k=>fr 1=.p c 0∧fr 2=.p f 0∧fr 3=.p b 0∧fr 4=.n v∧fr 5=.n (n.length:Int)∧fr 7=.n d∧fr 8=a9∧fr 9=.n i∧Own B h k [zP c [v_s_Boxes,v_s_Edges],zP f [.sn,.sn,.sn,.sn],zP b [J,C,m,t],eSl Zd J (n++x1),eSl zT C (n1++[(n.length:Int)]),eSl Zbf m n10,eSl eV t D,ZbW zT D n3,eSl zT a9 x2]) (fun n11 e fr k=>e=(.exit 4)∧fr 1=.p c 0∧fr 2=.p f 0∧fr 3=.p b 0∧fr 4=.n v∧fr 5=.n (n.length:Int)∧fr 7=.n d∧Own B h k [zP c [v_s_Boxes,v_s_Edges],zP f [.sn,.sn,.sn,.sn],zP b [J,C,m,t],eSl Zd J (n++x1),eSl zT C (n1++[(n.length:Int)]),eSl Zbf m n11,eSl eV t D,ZbW zT D n3]) ⟨a2,bp,bq,a3,cT,a4,rfl,rfl,(cp.pk [0,1,2,3,4,5,6,7,8])⟩ ?_ ?_))))))
      ·rintro ⟨n10,i⟩ eu bl ⟨br,bs,a5,bt,a6,bu,az,aA,aq⟩ em hp
       dsimp only [zl.s2] at hp
       refine ZB (Zi (Zb _ aA (Zb _ az (Zc (Zae (aq.sl 8 rfl) rfl) (Zc (zF rfl rfl) (Ze (zD hp rfl (fun bO hp=>?_) (fun bO hp=>?_))))))))
       ·refine Zas (ZB (Zaa (ZeH ?_)))
        have O:=aq.bump 16
        have ci:=Fresh.start bl 16
        have eh:∀ {i:Nat},h.n≤bl.n + i:=Nat.le_trans aq.n (Nat.le_add_right _ _)
        refine ZT (zG (r:=b) (o:=0) a5 rfl) (ZT (ZU (O.box 2 rfl) rfl rfl) (ZaU _ az (ZaU _ aA (ckk hp fun an hp=>ZT (ZZ (O.sl 8 rfl) rfl rfl an) (ZT (zN (O.sl 8 rfl) rfl (Zf an) rfl) (ckk hp fun b9 hp=>ZT (ZlG rfl rfl b9) ?_))))))
        refine ZaU _ az (ZaU _ aA (ZT (ZZ (O.sl 8 rfl) rfl rfl an) (ZT (zN (O.sl 8 rfl) rfl (Zf an) rfl) (ZT (Zc6 rfl rfl (by decide)) (ZaU _ a6 (ckk hp fun aM hp=>ZT (ZZ (O.sl 5 rfl) rfl rfl aM) (ckk hp fun aN hp=>?_)))))))
        refine ZT (ZaZ (O.sl 5 rfl) (Zf aM) rfl rfl aN rfl) (Zd1 (O.ste (y:=((gi n10 ((gi x2 i.toNat).tdiv 2:Int).toNat).set ((gi x2 i.toNat).tmod 2) (n.length:Int))) 5 rfl rfl (Zf aM) rfl rfl ⟨rfl,(by have:=aN; exact (show 0 + ((gi x2 i.toNat).tmod 2:Int).toNat * 1 + 1≤2 by omega)),rfl⟩ (ZiR aN)) ?_)
        rintro _ dJ eN ⟨rfl,cg,d9,cr⟩
        have dx:=ci.kept cg (by decide)
        refine Zcv ?_
        refine And.intro ?_ ?_
        ·intro q hq
         simp only [List.mem_cons,List.not_mem_nil,or_false] at hq
         rcases hq with rfl | rfl | rfl
         ·refine z9 ?_ ?_
          ·exact (fun h=>nomatch h)
          ·exact (fun h=>nomatch h)
         ·refine z9 ?_ ?_
          ·exact (fun h=>nomatch h)
          ·exact (fun h=>nomatch h)
         ·refine z9 ?_ ?_
          ·exact (fun h=>nomatch h)
          ·exact (fun h=>nomatch h)
        refine Zaf (Zo (zI (Zb _ aA (ckk hp fun bT hp=>Zc (zc rfl rfl bT) (Zb (.n (i + 1)) rfl (Zg ?_))))))
        cases hp
        exact ⟨rfl,br,bs,a5,bt,a6,bu,az,rfl,(cr.pk [0,1,2,3,4,5,6,7,8])⟩
       ·refine Zbq (zM ?_)
        cases hp
        exact ⟨nofun,rfl,br,bs,a5,bt,a6,bu,(aq.pk [0,1,2,3,4,5,6,7])⟩
      rintro n11 hp _ et dH ⟨rfl,cU,cV,cW,cX,cY,cZ,cq⟩
      refine Zav (Zaf (Zo (zI (Zb _ cZ (ckk hp fun bU hp=>Zc (zc rfl rfl bU) (Zb (.n (d + 1)) rfl (Zg ?_)))))))
      cases hp
      exact ⟨rfl,cU,cV,cW,cX,cY,rfl,(cq.pk [0,1,2,3,4,5,6,7])⟩
     ·refine Zbq (zM ?_)
      cases hp
      exact ⟨nofun,rfl,a2,bp,bq,a3,(ae.pk [0,1,2,3,4,5,6,7])⟩
    rintro n9 hp _ er dF ⟨rfl,cP,cQ,cR,cS,co⟩
    refine Zav (Zaf (Zo (zI (Zb _ cS (ckk hp fun bV hp=>Zc (zc rfl rfl bV) (Zb (.n (v + 1)) rfl (Zg ?_)))))))
    cases hp
    exact ⟨rfl,J,C,m,t,D,cP,cQ,cR,rfl,(co.pk [0,1,2,3,4,5,6,7])⟩
  ·refine Zbq (zM ?_)
   cases hp
   exact ⟨nofun,rfl,am,aJ,m,t,D,ab,a1,I,(N.pk [0,1,2,3,4,5,6,7])⟩
 rintro ⟨n4,n5,n6,n7⟩ hp _ eo dZ ⟨rfl,aD,g,j,aE,aK,cM,cN,cO,cx⟩
 refine Zav (Zo (ZB (Zi (Zb (.n 0) rfl (Ze (Zaa (Zb7 hp (fun | (n12,n13,i1),fr,k=>∃ aj F K,fr 1=.p c 0∧fr 2=.p f 0∧fr 3=.p b 0∧fr 10=.n i1∧Own B h k [zP c [v_s_Boxes,v_s_Edges],zP f [.sn,.sn,.sn,.sn],zP b [aj,g,j,F],eSl Zd aj n12,eSl zT g n5,eSl Zbf j n6,eSl eV F K,ZbW zT K n13]) (fun | (n14,n15),e,fr,k=>e=(.exit 6)∧∃ ak al aL,fr 2=.p f 0∧fr 3=.p b 0∧Own B h k [zP f [.sn,.sn,.sn,.sn],zP b [ak,g,j,al],eSl Zd ak n14,eSl zT g n5,eSl Zbf j n6,eSl eV al aL,ZbW zT aL n15]) ⟨aD,aE,aK,cM,cN,cO,rfl,(cx.pk [0,1,2,3,4,5,6,7])⟩ ?_ ?_)))))))
 ·rintro ⟨n12,n13,i1⟩ ew dL ⟨aj,F,K,a7,bw,a8,aB,A⟩ en hp
  dsimp only [zl.s3] at hp
  refine ZB (Zi (Zb _ aB (Zc (zG (r:=c) (o:=0) a7 rfl) (Zc (ZU (A.box 0 rfl) rfl rfl) (Zc (Zae (A.rd0 s_s_Edges.rd) rfl) (Zc (zF rfl rfl) (Zg ?_)))))))
  refine Zo (zD hp rfl (fun bP hp=>?_) (fun bP hp=>?_))
  ·refine Zas (ZB (Zaa (Zi (Zc (zG (r:=b) (o:=0) a8 rfl) (Zc (ZU (A.box 2 rfl) rfl rfl) (Zb _ aB ?_))))))
   refine ckk hp fun L hp=>Zc (ZZ (A.sl 5 rfl) rfl rfl L) (Zc (ZaZ (A.sl 5 rfl) (Zf L) rfl rfl (by decide) rfl) (Zc (zN (A.sl 5 rfl) rfl (Zf L) rfl) (Zb (.n ((gi n6 i1.toNat).get 0)) rfl (Ze (Zi ?_)))))
   refine Zc (zG (r:=c) (o:=0) a7 rfl) (Zc (ZU (A.box 0 rfl) rfl rfl) (Zb _ aB (ckk hp fun M hp=>Zc (ZZ (A.rd0 s_s_Edges.rd) rfl rfl M) (Zc (Zbo (A.rd0 s_s_Edges.rd) (Zf M) rfl rfl) (Zc (zN (A.rd0 s_s_Edges.rd) rfl (Zf M) rfl) (Zb (.n ((gi s.Edges i1.toNat).Dir)) rfl (Zg ?_)))))))
   refine Zo (Zi (Zb (.n ((gi n6 i1.toNat).get 0)) rfl (zz (A.bsl (E:=zT) (l:=[(gi n6 i1.toNat).get 0]) A.fr (by rw [(zp (v:=.n ((gi n6 i1.toNat).get 0)) rfl ZaN)]; rfl) rfl) ?_)))
   rintro bF dM ⟨eA,dc,ct⟩
   refine Zb bF rfl (Ze (ZB (Zi (Zb (.n 0) rfl (Ze ?_)))))
   refine Zaa (Zb7 hp (fun | (n16,at_,d1,way,k_),fr,k=>∃ aF aG,fr 1=.p c 0∧fr 2=.p f 0∧fr 3=.p b 0∧fr 10=.n i1∧fr 11=.n at_∧fr 12=.n d1∧fr 13=aG∧fr 14=.n k_∧Own B h k [zP c [v_s_Boxes,v_s_Edges],zP f [.sn,.sn,.sn,.sn],zP b [aF,g,j,F],eSl Zd aF n16,eSl zT g n5,eSl Zbf j n6,eSl eV F K,ZbW zT K n13,eSl zT aG way]) (fun | (n17,at_1,d2,way1),e,fr,k=>e=(.exit 8)∧∃ ba bb,fr 1=.p c 0∧fr 2=.p f 0∧fr 3=.p b 0∧fr 10=.n i1∧fr 11=.n at_1∧fr 12=.n d2∧fr 13=bb∧Own B h k [zP c [v_s_Boxes,v_s_Edges],zP f [.sn,.sn,.sn,.sn],zP b [ba,g,j,F],eSl Zd ba n17,eSl zT g n5,eSl Zbf j n6,eSl eV F K,ZbW zT K n13,eSl zT bb way1]) ⟨aj,bF,a7,bw,a8,aB,rfl,rfl,rfl,rfl,(ct.pk [0,1,2,3,4,5,6,7,8])⟩ ?_ ?_)
   ·rintro ⟨n16,at_,d1,way,k_⟩ ep cH ⟨aF,aG,ah,a0,S,aa,bn,ax,bo,ay,Q⟩ ej hp
    dsimp only [zl.s4] at hp
    refine ZB (Zi (Zb _ ay (Zc (zG (r:=c) (o:=0) ah rfl) (Zc (ZU (Q.box 0 rfl) rfl rfl) (Zb _ aa (Zc (ZZ (Q.rd0 s_s_Edges.rd) rfl rfl M) (Zc (Zbo (Q.rd0 s_s_Edges.rd) (Zf M) rfl rfl) ?_)))))))
    refine Zc (zN (Q.rd0 s_s_Edges.rd) rfl (Zf M) rfl) (Zc (ZhP rfl) (Zc (zF rfl rfl) (Ze (zD hp rfl (fun bQ hp=>?_) (fun bQ hp=>?_)))))
    ·refine Zas (ZB (Zaa (Zi (Zc (zG (r:=b) (o:=0) S rfl) (Zc (ZU (Q.box 2 rfl) rfl rfl) (Zc (Zae (Q.sl 3 rfl) rfl) ?_))))))
     refine Zb (.n (n16.length:Int)) rfl (Ze (Zi ?_))
     obtain ⟨x3,⟨eH,dN,cd,bH,rfl,cE⟩,hp⟩:=bdk hp fun _=>zk.ok (h:=cH)  
     refine ZaI rfl rfl cd ?_
     have ar:=Q.call cE rfl
     refine Zb bH rfl (Ze (Zi (Zc (zG (r:=b) (o:=0) S rfl) (Zc (ZU (ar.box 2 rfl) rfl rfl) (Zb bH rfl (ckk hp fun bW hp=>?_))))))
     refine zz (ar.app (bytes:=64) 3 ar.fr rfl (ar.sl 9 rfl) rfl rfl (fun _=>rfl) bW (by decide)) ?_
     rintro c6 dO ⟨dd,aS⟩
     refine Zc (zG (r:=b) (o:=0) S rfl) (zz (aS.stb (cs':=[c6,g,j,F]) 2 rfl rfl rfl (aS.sl 3 rfl).cells ⟨rfl,Nat.le_of_ble_eq_true rfl,(all_cons (aS.sl 3 rfl).oneV rfl)⟩ rfl) ?_)
     rintro _ cI ⟨rfl,de,ea,aT⟩
     refine Ze (Zi (Zc (zG (r:=b) (o:=0) S rfl) (Zc (ZU (aT.box 2 rfl) rfl rfl) (Zb _ bn (Zb _ ax (Zb (.n (n16.length:Int)) rfl ?_))))))
     refine Zb _ aa ?_
     obtain ⟨⟨x4,x5⟩,⟨eI,dP,ce,aH,rfl,cF⟩,hp⟩:=bdk hp fun _=>zR.ok (h:=cI) (l:=(n16++x3)) (v:=at_) (d:=d1) (w:=(n16.length:Int)) (o:=i1) (aT.toM [3] rfl (by decide)) 
     refine ZaI rfl rfl ce ?_
     have aU:=(aT.callM [3] [0,1,2,4,5,6,7,8,9] rfl rfl (by decide) cF rfl).pick [0,1,2,900,3,4,5,6,7,8,9] rfl (by decide)
     refine Zb (.tu [aH,.n x5]) rfl (Zc (Zbr rfl rfl) (Zc (Zbr rfl rfl) (Zc (zG (r:=b) (o:=0) S rfl) (zz (aU.stb (cs':=[aH,g,j,F]) 2 rfl rfl rfl (aU.sl 10 rfl).cells ⟨rfl,Nat.le_of_ble_eq_true rfl,(all_cons (aU.sl 10 rfl).oneV rfl)⟩ rfl) ?_))))
     rintro _ dQ ⟨rfl,df,eb,bg⟩
     refine Ze (Zi (Zb (.n (n16.length:Int)) rfl (Zb (.n (n16.length:Int)) rfl (Ze (ZB ?_)))))
     refine zI (Zb _ bo (Zb (.n (n16.length:Int)) rfl (zz (bg.bsl (E:=zT) (l:=[(n16.length:Int)]) bg.fr (by rw [(zp (v:=.n (n16.length:Int)) rfl ZaN)]; rfl) rfl) ?_)))
     rintro eL dR ⟨eB,dg,aV⟩
     refine ckk hp fun bX hp=>zz (aV.app (bytes:=8) 8 aV.fr rfl (aV.sl 11 rfl) rfl rfl (fun _=>rfl) bX (by decide)) ?_
     rintro bc dS ⟨dh,X⟩
     refine Zb bc rfl (Ze (Zi (Zc (zG (r:=c) (o:=0) ah rfl) (Zc (ZU (X.box 0 rfl) rfl rfl) (Zb _ aa (Zc (ZZ (X.rd0 s_s_Edges.rd) rfl rfl M) ?_))))))
     refine Zc (Zbo (X.rd0 s_s_Edges.rd) (Zf M) rfl rfl) (Zc (zN (X.rd0 s_s_Edges.rd) rfl (Zf M) rfl) (Zb _ ay (ckk hp fun bY hp=>Zc (ZkG (a:=((gi s.Edges i1.toNat).Bends)) (z:=k_) rfl rfl bY) (Zc (Zbl rfl rfl) (Ze (zD hp rfl (fun bR hp=>?_) (fun bR hp=>?_)))))))
     ·refine zI (Zb _ ax (ckk hp fun bZ hp=>Zc (zc rfl rfl bZ) (Zc (Zc6 rfl rfl (by decide)) (Zb (.n ((d1 + 1).tmod 4)) rfl (Zg (Zaf (Zo ?_)))))))
      refine zI (Zb _ ay (ckk hp fun b0 hp=>Zc (zc rfl rfl b0) (Zb (.n (k_ + 1)) rfl (Zg ?_))))
      cases hp
      exact ⟨rfl,aH,bc,ah,a0,S,aa,rfl,rfl,rfl,rfl,(X.pk [0,1,2,10,4,5,6,7,8])⟩
     ·refine zI (Zb _ ax (ckk hp fun b2 hp=>Zc (zc rfl rfl b2) (Zc (Zc6 rfl rfl (by decide)) (Zb (.n ((d1 + 3).tmod 4)) rfl (Zg (Zaf (Zo ?_)))))))
      refine zI (Zb _ ay (ckk hp fun b3 hp=>Zc (zc rfl rfl b3) (Zb (.n (k_ + 1)) rfl (Zg ?_))))
      cases hp
      exact ⟨rfl,aH,bc,ah,a0,S,aa,rfl,rfl,rfl,rfl,(X.pk [0,1,2,10,4,5,6,7,8])⟩
    ·refine Zbq (zM ?_)
     cases hp
     exact ⟨nofun,rfl,aF,aG,ah,a0,S,aa,bn,ax,bo,(Q.pk [0,1,2,3,4,5,6,7,8])⟩
   rintro ⟨n17,at_1,d2,way1⟩ hp _ ex aZ ⟨rfl,ba,bb,c1,c5,T,aC,c2,c3,c4,bf⟩
   refine Zav (Zo (ZB (ZeH ?_)))
   have R:=bf.bump 17
   have cj:=Fresh.start aZ 17
   have ei:∀ {i:Nat},h.n≤aZ.n + i:=Nat.le_trans bf.n (Nat.le_add_right _ _)
   refine ZT (zG (r:=b) (o:=0) T rfl) (ZT (ZU (R.box 2 rfl) rfl rfl) (ZaU _ c2 (ZaU _ c3 (ZT (zG (r:=b) (o:=0) T rfl) (ZT (ZU (R.box 2 rfl) rfl rfl) (ZaU _ aC (ZT (ZZ (R.sl 5 rfl) rfl rfl L) (ZT (ZaZ (R.sl 5 rfl) (Zf L) rfl rfl (by decide) rfl) ?_))))))))
   refine ZT (zN (R.sl 5 rfl) rfl (Zf L) rfl) (ZaU _ aC ?_)
   obtain ⟨⟨x6,x7⟩,⟨eJ,dT,cf,aI,rfl,bj⟩,hp⟩:=bdk hp fun _=>zR.ok (h:=(aZ.bump 17)) (l:=n17) (v:=at_1) (d:=d2) (w:=((gi n6 i1.toNat).get 1)) (o:=i1) (R.toM [3] rfl (by decide)) 
   refine Zi0 rfl rfl cf ?_
   have ck:=cj.callM (R.pick [3] rfl (by decide)).P bj
   have aW:=(R.callM [3] [0,1,2,4,5,6,7,8] rfl rfl (by decide) bj rfl).pick [0,1,2,900,3,4,5,6,7,8] rfl (by decide)
   refine ZaU (.tu [aI,.n x7]) rfl (ZT (Zbr rfl rfl) (ZT (Zbr rfl rfl) (ZT (zG (r:=b) (o:=0) T rfl) (Zd1 (aW.stb (cs':=[aI,g,j,F]) 2 rfl rfl rfl (aW.sl 9 rfl).cells ⟨rfl,Nat.le_of_ble_eq_true rfl,(all_cons (aW.sl 9 rfl).oneV rfl)⟩ rfl) ?_))))
   rintro _ dU eO ⟨rfl,ch,ec,Y⟩
   have dy:=ck.kept ch (by decide)
   refine Zcv ?_
   refine And.intro ?_ ?_
   ·intro q hq
    simp only [List.mem_cons,List.not_mem_nil,or_false] at hq
    rcases hq with rfl | rfl
    ·refine z9 ?_ ?_
     ·exact (fun h=>nomatch h)
     ·exact (fun h=>nomatch h)
    ·refine z9 ?_ ?_
     ·exact (fun h=>nomatch h)
     ·exact (fun h=>nomatch h)
   refine Zo (Zi (Zb _ c4 (Zc (zG (r:=b) (o:=0) T rfl) (Zc (ZU (Y.box 2 rfl) rfl rfl) (Zb _ aC (Zc (ZZ (Y.sl 5 rfl) rfl rfl L) (Zc (ZaZ (Y.sl 5 rfl) (Zf L) rfl rfl (by decide) rfl) ?_)))))))
   refine Zc (zN (Y.sl 5 rfl) rfl (Zf L) rfl) (zz (Y.bsl (E:=zT) (l:=[(gi n6 i1.toNat).get 1]) Y.fr (by rw [(zp (v:=.n ((gi n6 i1.toNat).get 1)) rfl ZaN)]; rfl) rfl) ?_)
   rintro c7 cJ ⟨eC,dj,aX⟩
   refine ckk hp fun b4 hp=>zz (aX.app (bytes:=8) 8 aX.fr rfl (aX.sl 10 rfl:Sl zT cJ c7 [(gi n6 i1.toNat).get 1]) rfl rfl (fun _=>rfl) b4 (by decide)) ?_
   rintro U cK ⟨dk,au⟩
   refine Zb U rfl (Ze (zI (Zc (zG (r:=b) (o:=0) T rfl) (Zc (ZU (au.box 2 rfl) rfl rfl) (Zb U rfl (zz (au.bsl (E:=eV) (l:=[U]) au.fr (by rw [(zp (v:=U) rfl ZaN)]; simp only [fill,(au.sl 8 rfl:Sl zT cK U (way1++[(gi n6 i1.toNat).get 1])).cells]; simp [over]) rfl) ?_))))))
   rintro eM cL ⟨eD,dl,af⟩
   refine ckk hp fun b5 hp=>zz (af.appV (bytes:=24) 6 af.fr rfl (af.sl 11 rfl) rfl rfl (by simp only [List.all_cons,List.all_nil,Bool.and_true]; exact (af.sl 8 rfl:Sl zT cL U (way1++[(gi n6 i1.toNat).get 1])).oneV) (by rw [(af.allLen 7 rfl:(K).length=(n13).length)]; exact b5) (by decide)) ?_
   rintro bJ dV ⟨dm,cu⟩
   have aY:=cu.absorb 7 8 rfl rfl (by decide)
   refine Zc (zG (r:=b) (o:=0) T rfl) (zz (aY.stb (cs':=[aI,g,j,bJ]) 2 rfl rfl rfl (aY.sl 6 rfl).cells ⟨rfl,Nat.le_of_ble_eq_true rfl,(all_cons (aY.sl 6 rfl).oneV rfl)⟩ rfl) ?_)
   rintro _ dW ⟨rfl,dn,ed,cv⟩
   refine Zg (Zaf (Zo (zI (Zb _ aC (ckk hp fun b6 hp=>Zc (zc rfl rfl b6) (Zb (.n (i1 + 1)) rfl (Zg ?_)))))))
   cases hp
   exact ⟨rfl,aI,bJ,K++[U],c1,c5,T,rfl,(cv.pk [0,1,2,9,4,5,6,7])⟩
  ·refine Zbq (zM ?_)
   cases hp
   exact ⟨nofun,rfl,aj,F,K,bw,a8,(A.pk [1,2,3,4,5,6,7])⟩
 rintro ⟨n14,n15⟩ hp _ ev dK ⟨rfl,ak,al,aL,bv,c0,W⟩
 refine Zav (Zo (Zi (Zc (Zbz (W.box 1 rfl) c0 rfl) (zz (W.stb (cs':=[ak,g,j,al]) 0 rfl bv rfl rfl ⟨rfl,Nat.le_of_ble_eq_true rfl,(all_cons (W.sl 2 rfl).oneV (all_cons (W.sl 3 rfl).oneV (all_cons (W.sl 4 rfl).oneV (all_cons (W.sl 5 rfl).oneV all_nil))))⟩ rfl) ?_))))
 rintro _ dX ⟨rfl,dp,d5,bi⟩
 refine Ze (Zar (z4 (Zgs bv (bi.box 0 rfl) rfl ZK) ?_))
 cases hp
 exact ⟨ak,g,j,al,aL,rfl,(bi.pk [2,3,4,5,6])⟩

theorem Zb8.ok {h:Hp} {z:ZcB} {v_z_Places_At:V} {v_z_Places_Bits:V} {v_z_Places_Own:V} {v_z_Shape_Boxes:V} {v_z_Shape_Edges:V} {v_z_Shape_Bends:V} {v_z_Raw:V} {v_z_Picks:V} (s_z_Places_At:Sl ZhA h v_z_Places_At z.Places.At) (s_z_Places_Bits:Sl ZhA h v_z_Places_Bits z.Places.Bits) (s_z_Places_Own:Sl Zln h v_z_Places_Own z.Places.Own) (s_z_Shape_Boxes:Sl e_bool h v_z_Shape_Boxes z.Shape.Boxes) (s_z_Shape_Edges:Sl Zgv h v_z_Shape_Edges z.Shape.Edges) (s_z_Shape_Bends:Sl ZhA h v_z_Shape_Bends z.Shape.Bends) (s_z_Raw:Sl Zd h v_z_Raw z.Raw) (s_z_Picks:Sl e_bool h v_z_Picks z.Picks) {r:Bool} (hp:Zb8 z=some r) :
  ∃ u k',Is G 163 [.ag [v_z_Places_At,v_z_Places_Bits,v_z_Places_Own,v_z_Shape_Boxes,v_z_Shape_Edges,v_z_Shape_Bends,v_z_Raw,v_z_Picks]] h u k'∧V.b r=u∧Own (fun r=>r < h.n) h k' []:=by
 refine WC.is (ZaP Zda ?_)
 unfold Zb8 at hp
 let B:Nat→Prop:=(fun r=>r < h.n)
 have hO:Own B h h []:=Own.start0 h
 refine Zi (zz (hO.boxd (cs:=[v_z_Places_At,v_z_Places_Bits,v_z_Places_Own,v_z_Shape_Boxes,v_z_Shape_Edges,v_z_Shape_Bends,v_z_Raw,v_z_Picks]) hO.fr rfl rfl) ?_)
 rintro _ aI ⟨e,rfl,a5,aN,g⟩
 refine Zb (.b false) rfl (Ze (Zi (Zc (zG (r:=e) (o:=0) rfl rfl) (Zc (ZU (g.box 0 rfl) rfl rfl) (Zc (zG (r:=e) (o:=0) rfl rfl) (Zc (ZU (g.box 0 rfl) rfl rfl) ?_))))))
 refine Zc (Zae (g.rd0 s_z_Picks.rd) rfl) (Zc (Znd rfl rfl) (ckk hp fun F hp=>Zc (Zke (E:=e_bool) (z:=(min (z.Picks.length:Int) 20)) (g.rd0 s_z_Picks.rd) rfl rfl F) (Zb ((V.cut v_z_Picks 0 (min (z.Picks.length:Int) 20:Int).toNat)) rfl (Ze (Zi ?_)))))
 refine Zc (zG (r:=e) (o:=0) rfl rfl) (Zc (Zbz (g.box 0 rfl) rfl rfl) ?_)
 obtain ⟨⟨x,x1⟩,⟨a8,aL,ad,q,D,rfl,ax⟩,hp⟩:=bdk hp fun _=>ZV.ok (h:=aI)  (g.rd0 s_z_Places_At.rd) (g.rd0 s_z_Places_Bits.rd) (g.rd0 s_z_Places_Own.rd)
 refine ZaI rfl rfl ad ?_
 have A:=g.call ax rfl
 refine Zb (.tu [q,D]) rfl (Zc (Zbr rfl rfl) (Zc (Zbr rfl rfl) (Zb q rfl (Zb D rfl (Ze (Zi ?_))))))
 refine Zc (zG (r:=e) (o:=0) rfl rfl) (Zc (Zbz (A.box 0 rfl) rfl rfl) ?_)
 obtain ⟨x2,⟨a9,aZ,ae,l,m,rfl,ay⟩,hp⟩:=bdk hp fun _=>zQ.ok (h:=aL)  (A.rd0 s_z_Shape_Boxes.rd) (A.rd0 s_z_Shape_Edges.rd) (A.rd0 s_z_Shape_Bends.rd)
 refine ZaI rfl rfl ae ?_
 have W:=A.call ay rfl
 refine zz (W.alloc (cs:=[.sn,.sn]) W.fr) ?_
 rintro _ a0 ⟨C,rfl,a6,aO,J⟩
 refine zz (J.stb (cs':=[l,m]) 5 rfl rfl rfl rfl ⟨rfl,Nat.le_of_ble_eq_true rfl,(all_cons (J.sl 3 rfl).oneV (all_cons (J.sl 4 rfl).oneV all_nil))⟩ rfl) ?_
 rintro _ aM ⟨rfl,aP,a3,au⟩
 refine Ze (ZB (Zi ?_))
 obtain ⟨x3,⟨ba,Y,af,rfl,az⟩,hp⟩:=bdk hp fun _=>Zct.ok (h:=aM)  
 refine ZaI rfl Zkp af ?_
 have H:=au.call az rfl
 refine Zc (ZcO rfl) (Zb (.b (!x3)) rfl ?_)
 obtain ⟨t,aF,hp⟩:=ZaH hp
 refine zK 5 (fun f k=>Own B h k [zP e [v_z_Places_At,v_z_Places_Bits,v_z_Places_Own,v_z_Shape_Boxes,v_z_Shape_Edges,v_z_Shape_Bends,v_z_Raw,v_z_Picks],eSl Zd q x,eSl ZH D x1,eSl e_bool l x2.Boxes,eSl z1 m x2.Edges,zP C [l,m]]∧f 31=.b t∧f 1=.p e 0∧f 3=(V.cut v_z_Picks 0 (min (z.Picks.length:Int) 20:Int).toNat)∧f 6=.p C 0) ?_ ?_
 ·clear hp; rcases ZaR aF with ⟨c,hp⟩ | ⟨c,hp⟩
  ·refine Zh rfl c (Zh rfl c (Zh rfl c (Zh rfl c (Zc (ZaF (v:=.b t) rfl c (Eq.trans (b:=V.b true) rfl (congrArg V.b (Option.some.inj hp)))) (Zg ?_)))))
   exact ⟨H.pk [0,1,2,3,4,5],rfl,rfl,rfl,rfl⟩
  ·refine Zp rfl c (Zb q rfl (Zp rfl c (Zb ((V.cut v_z_Picks 0 (min (z.Picks.length:Int) 20:Int).toNat)) rfl (Zp rfl c ?_))))
   obtain ⟨x4,⟨bb,a1,ah,rfl,aA⟩,hp⟩:=bdk hp fun _=>Zbc.ok (h:=Y)  (H.sl 1 rfl) (Sl.cutU (H.rd0 s_z_Picks.rd) F:Sl e_bool Y (V.cut v_z_Picks 0 (min (z.Picks.length:Int) 20:Int).toNat) (z.Picks.take (min (z.Picks.length:Int) 20:Int).toNat))
   refine ZaI rfl rfl ah ?_
   have av:=H.call aA rfl
   refine Zp rfl c (Zc (ZcO rfl) (Zc (Za5 (v:=.b t) rfl c (Eq.trans (b:=V.b (!x4)) rfl (congrArg V.b (Option.some.inj hp)))) (Zg ?_)))
   exact ⟨av.pk [0,1,2,3,4,5],rfl,rfl,rfl,rfl⟩
 rintro aS K ⟨i,am,R,I,S⟩
 refine Zb _ am ?_
 obtain ⟨t1,aG,hp⟩:=ZaH hp
 refine zK 11 (fun f k=>Own B h k [zP e [v_z_Places_At,v_z_Places_Bits,v_z_Places_Own,v_z_Shape_Boxes,v_z_Shape_Edges,v_z_Shape_Bends,v_z_Raw,v_z_Picks],eSl Zd q x,eSl ZH D x1,eSl e_bool l x2.Boxes,eSl z1 m x2.Edges,zP C [l,m]]∧f 43=.b t1∧f 3=(V.cut v_z_Picks 0 (min (z.Picks.length:Int) 20:Int).toNat)∧f 6=.p C 0) ?_ ?_
 ·clear hp; rcases ZaR aG with ⟨a,hp⟩ | ⟨a,hp⟩
  ·refine Zh rfl a (Zh rfl a (Zh rfl a (Zh rfl a (Zh rfl a (Zh rfl a (Zh rfl a (Zh rfl a (Zh rfl a ?_))))))))
   refine Zh rfl a (Zc (ZaF (v:=.b t1) rfl a (Eq.trans (b:=V.b true) rfl (congrArg V.b (Option.some.inj hp)))) (Zg ?_))
   exact ⟨i.pk [0,1,2,3,4,5],rfl,I,S⟩
  ·refine Zp rfl a (Zc (zG (r:=e) (o:=0) R rfl) (Zp rfl a (Zc (ZU (i.box 0 rfl) rfl rfl) (Zp rfl a (Zc (zG (r:=e) (o:=0) R rfl) (Zp rfl a (Zc (ZU (i.box 0 rfl) rfl rfl) (Zp rfl a ?_))))))))
   refine Zc (Zae (i.rd0 s_z_Raw.rd) rfl) (Zp rfl a (Zc (Znd rfl rfl) (Zp rfl a (ckk hp fun Q hp=>Zc (Zke (E:=Zd) (z:=(min (z.Raw.length:Int) 4)) (i.rd0 s_z_Raw.rd) rfl rfl Q) (Zp rfl a (Zb _ I (Zp rfl a ?_)))))))
   obtain ⟨x5,⟨bc,a2,ai,rfl,aB⟩,hp⟩:=bdk hp fun _=>Zbc.ok (h:=K)  (Sl.cutU (i.rd0 s_z_Raw.rd) Q:Sl Zd K (V.cut v_z_Raw 0 (min (z.Raw.length:Int) 4:Int).toNat) (z.Raw.take (min (z.Raw.length:Int) 4:Int).toNat)) (Sl.cutU (i.rd0 s_z_Picks.rd) F:Sl e_bool K (V.cut v_z_Picks 0 (min (z.Picks.length:Int) 20:Int).toNat) (z.Picks.take (min (z.Picks.length:Int) 20:Int).toNat))
   refine ZaI rfl rfl ai ?_
   have aw:=i.call aB rfl
   refine Zp rfl a (Zc (ZcO rfl) (Zc (Za5 (v:=.b t1) rfl a (Eq.trans (b:=V.b (!x5)) rfl (congrArg V.b (Option.some.inj hp)))) (Zg ?_)))
   exact ⟨aw.pk [0,1,2,3,4,5],rfl,I,S⟩
 rintro aT aJ ⟨s,ao,an,T⟩
 refine Ze (zD hp ao (fun ab hp=>?_) (fun ab hp=>?_))
 ·refine Zi (Zb (.b false) rfl (Ze (Zar (zE (z4 (zX rfl ZK) ?_)))))
  cases hp
  exact ⟨rfl,(s.pk [])⟩
 ·refine Zas (ZB (Zi (Zc (Zbz (s.box 5 rfl) T rfl) ?_)))
  obtain ⟨x6,⟨bd,aK,aj,rfl,aC⟩,hp⟩:=bdk hp fun _=>zw.ok (h:=aJ)  (s.sl 3 rfl) (s.sl 4 rfl)
  refine ZaI rfl rfl aj ?_
  have w:=s.call aC rfl
  refine Zc (Zc5 rfl rfl) (Ze (zD hp rfl (fun ac hp=>?_) (fun ac hp=>?_)))
  ·refine Zi (Zb (.b true) rfl (Ze (Zar (zE (z4 (zX rfl ZK) ?_)))))
   cases hp
   exact ⟨rfl,(w.pk [])⟩
  ·refine Zas (Zi (Zc (Zbz (w.box 5 rfl) T rfl) ?_))
   obtain ⟨x7,⟨be,aV,ak,M,N,O,P,aa,rfl,aD⟩,hp⟩:=bdk hp fun _=>zl.ok (h:=aK)  (w.sl 3 rfl) (w.sl 4 rfl)
   refine ZaI rfl rfl ak ?_
   have U:=w.call aD rfl
   refine zz (U.alloc (cs:=[.sn,.sn,.sn,.sn]) U.fr) ?_
   rintro _ aW ⟨L,rfl,a7,aQ,y⟩
   refine zz (y.stb (cs':=[M,N,O,P]) 11 rfl rfl rfl rfl ⟨rfl,Nat.le_of_ble_eq_true rfl,(all_cons (y.sl 6 rfl).oneV (all_cons (y.sl 7 rfl).oneV (all_cons (y.sl 8 rfl).oneV (all_cons (y.sl 9 rfl).oneV all_nil))))⟩ rfl) ?_
   rintro _ X ⟨rfl,aR,a4,j⟩
   refine Ze (Zi (Zc (zG (r:=L) (o:=0) rfl rfl) (Zc (ZU (j.box 11 rfl) rfl rfl) (Zc (Zae (j.sl 6 rfl) rfl) (Zc (Zd2 rfl rfl) (Zb (.b (decide (30 < (x7.Cells.length:Int)))) rfl ?_))))))
   obtain ⟨t2,aH,hp⟩:=ZaH hp
   refine zK 5 (fun f k=>Own B h k [zP e [v_z_Places_At,v_z_Places_Bits,v_z_Places_Own,v_z_Shape_Boxes,v_z_Shape_Edges,v_z_Shape_Bends,v_z_Raw,v_z_Picks],eSl Zd q x,eSl ZH D x1,eSl e_bool l x2.Boxes,eSl z1 m x2.Edges,zP C [l,m],eSl Zd M x7.Cells,eSl zT N x7.First,eSl Zbf O x7.Ends,eSl eV P aa,ZbW zT aa x7.Ways,zP L [M,N,O,P]]∧f 58=.b t2) ?_ ?_
   ·clear hp; rcases ZaR aH with ⟨d,hp⟩ | ⟨d,hp⟩
    ·refine Zh rfl d (Zh rfl d (Zh rfl d (Zh rfl d (Zc (ZaF (v:=.b t2) rfl d (Eq.trans (b:=V.b true) rfl (congrArg V.b (Option.some.inj hp)))) (Zg ?_)))))
     exact ⟨j.pk [0,1,2,3,4,5,6,7,8,9,10,11],rfl⟩
    ·refine Zp rfl d (Zc (zG (r:=L) (o:=0) rfl rfl) (Zp rfl d (Zc (ZU (j.box 11 rfl) rfl rfl) (Zp rfl d (Zb _ an (Zp rfl d ?_))))))
     obtain ⟨x8,⟨bf,aX,al,rfl,aE⟩,hp⟩:=bdk hp fun _=>Zbc.ok (h:=X)  (j.sl 6 rfl) (Sl.cutU (j.rd0 s_z_Picks.rd) F:Sl e_bool X (V.cut v_z_Picks 0 (min (z.Picks.length:Int) 20:Int).toNat) (z.Picks.take (min (z.Picks.length:Int) 20:Int).toNat))
     refine ZaI rfl rfl al ?_
     have aq:=j.call aE rfl
     refine Zc (Za5 (v:=.b t2) rfl d (Eq.trans (b:=V.b x8) rfl (congrArg V.b (Option.some.inj hp)))) (Zg ?_)
     exact ⟨aq.pk [0,1,2,3,4,5,6,7,8,9,10,11],rfl⟩
   rintro aU aY ⟨ar,ap⟩
   refine Zb _ ap (Ze (Zar (z4 (zX rfl ZK) ?_)))
   cases hp
   exact ⟨rfl,(ar.pk [])⟩

end Mu
