/- The code comes to what was worked out. -/
import Derived.Test.YtfdidkebomeiaaaMuDf
import Derived.Test.YtfdidkebomeiaaaMuPa
import Derived.Test.YtfdidkebomeiaaaMuC4
set_option linter.unusedVariables false
set_option linter.unnecessarySimpa false
set_option linter.unusedSimpArgs false
set_option maxHeartbeats 2000000
set_option maxRecDepth 10000
namespace Mu
open Go (IntKind BinOp UnOp)
theorem Za1.ok {h:Hp}{n:Zbf}{s:zX}{v:Int}{v_n_Cells:V}{v_n_First:V}{v_n_Ends:V}{v_n_Ways:V}{vs_n_Ways:List V}{v_s_Boxes:V}{v_s_Edges:V}(H:Own (Bm h [eSl Zd v_n_Cells n.Cells,eSl Zad v_n_First n.First,eSl Zbk v_n_Ends n.Ends,eSl eV v_n_Ways vs_n_Ways,Zci Zad vs_n_Ways n.Ways]) h h [eSl Zd v_n_Cells n.Cells,eSl Zad v_n_First n.First,eSl Zbk v_n_Ends n.Ends,eSl eV v_n_Ways vs_n_Ways,Zci Zad vs_n_Ways n.Ways]) (s_s_Boxes:Rd (Bm h [eSl Zd v_n_Cells n.Cells,eSl Zad v_n_First n.First,eSl Zbk v_n_Ends n.Ends,eSl eV v_n_Ways vs_n_Ways,Zci Zad vs_n_Ways n.Ways]) h e_bool v_s_Boxes s.Boxes) (s_s_Edges:Rd (Bm h [eSl Zd v_n_Cells n.Cells,eSl Zad v_n_First n.First,eSl Zbk v_n_Ends n.Ends,eSl eV v_n_Ways vs_n_Ways,Zci Zad vs_n_Ways n.Ways]) h zt v_s_Edges s.Edges) {r:Zbf}(hp:Za1 n s v=some r) :
  ∃ u k',Is G 200 [.ag [v_n_Cells,v_n_First,v_n_Ends,v_n_Ways],.ag [v_s_Boxes,v_s_Edges],.n v] h u k'∧∃ aG aI aJ aK aN,V.ag [aG,aI,aJ,aK]=u∧Own (Bm h [eSl Zd v_n_Cells n.Cells,eSl Zad v_n_First n.First,eSl Zbk v_n_Ends n.Ends,eSl eV v_n_Ways vs_n_Ways,Zci Zad vs_n_Ways n.Ways]) h k' [eSl Zd aG r.Cells,eSl Zad aI r.First,eSl Zbk aJ r.Ends,eSl eV aK aN,Zci Zad aN r.Ways]:=by
 refine WC.is (ZaD Zfa ?_)
 unfold Za1 at hp
 let B:Nat→Prop:=(Bm h [eSl Zd v_n_Cells n.Cells,eSl Zad v_n_First n.First,eSl Zbk v_n_Ends n.Ends,eSl eV v_n_Ways vs_n_Ways,Zci Zad vs_n_Ways n.Ways])
 have hO:Own B h h [eSl Zd v_n_Cells n.Cells,eSl Zad v_n_First n.First,eSl Zbk v_n_Ends n.Ends,eSl eV v_n_Ways vs_n_Ways,Zci Zad vs_n_Ways n.Ways]:=H
 refine Zg (zQ (hO.boxd (cs:=[v_n_Cells,v_n_First,v_n_Ends,v_n_Ways]) hO.fr rfl rfl) ?_)
 rintro _ _ ⟨a,rfl,_,_,ap⟩
 refine zQ (ap.boxd (cs:=[v_s_Boxes,v_s_Edges]) ap.fr rfl rfl) ?_
 rintro _ _ ⟨A,rfl,_,_,aq⟩
 refine zQ (aq.alloc (cs:=[.sn,.sn,.sn,.sn]) aq.fr) ?_
 rintro _ be ⟨g,rfl,_,_,Y⟩
 refine Ze (Zg (Zc (Zal (r:=a) (o:=0) rfl rfl) (Zc (zy (Y.box 5 rfl) rfl rfl) (Zc (Zap (Y.sl 0 rfl) rfl) (Zb (.n (n.Cells.length:Int)) rfl (Ze (Zg ?_)))))))
 obtain ⟨x,⟨_,_,aV,aL,rfl,a5⟩,hp⟩:=bdk hp fun _=>ZO.ok (h:=be)  
 refine zU rfl rfl aV ?_
 have L:=Y.call a5 rfl
 refine Zb aL rfl (Ze (Zg (Zc (Zal (r:=a) (o:=0) rfl rfl) (Zc (zy (L.box 5 rfl) rfl rfl) (Zb aL rfl (ckk hp fun aQ hp=>zQ (L.app (bytes:=64) 0 L.fr rfl (L.sl 8 rfl) rfl rfl (fun _=>rfl) aQ (by decide)) ?_))))))
 rintro aM _ ⟨_,aa⟩
 refine Zc (Zal (r:=a) (o:=0) rfl rfl) (zQ (aa.stb (cs':=[aM,v_n_First,v_n_Ends,v_n_Ways]) 5 rfl rfl rfl (aa.sl 0 rfl).cells ⟨rfl,Nat.le_of_ble_eq_true rfl,(all_cons (aa.sl 0 rfl).oneV rfl)⟩ rfl) ?_)
 rintro _ _ ⟨rfl,_,_,a4⟩
 refine Ze (Z9 (Zg (Zb (.n 0) rfl (Ze (Zai (ZbM hp (fun|(n1,n2,d),fr,k=>∃ D,fr 2=.n v∧fr 3=.p a 0∧fr 4=.p A 0∧fr 6=.p g 0∧fr 7=.n (n.Cells.length:Int)∧fr 9=.n d∧Own B h k [zO a [D,v_n_First,v_n_Ends,v_n_Ways],eSl Zd D n1,eSl Zad v_n_First n.First,eSl Zbk v_n_Ends n2,eSl eV v_n_Ways vs_n_Ways,Zci Zad vs_n_Ways n.Ways,zO A [v_s_Boxes,v_s_Edges],zO g [.sn,.sn,.sn,.sn]]) (fun|(n3,n4),e,fr,k=>e=(.exit 0)∧∃ F,fr 3=.p a 0∧fr 6=.p g 0∧Own B h k [zO a [F,v_n_First,v_n_Ends,v_n_Ways],eSl Zd F n3,eSl Zad v_n_First n.First,eSl Zbk v_n_Ends n4,eSl eV v_n_Ways vs_n_Ways,Zci Zad vs_n_Ways n.Ways,zO g [.sn,.sn,.sn,.sn]]) ⟨aM,rfl,rfl,rfl,rfl,rfl,rfl,(a4.pk [5,0,1,2,3,4,6,7])⟩ ?_ ?_))))))
 ·rintro ⟨n1,n2,d⟩ _ _ ⟨D,av,aw,ax,ay,b,t,ab⟩ _ hp
  dsimp only [Za1.s0] at hp
  refine Z9 (Zg (Zb _ t (Zc (zA rfl rfl) (Ze (zu hp rfl (fun aO hp=>?_) (fun aO hp=>?_))))))
  ·refine Zak (Z9 (Zai (Zg (Zb _ b (ckk hp fun aj hp=>Zc (ZV rfl rfl aj) (Zb _ b (ckk hp fun ak hp=>Zc (ZV rfl rfl ak) (Zb _ b (Zb _ b ?_)))))))))
   refine zQ (ab.bsl (E:=Zad) (l:=[(n.Cells.length:Int)+1,(n.Cells.length:Int)+3,(n.Cells.length:Int),(n.Cells.length:Int)]) ab.fr (by rw [(zf (v:=.n ((n.Cells.length:Int)+1)) rfl (zf (v:=.n ((n.Cells.length:Int)+3)) rfl (zf (v:=.n (n.Cells.length:Int)) rfl (zf (v:=.n (n.Cells.length:Int)) rfl Zbb))))];rfl) rfl) ?_
   rintro _ _ ⟨_,_,M⟩
   refine Zb _ t (ckk hp fun al hp=>Zc (ZP (M.sl 8 rfl) rfl rfl al) (Zc (zw (M.sl 8 rfl) rfl (Zf al) rfl) (Zb (.n (gi [(n.Cells.length:Int)+1,(n.Cells.length:Int)+3,(n.Cells.length:Int),(n.Cells.length:Int)] d.toNat)) rfl (Ze (Zg (Zb _ b (ckk hp fun am hp=>Zc (ZV rfl rfl am) (Zb _ b (Zc (ZV rfl rfl am) ?_)))))))))
   refine Zb _ b (Zc (ZV rfl rfl ak) (Zb _ b (Zc (ZV rfl rfl aj) (zQ (M.bsl (E:=Zad) (l:=[(n.Cells.length:Int)+2,(n.Cells.length:Int)+2,(n.Cells.length:Int)+3,(n.Cells.length:Int)+1]) M.fr (by rw [(zf (v:=.n ((n.Cells.length:Int)+2)) rfl (zf (v:=.n ((n.Cells.length:Int)+2)) rfl (zf (v:=.n ((n.Cells.length:Int)+3)) rfl (zf (v:=.n ((n.Cells.length:Int)+1)) rfl Zbb))))];rfl) rfl) ?_))))
   rintro _ _ ⟨_,_,J⟩
   refine Zb _ t (ckk hp fun an hp=>Zc (ZP (J.sl 9 rfl) rfl rfl an) (Zc (zw (J.sl 9 rfl) rfl (Zf an) rfl) (Zb (.n (gi [(n.Cells.length:Int)+2,(n.Cells.length:Int)+2,(n.Cells.length:Int)+3,(n.Cells.length:Int)+1] d.toNat)) rfl (Ze (Zg (zQ (J.bsl (E:=Zad) (l:=([1,0,1,0]:List Int)) J.fr (by rw [(zf (v:=.n 1) rfl (zf (v:=.n 0) rfl (zf (v:=.n 1) rfl (zf (v:=.n 0) rfl Zbb))))];rfl) rfl) ?_))))))
   rintro _ ba ⟨_,_,j⟩
   refine Zb _ t (ckk hp fun ao hp=>Zc (ZP (j.sl 10 rfl) rfl rfl ao) (Zc (zw (j.sl 10 rfl) rfl (Zf ao) rfl) (Zb (.n (gi ([1,0,1,0]:List Int) d.toNat)) rfl (Ze (Zg (Zc (ZbI (j.box 6 rfl) ax rfl) (Zb _ av (Zb _ t ?_))))))))
   obtain ⟨x1,⟨_,_,aW,ae,rfl,a6⟩,hp⟩:=bdk hp fun _=>Za3.ok (h:=ba)  (j.rd0 s_s_Boxes) (j.rd0 s_s_Edges)
   refine zU rfl rfl aW ?_
   have a0:=j.call a6 rfl
   refine Zb ae rfl (Ze (Z9 (Zg (Zb (.n 0) rfl (Ze (Zai (ZbM hp (fun|(n5,n6,from_,i),fr,k=>∃ P,fr 2=.n v∧fr 3=.p a 0∧fr 4=.p A 0∧fr 6=.p g 0∧fr 7=.n (n.Cells.length:Int)∧fr 9=.n d∧fr 10=.n from_∧fr 11=.n (gi [(n.Cells.length:Int)+2,(n.Cells.length:Int)+2,(n.Cells.length:Int)+3,(n.Cells.length:Int)+1] d.toNat)∧fr 12=.n (gi ([1,0,1,0]:List Int) d.toNat)∧fr 13=ae∧fr 14=.n i∧Own B h k [zO a [P,v_n_First,v_n_Ends,v_n_Ways],eSl Zd P n5,eSl Zad v_n_First n.First,eSl Zbk v_n_Ends n6,eSl eV v_n_Ways vs_n_Ways,Zci Zad vs_n_Ways n.Ways,zO A [v_s_Boxes,v_s_Edges],zO g [.sn,.sn,.sn,.sn],eSl Zad ae x1]) (fun|(n7,n8,from_1),e,fr,k=>e=(.exit 2)∧∃ af,fr 2=.n v∧fr 3=.p a 0∧fr 4=.p A 0∧fr 6=.p g 0∧fr 7=.n (n.Cells.length:Int)∧fr 9=.n d∧fr 10=.n from_1∧fr 11=.n (gi [(n.Cells.length:Int)+2,(n.Cells.length:Int)+2,(n.Cells.length:Int)+3,(n.Cells.length:Int)+1] d.toNat)∧fr 12=.n (gi ([1,0,1,0]:List Int) d.toNat)∧Own B h k [zO a [af,v_n_First,v_n_Ends,v_n_Ways],eSl Zd af n7,eSl Zad v_n_First n.First,eSl Zbk v_n_Ends n8,eSl eV v_n_Ways vs_n_Ways,Zci Zad vs_n_Ways n.Ways,zO A [v_s_Boxes,v_s_Edges],zO g [.sn,.sn,.sn,.sn]]) ⟨D,av,aw,ax,ay,b,t,rfl,rfl,rfl,rfl,rfl,(a0.pk [0,1,2,3,4,5,6,7,11])⟩ ?_ ?_)))))))
   ·rintro ⟨n5,n6,from_,i⟩ _ bc ⟨P,aB,f,aC,aD,aE,aF,az,aA,ad,N,O,C⟩ _ hp
    dsimp only [Za1.s1] at hp
    refine Z9 (Zg (Zb _ O (Zb _ N (Zc (Zap (C.sl 8 rfl) rfl) (Zc (zA rfl rfl) (Ze (zu hp rfl (fun aP hp=>?_) (fun aP hp=>?_))))))))
    ·refine Zak (Z9 (Zai (Zg (Zc (Zal (r:=a) (o:=0) f rfl) (Zc (zy (C.box 0 rfl) rfl rfl) (Zc (Zap (C.sl 1 rfl) rfl) (Zb (.n (n5.length:Int)) rfl (Ze (Zg ?_)))))))))
     obtain ⟨x2,⟨_,_,aX,aH,rfl,a7⟩,hp⟩:=bdk hp fun _=>ZO.ok (h:=bc)  
     refine zU rfl rfl aX ?_
     have K:=C.call a7 rfl
     refine Zb aH rfl (Ze (Zg (Zc (Zal (r:=a) (o:=0) f rfl) (Zc (zy (K.box 0 rfl) rfl rfl) (Zb aH rfl (ckk hp fun aU hp=>zQ (K.app (bytes:=64) 1 K.fr rfl (K.sl 9 rfl) rfl rfl (fun _=>rfl) aU (by decide)) ?_))))))
     rintro bo _ ⟨_,T⟩
     refine Zc (Zal (r:=a) (o:=0) f rfl) (zQ (T.stb (cs':=[bo,v_n_First,v_n_Ends,v_n_Ways]) 0 rfl rfl rfl (T.sl 1 rfl).cells ⟨rfl,Nat.le_of_ble_eq_true rfl,(all_cons (T.sl 1 rfl).oneV rfl)⟩ rfl) ?_)
     rintro _ _ ⟨rfl,_,_,a1⟩
     refine Ze (Z9 (Zgp ?_))
     have c:=a1.bump 16
     refine z8 (Zal (r:=a) (o:=0) f rfl) (z8 (zy (c.box 0 rfl) rfl rfl) (Zbl _ N (Zbl _ O (ckk hp fun I hp=>z8 (ZP (c.sl 8 rfl) rfl rfl I) (z8 (zw (c.sl 8 rfl) rfl (Zf I) rfl) (ckk hp fun aR hp=>z8 (Zm4 rfl rfl aR) (Zbl _ N (Zbl _ O (z8 (ZP (c.sl 8 rfl) rfl rfl I) (z8 (zw (c.sl 8 rfl) rfl (Zf I) rfl) (z8 (ZcO rfl rfl (by decide)) ?_)))))))))))
     refine Zbl (.n (n5.length:Int)) rfl (ckk hp fun Q hp=>z8 (ZP (c.sl 3 rfl) rfl rfl Q) (ckk hp fun R hp=>z8 (Zbd (c.sl 3 rfl) (Zf Q) rfl rfl R rfl) (ZeT (c.ste (y:=((gi n6 ((gi x1 i.toNat).tdiv 2:Int).toNat).set ((gi x1 i.toNat).tmod 2) (n5.length:Int))) 3 rfl rfl (Zf Q) rfl rfl ⟨rfl,(by have:=R;exact (show 0+((gi x1 i.toNat).tmod 2:Int).toNat*1+1≤2 by omega)),rfl⟩ (Zjt R)) ?_)))
     rintro _ bd _ ⟨rfl,_,_,U⟩
     refine ZcW ?_
     refine And.intro ?_ ?_
     ·intro q hq
      simp only [List.mem_cons,List.not_mem_nil,or_false] at hq
      rcases hq with rfl|rfl|rfl
      ·refine ZaX ?_ ?_
       ·exact (fun h=>nomatch h)
       ·exact (fun h=>nomatch h)
      ·refine ZaX ?_ ?_
       ·exact (fun h=>nomatch h)
       ·exact (fun h=>nomatch h)
      ·refine ZaX ?_ ?_
       ·exact (fun h=>nomatch h)
       ·exact (fun h=>nomatch h)
     refine Zt (Zg (Zc (Zal (r:=a) (o:=0) f rfl) (Zc (zy (U.box 0 rfl) rfl rfl) (Zb _ az (Zb _ ad (Zb (.n (n5.length:Int)) rfl ?_))))))
     obtain ⟨⟨x3,x4⟩,⟨_,_,aY,ah,rfl,a8⟩,hp⟩:=bdk hp fun _=>ZQ.ok (h:=bd) (l:=(n5++x2)) (v:=from_) (d:=(gi ([1,0,1,0]:List Int) d.toNat)) (w:=(n5.length:Int)) (o:=(-1)) (U.toM [1] rfl (by decide)) 
     refine zU rfl rfl aY ?_
     have W:=(U.callM [1] [0,2,3,4,5,6,7,8,9] rfl rfl (by decide) a8 rfl).pick [0,900,1,2,3,4,5,6,7,8,9] rfl (by decide)
     refine Zb (.tu [ah,.n x4]) rfl (Zc (zC rfl rfl) (Zc (zC rfl rfl) (Zc (Zal (r:=a) (o:=0) f rfl) (zQ (W.stb (cs':=[ah,v_n_First,v_n_Ends,v_n_Ways]) 0 rfl rfl rfl (W.sl 10 rfl).cells ⟨rfl,Nat.le_of_ble_eq_true rfl,(all_cons (W.sl 10 rfl).oneV rfl)⟩ rfl) ?_))))
     rintro _ _ ⟨rfl,_,_,a2⟩
     refine Ze (Zaf (Zb (.n (n5.length:Int)) rfl (Zb (.n (n5.length:Int)) rfl (Zj (Zam (Zt (Zaf (Zb _ O (ckk hp fun aS hp=>Zc (ZV rfl rfl aS) (Zb (.n (i+1)) rfl (Zj ?_)))))))))))
     cases hp
     exact ⟨rfl,ah,aB,f,aC,aD,aE,aF,rfl,aA,ad,N,rfl,(a2.pk [0,10,2,3,4,5,6,7,8])⟩
    ·refine Zb8 (zW ?_)
     cases hp
     exact ⟨nofun,rfl,P,aB,f,aC,aD,aE,aF,az,aA,ad,(C.pk [0,1,2,3,4,5,6,7])⟩
   rintro ⟨n7,n8,from_1⟩ hp _ _ bb ⟨rfl,af,bj,ac,bk,bl,bm,bn,bg,bh,bi,S⟩
   refine Za9 (Zt (Zaf (Zc (Zal (r:=a) (o:=0) ac rfl) (Zc (zy (S.box 0 rfl) rfl rfl) (Zb _ bg (Zb _ bi (Zb _ bh ?_)))))))
   obtain ⟨⟨x5,x6⟩,⟨_,_,aZ,ai,rfl,a9⟩,hp⟩:=bdk hp fun _=>ZQ.ok (h:=bb) (l:=n7) (v:=from_1) (d:=(gi ([1,0,1,0]:List Int) d.toNat)) (w:=(gi [(n.Cells.length:Int)+2,(n.Cells.length:Int)+2,(n.Cells.length:Int)+3,(n.Cells.length:Int)+1] d.toNat)) (o:=(-1)) (S.toM [1] rfl (by decide)) 
   refine zU rfl rfl aZ ?_
   have X:=(S.callM [1] [0,2,3,4,5,6,7] rfl rfl (by decide) a9 rfl).pick [0,900,1,2,3,4,5,6,7] rfl (by decide)
   refine Zb (.tu [ai,.n x6]) rfl (Zc (zC rfl rfl) (Zc (zC rfl rfl) (Zc (Zal (r:=a) (o:=0) ac rfl) (zQ (X.stb (cs':=[ai,v_n_First,v_n_Ends,v_n_Ways]) 0 rfl rfl rfl (X.sl 8 rfl).cells ⟨rfl,Nat.le_of_ble_eq_true rfl,(all_cons (X.sl 8 rfl).oneV rfl)⟩ rfl) ?_))))
   rintro _ _ ⟨rfl,_,_,a3⟩
   refine Zj (Zam (Zt (Zaf (Zb _ bn (ckk hp fun aT hp=>Zc (ZV rfl rfl aT) (Zb (.n (d+1)) rfl (Zj ?_)))))))
   cases hp
   exact ⟨rfl,ai,bj,ac,bk,bl,bm,rfl,(a3.pk [0,8,2,3,4,5,6,7])⟩
  ·refine Zb8 (zW ?_)
   cases hp
   exact ⟨nofun,rfl,D,aw,ay,(ab.pk [0,1,2,3,4,5,7])⟩
 rintro ⟨n3,n4⟩ hp _ _ _ ⟨rfl,F,bf,au,m⟩
 refine Za9 (Zt (Zg (Zc (ZbI (m.box 0 rfl) bf rfl) (zQ (m.stb (cs':=[F,v_n_First,v_n_Ends,v_n_Ways]) 6 rfl au rfl rfl ⟨rfl,Nat.le_of_ble_eq_true rfl,(all_cons (m.sl 1 rfl).oneV (all_cons (m.sl 2 rfl).oneV (all_cons (m.sl 3 rfl).oneV (all_cons (m.sl 4 rfl).oneV all_nil))))⟩ rfl) ?_))))
 rintro _ _ ⟨rfl,_,_,ar⟩
 refine Ze (zK (ZN (ZiR au (ar.box 6 rfl) rfl Z6) ?_))
 cases hp
 exact ⟨F,v_n_First,v_n_Ends,v_n_Ways,vs_n_Ways,rfl,(ar.pk [1,2,3,4,5])⟩

theorem zi.ok {h:Hp}{s:zX}{v_s_Boxes:V}{v_s_Edges:V}(s_s_Boxes:Sl e_bool h v_s_Boxes s.Boxes) (s_s_Edges:Sl zt h v_s_Edges s.Edges) {r:Zbf}(hp:zi s=some r) :
  ∃ u k',Is G 175 [.ag [v_s_Boxes,v_s_Edges]] h u k'∧∃ bs bx bB bD bF,V.ag [bs,bx,bB,bD]=u∧Own (fun r=>r<h.n) h k' [eSl Zd bs r.Cells,eSl Zad bx r.First,eSl Zbk bB r.Ends,eSl eV bD bF,Zci Zad bF r.Ways]:=by
 refine WC.is (ZaD Zfj ?_)
 unfold zi at hp
 let B:Nat→Prop:=(fun r=>r<h.n)
 have hO:Own B h h []:=Own.start0 h
 refine Zg (zQ (hO.boxd (cs:=[v_s_Boxes,v_s_Edges]) hO.fr rfl rfl) ?_)
 rintro _ _ ⟨c,rfl,_,_,bc⟩
 refine zQ (bc.alloc (cs:=[.sn,.sn,.sn,.sn]) bc.fr) ?_
 rintro _ _ ⟨f,rfl,_,_,ao⟩
 refine Ze (Zg (Zc (Zal (r:=c) (o:=0) rfl rfl) (Zc (zy (ao.box 0 rfl) rfl rfl) (Zc (Zap (ao.rd0 s_s_Edges.rd) rfl) (ckk hp fun bN hp=>zQ (ao.mks (E:=Zbk) (y:=(⟨0,0⟩:A2 Int)) (bytes:=16) (z:=(s.Edges.length:Int)) ao.fr rfl rfl rfl bN (by decide)) ?_)))))
 rintro ab ar ⟨_,_,aQ⟩
 refine Zc (Zdy (cs:=[.sn,.sn,ab,.sn]) (by rw [(zf (v:=ab) rfl Zbb)];simp [fill,over,Zj4,Zj2,Zj3,Zj6,Zj1,Zj5,(Sl.nil:Sl Zd ar .sn ([]:List Za)).cells,(Sl.nil:Sl Zad ar .sn ([]:List Int)).cells,(aQ.sl 2 rfl:Sl Zbk ar ab (List.replicate ((s.Edges.length:Int):Int).toNat (⟨0,0⟩:A2 Int))).cells,(Sl.nil:Sl eV ar .sn []).cells])) (zQ (aQ.alloc (cs:=[.sn,.sn,.sn,.sn]) aQ.fr) ?_)
 rintro _ au ⟨b,rfl,_,_,be⟩
 refine zQ (be.stb (cs':=[.sn,.sn,ab,.sn]) 3 rfl rfl rfl rfl ⟨rfl,Nat.le_of_ble_eq_true rfl,(all_cons (Sl.nil:Sl Zd au .sn ([]:List Za)).oneV (all_cons (Sl.nil:Sl Zad au .sn ([]:List Int)).oneV (all_cons (be.sl 2 rfl:Sl Zbk au ab (List.replicate ((s.Edges.length:Int):Int).toNat (⟨0,0⟩:A2 Int))).oneV (all_cons (Sl.nil:Sl eV au .sn []).oneV all_nil))))⟩ rfl) ?_
 rintro _ _ ⟨rfl,_,_,cm⟩
 refine Ze (Z9 (Zg (Zb (.n 0) rfl (Ze (Zai ?_)))))
 have co:=cm.nil Zd
 have cp:=co.nil Zad
 have cq:=cp.nil eV
 have cb:=cq.allNil Zad 0
 refine ZbM hp (fun|(n,n1,n2,n3,v),fr,k=>∃ al aH m t D,fr 1=.p c 0∧fr 2=.p f 0∧fr 3=.p b 0∧fr 4=.n v∧Own B h k [zO c [v_s_Boxes,v_s_Edges],zO f [.sn,.sn,.sn,.sn],zO b [al,aH,m,t],eSl Zd al n,eSl Zad aH n1,eSl Zbk m n2,eSl eV t D,Zci Zad D n3]) (fun|(n4,n5,n6,n7),e,fr,k=>e=(.exit 0)∧∃ aB g j aC aI,fr 1=.p c 0∧fr 2=.p f 0∧fr 3=.p b 0∧Own B h k [zO c [v_s_Boxes,v_s_Edges],zO f [.sn,.sn,.sn,.sn],zO b [aB,g,j,aC],eSl Zd aB n4,eSl Zad g n5,eSl Zbk j n6,eSl eV aC aI,Zci Zad aI n7]) ⟨V.sn,V.sn,ab,V.sn,[],rfl,rfl,rfl,rfl,(cb.pk [0,1,3,4,5,2,6,7])⟩ ?_ ?_
 ·rintro ⟨n,n1,n2,n3,v⟩ _ _ ⟨al,aH,m,t,D,aa,aZ,I,ah,N⟩ _ hp
  dsimp only [zi.s0] at hp
  refine Z9 (Zg (Zb _ ah (Zc (Zal (r:=c) (o:=0) aa rfl) (Zc (zy (N.box 0 rfl) rfl rfl) (Zc (Zap (N.rd0 s_s_Boxes.rd) rfl) (Zc (zA rfl rfl) (Ze (zu hp rfl (fun bG hp=>?_) (fun bG hp=>?_)))))))))
  ·refine Zak (Z9 (Zai (Zg (Zc (Zal (r:=b) (o:=0) I rfl) (Zc (zy (N.box 2 rfl) rfl rfl) (Zc (Zap (N.sl 3 rfl) rfl) (Zb (.n (n.length:Int)) rfl (Ze (Zg ?_)))))))))
   refine Zc (Zal (r:=b) (o:=0) I rfl) (Zc (zy (N.box 2 rfl) rfl rfl) (Zb (.n (n.length:Int)) rfl (zQ (N.bsl (E:=Zad) (l:=[(n.length:Int)]) N.fr (by rw [(zf (v:=.n (n.length:Int)) rfl Zbb)];rfl) rfl) ?_)))
   rintro _ _ ⟨_,_,aM⟩
   refine ckk hp fun bW hp=>zQ (aM.app (bytes:=8) 4 aM.fr rfl (aM.sl 8 rfl) rfl rfl (fun _=>rfl) bW (by decide)) ?_
   rintro C bh ⟨_,aN⟩
   refine Zc (Zal (r:=b) (o:=0) I rfl) (zQ (aN.stb (cs':=[al,C,m,t]) 2 rfl rfl rfl (aN.sl 4 rfl:Sl Zad bh C (n1++[(n.length:Int)])).cells ⟨rfl,Nat.le_of_ble_eq_true rfl,(all_cons (aN.sl 4 rfl:Sl Zad bh C (n1++[(n.length:Int)])).oneV rfl)⟩ rfl) ?_)
   rintro _ bg ⟨rfl,_,_,H⟩
   refine Ze (Z9 (Zg (Zc (Zal (r:=c) (o:=0) aa rfl) (Zc (zy (H.box 0 rfl) rfl rfl) (Zb _ ah (ckk hp fun bb hp=>Zc (ZP (H.rd0 s_s_Boxes.rd) rfl rfl bb) (Zc (zw (H.rd0 s_s_Boxes.rd) rfl (Zf bb) rfl) (Ze (zu hp rfl (fun bH hp=>?_) (fun bH hp=>?_))))))))))
   ·refine Zg (Zc (ZbI (H.box 2 rfl) I rfl) (Zc (ZbI (H.box 0 rfl) aa rfl) (Zb _ ah ?_)))
    obtain ⟨x,⟨_,_,b5,bt,bu,bv,bw,c1,rfl,cr⟩,hp⟩:=bdk hp fun _=>Za1.ok (h:=bg) (n:=(⟨n,n1++[(n.length:Int)],n2,n3⟩:Zbf)) (s:=s) (v:=v) (H.toM [3,4,5,6,7] rfl (by decide)) (H.rdM [3,4,5,6,7] rfl s_s_Boxes.rd) (H.rdM [3,4,5,6,7] rfl s_s_Edges.rd)
    refine zU rfl rfl b5 ?_
    have ac:=(H.callM [3,4,5,6,7] [0,1,2,8] rfl rfl (by decide) cr rfl).pick [0,1,2,900,901,902,903,904,3,4,5,6,7,8] rfl (by decide)
    refine zQ (ac.stb (cs':=[bt,bu,bv,bw]) 2 rfl I rfl rfl ⟨rfl,Nat.le_of_ble_eq_true rfl,(all_cons (ac.sl 9 rfl).oneV (all_cons (ac.sl 10 rfl).oneV (all_cons (ac.sl 11 rfl).oneV (all_cons (ac.sl 12 rfl).oneV all_nil))))⟩ rfl) ?_
    rintro _ _ ⟨rfl,_,_,cc⟩
    refine Ze (Zb8 (zW (Za9 (Zt (Zaf (Zb _ ah (ckk hp fun b2 hp=>Zc (ZV rfl rfl b2) (Zb (.n (v+1)) rfl (Zj ?_)))))))))
    cases hp
    exact ⟨rfl,bt,bu,bv,bw,c1,aa,aZ,I,rfl,(cc.pk [0,1,2,9,10,11,12,13])⟩
   ·refine Zak (Zg ?_)
    obtain ⟨x1,⟨_,_,b6,bz,rfl,ct⟩,hp⟩:=bdk hp fun _=>ZO.ok (h:=bg)  
    refine zU rfl rfl b6 ?_
    have an:=H.call ct rfl
    refine Zb bz rfl (Ze (Zg (Zc (Zal (r:=b) (o:=0) I rfl) (Zc (zy (an.box 2 rfl) rfl rfl) (Zb bz rfl (ckk hp fun b3 hp=>zQ (an.app (bytes:=64) 3 an.fr rfl (an.sl 9 rfl) rfl rfl (fun _=>rfl) b3 (by decide)) ?_))))))
    rintro J _ ⟨_,aO⟩
    refine Zc (Zal (r:=b) (o:=0) I rfl) (zQ (aO.stb (cs':=[J,C,m,t]) 2 rfl rfl rfl (aO.sl 3 rfl).cells ⟨rfl,Nat.le_of_ble_eq_true rfl,(all_cons (aO.sl 3 rfl).oneV rfl)⟩ rfl) ?_)
    rintro _ _ ⟨rfl,_,_,cd⟩
    refine Ze (Zg (Zb (.n 0) rfl (Ze (Zai (ZbM hp (fun|(n8,d),fr,k=>fr 1=.p c 0∧fr 2=.p f 0∧fr 3=.p b 0∧fr 4=.n v∧fr 5=.n (n.length:Int)∧fr 7=.n d∧Own B h k [zO c [v_s_Boxes,v_s_Edges],zO f [.sn,.sn,.sn,.sn],zO b [J,C,m,t],eSl Zd J (n++x1),eSl Zad C (n1++[(n.length:Int)]),eSl Zbk m n8,eSl eV t D,Zci Zad D n3]) (fun n9 e fr k=>e=(.exit 2)∧fr 1=.p c 0∧fr 2=.p f 0∧fr 3=.p b 0∧fr 4=.n v∧Own B h k [zO c [v_s_Boxes,v_s_Edges],zO f [.sn,.sn,.sn,.sn],zO b [J,C,m,t],eSl Zd J (n++x1),eSl Zad C (n1++[(n.length:Int)]),eSl Zbk m n9,eSl eV t D,Zci Zad D n3]) ⟨aa,aZ,I,ah,rfl,rfl,(cd.pk [0,1,2,3,4,5,6,7])⟩ ?_ ?_)))))
    ·rintro ⟨n8,d⟩ _ cy ⟨a0,bk,bl,a1,cM,a2,ad⟩ _ hp
     dsimp only [zi.s1] at hp
     refine Z9 (Zg (Zb _ a2 (Zc (zA rfl rfl) (Ze (zu hp rfl (fun bI hp=>?_) (fun bI hp=>?_))))))
     ·refine Zak (Z9 (Zai (Zg (Zc (ZbI (ad.box 0 rfl) a0 rfl) (Zb _ a1 (Zb _ a2 ?_))))))
      obtain ⟨x2,⟨_,_,b7,a7,rfl,cu⟩,hp⟩:=bdk hp fun _=>Za3.ok (h:=cy)  (ad.rd0 s_s_Boxes.rd) (ad.rd0 s_s_Edges.rd)
      refine zU rfl rfl b7 ?_
      have cf:=ad.call cu rfl
      refine Zb a7 rfl (Ze (Zg (Zb (.n 0) rfl (Ze (Zai (ZbM hp (fun|(n10,i),fr,k=>fr 1=.p c 0∧fr 2=.p f 0∧fr 3=.p b 0∧fr 4=.n v∧fr 5=.n (n.length:Int)∧fr 7=.n d∧fr 8=a7∧fr 9=.n i∧Own B h k [zO c [v_s_Boxes,v_s_Edges],zO f [.sn,.sn,.sn,.sn],zO b [J,C,m,t],eSl Zd J (n++x1),eSl Zad C (n1++[(n.length:Int)]),eSl Zbk m n10,eSl eV t D,Zci Zad D n3,eSl Zad a7 x2]) (fun n11 e fr k=>e=(.exit 4)∧fr 1=.p c 0∧fr 2=.p f 0∧fr 3=.p b 0∧fr 4=.n v∧fr 5=.n (n.length:Int)∧fr 7=.n d∧Own B h k [zO c [v_s_Boxes,v_s_Edges],zO f [.sn,.sn,.sn,.sn],zO b [J,C,m,t],eSl Zd J (n++x1),eSl Zad C (n1++[(n.length:Int)]),eSl Zbk m n11,eSl eV t D,Zci Zad D n3]) ⟨a0,bk,bl,a1,cM,a2,rfl,rfl,(cf.pk [0,1,2,3,4,5,6,7,8])⟩ ?_ ?_))))))
      ·rintro ⟨n10,i⟩ _ _ ⟨bm,bn,a3,bo,a4,bp,ax,ay,aP⟩ _ hp
       dsimp only [zi.s2] at hp
       refine Z9 (Zg (Zb _ ay (Zb _ ax (Zc (Zap (aP.sl 8 rfl) rfl) (Zc (zA rfl rfl) (Ze (zu hp rfl (fun bJ hp=>?_) (fun bJ hp=>?_))))))))
       ·refine Zak (Z9 (Zai (Zgp ?_)))
        have O:=aP.bump 16
        refine z8 (Zal (r:=b) (o:=0) a3 rfl) (z8 (zy (O.box 2 rfl) rfl rfl) (Zbl _ ax (Zbl _ ay (ckk hp fun am hp=>z8 (ZP (O.sl 8 rfl) rfl rfl am) (z8 (zw (O.sl 8 rfl) rfl (Zf am) rfl) (ckk hp fun b4 hp=>z8 (Zm4 rfl rfl b4) (Zbl _ ax (Zbl _ ay (z8 (ZP (O.sl 8 rfl) rfl rfl am) (z8 (zw (O.sl 8 rfl) rfl (Zf am) rfl) (z8 (ZcO rfl rfl (by decide)) ?_)))))))))))
        refine Zbl _ a4 (ckk hp fun aK hp=>z8 (ZP (O.sl 5 rfl) rfl rfl aK) (ckk hp fun aL hp=>z8 (Zbd (O.sl 5 rfl) (Zf aK) rfl rfl aL rfl) (ZeT (O.ste (y:=((gi n10 ((gi x2 i.toNat).tdiv 2:Int).toNat).set ((gi x2 i.toNat).tmod 2) (n.length:Int))) 5 rfl rfl (Zf aK) rfl rfl ⟨rfl,(by have:=aL;exact (show 0+((gi x2 i.toNat).tmod 2:Int).toNat*1+1≤2 by omega)),rfl⟩ (Zjt aL)) ?_)))
        rintro _ _ _ ⟨rfl,_,_,ch⟩
        refine ZcW ?_
        refine And.intro ?_ ?_
        ·intro q hq
         simp only [List.mem_cons,List.not_mem_nil,or_false] at hq
         rcases hq with rfl|rfl|rfl
         ·refine ZaX ?_ ?_
          ·exact (fun h=>nomatch h)
          ·exact (fun h=>nomatch h)
         ·refine ZaX ?_ ?_
          ·exact (fun h=>nomatch h)
          ·exact (fun h=>nomatch h)
         ·refine ZaX ?_ ?_
          ·exact (fun h=>nomatch h)
          ·exact (fun h=>nomatch h)
        refine Zam (Zt (Zaf (Zb _ ay (ckk hp fun bO hp=>Zc (ZV rfl rfl bO) (Zb (.n (i+1)) rfl (Zj ?_))))))
        cases hp
        exact ⟨rfl,bm,bn,a3,bo,a4,bp,ax,rfl,(ch.pk [0,1,2,3,4,5,6,7,8])⟩
       ·refine Zb8 (zW ?_)
        cases hp
        exact ⟨nofun,rfl,bm,bn,a3,bo,a4,bp,(aP.pk [0,1,2,3,4,5,6,7])⟩
      rintro n11 hp _ _ _ ⟨rfl,cN,cO,cP,cQ,cR,cS,cg⟩
      refine Za9 (Zam (Zt (Zaf (Zb _ cS (ckk hp fun bP hp=>Zc (ZV rfl rfl bP) (Zb (.n (d+1)) rfl (Zj ?_)))))))
      cases hp
      exact ⟨rfl,cN,cO,cP,cQ,cR,rfl,(cg.pk [0,1,2,3,4,5,6,7])⟩
     ·refine Zb8 (zW ?_)
      cases hp
      exact ⟨nofun,rfl,a0,bk,bl,a1,(ad.pk [0,1,2,3,4,5,6,7])⟩
    rintro n9 hp _ _ _ ⟨rfl,cI,cJ,cK,cL,ce⟩
    refine Za9 (Zam (Zt (Zaf (Zb _ cL (ckk hp fun bQ hp=>Zc (ZV rfl rfl bQ) (Zb (.n (v+1)) rfl (Zj ?_)))))))
    cases hp
    exact ⟨rfl,J,C,m,t,D,cI,cJ,cK,rfl,(ce.pk [0,1,2,3,4,5,6,7])⟩
  ·refine Zb8 (zW ?_)
   cases hp
   exact ⟨nofun,rfl,al,aH,m,t,D,aa,aZ,I,(N.pk [0,1,2,3,4,5,6,7])⟩
 rintro ⟨n4,n5,n6,n7⟩ hp _ _ _ ⟨rfl,aB,g,j,aC,aI,cF,cG,cH,cn⟩
 refine Za9 (Zt (Z9 (Zg (Zb (.n 0) rfl (Ze (Zai (ZbM hp (fun|(n12,n13,i1),fr,k=>∃ ai F K,fr 1=.p c 0∧fr 2=.p f 0∧fr 3=.p b 0∧fr 10=.n i1∧Own B h k [zO c [v_s_Boxes,v_s_Edges],zO f [.sn,.sn,.sn,.sn],zO b [ai,g,j,F],eSl Zd ai n12,eSl Zad g n5,eSl Zbk j n6,eSl eV F K,Zci Zad K n13]) (fun|(n14,n15),e,fr,k=>e=(.exit 6)∧∃ aj ak aJ,fr 2=.p f 0∧fr 3=.p b 0∧Own B h k [zO f [.sn,.sn,.sn,.sn],zO b [aj,g,j,ak],eSl Zd aj n14,eSl Zad g n5,eSl Zbk j n6,eSl eV ak aJ,Zci Zad aJ n15]) ⟨aB,aC,aI,cF,cG,cH,rfl,(cn.pk [0,1,2,3,4,5,6,7])⟩ ?_ ?_)))))))
 ·rintro ⟨n12,n13,i1⟩ _ _ ⟨ai,F,K,a5,br,a6,az,A⟩ _ hp
  dsimp only [zi.s3] at hp
  refine Z9 (Zg (Zb _ az (Zc (Zal (r:=c) (o:=0) a5 rfl) (Zc (zy (A.box 0 rfl) rfl rfl) (Zc (Zap (A.rd0 s_s_Edges.rd) rfl) (Zc (zA rfl rfl) (Ze (zu hp rfl (fun bK hp=>?_) (fun bK hp=>?_)))))))))
  ·refine Zak (Z9 (Zai (Zg (Zc (Zal (r:=b) (o:=0) a6 rfl) (Zc (zy (A.box 2 rfl) rfl rfl) (Zb _ az (ckk hp fun L hp=>Zc (ZP (A.sl 5 rfl) rfl rfl L) (Zc (Zbd (A.sl 5 rfl) (Zf L) rfl rfl (by decide) rfl) (Zc (zw (A.sl 5 rfl) rfl (Zf L) rfl) (Zb (.n ((gi n6 i1.toNat).get 0)) rfl ?_))))))))))
   refine Ze (Zg (Zc (Zal (r:=c) (o:=0) a5 rfl) (Zc (zy (A.box 0 rfl) rfl rfl) (Zb _ az (ckk hp fun M hp=>Zc (ZP (A.rd0 s_s_Edges.rd) rfl rfl M) (Zc (ZaR (A.rd0 s_s_Edges.rd) (Zf M) rfl rfl) (Zc (zw (A.rd0 s_s_Edges.rd) rfl (Zf M) rfl) (Zb (.n ((gi s.Edges i1.toNat).Dir)) rfl (Ze ?_)))))))))
   refine Zg (Zb (.n ((gi n6 i1.toNat).get 0)) rfl (zQ (A.bsl (E:=Zad) (l:=[(gi n6 i1.toNat).get 0]) A.fr (by rw [(zf (v:=.n ((gi n6 i1.toNat).get 0)) rfl Zbb)];rfl) rfl) ?_))
   rintro bA _ ⟨_,_,ci⟩
   refine Zb bA rfl (Ze (Z9 (Zg (Zb (.n 0) rfl (Ze (Zai (ZbM hp (fun|(n16,at_,d1,way,k_),fr,k=>∃ aD aE,fr 1=.p c 0∧fr 2=.p f 0∧fr 3=.p b 0∧fr 10=.n i1∧fr 11=.n at_∧fr 12=.n d1∧fr 13=aE∧fr 14=.n k_∧Own B h k [zO c [v_s_Boxes,v_s_Edges],zO f [.sn,.sn,.sn,.sn],zO b [aD,g,j,F],eSl Zd aD n16,eSl Zad g n5,eSl Zbk j n6,eSl eV F K,Zci Zad K n13,eSl Zad aE way]) (fun|(n17,at_1,d2,way1),e,fr,k=>e=(.exit 8)∧∃ a8 a9,fr 1=.p c 0∧fr 2=.p f 0∧fr 3=.p b 0∧fr 10=.n i1∧fr 11=.n at_1∧fr 12=.n d2∧fr 13=a9∧Own B h k [zO c [v_s_Boxes,v_s_Edges],zO f [.sn,.sn,.sn,.sn],zO b [a8,g,j,F],eSl Zd a8 n17,eSl Zad g n5,eSl Zbk j n6,eSl eV F K,Zci Zad K n13,eSl Zad a9 way1]) ⟨ai,bA,a5,br,a6,az,rfl,rfl,rfl,rfl,(ci.pk [0,1,2,3,4,5,6,7,8])⟩ ?_ ?_)))))))
   ·rintro ⟨n16,at_,d1,way,k_⟩ _ cA ⟨aD,aE,af,aY,Q,Y,bi,av,bj,aw,P⟩ _ hp
    dsimp only [zi.s4] at hp
    refine Z9 (Zg (Zb _ aw (Zc (Zal (r:=c) (o:=0) af rfl) (Zc (zy (P.box 0 rfl) rfl rfl) (Zb _ Y (Zc (ZP (P.rd0 s_s_Edges.rd) rfl rfl M) (Zc (ZaR (P.rd0 s_s_Edges.rd) (Zf M) rfl rfl) (Zc (zw (P.rd0 s_s_Edges.rd) rfl (Zf M) rfl) (Zc (Zik rfl) (Zc (zA rfl rfl) (Ze (zu hp rfl (fun bL hp=>?_) (fun bL hp=>?_)))))))))))))
    ·refine Zak (Z9 (Zai (Zg (Zc (Zal (r:=b) (o:=0) Q rfl) (Zc (zy (P.box 2 rfl) rfl rfl) (Zc (Zap (P.sl 3 rfl) rfl) (Zb (.n (n16.length:Int)) rfl (Ze (Zg ?_)))))))))
     obtain ⟨x3,⟨_,_,b8,bC,rfl,cv⟩,hp⟩:=bdk hp fun _=>ZO.ok (h:=cA)  
     refine zU rfl rfl b8 ?_
     have ap:=P.call cv rfl
     refine Zb bC rfl (Ze (Zg (Zc (Zal (r:=b) (o:=0) Q rfl) (Zc (zy (ap.box 2 rfl) rfl rfl) (Zb bC rfl (ckk hp fun bR hp=>zQ (ap.app (bytes:=64) 3 ap.fr rfl (ap.sl 9 rfl) rfl rfl (fun _=>rfl) bR (by decide)) ?_))))))
     rintro cZ _ ⟨_,aR⟩
     refine Zc (Zal (r:=b) (o:=0) Q rfl) (zQ (aR.stb (cs':=[cZ,g,j,F]) 2 rfl rfl rfl (aR.sl 3 rfl).cells ⟨rfl,Nat.le_of_ble_eq_true rfl,(all_cons (aR.sl 3 rfl).oneV rfl)⟩ rfl) ?_)
     rintro _ cB ⟨rfl,_,_,aS⟩
     refine Ze (Zg (Zc (Zal (r:=b) (o:=0) Q rfl) (Zc (zy (aS.box 2 rfl) rfl rfl) (Zb _ bi (Zb _ av (Zb (.n (n16.length:Int)) rfl (Zb _ Y ?_)))))))
     obtain ⟨⟨x4,x5⟩,⟨_,_,b9,aF,rfl,cw⟩,hp⟩:=bdk hp fun _=>ZQ.ok (h:=cB) (l:=(n16++x3)) (v:=at_) (d:=d1) (w:=(n16.length:Int)) (o:=i1) (aS.toM [3] rfl (by decide)) 
     refine zU rfl rfl b9 ?_
     have aT:=(aS.callM [3] [0,1,2,4,5,6,7,8,9] rfl rfl (by decide) cw rfl).pick [0,1,2,900,3,4,5,6,7,8,9] rfl (by decide)
     refine Zb (.tu [aF,.n x5]) rfl (Zc (zC rfl rfl) (Zc (zC rfl rfl) (Zc (Zal (r:=b) (o:=0) Q rfl) (zQ (aT.stb (cs':=[aF,g,j,F]) 2 rfl rfl rfl (aT.sl 10 rfl).cells ⟨rfl,Nat.le_of_ble_eq_true rfl,(all_cons (aT.sl 10 rfl).oneV rfl)⟩ rfl) ?_))))
     rintro _ _ ⟨rfl,_,_,bd⟩
     refine Ze (Zg (Zb (.n (n16.length:Int)) rfl (Zb (.n (n16.length:Int)) rfl (Ze (Zg (Zb _ bj (Zb (.n (n16.length:Int)) rfl (zQ (bd.bsl (E:=Zad) (l:=[(n16.length:Int)]) bd.fr (by rw [(zf (v:=.n (n16.length:Int)) rfl Zbb)];rfl) rfl) ?_))))))))
     rintro _ _ ⟨_,_,aU⟩
     refine ckk hp fun bS hp=>zQ (aU.app (bytes:=8) 8 aU.fr rfl (aU.sl 11 rfl) rfl rfl (fun _=>rfl) bS (by decide)) ?_
     rintro ba _ ⟨_,W⟩
     refine Zb ba rfl (Ze (Zg (Zc (Zal (r:=c) (o:=0) af rfl) (Zc (zy (W.box 0 rfl) rfl rfl) (Zb _ Y (Zc (ZP (W.rd0 s_s_Edges.rd) rfl rfl M) (Zc (ZaR (W.rd0 s_s_Edges.rd) (Zf M) rfl rfl) (Zc (zw (W.rd0 s_s_Edges.rd) rfl (Zf M) rfl) (Zb _ aw (ckk hp fun bT hp=>Zc (ZlA (a:=((gi s.Edges i1.toNat).Bends)) (z:=k_) rfl rfl bT) ?_))))))))))
     refine Zc (Zb7 rfl rfl) (Ze (zu hp rfl (fun bM hp=>?_) (fun bM hp=>?_)))
     ·refine Zaf (Zb _ av (ckk hp fun bU hp=>Zc (ZV rfl rfl bU) (Zc (ZcO rfl rfl (by decide)) (Zb (.n ((d1+1).tmod 4)) rfl (Zj (Zam (Zt (Zaf (Zb _ aw (ckk hp fun bV hp=>Zc (ZV rfl rfl bV) (Zb (.n (k_+1)) rfl ?_)))))))))))
      refine Zj ?_
      cases hp
      exact ⟨rfl,aF,ba,af,aY,Q,Y,rfl,rfl,rfl,rfl,(W.pk [0,1,2,10,4,5,6,7,8])⟩
     ·refine Zaf (Zb _ av (ckk hp fun bX hp=>Zc (ZV rfl rfl bX) (Zc (ZcO rfl rfl (by decide)) (Zb (.n ((d1+3).tmod 4)) rfl (Zj (Zam (Zt (Zaf (Zb _ aw (ckk hp fun bY hp=>Zc (ZV rfl rfl bY) (Zb (.n (k_+1)) rfl ?_)))))))))))
      refine Zj ?_
      cases hp
      exact ⟨rfl,aF,ba,af,aY,Q,Y,rfl,rfl,rfl,rfl,(W.pk [0,1,2,10,4,5,6,7,8])⟩
    ·refine Zb8 (zW ?_)
     cases hp
     exact ⟨nofun,rfl,aD,aE,af,aY,Q,Y,bi,av,bj,(P.pk [0,1,2,3,4,5,6,7,8])⟩
   rintro ⟨n17,at_1,d2,way1⟩ hp _ _ cz ⟨rfl,a8,a9,cU,cY,S,aA,cV,cW,cX,cj⟩
   refine Za9 (Zt (Z9 (Zgp ?_)))
   have R:=cj.bump 17
   refine z8 (Zal (r:=b) (o:=0) S rfl) (z8 (zy (R.box 2 rfl) rfl rfl) (Zbl _ cV (Zbl _ cW (z8 (Zal (r:=b) (o:=0) S rfl) (z8 (zy (R.box 2 rfl) rfl rfl) (Zbl _ aA (z8 (ZP (R.sl 5 rfl) rfl rfl L) (z8 (Zbd (R.sl 5 rfl) (Zf L) rfl rfl (by decide) rfl) (z8 (zw (R.sl 5 rfl) rfl (Zf L) rfl) (Zbl _ aA ?_))))))))))
   obtain ⟨⟨x6,x7⟩,⟨_,_,ca,aG,rfl,cx⟩,hp⟩:=bdk hp fun _=>ZQ.ok (h:=(cz.bump 17)) (l:=n17) (v:=at_1) (d:=d2) (w:=((gi n6 i1.toNat).get 1)) (o:=i1) (R.toM [3] rfl (by decide)) 
   refine ZiM rfl rfl ca ?_
   have aV:=(R.callM [3] [0,1,2,4,5,6,7,8] rfl rfl (by decide) cx rfl).pick [0,1,2,900,3,4,5,6,7,8] rfl (by decide)
   refine Zbl (.tu [aG,.n x7]) rfl (z8 (zC rfl rfl) (z8 (zC rfl rfl) (z8 (Zal (r:=b) (o:=0) S rfl) (ZeT (aV.stb (cs':=[aG,g,j,F]) 2 rfl rfl rfl (aV.sl 9 rfl).cells ⟨rfl,Nat.le_of_ble_eq_true rfl,(all_cons (aV.sl 9 rfl).oneV rfl)⟩ rfl) ?_))))
   rintro _ _ _ ⟨rfl,_,_,X⟩
   refine ZcW ?_
   refine And.intro ?_ ?_
   ·intro q hq
    simp only [List.mem_cons,List.not_mem_nil,or_false] at hq
    rcases hq with rfl|rfl
    ·refine ZaX ?_ ?_
     ·exact (fun h=>nomatch h)
     ·exact (fun h=>nomatch h)
    ·refine ZaX ?_ ?_
     ·exact (fun h=>nomatch h)
     ·exact (fun h=>nomatch h)
   refine Zt (Zg (Zb _ cX (Zc (Zal (r:=b) (o:=0) S rfl) (Zc (zy (X.box 2 rfl) rfl rfl) (Zb _ aA (Zc (ZP (X.sl 5 rfl) rfl rfl L) (Zc (Zbd (X.sl 5 rfl) (Zf L) rfl rfl (by decide) rfl) (Zc (zw (X.sl 5 rfl) rfl (Zf L) rfl) (zQ (X.bsl (E:=Zad) (l:=[(gi n6 i1.toNat).get 1]) X.fr (by rw [(zf (v:=.n ((gi n6 i1.toNat).get 1)) rfl Zbb)];rfl) rfl) ?_)))))))))
   rintro c0 cC ⟨_,_,aW⟩
   refine ckk hp fun bZ hp=>zQ (aW.app (bytes:=8) 8 aW.fr rfl (aW.sl 10 rfl:Sl Zad cC c0 [(gi n6 i1.toNat).get 1]) rfl rfl (fun _=>rfl) bZ (by decide)) ?_
   rintro T cD ⟨_,aq⟩
   refine Zb T rfl (Ze (Zaf (Zc (Zal (r:=b) (o:=0) S rfl) (Zc (zy (aq.box 2 rfl) rfl rfl) (Zb T rfl (zQ (aq.bsl (E:=eV) (l:=[T]) aq.fr (by rw [(zf (v:=T) rfl Zbb)];simp only [fill,(aq.sl 8 rfl:Sl Zad cD T (way1++[(gi n6 i1.toNat).get 1])).cells];simp [over]) rfl) ?_))))))
   rintro _ cE ⟨_,_,ae⟩
   refine ckk hp fun b0 hp=>zQ (ae.appV (bytes:=24) 6 ae.fr rfl (ae.sl 11 rfl) rfl rfl (by simp only [List.all_cons,List.all_nil,Bool.and_true];exact (ae.sl 8 rfl:Sl Zad cE T (way1++[(gi n6 i1.toNat).get 1])).oneV) (by rw [(ae.allLen 7 rfl:(K).length=(n13).length)];exact b0) (by decide)) ?_
   rintro bE _ ⟨_,ck⟩
   have aX:=ck.absorb 7 8 rfl rfl (by decide)
   refine Zc (Zal (r:=b) (o:=0) S rfl) (zQ (aX.stb (cs':=[aG,g,j,bE]) 2 rfl rfl rfl (aX.sl 6 rfl).cells ⟨rfl,Nat.le_of_ble_eq_true rfl,(all_cons (aX.sl 6 rfl).oneV rfl)⟩ rfl) ?_)
   rintro _ _ ⟨rfl,_,_,cl⟩
   refine Zj (Zam (Zt (Zaf (Zb _ aA (ckk hp fun b1 hp=>Zc (ZV rfl rfl b1) (Zb (.n (i1+1)) rfl (Zj ?_)))))))
   cases hp
   exact ⟨rfl,aG,bE,K++[T],cU,cY,S,rfl,(cl.pk [0,1,2,9,4,5,6,7])⟩
  ·refine Zb8 (zW ?_)
   cases hp
   exact ⟨nofun,rfl,ai,F,K,br,a6,(A.pk [1,2,3,4,5,6,7])⟩
 rintro ⟨n14,n15⟩ hp _ _ _ ⟨rfl,aj,ak,aJ,bq,cT,U⟩
 refine Za9 (Zt (Zg (Zc (ZbI (U.box 1 rfl) cT rfl) (zQ (U.stb (cs':=[aj,g,j,ak]) 0 rfl bq rfl rfl ⟨rfl,Nat.le_of_ble_eq_true rfl,(all_cons (U.sl 2 rfl).oneV (all_cons (U.sl 3 rfl).oneV (all_cons (U.sl 4 rfl).oneV (all_cons (U.sl 5 rfl).oneV all_nil))))⟩ rfl) ?_))))
 rintro _ _ ⟨rfl,_,_,bf⟩
 refine Ze (zK (ZN (ZiR bq (bf.box 0 rfl) rfl Z6) ?_))
 cases hp
 exact ⟨aj,g,j,ak,aJ,rfl,(bf.pk [2,3,4,5,6])⟩

theorem ZbT.ok {h:Hp}{z:Zao}{y:Zbr}{raw:List Za}{v_z_At:V}{v_z_Bits:V}{v_z_Own:V}{v_y_Boxes:V}{v_y_Edges:V}{v_y_Bends:V}{v_raw:V}(s_z_At:Sl ZhU h v_z_At z.At) (s_z_Bits:Sl ZhU h v_z_Bits z.Bits) (s_z_Own:Sl Zmf h v_z_Own z.Own) (s_y_Boxes:Sl e_bool h v_y_Boxes y.Boxes) (s_y_Edges:Sl ZgJ h v_y_Edges y.Edges) (s_y_Bends:Sl ZhU h v_y_Bends y.Bends) (s_raw:Sl Zd h v_raw raw) {r:Bool}(hp:ZbT z y raw=some r) :
  ∃ u k',Is G 253 [.ag [v_z_At,v_z_Bits,v_z_Own],.ag [v_y_Boxes,v_y_Edges,v_y_Bends],v_raw] h u k'∧V.b r=u∧Own (fun r=>r<h.n) h k' []:=by
 refine WC.is (ZaD ZdH ?_)
 unfold ZbT at hp
 let B:Nat→Prop:=(fun r=>r<h.n)
 have hO:Own B h h []:=Own.start0 h
 refine Zg (zQ (hO.boxd (cs:=[v_z_At,v_z_Bits,v_z_Own]) hO.fr rfl rfl) ?_)
 rintro _ _ ⟨I,rfl,_,_,T⟩
 refine zQ (T.boxd (cs:=[v_y_Boxes,v_y_Edges,v_y_Bends]) T.fr rfl rfl) ?_
 rintro _ aJ ⟨J,rfl,_,_,s⟩
 refine Zb (.b false) rfl (Ze (Zg (Zc (ZbI (s.box 0 rfl) rfl rfl) ?_)))
 obtain ⟨⟨x,x1⟩,⟨_,aK,ac,j,D,rfl,av⟩,hp⟩:=bdk hp fun _=>ZR.ok (h:=aJ)  (s.rd0 s_z_At.rd) (s.rd0 s_z_Bits.rd) (s.rd0 s_z_Own.rd)
 refine zU rfl rfl ac ?_
 have w:=s.call av rfl
 refine Zb (.tu [j,D]) rfl (Zc (zC rfl rfl) (Zc (zC rfl rfl) (Zb j rfl (Zb D rfl (Ze (Zg (Zc (ZbI (w.box 1 rfl) rfl rfl) ?_)))))))
 obtain ⟨x2,⟨_,_,ad,e,g,rfl,aw⟩,hp⟩:=bdk hp fun _=>zM.ok (h:=aK)  (w.rd0 s_y_Boxes.rd) (w.rd0 s_y_Edges.rd) (w.rd0 s_y_Bends.rd)
 refine zU rfl rfl ad ?_
 have W:=w.call aw rfl
 refine zQ (W.alloc (cs:=[.sn,.sn]) W.fr) ?_
 rintro _ _ ⟨C,rfl,_,_,F⟩
 refine zQ (F.stb (cs':=[e,g]) 6 rfl rfl rfl rfl ⟨rfl,Nat.le_of_ble_eq_true rfl,(all_cons (F.sl 4 rfl).oneV (all_cons (F.sl 5 rfl).oneV all_nil))⟩ rfl) ?_
 rintro _ aL ⟨rfl,_,_,ar⟩
 refine Ze (Z9 (Zg ?_))
 obtain ⟨x3,⟨_,aM,ae,rfl,ax⟩,hp⟩:=bdk hp fun _=>Zc4.ok (h:=aL)  
 refine zU rfl ZjT ae ?_
 have H:=ar.call ax rfl
 refine Zc (ZcJ rfl) (Zb (.b (!x3)) rfl ?_)
 obtain ⟨t,aD,hp⟩:=ZaP hp
 refine zN 4 (fun f k=>Own B h k [zO I [v_z_At,v_z_Bits,v_z_Own],zO J [v_y_Boxes,v_y_Edges,v_y_Bends],eSl Zd j x,eSl ZE D x1,eSl e_bool e x2.Boxes,eSl zt g x2.Edges,zO C [e,g]]∧f 24=.b t∧f 2=v_raw∧f 9=.p C 0) ?_ ?_
 ·clear hp;rcases Zbi aD with ⟨c,hp⟩|⟨c,hp⟩
  ·refine Zl rfl c (Zl rfl c (Zl rfl c (Zc (ZaT (v:=.b t) rfl c (Eq.trans (b:=V.b true) rfl (congrArg V.b (Option.some.inj hp)))) (Zj ?_))))
   exact ⟨H.pk [0,1,2,3,4,5,6],rfl,rfl,rfl⟩
  ·refine Zq rfl c (Zb j rfl (Zq rfl c ?_))
   obtain ⟨x4,⟨_,_,af,rfl,ay⟩,hp⟩:=bdk hp fun _=>Zbx.ok (h:=aM)  (H.sl 2 rfl)
   refine zU rfl rfl af ?_
   have au:=H.call ay rfl
   refine Zq rfl c (Zc (ZcJ rfl) (Zc (ZaI (v:=.b t) rfl c (Eq.trans (b:=V.b (!x4)) rfl (congrArg V.b (Option.some.inj hp)))) (Zj ?_)))
   exact ⟨au.pk [0,1,2,3,4,5,6],rfl,rfl,rfl⟩
 rintro _ X ⟨A,al,Q,R⟩
 refine Zb _ al ?_
 obtain ⟨t1,aE,hp⟩:=ZaP hp
 refine zN 8 (fun f k=>Own B h k [zO I [v_z_At,v_z_Bits,v_z_Own],zO J [v_y_Boxes,v_y_Edges,v_y_Bends],eSl Zd j x,eSl ZE D x1,eSl e_bool e x2.Boxes,eSl zt g x2.Edges,zO C [e,g]]∧f 33=.b t1∧f 9=.p C 0) ?_ ?_
 ·clear hp;rcases Zbi aE with ⟨a,hp⟩|⟨a,hp⟩
  ·refine Zl rfl a (Zl rfl a (Zl rfl a (Zl rfl a (Zl rfl a (Zl rfl a (Zl rfl a (Zc (ZaT (v:=.b t1) rfl a (Eq.trans (b:=V.b true) rfl (congrArg V.b (Option.some.inj hp)))) (Zj ?_))))))))
   exact ⟨A.pk [0,1,2,3,4,5,6],rfl,R⟩
  ·refine Zq rfl a (Zb _ Q (Zq rfl a (Zb _ Q (Zq rfl a (Zc (Zap (A.rd0 s_raw.rd) rfl) (Zq rfl a (Zc (Zrv rfl rfl) (Zq rfl a (ckk hp fun P hp=>Zc (ZkR (E:=Zd) (z:=(min (raw.length:Int) 4)) (A.rd0 s_raw.rd) rfl rfl P) (Zq rfl a ?_))))))))))
   obtain ⟨x5,⟨_,_,ah,rfl,az⟩,hp⟩:=bdk hp fun _=>Zbx.ok (h:=X)  (Sl.cutU (A.rd0 s_raw.rd) P:Sl Zd X (V.cut v_raw 0 (min (raw.length:Int) 4:Int).toNat) (raw.take (min (raw.length:Int) 4:Int).toNat))
   refine zU rfl rfl ah ?_
   have ao:=A.call az rfl
   refine Zq rfl a (Zc (ZcJ rfl) (Zc (ZaI (v:=.b t1) rfl a (Eq.trans (b:=V.b (!x5)) rfl (congrArg V.b (Option.some.inj hp)))) (Zj ?_)))
   exact ⟨ao.pk [0,1,2,3,4,5,6],rfl,R⟩
 rintro _ aG ⟨l,am,S⟩
 refine Ze (zu hp am (fun aa hp=>?_) (fun aa hp=>?_))
 ·refine Zg (Zb (.b false) rfl (Ze (zK (ZI (ZN (ZY rfl Z6) ?_)))))
  cases hp
  exact ⟨rfl,(l.pk [])⟩
 ·refine Zak (Z9 (Zg (Zc (ZbI (l.box 6 rfl) S rfl) ?_)))
  obtain ⟨x6,⟨_,aH,ai,rfl,aA⟩,hp⟩:=bdk hp fun _=>zr.ok (h:=aG)  (l.sl 4 rfl) (l.sl 5 rfl)
  refine zU rfl rfl ai ?_
  have m:=l.call aA rfl
  refine Zc (Zca rfl rfl) (Ze (zu hp rfl (fun ab hp=>?_) (fun ab hp=>?_)))
  ·refine Zg (Zb (.b true) rfl (Ze (zK (ZI (ZN (ZY rfl Z6) ?_)))))
   cases hp
   exact ⟨rfl,(m.pk [])⟩
  ·refine Zak (Zg (Zc (ZbI (m.box 6 rfl) S rfl) ?_))
   obtain ⟨x7,⟨_,_,aj,L,M,N,O,Y,rfl,aB⟩,hp⟩:=bdk hp fun _=>zi.ok (h:=aH)  (m.sl 4 rfl) (m.sl 5 rfl)
   refine zU rfl rfl aj ?_
   have U:=m.call aB rfl
   refine zQ (U.alloc (cs:=[.sn,.sn,.sn,.sn]) U.fr) ?_
   rintro _ _ ⟨K,rfl,_,_,q⟩
   refine zQ (q.stb (cs':=[L,M,N,O]) 12 rfl rfl rfl rfl ⟨rfl,Nat.le_of_ble_eq_true rfl,(all_cons (q.sl 7 rfl).oneV (all_cons (q.sl 8 rfl).oneV (all_cons (q.sl 9 rfl).oneV (all_cons (q.sl 10 rfl).oneV all_nil))))⟩ rfl) ?_
   rintro _ aI ⟨rfl,_,_,i⟩
   refine Ze (Zg (Zc (Zal (r:=K) (o:=0) rfl rfl) (Zc (zy (i.box 12 rfl) rfl rfl) (Zc (Zap (i.sl 7 rfl) rfl) (Zc (Zd1 rfl rfl) (Zb (.b (decide (24<(x7.Cells.length:Int)))) rfl ?_))))))
   obtain ⟨t2,aF,hp⟩:=ZaP hp
   refine zN 4 (fun f k=>Own B h k [zO I [v_z_At,v_z_Bits,v_z_Own],zO J [v_y_Boxes,v_y_Edges,v_y_Bends],eSl Zd j x,eSl ZE D x1,eSl e_bool e x2.Boxes,eSl zt g x2.Edges,zO C [e,g],eSl Zd L x7.Cells,eSl Zad M x7.First,eSl Zbk N x7.Ends,eSl eV O Y,Zci Zad Y x7.Ways,zO K [L,M,N,O]]∧f 47=.b t2) ?_ ?_
   ·clear hp;rcases Zbi aF with ⟨d,hp⟩|⟨d,hp⟩
    ·refine Zl rfl d (Zl rfl d (Zl rfl d (Zc (ZaT (v:=.b t2) rfl d (Eq.trans (b:=V.b true) rfl (congrArg V.b (Option.some.inj hp)))) (Zj ?_))))
     exact ⟨i.pk [0,1,2,3,4,5,6,7,8,9,10,11,12],rfl⟩
    ·refine Zq rfl d (Zc (Zal (r:=K) (o:=0) rfl rfl) (Zq rfl d (Zc (zy (i.box 12 rfl) rfl rfl) (Zq rfl d ?_))))
     obtain ⟨x8,⟨_,_,ak,rfl,aC⟩,hp⟩:=bdk hp fun _=>Zbx.ok (h:=aI)  (i.sl 7 rfl)
     refine zU rfl rfl ak ?_
     have ap:=i.call aC rfl
     refine Zc (ZaI (v:=.b t2) rfl d (Eq.trans (b:=V.b x8) rfl (congrArg V.b (Option.some.inj hp)))) (Zj ?_)
     exact ⟨ap.pk [0,1,2,3,4,5,6,7,8,9,10,11,12],rfl⟩
   rintro _ _ ⟨aq,an⟩
   refine Zb _ an (Ze (zK (ZN (ZY rfl Z6) ?_)))
   cases hp
   exact ⟨rfl,(aq.pk [])⟩

end Mu
