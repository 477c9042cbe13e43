/- The code comes to what was worked out. -/
import Derived.Test.YtfdidkebomeiaaaMuDf
import Derived.Test.YtfdidkebomeiaaaMuPa
import Derived.Test.YtfdidkebomeiaaaMuC2
set_option linter.unusedVariables false
set_option linter.unnecessarySimpa false
set_option linter.unusedSimpArgs false
set_option maxHeartbeats 2000000
set_option maxRecDepth 10000
namespace Mu
open Go (IntKind BinOp UnOp)
theorem zW.ok {h:Hp}{l:List Za}{d:Int}{of:List Int}{v_l:V}{v_of:V}(s_l:Sl Zd h v_l l) (s_of:Sl zo h v_of of) {r:(List ZA)}(hp:zW l d of=some r) :
  ∃ u k',Is G 167 [v_l,.n d,v_of] h u k'∧∃ K,K=u∧Own (fun r=>r<h.n) h k' [eSl zF K r]:=by
 refine WC.is (ZaB ZdD ?_)
 unfold zW at hp
 let B:Nat→Prop:=(fun r=>r<h.n)
 have hO:Own B h h []:=Own.start0 h
 refine Zj (Zb (.sn) rfl (Ze (Zj (Zb (.sn) rfl (Ze (ZM (Zj (Zb (.n 0) rfl ?_))))))))
 refine Ze (Za2 ?_)
 have aa:=hO.nil zF
 refine Zci hp (fun|(out,v),fr,k=>∃ w,fr 0=v_l∧fr 1=.n d∧fr 2=v_of∧fr 7=w∧fr 8=.n v∧Own B h k [eSl zF w out]) (fun out1 e fr k=>e=(.exit 0)∧∃ x,fr 7=x∧Own B h k [eSl zF x out1]) ⟨V.sn,rfl,rfl,rfl,rfl,rfl,(aa.pk [0])⟩ ?_ ?_
 ·rintro ⟨out,v⟩ _ J ⟨w,j,s,t,A,g,a⟩ _ hp
  dsimp only [zW.s0] at hp
  refine ZM (Zj (Zb _ g (Zb _ j (Zc (ZaC (a.rd0 s_l.rd) rfl) (Zc (zV rfl rfl) (Ze (zD hp rfl (fun N hp=>?_) (fun N hp=>?_))))))))
  ·refine Za3 (ZM (Za2 (Zj (Zb _ j (Zb _ g (Zb _ s (ckk hp fun b hp=>Zc (ZW (a.rd0 s_l.rd) rfl rfl b) (Zc (Za6 (a.rd0 s_l.rd) (Zf b) rfl rfl) (ckk hp fun y hp=>Zc (Zbz (a.rd0 s_l.rd) (Zf b) rfl rfl y rfl) ?_)))))))))
   refine Zc (zt (a.rd0 s_l.rd) rfl (Zf b) (zS y)) (Zb (.n (((gi l v.toNat).Next).get d)) rfl (Ze (ZM (Zj (Zb (.n (((gi l v.toNat).Next).get d)) rfl (Zc (zV rfl rfl) (Ze (zD hp rfl (fun O hp=>?_) (fun O hp=>?_)))))))))
   ·refine ZbU (Zas (Zbe (Zx (Zar (Zb _ g (ckk hp fun Q hp=>Zc (zG rfl rfl Q) (Zb (.n (v+1)) rfl (Zo ?_))))))))
    cases hp
    exact ⟨rfl,w,j,s,t,A,rfl,(a.pk [0])⟩
   ·refine Za3 (ZM (ZeS ?_))
    have p:=a.bump 11
    have W:=Fresh.start J 11
    have af:∀ {i:Nat},h.n≤J.n+i:=Nat.le_trans a.n (Nat.le_add_right _ _)
    refine Zaq _ t (Zaq _ g (ckk hp fun C hp=>ZX (ZW (p.rd0 s_of.rd) rfl rfl C) (ZX (zt (p.rd0 s_of.rd) rfl (Zf C) rfl) (Zaq _ t (Zaq (.n (((gi l v.toNat).Next).get d)) rfl (ckk hp fun D hp=>ZX (ZW (p.rd0 s_of.rd) rfl rfl D) (ZX (zt (p.rd0 s_of.rd) rfl (Zf D) rfl) (ZX (ZcA (cs:=zF.c (⟨gi of v.toNat,gi of (((gi l v.toNat).Next).get d:Int).toNat,(0:Int)⟩:ZA)) (by rw [(zP (v:=.n (gi of v.toNat)) rfl (zP (v:=.n (gi of (((gi l v.toNat).Next).get d:Int).toNat)) rfl Zbs))];rfl)) (Zdf (p.alloc (cs:=zF.c (⟨0,0,0⟩:ZA)) ⟨W.m 9 (by decide) (by decide),af⟩) ?_)))))))))
    rintro _ _ _ ⟨ai,rfl,_,_,ab⟩
    refine Zdf (ab.stb (cs':=zF.c (⟨gi of v.toNat,gi of (((gi l v.toNat).Next).get d:Int).toNat,(0:Int)⟩:ZA)) 1 rfl rfl rfl rfl ⟨rfl,Nat.le_of_ble_eq_true rfl,rfl⟩ rfl) ?_
    rintro _ _ _ ⟨rfl,_,_,f⟩
    refine Zch ?_
    refine And.intro ?_ ?_
    ·intro q hq
     simp only [List.mem_cons,List.not_mem_nil,or_false] at hq
     rcases hq with rfl|rfl|rfl
     ·refine Zak ?_ ?_
      ·exact (fun h=>nomatch h)
      ·exact (fun h=>nomatch h)
     ·refine Zak ?_ ?_
      ·exact (fun h=>nomatch h)
      ·exact (fun _ hm=>Nat.lt_irrefl _ (Nat.lt_of_lt_of_le (Nat.lt_of_lt_of_le (a.lo _ (Rd.B s_of.rd a.lo (Zf C) _ (Zbq (tch (ZbS hm) rfl)))) a.n) (Nat.le_add_right _ _)))
     ·refine Zak ?_ ?_
      ·exact (fun h=>nomatch h)
      ·exact (fun _ hm=>Nat.lt_irrefl _ (Nat.lt_of_lt_of_le (Nat.lt_of_lt_of_le (a.lo _ (Rd.B s_of.rd a.lo (Zf D) _ (Zbq (tch (ZbS hm) rfl)))) a.n) (Nat.le_add_right _ _)))
    refine Zx (ZM (Zj (Zb _ j (Zb _ g (Zb _ s (Zc (ZW (f.rd0 s_l.rd) rfl rfl b) (Zc (Za6 (f.rd0 s_l.rd) (Zf b) rfl rfl) (Zc (Zbz (f.rd0 s_l.rd) (Zf b) rfl rfl y rfl) (Zc (zt (f.rd0 s_l.rd) rfl (Zf b) (Zc3 y)) (Zc (Zds rfl rfl) (Ze (zD hp rfl (fun P hp=>?_) (fun P hp=>?_)))))))))))))
    ·refine Zar (Zc (ZaU (r:=ai) (o:=0) rfl rfl) (Zaw (f.stb (cs':=zF.c ({ (⟨gi of v.toNat,gi of (((gi l v.toNat).Next).get d:Int).toNat,(0:Int)⟩:ZA) with Weight:=1 })) 1 rfl rfl rfl rfl ⟨rfl,Nat.le_of_ble_eq_true rfl,rfl⟩ rfl) ?_))
     rintro _ _ ⟨rfl,_,_,H⟩
     refine Ze (Zar (Zb _ A (Zc (Zca (H.box 1 rfl) rfl rfl) (Zaw (H.bsl (E:=zF) (l:=[{ (⟨gi of v.toNat,gi of (((gi l v.toNat).Next).get d:Int).toNat,(0:Int)⟩:ZA) with Weight:=1 }]) H.fr (by rw [(zP (v:=.ag (zF.c ({ (⟨gi of v.toNat,gi of (((gi l v.toNat).Next).get d:Int).toNat,(0:Int)⟩:ZA) with Weight:=1 }))) rfl Zbs)];rfl) rfl) ?_))))
     rintro aj ad ⟨_,_,I⟩
     refine ckk hp fun R hp=>Zaw (I.app (bytes:=24) 0 I.fr rfl (I.sl 2 rfl:Sl zF ad aj [{ (⟨gi of v.toNat,gi of (((gi l v.toNat).Next).get d:Int).toNat,(0:Int)⟩:ZA) with Weight:=1 }]) rfl rfl (fun _=>rfl) R (by decide)) ?_
     rintro L _ ⟨_,ac⟩
     refine Zb L rfl (Zo (Zat (Zx (Zar (Zb _ g (ckk hp fun S hp=>Zc (zG rfl rfl S) (Zb (.n (v+1)) rfl (Zo ?_))))))))
     cases hp
     exact ⟨rfl,L,j,s,t,rfl,rfl,(ac.pk [0])⟩
    ·refine Za3 (Zar (Zb _ A (Zc (Zca (f.box 1 rfl) rfl rfl) (Zaw (f.bsl (E:=zF) (l:=[(⟨gi of v.toNat,gi of (((gi l v.toNat).Next).get d:Int).toNat,(0:Int)⟩:ZA)]) f.fr (by rw [(zP (v:=.ag (zF.c (⟨gi of v.toNat,gi of (((gi l v.toNat).Next).get d:Int).toNat,(0:Int)⟩:ZA))) rfl Zbs)];rfl) rfl) ?_))))
     rintro ak ae ⟨_,_,F⟩
     refine ckk hp fun T hp=>Zaw (F.app (bytes:=24) 0 F.fr rfl (F.sl 2 rfl:Sl zF ae ak [(⟨gi of v.toNat,gi of (((gi l v.toNat).Next).get d:Int).toNat,(0:Int)⟩:ZA)]) rfl rfl (fun _=>rfl) T (by decide)) ?_
     rintro M _ ⟨_,Y⟩
     refine Zb M rfl (Zo (Zat (Zx (Zar (Zb _ g (ckk hp fun U hp=>Zc (zG rfl rfl U) (Zb (.n (v+1)) rfl (Zo ?_))))))))
     cases hp
     exact ⟨rfl,M,j,s,t,rfl,rfl,(Y.pk [0])⟩
  ·refine ZbU (Zas ?_)
   cases hp
   exact ⟨nofun,rfl,w,A,(a.pk [0])⟩
 rintro out1 hp _ _ _ ⟨rfl,x,ah,X⟩
 refine Zbe (Zx (Zj (Zb _ ah (Zb x rfl (Ze (zR (zf (zj rfl ZF) ?_)))))))
 cases hp
 exact ⟨x,rfl,(X.pk [0])⟩

theorem ZY.ok {h:Hp}{n:Int}{arcs:List ZA}{v_arcs:V}(s_arcs:Sl zF h v_arcs arcs) {r:(List Int)}(hp:ZY n arcs=some r) :
  ∃ u k',Is G 112 [.n n,v_arcs] h u k'∧∃ D,D=u∧Own (fun r=>r<h.n) h k' [eSl zo D r]:=by
 refine WC.is (ZaB Zdz ?_)
 unfold ZY at hp
 let B:Nat→Prop:=(fun r=>r<h.n)
 have hO:Own B h h []:=Own.start0 h
 refine Zj (Zb (.sn) rfl (Ze (Zj (Zb (.n n) rfl (ckk hp fun J hp=>Zaw (hO.mks (E:=zo) (y:=(0:Int)) (bytes:=8) (z:=n) hO.fr rfl rfl rfl J (by decide)) ?_)))))
 rintro a _ ⟨_,_,O⟩
 refine Zb a rfl (Ze (ZM (Zj (Zb (.n 0) rfl (Ze (Za2 (Zci hp (fun|(x,round),fr,k=>fr 0=.n n∧fr 1=v_arcs∧fr 5=a∧fr 6=.n round∧Own B h k [eSl zo a x]) (fun x1 e fr k=>e=(.exit 0)∧fr 5=a∧Own B h k [eSl zo a x1]) ⟨rfl,rfl,rfl,rfl,(O.pk [0])⟩ ?_ ?_)))))))
 ·rintro ⟨x,round⟩ _ _ ⟨w,T,A,C,v⟩ _ hp
  dsimp only [ZY.s0] at hp
  refine ZM (Zj (Zb _ C (Zb _ w (Zc (Zh3 rfl rfl) (Ze (zD hp rfl (fun F hp=>?_) (fun F hp=>?_)))))))
  ·refine Za3 (ZM (Za2 (Zj (Zb (.n 0) rfl (Ze (Za2 (Zci hp (fun|(x2,i),fr,k=>fr 0=.n n∧fr 1=v_arcs∧fr 5=a∧fr 6=.n round∧fr 7=.n i∧Own B h k [eSl zo a x2]) (fun x3 e fr k=>e=(.exit 2)∧fr 0=.n n∧fr 1=v_arcs∧fr 5=a∧fr 6=.n round∧Own B h k [eSl zo a x3]) ⟨w,T,A,C,rfl,(v.pk [0])⟩ ?_ ?_)))))))
   ·rintro ⟨x2,i⟩ _ f ⟨s,g,j,t,l,p⟩ _ hp
    dsimp only [ZY.s1] at hp
    refine ZM (Zj (Zb _ l (Zb _ g (Zc (ZaC (p.rd0 s_arcs.rd) rfl) (Zc (zV rfl rfl) (Ze (zD hp rfl (fun H hp=>?_) (fun H hp=>?_))))))))
    ·refine Za3 (ZM (Za2 (ZM (Zh2 ?_))))
     have c:=p.bump 17
     refine Zac _ j (Zac _ g (Zac _ l (ckk hp fun b hp=>ZG rfl (ZW (c.rd0 s_arcs.rd) rfl rfl b) (ZG rfl (Za6 (c.rd0 s_arcs.rd) (Zf b) rfl rfl) (ZG rfl (zt (c.rd0 s_arcs.rd) rfl (Zf b) rfl) (ckk hp fun m hp=>ZG rfl (ZW (c.sl 0 rfl) rfl rfl m) (ZG rfl (zt (c.sl 0 rfl) rfl (Zf m) rfl) (Zac _ j (Zac _ g (Zac _ l (ZG rfl (ZW (c.rd0 s_arcs.rd) rfl rfl b) ?_)))))))))))
     refine ZG rfl (Za6 (c.rd0 s_arcs.rd) (Zf b) rfl rfl) (ZG rfl (zt (c.rd0 s_arcs.rd) rfl (Zf b) rfl) (ckk hp fun o hp=>ZG rfl (ZW (c.sl 0 rfl) rfl rfl o) (ZG rfl (zt (c.sl 0 rfl) rfl (Zf o) rfl) (ZG rfl (Zh3 rfl rfl) (Zal (Zx (zD hp rfl (fun I hp=>?_) (fun I hp=>?_))))))))
     ·refine ZeS ?_
      have d:=c.bump 17
      refine Zaq _ j (Zaq _ g (Zaq _ l (ZX (ZW (d.rd0 s_arcs.rd:Sl zF ((f.bump 17).bump 17) v_arcs arcs) rfl rfl b) (ZX (Za6 (d.rd0 s_arcs.rd:Sl zF ((f.bump 17).bump 17) v_arcs arcs) (Zf b) rfl rfl) (ZX (zt (d.rd0 s_arcs.rd:Sl zF ((f.bump 17).bump 17) v_arcs arcs) rfl (Zf b) rfl) (Zaq _ j (Zaq _ g (Zaq _ l (ZX (ZW (d.rd0 s_arcs.rd:Sl zF ((f.bump 17).bump 17) v_arcs arcs) rfl rfl b) (ZX (Za6 (d.rd0 s_arcs.rd:Sl zF ((f.bump 17).bump 17) v_arcs arcs) (Zf b) rfl rfl) (ZX (zt (d.rd0 s_arcs.rd:Sl zF ((f.bump 17).bump 17) v_arcs arcs) rfl (Zf b) rfl) (ZX (ZW (d.sl 0 rfl:Sl zo ((f.bump 17).bump 17) a x2) rfl rfl o) (ZX (zt (d.sl 0 rfl:Sl zo ((f.bump 17).bump 17) a x2) rfl (Zf o) rfl) ?_)))))))))))))
      refine ckk hp fun K hp=>ZX (zG rfl rfl K) (ZX (ZW (d.sl 0 rfl:Sl zo ((f.bump 17).bump 17) a x2) rfl rfl m) (Zdf (d.ste (y:=((gi x2 ((gi arcs i.toNat).From:Int).toNat)+1)) 0 rfl rfl (Zf m) rfl rfl ⟨rfl,Nat.le_of_ble_eq_true rfl,rfl⟩ rfl) ?_))
      rintro _ _ _ ⟨rfl,_,_,R⟩
      refine Zch ?_
      refine And.intro ?_ ?_
      ·intro q hq
       simp only [List.mem_cons,List.not_mem_nil,or_false] at hq
       rcases hq with rfl|rfl
       ·refine Zak ?_ ?_
        ·exact (fun h=>nomatch h)
        ·exact (fun h=>nomatch h)
       ·refine Zak ?_ ?_
        ·exact (fun h=>nomatch h)
        ·exact (fun h=>nomatch h)
      refine Zat (Zx (Zar (Zb _ l (ckk hp fun L hp=>Zc (zG rfl rfl L) (Zb (.n (i+1)) rfl (Zo ?_))))))
      cases hp
      exact ⟨rfl,s,g,j,t,rfl,(R.pk [0])⟩
     ·refine Zc5 (Zat (Zx (Zar (Zb _ l (ckk hp fun M hp=>Zc (zG rfl rfl M) (Zb (.n (i+1)) rfl (Zo ?_)))))))
      cases hp
      exact ⟨rfl,s,g,j,t,rfl,(c.pk [0])⟩
    ·refine ZbU (Zas ?_)
     cases hp
     exact ⟨nofun,rfl,s,g,j,t,(p.pk [0])⟩
   rintro x3 hp _ _ _ ⟨rfl,U,W,X,Y,Q⟩
   refine Zbe (Zat (Zx (Zar (Zb _ Y (ckk hp fun N hp=>Zc (zG rfl rfl N) (Zb (.n (round+1)) rfl (Zo ?_)))))))
   cases hp
   exact ⟨rfl,U,W,X,rfl,(Q.pk [0])⟩
  ·refine ZbU (Zas ?_)
   cases hp
   exact ⟨nofun,rfl,A,(v.pk [0])⟩
 rintro x1 hp _ _ _ ⟨rfl,S,P⟩
 refine Zbe (Zx (Zj (Zb _ S (Zb a rfl (Ze (zR (zf (zj rfl ZF) ?_)))))))
 cases hp
 exact ⟨a,rfl,(P.pk [0])⟩

theorem Zaj.ok {h:Hp}{c:zh}{x:List Int}{y:List Int}{v_c_X:V}{v_c_Y:V}{v_c_Vert:V}{vs_c_Vert:List V}{v_c_Horz:V}{vs_c_Horz:List V}{v_x:V}{v_y:V}(s_c_X:Sl zo h v_c_X c.X) (s_c_Y:Sl zo h v_c_Y c.Y) (sN_c_Vert:Sl eV h v_c_Vert vs_c_Vert) (lN_c_Vert:vs_c_Vert.length=c.Vert.length) (iN_c_Vert:∀ j,j<c.Vert.length→Sl zo h (gi vs_c_Vert j) (gi c.Vert j)) (sN_c_Horz:Sl eV h v_c_Horz vs_c_Horz) (lN_c_Horz:vs_c_Horz.length=c.Horz.length) (iN_c_Horz:∀ j,j<c.Horz.length→Sl zo h (gi vs_c_Horz j) (gi c.Horz j)) (s_x:Sl zo h v_x x) (s_y:Sl zo h v_y y) {r:(List Zh)}(hp:Zaj c x y=some r) :
  ∃ u k',Is G 169 [.ag [v_c_X,v_c_Y,v_c_Vert,v_c_Horz],v_x,v_y] h u k'∧∃ N,N=u∧Own (fun r=>r<h.n) h k' [eSl Zi N r]:=by
 refine WC.is (ZaB ZdE ?_)
 unfold Zaj at hp
 let B:Nat→Prop:=(fun r=>r<h.n)
 have hO:Own B h h []:=Own.start0 h
 refine Zj (Zaw (hO.boxd (cs:=[v_c_X,v_c_Y,v_c_Vert,v_c_Horz]) hO.fr rfl rfl) ?_)
 rintro _ _ ⟨d,rfl,_,_,U⟩
 refine Zb (.sn) rfl (Ze (Zj (Zb (.sn) rfl (Ze (ZM (Zj (Zb (.n 0) rfl (Ze ?_))))))))
 refine Za2 ?_
 have aa:=U.nil Zi
 refine Zci hp (fun|(out,v),fr,k=>∃ t,fr 1=v_x∧fr 2=v_y∧fr 3=.p d 0∧fr 7=t∧fr 8=.n v∧Own B h k [ZaF d [v_c_X,v_c_Y,v_c_Vert,v_c_Horz],eSl Zi t out]) (fun out1 e fr k=>e=(.exit 0)∧∃ f,fr 7=f∧Own B h k [eSl Zi f out1]) ⟨V.sn,rfl,rfl,rfl,rfl,rfl,(aa.pk [0,1])⟩ ?_ ?_
 ·rintro ⟨out,v⟩ _ I ⟨t,K,L,g,M,s,b⟩ _ hp
  dsimp only [Zaj.s0] at hp
  refine ZM (Zj (Zb _ s (Zc (ZaU (r:=d) (o:=0) g rfl) (Zc (Zad (b.box 0 rfl) rfl rfl) (Zc (ZaC (b.rd0 s_c_X.rd) rfl) (Zc (zV rfl rfl) (Ze (zD hp rfl (fun P hp=>?_) (fun P hp=>?_)))))))))
  ·refine Za3 (ZM (Za2 (ZeS ?_)))
   have a:=b.bump 21
   have F:=Fresh.start I 21
   have J:∀ {i:Nat},h.n≤I.n+i:=Nat.le_trans b.n (Nat.le_add_right _ _)
   refine Zaq _ M (Zaq _ K (ZX (ZaU (r:=d) (o:=0) g rfl) (ZX (Zad (a.box 0 rfl) rfl rfl) (Zaq _ s (ckk hp fun w hp=>ZX (ZW (a.rd0 s_c_X.rd) rfl rfl w) (ZX (zt (a.rd0 s_c_X.rd) rfl (Zf w) rfl) (ckk hp fun A hp=>ZX (ZW (a.rd0 s_x.rd) rfl rfl A) (ZX (zt (a.rd0 s_x.rd) rfl (Zf A) rfl) (Zaq _ L (ZX (ZaU (r:=d) (o:=0) g rfl) (ZX (Zad (a.box 0 rfl) rfl rfl) ?_)))))))))))
   refine Zaq _ s (ckk hp fun C hp=>ZX (ZW (a.rd0 s_c_Y.rd) rfl rfl C) (ZX (zt (a.rd0 s_c_Y.rd) rfl (Zf C) rfl) (ckk hp fun D hp=>ZX (ZW (a.rd0 s_y.rd) rfl rfl D) (ZX (zt (a.rd0 s_y.rd) rfl (Zf D) rfl) (ZX (ZcA (cs:=Zi.c (⟨gi x (gi c.X v.toNat:Int).toNat,gi y (gi c.Y v.toNat:Int).toNat⟩:Zh)) (by rw [(zP (v:=.n (gi x (gi c.X v.toNat:Int).toNat)) rfl (zP (v:=.n (gi y (gi c.Y v.toNat:Int).toNat)) rfl Zbs))];rfl)) (Zdf (a.bsl (E:=Zi) (l:=[(⟨gi x (gi c.X v.toNat:Int).toNat,gi y (gi c.Y v.toNat:Int).toNat⟩:Zh)]) ⟨F.m 18 (by decide) (by decide),J⟩ (by rw [(zP (v:=.ag (Zi.c (⟨gi x (gi c.X v.toNat:Int).toNat,gi y (gi c.Y v.toNat:Int).toNat⟩:Zh))) rfl Zbs)];rfl) rfl) ?_))))))
   rintro ae ac _ ⟨_,S,H⟩
   have T:=F.kept S (by decide)
   refine ckk hp fun Q hp=>Zdf (H.app (bytes:=16) 1 ⟨T.m 19 (by decide) (by decide),J⟩ rfl (H.sl 2 rfl:Sl Zi ac ae [(⟨gi x (gi c.X v.toNat:Int).toNat,gi y (gi c.Y v.toNat:Int).toNat⟩:Zh)]) rfl rfl (fun _=>rfl) Q (by decide)) ?_
   rintro O _ _ ⟨_,ab⟩
   refine Zaq O rfl (Zch ?_)
   refine And.intro ?_ ?_
   ·intro q hq
    simp only [List.mem_cons,List.not_mem_nil,or_false] at hq
    rcases hq with rfl|rfl|rfl|rfl|rfl|rfl|rfl|rfl|rfl
    ·refine Zak ?_ ?_
     ·exact (fun h=>nomatch h)
     ·exact (fun h=>nomatch h)
    ·refine Zak ?_ ?_
     ·exact (fun h=>nomatch h)
     ·exact (fun h=>nomatch h)
    ·refine Zak ?_ ?_
     ·exact (fun h=>nomatch h)
     ·exact (fun h=>nomatch h)
    ·refine Zak ?_ ?_
     ·exact (fun h=>nomatch h)
     ·exact (fun h=>nomatch h)
    ·refine Zak ?_ ?_
     ·exact (fun h=>nomatch h)
     ·exact (fun h=>nomatch h)
    ·refine Zak ?_ ?_
     ·exact (fun h=>nomatch h)
     ·exact (fun h=>nomatch h)
    ·refine Zak ?_ ?_
     ·exact (fun h=>nomatch h)
     ·exact (fun h=>nomatch h)
    ·refine Zak ?_ ?_
     ·exact (fun h=>nomatch h)
     ·exact (fun h=>nomatch h)
    ·refine Zak ?_ ?_
     ·exact (fun h=>nomatch h)
     ·exact (fun h=>nomatch h)
   refine Zat (Zx (Zar (Zb _ s (ckk hp fun R hp=>Zc (zG rfl rfl R) (Zb (.n (v+1)) rfl (Zo ?_))))))
   cases hp
   exact ⟨rfl,O,K,L,g,rfl,rfl,(ab.pk [0,1])⟩
  ·refine ZbU (Zas ?_)
   cases hp
   exact ⟨nofun,rfl,t,M,(b.pk [1])⟩
 rintro out1 hp _ _ _ ⟨rfl,f,ad,W⟩
 refine Zbe (Zx (Zj (Zb _ ad (Zb f rfl (Ze (zR (zf (zj rfl ZF) ?_)))))))
 cases hp
 exact ⟨f,rfl,(W.pk [0])⟩

theorem zE.ok {h:Hp}{l:List Za}{at_:List Zh}{v_l:V}{v_at_:V}(s_l:Sl Zd h v_l l) (s_at_:Sl Zi h v_at_ at_) {r:Bool}(hp:zE l at_=some r) :
  ∃ u k',Is G 193 [v_l,v_at_] h u k'∧V.b r=u∧Own (fun r=>r<h.n) h k' []:=by
 refine WC.is (ZaB Zdd ?_)
 unfold zE at hp
 let B:Nat→Prop:=(fun r=>r<h.n)
 have hO:Own B h h []:=Own.start0 h
 refine Zj (Zb (.b false) rfl (Ze (ZM (Zj (Zb (.n 0) rfl (Ze (Za2 (Zci hp (fun v fr k=>fr 0=v_l∧fr 1=v_at_∧fr 5=.n v∧Own B h k []) (fun|.inl _,e,fr,k=>e=(.exit 0)∧Own B h k []|.inr _,e,fr,k=>e=.ret∧fr 4=.b false∧Own B h k []) ⟨rfl,rfl,rfl,(hO.pk [])⟩ ?_ ?_))))))))
 ·rintro v _ j ⟨F,s,x,q⟩ _ hp
  dsimp only [zE.s0] at hp
  refine ZM (Zj (Zb _ x (Zb _ F (Zc (ZaC (q.rd0 s_l.rd) rfl) (Zc (zV rfl rfl) (Ze (zD hp rfl (fun K hp=>?_) (fun K hp=>?_))))))))
  ·refine Za3 (ZM (Za2 (Zj (Zb _ F (Zb _ x (ckk hp fun o hp=>Zc (ZW (q.rd0 s_l.rd) rfl rfl o) (Zc (Za6 (q.rd0 s_l.rd) (Zf o) rfl rfl) (Zc (Zbz (q.rd0 s_l.rd) (Zf o) rfl rfl (by decide) rfl) (Zc (zt (q.rd0 s_l.rd) rfl (Zf o) rfl) (Zb (.n (((gi l v.toNat).Next).get 0)) rfl ?_))))))))))
   refine Ze (ZM (ZM (Zh2 ?_)))
   have i:=q.bump 30
   refine Zac (.n (((gi l v.toNat).Next).get 0)) rfl (ZG rfl (Zds rfl rfl) (Zac (.b (decide (0≤(((gi l v.toNat).Next).get 0)))) rfl ?_))
   obtain ⟨t,ah,hp⟩:=Za7 hp
   refine Zck 27 (fun f k=>(j.bump 30)=k∧f 49=.b t∧f 0=v_l∧f 1=v_at_∧f 5=.n v) ?_ ?_
   ·clear hp;rcases ZaW ah with ⟨a,hp⟩|⟨a,hp⟩
    ·refine Zv rfl a (Zac _ s (Zv rfl a (Zac (.n (((gi l v.toNat).Next).get 0)) rfl (Zv rfl a (ZG rfl (ZlZ rfl rfl) (Zv rfl a (ckk hp fun y hp=>ZG rfl (ZW (i.rd0 s_at_.rd) rfl rfl y) (Zv rfl a (ZG rfl (Za6 (i.rd0 s_at_.rd) (Zf y) rfl rfl) (Zv rfl a (ZG rfl (zt (i.rd0 s_at_.rd) rfl (Zf y) rfl) (Zv rfl a ?_))))))))))))
     refine Zac _ s (Zv rfl a (Zac _ x (Zv rfl a (ckk hp fun A hp=>ZG rfl (ZW (i.rd0 s_at_.rd) rfl rfl A) (Zv rfl a (ZG rfl (Za6 (i.rd0 s_at_.rd) (Zf A) rfl rfl) (Zv rfl a (ZG rfl (zt (i.rd0 s_at_.rd) rfl (Zf A) rfl) (Zv rfl a (ZG rfl (Zcv rfl rfl) (Zv rfl a (Zac (.b (!(decide ((gi at_ (max (((gi l v.toNat).Next).get 0) 0:Int).toNat).Y=(gi at_ v.toNat).Y)))) rfl (Zck 13 (fun f k=>(j.bump 30)=k∧f 48=.b ((!(decide ((gi at_ (max (((gi l v.toNat).Next).get 0) 0:Int).toNat).Y=(gi at_ v.toNat).Y)))||(decide (((gi at_ (max (((gi l v.toNat).Next).get 0) 0:Int).toNat).X)≤((gi at_ v.toNat).X))))∧f 0=v_l∧f 1=v_at_∧f 22=.b (decide (0≤(((gi l v.toNat).Next).get 0)))∧f 5=.n v) ?_ ?_)))))))))))))
     ·rcases bc (!(decide ((gi at_ (max (((gi l v.toNat).Next).get 0) 0:Int).toNat).Y=(gi at_ v.toNat).Y))) with d|d
      ·refine Zn rfl d (Zn rfl d (Zn rfl d (Zn rfl d (Zn rfl d (Zn rfl d (Zn rfl d (Zn rfl d (Zn rfl d (Zn rfl d (Zn rfl d (Zn rfl d (Zv rfl a (ZG rfl (Zc6 (w:=(!(decide ((gi at_ (max (((gi l v.toNat).Next).get 0) 0:Int).toNat).Y=(gi at_ v.toNat).Y)))||(decide (((gi at_ (max (((gi l v.toNat).Next).get 0) 0:Int).toNat).X)≤((gi at_ v.toNat).X)))) rfl d rfl) ?_)))))))))))))
       refine Zal ?_
       exact ⟨rfl,rfl,F,s,rfl,x⟩
      ·refine Zv rfl d (Zac _ s (Zv rfl d (Zac (.n (((gi l v.toNat).Next).get 0)) rfl (Zv rfl d (ZG rfl (ZlZ rfl rfl) (Zv rfl d (ZG rfl (ZW (i.rd0 s_at_.rd) rfl rfl y) (Zv rfl d (ZG rfl (Za6 (i.rd0 s_at_.rd) (Zf y) rfl rfl) (Zv rfl d (ZG rfl (zt (i.rd0 s_at_.rd) rfl (Zf y) rfl) (Zv rfl d (Zac _ s ?_)))))))))))))
       refine Zv rfl d (Zac _ x (Zv rfl d (ZG rfl (ZW (i.rd0 s_at_.rd) rfl rfl A) (Zv rfl d (ZG rfl (Za6 (i.rd0 s_at_.rd) (Zf A) rfl rfl) (Zv rfl d (ZG rfl (zt (i.rd0 s_at_.rd) rfl (Zf A) rfl) (Zv rfl d (ZG rfl (Zh3 rfl rfl) (Zv rfl a (ZG rfl (Zc7 rfl d rfl) (Zal ?_))))))))))))
       exact ⟨rfl,rfl,F,s,rfl,x⟩
     rintro _ _ ⟨rfl,R,O,P,Q,S⟩
     refine ZG rfl (ZaH (v:=.b t) Q a (Eq.trans (b:=V.b ((!(decide ((gi at_ (max (((gi l v.toNat).Next).get 0) 0:Int).toNat).Y=(gi at_ v.toNat).Y)))||(decide (((gi at_ (max (((gi l v.toNat).Next).get 0) 0:Int).toNat).X)≤((gi at_ v.toNat).X))))) R (congrArg V.b (Option.some.inj hp)))) (Zal ?_)
     exact ⟨rfl,rfl,O,P,S⟩
    ·refine Zn rfl a (Zn rfl a (Zn rfl a (Zn rfl a (Zn rfl a (Zn rfl a (Zn rfl a (Zn rfl a (Zn rfl a (Zn rfl a (Zn rfl a (Zn rfl a (Zn rfl a (Zbv rfl ?_)))))))))))))
     refine Zbv rfl (Zbv rfl (Zbv rfl (Zbv rfl (Zbv rfl (Zbv rfl (Zbv rfl (Zbv rfl (Zbv rfl (Zbv rfl (Zbv rfl (Zn rfl a (ZG rfl (Za0 (v:=.b t) rfl a (Eq.trans (b:=V.b false) rfl (congrArg V.b (Option.some.inj hp)))) (Zal ?_)))))))))))))
     exact ⟨rfl,rfl,F,s,x⟩
   rintro _ _ ⟨rfl,T,H,p,E⟩
   refine Zal (Zx (zD hp T (fun L hp=>?_) (fun L hp=>?_)))
   ·refine Zj (Zb (.b false) rfl (Ze (zR (zl (Zbt (zl ?_))))))
    cases hp
    exact ⟨nofun,rfl,rfl,(i.pk [])⟩
   ·refine Za3 (Zj (Zb _ H (Zb _ E (Zc (ZW (i.rd0 s_l.rd) rfl rfl o) (Zc (Za6 (i.rd0 s_l.rd) (Zf o) rfl rfl) (Zc (Zbz (i.rd0 s_l.rd) (Zf o) rfl rfl (by decide) rfl) (Zc (zt (i.rd0 s_l.rd) rfl (Zf o) rfl) (Zb (.n (((gi l v.toNat).Next).get 1)) rfl (Ze (ZM ?_))))))))))
    refine Zh2 ?_
    have m:=i.bump 30
    refine Zac (.n (((gi l v.toNat).Next).get 1)) rfl (ZG rfl (Zds rfl rfl) (Zac (.b (decide (0≤(((gi l v.toNat).Next).get 1)))) rfl ?_))
    obtain ⟨t1,ai,hp⟩:=Za7 hp
    refine Zck 27 (fun f k=>((j.bump 30).bump 30)=k∧f 85=.b t1∧f 0=v_l∧f 1=v_at_∧f 5=.n v) ?_ ?_
    ·clear hp;rcases ZaW ai with ⟨c,hp⟩|⟨c,hp⟩
     ·refine Zv rfl c (Zac _ p (Zv rfl c (Zac (.n (((gi l v.toNat).Next).get 1)) rfl (Zv rfl c (ZG rfl (ZlZ rfl rfl) (Zv rfl c (ckk hp fun C hp=>ZG rfl (ZW (m.rd0 s_at_.rd:Sl Zi ((j.bump 30).bump 30) v_at_ at_) rfl rfl C) (Zv rfl c (ZG rfl (Za6 (m.rd0 s_at_.rd:Sl Zi ((j.bump 30).bump 30) v_at_ at_) (Zf C) rfl rfl) (Zv rfl c (ZG rfl (zt (m.rd0 s_at_.rd:Sl Zi ((j.bump 30).bump 30) v_at_ at_) rfl (Zf C) rfl) (Zv rfl c ?_))))))))))))
      refine Zac _ p (Zv rfl c (Zac _ E (Zv rfl c (ckk hp fun D hp=>ZG rfl (ZW (m.rd0 s_at_.rd:Sl Zi ((j.bump 30).bump 30) v_at_ at_) rfl rfl D) (Zv rfl c (ZG rfl (Za6 (m.rd0 s_at_.rd:Sl Zi ((j.bump 30).bump 30) v_at_ at_) (Zf D) rfl rfl) (Zv rfl c (ZG rfl (zt (m.rd0 s_at_.rd:Sl Zi ((j.bump 30).bump 30) v_at_ at_) rfl (Zf D) rfl) (Zv rfl c (ZG rfl (Zcv rfl rfl) (Zv rfl c (Zac (.b (!(decide ((gi at_ (max (((gi l v.toNat).Next).get 1) 0:Int).toNat).X=(gi at_ v.toNat).X)))) rfl (Zck 13 (fun f k=>((j.bump 30).bump 30)=k∧f 84=.b ((!(decide ((gi at_ (max (((gi l v.toNat).Next).get 1) 0:Int).toNat).X=(gi at_ v.toNat).X)))||(decide (((gi at_ (max (((gi l v.toNat).Next).get 1) 0:Int).toNat).Y)≤((gi at_ v.toNat).Y))))∧f 0=v_l∧f 1=v_at_∧f 5=.n v∧f 58=.b (decide (0≤(((gi l v.toNat).Next).get 1)))) ?_ ?_)))))))))))))
      ·rcases bc (!(decide ((gi at_ (max (((gi l v.toNat).Next).get 1) 0:Int).toNat).X=(gi at_ v.toNat).X))) with g|g
       ·refine Zn rfl g (Zn rfl g (Zn rfl g (Zn rfl g (Zn rfl g (Zn rfl g (Zn rfl g (Zn rfl g (Zn rfl g (Zn rfl g (Zn rfl g (Zn rfl g (Zv rfl c (ZG rfl (Zc6 (w:=(!(decide ((gi at_ (max (((gi l v.toNat).Next).get 1) 0:Int).toNat).X=(gi at_ v.toNat).X)))||(decide (((gi at_ (max (((gi l v.toNat).Next).get 1) 0:Int).toNat).Y)≤((gi at_ v.toNat).Y)))) rfl g rfl) ?_)))))))))))))
        refine Zal ?_
        exact ⟨rfl,rfl,H,p,E,rfl⟩
       ·refine Zv rfl g (Zac _ p (Zv rfl g (Zac (.n (((gi l v.toNat).Next).get 1)) rfl (Zv rfl g (ZG rfl (ZlZ rfl rfl) (Zv rfl g (ZG rfl (ZW (m.rd0 s_at_.rd:Sl Zi ((j.bump 30).bump 30) v_at_ at_) rfl rfl C) (Zv rfl g (ZG rfl (Za6 (m.rd0 s_at_.rd:Sl Zi ((j.bump 30).bump 30) v_at_ at_) (Zf C) rfl rfl) (Zv rfl g (ZG rfl (zt (m.rd0 s_at_.rd:Sl Zi ((j.bump 30).bump 30) v_at_ at_) rfl (Zf C) rfl) (Zv rfl g (Zac _ p ?_)))))))))))))
        refine Zv rfl g (Zac _ E (Zv rfl g (ZG rfl (ZW (m.rd0 s_at_.rd:Sl Zi ((j.bump 30).bump 30) v_at_ at_) rfl rfl D) (Zv rfl g (ZG rfl (Za6 (m.rd0 s_at_.rd:Sl Zi ((j.bump 30).bump 30) v_at_ at_) (Zf D) rfl rfl) (Zv rfl g (ZG rfl (zt (m.rd0 s_at_.rd:Sl Zi ((j.bump 30).bump 30) v_at_ at_) rfl (Zf D) rfl) (Zv rfl g (ZG rfl (Zh3 rfl rfl) (Zv rfl c (ZG rfl (Zc7 rfl g rfl) (Zal ?_))))))))))))
        exact ⟨rfl,rfl,H,p,E,rfl⟩
      rintro _ _ ⟨rfl,ac,U,W,aa,ab⟩
      refine ZG rfl (ZaH (v:=.b t1) ab c (Eq.trans (b:=V.b ((!(decide ((gi at_ (max (((gi l v.toNat).Next).get 1) 0:Int).toNat).X=(gi at_ v.toNat).X)))||(decide (((gi at_ (max (((gi l v.toNat).Next).get 1) 0:Int).toNat).Y)≤((gi at_ v.toNat).Y))))) ac (congrArg V.b (Option.some.inj hp)))) (Zal ?_)
      exact ⟨rfl,rfl,U,W,aa⟩
     ·refine Zn rfl c (Zn rfl c (Zn rfl c (Zn rfl c (Zn rfl c (Zn rfl c (Zn rfl c (Zn rfl c (Zn rfl c (Zn rfl c (Zn rfl c (Zn rfl c (Zn rfl c (Zbv rfl ?_)))))))))))))
      refine Zbv rfl (Zbv rfl (Zbv rfl (Zbv rfl (Zbv rfl (Zbv rfl (Zbv rfl (Zbv rfl (Zbv rfl (Zbv rfl (Zbv rfl (Zn rfl c (ZG rfl (Za0 (v:=.b t1) rfl c (Eq.trans (b:=V.b false) rfl (congrArg V.b (Option.some.inj hp)))) (Zal ?_)))))))))))))
      exact ⟨rfl,rfl,H,p,E⟩
    rintro _ _ ⟨rfl,ag,ad,ae,af⟩
    refine Zal (Zx (zD hp ag (fun M hp=>?_) (fun M hp=>?_)))
    ·refine Zj (Zb (.b false) rfl (Ze (zR (Zbt (zl ?_)))))
     cases hp
     exact ⟨nofun,rfl,rfl,(m.pk [])⟩
    ·refine Zc5 (Zat (Zx (Zar (Zb _ af (ckk hp fun N hp=>Zc (zG rfl rfl N) (Zb (.n (v+1)) rfl (Zo ?_)))))))
     cases hp
     exact ⟨rfl,ad,ae,rfl,(m.pk [])⟩
  ·refine ZbU (Zas ?_)
   cases hp
   exact ⟨nofun,rfl,(q.pk [])⟩
 rintro (_|_) hp _ _ _ J
 ·obtain ⟨rfl,I⟩:=J
  refine Zbe (Zx (Zj (Zb (.b true) rfl (Ze (zR (zf (zj rfl ZF) ?_))))))
  cases hp
  exact ⟨rfl,(I.pk [])⟩
 ·obtain ⟨rfl,aj,I⟩:=J
  refine Zbt (zl (zf (zj aj ZF) ?_))
  cases hp
  exact ⟨rfl,(I.pk [])⟩

theorem zm.ok {h:Hp}{c:zh}{v_c_X:V}{v_c_Y:V}{v_c_Vert:V}{vs_c_Vert:List V}{v_c_Horz:V}{vs_c_Horz:List V}(s_c_X:Sl zo h v_c_X c.X) (s_c_Y:Sl zo h v_c_Y c.Y) (sN_c_Vert:Sl eV h v_c_Vert vs_c_Vert) (lN_c_Vert:vs_c_Vert.length=c.Vert.length) (iN_c_Vert:∀ j,j<c.Vert.length→Sl zo h (gi vs_c_Vert j) (gi c.Vert j)) (sN_c_Horz:Sl eV h v_c_Horz vs_c_Horz) (lN_c_Horz:vs_c_Horz.length=c.Horz.length) (iN_c_Horz:∀ j,j<c.Horz.length→Sl zo h (gi vs_c_Horz j) (gi c.Horz j)) {r:(List ZR)}(hp:zm c=some r) :
  ∃ u k',Is G 188 [.ag [v_c_X,v_c_Y,v_c_Vert,v_c_Horz]] h u k'∧∃ J,J=u∧Own (fun r=>r<h.n) h k' [eSl zb J r]:=by
 refine WC.is (ZaB ZdF ?_)
 unfold zm at hp
 let B:Nat→Prop:=(fun r=>r<h.n)
 have hO:Own B h h []:=Own.start0 h
 refine Zj (Zaw (hO.boxd (cs:=[v_c_X,v_c_Y,v_c_Vert,v_c_Horz]) hO.fr rfl rfl) ?_)
 rintro _ _ ⟨f,rfl,_,_,aa⟩
 refine Zb (.sn) rfl (Ze (Zj (Zb (.sn) rfl (Ze (ZM (Zj (Zb (.n 0) rfl (Ze ?_))))))))
 refine Za2 ?_
 have ad:=aa.nil zb
 refine Zci hp (fun|(l,i),fr,k=>∃ s,fr 1=.p f 0∧fr 3=s∧fr 4=.n i∧Own B h k [ZaF f [v_c_X,v_c_Y,v_c_Vert,v_c_Horz],eSl zb s l]) (fun l1 e fr k=>e=(.exit 0)∧∃ y,fr 1=.p f 0∧fr 3=y∧Own B h k [ZaF f [v_c_X,v_c_Y,v_c_Vert,v_c_Horz],eSl zb y l1]) ⟨V.sn,rfl,rfl,rfl,(ad.pk [0,1])⟩ ?_ ?_
 ·rintro ⟨l,i⟩ _ ah ⟨s,g,H,m,a⟩ _ hp
  dsimp only [zm.s0] at hp
  refine ZM (Zj (Zb _ m (Zc (ZaU (r:=f) (o:=0) g rfl) (Zc (Zad (a.box 0 rfl) rfl rfl) (Zc (Zgk (n:=(c.Vert).length) (a.rd0 sN_c_Vert.rd) lN_c_Vert rfl) (Zc (zV rfl rfl) (Ze (zD hp rfl (fun M hp=>?_) (fun M hp=>?_)))))))))
  ·refine Za3 (ZM (Za2 (Zj (Zc (ZaU (r:=f) (o:=0) g rfl) (Zc (Zad (a.box 0 rfl) rfl rfl) (Zb _ m (ckk hp fun A hp=>Zc (ZW (a.rd0 sN_c_Vert.rd) rfl rfl (by rw [lN_c_Vert];exact A)) (Zc (zt (a.rd0 sN_c_Vert.rd) rfl (by rw [lN_c_Vert];exact Zf A) rfl) (Zc (ZaC (a.rd0 ((fun j hj=>(iN_c_Vert j hj).rd) _ (Zf A)):Sl zo ah (gi vs_c_Vert i.toNat) (gi c.Vert i.toNat)) rfl) (Zc (ZeU rfl rfl) ?_))))))))))
   refine Ze (zD hp rfl (fun N hp=>?_) (fun N hp=>?_))
   ·refine Zar (Zb _ H (Zb _ m (Zc (ZcA (cs:=zb.c (⟨true,i⟩:ZR)) (by rw [(zP (v:=.b true) rfl (zP (v:=.n i) rfl Zbs))];rfl)) (Zaw (a.bsl (E:=zb) (l:=[(⟨true,i⟩:ZR)]) a.fr (by rw [(zP (v:=.ag (zb.c (⟨true,i⟩:ZR))) rfl Zbs)];rfl) rfl) ?_))))
    rintro _ _ ⟨_,_,D⟩
    refine ckk hp fun Q hp=>Zaw (D.app (bytes:=16) 1 D.fr rfl (D.sl 2 rfl) rfl rfl (fun _=>rfl) Q (by decide)) ?_
    rintro K _ ⟨_,ae⟩
    refine Zb K rfl (Zo (Zat (Zx (Zar (Zb _ m (ckk hp fun R hp=>Zc (zG rfl rfl R) (Zb (.n (i+1)) rfl (Zo ?_))))))))
    cases hp
    exact ⟨rfl,K,g,rfl,rfl,(ae.pk [0,1])⟩
   ·refine Zc5 (Zat (Zx (Zar (Zb _ m (ckk hp fun S hp=>Zc (zG rfl rfl S) (Zb (.n (i+1)) rfl (Zo ?_)))))))
    cases hp
    exact ⟨rfl,s,g,H,rfl,(a.pk [0,1])⟩
  ·refine ZbU (Zas ?_)
   cases hp
   exact ⟨nofun,rfl,s,g,H,(a.pk [0,1])⟩
 rintro l1 hp _ _ _ ⟨rfl,y,aj,ak,ac⟩
 refine Zbe (Zx (ZM (Zj (Zb (.n 0) rfl (Ze (Za2 (Zci hp (fun|(l2,i1),fr,k=>∃ t,fr 1=.p f 0∧fr 3=t∧fr 5=.n i1∧Own B h k [ZaF f [v_c_X,v_c_Y,v_c_Vert,v_c_Horz],eSl zb t l2]) (fun l3 e fr k=>e=(.exit 2)∧∃ w,fr 3=w∧Own B h k [eSl zb w l3]) ⟨y,aj,ak,rfl,(ac.pk [0,1])⟩ ?_ ?_)))))))
 ·rintro ⟨l2,i1⟩ _ ai ⟨t,x,I,q,d⟩ _ hp
  dsimp only [zm.s1] at hp
  refine ZM (Zj (Zb _ q (Zc (ZaU (r:=f) (o:=0) x rfl) (Zc (Zad (d.box 0 rfl) rfl rfl) (Zc (Zgk (n:=(c.Horz).length) (d.rd0 sN_c_Horz.rd) lN_c_Horz rfl) (Zc (zV rfl rfl) (Ze (zD hp rfl (fun O hp=>?_) (fun O hp=>?_)))))))))
  ·refine Za3 (ZM (Za2 (Zj (Zc (ZaU (r:=f) (o:=0) x rfl) (Zc (Zad (d.box 0 rfl) rfl rfl) (Zb _ q (ckk hp fun C hp=>Zc (ZW (d.rd0 sN_c_Horz.rd) rfl rfl (by rw [lN_c_Horz];exact C)) (Zc (zt (d.rd0 sN_c_Horz.rd) rfl (by rw [lN_c_Horz];exact Zf C) rfl) (Zc (ZaC (d.rd0 ((fun j hj=>(iN_c_Horz j hj).rd) _ (Zf C)):Sl zo ai (gi vs_c_Horz i1.toNat) (gi c.Horz i1.toNat)) rfl) (Zc (ZeU rfl rfl) ?_))))))))))
   refine Ze (zD hp rfl (fun P hp=>?_) (fun P hp=>?_))
   ·refine Zar (Zb _ I (Zb _ q (Zc (ZcA (cs:=zb.c (⟨false,i1⟩:ZR)) (by rw [(zP (v:=.n i1) rfl Zbs)];rfl)) (Zaw (d.bsl (E:=zb) (l:=[(⟨false,i1⟩:ZR)]) d.fr (by rw [(zP (v:=.ag (zb.c (⟨false,i1⟩:ZR))) rfl Zbs)];rfl) rfl) ?_))))
    rintro _ _ ⟨_,_,F⟩
    refine ckk hp fun T hp=>Zaw (F.app (bytes:=16) 1 F.fr rfl (F.sl 2 rfl) rfl rfl (fun _=>rfl) T (by decide)) ?_
    rintro L _ ⟨_,ab⟩
    refine Zb L rfl (Zo (Zat (Zx (Zar (Zb _ q (ckk hp fun U hp=>Zc (zG rfl rfl U) (Zb (.n (i1+1)) rfl (Zo ?_))))))))
    cases hp
    exact ⟨rfl,L,x,rfl,rfl,(ab.pk [0,1])⟩
   ·refine Zc5 (Zat (Zx (Zar (Zb _ q (ckk hp fun W hp=>Zc (zG rfl rfl W) (Zb (.n (i1+1)) rfl (Zo ?_)))))))
    cases hp
    exact ⟨rfl,t,x,I,rfl,(d.pk [0,1])⟩
  ·refine ZbU (Zas ?_)
   cases hp
   exact ⟨nofun,rfl,t,I,(d.pk [1])⟩
 rintro l3 hp _ _ _ ⟨rfl,w,al,af⟩
 refine Zbe (Zx (Zj (Zb _ al (Zb w rfl (Ze (zR (zf (zj rfl ZF) ?_)))))))
 cases hp
 exact ⟨w,rfl,(af.pk [0])⟩

theorem zU.ok {h:Hp}{c:zh}{vertical:Bool}{i:Int}{other:Bool}{k_:Int}{v_c_X:V}{v_c_Y:V}{v_c_Vert:V}{vs_c_Vert:List V}{v_c_Horz:V}{vs_c_Horz:List V}(s_c_X:Sl zo h v_c_X c.X) (s_c_Y:Sl zo h v_c_Y c.Y) (sN_c_Vert:Sl eV h v_c_Vert vs_c_Vert) (lN_c_Vert:vs_c_Vert.length=c.Vert.length) (iN_c_Vert:∀ j,j<c.Vert.length→Sl zo h (gi vs_c_Vert j) (gi c.Vert j)) (sN_c_Horz:Sl eV h v_c_Horz vs_c_Horz) (lN_c_Horz:vs_c_Horz.length=c.Horz.length) (iN_c_Horz:∀ j,j<c.Horz.length→Sl zo h (gi vs_c_Horz j) (gi c.Horz j)) {r:Bool}(hp:zU c vertical i other k_=some r) :
  ∃ u k',Is G 124 [.ag [v_c_X,v_c_Y,v_c_Vert,v_c_Horz],.b vertical,.n i,.b other,.n k_] h u k'∧V.b r=u∧Own (fun r=>r<h.n) h k' []:=by
 refine WC.is (ZaB ZdW ?_)
 unfold zU at hp
 let B:Nat→Prop:=(fun r=>r<h.n)
 have hO:Own B h h []:=Own.start0 h
 refine Zj (Zaw (hO.boxd (cs:=[v_c_X,v_c_Y,v_c_Vert,v_c_Horz]) hO.fr rfl rfl) ?_)
 rintro _ _ ⟨g,rfl,_,_,ar⟩
 refine Zb (.b false) rfl (Ze (ZM (Zj (Zb (.n 0) rfl (Ze (Za2 (Zci hp (fun v fr k=>fr 1=.b vertical∧fr 2=.n i∧fr 3=.b other∧fr 4=.n k_∧fr 5=.p g 0∧fr 11=.n v∧Own B h k [ZaF g [v_c_X,v_c_Y,v_c_Vert,v_c_Horz]]) (fun|.inl _,e,fr,k=>e=(.exit 0)∧Own B h k []|.inr _,e,fr,k=>e=.ret∧fr 10=.b true∧Own B h k []) ⟨rfl,rfl,rfl,rfl,rfl,rfl,(ar.pk [0])⟩ ?_ ?_)))))))
 ·rintro v _ _ ⟨J,E,O,P,A,y,d⟩ _ hp
  dsimp only [zU.s0] at hp
  refine ZM (Zj (Zb _ y (Zc (ZaU (r:=g) (o:=0) A rfl) (Zc (Zad (d.box 0 rfl) rfl rfl) (Zc (ZaC (d.rd0 s_c_X.rd) rfl) (Zc (zV rfl rfl) (Ze (zD hp rfl (fun R hp=>?_) (fun R hp=>?_)))))))))
  ·refine Za3 (ZM (Za2 (Zj (Zc (ZaU (r:=g) (o:=0) A rfl) (Zc (Zad (d.box 0 rfl) rfl rfl) (Zb _ y (ckk hp fun D hp=>Zc (ZW (d.rd0 s_c_Y.rd) rfl rfl D) (Zc (zt (d.rd0 s_c_Y.rd) rfl (Zf D) rfl) (Zb _ E (Zc (ZbZ rfl rfl) ?_))))))))))
   refine Zb (.b (decide (gi c.Y v.toNat=i))) rfl (Ze (ZM (Zj (Zb _ J (Ze (ZiE hp (fun a e fr k=>e=.normal∧fr 1=.b vertical∧fr 2=.n i∧fr 3=.b other∧fr 4=.n k_∧fr 5=.p g 0∧fr 11=.n v∧fr 12=.b a∧Own B h k [ZaF g [v_c_X,v_c_Y,v_c_Vert,v_c_Horz]]) (fun _ hp=>?_) ?_))))))
   ·refine zD hp rfl (fun S hp=>?_) (fun S hp=>?_)
    ·refine Zar (Zc (ZaU (r:=g) (o:=0) A rfl) (Zc (Zad (d.box 0 rfl) rfl rfl) (Zb _ y (ckk hp fun K hp=>Zc (ZW (d.rd0 s_c_X.rd) rfl rfl K) (Zc (zt (d.rd0 s_c_X.rd) rfl (Zf K) rfl) (Zb _ E (Zc (ZbZ rfl rfl) (Zb (.b (decide (gi c.X v.toNat=i))) rfl (Zo ?_)))))))))
     cases hp
     exact ⟨rfl,J,E,O,P,A,y,rfl,(d.pk [0])⟩
    ·refine Zc5 ?_
     cases hp
     exact ⟨rfl,J,E,O,P,A,y,rfl,(d.pk [0])⟩
   rintro a hp _ _ N ⟨rfl,F,H,C,q,s,m,Q,l⟩
   refine Zx (Zj (Zc (ZaU (r:=g) (o:=0) s rfl) (Zc (Zad (l.box 0 rfl) rfl rfl) (Zb _ m (Zc (ZW (l.rd0 s_c_Y.rd) rfl rfl D) (Zc (zt (l.rd0 s_c_Y.rd) rfl (Zf D) rfl) (Zb _ q (Zc (ZbZ rfl rfl) (Zb (.b (decide (gi c.Y v.toNat=k_))) rfl (Ze (ZM ?_)))))))))))
   refine Zj (Zb _ C (Ze (zD hp rfl (fun T hp=>?_) (fun T hp=>?_))))
   ·refine Zar (Zc (ZaU (r:=g) (o:=0) s rfl) (Zc (Zad (l.box 0 rfl) rfl rfl) (Zb _ m (ckk hp fun L hp=>Zc (ZW (l.rd0 s_c_X.rd) rfl rfl L) (Zc (zt (l.rd0 s_c_X.rd) rfl (Zf L) rfl) (Zb _ q (Zc (ZbZ rfl rfl) (Zb (.b (decide (gi c.X v.toNat=k_))) rfl (Ze (Zj ?_))))))))))
    refine Zb _ Q (Zb (.b a) rfl (Zay 2 (fun f k=>N=k∧f 54=.b (a&&(decide (gi c.X v.toNat=k_)))∧f 1=.b vertical∧f 11=.n v∧f 2=.n i∧f 3=.b other∧f 4=.n k_∧f 5=.p g 0) ?_ ?_))
    ·rcases bc a with t|t
     ·refine Z6 rfl t (Zb (.b (decide (gi c.X v.toNat=k_))) rfl (Zc (Zel rfl t rfl) (Zo ?_)))
      exact ⟨rfl,rfl,F,m,H,C,q,s⟩
     ·refine Zs rfl t (Zc (Zek (w:=a&&(decide (gi c.X v.toNat=k_))) rfl t rfl) (Zo ?_))
      exact ⟨rfl,rfl,F,m,H,C,q,s⟩
    rintro _ _ ⟨rfl,aj,ac,ad,ae,af,ah,ai⟩
    refine Ze (zD hp aj (fun U hp=>?_) (fun U hp=>?_))
    ·refine Zj (Zb (.b true) rfl (Ze (zR (Zbt (zl ?_)))))
     cases hp
     exact ⟨nofun,rfl,rfl,(l.pk [])⟩
    ·refine Zc5 (Zat (Zx (Zar (Zb _ ad (ckk hp fun aa hp=>Zc (zG rfl rfl aa) (Zb (.n (v+1)) rfl (Zo ?_)))))))
     cases hp
     exact ⟨rfl,ac,ae,af,ah,ai,rfl,(l.pk [0])⟩
   ·refine Za3 (Zj (Zb _ Q (Zb (.b a) rfl (Zay 2 (fun f k=>N=k∧f 54=.b (a&&(decide (gi c.Y v.toNat=k_)))∧f 1=.b vertical∧f 11=.n v∧f 2=.n i∧f 3=.b other∧f 4=.n k_∧f 5=.p g 0) ?_ ?_))))
    ·rcases bc a with x|x
     ·refine Z6 rfl x (Zb (.b (decide (gi c.Y v.toNat=k_))) rfl (Zc (Zel rfl x rfl) (Zo ?_)))
      exact ⟨rfl,rfl,F,m,H,C,q,s⟩
     ·refine Zs rfl x (Zc (Zek (w:=a&&(decide (gi c.Y v.toNat=k_))) rfl x rfl) (Zo ?_))
      exact ⟨rfl,rfl,F,m,H,C,q,s⟩
    rintro _ _ ⟨rfl,aq,ak,al,am,an,ao,ap⟩
    refine Ze (zD hp aq (fun W hp=>?_) (fun W hp=>?_))
    ·refine Zj (Zb (.b true) rfl (Ze (zR (Zbt (zl ?_)))))
     cases hp
     exact ⟨nofun,rfl,rfl,(l.pk [])⟩
    ·refine Zc5 (Zat (Zx (Zar (Zb _ al (ckk hp fun ab hp=>Zc (zG rfl rfl ab) (Zb (.n (v+1)) rfl (Zo ?_)))))))
     cases hp
     exact ⟨rfl,ak,am,an,ao,ap,rfl,(l.pk [0])⟩
  ·refine ZbU (Zas ?_)
   cases hp
   exact ⟨nofun,rfl,(d.pk [])⟩
 rintro (_|_) hp _ _ _ M
 ·obtain ⟨rfl,I⟩:=M
  refine Zbe (Zx (Zj (Zb (.b false) rfl (Ze (zR (zf (zj rfl ZF) ?_))))))
  cases hp
  exact ⟨rfl,(I.pk [])⟩
 ·obtain ⟨rfl,au,I⟩:=M
  refine Zbt (zl (zf (zj au ZF) ?_))
  cases hp
  exact ⟨rfl,(I.pk [])⟩

theorem Zbj.ok {h:Hp}{c:zh}{l:ZR}{at_:List Zh}{v_c_X:V}{v_c_Y:V}{v_c_Vert:V}{vs_c_Vert:List V}{v_c_Horz:V}{vs_c_Horz:List V}{v_at_:V}(s_c_X:Sl zo h v_c_X c.X) (s_c_Y:Sl zo h v_c_Y c.Y) (sN_c_Vert:Sl eV h v_c_Vert vs_c_Vert) (lN_c_Vert:vs_c_Vert.length=c.Vert.length) (iN_c_Vert:∀ j,j<c.Vert.length→Sl zo h (gi vs_c_Vert j) (gi c.Vert j)) (sN_c_Horz:Sl eV h v_c_Horz vs_c_Horz) (lN_c_Horz:vs_c_Horz.length=c.Horz.length) (iN_c_Horz:∀ j,j<c.Horz.length→Sl zo h (gi vs_c_Horz j) (gi c.Horz j)) (s_at_:Sl Zi h v_at_ at_) {r:Zh×Zh}(hp:Zbj c l at_=some r) :
  ∃ u k',Is G 274 [.ag [v_c_X,v_c_Y,v_c_Vert,v_c_Horz],.ag (zb.c l),v_at_] h u k'∧V.tu [.ag (Zi.c r.1),.ag (Zi.c r.2)]=u∧Own (fun r=>r<h.n) h k' []:=by
 refine WC.is (ZaB ZdY ?_)
 unfold Zbj at hp
 let B:Nat→Prop:=(fun r=>r<h.n)
 have hO:Own B h h []:=Own.start0 h
 refine Zj (Zaw (hO.boxd (cs:=[v_c_X,v_c_Y,v_c_Vert,v_c_Horz]) hO.fr rfl rfl) ?_)
 rintro _ _ ⟨K,rfl,_,_,E⟩
 refine Zaw (E.boxd (cs:=zb.c l) E.fr rfl rfl) ?_
 rintro _ _ ⟨w,rfl,_,_,F⟩
 refine Zaw (F.alloc (cs:=Zi.c (⟨0,0⟩:Zh)) F.fr) ?_
 rintro _ _ ⟨L,rfl,_,_,H⟩
 refine Zaw (H.alloc (cs:=Zi.c (⟨0,0⟩:Zh)) H.fr) ?_
 rintro _ _ ⟨M,rfl,_,_,i⟩
 refine Ze (Zj (Zc (ZaU (r:=K) (o:=0) rfl rfl) (Zc (Zad (i.box 0 rfl) rfl rfl) (Zb v_c_Horz rfl (Ze (ZM (Zj (Zc (ZaU (r:=w) (o:=0) rfl rfl) (Zc (Zad (i.box 1 rfl) rfl rfl) ?_)))))))))
 refine Ze (ZiE hp (fun x e fr k=>e=.normal∧∃ A b,fr 2=v_at_∧fr 4=.p w 0∧fr 6=.p L 0∧fr 7=.p M 0∧fr 8=A∧Rd B h eV A b∧b.length=x.length∧(∀ j,j<x.length→Rd B h zo (gi b j) (gi x j))∧Own B h k [ZaF w (zb.c l),ZaF L (Zi.c (⟨0,0⟩:Zh)),ZaF M (Zi.c (⟨0,0⟩:Zh))]) (fun _ hp=>?_) ?_)
 ·refine zD hp rfl (fun P hp=>?_) (fun P hp=>?_)
  ·refine Zar (Zc (ZaU (r:=K) (o:=0) rfl rfl) (Zc (Zad (i.box 0 rfl) rfl rfl) (Zb v_c_Vert rfl (Zo ?_))))
   cases hp
   exact ⟨rfl,v_c_Vert,vs_c_Vert,rfl,rfl,rfl,rfl,rfl,sN_c_Vert.rd,lN_c_Vert,(fun j hj=>(iN_c_Vert j hj).rd),(i.pk [1,2,3])⟩
  ·refine Zc5 ?_
   cases hp
   exact ⟨rfl,v_c_Horz,vs_c_Horz,rfl,rfl,rfl,rfl,rfl,sN_c_Horz.rd,lN_c_Horz,(fun j hj=>(iN_c_Horz j hj).rd),(i.pk [1,2,3])⟩
 rintro x hp _ _ m ⟨rfl,A,b,I,S,v,J,T,N,O,g,a⟩
 refine Zx (Zj (Zb _ T (Zc (ZaU (r:=w) (o:=0) S rfl) (Zc (Zad (a.box 0 rfl) rfl rfl) (ckk hp fun f hp=>Zc (ZW (a.rd0 N) rfl rfl (by rw [O];exact f)) (Zc (zt (a.rd0 N) rfl (by rw [O];exact Zf f) rfl) (Zb ((gi b (l.Place:Int).toNat)) rfl (Ze (ZM (ZeS ?_))))))))))
 have d:=a.bump 17
 refine Zaq _ I (Zaq ((gi b (l.Place:Int).toNat)) rfl (ckk hp fun C hp=>ZX (ZW (d.rd0 ((fun j hj=>(g j hj)) _ (Zf f)):Sl zo (m.bump 17) (gi b (l.Place:Int).toNat) (gi x (l.Place:Int).toNat)) rfl rfl C) (ZX (zt (d.rd0 ((fun j hj=>(g j hj)) _ (Zf f)):Sl zo (m.bump 17) (gi b (l.Place:Int).toNat) (gi x (l.Place:Int).toNat)) rfl (Zf C) rfl) (ckk hp fun D hp=>ZX (ZW (d.rd0 s_at_.rd) rfl rfl D) (ZX (ZeV (d.rd0 s_at_.rd) rfl (Zf D)) (Zaq _ I (Zaq ((gi b (l.Place:Int).toNat)) rfl (Zaq ((gi b (l.Place:Int).toNat)) rfl (ZX (ZaC (d.rd0 ((fun j hj=>(g j hj)) _ (Zf f)):Sl zo (m.bump 17) (gi b (l.Place:Int).toNat) (gi x (l.Place:Int).toNat)) rfl) (ckk hp fun Q hp=>ZX (Zmb rfl rfl Q) ?_))))))))))
 refine ckk hp fun s hp=>ZX (ZW (d.rd0 ((fun j hj=>(g j hj)) _ (Zf f)):Sl zo (m.bump 17) (gi b (l.Place:Int).toNat) (gi x (l.Place:Int).toNat)) rfl rfl s) (ZX (zt (d.rd0 ((fun j hj=>(g j hj)) _ (Zf f)):Sl zo (m.bump 17) (gi b (l.Place:Int).toNat) (gi x (l.Place:Int).toNat)) rfl (Zf s) rfl) (ckk hp fun t hp=>ZX (ZW (d.rd0 s_at_.rd) rfl rfl t) (ZX (ZeV (d.rd0 s_at_.rd) rfl (Zf t)) (Zdf (d.stb (cs':=Zi.c (gi at_ (gi (gi x (l.Place:Int).toNat) (0:Int).toNat:Int).toNat)) 1 rfl v rfl rfl ⟨rfl,Nat.le_of_ble_eq_true rfl,rfl⟩ rfl) ?_))))
 rintro _ _ _ ⟨rfl,_,_,R⟩
 refine Zdf (R.stb (cs':=Zi.c (gi at_ (gi (gi x (l.Place:Int).toNat) (((gi x (l.Place:Int).toNat).length:Int)-1:Int).toNat:Int).toNat)) 2 rfl J rfl rfl ⟨rfl,Nat.le_of_ble_eq_true rfl,rfl⟩ rfl) ?_
 rintro _ _ _ ⟨rfl,_,_,y⟩
 refine Zch ?_
 refine And.intro ?_ ?_
 ·intro q hq
  simp only [List.mem_cons,List.not_mem_nil,or_false] at hq
  rcases hq with rfl|rfl|rfl|rfl|rfl|rfl
  ·refine Zak ?_ ?_
   ·exact (fun h=>nomatch h)
   ·exact (fun h=>nomatch h)
  ·refine Zak ?_ ?_
   ·exact (fun h=>nomatch h)
   ·exact (fun h=>nomatch h)
  ·refine Zak ?_ ?_
   ·exact (fun h=>nomatch h)
   ·exact (fun h=>nomatch h)
  ·refine Zak ?_ ?_
   ·exact (fun h=>nomatch h)
   ·exact (fun h=>nomatch h)
  ·refine Zlf ?_ ?_ ?_
   ·exact (fun r h1 h2=>a.offAt 1 rfl r (tch (Zlx h2) v) (Rd.B ((fun j hj=>(g j hj)) _ (Zf f)) a.lo (Zf s) _ (Zbq (tch (ZbS h1) rfl))))
   ·exact (fun h=>nomatch h)
   ·exact (fun _ hm=>Nat.lt_irrefl _ (Nat.lt_of_lt_of_le (Nat.lt_of_lt_of_le (a.lo _ (Rd.B ((fun j hj=>(g j hj)) _ (Zf f)) a.lo (Zf s) _ (Zbq (tch (ZbS hm) rfl)))) a.n) (Nat.le_add_right _ _)))
  ·refine Zlf ?_ ?_ ?_
   ·exact (fun r h1 h2=>a.offAt 1 rfl r (tch (Zlx h2) v) (Rd.B s_at_.rd a.lo (Zf t) _ (Zbq (tch (ZbS h1) rfl))))
   ·exact (fun h=>nomatch h)
   ·exact (fun _ hm=>Nat.lt_irrefl _ (Nat.lt_of_lt_of_le (Nat.lt_of_lt_of_le (a.lo _ (Rd.B s_at_.rd a.lo (Zf t) _ (Zbq (tch (ZbS hm) rfl)))) a.n) (Nat.le_add_right _ _)))
 refine Zx (zR (zf (Zjz v (y.box 1 rfl) rfl (Zjz J (y.box 2 rfl) rfl ZF)) ?_))
 cases hp
 exact ⟨rfl,(y.pk [])⟩

theorem ZT.ok {h:Hp}{l:List Za}{at_:List Zh}{v_l:V}{v_at_:V}(s_l:Sl Zd h v_l l) (s_at_:Sl Zi h v_at_ at_) {r:Bool}(hp:ZT l at_=some r) :
  ∃ u k',Is G 261 [v_l,v_at_] h u k'∧V.b r=u∧Own (fun r=>r<h.n) h k' []:=by
 refine WC.is (ZaB ZdX ?_)
 unfold ZT at hp
 let B:Nat→Prop:=(fun r=>r<h.n)
 have hO:Own B h h []:=Own.start0 h
 refine Zj (Zb (.b false) rfl (Ze (ZM (Zj (Zb v_at_ rfl (Zc (ZaC (hO.rd0 s_at_.rd) rfl) (Zb v_l rfl (Zc (ZaC (hO.rd0 s_l.rd) rfl) (Zc (Zcv rfl rfl) (Zo ?_))))))))))
 refine Zx (zD hp rfl (fun aU hp=>?_) (fun aU hp=>?_))
 ·refine Zj (Zb (.b false) rfl (Ze (zR (zl (zf (zj rfl ZF) ?_)))))
  cases hp
  exact ⟨rfl,(hO.pk [])⟩
 ·refine Za3 (Zj (Zb v_l rfl (Zb v_at_ rfl ?_)))
  obtain ⟨x,⟨_,bF,a0,rfl,bB⟩,hp⟩:=bdk hp fun _=>zE.ok (h:=h)  (hO.rd0 s_l.rd) (hO.rd0 s_at_.rd)
  refine Zan rfl rfl a0 ?_
  have ad:=hO.call bB rfl
  refine Zb (.b x) rfl (Ze (ZM (Zj (Zb (.b x) rfl (Zc (Zcl rfl) (Ze (zD hp rfl (fun aV hp=>?_) (fun aV hp=>?_))))))))
  ·refine Zj (Zb (.b false) rfl (Ze (zR (zl (zf (zj rfl ZF) ?_)))))
   cases hp
   exact ⟨rfl,(ad.pk [])⟩
  ·refine Za3 (Zj (Zb v_l rfl ?_))
   obtain ⟨⟨x1,x2⟩,⟨_,_,a1,L,M,N,H,O,I,rfl,bC⟩,hp⟩:=bdk hp fun _=>Zbc.ok (h:=bF)  (ad.rd0 s_l.rd)
   refine Zan rfl rfl a1 ?_
   have aO:=ad.call bC rfl
   refine Zb (.tu [.ag [L,M,N,O],.b x2]) rfl (Zc (zM rfl rfl) (Zc (zM rfl rfl) (Zaw (aO.alloc (cs:=[.sn,.sn,.sn,.sn]) aO.fr) ?_)))
   rintro _ _ ⟨F,rfl,_,_,U⟩
   refine Zaw (U.stb (cs':=[L,M,N,O]) 6 rfl rfl rfl rfl ⟨rfl,Nat.le_of_ble_eq_true rfl,(all_cons (U.sl 0 rfl).oneV (all_cons (U.sl 1 rfl).oneV (all_cons (U.sl 2 rfl).oneV (all_cons (U.sl 4 rfl).oneV all_nil))))⟩ rfl) ?_
   rintro _ bG ⟨rfl,_,_,C⟩
   refine Zb (.b x2) rfl (Ze (Zj (Zc (Zca (C.box 6 rfl) rfl rfl) ?_)))
   obtain ⟨x3,⟨_,_,a2,y,rfl,bD⟩,hp⟩:=bdk hp fun _=>zm.ok (h:=bG)  (C.sl 0 rfl) (C.sl 1 rfl) (C.sl 2 rfl) (C.allLen 3 rfl:(H).length=(x1.Vert).length) (fun j hj=>C.inn 3 rfl hj) (C.sl 4 rfl) (C.allLen 5 rfl:(I).length=(x1.Horz).length) (fun j hj=>C.inn 5 rfl hj)
   refine Zan rfl rfl a2 ?_
   have bA:=C.call bD rfl
   refine Zb y rfl (Ze (ZM (Zj (Zb (.n 0) rfl (Ze (Za2 (Zci hp (fun i fr k=>fr 1=v_at_∧fr 6=.p F 0∧fr 8=y∧fr 9=.n i∧Own B h k [ZaF F [L,M,N,O],eSl zo L x1.X,eSl zo M x1.Y,eSl eV N H,Zcy zo H x1.Vert,eSl eV O I,Zcy zo I x1.Horz,eSl zb y x3]) (fun|.inl _,e,fr,k=>e=(.exit 0)∧Own B h k []|.inr _,e,fr,k=>e=.ret∧fr 4=.b false∧Own B h k []) ⟨rfl,rfl,rfl,rfl,(bA.pk [6,0,1,2,3,4,5,7])⟩ ?_ ?_)))))))
   ·rintro i _ _ ⟨bJ,bK,aT,al,af⟩ _ hp
    dsimp only [ZT.s0] at hp
    refine ZM (Zj (Zb _ al (Zb _ aT (Zc (ZaC (af.sl 7 rfl) rfl) (Zc (zV rfl rfl) (Ze (zD hp rfl (fun aW hp=>?_) (fun aW hp=>?_))))))))
    ·refine Za3 (ZM (Za2 (Zj (Zb _ al (ckk hp fun ao hp=>Zc (zG rfl rfl ao) (Zb (.n (i+1)) rfl (Ze (Za2 (Zci hp (fun k_ fr k=>fr 1=v_at_∧fr 6=.p F 0∧fr 8=y∧fr 9=.n i∧fr 10=.n k_∧Own B h k [ZaF F [L,M,N,O],eSl zo L x1.X,eSl zo M x1.Y,eSl eV N H,Zcy zo H x1.Vert,eSl eV O I,Zcy zo I x1.Horz,eSl zb y x3]) (fun|.inl _,e,fr,k=>e=(.exit 2)∧fr 1=v_at_∧fr 6=.p F 0∧fr 8=y∧fr 9=.n i∧Own B h k [ZaF F [L,M,N,O],eSl zo L x1.X,eSl zo M x1.Y,eSl eV N H,Zcy zo H x1.Vert,eSl eV O I,Zcy zo I x1.Horz,eSl zb y x3]|.inr _,e,fr,k=>e=.ret∧fr 4=.b false∧Own B h k []) ⟨bJ,bK,aT,al,rfl,(af.pk [0,1,2,3,4,5,6,7])⟩ ?_ ?_)))))))))
     ·rintro k_ _ bH ⟨W,D,E,T,S,ai⟩ _ hp
      dsimp only [ZT.s1] at hp
      refine ZM (Zj (Zb _ S (Zb _ E (Zc (ZaC (ai.sl 7 rfl) rfl) (Zc (zV rfl rfl) (Ze (zD hp rfl (fun aX hp=>?_) (fun aX hp=>?_))))))))
      ·refine Za3 (ZM (Za2 (ZM (ZeS ?_))))
       have a:=ai.bump 23
       refine ZX (Zca (a.box 0 rfl) D rfl) (Zaq _ E (Zaq _ T (ckk hp fun J hp=>ZX (ZW (a.sl 7 rfl) rfl rfl J) (ZX (Za6 (a.sl 7 rfl) (Zf J) rfl rfl) (ZX (zt (a.sl 7 rfl) rfl (Zf J) rfl) (Zaq _ E (Zaq _ T (ZX (ZW (a.sl 7 rfl) rfl rfl J) (ZX (Za6 (a.sl 7 rfl) (Zf J) rfl rfl) (ZX (zt (a.sl 7 rfl) rfl (Zf J) rfl) (Zaq _ E (Zaq _ S ?_))))))))))))
       refine ckk hp fun K hp=>ZX (ZW (a.sl 7 rfl) rfl rfl K) (ZX (Za6 (a.sl 7 rfl) (Zf K) rfl rfl) (ZX (zt (a.sl 7 rfl) rfl (Zf K) rfl) (Zaq _ E (Zaq _ S (ZX (ZW (a.sl 7 rfl) rfl rfl K) (ZX (Za6 (a.sl 7 rfl) (Zf K) rfl rfl) (ZX (zt (a.sl 7 rfl) rfl (Zf K) rfl) ?_)))))))
       obtain ⟨x4,⟨_,aj,a3,rfl,bE⟩,hp⟩:=bdk hp fun _=>zU.ok (h:=(bH.bump 23))  (a.sl 1 rfl) (a.sl 2 rfl) (a.sl 3 rfl) (a.allLen 4 rfl:(H).length=(x1.Vert).length) (fun j hj=>a.inn 4 rfl hj) (a.sl 5 rfl) (a.allLen 6 rfl:(I).length=(x1.Horz).length) (fun j hj=>a.inn 6 rfl hj)
       refine Zhj rfl rfl a3 ?_
       have Q:=a.call bE rfl
       refine Zaq (.b x4) rfl (Zch ?_)
       refine And.intro ?_ ?_
       ·intro q hq
        simp only [List.mem_cons,List.not_mem_nil,or_false] at hq
        rcases hq with rfl|rfl|rfl|rfl|rfl|rfl|rfl|rfl|rfl|rfl
        ·refine Zak ?_ ?_
         ·exact (fun h=>nomatch h)
         ·exact (fun h=>nomatch h)
        ·refine Zak ?_ ?_
         ·exact (fun h=>nomatch h)
         ·exact (fun h=>nomatch h)
        ·refine Zak ?_ ?_
         ·exact (fun h=>nomatch h)
         ·exact (fun h=>nomatch h)
        ·refine Zak ?_ ?_
         ·exact (fun h=>nomatch h)
         ·exact (fun h=>nomatch h)
        ·refine Zak ?_ ?_
         ·exact (fun h=>nomatch h)
         ·exact (fun h=>nomatch h)
        ·refine Zak ?_ ?_
         ·exact (fun h=>nomatch h)
         ·exact (fun h=>nomatch h)
        ·refine Zak ?_ ?_
         ·exact (fun h=>nomatch h)
         ·exact (fun h=>nomatch h)
        ·refine Zak ?_ ?_
         ·exact (fun h=>nomatch h)
         ·exact (fun h=>nomatch h)
        ·refine Zak ?_ ?_
         ·exact (fun h=>nomatch h)
         ·exact (fun h=>nomatch h)
        ·refine Zak ?_ ?_
         ·exact (fun h=>nomatch h)
         ·exact (fun h=>nomatch h)
       refine Zx (ZM (ZeS ?_))
       have t:=Q.bump 14
       have a9:=Fresh.start aj 14
       have aR:∀ {i:Nat},h.n≤aj.n+i:=Nat.le_trans Q.n (Nat.le_add_right _ _)
       refine ZX (Zca (t.box 0 rfl) D rfl) (Zaq _ E (Zaq _ T (ZX (ZW (t.sl 7 rfl) rfl rfl J) (ZX (ZeV (t.sl 7 rfl) rfl (Zf J)) (Zaq _ W ?_)))))
       obtain ⟨⟨x5,x6⟩,⟨_,_,a4,rfl,aP⟩,hp⟩:=bdk hp fun _=>Zbj.ok (h:=(aj.bump 14))  (t.sl 1 rfl) (t.sl 2 rfl) (t.sl 3 rfl) (t.allLen 4 rfl:(H).length=(x1.Vert).length) (fun j hj=>t.inn 4 rfl hj) (t.sl 5 rfl) (t.allLen 6 rfl:(I).length=(x1.Horz).length) (fun j hj=>t.inn 6 rfl hj) (t.rd0 s_at_.rd)
       refine Zhj rfl rfl a4 ?_
       have aq:=a9.call aP
       have br:=t.call aP rfl
       refine Zaq (.tu [.ag (Zi.c x5),.ag (Zi.c x6)]) rfl (ZX (zM rfl rfl) (ZX (zM rfl rfl) (Zdf (br.alloc (cs:=Zi.c (⟨0,0⟩:Zh)) ⟨aq.m 10 (by decide) (by decide),aR⟩) ?_)))
       rintro _ _ _ ⟨ab,rfl,_,a6,bs⟩
       have ba:=aq.kept a6 (by decide)
       refine Zdf (bs.alloc (cs:=Zi.c (⟨0,0⟩:Zh)) ⟨ba.m 11 (by decide) (by decide),aR⟩) ?_
       rintro _ _ _ ⟨am,rfl,_,_,bt⟩
       refine Zdf (bt.stb (cs':=Zi.c x5) 8 rfl rfl rfl rfl ⟨rfl,Nat.le_of_ble_eq_true rfl,rfl⟩ rfl) ?_
       rintro _ _ _ ⟨rfl,_,_,bu⟩
       refine Zdf (bu.stb (cs':=Zi.c x6) 9 rfl rfl rfl rfl ⟨rfl,Nat.le_of_ble_eq_true rfl,rfl⟩ rfl) ?_
       rintro _ ak _ ⟨rfl,_,_,R⟩
       refine Zch ?_
       refine And.intro ?_ ?_
       ·intro q hq
        simp only [List.mem_cons,List.not_mem_nil,or_false] at hq
        rcases hq with rfl|rfl|rfl|rfl|rfl|rfl|rfl|rfl
        ·refine Zak ?_ ?_
         ·exact (fun h=>nomatch h)
         ·exact (fun h=>nomatch h)
        ·refine Zak ?_ ?_
         ·exact (fun h=>nomatch h)
         ·exact (fun _ hm=>Nat.lt_irrefl _ (Nat.lt_of_lt_of_le (Q.ltAt 0 rfl _ (tch (ZbS hm) D)) (Nat.le_add_right _ _)))
        ·refine Zak ?_ ?_
         ·exact (fun h=>nomatch h)
         ·exact (fun _ hm=>Nat.lt_irrefl _ (Nat.lt_of_lt_of_le (Q.ltAt 7 rfl _ (Zbq (tch (ZbS hm) rfl))) (Nat.le_add_right _ _)))
        ·refine Zit rfl ?_
         ·exact (fun r hm hc=>nomatch hm)
        ·refine Zak ?_ ?_
         ·exact (fun h=>nomatch h)
         ·exact (fun _ hm=>Nat.lt_irrefl _ (Nat.lt_of_lt_of_le (Q.ltAt 0 rfl _ (tch (ZbS hm) D)) (Nat.le_add_right _ _)))
        ·refine Zak ?_ ?_
         ·exact (fun h=>nomatch h)
         ·exact (fun _ hm=>Nat.lt_irrefl _ (Nat.lt_of_lt_of_le (Q.ltAt 7 rfl _ (Zbq (tch (ZbS hm) rfl))) (Nat.le_add_right _ _)))
        ·refine Zit rfl ?_
         ·exact (fun r hm hc=>nomatch hm)
        ·refine Zak ?_ ?_
         ·exact (fun _=>List.not_mem_nil)
         ·exact (fun _=>List.not_mem_nil)
       refine Zx (ZM (ZeS ?_))
       have v:=R.bump 14
       have bb:=Fresh.start ak 14
       have aS:∀ {i:Nat},h.n≤ak.n+i:=Nat.le_trans R.n (Nat.le_add_right _ _)
       refine ZX (Zca (v.box 0 rfl) D rfl) (Zaq _ E (Zaq _ S (ZX (ZW (v.sl 7 rfl) rfl rfl K) (ZX (ZeV (v.sl 7 rfl) rfl (Zf K)) (Zaq _ W ?_)))))
       obtain ⟨⟨x7,x8⟩,⟨_,_,a5,rfl,aQ⟩,hp⟩:=bdk hp fun _=>Zbj.ok (h:=(ak.bump 14))  (v.sl 1 rfl) (v.sl 2 rfl) (v.sl 3 rfl) (v.allLen 4 rfl:(H).length=(x1.Vert).length) (fun j hj=>v.inn 4 rfl hj) (v.sl 5 rfl) (v.allLen 6 rfl:(I).length=(x1.Horz).length) (fun j hj=>v.inn 6 rfl hj) (v.rd0 s_at_.rd)
       refine Zhj rfl rfl a5 ?_
       have ap:=bb.call aQ
       have bv:=v.call aQ rfl
       refine Zaq (.tu [.ag (Zi.c x7),.ag (Zi.c x8)]) rfl (ZX (zM rfl rfl) (ZX (zM rfl rfl) (Zdf (bv.alloc (cs:=Zi.c (⟨0,0⟩:Zh)) ⟨ap.m 10 (by decide) (by decide),aS⟩) ?_)))
       rintro _ _ _ ⟨an,rfl,_,a7,bw⟩
       have a8:=ap.kept a7 (by decide)
       refine Zdf (bw.alloc (cs:=Zi.c (⟨0,0⟩:Zh)) ⟨a8.m 11 (by decide) (by decide),aS⟩) ?_
       rintro _ _ _ ⟨ac,rfl,_,_,bx⟩
       refine Zdf (bx.stb (cs':=Zi.c x7) 10 rfl rfl rfl rfl ⟨rfl,Nat.le_of_ble_eq_true rfl,rfl⟩ rfl) ?_
       rintro _ _ _ ⟨rfl,_,_,bz⟩
       refine Zdf (bz.stb (cs':=Zi.c x8) 11 rfl rfl rfl rfl ⟨rfl,Nat.le_of_ble_eq_true rfl,rfl⟩ rfl) ?_
       rintro _ aa _ ⟨rfl,_,_,A⟩
       refine Zch ?_
       refine And.intro ?_ ?_
       ·intro q hq
        simp only [List.mem_cons,List.not_mem_nil,or_false] at hq
        rcases hq with rfl|rfl|rfl|rfl|rfl|rfl|rfl|rfl
        ·refine Zak ?_ ?_
         ·exact (fun h=>nomatch h)
         ·exact (fun h=>nomatch h)
        ·refine Zak ?_ ?_
         ·exact (fun h=>nomatch h)
         ·exact (fun _ hm=>Nat.lt_irrefl _ (Nat.lt_of_lt_of_le (R.ltAt 0 rfl _ (tch (ZbS hm) D)) (Nat.le_add_right _ _)))
        ·refine Zak ?_ ?_
         ·exact (fun h=>nomatch h)
         ·exact (fun _ hm=>Nat.lt_irrefl _ (Nat.lt_of_lt_of_le (R.ltAt 7 rfl _ (Zbq (tch (ZbS hm) rfl))) (Nat.le_add_right _ _)))
        ·refine Zit rfl ?_
         ·exact (fun r hm hc=>nomatch hm)
        ·refine Zak ?_ ?_
         ·exact (fun h=>nomatch h)
         ·exact (fun _ hm=>Nat.lt_irrefl _ (Nat.lt_of_lt_of_le (R.ltAt 0 rfl _ (tch (ZbS hm) D)) (Nat.le_add_right _ _)))
        ·refine Zak ?_ ?_
         ·exact (fun h=>nomatch h)
         ·exact (fun _ hm=>Nat.lt_irrefl _ (Nat.lt_of_lt_of_le (R.ltAt 7 rfl _ (Zbq (tch (ZbS hm) rfl))) (Nat.le_add_right _ _)))
        ·refine Zit rfl ?_
         ·exact (fun r hm hc=>nomatch hm)
        ·refine Zak ?_ ?_
         ·exact (fun _=>List.not_mem_nil)
         ·exact (fun _=>List.not_mem_nil)
       refine Zx (Zj (Zc (ZaU (r:=am) (o:=0) rfl rfl) (Zc (Zad (A.box 9 rfl) rfl rfl) (Zc (ZaU (r:=an) (o:=0) rfl rfl) (Zc (Zad (A.box 10 rfl) rfl rfl) (Zc (zV rfl rfl) (Zb (.b (decide (x6.X<x7.X))) rfl (Zay 6 (fun f k=>aa=k∧f 101=.b ((decide (x6.X<x7.X))||(decide (x8.X<x5.X)))∧f 1=v_at_∧f 10=.n k_∧f 11=.b x4∧f 12=.p ab 0∧f 13=.p am 0∧f 14=.p an 0∧f 15=.p ac 0∧f 6=.p F 0∧f 8=y∧f 9=.n i) ?_ ?_))))))))
       ·rcases bc (decide (x6.X<x7.X)) with d|d
        ·refine Zs rfl d (Zs rfl d (Zs rfl d (Zs rfl d (Zs rfl d (Zc (Zc6 (w:=(decide (x6.X<x7.X))||(decide (x8.X<x5.X))) rfl d rfl) (Zo ?_))))))
         exact ⟨rfl,rfl,W,S,rfl,rfl,rfl,rfl,rfl,D,E,T⟩
        ·refine Z6 rfl d (Zc (ZaU (r:=ac) (o:=0) rfl rfl) (Z6 rfl d (Zc (Zad (A.box 11 rfl) rfl rfl) (Z6 rfl d (Zc (ZaU (r:=ab) (o:=0) rfl rfl) (Z6 rfl d (Zc (Zad (A.box 8 rfl) rfl rfl) (Z6 rfl d (Zc (zV rfl rfl) (Zc (Zc7 rfl d rfl) (Zo ?_)))))))))))
         exact ⟨rfl,rfl,W,S,rfl,rfl,rfl,rfl,rfl,D,E,T⟩
       rintro _ _ ⟨rfl,bd,ar,au,av,aw,be,bf,ax,ay,az,aA⟩
       refine Zb _ bd (Zay 6 (fun f k=>aa=k∧f 108=.b (((decide (x6.X<x7.X))||(decide (x8.X<x5.X)))||(decide (x6.Y<x7.Y)))∧f 1=v_at_∧f 10=.n k_∧f 11=.b x4∧f 12=.p ab 0∧f 15=.p ac 0∧f 6=.p F 0∧f 8=y∧f 9=.n i) ?_ ?_)
       ·rcases bc ((decide (x6.X<x7.X))||(decide (x8.X<x5.X))) with g|g
        ·refine Zs rfl g (Zs rfl g (Zs rfl g (Zs rfl g (Zs rfl g (Zc (Zc6 (w:=((decide (x6.X<x7.X))||(decide (x8.X<x5.X)))||(decide (x6.Y<x7.Y))) rfl g rfl) (Zo ?_))))))
         exact ⟨rfl,rfl,ar,au,av,aw,ax,ay,az,aA⟩
        ·refine Z6 rfl g (Zc (ZaU (r:=am) (o:=0) be rfl) (Z6 rfl g (Zc (Zad (A.box 9 rfl) rfl rfl) (Z6 rfl g (Zc (ZaU (r:=an) (o:=0) bf rfl) (Z6 rfl g (Zc (Zad (A.box 10 rfl) rfl rfl) (Z6 rfl g (Zc (zV rfl rfl) (Zc (Zc7 rfl g rfl) (Zo ?_)))))))))))
         exact ⟨rfl,rfl,ar,au,av,aw,ax,ay,az,aA⟩
       rintro _ _ ⟨rfl,bg,aB,aC,aD,bh,bi,aE,aF,aG⟩
       refine Zb _ bg (Zay 6 (fun f k=>aa=k∧f 115=.b ((((decide (x6.X<x7.X))||(decide (x8.X<x5.X)))||(decide (x6.Y<x7.Y)))||(decide (x8.Y<x5.Y)))∧f 1=v_at_∧f 10=.n k_∧f 11=.b x4∧f 6=.p F 0∧f 8=y∧f 9=.n i) ?_ ?_)
       ·rcases bc (((decide (x6.X<x7.X))||(decide (x8.X<x5.X)))||(decide (x6.Y<x7.Y))) with s|s
        ·refine Zs rfl s (Zs rfl s (Zs rfl s (Zs rfl s (Zs rfl s (Zc (Zc6 (w:=(((decide (x6.X<x7.X))||(decide (x8.X<x5.X)))||(decide (x6.Y<x7.Y)))||(decide (x8.Y<x5.Y))) rfl s rfl) (Zo ?_))))))
         exact ⟨rfl,rfl,aB,aC,aD,aE,aF,aG⟩
        ·refine Z6 rfl s (Zc (ZaU (r:=ac) (o:=0) bi rfl) (Z6 rfl s (Zc (Zad (A.box 11 rfl) rfl rfl) (Z6 rfl s (Zc (ZaU (r:=ab) (o:=0) bh rfl) (Z6 rfl s (Zc (Zad (A.box 8 rfl) rfl rfl) (Z6 rfl s (Zc (zV rfl rfl) (Zc (Zc7 rfl s rfl) (Zo ?_)))))))))))
         exact ⟨rfl,rfl,aB,aC,aD,aE,aF,aG⟩
       rintro _ _ ⟨rfl,bk,aH,aI,bj,aJ,aK,aL⟩
       refine Zb _ bk (Ze (Zj (Zb _ bj (Zc (Zcl rfl) (Zb (.b (!x4)) rfl (Zay 3 (fun f k=>aa=k∧f 121=.b ((!x4)&&(!((((decide (x6.X<x7.X))||(decide (x8.X<x5.X)))||(decide (x6.Y<x7.Y)))||(decide (x8.Y<x5.Y)))))∧f 1=v_at_∧f 10=.n k_∧f 6=.p F 0∧f 8=y∧f 9=.n i) ?_ ?_))))))
       ·rcases bc (!x4) with P|P
        ·refine Z6 rfl P (Zb (.b ((((decide (x6.X<x7.X))||(decide (x8.X<x5.X)))||(decide (x6.Y<x7.Y)))||(decide (x8.Y<x5.Y)))) rfl (Z6 rfl P (Zc (Zcl rfl) (Zc (Zel rfl P rfl) (Zo ?_)))))
         exact ⟨rfl,rfl,aH,aI,aJ,aK,aL⟩
        ·refine Zs rfl P (Zs rfl P (Zc (Zek (w:=(!x4)&&(!((((decide (x6.X<x7.X))||(decide (x8.X<x5.X)))||(decide (x6.Y<x7.Y)))||(decide (x8.Y<x5.Y))))) rfl P rfl) (Zo ?_)))
         exact ⟨rfl,rfl,aH,aI,aJ,aK,aL⟩
       rintro _ _ ⟨rfl,bn,bl,bm,bo,bp,bq⟩
       refine Ze (zD hp bn (fun aY hp=>?_) (fun aY hp=>?_))
       ·refine Zj (Zb (.b false) rfl (Ze (zR (Zbt (zl ?_)))))
        cases hp
        exact ⟨nofun,rfl,rfl,(A.pk [])⟩
       ·refine Zc5 (Zat (Zx (Zar (Zb _ bm (ckk hp fun aZ hp=>Zc (zG rfl rfl aZ) (Zb (.n (k_+1)) rfl (Zo ?_)))))))
        cases hp
        exact ⟨rfl,bl,bo,bp,bq,rfl,(A.pk [0,1,2,3,4,5,6,7])⟩
      ·refine ZbU (Zas ?_)
       cases hp
       exact ⟨nofun,rfl,W,D,E,T,(ai.pk [0,1,2,3,4,5,6,7])⟩
     rintro (_|_) hp _ _ _ aN
     ·obtain ⟨rfl,bL,bN,bO,bP,ah⟩:=aN
      refine Zbe (Zat (Zx (Zar (Zb _ bP (Zc (zG rfl rfl ao) (Zb (.n (i+1)) rfl (Zo ?_)))))))
      cases hp
      exact ⟨rfl,bL,bN,bO,rfl,(ah.pk [0,1,2,3,4,5,6,7])⟩
     ·obtain ⟨rfl,bM,ah⟩:=aN
      refine Zbt (Zbt (zl ?_))
      cases hp
      exact ⟨nofun,rfl,bM,(ah.pk [])⟩
    ·refine ZbU (Zas ?_)
     cases hp
     exact ⟨nofun,rfl,(af.pk [])⟩
   rintro (_|_) hp _ _ _ aM
   ·obtain ⟨rfl,ae⟩:=aM
    refine Zbe (Zx (Zj (Zb (.b true) rfl (Ze (zR (zf (zj rfl ZF) ?_))))))
    cases hp
    exact ⟨rfl,(ae.pk [])⟩
   ·obtain ⟨rfl,bI,ae⟩:=aM
    refine Zbt (zl (zf (zj bI ZF) ?_))
    cases hp
    exact ⟨rfl,(ae.pk [])⟩

theorem ZJ.ok {h:Hp}{l:List Int}{by_:List Int}{arcs:List ZA}{v_l:V}{v_by_:V}{v_arcs:V}(H:Own (Bm h [eSl zo v_l l]) h h [eSl zo v_l l]) (s_by_:Rd (Bm h [eSl zo v_l l]) h Zgz v_by_ by_) (s_arcs:Rd (Bm h [eSl zo v_l l]) h zF v_arcs arcs) {r:(List Int)}(hp:ZJ l by_ arcs=some r) :
  ∃ u k',Is G 267 [v_l,v_by_,v_arcs] h u k'∧V.tu []=u∧Own (Bm h [eSl zo v_l l]) h k' [eSl zo v_l r]:=by
 refine WC.is (ZaB ZdA ?_)
 unfold ZJ at hp
 let B:Nat→Prop:=(Bm h [eSl zo v_l l])
 have hO:Own B h h [eSl zo v_l l]:=H
 refine ZM (Zj (Zb v_l rfl (Zc (ZaC (hO.sl 0 rfl) rfl) (Zb (.n 0) rfl (Ze (Za2 (Zci hp (fun|(l1,x),fr,k=>fr 0=v_l∧fr 1=v_by_∧fr 2=v_arcs∧fr 10=.n (l.length:Int)∧fr 11=.n x∧Own B h k [eSl zo v_l l1]) (fun l2 e fr k=>e=(.exit 0)∧fr 0=v_l∧fr 2=v_arcs∧Own B h k [eSl zo v_l l2]) ⟨rfl,rfl,rfl,rfl,rfl,(hO.pk [0])⟩ ?_ ?_)))))))
 ·rintro ⟨l1,x⟩ _ _ ⟨m,p,w,v,s,j⟩ _ hp
  dsimp only [ZJ.s0] at hp
  refine Zj (Zc (zV s v) (Ze (ZM (zD hp rfl (fun S hp=>?_) (fun S hp=>?_)))))
  ·refine Za3 (ZM (Za2 (Zj (Zb _ s (Zb (.n x) rfl (Ze (Zj (Zb (.n x) rfl (Zb _ p ?_)))))))))
   refine Zc (ZaC (j.rd0 s_by_) rfl) (Zc (zV rfl rfl) (Ze (zD hp rfl (fun T hp=>?_) (fun T hp=>?_))))
   ·refine ZeS ?_
    have b:=j.bump 13
    refine Zaq _ m (Zaq (.n x) rfl (ckk hp fun g hp=>ZX (ZW (b.sl 0 rfl) rfl rfl g) (ZX (zt (b.sl 0 rfl) rfl (Zf g) rfl) (Zaq _ p (Zaq (.n x) rfl (ckk hp fun D hp=>ZX (ZW (b.rd0 s_by_) rfl rfl D) (ZX (zt (b.rd0 s_by_) rfl (Zf D) rfl) (ZX (ZeF rfl rfl (by decide)) (ckk hp fun ab hp=>ZX (Zgj rfl ab) (ckk hp fun ac hp=>?_))))))))))
    refine ZX (zG rfl rfl ac) (ZX (ZW (b.sl 0 rfl) rfl rfl g) (Zdf (b.ste (y:=((gi l1 x.toNat)+((gi by_ x.toNat).tmod 6))) 0 rfl rfl (Zf g) rfl rfl ⟨rfl,Nat.le_of_ble_eq_true rfl,rfl⟩ rfl) ?_))
    rintro _ _ _ ⟨rfl,_,_,ah⟩
    refine Zch ?_
    refine And.intro ?_ ?_
    ·intro q hq
     simp only [List.mem_cons,List.not_mem_nil,or_false] at hq
     rcases hq with rfl
     ·refine Zak ?_ ?_
      ·exact (fun h=>nomatch h)
      ·exact (fun h=>nomatch h)
    refine Zat (Zx (Zar (ckk hp fun ad hp=>Zc (zG s rfl ad) (Zb (.n (x+1)) rfl (Zo ?_)))))
    cases hp
    exact ⟨rfl,m,p,w,v,rfl,(ah.pk [0])⟩
   ·refine Zc5 (Zat (Zx (Zar (ckk hp fun ae hp=>Zc (zG s rfl ae) (Zb (.n (x+1)) rfl (Zo ?_))))))
    cases hp
    exact ⟨rfl,m,p,w,v,rfl,(j.pk [0])⟩
  ·refine ZbU (Zas ?_)
   cases hp
   exact ⟨nofun,rfl,m,w,(j.pk [0])⟩
 rintro l2 hp _ _ _ ⟨rfl,J,al,I⟩
 refine Zbe (Zx (Zj (Zb _ J (Zc (ZaC (I.sl 0 rfl) rfl) (Zb (.n 0) rfl (Ze (Za2 (Zci hp (fun|(l3,x1),fr,k=>fr 0=v_l∧fr 2=v_arcs∧fr 32=.n (l2.length:Int)∧fr 33=.n x1∧Own B h k [eSl zo v_l l3]) (fun p0 e fr k=>e=(.exit 2)∧Own B h k [eSl zo v_l p0]) ⟨J,al,rfl,rfl,(I.pk [0])⟩ ?_ ?_))))))))
 ·rintro ⟨l3,x1⟩ _ _ ⟨am,K,L,M,t⟩ _ hp
  dsimp only [ZJ.s1] at hp
  refine Zj (Zc (zV M L) (Ze (ZM (zD hp rfl (fun U hp=>?_) (fun U hp=>?_)))))
  ·refine Za3 (ZM (Za2 (Zj (Zb _ K (Zc (ZaC (t.rd0 s_arcs) rfl) (Zb (.n 0) rfl (Ze (Za2 (Zci hp (fun|(l4,x2),fr,k=>fr 0=v_l∧fr 2=v_arcs∧fr 32=.n (l2.length:Int)∧fr 33=.n x1∧fr 35=v_arcs∧fr 36=.n (arcs.length:Int)∧fr 37=.n x2∧Own B h k [eSl zo v_l l4]) (fun l5 e fr k=>e=(.exit 4)∧fr 0=v_l∧fr 2=v_arcs∧fr 32=.n (l2.length:Int)∧fr 33=.n x1∧Own B h k [eSl zo v_l l5]) ⟨am,K,L,M,rfl,rfl,rfl,(t.pk [0])⟩ ?_ ?_)))))))))
   ·rintro ⟨l4,x2⟩ _ _ ⟨f,N,O,P,Q,R,A,d⟩ _ hp
    dsimp only [ZJ.s2] at hp
    refine Zj (Zc (zV A R) (Ze (ZM (zD hp rfl (fun W hp=>?_) (fun W hp=>?_)))))
    ·refine Za3 (ZM (Za2 (Zj (ckk hp fun E hp=>Zc (ZW (d.rd0 s_arcs) Q A E) (Zc (ZeV (d.rd0 s_arcs) rfl (Zf E)) (Zaw (d.alloc (cs:=zF.c (⟨0,0,0⟩:ZA)) d.fr) ?_))))))
     rintro _ _ ⟨C,rfl,_,_,ak⟩
     refine Zaw (ak.stb (cs':=zF.c (gi arcs x2.toNat)) 1 rfl rfl rfl rfl ⟨rfl,Nat.le_of_ble_eq_true rfl,rfl⟩ rfl) ?_
     rintro _ _ ⟨rfl,_,_,af⟩
     refine Ze (ZeS ?_)
     have a:=af.bump 17
     refine Zaq _ f (ZX (ZaU (r:=C) (o:=0) rfl rfl) (ZX (Zad (a.box 1 rfl) rfl rfl) (Zaq _ f (ZX (ZaU (r:=C) (o:=0) rfl rfl) (ZX (Zad (a.box 1 rfl) rfl rfl) (ckk hp fun i hp=>ZX (ZW (a.sl 0 rfl) rfl rfl i) (ZX (zt (a.sl 0 rfl) rfl (Zf i) rfl) (Zaq _ f (ZX (ZaU (r:=C) (o:=0) rfl rfl) (ZX (Zad (a.box 1 rfl) rfl rfl) (ckk hp fun F hp=>ZX (ZW (a.sl 0 rfl) rfl rfl F) ?_)))))))))))
     refine ZX (zt (a.sl 0 rfl) rfl (Zf F) rfl) (ckk hp fun X hp=>ZX (zG rfl rfl X) (ZX (ZlZ rfl rfl) (ZX (ZW (a.sl 0 rfl) rfl rfl i) (Zdf (a.ste (y:=(max (gi l4 ((gi arcs x2.toNat).To:Int).toNat) ((gi l4 ((gi arcs x2.toNat).From:Int).toNat)+1))) 0 rfl rfl (Zf i) rfl rfl ⟨rfl,Nat.le_of_ble_eq_true rfl,rfl⟩ rfl) ?_))))
     rintro _ _ _ ⟨rfl,_,_,ag⟩
     refine Zch ?_
     refine And.intro ?_ ?_
     ·intro q hq
      simp only [List.mem_cons,List.not_mem_nil,or_false] at hq
      rcases hq with rfl|rfl|rfl|rfl|rfl|rfl|rfl|rfl
      ·refine Zak ?_ ?_
       ·exact (fun h=>nomatch h)
       ·exact (fun h=>nomatch h)
      ·refine Zak ?_ ?_
       ·exact (fun h=>nomatch h)
       ·exact (fun h=>nomatch h)
      ·refine Zak ?_ ?_
       ·exact (fun h=>nomatch h)
       ·exact (fun h=>nomatch h)
      ·refine Zak ?_ ?_
       ·exact (fun h=>nomatch h)
       ·exact (fun h=>nomatch h)
      ·refine Zak ?_ ?_
       ·exact (fun h=>nomatch h)
       ·exact (fun h=>nomatch h)
      ·refine Zak ?_ ?_
       ·exact (fun h=>nomatch h)
       ·exact (fun h=>nomatch h)
      ·refine Zak ?_ ?_
       ·exact (fun h=>nomatch h)
       ·exact (fun h=>nomatch h)
      ·refine Zak ?_ ?_
       ·exact (fun h=>nomatch h)
       ·exact (fun h=>nomatch h)
     refine Zat (Zx (Zar (ckk hp fun Y hp=>Zc (zG A rfl Y) (Zb (.n (x2+1)) rfl (Zo ?_)))))
     cases hp
     exact ⟨rfl,f,N,O,P,Q,R,rfl,(ag.pk [0])⟩
    ·refine ZbU (Zas ?_)
     cases hp
     exact ⟨nofun,rfl,f,N,O,P,(d.pk [0])⟩
   rintro l5 hp _ _ _ ⟨rfl,an,ao,ap,aq,aj⟩
   refine Zbe (Zat (Zx (Zar (ckk hp fun aa hp=>Zc (zG aq rfl aa) (Zb (.n (x1+1)) rfl (Zo ?_))))))
   cases hp
   exact ⟨rfl,an,ao,ap,rfl,(aj.pk [0])⟩
  ·refine ZbU (Zas ?_)
   cases hp
   exact ⟨nofun,rfl,(t.pk [0])⟩
 rintro p0 hp _ _ _ ⟨rfl,ai⟩
 refine Zbe (ZlT ZF ?_)
 cases hp
 exact ⟨rfl,(ai.pk [0])⟩

theorem zH.ok {h:Hp}{z:zx}{x:List Int}{y:List Int}{v_z_At:V}{v_z_Bits:V}{v_z_Own:V}{v_x:V}{v_y:V}(s_z_At:Sl Zgz h v_z_At z.At) (s_z_Bits:Sl Zgz h v_z_Bits z.Bits) (s_z_Own:Sl Zl5 h v_z_Own z.Own) (s_x:Sl Zgz h v_x x) (s_y:Sl Zgz h v_y y) {r:Bool}(hp:zH z x y=some r) :
  ∃ u k',Is G 254 [.ag [v_z_At,v_z_Bits,v_z_Own],v_x,v_y] h u k'∧V.b r=u∧Own (fun r=>r<h.n) h k' []:=by
 refine WC.is (ZaB ZcY ?_)
 unfold zH at hp
 let B:Nat→Prop:=(fun r=>r<h.n)
 have hO:Own B h h []:=Own.start0 h
 refine Zj (Zaw (hO.boxd (cs:=[v_z_At,v_z_Bits,v_z_Own]) hO.fr rfl rfl) ?_)
 rintro _ bH ⟨_,rfl,_,_,P⟩
 refine Zb (.b false) rfl (Ze (Zj (Zc (Zca (P.box 0 rfl) rfl rfl) ?_)))
 obtain ⟨⟨x1,x2⟩,⟨_,bM,aX,s,aR,rfl,bt⟩,hp⟩:=bdk hp fun _=>ZC.ok (h:=bH)  (P.rd0 s_z_At.rd) (P.rd0 s_z_Bits.rd) (P.rd0 s_z_Own.rd)
 refine Zan rfl rfl aX ?_
 have aH:=P.call bt rfl
 refine Zb (.tu [s,aR]) rfl (Zc (zM rfl rfl) (Zc (zM rfl rfl) (Zb s rfl (Zb aR rfl (Ze (Zj (Zb s rfl ?_)))))))
 obtain ⟨⟨x3,x4⟩,⟨_,bP,a3,A,rfl,bA⟩,hp⟩:=bdk hp fun _=>Zaf.ok (h:=bM)  (aH.sl 1 rfl)
 refine Zan rfl rfl a3 ?_
 have br:=aH.call bA rfl
 refine Zb (.tu [A,.n x4]) rfl (Zc (zM rfl rfl) (Zc (zM rfl rfl) (Zb A rfl (Zb (.n x4) rfl (Ze (ZM (Zj ?_)))))))
 obtain ⟨x5,⟨_,an,a4,rfl,bB⟩,hp⟩:=bdk hp fun _=>Zbn.ok (h:=bP)  
 refine Zan rfl ZhO a4 ?_
 have am:=br.call bB rfl
 refine Zc (Zcl rfl) (Zb (.b (!x5)) rfl (Zay 3 (fun f k=>an=k∧f 33=.b ((!x5)||(!(decide (x4=0))))∧f 1=v_x∧f 2=v_y∧f 7=s∧f 9=A) ?_ ?_))
 ·rcases bc (!x5) with C|C
  ·refine Zs rfl C (Zs rfl C (Zc (Zc6 (w:=(!x5)||(!(decide (x4=0)))) rfl C rfl) (Zo ?_)))
   exact ⟨rfl,rfl,rfl,rfl,rfl,rfl⟩
  ·refine Z6 rfl C (Zb (.n x4) rfl (Z6 rfl C (Zc (Zcv rfl rfl) (Zc (Zc7 rfl C rfl) (Zo ?_)))))
   exact ⟨rfl,rfl,rfl,rfl,rfl,rfl⟩
 rintro _ _ ⟨rfl,be,ax,ay,ai,ac⟩
 refine Ze (zD hp be (fun aS hp=>?_) (fun aS hp=>?_))
 ·refine Zj ?_
  obtain ⟨x6,⟨_,_,a5,rfl,bC⟩,hp⟩:=bdk hp fun _=>Zbn.ok (h:=an)  
  refine Zan rfl ZhO a5 ?_
  have bs:=am.call bC rfl
  refine Zb (.b x6) rfl (Ze (zR (zl (zf (zj rfl ZF) ?_))))
  cases hp
  exact ⟨rfl,(bs.pk [])⟩
 ·refine Za3 (Zj (Zb _ ac ?_))
  obtain ⟨⟨x7,x8⟩,⟨_,_,a6,F,H,I,M,J,N,rfl,bD⟩,hp⟩:=bdk hp fun _=>Zbc.ok (h:=an)  (am.sl 3 rfl)
  refine Zan rfl rfl a6 ?_
  have aI:=am.call bD rfl
  refine Zb (.tu [.ag [F,H,I,J],.b x8]) rfl (Zc (zM rfl rfl) (Zc (zM rfl rfl) (Zaw (aI.alloc (cs:=[.sn,.sn,.sn,.sn]) aI.fr) ?_)))
  rintro _ _ ⟨i,rfl,_,_,T⟩
  refine Zaw (T.stb (cs':=[F,H,I,J]) 10 rfl rfl rfl rfl ⟨rfl,Nat.le_of_ble_eq_true rfl,(all_cons (T.sl 4 rfl).oneV (all_cons (T.sl 5 rfl).oneV (all_cons (T.sl 6 rfl).oneV (all_cons (T.sl 8 rfl).oneV all_nil))))⟩ rfl) ?_
  rintro _ ao ⟨rfl,_,_,U⟩
  refine Zb (.b x8) rfl (Ze (ZM (Zj (Zb (.b x8) rfl (Zc (Zcl rfl) (Zb (.b (!x8)) rfl (Zay 6 (fun f k=>ao=k∧f 48=.b ((!x8)||(decide ((x3.length:Int)<(x1.length:Int))))∧f 1=v_x∧f 11=.p i 0∧f 2=v_y∧f 7=s∧f 9=A) ?_ ?_)))))))
  ·rcases bc (!x8) with d|d
   ·refine Zs rfl d (Zs rfl d (Zs rfl d (Zs rfl d (Zs rfl d (Zc (Zc6 (w:=(!x8)||(decide ((x3.length:Int)<(x1.length:Int)))) rfl d rfl) (Zo ?_))))))
    exact ⟨rfl,rfl,ax,rfl,ay,ai,ac⟩
   ·refine Z6 rfl d (Zb _ ac (Z6 rfl d (Zc (ZaC (U.sl 3 rfl) rfl) (Z6 rfl d (Zb _ ai (Z6 rfl d (Zc (ZaC (U.sl 1 rfl) rfl) (Z6 rfl d (Zc (zV rfl rfl) (Zc (Zc7 rfl d rfl) (Zo ?_)))))))))))
    exact ⟨rfl,rfl,ax,rfl,ay,ai,ac⟩
  rintro _ _ ⟨rfl,bh,bf,O,bg,bi,aj⟩
  refine Ze (zD hp bh (fun aT hp=>?_) (fun aT hp=>?_))
  ·refine Zj (Zb (.b false) rfl (Ze (zR (zl (zf (zj rfl ZF) ?_)))))
   cases hp
   exact ⟨rfl,(U.pk [])⟩
  ·refine Za3 (ZM (ZeS ?_))
   have af:=U.bump 10
   have bb:=Fresh.start ao 10
   refine Zaq _ aj (ZX (ZaU (r:=i) (o:=0) O rfl) (ZX (Zad (af.box 10 rfl) rfl rfl) ?_))
   obtain ⟨x9,⟨_,bI,a7,K,rfl,aJ⟩,hp⟩:=bdk hp fun _=>zW.ok (h:=(ao.bump 10))  (af.sl 3 rfl) (af.sl 4 rfl)
   refine Zhj rfl rfl a7 ?_
   have ad:=af.call aJ rfl
   refine Zaq _ aj (ZX (ZaU (r:=i) (o:=0) O rfl) (ZX (Zad (ad.box 10 rfl) rfl rfl) ?_))
   obtain ⟨x10,⟨_,aL,a8,L,rfl,bE⟩,hp⟩:=bdk hp fun _=>zW.ok (h:=bI)  (ad.sl 3 rfl) (ad.sl 5 rfl)
   refine Zhj rfl rfl a8 ?_
   have aG:=ad.call bE rfl
   refine Zaq K rfl (Zaq L rfl (Zch ?_))
   refine And.intro ?_ ?_
   ·intro q hq
    simp only [List.mem_cons,List.not_mem_nil,or_false] at hq
    rcases hq with rfl|rfl
    ·refine Zak ?_ ?_
     ·exact (fun h=>nomatch h)
     ·exact (fun h=>nomatch h)
    ·refine Zit rfl ?_
     ·exact (fun r hm hc=>hc (aJ.base r (Nat.lt_of_lt_of_le (U.ltAt 10 rfl _ (tch (ZbS hm) rfl)) (Nat.le_trans (Nat.le_add_right _ _) bb.n))))
   refine Zx (ZM (ZeS ?_))
   have Q:=aG.bump 12
   have bd:=Fresh.start aL 12
   refine ZX (ZaU (r:=i) (o:=0) O rfl) (ZX (Zad (Q.box 10 rfl) rfl rfl) (ZX (Zgk (n:=(x7.Vert).length) (Q.sl 6 rfl) (Q.allLen 7 rfl:(M).length=(x7.Vert).length) rfl) (Zaq K rfl ?_)))
   obtain ⟨x11,⟨_,bJ,a9,W,rfl,aK⟩,hp⟩:=bdk hp fun _=>ZY.ok (h:=(aL.bump 12))  (Q.sl 11 rfl)
   refine Zhj rfl rfl a9 ?_
   have R:=Q.call aK rfl
   refine ZX (ZaU (r:=i) (o:=0) O rfl) (ZX (Zad (R.box 10 rfl) rfl rfl) (ZX (Zgk (n:=(x7.Horz).length) (R.sl 8 rfl) (R.allLen 9 rfl:(N).length=(x7.Horz).length) rfl) (Zaq L rfl ?_)))
   obtain ⟨x12,⟨_,_,ba,aa,rfl,bF⟩,hp⟩:=bdk hp fun _=>ZY.ok (h:=bJ)  (R.sl 12 rfl)
   refine Zhj rfl rfl ba ?_
   have bo:=R.call bF rfl
   refine Zaq W rfl (Zaq aa rfl (Zch ?_))
   refine And.intro ?_ ?_
   ·intro q hq
    simp only [List.mem_cons,List.not_mem_nil,or_false] at hq
    rcases hq with rfl|rfl
    ·refine Zak ?_ ?_
     ·exact (fun h=>nomatch h)
     ·exact (fun h=>nomatch h)
    ·refine Zit rfl ?_
     ·exact (fun r hm hc=>hc (aK.base r (Nat.lt_of_lt_of_le (aG.ltAt 10 rfl _ (tch (ZbS hm) rfl)) (Nat.le_trans (Nat.le_add_right _ _) bd.n))))
   refine Zx (ZM (Zj (Zb (.n 0) rfl (Ze (Za2 (Zci hp (fun|(a,b,x13),fr,k=>fr 1=v_x∧fr 2=v_y∧fr 7=s∧fr 9=A∧fr 11=.p i 0∧fr 13=K∧fr 14=L∧fr 15=W∧fr 16=aa∧fr 67=.n x13∧Own B h k [eSl Zd s x1,eSl Zd A x3,ZaF i [F,H,I,J],eSl zo F x7.X,eSl zo H x7.Y,eSl eV I M,Zcy zo M x7.Vert,eSl eV J N,Zcy zo N x7.Horz,eSl zF K x9,eSl zF L x10,eSl zo W a,eSl zo aa b]) (fun|.inl _,e,fr,k=>e=(.exit 0)∧Own B h k []|.inr _,e,fr,k=>e=.ret∧fr 6=.b false∧Own B h k []) ⟨bf,bg,bi,aj,O,rfl,rfl,rfl,rfl,rfl,(bo.pk [1,3,10,4,5,6,7,8,9,11,12,13,14])⟩ ?_ ?_))))))
   ·rintro ⟨a,b,x13⟩ _ bK ⟨aN,aQ,ah,av,ap,aO,aP,aq,ar,au,g⟩ _ hp
    dsimp only [zH.s0] at hp
    refine Zj (Zc (zV au rfl) (Ze (ZM (zD hp rfl (fun aU hp=>?_) (fun aU hp=>?_)))))
    ·refine Za3 (ZM (Za2 (Zj (Zc (Zca (g.box 2 rfl) ap rfl) (Zb _ aq (Zb _ ar ?_))))))
     obtain ⟨x14,⟨_,bL,aY,ab,rfl,bu⟩,hp⟩:=bdk hp fun _=>Zaj.ok (h:=bK)  (g.sl 3 rfl) (g.sl 4 rfl) (g.sl 5 rfl) (g.allLen 6 rfl:(M).length=(x7.Vert).length) (fun j hj=>g.inn 6 rfl hj) (g.sl 7 rfl) (g.allLen 8 rfl:(N).length=(x7.Horz).length) (fun j hj=>g.inn 8 rfl hj) (g.sl 11 rfl) (g.sl 12 rfl)
     refine Zan rfl rfl aY ?_
     have al:=g.call bu rfl
     refine Zb ab rfl (Ze (ZM (Zj (Zb _ av (Zb ab rfl ?_)))))
     obtain ⟨x15,⟨_,aM,aZ,rfl,bv⟩,hp⟩:=bdk hp fun _=>ZT.ok (h:=bL)  (al.sl 1 rfl) (al.sl 13 rfl)
     refine Zan rfl rfl aZ ?_
     have D:=al.call bv rfl
     refine Zc (Zcl rfl) (Zb (.b (!x15)) rfl ?_)
     obtain ⟨t,bG,hp⟩:=Za7 hp
     refine Zay 8 (fun f k=>Own B h k [eSl Zd s x1,eSl Zd A x3,ZaF i [F,H,I,J],eSl zo F x7.X,eSl zo H x7.Y,eSl eV I M,Zcy zo M x7.Vert,eSl eV J N,Zcy zo N x7.Horz,eSl zF K x9,eSl zF L x10,eSl zo W a,eSl zo aa b,eSl Zi ab x14]∧f 85=.b t∧f 1=v_x∧f 11=.p i 0∧f 13=K∧f 14=L∧f 15=W∧f 16=aa∧f 2=v_y∧f 67=.n x13∧f 7=s∧f 9=A) ?_ ?_
     ·clear hp;rcases ZaW bG with ⟨c,hp⟩|⟨c,hp⟩
      ·refine Zs rfl c (Zs rfl c (Zs rfl c (Zs rfl c (Zs rfl c (Zs rfl c (Zs rfl c (Zc (ZaH (v:=.b t) rfl c (Eq.trans (b:=V.b true) rfl (congrArg V.b (Option.some.inj hp)))) (Zo ?_))))))))
       exact ⟨D.pk [0,1,2,3,4,5,6,7,8,9,10,11,12,13],rfl,aN,ap,aO,aP,aq,ar,aQ,au,ah,av⟩
      ·refine Z6 rfl c (Zb _ ah (Z6 rfl c (Zb ab rfl (Z6 rfl c (Zb _ ah (Z6 rfl c (Zc (ZaC (D.sl 0 rfl) rfl) (Z6 rfl c (ckk hp fun aw hp=>Zc (Zkq (E:=Zi) (z:=(x1.length:Int)) (D.sl 13 rfl) rfl rfl aw) (Z6 rfl c ?_))))))))))
       obtain ⟨x16,⟨_,_,a0,rfl,bw⟩,hp⟩:=bdk hp fun _=>ZT.ok (h:=aM)  (D.sl 0 rfl) (Sl.cutU (D.sl 13 rfl) aw:Sl Zi aM (V.cut ab 0 ((x1.length:Int):Int).toNat) (x14.take ((x1.length:Int):Int).toNat))
       refine Zan rfl rfl a0 ?_
       have bp:=D.call bw rfl
       refine Z6 rfl c (Zc (Zcl rfl) (Zc (Za0 (v:=.b t) rfl c (Eq.trans (b:=V.b (!x16)) rfl (congrArg V.b (Option.some.inj hp)))) (Zo ?_)))
       exact ⟨bp.pk [0,1,2,3,4,5,6,7,8,9,10,11,12,13],rfl,aN,ap,aO,aP,aq,ar,aQ,au,ah,av⟩
     rintro _ bN ⟨S,bm,az,bj,aA,aB,aC,aD,aE,bk,bl,bn⟩
     refine Ze (zD hp bm (fun aV hp=>?_) (fun aV hp=>?_))
     ·refine Zj (Zb (.b false) rfl (Ze (zR (zl (Zbt (zl ?_))))))
      cases hp
      exact ⟨nofun,rfl,rfl,(S.pk [])⟩
     ·refine Za3 (Zj (Zb _ aC (Zb _ az (Zb _ aA ?_))))
      obtain ⟨m,⟨_,bO,a1,rfl,bx⟩,hp⟩:=bdk hp fun _=>ZJ.ok (h:=bN) (l:=a) (by_:=x) (arcs:=x9) (S.toM [11] rfl (by decide)) (S.rdM [11] rfl s_x.rd) (S.slM [11] rfl 9 (by decide) rfl)
      refine Zan rfl rfl a1 ?_
      have ae:=(S.callM [11] [0,1,2,3,4,5,6,7,8,9,10,12,13] rfl rfl (by decide) bx rfl).pick [0,1,2,3,4,5,6,7,8,9,10,13,11,12] rfl (by decide)
      refine Ze (Zar (Zb _ aD (Zb _ aE (Zb _ aB ?_))))
      obtain ⟨m1,⟨_,_,a2,rfl,bz⟩,hp⟩:=bdk hp fun _=>ZJ.ok (h:=bO) (l:=b) (by_:=y) (arcs:=x10) (ae.toM [12] rfl (by decide)) (ae.rdM [12] rfl s_y.rd) (ae.slM [12] rfl 10 (by decide) rfl)
      refine Zan rfl rfl a2 ?_
      have bq:=(ae.callM [12] [0,1,2,3,4,5,6,7,8,9,10,11,13] rfl rfl (by decide) bz rfl).pick [0,1,2,3,4,5,6,7,8,9,10,11,13,12] rfl (by decide)
      refine Zo (Zat (Zx (Zar (ckk hp fun aW hp=>Zc (zG bk rfl aW) (Zb (.n (x13+1)) rfl (Zo ?_))))))
      cases hp
      exact ⟨rfl,az,aE,bl,bn,bj,aA,aB,aC,aD,rfl,(bq.pk [0,1,2,3,4,5,6,7,8,9,10,11,12])⟩
    ·refine ZbU (Zas ?_)
     cases hp
     exact ⟨nofun,rfl,(g.pk [])⟩
   rintro (_|_) hp _ _ _ aF
   ·obtain ⟨rfl,ak⟩:=aF
    refine Zbe (Zx (Zj (Zb (.b true) rfl (Ze (zR (zf (zj rfl ZF) ?_))))))
    cases hp
    exact ⟨rfl,(ak.pk [])⟩
   ·obtain ⟨rfl,bQ,ak⟩:=aF
    refine Zbt (zl (zf (zj bQ ZF) ?_))
    cases hp
    exact ⟨rfl,(ak.pk [])⟩

end Mu
