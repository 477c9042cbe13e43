/- The code comes to what was worked out. -/
import Derived.Test.YtfdidkebomeiaaaMuDf
import Derived.Test.YtfdidkebomeiaaaMuPa
import Derived.Test.YtfdidkebomeiaaaMuC0
set_option linter.unusedVariables false
set_option linter.unnecessarySimpa false
set_option linter.unusedSimpArgs false
set_option maxHeartbeats 2000000
set_option maxRecDepth 10000
namespace Mu
open Go (IntKind BinOp UnOp)
theorem Za1.ok {h:Hp}{cells:List Za}{v:Int}{v_cells:V}(s_cells:Sl Zd h v_cells cells) {r:(List Int)×(List Int)}(hp:Za1 cells v=some r) :
  ∃ u k',Is G 67 [v_cells,.n v] h u k'∧∃ ap ar,V.tu [ap,ar]=u∧Own (fun r=>r<h.n) h k' [eSl zo ap r.1,eSl zo ar r.2]:=by
 refine WC.is (ZaB Zft ?_)
 unfold Za1 at hp
 let B:Nat→Prop:=(fun r=>r<h.n)
 have hO:Own B h h []:=Own.start0 h
 refine Zj (Zb (.sn) rfl (Zb (.sn) rfl (Ze (Zj (Zaw (hO.bsl (E:=zo) (l:=([(-1)]:List Int)) hO.fr (by rw [(zP (v:=.n (-1)) rfl Zbs)];rfl) rfl) ?_)))))
 rintro a1 al ⟨_,_,J⟩
 refine Zb v_cells rfl (Zc (ZaC (J.rd0 s_cells.rd) rfl) ?_)
 obtain ⟨x,⟨_,_,aC,c,rfl,aL⟩,hp⟩:=bdk hp fun _=>zX.ok (h:=al)  (J.sl 0 rfl:Sl zo al a1 ([(-1)]:List Int))
 refine Zan rfl rfl aC ?_
 have ai:=J.call aL rfl
 refine Zaw (ai.bsl (E:=zo) (l:=([(-1)]:List Int)) ai.fr (by rw [(zP (v:=.n (-1)) rfl Zbs)];rfl) rfl) ?_
 rintro a2 am ⟨_,_,L⟩
 refine Zb v_cells rfl (Zc (ZaC (L.rd0 s_cells.rd) rfl) ?_)
 obtain ⟨x1,⟨_,_,aD,d,rfl,aM⟩,hp⟩:=bdk hp fun _=>zX.ok (h:=am)  (L.sl 2 rfl:Sl zo am a2 ([(-1)]:List Int))
 refine Zan rfl rfl aD ?_
 have aj:=L.call aM rfl
 refine Zb c rfl (Zb d rfl (Ze (Zj (Zb (.n v) rfl (Zaw (aj.bsl (E:=zo) (l:=[v]) aj.fr (by rw [(zP (v:=.n v) rfl Zbs)];rfl) rfl) ?_)))))
 rintro au _ ⟨_,_,M⟩
 refine Zb au rfl (Ze (Zj (Zb v_cells rfl (Zc (ZaC (M.rd0 s_cells.rd) rfl) (ckk hp fun ay hp=>Zaw (M.mks (E:=e_bool) (y:=false) (bytes:=1) (z:=(cells.length:Int)) M.fr rfl rfl rfl ay (by decide)) ?_)))))
 rintro i aQ ⟨_,_,ak⟩
 refine Zb i rfl (Ze (Zj (Zb i rfl (Zb (.n v) rfl (ckk hp fun T hp=>Zc (ZW (ak.sl 5 rfl:Sl e_bool aQ i (List.replicate ((cells.length:Int):Int).toNat false)) rfl rfl T) (Zaw (ak.ste (y:=true) 5 rfl rfl (Zf T) rfl rfl ⟨rfl,Nat.le_of_ble_eq_true rfl,rfl⟩ rfl) ?_))))))
 rintro _ _ ⟨rfl,_,_,aJ⟩
 refine Ze (ZM (Za2 (Zci hp (fun|(from_,dir,l,met),fr,k=>∃ o,fr 0=v_cells∧fr 6=c∧fr 7=d∧fr 8=o∧fr 9=i∧Own B h k [eSl zo c from_,eSl zo d dir,eSl zo o l,eSl e_bool i met]) (fun|(from_1,dir1),e,fr,k=>e=(.exit 0)∧fr 6=c∧fr 7=d∧Own B h k [eSl zo c from_1,eSl zo d dir1]) ⟨au,rfl,rfl,rfl,rfl,rfl,(aJ.pk [1,3,4,5])⟩ ?_ ?_)))
 ·rintro ⟨from_,dir,l,met⟩ _ _ ⟨o,aT,an,ao,N,aU,j⟩ _ hp
  dsimp only [Za1.s0] at hp
  refine ZM (Zj (Zb _ N (Zc (ZaC (j.sl 2 rfl) rfl) (Zc (ZeU rfl rfl) (Ze (zD hp rfl (fun av hp=>?_) (fun av hp=>?_)))))))
  ·refine Za3 (Za2 (Zj (Zb _ N (ckk hp fun U hp=>Zc (ZW (j.sl 2 rfl) rfl rfl U) (Zc (zt (j.sl 2 rfl) rfl (Zf U) rfl) (Zb (.n (gi l (0:Int).toNat)) rfl (Ze (Zj ?_))))))))
   refine Zb _ N (ckk hp fun W hp=>Zc (Zma (E:=zo) (z:=1) (j.sl 2 rfl) rfl rfl W) (Zb ((V.cut o (1:Int).toNat (l).length)) rfl (Ze (Zj (Zb (.n 0) rfl (Ze (Za2 ?_)))))))
   have aH:=j.cutF 2 rfl W
   refine Zci hp (fun|(from_2,dir2,l1,met1,x2),fr,k=>∃ m,fr 0=v_cells∧fr 6=c∧fr 7=d∧fr 8=m∧fr 9=i∧fr 10=.n (gi l (0:Int).toNat)∧fr 37=.n x2∧Own B h k [eSl zo c from_2,eSl zo d dir2,eSl zo m l1,eSl e_bool i met1]) (fun|(from_3,dir3,l2,met2),e,fr,k=>e=(.exit 2)∧∃ C,fr 0=v_cells∧fr 6=c∧fr 7=d∧fr 8=C∧fr 9=i∧Own B h k [eSl zo c from_3,eSl zo d dir3,eSl zo C l2,eSl e_bool i met2]) ⟨(V.cut o (1:Int).toNat (l).length),aT,an,ao,rfl,aU,rfl,rfl,(aH.pk [0,1,2,3])⟩ ?_ ?_
   ·rintro ⟨from_2,dir2,l1,met1,x2⟩ _ aO ⟨m,s,P,Q,R,A,O,w,g⟩ _ hp
    dsimp only [Za1.s1] at hp
    refine Zj (Zc (zV w rfl) (Ze (ZM (zD hp rfl (fun aw hp=>?_) (fun aw hp=>?_)))))
    ·refine Za3 (ZM (Za2 (Zj (Zb _ w (Zb (.n x2) rfl (Ze (Zj (Zb _ s (Zb _ O ?_)))))))))
     refine Zb (.n x2) rfl (ckk hp fun p hp=>Zc (ZW (g.rd0 s_cells.rd) rfl rfl p) (Zc (Za6 (g.rd0 s_cells.rd) (Zf p) rfl rfl) (ckk hp fun X hp=>Zc (Zbz (g.rd0 s_cells.rd) (Zf p) rfl rfl X rfl) (Zc (zt (g.rd0 s_cells.rd) rfl (Zf p) (zS X)) (Zb (.n (((gi cells (gi l (0:Int).toNat:Int).toNat).Next).get x2)) rfl (Ze (Zj (Zb (.n (((gi cells (gi l (0:Int).toNat:Int).toNat).Next).get x2)) rfl (Zc (Zds rfl rfl) ?_)))))))))
     refine Zb (.b (decide (0≤(((gi cells (gi l (0:Int).toNat:Int).toNat).Next).get x2)))) rfl ?_
     obtain ⟨t,aN,hp⟩:=Za7 hp
     refine Zay 6 (fun f k=>aO=k∧f 55=.b t∧f 0=v_cells∧f 10=.n (gi l (0:Int).toNat)∧f 11=.n x2∧f 12=.n (((gi cells (gi l (0:Int).toNat:Int).toNat).Next).get x2)∧f 37=.n x2∧f 6=c∧f 7=d∧f 8=m∧f 9=i) ?_ ?_
     ·clear hp;rcases ZaW aN with ⟨a,hp⟩|⟨a,hp⟩
      ·refine Z6 rfl a (Zb _ A (Z6 rfl a (Zb (.n (((gi cells (gi l (0:Int).toNat:Int).toNat).Next).get x2)) rfl (Z6 rfl a (ckk hp fun Y hp=>Zc (ZW (g.sl 3 rfl) rfl rfl Y) (Z6 rfl a (Zc (zt (g.sl 3 rfl) rfl (Zf Y) rfl) (Z6 rfl a (Zc (Zcl rfl) (Zc (ZaH (v:=.b t) rfl a (Eq.trans (b:=V.b (!(gi met1 (((gi cells (gi l (0:Int).toNat:Int).toNat).Next).get x2:Int).toNat))) rfl (congrArg V.b (Option.some.inj hp)))) (Zo ?_)))))))))))
       exact ⟨rfl,rfl,s,O,rfl,rfl,w,P,Q,R,A⟩
      ·refine Zs rfl a (Zs rfl a (Zs rfl a (Zs rfl a (Zs rfl a (Zc (Za0 (v:=.b t) rfl a (Eq.trans (b:=V.b false) rfl (congrArg V.b (Option.some.inj hp)))) (Zo ?_))))))
       exact ⟨rfl,rfl,s,O,rfl,rfl,w,P,Q,R,A⟩
     rintro _ _ ⟨rfl,aF,ac,D,aE,q,ad,F,H,ae,I⟩
     refine Ze (zD hp aF (fun ax hp=>?_) (fun ax hp=>?_))
     ·refine Zj (Zb _ I (Zb _ q (Zb _ F (Zb _ q (Zb _ H (Zb _ q (Zb _ D (Zb _ aE (ckk hp fun aa hp=>Zc (ZW (g.sl 3 rfl) rfl rfl aa) (Zaw (g.ste (y:=true) 3 rfl rfl (Zf aa) rfl rfl ⟨rfl,Nat.le_of_ble_eq_true rfl,rfl⟩ rfl) ?_))))))))))
      rintro _ _ ⟨rfl,_,_,af⟩
      refine ckk hp fun ab hp=>Zc (ZW (af.sl 0 rfl) rfl rfl ab) (Zaw (af.ste (y:=(gi l (0:Int).toNat)) 0 rfl rfl (Zf ab) rfl rfl ⟨rfl,Nat.le_of_ble_eq_true rfl,rfl⟩ rfl) ?_)
      rintro _ _ ⟨rfl,_,_,ag⟩
      refine ckk hp fun S hp=>Zc (ZW (ag.sl 1 rfl) rfl rfl S) (Zaw (ag.ste (y:=x2) 1 rfl rfl (Zf S) rfl rfl ⟨rfl,Nat.le_of_ble_eq_true rfl,rfl⟩ rfl) ?_)
      rintro _ _ ⟨rfl,_,_,ah⟩
      refine Ze (Zar (Zb _ ae (Zb _ q (Zaw (ah.bsl (E:=zo) (l:=[((gi cells (gi l (0:Int).toNat:Int).toNat).Next).get x2]) ah.fr (by rw [(zP (v:=.n (((gi cells (gi l (0:Int).toNat:Int).toNat).Next).get x2)) rfl Zbs)];rfl) rfl) ?_))))
      rintro a0 aP ⟨_,_,K⟩
      refine ckk hp fun az hp=>Zaw (K.app (bytes:=8) 2 K.fr rfl (K.sl 4 rfl:Sl zo aP a0 [((gi cells (gi l (0:Int).toNat:Int).toNat).Next).get x2]) rfl rfl (fun _=>rfl) az (by decide)) ?_
      rintro aq _ ⟨_,aI⟩
      refine Zb aq rfl (Zo (Zat (Zx (Zar (ckk hp fun aA hp=>Zc (zG ad rfl aA) (Zb (.n (x2+1)) rfl (Zo ?_)))))))
      cases hp
      exact ⟨rfl,aq,ac,F,H,rfl,I,D,rfl,(aI.pk [0,1,2,3])⟩
     ·refine Zc5 (Zat (Zx (Zar (ckk hp fun aB hp=>Zc (zG ad rfl aB) (Zb (.n (x2+1)) rfl (Zo ?_))))))
      cases hp
      exact ⟨rfl,m,ac,F,H,ae,I,D,rfl,(g.pk [0,1,2,3])⟩
    ·refine ZbU (Zas ?_)
     cases hp
     exact ⟨nofun,rfl,m,s,P,Q,R,A,(g.pk [0,1,2,3])⟩
   rintro ⟨from_3,dir3,l2,met2⟩ hp _ _ _ ⟨rfl,C,aV,aW,aX,aY,aZ,aG⟩
   refine Zbe (Zat ?_)
   cases hp
   exact ⟨rfl,C,aV,aW,aX,aY,aZ,(aG.pk [0,1,2,3])⟩
  ·refine ZbU (Zas ?_)
   cases hp
   exact ⟨nofun,rfl,an,ao,(j.pk [0,1])⟩
 rintro ⟨from_1,dir1⟩ hp _ _ _ ⟨rfl,aR,aS,aK⟩
 refine Zbe (Zx (Zj (Zb _ aR (Zb _ aS (Zb c rfl (Zb d rfl (Ze (zR (zf (zj rfl (zj rfl ZF)) ?_)))))))))
 cases hp
 exact ⟨c,d,rfl,(aK.pk [0,1])⟩

theorem Za9.ok {h:Hp}{cells:List Za}{v_cells:V}(s_cells:Sl Zd h v_cells cells) {r:(List (List Int))×Int}(hp:Za9 cells=some r) :
  ∃ u k',Is G 29 [v_cells] h u k'∧∃ ap aw,V.tu [ap,.n r.2]=u∧Own (fun r=>r<h.n) h k' [eSl eV ap aw,Zcy zo aw r.1]:=by
 refine WC.is (ZaB Zf8 ?_)
 unfold Za9 at hp
 let B:Nat→Prop:=(fun r=>r<h.n)
 have hO:Own B h h []:=Own.start0 h
 refine Zj (Zb (.sn) rfl (Zb (.n 0) rfl (Ze (ZM (Zj (Zb v_cells rfl ?_))))))
 obtain ⟨x,⟨_,_,aJ,rfl,aU⟩,hp⟩:=bdk hp fun _=>z9.ok (h:=h)  (hO.rd0 s_cells.rd)
 refine Zan rfl rfl aJ ?_
 have w:=hO.call aU rfl
 refine Zb (.n x) rfl (Ze (Zj (Zb (.n x) rfl (Zc (Zcv rfl rfl) (Ze (zD hp rfl (fun ax hp=>?_) (fun ax hp=>?_)))))))
 ·refine Zj (Zb (.n x) rfl (Zb (.sn) rfl (Zb (.n x) rfl (Ze (zR (zl ?_))))))
  have aP:=w.nil eV
  have aQ:=aP.allNil zo 0
  refine zf (zj rfl (zj rfl ZF)) ?_
  cases hp
  exact ⟨V.sn,[],rfl,(aQ.pk [0,1])⟩
 ·refine Za3 (Zj (Zb (.sn) rfl (Ze (Zj (Zb v_cells rfl (Zc (ZaC (w.rd0 s_cells.rd) rfl) (ckk hp fun aC hp=>Zaw (w.mks (E:=e_bool) (y:=false) (bytes:=1) (z:=(cells.length:Int)) w.fr rfl rfl rfl aC (by decide)) ?_)))))))
  rintro g _ ⟨_,_,an⟩
  refine Zb g rfl (Ze (ZM (Zj (Zb v_cells rfl (Zc (ZaC (an.rd0 s_cells.rd) rfl) (Zb (.n 0) rfl (Ze (Za2 ?_))))))))
  have aS:=an.nil eV
  have aT:=aS.allNil zo 0
  refine Zci hp (fun|(l,met,x1),fr,k=>∃ d c,fr 0=v_cells∧fr 5=d∧fr 6=g∧fr 21=.n (cells.length:Int)∧fr 22=.n x1∧Own B h k [eSl eV d c,Zcy zo c l,eSl e_bool g met]) (fun l1 e fr k=>e=(.exit 0)∧∃ q F,fr 5=q∧Own B h k [eSl eV q F,Zcy zo F l1]) ⟨V.sn,[],rfl,rfl,rfl,rfl,rfl,(aT.pk [1,2,0])⟩ ?_ ?_
  ·rintro ⟨l,met,x1⟩ _ aX ⟨d,c,A,L,M,K,C,j⟩ _ hp
   dsimp only [Za9.s0] at hp
   refine Zj (Zc (zV C K) (Ze (ZM (zD hp rfl (fun ay hp=>?_) (fun ay hp=>?_)))))
   ·refine Za3 (ZM (Za2 (Zj (Zb _ C (Zb (.n x1) rfl (Ze (ZM (Zj (Zb _ M ?_)))))))))
    refine Zb (.n x1) rfl (ckk hp fun X hp=>Zc (ZW (j.sl 2 rfl) rfl rfl X) (Zc (zt (j.sl 2 rfl) rfl (Zf X) rfl) (Ze (zD hp rfl (fun az hp=>?_) (fun az hp=>?_)))))
    ·refine ZbU (Zas (Zbe (Zx (Zar (ckk hp fun aE hp=>Zc (zG C rfl aE) (Zb (.n (x1+1)) rfl (Zo ?_)))))))
     cases hp
     exact ⟨rfl,d,c,A,L,M,K,rfl,(j.pk [0,1,2])⟩
    ·refine Za3 (Zj (Zb _ A (Zb (.n x1) rfl ?_)))
     obtain ⟨⟨x2,x3⟩,⟨_,_,aK,au,s,rfl,aV⟩,hp⟩:=bdk hp fun _=>Za1.ok (h:=aX)  (j.rd0 s_cells.rd)
     refine Zan rfl rfl aK ?_
     have ao:=j.call aV rfl
     refine Zb (.tu [au,s]) rfl (Zc (zM rfl rfl) (Zc (zM rfl rfl) (Zb au rfl (Zb s rfl (Ze (Zj (Zaw (ao.bsl (E:=zo) (l:=[]) ao.fr (by rw [Zbs];rfl) rfl) ?_)))))))
     rintro av _ ⟨_,_,al⟩
     refine Zb av rfl (Ze (ZM (Zj (Zb _ A (Zc (ZaC (al.rd0 s_cells.rd) rfl) (Zb (.n 0) rfl (Ze (Za2 (Zci hp (fun|(met1,part,x4),fr,k=>∃ m,fr 0=v_cells∧fr 5=d∧fr 6=g∧fr 7=.n x1∧fr 9=s∧fr 10=m∧fr 21=.n (cells.length:Int)∧fr 22=.n x1∧fr 37=.n (cells.length:Int)∧fr 38=.n x4∧Own B h k [eSl eV d c,Zcy zo c l,eSl e_bool g met1,eSl zo s x3,eSl zo m part]) (fun|(met2,part1),e,fr,k=>e=(.exit 2)∧∃ o,fr 0=v_cells∧fr 5=d∧fr 6=g∧fr 10=o∧fr 21=.n (cells.length:Int)∧fr 22=.n x1∧Own B h k [eSl eV d c,Zcy zo c l,eSl e_bool g met2,eSl zo o part1]) ⟨av,A,L,M,rfl,rfl,rfl,K,C,rfl,rfl,(al.pk [0,1,2,4,5])⟩ ?_ ?_)))))))))
     ·rintro ⟨met1,part,x4⟩ _ aY ⟨m,N,S,T,U,W,O,P,Q,R,D,i⟩ _ hp
      dsimp only [Za9.s1] at hp
      refine Zj (Zc (zV D R) (Ze (ZM (zD hp rfl (fun aA hp=>?_) (fun aA hp=>?_)))))
      ·refine Za3 (ZM (Za2 (Zj (Zb _ D (Zb (.n x4) rfl (Ze (Zj (Zb (.n x4) rfl (Zb _ U ?_)))))))))
       refine Zc (ZbZ rfl rfl) (Zb (.b (decide (x4=x1))) rfl ?_)
       obtain ⟨t,aW,hp⟩:=Za7 hp
       refine Zay 6 (fun f k=>aY=k∧f 50=.b t∧f 0=v_cells∧f 10=m∧f 11=.n x4∧f 21=.n (cells.length:Int)∧f 22=.n x1∧f 37=.n (cells.length:Int)∧f 38=.n x4∧f 5=d∧f 6=g∧f 7=.n x1∧f 9=s) ?_ ?_
       ·clear hp;rcases ZaW aW with ⟨a,hp⟩|⟨a,hp⟩
        ·refine Zs rfl a (Zs rfl a (Zs rfl a (Zs rfl a (Zs rfl a (Zc (ZaH (v:=.b t) rfl a (Eq.trans (b:=V.b true) rfl (congrArg V.b (Option.some.inj hp)))) (Zo ?_))))))
         exact ⟨rfl,rfl,N,O,rfl,P,Q,R,D,S,T,U,W⟩
        ·refine Z6 rfl a (Zb _ W (Z6 rfl a (Zb (.n x4) rfl (Z6 rfl a (ckk hp fun Y hp=>Zc (ZW (i.sl 3 rfl) rfl rfl Y) (Z6 rfl a (Zc (zt (i.sl 3 rfl) rfl (Zf Y) rfl) (Z6 rfl a (Zc (Zds rfl rfl) (Zc (Za0 (v:=.b t) rfl a (Eq.trans (b:=V.b (decide (0≤(gi x3 x4.toNat)))) rfl (congrArg V.b (Option.some.inj hp)))) (Zo ?_)))))))))))
         exact ⟨rfl,rfl,N,O,rfl,P,Q,R,D,S,T,U,W⟩
       rintro _ _ ⟨rfl,aL,ab,ac,ad,ae,af,ag,ah,ai,H,aj,ak⟩
       refine Ze (zD hp aL (fun aB hp=>?_) (fun aB hp=>?_))
       ·refine Zj (Zb _ H (Zb _ ad (ckk hp fun aa hp=>Zc (ZW (i.sl 2 rfl) rfl rfl aa) (Zaw (i.ste (y:=true) 2 rfl rfl (Zf aa) rfl rfl ⟨rfl,Nat.le_of_ble_eq_true rfl,rfl⟩ rfl) ?_))))
        rintro _ _ ⟨rfl,_,_,am⟩
        refine Ze (Zar (Zb _ ac (Zb _ ad (Zaw (am.bsl (E:=zo) (l:=[x4]) am.fr (by rw [(zP (v:=.n x4) rfl Zbs)];rfl) rfl) ?_))))
        rintro _ _ ⟨_,_,J⟩
        refine ckk hp fun aF hp=>Zaw (J.app (bytes:=8) 4 J.fr rfl (J.sl 5 rfl) rfl rfl (fun _=>rfl) aF (by decide)) ?_
        rintro aq _ ⟨_,aM⟩
        refine Zb aq rfl (Zo (Zat (Zx (Zar (ckk hp fun aG hp=>Zc (zG ah rfl aG) (Zb (.n (x4+1)) rfl (Zo ?_)))))))
        cases hp
        exact ⟨rfl,aq,ab,ai,H,aj,ak,rfl,ae,af,ag,rfl,(aM.pk [0,1,2,3,4])⟩
       ·refine Zc5 (Zat (Zx (Zar (ckk hp fun aH hp=>Zc (zG ah rfl aH) (Zb (.n (x4+1)) rfl (Zo ?_))))))
        cases hp
        exact ⟨rfl,m,ab,ai,H,aj,ak,ac,ae,af,ag,rfl,(i.pk [0,1,2,3,4])⟩
      ·refine ZbU (Zas ?_)
       cases hp
       exact ⟨nofun,rfl,m,N,S,T,O,P,Q,(i.pk [0,1,2,4])⟩
     rintro ⟨met2,part1⟩ hp _ _ _ ⟨rfl,o,a0,a4,a5,a1,a2,a3,I⟩
     refine Zbe (Zx (Zar (Zb _ a4 (Zb _ a1 (Zaw (I.bsl (E:=eV) (l:=[o]) I.fr (by rw [(zP (v:=o) rfl Zbs)];simp only [fill,(I.sl 3 rfl).cells];simp [over]) rfl) ?_)))))
     rintro _ _ ⟨_,_,p⟩
     refine ckk hp fun aI hp=>Zaw (p.appV (bytes:=24) 0 p.fr rfl (p.sl 4 rfl) rfl rfl (by simp only [List.all_cons,List.all_nil,Bool.and_true];exact (p.sl 3 rfl).oneV) (by rw [(p.allLen 1 rfl:(c).length=(l).length)];exact aI) (by decide)) ?_
     rintro ar _ ⟨_,aN⟩
     have aO:=aN.absorb 1 3 rfl rfl (by decide)
     refine Zb ar rfl (Zo (Zat (Zx (Zar (ckk hp fun aD hp=>Zc (zG a3 rfl aD) (Zb (.n (x1+1)) rfl (Zo ?_)))))))
     cases hp
     exact ⟨rfl,ar,c++[o],a0,rfl,a5,a2,rfl,(aO.pk [0,1,2])⟩
   ·refine ZbU (Zas ?_)
    cases hp
    exact ⟨nofun,rfl,d,c,L,(j.pk [0,1])⟩
  rintro l1 hp _ _ _ ⟨rfl,q,F,aZ,aR⟩
  refine Zbe (Zx (Zj (Zb _ aZ (Zb q rfl (Zb (.n 0) rfl (Ze (zR (zf (zj rfl (zj rfl ZF)) ?_))))))))
  cases hp
  exact ⟨q,F,rfl,(aR.pk [0,1])⟩

theorem ZcE.ok {h:Hp}{cells:List Za}{v_cells:V}(s_cells:Sl Zd h v_cells cells) {r:Bool}(hp:ZcE cells=some r) :
  ∃ u k',Is G 32 [v_cells] h u k'∧V.b r=u∧Own (fun r=>r<h.n) h k' []:=by
 refine WC.is (ZaB Zf9 ?_)
 unfold ZcE at hp
 let B:Nat→Prop:=(fun r=>r<h.n)
 have hO:Own B h h []:=Own.start0 h
 refine Zj (Zb (.b false) rfl (Ze (Zj (Zb v_cells rfl ?_))))
 obtain ⟨⟨x,x1⟩,⟨_,j,e,d,l,rfl,i⟩,hp⟩:=bdk hp fun _=>Za9.ok (h:=h)  (hO.rd0 s_cells.rd)
 refine Zan rfl rfl e ?_
 have c:=hO.call i rfl
 refine Zb (.tu [d,.n x1]) rfl (Zc (zM rfl rfl) (Zc (zM rfl rfl) (Zb d rfl (Zb (.n x1) rfl (Ze (Zj (Zb (.n x1) rfl (Zc (ZbZ rfl rfl) (Zb (.b (decide (x1=0))) rfl (Zay 4 (fun f k=>j=k∧f 16=.b ((decide (x1=0))&&(decide ((x.length:Int)=1)))) ?_ ?_))))))))))
 ·rcases bc (decide (x1=0)) with a|a
  ·refine Z6 rfl a (Zb d rfl (Z6 rfl a (Zc (Zgk (n:=(x).length) (c.sl 0 rfl) (c.allLen 1 rfl:(l).length=(x).length) rfl) (Z6 rfl a (Zc (ZbZ rfl rfl) (Zc (Zel rfl a rfl) (Zo ?_)))))))
   exact ⟨rfl,rfl⟩
  ·refine Zs rfl a (Zs rfl a (Zs rfl a (Zc (Zek (w:=(decide (x1=0))&&(decide ((x.length:Int)=1))) rfl a rfl) (Zo ?_))))
   exact ⟨rfl,rfl⟩
 rintro _ _ ⟨rfl,g⟩
 refine Zb _ g (Ze (zR (zf (zj rfl ZF) ?_)))
 cases hp
 exact ⟨rfl,(c.pk [])⟩

theorem Zbl.ok {h:Hp}{d:Zr}{cells:List Za}{v_cells:V}(s_cells:Sl Zd h v_cells cells) {r:Bool}(hp:Zbl d cells=some r) :
  ∃ u k',Is G 220 [.ag (Zl.c d),v_cells] h u k'∧V.b r=u∧Own (fun r=>r<h.n) h k' []:=by
 refine WC.is (ZaB ZeP ?_)
 unfold Zbl at hp
 let B:Nat→Prop:=(fun r=>r<h.n)
 have hO:Own B h h []:=Own.start0 h
 refine Zj (Zaw (hO.boxd (cs:=Zl.c d) hO.fr rfl rfl) ?_)
 rintro _ t ⟨j,rfl,_,_,p⟩
 refine Zb (.b false) rfl (Ze (ZM (ZeS ?_)))
 have i:=p.bump 28
 refine ZX (ZaU (r:=j) (o:=0) rfl rfl) (ZX (Zad (i.box 0 rfl) rfl rfl) (ZX (Zds rfl rfl) (Zaq (.b (decide (0≤d.Cell))) rfl ?_)))
 refine ifk hp (fun e hp=>?_) (fun e hp=>?_)
 ·refine Zcr rfl e (ZX (ZaU (r:=j) (o:=0) rfl rfl) (Zcr rfl e (ZX (Zad (i.box 0 rfl) rfl rfl) (Zcr rfl e (Zaq v_cells rfl (Zcr rfl e (ZX (ZaC (i.rd0 s_cells.rd) rfl) (Zcr rfl e (ZX (zV rfl rfl) (ZX (ZaH (v:=.b (decide (d.Cell<(cells.length:Int)))) rfl e rfl) (Zaq (.b (decide (d.Cell<(cells.length:Int)))) rfl ?_)))))))))))
  refine ifk hp (fun f hp=>?_) (fun f hp=>?_)
  ·refine Zcr rfl f (ZX (ZaU (r:=j) (o:=0) rfl rfl) (Zcr rfl f (ZX (Zad (i.box 0 rfl) rfl rfl) (Zcr rfl f ?_))))
   obtain ⟨x,⟨_,_,m,rfl,s⟩,hp⟩:=bdk hp fun _=>ZaK.ok (h:=(t.bump 28))  
   refine Zhj rfl rfl m ?_
   have g:=i.call s rfl
   refine ZX (ZaH (v:=.b x) rfl f rfl) (Zaq (.b x) rfl ?_)
   refine ifk hp (fun a hp=>?_) (fun a hp=>?_)
   ·refine Zcr rfl a (Zaq v_cells rfl (Zcr rfl a (ZX (ZaU (r:=j) (o:=0) rfl rfl) (Zcr rfl a (ZX (Zad (g.box 0 rfl) rfl rfl) (Zcr rfl a (ZX (ZaU (r:=j) (o:=0) rfl rfl) (Zcr rfl a (ZX (Zad (g.box 0 rfl) rfl rfl) (Zcr rfl a (ckk hp fun k hp=>ZX (ZW (g.rd0 s_cells.rd) rfl rfl k) (Zcr rfl a ?_))))))))))))
    refine ZX (Za6 (g.rd0 s_cells.rd) (Zf k) rfl rfl) (Zcr rfl a (ckk hp fun l hp=>ZX (Zbz (g.rd0 s_cells.rd) (Zf k) rfl rfl l rfl) (Zcr rfl a (ZX (zt (g.rd0 s_cells.rd) rfl (Zf k) (zS l)) (Zcr rfl a (ZX (Zds rfl rfl) (ZX (ZaH (v:=.b (decide (0≤(((gi cells (d.Cell:Int).toNat).Next).get d.Dir)))) rfl a rfl) (Zaq (.b (decide (0≤(((gi cells (d.Cell:Int).toNat).Next).get d.Dir)))) rfl (Zch ?_)))))))))
    refine And.intro ?_ ?_
    ·intro q hq
     simp only [List.mem_cons,List.not_mem_nil,or_false] at hq
     rcases hq with rfl
     ·refine Zak ?_ ?_
      ·exact (fun h=>nomatch h)
      ·exact (fun h=>nomatch h)
    refine Zx (zR (zf (zj rfl ZF) ?_))
    cases hp
    exact ⟨rfl,(g.pk [])⟩
   ·refine Zav rfl a (Zav rfl a (Zav rfl a (Zav rfl a (Zav rfl a (Zav rfl a (Zav rfl a (Zav rfl a (Zav rfl a (Zav rfl a (ZX (Za0 (v:=.b false) rfl a rfl) (Zaq (.b false) rfl (Zch ?_))))))))))))
    refine And.intro ?_ ?_
    ·intro q hq
     simp only [List.mem_cons,List.not_mem_nil,or_false] at hq
     rcases hq with rfl
     ·exact Zle
    refine Zx (zR (zf (zj rfl ZF) ?_))
    cases hp
    exact ⟨rfl,(g.pk [])⟩
  ·refine Zav rfl f (Zav rfl f (Zav rfl f (ZX (Za0 (v:=.b false) rfl f rfl) (Zaq (.b false) rfl (Zav rfl rfl (Zav rfl rfl (Zav rfl rfl (Zav rfl rfl (Zav rfl rfl (Zav rfl rfl (Zav rfl rfl (Zav rfl rfl (Zav rfl rfl ?_)))))))))))))
   refine Zav rfl rfl (ZX (Za0 (v:=.b false) rfl rfl rfl) (Zaq (.b false) rfl (Zch ?_)))
   refine And.intro ?_ ?_
   ·intro q hq
    simp only [List.mem_cons,List.not_mem_nil,or_false] at hq
    rcases hq with rfl
    ·exact Zle
   refine Zx (zR (zf (zj rfl ZF) ?_))
   cases hp
   exact ⟨rfl,(i.pk [])⟩
 ·refine Zav rfl e (Zav rfl e (Zav rfl e (Zav rfl e (Zav rfl e (ZX (Za0 (v:=.b false) rfl e rfl) (Zaq (.b false) rfl (Zav rfl rfl (Zav rfl rfl (Zav rfl rfl (ZX (Za0 (v:=.b false) rfl rfl rfl) (Zaq (.b false) rfl (Zav rfl rfl (Zav rfl rfl ?_)))))))))))))
  refine Zav rfl rfl (Zav rfl rfl (Zav rfl rfl (Zav rfl rfl (Zav rfl rfl (Zav rfl rfl (Zav rfl rfl (Zav rfl rfl (ZX (Za0 (v:=.b false) rfl rfl rfl) (Zaq (.b false) rfl (Zch ?_))))))))))
  refine And.intro ?_ ?_
  ·intro q hq
   simp only [List.mem_cons,List.not_mem_nil,or_false] at hq
   rcases hq with rfl
   ·exact Zle
  refine Zx (zR (zf (zj rfl ZF) ?_))
  cases hp
  exact ⟨rfl,(i.pk [])⟩

theorem zT.ok {h:Hp}{d:Zr}{cells:List Za}{v_cells:V}(s_cells:Sl Zd h v_cells cells) {r:Zr}(hp:zT d cells=some r) :
  ∃ u k',Is G 221 [.ag (Zl.c d),v_cells] h u k'∧V.ag (Zl.c r)=u∧Own (fun r=>r<h.n) h k' []:=by
 refine WC.is (ZaB ZdS ?_)
 unfold zT at hp
 let B:Nat→Prop:=(fun r=>r<h.n)
 have hO:Own B h h []:=Own.start0 h
 refine Zj (Zaw (hO.boxd (cs:=Zl.c d) hO.fr rfl rfl) ?_)
 rintro _ _ ⟨b,rfl,_,_,D⟩
 refine Zaw (D.alloc (cs:=Zl.c (⟨0,0⟩:Zr)) D.fr) ?_
 rintro _ _ ⟨f,rfl,_,_,Q⟩
 refine Ze (ZM (Zh2 ?_))
 have a:=Q.bump 10
 refine Zac v_cells rfl (ZG rfl (ZaU (r:=b) (o:=0) rfl rfl) (ZG rfl (Zad (a.box 0 rfl) rfl rfl) (ZG rfl (ZaU (r:=b) (o:=0) rfl rfl) (ZG rfl (Zad (a.box 0 rfl) rfl rfl) (ckk hp fun i hp=>ZG rfl (ZW (a.rd0 s_cells.rd) rfl rfl i) (ZG rfl (Za6 (a.rd0 s_cells.rd) (Zf i) rfl rfl) (ckk hp fun y hp=>ZG rfl (Zbz (a.rd0 s_cells.rd) (Zf i) rfl rfl y rfl) (ZG rfl (zt (a.rd0 s_cells.rd) rfl (Zf i) (zS y)) (Zac (.n (((gi cells (d.Cell:Int).toNat).Next).get d.Dir)) rfl (Zal (Zx ?_)))))))))))
 refine ZM (Zj (Zc (ZcA (cs:=Zc8.c (⟨1,0,(-1),2⟩:A4 Int)) (by rw [(zP (v:=.n 1) rfl (zP (v:=.n 0) rfl (zP (v:=.n (-1)) rfl (zP (v:=.n 2) rfl Zbs))))];rfl)) (Zb (.n 0) rfl (Ze (Za2 (Zci hp (fun x fr k=>fr 1=v_cells∧fr 2=.p b 0∧fr 4=.p f 0∧fr 5=.n (((gi cells (d.Cell:Int).toNat).Next).get d.Dir)∧fr 18=.ag (Zc8.c (⟨1,0,(-1),2⟩:A4 Int))∧fr 19=.n x∧Own B h k [ZaF b (Zl.c d),ZaF f (Zl.c (⟨0,0⟩:Zr))]) (fun|.inl _,e,fr,k=>e=(.exit 0)∧fr 2=.p b 0∧fr 4=.p f 0∧Own B h k [ZaF b (Zl.c d),ZaF f (Zl.c (⟨0,0⟩:Zr))]|.inr x1,e,fr,k=>e=.ret∧fr 4=.p f 0∧Own B h k [ZaF f (Zl.c x1)]) ⟨rfl,rfl,rfl,rfl,rfl,rfl,(a.pk [0,1])⟩ ?_ ?_))))))
 ·rintro x _ U ⟨H,w,l,J,I,t,m⟩ _ hp
  dsimp only [zT.s0] at hp
  refine Zj (Zc (zV t rfl) (Ze (ZM (zD hp rfl (fun K hp=>?_) (fun K hp=>?_)))))
  ·refine Za3 (ZM (Za2 (Zj (ckk hp fun A hp=>Zc (Zqr (cs:=Zc8.c (⟨1,0,(-1),2⟩:A4 Int)) (z:=x) (v:=.n ((⟨1,0,(-1),2⟩:A4 Int).get x)) I t A (Zi2 A)) (Zb (.n ((⟨1,0,(-1),2⟩:A4 Int).get x)) rfl (Ze (Zj (Zb _ J ?_))))))))
   refine Zc (ZaU (r:=b) (o:=0) w rfl) (Zc (Zad (m.box 0 rfl) rfl rfl) (Zb (.n ((⟨1,0,(-1),2⟩:A4 Int).get x)) rfl ?_))
   obtain ⟨x2,⟨_,_,N,rfl,S⟩,hp⟩:=bdk hp fun _=>ZaL.ok (h:=U)  
   refine Zan rfl rfl N ?_
   have F:=m.call S rfl
   refine Zc (ZcA (cs:=Zl.c (⟨((gi cells (d.Cell:Int).toNat).Next).get d.Dir,x2⟩:Zr)) (by rw [(zP (v:=.n (((gi cells (d.Cell:Int).toNat).Next).get d.Dir)) rfl (zP (v:=.n x2) rfl Zbs))];rfl)) (Zaw (F.alloc (cs:=Zl.c (⟨0,0⟩:Zr)) F.fr) ?_)
   rintro _ _ ⟨_,rfl,_,_,R⟩
   refine Zaw (R.stb (cs':=Zl.c (⟨((gi cells (d.Cell:Int).toNat).Next).get d.Dir,x2⟩:Zr)) 2 rfl rfl rfl rfl ⟨rfl,Nat.le_of_ble_eq_true rfl,rfl⟩ rfl) ?_
   rintro _ W ⟨rfl,_,_,q⟩
   refine Ze (Zj (Zc (Zca (q.box 2 rfl) rfl rfl) (Zb _ H ?_)))
   obtain ⟨x3,⟨_,_,O,rfl,T⟩,hp⟩:=bdk hp fun _=>Zbl.ok (h:=W)  (q.rd0 s_cells.rd)
   refine Zan rfl rfl O ?_
   have s:=q.call T rfl
   refine Ze (zD hp rfl (fun L hp=>?_) (fun L hp=>?_))
   ·refine Zj (Zc (Zca (s.box 2 rfl) rfl rfl) (Zaw (s.stb (cs':=Zl.c (⟨((gi cells (d.Cell:Int).toNat).Next).get d.Dir,x2⟩:Zr)) 1 rfl l rfl rfl ⟨rfl,Nat.le_of_ble_eq_true rfl,rfl⟩ rfl) ?_))
    rintro _ _ ⟨rfl,_,_,P⟩
    refine Ze (zR (Zbt (zl ?_)))
    cases hp
    exact ⟨nofun,rfl,l,(P.pk [1])⟩
   ·refine Zc5 (Zat (Zx (Zar (ckk hp fun M hp=>Zc (zG t rfl M) (Zb (.n (x+1)) rfl (Zo ?_))))))
    cases hp
    exact ⟨rfl,H,w,l,J,I,rfl,(s.pk [0,1])⟩
  ·refine ZbU (Zas ?_)
   cases hp
   exact ⟨nofun,rfl,w,l,(m.pk [0,1])⟩
 rintro (_|x1) hp _ _ _ C
 ·obtain ⟨rfl,X,j,g⟩:=C
  refine Zbe (Zx (Zj (Zc (Zca (g.box 0 rfl) X rfl) (Zaw (g.stb (cs':=Zl.c d) 1 rfl j rfl rfl ⟨rfl,Nat.le_of_ble_eq_true rfl,rfl⟩ rfl) ?_))))
  rintro _ _ ⟨rfl,_,_,E⟩
  refine Ze (zR (zf (Zjz j (E.box 1 rfl) rfl ZF) ?_))
  cases hp
  exact ⟨rfl,(E.pk [])⟩
 ·obtain ⟨rfl,j,g⟩:=C
  refine Zbt (zl (zf (Zjz j (g.box 0 rfl) rfl ZF) ?_))
  cases hp
  exact ⟨rfl,(g.pk [])⟩

theorem zw.ok {h:Hp}{cells:List Za}{v_cells:V}(s_cells:Sl Zd h v_cells cells) {r:(List (List Zr))×Int}(hp:zw cells=some r) :
  ∃ u k',Is G 203 [v_cells] h u k'∧∃ az aC,V.tu [az,.n r.2]=u∧Own (fun r=>r<h.n) h k' [eSl eV az aC,Zcy Zl aC r.1]:=by
 refine WC.is (ZaB Zf3 ?_)
 unfold zw at hp
 let B:Nat→Prop:=(fun r=>r<h.n)
 have hO:Own B h h []:=Own.start0 h
 refine Zj (Zb (.sn) rfl (Zb (.n 0) rfl (Ze (ZM (Zj (Zb v_cells rfl ?_))))))
 obtain ⟨x,⟨_,_,aN,rfl,a7⟩,hp⟩:=bdk hp fun _=>z9.ok (h:=h)  (hO.rd0 s_cells.rd)
 refine Zan rfl rfl aN ?_
 have O:=hO.call a7 rfl
 refine Zb (.n x) rfl (Ze (Zj (Zb (.n x) rfl (Zc (Zcv rfl rfl) (Ze (zD hp rfl (fun aD hp=>?_) (fun aD hp=>?_)))))))
 ·refine Zj (Zb (.n x) rfl (Zb (.sn) rfl (Zb (.n x) rfl (Ze (zR (zl ?_))))))
  have aW:=O.nil eV
  have a2:=aW.allNil Zl 0
  refine zf (zj rfl (zj rfl ZF)) ?_
  cases hp
  exact ⟨V.sn,[],rfl,(a2.pk [0,1])⟩
 ·refine Za3 (Zj (Zb (.sn) rfl (Ze (Zj (Zaw (O.mkm Zl O.fr) ?_)))))
  rintro _ _ ⟨a,rfl,_,_,an⟩
  refine Zb (.mp a) rfl (Ze (ZM (Zj (Zb v_cells rfl (Zc (ZaC (an.rd0 s_cells.rd) rfl) (Zb (.n 0) rfl (Ze (Za2 ?_))))))))
  have a4:=an.nil eV
  have a5:=a4.allNil Zl 0
  refine Zci hp (fun|(l,met,x1),fr,k=>∃ y C,fr 0=v_cells∧fr 5=y∧fr 6=.mp a∧fr 19=.n (cells.length:Int)∧fr 20=.n x1∧Own B h k [eSl eV y C,Zcy Zl C l,eMp Zl a met]) (fun l1 e fr k=>e=(.exit 0)∧∃ A M,fr 5=A∧Own B h k [eSl eV A M,Zcy Zl M l1]) ⟨V.sn,[],rfl,rfl,rfl,rfl,rfl,(a5.pk [1,2,0])⟩ ?_ ?_
  ·rintro ⟨l,met,x1⟩ _ _ ⟨y,C,bf,aq,bg,ap,X,ao⟩ _ hp
   dsimp only [zw.s0] at hp
   refine Zj (Zc (zV X ap) (Ze (ZM (zD hp rfl (fun aE hp=>?_) (fun aE hp=>?_)))))
   ·refine Za3 (ZM (Za2 (Zj (Zb _ X (Zb (.n x1) rfl (Ze (Zj (Zb (.n 0) rfl (Zo ?_)))))))))
    refine Zx (Za2 (Zci hp (fun|(l2,met1,x2),fr,k=>∃ g d,fr 0=v_cells∧fr 5=g∧fr 6=.mp a∧fr 7=.n x1∧fr 19=.n (cells.length:Int)∧fr 20=.n x1∧fr 23=.n x2∧Own B h k [eSl eV g d,Zcy Zl d l2,eMp Zl a met1]) (fun|(l3,met2),e,fr,k=>e=(.exit 2)∧∃ K N,fr 0=v_cells∧fr 5=K∧fr 6=.mp a∧fr 19=.n (cells.length:Int)∧fr 20=.n x1∧Own B h k [eSl eV K N,Zcy Zl N l3,eMp Zl a met2]) ⟨y,C,bf,aq,bg,rfl,ap,X,rfl,(ao.pk [0,1,2])⟩ ?_ ?_))
    ·rintro ⟨l2,met1,x2⟩ _ _ ⟨g,d,D,ab,H,ac,Y,aa,F,P⟩ _ hp
     dsimp only [zw.s1] at hp
     refine Zj (Zc (zV F rfl) (Ze (ZM (zD hp rfl (fun aF hp=>?_) (fun aF hp=>?_)))))
     ·refine Za3 (ZM (Za2 (Zj (Zb _ F (Zb (.n x2) rfl (Ze (Zj (Zb _ ac (Zb (.n x2) rfl ?_)))))))))
      refine Zc (ZcA (cs:=Zl.c (⟨x1,x2⟩:Zr)) (by rw [(zP (v:=.n x1) rfl (zP (v:=.n x2) rfl Zbs))];rfl)) (Zaw (P.alloc (cs:=Zl.c (⟨0,0⟩:Zr)) P.fr) ?_)
      rintro _ _ ⟨bu,rfl,_,_,aS⟩
      refine Zaw (aS.stb (cs':=Zl.c (⟨x1,x2⟩:Zr)) 3 rfl rfl rfl rfl ⟨rfl,Nat.le_of_ble_eq_true rfl,rfl⟩ rfl) ?_
      rintro _ bb ⟨rfl,_,_,Q⟩
      refine Ze (ZM (Zj (Zc (Zca (Q.box 3 rfl) rfl rfl) (Zb _ D ?_))))
      obtain ⟨x3,⟨_,bd,aO,rfl,a8⟩,hp⟩:=bdk hp fun _=>Zbl.ok (h:=bb)  (Q.rd0 s_cells.rd)
      refine Zan rfl rfl aO ?_
      have j:=Q.call a8 rfl
      refine Zc (Zcl rfl) (Zb (.b (!x3)) rfl (Zay 4 (fun f k=>bd=k∧f 37=.b ((!x3)||(Zf0 false (⟨x1,x2⟩:Zr) met1))∧f 0=v_cells∧f 19=.n (cells.length:Int)∧f 20=.n x1∧f 23=.n x2∧f 5=g∧f 6=.mp a∧f 7=.n x1∧f 9=.p bu 0) ?_ ?_))
      ·rcases bc (!x3) with i|i
       ·refine Zs rfl i (Zs rfl i (Zs rfl i (Zc (Zc6 (w:=(!x3)||(Zf0 false (⟨x1,x2⟩:Zr) met1)) rfl i rfl) (Zo ?_))))
        exact ⟨rfl,rfl,D,Y,aa,F,ab,H,ac,rfl⟩
       ·refine Z6 rfl i (Zb _ H (Z6 rfl i (Zc (Zca (j.box 3 rfl) rfl rfl) (Z6 rfl i (Zc (Zo5 (E:=Zl) (m:=met1) (q:=(⟨x1,x2⟩:Zr)) (j.mpP 2 rfl) rfl rfl (Mu.Zl.same)) (Zc (Zc7 rfl i rfl) (Zo ?_)))))))
        exact ⟨rfl,rfl,D,Y,aa,F,ab,H,ac,rfl⟩
      rintro _ _ ⟨rfl,aQ,af,ah,ai,aj,ak,al,am,aR⟩
      refine Ze (zD hp aQ (fun aG hp=>?_) (fun aG hp=>?_))
      ·refine ZbU (Zas (Zbe (Zx (Zar (ckk hp fun aI hp=>Zc (zG aj rfl aI) (Zb (.n (x2+1)) rfl (Zo ?_)))))))
       cases hp
       exact ⟨rfl,g,d,af,ak,al,am,ah,ai,rfl,(j.pk [0,1,2])⟩
      ·refine Za3 (Zj (Zb (.sn) rfl (Ze (ZM (Zj (Zc (Zca (j.box 3 rfl) aR rfl) (Zaw (j.alloc (cs:=Zl.c (⟨0,0⟩:Zr)) j.fr) ?_)))))))
       rintro _ _ ⟨bv,rfl,_,_,aT⟩
       refine Zaw (aT.stb (cs':=Zl.c (⟨x1,x2⟩:Zr)) 4 rfl rfl rfl rfl ⟨rfl,Nat.le_of_ble_eq_true rfl,rfl⟩ rfl) ?_
       rintro _ _ ⟨rfl,_,_,aU⟩
       refine Ze (Za2 ?_)
       have aV:=aU.nil Zl
       refine Zci hp (fun|(met3,f,x4),fr,k=>∃ L ae,fr 0=v_cells∧fr 5=g∧fr 6=.mp a∧fr 7=.n x1∧fr 10=L∧fr 11=.p ae 0∧fr 19=.n (cells.length:Int)∧fr 20=.n x1∧fr 23=.n x2∧Own B h k [eSl eV g d,Zcy Zl d l2,eMp Zl a met3,eSl Zl L f,ZaF ae (Zl.c x4)]) (fun|(met4,f1),e,fr,k=>e=(.exit 4)∧∃ o,fr 0=v_cells∧fr 5=g∧fr 6=.mp a∧fr 7=.n x1∧fr 10=o∧fr 19=.n (cells.length:Int)∧fr 20=.n x1∧fr 23=.n x2∧Own B h k [eSl eV g d,Zcy Zl d l2,eMp Zl a met4,eSl Zl o f1]) ⟨V.sn,bv,af,ak,al,am,rfl,rfl,ah,ai,aj,(aV.pk [0,1,2,5,4])⟩ ?_ ?_
       ·rintro ⟨met3,f,x4⟩ _ _ ⟨L,ae,ad,ax,J,ay,ar,I,au,av,aw,s⟩ _ hp
        dsimp only [zw.s2] at hp
        refine ZM (Zj (Zb _ J (Zc (Zca (s.box 4 rfl) I rfl) (Zc (Zo5 (E:=Zl) (m:=met3) (q:=x4) (s.mpP 2 rfl) rfl rfl (Mu.Zl.same)) (Zc (Zcl rfl) (Ze (zD hp rfl (fun aH hp=>?_) (fun aH hp=>?_))))))))
        ·refine Za3 (ZM (Za2 (Zj (Zb _ J (Zc (Zca (s.box 4 rfl) I rfl) (Zaw (s.mup (E:=Zl) (m:=met3) (q:=x4) (v:=true) 2 rfl rfl rfl rfl (Mu.Zl.same)) ?_))))))
         rintro _ _ ⟨rfl,_,_,S⟩
         refine Ze (Zar (Zb _ ar (Zc (Zca (S.box 4 rfl) I rfl) (Zaw (S.bsl (E:=Zl) (l:=[x4]) S.fr (by rw [(zP (v:=.ag (Zl.c x4)) rfl Zbs)];rfl) rfl) ?_))))
         rintro _ _ ⟨_,_,T⟩
         refine ckk hp fun aJ hp=>Zaw (T.app (bytes:=16) 3 T.fr rfl (T.sl 5 rfl) rfl rfl (fun _=>rfl) aJ (by decide)) ?_
         rintro aB _ ⟨_,U⟩
         refine Zb aB rfl (Zo (Zat (Zx (ZM (Zj (Zc (Zca (U.box 4 rfl) I rfl) (Ze (Zar (Zaw (U.alloc (cs:=Zl.c (⟨0,0⟩:Zr)) U.fr) ?_)))))))))
         rintro _ _ ⟨bw,rfl,_,_,aX⟩
         refine Zaw (aX.stb (cs':=Zl.c x4) 6 rfl rfl rfl rfl ⟨rfl,Nat.le_of_ble_eq_true rfl,rfl⟩ rfl) ?_
         rintro _ ba ⟨rfl,_,_,W⟩
         refine Ze (Zar (Zc (Zca (W.box 6 rfl) rfl rfl) (Zb _ ad ?_)))
         obtain ⟨x5,⟨_,_,aP,rfl,a9⟩,hp⟩:=bdk hp fun _=>zT.ok (h:=ba)  (W.rd0 s_cells.rd)
         refine Zan rfl rfl aP ?_
         have aY:=W.call a9 rfl
         refine Zaw (aY.stb (cs':=Zl.c x5) 6 rfl rfl rfl rfl ⟨rfl,Nat.le_of_ble_eq_true rfl,rfl⟩ rfl) ?_
         rintro _ _ ⟨rfl,_,_,aZ⟩
         refine Zo ?_
         cases hp
         exact ⟨rfl,aB,bw,ad,ax,J,ay,rfl,rfl,au,av,aw,(aZ.pk [0,1,2,3,6])⟩
        ·refine ZbU (Zas ?_)
         cases hp
         exact ⟨nofun,rfl,L,ad,ax,J,ay,ar,au,av,aw,(s.pk [0,1,2,3])⟩
       rintro ⟨met4,f1⟩ hp _ _ _ ⟨rfl,o,bm,br,bs,bt,bn,bo,bp,bq,R⟩
       refine Zbe (Zx (Zar (Zb _ br (Zb _ bn (Zaw (R.bsl (E:=eV) (l:=[o]) R.fr (by rw [(zP (v:=o) rfl Zbs)];simp only [fill,(R.sl 3 rfl).cells];simp [over]) rfl) ?_)))))
       rintro _ _ ⟨_,_,t⟩
       refine ckk hp fun aK hp=>Zaw (t.appV (bytes:=24) 0 t.fr rfl (t.sl 4 rfl) rfl rfl (by simp only [List.all_cons,List.all_nil,Bool.and_true];exact (t.sl 3 rfl).oneV) (by rw [(t.allLen 1 rfl:(d).length=(l2).length)];exact aK) (by decide)) ?_
       rintro aA _ ⟨_,a0⟩
       have a1:=a0.absorb 1 3 rfl rfl (by decide)
       refine Zb aA rfl (Zo (Zat (Zx (Zar (ckk hp fun aL hp=>Zc (zG bq rfl aL) (Zb (.n (x2+1)) rfl (Zo ?_)))))))
       cases hp
       exact ⟨rfl,aA,d++[o],bm,rfl,bs,bt,bo,bp,rfl,(a1.pk [0,1,2])⟩
     ·refine ZbU (Zas ?_)
      cases hp
      exact ⟨nofun,rfl,g,d,D,ab,H,Y,aa,(P.pk [0,1,2])⟩
    rintro ⟨l3,met2⟩ hp _ _ _ ⟨rfl,K,N,bh,bk,bl,bi,bj,a6⟩
    refine Zbe (Zat (Zx (Zar (ckk hp fun aM hp=>Zc (zG bj rfl aM) (Zb (.n (x1+1)) rfl (Zo ?_))))))
    cases hp
    exact ⟨rfl,K,N,bh,bk,bl,bi,rfl,(a6.pk [0,1,2])⟩
   ·refine ZbU (Zas ?_)
    cases hp
    exact ⟨nofun,rfl,y,C,aq,(ao.pk [0,1])⟩
  rintro l1 hp _ _ _ ⟨rfl,A,M,be,a3⟩
  refine Zbe (Zx (Zj (Zb _ be (Zb A rfl (Zb (.n 0) rfl (Ze (zR (zf (zj rfl (zj rfl ZF)) ?_))))))))
  cases hp
  exact ⟨A,M,rfl,(a3.pk [0,1])⟩

theorem Zco.ok {h:Hp}{d:Int}{e_:Int}   {r:Int}(hp:Zco d e_=some r) :
  ∃ u k',Is G 222 [.n d,.n e_] h u k'∧V.n r=u∧Own (fun r=>r<h.n) h k' []:=by
 refine WC.is (ZaB ZeO ?_)
 unfold Zco at hp
 let B:Nat→Prop:=(fun r=>r<h.n)
 have hO:Own B h h []:=Own.start0 h
 refine Zj (Zb (.n 0) rfl (Ze (ZM (Zj (Zb (.n d) rfl ?_)))))
 obtain ⟨x,⟨_,E,o,rfl,A⟩,hp⟩:=bdk hp fun _=>ZaK.ok (h:=h)  
 refine Zan rfl rfl o ?_
 have g:=hO.call A rfl
 refine Zc (Zcl rfl) (Zb (.b (!x)) rfl ?_)
 obtain ⟨t,D,hp⟩:=Za7 hp
 refine Zay 4 (fun f k=>Own B h k []∧f 12=.b t∧f 0=.n d∧f 1=.n e_) ?_ ?_
 ·clear hp;rcases ZaW D with ⟨a,hp⟩|⟨a,hp⟩
  ·refine Zs rfl a (Zs rfl a (Zs rfl a (Zc (ZaH (v:=.b t) rfl a (Eq.trans (b:=V.b true) rfl (congrArg V.b (Option.some.inj hp)))) (Zo ?_))))
   exact ⟨g.pk [],rfl,rfl,rfl⟩
  ·refine Z6 rfl a (Zb (.n e_) rfl (Z6 rfl a ?_))
   obtain ⟨x1,⟨_,_,p,rfl,C⟩,hp⟩:=bdk hp fun _=>ZaK.ok (h:=E)  
   refine Zan rfl rfl p ?_
   have y:=g.call C rfl
   refine Z6 rfl a (Zc (Zcl rfl) (Zc (Za0 (v:=.b t) rfl a (Eq.trans (b:=V.b (!x1)) rfl (congrArg V.b (Option.some.inj hp)))) (Zo ?_)))
   exact ⟨y.pk [],rfl,rfl,rfl⟩
 rintro _ _ ⟨i,w,q,s⟩
 refine Ze (zD hp w (fun j hp=>?_) (fun j hp=>?_))
 ·refine Zj (Zb (.n 0) rfl (Ze (zR (zl (zf (zj rfl ZF) ?_)))))
  cases hp
  exact ⟨rfl,(i.pk [])⟩
 ·refine Za3 (Zj (Zc (ZcA (cs:=Zc8.c (⟨0,1,(-2),(-1)⟩:A4 Int)) (by rw [(zP (v:=.n 0) rfl (zP (v:=.n 1) rfl (zP (v:=.n (-2)) rfl (zP (v:=.n (-1)) rfl Zbs))))];rfl)) (Zb _ s (Zb _ q (ckk hp fun l hp=>Zc (Zmb rfl rfl l) (ckk hp fun m hp=>Zc (zG rfl rfl m) (Zc (ZeF rfl rfl (by decide)) (ckk hp fun e hp=>Zc (Zqr (cs:=Zc8.c (⟨0,1,(-2),(-1)⟩:A4 Int)) (z:=(((e_-d)+4).tmod 4)) (v:=.n ((⟨0,1,(-2),(-1)⟩:A4 Int).get (((e_-d)+4).tmod 4))) rfl rfl e (Zi2 e)) ?_))))))))
  refine Zb (.n ((⟨0,1,(-2),(-1)⟩:A4 Int).get (((e_-d)+4).tmod 4))) rfl (Ze (zR (zf (zj rfl ZF) ?_)))
  cases hp
  exact ⟨rfl,(i.pk [])⟩

theorem Za8.ok {h:Hp}{cells:List Za}{f:List Zr}{v_cells:V}{v_f:V}(s_cells:Sl Zd h v_cells cells) (s_f:Sl Zl h v_f f) {r:(List Int)}(hp:Za8 cells f=some r) :
  ∃ u k',Is G 204 [v_cells,v_f] h u k'∧∃ J,J=u∧Own (fun r=>r<h.n) h k' [eSl zo J r]:=by
 refine WC.is (ZaB Zf4 ?_)
 unfold Za8 at hp
 let B:Nat→Prop:=(fun r=>r<h.n)
 have hO:Own B h h []:=Own.start0 h
 refine Zj (Zb (.sn) rfl (Ze (Zj (Zb v_f rfl (Zc (ZaC (hO.rd0 s_f.rd) rfl) (ckk hp fun N hp=>Zaw (hO.mks (E:=zo) (y:=(0:Int)) (bytes:=8) (z:=(f.length:Int)) hO.fr rfl rfl rfl N (by decide)) ?_))))))
 rintro a ae ⟨_,_,D⟩
 refine Zb a rfl (Ze (ZM (Zj (Zb v_cells rfl ?_))))
 obtain ⟨x,⟨_,_,Q,rfl,ab⟩,hp⟩:=bdk hp fun _=>z9.ok (h:=ae)  (D.rd0 s_cells.rd)
 refine Zan rfl rfl Q ?_
 have m:=D.call ab rfl
 refine Zc (Zcv rfl rfl) (Ze (zD hp rfl (fun K hp=>?_) (fun K hp=>?_)))
 ·refine Zj (Zb a rfl (Zb a rfl (Ze (zR (zl (zf (zj rfl ZF) ?_))))))
  cases hp
  exact ⟨a,rfl,(m.pk [0])⟩
 ·refine Za3 (ZM (Zj (Zb v_f rfl (Zc (ZaC (m.rd0 s_f.rd) rfl) (Zb (.n 0) rfl (Ze (Za2 (Zci hp (fun|(l,x1),fr,k=>fr 0=v_cells∧fr 5=a∧fr 15=v_f∧fr 16=.n (f.length:Int)∧fr 17=.n x1∧Own B h k [eSl zo a l]) (fun l1 e fr k=>e=(.exit 0)∧fr 5=a∧Own B h k [eSl zo a l1]) ⟨rfl,rfl,rfl,rfl,rfl,(m.pk [0])⟩ ?_ ?_))))))))
  ·rintro ⟨l,x1⟩ _ _ ⟨i,j,t,w,d,b⟩ _ hp
   dsimp only [Za8.s0] at hp
   refine Zj (Zc (zV d w) (Ze (ZM (zD hp rfl (fun L hp=>?_) (fun L hp=>?_)))))
   ·refine Za3 (ZM (Za2 (Zj (Zb _ d (ckk hp fun A hp=>Zc (ZW (b.rd0 s_f.rd) t d A) (Zc (ZeV (b.rd0 s_f.rd) rfl (Zf A)) (Zaw (b.alloc (cs:=Zl.c (⟨0,0⟩:Zr)) b.fr) ?_)))))))
    rintro _ _ ⟨ai,rfl,_,_,Y⟩
    refine Zb (.n x1) rfl (Zaw (Y.stb (cs':=Zl.c (gi f x1.toNat)) 1 rfl rfl rfl rfl ⟨rfl,Nat.le_of_ble_eq_true rfl,rfl⟩ rfl) ?_)
    rintro _ af ⟨rfl,_,_,p⟩
    refine Ze (Zj (Zc (Zca (p.box 1 rfl) rfl rfl) (Zb _ i ?_)))
    obtain ⟨x2,⟨_,I,R,rfl,ac⟩,hp⟩:=bdk hp fun _=>Zbl.ok (h:=af)  (p.rd0 s_cells.rd)
    refine Zan rfl rfl R ?_
    have s:=p.call ac rfl
    refine Ze (zD hp rfl (fun M hp=>?_) (fun M hp=>?_))
    ·refine ZeS ?_
     have g:=s.bump 11
     have U:=Fresh.start I 11
     refine Zaq _ j (Zaq (.n x1) rfl (ZX (ZaU (r:=ai) (o:=0) rfl rfl) (ZX (Zad (g.box 1 rfl) rfl rfl) (ZX (Zca (g.box 1 rfl) rfl rfl) (Zaq _ i ?_)))))
     obtain ⟨x3,⟨_,ag,S,rfl,H⟩,hp⟩:=bdk hp fun _=>zT.ok (h:=(I.bump 11))  (g.rd0 s_cells.rd)
     refine Zhj rfl rfl S ?_
     have aa:=g.call H rfl
     refine ZX (Zqq (cs:=Zl.c x3) (v:=.n x3.Dir) rfl rfl) ?_
     obtain ⟨x4,⟨_,_,T,rfl,ad⟩,hp⟩:=bdk hp fun _=>Zco.ok (h:=ag)  
     refine Zhj rfl rfl T ?_
     have F:=aa.call ad rfl
     refine ckk hp fun C hp=>ZX (ZW (F.sl 0 rfl) rfl rfl C) (Zdf (F.ste (y:=x4) 0 rfl rfl (Zf C) rfl rfl ⟨rfl,Nat.le_of_ble_eq_true rfl,rfl⟩ rfl) ?_)
     rintro _ _ _ ⟨rfl,_,_,W⟩
     refine Zch ?_
     refine And.intro ?_ ?_
     ·intro q hq
      simp only [List.mem_cons,List.not_mem_nil,or_false] at hq
      rcases hq with rfl|rfl
      ·refine Zak ?_ ?_
       ·exact (fun h=>nomatch h)
       ·exact (fun h=>nomatch h)
      ·refine Zml rfl rfl ?_
       ·exact (fun r hm hc=>hc (H.base r (Nat.lt_of_lt_of_le (s.ltAt 1 rfl _ (tch (ZbS hm) rfl)) (Nat.le_trans (Nat.le_add_right _ _) U.n))))
     refine Zat (Zx (Zar (ckk hp fun O hp=>Zc (zG d rfl O) (Zb (.n (x1+1)) rfl (Zo ?_)))))
     cases hp
     exact ⟨rfl,i,j,t,w,rfl,(W.pk [0])⟩
    ·refine Zc5 (Zat (Zx (Zar (ckk hp fun P hp=>Zc (zG d rfl P) (Zb (.n (x1+1)) rfl (Zo ?_))))))
     cases hp
     exact ⟨rfl,i,j,t,w,rfl,(s.pk [0])⟩
   ·refine ZbU (Zas ?_)
    cases hp
    exact ⟨nofun,rfl,j,(b.pk [0])⟩
  rintro l1 hp _ _ _ ⟨rfl,ah,X⟩
  refine Zbe (Zx (Zj (Zb _ ah (Zb a rfl (Ze (zR (zf (zj rfl ZF) ?_)))))))
  cases hp
  exact ⟨a,rfl,(X.pk [0])⟩

theorem ZaX.ok {h:Hp}{turns:List Int}{v_turns:V}(s_turns:Sl zo h v_turns turns) {r:Int}(hp:ZaX turns=some r) :
  ∃ u k',Is G 219 [v_turns] h u k'∧V.n r=u∧Own (fun r=>r<h.n) h k' []:=by
 refine WC.is (ZaB Ze9 ?_)
 unfold ZaX at hp
 let B:Nat→Prop:=(fun r=>r<h.n)
 have hO:Own B h h []:=Own.start0 h
 refine Zj (Zb (.n 0) rfl (Ze (Zj (Zb (.n 0) rfl (Ze (ZM (Zj (Zb v_turns rfl ?_))))))))
 refine Zc (ZaC (hO.rd0 s_turns.rd) rfl) (Zb (.n 0) rfl (Ze (Za2 (Zci hp (fun|(n,x),fr,k=>fr 3=.n n∧fr 6=v_turns∧fr 7=.n (turns.length:Int)∧fr 8=.n x∧Own B h k []) (fun n1 e fr k=>e=(.exit 0)∧fr 3=.n n1∧Own B h k []) ⟨rfl,rfl,rfl,rfl,(hO.pk [])⟩ ?_ ?_))))
 ·rintro ⟨n,x⟩ _ F ⟨g,i,j,d,c⟩ _ hp
  dsimp only [ZaX.s0] at hp
  refine Zj (Zc (zV d j) (Ze (ZM (zD hp rfl (fun s hp=>?_) (fun s hp=>?_)))))
  ·refine Za3 (ZM (Za2 (Zj (ckk hp fun l hp=>Zc (ZW (c.rd0 s_turns.rd) i d l) (Zc (zt (c.rd0 s_turns.rd) rfl (Zf l) rfl) (Zb (.n (gi turns x.toNat)) rfl (Ze (Zj ?_))))))))
   refine Zb (.n (gi turns x.toNat)) rfl (Zc (Zds rfl rfl) (Zb (.b (decide ((-2)≤(gi turns x.toNat)))) rfl (Zay 3 (fun f k=>F=k∧f 17=.b ((decide ((-2)≤(gi turns x.toNat)))&&(decide ((gi turns x.toNat)≤1)))∧f 3=.n n∧f 5=.n (gi turns x.toNat)∧f 6=v_turns∧f 7=.n (turns.length:Int)∧f 8=.n x) ?_ ?_)))
   ·rcases bc (decide ((-2)≤(gi turns x.toNat))) with a|a
    ·refine Z6 rfl a (Zb (.n (gi turns x.toNat)) rfl (Z6 rfl a (Zc (Zh3 rfl rfl) (Zc (Zel rfl a rfl) (Zo ?_)))))
     exact ⟨rfl,rfl,g,rfl,i,j,d⟩
    ·refine Zs rfl a (Zs rfl a (Zc (Zek (w:=(decide ((-2)≤(gi turns x.toNat)))&&(decide ((gi turns x.toNat)≤1))) rfl a rfl) (Zo ?_)))
     exact ⟨rfl,rfl,g,rfl,i,j,d⟩
   rintro _ _ ⟨rfl,C,m,D,o,p,q⟩
   refine Ze (zD hp C (fun t hp=>?_) (fun t hp=>?_))
   ·refine Zar (Zb _ m (Zb _ D (ckk hp fun v hp=>Zc (zG rfl rfl v) (Zb (.n (n+(gi turns x.toNat))) rfl (Zo (Zat (Zx (Zar (ckk hp fun y hp=>Zc (zG q rfl y) (Zb (.n (x+1)) rfl (Zo ?_)))))))))))
    cases hp
    exact ⟨rfl,rfl,o,p,rfl,(c.pk [])⟩
   ·refine Zc5 (Zat (Zx (Zar (ckk hp fun A hp=>Zc (zG q rfl A) (Zb (.n (x+1)) rfl (Zo ?_))))))
    cases hp
    exact ⟨rfl,m,o,p,rfl,(c.pk [])⟩
  ·refine ZbU (Zas ?_)
   cases hp
   exact ⟨nofun,rfl,g,(c.pk [])⟩
 rintro n1 hp _ _ _ ⟨rfl,H,E⟩
 refine Zbe (Zx (Zj (Zb _ H (Zb (.n n1) rfl (Ze (zR (zf (zj rfl ZF) ?_)))))))
 cases hp
 exact ⟨rfl,(E.pk [])⟩

theorem ZaT.ok {h:Hp}{cells:List Za}{v_cells:V}(s_cells:Sl Zd h v_cells cells) {r:Int×Bool}(hp:ZaT cells=some r) :
  ∃ u k',Is G 201 [v_cells] h u k'∧V.tu [.n r.1,.b r.2]=u∧Own (fun r=>r<h.n) h k' []:=by
 refine WC.is (ZaB Zfy ?_)
 unfold ZaT at hp
 let B:Nat→Prop:=(fun r=>r<h.n)
 have hO:Own B h h []:=Own.start0 h
 refine Zj (Zb (.n 0) rfl (Zb (.b false) rfl (Ze (Zj (Zb v_cells rfl ?_)))))
 obtain ⟨⟨x,x1⟩,⟨_,_,H,f,c,rfl,K⟩,hp⟩:=bdk hp fun _=>zw.ok (h:=h)  (hO.rd0 s_cells.rd)
 refine Zan rfl rfl H ?_
 have j:=hO.call K rfl
 refine Zb (.tu [f,.n x1]) rfl (Zc (zM rfl rfl) (Zc (zM rfl rfl) (Zb f rfl (Zb (.n x1) rfl (Ze (Zj (Zb (.n (-1)) rfl (Ze (ZM (ZM ?_))))))))))
 refine Zar (Zb f rfl (Zc (Zgk (n:=(x).length) (j.sl 0 rfl) (j.allLen 1 rfl:(c).length=(x).length) rfl) (Zb (.n 0) rfl (Ze (Za2 (Zci hp (fun|(at_,x2),fr,k=>fr 0=v_cells∧fr 6=.n at_∧fr 14=f∧fr 15=.n (x.length:Int)∧fr 16=.n x2∧Own B h k [eSl eV f c,Zcy Zl c x]) (fun|.inl at_1,e,fr,k=>e=(.exit 0)∧fr 6=.n at_1∧Own B h k []|.inr _,e,fr,k=>e=.ret∧fr 2=.n 0∧fr 3=.b false∧Own B h k []) ⟨rfl,rfl,rfl,rfl,rfl,(j.pk [0,1])⟩ ?_ ?_))))))
 ·rintro ⟨at_,x2⟩ _ v ⟨m,q,o,p,d,a⟩ _ hp
  dsimp only [ZaT.s0] at hp
  refine Zj (Zc (zV d p) (Ze (ZM (zD hp rfl (fun y hp=>?_) (fun y hp=>?_)))))
  ·refine Za3 (ZM (Za2 (Zj (Zb _ d (ckk hp fun i hp=>Zc (ZW (a.sl 0 rfl) o d (by rw [(a.allLen 1 rfl:(c).length=(x).length)];exact i)) (Zc (zt (a.sl 0 rfl) rfl (by rw [(a.allLen 1 rfl:(c).length=(x).length)];exact Zf i) rfl) (Zb (.n x2) rfl (Zb ((gi c x2.toNat)) rfl (Ze ?_)))))))))
   refine Zj (Zb _ m (Zb ((gi c x2.toNat)) rfl ?_))
   obtain ⟨x3,⟨_,N,I,_,rfl,L⟩,hp⟩:=bdk hp fun _=>Za8.ok (h:=v)  (a.rd0 s_cells.rd) (a.inn 1 rfl (Zf i):Sl Zl v (gi c x2.toNat) (gi x x2.toNat))
   refine Zan rfl rfl I ?_
   have t:=a.call L rfl
   obtain ⟨x4,⟨_,_,J,rfl,M⟩,hp⟩:=bdk hp fun _=>ZaX.ok (h:=N)  (t.sl 2 rfl)
   refine Zan rfl rfl J ?_
   have g:=t.call M rfl
   refine Ze (Za2 (Zj (Zc (ZbZ rfl rfl) (Zb (.b (decide (x4=4))) rfl (Ze (zD hp rfl (fun A hp=>?_) (fun A hp=>?_)))))))
   ·refine Zc5 (Zat (Zat (Zx (Zar (ckk hp fun E hp=>Zc (zG d rfl E) (Zb (.n (x2+1)) rfl (Zo ?_)))))))
    cases hp
    exact ⟨rfl,m,q,o,p,rfl,(g.pk [0,1])⟩
   ·refine Zj (Zc (ZbZ rfl rfl) (Zb (.b (decide (x4=(-4)))) rfl (Ze (zD hp rfl (fun C hp=>?_) (fun C hp=>?_)))))
    ·refine ZM (Zj (Zb _ q (Zc (Zds rfl rfl) (Ze (zD hp rfl (fun D hp=>?_) (fun D hp=>?_))))))
     ·refine Zj (Zb (.n 0) rfl (Zb (.b false) rfl (Ze (zR (zl (Zbt (Zbt (zl ?_))))))))
      cases hp
      exact ⟨nofun,rfl,rfl,rfl,(g.pk [])⟩
     ·refine Za3 (Zar (Zb (.n x2) rfl (Zb (.n x2) rfl (Zo (Zat (Zat (Zx (Zar (ckk hp fun F hp=>Zc (zG d rfl F) (Zb (.n (x2+1)) rfl (Zo ?_)))))))))))
      cases hp
      exact ⟨rfl,m,rfl,o,p,rfl,(g.pk [0,1])⟩
    ·refine Zj (Zb (.n 0) rfl (Zb (.b false) rfl (Ze (zR (Zbt (Zbt (zl ?_)))))))
     cases hp
     exact ⟨nofun,rfl,rfl,rfl,(g.pk [])⟩
  ·refine ZbU (Zas ?_)
   cases hp
   exact ⟨nofun,rfl,q,(a.pk [])⟩
 rintro (at_1|_) hp _ _ _ s
 ·obtain ⟨rfl,w,l⟩:=s
  refine Zbe (Zx (Zj (Zb _ w (Zb _ w (Zc (Zds rfl rfl) (Zb (.n at_1) rfl (Zb (.b (decide (0≤at_1))) rfl (Ze (zR (zf (zj rfl (zj rfl ZF)) ?_))))))))))
  cases hp
  exact ⟨rfl,(l.pk [])⟩
 ·obtain ⟨rfl,O,P,l⟩:=s
  refine Zbt (zl (zf (zj O (zj P ZF)) ?_))
  cases hp
  exact ⟨rfl,(l.pk [])⟩

theorem ZbX.ok {h:Hp}{cells:List Za}{v_cells:V}(s_cells:Sl Zd h v_cells cells) {r:Int}(hp:ZbX cells=some r) :
  ∃ u k',Is G 176 [v_cells] h u k'∧V.n r=u∧Own (fun r=>r<h.n) h k' []:=by
 refine WC.is (ZaB Zfw ?_)
 unfold ZbX at hp
 let B:Nat→Prop:=(fun r=>r<h.n)
 have hO:Own B h h []:=Own.start0 h
 refine Zj (Zb (.n 0) rfl (Ze (ZM (Zj (Zb v_cells rfl ?_)))))
 obtain ⟨x,⟨_,v,l,rfl,q⟩,hp⟩:=bdk hp fun _=>z9.ok (h:=h)  (hO.rd0 s_cells.rd)
 refine Zan rfl rfl l ?_
 have c:=hO.call q rfl
 refine Zb (.n x) rfl (Ze (Zj (Zb (.n x) rfl (Zc (Zcv rfl rfl) (Ze (zD hp rfl (fun g hp=>?_) (fun g hp=>?_)))))))
 ·refine Zj (Zb (.n x) rfl (Zb (.n x) rfl (Ze (zR (zl (zf (zj rfl ZF) ?_))))))
  cases hp
  exact ⟨rfl,(c.pk [])⟩
 ·refine Za3 (ZM (Zj (Zb v_cells rfl ?_)))
  obtain ⟨x1,⟨_,y,m,rfl,s⟩,hp⟩:=bdk hp fun _=>ZcE.ok (h:=v)  (c.rd0 s_cells.rd)
  refine Zan rfl rfl m ?_
  have d:=c.call s rfl
  refine Zc (Zcl rfl) (Ze (zD hp rfl (fun i hp=>?_) (fun i hp=>?_)))
  ·refine Zj (Zb (.n 13) rfl (Ze (zR (zl (zf (zj rfl ZF) ?_)))))
   cases hp
   exact ⟨rfl,(d.pk [])⟩
  ·refine Za3 (ZM (Zj (Zb v_cells rfl ?_)))
   obtain ⟨⟨x2,x3⟩,⟨_,A,o,rfl,t⟩,hp⟩:=bdk hp fun _=>ZaT.ok (h:=y)  (d.rd0 s_cells.rd)
   refine Zan rfl rfl o ?_
   have e:=d.call t rfl
   refine Zb (.tu [.n x2,.b x3]) rfl (Zc (zM rfl rfl) (Zc (zM rfl rfl) (Zb (.n x2) rfl (Zb (.b x3) rfl (Ze (Zj (Zb (.b x3) rfl (Zc (Zcl rfl) (Zb (.b (!x3)) rfl (Zay 4 (fun f k=>A=k∧f 25=.b ((!x3)&&(decide (1<(cells.length:Int))))) ?_ ?_))))))))))
   ·rcases bc (!x3) with a|a
    ·refine Z6 rfl a (Zb v_cells rfl (Z6 rfl a (Zc (ZaC (e.rd0 s_cells.rd) rfl) (Z6 rfl a (Zc (ZeU rfl rfl) (Zc (Zel rfl a rfl) (Zo ?_)))))))
     exact ⟨rfl,rfl⟩
    ·refine Zs rfl a (Zs rfl a (Zs rfl a (Zc (Zek (w:=(!x3)&&(decide (1<(cells.length:Int)))) rfl a rfl) (Zo ?_))))
     exact ⟨rfl,rfl⟩
   rintro _ _ ⟨rfl,p⟩
   refine Ze (zD hp p (fun j hp=>?_) (fun j hp=>?_))
   ·refine Zj (Zb (.n 10) rfl (Ze (zR (zl (zf (zj rfl ZF) ?_)))))
    cases hp
    exact ⟨rfl,(e.pk [])⟩
   ·refine Za3 (Zj (Zb (.n 0) rfl (Ze (zR (zf (zj rfl ZF) ?_)))))
    cases hp
    exact ⟨rfl,(e.pk [])⟩

theorem ZbY.ok {h:Hp}{cells:List Za}{v_cells:V}(s_cells:Sl Zd h v_cells cells) {r:Int×Int}(hp:ZbY cells=some r) :
  ∃ u k',Is G 195 [v_cells] h u k'∧V.tu [.n r.1,.n r.2]=u∧Own (fun r=>r<h.n) h k' []:=by
 refine WC.is (ZaB Zfx ?_)
 unfold ZbY at hp
 let B:Nat→Prop:=(fun r=>r<h.n)
 have hO:Own B h h []:=Own.start0 h
 refine Zj (Zb (.n 0) rfl (Zb (.n 0) rfl (Ze (ZM (Zj (Zb v_cells rfl ?_))))))
 obtain ⟨x,⟨_,k,f,rfl,i⟩,hp⟩:=bdk hp fun _=>ZbX.ok (h:=h)  (hO.rd0 s_cells.rd)
 refine Zan rfl rfl f ?_
 have a:=hO.call i rfl
 refine Zb (.n x) rfl (Ze (Zj (Zb (.n x) rfl (Zc (Zcv rfl rfl) (Ze (zD hp rfl (fun d hp=>?_) (fun d hp=>?_)))))))
 ·refine Zj (Zb (.n x) rfl (Zb (.n 0) rfl (Zb (.n x) rfl (Ze (zR (zl (zf (zj rfl (zj rfl ZF)) ?_)))))))
  cases hp
  exact ⟨rfl,(a.pk [])⟩
 ·refine Za3 (Zj (Zb v_cells rfl ?_))
  obtain ⟨⟨x1,x2⟩,⟨_,_,g,rfl,j⟩,hp⟩:=bdk hp fun _=>ZaT.ok (h:=k)  (a.rd0 s_cells.rd)
  refine Zan rfl rfl g ?_
  have c:=a.call j rfl
  refine Zb (.tu [.n x1,.b x2]) rfl (Zc (zM rfl rfl) (Zc (zM rfl rfl) (Zb (.n x1) rfl (Zb (.b x2) rfl (Ze (ZM (Zj (Zb (.b x2) rfl (Zc (Zcl rfl) (Ze (zD hp rfl (fun e hp=>?_) (fun e hp=>?_))))))))))))
  ·refine Zj (Zb (.n 0) rfl (Zb (.n 2) rfl (Ze (zR (zl (zf (zj rfl (zj rfl ZF)) ?_))))))
   cases hp
   exact ⟨rfl,(c.pk [])⟩
  ·refine Za3 (Zj (Zb (.n x1) rfl (Zb (.n x1) rfl (Zb (.n 0) rfl (Ze (zR (zf (zj rfl (zj rfl ZF)) ?_)))))))
   cases hp
   exact ⟨rfl,(c.pk [])⟩

theorem za.ok {h:Hp}{s:List Int}{f:Int→Option Bool}{v_s:V}{id_f:Nat}{cap_f:List V}(s_s:Sl zo h v_s s) (f_f:∀ (k:Hp) (x0:Int) (y:Bool),Ex' (fun r=>r<h.n) h k→f x0=some y→∃ u k',Is G id_f (.n x0::cap_f) k u k'∧V.b y=u∧Own (fun r=>r<k.n) k k' []) {r:Int}(hp:za s f=some r) :
  ∃ u k',Is G 91 [v_s,.f id_f cap_f] h u k'∧V.n r=u∧Own (fun r=>r<h.n) h k' []:=by
 refine WC.is (ZaB Zde ?_)
 unfold za at hp
 let B:Nat→Prop:=(fun r=>r<h.n)
 have hO:Own B h h []:=Own.start0 h
 refine Zj (Zb (.n 0) rfl (Ze (ZM (Zj (Zb v_s rfl (Zc (ZaC (hO.rd0 s_s.rd) rfl) (Zb (.n 0) rfl (Ze (Za2 (Zci hp (fun x fr k=>fr 0=v_s∧fr 1=.f id_f cap_f∧fr 7=.n (s.length:Int)∧fr 8=.n x∧Own B h k []) (fun|.inl _,e,fr,k=>e=(.exit 0)∧Own B h k []|.inr x1,e,fr,k=>e=.ret∧fr 4=.n x1∧Own B h k []) ⟨rfl,rfl,rfl,rfl,(hO.pk [])⟩ ?_ ?_))))))))))
 ·rintro x _ _ ⟨l,m,o,d,a⟩ _ hp
  dsimp only [za.s0] at hp
  refine Zj (Zc (zV d o) (Ze (ZM (zD hp rfl (fun p hp=>?_) (fun p hp=>?_)))))
  ·refine Za3 (ZM (Za2 (Zj (Zb _ d (Zb (.n x) rfl (Ze (Zj (Zb _ m (Zb _ l ?_)))))))))
   refine Zb (.n x) rfl (ckk hp fun g hp=>Zc (ZW (a.rd0 s_s.rd) rfl rfl g) (Zc (zt (a.rd0 s_s.rd) rfl (Zf g) rfl) ?_))
   obtain ⟨x2,A,hp⟩:=Za7 hp
   obtain ⟨_,_,v,rfl,w⟩:=f_f _ _ _ a.ext A
   refine Zan rfl rfl v ?_
   have j:=a.call w rfl
   refine Ze (zD hp rfl (fun q hp=>?_) (fun q hp=>?_))
   ·refine Zj (Zb (.n x) rfl (Zb (.n x) rfl (Ze (zR (Zbt (zl ?_))))))
    cases hp
    exact ⟨nofun,rfl,rfl,(j.pk [])⟩
   ·refine Zc5 (Zat (Zx (Zar (ckk hp fun t hp=>Zc (zG d rfl t) (Zb (.n (x+1)) rfl (Zo ?_))))))
    cases hp
    exact ⟨rfl,l,m,o,rfl,(j.pk [])⟩
  ·refine ZbU (Zas ?_)
   cases hp
   exact ⟨nofun,rfl,(a.pk [])⟩
 rintro (_|x1) hp _ _ _ i
 ·obtain ⟨rfl,c⟩:=i
  refine Zbe (Zx (Zj (Zb (.n (-1)) rfl (Ze (zR (zf (zj rfl ZF) ?_))))))
  cases hp
  exact ⟨rfl,(c.pk [])⟩
 ·obtain ⟨rfl,C,c⟩:=i
  refine Zbt (zl (zf (zj C ZF) ?_))
  cases hp
  exact ⟨rfl,(c.pk [])⟩

theorem Zbg.ok {h:Hp}{s:List Int}{f:Int→Option Bool}{v_s:V}{id_f:Nat}{cap_f:List V}(s_s:Sl zo h v_s s) (f_f:∀ (k:Hp) (x0:Int) (y:Bool),Ex' (fun r=>r<h.n) h k→f x0=some y→∃ u k',Is G id_f (.n x0::cap_f) k u k'∧V.b y=u∧Own (fun r=>r<k.n) k k' []) {r:Bool}(hp:Zbg s f=some r) :
  ∃ u k',Is G 78 [v_s,.f id_f cap_f] h u k'∧V.b r=u∧Own (fun r=>r<h.n) h k' []:=by
 refine WC.is (ZaB ZcL ?_)
 unfold Zbg at hp
 let B:Nat→Prop:=(fun r=>r<h.n)
 have hO:Own B h h []:=Own.start0 h
 refine Zj (Zb (.b false) rfl (Ze (Zj (Zb v_s rfl (Zb (.f id_f cap_f) rfl ?_)))))
 obtain ⟨x,⟨_,_,a,rfl,d⟩,hp⟩:=bdk hp fun _=>za.ok (h:=h)  (hO.rd0 s_s.rd) (fun k z0 y hk hx=>f_f k z0 y (Zrk hO hk) hx)
 refine Zan rfl rfl a ?_
 have c:=hO.call d rfl
 refine Zc (Zds rfl rfl) (Zb (.b (decide (0≤x))) rfl (Ze (zR (zf (zj rfl ZF) ?_))))
 cases hp
 exact ⟨rfl,(c.pk [])⟩

theorem Zcu.ok {h:Hp}{t:Int}   {r:Bool}(hp:Zcu t=some r) :
  ∃ u k',Is G 79 [.n t] h u k'∧V.b r=u∧Own (fun r=>r<h.n) h k' []:=by
 refine WC.is (ZaB ZeB ?_)
 unfold Zcu at hp
 let B:Nat→Prop:=(fun r=>r<h.n)
 have hO:Own B h h []:=Own.start0 h
 refine Zj (Zb (.b false) rfl (Ze (Zj (Zb (.n t) rfl (Zc (zV rfl rfl) (Zb (.b (decide (t<(-2)))) rfl (Zay 3 (fun f k=>h=k∧f 8=.b ((decide (t<(-2)))||(decide (1<t)))) ?_ ?_)))))))
 ·rcases bc (decide (t<(-2))) with a|a
  ·refine Zs rfl a (Zs rfl a (Zc (Zc6 (w:=(decide (t<(-2)))||(decide (1<t))) rfl a rfl) (Zo ?_)))
   exact ⟨rfl,rfl⟩
  ·refine Z6 rfl a (Zb (.n t) rfl (Z6 rfl a (Zc (ZeU rfl rfl) (Zc (Zc7 rfl a rfl) (Zo ?_)))))
   exact ⟨rfl,rfl⟩
 rintro _ _ ⟨rfl,c⟩
 refine Zb _ c (Ze (zR (zf (zj rfl ZF) ?_)))
 cases hp
 exact ⟨rfl,(hO.pk [])⟩

theorem ZbW.ok {h:Hp}{turns:List Int}{v_turns:V}(s_turns:Sl zo h v_turns turns) {r:Bool}(hp:ZbW turns=some r) :
  ∃ u k',Is G 58 [v_turns] h u k'∧V.b r=u∧Own (fun r=>r<h.n) h k' []:=by
 refine WC.is (ZaB Zfs ?_)
 unfold ZbW at hp
 let B:Nat→Prop:=(fun r=>r<h.n)
 have hO:Own B h h []:=Own.start0 h
 refine Zj (Zb (.b false) rfl (Ze (Zj (Zb v_turns rfl ?_))))
 obtain ⟨x,⟨_,_,a,rfl,d⟩,hp⟩:=bdk hp fun _=>Zbg.ok (h:=h)  (hO.rd0 s_turns.rd) (fun k z0 y hk hx=>Zcu.ok (h:=k)  hx)
 refine Zan rfl rfl a ?_
 have c:=hO.call d rfl
 refine Zc (Zcl rfl) (Zb (.b (!x)) rfl (Ze (zR (zf (zj rfl ZF) ?_))))
 cases hp
 exact ⟨rfl,(c.pk [])⟩

theorem Zba.ok {h:Hp}{turns:List Int}{i:Int}{v_turns:V}(s_turns:Sl zo h v_turns turns) {r:Int×Bool}(hp:Zba turns i=some r) :
  ∃ u k',Is G 13 [v_turns,.n i] h u k'∧V.tu [.n r.1,.b r.2]=u∧Own (fun r=>r<h.n) h k' []:=by
 refine WC.is (ZaB Zgu ?_)
 unfold Zba at hp
 let B:Nat→Prop:=(fun r=>r<h.n)
 have hO:Own B h h []:=Own.start0 h
 refine Zj (Zb (.n 0) rfl (Zb (.b false) rfl (Ze (ZM (Zj (Zb v_turns rfl ?_))))))
 obtain ⟨x,⟨_,y,R,rfl,X⟩,hp⟩:=bdk hp fun _=>ZbW.ok (h:=h)  (hO.rd0 s_turns.rd)
 refine Zan rfl rfl R ?_
 have j:=hO.call X rfl
 refine Zc (Zcl rfl) (Zb (.b (!x)) rfl (Zay 3 (fun f k=>y=k∧f 15=.b ((!x)||(decide (i<0)))∧f 0=v_turns∧f 1=.n i) ?_ ?_))
 ·rcases bc (!x) with d|d
  ·refine Zs rfl d (Zs rfl d (Zc (Zc6 (w:=(!x)||(decide (i<0))) rfl d rfl) (Zo ?_)))
   exact ⟨rfl,rfl,rfl,rfl⟩
  ·refine Z6 rfl d (Zb (.n i) rfl (Z6 rfl d (Zc (zV rfl rfl) (Zc (Zc7 rfl d rfl) (Zo ?_)))))
   exact ⟨rfl,rfl,rfl,rfl⟩
 rintro _ _ ⟨rfl,S,m,o⟩
 refine Zb _ S (Zay 5 (fun f k=>y=k∧f 21=.b (((!x)||(decide (i<0)))||(decide ((turns.length:Int)≤i)))∧f 0=v_turns∧f 1=.n i) ?_ ?_)
 ·rcases bc ((!x)||(decide (i<0))) with c|c
  ·refine Zs rfl c (Zs rfl c (Zs rfl c (Zs rfl c (Zc (Zc6 (w:=((!x)||(decide (i<0)))||(decide ((turns.length:Int)≤i))) rfl c rfl) (Zo ?_)))))
   exact ⟨rfl,rfl,m,o⟩
  ·refine Z6 rfl c (Zb _ o (Z6 rfl c (Zb _ m (Z6 rfl c (Zc (ZaC (j.rd0 s_turns.rd) rfl) (Z6 rfl c (Zc (Zds rfl rfl) (Zc (Zc7 rfl c rfl) (Zo ?_)))))))))
   exact ⟨rfl,rfl,m,o⟩
 rintro _ _ ⟨rfl,T,p,q⟩
 refine Zb _ T ?_
 obtain ⟨t,Y,hp⟩:=Za7 hp
 refine Zay 6 (fun f k=>y=k∧f 28=.b t∧f 0=v_turns∧f 1=.n i) ?_ ?_
 ·clear hp;rcases ZaW Y with ⟨a,hp⟩|⟨a,hp⟩
  ·refine Zs rfl a (Zs rfl a (Zs rfl a (Zs rfl a (Zs rfl a (Zc (ZaH (v:=.b t) rfl a (Eq.trans (b:=V.b true) rfl (congrArg V.b (Option.some.inj hp)))) (Zo ?_))))))
   exact ⟨rfl,rfl,p,q⟩
  ·refine Z6 rfl a (Zb _ p (Z6 rfl a (Zb _ q (Z6 rfl a (ckk hp fun C hp=>Zc (ZW (j.rd0 s_turns.rd) rfl rfl C) (Z6 rfl a (Zc (zt (j.rd0 s_turns.rd) rfl (Zf C) rfl) (Z6 rfl a (Zc (Zds rfl rfl) (Zc (Za0 (v:=.b t) rfl a (Eq.trans (b:=V.b (decide (0≤(gi turns i.toNat)))) rfl (congrArg V.b (Option.some.inj hp)))) (Zo ?_)))))))))))
   exact ⟨rfl,rfl,p,q⟩
 rintro _ _ ⟨rfl,W,F,U⟩
 refine Ze (zD hp W (fun K hp=>?_) (fun K hp=>?_))
 ·refine Zj (Zb (.n 0) rfl (Zb (.b false) rfl (Ze (zR (zl (zf (zj rfl (zj rfl ZF)) ?_))))))
  cases hp
  exact ⟨rfl,(j.pk [])⟩
 ·refine Za3 (Zj (Zb (.n 0) rfl (Ze (ZM (Zj (Zb _ F (Zc (ZaC (j.rd0 s_turns.rd) rfl) (Zb (.n 0) rfl (Zo ?_)))))))))
  refine Zx (Za2 (Zci hp (fun|(sum,x1),fr,k=>fr 0=v_turns∧fr 1=.n i∧fr 6=.n sum∧fr 30=.n (turns.length:Int)∧fr 31=.n x1∧Own B h k []) (fun|.inl _,e,fr,k=>e=(.exit 0)∧Own B h k []|.inr x2,e,fr,k=>e=.ret∧fr 4=.n x2∧fr 5=.b true∧Own B h k []) ⟨F,U,rfl,rfl,rfl,(j.pk [])⟩ ?_ ?_))
  ·rintro ⟨sum,x1⟩ _ _ ⟨l,I,ac,J,A,g⟩ _ hp
   dsimp only [Zba.s0] at hp
   refine Zj (Zc (zV A J) (Ze (ZM (zD hp rfl (fun L hp=>?_) (fun L hp=>?_)))))
   ·refine Za3 (ZM (Za2 (Zj (Zb _ A (Zb (.n x1) rfl (Ze (Zj (Zb _ I (Zb (.n x1) rfl ?_)))))))))
    refine ckk hp fun N hp=>Zc (zG rfl rfl N) (Zb _ l (Zc (ZaC (g.rd0 s_turns.rd) rfl) (ckk hp fun D hp=>Zc (ZeF rfl rfl D) (Zb (.n ((i+x1).tmod (turns.length:Int))) rfl (Ze (Zj (Zb _ ac (Zb _ l (Zb (.n ((i+x1).tmod (turns.length:Int))) rfl ?_)))))))))
    refine ckk hp fun E hp=>Zc (ZW (g.rd0 s_turns.rd) rfl rfl E) (Zc (zt (g.rd0 s_turns.rd) rfl (Zf E) rfl) (ckk hp fun O hp=>Zc (zG rfl rfl O) (Zb (.n (sum+(gi turns ((i+x1).tmod (turns.length:Int):Int).toNat))) rfl (Ze (Zj (Zb (.n (sum+(gi turns ((i+x1).tmod (turns.length:Int):Int).toNat))) rfl (Zc (ZbZ rfl rfl) (Ze (zD hp rfl (fun M hp=>?_) (fun M hp=>?_))))))))))
    ·refine Zj (Zb (.n ((i+x1).tmod (turns.length:Int))) rfl (ckk hp fun P hp=>Zc (zG rfl rfl P) (Zb _ l (Zc (ZaC (g.rd0 s_turns.rd) rfl) (Zc (ZeF rfl rfl D) (Zb (.n ((((i+x1).tmod (turns.length:Int))+1).tmod (turns.length:Int))) rfl (Zb (.b true) rfl (Ze (zR (Zbt ?_))))))))))
     refine zl ?_
     cases hp
     exact ⟨nofun,rfl,rfl,rfl,(g.pk [])⟩
    ·refine Zc5 (Zat (Zx (Zar (ckk hp fun Q hp=>Zc (zG A rfl Q) (Zb (.n (x1+1)) rfl (Zo ?_))))))
     cases hp
     exact ⟨rfl,l,I,rfl,J,rfl,(g.pk [])⟩
   ·refine ZbU (Zas ?_)
    cases hp
    exact ⟨nofun,rfl,(g.pk [])⟩
  rintro (_|x2) hp _ _ _ H
  ·obtain ⟨rfl,s⟩:=H
   refine Zbe (Zx (Zj (Zb (.n 0) rfl (Zb (.b false) rfl (Ze (zR (zf (zj rfl (zj rfl ZF)) ?_)))))))
   cases hp
   exact ⟨rfl,(s.pk [])⟩
  ·obtain ⟨rfl,aa,ab,s⟩:=H
   refine Zbt (zl (zf (zj aa (zj ab ZF)) ?_))
   cases hp
   exact ⟨rfl,(s.pk [])⟩

theorem Zb5.ok {h:Hp}{turns:List Int}{v_turns:V}(s_turns:Sl zo h v_turns turns) {r:Int×Bool}(hp:Zb5 turns=some r) :
  ∃ u k',Is G 15 [v_turns] h u k'∧V.tu [.n r.1,.b r.2]=u∧Own (fun r=>r<h.n) h k' []:=by
 refine WC.is (ZaB Zf5 ?_)
 unfold Zb5 at hp
 let B:Nat→Prop:=(fun r=>r<h.n)
 have hO:Own B h h []:=Own.start0 h
 refine Zj (Zb (.n 0) rfl (Zb (.b false) rfl (Ze (ZM (Zj (Zb v_turns rfl ?_))))))
 obtain ⟨x,⟨_,_,A,rfl,K⟩,hp⟩:=bdk hp fun _=>ZbW.ok (h:=h)  (hO.rd0 s_turns.rd)
 refine Zan rfl rfl A ?_
 have g:=hO.call K rfl
 refine Zc (Zcl rfl) (Ze (zD hp rfl (fun s hp=>?_) (fun s hp=>?_)))
 ·refine Zj (Zb (.n 0) rfl (Zb (.b false) rfl (Ze (zR (zl (zf (zj rfl (zj rfl ZF)) ?_))))))
  cases hp
  exact ⟨rfl,(g.pk [])⟩
 ·refine Za3 (ZM (Zj (Zb v_turns rfl (Zc (ZaC (g.rd0 s_turns.rd) rfl) (Zb (.n 0) rfl (Ze (Za2 (Zci hp (fun x1 fr k=>fr 0=v_turns∧fr 11=v_turns∧fr 12=.n (turns.length:Int)∧fr 13=.n x1∧Own B h k []) (fun|.inl _,e,fr,k=>e=(.exit 0)∧Own B h k []|.inr x2,e,fr,k=>e=.ret∧fr 2=.n x2∧fr 3=.b true∧Own B h k []) ⟨rfl,rfl,rfl,rfl,(g.pk [])⟩ ?_ ?_))))))))
  ·rintro x1 _ M ⟨j,l,m,d,c⟩ _ hp
   dsimp only [Zb5.s0] at hp
   refine Zj (Zc (zV d m) (Ze (ZM (zD hp rfl (fun t hp=>?_) (fun t hp=>?_)))))
   ·refine Za3 (ZM (Za2 (Zj (Zb _ d (ckk hp fun o hp=>Zc (ZW (c.rd0 s_turns.rd) l d o) (Zc (zt (c.rd0 s_turns.rd) rfl (Zf o) rfl) (Zb (.n x1) rfl (Zb (.n (gi turns x1.toNat)) rfl (Ze ?_)))))))))
    refine Zj (Zb _ j (Zb (.n x1) rfl ?_))
    obtain ⟨⟨x3,x4⟩,⟨_,N,C,rfl,L⟩,hp⟩:=bdk hp fun _=>Zba.ok (h:=M)  (c.rd0 s_turns.rd)
    refine Zan rfl rfl C ?_
    have q:=c.call L rfl
    refine Zb (.tu [.n x3,.b x4]) rfl (Zc (zM rfl rfl) (Zc (zM rfl rfl) (Zb (.n x3) rfl (Zb (.b x4) rfl (Ze (Zj (Zb (.n (gi turns x1.toNat)) rfl (Zc (zV rfl rfl) (Zb (.b (decide ((gi turns x1.toNat)<0))) rfl (Zay 3 (fun f k=>N=k∧f 29=.b ((decide ((gi turns x1.toNat)<0))&&(!x4))∧f 0=v_turns∧f 11=v_turns∧f 12=.n (turns.length:Int)∧f 13=.n x1∧f 4=.n x1) ?_ ?_))))))))))
    ·rcases bc (decide ((gi turns x1.toNat)<0)) with a|a
     ·refine Z6 rfl a (Zb (.b x4) rfl (Z6 rfl a (Zc (Zcl rfl) (Zc (Zel rfl a rfl) (Zo ?_)))))
      exact ⟨rfl,rfl,j,l,m,d,rfl⟩
     ·refine Zs rfl a (Zs rfl a (Zc (Zek (w:=(decide ((gi turns x1.toNat)<0))&&(!x4)) rfl a rfl) (Zo ?_)))
      exact ⟨rfl,rfl,j,l,m,d,rfl⟩
    rintro _ _ ⟨rfl,I,D,E,F,H,J⟩
    refine Ze (zD hp I (fun v hp=>?_) (fun v hp=>?_))
    ·refine Zj (Zb _ J (Zb (.n x1) rfl (Zb (.b true) rfl (Ze (zR (Zbt (zl ?_)))))))
     cases hp
     exact ⟨nofun,rfl,rfl,rfl,(q.pk [])⟩
    ·refine Zc5 (Zat (Zx (Zar (ckk hp fun y hp=>Zc (zG H rfl y) (Zb (.n (x1+1)) rfl (Zo ?_))))))
     cases hp
     exact ⟨rfl,D,E,F,rfl,(q.pk [])⟩
   ·refine ZbU (Zas ?_)
    cases hp
    exact ⟨nofun,rfl,(c.pk [])⟩
  rintro (_|x2) hp _ _ _ p
  ·obtain ⟨rfl,i⟩:=p
   refine Zbe (Zx (Zj (Zb (.n 0) rfl (Zb (.b false) rfl (Ze (zR (zf (zj rfl (zj rfl ZF)) ?_)))))))
   cases hp
   exact ⟨rfl,(i.pk [])⟩
  ·obtain ⟨rfl,O,P,i⟩:=p
   refine Zbt (zl (zf (zj O (zj P ZF)) ?_))
   cases hp
   exact ⟨rfl,(i.pk [])⟩

theorem ZbK.ok {h:Hp}{cells:List Za}{v_cells:V}(s_cells:Sl Zd h v_cells cells) {r:Zr×Int}(hp:ZbK cells=some r) :
  ∃ u k',Is G 278 [v_cells] h u k'∧V.tu [.ag (Zl.c r.1),.n r.2]=u∧Own (fun r=>r<h.n) h k' []:=by
 refine WC.is (ZaB ZeR ?_)
 unfold ZbK at hp
 let B:Nat→Prop:=(fun r=>r<h.n)
 have hO:Own B h h []:=Own.start0 h
 refine Zj (Zaw (hO.alloc (cs:=Zl.c (⟨0,0⟩:Zr)) hO.fr) ?_)
 rintro _ F ⟨_,rfl,_,_,k⟩
 refine Zb (.n 0) rfl (Ze (Zj (Zb v_cells rfl ?_)))
 obtain ⟨⟨x,x1⟩,⟨_,H,t,rfl,A⟩,hp⟩:=bdk hp fun _=>ZbY.ok (h:=F)  (k.rd0 s_cells.rd)
 refine Zan rfl rfl t ?_
 have i:=k.call A rfl
 refine Zb (.tu [.n x,.n x1]) rfl (Zc (zM rfl rfl) (Zc (zM rfl rfl) (Zb (.n x) rfl (Zb (.n x1) rfl (Ze (ZM (Zj (Zb (.n x1) rfl (Zc (Zcv rfl rfl) (Ze (zD hp rfl (fun s hp=>?_) (fun s hp=>?_))))))))))))
 ·refine Zj (Zc (ZcA (cs:=Zl.c (⟨(0:Int),(0:Int)⟩:Zr)) (by rw [Zbs];rfl)) (Zb (.n x1) rfl (Zaw (i.stb (cs':=Zl.c (⟨(0:Int),(0:Int)⟩:Zr)) 0 rfl rfl rfl rfl ⟨rfl,Nat.le_of_ble_eq_true rfl,rfl⟩ rfl) ?_)))
  rintro _ _ ⟨rfl,_,_,l⟩
  refine Zb (.n x1) rfl (Ze (zR (zl (zf (Zjz rfl (l.box 0 rfl) rfl (zj rfl ZF)) ?_))))
  cases hp
  exact ⟨rfl,(l.pk [])⟩
 ·refine Za3 (Zj (Zb v_cells rfl ?_))
  obtain ⟨⟨x2,x3⟩,⟨_,p,v,g,f,rfl,C⟩,hp⟩:=bdk hp fun _=>zw.ok (h:=H)  (i.rd0 s_cells.rd)
  refine Zan rfl rfl v ?_
  have d:=i.call C rfl
  refine Zb (.tu [g,.n x3]) rfl (Zc (zM rfl rfl) (Zc (zM rfl rfl) (Zb g rfl (Zb (.n x3) rfl (Ze (Zj (Zb v_cells rfl (Zb g rfl (Zb (.n x) rfl (ckk hp fun a hp=>Zc (ZW (d.sl 1 rfl) rfl rfl (by rw [(d.allLen 2 rfl:(f).length=(x2).length)];exact a)) ?_))))))))))
  refine Zc (zt (d.sl 1 rfl) rfl (by rw [(d.allLen 2 rfl:(f).length=(x2).length)];exact Zf a) rfl) ?_
  obtain ⟨x4,⟨_,I,w,_,rfl,D⟩,hp⟩:=bdk hp fun _=>Za8.ok (h:=p)  (d.rd0 s_cells.rd) (d.inn 2 rfl (Zf a):Sl Zl p (gi f x.toNat) (gi x2 x.toNat))
  refine Zan rfl rfl w ?_
  have m:=d.call D rfl
  obtain ⟨⟨x5,x6⟩,⟨_,q,y,rfl,E⟩,hp⟩:=bdk hp fun _=>Zb5.ok (h:=I)  (m.sl 3 rfl)
  refine Zan rfl rfl y ?_
  have e:=m.call E rfl
  refine Zb (.tu [.n x5,.b x6]) rfl (Zc (zM rfl rfl) (Zc (zM rfl rfl) (Zb (.n x5) rfl (Zb (.b x6) rfl (Ze (Zj (Zb g rfl (Zb (.n x) rfl (Zc (ZW (e.sl 1 rfl) rfl rfl (by rw [(e.allLen 2 rfl:(f).length=(x2).length)];exact a)) (Zc (zt (e.sl 1 rfl) rfl (by rw [(e.allLen 2 rfl:(f).length=(x2).length)];exact Zf a) rfl) (Zb (.n x5) rfl ?_)))))))))))
  refine ckk hp fun j hp=>Zc (ZW (e.inn 2 rfl (Zf a):Sl Zl q (gi f x.toNat) (gi x2 x.toNat)) rfl rfl j) (Zc (ZeV (e.inn 2 rfl (Zf a):Sl Zl q (gi f x.toNat) (gi x2 x.toNat)) rfl (Zf j)) (Zaw (e.stb (cs':=Zl.c (gi (gi x2 x.toNat) x5.toNat)) 0 rfl rfl rfl rfl ⟨rfl,Nat.le_of_ble_eq_true rfl,rfl⟩ rfl) ?_))
  rintro _ _ ⟨rfl,_,_,o⟩
  refine Zb (.n 0) rfl (Ze (zR (zf (Zjz rfl (o.box 0 rfl) rfl (zj rfl ZF)) ?_)))
  cases hp
  exact ⟨rfl,(o.pk [])⟩

theorem Zaa.ok {h:Hp}{s:List Za}{v_s:V}(s_s:Sl Zd h v_s s) {r:List Za}(hp:Zaa s=some r) :
  ∃ u k',Is G 51 [v_s] h u k'∧∃ v,v=u∧Own (fun r=>r<h.n) h k' [eSl Zd v r]:=by
 refine WC.is (ZaB ZcZ ?_)
 obtain ⟨c1,hp⟩:=ZiS hp
 cases hp
 have hO:Own (fun r=>r<h.n) h h []:=Own.start0 h
 refine Zj (Zb (.sn) rfl (Ze (ZM (Zj (Zb v_s rfl ?_)))))
 rcases ZpM s_s with ⟨rfl,rfl⟩|hn
 ·refine Zc (v:=.b true) rfl (Ze (Zql rfl rfl (Zj (Zb (.sn) rfl (Ze (zR (zl (zf (zj rfl ZF) ?_))))))))
  exact ⟨.sn,rfl,hO.nil Zd⟩
 ·refine Zc (Zqp (v:=v_s) hn rfl rfl) (Ze (ZjD rfl rfl (Za3 (Zj (Zaw (hO.bsl (E:=Zd) (l:=[]) hO.fr rfl rfl) ?_)))))
  rintro v1 k1 ⟨r1,f1,hW⟩
  have hO1:Own (fun r=>r<h.n) h k1 [eSl Zd v1 []]:=hW
  refine Zb v_s rfl (Zaw (hO1.app (bytes:=64) 0 hO1.fr rfl (hO1.rd0 s_s.rd) rfl rfl (fun _=>rfl) (by simpa using c1) (by decide)) ?_)
  rintro v2 k2 ⟨f2,hW⟩
  have hO2:Own (fun r=>r<h.n) h k2 [eSl Zd v2 ([]++s)]:=hW
  refine Zb v2 rfl (Ze (zR (zf (zj rfl ZF) ?_)))
  exact ⟨v2,rfl,hO2⟩

theorem ZdM.ok {h:Hp}{cells:List Za}{v_cells:V}(s_cells:Sl Zd h v_cells cells) {r:(Option ZK)×Int}(hp:ZdM cells=some r) :
  ∃ u k',Is G 119 [v_cells] h u k'∧∃ d f,V.tu [(if (r.1).isSome=true then V.p d 0 else V.pn),.n r.2]=u∧Own (fun r=>r<h.n) h k' [eIf (r.1).isSome (ZaF d [f]),eIf (r.1).isSome (eSl Zd f ((r.1.getD default).cells))]:=by
 refine WC.is (ZaB ZgV ?_)
 unfold ZdM at hp
 let B:Nat→Prop:=(fun r=>r<h.n)
 have hO:Own B h h []:=Own.start0 h
 refine Zj (Zb (.pn) rfl (Zb (.n 0) rfl (Ze (ZM (Zj (Zb v_cells rfl ?_))))))
 obtain ⟨x,⟨_,o,i,rfl,l⟩,hp⟩:=bdk hp fun _=>z9.ok (h:=h)  (hO.rd0 s_cells.rd)
 refine Zan rfl rfl i ?_
 have b:=hO.call l rfl
 refine Zb (.n x) rfl (Ze (Zj (Zb (.n x) rfl (Zc (Zcv rfl rfl) (Ze (zD hp rfl (fun g hp=>?_) (fun g hp=>?_)))))))
 ·refine Zj (Zb (.n x) rfl (Zb (.pn) rfl (Zb (.n x) rfl (Ze (zR (zl (zf (zj rfl (zj rfl ZF)) ?_)))))))
  cases hp
  exact ⟨0,V.sn,rfl,(b.pk [900,901])⟩
 ·refine Za3 (Zj (Zb v_cells rfl ?_))
  obtain ⟨x1,⟨_,_,j,a,rfl,m⟩,hp⟩:=bdk hp fun _=>Zaa.ok (h:=o)  (b.rd0 s_cells.rd)
  refine Zan rfl rfl j ?_
  have c:=b.call m rfl
  refine Zc (ZcA (cs:=[a]) (by rw [(zP (v:=a) rfl Zbs)];simp [fill,over,ZiN,ZiL,ZiM,ZiP,ZiK,ZiO,(c.sl 0 rfl).cells])) (Zaw (c.boxd (cs:=[a]) c.fr rfl rfl) ?_)
  rintro _ _ ⟨e,rfl,_,_,k⟩
  refine Zb (.p e 0) rfl (Zb (.n 0) rfl (Ze (zR (zf (zj rfl (zj rfl ZF)) ?_))))
  cases hp
  exact ⟨e,a,rfl,(k.pk [1,0])⟩

theorem ZaI.ok {h:Hp}{g:ZK}{r_g:Nat}{v_g_cells:V}{w_g:Bool}(b_g:h.m r_g=some (.cells w_g [v_g_cells])) (s_g_cells:Sl Zd h v_g_cells g.cells) {r:Int}(hp:ZaI g=some r) :
  ∃ u k',Is G 55 [.p r_g 0] h u k'∧V.n r=u∧Own (fun r=>r<h.n) h k' []:=by
 refine WC.is (ZaB ZeD ?_)
 unfold ZaI at hp
 let B:Nat→Prop:=(fun r=>r<h.n)
 have hO:Own B h h []:=Own.start0 h
 refine Zj (Zb (.n 0) rfl (Ze (ZM (Zj (Zb (.p r_g 0) rfl (Zc (ZjF rfl rfl) (Ze (ZjD rfl rfl (Zc5 ?_)))))))))
 refine Zx (Zj (Zb (.p r_g 0) rfl (Zc (ZdJ rfl) (Zc (ZaU (r:=r_g) (o:=0) rfl rfl) (Zc (Zad (hO.rdB0 (RdB.of b_g)).choose_spec rfl rfl) (Zc (ZaC (hO.rd0 s_g_cells.rd) rfl) (Zb (.n (g.cells.length:Int)) rfl (Ze (zR (zf (zj rfl ZF) ?_))))))))))
 cases hp
 exact ⟨rfl,(hO.pk [])⟩

theorem Zbb.ok {h:Hp}{g:ZK}{v:Int}{d:Int}{r_g:Nat}{v_g_cells:V}{w_g:Bool}(b_g:h.m r_g=some (.cells w_g [v_g_cells])) (s_g_cells:Sl Zd h v_g_cells g.cells) {r:Bool}(hp:Zbb g v d=some r) :
  ∃ u k',Is G 75 [.p r_g 0,.n v,.n d] h u k'∧V.b r=u∧Own (fun r=>r<h.n) h k' []:=by
 refine WC.is (ZaB ZeQ ?_)
 unfold Zbb at hp
 let B:Nat→Prop:=(fun r=>r<h.n)
 have hO:Own B h h []:=Own.start0 h
 refine Zj (Zb (.b false) rfl (Ze (Zj (Zb (.n v) rfl (Zc (Zds rfl rfl) (Zb (.b (decide (0≤v))) rfl ?_))))))
 obtain ⟨t,D,hp⟩:=Za7 hp
 refine Zay 5 (fun f k=>Own B h k []∧f 14=.b t∧f 2=.n d) ?_ ?_
 ·clear hp;rcases ZaW D with ⟨a,hp⟩|⟨a,hp⟩
  ·refine Z6 rfl a (Zb (.n v) rfl (Z6 rfl a (Zb (.p r_g 0) rfl (Z6 rfl a ?_))))
   obtain ⟨x,⟨_,_,i,rfl,A⟩,hp⟩:=bdk hp fun _=>ZaI.ok (h:=h)  (hO.rdB0 (RdB.of b_g)).choose_spec (hO.rd0 s_g_cells.rd)
   refine Zan rfl rfl i ?_
   have s:=hO.call A rfl
   refine Z6 rfl a (Zc (zV rfl rfl) (Zc (ZaH (v:=.b t) rfl a (Eq.trans (b:=V.b (decide (v<x))) rfl (congrArg V.b (Option.some.inj hp)))) (Zo ?_)))
   exact ⟨s.pk [],rfl,rfl⟩
  ·refine Zs rfl a (Zs rfl a (Zs rfl a (Zs rfl a (Zc (Za0 (v:=.b t) rfl a (Eq.trans (b:=V.b false) rfl (congrArg V.b (Option.some.inj hp)))) (Zo ?_)))))
   exact ⟨hO.pk [],rfl,rfl⟩
 rintro _ F ⟨e,l,o⟩
 refine Zb _ l ?_
 obtain ⟨t1,E,hp⟩:=Za7 hp
 refine Zay 3 (fun f k=>Own B h k []∧f 18=.b t1) ?_ ?_
 ·clear hp;rcases ZaW E with ⟨c,hp⟩|⟨c,hp⟩
  ·refine Z6 rfl c (Zb _ o (Z6 rfl c ?_))
   obtain ⟨x1,⟨_,_,j,rfl,C⟩,hp⟩:=bdk hp fun _=>ZaK.ok (h:=F)  
   refine Zan rfl rfl j ?_
   have w:=e.call C rfl
   refine Zc (ZaH (v:=.b t1) rfl c (Eq.trans (b:=V.b x1) rfl (congrArg V.b (Option.some.inj hp)))) (Zo ?_)
   exact ⟨w.pk [],rfl⟩
  ·refine Zs rfl c (Zs rfl c (Zc (Za0 (v:=.b t1) rfl c (Eq.trans (b:=V.b false) rfl (congrArg V.b (Option.some.inj hp)))) (Zo ?_)))
   exact ⟨e.pk [],rfl⟩
 rintro _ _ ⟨y,q⟩
 refine Zb _ q (Ze (zR (zf (zj rfl ZF) ?_)))
 cases hp
 exact ⟨rfl,(y.pk [])⟩

theorem ZaG.ok {h:Hp}{g:ZK}{v:Int}{d:Int}{r_g:Nat}{v_g_cells:V}{w_g:Bool}(b_g:h.m r_g=some (.cells w_g [v_g_cells])) (s_g_cells:Sl Zd h v_g_cells g.cells) {r:Int×Int×Bool}(hp:ZaG g v d=some r) :
  ∃ u k',Is G 54 [.p r_g 0,.n v,.n d] h u k'∧V.tu [.n r.1,.n r.2.1,.b r.2.2]=u∧Own (fun r=>r<h.n) h k' []:=by
 refine WC.is (ZaB Zev ?_)
 unfold ZaG at hp
 let B:Nat→Prop:=(fun r=>r<h.n)
 have hO:Own B h h []:=Own.start0 h
 refine Zj (Zb (.n 0) rfl (Zb (.n 0) rfl (Zb (.b false) rfl (Ze (ZM (Zj (Zb (.p r_g 0) rfl (Zb (.n v) rfl (Zb (.n d) rfl ?_)))))))))
 obtain ⟨x,⟨_,H,C,rfl,E⟩,hp⟩:=bdk hp fun _=>Zbb.ok (h:=h)  (hO.rdB0 (RdB.of b_g)).choose_spec (hO.rd0 s_g_cells.rd)
 refine Zan rfl rfl C ?_
 have i:=hO.call E rfl
 refine Zc (Zcl rfl) (Zb (.b (!x)) rfl ?_)
 obtain ⟨t,F,hp⟩:=Za7 hp
 refine Zay 12 (fun f k=>H=k∧f 26=.b t∧f 0=.p r_g 0∧f 1=.n v∧f 2=.n d) ?_ ?_
 ·clear hp;rcases ZaW F with ⟨a,hp⟩|⟨a,hp⟩
  ·refine Zs rfl a (Zs rfl a (Zs rfl a (Zs rfl a (Zs rfl a (Zs rfl a (Zs rfl a (Zs rfl a (Zs rfl a (Zs rfl a (Zs rfl a (Zc (ZaH (v:=.b t) rfl a (Eq.trans (b:=V.b true) rfl (congrArg V.b (Option.some.inj hp)))) (Zo ?_))))))))))))
   exact ⟨rfl,rfl,rfl,rfl,rfl⟩
  ·refine Z6 rfl a (Zb (.p r_g 0) rfl (Z6 rfl a (Zc (ZdJ rfl) (Z6 rfl a (Zc (ZaU (r:=r_g) (o:=0) rfl rfl) (Z6 rfl a (Zc (Zad (i.rdB0 (RdB.of b_g)).choose_spec rfl rfl) (Z6 rfl a (Zb (.n v) rfl (Z6 rfl a (Zb (.n d) rfl (Z6 rfl a (ckk hp fun j hp=>?_)))))))))))))
   refine Zc (ZW (i.rd0 s_g_cells.rd) rfl rfl j) (Z6 rfl a (Zc (Za6 (i.rd0 s_g_cells.rd) (Zf j) rfl rfl) (Z6 rfl a (ckk hp fun q hp=>Zc (Zbz (i.rd0 s_g_cells.rd) (Zf j) rfl rfl q rfl) (Z6 rfl a (Zc (zt (i.rd0 s_g_cells.rd) rfl (Zf j) (zS q)) (Z6 rfl a (Zc (ZbZ rfl rfl) (Zc (Za0 (v:=.b t) rfl a (Eq.trans (b:=V.b (decide (((gi g.cells v.toNat).Next).get d=(-1)))) rfl (congrArg V.b (Option.some.inj hp)))) (Zo ?_))))))))))
   exact ⟨rfl,rfl,rfl,rfl,rfl⟩
 rintro _ _ ⟨rfl,D,s,w,y⟩
 refine Ze (zD hp D (fun A hp=>?_) (fun A hp=>?_))
 ·refine Zj (Zb (.n 0) rfl (Zb (.n 0) rfl (Zb (.b false) rfl (Ze (zR (zl (zf (zj rfl (zj rfl (zj rfl ZF))) ?_)))))))
  cases hp
  exact ⟨rfl,(i.pk [])⟩
 ·refine Za3 (ZM (Zh2 ?_))
  have c:=i.bump 23
  refine Zac _ s (ZG rfl (ZdJ rfl) (ZG rfl (ZaU (r:=r_g) (o:=0) rfl rfl) (ZG rfl (Zad (c.rdB0 (RdB.of b_g)).choose_spec rfl rfl) (Zac _ w (Zac _ y (ckk hp fun e hp=>ZG rfl (ZW (c.rd0 s_g_cells.rd) rfl rfl e) (ZG rfl (Za6 (c.rd0 s_g_cells.rd) (Zf e) rfl rfl) (ckk hp fun l hp=>ZG rfl (Zbz (c.rd0 s_g_cells.rd) (Zf e) rfl rfl l rfl) (ZG rfl (zt (c.rd0 s_g_cells.rd) rfl (Zf e) (zS l)) (Zac _ s (ZG rfl (ZdJ rfl) ?_)))))))))))
  refine ZG rfl (ZaU (r:=r_g) (o:=0) rfl rfl) (ZG rfl (Zad (c.rdB0 (RdB.of b_g)).choose_spec rfl rfl) (Zac _ w (Zac _ y (ZG rfl (ZW (c.rd0 s_g_cells.rd) rfl rfl e) (ZG rfl (Za6 (c.rd0 s_g_cells.rd) (Zf e) rfl rfl) (ZG rfl (Zbz (c.rd0 s_g_cells.rd) (Zf e) rfl rfl l rfl) (ZG rfl (zt (c.rd0 s_g_cells.rd) rfl (Zf e) (Zc3 l)) (Zac (.n (((gi g.cells v.toNat).Next).get d)) rfl (Zac (.n (((gi g.cells v.toNat).Owner).get d)) rfl (Zac (.b true) rfl (Zal (Zx (zR ?_)))))))))))))
  refine zf (zj rfl (zj rfl (zj rfl ZF))) ?_
  cases hp
  exact ⟨rfl,(c.pk [])⟩

theorem ZcV.ok {h:Hp}    {r:Za}(hp:ZcV =some r) :
  ∃ u k',Is G 74 [] h u k'∧V.ag (Zd.c r)=u∧Own (fun r=>r<h.n) h k' []:=by
 refine WC.is (ZaB Zf7 ?_)
 unfold ZcV at hp
 let B:Nat→Prop:=(fun r=>r<h.n)
 have hO:Own B h h []:=Own.start0 h
 refine Zj (Zaw (hO.alloc (cs:=Zd.c (⟨⟨0,0,0,0⟩,⟨0,0,0,0⟩⟩:Za)) hO.fr) ?_)
 rintro _ _ ⟨_,rfl,_,_,b⟩
 refine Ze (Zj (Zc (ZcA (cs:=Zc8.c (⟨(-1),(-1),(-1),(-1)⟩:A4 Int)) (by rw [(zP (v:=.n (-1)) rfl (zP (v:=.n (-1)) rfl (zP (v:=.n (-1)) rfl (zP (v:=.n (-1)) rfl Zbs))))];rfl)) (Zc (ZcA (cs:=Zd.c (⟨(⟨(-1),(-1),(-1),(-1)⟩:A4 Int),(⟨0,0,0,0⟩:A4 Int)⟩:Za)) (by rw [(zP (v:=.ag (Zc8.c (⟨(-1),(-1),(-1),(-1)⟩:A4 Int))) rfl Zbs)];rfl)) (Zaw (b.stb (cs':=Zd.c (⟨(⟨(-1),(-1),(-1),(-1)⟩:A4 Int),(⟨0,0,0,0⟩:A4 Int)⟩:Za)) 0 rfl rfl rfl rfl ⟨rfl,Nat.le_of_ble_eq_true rfl,rfl⟩ rfl) ?_))))
 rintro _ _ ⟨rfl,_,_,a⟩
 refine Ze (zR (zf (Zjz rfl (a.box 0 rfl) rfl ZF) ?_))
 cases hp
 exact ⟨rfl,(a.pk [])⟩

theorem Zb6.ok {h:Hp}{g:ZK}{r_g:Nat}{v_g_cells:V}(H:Own (Bm h [ZaF r_g [v_g_cells],eSl Zd v_g_cells g.cells]) h h [ZaF r_g [v_g_cells],eSl Zd v_g_cells g.cells]) {r:Int×Int×ZK}(hp:Zb6 g=some r) :
  ∃ u k',Is G 50 [.p r_g 0] h u k'∧∃ A,V.tu [.n r.1,.n r.2.1]=u∧Own (Bm h [ZaF r_g [v_g_cells],eSl Zd v_g_cells g.cells]) h k' [ZaF r_g [A],eSl Zd A r.2.2.cells]:=by
 refine WC.is (ZaB ZeC ?_)
 unfold Zb6 at hp
 let B:Nat→Prop:=(Bm h [ZaF r_g [v_g_cells],eSl Zd v_g_cells g.cells])
 have hO:Own B h h [ZaF r_g [v_g_cells],eSl Zd v_g_cells g.cells]:=H
 refine Zj (Zb (.n 0) rfl (Zb (.n 0) rfl (Ze (ZM (Za2 (Zj (Zb (.p r_g 0) rfl (Zc (ZjF rfl rfl) (Zb (.b false) rfl (Zo ?_))))))))))
 refine Zx (ZjD rfl rfl (Zj (Zb (.p r_g 0) rfl ?_)))
 obtain ⟨x,⟨_,j,J,rfl,Q⟩,hp⟩:=bdk hp fun _=>ZaI.ok (h:=h)  (hO.box 0 rfl) (hO.sl 1 rfl)
 refine Zan rfl rfl J ?_
 have a:=hO.call Q rfl
 refine Zc (ZbZ rfl rfl) (Zb (.b (decide (x=4096))) rfl (Ze (zD hp rfl (fun D hp=>?_) (fun D hp=>?_))))
 ·refine Zj (Zb (.n 0) rfl (Zb (.n 6) rfl (Ze (zR (Zbt (zl (zf (zj rfl (zj rfl ZF)) ?_)))))))
  cases hp
  exact ⟨v_g_cells,rfl,(a.pk [0,1])⟩
 ·refine Zc5 (Zat (Zx (ZM (ZeS ?_))))
  have t:=a.bump 11
  have k:=Fresh.start j 11
  have y:∀ {i:Nat},h.n≤j.n+i:=Nat.le_trans a.n (Nat.le_add_right _ _)
  refine Zaq (.p r_g 0) rfl (Zaq (.p r_g 0) rfl (ZX (ZdJ rfl) (ZX (ZaU (r:=r_g) (o:=0) rfl rfl) (ZX (Zad (t.box 0 rfl) rfl rfl) ?_))))
  obtain ⟨x1,⟨_,_,K,rfl,f⟩,hp⟩:=bdk hp fun _=>ZcV.ok (h:=(j.bump 11))  
  refine Zhj rfl ZhO K ?_
  have s:=k.call f
  have O:=t.call f rfl
  refine Zdf (O.bsl (E:=Zd) (l:=[x1]) ⟨s.m 6 (by decide) (by decide),y⟩ (by rw [(zP (v:=.ag (Zd.c x1)) rfl Zbs)];rfl) rfl) ?_
  rintro _ _ _ ⟨_,M,w⟩
  have N:=s.kept M (by decide)
  refine ckk hp fun F hp=>Zdf (w.app (bytes:=64) 1 ⟨N.m 7 (by decide) (by decide),y⟩ rfl (w.sl 2 rfl) rfl rfl (fun _=>rfl) F (by decide)) ?_
  rintro C _ _ ⟨_,d⟩
  refine ZX (ZdJ rfl) (ZX (ZaU (r:=r_g) (o:=0) rfl rfl) (Zdf (d.stb (cs':=[C]) 0 rfl rfl rfl (d.sl 1 rfl).cells ⟨rfl,Nat.le_of_ble_eq_true rfl,(all_cons (d.sl 1 rfl).oneV rfl)⟩ rfl) ?_))
  rintro _ S _ ⟨rfl,_,_,e⟩
  refine Zch ?_
  refine And.intro ?_ ?_
  ·intro q hq
   simp only [List.mem_cons,List.not_mem_nil,or_false] at hq
   rcases hq with rfl|rfl
   ·refine Zml rfl rfl ?_
    ·exact (fun r hm hc=>hc (f.base r (Nat.lt_of_lt_of_le (a.ltAt 0 rfl _ (tch (ZbS hm) rfl)) (Nat.le_trans (Nat.le_add_right _ _) k.n))))
   ·refine Zak ?_ ?_
    ·exact (fun h=>nomatch h)
    ·exact (fun _ hm=>Nat.lt_irrefl _ (Nat.lt_of_lt_of_le (a.ltAt 0 rfl _ (tch (ZbS hm) rfl)) (Nat.le_add_right _ _)))
  refine Zx (Zj (Zb (.p r_g 0) rfl ?_))
  obtain ⟨x2,⟨_,_,L,rfl,R⟩,hp⟩:=bdk hp fun _=>ZaI.ok (h:=S)  (e.box 0 rfl) (e.sl 1 rfl)
  refine Zan rfl rfl L ?_
  have P:=e.call R rfl
  refine ckk hp fun I hp=>Zc (Zmb rfl rfl I) (Zb (.n (x2-1)) rfl (Zb (.n 0) rfl (Ze (zR (zf (zj rfl (zj rfl ZF)) ?_)))))
  cases hp
  exact ⟨C,rfl,(P.pk [0,1])⟩

end Mu
