/- The code comes to what was worked out. -/
import Derived.Test.YtjhlegefgllihaaMuDf
import Derived.Test.YtjhlegefgllihaaMuPa
import Derived.Test.YtjhlegefgllihaaMuC4
set_option linter.unusedVariables false
set_option linter.unnecessarySimpa false
set_option linter.unusedSimpArgs false
set_option maxHeartbeats 2000000
set_option maxRecDepth 10000
namespace Mu
open Go (IntKind BinOp UnOp)
theorem za.ok {h:Hp}{l:List Za}{at_:List Zg}{v_l:V}{v_at_:V}(s_l:Sl Zw h v_l l) (s_at_:Sl Zk h v_at_ at_) {r:Bool}(hp:za l at_=some r) :
  ∃ u k',Is G 261 [v_l,v_at_] h u k'∧V.b r=u∧Own (fun r=>r<h.n) h k' []:=by
 refine WC.is (ZaI Zes ?_);unfold za at hp;let B:Nat→Prop:=(fun r=>r<h.n);have hO:Own B h h []:=Own.start0 h;refine Zi (Zb (.b false) rfl (Zd (ZN (Zi (Zb v_at_ rfl (Zc (Za9 (hO.rd0 s_at_.rd) rfl) (Zb v_l rfl (Zc (Za9 (hO.rd0 s_l.rd) rfl) (Zc (Zdm rfl rfl) (Zm ?_))))))))));refine Zu (zR hp rfl (fun aU hp=>?_) (fun aU hp=>?_))
 ·refine Zi (Zb (.b false) rfl (Zd (Zaq (zP (zy (zV rfl ZP) ?_)))));cases hp;exact ⟨rfl,(hO.pk [])⟩
 ·refine ZaF (Zi (Zb v_l rfl (Zb v_at_ rfl ?_)));obtain ⟨x,⟨_,bF,a0,rfl,bB⟩,hp⟩:=bdk hp fun _=>Zaf.ok (h:=h)  (hO.rd0 s_l.rd) (hO.rd0 s_at_.rd);refine Zbh rfl rfl a0 ?_;have ad:=hO.call bB rfl;refine Zb (.b x) rfl (Zd (ZN (Zi (Zb (.b x) rfl (Zc (ZcH rfl) (Zd (zR hp rfl (fun aV hp=>?_) (fun aV hp=>?_))))))))
  ·refine Zi (Zb (.b false) rfl (Zd (Zaq (zP (zy (zV rfl ZP) ?_)))));cases hp;exact ⟨rfl,(ad.pk [])⟩
  ·refine ZaF (Zi (Zb v_l rfl ?_));obtain ⟨⟨x1,x2⟩,⟨_,_,a1,L,M,N,H,O,I,rfl,bC⟩,hp⟩:=bdk hp fun _=>Zb2.ok (h:=bF)  (ad.rd0 s_l.rd);refine Zbh rfl rfl a1 ?_;have aO:=ad.call bC rfl;refine Zb (.tu [.ag [L,M,N,O],.b x2]) rfl (Zc (Zbg rfl rfl) (Zc (Zbg rfl rfl) (z8 (aO.alloc (cs:=[.sn,.sn,.sn,.sn]) aO.fr) ?_)));rintro _ _ ⟨F,rfl,_,_,U⟩;refine z8 (U.stb (cs':=[L,M,N,O]) 6 rfl rfl rfl rfl ⟨rfl,Nat.le_of_ble_eq_true rfl,(all_cons (U.sl 0 rfl).oneV (all_cons (U.sl 1 rfl).oneV (all_cons (U.sl 2 rfl).oneV (all_cons (U.sl 4 rfl).oneV all_nil))))⟩ rfl) ?_;rintro _ bG ⟨rfl,_,_,C⟩;refine Zb (.b x2) rfl (Zd (Zi (Zc (Zba (C.box 6 rfl) rfl rfl) ?_)));obtain ⟨x3,⟨_,_,a2,y,rfl,bD⟩,hp⟩:=bdk hp fun _=>zG.ok (h:=bG)  (C.sl 0 rfl) (C.sl 1 rfl) (C.sl 2 rfl) (C.allLen 3 rfl:(H).length=(x1.Vert).length) (fun j hj=>C.inn 3 rfl hj) (C.sl 4 rfl) (C.allLen 5 rfl:(I).length=(x1.Horz).length) (fun j hj=>C.inn 5 rfl hj);refine Zbh rfl rfl a2 ?_;have bA:=C.call bD rfl;refine Zb y rfl (Zd (ZN (Zi (Zb (.n 0) rfl (Zd (Zau (ZbZ hp (fun i fr k=>fr 1=v_at_∧fr 6=.p F 0∧fr 8=y∧fr 9=.n i∧Own B h k [zB F [L,M,N,O],eSl Zt L x1.X,eSl Zt M x1.Y,eSl eV N H,zn Zt H x1.Vert,eSl eV O I,zn Zt I x1.Horz,eSl z6 y x3]) (fun|.inl _,e,fr,k=>e=(.exit 0)∧Own B h k []|.inr _,e,fr,k=>e=.ret∧fr 4=.b false∧Own B h k []) ⟨rfl,rfl,rfl,rfl,(bA.pk [6,0,1,2,3,4,5,7])⟩ ?_ ?_)))))))
   ·rintro i _ _ ⟨bJ,bK,aT,al,af⟩ _ hp;dsimp only [za.s0] at hp;refine ZN (Zi (Zb _ al (Zb _ aT (Zc (Za9 (af.sl 7 rfl) rfl) (Zc (Zah rfl rfl) (Zd (zR hp rfl (fun aW hp=>?_) (fun aW hp=>?_))))))))
    ·refine ZaF (ZN (Zau (Zi (Zb _ al (ckk hp fun ao hp=>Zc (zU rfl rfl ao) (Zb (.n (i+1)) rfl (Zd (Zau (ZbZ hp (fun k_ fr k=>fr 1=v_at_∧fr 6=.p F 0∧fr 8=y∧fr 9=.n i∧fr 10=.n k_∧Own B h k [zB F [L,M,N,O],eSl Zt L x1.X,eSl Zt M x1.Y,eSl eV N H,zn Zt H x1.Vert,eSl eV O I,zn Zt I x1.Horz,eSl z6 y x3]) (fun|.inl _,e,fr,k=>e=(.exit 2)∧fr 1=v_at_∧fr 6=.p F 0∧fr 8=y∧fr 9=.n i∧Own B h k [zB F [L,M,N,O],eSl Zt L x1.X,eSl Zt M x1.Y,eSl eV N H,zn Zt H x1.Vert,eSl eV O I,zn Zt I x1.Horz,eSl z6 y x3]|.inr _,e,fr,k=>e=.ret∧fr 4=.b false∧Own B h k []) ⟨bJ,bK,aT,al,rfl,(af.pk [0,1,2,3,4,5,6,7])⟩ ?_ ?_)))))))))
     ·rintro k_ _ bH ⟨W,D,E,T,S,ai⟩ _ hp;dsimp only [za.s1] at hp;refine ZN (Zi (Zb _ S (Zb _ E (Zc (Za9 (ai.sl 7 rfl) rfl) (Zc (Zah rfl rfl) (Zd (zR hp rfl (fun aX hp=>?_) (fun aX hp=>?_))))))))
      ·refine ZaF (ZN (Zau (ZN (Zdt ?_))));have a:=ai.bump 23;refine Z6 (Zba (a.box 0 rfl) D rfl) (ZaD _ E (ZaD _ T (ckk hp fun J hp=>Z6 (zd (a.sl 7 rfl) rfl rfl J) (Z6 (Zbk (a.sl 7 rfl) (Ze J) rfl rfl) (Z6 (zL (a.sl 7 rfl) rfl (Ze J) rfl) (ZaD _ E (ZaD _ T (Z6 (zd (a.sl 7 rfl) rfl rfl J) (Z6 (Zbk (a.sl 7 rfl) (Ze J) rfl rfl) (Z6 (zL (a.sl 7 rfl) rfl (Ze J) rfl) (ZaD _ E (ZaD _ S ?_))))))))))));refine ckk hp fun K hp=>Z6 (zd (a.sl 7 rfl) rfl rfl K) (Z6 (Zbk (a.sl 7 rfl) (Ze K) rfl rfl) (Z6 (zL (a.sl 7 rfl) rfl (Ze K) rfl) (ZaD _ E (ZaD _ S (Z6 (zd (a.sl 7 rfl) rfl rfl K) (Z6 (Zbk (a.sl 7 rfl) (Ze K) rfl rfl) (Z6 (zL (a.sl 7 rfl) rfl (Ze K) rfl) ?_)))))));obtain ⟨x4,⟨_,aj,a3,rfl,bE⟩,hp⟩:=bdk hp fun _=>Zat.ok (h:=(bH.bump 23))  (a.sl 1 rfl) (a.sl 2 rfl) (a.sl 3 rfl) (a.allLen 4 rfl:(H).length=(x1.Vert).length) (fun j hj=>a.inn 4 rfl hj) (a.sl 5 rfl) (a.allLen 6 rfl:(I).length=(x1.Horz).length) (fun j hj=>a.inn 6 rfl hj);refine Zey rfl rfl a3 ?_;have Q:=a.call bE rfl;refine ZaD (.b x4) rfl (Zbu ?_);refine And.intro ?_ ?_
       ·intro q hq;simp only [List.mem_cons,List.not_mem_nil,or_false] at hq;rcases hq with rfl|rfl|rfl|rfl|rfl|rfl|rfl|rfl|rfl|rfl
        ·refine zi ?_ ?_
         ·exact nofun
         ·exact nofun
        ·refine zi ?_ ?_
         ·exact nofun
         ·exact nofun
        ·refine zi ?_ ?_
         ·exact nofun
         ·exact nofun
        ·refine zi ?_ ?_
         ·exact nofun
         ·exact nofun
        ·refine zi ?_ ?_
         ·exact nofun
         ·exact nofun
        ·refine zi ?_ ?_
         ·exact nofun
         ·exact nofun
        ·refine zi ?_ ?_
         ·exact nofun
         ·exact nofun
        ·refine zi ?_ ?_
         ·exact nofun
         ·exact nofun
        ·refine zi ?_ ?_
         ·exact nofun
         ·exact nofun
        ·refine zi ?_ ?_
         ·exact nofun
         ·exact nofun
       refine Zu (ZN (Zdt ?_));have t:=Q.bump 14;have a9:=Fresh.start aj 14;have aR:∀ {i:Nat},h.n≤aj.n+i:=Nat.le_trans Q.n (Nat.le_add_right _ _);refine Z6 (Zba (t.box 0 rfl) D rfl) (ZaD _ E (ZaD _ T (Z6 (zd (t.sl 7 rfl) rfl rfl J) (Z6 (ZcM (t.sl 7 rfl) rfl (Ze J)) (ZaD _ W ?_)))));obtain ⟨⟨x5,x6⟩,⟨_,_,a4,rfl,aP⟩,hp⟩:=bdk hp fun _=>Zbv.ok (h:=(aj.bump 14))  (t.sl 1 rfl) (t.sl 2 rfl) (t.sl 3 rfl) (t.allLen 4 rfl:(H).length=(x1.Vert).length) (fun j hj=>t.inn 4 rfl hj) (t.sl 5 rfl) (t.allLen 6 rfl:(I).length=(x1.Horz).length) (fun j hj=>t.inn 6 rfl hj) (t.rd0 s_at_.rd);refine Zey rfl rfl a4 ?_;have aq:=a9.call aP;have br:=t.call aP rfl;refine ZaD (.tu [.ag (Zk.c x5),.ag (Zk.c x6)]) rfl (Z6 (Zbg rfl rfl) (Z6 (Zbg rfl rfl) (Zcx (br.alloc (cs:=Zk.c (⟨0,0⟩:Zg)) ⟨aq.m 10 (by decide) (by decide),aR⟩) ?_)));rintro _ _ _ ⟨ab,rfl,_,a6,bs⟩;have ba:=aq.kept a6 (by decide);refine Zcx (bs.alloc (cs:=Zk.c (⟨0,0⟩:Zg)) ⟨ba.m 11 (by decide) (by decide),aR⟩) ?_;rintro _ _ _ ⟨am,rfl,_,_,bt⟩;refine Zcx (bt.stb (cs':=Zk.c x5) 8 rfl rfl rfl rfl ⟨rfl,Nat.le_of_ble_eq_true rfl,rfl⟩ rfl) ?_;rintro _ _ _ ⟨rfl,_,_,bu⟩;refine Zcx (bu.stb (cs':=Zk.c x6) 9 rfl rfl rfl rfl ⟨rfl,Nat.le_of_ble_eq_true rfl,rfl⟩ rfl) ?_;rintro _ ak _ ⟨rfl,_,_,R⟩;refine Zbu ?_;refine And.intro ?_ ?_
       ·intro q hq;simp only [List.mem_cons,List.not_mem_nil,or_false] at hq;rcases hq with rfl|rfl|rfl|rfl|rfl|rfl|rfl|rfl
        ·refine zi ?_ ?_
         ·exact nofun
         ·exact nofun
        ·refine zi ?_ ?_
         ·exact nofun
         ·exact (fun _ hm=>Nat.lt_irrefl _ (Nat.lt_of_lt_of_le (Q.ltAt 0 rfl _ (tch (Zbm hm) D)) (Nat.le_add_right _ _)))
        ·refine zi ?_ ?_
         ·exact nofun
         ·exact (fun _ hm=>Nat.lt_irrefl _ (Nat.lt_of_lt_of_le (Q.ltAt 7 rfl _ (Zco (tch (Zbm hm) rfl))) (Nat.le_add_right _ _)))
        ·refine ZdI rfl ?_
         ·exact (fun r hm hc=>nomatch hm)
        ·refine zi ?_ ?_
         ·exact nofun
         ·exact (fun _ hm=>Nat.lt_irrefl _ (Nat.lt_of_lt_of_le (Q.ltAt 0 rfl _ (tch (Zbm hm) D)) (Nat.le_add_right _ _)))
        ·refine zi ?_ ?_
         ·exact nofun
         ·exact (fun _ hm=>Nat.lt_irrefl _ (Nat.lt_of_lt_of_le (Q.ltAt 7 rfl _ (Zco (tch (Zbm hm) rfl))) (Nat.le_add_right _ _)))
        ·refine ZdI rfl ?_
         ·exact (fun r hm hc=>nomatch hm)
        ·refine zi ?_ ?_
         ·exact (fun _=>List.not_mem_nil)
         ·exact (fun _=>List.not_mem_nil)
       refine Zu (ZN (Zdt ?_));have v:=R.bump 14;have bb:=Fresh.start ak 14;have aS:∀ {i:Nat},h.n≤ak.n+i:=Nat.le_trans R.n (Nat.le_add_right _ _);refine Z6 (Zba (v.box 0 rfl) D rfl) (ZaD _ E (ZaD _ S (Z6 (zd (v.sl 7 rfl) rfl rfl K) (Z6 (ZcM (v.sl 7 rfl) rfl (Ze K)) (ZaD _ W ?_)))));obtain ⟨⟨x7,x8⟩,⟨_,_,a5,rfl,aQ⟩,hp⟩:=bdk hp fun _=>Zbv.ok (h:=(ak.bump 14))  (v.sl 1 rfl) (v.sl 2 rfl) (v.sl 3 rfl) (v.allLen 4 rfl:(H).length=(x1.Vert).length) (fun j hj=>v.inn 4 rfl hj) (v.sl 5 rfl) (v.allLen 6 rfl:(I).length=(x1.Horz).length) (fun j hj=>v.inn 6 rfl hj) (v.rd0 s_at_.rd);refine Zey rfl rfl a5 ?_;have ap:=bb.call aQ;have bv:=v.call aQ rfl;refine ZaD (.tu [.ag (Zk.c x7),.ag (Zk.c x8)]) rfl (Z6 (Zbg rfl rfl) (Z6 (Zbg rfl rfl) (Zcx (bv.alloc (cs:=Zk.c (⟨0,0⟩:Zg)) ⟨ap.m 10 (by decide) (by decide),aS⟩) ?_)));rintro _ _ _ ⟨an,rfl,_,a7,bw⟩;have a8:=ap.kept a7 (by decide);refine Zcx (bw.alloc (cs:=Zk.c (⟨0,0⟩:Zg)) ⟨a8.m 11 (by decide) (by decide),aS⟩) ?_;rintro _ _ _ ⟨ac,rfl,_,_,bx⟩;refine Zcx (bx.stb (cs':=Zk.c x7) 10 rfl rfl rfl rfl ⟨rfl,Nat.le_of_ble_eq_true rfl,rfl⟩ rfl) ?_;rintro _ _ _ ⟨rfl,_,_,bz⟩;refine Zcx (bz.stb (cs':=Zk.c x8) 11 rfl rfl rfl rfl ⟨rfl,Nat.le_of_ble_eq_true rfl,rfl⟩ rfl) ?_;rintro _ aa _ ⟨rfl,_,_,A⟩;refine Zbu ?_;refine And.intro ?_ ?_
       ·intro q hq;simp only [List.mem_cons,List.not_mem_nil,or_false] at hq;rcases hq with rfl|rfl|rfl|rfl|rfl|rfl|rfl|rfl
        ·refine zi ?_ ?_
         ·exact nofun
         ·exact nofun
        ·refine zi ?_ ?_
         ·exact nofun
         ·exact (fun _ hm=>Nat.lt_irrefl _ (Nat.lt_of_lt_of_le (R.ltAt 0 rfl _ (tch (Zbm hm) D)) (Nat.le_add_right _ _)))
        ·refine zi ?_ ?_
         ·exact nofun
         ·exact (fun _ hm=>Nat.lt_irrefl _ (Nat.lt_of_lt_of_le (R.ltAt 7 rfl _ (Zco (tch (Zbm hm) rfl))) (Nat.le_add_right _ _)))
        ·refine ZdI rfl ?_
         ·exact (fun r hm hc=>nomatch hm)
        ·refine zi ?_ ?_
         ·exact nofun
         ·exact (fun _ hm=>Nat.lt_irrefl _ (Nat.lt_of_lt_of_le (R.ltAt 0 rfl _ (tch (Zbm hm) D)) (Nat.le_add_right _ _)))
        ·refine zi ?_ ?_
         ·exact nofun
         ·exact (fun _ hm=>Nat.lt_irrefl _ (Nat.lt_of_lt_of_le (R.ltAt 7 rfl _ (Zco (tch (Zbm hm) rfl))) (Nat.le_add_right _ _)))
        ·refine ZdI rfl ?_
         ·exact (fun r hm hc=>nomatch hm)
        ·refine zi ?_ ?_
         ·exact (fun _=>List.not_mem_nil)
         ·exact (fun _=>List.not_mem_nil)
       refine Zu (Zi (Zc (zz (r:=am) (o:=0) rfl rfl) (Zc (ZY (A.box 9 rfl) rfl rfl) (Zc (zz (r:=an) (o:=0) rfl rfl) (Zc (ZY (A.box 10 rfl) rfl rfl) (Zc (Zah rfl rfl) (Zb (.b (decide (x6.X<x7.X))) rfl (ZaX 6 (fun f k=>aa=k∧f 101=.b ((decide (x6.X<x7.X))||(decide (x8.X<x5.X)))∧f 1=v_at_∧f 10=.n k_∧f 11=.b x4∧f 12=.p ab 0∧f 13=.p am 0∧f 14=.p an 0∧f 15=.p ac 0∧f 6=.p F 0∧f 8=y∧f 9=.n i) ?_ ?_))))))))
       ·rcases bc (decide (x6.X<x7.X)) with d|d
        ·refine Zz rfl d (Zz rfl d (Zz rfl d (Zz rfl d (Zz rfl d (Zc (ZcN (w:=(decide (x6.X<x7.X))||(decide (x8.X<x5.X))) rfl d rfl) (Zm ?_))))));exact ⟨rfl,rfl,W,S,rfl,rfl,rfl,rfl,rfl,D,E,T⟩
        ·refine ZK rfl d (Zc (zz (r:=ac) (o:=0) rfl rfl) (ZK rfl d (Zc (ZY (A.box 11 rfl) rfl rfl) (ZK rfl d (Zc (zz (r:=ab) (o:=0) rfl rfl) (ZK rfl d (Zc (ZY (A.box 8 rfl) rfl rfl) (ZK rfl d (Zc (Zah rfl rfl) (Zc (ZcO rfl d rfl) (Zm ?_)))))))))));exact ⟨rfl,rfl,W,S,rfl,rfl,rfl,rfl,rfl,D,E,T⟩
       rintro _ _ ⟨rfl,bd,ar,au,av,aw,be,bf,ax,ay,az,aA⟩;refine Zb _ bd (ZaX 6 (fun f k=>aa=k∧f 108=.b (((decide (x6.X<x7.X))||(decide (x8.X<x5.X)))||(decide (x6.Y<x7.Y)))∧f 1=v_at_∧f 10=.n k_∧f 11=.b x4∧f 12=.p ab 0∧f 15=.p ac 0∧f 6=.p F 0∧f 8=y∧f 9=.n i) ?_ ?_)
       ·rcases bc ((decide (x6.X<x7.X))||(decide (x8.X<x5.X))) with g|g
        ·refine Zz rfl g (Zz rfl g (Zz rfl g (Zz rfl g (Zz rfl g (Zc (ZcN (w:=((decide (x6.X<x7.X))||(decide (x8.X<x5.X)))||(decide (x6.Y<x7.Y))) rfl g rfl) (Zm ?_))))));exact ⟨rfl,rfl,ar,au,av,aw,ax,ay,az,aA⟩
        ·refine ZK rfl g (Zc (zz (r:=am) (o:=0) be rfl) (ZK rfl g (Zc (ZY (A.box 9 rfl) rfl rfl) (ZK rfl g (Zc (zz (r:=an) (o:=0) bf rfl) (ZK rfl g (Zc (ZY (A.box 10 rfl) rfl rfl) (ZK rfl g (Zc (Zah rfl rfl) (Zc (ZcO rfl g rfl) (Zm ?_)))))))))));exact ⟨rfl,rfl,ar,au,av,aw,ax,ay,az,aA⟩
       rintro _ _ ⟨rfl,bg,aB,aC,aD,bh,bi,aE,aF,aG⟩;refine Zb _ bg (ZaX 6 (fun f k=>aa=k∧f 115=.b ((((decide (x6.X<x7.X))||(decide (x8.X<x5.X)))||(decide (x6.Y<x7.Y)))||(decide (x8.Y<x5.Y)))∧f 1=v_at_∧f 10=.n k_∧f 11=.b x4∧f 6=.p F 0∧f 8=y∧f 9=.n i) ?_ ?_)
       ·rcases bc (((decide (x6.X<x7.X))||(decide (x8.X<x5.X)))||(decide (x6.Y<x7.Y))) with s|s
        ·refine Zz rfl s (Zz rfl s (Zz rfl s (Zz rfl s (Zz rfl s (Zc (ZcN (w:=(((decide (x6.X<x7.X))||(decide (x8.X<x5.X)))||(decide (x6.Y<x7.Y)))||(decide (x8.Y<x5.Y))) rfl s rfl) (Zm ?_))))));exact ⟨rfl,rfl,aB,aC,aD,aE,aF,aG⟩
        ·refine ZK rfl s (Zc (zz (r:=ac) (o:=0) bi rfl) (ZK rfl s (Zc (ZY (A.box 11 rfl) rfl rfl) (ZK rfl s (Zc (zz (r:=ab) (o:=0) bh rfl) (ZK rfl s (Zc (ZY (A.box 8 rfl) rfl rfl) (ZK rfl s (Zc (Zah rfl rfl) (Zc (ZcO rfl s rfl) (Zm ?_)))))))))));exact ⟨rfl,rfl,aB,aC,aD,aE,aF,aG⟩
       rintro _ _ ⟨rfl,bk,aH,aI,bj,aJ,aK,aL⟩;refine Zb _ bk (Zd (Zi (Zb _ bj (Zc (ZcH rfl) (Zb (.b (!x4)) rfl (ZaX 3 (fun f k=>aa=k∧f 121=.b ((!x4)&&(!((((decide (x6.X<x7.X))||(decide (x8.X<x5.X)))||(decide (x6.Y<x7.Y)))||(decide (x8.Y<x5.Y)))))∧f 1=v_at_∧f 10=.n k_∧f 6=.p F 0∧f 8=y∧f 9=.n i) ?_ ?_))))))
       ·rcases bc (!x4) with P|P
        ·refine ZK rfl P (Zb (.b ((((decide (x6.X<x7.X))||(decide (x8.X<x5.X)))||(decide (x6.Y<x7.Y)))||(decide (x8.Y<x5.Y)))) rfl (ZK rfl P (Zc (ZcH rfl) (Zc (Zfc rfl P rfl) (Zm ?_)))));exact ⟨rfl,rfl,aH,aI,aJ,aK,aL⟩
        ·refine Zz rfl P (Zz rfl P (Zc (Zfb (w:=(!x4)&&(!((((decide (x6.X<x7.X))||(decide (x8.X<x5.X)))||(decide (x6.Y<x7.Y)))||(decide (x8.Y<x5.Y))))) rfl P rfl) (Zm ?_)));exact ⟨rfl,rfl,aH,aI,aJ,aK,aL⟩
       rintro _ _ ⟨rfl,bn,bl,bm,bo,bp,bq⟩;refine Zd (zR hp bn (fun aY hp=>?_) (fun aY hp=>?_))
       ·refine Zi (Zb (.b false) rfl (Zd (Zaq (ZbV (zP ?_)))));cases hp;exact ⟨nofun,rfl,rfl,(A.pk [])⟩
       ·refine ZcI (Zap (Zu (Zao (Zb _ bm (ckk hp fun aZ hp=>Zc (zU rfl rfl aZ) (Zb (.n (k_+1)) rfl (Zm ?_)))))));cases hp;exact ⟨rfl,bl,bo,bp,bq,rfl,(A.pk [0,1,2,3,4,5,6,7])⟩
      ·refine ZbN (Zag ?_);cases hp;exact ⟨nofun,rfl,W,D,E,T,(ai.pk [0,1,2,3,4,5,6,7])⟩
     rintro (_|_) hp _ _ _ aN
     ·obtain ⟨rfl,bL,bN,bO,bP,ah⟩:=aN;refine ZaO (Zap (Zu (Zao (Zb _ bP (Zc (zU rfl rfl ao) (Zb (.n (i+1)) rfl (Zm ?_)))))));cases hp;exact ⟨rfl,bL,bN,bO,rfl,(ah.pk [0,1,2,3,4,5,6,7])⟩
     ·obtain ⟨rfl,bM,ah⟩:=aN;refine ZbV (ZbV (zP ?_));cases hp;exact ⟨nofun,rfl,bM,(ah.pk [])⟩
    ·refine ZbN (Zag ?_);cases hp;exact ⟨nofun,rfl,(af.pk [])⟩
   rintro (_|_) hp _ _ _ aM
   ·obtain ⟨rfl,ae⟩:=aM;refine ZaO (Zu (Zi (Zb (.b true) rfl (Zd (Zaq (zy (zV rfl ZP) ?_))))));cases hp;exact ⟨rfl,(ae.pk [])⟩
   ·obtain ⟨rfl,bI,ae⟩:=aM;refine ZbV (zP (zy (zV bI ZP) ?_));cases hp;exact ⟨rfl,(ae.pk [])⟩

theorem Z7.ok {h:Hp}{l:List Int}{by_:List Int}{arcs:List Zj}{v_l:V}{v_by_:V}{v_arcs:V}(H:Own (Bm h [eSl Zt v_l l]) h h [eSl Zt v_l l]) (s_by_:Rd (Bm h [eSl Zt v_l l]) h ZgD v_by_ by_) (s_arcs:Rd (Bm h [eSl Zt v_l l]) h Zh v_arcs arcs) {r:(List Int)}(hp:Z7 l by_ arcs=some r) :
  ∃ u k',Is G 270 [v_l,v_by_,v_arcs] h u k'∧V.tu []=u∧Own (Bm h [eSl Zt v_l l]) h k' [eSl Zt v_l r]:=by
 refine WC.is (ZaI ZcX ?_);unfold Z7 at hp;let B:Nat→Prop:=(Bm h [eSl Zt v_l l]);have hO:Own B h h [eSl Zt v_l l]:=H;refine ZN (Zi (Zb v_l rfl (Zc (Za9 (hO.sl 0 rfl) rfl) (Zb (.n 0) rfl (Zd (Zau (ZbZ hp (fun|(l1,x),fr,k=>fr 0=v_l∧fr 1=v_by_∧fr 2=v_arcs∧fr 10=.n (l.length:Int)∧fr 11=.n x∧Own B h k [eSl Zt v_l l1]) (fun l2 e fr k=>e=(.exit 0)∧fr 0=v_l∧fr 2=v_arcs∧Own B h k [eSl Zt v_l l2]) ⟨rfl,rfl,rfl,rfl,rfl,(hO.pk [0])⟩ ?_ ?_)))))))
 ·rintro ⟨l1,x⟩ _ _ ⟨m,p,w,v,s,j⟩ _ hp;dsimp only [Z7.s0] at hp;refine Zi (Zc (Zah s v) (Zd (ZN (zR hp rfl (fun S hp=>?_) (fun S hp=>?_)))))
  ·refine ZaF (ZN (Zau (Zi (Zb _ s (Zb (.n x) rfl (Zd (Zi (Zb (.n x) rfl (Zb _ p ?_)))))))));refine Zc (Za9 (j.rd0 s_by_) rfl) (Zc (Zah rfl rfl) (Zd (zR hp rfl (fun T hp=>?_) (fun T hp=>?_))))
   ·refine Zdt ?_;have b:=j.bump 13;refine ZaD _ m (ZaD (.n x) rfl (ckk hp fun g hp=>Z6 (zd (b.sl 0 rfl) rfl rfl g) (Z6 (zL (b.sl 0 rfl) rfl (Ze g) rfl) (ZaD _ p (ZaD (.n x) rfl (ckk hp fun D hp=>Z6 (zd (b.rd0 s_by_) rfl rfl D) (Z6 (zL (b.rd0 s_by_) rfl (Ze D) rfl) (Z6 (ZfI rfl rfl (by decide)) (ckk hp fun ab hp=>Z6 (Zgx rfl ab) (ckk hp fun ac hp=>?_))))))))));refine Z6 (zU rfl rfl ac) (Z6 (zd (b.sl 0 rfl) rfl rfl g) (Zcx (b.ste (y:=((gi l1 x.toNat)+((gi by_ x.toNat).tmod 6))) 0 rfl rfl (Ze g) rfl rfl ⟨rfl,Nat.le_of_ble_eq_true rfl,rfl⟩ rfl) ?_));rintro _ _ _ ⟨rfl,_,_,ah⟩;refine Zbu ?_;refine And.intro ?_ ?_
    ·intro q hq;simp only [List.mem_cons,List.not_mem_nil,or_false] at hq;rcases hq with rfl
     ·refine zi ?_ ?_
      ·exact nofun
      ·exact nofun
    refine Zap (Zu (Zao (ckk hp fun ad hp=>Zc (zU s rfl ad) (Zb (.n (x+1)) rfl (Zm ?_)))));cases hp;exact ⟨rfl,m,p,w,v,rfl,(ah.pk [0])⟩
   ·refine ZcI (Zap (Zu (Zao (ckk hp fun ae hp=>Zc (zU s rfl ae) (Zb (.n (x+1)) rfl (Zm ?_))))));cases hp;exact ⟨rfl,m,p,w,v,rfl,(j.pk [0])⟩
  ·refine ZbN (Zag ?_);cases hp;exact ⟨nofun,rfl,m,w,(j.pk [0])⟩
 rintro l2 hp _ _ _ ⟨rfl,J,al,I⟩;refine ZaO (Zu (Zi (Zb _ J (Zc (Za9 (I.sl 0 rfl) rfl) (Zb (.n 0) rfl (Zd (Zau (ZbZ hp (fun|(l3,x1),fr,k=>fr 0=v_l∧fr 2=v_arcs∧fr 32=.n (l2.length:Int)∧fr 33=.n x1∧Own B h k [eSl Zt v_l l3]) (fun p0 e fr k=>e=(.exit 2)∧Own B h k [eSl Zt v_l p0]) ⟨J,al,rfl,rfl,(I.pk [0])⟩ ?_ ?_))))))))
 ·rintro ⟨l3,x1⟩ _ _ ⟨am,K,L,M,t⟩ _ hp;dsimp only [Z7.s1] at hp;refine Zi (Zc (Zah M L) (Zd (ZN (zR hp rfl (fun U hp=>?_) (fun U hp=>?_)))))
  ·refine ZaF (ZN (Zau (Zi (Zb _ K (Zc (Za9 (t.rd0 s_arcs) rfl) (Zb (.n 0) rfl (Zd (Zau (ZbZ hp (fun|(l4,x2),fr,k=>fr 0=v_l∧fr 2=v_arcs∧fr 32=.n (l2.length:Int)∧fr 33=.n x1∧fr 35=v_arcs∧fr 36=.n (arcs.length:Int)∧fr 37=.n x2∧Own B h k [eSl Zt v_l l4]) (fun l5 e fr k=>e=(.exit 4)∧fr 0=v_l∧fr 2=v_arcs∧fr 32=.n (l2.length:Int)∧fr 33=.n x1∧Own B h k [eSl Zt v_l l5]) ⟨am,K,L,M,rfl,rfl,rfl,(t.pk [0])⟩ ?_ ?_)))))))))
   ·rintro ⟨l4,x2⟩ _ _ ⟨f,N,O,P,Q,R,A,d⟩ _ hp;dsimp only [Z7.s2] at hp;refine Zi (Zc (Zah A R) (Zd (ZN (zR hp rfl (fun W hp=>?_) (fun W hp=>?_)))))
    ·refine ZaF (ZN (Zau (Zi (ckk hp fun E hp=>Zc (zd (d.rd0 s_arcs) Q A E) (Zc (ZcM (d.rd0 s_arcs) rfl (Ze E)) (z8 (d.alloc (cs:=Zh.c (⟨0,0,0⟩:Zj)) d.fr) ?_))))));rintro _ _ ⟨C,rfl,_,_,ak⟩;refine z8 (ak.stb (cs':=Zh.c (gi arcs x2.toNat)) 1 rfl rfl rfl rfl ⟨rfl,Nat.le_of_ble_eq_true rfl,rfl⟩ rfl) ?_;rintro _ _ ⟨rfl,_,_,af⟩;refine Zd (Zdt ?_);have a:=af.bump 17;refine ZaD _ f (Z6 (zz (r:=C) (o:=0) rfl rfl) (Z6 (ZY (a.box 1 rfl) rfl rfl) (ZaD _ f (Z6 (zz (r:=C) (o:=0) rfl rfl) (Z6 (ZY (a.box 1 rfl) rfl rfl) (ckk hp fun i hp=>Z6 (zd (a.sl 0 rfl) rfl rfl i) (Z6 (zL (a.sl 0 rfl) rfl (Ze i) rfl) (ZaD _ f (Z6 (zz (r:=C) (o:=0) rfl rfl) (Z6 (ZY (a.box 1 rfl) rfl rfl) (ckk hp fun F hp=>Z6 (zd (a.sl 0 rfl) rfl rfl F) ?_)))))))))));refine Z6 (zL (a.sl 0 rfl) rfl (Ze F) rfl) (ckk hp fun X hp=>Z6 (zU rfl rfl X) (Z6 (ZlN rfl rfl) (Z6 (zd (a.sl 0 rfl) rfl rfl i) (Zcx (a.ste (y:=(max (gi l4 ((gi arcs x2.toNat).To:Int).toNat) ((gi l4 ((gi arcs x2.toNat).From:Int).toNat)+1))) 0 rfl rfl (Ze i) rfl rfl ⟨rfl,Nat.le_of_ble_eq_true rfl,rfl⟩ rfl) ?_))));rintro _ _ _ ⟨rfl,_,_,ag⟩;refine Zbu ?_;refine And.intro ?_ ?_
     ·intro q hq;simp only [List.mem_cons,List.not_mem_nil,or_false] at hq;rcases hq with rfl|rfl|rfl|rfl|rfl|rfl|rfl|rfl
      ·refine zi ?_ ?_
       ·exact nofun
       ·exact nofun
      ·refine zi ?_ ?_
       ·exact nofun
       ·exact nofun
      ·refine zi ?_ ?_
       ·exact nofun
       ·exact nofun
      ·refine zi ?_ ?_
       ·exact nofun
       ·exact nofun
      ·refine zi ?_ ?_
       ·exact nofun
       ·exact nofun
      ·refine zi ?_ ?_
       ·exact nofun
       ·exact nofun
      ·refine zi ?_ ?_
       ·exact nofun
       ·exact nofun
      ·refine zi ?_ ?_
       ·exact nofun
       ·exact nofun
     refine Zap (Zu (Zao (ckk hp fun Y hp=>Zc (zU A rfl Y) (Zb (.n (x2+1)) rfl (Zm ?_)))));cases hp;exact ⟨rfl,f,N,O,P,Q,R,rfl,(ag.pk [0])⟩
    ·refine ZbN (Zag ?_);cases hp;exact ⟨nofun,rfl,f,N,O,P,(d.pk [0])⟩
   rintro l5 hp _ _ _ ⟨rfl,an,ao,ap,aq,aj⟩;refine ZaO (Zap (Zu (Zao (ckk hp fun aa hp=>Zc (zU aq rfl aa) (Zb (.n (x1+1)) rfl (Zm ?_))))));cases hp;exact ⟨rfl,an,ao,ap,rfl,(aj.pk [0])⟩
  ·refine ZbN (Zag ?_);cases hp;exact ⟨nofun,rfl,(t.pk [0])⟩
 rintro p0 hp _ _ _ ⟨rfl,ai⟩;refine ZaO (Zj1 ZP ?_);cases hp;exact ⟨rfl,(ai.pk [0])⟩

theorem ZbM.ok {h:Hp}{z:zT}{x:List Int}{y:List Int}{v_z_At:V}{v_z_Bits:V}{v_z_Own:V}{v_x:V}{v_y:V}(s_z_At:Sl ZgD h v_z_At z.At) (s_z_Bits:Sl ZgD h v_z_Bits z.Bits) (s_z_Own:Sl Zlq h v_z_Own z.Own) (s_x:Sl ZgD h v_x x) (s_y:Sl ZgD h v_y y) {r:Bool}(hp:ZbM z x y=some r) :
  ∃ u k',Is G 258 [.ag [v_z_At,v_z_Bits,v_z_Own],v_x,v_y] h u k'∧V.b r=u∧Own (fun r=>r<h.n) h k' []:=by
 refine WC.is (ZaI Zdq ?_);unfold ZbM at hp;let B:Nat→Prop:=(fun r=>r<h.n);have hO:Own B h h []:=Own.start0 h;refine Zi (z8 (hO.boxd (cs:=[v_z_At,v_z_Bits,v_z_Own]) hO.fr rfl rfl) ?_);rintro _ a2 ⟨_,rfl,_,_,A⟩;refine Zb (.b false) rfl (Zd (Zi (Zc (Zba (A.box 0 rfl) rfl rfl) ?_)));obtain ⟨⟨x1,x2⟩,⟨_,ba,aw,F,ak,rfl,aQ⟩,hp⟩:=bdk hp fun _=>ZR.ok (h:=a2)  (A.rd0 s_z_At.rd) (A.rd0 s_z_Bits.rd) (A.rd0 s_z_Own.rd);refine Zbh rfl rfl aw ?_;have aa:=A.call aQ rfl;refine Zb (.tu [F,ak]) rfl (Zc (Zbg rfl rfl) (Zc (Zbg rfl rfl) (Zb F rfl (Zb ak rfl (Zd (Zi (Zb F rfl ?_)))))));obtain ⟨⟨x3,x4⟩,⟨_,_,aB,al,am,an,_,ao,_,ap,aq,ar,rfl,aV⟩,hp⟩:=bdk hp fun _=>zA.ok (h:=ba)  (aa.sl 1 rfl);refine Zbh rfl rfl aB ?_;have ab:=aa.call aV rfl;refine Zb (.tu [.ag [al,am,an,ao,ap,aq,ar],.n x4]) rfl (Zc (Zbg rfl rfl) (Zc (Zbg rfl rfl) (z8 (ab.alloc (cs:=[.sn,.sn,.sn,.sn,.sn,.sn,.sn]) ab.fr) ?_)));rintro _ _ ⟨e,rfl,_,_,g⟩;refine z8 (g.stb (cs':=[al,am,an,ao,ap,aq,ar]) 12 rfl rfl rfl rfl ⟨rfl,Nat.le_of_ble_eq_true rfl,(all_cons (g.sl 3 rfl).oneV (all_cons (g.sl 4 rfl).oneV (all_cons (g.sl 5 rfl).oneV (all_cons (g.sl 7 rfl).oneV (all_cons (g.sl 9 rfl).oneV (all_cons (g.sl 10 rfl).oneV (all_cons (g.sl 11 rfl).oneV all_nil)))))))⟩ rfl) ?_;rintro _ bb ⟨rfl,_,_,aO⟩;refine Zb (.n x4) rfl (Zd (ZN (Zi ?_)));obtain ⟨x5,⟨_,J,aC,rfl,aW⟩,hp⟩:=bdk hp fun _=>Zb4.ok (h:=bb)  ;refine Zbh rfl Zfk aC ?_;have D:=aO.call aW rfl;refine Zc (ZcH rfl) (Zb (.b (!x5)) rfl (ZaX 3 (fun f k=>J=k∧f 31=.b ((!x5)||(!(decide (x4=0))))∧f 1=v_x∧f 2=v_y∧f 7=F∧f 9=.p e 0) ?_ ?_))
 ·rcases bc (!x5) with i|i
  ·refine Zz rfl i (Zz rfl i (Zc (ZcN (w:=(!x5)||(!(decide (x4=0)))) rfl i rfl) (Zm ?_)));exact ⟨rfl,rfl,rfl,rfl,rfl,rfl⟩
  ·refine ZK rfl i (Zb (.n x4) rfl (ZK rfl i (Zc (Zdm rfl rfl) (Zc (ZcO rfl i rfl) (Zm ?_)))));exact ⟨rfl,rfl,rfl,rfl,rfl,rfl⟩
 rintro _ _ ⟨rfl,aJ,W,X,Y,M⟩;refine Zb _ aJ (ZaX 5 (fun f k=>J=k∧f 37=.b (((!x5)||(!(decide (x4=0))))||(decide (0<(x3.Open.length:Int))))∧f 1=v_x∧f 2=v_y∧f 7=F∧f 9=.p e 0) ?_ ?_)
 ·rcases bc ((!x5)||(!(decide (x4=0)))) with d|d
  ·refine Zz rfl d (Zz rfl d (Zz rfl d (Zz rfl d (Zc (ZcN (w:=((!x5)||(!(decide (x4=0))))||(decide (0<(x3.Open.length:Int)))) rfl d rfl) (Zm ?_)))));exact ⟨rfl,rfl,W,X,Y,M⟩
  ·refine ZK rfl d (Zc (zz (r:=e) (o:=0) M rfl) (ZK rfl d (Zc (ZY (D.box 12 rfl) rfl rfl) (ZK rfl d (Zc (Za9 (D.sl 11 rfl) rfl) (ZK rfl d (Zc (ZeP rfl rfl) (Zc (ZcO rfl d rfl) (Zm ?_)))))))));exact ⟨rfl,rfl,W,X,Y,M⟩
 rintro _ _ ⟨rfl,aM,aK,aL,N,I⟩;refine Zd (zR hp aM (fun au hp=>?_) (fun au hp=>?_))
 ·refine Zi ?_;obtain ⟨x6,⟨_,_,aD,rfl,aX⟩,hp⟩:=bdk hp fun _=>Zb4.ok (h:=J)  ;refine Zbh rfl Zfk aD ?_;have aP:=D.call aX rfl;refine Zb (.b x6) rfl (Zd (Zaq (zP (zy (zV rfl ZP) ?_))));cases hp;exact ⟨rfl,(aP.pk [])⟩
 ·refine ZaF (Zi (Zb _ N ?_));obtain ⟨⟨x7,x8⟩,⟨_,_,aE,af,ah,ai,S,aj,T,rfl,aY⟩,hp⟩:=bdk hp fun _=>Zb2.ok (h:=J)  (D.sl 1 rfl);refine Zbh rfl rfl aE ?_;have ac:=D.call aY rfl;refine Zb (.tu [.ag [af,ah,ai,aj],.b x8]) rfl (Zc (Zbg rfl rfl) (Zc (Zbg rfl rfl) (z8 (ac.alloc (cs:=[.sn,.sn,.sn,.sn]) ac.fr) ?_)));rintro _ _ ⟨ae,rfl,_,_,E⟩;refine z8 (E.stb (cs':=[af,ah,ai,aj]) 19 rfl rfl rfl rfl ⟨rfl,Nat.le_of_ble_eq_true rfl,(all_cons (E.sl 13 rfl).oneV (all_cons (E.sl 14 rfl).oneV (all_cons (E.sl 15 rfl).oneV (all_cons (E.sl 17 rfl).oneV all_nil))))⟩ rfl) ?_;rintro _ ad ⟨rfl,_,_,O⟩;refine Zb (.b x8) rfl (Zd (ZN (Zdt ?_)));have s:=O.bump 16;have U:=Fresh.start ad 16;refine Z6 (zz (r:=ae) (o:=0) rfl rfl) (Z6 (ZY (s.box 19 rfl) rfl rfl) (Z6 (Zd1 (n:=(x7.Vert).length) (s.sl 15 rfl) (s.allLen 16 rfl:(S).length=(x7.Vert).length) rfl) (Z6 (zz (r:=e) (o:=0) I rfl) (Z6 (zz (r:=e) (o:=0) rfl rfl) (Z6 (ZY (s.box 12 rfl) rfl rfl) ?_)))));obtain ⟨x9,⟨_,a3,aF,K,rfl,R⟩,hp⟩:=bdk hp fun _=>zr.ok (h:=(ad.bump 16))  (s.sl 9 rfl);refine Zey rfl rfl aF ?_;have t:=s.call R rfl;refine Z6 (zz (r:=ae) (o:=0) rfl rfl) (Z6 (ZY (t.box 19 rfl) rfl rfl) (Z6 (Zd1 (n:=(x7.Horz).length) (t.sl 17 rfl) (t.allLen 18 rfl:(T).length=(x7.Horz).length) rfl) (Z6 (zz (r:=e) (o:=0) I rfl) (Z6 (zz (r:=e) (o:=0) rfl rfl) (Z6 (ZY (t.box 12 rfl) rfl rfl) ?_)))));obtain ⟨x10,⟨_,a4,aG,L,rfl,aZ⟩,hp⟩:=bdk hp fun _=>zr.ok (h:=a3)  (t.sl 10 rfl);refine Zey rfl rfl aG ?_;have a:=t.call aZ rfl;refine ZaD K rfl (ZaD L rfl (Zbu ?_));refine And.intro ?_ ?_
  ·intro q hq;simp only [List.mem_cons,List.not_mem_nil,or_false] at hq;rcases hq with rfl|rfl|rfl|rfl|rfl|rfl|rfl|rfl
   ·refine zi ?_ ?_
    ·exact nofun
    ·exact nofun
   ·refine zi ?_ ?_
    ·exact nofun
    ·exact nofun
   ·refine zi ?_ ?_
    ·exact nofun
    ·exact nofun
   ·refine ZdI rfl ?_
    ·exact (fun r hm hc=>hc (R.base r (Nat.lt_of_lt_of_le (O.ltAt 19 rfl _ (tch (Zbm hm) rfl)) (Nat.le_trans (Nat.le_add_right _ _) U.n))))
   ·refine zi ?_ ?_
    ·exact nofun
    ·exact nofun
   ·refine zi ?_ ?_
    ·exact nofun
    ·exact nofun
   ·refine ZdI rfl ?_
    ·exact (fun r hm hc=>hc (R.base r (Nat.lt_of_lt_of_le (O.ltAt 12 rfl _ (tch (Zbm hm) rfl)) (Nat.le_trans (Nat.le_add_right _ _) U.n))))
   ·refine zi ?_ ?_
    ·exact nofun
    ·exact nofun
  refine Zu (ZN (Zi (Zb _ N (Zc (Zba (a.box 19 rfl) rfl rfl) (Zb K rfl (Zb L rfl ?_))))));obtain ⟨x11,⟨_,a5,aH,_,rfl,a0⟩,hp⟩:=bdk hp fun _=>Zaj.ok (h:=a4)  (a.sl 13 rfl) (a.sl 14 rfl) (a.sl 15 rfl) (a.allLen 16 rfl:(S).length=(x7.Vert).length) (fun j hj=>a.inn 16 rfl hj) (a.sl 17 rfl) (a.allLen 18 rfl:(T).length=(x7.Horz).length) (fun j hj=>a.inn 18 rfl hj) (a.sl 20 rfl) (a.sl 21 rfl);refine Zbh rfl rfl aH ?_;have P:=a.call a0 rfl;obtain ⟨x12,⟨_,a6,aI,rfl,a1⟩,hp⟩:=bdk hp fun _=>za.ok (h:=a5)  (P.sl 1 rfl) (P.sl 22 rfl);refine Zbh rfl rfl aI ?_;have v:=P.call a1 rfl;refine Zc (ZcH rfl) (Zd (zR hp rfl (fun av hp=>?_) (fun av hp=>?_)))
  ·refine Zi (Zb (.b false) rfl (Zd (Zaq (zP (zy (zV rfl ZP) ?_)))));cases hp;exact ⟨rfl,(v.pk [])⟩
  ·refine ZaF (Zi (Zb (.f 270 []) rfl (Zd (Zi (Zb (.f 270 []) rfl (Zb K rfl (Zb _ aK (Zc (zz (r:=e) (o:=0) I rfl) (Zc (zz (r:=e) (o:=0) rfl rfl) ?_)))))))));refine Zc (ZY (v.box 12 rfl) rfl rfl) ?_;obtain ⟨m,⟨_,a7,ax,rfl,aR⟩,hp⟩:=bdk hp fun _=>Z7.ok (h:=a6) (l:=x9) (by_:=x) (arcs:=x3.Graphs.H) (v.toM [20] rfl (by decide)) (v.rdM [20] rfl s_x.rd) (v.slM [20] rfl 9 (by decide) rfl);refine Zbh rfl rfl ax ?_;have C:=(v.callM [20] [0,1,2,3,4,5,6,7,8,9,10,11,12,13,14,15,16,17,18,19,21,22] rfl rfl (by decide) aR rfl).pick [0,1,2,3,4,5,6,7,8,9,10,11,12,13,14,15,16,17,18,19,22,20,21] rfl (by decide);refine Zd (Zi (Zb (.f 270 []) rfl (Zb L rfl (Zb _ aL (Zc (zz (r:=e) (o:=0) I rfl) (Zc (zz (r:=e) (o:=0) rfl rfl) (Zc (ZY (C.box 12 rfl) rfl rfl) ?_)))))));obtain ⟨m1,⟨_,a8,ay,rfl,aS⟩,hp⟩:=bdk hp fun _=>Z7.ok (h:=a7) (l:=x10) (by_:=y) (arcs:=x3.Graphs.V) (C.toM [21] rfl (by decide)) (C.rdM [21] rfl s_y.rd) (C.slM [21] rfl 10 (by decide) rfl);refine Zbh rfl rfl ay ?_;have c:=(C.callM [21] [0,1,2,3,4,5,6,7,8,9,10,11,12,13,14,15,16,17,18,19,20,22] rfl rfl (by decide) aS rfl).pick [0,1,2,3,4,5,6,7,8,9,10,11,12,13,14,15,16,17,18,19,20,22,21] rfl (by decide);refine Zd (Zi (Zb _ N (Zc (Zba (c.box 19 rfl) rfl rfl) (Zb K rfl (Zb L rfl ?_)))));obtain ⟨x13,⟨_,a9,az,_,rfl,aT⟩,hp⟩:=bdk hp fun _=>Zaj.ok (h:=a8)  (c.sl 13 rfl) (c.sl 14 rfl) (c.sl 15 rfl) (c.allLen 16 rfl:(S).length=(x7.Vert).length) (fun j hj=>c.inn 16 rfl hj) (c.sl 17 rfl) (c.allLen 18 rfl:(T).length=(x7.Horz).length) (fun j hj=>c.inn 18 rfl hj) (c.sl 20 rfl) (c.sl 21 rfl);refine Zbh rfl rfl az ?_;have Q:=c.call aT rfl;obtain ⟨x14,⟨_,_,aA,rfl,aU⟩,hp⟩:=bdk hp fun _=>za.ok (h:=a9)  (Q.sl 1 rfl) (Q.sl 23 rfl);refine Zbh rfl rfl aA ?_;have aN:=Q.call aU rfl;refine Zb (.b x14) rfl (Zd (Zaq (zy (zV rfl ZP) ?_)));cases hp;exact ⟨rfl,(aN.pk [])⟩

end Mu
