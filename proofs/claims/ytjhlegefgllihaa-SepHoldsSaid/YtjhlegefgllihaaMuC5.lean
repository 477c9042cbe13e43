/- The code comes to what was worked out. -/
import Derived.Test.YtjhlegefgllihaaMuDf
import Derived.Test.YtjhlegefgllihaaMuPa
import Derived.Test.YtjhlegefgllihaaMuC4
set_option linter.unusedVariables false
set_option linter.unnecessarySimpa false
set_option linter.unusedSimpArgs false
set_option maxHeartbeats 2000000
set_option maxRecDepth 10000
namespace Mu
open Go (IntKind BinOp UnOp)
theorem zf.ok {h:Hp}{l:List Za}{at_:List Zf}{v_l:V}{v_at_:V}(s_l:Sl Zs h v_l l) (s_at_:Sl Zg h v_at_ at_) {r:Bool}(hp:zf l at_=some r) :
  ∃ u k',Is G 261 [v_l,v_at_] h u k'∧V.b r=u∧Own (fun r=>r<h.n) h k' []:=by
 refine WC.is (ZaG Zep ?_);unfold zf at hp;let B:Nat→Prop:=(fun r=>r<h.n);have hO:Own B h h []:=Own.start0 h;refine Zk (Zb (.b false) rfl (Zd (ZJ (Zk (Zb v_at_ rfl (Zc (Za9 (hO.rd0 s_at_.rd) rfl) (Zb v_l rfl (Zc (Za9 (hO.rd0 s_l.rd) rfl) (Zc (Zdp rfl rfl) (Zo ?_))))))))));refine Zw (zO hp rfl (fun aU hp=>?_) (fun aU hp=>?_))
 ·refine Zk (Zb (.b false) rfl (Zd (Zao (zF (zt (zS rfl ZN) ?_)))));cases hp;exact ⟨rfl,(hO.pk [])⟩
 ·refine ZaD (Zk (Zb v_l rfl (Zb v_at_ rfl ?_)));obtain ⟨x,⟨_,bF,a0,rfl,bB⟩,hp⟩:=bdk hp fun _=>Zag.ok (h:=h)  (hO.rd0 s_l.rd) (hO.rd0 s_at_.rd);refine Zbl rfl rfl a0 ?_;have ad:=hO.call bB rfl;refine Zb (.b x) rfl (Zd (ZJ (Zk (Zb (.b x) rfl (Zc (Zc7 rfl) (Zd (zO hp rfl (fun aV hp=>?_) (fun aV hp=>?_))))))))
  ·refine Zk (Zb (.b false) rfl (Zd (Zao (zF (zt (zS rfl ZN) ?_)))));cases hp;exact ⟨rfl,(ad.pk [])⟩
  ·refine ZaD (Zk (Zb v_l rfl ?_));obtain ⟨⟨x1,x2⟩,⟨_,_,a1,L,M,N,H,O,I,rfl,bC⟩,hp⟩:=bdk hp fun _=>ZbZ.ok (h:=bF)  (ad.rd0 s_l.rd);refine Zbl rfl rfl a1 ?_;have aO:=ad.call bC rfl;refine Zb (.tu [.ag [L,M,N,O],.b x2]) rfl (Zc (Zbm rfl rfl) (Zc (Zbm rfl rfl) (z7 (aO.alloc (cs:=[.sn,.sn,.sn,.sn]) aO.fr) ?_)));rintro _ _ ⟨F,rfl,_,_,U⟩;refine z7 (U.stb (cs':=[L,M,N,O]) 6 rfl rfl rfl rfl ⟨rfl,Nat.le_of_ble_eq_true rfl,(all_cons (U.sl 0 rfl).oneV (all_cons (U.sl 1 rfl).oneV (all_cons (U.sl 2 rfl).oneV (all_cons (U.sl 4 rfl).oneV all_nil))))⟩ rfl) ?_;rintro _ bG ⟨rfl,_,_,C⟩;refine Zb (.b x2) rfl (Zd (Zk (Zc (Zbf (C.box 6 rfl) rfl rfl) ?_)));obtain ⟨x3,⟨_,_,a2,y,rfl,bD⟩,hp⟩:=bdk hp fun _=>zD.ok (h:=bG)  (C.sl 0 rfl) (C.sl 1 rfl) (C.sl 2 rfl) (C.allLen 3 rfl:(H).length=(x1.Vert).length) (fun j hj=>C.inn 3 rfl hj) (C.sl 4 rfl) (C.allLen 5 rfl:(I).length=(x1.Horz).length) (fun j hj=>C.inn 5 rfl hj);refine Zbl rfl rfl a2 ?_;have bA:=C.call bD rfl;refine Zb y rfl (Zd (ZJ (Zk (Zb (.n 0) rfl (Zd (Zat (ZbY hp (fun i fr k=>fr 1=v_at_∧fr 6=.p F 0∧fr 8=y∧fr 9=.n i∧Own B h k [zu F [L,M,N,O],eSl Zv L x1.X,eSl Zv M x1.Y,eSl eV N H,zh Zv H x1.Vert,eSl eV O I,zh Zv I x1.Horz,eSl z6 y x3]) (fun|.inl _,e,fr,k=>e=(.exit 0)∧Own B h k []|.inr _,e,fr,k=>e=.ret∧fr 4=.b false∧Own B h k []) ⟨rfl,rfl,rfl,rfl,(bA.pk [6,0,1,2,3,4,5,7])⟩ ?_ ?_)))))))
   ·rintro i _ _ ⟨bJ,bK,aT,al,af⟩ _ hp;dsimp only [zf.s0] at hp;refine ZJ (Zk (Zb _ al (Zb _ aT (Zc (Za9 (af.sl 7 rfl) rfl) (Zc (Zae rfl rfl) (Zd (zO hp rfl (fun aW hp=>?_) (fun aW hp=>?_))))))))
    ·refine ZaD (ZJ (Zat (Zk (Zb _ al (ckk hp fun ao hp=>Zc (zP rfl rfl ao) (Zb (.n (i+1)) rfl (Zd (Zat (ZbY hp (fun k_ fr k=>fr 1=v_at_∧fr 6=.p F 0∧fr 8=y∧fr 9=.n i∧fr 10=.n k_∧Own B h k [zu F [L,M,N,O],eSl Zv L x1.X,eSl Zv M x1.Y,eSl eV N H,zh Zv H x1.Vert,eSl eV O I,zh Zv I x1.Horz,eSl z6 y x3]) (fun|.inl _,e,fr,k=>e=(.exit 2)∧fr 1=v_at_∧fr 6=.p F 0∧fr 8=y∧fr 9=.n i∧Own B h k [zu F [L,M,N,O],eSl Zv L x1.X,eSl Zv M x1.Y,eSl eV N H,zh Zv H x1.Vert,eSl eV O I,zh Zv I x1.Horz,eSl z6 y x3]|.inr _,e,fr,k=>e=.ret∧fr 4=.b false∧Own B h k []) ⟨bJ,bK,aT,al,rfl,(af.pk [0,1,2,3,4,5,6,7])⟩ ?_ ?_)))))))))
     ·rintro k_ _ bH ⟨W,D,E,T,S,ai⟩ _ hp;dsimp only [zf.s1] at hp;refine ZJ (Zk (Zb _ S (Zb _ E (Zc (Za9 (ai.sl 7 rfl) rfl) (Zc (Zae rfl rfl) (Zd (zO hp rfl (fun aX hp=>?_) (fun aX hp=>?_))))))))
      ·refine ZaD (ZJ (Zat (ZJ (Zdq ?_))));have a:=ai.bump 23;refine Z6 (Zbf (a.box 0 rfl) D rfl) (Za2 _ E (Za2 _ T (ckk hp fun J hp=>Z6 (ZZ (a.sl 7 rfl) rfl rfl J) (Z6 (ZaV (a.sl 7 rfl) (Ze J) rfl rfl) (Z6 (zK (a.sl 7 rfl) rfl (Ze J) rfl) (Za2 _ E (Za2 _ T (Z6 (ZZ (a.sl 7 rfl) rfl rfl J) (Z6 (ZaV (a.sl 7 rfl) (Ze J) rfl rfl) (Z6 (zK (a.sl 7 rfl) rfl (Ze J) rfl) (Za2 _ E (Za2 _ S ?_))))))))))));refine ckk hp fun K hp=>Z6 (ZZ (a.sl 7 rfl) rfl rfl K) (Z6 (ZaV (a.sl 7 rfl) (Ze K) rfl rfl) (Z6 (zK (a.sl 7 rfl) rfl (Ze K) rfl) (Za2 _ E (Za2 _ S (Z6 (ZZ (a.sl 7 rfl) rfl rfl K) (Z6 (ZaV (a.sl 7 rfl) (Ze K) rfl rfl) (Z6 (zK (a.sl 7 rfl) rfl (Ze K) rfl) ?_)))))));obtain ⟨x4,⟨_,aj,a3,rfl,bE⟩,hp⟩:=bdk hp fun _=>Zas.ok (h:=(bH.bump 23))  (a.sl 1 rfl) (a.sl 2 rfl) (a.sl 3 rfl) (a.allLen 4 rfl:(H).length=(x1.Vert).length) (fun j hj=>a.inn 4 rfl hj) (a.sl 5 rfl) (a.allLen 6 rfl:(I).length=(x1.Horz).length) (fun j hj=>a.inn 6 rfl hj);refine Ze4 rfl rfl a3 ?_;have Q:=a.call bE rfl;refine Za2 (.b x4) rfl (Zbt ?_);refine And.intro ?_ ?_
       ·intro q hq;simp only [List.mem_cons,List.not_mem_nil,or_false] at hq;rcases hq with rfl|rfl|rfl|rfl|rfl|rfl|rfl|rfl|rfl|rfl
        ·refine zi ?_ ?_
         ·exact nofun
         ·exact nofun
        ·refine zi ?_ ?_
         ·exact nofun
         ·exact nofun
        ·refine zi ?_ ?_
         ·exact nofun
         ·exact nofun
        ·refine zi ?_ ?_
         ·exact nofun
         ·exact nofun
        ·refine zi ?_ ?_
         ·exact nofun
         ·exact nofun
        ·refine zi ?_ ?_
         ·exact nofun
         ·exact nofun
        ·refine zi ?_ ?_
         ·exact nofun
         ·exact nofun
        ·refine zi ?_ ?_
         ·exact nofun
         ·exact nofun
        ·refine zi ?_ ?_
         ·exact nofun
         ·exact nofun
        ·refine zi ?_ ?_
         ·exact nofun
         ·exact nofun
       refine Zw (ZJ (Zdq ?_));have t:=Q.bump 14;have a9:=Fresh.start aj 14;have aR:∀ {i:Nat},h.n≤aj.n+i:=Nat.le_trans Q.n (Nat.le_add_right _ _);refine Z6 (Zbf (t.box 0 rfl) D rfl) (Za2 _ E (Za2 _ T (Z6 (ZZ (t.sl 7 rfl) rfl rfl J) (Z6 (ZcM (t.sl 7 rfl) rfl (Ze J)) (Za2 _ W ?_)))));obtain ⟨⟨x5,x6⟩,⟨_,_,a4,rfl,aP⟩,hp⟩:=bdk hp fun _=>Zbv.ok (h:=(aj.bump 14))  (t.sl 1 rfl) (t.sl 2 rfl) (t.sl 3 rfl) (t.allLen 4 rfl:(H).length=(x1.Vert).length) (fun j hj=>t.inn 4 rfl hj) (t.sl 5 rfl) (t.allLen 6 rfl:(I).length=(x1.Horz).length) (fun j hj=>t.inn 6 rfl hj) (t.rd0 s_at_.rd);refine Ze4 rfl rfl a4 ?_;have aq:=a9.call aP;have br:=t.call aP rfl;refine Za2 (.tu [.ag (Zg.c x5),.ag (Zg.c x6)]) rfl (Z6 (Zbm rfl rfl) (Z6 (Zbm rfl rfl) (Zcu (br.alloc (cs:=Zg.c (⟨0,0⟩:Zf)) ⟨aq.m 10 (by decide) (by decide),aR⟩) ?_)));rintro _ _ _ ⟨ab,rfl,_,a6,bs⟩;have ba:=aq.kept a6 (by decide);refine Zcu (bs.alloc (cs:=Zg.c (⟨0,0⟩:Zf)) ⟨ba.m 11 (by decide) (by decide),aR⟩) ?_;rintro _ _ _ ⟨am,rfl,_,_,bt⟩;refine Zcu (bt.stb (cs':=Zg.c x5) 8 rfl rfl rfl rfl ⟨rfl,Nat.le_of_ble_eq_true rfl,rfl⟩ rfl) ?_;rintro _ _ _ ⟨rfl,_,_,bu⟩;refine Zcu (bu.stb (cs':=Zg.c x6) 9 rfl rfl rfl rfl ⟨rfl,Nat.le_of_ble_eq_true rfl,rfl⟩ rfl) ?_;rintro _ ak _ ⟨rfl,_,_,R⟩;refine Zbt ?_;refine And.intro ?_ ?_
       ·intro q hq;simp only [List.mem_cons,List.not_mem_nil,or_false] at hq;rcases hq with rfl|rfl|rfl|rfl|rfl|rfl|rfl|rfl
        ·refine zi ?_ ?_
         ·exact nofun
         ·exact nofun
        ·refine zi ?_ ?_
         ·exact nofun
         ·exact (fun _ hm=>Nat.lt_irrefl _ (Nat.lt_of_lt_of_le (Q.ltAt 0 rfl _ (tch (Zbk hm) D)) (Nat.le_add_right _ _)))
        ·refine zi ?_ ?_
         ·exact nofun
         ·exact (fun _ hm=>Nat.lt_irrefl _ (Nat.lt_of_lt_of_le (Q.ltAt 7 rfl _ (Zck (tch (Zbk hm) rfl))) (Nat.le_add_right _ _)))
        ·refine Zew rfl ?_
         ·exact (fun r hm hc=>nomatch hm)
        ·refine zi ?_ ?_
         ·exact nofun
         ·exact (fun _ hm=>Nat.lt_irrefl _ (Nat.lt_of_lt_of_le (Q.ltAt 0 rfl _ (tch (Zbk hm) D)) (Nat.le_add_right _ _)))
        ·refine zi ?_ ?_
         ·exact nofun
         ·exact (fun _ hm=>Nat.lt_irrefl _ (Nat.lt_of_lt_of_le (Q.ltAt 7 rfl _ (Zck (tch (Zbk hm) rfl))) (Nat.le_add_right _ _)))
        ·refine Zew rfl ?_
         ·exact (fun r hm hc=>nomatch hm)
        ·refine zi ?_ ?_
         ·exact (fun _=>List.not_mem_nil)
         ·exact (fun _=>List.not_mem_nil)
       refine Zw (ZJ (Zdq ?_));have v:=R.bump 14;have bb:=Fresh.start ak 14;have aS:∀ {i:Nat},h.n≤ak.n+i:=Nat.le_trans R.n (Nat.le_add_right _ _);refine Z6 (Zbf (v.box 0 rfl) D rfl) (Za2 _ E (Za2 _ S (Z6 (ZZ (v.sl 7 rfl) rfl rfl K) (Z6 (ZcM (v.sl 7 rfl) rfl (Ze K)) (Za2 _ W ?_)))));obtain ⟨⟨x7,x8⟩,⟨_,_,a5,rfl,aQ⟩,hp⟩:=bdk hp fun _=>Zbv.ok (h:=(ak.bump 14))  (v.sl 1 rfl) (v.sl 2 rfl) (v.sl 3 rfl) (v.allLen 4 rfl:(H).length=(x1.Vert).length) (fun j hj=>v.inn 4 rfl hj) (v.sl 5 rfl) (v.allLen 6 rfl:(I).length=(x1.Horz).length) (fun j hj=>v.inn 6 rfl hj) (v.rd0 s_at_.rd);refine Ze4 rfl rfl a5 ?_;have ap:=bb.call aQ;have bv:=v.call aQ rfl;refine Za2 (.tu [.ag (Zg.c x7),.ag (Zg.c x8)]) rfl (Z6 (Zbm rfl rfl) (Z6 (Zbm rfl rfl) (Zcu (bv.alloc (cs:=Zg.c (⟨0,0⟩:Zf)) ⟨ap.m 10 (by decide) (by decide),aS⟩) ?_)));rintro _ _ _ ⟨an,rfl,_,a7,bw⟩;have a8:=ap.kept a7 (by decide);refine Zcu (bw.alloc (cs:=Zg.c (⟨0,0⟩:Zf)) ⟨a8.m 11 (by decide) (by decide),aS⟩) ?_;rintro _ _ _ ⟨ac,rfl,_,_,bx⟩;refine Zcu (bx.stb (cs':=Zg.c x7) 10 rfl rfl rfl rfl ⟨rfl,Nat.le_of_ble_eq_true rfl,rfl⟩ rfl) ?_;rintro _ _ _ ⟨rfl,_,_,bz⟩;refine Zcu (bz.stb (cs':=Zg.c x8) 11 rfl rfl rfl rfl ⟨rfl,Nat.le_of_ble_eq_true rfl,rfl⟩ rfl) ?_;rintro _ aa _ ⟨rfl,_,_,A⟩;refine Zbt ?_;refine And.intro ?_ ?_
       ·intro q hq;simp only [List.mem_cons,List.not_mem_nil,or_false] at hq;rcases hq with rfl|rfl|rfl|rfl|rfl|rfl|rfl|rfl
        ·refine zi ?_ ?_
         ·exact nofun
         ·exact nofun
        ·refine zi ?_ ?_
         ·exact nofun
         ·exact (fun _ hm=>Nat.lt_irrefl _ (Nat.lt_of_lt_of_le (R.ltAt 0 rfl _ (tch (Zbk hm) D)) (Nat.le_add_right _ _)))
        ·refine zi ?_ ?_
         ·exact nofun
         ·exact (fun _ hm=>Nat.lt_irrefl _ (Nat.lt_of_lt_of_le (R.ltAt 7 rfl _ (Zck (tch (Zbk hm) rfl))) (Nat.le_add_right _ _)))
        ·refine Zew rfl ?_
         ·exact (fun r hm hc=>nomatch hm)
        ·refine zi ?_ ?_
         ·exact nofun
         ·exact (fun _ hm=>Nat.lt_irrefl _ (Nat.lt_of_lt_of_le (R.ltAt 0 rfl _ (tch (Zbk hm) D)) (Nat.le_add_right _ _)))
        ·refine zi ?_ ?_
         ·exact nofun
         ·exact (fun _ hm=>Nat.lt_irrefl _ (Nat.lt_of_lt_of_le (R.ltAt 7 rfl _ (Zck (tch (Zbk hm) rfl))) (Nat.le_add_right _ _)))
        ·refine Zew rfl ?_
         ·exact (fun r hm hc=>nomatch hm)
        ·refine zi ?_ ?_
         ·exact (fun _=>List.not_mem_nil)
         ·exact (fun _=>List.not_mem_nil)
       refine Zw (Zk (Zc (zz (r:=am) (o:=0) rfl rfl) (Zc (ZY (A.box 9 rfl) rfl rfl) (Zc (zz (r:=an) (o:=0) rfl rfl) (Zc (ZY (A.box 10 rfl) rfl rfl) (Zc (Zae rfl rfl) (Zb (.b (decide (x6.X<x7.X))) rfl (ZaX 6 (fun f k=>aa=k∧f 101=.b ((decide (x6.X<x7.X))||(decide (x8.X<x5.X)))∧f 1=v_at_∧f 10=.n k_∧f 11=.b x4∧f 12=.p ab 0∧f 13=.p am 0∧f 14=.p an 0∧f 15=.p ac 0∧f 6=.p F 0∧f 8=y∧f 9=.n i) ?_ ?_))))))))
       ·rcases bc (decide (x6.X<x7.X)) with d|d
        ·refine Zz rfl d (Zz rfl d (Zz rfl d (Zz rfl d (Zz rfl d (Zc (ZcS (w:=(decide (x6.X<x7.X))||(decide (x8.X<x5.X))) rfl d rfl) (Zo ?_))))));exact ⟨rfl,rfl,W,S,rfl,rfl,rfl,rfl,rfl,D,E,T⟩
        ·refine ZI rfl d (Zc (zz (r:=ac) (o:=0) rfl rfl) (ZI rfl d (Zc (ZY (A.box 11 rfl) rfl rfl) (ZI rfl d (Zc (zz (r:=ab) (o:=0) rfl rfl) (ZI rfl d (Zc (ZY (A.box 8 rfl) rfl rfl) (ZI rfl d (Zc (Zae rfl rfl) (Zc (ZcT rfl d rfl) (Zo ?_)))))))))));exact ⟨rfl,rfl,W,S,rfl,rfl,rfl,rfl,rfl,D,E,T⟩
       rintro _ _ ⟨rfl,bd,ar,au,av,aw,be,bf,ax,ay,az,aA⟩;refine Zb _ bd (ZaX 6 (fun f k=>aa=k∧f 108=.b (((decide (x6.X<x7.X))||(decide (x8.X<x5.X)))||(decide (x6.Y<x7.Y)))∧f 1=v_at_∧f 10=.n k_∧f 11=.b x4∧f 12=.p ab 0∧f 15=.p ac 0∧f 6=.p F 0∧f 8=y∧f 9=.n i) ?_ ?_)
       ·rcases bc ((decide (x6.X<x7.X))||(decide (x8.X<x5.X))) with g|g
        ·refine Zz rfl g (Zz rfl g (Zz rfl g (Zz rfl g (Zz rfl g (Zc (ZcS (w:=((decide (x6.X<x7.X))||(decide (x8.X<x5.X)))||(decide (x6.Y<x7.Y))) rfl g rfl) (Zo ?_))))));exact ⟨rfl,rfl,ar,au,av,aw,ax,ay,az,aA⟩
        ·refine ZI rfl g (Zc (zz (r:=am) (o:=0) be rfl) (ZI rfl g (Zc (ZY (A.box 9 rfl) rfl rfl) (ZI rfl g (Zc (zz (r:=an) (o:=0) bf rfl) (ZI rfl g (Zc (ZY (A.box 10 rfl) rfl rfl) (ZI rfl g (Zc (Zae rfl rfl) (Zc (ZcT rfl g rfl) (Zo ?_)))))))))));exact ⟨rfl,rfl,ar,au,av,aw,ax,ay,az,aA⟩
       rintro _ _ ⟨rfl,bg,aB,aC,aD,bh,bi,aE,aF,aG⟩;refine Zb _ bg (ZaX 6 (fun f k=>aa=k∧f 115=.b ((((decide (x6.X<x7.X))||(decide (x8.X<x5.X)))||(decide (x6.Y<x7.Y)))||(decide (x8.Y<x5.Y)))∧f 1=v_at_∧f 10=.n k_∧f 11=.b x4∧f 6=.p F 0∧f 8=y∧f 9=.n i) ?_ ?_)
       ·rcases bc (((decide (x6.X<x7.X))||(decide (x8.X<x5.X)))||(decide (x6.Y<x7.Y))) with s|s
        ·refine Zz rfl s (Zz rfl s (Zz rfl s (Zz rfl s (Zz rfl s (Zc (ZcS (w:=(((decide (x6.X<x7.X))||(decide (x8.X<x5.X)))||(decide (x6.Y<x7.Y)))||(decide (x8.Y<x5.Y))) rfl s rfl) (Zo ?_))))));exact ⟨rfl,rfl,aB,aC,aD,aE,aF,aG⟩
        ·refine ZI rfl s (Zc (zz (r:=ac) (o:=0) bi rfl) (ZI rfl s (Zc (ZY (A.box 11 rfl) rfl rfl) (ZI rfl s (Zc (zz (r:=ab) (o:=0) bh rfl) (ZI rfl s (Zc (ZY (A.box 8 rfl) rfl rfl) (ZI rfl s (Zc (Zae rfl rfl) (Zc (ZcT rfl s rfl) (Zo ?_)))))))))));exact ⟨rfl,rfl,aB,aC,aD,aE,aF,aG⟩
       rintro _ _ ⟨rfl,bk,aH,aI,bj,aJ,aK,aL⟩;refine Zb _ bk (Zd (Zk (Zb _ bj (Zc (Zc7 rfl) (Zb (.b (!x4)) rfl (ZaX 3 (fun f k=>aa=k∧f 121=.b ((!x4)&&(!((((decide (x6.X<x7.X))||(decide (x8.X<x5.X)))||(decide (x6.Y<x7.Y)))||(decide (x8.Y<x5.Y)))))∧f 1=v_at_∧f 10=.n k_∧f 6=.p F 0∧f 8=y∧f 9=.n i) ?_ ?_))))))
       ·rcases bc (!x4) with P|P
        ·refine ZI rfl P (Zb (.b ((((decide (x6.X<x7.X))||(decide (x8.X<x5.X)))||(decide (x6.Y<x7.Y)))||(decide (x8.Y<x5.Y)))) rfl (ZI rfl P (Zc (Zc7 rfl) (Zc (Zfb rfl P rfl) (Zo ?_)))));exact ⟨rfl,rfl,aH,aI,aJ,aK,aL⟩
        ·refine Zz rfl P (Zz rfl P (Zc (Zfa (w:=(!x4)&&(!((((decide (x6.X<x7.X))||(decide (x8.X<x5.X)))||(decide (x6.Y<x7.Y)))||(decide (x8.Y<x5.Y))))) rfl P rfl) (Zo ?_)));exact ⟨rfl,rfl,aH,aI,aJ,aK,aL⟩
       rintro _ _ ⟨rfl,bn,bl,bm,bo,bp,bq⟩;refine Zd (zO hp bn (fun aY hp=>?_) (fun aY hp=>?_))
       ·refine Zk (Zb (.b false) rfl (Zd (Zao (ZbJ (zF ?_)))));cases hp;exact ⟨nofun,rfl,rfl,(A.pk [])⟩
       ·refine Zc9 (Zaq (Zw (Zaj (Zb _ bm (ckk hp fun aZ hp=>Zc (zP rfl rfl aZ) (Zb (.n (k_+1)) rfl (Zo ?_)))))));cases hp;exact ⟨rfl,bl,bo,bp,bq,rfl,(A.pk [0,1,2,3,4,5,6,7])⟩
      ·refine ZbM (Zah ?_);cases hp;exact ⟨nofun,rfl,W,D,E,T,(ai.pk [0,1,2,3,4,5,6,7])⟩
     rintro (_|_) hp _ _ _ aN
     ·obtain ⟨rfl,bL,bN,bO,bP,ah⟩:=aN;refine ZaL (Zaq (Zw (Zaj (Zb _ bP (Zc (zP rfl rfl ao) (Zb (.n (i+1)) rfl (Zo ?_)))))));cases hp;exact ⟨rfl,bL,bN,bO,rfl,(ah.pk [0,1,2,3,4,5,6,7])⟩
     ·obtain ⟨rfl,bM,ah⟩:=aN;refine ZbJ (ZbJ (zF ?_));cases hp;exact ⟨nofun,rfl,bM,(ah.pk [])⟩
    ·refine ZbM (Zah ?_);cases hp;exact ⟨nofun,rfl,(af.pk [])⟩
   rintro (_|_) hp _ _ _ aM
   ·obtain ⟨rfl,ae⟩:=aM;refine ZaL (Zw (Zk (Zb (.b true) rfl (Zd (Zao (zt (zS rfl ZN) ?_))))));cases hp;exact ⟨rfl,(ae.pk [])⟩
   ·obtain ⟨rfl,bI,ae⟩:=aM;refine ZbJ (zF (zt (zS bI ZN) ?_));cases hp;exact ⟨rfl,(ae.pk [])⟩

theorem Za4.ok {h:Hp}{arcs:List Zn}{x:List Int}{v_arcs:V}{v_x:V}(s_arcs:Sl Zj h v_arcs arcs) (s_x:Sl Zv h v_x x) {r:Bool}(hp:Za4 arcs x=some r) :
  ∃ u k',Is G 40 [v_arcs,v_x] h u k'∧V.b r=u∧Own (fun r=>r<h.n) h k' []:=by
 refine WC.is (ZaG Ze6 ?_);unfold Za4 at hp;let B:Nat→Prop:=(fun r=>r<h.n);have hO:Own B h h []:=Own.start0 h;refine Zk (Zb (.b false) rfl (Zd (ZJ (Zk (Zb (.n 0) rfl (Zd (Zat (ZbY hp (fun i fr k=>fr 0=v_arcs∧fr 1=v_x∧fr 5=.n i∧Own B h k []) (fun|.inl _,e,fr,k=>e=(.exit 0)∧Own B h k []|.inr _,e,fr,k=>e=.ret∧fr 4=.b false∧Own B h k []) ⟨rfl,rfl,rfl,(hO.pk [])⟩ ?_ ?_))))))))
 ·rintro i _ _ ⟨d,l,f,j⟩ _ hp;dsimp only [Za4.s0] at hp;refine ZJ (Zk (Zb _ f (Zb _ d (Zc (Za9 (j.rd0 s_arcs.rd) rfl) (Zc (Zae rfl rfl) (Zd (zO hp rfl (fun q hp=>?_) (fun q hp=>?_))))))))
  ·refine ZaD (ZJ (Zat (ZJ (ZhJ ?_))));have a:=j.bump 17;refine Za0 _ l (Za0 _ d (Za0 _ f (ckk hp fun c hp=>ZW rfl (ZZ (a.rd0 s_arcs.rd) rfl rfl c) (ZW rfl (ZaV (a.rd0 s_arcs.rd) (Ze c) rfl rfl) (ZW rfl (zK (a.rd0 s_arcs.rd) rfl (Ze c) rfl) (ckk hp fun m hp=>ZW rfl (ZZ (a.rd0 s_x.rd) rfl rfl m) (ZW rfl (zK (a.rd0 s_x.rd) rfl (Ze m) rfl) (Za0 _ l (Za0 _ d (Za0 _ f (ZW rfl (ZZ (a.rd0 s_arcs.rd) rfl rfl c) ?_)))))))))));refine ZW rfl (ZaV (a.rd0 s_arcs.rd) (Ze c) rfl rfl) (ZW rfl (zK (a.rd0 s_arcs.rd) rfl (Ze c) rfl) (ckk hp fun o hp=>ZW rfl (ZZ (a.rd0 s_x.rd) rfl rfl o) (ZW rfl (zK (a.rd0 s_x.rd) rfl (Ze o) rfl) (ZW rfl (Zi2 rfl rfl) (ZaB (Zw (zO hp rfl (fun s hp=>?_) (fun s hp=>?_))))))))
   ·refine Zk (Zb (.b false) rfl (Zd (Zao (ZbJ (zF ?_)))));cases hp;exact ⟨nofun,rfl,rfl,(a.pk [])⟩
   ·refine Zc9 (Zaq (Zw (Zaj (Zb _ f (ckk hp fun t hp=>Zc (zP rfl rfl t) (Zb (.n (i+1)) rfl (Zo ?_)))))));cases hp;exact ⟨rfl,d,l,rfl,(a.pk [])⟩
  ·refine ZbM (Zah ?_);cases hp;exact ⟨nofun,rfl,(j.pk [])⟩
 rintro (_|_) hp _ _ _ p
 ·obtain ⟨rfl,g⟩:=p;refine ZaL (Zw (Zk (Zb (.b true) rfl (Zd (Zao (zt (zS rfl ZN) ?_))))));cases hp;exact ⟨rfl,(g.pk [])⟩
 ·obtain ⟨rfl,v,g⟩:=p;refine ZbJ (zF (zt (zS v ZN) ?_));cases hp;exact ⟨rfl,(g.pk [])⟩

theorem ZR.ok {h:Hp}{z:zU}{steps:List Int}{raw:List Zf}{v_z_At:V}{v_z_Bits:V}{v_z_Own:V}{v_steps:V}{v_raw:V}(s_z_At:Sl Zh0 h v_z_At z.At) (s_z_Bits:Sl Zh0 h v_z_Bits z.Bits) (s_z_Own:Sl Zlt h v_z_Own z.Own) (s_steps:Sl Zh0 h v_steps steps) (s_raw:Sl Zg h v_raw raw) {r:Bool}(hp:ZR z steps raw=some r) :
  ∃ u k',Is G 257 [.ag [v_z_At,v_z_Bits,v_z_Own],v_steps,v_raw] h u k'∧V.b r=u∧Own (fun r=>r<h.n) h k' []:=by
 refine WC.is (ZaG Zdv ?_);unfold ZR at hp;let B:Nat→Prop:=(fun r=>r<h.n);have hO:Own B h h []:=Own.start0 h;refine Zk (z7 (hO.boxd (cs:=[v_z_At,v_z_Bits,v_z_Own]) hO.fr rfl rfl) ?_);rintro _ cv ⟨_,rfl,_,_,al⟩;refine Zb (.b false) rfl (Zd (Zk (Zc (Zbf (al.box 0 rfl) rfl rfl) ?_)));obtain ⟨⟨x,x1⟩,⟨_,cz,bM,A,a,rfl,ck⟩,hp⟩:=bdk hp fun _=>ZP.ok (h:=cv)  (al.rd0 s_z_At.rd) (al.rd0 s_z_Bits.rd) (al.rd0 s_z_Own.rd);refine Zbl rfl rfl bM ?_;have a6:=al.call ck rfl;refine Zb (.tu [A,a]) rfl (Zc (Zbm rfl rfl) (Zc (Zbm rfl rfl) (Zb A rfl (Zb a rfl (Zd (Zk (Zb A rfl ?_)))))));obtain ⟨⟨x2,x3⟩,⟨_,_,bO,D,F,I,N,J,O,K,L,M,rfl,cm⟩,hp⟩:=bdk hp fun _=>z9.ok (h:=cz)  (a6.sl 1 rfl);refine Zbl rfl rfl bO ?_;have a8:=a6.call cm rfl;refine Zb (.tu [.ag [D,F,I,J,K,L,M],.n x3]) rfl (Zc (Zbm rfl rfl) (Zc (Zbm rfl rfl) (z7 (a8.alloc (cs:=[.sn,.sn,.sn,.sn,.sn,.sn,.sn]) a8.fr) ?_)));rintro _ _ ⟨g,rfl,_,_,W⟩;refine z7 (W.stb (cs':=[D,F,I,J,K,L,M]) 12 rfl rfl rfl rfl ⟨rfl,Nat.le_of_ble_eq_true rfl,(all_cons (W.sl 3 rfl).oneV (all_cons (W.sl 4 rfl).oneV (all_cons (W.sl 5 rfl).oneV (all_cons (W.sl 7 rfl).oneV (all_cons (W.sl 9 rfl).oneV (all_cons (W.sl 10 rfl).oneV (all_cons (W.sl 11 rfl).oneV all_nil)))))))⟩ rfl) ?_;rintro _ cC ⟨rfl,_,_,ci⟩;refine Zb (.n x3) rfl (Zd (ZJ (Zk ?_)));obtain ⟨x4,⟨_,aK,bP,rfl,cn⟩,hp⟩:=bdk hp fun _=>Zb4.ok (h:=cC)  ;refine Zbl rfl Zfl bP ?_;have aJ:=ci.call cn rfl;refine Zc (Zc7 rfl) (Zb (.b (!x4)) rfl (ZaX 3 (fun f k=>aK=k∧f 34=.b ((!x4)||(!(decide (x3=0))))∧f 1=v_steps∧f 2=v_raw∧f 7=A∧f 8=a∧f 9=.p g 0) ?_ ?_))
 ·rcases bc (!x4) with aa|aa
  ·refine Zz rfl aa (Zz rfl aa (Zc (ZcS (w:=(!x4)||(!(decide (x3=0)))) rfl aa rfl) (Zo ?_)));exact ⟨rfl,rfl,rfl,rfl,rfl,rfl,rfl⟩
  ·refine ZI rfl aa (Zb (.n x3) rfl (ZI rfl aa (Zc (Zdp rfl rfl) (Zc (ZcT rfl aa rfl) (Zo ?_)))));exact ⟨rfl,rfl,rfl,rfl,rfl,rfl,rfl⟩
 rintro _ _ ⟨rfl,b2,b0,b1,b3,a3,b4⟩;refine Zd (zO hp b2 (fun bv hp=>?_) (fun bv hp=>?_))
 ·refine Zk ?_;obtain ⟨x5,⟨_,_,bQ,rfl,co⟩,hp⟩:=bdk hp fun _=>Zb4.ok (h:=aK)  ;refine Zbl rfl Zfl bQ ?_;have cj:=aJ.call co rfl;refine Zb (.b x5) rfl (Zd (Zao (zF (zt (zS rfl ZN) ?_))));cases hp;exact ⟨rfl,(cj.pk [])⟩
 ·refine ZaD (Zk (Zb _ a3 ?_));obtain ⟨x6,⟨_,_,bR,d,rfl,cp⟩,hp⟩:=bdk hp fun _=>Zb2.ok (h:=aK)  (aJ.sl 2 rfl);refine Zbl rfl rfl bR ?_;have ba:=aJ.call cp rfl;refine Zb d rfl (Zd (ZJ (Zk (Zb d rfl (Zc (Za9 (ba.sl 13 rfl) rfl) (Zb (.n 0) rfl (Zd (Zat (ZbY hp (fun|(wild,x7),fr,k=>fr 1=v_steps∧fr 2=v_raw∧fr 7=A∧fr 8=a∧fr 9=.p g 0∧fr 11=d∧fr 39=.n (x6.length:Int)∧fr 40=.n x7∧Own B h k [eSl Zs A x,eSl Zg a x1,zu g [D,F,I,J,K,L,M],eSl Zv D x2.Graphs.Chains.X,eSl Zv F x2.Graphs.Chains.Y,eSl eV I N,zh Zv N x2.Graphs.Chains.Vert,eSl eV J O,zh Zv O x2.Graphs.Chains.Horz,eSl Zj K x2.Graphs.H,eSl Zj L x2.Graphs.V,eSl ZC M x2.Open,eSl Zg d wild]) (fun wild1 e fr k=>e=(.exit 0)∧fr 1=v_steps∧fr 2=v_raw∧fr 7=A∧fr 8=a∧fr 9=.p g 0∧fr 11=d∧Own B h k [eSl Zs A x,eSl Zg a x1,zu g [D,F,I,J,K,L,M],eSl Zv D x2.Graphs.Chains.X,eSl Zv F x2.Graphs.Chains.Y,eSl eV I N,zh Zv N x2.Graphs.Chains.Vert,eSl eV J O,zh Zv O x2.Graphs.Chains.Horz,eSl Zj K x2.Graphs.H,eSl Zj L x2.Graphs.V,eSl ZC M x2.Open,eSl Zg d wild1]) ⟨b0,b1,b3,a3,b4,rfl,rfl,rfl,(ba.pk [1,2,12,3,4,5,6,7,8,9,10,11,13])⟩ ?_ ?_)))))))))
  ·rintro ⟨wild,x7⟩ _ _ ⟨aN,ai,aP,aQ,aR,au,aO,aA,av⟩ _ hp;dsimp only [ZR.s0] at hp;refine Zk (Zc (Zae aA aO) (Zd (ZJ (zO hp rfl (fun bw hp=>?_) (fun bw hp=>?_)))))
   ·refine ZaD (ZJ (Zat (Zk (Zb _ aA (Zb (.n x7) rfl (Zd (Zk (Zb (.n x7) rfl (Zb _ ai ?_)))))))));refine Zc (Za9 (av.rd0 s_raw.rd) rfl) (Zc (Zae rfl rfl) (Zd (zO hp rfl (fun bx hp=>?_) (fun bx hp=>?_))))
    ·refine ZJ (Zdq ?_);have S:=av.bump 15;refine Za2 _ au (Za2 (.n x7) rfl (ckk hp fun ac hp=>Z6 (ZZ (S.sl 12 rfl) rfl rfl ac) (Z6 (ZaV (S.sl 12 rfl) (Ze ac) rfl rfl) (Z6 (zK (S.sl 12 rfl) rfl (Ze ac) rfl) (Za2 _ ai (Za2 (.n x7) rfl (ckk hp fun ad hp=>Z6 (ZZ (S.rd0 s_raw.rd) rfl rfl ad) (Z6 (ZaV (S.rd0 s_raw.rd) (Ze ad) rfl rfl) (Z6 (zK (S.rd0 s_raw.rd) rfl (Ze ad) rfl) (Z6 (Zev rfl rfl (by decide)) (ckk hp fun bI hp=>?_)))))))))));refine Z6 (zP rfl rfl bI) (Z6 (ZZ (S.sl 12 rfl) rfl rfl ac) (Z6 (ZaV (S.sl 12 rfl) (Ze ac) rfl rfl) (Zcu (S.ste (y:=({ gi wild x7.toNat with X:=((gi wild x7.toNat).X)+(((gi raw x7.toNat).X).tmod 3) })) 12 rfl rfl (Ze ac) rfl rfl ⟨rfl,Nat.le_of_ble_eq_true rfl,rfl⟩ rfl) ?_)));rintro _ aq _ ⟨rfl,_,_,cc⟩;refine Zbt ?_;refine And.intro ?_ ?_
     ·intro q hq;simp only [List.mem_cons,List.not_mem_nil,or_false] at hq;rcases hq with rfl
      ·refine zi ?_ ?_
       ·exact nofun
       ·exact nofun
     refine Zw (Zdq ?_);have T:=cc.bump 15;refine Za2 _ au (Za2 (.n x7) rfl (ckk hp fun ae hp=>Z6 (ZZ (T.sl 12 rfl:Sl Zg (aq.bump 15) d (wild.set x7.toNat ({ gi wild x7.toNat with X:=((gi wild x7.toNat).X)+(((gi raw x7.toNat).X).tmod 3) }))) rfl rfl ae) (Z6 (ZaV (T.sl 12 rfl:Sl Zg (aq.bump 15) d (wild.set x7.toNat ({ gi wild x7.toNat with X:=((gi wild x7.toNat).X)+(((gi raw x7.toNat).X).tmod 3) }))) (Ze ae) rfl rfl) (Z6 (zK (T.sl 12 rfl:Sl Zg (aq.bump 15) d (wild.set x7.toNat ({ gi wild x7.toNat with X:=((gi wild x7.toNat).X)+(((gi raw x7.toNat).X).tmod 3) }))) rfl (Ze ae) rfl) (Za2 _ ai (Za2 (.n x7) rfl (Z6 (ZZ (T.rd0 s_raw.rd) rfl rfl ad) (Z6 (ZaV (T.rd0 s_raw.rd) (Ze ad) rfl rfl) (Z6 (zK (T.rd0 s_raw.rd) rfl (Ze ad) rfl) (Z6 (Zev rfl rfl (by decide)) (ckk hp fun bJ hp=>Z6 (zP rfl rfl bJ) ?_)))))))))));refine Z6 (ZZ (T.sl 12 rfl:Sl Zg (aq.bump 15) d (wild.set x7.toNat ({ gi wild x7.toNat with X:=((gi wild x7.toNat).X)+(((gi raw x7.toNat).X).tmod 3) }))) rfl rfl ae) (Z6 (ZaV (T.sl 12 rfl:Sl Zg (aq.bump 15) d (wild.set x7.toNat ({ gi wild x7.toNat with X:=((gi wild x7.toNat).X)+(((gi raw x7.toNat).X).tmod 3) }))) (Ze ae) rfl rfl) (Zcu (T.ste (y:=({ gi (wild.set x7.toNat ({ gi wild x7.toNat with X:=((gi wild x7.toNat).X)+(((gi raw x7.toNat).X).tmod 3) })) x7.toNat with Y:=((gi (wild.set x7.toNat ({ gi wild x7.toNat with X:=((gi wild x7.toNat).X)+(((gi raw x7.toNat).X).tmod 3) })) x7.toNat).Y)+(((gi raw x7.toNat).Y).tmod 3) })) 12 rfl rfl (Ze ae) rfl rfl ⟨rfl,Nat.le_of_ble_eq_true rfl,rfl⟩ rfl) ?_));rintro _ _ _ ⟨rfl,_,_,cd⟩;refine Zbt ?_;refine And.intro ?_ ?_
     ·intro q hq;simp only [List.mem_cons,List.not_mem_nil,or_false] at hq;rcases hq with rfl
      ·refine zi ?_ ?_
       ·exact nofun
       ·exact nofun
     refine Zaq (Zw (Zaj (ckk hp fun bK hp=>Zc (zP aA rfl bK) (Zb (.n (x7+1)) rfl (Zo ?_)))));cases hp;exact ⟨rfl,aN,ai,aP,aQ,aR,au,aO,rfl,(cd.pk [0,1,2,3,4,5,6,7,8,9,10,11,12])⟩
    ·refine Zc9 (Zaq (Zw (Zaj (ckk hp fun bL hp=>Zc (zP aA rfl bL) (Zb (.n (x7+1)) rfl (Zo ?_))))));cases hp;exact ⟨rfl,aN,ai,aP,aQ,aR,au,aO,rfl,(av.pk [0,1,2,3,4,5,6,7,8,9,10,11,12])⟩
   ·refine ZbM (Zah ?_);cases hp;exact ⟨nofun,rfl,aN,ai,aP,aQ,aR,au,(av.pk [0,1,2,3,4,5,6,7,8,9,10,11,12])⟩
  rintro wild1 hp _ _ aL ⟨rfl,cE,bh,cG,aM,cH,cF,bb⟩;refine ZaL (Zw (ZJ (ZJ (Zdq ?_))));have aH:=bb.bump 13;have bX:=Fresh.start aL 13;have cD:∀ {i:Nat},h.n≤aL.n+i:=Nat.le_trans bb.n (Nat.le_add_right _ _);refine Za2 _ aM (Za2 _ aM (Za2 _ cE ?_));obtain ⟨x8,⟨_,cw,bS,s,rfl,bd⟩,hp⟩:=bdk hp fun _=>zp.ok (h:=(aL.bump 13))  (aH.sl 1 rfl) (aH.rd0 s_steps.rd);refine Ze4 rfl rfl bS ?_;have bY:=bX.call bd;have ab:=aH.call bd rfl;refine Za2 _ cF (Za2 _ bh (Za2 _ bh (Z6 (Za9 (ab.rd0 s_raw.rd) rfl) (Z6 (ZqF rfl rfl) (ckk hp fun af hp=>Z6 (Zke (E:=Zg) (z:=(min (raw.length:Int) 20)) (ab.rd0 s_raw.rd) rfl rfl af) (Zcu (ab.bsl (E:=eV) (l:=[a,s,d,(V.cut v_raw 0 (min (raw.length:Int) 20:Int).toNat)]) ⟨bY.m 10 (by decide) (by decide),cD⟩ (by rw [(Z3 (v:=a) rfl (Z3 (v:=s) rfl (Z3 (v:=d) rfl (Z3 (v:=(V.cut v_raw 0 (min (raw.length:Int) 20:Int).toNat)) rfl zY))))];simp only [fill,(ab.sl 1 rfl).cells,(ab.sl 13 rfl).cells,(ab.sl 12 rfl).cells,(Sl.cutU (ab.rd0 s_raw.rd) af:Sl Zg cw (V.cut v_raw 0 (min (raw.length:Int) 20:Int).toNat) (raw.take (min (raw.length:Int) 20:Int).toNat)).cells];simp [over]) rfl) ?_))))));rintro Q cx _ ⟨_,_,a5⟩;refine Z6 (Zdr (n:=([x1,x8,wild1,raw.take (min (raw.length:Int) 20:Int).toNat]).length) (a5.sl 14 rfl:Sl eV cx Q [a,s,d,(V.cut v_raw 0 (min (raw.length:Int) 20:Int).toNat)]) rfl rfl) (Za2 (.n 0) rfl (Zbt ?_));refine And.intro ?_ ?_
  ·intro q hq;cases hq
  refine Zw (Zat (ZbY hp (fun x9 fr k=>fr 7=A∧fr 8=a∧fr 9=.p g 0∧fr 86=Q∧fr 87=.n ([x1,x8,wild1,raw.take (min (raw.length:Int) 20:Int).toNat].length:Int)∧fr 88=.n x9∧Own B h k [eSl Zs A x,eSl Zg a x1,zu g [D,F,I,J,K,L,M],eSl Zv D x2.Graphs.Chains.X,eSl Zv F x2.Graphs.Chains.Y,eSl eV I N,zh Zv N x2.Graphs.Chains.Vert,eSl eV J O,zh Zv O x2.Graphs.Chains.Horz,eSl Zj K x2.Graphs.H,eSl Zj L x2.Graphs.V,eSl ZC M x2.Open,eSl eV Q [a,s,d,(V.cut v_raw 0 (min (raw.length:Int) 20:Int).toNat)],eSl Zg s x8,eSl Zg d wild1]) (fun|.inl _,e,fr,k=>e=(.exit 2)∧fr 7=A∧fr 8=a∧Own B h k [eSl Zs A x,eSl Zg a x1]|.inr _,e,fr,k=>e=.ret∧fr 6=.b false∧Own B h k []) ⟨cG,aM,cH,rfl,rfl,rfl,(a5.pk [0,1,2,3,4,5,6,7,8,9,10,11,14,13,12])⟩ ?_ ?_))
  ·rintro x9 _ ar ⟨aB,aS,aD,aT,aU,aC,U⟩ _ hp;dsimp only [ZR.s1] at hp;refine Zk (Zc (Zae aC aU) (Zd (ZJ (zO hp rfl (fun bz hp=>?_) (fun bz hp=>?_)))))
   ·refine ZaD (ZJ (Zat (Zk (ckk hp fun ah hp=>Zc (ZZ (U.sl 12 rfl:Sl eV ar Q [a,s,d,(V.cut v_raw 0 (min (raw.length:Int) 20:Int).toNat)]) aT aC ah) (Zc (zK (U.sl 12 rfl:Sl eV ar Q [a,s,d,(V.cut v_raw 0 (min (raw.length:Int) 20:Int).toNat)]) rfl (Ze ah) rfl) (Zb ((gi [a,s,d,(V.cut v_raw 0 (min (raw.length:Int) 20:Int).toNat)] x9.toNat)) rfl (Zd (ZJ (ZJ ?_)))))))));refine Zaj (Zb _ aB (Zb ((gi [a,s,d,(V.cut v_raw 0 (min (raw.length:Int) 20:Int).toNat)] x9.toNat)) rfl ?_));obtain ⟨x10,⟨_,be,bT,rfl,cq⟩,hp⟩:=bdk hp fun _=>zf.ok (h:=ar)  (U.sl 0 rfl) (Lit.at (Lit.cons (U.sl 1 rfl) (Lit.cons (U.sl 13 rfl) (Lit.cons (U.sl 14 rfl) (Lit.cons (Sl.cutU (U.rd0 s_raw.rd) af:Sl Zg ar (V.cut v_raw 0 (min (raw.length:Int) 20:Int).toNat) (raw.take (min (raw.length:Int) 20:Int).toNat)) Lit.nil)))) (Ze ah):Sl Zg ar (gi [a,s,d,(V.cut v_raw 0 (min (raw.length:Int) 20:Int).toNat)] x9.toNat) (gi [x1,x8,wild1,raw.take (min (raw.length:Int) 20:Int).toNat] x9.toNat));refine Zbl rfl rfl bT ?_;have an:=U.call cq rfl;refine Zc (Zc7 rfl) (Zd (zO hp rfl (fun bA hp=>?_) (fun bA hp=>?_)))
    ·refine ZbM (Zah (ZaL (Zw (Zaj (ckk hp fun bD hp=>Zc (zP aC rfl bD) (Zb (.n (x9+1)) rfl (Zo ?_)))))));cases hp;exact ⟨rfl,aB,aS,aD,aT,aU,rfl,(an.pk [0,1,2,3,4,5,6,7,8,9,10,11,12,13,14])⟩
    ·refine ZaD (ZJ (Zdq ?_));have aw:=an.bump 14;have a2:=Fresh.start be 14;have bg:∀ {i:Nat},h.n≤be.n+i:=Nat.le_trans an.n (Nat.le_add_right _ _);refine Z6 (zz (r:=g) (o:=0) aD rfl) (Z6 (zz (r:=g) (o:=0) rfl rfl) (Z6 (zz (r:=g) (o:=0) rfl rfl) (Z6 (ZY (aw.box 2 rfl) rfl rfl) (Z6 (Zdr (n:=(x2.Graphs.Chains.Vert).length) (aw.sl 5 rfl) (aw.allLen 6 rfl:(N).length=(x2.Graphs.Chains.Vert).length) rfl) (ckk hp fun bE hp=>Zcu (aw.mks (E:=Zv) (y:=(0:Int)) (bytes:=8) (z:=(x2.Graphs.Chains.Vert.length:Int)) ⟨a2.m 5 (by decide) (by decide),bg⟩ rfl rfl rfl bE (by decide)) ?_)))));rintro aj _ _ ⟨_,bW,ax⟩;have bZ:=a2.kept bW (by decide);refine Z6 (zz (r:=g) (o:=0) aD rfl) (Z6 (zz (r:=g) (o:=0) rfl rfl) (Z6 (zz (r:=g) (o:=0) rfl rfl) (Z6 (ZY (ax.box 2 rfl) rfl rfl) (Z6 (Zdr (n:=(x2.Graphs.Chains.Horz).length) (ax.sl 7 rfl) (ax.allLen 8 rfl:(O).length=(x2.Graphs.Chains.Horz).length) rfl) (ckk hp fun bF hp=>Zcu (ax.mks (E:=Zv) (y:=(0:Int)) (bytes:=8) (z:=(x2.Graphs.Chains.Horz.length:Int)) ⟨bZ.m 11 (by decide) (by decide),bg⟩ rfl rfl rfl bF (by decide)) ?_)))));rintro ak bf _ ⟨_,_,ao⟩;refine Za2 aj rfl (Za2 ak rfl (Zbt ?_));refine And.intro ?_ ?_
     ·intro q hq;simp only [List.mem_cons,List.not_mem_nil,or_false] at hq;rcases hq with rfl|rfl|rfl|rfl
      ·refine zi ?_ ?_
       ·exact nofun
       ·exact nofun
      ·refine zi ?_ ?_
       ·exact (fun _ hm=>Nat.lt_irrefl _ (Nat.lt_of_lt_of_le (an.ltAt 2 rfl _ (tch (Zbk hm) rfl)) (Nat.le_add_right _ _)))
       ·exact nofun
      ·refine zi ?_ ?_
       ·exact nofun
       ·exact (fun _ hm=>Nat.lt_irrefl _ (Nat.lt_of_lt_of_le (an.ltAt 2 rfl _ (tch (Zbk hm) rfl)) (Nat.le_add_right _ _)))
      ·refine zi ?_ ?_
       ·exact (fun _=>List.not_mem_nil)
       ·exact (fun _=>List.not_mem_nil)
     refine Zw (ZJ (Zk (Zb ((gi [a,s,d,(V.cut v_raw 0 (min (raw.length:Int) 20:Int).toNat)] x9.toNat)) rfl (Zc (Za9 (Lit.at (Lit.cons (ao.sl 1 rfl) (Lit.cons (ao.sl 13 rfl) (Lit.cons (ao.sl 14 rfl) (Lit.cons (Sl.cutU (ao.rd0 s_raw.rd) af:Sl Zg bf (V.cut v_raw 0 (min (raw.length:Int) 20:Int).toNat) (raw.take (min (raw.length:Int) 20:Int).toNat)) Lit.nil)))) (Ze ah):Sl Zg bf (gi [a,s,d,(V.cut v_raw 0 (min (raw.length:Int) 20:Int).toNat)] x9.toNat) (gi [x1,x8,wild1,raw.take (min (raw.length:Int) 20:Int).toNat] x9.toNat)) rfl) (Zb (.n 0) rfl (Zd (Zat (ZbY hp (fun|(x11,y,x12),fr,k=>fr 7=A∧fr 8=a∧fr 9=.p g 0∧fr 15=aj∧fr 16=ak∧fr 86=Q∧fr 87=.n ([x1,x8,wild1,raw.take (min (raw.length:Int) 20:Int).toNat].length:Int)∧fr 88=.n x9∧fr 108=(gi [a,s,d,(V.cut v_raw 0 (min (raw.length:Int) 20:Int).toNat)] x9.toNat)∧fr 109=.n ((gi [x1,x8,wild1,raw.take (min (raw.length:Int) 20:Int).toNat] x9.toNat).length:Int)∧fr 110=.n x12∧Own B h k [eSl Zs A x,eSl Zg a x1,zu g [D,F,I,J,K,L,M],eSl Zv D x2.Graphs.Chains.X,eSl Zv F x2.Graphs.Chains.Y,eSl eV I N,zh Zv N x2.Graphs.Chains.Vert,eSl eV J O,zh Zv O x2.Graphs.Chains.Horz,eSl Zj K x2.Graphs.H,eSl Zj L x2.Graphs.V,eSl ZC M x2.Open,eSl Zv aj x11,eSl Zv ak y,eSl eV Q [a,s,d,(V.cut v_raw 0 (min (raw.length:Int) 20:Int).toNat)],eSl Zg s x8,eSl Zg d wild1]) (fun|(x13,y1),e,fr,k=>e=(.exit 4)∧fr 7=A∧fr 8=a∧fr 9=.p g 0∧fr 15=aj∧fr 16=ak∧fr 86=Q∧fr 87=.n ([x1,x8,wild1,raw.take (min (raw.length:Int) 20:Int).toNat].length:Int)∧fr 88=.n x9∧Own B h k [eSl Zs A x,eSl Zg a x1,zu g [D,F,I,J,K,L,M],eSl Zv D x2.Graphs.Chains.X,eSl Zv F x2.Graphs.Chains.Y,eSl eV I N,zh Zv N x2.Graphs.Chains.Vert,eSl eV J O,zh Zv O x2.Graphs.Chains.Horz,eSl Zj K x2.Graphs.H,eSl Zj L x2.Graphs.V,eSl ZC M x2.Open,eSl Zv aj x13,eSl Zv ak y1,eSl eV Q [a,s,d,(V.cut v_raw 0 (min (raw.length:Int) 20:Int).toNat)],eSl Zg s x8,eSl Zg d wild1]) ⟨aB,aS,aD,rfl,rfl,aT,aU,aC,rfl,rfl,rfl,(ao.pk [0,1,2,3,4,5,6,7,8,9,10,11,15,16,12,13,14])⟩ ?_ ?_))))))))
     ·rintro ⟨x11,y,x12⟩ _ az ⟨bp,bq,aG,aV,aW,br,bs,bt,bn,bo,aF,P⟩ _ hp;dsimp only [ZR.s2] at hp;refine Zk (Zc (Zae aF bo) (Zd (ZJ (zO hp rfl (fun bB hp=>?_) (fun bB hp=>?_)))))
      ·refine ZaD (ZJ (Zat (Zk (Zb _ aF (ckk hp fun aX hp=>Zc (ZZ (Lit.at (Lit.cons (P.sl 1 rfl) (Lit.cons (P.sl 15 rfl) (Lit.cons (P.sl 16 rfl) (Lit.cons (Sl.cutU (P.rd0 s_raw.rd) af:Sl Zg az (V.cut v_raw 0 (min (raw.length:Int) 20:Int).toNat) (raw.take (min (raw.length:Int) 20:Int).toNat)) Lit.nil)))) (Ze ah):Sl Zg az (gi [a,s,d,(V.cut v_raw 0 (min (raw.length:Int) 20:Int).toNat)] x9.toNat) (gi [x1,x8,wild1,raw.take (min (raw.length:Int) 20:Int).toNat] x9.toNat)) bn aF aX) (Zc (ZcM (Lit.at (Lit.cons (P.sl 1 rfl) (Lit.cons (P.sl 15 rfl) (Lit.cons (P.sl 16 rfl) (Lit.cons (Sl.cutU (P.rd0 s_raw.rd) af:Sl Zg az (V.cut v_raw 0 (min (raw.length:Int) 20:Int).toNat) (raw.take (min (raw.length:Int) 20:Int).toNat)) Lit.nil)))) (Ze ah):Sl Zg az (gi [a,s,d,(V.cut v_raw 0 (min (raw.length:Int) 20:Int).toNat)] x9.toNat) (gi [x1,x8,wild1,raw.take (min (raw.length:Int) 20:Int).toNat] x9.toNat)) rfl (Ze aX)) (z7 (P.alloc (cs:=Zg.c (⟨0,0⟩:Zf)) P.fr) ?_)))))));rintro _ _ ⟨bu,rfl,_,_,ce⟩;refine Zb (.n x12) rfl (z7 (ce.stb (cs':=Zg.c (gi (gi [x1,x8,wild1,raw.take (min (raw.length:Int) 20:Int).toNat] x9.toNat) x12.toNat)) 17 rfl rfl rfl rfl ⟨rfl,Nat.le_of_ble_eq_true rfl,rfl⟩ rfl) ?_);rintro _ _ ⟨rfl,_,_,aI⟩;refine Zd (Zdq ?_);have R:=aI.bump 24;refine Za2 _ aV (Z6 (zz (r:=g) (o:=0) aG rfl) (Z6 (zz (r:=g) (o:=0) rfl rfl) (Z6 (zz (r:=g) (o:=0) rfl rfl) (Z6 (ZY (R.box 2 rfl) rfl rfl) (Za2 (.n x12) rfl (ckk hp fun aY hp=>Z6 (ZZ (R.sl 3 rfl) rfl rfl aY) (Z6 (zK (R.sl 3 rfl) rfl (Ze aY) rfl) (Za2 _ aW (Z6 (zz (r:=g) (o:=0) aG rfl) (Z6 (zz (r:=g) (o:=0) rfl rfl) (Z6 (zz (r:=g) (o:=0) rfl rfl) (Z6 (ZY (R.box 2 rfl) rfl rfl) ?_))))))))))));refine Za2 (.n x12) rfl (ckk hp fun aZ hp=>Z6 (ZZ (R.sl 4 rfl) rfl rfl aZ) (Z6 (zK (R.sl 4 rfl) rfl (Ze aZ) rfl) (Z6 (zz (r:=bu) (o:=0) rfl rfl) (Z6 (ZY (R.box 17 rfl) rfl rfl) (Z6 (zz (r:=bu) (o:=0) rfl rfl) (Z6 (ZY (R.box 17 rfl) rfl rfl) (ckk hp fun a0 hp=>Z6 (ZZ (R.sl 12 rfl) rfl rfl a0) (Zcu (R.ste (y:=((gi (gi [x1,x8,wild1,raw.take (min (raw.length:Int) 20:Int).toNat] x9.toNat) x12.toNat).X)) 12 rfl rfl (Ze a0) rfl rfl ⟨rfl,Nat.le_of_ble_eq_true rfl,rfl⟩ rfl) ?_))))))));rintro _ _ _ ⟨rfl,_,_,a7⟩;refine ckk hp fun a1 hp=>Z6 (ZZ (a7.sl 13 rfl) rfl rfl a1) (Zcu (a7.ste (y:=((gi (gi [x1,x8,wild1,raw.take (min (raw.length:Int) 20:Int).toNat] x9.toNat) x12.toNat).Y)) 13 rfl rfl (Ze a1) rfl rfl ⟨rfl,Nat.le_of_ble_eq_true rfl,rfl⟩ rfl) ?_);rintro _ _ _ ⟨rfl,_,_,cf⟩;refine Zbt ?_;refine And.intro ?_ ?_
       ·intro q hq;simp only [List.mem_cons,List.not_mem_nil,or_false] at hq;rcases hq with rfl|rfl|rfl|rfl|rfl|rfl|rfl|rfl|rfl|rfl|rfl|rfl|rfl|rfl
        ·refine zi ?_ ?_
         ·exact nofun
         ·exact nofun
        ·refine zi ?_ ?_
         ·exact nofun
         ·exact nofun
        ·refine zi ?_ ?_
         ·exact nofun
         ·exact nofun
        ·refine zi ?_ ?_
         ·exact nofun
         ·exact nofun
        ·refine zi ?_ ?_
         ·exact nofun
         ·exact nofun
        ·refine zi ?_ ?_
         ·exact nofun
         ·exact nofun
        ·refine zi ?_ ?_
         ·exact nofun
         ·exact nofun
        ·refine zi ?_ ?_
         ·exact nofun
         ·exact nofun
        ·refine zi ?_ ?_
         ·exact nofun
         ·exact nofun
        ·refine zi ?_ ?_
         ·exact nofun
         ·exact nofun
        ·refine zi ?_ ?_
         ·exact nofun
         ·exact nofun
        ·refine zi ?_ ?_
         ·exact nofun
         ·exact nofun
        ·refine zi ?_ ?_
         ·exact nofun
         ·exact nofun
        ·refine Zj7 ?_ ?_ ?_
         ·exact (fun r h1 h2=>aI.apartAt (i:=17) (j:=12) rfl rfl (by decide) r (tch (Zbk h1) rfl) (Zck (tch (ZjX h2) rfl)))
         ·exact nofun
         ·exact (fun _ hm=>Nat.lt_irrefl _ (Nat.lt_of_lt_of_le (aI.ltAt 17 rfl _ (tch (Zbk hm) rfl)) (Nat.le_add_right _ _)))
       refine Zaq (Zw (Zaj (ckk hp fun bG hp=>Zc (zP aF rfl bG) (Zb (.n (x12+1)) rfl (Zo ?_)))));cases hp;exact ⟨rfl,bp,bq,aG,aV,aW,br,bs,bt,bn,bo,rfl,(cf.pk [0,1,2,3,4,5,6,7,8,9,10,11,12,13,14,15,16])⟩
      ·refine ZbM (Zah ?_);cases hp;exact ⟨nofun,rfl,bp,bq,aG,aV,aW,br,bs,bt,(P.pk [0,1,2,3,4,5,6,7,8,9,10,11,12,13,14,15,16])⟩
     rintro ⟨x13,y1⟩ hp _ _ cA ⟨rfl,bi,bj,aE,cL,cM,bk,bl,bm,ay⟩;refine ZaL (Zw (Zk (Zc (zz (r:=g) (o:=0) aE rfl) (Zc (zz (r:=g) (o:=0) rfl rfl) (Zc (ZY (ay.box 2 rfl) rfl rfl) (Zb _ cL ?_))))));obtain ⟨x14,⟨_,cB,bU,rfl,cr⟩,hp⟩:=bdk hp fun _=>Za4.ok (h:=cA)  (ay.sl 9 rfl) (ay.sl 12 rfl);refine Zbl rfl rfl bU ?_;have ap:=ay.call cr rfl;refine Zc (Zc7 rfl) (Zb (.b (!x14)) rfl ?_);obtain ⟨t,cu,hp⟩:=ZaQ hp;refine ZaX 7 (fun f k=>Own B h k [eSl Zs A x,eSl Zg a x1,zu g [D,F,I,J,K,L,M],eSl Zv D x2.Graphs.Chains.X,eSl Zv F x2.Graphs.Chains.Y,eSl eV I N,zh Zv N x2.Graphs.Chains.Vert,eSl eV J O,zh Zv O x2.Graphs.Chains.Horz,eSl Zj K x2.Graphs.H,eSl Zj L x2.Graphs.V,eSl ZC M x2.Open,eSl Zv aj x13,eSl Zv ak y1,eSl eV Q [a,s,d,(V.cut v_raw 0 (min (raw.length:Int) 20:Int).toNat)],eSl Zg s x8,eSl Zg d wild1]∧f 151=.b t∧f 7=A∧f 8=a∧f 86=Q∧f 87=.n ([x1,x8,wild1,raw.take (min (raw.length:Int) 20:Int).toNat].length:Int)∧f 88=.n x9∧f 9=.p g 0) ?_ ?_
     ·clear hp;rcases Zbo cu with ⟨C,hp⟩|⟨C,hp⟩
      ·refine Zz rfl C (Zz rfl C (Zz rfl C (Zz rfl C (Zz rfl C (Zz rfl C (Zc (ZaP (v:=.b t) rfl C (Eq.trans (b:=V.b true) rfl (congrArg V.b (Option.some.inj hp)))) (Zo ?_)))))));exact ⟨ap.pk [0,1,2,3,4,5,6,7,8,9,10,11,12,13,14,15,16],rfl,bi,bj,bk,bl,bm,aE⟩
      ·refine ZI rfl C (Zc (zz (r:=g) (o:=0) aE rfl) (ZI rfl C (Zc (zz (r:=g) (o:=0) rfl rfl) (ZI rfl C (Zc (ZY (ap.box 2 rfl) rfl rfl) (ZI rfl C (Zb _ cM (ZI rfl C ?_))))))));obtain ⟨x15,⟨_,_,bV,rfl,ct⟩,hp⟩:=bdk hp fun _=>Za4.ok (h:=cB)  (ap.sl 10 rfl) (ap.sl 13 rfl);refine Zbl rfl rfl bV ?_;have cg:=ap.call ct rfl;refine ZI rfl C (Zc (Zc7 rfl) (Zc (ZaK (v:=.b t) rfl C (Eq.trans (b:=V.b (!x15)) rfl (congrArg V.b (Option.some.inj hp)))) (Zo ?_)));exact ⟨cg.pk [0,1,2,3,4,5,6,7,8,9,10,11,12,13,14,15,16],rfl,bi,bj,bk,bl,bm,aE⟩
     rintro _ _ ⟨a9,b5,b6,b7,b8,b9,ca,cb⟩;refine Zd (zO hp b5 (fun bC hp=>?_) (fun bC hp=>?_))
     ·refine Zk (Zb (.b false) rfl (Zd (Zao (ZbJ (zF ?_)))));cases hp;exact ⟨nofun,rfl,rfl,(a9.pk [])⟩
     ·refine Zc9 (Zaq (Zw (Zaj (ckk hp fun bH hp=>Zc (zP ca rfl bH) (Zb (.n (x9+1)) rfl (Zo ?_))))));cases hp;exact ⟨rfl,b6,b7,cb,b8,b9,rfl,(a9.pk [0,1,2,3,4,5,6,7,8,9,10,11,14,15,16])⟩
   ·refine ZbM (Zah ?_);cases hp;exact ⟨nofun,rfl,aB,aS,(U.pk [0,1])⟩
  rintro (_|_) hp _ _ cy a4
  ·obtain ⟨rfl,cJ,cK,am⟩:=a4;refine ZaL (Zw (Zk (Zb _ cJ (Zb _ cK ?_))));obtain ⟨x16,⟨_,_,bN,rfl,cl⟩,hp⟩:=bdk hp fun _=>zf.ok (h:=cy)  (am.sl 0 rfl) (am.sl 1 rfl);refine Zbl rfl rfl bN ?_;have ch:=am.call cl rfl;refine Zb (.b x16) rfl (Zd (Zao (zt (zS rfl ZN) ?_)));cases hp;exact ⟨rfl,(ch.pk [])⟩
  ·obtain ⟨rfl,cI,am⟩:=a4;refine ZbJ (zF (zt (zS cI ZN) ?_));cases hp;exact ⟨rfl,(am.pk [])⟩

end Mu
